/-
  Texts of the proof, part 4 of 6: what is used to prove the statement. No condition.
-/
import Derived.Test.YtkagidinekdnoaaGreatDoorHBAgreesQ2
import Derived.Deep.AppendSrc
import Derived.Laws.AppendOwn
import Derived.Defers
namespace Go.Proofs.YtkagidinekdnoaaGreatDoor.AI
open Go.RowKit
set_option maxRecDepth 100000
set_option maxHeartbeats 4000000
set_option linter.unusedVariables false
set_option linter.unusedSimpArgs false
open Act renaming put→LO
open _root_.Array renaming getElem?_eq_some_iff→b9,getElem?_toList→ch,getElem?_eq_getElem→gu,length_toList→gE,getElem?_setIfInBounds_ne→oI,range→wZ,ext'→Jo
open _root_.Bool renaming true→ajp,false→ajq,and_eq_true→aj,false_eq_true→b8,not_eq_true'→dC,or_eq_true→hP,and_self→jM,false_and→mn,true_and→oy
open Builtin renaming zeroCells→km,firstCells→Jn
open Call renaming operands→dP
open Instr renaming findNow→iH,sliceBounds→iX,sliceBound→jG,sliceAt→ox,slice→s5
open _root_.Int renaming ofNat→aJ,toNat→aL,toNat_of_nonneg→E9
open IntKind renaming wrap→nK
open _root_.List renaming length→af,getElem?_eq_getElem→ar,getD_eq_getElem?_getD→au,replicate→ay,mem_singleton→aF,mem_of_getElem?→aS,getElem?_map→aU,getElem?_eq_some_iff→a8,mem_cons→bc,length_append→bg,length_take→bm,getElem?_append_left→bA,getElem?_eq_none→bB,mem_append→bE,length_cons→bH,getElem?_append_right→bJ,length_map→bV,not_mem_nil→bY,getElem?_take→cr,map_append→ct,take_length→cz,mem_cons_of_mem→cA,mem_map→cO,take→db,mem_cons_self→dg,length_replicate→dK,getElem?_of_mem→dW,flatMap_cons→eE,take_of_length_le→eT,range→eU,map_cons→ff,cons_append→fg,all_eq_true→fh,length_eq_zero_iff→fK,getElem?_drop→fZ,mem_of_mem_take→ir,append_assoc→iV,length_nil→je,getElem?_toArray→jA,toArray→jK,map_take→jL,take_append_of_le_length→ka,nil_append→kE,append_nil→kF,length_drop→lA,mem_range→ml,drop_of_length_le→qr,length_set→qW,size_toArray→rF,getElem?_set→rG,mem_flatMap→tw,getElem_mem→tC,drop_append→tD,take_succ_cons→uw,drop_succ_cons→ux,map_map→yk,drop_append_of_le_length→CG,mem_filter→DU,foldl_cons→DV
open _root_.List.cons renaming injEq→gZ
open _root_.Nat renaming eq_of_beq_eq_true→ak,beq→av,testBit→aG,le_of_ble_eq_true→aR,testBit_or→bf,ble_eq_true_of_le→bp,zero_add→bz,le_refl→bF,lt_or_ge→bI,mul_le_mul_right→cf,add_zero→cN,lt_of_lt_of_le→cU,ble→dJ,blt→fd,ne_of_beq_eq_false→gp,succ_mul→gX,min→gY,min_eq_left→qV,add_assoc→qX,beq_refl→tu,zero_or→CE,mul_comm→FL,eq_zero_or_pos→Jm,add_mul→LN
open Oper renaming wp→FK
open _root_.Option renaming some→ajn,none→ajo,bind_some→aA,map_some→bO,isSome_iff_exists→gR,map_eq_some_iff→iU,getD_some→tm
open _root_.Option.some renaming injEq→aa,inj→jd
open _root_.Prod.mk renaming injEq→aw
open Region renaming wanted→gQ
open Result renaming andThen_ok→ci
open Sem renaming run_bind→dI,run→mq,run_pure→nH
open Value.bool renaming injEq→AF
open World renaming shape?→qp,cell?→LL
noncomputable section
section
variable {P:Program} {o:Oper} {e:yf} {h:mP} {nx:Nat} {R:AD}
theorem T6 {α:Type} {l cs:List α} {off sz:Nat} (h:off+sz<=l.length) (he:(l.drop off).take sz=cs):cs.length=sz/\∀ (j:Nat) x,cs[j]? =ajn x->l[off+j]? =ajn x:=by
 subst he;constructor
 ·simp;omega
 ·intro j x I;rw[cr] at I;split at I
  ·rw[fZ] at I;exact I
  ·cases I
theorem vY (f:Nat->Value) (n j:Nat) (v:Value) (h:((eU n).map f)[j]? =ajn v):v=f j/\j<n:=by
 rw[aU] at h;rcases bI j n with hj|hj
 ·rw[List.getElem?_range hj] at h;simp at h;exact⟨h.symm,hj⟩
 ·rw[bB (by simpa using hj)] at h;cases h
def wA (φ:PM) (O:Nat->Prop) (w:World) (c:BC) (f:Nat->Option Value):Prop:=∀ j x,c.get j=ajn x->x.isCell=ajp/\∃ v,f j=ajn v/\cq φ O w x v
theorem T5 {φ:PM} {O:Nat->Prop} {w:World} {c:BC} {off sz:Nat} {ag:Bool} {val:AV} (hs:c.sub? off sz ag=ajn val) {f:Nat->Option Value} (hc:wA φ O w c f):
 ∃ cs:List Value,cs.length=sz/\(∀ (j:Nat) v,cs[j]? =ajn v->f (off+j)=ajn v)/\(ag=ajq->sz=1)/\cq φ O w val (if ag then .agg cs.toArray else cs.getD 0 undef):=by
 cases ag with
 |false=>
  simp only[BC.sub?] at hs;split at hs
  ·obtain⟨h0,v,h1,J⟩:=hc off val hs;exact⟨[v],rfl,λj u hu=>by cases j with|zero=>simp at hu;subst hu;exact h1|succ j=>simp at hu,λ_=>rfl,by simpa using J⟩
  ·cases hs
 |true=>
  have fin:∀ (g:Nat->Option AV),(∀ j,j<sz->∃ x,g j=ajn x/\c.get (off+j)=ajn x)->
   ∃ cs:List Value,cs.length=sz/\(∀ (j:Nat) v,cs[j]? =ajn v->f (off+j)=ajn v)/\∀ (j:Nat) x v,g j=ajn x->cs[j]? =ajn v->cq φ O w x v:=by
   intro g hg;refine ⟨(eU sz).map λj=>(f (off+j)).getD undef,by simp,λj v hv=>?_,λj x v I hv=>?_⟩
   ·obtain⟨rfl,hj⟩:=vY _ _ _ _ hv;obtain⟨x,_,J⟩:=hg j hj;obtain⟨_,v,M,_⟩:=hc _ _ J;rw[M];rfl
   ·obtain⟨rfl,hj⟩:=vY _ _ _ _ hv;obtain⟨Y,h1,J⟩:=hg j hj;rw[I] at h1;cases h1;obtain⟨_,v,M,U⟩:=hc _ _ J;rw[M];exact U
  simp only[BC.sub?] at hs;split at hs
  ·rename_i l;split at hs
   ·rename_i hle;simp only[aa] at hs;subst hs;obtain⟨hl,hg⟩:=T6 (aR hle) (rfl:(l.drop off).take sz=_);obtain⟨cs,h1,J,M⟩:=fin (λj=>(((l.drop off).take sz)[j]?).map AV.f) (λj hj=>by
     have hlt:j<((l.drop off).take sz).length:=by rw[hl];exact hj
     refine ⟨.f ((l.drop off).take sz)[j],by simp only[ar hlt,bO],?_⟩;simp only[BC.get,hg j _ (ar hlt),bO])
    refine ⟨cs,h1,J,(λh=>by cases h),.f (.agg _ _ (by rw[h1,hl]) ?_ ?_)⟩
    ·intro x I;obtain⟨j,hj⟩:=dW I;exact (hc (off+j) (.f x) (by simp only[BC.get,hg j x hj,bO])).1
    ·intro j x v I hv;have:=M j (.f x) v (by simp only[I,bO]) hv;cases this with
     |f h=>exact h
   ·cases hs
  ·rename_i l;split at hs
   ·rename_i hle;simp only[aa] at hs;subst hs;obtain⟨hl,hg⟩:=T6 (aR hle) (rfl:(l.drop off).take sz=_);obtain⟨cs,h1,J,M⟩:=fin (λj=>(((l.drop off).take sz)[j]?)) (λj hj=>by
     have hlt:j<((l.drop off).take sz).length:=by rw[hl];exact hj
     exact⟨_,ar hlt,hg j _ (ar hlt)⟩)
    refine ⟨cs,h1,J,(λh=>by cases h),.agg (by rw[h1,hl]) ?_ ?_⟩
    ·intro x I;obtain⟨j,hj⟩:=dW I;exact (hc (off+j) x (hg j x hj)).1
    ·intro j x v I hv;exact M j x v I hv
   ·cases hs
  ·cases hs
theorem L1 {t:TypeId} {sz:Nat} {ag:Bool} (hs:em P t=ajn sz) (I:Cw P t=ajn ag) (w:World) (b off:Nat) (cs:List Value) (hl:cs.length=sz) (hc:∀ (j:Nat) v,cs[j]? =ajn v->w.cell? ⟨b,off+j,ajo⟩=ajn v) (h1:ag=ajq->sz=1):
 (loadVar t ⟨b,off,ajo⟩).run P w= .ok (if ag then .agg cs.toArray else cs.getD 0 undef) w:=by
 unfold loadVar;simp only[dI,N2 I w,ci];cases ag with
 |true=>
  simp only[if_true,dI,fy hs w,ci];rw[<- hl,run_loadCells_list (P:=P) w ⟨b,off,ajo⟩ cs (λj v hv=>by rw[j8];exact hc j v hv)];rfl
 |false=>
  have h1:=h1 rfl;cases cs with
  |nil=>simp at hl;omega
  |cons v r=>
   have:=hc 0 v rfl;simp only[cN] at this;simp[load,mq,this]
theorem G5 {φ:PM} {O:Nat->Prop} {w:World} {t:TypeId} {sz:Nat} {ag:Bool} (hs:em P t=ajn sz) (I:Cw P t=ajn ag) {c:BC} {b base off:Nat} {val:AV} (hv:c.sub? off sz ag=ajn val)
 (hc:wA φ O w c λj=>w.cell? ⟨b,base+j,ajo⟩):∃ v,(loadVar t ⟨b,base+off,ajo⟩).run P w= .ok v w/\cq φ O w val v:=by
 obtain⟨cs,h1,U,M,J⟩:=T5 hv hc;exact⟨_,L1 hs I w b (base+off) cs h1 (λj v hj=>by rw[qX];exact U j v hj) M,J⟩
theorem Qp {φ:PM} {E:Nat->Prop} {h':HF} {w:World} (hrep:pM φ E h' w) {id k:Nat} {b:vy} (hb:h' id=ajn b) (hk:φ id=ajn k) (hc:b.c.isCells=ajp):wA φ (tot E φ h') w b.c λj=>w.cell? ⟨k,0+j,ajo⟩:=by
 obtain⟨k',h1,_,U⟩:=hrep.at_ id b hb;rw[hk] at h1;cases h1;obtain⟨arr,M,h4,J⟩:=U.cells hc;intro j x I;obtain⟨c1,v,Z,Y⟩:=J j x I;exact⟨c1,v,by simp[LL,M,Z],Y⟩
theorem Tq {φ:PM} {O:Nat->Prop} {w:World} {cells:List FV} {b base:Nat} {us:Nat->Value} (hcl:∀ x∈cells,x.isCell=ajp) (hu:∀ j,j<cells.length->w.cell? ⟨b,base+j,ajo⟩=ajn (us j)) (hr:∀ (j:Nat) x,cells[j]? =ajn x->mj O w x (us j)):
 wA φ O w (.fz cells) λj=>w.cell? ⟨b,base+j,ajo⟩:=by
 intro j y I;simp only[BC.get] at I;cases hc:cells[j]? with
 |none=>rw[hc] at I;cases I
 |some q=>
  rw[hc] at I;simp at I;subst I;have hj:j<cells.length:=(a8.1 hc).1;exact⟨hcl q (aS hc),us j,hu j hj,.f (hr j q hc)⟩
theorem NJ {c:BC} {off sz:Nat} {ag:Bool} {v:AV} (h:c.sub? off sz ag=ajn v):c.isCells=ajp:=by
 cases c with
 |fz=>rfl
 |mx=>rfl
 |mp es=>cases ag<;>simp only[BC.sub?,BC.get] at h<;>(try split at h)<;>cases h
 |it s p=>cases ag<;>simp only[BC.sub?,BC.get] at h<;>(try split at h)<;>cases h
theorem Qy {t:TypeId} {sz:Nat} {ag:Bool} (hs:em P t=ajn sz) (hag:Cw P t=ajn ag) {p:AV} (I:Cv h sz ag p=ajn R):
 R.wr=[]/\R.nw=[]/\R.N=[]/\∀ (φ:PM) (E:Nat->Prop) (h':HF) (w:World) (pv:Value),(∀ i∈R.rd,h' i=h.get i)->pM φ E h' w->cq φ (tot E φ h') w p pv->
  ∃ M v,pv= .pointer (ajn M)/\(loadVar t M).run P w= .ok v w/\cq φ (tot E φ h') w R.val v:=by
 unfold Cv at I;split at I
 ·rename_i id off;split at I
  ·rename_i b hb;split at I
   ·rename_i v hv;simp only[aa] at I;subst I;refine ⟨rfl,rfl,rfl,λφ E h' w pv hrd hrep hr=>?_⟩;have hh:h' id=ajn b:=by rw[hrd id (by simp)];exact hb
    cases hr with
    |@ptr _ _ k hφ=>
     obtain⟨u,h1,J⟩:=G5 hs hag (w:=w) (b:=k) (base:=0) hv (Qp hrep hh hφ (NJ hv));rw[bz] at h1;exact⟨_,u,rfl,h1,J⟩
   ·cases I
  ·cases I
 ·rename_i cells off;split at I
  ·rename_i v hv;rw[cR I];refine ⟨rfl,rfl,rfl,λφ E h' w pv hrd hrep hr=>?_⟩;cases hr with
   |f hr=>
    cases hr with
    |ptr _ _ b base us hO hb hcl hu hr=>
     obtain⟨u,h1,J⟩:=G5 (φ:=φ) (O:=tot E φ h') hs hag (w:=w) (b:=b) (base:=base) hv (Tq hcl hu hr);exact⟨_,u,rfl,h1,J⟩
  ·cases I
 ·cases I
theorem aev {t:TypeId} {x:Operand} {sz:Nat} {ag:Bool} (J:o.op= .load t x) (hs:em P t=ajn sz) (hag:Cw P t=ajn ag) (I:dO (.load sz ag x) e h nx=ajn R):fO P o e.get h.get R.eff:=by
 simp only[dO] at I;split at I
 ·rename_i p Z;obtain⟨h1,Y,U,M⟩:=Qy hs hag I;obtain⟨val,rd,wr,nw,N⟩:=R;simp only at h1 Y U M;subst h1;subst Y;subst U;refine fO.reads λφ E h' w a hrd hp hrep=>?_
  obtain⟨ad,v,h5,h6,h7⟩:=M φ E h' w _ hrd hrep (hp x _ (by rw[J];simp[Op.operands]) Z);refine ⟨v,?_,h7⟩;unfold execOp;rw[J];simp[Instr.loadAt,h5,Instr.sureAddr,h6]
 ·cases I
theorem Uj {φ:PM} {O:Nat->Prop} {w:World} {t:TypeId} {sz:Nat} {ag:Bool} (hs:em P t=ajn sz) (hag:Cw P t=ajn ag) {c:BC} {off:Nat} {val:AV} (hv:c.sub? off sz ag=ajn val) {vs:List Value}
 (hc:wA φ O w c λj=>vs[j]?):∃ v,(part t vs.toArray off).run P w= .ok v w/\cq φ O w val v:=by
 obtain⟨cs,h1,I,M,J⟩:=T5 hv hc;refine ⟨_,?_,J⟩;unfold part;simp only[dI,N2 hag w,ci];cases ag with
 |true=>
  simp only[if_true,dI,fy hs w,ci];have:vs.toArray.extract off (off+sz)=cs.toArray:=by
   apply Jo;simp only[Array.toList_extract,List.extract_eq_take_drop];apply List.ext_getElem?;intro j;rw[show off+sz-off=sz from by omega,cr,fZ];rcases bI j sz with hj|hj
   ·rw[if_pos hj];have:=I j _ (ar (by omega:j<cs.length));rw[this,ar (by omega:j<cs.length)]
   ·rw[if_neg (by omega),bB (by omega)]
  rw[this];rfl
 |false=>
  have U:=M rfl;cases cs with
  |nil=>simp at h1;omega
  |cons v r=>
   have:=I 0 v rfl;simp only[cN] at this;simp[this]
theorem Qq {φ:PM} {O:Nat->Prop} {w:World} {l:List AV} {vs:List Value} (hl:vs.length=l.length) (hcl:∀ x∈l,x.isCell=ajp) (hr:∀ (j:Nat) x v,l[j]? =ajn x->vs[j]? =ajn v->cq φ O w x v):wA φ O w (.mx l) λj=>vs[j]? :=by
 intro j x I;simp only[BC.get] at I;have hj:j<vs.length:=by rw[hl];exact (a8.1 I).1
 exact⟨hcl x (aS I),vs[j],ar hj,hr j x _ I (ar hj)⟩
theorem Nc {φ:PM} {O:Nat->Prop} {w:World} {l:List FV} {vs:List Value} (hl:vs.length=l.length) (hcl:∀ x∈l,x.isCell=ajp) (hr:∀ (j:Nat) x v,l[j]? =ajn x->vs[j]? =ajn v->mj O w x v):wA φ O w (.fz l) λj=>vs[j]? :=by
 intro j x I;simp only[BC.get] at I;cases hc:l[j]? with
 |none=>rw[hc] at I;cases I
 |some q=>
  rw[hc] at I;simp at I;subst I;have hj:j<vs.length:=by rw[hl];exact (a8.1 hc).1
  exact⟨hcl q (aS hc),vs[j],ar hj,.f (hr j q _ hc (ar hj))⟩
theorem I3 {φ:PM} {O:Nat->Prop} {w:World} {t:TypeId} {sz:Nat} {ag:Bool} (hs:em P t=ajn sz) (hag:Cw P t=ajn ag) {x:AV} {z:Value} (hr:cq φ O w x z) {off:Nat} {val:AV}
 (hv:(∃ l,x= .agg l/\(BC.mx l).sub? off sz ag=ajn val)\/(∃ l,x= .f (.agg l)/\(BC.fz l).sub? off sz ag=ajn val)):∃ cs v,z= .agg cs/\(part t cs off).run P w= .ok v w/\cq φ O w val v:=by
 rcases hv with ⟨l,rfl,hv⟩|⟨l,rfl,hv⟩
 ·cases hr with
  |agg hl hcl hr=>
   obtain⟨v,h1,I⟩:=Uj hs hag hv (Qq hl hcl hr);exact⟨_,v,rfl,h1,I⟩
 ·cases hr with
  |f hr=>
   cases hr with
   |agg _ vs hl hcl hr=>
    obtain⟨v,h1,I⟩:=Uj (φ:=φ) hs hag hv (Nc hl hcl hr);exact⟨_,v,rfl,h1,I⟩
theorem ai0 {s:TypeId} {fs:Array Field} {k:Nat} {f:Field} {sz:Nat} {ag:Bool} {x:Operand} (M:o.op= .field s x k) (hu:P.underlying s=ajn (.struct fs)) (hf:fs[k]? =ajn f) (hs:em P f.type=ajn sz) (hag:Cw P f.type=ajn ag) (I:dO (.fld f.offset sz ag x) e h nx=ajn R):fO P o e.get h.get R.eff:=by
 have fin:∀ (y:AV) (val:AV),lB e x=ajn y->((∃ l,y= .agg l/\(BC.mx l).sub? f.offset sz ag=ajn val)\/(∃ l,y= .f (.agg l)/\(BC.fz l).sub? f.offset sz ag=ajn val))->rv val=ajn R->fO P o e.get h.get R.eff:=by
  intro y val J hv U;rw[cR U];refine fO.reads λφ E h' w a _ hp _=>?_
  obtain⟨cs,v,h1,Z,Y⟩:=I3 hs hag (hp x _ (by rw[M];simp[Op.operands]) J) hv;refine ⟨v,?_,Y⟩;unfold execOp;rw[M];simp[Instr.field,run_underlying hu,hf,h1,asAgg,Z]
 simp only[dO] at I;split at I
 ·rename_i l J;split at I
  ·rename_i v hv;exact fin _ v J (.inl ⟨l,rfl,hv⟩) I
  ·cases I
 ·rename_i l J;split at I
  ·rename_i v hv;exact fin _ v J (.inr ⟨l,rfl,hv⟩) I
  ·cases I
 ·cases I
theorem ahy {t el:TypeId} {n sz:Nat} {ag:Bool} {x y:Operand} (J:o.op= .index t x y) (hu:P.underlying t=ajn (.array n el)) (hs:em P el=ajn sz) (hag:Cw P el=ajn ag) (I:dO (.idx n sz ag x y) e h nx=ajn R):fO P o e.get h.get R.eff:=by
 simp only[dO] at I;split at I
 ·rename_i v0 k j U M;split at I
  ·rename_i hc;simp only[cD,eX,aj,decide_eq_true_eq] at hc;obtain⟨h0,h1⟩:=hc;have fin:∀ (val:AV),((∃ l,v0= .agg l/\(BC.mx l).sub? (j.toNat*sz) sz ag=ajn val)\/(∃ l,v0= .f (.agg l)/\(BC.fz l).sub? (j.toNat*sz) sz ag=ajn val))->rv val=ajn R->fO P o e.get h.get R.eff:=by
    intro val hv Y;rw[cR Y];refine fO.reads λφ E h' w a _ hp _=>?_
    have hyv:=ep (hp y _ (by rw[J];simp[Op.operands]) M);obtain⟨cs,v,h3,h4,h5⟩:=I3 hs hag (hp x _ (by rw[J];simp[Op.operands]) U) hv;refine ⟨v,?_,h5⟩;have Z:=fy hs w;unfold execOp;rw[J];simp[Instr.index,run_underlying hu,hyv,asIntOf,h3,h0,h1,Z,h4]
   split at I
   ·rename_i l;split at I
    ·rename_i v hv;exact fin v (.inl ⟨l,rfl,hv⟩) I
    ·cases I
   ·rename_i l;split at I
    ·rename_i v hv;exact fin v (.inr ⟨l,rfl,hv⟩) I
    ·cases I
   ·cases I
  ·cases I
 ·cases I
theorem aey {t el:TypeId} {x:Operand} (M:o.op= .call {callee:=.builtin .len,args:=#[x],argTypes:=#[t]}) (hu:P.underlying t=ajn (.slice el)) (I:dO (.len x) e h nx=ajn R):fO P o e.get h.get R.eff:=by
 simp only[dO] at I;split at I
 ·rename_i y U;split at I
  ·rename_i n hn;rw[cR I];refine fO.reads λφ E h' w a _ hp _=>?_
   have hr:=hp x _ (by rw[M];simp[Op.operands,dP]) U;refine ⟨_,?_,.f (.raw _)⟩;have J:∃ A c,a.eval x= .slice A n c:=by
    generalize a.eval x=z at hr;unfold AV.slen at hn;split at hn<;>try (simp only[aa] at hn;subst hn)
    ·cases hr with
     |f hr=>cases hr with
      |nil=>exact⟨_,_,rfl⟩
      |sl=>exact⟨_,_,rfl⟩
    ·cases ep hr;exact⟨_,_,rfl⟩
    ·cases hr;exact⟨_,_,rfl⟩
    ·cases hr;exact⟨_,_,rfl⟩
    ·cases hr;exact⟨_,_,rfl⟩
    ·cases hn
   obtain⟨A,c,J⟩:=J;unfold execOp;rw[M];simp[resolve,invoke,builtin,Builtin.len_,run_underlying hu,J,goInt]
  ·cases I
 ·cases I
theorem aex {t:TypeId} {x:Operand} (J:o.op= .call {callee:=.builtin .len,args:=#[x],argTypes:=#[t]}) (hu:P.underlying t=ajn .string) (I:dO (.lens x) e h nx=ajn R):fO P o e.get h.get R.eff:=by
 simp only[dO] at I;split at I
 ·rename_i s M;rw[cR I];refine fO.reads λφ E h' w a _ hp _=>?_
  have hr:=ep (hp x _ (by rw[J];simp[Op.operands,dP]) M);refine ⟨_,?_,.f (.raw _)⟩;unfold execOp;rw[J];simp[resolve,invoke,builtin,Builtin.len_,run_underlying hu,hr,goInt]
 ·cases I
theorem aew {t k v:TypeId} {x:Operand} (J:o.op= .call {callee:=.builtin .len,args:=#[x],argTypes:=#[t]}) (hu:P.underlying t=ajn (.map k v)) (I:dO (.lenm x) e h nx=ajn R):fO P o e.get h.get R.eff:=by
 simp only[dO] at I;split at I
 ·rename_i id U;split at I
  ·rename_i ty es hid;simp only[aa] at I;subst I;refine fO.reads λφ E h' w a hrd hp hrep=>?_
   have hr:=hp x _ (by rw[J];simp[Op.operands,dP]) U;have hh:h' id=ajn ⟨ty,.mp es⟩:=by rw[hrd id (by simp)];exact hid
   generalize M:a.eval x=z at hr;cases hr with
   |@mp _ b hφ=>
    obtain⟨b',h1,_,ob,h2,h3⟩:=hrep.at_ id _ hh;rw[hφ] at h1;cases h1;obtain⟨ents,clock,rfl,Z,_⟩:=h3;have Y:ents.size=es.length:=by have:=congrArg af Z;simpa using this
    refine ⟨_,?_,.f (.raw _)⟩;unfold execOp;rw[J];simp[resolve,invoke,builtin,Builtin.len_,run_underlying hu,M,goInt,getObj,mq,h2,Y]
  ·cases I
 ·cases I
end
structure DL (w w':World) (k:Nat) (ob:Obj):Prop where
 os:w'.os=w.os
 tape:w'.tape=w.tape
 output:w'.output=w.output
 size:w'.heap.size=w.heap.size
 at_:w'.heap[k]? =ajn ob
 other:∀ j,j≠k->w'.heap[j]? =w.heap[j]?
 shp:∀ j,w'.shape? j=w.shape? j
structure QH (w w':World) (ob:Obj):Prop where
 os:w'.os=w.os
 tape:w'.tape=w.tape
 output:w'.output=w.output
 size:w'.heap.size=w.heap.size+1
 at_:w'.heap[w.heap.size]? =ajn ob
 other:∀ j,j<w.heap.size->w'.heap[j]? =w.heap[j]?
theorem pM.wset {φ:PM} {E:Nat->Prop} {h:HF} {w w':World} (r:pM φ E h w) {id k:Nat} {b b':vy} {ob:Obj} (hb:h id=ajn b) (hk:φ id=ajn k) (J:DL w w' k ob) (hob:iE φ (tot E φ h) w b' ob) (nw:HF) (hnw:nw id=ajn b'):
 ie φ φ h (dQ h [id] nw) w w'/\pM φ E (dQ h [id] nw) w':=by
 have hdom:∀ i,(∃ x,dQ h [id] nw i=ajn x)↔∃ x,h i=ajn x:=λi=>by
  unfold dQ;by_cases hi:i=id
  ·subst hi;simp[hnw,hb]
  ·simp[hi]
 have hown:∀ j,own φ (dQ h [id] nw) j↔own φ h j:=λj=>by
  constructor
  ·rintro⟨i,x,h1,I⟩;obtain⟨y,Y⟩:=(hdom i).1 ⟨x,h1⟩;exact⟨i,y,Y,I⟩
  ·rintro⟨i,x,h1,I⟩;obtain⟨y,Y⟩:=(hdom i).2 ⟨x,h1⟩;exact⟨i,y,Y,I⟩
 have m:ie φ φ h (dQ h [id] nw) w w':=by
  refine ⟨λ_ _ h=>h,⟨J.os,J.tape,J.output,by rw[J.size];exact bF _,λj hj ho=>?_,λj _=>J.shp j⟩,λj _ h=>(hown j).1 h⟩;exact J.other j (λe=>ho (e▸⟨id,b,hb,hk⟩))
 refine ⟨m,⟨λi j x y kk hi hj h1 I=>?_,λi x hi=>?_,λk hk=>cU (r.el k hk) m.ext.size,λg cells hg=>m.keepF (r.gl g cells hg)⟩⟩
 ·obtain⟨x',Z⟩:=(hdom i).1 ⟨x,hi⟩;obtain⟨y',U⟩:=(hdom j).1 ⟨y,hj⟩;exact r.inj i j x' y' kk Z U h1 I
 ·by_cases hid:i=id
  ·subst hid;have:x=b':=by unfold dQ at hi;simp[hnw] at hi;exact hi.symm
   subst this;obtain⟨M,h1,I,_⟩:=r.at_ i b hb;rw[hk] at h1;cases h1;exact⟨k,hk,I,ob,J.at_,hob.mono λ_ _ h=>m.keep h⟩
  ·have hx:h i=ajn x:=by unfold dQ at hi;simpa[hid] using hi
   obtain⟨M,h1,I,ob',h3,h4⟩:=r.at_ i x hx;have hne:M≠k:=λe=>hid (r.inj i id x b k hx hb (e▸h1) hk)
   exact⟨M,h1,I,ob',by rw[J.other M hne];exact h3,h4.mono λ_ _ h=>m.keep h⟩
theorem pM.wnew {φ:PM} {E:Nat->Prop} {h:HF} {w w':World} (r:pM φ E h w) {id:Nat} (hid:φ id=ajo) {b:vy} {ob:Obj} (U:QH w w' ob) (hob:iE φ (tot E φ h) w b ob) (del:List Nat) (nw:HF) (hnw:nw id=ajn b) (hdel:∀ i∈del,i≠id->nw i=ajo):
 ∃ φ',φ' id=ajn w.heap.size/\ie φ φ' h (dQ h (id::del) nw) w w'/\(∀ i k,φ' i=ajn k->φ i=ajn k\/i∈[id])/\pM φ' E (dQ h (id::del) nw) w':=by
 have hsub:∀ i x,dQ h (id::del) nw i=ajn x->i≠id->h i=ajn x/\i∉del:=λi x Y hi=>by
  unfold dQ at Y;by_cases hd:i∈del
  ·rw[if_pos (by simp[hd]),hdel i hd hi] at Y;cases Y
  ·rw[if_neg (by simp[hi,hd])] at Y;exact⟨Y,hd⟩
 have hlt:∀ i x k,h i=ajn x->φ i=ajn k->k<w.heap.size:=λi x k hi hk=>by
  obtain⟨k',h1,_,ob',Z,_⟩:=r.at_ i x hi;rw[hk] at h1;cases h1;exact (b9.1 Z).1
 have hφ:∀ i,i≠id->(if i=id then ajn w.heap.size else φ i)=φ i:=λi hi=>by simp[hi]
 have m:ie φ (λi=>if i=id then ajn w.heap.size else φ i) h (dQ h (id::del) nw) w w':=by
  refine ⟨λi k hk=>?_,⟨U.os,U.tape,U.output,by rw[U.size];omega,λj hj _=>U.other j hj,λj hj=>?_⟩,?_⟩
  ·have:i≠id:=λe=>by rw[e,hid] at hk;cases hk
   rw[hφ i this];exact hk
  ·unfold qp;rw[U.other j hj]
  ·rintro j hj ⟨i,x,h1,M⟩;by_cases hi:i=id
   ·simp[hi] at M;omega
   ·have Z:φ i=ajn j:=by simpa[hi] using M
    exact⟨i,x,(hsub i x h1 hi).1,Z⟩
 refine ⟨_,by simp,m,λi k hk=>?_,⟨λi j x y k hi hj h1 M=>?_,λi x hi=>?_,λk hk=>cU (r.el k hk) m.ext.size,λg cells hg=>m.keepF (r.gl g cells hg)⟩⟩
 ·by_cases hi:i=id
  ·right;simp[hi]
  ·left;rw[hφ i hi] at hk;exact hk
 ·by_cases I:i=id
  ·by_cases J:j=id
   ·rw[I,J]
   ·exfalso;rw[hφ j J] at M;have:=hlt j y k (hsub j y hj J).1 M;simp[I] at h1;omega
  ·rw[hφ i I] at h1;have hix:=(hsub i x hi I).1;by_cases J:j=id
   ·exfalso;have:=hlt i x k hix h1;simp[J] at M;omega
   ·rw[hφ j J] at M;exact r.inj i j x y k hix (hsub j y hj J).1 h1 M
 ·by_cases I:i=id
  ·subst I;have:x=b:=by unfold dQ at hi;simp[hnw] at hi;exact hi.symm
   subst this;refine ⟨w.heap.size,by simp,λhe=>?_,ob,U.at_,hob.mono λ_ _ h=>m.keep h⟩;have:=r.el _ he;omega
  ·obtain⟨k,h1,M,ob',Z,h4⟩:=r.at_ i x (hsub i x hi I).1;refine ⟨k,by rw[hφ i I];exact h1,M,ob',?_,h4.mono λ_ _ h=>m.keep h⟩;rw[U.other k (hlt i x k (hsub i x hi I).1 h1)];exact Z
theorem pO (w:World) (ob:Obj):QH w {w with heap:=w.heap.push ob} ob:=by
 refine ⟨rfl,rfl,rfl,by simp,by simp,λj hj=>?_⟩;rw[Array.getElem?_push,if_neg (by omega)]
theorem QH.drawn {w w':World} {ob:Obj} (d:Nat) (h:QH {w with drawn:=d} w' ob):QH w w' ob:=⟨h.os,h.tape,h.output,h.size,h.at_,h.other⟩
theorem fO.makes {P:Program} {o:Oper} {e:yf} {h:HF} {rd:List Nat} {nx:Nat} {b:vy} {val:AV}
 (hv:∀ (φ:PM) (E:Nat->Prop) (h':HF) (w:World) (a:Act),(∀ i∈rd,h' i=h i)->TQ φ E h' w a e o->pM φ E h' w->
   ∃ v w' ob,(execOp a.eval o).run P w= .ok (.value v) w'/\QH w w' ob/\iE φ (tot E φ h') w b ob/\∀ φ' O,φ' nx=ajn w.heap.size->cq φ' O w' val v):
 fO P o e.get h ⟨val,rd,[nx],il [(nx,b)],[nx]⟩:=by
 intro φ E h' w a h1 h2 Z I Y;obtain⟨v,w',ob,hrun,U,hob,hval⟩:=hv φ E h' w a h1 (λx y M J=>rQ I Z M J) I;obtain⟨φ',g1,g2,g3,g4⟩:=I.wnew (id:=nx) (Y nx (by simp)) U hob [] (il [(nx,b)]) (by simp[il]) (by simp);unfold FK;rw[hrun];exact⟨v,φ',rfl,g2,g3,g4,hval φ' _ g1⟩
theorem fO.writes {P:Program} {o:Oper} {e:yf} {h:HF} {rd:List Nat} {id:Nat} {b b':vy} {val:AV} (hb:h id=ajn b)
 (hv:∀ (φ:PM) (E:Nat->Prop) (h':HF) (w:World) (a:Act),(∀ i∈rd,h' i=h i)->h' id=ajn b->TQ φ E h' w a e o->pM φ E h' w->
   ∃ r w' k ob,(execOp a.eval o).run P w= .ok r w'/\φ id=ajn k/\DL w w' k ob/\iE φ (tot E φ h') w b' ob/\(∃ v,(r= .value v\/r= .skip/\v=undef)/\cq φ (tot E φ (dQ h' [id] (il [(id,b')]))) w' val v)):
 fO P o e.get h ⟨val,rd,[id],il [(id,b')],[]⟩:=by
 intro φ E h' w a h1 J h3 I h5;obtain⟨r,w',k,ob,hrun,hk,hw,hob,v,hr,hval⟩:=hv φ E h' w a h1 (by rw[J id (by simp)];exact hb) (λx y Z Y=>rQ I h3 Z Y) I;obtain⟨U,M⟩:=I.wset (id:=id) (by rw[J id (by simp)];exact hb) hk hw hob (il [(id,b')]) (by simp[il]);unfold FK;rw[hrun];rcases hr with rfl|⟨rfl,rfl⟩
 ·exact⟨v,φ,rfl,U,λ_ _ h=>.inl h,M,hval⟩
 ·exact⟨undef,φ,rfl,U,λ_ _ h=>.inl h,M,hval⟩
theorem kB {l:List AV} (h:fJ l=ajp):∀ x∈l,x.isCell=ajp:=by
 induction l with
 |nil=>intro x I;cases I
 |cons y l J=>
  simp only[fJ,aj] at h;intro x I;rcases bc.1 I with rfl|I
  ·exact h.1
  ·exact J h.2 x I
theorem oG:∀ {l:List AV} {fs:List FV},wy l=ajn fs->l=fs.map .f
 |[],fs,h=>by simp only[wy,aa] at h;subst h;rfl
 |.f x::r,fs,h=>by
  simp only[wy] at h;split at h
  ·rename_i l hl;simp only[aa] at h;subst h;rw[oG hl];rfl
  ·cases h
 |.ptr _ _::_,_,h=>by simp[wy] at h
 |.sl _ _ _::_,_,h=>by simp[wy] at h
 |.row _ _ _::_,_,h=>by simp[wy] at h
 |.mp _::_,_,h=>by simp[wy] at h
 |.emp::_,_,h=>by simp[wy] at h
 |.agg _::_,_,h=>by simp[wy] at h
 |.tup _::_,_,h=>by simp[wy] at h
 |.clo _ _::_,_,h=>by simp[wy] at h
def Cs (φ:PM) (O:Nat->Prop) (w:World) (l:List AV) (vs:List Value):Prop:=vs.length=l.length/\(∀ x∈l,x.isCell=ajp)/\∀ (j:Nat) x v,l[j]? =ajn x->vs[j]? =ajn v->cq φ O w x v
theorem BC.get_toMx {c:BC} (hc:c.isCells=ajp) (j:Nat):c.get j=c.toMx[j]? :=by
 cases c with
 |fz l=>simp[BC.get,BC.toMx]
 |mx l=>rfl
 |mp _=>cases hc
 |it _ _=>cases hc
theorem BC.len_toMx {c:BC} (hc:c.isCells=ajp):c.len=c.toMx.length:=by
 cases c with
 |fz l=>simp[BC.len,BC.toMx]
 |mx l=>rfl
 |mp _=>cases hc
 |it _ _=>cases hc
theorem mE (l:List AV):(oo l).toMx=l/\(oo l).isCells=ajp:=by
 unfold oo;cases h:wy l with
 |none=>exact⟨rfl,rfl⟩
 |some fs=>exact⟨(oG h).symm,rfl⟩
theorem oV {φ:PM} {O:Nat->Prop} {w:World} {ty:TypeId} {c:BC} (hc:c.isCells=ajp) {arr:Array Value} (hl:c.toMx.length<=arr.size)
 (h:∀ (j:Nat) x,c.toMx[j]? =ajn x->x.isCell=ajp/\∃ v,arr[j]? =ajn v/\cq φ O w x v):iE φ O w ⟨ty,c⟩ (.cells arr ty (0,0)):=by
 have I:t7 φ O w c arr:=⟨by rw[BC.len_toMx hc];exact hl,λj x J=>h j x (by rw[<- BC.get_toMx hc];exact J)⟩
 unfold iE;cases hb:c with
 |fz l=>rw[hb] at I;exact⟨arr,rfl,I⟩
 |mx l=>rw[hb] at I;exact⟨arr,rfl,I⟩
 |mp _=>rw[hb] at hc;cases hc
 |it _ _=>rw[hb] at hc;cases hc
theorem GJ {φ:PM} {O:Nat->Prop} {w:World} {ty:TypeId} {l:List AV} {vs:List Value} (h:Cs φ O w l vs):iE φ O w ⟨ty,oo l⟩ (.cells vs.toArray ty (0,0)):=by
 obtain⟨h1,J⟩:=mE l;refine oV J (by rw[h1];simp[h.1]) λj x I=>?_
 rw[h1] at I;have hj:j<vs.length:=by rw[h.1];exact (a8.1 I).1
 exact⟨h.2.1 x (aS I),vs[j],by simp[hj],h.2.2 j x _ I (ar hj)⟩
theorem Sr {φ:PM} {O:Nat->Prop} {w:World} {x:AV} {v:Value} (h:cq φ O w x v) (hc:fJ x.cs=ajp):Cs φ O w x.cs v.cells.toList:=by
 have one:x.cs=[x]->v.cells=#[v]->Cs φ O w x.cs v.cells.toList:=λh1 J=>by
  rw[h1] at hc ⊢;rw[J];exact⟨rfl,kB hc,λj y u I hu=>by cases j with|zero=>simp at I hu;subst I;subst hu;exact h|succ j=>simp at I⟩
 cases h with
 |ptr h=>exact one rfl rfl
 |sl h _ _=>exact one rfl rfl
 |row h _ _ _=>exact one rfl rfl
 |emp=>exact one rfl rfl
 |anyb=>exact one rfl rfl
 |mp h=>exact one rfl rfl
 |clo _ _=>exact one rfl rfl
 |tup _ _=>exact absurd hc (by simp[AV.cs,fJ,AV.isCell])
 |@agg l vs hl hcl hr=>exact⟨hl,hcl,hr⟩
 |@f y u hf=>
  cases hf with
  |raw v=>
   have hv:v.oneCell'=ajp:=by
    have:(AV.f (.raw v)).cs=[.f (.raw v)]:=rfl;rw[this] at hc;simpa[fJ,AV.isCell,FV.isCell] using hc
   refine one rfl ?_;cases v<;>first|rfl|simp[Value.oneCell'] at hv
  |nil=>exact one rfl rfl
  |sl=>exact one rfl rfl
  |ptr=>exact one rfl rfl
  |agg l vs hl hcl hr=>
   refine ⟨by simp[AV.cs,Value.cells,hl],kB hc,λj y u I hu=>?_⟩;simp only[AV.cs,aU] at I;cases hq:l[j]? with
   |none=>rw[hq] at I;cases I
   |some q=>rw[hq] at I;simp at I;subst I;exact .f (hr j q u hq (by simpa[Value.cells] using hu))
theorem mj.one {O:Nat->Prop} {w:World} {x:FV} {v:Value} (h:mj O w x v) (hc:x.isCell=ajp):v.oneCell'=ajp:=by
 cases h with
 |raw v=>exact hc
 |nil=>rfl
 |sl=>rfl
 |ptr=>rfl
 |agg=>cases hc
theorem cq.one {φ:PM} {O:Nat->Prop} {w:World} {x:AV} {v:Value} (h:cq φ O w x v) (hc:x.isCell=ajp):v.oneCell'=ajp:=by
 cases h with
 |f h=>exact h.one hc
 |ptr=>rfl
 |sl=>rfl
 |row=>rfl
 |emp=>rfl
 |anyb=>rfl
 |mp=>rfl
 |agg=>cases hc
 |tup=>cases hc
 |clo=>rfl
theorem Cs.one {φ:PM} {O:Nat->Prop} {w:World} {l:List AV} {vs:List Value} (h:Cs φ O w l vs):∀ v∈vs,v.oneCell'=ajp:=by
 intro v hv;obtain⟨j,hj⟩:=dW hv;have hlt:j<l.length:=by rw[<- h.1];exact (a8.1 hj).1
 exact (h.2.2 j _ v (ar hlt) hj).one (h.2.1 _ (tC hlt))
theorem Cs.append {φ:PM} {O:Nat->Prop} {w:World} {l J:List AV} {vs vs':List Value} (h:Cs φ O w l vs) (h':Cs φ O w J vs'):Cs φ O w (l++J) (vs++vs'):=by
 refine ⟨by simp[h.1,h'.1],λx I=>(bE.1 I).elim (h.2.1 x) (h'.2.1 x),λj x v I hv=>?_⟩;rcases bI j l.length with hj|hj
 ·rw[bA hj] at I;rw[bA (by rw[h.1];exact hj)] at hv;exact h.2.2 j x v I hv
 ·rw[bJ hj] at I;rw[bJ (by rw[h.1];exact hj),h.1] at hv;exact h'.2.2 _ x v I hv
theorem Cs.take {φ:PM} {O:Nat->Prop} {w:World} {l:List AV} {vs:List Value} (h:Cs φ O w l vs) (n:Nat):Cs φ O w (l.take n) (vs.take n):=by
 refine ⟨by simp[h.1],λx I=>h.2.1 x (ir I),λj x v I hv=>?_⟩;rw[cr] at I hv;split at I
 ·rename_i hj;rw[if_pos hj] at hv;exact h.2.2 j x v I hv
 ·cases I
theorem Cs.drop {φ:PM} {O:Nat->Prop} {w:World} {l:List AV} {vs:List Value} (h:Cs φ O w l vs) (n:Nat):Cs φ O w (l.drop n) (vs.drop n):=by
 refine ⟨by simp[h.1],λx I=>h.2.1 x (List.mem_of_mem_drop I),λj x v I hv=>?_⟩;rw[fZ] at I hv;exact h.2.2 _ x v I hv
theorem Cs.splice {φ:PM} {O:Nat->Prop} {w:World} {l I:List AV} {vs vs':List Value} (h:Cs φ O w l vs) (h':Cs φ O w I vs') (off:Nat):Cs φ O w (splice l off I) (splice vs off vs'):=by
 unfold AI.splice;rw[h'.1];exact ((h.take off).append h').append (h.drop _)
theorem Cs.raws {φ:PM} {O:Nat->Prop} {w:World} (z:List Value) (J:lz z=ajp):Cs φ O w (z.map raw) z:=by
 refine ⟨by simp,λx I=>?_,λj x v I hv=>?_⟩
 ·obtain⟨v,hv,rfl⟩:=cO.1 I;exact fh.1 J v hv
 ·rw[aU] at I;rw[hv] at I;simp at I;subst I;exact .f (.raw v)
theorem Cs.mono {φ φ':PM} {O O':Nat->Prop} {w w':World} {l:List AV} {vs:List Value} (h:Cs φ O w l vs) (hk:∀ x v,cq φ O w x v->cq φ' O' w' x v):Cs φ' O' w' l vs:=⟨h.1,h.2.1,λj x v I hv=>hk _ _ (h.2.2 j x v I hv)⟩
theorem DL.setRow {w:World} {k:Nat} {arr arr':Array Value} {ty:TypeId} (I:w.heap[k]? =ajn (.cells arr ty (0,0))) (hs:arr'.size=arr.size):DL w (w.setRow k arr') k (.cells arr' ty (0,0)):=by
 refine ⟨rfl,rfl,rfl,by simp,setRow_heap w k arr arr' ty (0,0) I,λj hj=>setRow_other w k j arr' hj,λj=>?_⟩;unfold qp;by_cases hj:j=k
 ·subst hj;rw[setRow_heap w j arr arr' ty (0,0) I,I];simp[hs]
 ·rw[setRow_other w k j arr' hj]
section
variable {P:Program} {o:Oper} {e:yf} {h:mP} {nx:Nat} {R:AD}
theorem rU {t:TypeId} {z:List Value} (I:rx P t=ajn z) (w:World):∃ v,(zeroValue t).run P w= .ok v w/\v.cells.toList=z/\∃ i,P.info? t=ajn i/\i.zero=ajn v:=by
 unfold rx at I;cases hi:P.info? t with
 |none=>rw[hi] at I;cases I
 |some i=>
  rw[hi] at I;simp only[aA] at I;cases hv:i.zero with
  |none=>rw[hv] at I;cases I
  |some v=>
   rw[hv] at I;simp only[bO,aa] at I;exact⟨v,by simp[zeroValue,typeInfo,hi,hv],I,i,rfl,hv⟩
theorem abo {t:TypeId} {z:List Value} (Z:o.op= .alloc t) (Y:rx P t=ajn z) (hc:lz z=ajp) (M:dO (.alloc t z) e h nx=ajn R):fO P o e.get h.get R.eff:=by
 simp only[dO,aa] at M;subst M;refine fO.makes λφ E h' w a _ _ _=>?_
 obtain⟨v,h1,U,_⟩:=rU Y w;refine ⟨.pointer (ajn ⟨w.heap.size,0,ajo⟩),{w with heap:=w.heap.push (.cells v.cells t)},.cells v.cells t (0,0),?_,pO w _,?_,λφ' O hφ=>.ptr hφ⟩
 ·unfold execOp;rw[Z];simp[Instr.alloc,h1,newVar,newRow,newObj,mq]
 ·have I:BC.toMx (.fz (z.map .raw))=z.map raw:=by simp[BC.toMx,raw]
  refine oV rfl (by rw[I,<-U];simp) λj x J=>?_
  rw[I] at J;have cs:=Cs.raws (φ:=φ) (O:=tot E φ h') (w:=w) z hc;have hj:j<z.length:=by have:=(a8.1 J).1;simpa using this
  refine ⟨cs.2.1 x (aS J),z[j],?_,cs.2.2 j x _ J (ar hj)⟩;have:v.cells.toList[j]? =ajn z[j]:=by rw[U];exact ar hj
  simpa using this
theorem ai5 {t:TypeId} {x:Operand} (J:o.op= .box t x) (I:dO (.box t x) e h nx=ajn R):fO P o e.get h.get R.eff:=by
 simp only[dO] at I;split at I
 ·rename_i v M;split at I
  ·rename_i hc;simp only[aa] at I;subst I;refine fO.makes λφ E h' w a _ hp _=>?_
   have hr:=Sr (hp x _ (by rw[J];simp[Op.operands]) M) hc;refine ⟨.pointer (ajn ⟨w.heap.size,0,ajo⟩),{w with heap:=w.heap.push (.cells (a.eval x).cells t)},.cells (a.eval x).cells t (0,0),?_,pO w _,?_,λφ' O hφ=>.ptr hφ⟩
   ·unfold execOp;rw[J];simp[Instr.box,newVar,newRow,newObj,mq]
   ·have:=GJ (ty:=t) hr;simpa using this
  ·cases I
 ·cases I
theorem lD {α:Type} {l vs:List α} {off:Nat} (hle:off+vs.length<=l.length) (j:Nat):(splice l off vs)[j]? =if j<off then l[j]? else if j<off+vs.length then vs[j-off]? else l[j]? :=by
 unfold splice;rw[iV];have h1:(l.take off).length=off:=by simp;omega
 by_cases hj:j<off
 ·rw[if_pos hj,bA (by rw[h1];exact hj),cr,if_pos hj]
 ·rw[if_neg hj,bJ (by omega),h1];by_cases I:j<off+vs.length
  ·rw[if_pos I,bA (by omega)]
  ·rw[if_neg I,bJ (by omega),fZ];congr 1;omega
theorem nh {α:Type} {l vs:List α} {off:Nat} (hle:off+vs.length<=l.length):(splice l off vs).length=l.length:=by
 unfold splice;simp;omega
theorem Pa (off:Nat):∀ (vs:List Value) (k:Nat) (arr:Array Value),off+k+vs.length<=arr.size->∀ j:Nat,
 ((vs.zipIdx k).foldl (λcs (p:Value×Nat)=>cs.setIfInBounds (off+p.2) p.1) arr)[j]? =if j<off+k then arr[j]? else if j<off+k+vs.length then vs[j-(off+k)]? else arr[j]?
 |[],k,arr,_,j=>by
  simp only[List.zipIdx_nil,List.foldl_nil,je,cN];split<;>rfl
 |v::vs,k,arr,hle,j=>by
  simp only[bH] at hle;rw[List.zipIdx_cons,DV,Pa off vs (k+1) _ (by simp;omega) j];simp only[bH];by_cases h1:j<off+k
  ·rw[if_pos (by omega),if_pos h1,oI (by omega)]
  ·by_cases J:j=off+k
   ·subst J;rw[if_pos (by omega),if_neg (by omega),if_pos (by omega)];simp[show off+k<arr.size by omega]
   ·rw[if_neg (by omega),if_neg h1];by_cases I:j<off+k+(vs.length+1)
    ·rw[if_pos (by omega),if_pos I,show j-(off+k)=(j-(off+(k+1)))+1 from by omega];simp
    ·rw[if_neg (by omega),if_neg I,oI (by omega)]
theorem O9 (off:Nat) (c:Array Value) (l:List Value) (hle:off+c.size<=l.length):(c.zipIdx.foldl (λcs (p:Value×Nat)=>cs.setIfInBounds (off+p.2) p.1) l.toArray)=(splice l off c.toList).toArray:=by
 rw[<- Array.foldl_toList,Array.toList_zipIdx];apply Array.ext_getElem?;intro j;rw[Pa off c.toList 0 l.toArray (by simpa using hle) j];simp only[cN,jA];rw[lD (by simpa using hle)]
theorem MH {φ:PM} {E:Nat->Prop} {h':HF} {w:World} {a:Act} (hp:TQ φ E h' w a e o) {place:Nat->Option (Nat×Nat)}:∀ (ps:List (Nat×Operand)) (ps':List (Nat×Nat×Operand)) (cells cs:List AV) (vs:List Value),
 (ps'.length=ps.length)->(∀ (j:Nat) i x,ps[j]? =ajn (i,x)->∃ of sz,ps'[j]? =ajn (of,sz,x)/\place i=ajn (of,sz))->(∀ p∈ps,p.2∈o.op.operands)->Cs φ (tot E φ h') w cells vs->xH cells e ps'=ajn cs->
 ∃ vs',Instr.fill place vs.toArray (ps.map λp=>(p.1,a.eval p.2))=ajn vs'.toArray/\Cs φ (tot E φ h') w cs vs'
 |[],ps',cells,cs,vs,hl,_,_,hcs,hf=>by
  cases ps' with
  |nil=>simp only[xH,aa] at hf;subst hf;exact⟨vs,rfl,hcs⟩
  |cons _ _=>simp at hl
 |(i,x)::ps,ps',cells,cs,vs,hl,hpl,hm,hcs,hf=>by
  obtain⟨of,sz,h1,U⟩:=hpl 0 i x rfl;cases ps' with
  |nil=>simp at h1
  |cons p ps'=>
   simp at h1;subst h1;simp only[xH] at hf;split at hf
   ·rename_i v hv;split at hf
    ·rename_i hc;simp only[aj,beq_iff_eq] at hc;obtain⟨⟨M,J⟩,I⟩:=hc;have hr:=Sr (hp x v (hm _ (dg ..)) hv) I;have hsz:(a.eval x).cells.size=sz:=by have:=hr.1;simp at this;omega
     have hle:of+sz<=vs.length:=by rw[hcs.1];exact aR J
     obtain⟨vs',Z,Y⟩:=MH hp ps ps' _ cs _ (by simpa using hl) (λj i x hj=>by have:=hpl (j+1) i x (by simpa using hj);simpa using this) (λp hp=>hm p (cA _ hp)) (hcs.splice hr of) hf;refine ⟨vs',?_,Y⟩;simp only[ff,Instr.fill,U];have hcd:((decide ((a.eval x).cells.size≠sz))||decide (of+(a.eval x).cells.size>vs.toArray.size))=ajq:=by
      rw[hsz];simp;omega
     rw[if_neg (by rw[hcd];simp)];have:=O9 of (a.eval x).cells vs (by rw[hsz];exact hle);rw[<- Z,<-this]
    ·cases hf
   ·cases hf
theorem CS {t:TypeId}:∀ (ps:List (Nat×Operand)) (ps':List (Nat×Nat×Operand)),vJ P t ps=ajn ps'->ps'.length=ps.length/\∀ (j:Nat) i x,ps[j]? =ajn (i,x)->∃ of sz,ps'[j]? =ajn (of,sz,x)/\zR P t i=ajn (of,sz)
 |[],ps',h=>by simp only[vJ,aa] at h;subst h;exact⟨rfl,λj i x M=>by simp at M⟩
 |(i,x)::ps,ps',h=>by
  simp only[vJ] at h;split at h
  ·rename_i of sz l h1 U;simp only[aa] at h;subst h;obtain⟨Z,Y⟩:=CS ps l U;refine ⟨by simp[Z],λj J I hj=>?_⟩;cases j with
   |zero=>simp at hj;obtain⟨rfl,rfl⟩:=hj;exact⟨of,sz,rfl,h1⟩
   |succ j=>simpa using Y j J I (by simpa using hj)
  ·cases h
theorem GY (w:World):∀ (fs:List Field),(fs.all λf=>(em P f.type).isSome)=ajp->(fs.mapM (λf=>do pure (f.offset,<-sizeOf f.type)):Sem (List (Nat×Nat))).run P w= .ok (fs.map λf=>(f.offset,(em P f.type).getD 0)) w
 |[],_=>by simp
 |f::fs,h=>by
  simp only[List.all_cons,aj] at h;obtain⟨sz,hs⟩:=gR.1 h.1;have h1:=fy hs w;have I:=GY w fs h.2;simp only[List.mapM_cons,dI,h1,ci,nH,I,ff,hs,tm]
theorem U9 {t:TypeId} {ps:Array (Nat×Operand)} {z:List Value} {ps':List (Nat×Nat×Operand)} (M:o.op= .build t ps) (hz:rx P t=ajn z) (hc:lz z=ajp) (hps:vJ P t ps.toList=ajn ps')
 (hu:(∃ fs,P.underlying t=ajn (.struct fs)/\(fs.toList.all λf=>(em P f.type).isSome)=ajp)\/∃ n el sz,P.underlying t=ajn (.array n el)/\em P el=ajn sz) (I:dO (.build z ps') e h nx=ajn R):fO P o e.get h.get R.eff:=by
 simp only[dO] at I;split at I
 ·rename_i cs hf;rw[cR I];refine fO.reads λφ E h' w a _ hp _=>?_
  obtain⟨v,h1,h2,_⟩:=rU hz w;have hcells:v.cells=z.toArray:=by rw[<- h2]
  obtain⟨g1,g2⟩:=CS ps.toList ps' hps;have hops:∀ p∈ps.toList,p.2∈o.op.operands:=λp hp=>by
   rw[M];simp only[Op.operands,List.mem_toArray,cO];exact⟨p,hp,rfl⟩
  have hmap:(ps.map λx:Nat×Operand=>(x.1,a.eval x.2)).toList=ps.toList.map λp=>(p.1,a.eval p.2):=by simp
  have fin:∀ place:Nat->Option (Nat×Nat),(∀ i,zR P t i≠ajo->place i=zR P t i)->∃ vs':List Value,Instr.fill place v.cells (ps.map λx:Nat×Operand=>(x.1,a.eval x.2)).toList=ajn vs'.toArray/\cq φ (tot E φ h') w (KU cs) (.agg vs'.toArray):=by
   intro place hpl;obtain⟨vs',k1,k2⟩:=MH (place:=place) hp ps.toList ps' _ cs z g1 (λj i x hj=>by
    obtain⟨of,sz,Z,Y⟩:=g2 j i x hj;exact⟨of,sz,Z,by rw[hpl i (by rw[Y];simp),Y]⟩) hops (Cs.raws z hc) hf
   refine ⟨vs',by rw[hmap,hcells];exact k1,?_⟩;unfold KU;cases hfs:wy cs with
   |none=>exact .agg k2.1 k2.2.1 k2.2.2
   |some fs=>
    have he:=oG hfs;refine .f (.agg fs vs' (by rw[k2.1,he];simp) (λx J=>k2.2.1 (.f x) (by rw[he];exact cO.2 ⟨x,J,rfl⟩)) λj x u J hu=>?_);have:=k2.2.2 j (.f x) u (by rw[he,aU,J];rfl) hu;cases this with
    |f h=>exact h
  rcases hu with ⟨fs,hu,hall⟩|⟨n,el,sz,hu,hs⟩
  ·obtain⟨vs',k1,k2⟩:=fin (λi=>(fs.map λf=>(f.offset,(em P f.type).getD 0))[i]?) (λi hi=>by
    unfold zR at hi ⊢;rw[hu] at hi ⊢;simp only[Array.getElem?_map] at hi ⊢;cases hf:fs[i]? with
    |none=>rw[hf] at hi;simp at hi
    |some f=>
     simp only[bO,aA];cases hs:em P f.type with
     |none=>rw[hf] at hi;simp[hs] at hi
     |some sz=>simp)
   refine ⟨_,?_,k2⟩;have hm:=GY w fs.toList hall;have U:(fs.mapM (λf=>do pure (f.offset,<-sizeOf f.type)):Sem (Array (Nat×Nat))).run P w= .ok (fs.map λf=>(f.offset,(em P f.type).getD 0)) w:=by
    rw[Array.mapM_eq_mapM_toList];simp only[Sem.run_map,hm,ci];congr 1;apply Jo;simp
   unfold execOp;rw[M];simp only[Instr.build,dI,h1,ci,run_underlying hu,U,nH,k1]
  ·obtain⟨vs',k1,k2⟩:=fin (λi=>ajn (i*sz,sz)) (λi hi=>by
    unfold zR;rw[hu];simp[hs])
   refine ⟨_,?_,k2⟩;have h3:=fy hs w;unfold execOp;rw[M];simp only[Instr.build,dI,h1,ci,run_underlying hu,h3,nH,k1]
 ·cases I
end
section
variable {P:Program} {o:Oper} {e:yf} {h:mP} {nx:Nat} {R:AD}
theorem qR {t el:TypeId} (h:zf P t=ajn el):P.underlying t=ajn (.slice el):=by
 unfold zf at h;split at h
 ·rename_i e hu;simp only[aa] at h;subst h;exact hu
 ·cases h
theorem lG (z:List Value):∀ n,(repl z n).length=n*z.length
 |0=>by simp[repl]
 |n+1=>by simp[repl,lG z n,gX];omega
theorem Bb (z:List Value):∀ (n j:Nat),j<n*z.length->(repl z n)[j]? =(z[j%z.length]?).map .raw
 |0,j,h=>by simp at h
 |n+1,j,h=>by
  have I:0<z.length:=by
   rcases Jm z.length with h0|h0
   ·rw[h0] at h;simp at h
   ·exact h0
  rw[repl];rcases bI j z.length with hj|hj
  ·rw[bA (by simpa using hj),aU,Nat.mod_eq_of_lt hj]
  ·rw[bJ (by simpa using hj),bV,Bb z n (j-z.length) (by rw[gX] at h;omega),Nat.mod_eq_sub_mod hj]
theorem Vg {v:Value} {z:List Value} (hv:v.cells.toList=z) (n sz:Nat) (hl:z.length=sz) (hsz:sz≠0) (j:Nat) (hj:j<n*sz):
 ((wZ (n*sz)).map (λi=>v.cells[i%v.cells.size]!))[j]? =z[j%sz]? :=by
 have hs:v.cells.size=sz:=by rw[<- hl,<-hv];simp
 have hlt:j%sz<v.cells.size:=by rw[hs];exact Nat.mod_lt _ (by omega)
 rw[Array.getElem?_map,Array.getElem?_range];simp only[hj,if_true,bO,hs];rw[<- hv,ch,getElem!_pos v.cells _ hlt,gu hlt]
theorem Cs.repl {φ:PM} {O:Nat->Prop} {w:World} {v:Value} {z:List Value} (hv:v.cells.toList=z) (n sz:Nat) (hl:z.length=sz) (hsz:sz≠0) (hc:lz z=ajp):
 Cs φ O w ((repl z n).map .f) ((wZ (n*sz)).map (λi=>v.cells[i%v.cells.size]!)).toList:=by
 have key:∀ (j:Nat) (x:AV),((AI.repl z n).map AV.f)[j]? =ajn x->∃ u,z[j%sz]? =ajn u/\x=raw u/\j<n*sz:=by
  intro j x I;rw[aU] at I;have hj:j<n*z.length:=by
   rcases bI j (n*z.length) with h|h
   ·exact h
   ·rw[bB (by rw[lG];exact h)] at I;cases I
  rw[Bb z n j hj,hl] at I;cases hu:z[j%sz]? with
  |none=>rw[hu] at I;cases I
  |some u=>rw[hu] at I;simp at I;exact⟨u,rfl,I.symm,by rw[<- hl];exact hj⟩
 refine ⟨by simp[lG,hl],λx I=>?_,λj x u I hu=>?_⟩
 ·obtain⟨j,hj⟩:=dW I;obtain⟨u,h1,rfl,_⟩:=key j x hj;exact fh.1 hc u (aS h1)
 ·obtain⟨J,h1,rfl,hj⟩:=key j x I;rw[ch,Vg hv n sz hl hsz j hj,h1] at hu;cases hu;exact .f (.raw _)
theorem ai4 {t el:TypeId} {n sz:Nat} {ps:Array (Nat×Operand)} {z:List Value} {ps':List (Nat×Nat×Operand)} (Y:o.op= .buildSlice t n ps) (hu:P.underlying t=ajn (.slice el)) (hz:rx P el=ajn z) (hs:em P el=ajn sz) (hc:lz z=ajp) (hl:z.length=sz) (hsz:sz≠0) (hb:n*sz<=65536)
 (hps:vJ P t ps.toList=ajn ps') (I:dO (.bsl el sz n z ps') e h nx=ajn R):fO P o e.get h.get R.eff:=by
 simp only[dO] at I;split at I
 ·rename_i cs hf;simp only[aa] at I;subst I;refine fO.makes λφ E h' w a _ hp _=>?_
  obtain⟨v,h1,h2,_⟩:=rU hz w;obtain⟨g1,g2⟩:=CS ps.toList ps' hps;have hops:∀ p∈ps.toList,p.2∈o.op.operands:=λp hp=>by
   rw[Y];simp only[Op.operands,List.mem_toArray,cO];exact⟨p,hp,rfl⟩
  have hmap:(ps.map λx:Nat×Operand=>(x.1,a.eval x.2)).toList=ps.toList.map λp=>(p.1,a.eval p.2):=by simp
  obtain⟨vs',k1,k2⟩:=MH (place:=λi=>ajn (i*sz,sz)) hp ps.toList ps' _ cs _ g1 (λj i x hj=>by
   obtain⟨of,s',Z,J⟩:=g2 j i x hj;unfold zR at J;rw[hu] at J;simp[hs] at J;obtain⟨rfl,rfl⟩:=J;exact⟨_,_,Z,rfl⟩) hops (Cs.repl h2 n sz hl hsz hc) hf
  have hcells:(wZ (n*sz)).map ((if n*sz=0 then #[] else v.cells)[·%(if n*sz=0 then #[] else v.cells).size]!)=((wZ (n*sz)).map (λi=>v.cells[i%v.cells.size]!)).toList.toArray:=by
   by_cases h0:n*sz=0
   ·simp[h0]
   ·rw[Array.toArray_toList];simp only[if_neg h0]
  have hlen:vs'.length=n*sz:=by
   have e1:=k2.1;have e2:cs.length=((AI.repl z n).map AV.f).length:=by
    have:∀ (ps':List (Nat×Nat×Operand)) (U M:List AV),xH U e ps'=ajn M->M.length=U.length:=by
     intro ps';induction ps' with
     |nil=>intro U M h;simp only[xH,aa] at h;rw[h]
     |cons p ps' ih=>
      intro U M h;obtain⟨of,s',x⟩:=p;simp only[xH] at h;split at h
      ·split at h
       ·rename_i hcc;simp only[aj,beq_iff_eq] at hcc;rw[ih _ _ h,nh (by rw[hcc.1.1];exact aR hcc.1.2)]
       ·cases h
      ·cases h
    exact this ps' _ _ hf
   rw[e1,e2];simp[lG,hl]
  refine ⟨.slice (ajn ⟨w.heap.size,0,ajo⟩) n n,{w with heap:=w.heap.push (.cells vs'.toArray el)},.cells vs'.toArray el (0,0),?_,pO w _,GJ k2,λφ' O hφ=>?_⟩
  ·have h3:=fy hs w;have hk:Instr.fill (λi=>ajn (i*sz,sz)) ((wZ (n*sz)).map ((if n*sz=0 then #[] else v.cells)[·%(if n*sz=0 then #[] else v.cells).size]!)) (ps.map λx:Nat×Operand=>(x.1,a.eval x.2)).toList=ajn vs'.toArray:=by
    rw[hcells,hmap];exact k1
   unfold execOp;rw[Y];simp only[Instr.buildSlice,dI,run_underlying hu,ci,h3];rw[if_neg (by omega)];by_cases h0:n*sz=0
   ·simp only[if_pos h0] at hk ⊢;simp only[dI,nH,ci,hk,newRow,newObj,mq]
   ·simp only[if_neg h0] at hk ⊢;simp only[dI,nH,ci,h1,hk,newRow,newObj,mq]
  ·simp only[];split
   ·rename_i h0;subst h0;exact .emp
   refine .row hφ (bF _) ?_ ⟨el,?_⟩
   ·have:n<=n*sz:=Nat.le_mul_of_pos_right _ (by omega);unfold maxLen;omega
   ·unfold qp;simp[hlen]
 ·cases I
end
theorem pM.wren {φ:PM} {E:Nat->Prop} {h:HF} {w w':World} (r:pM φ E h w) {id nx k:Nat} {b b':vy} {ob:Obj} (hb:h id=ajn b) (hk:φ id=ajn k) (hnx:φ nx=ajo) (Y:DL w w' k ob) (hob:iE φ (tot E φ h) w b' ob) (nw:HF) (hnw:nw nx=ajn b') (hnid:nw id=ajo):
 ∃ φ',φ' nx=ajn k/\ie φ φ' h (dQ h [nx,id] nw) w w'/\(∀ i k,φ' i=ajn k->φ i=ajn k\/i∈[nx])/\pM φ' E (dQ h [nx,id] nw) w':=by
 have hne:nx≠id:=λe=>by rw[e,hk] at hnx;cases hnx
 have hsub:∀ i x,dQ h [nx,id] nw i=ajn x->i≠nx->h i=ajn x/\i≠id:=λi x hx hi=>by
  unfold dQ at hx;by_cases hd:i=id
  ·subst hd;simp[hnid] at hx
  ·simp[hi,hd] at hx;exact⟨hx,hd⟩
 have hφ:∀ i,i≠nx->(if i=nx then ajn k else φ i)=φ i:=λi hi=>by simp[hi]
 have m:ie φ (λi=>if i=nx then ajn k else φ i) h (dQ h [nx,id] nw) w w':=by
  refine ⟨λi Z U=>?_,⟨Y.os,Y.tape,Y.output,by rw[Y.size];exact bF _,λj hj ho=>?_,λj _=>Y.shp j⟩,?_⟩
  ·have:i≠nx:=λe=>by rw[e,hnx] at U;cases U
   rw[hφ i this];exact U
  ·exact Y.other j (λe=>ho (e▸⟨id,b,hb,hk⟩))
  ·rintro j hj ⟨i,x,h1,M⟩;by_cases hi:i=nx
   ·simp[hi] at M;subst M;exact⟨id,b,hb,hk⟩
   ·have h3:φ i=ajn j:=by simpa[hi] using M
    exact⟨i,x,(hsub i x h1 hi).1,h3⟩
 refine ⟨_,by simp,m,λi Z U=>?_,⟨λi j x y kk hi hj h1 M=>?_,λi x hi=>?_,λk hk=>cU (r.el k hk) m.ext.size,λg cells hg=>m.keepF (r.gl g cells hg)⟩⟩
 ·by_cases hi:i=nx
  ·right;simp[hi]
  ·left;rw[hφ i hi] at U;exact U
 ·by_cases I:i=nx
  ·by_cases J:j=nx
   ·rw[I,J]
   ·exfalso;rw[hφ j J] at M;simp[I] at h1;subst h1;obtain⟨q1,q2⟩:=hsub j y hj J;exact q2 (r.inj j id y b k q1 hb M hk)
  ·rw[hφ i I] at h1;obtain⟨p1,p2⟩:=hsub i x hi I;by_cases J:j=nx
   ·exfalso;simp[J] at M;subst M;exact p2 (r.inj i id x b k p1 hb h1 hk)
   ·rw[hφ j J] at M;exact r.inj i j x y kk p1 (hsub j y hj J).1 h1 M
 ·by_cases I:i=nx
  ·subst I;have:x=b':=by unfold dQ at hi;simp[hnw] at hi;exact hi.symm
   subst this;obtain⟨Z,h1,M,_⟩:=r.at_ id b hb;rw[hk] at h1;cases h1;exact⟨k,by simp,M,ob,Y.at_,hob.mono λ_ _ h=>m.keep h⟩
  ·obtain⟨p1,p2⟩:=hsub i x hi I;obtain⟨Z,h1,M,ob',h3,h4⟩:=r.at_ i x p1;have hne':Z≠k:=λe=>p2 (r.inj i id x b k p1 hb (e▸h1) hk)
   exact⟨Z,by rw[hφ i I];exact h1,M,ob',by rw[Y.other Z hne'];exact h3,h4.mono λ_ _ h=>m.keep h⟩
theorem pM.cs {φ:PM} {E:Nat->Prop} {h':HF} {w:World} (hrep:pM φ E h' w) {id k:Nat} {b:vy} (hb:h' id=ajn b) (hk:φ id=ajn k) (hc:b.c.isCells=ajp):
 ∃ arr,w.heap[k]? =ajn (.cells arr b.ty (0,0))/\Cs φ (tot E φ h') w b.c.toMx (arr.toList.take b.c.toMx.length)/\b.c.toMx.length<=arr.size:=by
 obtain⟨k',h1,_,h2⟩:=hrep.at_ id b hb;rw[hk] at h1;cases h1;obtain⟨arr,Z,M,J⟩:=h2.cells hc;rw[BC.len_toMx hc] at M;refine ⟨arr,Z,⟨by simp;omega,λx I=>?_,λj x v I hv=>?_⟩,M⟩
 ·obtain⟨j,hj⟩:=dW I;exact (J j x (by rw[BC.get_toMx hc];exact hj)).1
 ·obtain⟨_,u,Y,U⟩:=J j x (by rw[BC.get_toMx hc];exact I);rw[cr] at hv;split at hv
  ·rw[ch,Y] at hv;cases hv;exact U
  ·cases hv
section
variable {P:Program} {o:Oper} {e:yf} {h:mP} {nx:Nat} {R:AD}
theorem Lz {t:TypeId} {b:Nat} (hb:DG P t=ajn b):∃ i,P.info? t=ajn i/\i.bytes=b:=by
 unfold DG at hb;cases hi:P.info? t with
 |none=>rw[hi] at hb;cases hb
 |some i=>rw[hi] at hb;simp at hb;exact⟨i,rfl,hb⟩
theorem Gs {n b:Nat} (h:aT n b=ajp):n<=1099511627776/\n*b<=1099511627776:=by
 simp only[aT,aj] at h;exact⟨aR h.1,aR h.2⟩
theorem Xu {n:Int} (h1: -9223372036854775808<=n) (I:n<=9223372036854775807):nK .i64 n=n:=by
 rw[<- xh];have:(cD (-9223372036854775808) n&&cD n 9223372036854775807)=ajp:=by simp[cD,h1,I]
 simp only[FM,Kx,this,if_true]
theorem aeu {t el:TypeId} {sz bytes:Nat} {z:List Value} {l c:Operand} (ho:o.op= .makeSlice t l c) (hu:P.underlying t=ajn (.slice el)) (hz:rx P el=ajn z) (hs:em P el=ajn sz) (hb:DG P el=ajn bytes) (hc:lz z=ajp) (hl:z.length=sz) (hsz:sz≠0)
 (J:dO (.mksl el sz bytes z l c) e h nx=ajn R):fO P o e.get h.get R.eff:=by
 simp only[dO] at J;split at J
 ·rename_i k1 n k2 m I hy;split at J
  ·rename_i hcd;simp only[cD,aj,decide_eq_true_eq] at hcd;obtain⟨⟨h0,h1⟩,h2⟩:=hcd;obtain⟨r1,r2⟩:=Gs h2;simp only[aa] at J;subst J;refine fO.makes λφ E h' w a _ hp _=>?_
   have e1:=ep (hp l _ (by rw[ho];simp[Op.operands]) I);have e2:=ep (hp c _ (by rw[ho];simp[Op.operands]) hy);obtain⟨v,z1,z2,_⟩:=rU hz w;obtain⟨i,i1,i2⟩:=Lz hb;have s1:=fy hs w;have w1:nK .i64 n=n:=Xu (by omega) (by omega);have w2:nK .i64 m=m:=Xu (by omega) (by omega);have hbm:(bytes:Int)*m=((m.toNat*bytes:Nat):Int):=by
    rw[Int.natCast_mul,E9 (by omega),Int.mul_comm]
   have t1:¬(m<0\/(281474976710656:Int)<bytes*m):=by rw[hbm];omega
   have hr:¬(m.toNat*bytes>roomBytes):=by unfold roomBytes;omega
   have hn0:m.toNat*sz=0->m.toNat=0:=λh=>(Nat.mul_eq_zero.1 h).resolve_right hsz
   let cells:Array Value:=(wZ (m.toNat*sz)).map (λi=>v.cells[i%v.cells.size]!)
   refine ⟨.slice (ajn ⟨w.heap.size,0,ajo⟩) n.toNat m.toNat,{w with heap:=w.heap.push (.cells cells el)},.cells cells el (0,0),?_,pO w _,?_,λφ' O hφ=>?_⟩
   ·unfold execOp;rw[ho];by_cases U:m.toNat*sz=0
    ·obtain rfl:m=0:=by have:=hn0 U;omega
     obtain rfl:n=0:=by omega
     simp[Instr.makeSlice,run_underlying hu,e1,e2,asInt,asIntOf,typeInfo,i1,w1,askRoom,s1,newRow,newObj,mq,cells];rw[show wZ 0=#[] from rfl];simp
    ·simp[Instr.makeSlice,run_underlying hu,e1,e2,asInt,asIntOf,typeInfo,i1,i2,w1,w2,t1,show ¬n<0 by omega,show ¬m<n by omega,askRoom,hr,s1,U,z1,newRow,newObj,mq,cells]
   ·have cs:=Cs.repl (φ:=φ) (O:=tot E φ h') (w:=w) z2 m.toNat sz hl hsz hc;have hle:n.toNat<=m.toNat:=by omega
    have hlen:n.toNat*sz<=m.toNat*sz:=cf _ hle;refine oV rfl (by simp[BC.toMx,lG,hl,cells];exact hlen) λj x I=>?_
    simp only[BC.toMx,aU] at I;have hj:j<n.toNat*z.length:=by
     rcases bI j (n.toNat*z.length) with h|h
     ·exact h
     ·rw[bB (by rw[lG];exact h)] at I;cases I
    have Z:j<m.toNat*z.length:=by rw[hl] at hj ⊢;omega
    rw[Bb z _ j hj,<-Bb z m.toNat j Z] at I;have M:((repl z m.toNat).map AV.f)[j]? =ajn x:=by rw[aU];exact I
    have Y:j<cells.toList.length:=by simp[cells];rw[<- hl];exact Z
    exact⟨cs.2.1 x (aS M),cells.toList[j],by rw[<- ch];exact ar Y,cs.2.2 j x _ M (ar Y)⟩
   ·refine .row hφ (by omega) (by unfold maxLen;omega) ⟨el,?_⟩;unfold qp;simp[cells]
  ·cases J
 ·cases J
theorem abn {t:TypeId} {x y:Operand} {sz:Nat} (Y:o.op= .store t x y) (hs:em P t=ajn sz) (I:dO (.store sz x y) e h nx=ajn R):fO P o e.get h.get R.eff:=by
 simp only[dO] at I;split at I
 ·rename_i p v hx hy;unfold Ng at I;split at I
  ·rename_i id off;split at I
   ·rename_i b hb;split at I
    ·rename_i hl;split at I
     ·rename_i c' hput;simp only[aa] at I;subst I;unfold BC.put at hput;split at hput
      ·rename_i hcc;simp only[aj] at hcc;obtain⟨⟨c1,c2⟩,c3⟩:=hcc;have c2:=aR c2;have hl:v.cs.length=sz:=by simpa using hl
       have J:c'.toMx=splice b.c.toMx off v.cs/\c'.isCells=ajp:=by
        split at hput
        ·rename_i l ys hbl hys;simp only[aa] at hput;subst hput;refine ⟨?_,rfl⟩;have hv:=oG hys;rw[hv,hbl];simp only[BC.toMx];unfold splice;simp[jL,List.map_drop]
        ·simp only[aa] at hput;subst hput;exact⟨rfl,rfl⟩
       refine fO.writes hb λφ E h' w a hrd Z hp hrep=>?_
       have hr:=Sr (hp y _ (by rw[Y];simp[Op.operands]) hy) c3;have hpx:=hp x _ (by rw[Y];simp[Op.operands]) hx;generalize hz:a.eval x=pv at hpx;cases hpx with
       |@ptr _ _ k hφ=>
        obtain⟨arr,g1,g2,g3⟩:=hrep.cs Z hφ c1;have hvl:(a.eval y).cells.toList.length=sz:=by rw[hr.1];exact hl
        rw[BC.len_toMx c1] at c2;have hst:=run_storeCells_at (P:=P) k off b.ty (a.eval y).cells.toList 0 arr w g1 (by rw[hvl];omega) hr.one
        let arr':Array Value:=(arr.toList.take off++(a.eval y).cells.toList++arr.toList.drop (off+sz)).toArray
        have hsize:arr'.size=arr.size:=by simp only[arr',rF,bg,bm,lA,gE,hvl];omega
        refine ⟨.skip,w.setRow k arr',k,.cells arr' b.ty (0,0),?_,hφ,DL.setRow g1 hsize,?_,undef,.inr ⟨rfl,rfl⟩,.f (.raw _)⟩
        ·have s1:=fy hs w;have hvs:(a.eval y).cells.size=sz:=by simpa using hvl
         simp only[cN,hvl] at hst;unfold execOp;rw[Y];simp[Instr.storeAt,hz,Instr.sureAddr,storeVar,s1,hvs,hst,arr']
        ·refine oV J.2 (by rw[J.1,nh (by omega),hsize];exact g3) λj q hq=>?_
         rw[J.1,lD (by omega)] at hq;have ha':arr'[j]? =if j<off then arr.toList[j]? else if j<off+sz then (a.eval y).cells.toList[j-off]? else arr.toList[j]? :=by
          have:=lD (l:=arr.toList) (vs:=(a.eval y).cells.toList) (off:=off) (by have:=hvl;simp only[gE] at this ⊢;omega) j;unfold splice at this;rw[hvl] at this;simp only[arr',jA];exact this
         have old:b.c.toMx[j]? =ajn q->q.isCell=ajp/\∃ u,arr.toList[j]? =ajn u/\cq φ (tot E φ h') w q u:=λhq=>by
          have hj:j<b.c.toMx.length:=(a8.1 hq).1;have U:j<arr.toList.length:=by simp;omega
          refine ⟨g2.2.1 q (aS hq),arr.toList[j],ar U,g2.2.2 j q _ hq ?_⟩;rw[cr,if_pos hj,ar U]
         rw[ha'];by_cases h1:j<off
         ·rw[if_pos h1] at hq ⊢;exact old hq
         ·rw[if_neg h1] at hq ⊢;by_cases h2:j<off+sz
          ·rw[if_pos (by omega)] at hq;rw[if_pos h2];have M:j-off<(a.eval y).cells.toList.length:=by omega
           exact⟨hr.2.1 q (aS hq),_,ar M,hr.2.2 _ q _ hq (ar M)⟩
          ·rw[if_neg (by omega)] at hq;rw[if_neg h2];exact old hq
      ·cases hput
     ·cases I
    ·cases I
   ·cases I
  ·cases I
 ·cases I
end
section
variable {P:Program} {o:Oper} {e:yf} {h:mP} {nx:Nat} {R:AD}
theorem ahm (A:Addr):A.add 0=A:=by cases A;simp[Addr.add]
theorem aho {t el:TypeId} {sz:Nat} {x:Operand} {lo hi mx:Option Operand} (J:o.op= .slice t x lo hi mx) (hu:P.underlying t=ajn (.slice el)) (hs:em P el=ajn sz) (I:dO (.slc sz x lo hi mx) e h nx=ajn R):fO P o e.get h.get R.eff:=by
 simp only[dO] at I;split at I
 ·rename_i v Y;split at I
  ·
   rename_i k k';split at I
   ·rename_i hsl;rw[cR I];refine fO.reads λφ E h' w a _ hp _=>?_
    have hr:=hp x _ (by rw[J];simp[Op.operands]) Y;have U:∃ A n c,a.eval x= .slice A n c:=by
     generalize a.eval x=z at hr;obtain⟨n,hn⟩:=gR.1 hsl;unfold AV.slen at hn;split at hn
     ·cases hr with
      |f hr=>cases hr with
       |nil=>exact⟨_,_,_,rfl⟩
       |sl=>exact⟨_,_,_,rfl⟩
     ·cases ep hr;exact⟨_,_,_,rfl⟩
     ·cases hr;exact⟨_,_,_,rfl⟩
     ·cases hr;exact⟨_,_,_,rfl⟩
     ·cases hr;exact⟨_,_,_,rfl⟩
     ·cases hn
    obtain⟨A,n,c,U⟩:=U;have s1:=fy hs w;refine ⟨.slice A 0 0,?_,.emp⟩;unfold execOp;rw[J];have z0:∀ k,a.eval (.const (.int k 0))= .int k 0:=λ_=>rfl
    simp[ox,s5,run_underlying hu,U,iX,jG,asIntOf,s1,z0]
   ·cases I
  ·
   rename_i b;split at I
   ·rename_i id sz' n k j hb;split at I
    ·rename_i hc;simp only[cD,aj,decide_eq_true_eq,beq_iff_eq] at hc;obtain⟨⟨rfl,h0⟩,h1⟩:=hc;split at I
     ·rename_i blk hblk;split at I
      ·rename_i hcl;simp only[aj] at hcl;obtain⟨hcells,hlen⟩:=hcl;have hlen:=aR hlen;rw[BC.len_toMx hcells] at hlen;simp only[aa] at I;subst I;intro φ E h' w a g1 g2 g3 hrep g5;have hp:TQ φ E h' w a e o:=λx y Y M=>rQ hrep g3 Y M
       have hb':h' id=ajn blk:=by rw[g1 id (by simp[AD.eff])];exact hblk
       have hr:=hp x _ (by rw[J];simp[Op.operands]) Y;have hbv:=ep (hp b _ (by rw[J];simp[Op.operands]) hb);have hnx:φ nx=ajo:=g5 nx (by simp[AD.eff]);generalize U:a.eval x=z at hr;cases hr with
       |@row _ _ _ c q hφ hn hcap hsh=>
        obtain⟨arr,a1,a2,a3⟩:=hrep.cs hb' hφ hcells;have s1:=fy hs w;have hne:nx≠id:=λe=>by rw[e,hφ] at hnx;cases hnx
        have hnw1:il [(nx,⟨blk.ty,oo (blk.c.toMx.take (j.toNat*sz'))⟩)] nx=ajn (⟨blk.ty,oo (blk.c.toMx.take (j.toNat*sz'))⟩:vy):=by simp[il]
        have hnw2:il [(nx,⟨blk.ty,oo (blk.c.toMx.take (j.toNat*sz'))⟩)] id=ajo:=by
         simp only[il];rw[if_neg];intro hb;exact hne (ak hb)
        have a4:=a2.take (j.toNat*sz');obtain⟨φ',p1,p2,p3,p4⟩:=hrep.wren hb' hφ hnx (w':=w) ⟨rfl,rfl,rfl,rfl,a1,λ_ _=>rfl,λ_=>rfl⟩ (b':=⟨blk.ty,oo (blk.c.toMx.take (j.toNat*sz'))⟩) (by
         obtain⟨q1,q2⟩:=mE (blk.c.toMx.take (j.toNat*sz'));refine oV q2 (by rw[q1,bm];omega) λi x Y=>?_
         rw[q1] at Y;have hi:i<((arr.toList.take blk.c.toMx.length).take (j.toNat*sz')).length:=by rw[a4.1];exact (a8.1 Y).1
         refine ⟨a4.2.1 x (aS Y),_,?_,a4.2.2 i x _ Y (ar hi)⟩;have hi':i<arr.size:=by simp at hi;omega
         simp[hi']) _ hnw1 hnw2
        have hrun:(execOp a.eval o).run P w= .ok (.value (.slice (ajn ⟨q,0,ajo⟩) j.toNat c)) w:=by
         unfold execOp;rw[J];simp[ox,s5,run_underlying hu,U,iX,jG,asIntOf,s1,hbv,h0,show j<=c by omega,j8]
        unfold FK;rw[hrun];exact⟨_,φ',rfl,p2,p3,p4,.row p1 (by omega) hcap hsh⟩
      ·cases I
     ·cases I
    ·cases I
   ·rename_i cells n k j hb;split at I
    ·rename_i hc;simp only[cD,aj,decide_eq_true_eq] at hc;obtain⟨⟨h0,h1⟩,h2⟩:=hc;have h2:=aR h2;rw[cR I];refine fO.reads λφ E h' w a _ hp _=>?_
     have hr:=hp x _ (by rw[J];simp[Op.operands]) Y;have hbv:=ep (hp b _ (by rw[J];simp[Op.operands]) hb);generalize U:a.eval x=z at hr;have s1:=fy hs w;cases hr with
     |f hr=>
      cases hr with
      |nil A c hc=>
       have hj:j=0:=by omega
       subst hj;refine ⟨.slice A 0 c,?_,by simpa using cq.f (.nil A c hc)⟩;unfold execOp;rw[J];cases A<;>simp[ox,s5,run_underlying hu,U,iX,jG,asIntOf,s1,hbv,ahm]
      |sl _ _ c q off us hn hc hO hq hcl Z hr=>
       refine ⟨.slice (ajn ⟨q,off,ajo⟩) j.toNat c,?_,.f (.sl _ _ _ _ _ us (by omega) hc hO hq (λy M=>hcl y (ir M)) (λi hi=>Z i (by rw[bm] at hi;omega)) λi y M=>?_)⟩
       ·unfold execOp;rw[J];simp[ox,s5,run_underlying hu,U,iX,jG,asIntOf,s1,hbv,h0,show j<=c by omega,j8]
       ·rw[cr] at M;split at M
        ·exact hr i y M
        ·cases M
    ·cases I
   ·cases I
  ·
   rename_i b;split at I
   ·rename_i id sz' n k j hb;split at I
    ·rename_i hc;simp only[cD,eX,aj,decide_eq_true_eq,beq_iff_eq] at hc;obtain⟨⟨rfl,h0⟩,h1⟩:=hc;rw[cR I];refine fO.reads λφ E h' w a _ hp _=>?_
     have hr:=hp x _ (by rw[J];simp[Op.operands]) Y;have hbv:=ep (hp b _ (by rw[J];simp[Op.operands]) hb);generalize U:a.eval x=z at hr;cases hr with
     |@row _ _ _ c q hφ hn hc hsh=>
      have s1:=fy hs w;refine ⟨.slice (ajn ⟨q,0+j.toNat*sz',ajo⟩) (n-j.toNat) (c-j.toNat),?_,?_⟩
      ·unfold execOp;rw[J];simp[ox,s5,run_underlying hu,U,iX,jG,asIntOf,s1,hbv,h0,show j<=n by omega,show ¬c=j.toNat by omega,j8]
      ·rw[bz];exact .sl hφ (by omega) (by omega)
    ·cases I
   ·rename_i cells n k j hb;split at I
    ·rename_i hc;simp only[cD,aj,decide_eq_true_eq] at hc;obtain⟨⟨h0,h1⟩,h2⟩:=hc;have h2:=aR h2;rw[cR I];refine fO.reads λφ E h' w a _ hp _=>?_
     have hr:=hp x _ (by rw[J];simp[Op.operands]) Y;have hbv:=ep (hp b _ (by rw[J];simp[Op.operands]) hb);generalize U:a.eval x=z at hr;have s1:=fy hs w;cases hr with
     |f hr=>
      cases hr with
      |nil A c hc=>
       have hj:j=0:=by omega
       subst hj;have hex:∃ A',(execOp a.eval o).run P w= .ok (.value (.slice A' 0 c)) w:=by
        unfold execOp;rw[J];cases A with
        |none=>exact⟨ajo,by simp[ox,s5,run_underlying hu,U,iX,jG,asIntOf,s1,hbv]⟩
        |some A=>exact⟨ajn A,by simp[ox,s5,run_underlying hu,U,iX,jG,asIntOf,s1,hbv,ahm]⟩
       obtain⟨A',hex⟩:=hex;exact⟨.slice A' 0 c,hex,by simpa using cq.f (.nil A' c hc)⟩
      |sl _ _ c q off us hn hc hO hq hcl Z hr=>
       by_cases hcj:c=j.toNat
       ·refine ⟨.slice (ajn ⟨q,off,ajo⟩) 0 0,?_,?_⟩
        ·unfold execOp;rw[J];simp[ox,s5,run_underlying hu,U,iX,jG,asIntOf,s1,hbv,h0,show j<=n by omega,hcj,show n-j.toNat=0 by omega,j8]
        ·rw[show n-j.toNat=0 by omega];simpa using cq.f (.nil (ajn ⟨q,off,ajo⟩) 0 (by unfold maxLen;omega))
       ·refine ⟨.slice (ajn ⟨q,off+j.toNat*sz,ajo⟩) (n-j.toNat) (c-j.toNat),?_,.f (.sl _ _ _ _ _ (λi=>us (j.toNat*sz+i)) (by omega) (by omega) hO hq (λy M=>hcl y (List.mem_of_mem_drop (ir M))) (λi hi=>?_) λi y M=>?_)⟩
        ·unfold execOp;rw[J];simp[ox,s5,run_underlying hu,U,iX,jG,asIntOf,s1,hbv,h0,show j<=n by omega,hcj,j8]
        ·rw[qX];refine Z _ ?_;rw[bm,lA] at hi;omega
        ·rw[cr] at M;split at M
         ·rw[fZ] at M;exact hr _ y M
         ·cases M
    ·cases I
   ·cases I
  ·cases I
 ·cases I
theorem XO {sz:Nat} {x:AV} {src:List AV} {m:Nat} {rd:List Nat} (hrow:x.row? h sz=ajn (src,m,rd)) {φ:PM} {E:Nat->Prop} {h':HF} {w:World} (hrd:∀ i∈rd,h' i=h.get i) (hrep:pM φ E h' w) {v:Value} (hr:cq φ (tot E φ h') w x v):
 ∃ A c vs,v= .slice A m c/\Cs φ (tot E φ h') w src vs/\vs.length=m*sz/\(A=ajo->vs=[])/\(∀ J,A=ajn J->∀ (j:Nat) u,vs[j]? =ajn u->w.cell? (J.add j)=ajn u):=by
 have emp:∀ A c,v= .slice A 0 c->src=[]->m=0->∃ A c vs,v= .slice A m c/\Cs φ (tot E φ h') w src vs/\vs.length=m*sz/\(A=ajo->vs=[])/\(∀ J,A=ajn J->∀ (j:Nat) u,vs[j]? =ajn u->w.cell? (J.add j)=ajn u):=by
  rintro A c rfl rfl rfl;exact⟨A,c,[],rfl,⟨rfl,(by intro x I;cases I),(by intro j x v I;simp at I)⟩,by simp,λ_=>rfl,by intro J _ j u hu;simp at hu⟩
 have own:∀ (id off n c k:Nat) (b:vy),φ id=ajn k->h' id=ajn b->b.c.isCells=ajp->off+n*sz<=b.c.len->v= .slice (ajn ⟨k,off,ajo⟩) n c->src=(b.c.toMx.drop off).take (n*sz)->m=n->
  ∃ A c vs,v= .slice A m c/\Cs φ (tot E φ h') w src vs/\vs.length=m*sz/\(A=ajo->vs=[])/\(∀ J,A=ajn J->∀ (j:Nat) u,vs[j]? =ajn u->w.cell? (J.add j)=ajn u):=by
  rintro id off n c k b hφ hb hc hle rfl rfl rfl;obtain⟨arr,g1,Z,g3⟩:=hrep.cs hb hφ hc;rw[BC.len_toMx hc] at hle;refine ⟨_,c,((arr.toList.take b.c.toMx.length).drop off).take (m*sz),rfl,(Z.drop off).take _,?_,(λh=>by cases h),?_⟩
  ·simp;omega
  ·intro J had j u hu;cases had;rw[j8];rw[cr] at hu;split at hu
   ·rw[fZ,cr] at hu;split at hu
    ·rw[ch] at hu;simp[LL,g1,hu]
    ·cases hu
   ·cases hu
 unfold AV.row? at hrow;split at hrow
 ·rename_i cells n;split at hrow
  ·rename_i hle;have hle:=aR hle;simp only[aa,aw] at hrow;obtain⟨rfl,rfl,rfl⟩:=hrow;cases hr with
   |f hr=>
    cases hr with
    |nil a c hc=>exact emp a c rfl (by simp) rfl
    |sl _ _ c b off us hn hc hO hb hcl hu hr=>
     refine ⟨_,c,(eU (n*sz)).map us,rfl,⟨by simp;omega,λx I=>?_,λj x u I M=>?_⟩,by simp,(λh=>by cases h),?_⟩
     ·obtain⟨y,Y,rfl⟩:=cO.1 I;exact hcl y (ir Y)
     ·obtain⟨rfl,hj⟩:=vY us _ _ _ M;rw[aU,cr,if_pos hj] at I;cases hq:cells[j]? with
      |none=>rw[hq] at I;cases I
      |some q=>rw[hq] at I;simp at I;subst I;exact .f (hr j q hq)
     ·intro J had j u M;cases had;obtain⟨rfl,hj⟩:=vY us _ _ _ M;rw[j8];exact hu j (by omega)
  ·cases hrow
 ·simp only[aa,aw] at hrow;obtain⟨rfl,rfl,rfl⟩:=hrow;exact emp ajo 0 (ep hr) rfl rfl
 ·simp only[aa,aw] at hrow;obtain⟨rfl,rfl,rfl⟩:=hrow;cases hr with
  |@emp a=>exact emp a 0 rfl rfl rfl
 ·rename_i id sz' n;split at hrow
  ·rename_i hsz;split at hrow
   ·rename_i b hb;split at hrow
    ·rename_i hc;simp only[aj] at hc;simp only[aa,aw] at hrow;obtain⟨rfl,rfl,rfl⟩:=hrow;cases hr with
     |@row _ _ _ c k hφ hn U hsh=>
      exact own id 0 n c k b hφ (by rw[hrd id (by simp)];exact hb) hc.1 (by rw[bz];exact aR hc.2) rfl (by simp) rfl
    ·cases hrow
   ·cases hrow
  ·cases hrow
 ·rename_i id off n;split at hrow
  ·rename_i b hb;split at hrow
   ·rename_i hc;simp only[aj] at hc;simp only[aa,aw] at hrow;obtain⟨rfl,rfl,rfl⟩:=hrow;cases hr with
    |@sl _ _ _ c k hφ hn U=>exact own id off n c k b hφ (by rw[hrd id (by simp)];exact hb) hc.1 (aR hc.2) rfl rfl rfl
   ·cases hrow
  ·cases hrow
 ·cases hrow
theorem Z1 {sz:Nat} {x:AV} {src:List AV} {m:Nat} {rd:List Nat} (hrow:x.row? h sz=ajn (src,m,rd)) {φ:PM} {E:Nat->Prop} {h':HF} {w:World} (hrd:∀ i∈rd,h' i=h.get i) (hrep:pM φ E h' w) {v:Value} (hr:cq φ (tot E φ h') w x v) {I el:TypeId} (hk:P.underlying I=ajn (.slice el)):
 ∃ vs,Src P sz I v m vs w/\Cs φ (tot E φ h') w src vs:=by
 obtain⟨A,c,vs,rfl,h1,J,Y,U⟩:=XO hrow hrd hrep hr;refine ⟨vs,?_,h1⟩;cases A with
 |none=>
  have:=Y rfl;subst this;have hm:m*sz=0:=by simpa using J.symm
  refine ⟨.inl ⟨el,hk⟩,λ_=>rfl,run_firstCells_none w sz m m c,run_firstCells_none w.drew sz m m c,by simp[hm],λ_ h=>by cases h⟩
 |some M=>exact Src.ofSlice w hk M m c vs J (U M rfl) h1.one
theorem ae2 {x:Nat}:∀ {l:List Nat},Vu x l=ajp↔x∈l
 |[]=>by simp[Vu]
 |y::r=>by
  simp only[Vu,hP,ae2 (l:=r),bc];constructor
  ·rintro (h|h)
   ·exact .inl (ak h).symm
   ·exact .inr h
  ·rintro (h|h)
   ·subst h;exact .inl (tu x)
   ·exact .inr h
theorem af0 {t u el el':TypeId} {d x:Operand} {sz:Nat} (ho:o.op= .call {callee:=.builtin .copy,args:=#[d,x],argTypes:=#[t,u]}) (hu:P.underlying t=ajn (.slice el)) (hu':P.underlying u=ajn (.slice el')) (hs:em P el=ajn sz) (J:dO (.copy sz d x) e h nx=ajn R):fO P o e.get h.get R.eff:=by
 simp only[dO] at J;split at J
 ·rename_i id sz' n y hd hx;split at J
  ·rename_i blk src m rd hblk hrow;split at J
   ·rename_i hc;simp only[aj,beq_iff_eq,dC] at hc;obtain⟨⟨rfl,hmem⟩,hlen⟩:=hc;split at J
    ·rename_i c' hput;simp only[aa] at J;subst J;unfold BC.put at hput;split at hput
     ·rename_i hcc;simp only[aj] at hcc;obtain⟨⟨c1,Z⟩,c3⟩:=hcc;have Z:=aR Z;rw[bz] at Z;have M:c'.toMx=splice blk.c.toMx 0 (src.take (gY m n*sz'))/\c'.isCells=ajp:=by
       split at hput
       ·rename_i l ys hbl hys;simp only[aa] at hput;subst hput;refine ⟨?_,rfl⟩;have hv:=oG hys;rw[hv,hbl];simp only[BC.toMx];unfold splice;simp[jL,List.map_drop]
       ·simp only[aa] at hput;subst hput;exact⟨rfl,rfl⟩
      refine fO.writes hblk λφ E h' w a hrd hb' hp hrep=>?_
      have hpd:=hp d _ (by rw[ho];simp[Op.operands,dP]) hd;have hpx:=hp x _ (by rw[ho];simp[Op.operands,dP]) hx;obtain⟨A,c,vs,hv,q1,q2,q3,q4⟩:=XO hrow (λi hi=>hrd i (by simp[hi])) hrep hpx;generalize hz:a.eval d=pv at hpd;cases hpd with
      |@row _ _ _ cap k hφ hn hcap hsh=>
       obtain⟨arr,g1,g2,g3⟩:=hrep.cs hb' hφ c1;rw[BC.len_toMx c1] at Z;have hmn:gY m n<=m:=Nat.min_le_left _ _;have hle:gY m n*sz'<=m*sz':=cf _ hmn
       let I:=vs.take (gY m n*sz')
       have hnl:I.length=gY m n*sz':=by simp only[I,bm,q2];omega
       have hsl:(src.take (gY m n*sz')).length=gY m n*sz':=by rw[bm,<-q1.1,q2];omega
       have csn:=q1.take (gY m n*sz');rw[hsl] at Z;have hst:=run_storeCells_at (P:=P) k 0 blk.ty I 0 arr w g1 (by rw[hnl];omega) csn.one
       let arr':Array Value:=(arr.toList.take 0++I++arr.toList.drop (0+gY m n*sz')).toArray
       have hsize:arr'.size=arr.size:=by simp only[arr',rF,bg,bm,lA,gE,hnl];omega
       have hfc:(Jn sz' (gY m n) (.slice A m c)).run P w= .ok I.toArray w:=by
        cases A with
        |none=>
         have:I=[]:=by simp[I,q3 rfl]
         rw[this];exact run_firstCells_none w sz' _ _ _
        |some ad=>exact run_firstCells_some w sz' _ ad m c I hnl (λj u hu=>q4 ad rfl j u (by
          simp only[I,cr] at hu;split at hu
          ·exact hu
          ·cases hu))
       refine ⟨.value (.int .i64 (gY m n)),w.setRow k arr',k,.cells arr' blk.ty (0,0),?_,hφ,DL.setRow g1 hsize,?_,_,.inl rfl,.f (.raw _)⟩
       ·have s1:=fy hs w;simp only[cN,hnl] at hst;unfold execOp;rw[ho];simp[resolve,invoke,builtin,Builtin.copy_,run_underlying hu,hz,hv,Builtin.lenOf,s1,hfc,hst,goInt,arr']
       ·refine oV M.2 (by rw[M.1,nh (by rw[hsl];omega),hsize];exact g3) λj q hq=>?_
        rw[M.1,lD (by rw[hsl];omega)] at hq;have ha':arr'[j]? =if j<0 then arr.toList[j]? else if j<0+I.length then I[j-0]? else arr.toList[j]? :=by
         have:=lD (l:=arr.toList) (vs:=I) (off:=0) (by simp only[gE];omega) j;unfold splice at this;simp only[arr',jA];rw[<- this,hnl]
        rw[ha',if_neg (by omega)];rw[if_neg (by omega),hsl] at hq;rw[hnl];by_cases h2:j<0+gY m n*sz'
        ·rw[if_pos h2] at hq ⊢;have U:j-0<I.length:=by rw[hnl];omega
         exact⟨csn.2.1 q (aS hq),_,ar U,csn.2.2 _ q _ hq (ar U)⟩
        ·rw[if_neg h2] at hq ⊢;have hj:j<blk.c.toMx.length:=(a8.1 hq).1;have Y:j<arr.toList.length:=by simp;omega
         refine ⟨g2.2.1 q (aS hq),arr.toList[j],ar Y,g2.2.2 j q _ hq ?_⟩;rw[cr,if_pos hj,ar Y]
     ·cases hput
    ·cases J
   ·cases J
  ·cases J
 ·cases J
theorem ai3 {t el:TypeId} {sz:Nat} {z:List Value} {x:Operand} (ho:o.op= .call {callee:=.builtin .clear,args:=#[x],argTypes:=#[t]}) (hu:P.underlying t=ajn (.slice el)) (hz:rx P el=ajn z) (hc:lz z=ajp) (hl:z.length=sz) (hsz:sz≠0) (J:dO (.clr sz z x) e h nx=ajn R):fO P o e.get h.get R.eff:=by
 simp only[dO] at J;split at J
 ·rename_i id off n hx;split at J
  ·rename_i blk hblk;split at J
   ·rename_i hn;have hn:=aR hn;obtain⟨m,rfl⟩:∃ m,n=m+1:=⟨n-1,by omega⟩
    split at J
    ·rename_i c' hput;simp only[aa] at J;subst J;unfold BC.put at hput;split at hput
     ·rename_i hcc;simp only[aj] at hcc;obtain⟨⟨c1,c2⟩,c3⟩:=hcc;have c2:=aR c2;have hsrc:((repl z (m+1)).map AV.f).length=(m+1)*sz:=by rw[bV,lG,hl]
      rw[hsrc] at c2;have U:c'.toMx=splice blk.c.toMx off ((repl z (m+1)).map AV.f)/\c'.isCells=ajp:=by
       split at hput
       ·rename_i l ys hbl hys;simp only[aa] at hput;subst hput;refine ⟨?_,rfl⟩;have hv:=oG hys;rw[hv,hbl];simp only[BC.toMx];unfold splice;simp[jL,List.map_drop]
       ·simp only[aa] at hput;subst hput;exact⟨rfl,rfl⟩
      refine fO.writes hblk λφ E h' w a hrd hb' hp hrep=>?_
      have hpx:=hp x _ (by rw[ho];simp[Op.operands,dP]) hx;generalize hzv:a.eval x=pv at hpx;cases hpx with
      |@sl _ _ _ cap k hφ hn2 hcap=>
       obtain⟨arr,g1,Z,g3⟩:=hrep.cs hb' hφ c1;rw[BC.len_toMx c1] at c2;obtain⟨v,z1,z2,_⟩:=rU hz w;have csn:=Cs.repl (φ:=φ) (O:=tot E φ h') (w:=w) z2 (m+1) sz hl hsz hc
       let M:=(km v.cells (m+1)).toList
       have hvs:v.cells.size=sz:=by rw[<- hl,<-z2];simp
       have hns:M=((wZ ((m+1)*sz)).map (λi=>v.cells[i%v.cells.size]!)).toList:=by simp only[M,km,hvs]
       have hnl:M.length=(m+1)*sz:=by rw[hns];simp
       rw[<- hns] at csn;have hst:=run_storeCells_at (P:=P) k off blk.ty M 0 arr w g1 (by rw[hnl];omega) csn.one
       let arr':Array Value:=(arr.toList.take (off+0)++M++arr.toList.drop (off+0+M.length)).toArray
       have hsize:arr'.size=arr.size:=by simp only[arr',rF,bg,bm,lA,gE,hnl];omega
       refine ⟨.value (.tuple #[]),w.setRow k arr',k,.cells arr' blk.ty (0,0),?_,hφ,DL.setRow g1 hsize,?_,_,.inl rfl,.tup (vs:=[]) rfl λj y v hy=>by simp at hy⟩
       ·unfold execOp;rw[ho];have hst2:(storeCells ⟨k,off,ajo⟩ (km v.cells (m+1)).toList).run P w= .ok () (w.setRow k arr'):=hst;simp[resolve,invoke,builtin,Builtin.clear_,run_underlying hu,hzv,z1,hst2]
       ·refine oV U.2 (by rw[U.1,nh (by rw[hsrc];omega),hsize];exact g3) λj q hq=>?_
        rw[U.1,lD (by rw[hsrc];omega)] at hq;have ha':arr'[j]? =if j<off then arr.toList[j]? else if j<off+M.length then M[j-off]? else arr.toList[j]? :=by
         have:=lD (l:=arr.toList) (vs:=M) (off:=off) (by simp only[gE];omega) j;unfold splice at this;simp only[arr',jA,cN];rw[<- this]
        rw[ha'];rw[hsrc] at hq;rw[hnl];by_cases h1:j<off
        ·rw[if_pos h1] at hq ⊢;have hj:j<blk.c.toMx.length:=(a8.1 hq).1;have I:j<arr.toList.length:=by simp;omega
         refine ⟨Z.2.1 q (aS hq),arr.toList[j],ar I,Z.2.2 j q _ hq ?_⟩;rw[cr,if_pos hj,ar I]
        rw[if_neg h1] at hq ⊢;by_cases h2:j<off+(m+1)*sz
        ·rw[if_pos h2] at hq ⊢;have Y:j-off<M.length:=by rw[hnl];omega
         exact⟨csn.2.1 q (aS hq),_,ar Y,csn.2.2 _ q _ hq (ar Y)⟩
        ·rw[if_neg h2] at hq ⊢;have hj:j<blk.c.toMx.length:=(a8.1 hq).1;have I:j<arr.toList.length:=by simp;omega
         refine ⟨Z.2.1 q (aS hq),arr.toList[j],ar I,Z.2.2 j q _ hq ?_⟩;rw[cr,if_pos hj,ar I]
     ·cases hput
    ·cases J
   ·cases J
  ·cases J
 ·cases J
end
theorem Ky (w:World) (ob:Obj):QH w (w.drew.alloc ob) ob:=QH.drawn (w.drawn+1) (pO {w with drawn:=w.drawn+1} ob)
section
variable {P:Program} {o:Oper} {e:yf} {h:mP} {nx:Nat} {R:AD}
theorem Ge {v:Value} {z:List Value} {sz:Nat} (hv:v.cells.toList=z) (hl:z.length=sz) (n:Nat):(km v.cells n).size=n*sz:=by
 have:v.cells.size=sz:=by rw[<- hl,<-hv];simp
 simp[km,this]
theorem Qw {t u el:TypeId} {s x:Operand} {i:TypeInfo} {z:List Value} (ho:o.op= .call {callee:=.builtin .append,args:=#[s,x],argTypes:=#[t,u]}) (hu:P.underlying t=ajn (.slice el)) (U:P.info? el=ajn i) (hz:rx P el=ajn z) (hzl:z.length=i.size)
 {φ:PM} {E:Nat->Prop} {h':HF} {w:World} {a:Act} (hrep:pM φ E h' w) (hnx:φ nx=ajo) {A:Option Addr} {n cap m:Nat} {olds vs:List Value} {oldA src:List AV} (hsl:a.eval s= .slice A n cap)
 (hold:(Jn i.size n (.slice A n cap)).run P w.drew= .ok olds.toArray w.drew) (csold:Cs φ (tot E φ h') w oldA olds) (hol:olds.length=n*i.size) (hsrc:Src P i.size u (a.eval x) m vs w) (hcs:Cs φ (tot E φ h') w src vs)
 (hg:cap<n+m) (r1:n+m<=1099511627776) (r2:(n+m)*i.bytes<=1099511627776) (del:List Nat) (hdel:∀ j∈del,j≠nx):
 o.wp P a w (λa' w'=>∃ v φ',a'=a.put o.dst v/\ie φ φ' h' (dQ h' (nx::del) (il [(nx,⟨el,oo (oldA++src)⟩)])) w w'/\(∀ i k,φ' i=ajn k->φ i=ajn k\/i∈[nx])/\
  pM φ' E (dQ h' (nx::del) (il [(nx,⟨el,oo (oldA++src)⟩)])) w'/\cq φ' (tot E φ' (dQ h' (nx::del) (il [(nx,⟨el,oo (oldA++src)⟩)]))) w' (.row nx i.size (n+m)) v) (λ_ _ _=>False):=by
 obtain⟨J,z1,Z,i',I,Y⟩:=rU hz w;rw[U] at I;cases I;have hfb:=growslice_fits (need:=n+m) (old:=cap) (bytes:=i.bytes) hg (by omega);have hrun:=run_append_grow_src w t u o.type el i J hu U Y A n cap olds hold (a.eval x) m vs hsrc hg (by omega) hfb;have hgc:=grownCap_ge w (n+m) cap el;have hgm:=grownCap_le_maxLen w (n+m) cap el (by unfold maxLen;omega);generalize grownCap w (n+m) cap el=Gc at hrun hgc hgm;have cs:=csold.append hcs;have hnl:=hsrc.newsLen;obtain⟨φ',p1,p2,p3,p4⟩:=hrep.wnew hnx (Ky w _) (b:=⟨el,oo (oldA++src)⟩) (ob:=.cells ((olds++vs).toArray++km J.cells (Gc-(n+m))) el (0,0)) (by
  obtain⟨M,q2⟩:=mE (oldA++src);refine oV q2 (by rw[M,<-cs.1];simp) λj q hq=>?_
  rw[M] at hq;have hj:j<(olds++vs).length:=by rw[cs.1];exact (a8.1 hq).1
  refine ⟨cs.2.1 q (aS hq),_,?_,cs.2.2 j q _ hq (ar hj)⟩;rw[Array.getElem?_append_left (by simpa using hj),jA,ar hj]) del (il [(nx,⟨el,oo (oldA++src)⟩)]) (by simp[il]) (λj hj hne=>by
   simp only[il];rw[if_neg];intro hb;exact hne (ak hb).symm)
 have hexec:(execOp a.eval o).run P w= .ok (.value (.slice (ajn ⟨w.heap.size,0,ajo⟩) (n+m) Gc)) (w.drew.alloc (.cells ((olds++vs).toArray++km J.cells (Gc-(n+m))) el)):=by
  unfold execOp;rw[ho];simp only[resolve,invoke,builtin,dI,nH,ci,List.map_toArray,ff,List.map_nil,hsl,hrun]
 unfold FK;rw[hexec];refine ⟨_,φ',rfl,p2,p3,p4,.row p1 hgc hgm ⟨el,?_⟩⟩;have:=(Ky w (.cells ((olds++vs).toArray++km J.cells (Gc-(n+m))) el (0,0))).at_;unfold qp;rw[this];have hzs:=Ge Z hzl (Gc-(n+m));have e1:(n+m)*i.size+(Gc-(n+m))*i.size=Gc*i.size:=by rw[<- LN];congr 1;omega
 simp only[Array.size_append,rF,bg,hol,hnl,hzs];congr 2;rw[<- e1,LN]
theorem ai6 {t u el el':TypeId} {s x:Operand} {sz bytes:Nat} {z:List Value} (U:o.op= .call {callee:=.builtin .append,args:=#[s,x],argTypes:=#[t,u]}) (hu:P.underlying t=ajn (.slice el)) (hu':P.underlying u=ajn (.slice el')) (hs:em P el=ajn sz) (hb:DG P el=ajn bytes) (hz:rx P el=ajn z) (hzl:z.length=sz) (hsz:sz≠0)
 (I:dO (.app el sz bytes s x) e h nx=ajn R):fO P o e.get h.get R.eff:=by
 obtain⟨i,Y,i2⟩:=Lz hb;have i3:i.size=sz:=by unfold em at hs;rw[Y] at hs;simpa using hs
 subst i2;subst i3;simp only[dO] at I;split at I
 ·rename_i bv y hsv M;split at I
  ·rename_i src m rd hrow;have common:∀ {φ:PM} {E:Nat->Prop} {h':HF} {w:World} {a:Act},(∀ i∈rd,h' i=h.get i)->TQ φ E h' w a e o->pM φ E h' w->∃ vs,Src P i.size u (a.eval x) m vs w/\Cs φ (tot E φ h') w src vs:=
    λhrd hp hrep=>Z1 hrow hrd hrep (hp x _ (by rw[U];simp[Op.operands,dP]) M) hu'
   have exec:∀ {w w':World} {a:Act} {v:Value},(Builtin.append_ #[t,u] o.type #[a.eval s,a.eval x]).run P w= .ok v w'->(execOp a.eval o).run P w= .ok (.value v) w':=by
    intro w w' a v hrun;unfold execOp;rw[U];simp[resolve,invoke,builtin,hrun]
   split at I
   ·rename_i id sz' n;split at I
    ·rename_i blk hblk;split at I
     ·rename_i hc;simp only[aj,beq_iff_eq,dC] at hc;obtain⟨⟨⟨⟨⟨rfl,hmem⟩,hcells⟩,hlen⟩,hty⟩,hroom⟩:=hc;have hlen:=aR hlen;rw[BC.len_toMx hcells] at hlen;obtain⟨r1,r2⟩:=Gs hroom;simp only[aa] at I;subst I;subst hty;intro φ E h' w a h1 h2 h3 hrep h5;have hp:TQ φ E h' w a e o:=λx y M hy=>rQ hrep h3 M hy
      have hb':h' id=ajn blk:=by rw[h1 id (by simp[AD.eff])];exact hblk
      obtain⟨vs,hsrc,hcs⟩:=common (λi hi=>h1 i (by simp[AD.eff,hi])) hp hrep;have hpd:=hp s _ (by rw[U];simp[Op.operands,dP]) hsv;have hnx:φ nx=ajo:=h5 nx (by simp[AD.eff]);have hwv:=hp s _ (by rw[U];simp[Op.operands,dP]) hsv;generalize hzv:a.eval s=pv at hpd;cases hpd with
      |@row _ _ _ cap k hφ hn hcap hsh=>
       obtain⟨arr,g1,g2,g3⟩:=hrep.cs hb' hφ hcells;have hne:nx≠id:=λe=>by rw[e,hφ] at hnx;cases hnx
       have harr:arr.size=cap*i.size:=by
        obtain⟨ty,hty⟩:=hsh;unfold qp at hty;rw[g1] at hty;simp at hty;exact hty.2
       have hnl:=hsrc.newsLen;have hnn:n*i.size<=arr.size:=by omega
       have csnew:Cs φ (tot E φ h') w (blk.c.toMx.take (n*i.size)++src) (arr.toList.take (n*i.size)++vs):=by
        have:=(g2.take (n*i.size)).append hcs
        rwa [List.take_take,qV hlen] at this
       have hnw1:il [(nx,⟨blk.ty,oo (blk.c.toMx.take (n*i.size)++src)⟩)] nx=ajn ⟨blk.ty,oo (blk.c.toMx.take (n*i.size)++src)⟩:=by simp[il]
       have hnw2:il [(nx,⟨blk.ty,oo (blk.c.toMx.take (n*i.size)++src)⟩)] id=ajo:=by
        simp only[il];rw[if_neg];intro hb;exact hne (ak hb)
       by_cases hfit:n+m<=cap
       ·
        have hend:n*i.size+vs.length<=arr.size:=by
         rw[hnl,harr,<-LN];exact cf _ hfit
        have hst:=run_storeCells_at (P:=P) k (n*i.size) blk.ty vs 0 arr w g1 (by omega) hsrc.one;simp only[cN] at hst
        let arr':Array Value:=(arr.toList.take (n*i.size)++vs++arr.toList.drop (n*i.size+vs.length)).toArray
        have hsize:arr'.size=arr.size:=by simp only[arr',rF,bg,bm,lA,gE];omega
        have hrun:(Builtin.append_ #[t,u] o.type #[a.eval s,a.eval x]).run P w= .ok (.slice (ajn ⟨k,0,ajo⟩) (n+m) cap) (w.setRow k arr'):=by
         rw[hzv];rcases hsrc.kind with ⟨e',hk⟩|hk<;>simp[Builtin.append_,run_underlying hu,run_underlying hk,sizeOf,typeInfo,Y,hsrc.len,hfit,hsrc.cells,j8,hst,arr']
        obtain⟨φ',p1,p2,p3,p4⟩:=hrep.wren hb' hφ hnx (DL.setRow g1 hsize) (b':=⟨blk.ty,oo (blk.c.toMx.take (n*i.size)++src)⟩) (by
         obtain⟨q1,q2⟩:=mE (blk.c.toMx.take (n*i.size)++src);refine oV q2 (by rw[q1,<-csnew.1,hsize];simp;omega) λj q hq=>?_
         rw[q1] at hq;have hj:j<(arr.toList.take (n*i.size)++vs).length:=by rw[csnew.1];exact (a8.1 hq).1
         refine ⟨csnew.2.1 q (aS hq),_,?_,csnew.2.2 j q _ hq (ar hj)⟩;simp only[arr',jA];rw[bA hj,ar hj]) _ hnw1 hnw2
        unfold FK;rw[exec hrun];refine ⟨_,φ',rfl,p2,p3,p4,.row p1 hfit hcap ⟨blk.ty,?_⟩⟩;unfold qp;rw[setRow_heap w k arr arr' blk.ty (0,0) g1];simp[hsize,harr]
       ·
        have hold:(Jn i.size n (.slice (ajn ⟨k,0,ajo⟩) n cap)).run P w.drew= .ok (arr.toList.take (n*i.size)).toArray w.drew:=by
         refine run_firstCells_some w.drew i.size n _ n cap _ (by simp;omega) λj v hv=>?_
         rw[cr] at hv;split at hv
         ·rw[ch] at hv;rw[j8,bz];have hcl:w.cell? ⟨k,j,ajo⟩=ajn v:=by simp[LL,g1,hv]
          simpa using hcl
         ·cases hv
        exact Qw U hu Y hz hzl hrep hnx hzv hold (by
         have:=g2.take (n*i.size)
         rwa [List.take_take,qV hlen] at this) (by simp;omega) hsrc hcs (by omega) r1 r2 [id] (λj hj=>by simp at hj;subst hj;exact λe=>hne e.symm)
     ·cases I
    ·cases I
   ·split at I
    ·rename_i hc;simp only[aj] at hc;obtain⟨J,hroom⟩:=hc;obtain⟨r1,r2⟩:=Gs hroom;have hbase:∀ {φ:PM} {O:Nat->Prop} {w:World} {v:Value},cq φ O w bv v->∃ A,v= .slice A 0 0:=by
      intro φ O w v hr;unfold Hb at J;split at J
      ·cases hr;exact⟨_,rfl⟩
      ·rename_i q;cases ep hr;unfold yz at J;split at J
       ·exact⟨_,rfl⟩
       ·cases J
      ·cases J
     split at I
     ·rename_i hm;have hm:m=0:=by simpa using hm
      subst hm;simp only[aa] at I;subst I;refine fO.reads λφ E h' w a hrd hp hrep=>?_
      obtain⟨vs,hsrc,hcs⟩:=common hrd hp hrep;have hr:=hp s _ (by rw[U];simp[Op.operands,dP]) hsv;obtain⟨A,hA⟩:=hbase hr;refine ⟨a.eval s,exec ?_,hr⟩;rw[hA];have hvs:vs=[]:=by have:=hsrc.newsLen;simpa using this
      have Z:=hsrc.cells;rw[hvs] at Z;rcases hsrc.kind with ⟨e',hk⟩|hk<;>cases A<;>simp[Builtin.append_,run_underlying hu,run_underlying hk,sizeOf,typeInfo,Y,hsrc.len,Z,storeCells]
     ·rename_i hm;have hm:m≠0:=by simpa using hm
      simp only[aa] at I;subst I;intro φ E h' w a h1 h2 h3 hrep h5;have hp:TQ φ E h' w a e o:=λx y M hy=>rQ hrep h3 M hy
      obtain⟨vs,hsrc,hcs⟩:=common (λi hi=>h1 i hi) hp hrep;obtain⟨A,hA⟩:=hbase (hp s _ (by rw[U];simp[Op.operands,dP]) hsv);have hold:(Jn i.size 0 (.slice A 0 0)).run P w.drew= .ok ([]:List Value).toArray w.drew:=by
       cases A with
       |none=>exact run_firstCells_none w.drew i.size 0 0 0
       |some ad=>exact run_firstCells_some w.drew i.size 0 ad 0 0 [] (by simp) (by intro j v hv;simp at hv)
      have:=Qw (nx:=nx) (n:=0) (cap:=0) (olds:=[]) (oldA:=[]) U hu Y hz hzl hrep (h5 nx (by simp[AD.eff])) hA hold ⟨rfl,(by intro x M;cases M),(by intro j x v M;simp at M)⟩ (by simp) hsrc hcs (by omega) (by omega) (by simpa using r2) [] (by simp);simpa[AD.eff] using this
    ·cases I
  ·cases I
 ·cases I
end
section
variable {P:Program} {o:Oper} {e:yf} {h:mP} {nx:Nat} {R:AD}
theorem ahu {t:TypeId} (M:o.op= .makeMap t ajo) (I:dO .mkm e h nx=ajn R):fO P o e.get h.get R.eff:=by
 simp only[dO,aa] at I;subst I;refine fO.makes λφ E h' w a _ _ _=>?_
 refine ⟨.map (ajn w.heap.size),{w with heap:=w.heap.push (.map #[] 0)},.map #[] 0,?_,pO w _,⟨#[],0,rfl,rfl,by intro j x J;simp at J⟩,λφ' O hφ=>.mp hφ⟩;unfold execOp;rw[M];simp[Instr.makeMap,newObj,mq]
theorem ahp {t:TypeId} {x:Operand} (J:o.op= .range t x) (hu:P.underlying t=ajn .string) (I:dO (.rng x) e h nx=ajn R):fO P o e.get h.get R.eff:=by
 simp only[dO] at I;split at I
 ·rename_i s M;simp only[aa] at I;subst I;refine fO.makes λφ E h' w a _ hp _=>?_
  have hr:=ep (hp x _ (by rw[J];simp[Op.operands]) M);refine ⟨.pointer (ajn ⟨w.heap.size,0,ajo⟩),{w with heap:=w.heap.push (.stringIter s 0)},.stringIter s 0,?_,pO w _,rfl,λφ' O hφ=>.ptr hφ⟩;unfold execOp;rw[J];simp[Instr.range,run_underlying hu,hr,newObj,mq]
 ·cases I
theorem Gf {w:World} {k:Nat} {ob ob':Obj} (hk:w.heap[k]? =ajn ob) (h1:∀ c t f,ob≠ .cells c t f) (I:∀ c t f,ob'≠ .cells c t f):DL w {w with heap:=w.heap.setIfInBounds k ob'} k ob':=by
 have hlt:k<w.heap.size:=(b9.1 hk).1;have hat:(w.heap.setIfInBounds k ob')[k]? =ajn ob':=by simp[hlt]
 have hot:∀ j,j≠k->(w.heap.setIfInBounds k ob')[j]? =w.heap[j]? :=λj hj=>oI (λe=>hj e.symm)
 refine ⟨rfl,rfl,rfl,by simp,hat,hot,λj=>?_⟩;unfold qp;by_cases hj:j=k
 ·subst hj;simp only[hat,hk];cases ob<;>cases ob'<;>first|rfl|exact absurd rfl (h1 _ _ _)|exact absurd rfl (I _ _ _)
 ·simp only[hot j hj]
theorem ahq {x:Operand} (Z:o.op= .next x ajp) (I:dO (.nxt x) e h nx=ajn R):fO P o e.get h.get R.eff:=by
 simp only[dO] at I;split at I
 ·rename_i id hx;split at I
  ·rename_i ty s p hid;split at I
   ·rename_i b hb;split at I
    ·rename_i hlt;have hlt:=aR hlt;simp only[aa] at I;subst I;refine fO.writes hid λφ E h' w a hrd M hp hrep=>?_
     have hr:=hp x _ (by rw[Z];simp[Op.operands]) hx;generalize hz:a.eval x=z at hr;cases hr with
     |@ptr _ _ k hφ=>
      obtain⟨k',Y,_,ob,U,q3⟩:=hrep.at_ id _ M;rw[hφ] at Y;cases Y;have q3:ob= .stringIter s p:=q3;subst q3;have hps:p<s.size:=by
       have:=(a8.1 hb).1;simpa using this
      have hget:s.get! p=b:=by
       have:s.data[p]? =ajn b:=by rw[<- ch];exact hb
       have hpd:p<s.data.size:=(b9.1 this).1;have h2:s.data[p]! =s.data[p]:=getElem!_pos s.data p hpd;rw[gu hpd] at this;simp only[ByteArray.get!,h2];exact jd this
      have hdec:Utf8.decode s p=(b.toNat,1):=by
       unfold Utf8.decode;simp only[cN,hget];rw[if_pos (by omega)]
      refine ⟨.value (.tuple #[.bool ajp,.int .i64 p,.int .i32 b.toNat]),_,k,.stringIter s (p+1),?_,hφ,Gf U (by simp) (by simp),rfl,_,.inl rfl,?_⟩
      ·unfold execOp;rw[Z];simp[Instr.next,hz,getObj,mq,U,hps,hdec,setObj,goInt]
      ·refine cq.tup (vs:=[.bool ajp,.int .i64 p,.int .i32 b.toNat]) rfl λj y v J hv=>?_
       rcases j with _|_|_|j<;>simp at J hv
       ·subst J;subst hv;exact .f (.raw _)
       ·subst J;subst hv;exact .f (.raw _)
       ·subst J;subst hv;exact .f (.raw _)
    ·cases I
   ·rename_i hb;simp only[aa] at I;subst I;refine fO.writes hid λφ E h' w a hrd M hp hrep=>?_
    have hr:=hp x _ (by rw[Z];simp[Op.operands]) hx;generalize hz:a.eval x=z at hr;cases hr with
    |@ptr _ _ k hφ=>
     obtain⟨k',Y,_,ob,U,q3⟩:=hrep.at_ id _ M;rw[hφ] at Y;cases Y;have q3:ob= .stringIter s p:=q3;subst q3;have hps:¬p<s.size:=by
      have:=List.getElem?_eq_none_iff.1 hb;have e:s.data.toList.length=s.size:=by simp
      omega
     refine ⟨.value (.tuple #[.bool ajq]),w,k,.stringIter s p,?_,hφ,⟨rfl,rfl,rfl,rfl,U,λ_ _=>rfl,λ_=>rfl⟩,rfl,_,.inl rfl,?_⟩
     ·unfold execOp;rw[Z];simp[Instr.next,hz,getObj,mq,U,hps]
     ·refine cq.tup (vs:=[.bool ajq]) rfl λj y v J hv=>?_
      rcases j with _|j<;>simp at J hv;subst J;subst hv;exact .f (.raw _)
  ·cases I
 ·cases I
theorem ya {a b:ByteArray}:qD a b=ajp↔a=b:=by
 unfold qD;constructor
 ·intro h;have h1:a.data.toList=b.data.toList:=by simpa using h
  cases a;cases b;congr 1;exact Jo h1
 ·rintro rfl;simp
theorem DF (a b:ByteArray):(a==b)=qD a b:=by
 have h1:(a==b)=(a.data==b.data):=rfl;rw[h1,Bool.eq_iff_iff,ya,beq_iff_eq];constructor
 ·intro h;cases a;cases b;congr 1
 ·rintro rfl;rfl
def kd (str:Bool) (d:TypeDesc):Prop:=if str then d= .string else ∃ k,d= .int k
theorem AZ {str:Bool} {d:TypeDesc} (hd:kd str d) {k I:Value} (hk:xv str k=ajp) {b:Bool} (hb:td .eql k I=ajn (.bool b)):Instr.sameNow d k I=ajn b:=by
 unfold kd at hd;cases str with
 |true=>
  simp only[if_true] at hd;subst hd;cases k<;>simp[xv] at hk;cases I<;>simp only[td] at hb<;>try (simp at hb;done)
  simp only[aa,AF] at hb;simp[Instr.sameNow,DF,hb]
 |false=>
  simp only[b8,if_false] at hd;obtain⟨q,rfl⟩:=hd;cases k<;>simp[xv] at hk;cases I<;>simp only[td] at hb<;>try (simp at hb;done)
  split at hb
  ·rename_i hkk;have hkk':=eq_of_beq hkk;subst hkk';simp only[aa,AF] at hb;simp[Instr.sameNow,<-hb]
  ·cases hb
theorem Pd {str:Bool} {d:TypeDesc} (hd:kd str d) {k:Value} (hk:xv str k=ajp):∀ (es:List (Value×AV)) (ents:List MapEntry) (i:Nat),ents.map (·.key)=es.map (·.1)->∀ r,rK k es=ajn r->
 (r=ajo/\iH d k ents i=ajn ajo)\/∃ (j:Nat) (v:AV) (m:MapEntry) (J:Value),r=ajn v/\es[j]? =ajn (J,v)/\ents[j]? =ajn m/\iH d k ents i=ajn (ajn (i+j,m.val))/\td .eql k J=ajn (.bool ajp)
 |[],ents,i,he,r,h=>by
  cases ents with
  |nil=>simp only[rK,aa] at h;exact .inl ⟨h.symm,rfl⟩
  |cons _ _=>simp at he
 |(J,v)::es,ents,i,he,r,h=>by
  cases ents with
  |nil=>simp at he
  |cons m ents=>
   simp only[ff,gZ] at he;obtain⟨I,M⟩:=he;simp only[rK] at h;split at h
   ·rename_i hb;simp only[aa] at h;refine .inr ⟨0,v,m,J,h.symm,rfl,rfl,?_,hb⟩;simp only[iH];rw[I,AZ hd hk hb];rfl
   ·rename_i hb;have hs:=AZ hd hk hb;rcases Pd hd hk es ents (i+1) M r h with ⟨h1,U⟩|⟨j,Y,m',k'',h1,U,h3,h4,Z⟩
    ·refine .inl ⟨h1,?_⟩;simp only[iH];rw[I,hs];exact U
    ·refine .inr ⟨j+1,Y,m',k'',h1,by simpa using U,by simpa using h3,?_,Z⟩;simp only[iH];rw[I,hs];show iH d k ents (i+1)=_;rw[h4,show i+1+j=i+(j+1) from by omega]
   ·cases h
theorem Ba {I:TypeId} {str:Bool} {d:TypeDesc} (hu:P.underlying I=ajn d) (hd:kd str d) (b:Bool) (v:Value) (w:World):(Instr.checkKey b 10000 I v).run P w= .ok () w:=by
 have key:∀ n,(Instr.checkKey b (n+1) I v).run P w= .ok () w:=λn=>by
  unfold kd at hd;cases str with
  |true=>simp only[if_true] at hd;subst hd;simp[Instr.checkKey,run_underlying hu]
  |false=>simp only[b8,if_false] at hd;obtain⟨q,rfl⟩:=hd;simp[Instr.checkKey,run_underlying hu]
 exact key 9999
theorem ad7 {t kt el:TypeId} {x k:Operand} {str:Bool} {d:TypeDesc} {z:Value} (U:o.op= .lookup t x k ajq) (hu:P.underlying t=ajn (.map kt el)) (hk:P.underlying kt=ajn d) (hd:kd str d) (M:(P.info? el).bind (·.zero)=ajn z) (I:dO (.lku str z x k) e h nx=ajn R):fO P o e.get h.get R.eff:=by
 simp only[dO] at I;split at I
 ·rename_i id key hx hkx;split at I
  ·rename_i ty es hid;split at I
   ·rename_i hko;have fin:∀ val:AV,(∀ (φ:PM) (E:Nat->Prop) (h':HF) (w:World) (a:Act),h' id=ajn ⟨ty,.mp es⟩->TQ φ E h' w a e o->pM φ E h' w->∃ v,(execOp a.eval o).run P w= .ok (.value v) w/\cq φ (tot E φ h') w val v)->R=⟨val,[id],[],[],[]⟩->fO P o e.get h.get R.eff:=by
     rintro val hv rfl;exact fO.reads λφ E h' w a hrd hp hrep=>hv φ E h' w a (by rw[hrd id (by simp)];exact hid) hp hrep
    have zrun:∀ w:World,(zeroValue el).run P w= .ok z w:=λw=>by
     cases hi:P.info? el with
     |none=>rw[hi] at M;cases M
     |some i=>rw[hi] at M;simp only[aA] at M;simp[zeroValue,typeInfo,hi,M]
    have main:∀ r,rK key es=ajn r->∀ (φ:PM) (E:Nat->Prop) (h':HF) (w:World) (a:Act),h' id=ajn ⟨ty,.mp es⟩->TQ φ E h' w a e o->pM φ E h' w->
     ∃ v,(execOp a.eval o).run P w= .ok (.value v) w/\cq φ (tot E φ h') w (match r with|some v=>v|none=>raw z) v:=by
     intro r hr φ E h' w a Y hp hrep;have hrx:=hp x _ (by rw[U];simp[Op.operands]) hx;have hrk:=ep (hp k _ (by rw[U];simp[Op.operands]) hkx);generalize J:a.eval x=zz at hrx;cases hrx with
     |@mp _ b hφ=>
      obtain⟨k',q1,_,ob,q2,q3⟩:=hrep.at_ id _ Y;rw[hφ] at q1;cases q1;obtain⟨ents,clock,rfl,q4,q5⟩:=q3;have hck:=Ba (P:=P) hk hd ents.isEmpty key w;rcases Pd hd hko es ents.toList 0 q4 r hr with ⟨h1,Z⟩|⟨j,v,m,k',h1,Z,h3,h4,_⟩
      ·subst h1;refine ⟨z,?_,.f (.raw z)⟩;unfold execOp;rw[U];simp[Instr.lookup,run_underlying hu,J,hrk,getObj,mq,q2,hck,Instr.findKey,run_underlying hk,Z,zrun]
      ·subst h1;obtain⟨m',h6,h7⟩:=q5 j _ Z;rw[ch] at h3;rw[h3] at h6;cases h6;refine ⟨m.val,?_,h7⟩;unfold execOp;rw[U];simp[Instr.lookup,run_underlying hu,J,hrk,getObj,mq,q2,hck,Instr.findKey,run_underlying hk,h4]
    split at I
    ·rename_i v hf;simp only[aa] at I;exact fin v (main _ hf) I.symm
    ·rename_i hf;simp only[aa] at I;exact fin (raw z) (main _ hf) I.symm
    ·cases I
   ·cases I
  ·cases I
 ·cases I
theorem Uh {str:Bool} {d:TypeDesc} (hd:kd str d) {k:Value} (hk:xv str k=ajp) {v:AV}:∀ (es es':List (Value×AV)) (ents:List MapEntry) (i:Nat),ents.map (·.key)=es.map (·.1)->xt k v es=ajn es'->
 (iH d k ents i=ajn ajo/\es'=es++[(k,v)])\/∃ (j:Nat) (m:MapEntry) (J:Value) (M:AV),es[j]? =ajn (J,M)/\ents[j]? =ajn m/\iH d k ents i=ajn (ajn (i+j,m.val))/\td .eql k J=ajn (.bool ajp)/\es'=es.set j (k,v)
 |[],es',ents,i,he,h=>by
  cases ents with
  |nil=>simp only[xt,aa] at h;exact .inl ⟨rfl,by simp[h]⟩
  |cons _ _=>simp at he
 |(J,M)::es,es',ents,i,he,h=>by
  cases ents with
  |nil=>simp at he
  |cons m ents=>
   simp only[ff,gZ] at he;obtain⟨I,U⟩:=he;simp only[xt] at h;split at h
   ·rename_i hb;simp only[aa] at h;refine .inr ⟨0,m,J,M,rfl,rfl,?_,hb,by simp[h]⟩;simp only[iH];rw[I,AZ hd hk hb];rfl
   ·rename_i hb;have hs:=AZ hd hk hb;split at h
    ·rename_i es2 hes2;simp only[aa] at h;subst h;rcases Uh hd hk es es2 ents (i+1) U hes2 with ⟨h1,Y⟩|⟨j,m',k'',v'',h1,Y,h3,h4,Z⟩
     ·refine .inl ⟨?_,by simp[Y]⟩;simp only[iH];rw[I,hs];exact h1
     ·refine .inr ⟨j+1,m',k'',v'',by simpa using h1,by simpa using Y,?_,h4,by simp[Z]⟩;simp only[iH];rw[I,hs];show iH d k ents (i+1)=_;rw[h3,show i+1+j=i+(j+1) from by omega]
    ·cases h
   ·cases h
theorem YI {str:Bool} {k I:Value} (hk:xv str k=ajp) (hb:td .eql k I=ajn (.bool ajp)):Instr.sameBits 10000 I k=ajp/\I=k:=by
 cases str with
 |true=>
  cases k<;>simp[xv] at hk;cases I<;>simp only[td] at hb<;>try (simp at hb;done)
  simp only[aa,AF] at hb;have:=ya.1 hb;subst this;exact⟨by simp[Instr.sameBits,DF,hb],rfl⟩
 |false=>
  cases k<;>simp[xv] at hk;cases I<;>simp only[td] at hb<;>try (simp at hb;done)
  split at hb
  ·rename_i hkk;have hkk':=eq_of_beq hkk;subst hkk';simp only[aa,AF,beq_iff_eq] at hb;subst hb;exact⟨by simp[Instr.sameBits],rfl⟩
  ·cases hb
theorem ad6 {t kt el:TypeId} {x k y:Operand} {str:Bool} {d:TypeDesc} (U:o.op= .mapUpdate t x k y) (hu:P.underlying t=ajn (.map kt el)) (hk:P.underlying kt=ajn d) (hd:kd str d) (I:dO (.mup str x k y) e h nx=ajn R):fO P o e.get h.get R.eff:=by
 simp only[dO] at I;split at I
 ·rename_i id key v hx hkx hy;split at I
  ·rename_i ty es hid;split at I
   ·rename_i hko;split at I
    ·rename_i es' hput;simp only[aa] at I;subst I;refine fO.writes hid λφ E h' w a hrd hb' hp hrep=>?_
     have hrx:=hp x _ (by rw[U];simp[Op.operands]) hx;have hrk:=ep (hp k _ (by rw[U];simp[Op.operands]) hkx);have hry:=hp y _ (by rw[U];simp[Op.operands]) hy;generalize M:a.eval x=zz at hrx;cases hrx with
     |@mp _ b hφ=>
      obtain⟨Z,q1,_,ob,Y,q3⟩:=hrep.at_ id _ hb';rw[hφ] at q1;cases q1;obtain⟨ents,clock,rfl,q4,q5⟩:=q3;have hck:=Ba (P:=P) hk hd ajq key w;have hlen:ents.size=es.length:=by have:=congrArg af q4;simpa using this
      rcases Uh hd hko es es' ents.toList 0 q4 hput with ⟨h1,rfl⟩|⟨j,m,Z,v',h1,J,h3,h4,rfl⟩
      ·refine ⟨.skip,_,b,.map (ents.push {key,val:=a.eval y,born:=clock}) (clock+1),?_,hφ,Gf Y (by simp) (by simp),⟨_,_,rfl,by simp[q4],λj q hq=>?_⟩,undef,.inr ⟨rfl,rfl⟩,.f (.raw _)⟩
       ·unfold execOp;rw[U];simp[Instr.mapUpdate,run_underlying hu,M,hrk,getObj,mq,Y,hck,Instr.findKey,run_underlying hk,h1,setObj]
       ·rcases bI j es.length with hj|hj
        ·rw[bA hj] at hq;obtain⟨m,g1,g2⟩:=q5 j q hq;exact⟨m,by rw[Array.getElem?_push,if_neg (by omega)];exact g1,g2⟩
        ·rw[bJ hj] at hq;have hj0:j-es.length=0:=by
          rcases Jm (j-es.length) with h0|h0
          ·exact h0
          ·rw[bB (by simp;omega)] at hq;cases hq
         rw[hj0] at hq;simp at hq;subst hq;exact⟨_,by rw[Array.getElem?_push,if_pos (by omega)],hry⟩
      ·obtain⟨s1,s2⟩:=YI hko h4;subst s2;rw[ch] at J;rw[bz] at h3;have hjl:j<ents.size:=(b9.1 J).1;have hmk:m.key=Z:=by
        have e1:(ents.toList.map (·.key))[j]? =ajn m.key:=by rw[aU,ch,J];rfl
        rw[q4,aU,h1] at e1;simpa using e1.symm
       refine ⟨.skip,_,b,.map (ents.modify j λe=>{e with key:=Z,val:=a.eval y}) clock,?_,hφ,Gf Y (by simp) (by simp),⟨_,_,rfl,?_,λi q hq=>?_⟩,undef,.inr ⟨rfl,rfl⟩,.f (.raw _)⟩
       ·unfold execOp;rw[U];simp[Instr.mapUpdate,run_underlying hu,M,hrk,getObj,mq,Y,hck,Instr.findKey,run_underlying hk,h3,setObj,J,hmk,Instr.keyThatStays,s1]
       ·apply List.ext_getElem?;intro i;simp only[aU,ch,rG,Array.getElem?_modify];have e2:∀ i:Nat,(ents[i]?).map (λm:MapEntry=>m.key)=(es[i]?).map (λp:Value×AV=>p.1):=λi=>by
         have:=congrArg (λl=>l[i]?) q4;simpa[aU,ch] using this
        by_cases hij:j=i
        ·subst hij;simp[J,show j<es.length by omega]
        ·simp only[hij,if_false];exact e2 i
       ·rw[rG] at hq;rw[Array.getElem?_modify];by_cases hij:j=i
        ·subst hij;simp[show j<es.length by omega] at hq;subst hq;exact⟨{m with key:=Z,val:=a.eval y},by simp[J],hry⟩
        ·simp only[hij,if_false] at hq ⊢;exact q5 i q hq
    ·cases I
   ·cases I
  ·cases I
 ·cases I
end
section
variable {P:Program} {o:Oper} {e:yf} {h:mP} {nx:Nat} {R:AD}
theorem Oc {t:TypeId} {d:TypeDesc} (hu:P.underlying t=ajn d) (hd:(match d with|.int _=>ajp|.bool=>ajp|.string=>ajp|_=>ajq)=ajp) (cs:Array Value) (j:Nat) (v:Value) (hv:cs[j]? =ajn v) (w:World):(part t cs j).run P w= .ok v w:=by
 unfold part;simp only[isAgg,dI,run_underlying hu,ci];cases d<;>simp at hd<;>simp[hv]
theorem V4 {t:TypeId} {d:TypeDesc} (hu:P.underlying t=ajn d) (hd:(match d with|.int _=>ajp|.bool=>ajp|.string=>ajp|_=>ajq)=ajp) {x y:FV} {b:Bool} (hxy:v9 d x y=ajn b) {u v:Value} (M:x= .raw u) (J:y= .raw v) (n:Nat) (w:World):(Op.equalIn (n+1) t u v).run P w= .ok b w:=by
 subst M;subst J;cases d<;>simp at hd<;>cases u<;>cases v<;>simp only[v9] at hxy<;>first|(cases hxy;done)|skip
 ·simp only[aa] at hxy;subst hxy;simp[Op.equalIn,run_underlying hu]
 ·split at hxy
  ·rename_i hk;have I:=eq_of_beq hk;subst I;simp only[aa] at hxy;subst hxy;simp[Op.equalIn,run_underlying hu]
  ·cases hxy
 ·simp only[aa] at hxy;subst hxy;simp[Op.equalIn,run_underlying hu,DF]
abbrev HQ (n:Nat) (xs I:Array Value) (f:Field) (_:Option Bool×Unit):Sem (ForInStep (Option Bool×Unit)):=
 if f.name≠ "_" then do
  let a←part f.type xs f.offset
  let b←part f.type I f.offset
  let c←Op.equalIn (n+1) f.type a b
  if (!c)=ajp then pure (ForInStep.done (ajn ajq,())) else pure (ForInStep.yield (ajo,()))
 else pure (ForInStep.yield (ajo,()))
theorem La (n:Nat) (w:World) (xs I:Array Value):∀ (fs:List Field) (ds:List TypeDesc) (a b:List FV) (k:Nat) (r:Bool),qv P k fs=ajn ds->
 (∀ (j:Nat) x u,a[j]? =ajn x->xs[k+j]? =ajn u->x= .raw u\/∀ v,x≠ .raw v)->(∀ (j:Nat) x u,b[j]? =ajn x->I[k+j]? =ajn u->x= .raw u\/∀ v,x≠ .raw v)->(∀ (j:Nat),j<a.length->k+j<xs.size)->(∀ (j:Nat),j<b.length->k+j<I.size)->nR ds a b=ajn r->
 (forIn fs (ajo,()) (HQ n xs I)).run P w= .ok (if r then (ajo,()) else (ajn ajq,())) w
 |[],ds,a,b,k,r,hp,_,_,_,_,he=>by
  simp only[qv,aa] at hp;subst hp;cases a<;>cases b<;>simp[nR] at he;subst he;simp
 |f::fs,ds,a,b,k,r,hp,ha,hb,hla,hlb,he=>by
  simp only[qv] at hp;split at hp
  ·rename_i d ds' hu Z;split at hp
   ·rename_i hc;simp only[aj,bne_iff_ne,ne_eq,beq_iff_eq] at hc;obtain⟨⟨hn,hof⟩,hd⟩:=hc;simp only[aa] at hp;subst hp;cases a with
    |nil=>cases b<;>simp[nR] at he
    |cons x a=>
     cases b with
     |nil=>simp[nR] at he
     |cons y b=>
      simp only[nR] at he;have U:k<xs.size:=by have:=hla 0 (by simp);omega
      have M:k<I.size:=by have:=hlb 0 (by simp);omega
      have hraw:∀ (z:FV) (q:Value),(z= .raw q\/∀ v,z≠ .raw v)->(∃ v,z= .raw v)->z= .raw q:=by
       rintro z q (h|h) ⟨v,hv⟩
       ·exact h
       ·exact absurd hv (h v)
      have hxr:∀ J,v9 d x y=ajn J->x= .raw xs[k]/\y= .raw I[k]:=by
       intro J hbb;have hrr:(∃ v,x= .raw v)/\∃ v,y= .raw v:=by
        unfold v9 at hbb;split at hbb
        ·exact⟨⟨_,rfl⟩,⟨_,rfl⟩⟩
        ·exact⟨⟨_,rfl⟩,⟨_,rfl⟩⟩
        ·exact⟨⟨_,rfl⟩,⟨_,rfl⟩⟩
        ·cases hbb
       exact⟨hraw x _ (ha 0 x _ rfl (by simp[U])) hrr.1,hraw y _ (hb 0 y _ rfl (by simp[M])) hrr.2⟩
      have hstep:∀ J,v9 d x y=ajn J->(HQ n xs I f (ajo,())).run P w= .ok (if J then ForInStep.yield (ajo,()) else ForInStep.done (ajn ajq,())) w:=by
       intro J hbb;obtain⟨h1,Y⟩:=hxr J hbb;have p1:=Oc hu (by cases d<;>simp[Gy] at hd<;>rfl) xs k xs[k] (by simp[U]) w;have p2:=Oc hu (by cases d<;>simp[Gy] at hd<;>rfl) I k I[k] (by simp[M]) w;have p3:=V4 hu (by cases d<;>simp[Gy] at hd<;>rfl) hbb h1 Y n w;unfold HQ;rw[if_pos hn,hof];simp only[dI,p1,p2,p3,ci];cases J<;>simp
      rw[List.forIn_cons];simp only[dI];split at he
      ·rename_i hbb;rw[hstep ajp hbb];simp only[ci,if_true];exact La n w xs I fs ds' a b (k+1) r Z (λj x u h1 Y=>ha (j+1) x u (by simpa using h1) (by rw[<- Y];congr 1;omega)) (λj x u h1 Y=>hb (j+1) x u (by simpa using h1) (by rw[<- Y];congr 1;omega))
        (λj hj=>by have:=hla (j+1) (by simpa using hj);omega) (λj hj=>by have:=hlb (j+1) (by simpa using hj);omega) he
      ·rename_i hbb;rw[hstep ajq hbb];simp only[aa] at he;subst he;simp
      ·cases he
   ·cases hp
  ·cases hp
theorem V3 {t:TypeId} {fs:Array Field} (hu:P.underlying t=ajn (.struct fs)) (hs:P.stoodInHeld t=ajq) {ds:List TypeDesc} (hp:qv P 0 fs.toList=ajn ds) (xs I:Array Value) {a b:List FV} {r:Bool}
 (M:∀ (j:Nat) x u,a[j]? =ajn x->xs[j]? =ajn u->x= .raw u\/∀ v,x≠ .raw v) (hb:∀ (j:Nat) x u,b[j]? =ajn x->I[j]? =ajn u->x= .raw u\/∀ v,x≠ .raw v) (hla:a.length=xs.size) (hlb:b.length=I.size) (he:nR ds a b=ajn r) (w:World):
 (Op.equal t (.agg xs) (.agg I)).run P w= .ok r w:=by
 have key:∀ n,(Op.equalIn (n+2) t (.agg xs) (.agg I)).run P w= .ok r w:=by
  intro n;rw[Op.equalIn];have h1:=La (P:=P) n w xs I fs.toList ds a b 0 r hp (λj x u h1 J=>M j x u h1 (by simpa using J)) (λj x u h1 J=>hb j x u h1 (by simpa using J)) (λj hj=>by omega) (λj hj=>by omega) he;rw[Array.forIn_toList] at h1;simp only[dI,run_underlying hu,ci,program,mq,hs,b8,if_false];have J:(forIn fs (ajo,()) (λf __s=>HQ n xs I f __s)).run P w= .ok (if r then (ajo,()) else (ajn ajq,())) w:=h1;unfold HQ at J;rw[J];cases r<;>simp
 exact key 9998
theorem Pj {t:TypeId} {fs:Array Field} (hu:P.underlying t=ajn (.struct fs)) {ds:List TypeDesc} (hp:qv P 0 fs.toList=ajn ds):P.eqGuardType P.depth t=ajq:=by
 have key:∀ (fs:List Field) (k:Nat) (ds:List TypeDesc),qv P k fs=ajn ds→∀ d,(fs.any λf=>f.name != "_" &&P.eqGuardType (d+1) f.type)=ajq:=by
  intro fs;induction fs with
  |nil=>intros;rfl
  |cons f fs M=>
   intro k ds hp d;simp only[qv] at hp;split at hp
   ·rename_i U ds' I J;split at hp
    ·rename_i hc;simp only[aj] at hc;have:P.eqGuardType (d+1) f.type=ajq:=by
      unfold Program.eqGuardType;rw[I];have:=hc.2;cases U<;>simp[Gy] at this<;>rfl
     simp only[List.any_cons,this,Bool.and_false,Bool.false_or];exact M (k+1) ds' J d
    ·cases hp
   ·cases hp
 unfold Program.depth Program.eqGuardType;rw[hu];simp only[];rw[← Array.any_toList];exact key fs.toList 0 ds hp _
theorem ad8 {t t':TypeId} {op:BinOp} {neg:Bool} {x y:Operand} {fs:Array Field} {ds:List TypeDesc} (Z:o.op= .binOp op t x y t') (hop:op=if neg then .neq else .eql) (hu:P.underlying t=ajn (.struct fs)) (hs:P.stoodInHeld t=ajq) (hp:qv P 0 fs.toList=ajn ds) (I:dO (.eqs neg ds x y) e h nx=ajn R):fO P o e.get h.get R.eff:=by
 simp only[dO] at I;split at I
 ·rename_i a b M hy;split at I
  ·rename_i r hr;rw[cR I];refine fO.reads λφ E h' w ac _ hpp _=>?_
   have h1:=hpp x _ (by rw[Z];simp[Op.operands]) M;have J:=hpp y _ (by rw[Z];simp[Op.operands]) hy;generalize hzx:ac.eval x=zx at h1;generalize hzy:ac.eval y=zy at J;have rawOr:∀ (l:List FV) (vs:List Value),(∀ (j:Nat) x v,l[j]? =ajn x->vs[j]? =ajn v->mj (tot E φ h') w x v)->∀ (j:Nat) x u,l[j]? =ajn x->vs.toArray[j]? =ajn u->x= .raw u\/∀ v,x≠ .raw v:=by
    intro l vs hr j x u M hu;have:=hr j x u M (by simpa using hu);cases this with
    |raw v=>exact .inl rfl
    |nil=>exact .inr (by simp)
    |sl=>exact .inr (by simp)
    |ptr=>exact .inr (by simp)
    |agg=>exact .inr (by simp)
   cases h1 with
   |f h1=>
    cases h1 with
    |agg _ vs hl hcl Y=>
     cases J with
     |f J=>
      cases J with
      |agg _ us hl' hcl' U=>
       have heq:=V3 hu hs hp vs.toArray us.toArray (rawOr a vs Y) (rawOr b us U) (by simp[hl]) (by simp[hl']) hr w;refine ⟨_,?_,.f (.raw _)⟩;have hg:=Pj hu hp;unfold execOp;rw[Z];simp only[hzx,hzy];subst hop;cases neg<;>simp[eqGuard,program,mq,hg,binOp,heq]
  ·cases I
 ·cases I
end
theorem bind_some {α β:Type} {x:Option α} {f:α->Option β} {y:β} (h:x.bind f=ajn y):∃ a,x=ajn a/\f a=ajn y:=by
 cases x with
 |none=>cases h
 |some a=>exact⟨a,rfl,h⟩
theorem map_some {α β:Type} {x:Option α} {f:α->β} {y:β} (h:x.map f=ajn y):∃ a,x=ajn a/\f a=y:=by
 cases x with
 |none=>cases h
 |some a=>exact⟨a,rfl,by simpa using h⟩
theorem kO {c:Bool} {β:Type} {x:Option β} {y:β} (h:(if c then x else ajo)=ajn y):c=ajp/\x=ajn y:=by
 cases c with
 |true=>exact⟨rfl,by simpa using h⟩
 |false=>simp at h
theorem GD {P:Program} {o:Oper} {e:yf} {h:mP} {nx:Nat} {s:WR} {R:AD} (hc:cL P o.op=ajn s) (J:dO s e h nx=ajn R):fO P o e.get h.get R.eff:=by
 unfold cL at hc;split at hc
 ·rename_i x I;simp only[aa] at hc;subst hc;exact aht (.inl I) J
 ·rename_i x I;simp only[aa] at hc;subst hc;exact aht (.inr I) J
 ·rename_i c a b I;simp only[aa] at hc;subst hc;exact aes I J
 ·rename_i t I;obtain⟨z,h1,hc⟩:=bind_some hc;obtain⟨M,hc⟩:=kO hc;simp only[aa] at hc;subst hc;exact abo I h1 M J
 ·rename_i t x I;simp only[aa] at hc;subst hc;exact ai5 I J
 ·rename_i t ps I;split at hc
  ·rename_i fs hu;obtain⟨z,h1,hc⟩:=bind_some hc;obtain⟨M,hc⟩:=kO hc;obtain⟨ps',U,rfl⟩:=map_some hc;simp only[aj] at M;exact U9 I h1 M.1 U (.inl ⟨fs,hu,M.2⟩) J
  ·rename_i n el hu;obtain⟨z,h1,hc⟩:=bind_some hc;obtain⟨M,hc⟩:=kO hc;obtain⟨ps',U,rfl⟩:=map_some hc;simp only[aj] at M;obtain⟨sz,Y⟩:=gR.1 M.2;exact U9 I h1 M.1 U (.inr ⟨n,el,sz,hu,Y⟩) J
  ·cases hc
 ·rename_i t n ps I;obtain⟨el,h1,hc⟩:=bind_some hc;obtain⟨z,M,hc⟩:=bind_some hc;obtain⟨sz,U,hc⟩:=bind_some hc;obtain⟨Y,hc⟩:=kO hc;obtain⟨ps',h5,rfl⟩:=map_some hc;simp only[aj,beq_iff_eq,bne_iff_ne] at Y;exact ai4 I (qR h1) M U Y.1.1.1 Y.1.1.2 Y.2 (aR Y.1.2) h5 J
 ·rename_i t x I;obtain⟨sz,h1,hc⟩:=bind_some hc;obtain⟨ag,M,rfl⟩:=map_some hc;exact aev I h1 M J
 ·rename_i t x v I;obtain⟨sz,h1,rfl⟩:=map_some hc;exact abn I h1 J
 ·rename_i x I;simp only[aa] at hc;subst hc;exact aet I J
 ·rename_i op t x y t' I;split at hc
  ·simp only[aa] at hc;subst hc;exact ada I J
  ·simp only[aa] at hc;subst hc;exact ada I J
  ·rename_i hu;split at hc
   ·simp only[aa] at hc;subst hc;exact ad9 (neg:=ajq) I rfl hu J
   ·simp only[aa] at hc;subst hc;exact ad9 (neg:=ajp) I rfl hu J
   ·cases hc
  ·rename_i el hu;split at hc
   ·simp only[aa] at hc;subst hc;exact U8 (neg:=ajq) I rfl rfl hu J
   ·simp only[aa] at hc;subst hc;exact U8 (neg:=ajp) I rfl rfl hu J
   ·cases hc
  ·rename_i fs hu;obtain⟨ds,h1,hc⟩:=bind_some hc;unfold XV at h1;rw[hu] at h1;simp only[] at h1;split at h1
   ·cases h1
   ·rename_i hst;have hst:P.stoodInHeld t=ajq:=by simpa using hst
    split at hc
    ·simp only[aa] at hc;subst hc;exact ad8 (neg:=ajq) I rfl hu hst h1 J
    ·simp only[aa] at hc;subst hc;exact ad8 (neg:=ajp) I rfl hu hst h1 J
    ·cases hc
  ·cases hc
 ·rename_i t x I;simp only[aa] at hc;subst hc;exact ahr I J
 ·rename_i t x I;split at hc
  ·simp only[aa] at hc;subst hc;exact ahs I J
  ·cases hc
 ·rename_i s' d x I;split at hc
  ·rename_i k k' h1 M;simp only[aa] at hc;subst hc;exact af1 I h1 M J
  ·cases hc
 ·rename_i t l c I;obtain⟨el,h1,hc⟩:=bind_some hc;obtain⟨z,M,hc⟩:=bind_some hc;obtain⟨sz,U,hc⟩:=bind_some hc;obtain⟨b,h5,hc⟩:=bind_some hc;obtain⟨Y,hc⟩:=kO hc;simp only[aj,beq_iff_eq,bne_iff_ne] at Y;simp only[aa] at hc;subst hc;exact aeu I (qR h1) M U h5 Y.1.1 Y.1.2 Y.2 J
 ·rename_i t x lo hi mx I;obtain⟨el,h1,hc⟩:=bind_some hc;obtain⟨sz,M,rfl⟩:=map_some hc;exact aho I (qR h1) M J
 ·rename_i t x k I;split at hc
  ·rename_i fs hu;obtain⟨f,h1,hc⟩:=bind_some hc;obtain⟨sz,M,hc⟩:=bind_some hc;obtain⟨U,hc⟩:=kO hc;simp only[aa] at hc;subst hc;exact ai1 I hu h1 M (by simpa using U) J
  ·cases hc
 ·rename_i t x k I;split at hc
  ·rename_i fs hu;obtain⟨f,h1,hc⟩:=bind_some hc;obtain⟨sz,M,hc⟩:=bind_some hc;obtain⟨ag,U,rfl⟩:=map_some hc;exact ai0 I hu h1 M U J
  ·cases hc
 ·rename_i t x i I;split at hc
  ·rename_i el hu;obtain⟨sz,h1,rfl⟩:=map_some hc;exact ahz I hu h1 J
  ·rename_i n el hu;obtain⟨sz,h1,rfl⟩:=map_some hc;exact aez I hu h1 J
  ·cases hc
 ·rename_i t x i I;split at hc
  ·rename_i n el hu;obtain⟨sz,h1,hc⟩:=bind_some hc;obtain⟨ag,M,rfl⟩:=map_some hc;exact ahy I hu h1 M J
  ·rename_i hu;simp only[aa] at hc;subst hc;exact aer I hu J
  ·cases hc
 ·rename_i x i I;simp only[aa] at hc;subst hc;exact ai2 I J
 ·rename_i f first caps I
  obtain⟨h1,hc⟩:=kO hc;simp only[aa] at hc;subst hc;have M:first=#[]:=by simpa using h1
  subst M;exact ahv I J
 ·rename_i t I;split at hc
  ·simp only[aa] at hc;subst hc;exact ahu I J
  ·cases hc
 ·rename_i t x k I;split at hc
  ·rename_i kt el hu;split at hc
   ·rename_i q z h1 M;obtain⟨U,hc⟩:=kO hc;simp only[aa] at hc;subst hc;exact ad7 (str:=ajq) I hu h1 ⟨q,rfl⟩ M J
   ·rename_i z h1 M;obtain⟨U,hc⟩:=kO hc;simp only[aa] at hc;subst hc;exact ad7 (str:=ajp) I hu h1 rfl M J
   ·cases hc
  ·cases hc
 ·rename_i t m k v I;split at hc
  ·rename_i kt el hu;split at hc
   ·rename_i q h1;simp only[aa] at hc;subst hc;exact ad6 (str:=ajq) I hu h1 ⟨q,rfl⟩ J
   ·rename_i h1;simp only[aa] at hc;subst hc;exact ad6 (str:=ajp) I hu h1 rfl J
   ·cases hc
  ·cases hc
 ·rename_i t x I;split at hc
  ·rename_i hu;simp only[aa] at hc;subst hc;exact ahp I hu J
  ·cases hc
 ·rename_i x I;simp only[aa] at hc;subst hc;exact ahq I J
 ·rename_i c I;obtain⟨callee,args,argTypes⟩:=c;have arr:∀ {α:Type} {x:Array α} {l:List α},x.toList=l->x=l.toArray:=λh=>by rw[<- h]
  unfold Ql at hc;simp only[] at hc;split at hc
  ·split at hc
   ·rename_i x t h1 M;rw[arr h1,arr M] at I;split at hc
    ·rename_i el hu;simp only[aa] at hc;subst hc;exact aey I hu J
    ·rename_i hu;simp only[aa] at hc;subst hc;exact aex I hu J
    ·rename_i k v hu;simp only[aa] at hc;subst hc;exact aew I hu J
    ·cases hc
   ·cases hc
  ·split at hc
   ·rename_i x y h1;rw[arr h1] at I;simp only[aa] at hc;subst hc;exact ahx I J
   ·cases hc
  ·split at hc
   ·rename_i x y h1;rw[arr h1] at I;simp only[aa] at hc;subst hc;exact ahw I J
   ·cases hc
  ·split at hc
   ·rename_i d x t u h1 M;rw[arr h1,arr M] at I;split at hc
    ·rename_i el el' h1 M;obtain⟨sz,U,hc⟩:=bind_some hc;obtain⟨Y,hc⟩:=kO hc;simp only[aa] at hc;subst hc;exact af0 I (qR h1) (qR M) U J
    ·cases hc
   ·cases hc
  ·split at hc
   ·rename_i x t h1 M;rw[arr h1,arr M] at I;obtain⟨el,U,hc⟩:=bind_some hc;obtain⟨z,Y,hc⟩:=bind_some hc;obtain⟨sz,h5,hc⟩:=bind_some hc;obtain⟨Z,hc⟩:=kO hc;simp only[aj,beq_iff_eq,bne_iff_ne,ne_eq] at Z;simp only[aa] at hc;subst hc;exact ai3 I (qR U) Y Z.1.1 Z.1.2 Z.2 J
   ·cases hc
  ·split at hc
   ·rename_i s' x t u h1 M;rw[arr h1,arr M] at I;split at hc
    ·rename_i el el' h1 M;obtain⟨sz,U,hc⟩:=bind_some hc;obtain⟨b,Y,hc⟩:=bind_some hc;obtain⟨z,h5,hc⟩:=bind_some hc;obtain⟨Z,hc⟩:=kO hc;simp only[aj,beq_iff_eq,bne_iff_ne] at Z;simp only[aa] at hc;subst hc;exact ai6 I (qR h1) (qR M) U Y h5 Z.2 Z.1 J
    ·cases hc
   ·cases hc
  ·cases hc
 ·cases hc
theorem kS {p:Nat->Bool}:∀ {l:List AV},AV.allL p l=ajp->∀ x∈l,AV.all p x=ajp
 |[],_,x,I=>by cases I
 |y::l,h,x,I=>by
  simp only[AV.allL,aj] at h;rcases bc.1 I with rfl|I
  ·exact h.1
  ·exact kS h.2 x I
theorem cq.restrict {φ φ':PM} {O O':Nat->Prop} {w:World} {p:Nat->Bool} (hs:∀ i k,p i=ajp->φ i=ajn k->φ' i=ajn k) (M:∀ k,O' k->O k) {x:AV} {v:Value} (h:cq φ O w x v):x.all p=ajp->cq φ' O' w x v:=by
 induction h with
 |f h=>intro _;exact .f (h.ext (O':=O') (Jj.refl O w) λk _ hk=>M k hk)
 |ptr h=>intro hp;exact .ptr (hs _ _ hp h)
 |sl h hn hc=>intro hp;exact .sl (hs _ _ hp h) hn hc
 |row h hn hc hsh=>intro hp;exact .row (hs _ _ hp h) hn hc hsh
 |emp=>intro _;exact .emp
 |anyb=>intro _;exact .anyb
 |mp h=>intro hp;exact .mp (hs _ _ hp h)
 |agg hl hcl hr J=>intro hp;exact .agg hl hcl λj x v I hv=>J j x v I hv (kS hp x (aS I))
 |tup hl hr J=>intro hp;exact .tup hl λj x v I hv=>J j x v I hv (kS hp x (aS I))
 |clo hl hr J=>intro hp;exact .clo hl λj x v I hv=>J j x v I hv (kS hp x (aS I))
theorem iE.restrict {φ φ':PM} {O O':Nat->Prop} {w w':World} {p:Nat->Bool} (hk:∀ x v,x.all p=ajp->cq φ O w x v->cq φ' O' w' x v) {b:vy} {o:Obj} (hb:b.c.all p=ajp) (h:iE φ O w b o):iE φ' O' w' b o:=by
 unfold iE at h ⊢;cases hc:b.c with
 |fz l=>
  rw[hc] at h;obtain⟨arr,h1,M,J⟩:=h;exact⟨arr,h1,M,λj x I=>by
   obtain⟨a,v,c,d⟩:=J j x I;refine ⟨a,v,c,hk _ _ ?_ d⟩;simp only[BC.get] at I;cases hl:l[j]? with
   |none=>rw[hl] at I;cases I
   |some q=>rw[hl] at I;simp at I;subst I;rfl⟩
 |mx l=>
  rw[hc] at h hb;obtain⟨arr,h1,M,J⟩:=h;exact⟨arr,h1,M,λj x I=>by
   obtain⟨a,v,c,d⟩:=J j x I;exact⟨a,v,c,hk _ _ (kS hb x (aS I)) d⟩⟩
 |mp es=>
  rw[hc] at h hb;obtain⟨e,c,h1,M,J⟩:=h;exact⟨e,c,h1,M,λj x I=>by
   obtain⟨m,a,b⟩:=J j x I;exact⟨m,a,hk _ _ (kS hb x.2 (cO.2 ⟨x,aS I,rfl⟩)) b⟩⟩
 |it s q=>rw[hc] at h;exact h
def Y3 (m:Nat):List Nat:=(eU (m+1)).filter λi=>aG m i
theorem KV {m i:Nat}:i∈Y3 m↔aG m i=ajp:=by
 unfold Y3;rw[DU,ml];constructor
 ·exact λh=>h.2
 ·intro h;refine ⟨?_,h⟩;have h1:=Nat.ge_two_pow_of_testBit h;have I:=Nat.lt_two_pow_self (n:=i);omega
def ji (φ:PM) (O:Nat->Prop) (w:World):List AV->List Value->Prop
 |[],[]=>True
 |x::xs,v::vs=>cq φ O w x v/\ji φ O w xs vs
 |_,_=>False
theorem ji.length {φ:PM} {O:Nat->Prop} {w:World}:∀ {args:List AV} {vs:List Value},ji φ O w args vs->vs.length=args.length
 |[],[],_=>rfl
 |[],_::_,h=>h.elim
 |_::_,[],h=>h.elim
 |_::_,_::_,h=>by simp[ji.length h.2]
theorem ji.mono {φ φ':PM} {O O':Nat->Prop} {w w':World} {p:Nat->Bool} (hk:∀ x v,x.all p=ajp->cq φ O w x v->cq φ' O' w' x v):∀ {args:List AV} {vs:List Value},AV.allL p args=ajp->ji φ O w args vs->ji φ' O' w' args vs
 |[],[],_,_=>trivial
 |[],_::_,_,h=>h.elim
 |_::_,[],_,h=>h.elim
 |x::xs,_::_,hp,h=>by
  simp only[AV.allL,aj] at hp;exact⟨hk _ _ hp.1 h.1,ji.mono hk hp.2 h.2⟩
theorem ji.append {φ:PM} {O:Nat->Prop} {w:World}:∀ {xs I:List AV} {vs us:List Value},ji φ O w xs vs->ji φ O w I us->ji φ O w (xs++I) (vs++us)
 |[],_,[],_,_,h=>h
 |[],_,_::_,_,h,_=>h.elim
 |_::_,_,[],_,h,_=>h.elim
 |_::_,_,_::_,_,h,h'=>⟨h.1,ji.append h.2 h'⟩
theorem ji.of {φ:PM} {O:Nat->Prop} {w:World}:∀ {xs:List AV} {vs:List Value},vs.length=xs.length->(∀ (j:Nat) x v,xs[j]? =ajn x->vs[j]? =ajn v->cq φ O w x v)->ji φ O w xs vs
 |[],[],_,_=>trivial
 |[],_::_,h,_=>by simp at h
 |_::_,[],h,_=>by simp at h
 |x::xs,v::vs,hl,h=>⟨h 0 x v rfl rfl,ji.of (by simpa using hl) λj x v I hv=>h (j+1) x v (by simpa using I) (by simpa using hv)⟩
def CD (P:Program) (f:FuncId):Prop:=∃ fn,P.funcs[f]? =ajn fn∧fn.body.isNone=ajq∧(fn.name== "runtime.NumGoroutine")=ajq
theorem MM {φ:PM} {E:Nat->Prop} {h':HF} {w:World} {a:Act} {e:yf} {o:Oper} (hp:TQ φ E h' w a e o):∀ (xs:List Operand) (I:List AV),(∀ x∈xs,x∈o.op.operands)->UK e xs=ajn I->ji φ (tot E φ h') w I (xs.map a.eval)
 |[],I,_,h=>by simp only[UK,aa] at h;subst h;trivial
 |x::xs,I,hm,h=>by
  simp only[UK] at h;split at h
  ·rename_i y J;split at h
   ·rename_i ys' hys;simp only[aa] at h;subst h;exact⟨hp x y (hm x (dg ..)) J,MM hp xs ys' (λx M=>hm x (cA _ M)) hys⟩
   ·cases h
  ·cases h
theorem vF {P:Program} {f:FuncId} (hc:CD P f) (args:Array Value) (w:World):(callFunc f args).run P w= .ok (.enter f args) w:=by
 obtain⟨fn,h1,M,U⟩:=hc;have I:fn.name≠ "runtime.NumGoroutine" :=by simpa using U
 have J:fn.body≠ajo:=by intro h;rw[h] at M;cases M
 simp[callFunc,program,mq,h1,J,I]
theorem UE:∀ (fs:List ZC) (i:Nat),V0 fs i=fs[i]?
 |[],i=>by simp[V0]
 |f::fs,0=>rfl
 |f::fs,i+1=>by simp[V0,UE fs i]
theorem wq {a b:Nat} (h:Ce a b=ajp) (i:Nat) (I:aG a i=ajp):aG b i=ajq:=by
 unfold Ce at h;have h0:a&&&b=0:=ak h;have:=Nat.testBit_and a b i;rw[h0,I] at this;simpa using this.symm
structure Ctx where
 n0:Nat
 φ:PM
 E:Nat->Prop
 h:HF
 w:World
def ZA (P:Program) (d:Deferred):Prop:=∀ w:World,∃ J cap f args,d.target= .fn J cap/\(invoke d.target d.args).run P w= .ok (.enter f args) w/\
 CallsD P f args .returning w λe I w'=>(∃ v,e= .returned v)/\I= .returning/\w'=w
structure Cfg (P:Program) (C:Ctx) (nt:Nat) (s:IS) (a:Act) (w:World):Prop where
 ex:∃ φ,ie C.φ φ C.h s.h.get C.w w/\pM φ C.E s.h.get w/\LH φ (tot C.E φ s.h.get) w s.e.get a/\(∀ i k,φ i=ajn k->i<s.nx)/\∀ i k,φ i=ajn k->C.φ i=ajn k\/C.n0<=i
 low:C.n0<=s.nx
 inert:∀ d∈a.defers,ZA P d
 size:a.tmps.size=nt
theorem Cfg.bool {P:Program} {C:Ctx} {nt:Nat} {s:IS} {a:Act} {w:World} (c:Cfg P C nt s a w) {t:Nat} {b:Bool} (ht:s.e.get t=ajn (.f (.raw (.bool b)))):a.eval (.tmp t)= .bool b:=by
 obtain⟨φ,_,_,en,_,_⟩:=c.ex;exact ep (en t _ ht)
theorem AO {P:Program} {c:Code} {Q:Exit->Act->World->Prop} (I:Nat->Act->World->Prop) (round:∀ n a w,I n a w->c.wp P (Exit.then (λa' w'=>∃ m,m<n/\I m a' w') Q) a w) {n:Nat} {a:Act} {w:World} (h0:I n a w):(Code.loop c).wp P Q a w:=by
 have least:∀ (n:Nat) (a:Act) (w:World),I n a w->∃ m,I m a w/\∀ k,I k a w->m<=k:=by
  intro n;induction n using Nat.strongRecOn with
  |_ n U=>
   intro a w hn;by_cases J:∃ k,k<n/\I k a w
   ·obtain⟨k,hk,M⟩:=J;exact U k hk a w M
   ·exact⟨n,hn,λk hk=>Nat.le_of_not_lt λhlt=>J ⟨k,hlt,hk⟩⟩
 have pick:∀ a w,∃ m,(∃ n,I n a w)->I m a w/\∀ k,I k a w->m<=k:=λa w=>by
  by_cases J:∃ n,I n a w
  ·obtain⟨n,hn⟩:=J;obtain⟨m,hm⟩:=least n a w hn;exact⟨m,λ_=>hm⟩
  ·exact⟨0,λh=>absurd h J⟩
 let μ:Act->World->Nat:=λa w=>Classical.choose (pick a w)
 have hμ:∀ a w,(∃ n,I n a w)->I (μ a w) a w/\∀ k,I k a w->μ a w<=k:=λa w=>Classical.choose_spec (pick a w)
 refine wp_loop (λa w=>∃ n,I n a w) μ ⟨n,h0⟩ λa w M=>?_
 refine wp_mono (round (μ a w) a w (hμ a w M).1) λe a' w' he=>?_
 cases e with
 |normal=>
  obtain⟨m,hm,hIm⟩:=he;exact⟨⟨m,hIm⟩,Nat.lt_of_le_of_lt ((hμ a' w' ⟨m,hIm⟩).2 m hIm) hm⟩
 |exit id=>exact he
 |goto l=>exact he
 |ret=>exact he
 |panic c=>exact he
 |outgrown=>exact he
def Ex.to:Ex->Exit
 |.normal=>.normal
 |.exit id=>.exit id
 |.ret=>.ret
def Jg (P:Program) (inert:FuncId->Bool):Prop:=∀ f,inert f=ajp->CD P f/\∀ (args:Array Value) (w:World),CallsD P f args .returning w λe I w'=>(∃ v,e= .returned v)/\I= .returning/\w'=w
theorem Pv {P:Program} {C:Ctx} {nt:Nat} {inert:FuncId->Bool} (hin:Jg P inert) {s:IS} {a:Act} {w:World} (c:Cfg P C nt s a w) {id:Nat} {ops:Array Oper} {dr:Bool} {f:FuncId} {caps:List Operand} {t:Nat} (hd:(ops.toList.all λo=>match o.dst with|some d=>decide (d<nt)|none=>ajp)=ajp) (hdf:Cg ops dr=ajn (f,caps,t))
 {l:List AV} (hl:UK s.e caps=ajn l) (hi:inert f=ajp) {Q:Exit->Act->World->Prop} (hQ:∀ a w,Cfg P C nt ⟨s.e.put (ajn t) (.clo f l),s.h,s.nx,s.wr⟩ a w->Q .normal a w):(Code.region id ops dr).wp P Q a w:=by
 unfold Cg at hdf;split at hdf
 ·rename_i p q hops;split at hdf
  ·rename_i Y first caps' t1 cl hpo hpg hpd hqo hqg hqd
   split at hdf
   ·rename_i t2 hcl hca;split at hdf
    ·rename_i hcond;simp only[aj] at hcond;obtain⟨h1,h2⟩:=hcond;have h1:=ak h1;have h2:first=#[]:=by simpa using h2
     simp only[aa,aw] at hdf;obtain⟨rfl,rfl,rfl⟩:=hdf;subst h1;subst h2;have hops':ops=#[p,q]:=by rw[<- Array.toArray_toList (xs:=ops),hops]
     obtain⟨φ,m,r,en,dm⟩:=c.ex;obtain⟨hcb,hincalls⟩:=hin Y hi;have htn:t1<nt:=by
      have:=fh.1 hd p (by rw[hops];simp);rw[hpd] at this;simpa using this
     have hrelL:ji φ (tot C.E φ s.h.get) w l (caps'.toList.map a.eval):=by
      have hp':TQ φ C.E s.h.get w a s.e p:=λx y U Z=>rQ r (xs:=p.op.operands) (λt _ y Z=>en t y Z) U Z
      exact MM hp' caps'.toList l (λx U=>by rw[hpo];simpa[Op.operands] using U) hl
     have hcm:caps'.map a.eval=(caps'.toList.map a.eval).toArray:=by apply Jo;simp
     let J:Value:=.func (.func Y) #[] (caps'.map a.eval)
     have hrel:cq φ (tot C.E φ s.h.get) w (.clo Y l) J:=by
      simp only[J];rw[hcm];refine .clo (hrelL.length) ?_;have:∀ (xs:List AV) (vs:List Value),ji φ (tot C.E φ s.h.get) w xs vs->∀ (j:Nat) x v,xs[j]? =ajn x->vs[j]? =ajn v->cq φ (tot C.E φ s.h.get) w x v:=by
       intro xs;induction xs with
       |nil=>intro vs _ j x v U;simp at U
       |cons y xs ih=>
        intro vs h j x v U hv;cases vs with
        |nil=>exact h.elim
        |cons u vs=>
         cases j with
         |zero=>simp at U hv;subst U;subst hv;exact h.1
         |succ j=>exact ih vs h.2 j x v (by simpa using U) (by simpa using hv)
      exact this _ _ hrelL
     refine wp_region ?_;have hr2:eU ops.size=[0,1]:=by rw[hops'];rfl
     rw[hr2];have e0:ops[0]? =ajn p:=by rw[hops'];rfl
     have e1:ops[1]? =ajn q:=by rw[hops'];rfl
     rw[wpOps_cons];have hexec1:(execOp a.eval p).run P w= .ok (.value J) w:=by
      unfold execOp;rw[hpo];simp[Instr.makeFunc,J]
     have w1:gQ p (yielded ops a.tmps)=ajp:=by unfold gQ;rw[hpg]
     unfold wpOp;simp only[e0,w1,if_true];left;unfold FK;rw[hexec1];show wpOps P ops Q [1] (a.put p.dst J) w;rw[wpOps_cons];unfold wpOp;have w2:gQ q (yielded ops (a.put p.dst J).tmps)=ajp:=by unfold gQ;rw[hqg]
     simp only[e1,w2,if_true];left;have heval:(a.put p.dst J).eval (.tmp t1)=J:=by
      show (a.put p.dst J).tmps.getD t1 undef=J;rw[Gu (by intro d I;rw[hpd] at I;cases I;rw[c.size];exact htn),if_pos hpd]
     have hargs:cl.args=#[]:=by rw[<- Array.toArray_toList (xs:=cl.args),hca]
     have hexec2:(execOp (a.put p.dst J).eval q).run P w= .ok (.defer {target:=.fn (.func Y) (caps'.map a.eval),args:=#[]}) w:=by
      unfold execOp;rw[hqo];simp[resolve,hcl,heval,J,Deferred.ofValue,hargs]
     unfold FK;rw[hexec2];show wpOps P ops Q [] _ w;refine hQ _ _ ⟨⟨φ,m,r,?_,dm⟩,c.low,?_,?_⟩
     ·intro u x U;rw[hqd];show cq φ _ w x ((a.put p.dst J).tmps.getD u undef);rw[Gu (by intro d I;rw[hpd] at I;cases I;rw[c.size];exact htn)];have M:(s.e.put (ajn t1) (.clo Y l)).get u=ajn x:=U;rw[<- XR] at M;unfold Bg at M;rw[hpd];by_cases hu:ajn t1=ajn u
      ·rw[if_pos hu] at M ⊢;cases M;exact hrel
      ·rw[if_neg hu] at M ⊢;exact en u x M
     ·intro d I;rw[hqd] at I;have hd'':d={target:=.fn (.func Y) (caps'.map a.eval),args:=#[]}\/d∈(a.put p.dst J).defers:=by
       simpa[LO] using I
      rcases hd'' with rfl|hd''
      ·intro w0;refine ⟨_,_,Y,caps'.map a.eval,rfl,?_,hincalls _ w0⟩;simp[invoke,vF hcb]
      ·rw[Gv] at hd'';exact c.inert d hd''
     ·rw[hqd];show (a.put p.dst J).tmps.size=nt;rw[N9];exact c.size
    ·cases hdf
   ·cases hdf
  ·cases hdf
 ·cases hdf
def Vm (tmps:Array Value):ResultVar->Sem Value
 |.tmp t=>pure (tmps.getD t undef)
 |.cell a t=>do
  let I<-asAddr (tmps.getD a undef)
  loadVar t I
theorem Ru (fn:Func) (tmps:Array Value):results fn tmps=(do let vs<-fn.results.mapM (Vm tmps);pure (if h:vs.size=1 then vs[0] else .tuple vs)):=by
 unfold results;congr 2
theorem Bq {P:Program} {fn:Func} {tmps:Array Value} {R:Ending->World->Prop} {w:World} {v:Value} (hr:(results fn tmps).run P w= .ok v w) (I:R (.returned v) w):∀ (ds:List Deferred),(∀ d∈ds,ZA P d)->Leaves P fn tmps R ds .returning w
 |[],_=>⟨v,hr,I⟩
 |d::ds,h=>by
  obtain⟨U,cap,f,args,h1,M,J⟩:=h d (dg ..) w;refine ⟨by simp,U,cap,f,args,h1,M,J.mono ?_⟩;rintro e Z w' ⟨⟨Y,rfl⟩,rfl,rfl⟩;exact Bq hr I ds λd hd=>h d (cA _ hd)
theorem ji.get {φ:PM} {O:Nat->Prop} {w:World}:∀ {xs:List AV} {vs:List Value},ji φ O w xs vs->∀ (j:Nat) x,xs[j]? =ajn x->∃ v,vs[j]? =ajn v/\cq φ O w x v
 |[],_,_,j,x,I=>by simp at I
 |_::_,[],h,_,_,_=>h.elim
 |y::xs,u::vs,h,j,x,I=>by
  cases j with
  |zero=>simp at I;subst I;exact⟨u,rfl,h.1⟩
  |succ j=>exact ji.get h.2 j x (by simpa using I)
theorem Qk {P:Program} {f:FuncId} {I:SF} (h:xW P f=ajn I):∃ fn c,P.funcs[f]? =ajn fn∧fn.body=ajn c∧(fn.name== "runtime.NumGoroutine")=ajq∧I.code=bS P fn.ntmps c∧tX P fn.results.toList=ajn I.res∧I.nt=fn.ntmps:=by
 unfold xW at h;split at h
 ·rename_i fn hf;split at h
  ·cases h
  ·rename_i hn;split at h
   ·rename_i c r hb hr;simp only[aa] at h;subst h;exact⟨fn,c,hf,hb,by simpa using hn,rfl,hr,rfl⟩
   ·cases h
 ·cases h
theorem abf {a b:Value} (h:aej a b=ajp):a=b:=by
 unfold aej at h;split at h
 ·simp at h;rw[h]
 ·simp at h;rw[h.1,h.2]
 ·rw[ya.1 h]
 ·simp only[aj] at h;rw[ak h.1,ak h.2]
 ·rfl
 ·rename_i x y;simp only[aj,Array.isEmpty_iff] at h;rw[h.1,h.2]
 ·cases h
def PT.mapO {α β:Type} (g:α->Option β):PT α->PT β
 |.leaf=>.leaf
 |.node v l r=>.node (v.bind g) (PT.mapO g l) (PT.mapO g r)
theorem PT.get_mapO {α β:Type} (g:α->Option β):∀ (t:PT α) (i:Nat),(PT.mapO g t).get i=(t.get i).bind g
 |.leaf,i=>by simp[PT.mapO,PT.get]
 |.node v l r,0=>by simp[PT.mapO,PT.get]
 |.node v l r,j+1=>by
  simp only[PT.mapO,PT.get];split
  ·exact PT.get_mapO g l _
  ·exact PT.get_mapO g r _
theorem PT.get_updI {α:Type} (f:Nat->α->α):∀ (t:PT α) (a b i:Nat),(PT.updI f a b t).get i=(t.get i).map (f (a*i+b))
 |.leaf,_,_,i=>by simp[PT.updI,PT.get]
 |.node v l r,a,b,0=>by cases v<;>simp[PT.updI,PT.get]
 |.node v l r,a,b,j+1=>by
  simp only[PT.updI,PT.get];split
  ·rename_i hj;rw[PT.get_updI f l];have:2*a*(j/2)+(a+b)=a*(j+1)+b:=by
    have J:j=2*(j/2):=by have:=ak hj;omega
    have I:2*a*(j/2)=a*j:=by rw[FL 2 a,Nat.mul_assoc,<-J]
    rw[I,Nat.mul_add];omega
   rw[this]
  ·rename_i hj;rw[PT.get_updI f r];have:2*a*(j/2)+(2*a+b)=a*(j+1)+b:=by
    have h1:j%2≠0:=λh=>hj (by rw[h];rfl)
    have J:j=2*(j/2)+1:=by omega
    have I:2*a*(j/2)=a*(2*(j/2)):=by rw[FL 2 a,Nat.mul_assoc]
    have M:a*(j+1)=a*(2*(j/2))+2*a:=by
     conv=>lhs;rw[J]
     rw[Nat.mul_add,Nat.mul_add];omega
    rw[I,M];omega
   rw[this]
theorem PT.bound {α:Type}:∀ (t:PT α),∃ B,∀ i,B<=i->t.get i=ajo
 |.leaf=>⟨0,λi _=>rfl⟩
 |.node v l r=>by
  obtain⟨a,I⟩:=PT.bound l;obtain⟨b,hb⟩:=PT.bound r;refine ⟨2*(a+b)+3,λi hi=>?_⟩;cases i with
  |zero=>omega
  |succ j=>
   simp only[PT.get];split
   ·exact I _ (by omega)
   ·exact hb _ (by omega)
def PT.ofF {α:Type} (f:Nat->Option α):Nat->PT α
 |0=>.leaf
 |n+1=>(PT.ofF f n).set n (f n)
theorem PT.get_ofF {α:Type} (f:Nat->Option α):∀ (n i:Nat),(PT.ofF f n).get i=if i<n then f i else ajo
 |0,i=>by simp[PT.ofF,PT.get]
 |n+1,i=>by
  rw[PT.ofF,PT.get_set,PT.get_ofF f n];by_cases h:i=n
  ·subst h;simp
  ·rw[if_neg h];by_cases I:i<n
   ·rw[if_pos I,if_pos (by omega)]
   ·rw[if_neg I,if_neg (by omega)]
def nm (i:Nat):Nat:=2*i
def ow (n:Nat):Nat:=n/2
theorem dz (i:Nat):ow (nm i)=i:=by unfold ow nm;omega
theorem jU {i j:Nat} (h:nm i=nm j):i=j:=by unfold nm at h;omega
def eo (p:Bool) (id sz n:Nat):AV:=if p&&n==0 then .emp else .row (nm id) sz n
mutual
def bU (h:aZ):TV->Option AV
 |.f T v=>ajn (.f (fM T v))
 |.fel T xs j _ off=>ajn (.f (.ptr (xs.flatMap (bC T)) (j.toNat*T.size+off)))
 |.pel id sz j off=>ajn (.ptr (nm id) (j.toNat*sz+off))
 |.ptr id off=>ajn (.ptr (nm id) off)
 |.csl id sz n=>ajn (.row (nm id) sz n)
 |.row id=>match dE h id with|some (p,sz,n)=>ajn (eo p id sz n)|none=>ajo
 |.rtl id j=>match dE h id with|some (_,sz,n)=>ajn (.sl (nm id) (j.toNat*sz) (n-j.toNat))|none=>ajo
 |.emp=>ajn .emp
 |.nil=>ajn (.f (.raw (.slice ajo 0 0)))
 |.mp id=>ajn (.mp (nm id))
 |.agg l=>match cj h l with|some l'=>ajn (.agg l')|none=>ajo
 |.tup l=>match cj h l with|some l'=>ajn (.tup l')|none=>ajo
 |.clo g l=>match cj h l with|some l'=>ajn (.clo g l')|none=>ajo
 |.undef=>ajn (.f (.raw undef))
 |.np=>ajn (.f (.raw (.pointer ajo)))
 |.anyb=>ajn .anyb
def cj (h:aZ):List TV->Option (List AV)
 |[]=>ajn []
 |x::r=>match bU h x with
  |some y=>(match cj h r with|some l=>ajn (y::l)|none=>ajo)
  |none=>ajo
end
def oE:(K:Ty)->K.den->Value
 |.int k,n=>.int k n
 |.str,s=>.string ⟨jK s⟩
 |_,_=>undef
def X8:(K V:Ty)->List (K.den×V.den)->BC
 |.st (.pr .str (.int .i64)),.un,es=>.it ⟨jK (Nx es)⟩ (Mg es)
 |K,V,es=>.mp (es.map λp=>(oE K p.1,.f (fM V p.2)))
theorem Ah {K V:Ty} {es:List (K.den×V.den)} (h:RD K=ajp):X8 K V es= .mp (es.map λp=>(oE K p.1,.f (fM V p.2))):=by
 unfold X8;split
 ·cases h
 ·rfl
theorem ae4 {K V:Ty} {es:List (K.den×V.den)} {s:List UInt8} {p:Nat} (h:itE K V es=ajn (s,p)):X8 K V es= .it ⟨jK s⟩ p:=by
 unfold itE at h;split at h
 ·cases h;rfl
 ·cases h
def jR (h:aZ):gC->Option vy
 |.rows ty p T xs=>if p&&xs.length==0 then ajo else ajn ⟨ty,.fz (xs.flatMap (bC T))⟩
 |.cells ty l=>match cj h l with|some I=>ajn ⟨ty,.mx I⟩|none=>ajo
 |.dead _ _ _=>ajo
 |.mp K V es=>ajn ⟨0,X8 K V es⟩
def eP (e:gU) (h:aZ):EF:=λt=>(e.get t).bind (bU h)
def bi (h:aZ):HF:=λn=>if n%2=0 then (h.get (n/2)).bind (jR h) else ajo
theorem bt (h:aZ) (i:Nat):bi h (nm i)=(h.get i).bind (jR h):=by
 unfold bi nm;rw[if_pos (by omega),show 2*i/2=i from by omega]
theorem iG {h:aZ} {n:Nat} {b:vy} (hb:bi h n=ajn b):∃ i c,n=nm i/\h.get i=ajn c/\jR h c=ajn b:=by
 unfold bi at hb;split at hb
 ·cases hc:h.get (n/2) with
  |none=>rw[hc] at hb;cases hb
  |some c=>rw[hc] at hb;exact⟨n/2,c,by unfold nm;omega,hc,hb⟩
 ·cases hb
def Js (e:gU) (h:aZ):yf:=PT.mapO (bU h) e
theorem tR (e:gU) (h:aZ):(Js e h).get=eP e h:=by funext t;exact PT.get_mapO _ _ _
theorem iT (h:aZ):∃ H:mP,H.get=bi h:=by
 obtain⟨B,I⟩:=PT.bound h;refine ⟨PT.ofF (bi h) (2*B),?_⟩;funext n;rw[PT.get_ofF];split
 ·rfl
 ·unfold bi;split
  ·rw[I _ (by omega)];rfl
  ·rfl
theorem cB {h:aZ} {x:TV} {r:List TV} {l:List AV} (he:cj h (x::r)=ajn l):∃ y I,l=y::I/\bU h x=ajn y/\cj h r=ajn I:=by
 simp only[cj] at he;split at he
 ·rename_i y J;split at he
  ·rename_i I hl;simp only[aa] at he;exact⟨y,I,he.symm,J,hl⟩
  ·cases he
 ·cases he
theorem nQ {h:aZ} {x:TV} {r:List TV} {y:AV} {I:List AV} (h1:bU h x=ajn y) (J:cj h r=ajn I):cj h (x::r)=ajn (y::I):=by
 simp only[cj,h1,J]
theorem iD {h:aZ}:∀ {l:List TV} {I:List AV},cj h l=ajn I->I.length=l.length
 |[],I,he=>by simp only[cj,aa] at he;subst he;rfl
 |x::r,I,he=>by
  obtain⟨y,l2,rfl,_,J⟩:=cB he;simp[iD J]
theorem mg {h:aZ}:∀ {a b:List TV} {a' b':List AV},cj h a=ajn a'->cj h b=ajn b'->cj h (a++b)=ajn (a'++b')
 |[],b,a',b',I,hb=>by simp only[cj,aa] at I;subst I;exact hb
 |x::r,b,a',b',I,hb=>by
  obtain⟨y,l2,rfl,h1,J⟩:=cB I;exact nQ h1 (mg J hb)
theorem At {h:aZ}:∀ {a b:List TV} {l:List AV},cj h (a++b)=ajn l->∃ a' b',l=a'++b'/\cj h a=ajn a'/\cj h b=ajn b'
 |[],b,l,he=>⟨[],l,rfl,rfl,he⟩
 |x::r,b,l,he=>by
  obtain⟨y,l2,rfl,h1,M⟩:=cB he;obtain⟨a',b',rfl,J,I⟩:=At M;exact⟨y::a',b',rfl,nQ h1 J,I⟩
theorem Dr {h:aZ}:∀ {l:List TV} {I:List AV} (n:Nat),cj h l=ajn I->cj h (l.take n)=ajn (I.take n)
 |[],I,n,he=>by simp only[cj,aa] at he;subst he;simp[cj]
 |x::r,I,n,he=>by
  obtain⟨y,l2,rfl,h1,J⟩:=cB he;cases n with
  |zero=>simp[cj]
  |succ n=>exact nQ h1 (Dr n J)
theorem Dt {h:aZ}:∀ {l:List TV} {I:List AV} (n:Nat),cj h l=ajn I->cj h (l.drop n)=ajn (I.drop n)
 |[],I,n,he=>by simp only[cj,aa] at he;subst he;simp[cj]
 |x::r,I,n,he=>by
  obtain⟨y,l2,rfl,h1,J⟩:=cB he;cases n with
  |zero=>exact he
  |succ n=>simpa using Dt n J
theorem tQ {h:aZ} {l vs:List TV} {I vs':List AV} (off:Nat) (h1:cj h l=ajn I) (J:cj h vs=ajn vs'):cj h (splice l off vs)=ajn (splice I off vs'):=by
 unfold splice;rw[iD J];exact mg (mg (Dr _ h1) J) (Dt _ h1)
theorem kR {h:aZ}:∀ {l:List TV} {I:List AV},cj h l=ajn I->∀ (j:Nat) x,l[j]? =ajn x->∃ y,I[j]? =ajn y/\bU h x=ajn y
 |[],I,he,j,x,M=>by simp at M
 |x::r,I,he,j,z,J=>by
  obtain⟨y,l2,rfl,h1,U⟩:=cB he;cases j with
  |zero=>simp at J;subst J;exact⟨y,rfl,h1⟩
  |succ j=>simpa using kR U j z (by simpa using J)
mutual
theorem oU (h:aZ):∀ (u:TV),JE h u=ajp->∃ y,bU h u=ajn y
 |.f _ _,_=>⟨_,rfl⟩
 |.fel _ _ _ _ _,_=>⟨_,rfl⟩
 |.pel _ _ _ _,_=>⟨_,rfl⟩
 |.ptr _ _,_=>⟨_,rfl⟩
 |.csl _ _ _,_=>⟨_,rfl⟩
 |.row id,he=>by
  simp only[JE] at he;cases hr:dE h id with
  |none=>rw[hr] at he;cases he
  |some r=>obtain⟨p,sz,n⟩:=r;exact⟨_,by simp only[bU,hr];rfl⟩
 |.rtl id jj,he=>by
  simp only[JE] at he;cases hr:dE h id with
  |none=>rw[hr] at he;cases he
  |some r=>obtain⟨p,sz,n⟩:=r;exact⟨_,by simp only[bU,hr];rfl⟩
 |.emp,_=>⟨_,rfl⟩
 |.nil,_=>⟨_,rfl⟩
 |.mp _,_=>⟨_,rfl⟩
 |.agg l,he=>by obtain⟨y,hy⟩:=eJ h l he;exact⟨_,by simp only[bU,hy];rfl⟩
 |.tup l,he=>by obtain⟨y,hy⟩:=eJ h l he;exact⟨_,by simp only[bU,hy];rfl⟩
 |.clo g l,he=>by obtain⟨y,hy⟩:=eJ h l he;exact⟨_,by simp only[bU,hy];rfl⟩
 |.undef,_=>⟨_,rfl⟩
 |.np,_=>⟨_,rfl⟩
 |.anyb,_=>⟨_,rfl⟩
theorem eJ (h:aZ):∀ (l:List TV),jT h l=ajp->∃ l',cj h l=ajn l'
 |[],_=>⟨[],rfl⟩
 |x::r,he=>by
  simp only[jT,aj] at he;obtain⟨y,hy⟩:=oU h x he.1;obtain⟨l',hl⟩:=eJ h r he.2;exact⟨_,nQ hy hl⟩
end
def bZ (h h':aZ):Prop:=∀ id r,dE h id=ajn r->dE h' id=ajn r
mutual
theorem fE {h h':aZ} (hk:bZ h h'):∀ (u:TV) (y:AV),bU h u=ajn y->bU h' u=ajn y
 |.f _ _,y,he=>he
 |.fel _ _ _ _ _,y,he=>he
 |.pel _ _ _ _,y,he=>he
 |.ptr _ _,y,he=>he
 |.csl _ _ _,y,he=>he
 |.row id,y,he=>by
  simp only[bU] at he ⊢;split at he
  ·rename_i p sz n hr;rw[hk _ _ hr];exact he
  ·cases he
 |.rtl id jj,y,he=>by
  simp only[bU] at he ⊢;split at he
  ·rename_i p sz n hr;rw[hk _ _ hr];exact he
  ·cases he
 |.emp,y,he=>he
 |.nil,y,he=>he
 |.mp _,y,he=>he
 |.agg l,y,he=>by
  simp only[bU] at he ⊢;split at he
  ·rename_i l' hl;rw[ic hk l l' hl];exact he
  ·cases he
 |.tup l,y,he=>by
  simp only[bU] at he ⊢;split at he
  ·rename_i l' hl;rw[ic hk l l' hl];exact he
  ·cases he
 |.clo g l,y,he=>by
  simp only[bU] at he ⊢;split at he
  ·rename_i l' hl;rw[ic hk l l' hl];exact he
  ·cases he
 |.undef,y,he=>he
 |.np,y,he=>he
 |.anyb,y,he=>he
theorem ic {h h':aZ} (hk:bZ h h'):∀ (l:List TV) (l':List AV),cj h l=ajn l'->cj h' l=ajn l'
 |[],l',he=>he
 |x::r,l',he=>by
  obtain⟨y,l2,rfl,h1,h2⟩:=cB he;exact nQ (fE hk x y h1) (ic hk r l2 h2)
end
mutual
theorem nl {h h':aZ} (hk:bZ h h'):∀ (u:TV),JE h u=ajp->JE h' u=ajp
 |.f _ _,_=>rfl
 |.fel _ _ _ _ _,_=>rfl
 |.pel _ _ _ _,_=>rfl
 |.ptr _ _,_=>rfl
 |.csl _ _ _,_=>rfl
 |.row id,he=>by
  simp only[JE] at he ⊢;cases hr:dE h id with
  |none=>rw[hr] at he;cases he
  |some r=>rw[hk _ _ hr];rfl
 |.rtl id jj,he=>by
  simp only[JE] at he ⊢;cases hr:dE h id with
  |none=>rw[hr] at he;cases he
  |some r=>rw[hk _ _ hr];rfl
 |.emp,_=>rfl
 |.nil,_=>rfl
 |.mp _,_=>rfl
 |.agg l,he=>hX hk l he
 |.tup l,he=>hX hk l he
 |.clo g l,he=>hX hk l he
 |.undef,_=>rfl
 |.np,_=>rfl
 |.anyb,_=>rfl
theorem hX {h h':aZ} (hk:bZ h h'):∀ (l:List TV),jT h l=ajp->jT h' l=ajp
 |[],_=>rfl
 |x::r,he=>by
  simp only[jT,aj] at he ⊢;exact⟨nl hk x he.1,hX hk r he.2⟩
end
mutual
theorem Dq (h:aZ):∀ (u:TV) (y:AV),bU h u=ajn y->JE h u=ajp
 |.f _ _,_,_=>rfl
 |.fel _ _ _ _ _,_,_=>rfl
 |.pel _ _ _ _,_,_=>rfl
 |.ptr _ _,_,_=>rfl
 |.csl _ _ _,_,_=>rfl
 |.row id,y,he=>by
  simp only[JE,bU] at he ⊢;cases hr:dE h id with
  |none=>rw[hr] at he;cases he
  |some r=>rfl
 |.rtl id jj,y,he=>by
  simp only[JE,bU] at he ⊢;cases hr:dE h id with
  |none=>rw[hr] at he;cases he
  |some r=>rfl
 |.emp,_,_=>rfl
 |.nil,_,_=>rfl
 |.mp _,_,_=>rfl
 |.agg l,y,he=>by
  simp only[bU] at he;split at he
  ·rename_i l' hl;exact kz h l l' hl
  ·cases he
 |.tup l,y,he=>by
  simp only[bU] at he;split at he
  ·rename_i l' hl;exact kz h l l' hl
  ·cases he
 |.clo g l,y,he=>by
  simp only[bU] at he;split at he
  ·rename_i l' hl;exact kz h l l' hl
  ·cases he
 |.undef,_,_=>rfl
 |.np,_,_=>rfl
 |.anyb,_,_=>rfl
theorem kz (h:aZ):∀ (l:List TV) (l':List AV),cj h l=ajn l'->jT h l=ajp
 |[],_,_=>rfl
 |x::r,l',he=>by
  obtain⟨y,l2,rfl,h1,h2⟩:=cB he;simp only[jT,aj];exact⟨Dq h x y h1,kz h r l2 h2⟩
end
mutual
theorem Pf (h h':aZ):∀ (u:TV),sJ u=ajp->bU h u=bU h' u
 |.f _ _,_=>rfl
 |.fel _ _ _ _ _,_=>rfl
 |.pel _ _ _ _,_=>rfl
 |.ptr _ _,_=>rfl
 |.csl _ _ _,_=>rfl
 |.row id,he=>by cases he
 |.emp,_=>rfl
 |.nil,_=>rfl
 |.mp _,_=>rfl
 |.agg l,he=>by simp only[bU];rw[Ds h h' l he]
 |.tup l,he=>by simp only[bU];rw[Ds h h' l he]
 |.clo g l,he=>by cases he
 |.undef,_=>rfl
 |.np,_=>rfl
 |.anyb,_=>rfl
theorem Ds (h h':aZ):∀ (l:List TV),ph l=ajp->cj h l=cj h' l
 |[],_=>rfl
 |x::r,he=>by
  simp only[ph,aj] at he;simp only[cj];rw[Pf h h' x he.1,Ds h h' r he.2]
end
theorem Mh {h:aZ} {u:TV} {y:AV} (he:bU h u=ajn y) (hc:u.isC=ajp):y.isCell=ajp:=by
 cases u with
 |f T v=>cases T<;>simp only[bU,aa] at he<;>subst he<;>first|rfl|(simp [TV.isC,Ty.one] at hc)
 |fel T xs j hj off=>simp only[bU,aa] at he;subst he;rfl
 |pel id sz j off=>simp only[bU,aa] at he;subst he;rfl
 |ptr id off=>simp only[bU,aa] at he;subst he;rfl
 |csl id off z=>simp only[bU,aa] at he;subst he;rfl
 |row id=>
  simp only[bU] at he;split at he
  ·simp only[aa] at he;subst he;unfold eo;split<;>rfl
  ·cases he
 |rtl id I=>cases hc
 |emp=>simp only[bU,aa] at he;subst he;rfl
 |nil=>simp only[bU,aa] at he;subst he;rfl
 |mp id=>simp only[bU,aa] at he;subst he;rfl
 |agg l=>cases hc
 |tup l=>cases hc
 |clo g l=>
  simp only[bU] at he;split at he
  ·simp only[aa] at he;subst he;rfl
  ·cases he
 |undef=>cases hc
 |np=>simp only[bU,aa] at he;subst he;rfl
 |anyb=>cases hc
theorem rR {h:aZ}:∀ {l:List TV} {I:List AV},cj h l=ajn I->jF l=ajp->fJ I=ajp
 |[],I,he,_=>by simp only[cj,aa] at he;subst he;rfl
 |x::r,I,he,hc=>by
  obtain⟨y,l2,rfl,h1,J⟩:=cB he;simp only[jF,aj] at hc;simp only[fJ,aj];exact⟨Mh h1 hc.1,rR J hc.2⟩
def Le (x y:AV):Prop:=∀ (φ:PM) (O:Nat->Prop) (w:World) (v:Value),cq φ O w x v->cq φ O w y v
theorem Le.refl (x:AV):Le x x:=λ_ _ _ _ h=>h
def kG (H H':HF) (x y:AV):Prop:=∀ (φ:PM) (E:Nat->Prop) (w:World) (v:Value),pM φ E H w->cq φ (tot E φ H) w x v->cq φ (tot E φ H') w y v
def tZ (H H':HF):Prop:=∀ i b,H' i=ajn b->∃ b0,H i=ajn b0
theorem tZ.refl (H:HF):tZ H H:=λ_ b h=>⟨b,h⟩
theorem tZ.own {H H':HF} (d:tZ H H') {φ:PM} {k:Nat} (h:own φ H' k):own φ H k:=by
 obtain⟨i,b,h1,J⟩:=h;obtain⟨b0,I⟩:=d i b h1;exact⟨i,b0,I,J⟩
theorem tZ.tot {H H':HF} (d:tZ H H') {E:Nat->Prop} {φ:PM} {k:Nat} (h:tot E φ H' k):tot E φ H k:=h.imp id d.own
theorem cq.dom {H H':HF} (d:tZ H H') {φ:PM} {E:Nat->Prop} {w:World} {x:AV} {v:Value} (h:cq φ (tot E φ H) w x v):cq φ (tot E φ H') w x v:=
 h.ext (λ_ _ h=>h) (Jj.refl _ w) λ_ _ hk=>d.tot hk
theorem mj.dom {H H':HF} (d:tZ H H') {φ:PM} {E:Nat->Prop} {w:World} {x:FV} {v:Value} (h:mj (tot E φ H) w x v):mj (tot E φ H') w x v:=
 h.ext (Jj.refl _ w) λ_ _ hk=>d.tot hk
theorem Le.toH {H H':HF} (d:tZ H H') {x y:AV} (h:Le x y):kG H H' x y:=λφ E w v _ hr=>(h _ _ _ _ hr).dom d
theorem kG.refl {H H':HF} (d:tZ H H') (x:AV):kG H H' x x:=(Le.refl x).toH d
def gr (H H':HF):List AV->List AV->Prop
 |[],[]=>True
 |x::xs,y::I=>kG H H' x y/\gr H H' xs I
 |_,_=>False
theorem gr.refl {H H':HF} (d:tZ H H'):∀ l,gr H H' l l
 |[]=>trivial
 |x::r=>⟨kG.refl d x,gr.refl d r⟩
theorem gr.length {H H':HF}:∀ {l I:List AV},gr H H' l I->I.length=l.length
 |[],[],_=>rfl
 |[],_::_,h=>h.elim
 |_::_,[],h=>h.elim
 |_::_,_::_,h=>by simp[gr.length h.2]
theorem gr.get {H H':HF}:∀ {l J:List AV},gr H H' l J->∀ (j:Nat) y,J[j]? =ajn y->∃ x,l[j]? =ajn x/\kG H H' x y
 |[],[],_,j,y,I=>by simp at I
 |[],_::_,h,_,_,_=>h.elim
 |_::_,[],h,_,_,_=>h.elim
 |x::xs,z::ys,h,j,y,I=>by
  cases j with
  |zero=>simp at I;subst I;exact⟨x,rfl,h.1⟩
  |succ j=>simpa using gr.get h.2 j y (by simpa using I)
theorem gr.append {H H':HF}:∀ {a a' b b':List AV},gr H H' a a'->gr H H' b b'->gr H H' (a++b) (a'++b')
 |[],[],_,_,_,h=>h
 |[],_::_,_,_,h,_=>h.elim
 |_::_,[],_,_,h,_=>h.elim
 |_::_,_::_,_,_,h,h'=>⟨h.1,gr.append h.2 h'⟩
theorem gr.take {H H':HF}:∀ {a a':List AV} (n:Nat),gr H H' a a'->gr H H' (a.take n) (a'.take n)
 |[],[],n,_=>by simp[gr]
 |[],_::_,_,h=>h.elim
 |_::_,[],_,h=>h.elim
 |_::_,_::_,0,_=>trivial
 |_::_,_::_,n+1,h=>⟨h.1,gr.take n h.2⟩
theorem gr.drop {H H':HF}:∀ {a a':List AV} (n:Nat),gr H H' a a'->gr H H' (a.drop n) (a'.drop n)
 |[],[],n,_=>by simp[gr]
 |[],_::_,_,h=>h.elim
 |_::_,[],_,h=>h.elim
 |_::_,_::_,0,h=>h
 |_::_,_::_,n+1,h=>gr.drop n h.2
theorem gr.splice {H H':HF} {a a' b b':List AV} (off:Nat) (h1:gr H H' a a') (I:gr H H' b b'):gr H H' (splice a off b) (splice a' off b'):=by
 unfold AI.splice;rw[I.length];exact ((h1.take off).append I).append (h1.drop _)
def jz (H H':HF) (b b':vy):Prop:=∀ (φ:PM) (E:Nat->Prop) (w:World) (o:Obj),pM φ E H w->iE φ (tot E φ H) w b o->iE φ (tot E φ H') w b' o
theorem jz.refl {H H':HF} (d:tZ H H') (b:vy):jz H H' b b:=λ_ _ _ _ _ h=>h.mono λ_ _ h=>h.dom d
theorem oA {φ:PM} {O:Nat->Prop} {w:World} {ty:TypeId} {c:BC} {o:Obj} (hc:c.isCells=ajp):iE φ O w ⟨ty,c⟩ o↔∃ arr,o= .cells arr ty (0,0)/\t7 φ O w c arr:=by
 unfold iE;cases c<;>simp[BC.isCells] at hc<;>rfl
theorem jz.cells {H H':HF} {ty:TypeId} {c c':BC} (hc:c.isCells=ajp) (I:c'.isCells=ajp) (hl:gr H H' c.toMx c'.toMx) (hcell:∀ x∈c'.toMx,x.isCell=ajp):jz H H' ⟨ty,c⟩ ⟨ty,c'⟩:=by
 intro φ E w o hrep M;rw[oA hc] at M;rw[oA I];obtain⟨arr,h1,h2,h3⟩:=M;refine ⟨arr,h1,by rw[BC.len_toMx I,hl.length,<-BC.len_toMx hc];exact h2,λj x J=>?_⟩;rw[BC.get_toMx I] at J;refine ⟨hcell x (aS J),?_⟩;obtain⟨y,U,hle⟩:=hl.get j x J;obtain⟨_,v,Z,Y⟩:=h3 j y (by rw[BC.get_toMx hc];exact U);exact⟨v,Z,hle _ _ _ _ hrep Y⟩
theorem jz.eq {H H':HF} (d:tZ H H') {ty:TypeId} {c c':BC} (hc:c.isCells=ajp) (I:c'.isCells=ajp) (hl:c.toMx=c'.toMx):jz H H' ⟨ty,c⟩ ⟨ty,c'⟩:=by
 intro φ E w o hrep M;rw[oA hc] at M;rw[oA I];obtain⟨arr,h1,h2,h3⟩:=M;refine ⟨arr,h1,by rw[BC.len_toMx I,<-hl,<-BC.len_toMx hc];exact h2,λj x J=>?_⟩;rw[BC.get_toMx I,<-hl,<-BC.get_toMx hc] at J;obtain⟨Z,v,Y,U⟩:=h3 j x J;exact⟨Z,v,Y,U.dom d⟩
structure I5 (H H':HF):Prop where
 dom:tZ H H'
 blk:∀ i b b',H i=ajn b->H' i=ajn b'->jz H H' b b'
theorem I5.refl (H:HF):I5 H H:=⟨tZ.refl H,λi b b' h h'=>by rw[h] at h';cases h';exact jz.refl (tZ.refl H) b⟩
theorem I5.rep {H H':HF} (V:I5 H H') {φ:PM} {E:Nat->Prop} {w:World} (r:pM φ E H w):pM φ E H' w:=by
 refine ⟨λi j b b' k J Z Y U=>?_,λi b J=>?_,r.el,λg cells hg=>(r.gl g cells hg).dom V.dom⟩
 ·obtain⟨b0,I⟩:=V.dom i b J;obtain⟨b1,M⟩:=V.dom j b' Z;exact r.inj i j b0 b1 k I M Y U
 ·obtain⟨b0,I⟩:=V.dom i b J;obtain⟨k,p1,p2,ob,p3,p4⟩:=r.at_ i b0 I;exact⟨k,p1,p2,ob,p3,V.blk i b0 b I J φ E w ob r p4⟩
theorem fO.view {P:Program} {o:Oper} {e:EF} {h:HF} {val val':AV} {rd wr wr' N:List Nat} {nw nw':HF} (ht:fO P o e h ⟨val,rd,wr,nw,N⟩) (hsub:∀ i∈wr,i∈wr'\/i∈rd)
 (hv:∀ h':HF,(∀ i∈rd,h' i=h i)->(∀ i∈wr',h' i=h i)->I5 (dQ h' wr nw) (dQ h' wr' nw')/\kG (dQ h' wr nw) (dQ h' wr' nw') val val'):fO P o e h ⟨val',rd,wr',nw',N⟩:=by
 intro φ E h' w a h1 J h3 Z Y;have M:=ht φ E h' w a h1 (λi hi=>(hsub i hi).elim (J i) (h1 i)) h3 Z Y;obtain⟨V,hle⟩:=hv h' h1 J;refine ND ?_ M;rintro a' w' ⟨v,φ',rfl,mv,nm',I,rel⟩;exact⟨v,φ',rfl,⟨mv.sub,mv.ext,λk hk U=>mv.own_ k hk (V.dom.own U)⟩,nm',V.rep I,hle _ _ _ _ I rel⟩
theorem Le.nil:Le (.f (.raw (.slice ajo 0 0))) (.f (.sl [] 0)):=by
 intro φ O w v hr;cases hr with
 |f hr=>cases hr;exact .f (.nil ajo 0 (by unfold maxLen;omega))
theorem Le.emp:Le .emp (.f (.sl [] 0)):=by
 intro φ O w v hr;cases hr with
 |emp=>exact .f (.nil _ 0 (by unfold maxLen;omega))
theorem Le.nilEmp:Le (.f (.raw (.slice ajo 0 0))) .emp:=by
 intro φ O w v hr;cases hr with
 |f hr=>cases hr;exact .emp
theorem Le.aggF {l:List FV}:Le (.f (.agg l)) (.agg (l.map .f)):=by
 intro φ O w v hr;cases hr with
 |f hr=>
  cases hr with
  |agg _ vs hl hcl hrr=>
   refine .agg (by simp[hl]) (λx I=>?_) λj x u I hu=>?_
   ·obtain⟨y,J,rfl⟩:=cO.1 I;exact hcl y J
   ·rw[aU] at I;cases hc:l[j]? with
    |none=>rw[hc] at I;cases I
    |some y=>rw[hc] at I;simp at I;subst I;exact .f (hrr j y u hc hu)
theorem X9 (l:List AV):Le (KU l) (.agg l):=by
 unfold KU;split
 ·rename_i fs h;rw[oG h];exact Le.aggF
 ·exact Le.refl _
theorem kG.aggL {H H':HF} {l:List AV} {I:List FV} (h:gr H H' l (I.map .f)) (hc:∀ x∈I,x.isCell=ajp):kG H H' (.agg l) (.f (.agg I)):=by
 intro φ E w v hrep hr;cases hr with
 |@agg _ vs hl hcl hrr=>
  refine .f (.agg I vs (by rw[hl,<-h.length];simp) hc λj y u J hu=>?_);obtain⟨x,M,hle⟩:=h.get j (.f y) (by rw[aU,J];rfl);have:=hle φ E w u hrep (hrr j x u M hu);cases this with
  |f h=>exact h
theorem kG.row {H H':HF} (d:tZ H H') {id sz n:Nat} {ty:TypeId} {cells:List FV} (h1:H id=ajn ⟨ty,.fz cells⟩) (h2:H' id=ajo) (hl:cells.length=n*sz):kG H H' (.row id sz n) (.f (.sl cells n)):=by
 intro φ E w v r hr;cases hr with
 |@row _ _ _ c k hφ hn hcap hsh=>
  obtain⟨k',U,Y,_⟩:=r.at_ id _ h1;rw[hφ] at U;cases U;obtain⟨arr,p1,p2,p3⟩:=r.cs h1 hφ rfl;have hk:k<w.heap.size:=(b9.1 p1).1;have hlen:cells.length<=arr.size:=by simpa[BC.toMx] using p3
  have hnk:¬tot E φ H' k:=by
   rintro (Z|⟨j,b,J,M⟩)
   ·exact Y Z
   ·obtain⟨b0,g3⟩:=d j b J;have:=r.inj j id b0 _ k g3 h1 M hφ;subst this;rw[h2] at J;cases J
  have hget:∀ (j:Nat) x,cells[j]? =ajn x->∃ u,arr[j]? =ajn u/\mj (tot E φ H) w x u:=λj x I=>by
   have hj:j<cells.length:=(a8.1 I).1;have hja:j<arr.size:=by omega
   refine ⟨arr[j],by simp[hja],?_⟩;have:=p2.2.2 j (.f x) arr[j] (by simp[BC.toMx,I]) (by
    rw[cr,if_pos (by simpa[BC.toMx] using hj),ch];simp[hja])
   cases this with
   |f h=>exact h
  refine .f (.sl cells n c k 0 (λj=>(arr[j]?).getD undef) hn hcap hnk hk (λx I=>?_) (λj hj=>?_) (λj x I=>?_))
  ·have:=p2.2.1 (.f x) (by simp only[BC.toMx];exact cO.2 ⟨x,I,rfl⟩);exact this
  ·have:j<arr.size:=by omega
   simp[LL,p1,this]
  ·obtain⟨u,J,M⟩:=hget j x I;rw[J];exact M.dom d
theorem qQ:∀ l:List Xp,HW l=l.flatMap uX
 |[]=>rfl
 |x::r=>by rw[HW,qQ r];rfl
theorem xJ:∀ l:List Sx,HV l=l.flatMap wL
 |[]=>rfl
 |x::r=>by rw[HV,xJ r];rfl
theorem HU (e:Xp):bC K9 (LR e)=uX e:=by
 cases e with
 |mk op n name l=>simp only[K9,LR,bC,uX,Xp.op,Xp.n,Xp.name,Xp.l,qQ];rfl
theorem Pn (x:K9.den):uX (du x)=bC K9 x:=by
 simp only[K9,du,bC,uX,qQ];rfl
theorem HR (e:Sx):bC KH (LQ e)=wL e:=by
 cases e with
 |mk op line name arg index expr body els=>simp only[KH,LQ,bC,wL,Sx.op,Sx.line,Sx.name,Sx.arg,Sx.index,Sx.expr,Sx.body,Sx.els,qQ,xJ];rfl
theorem Pm (x:KH.den):wL (mD x)=bC KH x:=by
 simp only[KH,mD,bC,wL,qQ,xJ];rfl
theorem wa (e:Xp):(uX e).length=4:=by cases e;simp[uX]
theorem BR (e:Sx):(wL e).length=11:=by cases e;simp[wL,wa]
theorem bl:∀ (T:Ty) (v:T.den),(bC T v).length=T.size
 |.int _,_=>rfl
 |.bool,_=>rfl
 |.str,_=>rfl
 |.sl _,_=>rfl
 |.st t,v=>bl t v
 |.pr a b,v=>by simp[bC,Ty.size,bl a,bl b]
 |.un,_=>rfl
 |.ex,v=>wa v
 |.sm,v=>BR v
theorem HX (e:Xp):∀ x∈uX e,x.isCell=ajp:=by
 cases e with
 |mk op n name l=>
  intro x I;simp only[uX,bc,bY,or_false] at I;rcases I with rfl|rfl|rfl|rfl<;>rfl
theorem Sp (e:Sx):∀ x∈wL e,x.isCell=ajp:=by
 cases e with
 |mk op line name arg index expr body els=>
  intro x I;simp only[wL,bE,bc,bY,or_false] at I;rcases I with (I|I)|I
  ·rcases I with rfl|rfl|rfl|rfl|rfl<;>rfl
  ·exact HX _ _ I
  ·rcases I with rfl|rfl<;>rfl
theorem mM:∀ (T:Ty) (v:T.den),∀ x∈bC T v,x.isCell=ajp
 |.int _,_,x,I=>by simp only[bC,aF] at I;subst I;rfl
 |.bool,_,x,I=>by simp only[bC,aF] at I;subst I;rfl
 |.str,_,x,I=>by simp only[bC,aF] at I;subst I;rfl
 |.sl _,_,x,I=>by simp only[bC,aF] at I;subst I;rfl
 |.st t,v,x,I=>mM t v x I
 |.pr a b,v,x,I=>by
  simp only[bC,bE] at I;exact I.elim (mM a v.1 x) (mM b v.2 x)
 |.un,_,x,I=>by simp[bC] at I
 |.ex,v,x,I=>HX v x I
 |.sm,v,x,I=>Sp v x I
theorem BS:∀ (T:Ty) (v:T.den),T.one=ajp->bC T v=[fM T v]/\T.size=1
 |.int _,_,_=>⟨rfl,rfl⟩
 |.bool,_,_=>⟨rfl,rfl⟩
 |.str,_,_=>⟨rfl,rfl⟩
 |.sl _,_,_=>⟨rfl,rfl⟩
 |.st _,_,h=>by cases h
 |.pr _ _,_,h=>by cases h
 |.un,_,h=>by cases h
 |.ex,_,h=>by cases h
 |.sm,_,h=>by cases h
theorem po:∀ (T:Ty) (v:T.den),T.one=ajq->fM T v= .agg (bC T v)
 |.int _,_,h=>by cases h
 |.bool,_,h=>by cases h
 |.str,_,h=>by cases h
 |.sl _,_,h=>by cases h
 |.st _,_,_=>rfl
 |.pr _ _,_,_=>rfl
 |.un,_,_=>rfl
 |.ex,_,_=>rfl
 |.sm,_,_=>rfl
theorem yE (T:Ty) (v:T.den):(AV.f (fM T v)).cs=(bC T v).map .f:=by
 cases h:T.one with
 |true=>
  rw[(BS T v h).1];cases T<;>simp only[Ty.one] at h<;>first|rfl|cases h
 |false=>rw[po T v h];rfl
theorem eA {α:Type} {f:α->List FV} {n:Nat} (hf:∀ x,(f x).length=n):∀ (xs:List α),(xs.flatMap f).length=xs.length*n
 |[]=>by simp
 |x::r=>by rw[eE,bg,hf,eA hf r,bH,gX];omega
theorem Do {α:Type} {f:α->List FV} {n:Nat} (hf:∀ x,(f x).length=n):∀ (xs:List α) (j:Nat) (x:α),xs[j]? =ajn x->∃ r,(xs.flatMap f).drop (j*n)=f x++r
 |[],j,x,h=>by simp at h
 |y::r,j,x,h=>by
  cases j with
  |zero=>simp at h;subst h;exact⟨r.flatMap f,by simp⟩
  |succ j=>
   obtain⟨q,hq⟩:=Do hf r j x (by simpa using h);refine ⟨q,?_⟩;rw[eE,show (j+1)*n=(f y).length+j*n from by rw[hf,gX];omega,tD];simp[hq]
theorem Pb {α:Type} {f:α->List FV} {n:Nat} (hf:∀ x,(f x).length=n):∀ (xs:List α) (j:Nat) (x z:α),xs[j]? =ajn x->∀ (off:Nat) (vs:List FV),off+vs.length<=n->f z=AI.splice (f x) off vs->(xs.set j z).flatMap f=AI.splice (xs.flatMap f) (j*n+off) vs
 |[],j,x,z,h,_,_,_,_=>by simp at h
 |y::r,j,x,z,h,off,vs,hle,I=>by
  cases j with
  |zero=>
   simp at h;subst h;simp only[List.set_cons_zero,eE,I,Nat.zero_mul,bz];unfold AI.splice;have M:=hf y;rw[List.take_append,tD];have e1:off-(f y).length=0:=by omega
   have e2:off+vs.length-(f y).length=0:=by omega
   rw[e1,e2];simp[iV]
  |succ j=>
   have J:=Pb hf r j x z (by simpa using h) off vs hle I;simp only[List.set_cons_succ,eE,J];unfold AI.splice;have M:=hf y;have e0:(j+1)*n=(f y).length+j*n:=by rw[hf,gX];omega
   rw[e0,List.take_append,tD];have e1:(f y).length+j*n+off-(f y).length=j*n+off:=by omega
   have e2:(f y).length+j*n+off+vs.length-(f y).length=j*n+off+vs.length:=by omega
   rw[e1,e2,eT (by omega:(f y).length<=(f y).length+j*n+off),qr (by omega:(f y).length<=(f y).length+j*n+off+vs.length)];simp[iV]
theorem qj (T:Ty) (xs:List T.den):∀ x∈xs.flatMap (bC T),x.isCell=ajp:=λx I=>by
 obtain⟨y,_,h⟩:=tw.1 I;exact mM T y x h
theorem io {S T:Ty} {v:S.den} {x:T.den} (h:vk T v=ajn x):∃ e:S=T,x=e▸v:=by
 unfold vk at h;split at h
 ·rename_i e;simp only[aa] at h;exact⟨e,h.symm⟩
 ·cases h
theorem kA (h:aZ):∀ (n:Nat) (T:Ty) (v:T.den) (l:List TV),cellsOf n T v=ajn l->cj h l=ajn ((bC T v).map .f)/\jF l=ajp
 |0,_,_,_,he=>by simp[cellsOf] at he
 |n+1,.st t,v,l,he=>kA h n t v l he
 |n+1,.pr a b,v,l,he=>by
  simp only[cellsOf] at he;split at he
  ·rename_i x y M J;simp only[aa] at he;subst he;obtain⟨h1,I⟩:=kA h n a v.1 x M;obtain⟨U,Z⟩:=kA h n b v.2 y J;refine ⟨by rw[bC,ct];exact mg h1 U,?_⟩;clear h1 U M J;induction x with
   |nil=>exact Z
   |cons z r Y=>simp only[jF,aj,fg] at I ⊢;exact⟨I.1,Y I.2⟩
  ·cases he
 |n+1,.un,v,l,he=>by simp only[cellsOf,aa] at he;subst he;exact⟨rfl,rfl⟩
 |n+1,.ex,v,l,he=>by rw[bC,<-HU];exact kA h n K9 (LR v) l he
 |n+1,.sm,v,l,he=>by rw[bC,<-HR];exact kA h n KH (LQ v) l he
 |n+1,.int k,v,l,he=>by simp only[cellsOf,aa] at he;subst he;exact⟨rfl,rfl⟩
 |n+1,.bool,v,l,he=>by simp only[cellsOf,aa] at he;subst he;exact⟨rfl,rfl⟩
 |n+1,.str,v,l,he=>by simp only[cellsOf,aa] at he;subst he;exact⟨rfl,rfl⟩
 |n+1,.sl t,v,l,he=>by simp only[cellsOf,aa] at he;subst he;exact⟨rfl,rfl⟩
theorem L4 {y:AV} (h:y.isCell=ajp):y.cs=[y]:=by
 cases y with
 |f x=>cases x<;>first|rfl|cases h
 |agg l=>cases h
 |_=>rfl
theorem Ly {h:aZ} {v:TV} {l:List TV} {y:AV} (hv:v.cs=ajn l) (I:bU h v=ajn y):cj h l=ajn y.cs/\jF l=ajp:=by
 have one:(if v.isC then ajn [v] else ajo)=ajn l->cj h l=ajn y.cs/\jF l=ajp:=λhv=>by
  split at hv
  ·rename_i hc;simp only[aa] at hv;subst hv;exact⟨by rw[L4 (Mh I hc)];exact nQ I rfl,by simp[jF,hc]⟩
  ·cases hv
 cases v with
 |agg q=>
  simp only[TV.cs] at hv;split at hv
  ·rename_i hc;simp only[aa] at hv;subst hv;simp only[bU] at I;split at I
   ·rename_i J hl;simp only[aa] at I;subst I;exact⟨hl,hc⟩
   ·cases I
  ·cases hv
 |f T x=>
  simp only[TV.cs] at hv;simp only[bU,aa] at I;subst I;rw[yE];exact kA h 40 T x l hv
 |fel T xs j hj off=>exact one hv
 |pel id sz j off=>exact one hv
 |ptr id off=>exact one hv
 |csl id off z=>exact one hv
 |row id=>exact one hv
 |emp=>exact one hv
 |nil=>exact one hv
 |mp id=>exact one hv
 |rtl id M=>exact one hv
 |tup q=>exact one hv
 |clo g q=>exact one hv
 |undef=>exact one hv
 |np=>exact one hv
 |anyb=>exact one hv
def CH (h:aZ) (H H':HF) (m:Nat):Prop:=∀ id,aG m id=ajp->H (nm id)=bi h (nm id)/\H' (nm id)=ajo
theorem CH.zero {h:aZ} {H H':HF}:CH h H H' 0:=λid hid=>by simp at hid
theorem CH.or {h:aZ} {H H':HF} {a b:Nat} (g:CH h H H' (a|||b)):CH h H H' a/\CH h H H' b:=
 ⟨λid hid=>g id (by rw[bf,hid];rfl),λid hid=>g id (by rw[bf,hid];simp)⟩
theorem bK {i j:Nat}:aG (kg i) j=ajp↔i=j:=by
 unfold kg;rw[Nat.one_shiftLeft,Nat.testBit_two_pow];simp
section pack
variable {h:aZ} {H H':HF}
theorem ww (d:tZ H H') {T:Ty} {v:TV} {x:T.den} {m:Nat} {y:AV} (I:gP h T v=ajn (x,m)) (J:bU h v=ajn y) (g:CH h H H' m):kG H H' y (.f (fM T x))/\y.cs.length=T.size/\(T.one=ajp->y.isCell=ajp)/\gr H H' y.cs ((bC T x).map .f):=by
 cases v with
 |f S v=>
  simp only[gP] at I;split at I
  ·rename_i z M;simp only[aa,aw] at I;obtain⟨rfl,_⟩:=I;obtain⟨e,rfl⟩:=io M;subst e;simp only[bU,aa] at J;subst J;refine ⟨kG.refl d _,by rw[yE,bV,bl],λY=>?_,by rw[yE];exact gr.refl d _⟩;cases S<;>simp only[Ty.one] at Y<;>first|rfl|cases Y
  ·cases I
 |emp=>
  simp only[gP] at I;split at I
  ·simp only[aa,aw] at I;obtain⟨rfl,_⟩:=I;simp only[bU,aa] at J;subst J;exact⟨Le.emp.toH d,rfl,λ_=>rfl,⟨Le.emp.toH d,trivial⟩⟩
  ·cases I
 |nil=>
  simp only[gP] at I;split at I
  ·simp only[aa,aw] at I;obtain⟨rfl,_⟩:=I;simp only[bU,aa] at J;subst J;exact⟨Le.nil.toH d,rfl,λ_=>rfl,⟨Le.nil.toH d,trivial⟩⟩
  ·cases I
 |row id=>
  simp only[gP] at I;split at I
  ·rename_i ty p S xs hb;split at I
   ·rename_i z M;simp only[aa,aw] at I;obtain⟨rfl,rfl⟩:=I;obtain⟨e,rfl⟩:=io M;subst e;obtain⟨U,Z⟩:=g id (bK.2 rfl);rw[bt,hb] at U;simp only[bU,dE,hb,aa] at J;subst J;have key:kG H H' (eo p id S.size xs.length) (.f (fM (.sl S) xs)):=by
     unfold eo;split
     ·rename_i hp;simp only[aj,beq_iff_eq] at hp;have:xs=[]:=fK.1 hp.2;subst this;exact Le.emp.toH d
     ·rename_i hp;simp only[aA,jR,if_neg hp] at U;exact kG.row d U Z (eA (bl S) xs)
    have hc:(eo p id S.size xs.length).isCell=ajp:=by unfold eo;split<;>rfl
    refine ⟨key,by rw[L4 hc];rfl,λ_=>hc,?_⟩;rw[L4 hc];exact⟨key,trivial⟩
   ·cases I
  ·cases I
 |fel T xs j hj off=>simp[gP] at I
 |pel id sz j off=>simp[gP] at I
 |ptr id off=>simp[gP] at I
 |csl id off z=>simp[gP] at I
 |mp id=>simp[gP] at I
 |rtl id jj=>simp[gP] at I
 |agg q=>simp[gP] at I
 |tup q=>simp[gP] at I
 |clo f q=>simp[gP] at I
 |undef=>simp[gP] at I
 |np=>simp[gP] at I
 |anyb=>simp[gP] at I
theorem qG (d:tZ H H'):∀ (n:Nat) (T:Ty) (l:List TV) (x:T.den) (m:Nat) (r:List TV) (I:List AV),dU h n T l=ajn (x,m,r)->cj h l=ajn I->CH h H H' m->∃ l1 l2,I=l1++l2/\cj h r=ajn l2/\gr H H' l1 ((bC T x).map .f)
 |0,_,_,_,_,_,_,hp,_,_=>by simp[dU] at hp
 |n+1,.st t,l,x,m,r,I,hp,hl,g=>qG d n t l x m r I hp hl g
 |n+1,.pr a b,l,x,m,r,I,hp,hl,g=>by
  simp only[dU] at hp;split at hp
  ·rename_i J m1 r1 h1;split at hp
   ·rename_i Y m2 r2 h2;simp only[aa,aw] at hp;obtain⟨rfl,rfl,rfl⟩:=hp;obtain⟨ga,gb⟩:=g.or;obtain⟨l1,l2,rfl,U,M⟩:=qG d n a l J m1 r1 I h1 hl ga;obtain⟨l3,Z,rfl,q3,q4⟩:=qG d n b r1 Y m2 r2 l2 h2 U gb;refine ⟨l1++l3,Z,by simp,q3,?_⟩;rw[bC,ct];exact M.append q4
   ·cases hp
  ·cases hp
 |n+1,.un,l,x,m,r,I,hp,hl,g=>by
  simp only[dU,aa,aw] at hp;obtain⟨_,_,rfl⟩:=hp;exact⟨[],I,rfl,hl,trivial⟩
 |n+1,.ex,l,x,m,r,I,hp,hl,g=>by
  simp only[dU] at hp;split at hp
  ·rename_i J m1 r1 h1;simp only[aa,aw] at hp;obtain⟨rfl,rfl,rfl⟩:=hp;rw[bC,Pn];exact qG d n K9 l J m1 r1 I h1 hl g
  ·cases hp
 |n+1,.sm,l,x,m,r,I,hp,hl,g=>by
  simp only[dU] at hp;split at hp
  ·rename_i J m1 r1 h1;simp only[aa,aw] at hp;obtain⟨rfl,rfl,rfl⟩:=hp;rw[bC,Pm];exact qG d n KH l J m1 r1 I h1 hl g
  ·cases hp
 |n+1,.int k,l,x,m,r,I,hp,hl,g=>by
  simp only[dU] at hp;split at hp
  ·rename_i c q;split at hp
   ·rename_i J m1 h1;simp only[aa,aw] at hp;obtain⟨rfl,rfl,rfl⟩:=hp;obtain⟨y,l2,rfl,U,M⟩:=cB hl;exact⟨[y],l2,rfl,M,⟨(ww d h1 U g).1,trivial⟩⟩
   ·cases hp
  ·cases hp
 |n+1,.bool,l,x,m,r,I,hp,hl,g=>by
  simp only[dU] at hp;split at hp
  ·rename_i c q;split at hp
   ·rename_i J m1 h1;simp only[aa,aw] at hp;obtain⟨rfl,rfl,rfl⟩:=hp;obtain⟨y,l2,rfl,U,M⟩:=cB hl;exact⟨[y],l2,rfl,M,⟨(ww d h1 U g).1,trivial⟩⟩
   ·cases hp
  ·cases hp
 |n+1,.str,l,x,m,r,I,hp,hl,g=>by
  simp only[dU] at hp;split at hp
  ·rename_i c q;split at hp
   ·rename_i J m1 h1;simp only[aa,aw] at hp;obtain⟨rfl,rfl,rfl⟩:=hp;obtain⟨y,l2,rfl,U,M⟩:=cB hl;exact⟨[y],l2,rfl,M,⟨(ww d h1 U g).1,trivial⟩⟩
   ·cases hp
  ·cases hp
 |n+1,.sl t,l,x,m,r,I,hp,hl,g=>by
  simp only[dU] at hp;split at hp
  ·rename_i c q;split at hp
   ·rename_i J m1 h1;simp only[aa,aw] at hp;obtain⟨rfl,rfl,rfl⟩:=hp;obtain⟨y,l2,rfl,U,M⟩:=cB hl;exact⟨[y],l2,rfl,M,⟨(ww d h1 U g).1,trivial⟩⟩
   ·cases hp
  ·cases hp
theorem Rv (d:tZ H H') {n:Nat} {T:Ty} {l:List TV} {x:T.den} {m:Nat} {I:List AV} (hp:dU h n T l=ajn (x,m,[])) (hl:cj h l=ajn I) (g:CH h H H' m):gr H H' I ((bC T x).map .f):=by
 obtain⟨l1,l2,rfl,J,M⟩:=qG d n T l x m [] I hp hl g;simp only[cj,aa] at J;subst J;simpa using M
theorem Nj (d:tZ H H') {T:Ty} {v:TV} {x:T.den} {m:Nat} {y:AV} (I:Cu h T v=ajn (x,m)) (J:bU h v=ajn y) (g:CH h H H' m):kG H H' y (.f (fM T x))/\gr H H' y.cs ((bC T x).map .f):=by
 have other:gP h T v=ajn (x,m)->kG H H' y (.f (fM T x))/\gr H H' y.cs ((bC T x).map .f):=λI=>by
  obtain⟨h1,_,_,Y⟩:=ww d I J g;exact⟨h1,Y⟩
 cases v with
 |agg l=>
  simp only[Cu] at I;split at I
  ·cases I
  ·rename_i U;split at I
   ·rename_i M m1 h1;simp only[aa,aw] at I;obtain⟨rfl,rfl⟩:=I;simp only[bU] at J;split at J
    ·rename_i Z hl;simp only[aa] at J;subst J;have:=Rv d h1 hl g;refine ⟨?_,this⟩;rw[po T M (by simpa using U)];exact kG.aggL this (mM T M)
    ·cases J
   ·cases I
 |f S v=>exact other I
 |fel T xs j hj off=>exact other I
 |pel id sz j off=>exact other I
 |ptr id off=>exact other I
 |csl id off z=>exact other I
 |row id=>exact other I
 |emp=>exact other I
 |nil=>exact other I
 |mp id=>exact other I
 |rtl id jj=>exact other I
 |tup q=>exact other I
 |clo g q=>exact other I
 |undef=>exact other I
 |np=>exact other I
 |anyb=>exact other I
theorem Bj (d:tZ H H') {T:Ty}:∀ (n:Nat) (l:List TV) (xs:List T.den) (m:Nat) (I:List AV),xl h T n l=ajn (xs,m)->cj h l=ajn I->CH h H H' m->gr H H' I ((xs.flatMap (bC T)).map .f)/\xs.length=n
 |0,[],xs,m,I,hp,hl,g=>by
  simp only[xl,aa,aw] at hp;obtain⟨rfl,_⟩:=hp;simp only[cj,aa] at hl;subst hl;exact⟨trivial,rfl⟩
 |0,_::_,xs,m,I,hp,hl,g=>by simp[xl] at hp
 |n+1,l,xs,m,I,hp,hl,g=>by
  simp only[xl] at hp;split at hp
  ·rename_i M m1 r1 h1;split at hp
   ·rename_i J m2 Z;simp only[aa,aw] at hp;obtain⟨rfl,rfl⟩:=hp;obtain⟨ga,gb⟩:=g.or;obtain⟨l1,l2,rfl,Y,U⟩:=qG d 40 T l M m1 r1 I h1 hl ga;obtain⟨q3,q4⟩:=Bj d n r1 J m2 l2 Z Y gb;refine ⟨?_,by simp[q4]⟩;rw[eE,ct];exact U.append q3
   ·cases hp
  ·cases hp
theorem sR (h:aZ):∀ (n:Nat) (T:Ty) (v:T.den) (off sz:Nat) (ag:Bool) (u:TV),mR n T v off sz ag=ajn u->off+sz<=T.size/\∃ y,bU h u=ajn (.f y)/\(ag=ajq->sz=1/\(bC T v)[off]? =ajn y)/\(ag=ajp->y= .agg (((bC T v).drop off).take sz))
 |0,_,_,_,_,_,_,hg=>by simp[mR] at hg
 |n+1,.st t,v,off,sz,ag,u,hg=>by
  simp only[mR] at hg;split at hg
  ·rename_i hc;simp only[aj] at hc;obtain⟨⟨h1,I⟩,rfl⟩:=hc;have h1:=ak h1;have I:=ak I;subst h1;subst I;simp only[aa] at hg;subst hg;refine ⟨by simp[Ty.size],_,rfl,λh=>(by cases h),λ_=>?_⟩;simp only[fM,bC,List.drop_zero];rw[<- bl t v,cz]
  ·exact sR h n t v off sz ag u hg
 |n+1,.pr a b,v,off,sz,ag,u,hg=>by
  simp only[mR] at hg;have hla:=bl a v.1;have hlb:=bl b v.2;split at hg
  ·rename_i hlt;have hlt:off<a.size:=aR hlt;obtain⟨h1,y,I,M,J⟩:=sR h n a v.1 off sz ag u hg;refine ⟨by simp only[Ty.size];omega,y,I,λe=>?_,λe=>?_⟩
   ·obtain⟨Y,U⟩:=M e;exact⟨Y,by rw[bC,bA (by omega)];exact U⟩
   ·rw[J e,bC];have:((bC a v.1++bC b v.2).drop off).take sz=((bC a v.1).drop off).take sz:=by
     rw[CG (by omega),ka (by simp;omega)]
    rw[this]
  ·rename_i hlt;have hlt:¬off<a.size:=λh=>hlt (bp h)
   obtain⟨h1,y,I,M,J⟩:=sR h n b v.2 (off-a.size) sz ag u hg;refine ⟨by simp only[Ty.size];omega,y,I,λe=>?_,λe=>?_⟩
   ·obtain⟨Y,U⟩:=M e;exact⟨Y,by rw[bC,bJ (by omega),hla];exact U⟩
   ·rw[J e,bC];have:(bC a v.1++bC b v.2).drop off=(bC b v.2).drop (off-a.size):=by
     rw[tD,hla,qr (by omega)];simp
    rw[this]
 |n+1,.un,v,off,sz,ag,u,hg=>by simp[mR] at hg
 |n+1,.ex,v,off,sz,ag,u,hg=>by
  simp only[mR] at hg;split at hg
  ·rename_i hc;simp only[aj] at hc;obtain⟨⟨h1,I⟩,rfl⟩:=hc;have h1:=ak h1;have I:=ak I;subst h1;subst I;simp only[aa] at hg;subst hg;refine ⟨by simp[Ty.size],_,rfl,λh=>(by cases h),λ_=>?_⟩;simp only[fM,bC,List.drop_zero];rw[<- wa v,cz]
  ·obtain⟨h1,y,I,M,J⟩:=sR h n K9 (LR v) off sz ag u hg;rw[HU] at M J;exact⟨h1,y,I,M,J⟩
 |n+1,.sm,v,off,sz,ag,u,hg=>by
  simp only[mR] at hg;split at hg
  ·rename_i hc;simp only[aj] at hc;obtain⟨⟨h1,I⟩,rfl⟩:=hc;have h1:=ak h1;have I:=ak I;subst h1;subst I;simp only[aa] at hg;subst hg;refine ⟨by simp[Ty.size],_,rfl,λh=>(by cases h),λ_=>?_⟩;simp only[fM,bC,List.drop_zero];rw[<- BR v,cz]
  ·obtain⟨h1,y,I,M,J⟩:=sR h n KH (LQ v) off sz ag u hg;rw[HR] at M J;exact⟨h1,y,I,M,J⟩
 |n+1,.int k,v,off,sz,ag,u,hg=>by
  simp only[mR] at hg;split at hg
  ·rename_i hc;simp only[aj,dC] at hc;obtain⟨⟨h1,I⟩,rfl⟩:=hc;have h1:=ak h1;have I:=ak I;subst h1;subst I;simp only[aa] at hg;subst hg;exact⟨by simp[Ty.size],_,rfl,λ_=>⟨rfl,rfl⟩,λh=>by cases h⟩
  ·cases hg
 |n+1,.bool,v,off,sz,ag,u,hg=>by
  simp only[mR] at hg;split at hg
  ·rename_i hc;simp only[aj,dC] at hc;obtain⟨⟨h1,I⟩,rfl⟩:=hc;have h1:=ak h1;have I:=ak I;subst h1;subst I;simp only[aa] at hg;subst hg;exact⟨by simp[Ty.size],_,rfl,λ_=>⟨rfl,rfl⟩,λh=>by cases h⟩
  ·cases hg
 |n+1,.str,v,off,sz,ag,u,hg=>by
  simp only[mR] at hg;split at hg
  ·rename_i hc;simp only[aj,dC] at hc;obtain⟨⟨h1,I⟩,rfl⟩:=hc;have h1:=ak h1;have I:=ak I;subst h1;subst I;simp only[aa] at hg;subst hg;exact⟨by simp[Ty.size],_,rfl,λ_=>⟨rfl,rfl⟩,λh=>by cases h⟩
  ·cases hg
 |n+1,.sl t,v,off,sz,ag,u,hg=>by
  simp only[mR] at hg;split at hg
  ·rename_i hc;simp only[aj,dC] at hc;obtain⟨⟨h1,I⟩,rfl⟩:=hc;have h1:=ak h1;have I:=ak I;subst h1;subst I;simp only[aa] at hg;subst hg;exact⟨by simp[Ty.size],_,rfl,λ_=>⟨rfl,rfl⟩,λh=>by cases h⟩
  ·cases hg
theorem Ro {α:Type} (l vs:List α) (h:vs.length=l.length):AI.splice l 0 vs=vs:=by
 unfold AI.splice;rw[bz,h,List.drop_length];simp
theorem NS {α:Type} (a b vs:List α) (off:Nat) (h:off+vs.length<=a.length):AI.splice (a++b) off vs=AI.splice a off vs++b:=by
 unfold AI.splice;rw[ka (by omega),CG (by omega)];simp[iV]
theorem LX {α:Type} (a b vs:List α) (off:Nat) (h:a.length<=off):AI.splice (a++b) off vs=a++AI.splice b (off-a.length) vs:=by
 unfold AI.splice;rw[List.take_append,tD,eT h,qr (by omega),show off+vs.length-a.length=off-a.length+vs.length from by omega];simp[iV]
def Va (H H':HF) (y:AV) (T:Ty) (v z:T.den) (off sz:Nat):Prop:=∃ fs:List FV,gr H H' y.cs (fs.map .f)/\fs.length=sz/\off+sz<=T.size/\bC T z=AI.splice (bC T v) off fs/\∀ x∈fs,x.isCell=ajp
theorem Va.whole {y:AV} {T:Ty} {v z:T.den} {off sz:Nat} (h0:off=0) (hs:sz=T.size) (hl:gr H H' y.cs ((bC T z).map .f)):Va H H' y T v z off sz:=by
 subst h0;subst hs;exact⟨bC T z,hl,bl T z,by omega,(Ro _ _ (by rw[bl,bl])).symm,mM T z⟩
theorem uC (d:tZ H H') {u:TV} {y:AV} (I:bU h u=ajn y):∀ (n:Nat) (T:Ty) (v:T.den) (off sz:Nat) (z:T.den) (m:Nat),fQ h u n T v off sz=ajn (z,m)->CH h H H' m->Va H H' y T v z off sz
 |0,_,_,_,_,_,_,hg,_=>by simp[fQ] at hg
 |n+1,.st t,v,off,sz,z,m,hg,g=>by
  simp only[fQ] at hg;split at hg
  ·rename_i q hq;split at hq
   ·rename_i hc;simp only[aj] at hc;simp only[aa] at hg;subst hg;exact .whole (ak hc.1) (ak hc.2) (Nj d hq I g).2
   ·cases hq
  ·exact uC d I n t v off sz z m hg g
 |n+1,.pr a b,v,off,sz,z,m,hg,g=>by
  simp only[fQ] at hg;have hla:=bl a v.1;split at hg
  ·rename_i hlt;split at hg
   ·rename_i J m1 h1;simp only[aa,aw] at hg;obtain⟨rfl,rfl⟩:=hg;obtain⟨fs,U,M,q3,q4,q5⟩:=uC d I n a v.1 off sz J m1 h1 g;refine ⟨fs,U,M,by simp only[Ty.size];omega,?_,q5⟩;rw[bC,bC,NS _ _ _ _ (by omega),q4]
   ·cases hg
  ·rename_i hlt;have hlt:¬off<a.size:=λh=>hlt (bp h)
   split at hg
   ·rename_i J m1 h1;simp only[aa,aw] at hg;obtain⟨rfl,rfl⟩:=hg;obtain⟨fs,U,M,q3,q4,q5⟩:=uC d I n b v.2 (off-a.size) sz J m1 h1 g;refine ⟨fs,U,M,by simp only[Ty.size];omega,?_,q5⟩;rw[bC,bC,LX _ _ _ _ (by omega),q4,hla]
   ·cases hg
 |n+1,.un,v,off,sz,z,m,hg,g=>by simp[fQ] at hg
 |n+1,.ex,v,off,sz,z,m,hg,g=>by
  simp only[fQ] at hg;split at hg
  ·rename_i q hq;split at hq
   ·rename_i hc;simp only[aj] at hc;simp only[aa] at hg;subst hg;exact .whole (ak hc.1) (ak hc.2) (Nj d hq I g).2
   ·cases hq
  ·split at hg
   ·rename_i J m1 h1;simp only[aa,aw] at hg;obtain⟨rfl,rfl⟩:=hg;obtain⟨fs,U,M,q3,q4,q5⟩:=uC d I n K9 (LR v) off sz J m1 h1 g;exact⟨fs,U,M,q3,by rw[bC,bC,Pn,q4,HU],q5⟩
   ·cases hg
 |n+1,.sm,v,off,sz,z,m,hg,g=>by
  simp only[fQ] at hg;split at hg
  ·rename_i q hq;split at hq
   ·rename_i hc;simp only[aj] at hc;simp only[aa] at hg;subst hg;exact .whole (ak hc.1) (ak hc.2) (Nj d hq I g).2
   ·cases hq
  ·split at hg
   ·rename_i J m1 h1;simp only[aa,aw] at hg;obtain⟨rfl,rfl⟩:=hg;obtain⟨fs,U,M,q3,q4,q5⟩:=uC d I n KH (LQ v) off sz J m1 h1 g;exact⟨fs,U,M,q3,by rw[bC,bC,Pm,q4,HR],q5⟩
   ·cases hg
 |n+1,.int k,v,off,sz,z,m,hg,g=>by
  simp only[fQ] at hg;split at hg
  ·rename_i hc;simp only[aj] at hc;exact .whole (ak hc.1) (ak hc.2) (ww d hg I g).2.2.2
  ·cases hg
 |n+1,.bool,v,off,sz,z,m,hg,g=>by
  simp only[fQ] at hg;split at hg
  ·rename_i hc;simp only[aj] at hc;exact .whole (ak hc.1) (ak hc.2) (ww d hg I g).2.2.2
  ·cases hg
 |n+1,.str,v,off,sz,z,m,hg,g=>by
  simp only[fQ] at hg;split at hg
  ·rename_i hc;simp only[aj] at hc;exact .whole (ak hc.1) (ak hc.2) (ww d hg I g).2.2.2
  ·cases hg
 |n+1,.sl t,v,off,sz,z,m,hg,g=>by
  simp only[fQ] at hg;split at hg
  ·rename_i hc;simp only[aj] at hc;exact .whole (ak hc.1) (ak hc.2) (ww d hg I g).2.2.2
  ·cases hg
theorem IV:∀ {a b:List Value},Qt a b=ajp->a=b
 |[],[],_=>rfl
 |[],_::_,h=>by cases h
 |_::_,[],h=>by cases h
 |x::xs,y::ys,h=>by
  simp only[Qt,aj] at h;rw[abf h.1,IV h.2]
theorem zero_ok (d:tZ H H'):∀ T:Ty,gr H H' ((ru T).map raw) ((bC T T.zero).map .f)
 |.int k=>⟨kG.refl d _,trivial⟩
 |.bool=>⟨kG.refl d _,trivial⟩
 |.str=>⟨kG.refl d _,trivial⟩
 |.sl t=>⟨Le.nil.toH d,trivial⟩
 |.st t=>zero_ok d t
 |.pr a b=>by
  simp only[ru,Ty.zero,bC,ct];exact (zero_ok d a).append (zero_ok d b)
 |.un=>trivial
 |.ex=>⟨kG.refl d _,kG.refl d _,kG.refl d _,Le.nil.toH d,trivial⟩
 |.sm=>⟨kG.refl d _,kG.refl d _,kG.refl d _,kG.refl d _,Le.nil.toH d,kG.refl d _,kG.refl d _,kG.refl d _,Le.nil.toH d,Le.nil.toH d,Le.nil.toH d,trivial⟩
theorem FO (d:tZ H H') (T:Ty):∀ n,gr H H' ((repl (ru T) n).map .f) (((ay n T.zero).flatMap (bC T)).map .f)
 |0=>trivial
 |n+1=>by
  rw[repl,List.replicate_succ,eE,ct,ct];have h1:=zero_ok (H:=H) (H':=H') d T;have:((ru T).map .raw).map AV.f=(ru T).map raw:=by rw[yk];rfl
  rw[this];exact h1.append (FO d T n)
end pack
structure kU (h:aZ) (nx:Nat):Prop where
 cells:∀ id ty l,h.get id=ajn (.cells ty l)->jT h l=ajp
 low:∀ id b,h.get id=ajn b->id<nx
def rT (e:gU) (h:aZ):Prop:=∀ t v,e.get t=ajn v->JE h v=ajp
structure iy (P:Program) (o:Oper) (still:Bool) (e:gU) (h:aZ) (nx:Nat) (v:TV) (rd wr:Nat) (h':aZ) (nx':Nat):Prop where
 ex:∃ f:zK,fO P o (eP e h) (bi h) f/\(∀ y,bU h' v=ajn y->f.val=y)/\dQ (bi h) f.wr f.nw=bi h'/\(∀ n∈f.rd,aG rd (ow n)=ajp)/\(∀ n∈f.wr,aG wr (ow n)=ajp)/\(∀ n∈f.N,nx<=ow n/\ow n<nx')
 rows:bZ h h'
 inv:kU h' nx'
 grows:nx<=nx'
 st:still=ajp->rd=0/\wr=0
def jS {R:Type} (P:Program) (o:Oper) (still:Bool) (e:gU) (h:aZ) (nx:Nat) (K:KO R) (r:R):Prop:=
 ∃ v rd wr h' nx',K v rd wr h' nx'=ajn r/\iy P o still e h nx v rd wr h' nx'
theorem dA {R:Type} {b:Bool} {k:b=ajp->Option R} {r:R} (h:chk b k=ajn r):∃ hb:b=ajp,k hb=ajn r:=by
 cases b with
 |true=>exact⟨rfl,h⟩
 |false=>cases h
theorem ov {R:Type} {b:Bool} {t f:Option R} {r:R} (h:bcase b t f=ajn r):(b=ajp/\t=ajn r)\/(b=ajq/\f=ajn r):=by
 cases b with
 |true=>exact .inl ⟨rfl,h⟩
 |false=>exact .inr ⟨rfl,h⟩
theorem c5 {α R:Type} {o:Option α} {k:α->Option R} {r:R} (h:obind o k=ajn r):∃ x,o=ajn x/\k x=ajn r:=by
 cases o with
 |some x=>exact⟨x,rfl,h⟩
 |none=>cases h
theorem Hc {j:Int} {n:Nat} (h:eS j n=ajp):0<=j/\j<n/\j.toNat<n:=by
 simp only[eS,cD,eX,aj,decide_eq_true_eq] at h;omega
theorem fO.envLe {P:Program} {o:Oper} {e e2:EF} {h:HF} {f:zK} (ht:fO P o e h f) (hle:∀ t y,.tmp t∈o.op.operands->e t=ajn y->∃ J,e2 t=ajn J/\Le J y):fO P o e2 h f:=by
 intro φ E h' w a h1 h2 Z Y U;refine ht φ E h' w a h1 h2 (λt I y M=>?_) Y U;obtain⟨J,g1,g2⟩:=hle t y I M;exact g2 _ _ _ _ (Z t I J g1)
theorem Iy (h:aZ) {v:Value} {u:TV} (hc:cst v=ajn u):bU h u=ajn (raw v)/\v.oneCell'=ajp/\u.isC=ajp:=by
 unfold cst at hc;split at hc<;>cases hc<;>exact⟨rfl,rfl,rfl⟩
theorem tW (h:aZ):∀ {z:List Value} {l:List TV},Ix z=ajn l->cj h l=ajn (z.map raw)/\(∀ x∈z,x.oneCell'=ajp)/\jF l=ajp
 |[],l,hc=>by simp only[Ix,aa] at hc;subst hc;exact⟨rfl,by simp,rfl⟩
 |v::r,l,hc=>by
  simp only[Ix] at hc;split at hc
  ·rename_i x l' J hl;simp only[aa] at hc;subst hc;obtain⟨h1,h2,Z⟩:=Iy h J;obtain⟨Y,U,M⟩:=tW h hl;refine ⟨nQ h1 Y,λy I=>?_,by simp[jF,Z,M]⟩;rcases bc.1 I with rfl|I
   ·exact h2
   ·exact U y I
  ·cases hc
theorem bu {e:gU} {h:aZ} (hi:rT e h) {x:Operand} {v:TV} (I:eH e x=ajn v):∃ y,lB (Js e h) x=ajn y/\bU h v=ajn y:=by
 cases x with
 |tmp t=>
  simp only[eH] at I;obtain⟨y,J⟩:=oU h v (hi t v I);refine ⟨y,?_,J⟩;simp only[lB];rw[tR];simp only[eP,I,aA,J]
 |const c=>
  simp only[eH] at I;unfold aeb at I;split at I
  ·rename_i vs;split at I
   ·rename_i h1;split at I
    ·rename_i l hl;simp only[aa] at I;subst I;refine ⟨.agg (vs.toList.map raw),?_,by simp only[bU,(tW h hl).1]⟩;simp only[lB,DB,h1,if_true];rfl
    ·cases I
   ·cases I
  ·rename_i hn;refine ⟨raw c,?_,(Iy h I).1⟩;simp only[lB];unfold DB;split
   ·rename_i vs;exact absurd rfl (hn vs)
   ·rfl
 |func g=>
  simp only[eH,aa] at I;subst I;exact⟨_,rfl,rfl⟩
 |global g=>
  simp only[eH] at I;cases hg:G g with
  |none=>rw[hg] at I;cases I
  |some cells=>
   rw[hg] at I;simp only[aa] at I;subst I;have hcells:cells=Br:=by
    unfold G at hg;split at hg
    ·cases hg;rfl
    ·cases hg
   subst hcells;exact⟨_,by simp only[lB,hg];rfl,rfl⟩
theorem xn {e:gU} {h:aZ} (hi:rT e h):∀ {xs:List Operand} {l:List TV},D2 e xs=ajn l->∃ J,UK (Js e h) xs=ajn J/\cj h l=ajn J
 |[],l,I=>by simp only[D2,aa] at I;subst I;exact⟨[],rfl,rfl⟩
 |x::xs,l,I=>by
  simp only[D2] at I;split at I
  ·rename_i y U;split at I
   ·rename_i ys hys;simp only[aa] at I;subst I;obtain⟨M,h1,h2⟩:=bu hi U;obtain⟨J,Z,Y⟩:=xn hi hys;exact⟨M::J,by simp only[UK,h1,Z],nQ h2 Y⟩
   ·cases I
  ·cases I
section ops
variable {R:Type} {P:Program} {o:Oper} {e:gU} {h:aZ} {nx:Nat} {K:KO R} {r:R}
theorem iy.pure {s:WR} {st:Bool} (hinv:kU h nx) (hc:cL P o.op=ajn s) {H:mP} (U:H.get=bi h) {k:Nat} {y0:AV} {rdl:List Nat} (M:dO s (Js e h) H k=ajn ⟨y0,rdl,[],[],[]⟩) {v:TV} (hv:∀ y,bU h v=ajn y->Le y0 y) {rd:Nat} (hrd:∀ n∈rdl,aG rd (ow n)=ajp) (hst:st=ajp->rd=0):iy P o st e h nx v rd 0 h nx:=by
 have ht:=GD hc M;rw[tR,U] at ht;refine ⟨?_,λ_ _ h=>h,hinv,bF _,λhs=>⟨hst hs,rfl⟩⟩;have key:∀ y,Le y0 y->fO P o (eP e h) (bi h) ⟨y,rdl,[],il [],[]⟩:=λy hle=>
  fO.view ht (λi hi=>by cases hi) λh' _ _=>⟨I5.refl _,hle.toH (tZ.refl _)⟩
 cases J:bU h v with
 |none=>exact⟨_,ht,λy I=>by simp at I,by simp[AD.eff,sg],hrd,by simp[AD.eff],by simp[AD.eff]⟩
 |some y=>exact⟨_,key y (hv y J),λY I=>by simpa using I,by simp[sg],hrd,by simp,by simp⟩
theorem jS.q {s:WR} {st:Bool} (hinv:kU h nx) (hc:cL P o.op=ajn s) {k:Nat} {y0:AV} (J:∀ H:mP,H.get=bi h->dO s (Js e h) H k=rv y0) {v:TV} (hv:∀ y,bU h v=ajn y->Le y0 y) (hk:K v 0 0 h nx=ajn r):jS P o st e h nx K r:=by
 obtain⟨H,I⟩:=iT h;exact⟨v,0,0,h,nx,hk,iy.pure hinv hc I (J H I) hv (by simp) λ_=>rfl⟩
theorem cP {y0:AV} {v:TV} (hv:bU h v=ajn y0):∀ y,bU h v=ajn y->Le y0 y:=λy I=>by rw[hv] at I;cases I;exact Le.refl _
theorem acm {T:Ty} {xs:List T.den} {j:Int} (hj:eS j xs.length=ajp) {off sz:Nat} {ag:Bool} {u:TV} (hg:mR 40 T (aD xs j) off sz ag=ajn u):
 ∃ y,bU h u=ajn (.f y)/\(BC.fz (xs.flatMap (bC T))).sub? (j.toNat*T.size+off) sz ag=ajn (.f y):=by
 obtain⟨h1,y,Z,Y,U⟩:=sR h 40 T _ off sz ag u hg;refine ⟨y,Z,?_⟩;obtain⟨_,_,hlt⟩:=Hc hj;have I:xs[j.toNat]? =ajn (aD xs j):=by
  unfold aD;rw[au,ar hlt];rfl
 obtain⟨q,hq⟩:=Do (bl T) xs j.toNat _ I;have hlen:=eA (bl T) xs;have hle:(j.toNat+1)*T.size<=xs.length*T.size:=cf _ hlt;rw[gX] at hle;have hl:=bl T (aD xs j);cases ag with
 |false=>
  obtain⟨M,J⟩:=Y rfl;subst M;simp only[BC.sub?,BC.get];have:(xs.flatMap (bC T))[j.toNat*T.size+off]? =ajn y:=by
   rw[<- fZ,hq,bA (by omega)];exact J
  rw[this];rfl
 |true=>
  simp only[BC.sub?];rw[if_pos (bp (by omega)),U rfl,<-List.drop_drop,hq,CG (by omega),ka (by simp;omega)]
theorem acn {T:Ty} {v:T.den} {off sz:Nat} {ag:Bool} {u:TV} (hg:mR 40 T v off sz ag=ajn u):
 ∃ y,bU h u=ajn (.f y)/\(BC.fz (bC T v)).sub? off sz ag=ajn (.f y):=by
 obtain⟨h1,y,Y,U,M⟩:=sR h 40 T _ off sz ag u hg;refine ⟨y,Y,?_⟩;have hl:=bl T v;cases ag with
 |false=>
  obtain⟨J,I⟩:=U rfl;subst J;simp only[BC.sub?,BC.get,I];rfl
 |true=>
  simp only[BC.sub?];rw[if_pos (bp (by omega)),M rfl]
theorem T7 {l:List TV} {I:List AV} (hl:cj h l=ajn I) {off sz:Nat} {ag:Bool} {u:TV} (hs:Rm l off sz ag=ajn u):∃ y,bU h u=ajn y/\(BC.mx I).sub? off sz ag=ajn y:=by
 cases ag with
 |false=>
  simp only[Rm] at hs;split at hs
  ·rename_i h1;have h1:=ak h1;subst h1;obtain⟨y,J,M⟩:=kR hl off u hs;exact⟨y,M,by simp only[BC.sub?,BC.get,J]⟩
  ·cases hs
 |true=>
  simp only[Rm] at hs;split at hs
  ·rename_i h1;simp only[aa] at hs;subst hs;have J:=Dr sz (Dt off hl);exact⟨.agg ((I.drop off).take sz),by simp only[bU,J],by simp only[BC.sub?,iD hl,h1,if_true]⟩
  ·cases hs
theorem Oo {v:TV} {n:Nat} {y:AV} (hn:lenOf h v=ajn n) (I:bU h v=ajn y):y.slen=ajn n:=by
 unfold lenOf at hn;split at hn
 ·simp only[aa] at hn;subst hn;simp only[bU,aa] at I;subst I;rfl
 ·simp only[aa] at hn;subst hn;simp only[bU,aa] at I;subst I;rfl
 ·simp only[aa] at hn;subst hn;simp only[bU,aa] at I;subst I;rfl
 ·rename_i id;simp only[bU] at I;cases hr:dE h id with
  |none=>rw[hr] at hn;cases hn
  |some q=>
   obtain⟨p,sz,m⟩:=q;rw[hr] at hn I;simp only[aa] at hn I;subst hn;subst I;unfold eo;split
   ·rename_i hp;simp only[aj,beq_iff_eq] at hp;rw[hp.2];rfl
   ·rfl
 ·simp only[aa] at hn;subst hn;simp only[bU,aa] at I;subst I;rfl
 ·cases hn
theorem Ct (a b:List UInt8):qD ⟨a.toArray⟩ ⟨b.toArray⟩=decide (a=b):=by
 unfold qD;simp only[Bool.beq_eq_decide_eq]
theorem abe {op:BinOp} {u v:TV} {q:TV->Option R} (hk:aei op u v q=ajn r):∃ a b c t,bU h u=ajn (raw a)/\bU h v=ajn (raw b)/\td op a b=ajn c/\bU h t=ajn (raw c)/\q t=ajn r:=by
 unfold aei at hk;split at hk
 ·rename_i k a J b;split at hk
  ·rename_i hkk;have hkk':k=J:=by simpa using hkk
   subst hkk';refine ⟨.int k a,.int k b,?_⟩;cases op<;>simp only[reduceCtorEq] at hk<;>first
    |cases hk
    |exact⟨_,_,rfl,rfl,(by simp only[td,beq_self_eq_true,if_true]<;>rfl),rfl,hk⟩
    |(obtain ⟨hb,hk⟩:=dA hk
      have I:(b==(0:Int))=ajq:=by simpa using hb
      exact⟨_,_,rfl,rfl,by simp only[td,beq_self_eq_true,if_true,I,b8,if_false],rfl,hk⟩)
  ·cases hk
 ·rename_i a b;refine ⟨.string ⟨jK a⟩,.string ⟨jK b⟩,?_⟩;split at hk
  ·exact⟨.bool (decide ((a:List UInt8)=b)),_,rfl,rfl,by simp only[td,Ct],rfl,hk⟩
  ·exact⟨.bool (!decide ((a:List UInt8)=b)),_,rfl,rfl,by simp only[td,Ct],rfl,hk⟩
  ·cases hk
 ·cases hk
theorem U3 {T:Ty}:∀ {l:List TV} {xs:List T.den},xa T l=ajn xs->∀ k,k<l.length->l[k]? =ajn (.f T (xs.getD k T.zero))
 |[],xs,_,k,hk=>by simp at hk
 |.f S v::r,xs,I,k,hk=>by
  simp only[xa] at I;split at I
  ·rename_i x J;split at I
   ·rename_i l hl;simp only[aa] at I;subst I;obtain⟨es,ex⟩:=io J;cases es;subst ex;cases k with
    |zero=>rfl
    |succ k=>simpa using U3 hl k (by simpa using hk)
   ·cases I
  ·cases I
 |.fel _ _ _ _ _::r,xs,I,k,hk=>by simp[xa] at I
 |.pel _ _ _ _::r,xs,I,k,hk=>by simp[xa] at I
 |.ptr _ _::r,xs,I,k,hk=>by simp[xa] at I
 |.csl _ _ _::r,xs,I,k,hk=>by simp[xa] at I
 |.row _::r,xs,I,k,hk=>by simp[xa] at I
 |.emp::r,xs,I,k,hk=>by simp[xa] at I
 |.nil::r,xs,I,k,hk=>by simp[xa] at I
 |.mp _::r,xs,I,k,hk=>by simp[xa] at I
 |.agg _::r,xs,I,k,hk=>by simp[xa] at I
 |.tup _::r,xs,I,k,hk=>by simp[xa] at I
 |.clo _ _::r,xs,I,k,hk=>by simp[xa] at I
 |.undef::r,xs,I,k,hk=>by simp[xa] at I
 |.np::r,xs,I,k,hk=>by simp[xa] at I
 |.anyb::r,xs,I,k,hk=>by simp[xa] at I
theorem U2 {l:List TV} {T:Ty} {xs:List T.den} (I:Y7 l=ajn ⟨T,xs⟩):∀ k,k<l.length->l[k]? =ajn (.f T (xs.getD k T.zero)):=by
 unfold Y7 at I;split at I
 ·split at I
  ·rename_i l1 hl;simp only[aa] at I;cases I;exact U3 hl
  ·cases I
 ·cases I
variable (hinv:kU h nx) (hi:rT e h)
include hinv hi
theorem K_mv {con:FuncId->Option bW} {bL:TypeId->Option Ty} {x:Operand} {st:Bool} (hc:cL P o.op=ajn (.mv x)) (hk:dj con bL (.op (.mv x)) e h nx K=ajn r):jS P o st e h nx K r:=by
 simp only[dj] at hk;split at hk
 ·rename_i v hv;obtain⟨y,h1,I⟩:=bu hi hv;exact jS.q (k:=0) hinv hc (λH _=>by simp only[dO,h1]) (cP I) hk
 ·cases hk
theorem ag4 {con:FuncId->Option bW} {bL:TypeId->Option Ty} {c a b:Operand} {st:Bool} (hc:cL P o.op=ajn (.pick c a b)) (hk:dj con bL (.op (.pick c a b)) e h nx K=ajn r):jS P o st e h nx K r:=by
 simp only[dj] at hk;split at hk
 ·rename_i t hv;obtain⟨y,h1,Y⟩:=bu hi hv;simp only[bU,aa] at Y;subst Y;rcases ov hk with ⟨rfl,I⟩|⟨rfl,I⟩
  ·split at I
   ·rename_i v J;obtain⟨Z,U,M⟩:=bu hi J;exact jS.q (k:=0) hinv hc (λH _=>by simp only[dO,h1,fM,if_true,U]) (cP M) I
   ·cases I
  ·split at I
   ·rename_i v J;obtain⟨Z,U,M⟩:=bu hi J;exact jS.q (k:=0) hinv hc (λH _=>by simp only[dO,h1,fM,U,b8,if_false]) (cP M) I
   ·cases I
 ·cases hk
theorem ag5 {con:FuncId->Option bW} {bL:TypeId->Option Ty} {x:Operand} {st:Bool} (hc:cL P o.op=ajn (.nilc x)) (hk:dj con bL (.op (.nilc x)) e h nx K=ajn r):jS P o st e h nx K r:=by
 simp only[dj] at hk;split at hk;all_goals first
  |(rename_i hv
    obtain⟨y,h1,I⟩:=bu hi hv;have J:=I;simp only[bU,aa] at I;subst I;exact jS.q (k:=0) hinv hc (λH _=>by simp only[dO,h1]) (cP J) hk)
  |skip
 ·rename_i g cap hv;obtain⟨y,h1,I⟩:=bu hi hv;have J:=I;simp only[bU] at I;split at I
  ·simp only[aa] at I;subst I;exact jS.q (k:=0) hinv hc (λH _=>by simp only[dO,h1]) (cP J) hk
  ·cases I
 ·cases hk
theorem aiv {con:FuncId->Option bW} {bL:TypeId->Option Ty} {x:Operand} {st:Bool} (hc:cL P o.op=ajn (.not x)) (hk:dj con bL (.op (.not x)) e h nx K=ajn r):jS P o st e h nx K r:=by
 simp only[dj] at hk;split at hk
 ·rename_i b hv;obtain⟨y,h1,I⟩:=bu hi hv;simp only[bU,aa] at I;subst I;exact jS.q (k:=0) hinv hc (λH _=>by simp only[dO,h1,fM];rfl) (cP rfl) hk
 ·cases hk
theorem agc {con:FuncId->Option bW} {bL:TypeId->Option Ty} {k:IntKind} {x:Operand} {st:Bool} (hc:cL P o.op=ajn (.conv k x)) (hk:dj con bL (.op (.conv k x)) e h nx K=ajn r):jS P o st e h nx K r:=by
 simp only[dj] at hk;split at hk
 ·rename_i J n hv;obtain⟨y,h1,I⟩:=bu hi hv;simp only[bU,aa] at I;subst I;exact jS.q (k:=0) hinv hc (λH _=>by simp only[dO,h1,fM];rfl) (cP rfl) hk
 ·cases hk
theorem aja {con:FuncId->Option bW} {bL:TypeId->Option Ty} {neg:Bool} {x y:Operand} {st:Bool} (hc:cL P o.op=ajn (.eqb neg x y)) (hk:dj con bL (.op (.eqb neg x y)) e h nx K=ajn r):jS P o st e h nx K r:=by
 simp only[dj] at hk;split at hk
 ·rename_i a b hv I;obtain⟨y,h1,M⟩:=bu hi hv;obtain⟨Y,U,J⟩:=bu hi I;simp only[bU,aa] at M J;subst M;subst J;exact jS.q (k:=0) hinv hc (λH _=>by simp only[dO,h1,U,fM];rfl) (cP rfl) hk
 ·cases hk
theorem ac6 {con:FuncId->Option bW} {bL:TypeId->Option Ty} {neg:Bool} {x:Operand} {st:Bool} (hc:cL P o.op=ajn (.isnil neg x)) (hk:dj con bL (.op (.isnil neg x)) e h nx K=ajn r):jS P o st e h nx K r:=by
 simp only[dj] at hk;split at hk
 ·rename_i hv;obtain⟨y,h1,I⟩:=bu hi hv;simp only[bU,aa] at I;subst I;exact jS.q (k:=0) hinv hc (λH _=>by simp only[dO,h1,yz,if_true];rfl) (cP rfl) hk
 ·rename_i hv;obtain⟨y,h1,I⟩:=bu hi hv;simp only[bU,aa] at I;subst I;exact jS.q (k:=0) hinv hc (λH _=>by simp only[dO,h1]) (cP rfl) hk
 ·rename_i T xs hv;obtain⟨y,h1,I⟩:=bu hi hv;simp only[bU,aa] at I;subst I;rcases ov hk with ⟨M,J⟩|⟨M,J⟩
  ·have M:=ak M;exact jS.q (k:=0) (y0:=.anyb) hinv hc (λH _=>by simp only[dO,h1,fM,M]) (cP rfl) J
  ·have M:=gp M;obtain⟨n,hn⟩:=Nat.exists_eq_succ_of_ne_zero M;exact jS.q (k:=0) (y0:=raw (.bool neg)) hinv hc (λH _=>by simp only[dO,h1,fM,hn]) (cP rfl) J
 ·rename_i id hv;split at hk
  ·rename_i ty T xs hb;obtain⟨y,h1,I⟩:=bu hi hv;simp only[bU,dE,hb,eo,mn,b8,if_false,aa] at I;subst I;exact jS.q (k:=0) (y0:=raw (.bool neg)) hinv hc (λH _=>by simp only[dO,h1]) (cP rfl) hk
  ·cases hk
 ·cases hk
theorem aj1 {con:FuncId->Option bW} {bL:TypeId->Option Ty} {x y:Operand} {st:Bool} (hc:cL P o.op=ajn (.max x y)) (hk:dj con bL (.op (.max x y)) e h nx K=ajn r):jS P o st e h nx K r:=by
 simp only[dj] at hk;split at hk
 ·rename_i k a Z b hv I;obtain⟨y,h1,M⟩:=bu hi hv;obtain⟨Y,U,J⟩:=bu hi I;simp only[bU,aa] at M J;subst M;subst J;split at hk
  ·exact jS.q (k:=0) hinv hc (λH _=>by simp only[dO,h1,U,fM];rfl) (cP rfl) hk
  ·cases hk
 ·cases hk
theorem aj0 {con:FuncId->Option bW} {bL:TypeId->Option Ty} {x y:Operand} {st:Bool} (hc:cL P o.op=ajn (.min x y)) (hk:dj con bL (.op (.min x y)) e h nx K=ajn r):jS P o st e h nx K r:=by
 simp only[dj] at hk;split at hk
 ·rename_i k a Z b hv I;obtain⟨y,h1,M⟩:=bu hi hv;obtain⟨Y,U,J⟩:=bu hi I;simp only[bU,aa] at M J;subst M;subst J;split at hk
  ·exact jS.q (k:=0) hinv hc (λH _=>by simp only[dO,h1,U,fM];rfl) (cP rfl) hk
  ·cases hk
 ·cases hk
theorem aj7 {con:FuncId->Option bW} {bL:TypeId->Option Ty} {off:Nat} {x:Operand} {st:Bool} (hc:cL P o.op=ajn (.fad off x)) (hk:dj con bL (.op (.fad off x)) e h nx K=ajn r):jS P o st e h nx K r:=by
 simp only[dj] at hk;split at hk;all_goals first
  |(rename_i hv
    obtain⟨y,h1,I⟩:=bu hi hv;simp only[bU,aa] at I;subst I;exact jS.q (k:=0) hinv hc (λH _=>by simp only[dO,h1,qX]) (cP rfl) hk)
  |cases hk
theorem aj6 {con:FuncId->Option bW} {bL:TypeId->Option Ty} {off sz:Nat} {ag:Bool} {x:Operand} {st:Bool} (hc:cL P o.op=ajn (.fld off sz ag x)) (hk:dj con bL (.op (.fld off sz ag x)) e h nx K=ajn r):jS P o st e h nx K r:=by
 simp only[dj] at hk;split at hk
 ·rename_i l hv;split at hk
  ·rename_i u hs;obtain⟨y,h1,I⟩:=bu hi hv;simp only[bU] at I;split at I
   ·rename_i Y hl;simp only[aa] at I;subst I;obtain⟨y,M,J⟩:=T7 hl hs;exact jS.q (k:=0) hinv hc (λH _=>by simp only[dO,h1,J]) (cP M) hk
   ·cases I
  ·cases hk
 ·rename_i T v hv;split at hk
  ·cases hk
  ·rename_i U;split at hk
   ·rename_i u hs;obtain⟨y,h1,I⟩:=bu hi hv;simp only[bU,aa] at I;rw[po T v (by simpa using U)] at I;subst I;obtain⟨y,M,J⟩:=acn (h:=h) hs;exact jS.q (k:=0) hinv hc (λH _=>by simp only[dO,h1,J]) (cP M) hk
   ·cases hk
 ·cases hk
theorem aj4 {con:FuncId->Option bW} {bL:TypeId->Option Ty} {n sz:Nat} {ag:Bool} {x i:Operand} {st:Bool} (hc:cL P o.op=ajn (.idx n sz ag x i)) (hk:dj con bL (.op (.idx n sz ag x i)) e h nx K=ajn r):jS P o st e h nx K r:=by
 simp only[dj] at hk;split at hk
 ·rename_i v0 k j hv Y;split at hk
  ·rename_i T xs hA;obtain⟨hb,hk⟩:=dA hk;cases ag with
   |true=>cases hA
   |false=>
   simp only[ah8] at hA;split at hA
   ·rename_i hsz;simp only[aj,dC] at hsz;have hsz1:=ak hsz.1;subst hsz1;split at hA
    ·rename_i l hl;split at hA
     ·rename_i hn;have hn:=ak hn;obtain⟨y,h1,I⟩:=bu hi hv;obtain⟨y2,Z,M⟩:=bu hi Y;simp only[bU,aa] at M;subst M;have hj:j.toNat<l.length:=by
       simp only[aj,cD,eX,decide_eq_true_eq] at hb;omega
      have hg:=U2 hA j.toNat hj;obtain⟨he,_⟩:=Ly hl I;obtain⟨z,J,U⟩:=kR he j.toNat _ hg;have U:bU h (.f T (aD xs j))=ajn z:=U;refine jS.q (k:=0) hinv hc (λH _=>?_) (cP U) hk;cases v0 with
      |agg q=>
       simp only[bU] at I;split at I
       ·rename_i l' _;simp only[aa] at I;subst I;have J:l'[j.toNat]? =ajn z:=J;simp only[dO,h1,Z,fM,hb,if_true,BC.sub?,BC.get,Nat.mul_one,J]
       ·cases I
      |f S u=>
       have ho:S.one=ajq:=by
        have:=hsz.2;simpa[TV.isC] using this
       simp only[bU,aa] at I;rw[po S u ho] at I;subst I;have J:((bC S u).map AV.f)[j.toNat]? =ajn z:=J;rw[aU] at J;simp only[dO,h1,Z,fM,hb,if_true,BC.sub?,BC.get,Nat.mul_one,J]
      |_=>simp[TV.cs,TV.isC] at hl hsz
     ·cases hA
    ·cases hA
   ·cases hA
  ·split at hk
   ·rename_i l;obtain⟨hb,hk⟩:=dA hk;split at hk
    ·rename_i u hs;obtain⟨y,h1,I⟩:=bu hi hv;obtain⟨y2,Z,M⟩:=bu hi Y;simp only[bU,aa] at M;subst M;simp only[bU] at I;split at I
     ·rename_i l' hl;simp only[aa] at I;subst I;obtain⟨y,h3,h4⟩:=T7 hl hs;exact jS.q (k:=0) hinv hc (λH _=>by simp only[dO,h1,Z,fM,hb,if_true,h4]) (cP h3) hk
     ·cases I
    ·cases hk
   ·rename_i T v _;split at hk
    ·cases hk
    ·rename_i ho;obtain⟨hb,hk⟩:=dA hk;split at hk
     ·rename_i u hs;obtain⟨y,h1,I⟩:=bu hi hv;obtain⟨y2,Z,M⟩:=bu hi Y;simp only[bU,aa] at M I;subst M;rw[po T v (by simpa using ho)] at I;subst I;obtain⟨y,h3,h4⟩:=acn (h:=h) hs;exact jS.q (k:=0) hinv hc (λH _=>by simp only[dO,h1,Z,fM,hb,if_true,h4]) (cP h3) hk
     ·cases hk
   ·cases hk
 ·cases hk
theorem aga {con:FuncId->Option bW} {bL:TypeId->Option Ty} {n sz:Nat} {x i:Operand} {st:Bool} (hc:cL P o.op=ajn (.iada n sz x i)) (hk:dj con bL (.op (.iada n sz x i)) e h nx K=ajn r):jS P o st e h nx K r:=by
 simp only[dj] at hk;split at hk
 ·rename_i id off k j hv I;obtain⟨y,h1,U⟩:=bu hi hv;obtain⟨Y,M,J⟩:=bu hi I;simp only[bU,aa] at J U;subst J;subst U;split at hk
  ·obtain⟨hb,hk⟩:=dA hk;exact jS.q (k:=0) (y0:=.ptr (nm id) (off+j.toNat*sz)) hinv hc (λH _=>by simp only[dO,h1,M,fM,hb,if_true]) (cP (by simp only[bU];rw[Nat.add_comm])) hk
  ·obtain⟨hb,hk⟩:=dA hk;exact jS.q (k:=0) hinv hc (λH _=>by simp only[dO,h1,M,fM,hb,if_true]) (cP rfl) hk
 ·cases hk
theorem aj8 {con:FuncId->Option bW} {bL:TypeId->Option Ty} {i:Nat} {x:Operand} {st:Bool} (hc:cL P o.op=ajn (.ext x i)) (hk:dj con bL (.op (.ext x i)) e h nx K=ajn r):jS P o st e h nx K r:=by
 simp only[dj] at hk;split at hk
 ·rename_i l hv;split at hk
  ·rename_i u hs;obtain⟨y,h1,I⟩:=bu hi hv;simp only[bU] at I;split at I
   ·rename_i U hl;simp only[aa] at I;subst I;obtain⟨y,M,J⟩:=kR hl i u hs;exact jS.q (k:=0) hinv hc (λH _=>by simp only[dO,h1,M]) (cP J) hk
   ·cases I
  ·cases hk
 ·cases hk
theorem aj3 {con:FuncId->Option bW} {bL:TypeId->Option Ty} {x:Operand} {st:Bool} (hc:cL P o.op=ajn (.len x)) (hk:dj con bL (.op (.len x)) e h nx K=ajn r):jS P o st e h nx K r:=by
 simp only[dj] at hk;split at hk
 ·rename_i v hv;split at hk
  ·rename_i n hn;obtain⟨y,h1,J⟩:=bu hi hv;have I:=Oo hn J;exact jS.q (k:=0) hinv hc (λH _=>by simp only[dO,h1,I];rfl) (cP rfl) hk
  ·cases hk
 ·cases hk
theorem ag8 {con:FuncId->Option bW} {bL:TypeId->Option Ty} {x:Operand} {st:Bool} (hc:cL P o.op=ajn (.lens x)) (hk:dj con bL (.op (.lens x)) e h nx K=ajn r):jS P o st e h nx K r:=by
 simp only[dj] at hk;split at hk
 ·rename_i s hv;obtain⟨y,h1,I⟩:=bu hi hv;simp only[bU,aa] at I;subst I;exact jS.q (k:=0) hinv hc (λH _=>by simp only[dO,h1,fM];rfl) (cP rfl) hk
 ·cases hk
theorem ag3 {con:FuncId->Option bW} {bL:TypeId->Option Ty} {x i:Operand} {st:Bool} (hc:cL P o.op=ajn (.sidx x i)) (hk:dj con bL (.op (.sidx x i)) e h nx K=ajn r):jS P o st e h nx K r:=by
 simp only[dj] at hk;split at hk
 ·rename_i s k j hv I;obtain⟨hj,hk⟩:=dA hk;obtain⟨y,h1,M⟩:=bu hi hv;obtain⟨y2,Z,J⟩:=bu hi I;simp only[bU,aa] at M J;subst M;subst J;obtain⟨Y,j1,U⟩:=Hc hj;have e1:cD 0 j=ajp:=by simp[cD,Y]
  have e2:(⟨jK s⟩:ByteArray).data.toList[j.toNat]? =ajn (List.getD s j.toNat 0):=by
   show s[j.toNat]? =_;rw[au,ar U];rfl
  exact jS.q (k:=0) (y0:=raw (.int .u8 (aJ (List.getD s j.toNat 0).toNat))) hinv hc (λH _=>by simp only[dO,h1,Z,fM,e1,if_true,e2];rfl) (cP rfl) hk
 ·cases hk
theorem aj5 {con:FuncId->Option bW} {bL:TypeId->Option Ty} {sz:Nat} {x i:Operand} {st:Bool} (hc:cL P o.op=ajn (.iad sz x i)) (hk:dj con bL (.op (.iad sz x i)) e h nx K=ajn r):jS P o st e h nx K r:=by
 simp only[dj] at hk;split at hk
 ·rename_i id k j hv I;split at hk
  ·rename_i ty p T xs hb;split at hk
   ·rename_i hs;have hs:=ak hs;obtain⟨hj,hk⟩:=dA hk;obtain⟨y,h1,M⟩:=bu hi hv;obtain⟨y2,Y,J⟩:=bu hi I;simp only[bU,aa] at J;subst J;obtain⟨j0,j1,j2⟩:=Hc hj;have hne:¬((p&&xs.length==0)=ajp):=by
     simp only[aj,beq_iff_eq];omega
    simp only[bU,dE,hb,eo,if_neg hne,aa] at M;subst M;have Z:(T.size==sz&&cD 0 j&&eX j xs.length)=ajp:=by
     simp only[eS,aj] at hj;simp[hs,hj.1,hj.2]
    exact jS.q (k:=0) hinv hc (λH _=>by simp only[dO,h1,Y,fM,Z,if_true,cN]) (cP rfl) hk
   ·cases hk
  ·cases hk
 ·rename_i T xs k j hv I;split at hk
  ·rename_i hs;have hs:=ak hs;obtain⟨hj,hk⟩:=dA hk;obtain⟨y,h1,M⟩:=bu hi hv;obtain⟨y2,Y,J⟩:=bu hi I;simp only[bU,aa] at J M;subst J;subst M;have U:(cD 0 j&&eX j (af xs))=ajp:=hj;exact jS.q (k:=0) hinv hc (λH _=>by simp only[dO,h1,Y,fM,U,if_true,cN,hs]) (cP rfl) hk
  ·cases hk
 ·rename_i id sz' n k j hv I;split at hk
  ·rename_i hs;have hs:=ak hs;subst hs;obtain⟨hj,hk⟩:=dA hk;obtain⟨y,h1,M⟩:=bu hi hv;obtain⟨y2,Y,J⟩:=bu hi I;simp only[bU,aa] at J M;subst J;subst M;have U:(sz'==sz'&&cD 0 j&&eX j n)=ajp:=by simp only[aj] at hj ⊢;exact⟨⟨beq_self_eq_true _,hj.1⟩,hj.2⟩
   exact jS.q (k:=0) hinv hc (λH _=>by simp only[dO,h1,Y,fM,U,if_true]) (cP rfl) hk
  ·cases hk
 ·cases hk
theorem aiz {con:FuncId->Option bW} {bL:TypeId->Option Ty} {f:FuncId} {caps:List Operand} {st:Bool} (hc:cL P o.op=ajn (.mkf f caps)) (hk:dj con bL (.op (.mkf f caps)) e h nx K=ajn r):jS P o st e h nx K r:=by
 simp only[dj] at hk;split at hk
 ·rename_i l hv;obtain⟨I,h1,J⟩:=xn hi hv;exact jS.q (k:=0) hinv hc (y0:=.clo f I) (λH _=>by simp only[dO,h1]) (cP (by simp only[bU,J])) hk
 ·cases hk
theorem aje {con:FuncId->Option bW} {bL:TypeId->Option Ty} {op:BinOp} {x y:Operand} {st:Bool} (hc:cL P o.op=ajn (.bin op x y)) (hk:dj con bL (.op (.bin op x y)) e h nx K=ajn r):jS P o st e h nx K r:=by
 simp only[dj] at hk;split at hk
 ·rename_i u v hv I;obtain⟨a,b,c,t,h1,h2,h3,h4,Z⟩:=abe (h:=h) hk;obtain⟨y,Y,U⟩:=bu hi hv;obtain⟨y2,M,J⟩:=bu hi I;rw[h1] at U;cases U;rw[h2] at J;cases J;simp only[raw] at Y M;exact jS.q (k:=0) hinv hc (λH _=>by simp only[dO,Y,M,h3]) (cP h4) Z
 ·cases hk
end ops
def lE:gC->Option (Bool×Nat×Nat)
 |.rows _ p T xs=>ajn (p,T.size,xs.length)
 |.dead p sz n=>ajn (p,sz,n)
 |_=>ajo
theorem bD (h:aZ) (i:Nat):dE h i=(h.get i).bind lE:=by
 unfold dE;cases h.get i with
 |none=>rfl
 |some b=>cases b<;>rfl
theorem bZ.refl (h:aZ):bZ h h:=λ_ _ h=>h
theorem bZ.trans {a b c:aZ} (h1:bZ a b) (I:bZ b c):bZ a c:=λi r h=>I i r (h1 i r h)
theorem bZ.set {h:aZ} {i:Nat} {b:gC} (hb:∀ r,dE h i=ajn r->lE b=ajn r):bZ h (h.set i (ajn b)):=λj r hj=>by
 rw[bD,PT.get_set];by_cases e:j=i
 ·subst e;rw[if_pos rfl];exact hb r hj
 ·rw[if_neg e,<-bD];exact hj
theorem KJ {b:gC} {r:Bool×Nat×Nat} (h:lE b=ajn r):lE (tK b)=ajn r:=by cases b<;>first|exact h|cases h
theorem ib (m:Nat) (h:aZ) (i:Nat):(dM m h).get i=if aG m i then (h.get i).map tK else h.get i:=by
 unfold dM;split
 ·rename_i hm;have:=ak hm;subst this;simp
 ·rw[PT.get_updI];simp only[Nat.one_mul,cN];cases h.get i with
  |none=>simp
  |some b=>simp only[bO];split<;>rfl
theorem bZ.kill (m:Nat) (h:aZ):bZ h (dM m h):=λi r hr=>by
 rw[bD] at hr ⊢;rw[ib];split
 ·cases hb:h.get i with
  |none=>rw[hb] at hr;cases hr
  |some b=>rw[hb] at hr;exact KJ hr
 ·exact hr
theorem kU.set {h:aZ} {nx nx' i:Nat} {b:gC} (hi:kU h nx) (hr:bZ h (h.set i (ajn b))) (hlt:i<nx') (hle:nx<=nx') (hb:∀ ty l,b= .cells ty l->jT (h.set i (ajn b)) l=ajp):kU (h.set i (ajn b)) nx':=by
 refine ⟨λj ty l hj=>?_,λj c hj=>?_⟩
 ·rw[PT.get_set] at hj;split at hj
  ·simp only[aa] at hj;exact hb ty l hj
  ·exact hX hr l (hi.cells j ty l hj)
 ·rw[PT.get_set] at hj;split at hj
  ·rename_i e;subst e;exact hlt
  ·exact cU (hi.low j c hj) hle
theorem kU.kill {h:aZ} {nx:Nat} (hi:kU h nx) (m:Nat):kU (dM m h) nx:=by
 refine ⟨λj ty l hj=>?_,λj c hj=>?_⟩
 ·rw[ib] at hj;refine hX (bZ.kill m h) l (hi.cells j ty l ?_);split at hj
  ·cases hb:h.get j with
   |none=>rw[hb] at hj;cases hj
   |some b=>rw[hb] at hj;cases b<;>simp[tK] at hj
  ·exact hj
 ·rw[ib] at hj;split at hj
  ·cases hb:h.get j with
   |none=>rw[hb] at hj;cases hj
   |some b=>exact hi.low j b hb
  ·exact hi.low j c hj
theorem HP {h h':aZ} (hr:bZ h h') {b:gC} (hb:∀ ty l,b= .cells ty l->jT h l=ajp):jR h' b=jR h b:=by
 cases b with
 |cells ty l=>
  obtain⟨I,hl⟩:=eJ h l (hb ty l rfl);simp only[jR,hl,ic hr l I hl]
 |_=>rfl
theorem V2 {h h':aZ} {nx i:Nat} (hi:kU h nx) (hr:bZ h h') (hg:h'.get i=h.get i):bi h' (nm i)=bi h (nm i):=by
 rw[bt,bt,hg];cases hb:h.get i with
 |none=>rfl
 |some b=>exact HP hr λty l e=>hi.cells i ty l (by rw[hb,e])
theorem uV (h:aZ) {n:Nat} (hn:¬∃ i,n=nm i):bi h n=ajo:=by
 unfold bi;rw[if_neg];intro I;exact hn ⟨n/2,by unfold nm;omega⟩
theorem jQ {h h':aZ} {nx:Nat} (hi:kU h nx) (hr:bZ h h') {n:Nat} (hg:∀ i,n=nm i->h'.get i=h.get i):bi h' n=bi h n:=by
 by_cases hn:∃ i,n=nm i
 ·obtain⟨i,rfl⟩:=hn;exact V2 hi hr (hg i rfl)
 ·rw[uV h hn,uV h' hn]
def D6 (m:Nat):List Nat:=(Y3 m).map nm
theorem mG {m n:Nat}:n∈D6 m↔∃ i,n=nm i/\aG m i=ajp:=by
 unfold D6;rw[cO];constructor
 ·rintro⟨i,h1,rfl⟩;exact⟨i,rfl,KV.1 h1⟩
 ·rintro⟨i,rfl,h1⟩;exact⟨i,KV.2 h1,rfl⟩
theorem kq {m i:Nat}:nm i∈D6 m↔aG m i=ajp:=by
 rw[mG];constructor
 ·rintro⟨j,h1,I⟩;rw[jU h1];exact I
 ·exact λh=>⟨i,rfl,h⟩
def dl (h:aZ) (m:Nat):Prop:=∀ i,aG m i=ajp->∃ ty p T xs,h.get i=ajn (.rows ty p T xs)
theorem dl.zero (h:aZ):dl h 0:=λi hi=>by simp at hi
theorem dl.or {h:aZ} {a b:Nat} (I:dl h a) (hb:dl h b):dl h (a|||b):=λi hi=>by
 rw[bf,hP] at hi;exact hi.elim (I i) (hb i)
theorem mi {h:aZ} {T:Ty} {v:TV} {x:T.den} {m:Nat} (I:gP h T v=ajn (x,m)):dl h m:=by
 cases v with
 |f S v=>
  simp only[gP] at I;split at I
  ·simp only[aa,aw] at I;rw[<- I.2];exact dl.zero h
  ·cases I
 |emp=>
  simp only[gP] at I;split at I
  ·simp only[aa,aw] at I;rw[<- I.2];exact dl.zero h
  ·cases I
 |nil=>
  simp only[gP] at I;split at I
  ·simp only[aa,aw] at I;rw[<- I.2];exact dl.zero h
  ·cases I
 |row id=>
  simp only[gP] at I;split at I
  ·rename_i ty p S xs hb;split at I
   ·simp only[aa,aw] at I;rw[<- I.2];intro i hi;have:=bK.1 hi;subst this;exact⟨ty,p,S,xs,hb⟩
   ·cases I
  ·cases I
 |fel T xs j hj off=>simp[gP] at I
 |pel id sz j off=>simp[gP] at I
 |ptr id off=>simp[gP] at I
 |csl id off z=>simp[gP] at I
 |mp id=>simp[gP] at I
 |rtl id J=>simp[gP] at I
 |agg q=>simp[gP] at I
 |tup q=>simp[gP] at I
 |clo f q=>simp[gP] at I
 |undef=>simp[gP] at I
 |np=>simp[gP] at I
 |anyb=>simp[gP] at I
theorem tG {h:aZ}:∀ (n:Nat) (T:Ty) (l:List TV) (x:T.den) (m:Nat) (r:List TV),dU h n T l=ajn (x,m,r)->dl h m
 |0,_,_,_,_,_,hp=>by simp[dU] at hp
 |n+1,.st t,l,x,m,r,hp=>tG n t l x m r hp
 |n+1,.pr a b,l,x,m,r,hp=>by
  simp only[dU] at hp;split at hp
  ·rename_i I m1 r1 h1;split at hp
   ·rename_i J m2 r2 M;simp only[aa,aw] at hp;obtain⟨_,rfl,_⟩:=hp;exact (tG n a l I m1 r1 h1).or (tG n b r1 J m2 r2 M)
   ·cases hp
  ·cases hp
 |n+1,.un,l,x,m,r,hp=>by
  simp only[dU,aa,aw] at hp;obtain⟨_,rfl,_⟩:=hp;exact dl.zero h
 |n+1,.ex,l,x,m,r,hp=>by
  simp only[dU] at hp;split at hp
  ·rename_i I m1 r1 h1;simp only[aa,aw] at hp;obtain⟨_,rfl,_⟩:=hp;exact tG n K9 l I m1 r1 h1
  ·cases hp
 |n+1,.sm,l,x,m,r,hp=>by
  simp only[dU] at hp;split at hp
  ·rename_i I m1 r1 h1;simp only[aa,aw] at hp;obtain⟨_,rfl,_⟩:=hp;exact tG n KH l I m1 r1 h1
  ·cases hp
 |n+1,.int k,l,x,m,r,hp=>by
  simp only[dU] at hp;split at hp
  ·split at hp
   ·rename_i I m1 h1;simp only[aa,aw] at hp;obtain⟨_,rfl,_⟩:=hp;exact mi h1
   ·cases hp
  ·cases hp
 |n+1,.bool,l,x,m,r,hp=>by
  simp only[dU] at hp;split at hp
  ·split at hp
   ·rename_i I m1 h1;simp only[aa,aw] at hp;obtain⟨_,rfl,_⟩:=hp;exact mi h1
   ·cases hp
  ·cases hp
 |n+1,.str,l,x,m,r,hp=>by
  simp only[dU] at hp;split at hp
  ·split at hp
   ·rename_i I m1 h1;simp only[aa,aw] at hp;obtain⟨_,rfl,_⟩:=hp;exact mi h1
   ·cases hp
  ·cases hp
 |n+1,.sl t,l,x,m,r,hp=>by
  simp only[dU] at hp;split at hp
  ·split at hp
   ·rename_i I m1 h1;simp only[aa,aw] at hp;obtain⟨_,rfl,_⟩:=hp;exact mi h1
   ·cases hp
  ·cases hp
theorem U1 {h:aZ} {T:Ty} {v:TV} {x:T.den} {m:Nat} (I:Cu h T v=ajn (x,m)):dl h m:=by
 cases v with
 |agg l=>
  simp only[Cu] at I;split at I
  ·cases I
  ·split at I
   ·rename_i J m1 h1;simp only[aa,aw] at I;obtain⟨_,rfl⟩:=I;exact tG 40 T l J m1 [] h1
   ·cases I
 |f S v=>exact mi (v:=.f S v) I
 |fel T xs j hj off=>exact mi (v:=.fel T xs j hj off) I
 |pel id sz j off=>exact mi (v:=.pel id sz j off) I
 |ptr id off=>exact mi (v:=.ptr id off) I
 |csl id off z=>exact mi (v:=.csl id off z) I
 |row id=>exact mi (v:=.row id) I
 |emp=>exact mi (v:=.emp) I
 |nil=>exact mi (v:=.nil) I
 |mp id=>exact mi (v:=.mp id) I
 |rtl id M=>exact mi (v:=.rtl id M) I
 |tup q=>exact mi (v:=.tup q) I
 |clo g q=>exact mi (v:=.clo g q) I
 |undef=>exact mi (v:=.undef) I
 |np=>exact mi (v:=.np) I
 |anyb=>exact mi (v:=.anyb) I
theorem L2 {h:aZ} {T:Ty}:∀ (n:Nat) (l:List TV) (xs:List T.den) (m:Nat),xl h T n l=ajn (xs,m)->dl h m
 |0,[],xs,m,hp=>by simp only[xl,aa,aw] at hp;rw[<- hp.2];exact dl.zero h
 |0,_::_,xs,m,hp=>by simp[xl] at hp
 |n+1,l,xs,m,hp=>by
  simp only[xl] at hp;split at hp
  ·rename_i J m1 r1 h1;split at hp
   ·rename_i I m2 M;simp only[aa,aw] at hp;obtain⟨_,rfl⟩:=hp;exact (tG 40 T l J m1 r1 h1).or (L2 n r1 I m2 M)
   ·cases hp
  ·cases hp
theorem ym {h:aZ} {u:TV}:∀ (n:Nat) (T:Ty) (v:T.den) (off sz:Nat) (z:T.den) (m:Nat),fQ h u n T v off sz=ajn (z,m)->dl h m
 |0,_,_,_,_,_,_,hg=>by simp[fQ] at hg
 |n+1,.st t,v,off,sz,z,m,hg=>by
  simp only[fQ] at hg;split at hg
  ·rename_i q hq;split at hq
   ·simp only[aa] at hg;subst hg;exact U1 hq
   ·cases hq
  ·exact ym n t v off sz z m hg
 |n+1,.pr a b,v,off,sz,z,m,hg=>by
  simp only[fQ] at hg;split at hg
  ·split at hg
   ·rename_i I m1 h1;simp only[aa,aw] at hg;obtain⟨_,rfl⟩:=hg;exact ym n a v.1 off sz I m1 h1
   ·cases hg
  ·split at hg
   ·rename_i I m1 h1;simp only[aa,aw] at hg;obtain⟨_,rfl⟩:=hg;exact ym n b v.2 _ sz I m1 h1
   ·cases hg
 |n+1,.un,v,off,sz,z,m,hg=>by simp[fQ] at hg
 |n+1,.ex,v,off,sz,z,m,hg=>by
  simp only[fQ] at hg;split at hg
  ·rename_i q hq;split at hq
   ·simp only[aa] at hg;subst hg;exact U1 hq
   ·cases hq
  ·split at hg
   ·rename_i I m1 h1;simp only[aa,aw] at hg;obtain⟨_,rfl⟩:=hg;exact ym n K9 _ off sz I m1 h1
   ·cases hg
 |n+1,.sm,v,off,sz,z,m,hg=>by
  simp only[fQ] at hg;split at hg
  ·rename_i q hq;split at hq
   ·simp only[aa] at hg;subst hg;exact U1 hq
   ·cases hq
  ·split at hg
   ·rename_i I m1 h1;simp only[aa,aw] at hg;obtain⟨_,rfl⟩:=hg;exact ym n KH _ off sz I m1 h1
   ·cases hg
 |n+1,.int k,v,off,sz,z,m,hg=>by
  simp only[fQ] at hg;split at hg
  ·exact mi hg
  ·cases hg
 |n+1,.bool,v,off,sz,z,m,hg=>by
  simp only[fQ] at hg;split at hg
  ·exact mi hg
  ·cases hg
 |n+1,.str,v,off,sz,z,m,hg=>by
  simp only[fQ] at hg;split at hg
  ·exact mi hg
  ·cases hg
 |n+1,.sl t,v,off,sz,z,m,hg=>by
  simp only[fQ] at hg;split at hg
  ·exact mi hg
  ·cases hg
theorem r9 {h:aZ} {m i:Nat} (hm:dl h m) (hb:aG m i=ajp):∃ p sz n,(dM m h).get i=ajn (.dead p sz n):=by
 obtain⟨ty,p,T,xs,h1⟩:=hm i hb;exact⟨p,T.size,xs.length,by rw[ib,if_pos hb,h1];rfl⟩
section ops
variable {R:Type} {P:Program} {o:Oper} {e:gU} {h:aZ} {nx:Nat} {K:KO R} {r:R}
theorem gw (n:Nat) (b:vy):il [(n,b)] n=ajn b:=by simp[il]
theorem iy.mk' {s:WR} (hc:cL P o.op=ajn s) {H:mP} (hH:H.get=bi h) {k:Nat} {y0:AV} {rdl wrl N:List Nat} {nw:NW} (ha:dO s (Js e h) H k=ajn ⟨y0,rdl,wrl,nw,N⟩) {v:TV} {h':aZ} {nx' rd wr:Nat} (wr':List Nat)
 (hsub:∀ i∈wrl,i∈wr') (hsame:∀ n,n∉wr'->bi h' n=bi h n)
 (hdom:∀ i∈wr',∀ b',bi h' i=ajn b'->∃ b,(if i∈wrl then il nw i else bi h i)=ajn b)
 (hblk:∀ (Y H2:HF),tZ Y H2->(∀ i∈wrl,Y i=il nw i)->(∀ i∈wr',i∉wrl->Y i=bi h i)->(∀ i∈wr',H2 i=bi h' i)->(∀ i∈wr',∀ b b',Y i=ajn b->H2 i=ajn b'->jz Y H2 b b')/\∀ y,bU h' v=ajn y->kG Y H2 y0 y)
 (hrd:∀ n∈rdl,aG rd (ow n)=ajp) (hwr:∀ n∈wr',aG wr (ow n)=ajp) (hN:∀ n∈N,nx<=ow n/\ow n<nx') (hrows:bZ h h') (hinv':kU h' nx') (hg:nx<=nx'):iy P o ajq e h nx v rd wr h' nx':=by
 have ht:=GD hc ha;rw[tR,hH] at ht;refine ⟨?_,hrows,hinv',hg,λhs=>by cases hs⟩;have base:∀ (val:AV),(∀ y,bU h' v=ajn y->y=val)->(bU h' v=ajo->val=y0)->fO P o (eP e h) (bi h) ⟨val,rdl,wr',bi h',N⟩:=by
  intro val hval hnone;refine fO.view ht (λi hi=>.inl (hsub i hi)) λh1 hr1 Z=>?_
  have hd:tZ (dQ h1 wrl (il nw)) (dQ h1 wr' (bi h')):=by
   intro i b hb;unfold dQ at hb ⊢;by_cases hi:i∈wr'
   ·rw[if_pos hi] at hb;obtain⟨b0,J⟩:=hdom i hi b hb;refine ⟨b0,?_⟩;by_cases U:i∈wrl
    ·rw[if_pos U] at J ⊢;exact J
    ·rw[if_neg U] at J ⊢;rw[Z i hi];exact J
   ·rw[if_neg hi] at hb;rw[if_neg (λU=>hi (hsub i U))];exact⟨b,hb⟩
  obtain⟨q1,q2⟩:=hblk _ _ hd (λi hi=>by unfold dQ;rw[if_pos hi]) (λi hi U=>by unfold dQ;rw[if_neg U];exact Z i hi) (λi hi=>by unfold dQ;rw[if_pos hi]);refine ⟨⟨hd,λi b b' hb M=>?_⟩,?_⟩
  ·by_cases hi:i∈wr'
   ·exact q1 i hi b b' hb M
   ·unfold dQ at hb M;rw[if_neg (λU=>hi (hsub i U))] at hb;rw[if_neg hi,hb] at M;cases M;exact jz.refl hd b
  ·cases hv:bU h' v with
   |none=>rw[hnone hv];exact kG.refl hd _
   |some y=>rw[<- hval y hv];exact q2 y hv
 have hu:dQ (bi h) wr' (bi h')=bi h':=by
  funext n;unfold dQ;split
  ·rfl
  ·rename_i hn;exact (hsame n hn).symm
 cases hv:bU h' v with
 |none=>exact⟨_,base y0 (λy I=>by rw[hv] at I;cases I) (λ_=>rfl),λy I=>(by cases I),hu,hrd,hwr,hN⟩
 |some y=>exact⟨_,base y (λy' I=>by rw[hv] at I;cases I;rfl) (λhn=>by rw[hv] at hn;cases hn),λy' I=>by cases I;rfl,hu,hrd,hwr,hN⟩
theorem BN (hi:rT e h):∀ (parts:List (Nat×Nat×Operand)) (cells cs:List TV) (cells':List AV),HM cells e parts=ajn cs->cj h cells=ajn cells'->∃ cs',xH cells' (Js e h) parts=ajn cs'/\cj h cs=ajn cs'/\(jF cells=ajp->jF cs=ajp)
 |[],cells,cs,cells',hf,he=>by simp only[HM,aa] at hf;subst hf;exact⟨cells',rfl,he,id⟩
 |(off,sz,x)::rest,cells,cs,cells',hf,he=>by
  simp only[HM] at hf;split at hf
  ·rename_i v hv;split at hf
   ·rename_i q hq;split at hf
    ·rename_i hc;simp only[aj,beq_iff_eq] at hc;obtain⟨y,h1,h2⟩:=bu hi hv;obtain⟨M,h4⟩:=Ly hq h2;obtain⟨cs',Z,Y,U⟩:=BN hi rest (splice cells off q) cs (splice cells' off y.cs) hf (tQ off he M);refine ⟨cs',?_,Y,λI=>U ?_⟩
     ·simp only[xH,h1];rw[if_pos,Z];simp only[aj,beq_iff_eq];exact⟨⟨by rw[iD M];exact hc.1,by rw[iD he];exact hc.2⟩,rR M h4⟩
     ·clear Z Y U hf;have app:∀ a b:List TV,jF a=ajp->jF b=ajp->jF (a++b)=ajp:=by
       intro a b I hb;induction a with
       |nil=>exact hb
       |cons z r J=>simp only[jF,aj,fg] at I ⊢;exact⟨I.1,J I.2⟩
      have tk:∀ (a:List TV) n,jF a=ajp->jF (a.take n)=ajp:=by
       intro a;induction a with
       |nil=>intro n h;simp[jF]
       |cons z r J=>
        intro n h;cases n with
        |zero=>rfl
        |succ n=>simp only[jF,aj,uw] at h ⊢;exact⟨h.1,J n h.2⟩
      have dr:∀ (a:List TV) n,jF a=ajp->jF (a.drop n)=ajp:=by
       intro a;induction a with
       |nil=>intro n h;simp[jF]
       |cons z r J=>
        intro n h;cases n with
        |zero=>exact h
        |succ n=>simp only[jF,aj,ux] at h ⊢;exact J n h.2
      unfold splice;exact app _ _ (app _ _ (tk _ _ I) h4) (dr _ _ I)
    ·cases hf
   ·cases hf
  ·cases hf
variable (hinv:kU h nx) (hi:rT e h)
include hinv hi
theorem ac7 {con:FuncId->Option bW} {bL:TypeId->Option Ty} {z:List Value} {parts:List (Nat×Nat×Operand)} {st:Bool} (hc:cL P o.op=ajn (.build z parts)) (hk:dj con bL (.op (.build z parts)) e h nx K=ajn r):jS P o st e h nx K r:=by
 simp only[dj] at hk;split at hk
 ·rename_i l hl;split at hk
  ·rename_i cs hf;obtain⟨h1,_,_⟩:=tW h hl;obtain⟨cs',M,J,_⟩:=BN hi parts l cs _ hf h1;refine jS.q (k:=0) (y0:=KU cs') hinv hc (λH _=>by simp only[dO,M]) (λy I=>?_) hk;simp only[bU,J,aa] at I;subst I;exact X9 cs'
  ·cases hk
 ·cases hk
theorem ag7 {con:FuncId->Option bW} {bL:TypeId->Option Ty} {sz:Nat} {ag:Bool} {x:Operand} (hc:cL P o.op=ajn (.load sz ag x)) (hk:dj con bL (.op (.load sz ag x)) e h nx K=ajn r):jS P o ajq e h nx K r:=by
 obtain⟨H,M⟩:=iT h;simp only[dj] at hk;split at hk
 ·rename_i id off hv;obtain⟨y,h1,I⟩:=bu hi hv;simp only[bU,aa] at I;subst I;split at hk
  ·rename_i ty l hb;split at hk
   ·rename_i v hs;obtain⟨Z,hl⟩:=eJ h l (hinv.cells id ty l hb);obtain⟨y,Y,U⟩:=T7 hl hs;have hg:H.get (nm id)=ajn ⟨ty,.mx Z⟩:=by rw[M,bt,hb];simp only[aA,jR,hl]
    exact⟨v,kg id,0,h,nx,hk,iy.pure (k:=0) hinv hc M (y0:=y) (rdl:=[nm id]) (by simp only[dO,h1,Cv,hg,U]) (cP Y) (λn hn=>by simp only[aF] at hn;subst hn;rw[dz];exact bK.2 rfl) (λh=>by cases h)⟩
   ·cases hk
  ·cases hk
 ·rename_i id sz' j off hv;obtain⟨y,h1,I⟩:=bu hi hv;simp only[bU,aa] at I;subst I;split at hk
  ·rename_i ty p T xs hb;split at hk
   ·rename_i hsz;have hsz:=ak hsz;obtain⟨hj,hk⟩:=dA hk;split at hk
    ·rename_i v hs;obtain⟨y,Y,U⟩:=acm (h:=h) hj hs;have hne:¬((p&&xs.length==0)=ajp):=by
      have:=Hc hj;simp only[aj,beq_iff_eq];omega
     have hg:H.get (nm id)=ajn ⟨ty,.fz (xs.flatMap (bC T))⟩:=by rw[M,bt,hb];simp only[aA,jR,if_neg hne]
     exact⟨v,kg id,0,h,nx,hk,iy.pure (k:=0) hinv hc M (y0:=.f y) (rdl:=[nm id]) (by simp only[dO,h1,Cv,hg,hsz,U]) (cP Y) (λn hn=>by simp only[aF] at hn;subst hn;rw[dz];exact bK.2 rfl) (λh=>by cases h)⟩
    ·cases hk
   ·cases hk
  ·rename_i ty l hb;split at hk
   ·cases hk
   ·split at hk
    ·rename_i hsz;simp only[aj] at hsz;have e1:=ak hsz.1.1;have e2:=ak hsz.1.2;have e3:=ak hsz.2;subst e1;subst e2;subst e3;split at hk
     ·rename_i T xs hA;obtain⟨hj,hk⟩:=dA hk;obtain⟨Z,hl⟩:=eJ h l (hinv.cells id ty l hb);have hg:H.get (nm id)=ajn ⟨ty,.mx Z⟩:=by rw[M,bt,hb];simp only[aA,jR,hl]
      have hlt:j.toNat<l.length:=by
       simp only[eS,aj,cD,eX,decide_eq_true_eq] at hj;omega
      obtain⟨z,hz1,J⟩:=kR hl j.toNat _ (U2 hA j.toNat hlt);have J:bU h (.f T (aD xs j))=ajn z:=J;exact⟨_,kg id,0,h,nx,hk,iy.pure (k:=0) hinv hc M (y0:=z) (rdl:=[nm id]) (by simp only[dO,h1,Cv,hg,BC.sub?,BC.get,Nat.mul_one,cN,hz1]) (cP J) (λn hn=>by simp only[aF] at hn;subst hn;rw[dz];exact bK.2 rfl) (λh=>by cases h)⟩
     ·cases hk
    ·cases hk
  ·cases hk
 ·rename_i T xs j hj off hv;obtain⟨y,h1,I⟩:=bu hi hv;simp only[bU,aa] at I;subst I;split at hk
  ·rename_i v hs;obtain⟨y,Y,U⟩:=acm (h:=h) hj hs;exact jS.q (k:=0) (y0:=.f y) hinv hc (λH _=>by simp only[dO,h1,Cv,U]) (cP Y) hk
  ·cases hk
 ·cases hk
theorem ac8 {con:FuncId->Option bW} {bL:TypeId->Option Ty} {ty:TypeId} {z:List Value} (hc:cL P o.op=ajn (.alloc ty z)) (hk:dj con bL (.op (.alloc ty z)) e h nx K=ajn r):jS P o ajq e h nx K r:=by
 have _:=hi;obtain⟨H,hH⟩:=iT h;simp only[dj] at hk;split at hk
 ·rename_i l hl;obtain⟨_,hz,_⟩:=tW h hl;have hnone:h.get nx=ajo:=by
   cases hb:h.get nx with
   |none=>rfl
   |some b=>have:=hinv.low nx b hb;omega
  have hr:bZ h (h.set nx (ajn (.cells ty l))):=bZ.set λr hr=>by rw[bD,hnone] at hr;cases hr
  obtain⟨h1,_,_⟩:=tW (h.set nx (ajn (.cells ty l))) hl;have U:bi (h.set nx (ajn (.cells ty l))) (nm nx)=ajn ⟨ty,.mx (z.map raw)⟩:=by rw[bt,PT.get_set,if_pos rfl];simp only[aA,jR,h1]
  refine ⟨_,_,_,_,_,hk,iy.mk' hc hH (k:=nm nx) (by simp only[dO];rfl) [nm nx] (λi hi=>hi) (λn hn=>?_) (λi hi b' _=>⟨⟨ty,.fz (z.map .raw)⟩,?_⟩) (λH1 H2 d M _ J=>⟨λi hi b b' hb I=>?_,λy Y=>?_⟩) (by simp) ?_ ?_ hr (hinv.set hr (by omega) (by omega) λty' l' he=>?_) (by omega)⟩
  ·refine jQ hinv hr λi e=>?_
   subst e;rw[PT.get_set,if_neg (λe=>hn (by rw[e];simp))]
  ·rw[if_pos hi];simp only[aF] at hi;subst hi;simp[il]
  ·simp only[aF] at hi;subst hi;rw[M _ (by simp)] at hb;rw[J _ (by simp),U] at I;rw[gw] at hb;simp only[aa] at hb I;subst hb;subst I;refine jz.cells rfl rfl ?_ λx Z=>?_
   ·simp only[BC.toMx,yk];exact gr.refl d _
   ·simp only[BC.toMx] at Z;obtain⟨q,hq,rfl⟩:=cO.1 Z;exact hz q hq
  ·simp only[bU,aa] at Y;subst Y;exact kG.refl d _
  ·intro n hn;simp only[aF] at hn;subst hn;rw[dz];exact bK.2 rfl
  ·intro n hn;simp only[aF] at hn;subst hn;rw[dz];omega
  ·cases he;exact kz _ _ _ h1
 ·cases hk
theorem ajd {con:FuncId->Option bW} {bL:TypeId->Option Ty} {ty:TypeId} {x:Operand} (hc:cL P o.op=ajn (.box ty x)) (hk:dj con bL (.op (.box ty x)) e h nx K=ajn r):jS P o ajq e h nx K r:=by
 obtain⟨H,hH⟩:=iT h;simp only[dj] at hk;split at hk
 ·rename_i v hv;split at hk
  ·rename_i l hl;obtain⟨y,h1,h2⟩:=bu hi hv;obtain⟨h3,h4⟩:=Ly hl h2;have hcell:=rR h3 h4;have hnone:h.get nx=ajo:=by
    cases hb:h.get nx with
    |none=>rfl
    |some b=>have:=hinv.low nx b hb;omega
   have hr:bZ h (h.set nx (ajn (.cells ty l))):=bZ.set λr hr=>by rw[bD,hnone] at hr;cases hr
   have Z:=ic hr l _ h3;have U:bi (h.set nx (ajn (.cells ty l))) (nm nx)=ajn ⟨ty,.mx y.cs⟩:=by rw[bt,PT.get_set,if_pos rfl];simp only[aA,jR,Z]
   refine ⟨_,_,_,_,_,hk,iy.mk' hc hH (k:=nm nx) (by simp only[dO,h1,hcell,if_true];rfl) [nm nx] (λi hi=>hi) (λn hn=>?_) (λi hi b' _=>⟨⟨ty,oo y.cs⟩,?_⟩) (λH1 H2 d M _ J=>⟨λi hi b b' hb I=>?_,λy Y=>?_⟩) (by simp) ?_ ?_ hr (hinv.set hr (by omega) (by omega) λty' l' he=>?_) (by omega)⟩
   ·refine jQ hinv hr λi e=>?_
    subst e;rw[PT.get_set,if_neg (λe=>hn (by rw[e];simp))]
   ·rw[if_pos hi];simp only[aF] at hi;subst hi;simp[il]
   ·simp only[aF] at hi;subst hi;rw[M _ (by simp)] at hb;rw[J _ (by simp),U] at I;rw[gw] at hb;simp only[aa] at hb I;subst hb;subst I;obtain⟨q1,q2⟩:=mE y.cs;refine jz.cells q2 rfl ?_ λx hx=>?_
    ·rw[q1];exact gr.refl d _
    ·exact kB hcell x hx
   ·simp only[bU,aa] at Y;subst Y;exact kG.refl d _
   ·intro n hn;simp only[aF] at hn;subst hn;rw[dz];exact bK.2 rfl
   ·intro n hn;simp only[aF] at hn;subst hn;rw[dz];omega
   ·cases he;exact kz _ _ _ Z
  ·cases hk
 ·cases hk
theorem ac5 {con:FuncId->Option bW} {bL:TypeId->Option Ty} {ty:TypeId} {sz bytes:Nat} {z:List Value} {l c:Operand} (hcm:Cl (bL ty)=ajo) (hc:cL P o.op=ajn (.mksl ty sz bytes z l c)) (hk:dj con bL (.op (.mksl ty sz bytes z l c)) e h nx K=ajn r):jS P o ajq e h nx K r:=by
 obtain⟨H,hH⟩:=iT h;simp only[dj,hcm] at hk;split at hk
 ·rename_i T k a k' b hT hv U;split at hk
  ·rename_i hsz;simp only[aj] at hsz;have hs:=ak hsz.1;have hz:=IV hsz.2;subst hs;subst hz;obtain⟨hck,hk⟩:=dA hk;obtain⟨y,h1,h2⟩:=bu hi hv;obtain⟨y2,h3,h4⟩:=bu hi U;simp only[bU,aa] at h2 h4;subst h2;subst h4;have hnone:h.get nx=ajo:=by
    cases hb:h.get nx with
    |none=>rfl
    |some b=>have:=hinv.low nx b hb;omega
   generalize Z:gC.rows ty ajq T (ay (aL a) T.zero)=B at hk;have hr:bZ h (h.set nx (ajn B)):=bZ.set λr hr=>by rw[bD,hnone] at hr;cases hr
   have Y:bi (h.set nx (ajn B)) (nm nx)=ajn ⟨ty,.fz ((ay (aL a) T.zero).flatMap (bC T))⟩:=by rw[bt,PT.get_set,if_pos rfl,<-Z];simp[jR]
   refine ⟨_,_,_,_,_,hk,iy.mk' hc hH (k:=nm nx) (by simp only[dO,h1,h3,fM,hck,if_true];rfl) [nm nx] (λi hi=>hi) (λn hn=>?_) (λi hi b' _=>⟨⟨ty,.fz (repl (ru T) (aL a))⟩,?_⟩) (λH1 H2 d M _ J=>⟨λi hi b b' hb I=>?_,λy hy=>?_⟩) (by simp) ?_ ?_ hr (hinv.set hr (by omega) (by omega) λty' l' he=>?_) (by omega)⟩
   ·refine jQ hinv hr λi e=>?_
    subst e;rw[PT.get_set,if_neg (λe=>hn (by rw[e];simp))]
   ·rw[if_pos hi];simp only[aF] at hi;subst hi;simp[il]
   ·simp only[aF] at hi;subst hi;rw[M _ (by simp)] at hb;rw[J _ (by simp),Y] at I;rw[gw] at hb;simp only[aa] at hb I;subst hb;subst I;refine jz.cells rfl rfl (FO d T _) λx hx=>?_
    simp only[BC.toMx] at hx;obtain⟨q,hq,rfl⟩:=cO.1 hx;exact qj T _ q hq
   ·simp only[bU,bD,PT.get_set,if_true,<-Z,aA,lE,eo,mn,b8,if_false,aa,dK] at hy;subst hy;exact kG.refl d _
   ·intro n hn;simp only[aF] at hn;subst hn;rw[dz];exact bK.2 rfl
   ·intro n hn;simp only[aF] at hn;subst hn;rw[dz];omega
   ·rw[<- Z] at he;cases he
  ·cases hk
 ·cases hk
end ops
theorem yC {α:Type} {f:α->List FV} {n:Nat} (hf:∀ x,(f x).length=n):∀ (xs:List α) (j:Nat),(xs.take j).flatMap f=(xs.flatMap f).take (j*n)
 |[],j=>by simp
 |x::r,0=>by simp
 |x::r,j+1=>by
  rw[uw,eE,eE,yC hf r j,show (j+1)*n=(f x).length+j*n from by rw[hf,gX];omega,List.take_length_add_append]
theorem HL {α:Type} {f:α->List FV} {n:Nat} (hf:∀ x,(f x).length=n):∀ (xs:List α) (j:Nat),(xs.drop j).flatMap f=(xs.flatMap f).drop (j*n)
 |[],j=>by simp
 |x::r,0=>by simp
 |x::r,j+1=>by
  rw[ux,eE,HL hf r j,show (j+1)*n=(f x).length+j*n from by rw[hf,gX];omega,List.drop_length_add_append]
theorem N6 {z:List Value}:∀ (n:Nat) (x:FV),x∈repl z n->∃ v∈z,x= .raw v
 |0,x,h=>by simp[repl] at h
 |n+1,x,h=>by
  rw[repl,bE] at h;rcases h with h|h
  ·obtain⟨v,hv,rfl⟩:=cO.1 h;exact⟨v,hv,rfl⟩
  ·exact N6 n x h
theorem E3:∀ l:List FV,(∀ x∈l,x.isCell=ajp)->fJ (l.map .f)=ajp
 |[],_=>rfl
 |z::r,h=>by simp only[ff,fJ,aj];exact⟨h z (by simp),E3 r λx I=>h x (by simp[I])⟩
section ops
variable {R:Type} {P:Program} {o:Oper} {e:gU} {h:aZ} {nx:Nat} {K:KO R} {r:R}
theorem kU.fresh (hinv:kU h nx):h.get nx=ajo:=by
 cases hb:h.get nx with
 |none=>rfl
 |some b=>have:=hinv.low nx b hb;omega
theorem dl.lt (hinv:kU h nx) {m:Nat} (hm:dl h m) {i:Nat} (hi:aG m i=ajp):i<nx:=by
 obtain⟨_,_,_,_,hb⟩:=hm i hi;exact hinv.low i _ hb
theorem iy.new {s:WR} (hinv:kU h nx) (hc:cL P o.op=ajn s) {H:mP} (hH:H.get=bi h) {y0:AV} {rdl:List Nat} {b0:vy} (ha:dO s (Js e h) H (nm nx)=ajn ⟨y0,rdl,[nm nx],[(nm nx,b0)],[nm nx]⟩) {B:gC} {v:TV} {m rd:Nat} (hm:dl h m)
 (hB:∀ ty l,B= .cells ty l->jT ((dM m h).set nx (ajn B)) l=ajp)
 (hblk:∀ J I,tZ J I->CH h J I m->∀ b',jR ((dM m h).set nx (ajn B)) B=ajn b'->jz J I b0 b')
 (hval:∀ J I y,tZ J I->CH h J I m->bU ((dM m h).set nx (ajn B)) v=ajn y->kG J I y0 y)
 (hrd:∀ n∈rdl,aG rd (ow n)=ajp):iy P o ajq e h nx v rd (m|||kg nx) ((dM m h).set nx (ajn B)) (nx+1):=by
 have hk:=hinv.kill m;have hr0:=bZ.kill m h;have Y:bZ (dM m h) ((dM m h).set nx (ajn B)):=bZ.set λr hr=>by rw[bD,hk.fresh] at hr;cases hr
 have hr:=hr0.trans Y;have hgiv:∀ i,aG m i=ajp->bi ((dM m h).set nx (ajn B)) (nm i)=ajo:=λi hi=>by
  have hlt:=hm.lt hinv hi;obtain⟨p,sz,n,hd⟩:=r9 hm hi;rw[bt,PT.get_set,if_neg (by omega),hd];rfl
 refine iy.mk' hc hH ha (nm nx::D6 m) (λi hi=>by simp only[aF] at hi;subst hi;simp) (λn hn=>?_) (λi hi b' Z=>?_) (λJ I d hw1 hw0 U=>?_) hrd ?_ ?_ hr (hk.set Y (by omega) (by omega) hB) (by omega)
 ·refine jQ hinv hr λi e=>?_
  subst e;rw[PT.get_set,if_neg (λe=>hn (by rw[e];simp)),ib,if_neg];intro hb;exact hn (cA _ (kq.2 hb))
 ·rcases bc.1 hi with rfl|hi
  ·exact⟨b0,by rw[if_pos (by simp),gw]⟩
  ·obtain⟨j,rfl,hj⟩:=mG.1 hi;rw[hgiv j hj] at Z;cases Z
 ·have g:CH h J I m:=λi hi=>by
   have hlt:=hm.lt hinv hi;have hmem:nm i∈nm nx::D6 m:=cA _ (kq.2 hi);exact⟨hw0 _ hmem (λhc=>by simp only[aF] at hc;have:=jU hc;omega),by rw[U _ hmem,hgiv i hi]⟩
  refine ⟨λi hi b b' hb M=>?_,λy hy=>hval J I y d g hy⟩;rcases bc.1 hi with rfl|hi'
  ·rw[hw1 _ (by simp),gw] at hb;rw[U _ hi,bt,PT.get_set,if_pos rfl] at M;simp only[aa] at hb;subst hb;exact hblk J I d g b' M
  ·obtain⟨j,rfl,hj⟩:=mG.1 hi';rw[U _ hi,hgiv j hj] at M;cases M
 ·intro n hn;rw[bf];rcases bc.1 hn with rfl|hn
  ·rw[dz,bK.2 rfl];simp
  ·obtain⟨j,rfl,hj⟩:=mG.1 hn;rw[dz,hj];rfl
 ·intro n hn;simp only[aF] at hn;subst hn;rw[dz];omega
theorem iy.wrt {s:WR} (hinv:kU h nx) (hc:cL P o.op=ajn s) {H:mP} (hH:H.get=bi h) {id:Nat} {y0:AV} {rdl:List Nat} {b0:vy} {k:Nat} (ha:dO s (Js e h) H k=ajn ⟨y0,rdl,[nm id],[(nm id,b0)],[]⟩) {B0 B:gC} (Z:h.get id=ajn B0) {v:TV} {m rd:Nat} (hm:dl h m) (hmid:aG m id=ajq)
 (hrow:lE B=lE B0) (hB:∀ ty l,B= .cells ty l->jT ((dM m h).set id (ajn B)) l=ajp)
 (hblk:∀ J I,tZ J I->CH h J I m->∀ b',jR ((dM m h).set id (ajn B)) B=ajn b'->jz J I b0 b')
 (hval:∀ J I y,tZ J I->CH h J I m->bU ((dM m h).set id (ajn B)) v=ajn y->kG J I y0 y)
 (hrd:∀ n∈rdl,aG rd (ow n)=ajp):iy P o ajq e h nx v rd (m|||kg id) ((dM m h).set id (ajn B)) nx:=by
 have hk:=hinv.kill m;have hr0:=bZ.kill m h;have hkid:(dM m h).get id=ajn B0:=by rw[ib,hmid];simpa using Z
 have Y:bZ (dM m h) ((dM m h).set id (ajn B)):=bZ.set λr hr=>by rw[bD,hkid] at hr;rw[hrow];exact hr
 have hr:=hr0.trans Y;have hgiv:∀ i,aG m i=ajp->bi ((dM m h).set id (ajn B)) (nm i)=ajo:=λi hi=>by
  have hne:i≠id:=λe=>by rw[e,hmid] at hi;cases hi
  obtain⟨p,sz,n,hd⟩:=r9 hm hi;rw[bt,PT.get_set,if_neg hne,hd];rfl
 refine iy.mk' hc hH ha (nm id::D6 m) (λi hi=>by simp only[aF] at hi;subst hi;simp) (λn hn=>?_) (λi hi b' hb'=>?_) (λJ I d hw1 hw0 U=>?_) hrd ?_ (by simp) hr (hk.set Y (hinv.low id B0 Z) (by omega) hB) (by omega)
 ·refine jQ hinv hr λi e=>?_
  subst e;rw[PT.get_set,if_neg (λe=>hn (by rw[e];simp)),ib,if_neg];intro hb;exact hn (cA _ (kq.2 hb))
 ·rcases bc.1 hi with rfl|hi
  ·exact⟨b0,by rw[if_pos (by simp),gw]⟩
  ·obtain⟨j,rfl,hj⟩:=mG.1 hi;rw[hgiv j hj] at hb';cases hb'
 ·have g:CH h J I m:=λi hi=>by
   have hne:i≠id:=λe=>by rw[e,hmid] at hi;cases hi
   have hmem:nm i∈nm id::D6 m:=cA _ (kq.2 hi);exact⟨hw0 _ hmem (λhc=>by simp only[aF] at hc;exact hne (jU hc)),by rw[U _ hmem,hgiv i hi]⟩
  refine ⟨λi hi b b' hb M=>?_,λy hy=>hval J I y d g hy⟩;rcases bc.1 hi with rfl|hi'
  ·rw[hw1 _ (by simp),gw] at hb;rw[U _ hi,bt,PT.get_set,if_pos rfl] at M;simp only[aa] at hb;subst hb;exact hblk J I d g b' M
  ·obtain⟨j,rfl,hj⟩:=mG.1 hi';rw[U _ hi,hgiv j hj] at M;cases M
 ·intro n hn;rw[bf];rcases bc.1 hn with rfl|hn
  ·rw[dz,bK.2 rfl];simp
  ·obtain⟨j,rfl,hj⟩:=mG.1 hn;rw[dz,hj];rfl
theorem KK (h:aZ) {z:List Value} {I:List TV} (J:Ix z=ajn I):∀ len,cj h (ay len I).flatten=ajn ((repl z len).map .f)
 |0=>rfl
 |n+1=>by
  rw[List.replicate_succ,List.flatten_cons,repl,ct];refine mg ?_ (KK h J n);rw[(tW h J).1];simp only[yk];rfl
theorem Ue {H:mP} (Z:H.get=bi h) {T:Ty} {v:TV} {U:List T.den} {m:Nat} {y:AV} (I:Cu h (.sl T) v=ajn (U,m)) (J:bU h v=ajn y):∃ rd,y.row? H T.size=ajn ((U.flatMap (bC T)).map .f,U.length,rd)/\∀ n∈rd,∃ i,n=nm i/\aG m i=ajp:=by
 have fl:=λM:List T.den=>eA (bl T) M
 have tk:∀ M:List T.den,(M.flatMap (bC T)).take (M.length*T.size)=M.flatMap (bC T):=λM=>by rw[<- fl,cz]
 cases v with
 |f S x=>
  simp only[Cu,gP] at I;split at I
  ·rename_i z Y;simp only[aa,aw] at I;obtain⟨rfl,_⟩:=I;obtain⟨e,rfl⟩:=io Y;subst e;simp only[bU,aa] at J;subst J;refine ⟨[],?_,by simp⟩;simp only[fM,AV.row?];rw[if_pos (bp (by rw[fl x];exact bF _)),tk]
  ·cases I
 |emp=>
  simp only[Cu,gP,aa,aw] at I;obtain⟨rfl,_⟩:=I;simp only[bU,aa] at J;subst J;exact⟨[],rfl,by simp⟩
 |nil=>
  simp only[Cu,gP,aa,aw] at I;obtain⟨rfl,_⟩:=I;simp only[bU,aa] at J;subst J;exact⟨[],rfl,by simp⟩
 |row id=>
  simp only[Cu,gP] at I;split at I
  ·rename_i ty p S xs hb;split at I
   ·rename_i z Y;simp only[aa,aw] at I;obtain⟨rfl,rfl⟩:=I;obtain⟨e,rfl⟩:=io Y;cases e;simp only[bU,dE,hb,aa] at J;subst J;unfold eo;split
    ·rename_i hp;simp only[aj,beq_iff_eq] at hp;have:xs=[]:=fK.1 hp.2;subst this;exact⟨[],rfl,by simp⟩
    ·rename_i hp;have hg:H.get (nm id)=ajn ⟨ty,.fz (xs.flatMap (bC T))⟩:=by rw[Z,bt,hb];simp only[aA,jR,if_neg hp]
     refine ⟨[nm id],?_,λn hn=>?_⟩
     ·simp only[AV.row?,hg,beq_self_eq_true,if_true,BC.isCells,BC.len,oy];rw[if_pos (bp (by rw[fl xs];exact bF _))];simp only[BC.toMx,<-jL,tk]
     ·simp only[aF] at hn;exact⟨id,hn,bK.2 rfl⟩
   ·cases I
  ·cases I
 |agg l=>simp[Cu,Ty.one] at I
 |fel T xs j hj off=>simp[Cu,gP] at I
 |pel id sz j off=>simp[Cu,gP] at I
 |ptr id off=>simp[Cu,gP] at I
 |csl id off z=>simp[Cu,gP] at I
 |mp id=>simp[Cu,gP] at I
 |rtl id jj=>simp[Cu,gP] at I
 |tup q=>simp[Cu,gP] at I
 |clo f q=>simp[Cu,gP] at I
 |undef=>simp[Cu,gP] at I
 |np=>simp[Cu,gP] at I
 |anyb=>simp[Cu,gP] at I
theorem RL {v:TV} {y:AV} (I:bU h v=ajn y) (hc:v.isC=ajp):fJ y.cs=ajp:=by
 rw[L4 (Mh I hc)];simp only[fJ,Bool.and_true];exact Mh I hc
theorem V5 (T:Ty) (x:T.den):fJ ((bC T x).map .f)=ajp:=by
 have:∀ l:List FV,(∀ x∈l,x.isCell=ajp)->fJ (l.map .f)=ajp:=by
  intro l hl;induction l with
  |nil=>rfl
  |cons z r I=>simp only[ff,fJ,aj];exact⟨hl z (by simp),I λx J=>hl x (by simp[J])⟩
 exact this _ (mM T x)
theorem fX {T:Ty} {v:TV} {x:T.den} {m:Nat} {y:AV} (I:gP h T v=ajn (x,m)) (J:bU h v=ajn y):fJ y.cs=ajp:=by
 cases v with
 |f S v=>simp only[bU,aa] at J;subst J;rw[yE];exact V5 S v
 |emp=>exact RL J rfl
 |nil=>exact RL J rfl
 |row id=>exact RL J rfl
 |fel T xs j hj off=>simp[gP] at I
 |pel id sz j off=>simp[gP] at I
 |ptr id off=>simp[gP] at I
 |csl id off z=>simp[gP] at I
 |mp id=>simp[gP] at I
 |rtl id M=>simp[gP] at I
 |agg q=>simp[gP] at I
 |tup q=>simp[gP] at I
 |clo f q=>simp[gP] at I
 |undef=>simp[gP] at I
 |np=>simp[gP] at I
 |anyb=>simp[gP] at I
theorem F9 {T:Ty} (M:T.one=ajp) {v:TV} {x:T.den} {m:Nat} (I:gP h T v=ajn (x,m)):v.isC=ajp:=by
 cases v with
 |f S v=>
  simp only[gP] at I;split at I
  ·rename_i z J;obtain⟨e,_⟩:=io J;subst e;exact M
  ·cases I
 |emp=>rfl
 |nil=>rfl
 |row id=>rfl
 |fel T xs j hj off=>simp[gP] at I
 |pel id sz j off=>simp[gP] at I
 |ptr id off=>simp[gP] at I
 |csl id off z=>simp[gP] at I
 |mp id=>simp[gP] at I
 |rtl id U=>simp[gP] at I
 |agg q=>simp[gP] at I
 |tup q=>simp[gP] at I
 |clo f q=>simp[gP] at I
 |undef=>simp[gP] at I
 |np=>simp[gP] at I
 |anyb=>simp[gP] at I
theorem Qz {a b:List TV} (I:jF a=ajp) (hb:jF b=ajp):jF (a++b)=ajp:=by
 induction a with
 |nil=>exact hb
 |cons z r J=>simp only[jF,aj,fg] at I ⊢;exact⟨I.1,J I.2⟩
theorem rW:∀ (n:Nat) (T:Ty) (l:List TV) (x:T.den) (m:Nat) (r:List TV),dU h n T l=ajn (x,m,r)->∃ a,l=a++r/\jF a=ajp
 |0,_,_,_,_,_,hp=>by simp[dU] at hp
 |n+1,.st t,l,x,m,r,hp=>rW n t l x m r hp
 |n+1,.pr a b,l,x,m,r,hp=>by
  simp only[dU] at hp;split at hp
  ·rename_i I m1 r1 h1;split at hp
   ·rename_i J m2 r2 M;simp only[aa,aw] at hp;obtain⟨_,_,rfl⟩:=hp;obtain⟨a1,rfl,Y⟩:=rW n a l I m1 r1 h1;obtain⟨a2,rfl,U⟩:=rW n b r1 J m2 r2 M;exact⟨a1++a2,by simp,Qz Y U⟩
   ·cases hp
  ·cases hp
 |n+1,.un,l,x,m,r,hp=>by
  simp only[dU,aa,aw] at hp;obtain⟨_,_,rfl⟩:=hp;exact⟨[],rfl,rfl⟩
 |n+1,.ex,l,x,m,r,hp=>by
  simp only[dU] at hp;split at hp
  ·rename_i I m1 r1 h1;simp only[aa,aw] at hp;obtain⟨_,_,rfl⟩:=hp;exact rW n K9 l I m1 r1 h1
  ·cases hp
 |n+1,.sm,l,x,m,r,hp=>by
  simp only[dU] at hp;split at hp
  ·rename_i I m1 r1 h1;simp only[aa,aw] at hp;obtain⟨_,_,rfl⟩:=hp;exact rW n KH l I m1 r1 h1
  ·cases hp
 |n+1,.int k,l,x,m,r,hp=>by
  simp only[dU] at hp;split at hp
  ·rename_i c q;split at hp
   ·rename_i I m1 h1;simp only[aa,aw] at hp;obtain⟨_,_,rfl⟩:=hp;exact⟨[c],rfl,by simp[jF,F9 rfl h1]⟩
   ·cases hp
  ·cases hp
 |n+1,.bool,l,x,m,r,hp=>by
  simp only[dU] at hp;split at hp
  ·rename_i c q;split at hp
   ·rename_i I m1 h1;simp only[aa,aw] at hp;obtain⟨_,_,rfl⟩:=hp;exact⟨[c],rfl,by simp[jF,F9 rfl h1]⟩
   ·cases hp
  ·cases hp
 |n+1,.str,l,x,m,r,hp=>by
  simp only[dU] at hp;split at hp
  ·rename_i c q;split at hp
   ·rename_i I m1 h1;simp only[aa,aw] at hp;obtain⟨_,_,rfl⟩:=hp;exact⟨[c],rfl,by simp[jF,F9 rfl h1]⟩
   ·cases hp
  ·cases hp
 |n+1,.sl t,l,x,m,r,hp=>by
  simp only[dU] at hp;split at hp
  ·rename_i c q;split at hp
   ·rename_i I m1 h1;simp only[aa,aw] at hp;obtain⟨_,_,rfl⟩:=hp;exact⟨[c],rfl,by simp[jF,F9 rfl h1]⟩
   ·cases hp
  ·cases hp
theorem IY {T:Ty} {v:TV} {x:T.den} {m:Nat} {y:AV} (J:Cu h T v=ajn (x,m)) (I:bU h v=ajn y):fJ y.cs=ajp:=by
 cases v with
 |agg l=>
  simp only[Cu] at J;split at J
  ·cases J
  ·split at J
   ·rename_i M m1 h1;obtain⟨a,e,Y⟩:=rW 40 T l M m1 [] h1;rw[kF] at e;subst e;simp only[bU] at I;split at I
    ·rename_i Z hl;simp only[aa] at I;subst I;exact rR hl Y
    ·cases I
   ·cases J
 |f S v=>exact fX (v:=.f S v) J I
 |fel T xs j hj off=>exact fX (v:=.fel T xs j hj off) J I
 |pel id sz j off=>exact fX (v:=.pel id sz j off) J I
 |ptr id off=>exact fX (v:=.ptr id off) J I
 |csl id off z=>exact fX (v:=.csl id off z) J I
 |row id=>exact fX (v:=.row id) J I
 |emp=>exact fX (v:=.emp) J I
 |nil=>exact fX (v:=.nil) J I
 |mp id=>exact fX (v:=.mp id) J I
 |rtl id U=>exact fX (v:=.rtl id U) J I
 |tup q=>exact fX (v:=.tup q) J I
 |clo g q=>exact fX (v:=.clo g q) J I
 |undef=>exact fX (v:=.undef) J I
 |np=>exact fX (v:=.np) J I
 |anyb=>exact fX (v:=.anyb) J I
theorem pP {u:TV} {y:AV} (I:bU h u=ajn y):∀ (n:Nat) (T:Ty) (v:T.den) (off sz:Nat) (z:T.den) (m:Nat),fQ h u n T v off sz=ajn (z,m)->fJ y.cs=ajp
 |0,_,_,_,_,_,_,hg=>by simp[fQ] at hg
 |n+1,.st t,v,off,sz,z,m,hg=>by
  simp only[fQ] at hg;split at hg
  ·rename_i q hq;split at hq
   ·exact IY hq I
   ·cases hq
  ·exact pP I n t v off sz z m hg
 |n+1,.pr a b,v,off,sz,z,m,hg=>by
  simp only[fQ] at hg;split at hg
  ·split at hg
   ·rename_i J m1 h1;exact pP I n a v.1 off sz J m1 h1
   ·cases hg
  ·split at hg
   ·rename_i J m1 h1;exact pP I n b v.2 _ sz J m1 h1
   ·cases hg
 |n+1,.un,v,off,sz,z,m,hg=>by simp[fQ] at hg
 |n+1,.ex,v,off,sz,z,m,hg=>by
  simp only[fQ] at hg;split at hg
  ·rename_i q hq;split at hq
   ·exact IY hq I
   ·cases hq
  ·split at hg
   ·rename_i J m1 h1;exact pP I n K9 _ off sz J m1 h1
   ·cases hg
 |n+1,.sm,v,off,sz,z,m,hg=>by
  simp only[fQ] at hg;split at hg
  ·rename_i q hq;split at hq
   ·exact IY hq I
   ·cases hq
  ·split at hg
   ·rename_i J m1 h1;exact pP I n KH _ off sz J m1 h1
   ·cases hg
 |n+1,.int k,v,off,sz,z,m,hg=>by
  simp only[fQ] at hg;split at hg
  ·exact fX hg I
  ·cases hg
 |n+1,.bool,v,off,sz,z,m,hg=>by
  simp only[fQ] at hg;split at hg
  ·exact fX hg I
  ·cases hg
 |n+1,.str,v,off,sz,z,m,hg=>by
  simp only[fQ] at hg;split at hg
  ·exact fX hg I
  ·cases hg
 |n+1,.sl t,v,off,sz,z,m,hg=>by
  simp only[fQ] at hg;split at hg
  ·exact fX hg I
  ·cases hg
theorem I2 (l:List FV):wy (l.map .f)=ajn l:=by
 induction l with
 |nil=>rfl
 |cons x r I=>simp only[ff,wy,I]
theorem Bo (l:List FV):oo (l.map .f)= .fz l:=by unfold oo;rw[I2]
theorem E4:∀ {a b:List TV},jF a=ajp->jF b=ajp->jF (a++b)=ajp
 |[],_,_,hb=>hb
 |x::r,b,I,hb=>by
  simp only[jF,aj] at I;simp only[fg,jF,aj];exact⟨I.1,E4 I.2 hb⟩
theorem DK {I:List TV} (J:jF I=ajp):∀ n,jF (ay n I).flatten=ajp
 |0=>rfl
 |n+1=>by rw[List.replicate_succ,List.flatten_cons];exact E4 J (DK J n)
theorem aaw {H:mP} (J:H.get=bi h) {id ty:Nat} {l:List TV} {I:List AV} (hb:h.get id=ajn (.cells ty l)) (hl:cj h l=ajn I) {n sz:Nat} (hn:l.length=n*sz):AV.row? H sz (.row (nm id) sz n)=ajn (I,n,[nm id]):=by
 have hg:H.get (nm id)=ajn ⟨ty,.mx I⟩:=by rw[J,bt,hb];simp only[aA,jR,hl]
 have hln:=iD hl;simp only[AV.row?,beq_self_eq_true,if_true,hg,BC.isCells,oy,BC.len,BC.toMx];rw[if_pos (bp (by omega)),eT (by omega)]
variable (hinv:kU h nx) (hi:rT e h)
include hinv hi
theorem agd {con:FuncId->Option bW} {bL:TypeId->Option Ty} {ty:TypeId} {sz len:Nat} {z:List Value} {parts:List (Nat×Nat×Operand)} (hcm:Cl (bL ty)=ajo) (hc:cL P o.op=ajn (.bsl ty sz len z parts)) (hk:dj con bL (.op (.bsl ty sz len z parts)) e h nx K=ajn r):jS P o ajq e h nx K r:=by
 obtain⟨H,hH⟩:=iT h;simp only[dj,hcm] at hk;split at hk
 ·rename_i T zc hT hz;split at hk
  ·rename_i hs;have hs:=ak hs;subst hs;split at hk
   ·rename_i cs hf;split at hk
    ·rename_i xs m hp;obtain⟨cs',h1,U,_⟩:=BN hi parts _ cs _ hf (KK h hz len);have hm:=L2 len cs xs m hp;refine ⟨_,_,_,_,_,hk,iy.new hinv hc hH (y0:=if len=0 then .emp else .row (nm nx) T.size len) (rdl:=[]) (b0:=⟨ty,oo cs'⟩) (by simp only[dO,h1]) hm (λ_ _ he=>by cases he) (λH1 H2 d g b' I=>?_) (λH1 H2 y d g J=>?_) (by simp)⟩
     ·simp only[jR] at I;split at I
      ·cases I
      rw[aa] at I;subst I;obtain⟨Z,Y⟩:=mE cs';refine jz.cells Y rfl ?_ λx M=>?_
      ·rw[Z];exact (Bj d len cs xs m cs' hp U g).1
      ·simp only[BC.toMx] at M;obtain⟨q,hq,rfl⟩:=cO.1 M;exact qj T _ q hq
     ·simp only[bU,bD,PT.get_set,if_true,aA,lE,eo,aa] at J;rw[(Bj d len cs xs m cs' hp U g).2] at J;split at J
      ·rename_i hq;simp only[aj,beq_iff_eq] at hq;subst J;rw[if_pos hq.2];exact kG.refl d _
      ·rename_i hq;subst J;rw[if_neg (λh0=>hq (by subst h0;rfl))];exact kG.refl d _
    ·cases hk
   ·cases hk
  ·cases hk
 ·cases hk
theorem age {con:FuncId->Option bW} {bL:TypeId->Option Ty} {ty:TypeId} {sz bytes:Nat} {s x:Operand} (hcm:Cl (bL ty)=ajo) (hc:cL P o.op=ajn (.app ty sz bytes s x)) (hk:dj con bL (.op (.app ty sz bytes s x)) e h nx K=ajn r):jS P o ajq e h nx K r:=by
 obtain⟨H,hH⟩:=iT h;have hfr:=hinv.fresh;simp only[dj,hcm] at hk;split at hk
 ·rename_i T b y hT hv hv2;split at hk
  ·rename_i hs;have hs:=ak hs;subst hs;split at hk
   ·rename_i J m hys;obtain⟨yb,h1,h2⟩:=bu hi hv;obtain⟨yy,h3,h4⟩:=bu hi hv2;obtain⟨rdl,h5,h6⟩:=Ue hH hys h4;have onEmp:∀ (rd':Nat),(∀ n∈rdl,aG rd' (ow n)=ajp)->Hb yb=ajp->Le yb .emp->aT (af J) bytes=ajp->iy P o ajq e h nx (.row nx) rd' (kg nx) (h.set nx (ajn (.rows ty ajp T J))) (nx+1):=by
     intro rd' hrd' he hle hroom;have hr1:bZ h (h.set nx (ajn (.rows ty ajp T J))):=bZ.set λr hr=>by rw[bD,hfr] at hr;cases hr
     have hyb:∀ id sz' n,yb≠ .row id sz' n:=by rintro id sz' n rfl;cases he
     have I:dO (.app ty T.size bytes s x) (Js e h) H (nm nx)=if af J==0 then ajn ⟨yb,rdl,[],[],[]⟩ else ajn ⟨.row (nm nx) T.size (af J),rdl,[nm nx],[(nm nx,⟨ty,oo ((J.flatMap (bC T)).map .f)⟩)],[nm nx]⟩:=by
      simp only[dO,h1,h3,h5];cases yb with
      |row id sz' n=>exact absurd rfl (hyb id sz' n)
      |_=>simp only[he,hroom,jM,if_true]
     by_cases hl:af J=0
     ·rw[hl] at I;simp only[beq_self_eq_true,if_true] at I;have hnil:J=[]:=fK.1 hl;subst hnil;refine iy.mk' hc hH I [] (by simp) (λn _=>?_) (by simp) (λH1 H2 d _ _ _=>⟨by simp,λy M=>?_⟩) hrd' (by simp) (by simp) hr1 (hinv.set hr1 (by omega) (by omega) λ_ _ he=>by cases he) (by omega)
      ·by_cases hn:n=nm nx
       ·subst hn;rw[bt,bt,PT.get_set,if_pos rfl,hfr];rfl
       ·refine jQ hinv hr1 λi e=>?_
        subst e;rw[PT.get_set,if_neg (λe=>hn (by rw[e]))]
      ·simp only[bU,bD,PT.get_set,if_true,aA,lE,eo,je,beq_self_eq_true,jM,aa] at M;subst M;exact hle.toH d
     ·rw[if_neg (by simpa using hl)] at I;rw[Bo] at I;have key:=iy.new (m:=0) (rd:=rd') hinv hc hH I (B:=.rows ty ajp T J) (v:=.row nx) (dl.zero h) (λ_ _ he=>by cases he) (λH1 H2 d g b' Z=>by
       simp only[jR] at Z;rw[if_neg (by simpa using hl)] at Z;simp only[aa] at Z;subst Z;exact jz.refl d _) (λH1 H2 y d g M=>by
       simp only[bU,bD,PT.get_set,if_true,aA,lE,eo] at M;rw[if_neg (by simpa using hl)] at M;simp only[aa] at M;subst M;exact kG.refl d _) hrd'
      rw[CE] at key;exact key
    split at hk
    ·rename_i id;split at hk
     ·rename_i ty' p S xs0 hb;split at hk
      ·rename_i xs hxs;obtain⟨ee,rfl⟩:=io hxs;cases ee;split at hk
       ·rename_i hcond;simp only[aj,beq_iff_eq,dC] at hcond;obtain⟨rfl,hmid⟩:=hcond;obtain⟨hroom,hk⟩:=dA hk;simp only[bU,dE,hb,aa] at h2;have hidlt:=hinv.low id _ hb;have hne:nx≠id:=by omega
        have hrd:∀ n∈rdl,aG (kg id|||m) (ow n)=ajp:=λn hn=>by
         obtain⟨i,rfl,hm⟩:=h6 n hn;rw[dz,bf,hm];simp
        generalize hh':(h.set id (ajn (.dead p T.size (af xs0)))).set nx (ajn (.rows ty' p T (xs0++J)))=h' at hk;have hrA:bZ h (h.set id (ajn (.dead p T.size (af xs0)))):=bZ.set λr hr=>by rw[bD,hb] at hr;exact hr
        have hg2:∀ i,h'.get i=if i=nx then ajn (.rows ty' p T (xs0++J)) else if i=id then ajn (.dead p T.size (af xs0)) else h.get i:=λi=>by rw[<- hh',PT.get_set,PT.get_set]
        have hr:bZ h h':=by
         rw[<- hh'];refine hrA.trans (bZ.set λr hr=>?_);rw[bD,PT.get_set,if_neg hne,hfr] at hr;cases hr
        have hinv':kU h' (nx+1):=by
         refine ⟨λi ty l hil=>?_,λi c hic=>?_⟩
         ·rw[hg2] at hil;split at hil
          ·cases hil
          ·split at hil
           ·cases hil
           ·exact hX hr l (hinv.cells i ty l hil)
         ·rw[hg2] at hic;split at hic
          ·omega
          ·split at hic
           ·omega
           ·have:=hinv.low i c hic;omega
        have hsame:∀ n,n≠nm nx->n≠nm id->bi h' n=bi h n:=λn h1 h2=>jQ hinv hr λi e=>by
         subst e;rw[hg2,if_neg (λe=>h1 (by rw[e])),if_neg (λe=>h2 (by rw[e]))]
        have hdead:bi h' (nm id)=ajo:=by rw[bt,hg2,if_neg (by omega),if_pos rfl];rfl
        have hnew:bi h' (nm nx)=if p&&(xs0++J).length==0 then ajo else ajn ⟨ty',.fz ((xs0++J).flatMap (bC T))⟩:=by rw[bt,hg2,if_pos rfl];rfl
        have hval:bU h' (.row nx)=ajn (eo p nx T.size (xs0++J).length):=by simp only[bU,bD,hg2,if_true,aA,lE]
        have hwm:∀ n,n=nm nx\/n=nm id->aG (kg id|||kg nx) (ow n)=ajp:=λn hn=>by
         rcases hn with rfl|rfl<;>rw[dz,bf,bK.2 rfl]<;>simp
        refine ⟨_,_,_,_,_,hk,?_⟩;by_cases hp:(p&&xs0.length==0)=ajp
        ·
         have hyb:yb= .emp:=by rw[<- h2];unfold eo;rw[if_pos hp]
         subst hyb;simp only[aj,beq_iff_eq] at hp;obtain⟨rfl,hl0⟩:=hp;have hnil:xs0=[]:=fK.1 hl0;subst hnil;have hroom':aT (af J) bytes=ajp:=by simpa using hroom
         have I:dO (.app ty' T.size bytes s x) (Js e h) H (nm nx)=if af J==0 then ajn ⟨.emp,rdl,[],[],[]⟩ else ajn ⟨.row (nm nx) T.size (af J),rdl,[nm nx],[(nm nx,⟨ty',oo ((J.flatMap (bC T)).map .f)⟩)],[nm nx]⟩:=by
          simp only[dO,h1,h3,h5,Hb,hroom',jM,if_true]
         have hdead0:bi h (nm id)=ajo:=by rw[bt,hb];rfl
         by_cases hl:af J=0
         ·rw[hl] at I;simp only[beq_self_eq_true,if_true] at I;have hnil:J=[]:=fK.1 hl;subst hnil;refine iy.mk' hc hH I [] (by simp) (λn _=>?_) (by simp) (λH1 H2 d _ _ _=>⟨by simp,λy M=>?_⟩) hrd (by simp) (by simp) hr hinv' (by omega)
          ·by_cases hn:n=nm nx
           ·subst hn;rw[hnew,bt,hfr];rfl
           ·by_cases hn2:n=nm id
            ·subst hn2;rw[hdead,hdead0]
            ·exact hsame n hn hn2
          ·rw[hval] at M;simp only[eo,kF,je,beq_self_eq_true,jM,if_true,aa] at M;subst M;exact kG.refl d _
         ·rw[if_neg (by simpa using hl),Bo] at I;refine iy.mk' hc hH I [nm nx] (λi hi=>hi) (λn hn=>?_) (λi hi b' _=>⟨_,by rw[if_pos hi];simp only[aF] at hi;subst hi;exact gw _ _⟩) (λH1 H2 d hw1 _ hw2=>⟨λi hi b b' Y U=>?_,λy M=>?_⟩) hrd (λn hn=>hwm n (.inl (by simpa using hn))) (λn hn=>by simp only[aF] at hn;subst hn;rw[dz];omega) hr hinv' (by omega)
          ·have hn1:n≠nm nx:=by simpa using hn
           by_cases hn2:n=nm id
           ·subst hn2;rw[hdead,hdead0]
           ·exact hsame n hn1 hn2
          ·simp only[aF] at hi;subst hi;rw[hw1 _ (by simp),gw] at Y;rw[hw2 _ (by simp),hnew,if_neg (by simpa using hl)] at U;simp only[aa,kE] at Y U;subst Y;subst U;exact jz.refl d _
          ·rw[hval] at M;simp only[eo,kE] at M;rw[if_neg (by simpa using hl)] at M;simp only[aa] at M;subst M;exact kG.refl d _
        ·have hyb:yb= .row (nm id) T.size xs0.length:=by rw[<- h2];unfold eo;rw[if_neg hp]
         subst hyb;have hg:H.get (nm id)=ajn ⟨ty',.fz (xs0.flatMap (bC T))⟩:=by rw[hH,bt,hb];simp only[aA,jR,if_neg hp]
         have fl:=eA (bl T) xs0;have tk:(xs0.flatMap (bC T)).take (xs0.length*T.size)=xs0.flatMap (bC T):=by rw[<- fl,cz]
         have hmem:Vu (nm id) rdl=ajq:=by
          cases hx:Vu (nm id) rdl with
          |false=>rfl
          |true=>
           obtain⟨i,e,hm⟩:=h6 _ (ae2.1 hx);rw[<- jU e,hmid] at hm;cases hm
         have I:dO (.app ty' T.size bytes s x) (Js e h) H (nm nx)=ajn ⟨.row (nm nx) T.size (xs0.length+J.length),nm id::rdl,[nm nx,nm id],[(nm nx,⟨ty',.fz ((xs0++J).flatMap (bC T))⟩)],[nm nx]⟩:=by
          have hcnd:(T.size==T.size&& !(Vu (nm id) rdl)&&(BC.fz (xs0.flatMap (bC T))).isCells&&dJ (xs0.length*T.size) (BC.fz (xs0.flatMap (bC T))).len&&ty'==ty'&&aT (xs0.length+J.length) bytes)=ajp:=by
           have:dJ (xs0.length*T.size) (BC.fz (xs0.flatMap (bC T))).len=ajp:=bp (by simp only[BC.len];omega);rw[this,hmem,hroom];simp[BC.isCells]
          simp only[dO,h1,h3,h5,hg,hcnd,if_true,BC.toMx,<-jL,tk,<-ct,Bo,List.flatMap_append]
         have hne2:¬((p&&(xs0++J).length==0)=ajp):=by
          simp only[aj,beq_iff_eq,bg] at hp ⊢;intro hh;exact hp ⟨hh.1,by omega⟩
         refine iy.mk' hc hH I [nm nx,nm id] (λi hi=>hi) (λn hn=>?_) (λi hi b' Z=>?_) (λH1 H2 d hw1 _ hw2=>⟨λi hi b b' Y U=>?_,λy M=>?_⟩) (λn hn=>?_) (λn hn=>hwm n (by simpa using hn)) (λn hn=>by simp only[aF] at hn;subst hn;rw[dz];omega) hr hinv' (by omega)
         ·simp only[bc,bY,or_false,not_or] at hn;exact hsame n hn.1 hn.2
         ·simp only[bc,bY,or_false] at hi;rcases hi with rfl|rfl
          ·exact⟨_,by rw[if_pos (by simp)];exact gw _ _⟩
          ·rw[hdead] at Z;cases Z
         ·simp only[bc,bY,or_false] at hi;rcases hi with rfl|rfl
          ·rw[hw1 _ (by simp),gw] at Y;rw[hw2 _ (by simp),hnew,if_neg hne2] at U;simp only[aa] at Y U;subst Y;subst U;exact jz.refl d _
          ·rw[hw2 _ (by simp),hdead] at U;cases U
         ·rw[hval] at M;simp only[eo] at M;rw[if_neg hne2] at M;simp only[bg,aa] at M;subst M;exact kG.refl d _
         ·rcases bc.1 hn with rfl|hn
          ·rw[dz,bf,bK.2 rfl];rfl
          ·exact hrd n hn
       ·cases hk
      ·cases hk
     ·cases hk
    ·obtain⟨hroom,hk⟩:=dA hk;simp only[bU,aa] at h2;subst h2;exact⟨_,_,_,_,_,hk,onEmp m (λn hn=>by obtain⟨i,rfl,hm⟩:=h6 n hn;rw[dz];exact hm) rfl (Le.refl _) hroom⟩
    ·obtain⟨hroom,hk⟩:=dA hk;simp only[bU,aa] at h2;subst h2;exact⟨_,_,_,_,_,hk,onEmp m (λn hn=>by obtain⟨i,rfl,hm⟩:=h6 n hn;rw[dz];exact hm) rfl Le.nilEmp hroom⟩
    ·cases hk
   ·cases hk
  ·cases hk
 ·cases hk
theorem YQ {T:Ty} (xs I:List T.den):(Re xs I).flatMap (bC T)=AI.splice (xs.flatMap (bC T)) 0 ((I.flatMap (bC T)).take (gY I.length xs.length*T.size)):=by
 have _:=hinv;have _:=hi;have fl:=λJ:List T.den=>eA (bl T) J
 have tk:∀ (J:List T.den) n,(J.flatMap (bC T)).take (n*T.size)=(J.take n).flatMap (bC T):=by
  intro J;induction J with
  |nil=>intro n;simp
  |cons z r M=>
   intro n;cases n with
   |zero=>simp
   |succ n=>rw[eE,uw,eE,gX,List.take_append,bl,eT (by rw[bl];omega),show n*T.size+T.size-T.size=n*T.size from by omega,M n]
 have U:∀ (J:List T.den) n,(J.flatMap (bC T)).drop (n*T.size)=(J.drop n).flatMap (bC T):=by
  intro J;induction J with
  |nil=>intro n;simp
  |cons z r M=>
   intro n;cases n with
   |zero=>simp
   |succ n=>rw[eE,ux,gX,tD,bl,qr (by rw[bl];omega),show n*T.size+T.size-T.size=n*T.size from by omega,M n,kE]
 unfold Re AI.splice;rw[tk,List.flatMap_append,fl,bm];have e1:I.take (gY I.length xs.length)=I.take xs.length:=by
  rcases Nat.le_total I.length xs.length with h|h
  ·rw[show gY I.length xs.length=I.length from qV h,cz,eT h]
  ·rw[show gY I.length xs.length=xs.length from Nat.min_eq_right h]
 rw[e1];have e2:min (gY I.length xs.length) I.length=gY I.length xs.length:=qV (Nat.min_le_left _ _);rw[e2];simp only[List.take_zero,kE,bz];rw[U];congr 1;rcases Nat.le_total I.length xs.length with h|h
 ·rw[show gY I.length xs.length=I.length from qV h]
 ·rw[show gY I.length xs.length=xs.length from Nat.min_eq_right h,List.drop_length,qr h]
theorem agb {con:FuncId->Option bW} {bL:TypeId->Option Ty} {sz:Nat} {d x:Operand} (hc:cL P o.op=ajn (.copy sz d x)) (hk:dj con bL (.op (.copy sz d x)) e h nx K=ajn r):jS P o ajq e h nx K r:=by
 obtain⟨H,Z⟩:=iT h;simp only[dj] at hk;split at hk
 ·rename_i id y hv U;split at hk
  ·rename_i ty p T xs hb;split at hk
   ·rename_i hs;have hs:=ak hs;subst hs;split at hk
    ·rename_i I m hys;split at hk
     ·rename_i hcond;simp only[aj,dC] at hcond;obtain⟨hmid,rfl⟩:=hcond;obtain⟨yb,h1,h2⟩:=bu hi hv;obtain⟨yy,h3,h4⟩:=bu hi U;obtain⟨rdl,h5,h6⟩:=Ue Z hys h4;simp only[bU,dE,hb,eo,mn,b8,if_false,aa] at h2;subst h2;have fl:=eA (bl T) xs;have fl2:=eA (bl T) I;have hg:H.get (nm id)=ajn ⟨ty,.fz (xs.flatMap (bC T))⟩:=by rw[Z,bt,hb];simp[jR]
      have hmem:Vu (nm id) rdl=ajq:=by
       cases J:Vu (nm id) rdl with
       |false=>rfl
       |true=>
        obtain⟨i,e,hm⟩:=h6 _ (ae2.1 J);rw[<- jU e,hmid] at hm;cases hm
      have hle:gY I.length xs.length*T.size<=xs.length*T.size:=cf _ (Nat.min_le_right _ _);have Y:dO (.copy T.size d x) (Js e h) H (nm nx)=ajn ⟨raw (.int .i64 (gY I.length xs.length)),nm id::rdl,[nm id],[(nm id,⟨ty,.fz ((Re xs I).flatMap (bC T))⟩)],[]⟩:=by
       have hcnd:(T.size==T.size&& !(Vu (nm id) rdl)&&dJ (xs.length*T.size) (BC.fz (xs.flatMap (bC T))).len)=ajp:=by
        have:dJ (xs.length*T.size) (BC.fz (xs.flatMap (bC T))).len=ajp:=bp (by simp only[BC.len];omega);rw[this,hmem];simp
       have hput:(BC.fz (xs.flatMap (bC T))).put 0 (((I.flatMap (bC T)).map .f).take (gY I.length xs.length*T.size))=ajn (.fz ((Re xs I).flatMap (bC T))):=by
        rw[<- jL];unfold BC.put;rw[if_pos]
        ·simp only[I2];rw[YQ hinv hi]
        ·simp only[aj];refine ⟨⟨rfl,bp ?_⟩,?_⟩
         ·simp only[BC.len,bV,bm];omega
         ·have:∀ l:List FV,(∀ x∈l,x.isCell=ajp)->fJ (l.map .f)=ajp:=by
           intro l hl;induction l with
           |nil=>rfl
           |cons z r ih=>simp only[ff,fJ,aj];exact⟨hl z (by simp),ih λx J=>hl x (by simp[J])⟩
          exact this _ λx J=>qj T I x (ir J)
       simp only[dO,h1,h3,hg,h5,hcnd,if_true,hput]
      have hrow:lE (.rows ty ajq T (Re xs I))=lE (.rows ty ajq T xs):=by
       have:(Re xs I).length=xs.length:=by unfold Re;rw[bg,bm,lA];omega
       simp only[lE,this]
      have key:=iy.wrt (m:=0) (v:=.f (.int .i64) (aJ (gY (af I) (af xs)))) (rd:=kg id|||m) hinv hc Z Y (B:=.rows ty ajq T (Re xs I)) hb (dl.zero h) (by simp) hrow (λ_ _ he=>by cases he) (λH1 H2 d g b' M=>by
       simp only[jR,mn,b8,if_false,aa] at M;subst M;exact jz.refl d _) (λH1 H2 y d g hy=>by
       simp only[bU,aa] at hy;subst hy;exact kG.refl d _) (λn hn=>by
       rcases bc.1 hn with rfl|hn
       ·rw[dz,bf,bK.2 rfl];rfl
       ·obtain⟨i,rfl,hm⟩:=h6 n hn;rw[dz,bf,hm];simp)
      rw[CE] at key;exact⟨_,_,_,_,_,hk,key⟩
     ·cases hk
    ·cases hk
   ·cases hk
  ·cases hk
 ·cases hk
theorem ac4 {con:FuncId->Option bW} {bL:TypeId->Option Ty} {sz:Nat} {x v:Operand} (hc:cL P o.op=ajn (.store sz x v)) (hk:dj con bL (.op (.store sz x v)) e h nx K=ajn r):jS P o ajq e h nx K r:=by
 obtain⟨H,hH⟩:=iT h;simp only[dj] at hk;split at hk
 ·rename_i id off y hv Y;obtain⟨yb,h1,h2⟩:=bu hi hv;obtain⟨I,h3,h4⟩:=bu hi Y;simp only[bU,aa] at h2;subst h2;split at hk
  ·rename_i ty l hb;split at hk
   ·rename_i cs hcs;split at hk
    ·rename_i hcond;simp only[aj,beq_iff_eq] at hcond;obtain⟨h5,h6⟩:=Ly hcs h4;obtain⟨l',hl⟩:=eJ h l (hinv.cells id ty l hb);have hg:H.get (nm id)=ajn ⟨ty,.mx l'⟩:=by rw[hH,bt,hb];simp only[aA,jR,hl]
     have hcell:=rR h5 h6;have hlen:I.cs.length=sz:=by rw[iD h5];exact hcond.1
     have hput:(BC.mx l').put off I.cs=ajn (.mx (splice l' off I.cs)):=by
      unfold BC.put;rw[if_pos]
      ·rfl
      ·simp only[aj];exact⟨⟨rfl,by simp only[BC.len];rw[hlen,iD hl];exact hcond.2⟩,hcell⟩
     have Z:dO (.store sz x v) (Js e h) H (nm nx)=ajn ⟨raw undef,[nm id],[nm id],[(nm id,⟨ty,.mx (splice l' off I.cs)⟩)],[]⟩:=by
      simp only[dO,h1,h3,Ng,hg,hlen,beq_self_eq_true,if_true,hput]
     have hspl:∀ h',bZ h h'->cj h' (splice l off cs)=ajn (splice l' off I.cs):=λh' hr=>tQ off (ic hr l l' hl) (ic hr cs _ h5)
     have hr1:bZ h (h.set id (ajn (.cells ty (splice l off cs)))):=bZ.set λr hr=>by rw[bD,hb] at hr;cases hr
     have key:=iy.wrt (m:=0) (v:=.undef) (rd:=kg id) hinv hc hH Z (B:=.cells ty (splice l off cs)) hb (dl.zero h) (by simp) rfl (λty' l2 he=>by cases he;exact kz _ _ _ (hspl _ hr1)) (λU M d g b' J=>by
      have:=hspl _ hr1;simp only[dM,tu,if_true,jR,this,aa] at J;subst J;exact jz.refl d _) (λU M y d g hy=>by
      simp only[bU,aa] at hy;subst hy;exact kG.refl d _) (λn hn=>by simp only[aF] at hn;subst hn;rw[dz];exact bK.2 rfl)
     rw[CE] at key;exact⟨_,_,_,_,_,hk,key⟩
    ·cases hk
   ·cases hk
  ·cases hk
 ·rename_i id sz' j off y hv Y;obtain⟨yb,h1,h2⟩:=bu hi hv;obtain⟨I,h3,h4⟩:=bu hi Y;simp only[bU,aa] at h2;subst h2;split at hk
  ·rename_i ty p T xs hb;split at hk
   ·rename_i hsz;have hsz:=ak hsz;subst hsz;obtain⟨hj,hk⟩:=dA hk;split at hk
    ·rename_i z m hset;split at hk
     ·cases hk
     ·rename_i hmid;have hmid:aG m id=ajq:=by simpa using hmid
      have hm:=ym 40 T _ off sz z m hset;obtain⟨j0,j1,j2⟩:=Hc hj;have hne:¬((p&&xs.length==0)=ajp):=by simp only[aj,beq_iff_eq];omega
      have hne2:¬((p&&(cw xs j z).length==0)=ajp):=by unfold cw;rw[qW];exact hne
      have hg:H.get (nm id)=ajn ⟨ty,.fz (xs.flatMap (bC T))⟩:=by rw[hH,bt,hb];simp only[aA,jR,if_neg hne]
      have fl:=eA (bl T) xs;have hx:xs[j.toNat]? =ajn (aD xs j):=by
       unfold aD;rw[au,ar j2];rfl
      have hle:(j.toNat+1)*T.size<=xs.length*T.size:=cf _ j2;rw[gX] at hle;have hso:∀ U M,tZ U M->CH h U M m->Va U M I T (aD xs j) z off sz:=λU M d g=>uC d h4 40 T _ off sz z m hset g
      have hshape:I.cs.length=sz/\off+sz<=T.size/\fJ I.cs=ajp:=by
       have d0:tZ (bi h) (bi (dM m h)):=λi b hb=>by
        obtain⟨i',c,rfl,g1,g2⟩:=iG hb;rw[ib] at g1;by_cases ht:aG m i'=ajp
        ·obtain⟨pp,ss,nn,g3⟩:=r9 hm ht;rw[ib] at g3;rw[g3] at g1;cases g1;cases g2
        ·rw[if_neg ht] at g1;exact⟨b,by rw[bt,g1];simp only[aA];rw[<- HP (bZ.kill m h) (λty l e=>hinv.cells i' ty l (by rw[g1,e]))];exact g2⟩
       obtain⟨fs,q1,q2,q3,q4,q5⟩:=hso _ _ d0 (λi hi=>⟨rfl,by
        obtain⟨pp,ss,nn,g3⟩:=r9 hm hi;rw[bt,g3];rfl⟩)
       refine ⟨by rw[<- q2,<-bV (f:=AV.f),q1.length],q3,?_⟩;exact pP h4 40 T _ off sz z m hset
      obtain⟨hlen,hoff,hcell⟩:=hshape;obtain⟨c',hput,hc1,hc2⟩:∃ c',(BC.fz (xs.flatMap (bC T))).put (j.toNat*T.size+off) I.cs=ajn c'/\c'.toMx=splice ((xs.flatMap (bC T)).map .f) (j.toNat*T.size+off) I.cs/\c'.isCells=ajp:=by
       unfold BC.put;rw[if_pos]
       ·split
        ·rename_i l ys hl hys;simp only[BC.fz.injEq] at hl;subst hl;refine ⟨_,rfl,?_,rfl⟩;rw[oG hys];simp only[BC.toMx];unfold splice;simp[jL,List.map_drop]
        ·exact⟨_,rfl,rfl,rfl⟩
       ·simp only[aj];exact⟨⟨rfl,bp (by simp only[BC.len];omega)⟩,hcell⟩
      have Z:dO (.store sz x v) (Js e h) H (nm nx)=ajn ⟨raw undef,[nm id],[nm id],[(nm id,⟨ty,c'⟩)],[]⟩:=by
       simp only[dO,h1,h3,Ng,hg,hlen,beq_self_eq_true,if_true,hput]
      have hrow:lE (.rows ty p T (cw xs j z))=lE (.rows ty p T xs):=by
       unfold cw;simp only[lE,qW]
      refine ⟨_,_,_,_,_,hk,iy.wrt hinv hc hH Z (B:=.rows ty p T (cw xs j z)) hb hm hmid hrow (λ_ _ he=>by cases he) (λU M d g b' J=>?_) (λU M y d g hy=>?_) (λn hn=>?_)⟩
      ·simp only[jR,if_neg hne2,aa] at J;subst J;obtain⟨fs,q1,q2,q3,q4,q5⟩:=hso U M d g;have hfl:(cw xs j z).flatMap (bC T)=AI.splice (xs.flatMap (bC T)) (j.toNat*T.size+off) fs:=Pb (bl T) xs j.toNat _ z hx off fs (by omega) q4;refine jz.cells hc2 rfl ?_ λx hx=>?_
       ·rw[hc1];simp only[BC.toMx];rw[hfl];have:(AI.splice (xs.flatMap (bC T)) (j.toNat*T.size+off) fs).map AV.f=AI.splice ((xs.flatMap (bC T)).map .f) (j.toNat*T.size+off) (fs.map .f):=by unfold AI.splice;simp[jL,List.map_drop]
        rw[this];exact (gr.refl d _).splice _ q1
       ·simp only[BC.toMx] at hx;obtain⟨q,hq,rfl⟩:=cO.1 hx;exact qj T _ q hq
      ·simp only[bU,aa] at hy;subst hy;exact kG.refl d _
      ·simp only[aF] at hn;subst hn;rw[dz,bf,bK.2 rfl];simp
    ·cases hk
   ·cases hk
  ·cases hk
 ·cases hk
theorem ag6 {con:FuncId->Option bW} {bL:TypeId->Option Ty} {ty:TypeId} {sz bytes:Nat} {z:List Value} {l c:Operand} (hc:cL P o.op=ajn (.mksl ty sz bytes z l c)) (hk:dj con bL (.op (.mksl ty sz bytes z l c)) e h nx K=ajn r):jS P o ajq e h nx K r:=by
 cases hcm:Cl (bL ty) with
 |none=>exact ac5 hinv hi hcm hc hk
 |some n=>
  obtain⟨H,hH⟩:=iT h;simp only[dj,hcm] at hk;split at hk
  ·rename_i zc k a k' b J hv M;obtain⟨hck,hk⟩:=dA hk;rw[aj] at hck;obtain⟨hcond,hn⟩:=hck;have hn:=of_decide_eq_true hn;obtain⟨y,h1,Z⟩:=bu hi hv;obtain⟨y2,h3,Y⟩:=bu hi M;simp only[bU,aa] at Z Y;subst Z;subst Y;have han:aL a=n:=by rw[hn];rfl
   obtain⟨_,_,hzc⟩:=tW h J;refine ⟨_,_,_,_,_,hk,iy.new hinv hc hH (y0:=.row (nm nx) sz n) (rdl:=[]) (b0:=⟨ty,.fz (repl z n)⟩) (by simp only[dO,h1,h3,fM,hcond,if_true,han]) (dl.zero h) (λty' l' he=>?_) (λH1 H2 d g b' I=>?_) (λH1 H2 y d g U=>?_) (by simp)⟩
   ·cases he;exact kz _ _ _ (KK _ J n)
   ·simp only[jR,KK _ J n,aa] at I;subst I;refine jz.cells rfl rfl (gr.refl d _) λx hx=>?_
    exact kB (rR (KK h J n) (DK hzc n)) x hx
   ·simp only[bU,aa] at U;subst U;exact kG.refl d _
  ·cases hk
theorem ajc {con:FuncId->Option bW} {bL:TypeId->Option Ty} {ty:TypeId} {sz len:Nat} {z:List Value} {parts:List (Nat×Nat×Operand)} (hc:cL P o.op=ajn (.bsl ty sz len z parts)) (hk:dj con bL (.op (.bsl ty sz len z parts)) e h nx K=ajn r):jS P o ajq e h nx K r:=by
 cases hcm:Cl (bL ty) with
 |none=>exact agd hinv hi hcm hc hk
 |some n=>
  obtain⟨H,hH⟩:=iT h;simp only[dj,hcm] at hk;split at hk
  ·rename_i zc M;split at hk
   ·rename_i cs hf;split at hk
    ·cases hk
    ·rename_i hl;have hl:len≠0:=λe=>hl (by rw[e];rfl)
     obtain⟨cs',h1,Y,h3⟩:=BN hi parts _ cs _ hf (KK h M len);obtain⟨_,_,hzc⟩:=tW h M;have hcs:=h3 (DK hzc len);have hr:bZ h ((dM 0 h).set nx (ajn (.cells ty cs))):=(bZ.kill 0 h).trans (bZ.set λr hr=>by rw[bD,(hinv.kill 0).fresh] at hr;cases hr);have J:=ic hr _ _ Y;refine ⟨_,_,_,_,_,hk,iy.new hinv hc hH (y0:=.row (nm nx) sz len) (rdl:=[]) (b0:=⟨ty,oo cs'⟩) (by simp only[dO,h1,if_neg hl]) (dl.zero h) (λty' l' he=>?_) (λH1 H2 d g b' I=>?_) (λH1 H2 y d g U=>?_) (by simp)⟩
     ·cases he;exact kz _ _ _ J
     ·simp only[jR,J,aa] at I;subst I;obtain⟨q1,Z⟩:=mE cs';refine jz.cells Z rfl ?_ λx hx=>?_
      ·rw[q1];exact gr.refl d _
      ·exact kB (rR Y hcs) x hx
     ·simp only[bU,aa] at U;subst U;exact kG.refl d _
   ·cases hk
  ·cases hk
theorem ajf {con:FuncId->Option bW} {bL:TypeId->Option Ty} {ty:TypeId} {sz bytes:Nat} {s x:Operand} (hc:cL P o.op=ajn (.app ty sz bytes s x)) (hk:dj con bL (.op (.app ty sz bytes s x)) e h nx K=ajn r):jS P o ajq e h nx K r:=by
 cases hcm:Cl (bL ty) with
 |none=>exact age hinv hi hcm hc hk
 |some n0=>
  obtain⟨H,hH⟩:=iT h;have hfr:=hinv.fresh;simp only[dj,hcm] at hk;split at hk
  ·rename_i b y hv hv2;obtain⟨yb,h1,h2⟩:=bu hi hv;obtain⟨yy,h3,h4⟩:=bu hi hv2;unfold acz at hk;split at hk
   ·rename_i id2 sz2 m;simp only[bU,aa] at h4;subst h4;split at hk
    ·rename_i ty2 l2 I;split at hk
     ·rename_i hq;simp only[aj,dC] at hq;obtain⟨⟨q1,q2⟩,q3⟩:=hq;have q1:=ak q1;have q2:=ak q2;have q3:m≠0:=λe=>by rw[e] at q3;cases q3
      subst q1;obtain⟨J,Z⟩:=eJ h l2 (hinv.cells id2 ty2 l2 I);have hrow:=aaw hH I Z q2;split at hk
      ·rename_i id sz1 n;simp only[bU,aa] at h2;subst h2;split at hk
       ·rename_i ty1 l1 U;split at hk
        ·rename_i hq;simp only[aj,dC] at hq;obtain⟨⟨⟨p1,p2⟩,p3⟩,p4⟩:=hq;have p1:=ak p1;have p2:=eq_of_beq p2;have p3:=ak p3;have p4:id≠id2:=λe=>by rw[e,tu] at p4;cases p4
         subst p1;subst p2;obtain⟨hroom,hk⟩:=dA hk;obtain⟨M,hl1⟩:=eJ h l1 (hinv.cells id _ l1 U);have hln:=iD hl1;have hg:H.get (nm id)=ajn ⟨ty1,.mx M⟩:=by rw[hH,bt,U];simp only[aA,jR,hl1]
         have hidlt:id<nx:=hinv.low id _ U;generalize hB:gC.cells ty1 (l1++l2)=B at hk;have hd1:bZ h (h.set id (ajn (.dead ajp 0 0))):=bZ.set λr hr=>by rw[bD,U] at hr;cases hr
         have hd2:bZ (h.set id (ajn (.dead ajp 0 0))) ((h.set id (ajn (.dead ajp 0 0))).set nx (ajn B)):=bZ.set λr hr=>by
          rw[bD,PT.get_set,if_neg (by omega),hfr] at hr;cases hr
         have hr:=hd1.trans hd2;have hsp:cj ((h.set id (ajn (.dead ajp 0 0))).set nx (ajn B)) (l1++l2)=ajn (M++J):=ic hr _ _ (mg hl1 Z);have Y:bi ((h.set id (ajn (.dead ajp 0 0))).set nx (ajn B)) (nm nx)=ajn ⟨ty1,.mx (M++J)⟩:=by rw[bt,PT.get_set,if_pos rfl,<-hB] at *;simp only[aA,jR,hsp]
         have hbd:bi ((h.set id (ajn (.dead ajp 0 0))).set nx (ajn B)) (nm id)=ajo:=by rw[bt,PT.get_set,if_neg (by omega),PT.get_set,if_pos rfl];rfl
         have hinv1:kU (h.set id (ajn (.dead ajp 0 0))) nx:=hinv.set hd1 hidlt (bF _) (λ_ _ he=>by cases he);have ha:dO (.app ty1 sz1 bytes s x) (Js e h) H (nm nx)=ajn ⟨.row (nm nx) sz1 (n+m),[nm id,nm id2],[nm nx,nm id],[(nm nx,⟨ty1,oo (M++J)⟩)],[nm nx]⟩:=by
          simp only[dO,h1,h3,hrow,hg];rw[if_pos (by
           simp only[beq_self_eq_true,oy,Bool.and_true,BC.isCells,BC.len,hroom,aj,dC];refine ⟨?_,bp (by omega)⟩;simp only[Vu,Bool.or_false];cases hq:av (nm id2) (nm id) with
           |false=>rfl
           |true=>exact absurd (jU (ak hq)).symm p4)]
          simp only[BC.toMx,eT (show M.length<=n*sz1 by omega)]
         refine ⟨_,_,_,_,_,hk,iy.mk' hc hH ha [nm nx,nm id] (λi hi=>hi) (λq hq=>?_) (λi hi b' hbb=>?_) (λH1 H2 d hw1 _ hw2=>⟨λi hi b b' hb I=>?_,λy hy=>?_⟩) (λq hq=>?_) (λq hq=>?_) (λq hq=>?_) hr (hinv1.set hd2 (by omega) (by omega) λty' l' he=>?_) (by omega)⟩
         ·simp only[bc,bY,or_false,not_or] at hq;refine jQ hinv hr λi ei=>?_
          subst ei;rw[PT.get_set,if_neg (λe=>hq.1 (by rw[e])),PT.get_set,if_neg (λe=>hq.2 (by rw[e]))]
         ·simp only[bc,bY,or_false] at hi;rcases hi with rfl|rfl
          ·rw[if_pos (by simp)];exact⟨_,gw _ _⟩
          ·rw[hbd] at hbb;cases hbb
         ·simp only[bc,bY,or_false] at hi;rcases hi with rfl|rfl
          ·rw[hw1 _ (by simp),gw] at hb;rw[hw2 _ (by simp),Y] at I;simp only[aa] at hb I;subst hb;subst I;obtain⟨m1,m2⟩:=mE (M++J);exact jz.eq d m2 rfl m1
          ·rw[hw2 _ (by simp),hbd] at I;cases I
         ·simp only[bU,aa] at hy;subst hy;exact kG.refl d _
         ·simp only[bc,bY,or_false] at hq;rw[bf,hP];rcases hq with rfl|rfl
          ·rw[dz];exact .inl (bK.2 rfl)
          ·rw[dz];exact .inr (bK.2 rfl)
         ·simp only[bc,bY,or_false] at hq;rw[bf,hP];rcases hq with rfl|rfl
          ·rw[dz];exact .inr (bK.2 rfl)
          ·rw[dz];exact .inl (bK.2 rfl)
         ·simp only[aF] at hq;subst hq;rw[dz];omega
         ·rw[<- hB] at he;cases he;exact kz _ _ _ hsp
        ·cases hk
       ·cases hk
      ·simp only[bU,aa] at h2;subst h2;obtain⟨hroom,hk⟩:=dA hk;have hr:bZ h ((dM 0 h).set nx (ajn (.cells ty l2))):=(bZ.kill 0 h).trans (bZ.set λr hr=>by rw[bD,(hinv.kill 0).fresh] at hr;cases hr);have h2':=ic hr _ _ Z;refine ⟨_,_,_,_,_,hk,iy.new hinv hc hH (y0:=.row (nm nx) sz2 m) (rdl:=[nm id2]) (b0:=⟨ty,oo J⟩) (by simp only[dO,h1,h3,hrow];simp[Hb,yz,hroom,q3]) (dl.zero h) (λty' l' he=>?_) (λH1 H2 d g b' Y=>?_) (λH1 H2 y d g hy=>?_) (λn hn=>?_)⟩
       ·cases he;exact kz _ _ _ h2'
       ·simp only[jR,h2',aa] at Y;subst Y;obtain⟨p1,p2⟩:=mE J;exact jz.eq d p2 rfl p1
       ·simp only[bU,aa] at hy;subst hy;exact kG.refl d _
       ·simp only[aF] at hn;subst hn;rw[dz];exact bK.2 rfl
      ·cases hk
     ·cases hk
    ·cases hk
   ·cases hk
  ·cases hk
theorem ais {con:FuncId->Option bW} {bL:TypeId->Option Ty} {sz:Nat} {x:Operand} {lo hi' mx:Option Operand} (hc:cL P o.op=ajn (.slc sz x lo hi' mx)) (hk:dj con bL (.op (.slc sz x lo hi' mx)) e h nx K=ajn r):jS P o ajq e h nx K r:=by
 have hfr:=hinv.fresh;simp only[dj] at hk;split at hk
 ·rename_i v hv;obtain⟨y,h1,Y⟩:=bu hi hv;split at hk
  ·split at hk
   ·rename_i hn;obtain⟨n,hn⟩:=gR.1 hn;have Z:=Oo hn Y;exact jS.q (k:=0) hinv hc (λH _=>by simp only[dO,h1,Z,Option.isSome_some,if_true]) (cP rfl) hk
   ·cases hk
  ·rename_i b;split at hk
   ·rename_i T xs k j hb;obtain⟨y2,Z,U⟩:=bu hi hb;simp only[bU,aa] at Y U;subst Y;subst U;split at hk
    ·rename_i hs;have hs:=ak hs;subst hs;obtain⟨hj,hk⟩:=dA hk;have hfl:=eA (bl T) xs;have hcond:(cD 0 j&&cD j (af xs)&&dJ (af xs*T.size) (xs.flatMap (bC T)).length)=ajp:=by
      rw[hj,oy];exact bp (by omega)
     simp only[cD,aj,decide_eq_true_eq] at hj;have hlen:(xs.take j.toNat).length=j.toNat:=by rw[bm];omega
     exact jS.q (k:=0) (y0:=.f (.sl ((xs.flatMap (bC T)).take (j.toNat*T.size)) j.toNat)) hinv hc (λH _=>by simp only[dO,h1,Z,fM,hcond,if_true]) (cP (by simp only[bU,fM];rw[yC (bl T),hlen])) hk
    ·cases hk
   ·rename_i id k j hb;obtain⟨y2,Z,U⟩:=bu hi hb;simp only[bU,aa] at U;subst U;split at hk
    ·rename_i ty p T xs I;split at hk
     ·rename_i hs;have hs:=ak hs;subst hs;obtain⟨hj,hk⟩:=dA hk;obtain⟨H,hH⟩:=iT h;have hj0:=hj;simp only[cD,eX,aj,decide_eq_true_eq] at hj;have hp:¬((p&&xs.length==0)=ajp):=by
       simp only[aj,beq_iff_eq];omega
      simp only[bU,bD,I,aA,lE,eo,if_neg hp,aa] at Y;subst Y;have hidlt:=hinv.low id _ I;have hne:nx≠id:=by omega
      have hg:H.get (nm id)=ajn ⟨ty,.fz (xs.flatMap (bC T))⟩:=by rw[hH,bt,I];simp only[aA,jR,if_neg hp]
      have fl:=eA (bl T) xs;have hcond:(T.size==T.size&&cD 0 j&&cD j (af xs))=ajp:=by
       simp only[cD,aj,decide_eq_true_eq,beq_self_eq_true,true_and];omega
      have hlen:(xs.take j.toNat).length=j.toNat:=by rw[bm];omega
      have ha0:dO (.slc T.size x ajo (ajn b) ajo) (Js e h) H (nm nx)=ajn ⟨.row (nm nx) T.size j.toNat,[nm id],[nm nx,nm id],[(nm nx,⟨ty,.fz ((xs.take j.toNat).flatMap (bC T))⟩)],[nm nx]⟩:=by
       have hc2:((BC.fz (xs.flatMap (bC T))).isCells&&dJ (af xs*T.size) (BC.fz (xs.flatMap (bC T))).len)=ajp:=by
        simp only[BC.isCells,oy,BC.len];exact bp (by omega)
       simp only[dO,h1,Z,fM,hcond,if_true,hg,hc2,BC.toMx,<-jL,Bo,yC (bl T)]
      generalize hh':(h.set id (ajn (.dead p T.size (af xs)))).set nx (ajn (.rows ty ajq T (db j.toNat xs)))=h' at hk;have hrA:bZ h (h.set id (ajn (.dead p T.size (af xs)))):=bZ.set λr hr=>by rw[bD,I] at hr;exact hr
      have J:∀ i,h'.get i=if i=nx then ajn (.rows ty ajq T (db j.toNat xs)) else if i=id then ajn (.dead p T.size (af xs)) else h.get i:=λi=>by rw[<- hh',PT.get_set,PT.get_set]
      have hr:bZ h h':=by
       rw[<- hh'];refine hrA.trans (bZ.set λr hr=>?_);rw[bD,PT.get_set,if_neg hne,hfr] at hr;cases hr
      have hinv':kU h' (nx+1):=by
       refine ⟨λi ty l hil=>?_,λi c hic=>?_⟩
       ·rw[J] at hil;split at hil
        ·cases hil
        ·split at hil
         ·cases hil
         ·exact hX hr l (hinv.cells i ty l hil)
       ·rw[J] at hic;split at hic
        ·omega
        ·split at hic
         ·omega
         ·have:=hinv.low i c hic;omega
      have hsame:∀ n,n≠nm nx->n≠nm id->bi h' n=bi h n:=λn h1 Y=>jQ hinv hr λi e=>by
       subst e;rw[J,if_neg (λe=>h1 (by rw[e])),if_neg (λe=>Y (by rw[e]))]
      have hdead:bi h' (nm id)=ajo:=by rw[bt,J,if_neg (by omega),if_pos rfl];rfl
      have hnew:bi h' (nm nx)=ajn ⟨ty,.fz ((xs.take j.toNat).flatMap (bC T))⟩:=by rw[bt,J,if_pos rfl];rfl
      have hval:bU h' (.row nx)=ajn (.row (nm nx) T.size j.toNat):=by simp only[bU,bD,J,if_true,aA,lE,eo,mn,b8,if_false,hlen]
      refine ⟨_,_,_,_,_,hk,?_⟩;refine iy.mk' hc hH ha0 [nm nx,nm id] (λi hi=>hi) (λn hn=>?_) (λi hi b' hb'=>?_) (λH1 H2 d hw1 _ hw2=>⟨λi hi b b' hb1 M=>?_,λy hy=>?_⟩) (λn hn=>?_) (λn hn=>?_) (λn hn=>by simp only[aF] at hn;subst hn;rw[dz];omega) hr hinv' (by omega)
      ·simp only[bc,bY,or_false,not_or] at hn;exact hsame n hn.1 hn.2
      ·simp only[bc,bY,or_false] at hi;rcases hi with rfl|rfl
       ·exact⟨_,by rw[if_pos (by simp)];exact gw _ _⟩
       ·rw[hdead] at hb';cases hb'
      ·simp only[bc,bY,or_false] at hi;rcases hi with rfl|rfl
       ·rw[hw1 _ (by simp),gw] at hb1;rw[hw2 _ (by simp),hnew] at M;simp only[aa] at hb1 M;subst hb1;subst M;exact jz.refl d _
       ·rw[hw2 _ (by simp),hdead] at M;cases M
      ·rw[hval] at hy;simp only[aa] at hy;subst hy;exact kG.refl d _
      ·simp only[aF] at hn;subst hn;rw[dz];exact bK.2 rfl
      ·simp only[bc,bY,or_false] at hn;rcases hn with rfl|rfl<;>rw[dz,bf,bK.2 rfl]<;>simp
     ·cases hk
    ·cases hk
   ·cases hk
  ·rename_i b;split at hk
   ·rename_i T xs k j hb;obtain⟨y2,Z,U⟩:=bu hi hb;simp only[bU,aa] at Y U;subst Y;subst U;split at hk
    ·rename_i hs;have hs:=ak hs;subst hs;obtain⟨hj,hk⟩:=dA hk;have hfl:=eA (bl T) xs;have hcond:(cD 0 j&&cD j (af xs)&&dJ (af xs*T.size) (xs.flatMap (bC T)).length)=ajp:=by
      rw[hj,oy];exact bp (by omega)
     simp only[cD,aj,decide_eq_true_eq] at hj;have hlen:(xs.drop j.toNat).length=af xs-j.toNat:=by rw[lA]
     have htk:((xs.flatMap (bC T)).drop (j.toNat*T.size)).take ((af xs-j.toNat)*T.size)=(xs.flatMap (bC T)).drop (j.toNat*T.size):=by
      refine eT ?_;rw[lA,hfl,Nat.sub_mul];exact bF _
     exact jS.q (k:=0) (y0:=.f (.sl ((xs.flatMap (bC T)).drop (j.toNat*T.size)) (af xs-j.toNat))) hinv hc (λH _=>by simp only[dO,h1,Z,fM,hcond,if_true,htk]) (cP (by simp only[bU,fM];rw[HL (bl T),hlen])) hk
    ·cases hk
   ·rename_i id k j hb;obtain⟨y2,Z,U⟩:=bu hi hb;simp only[bU,aa] at U;subst U;split at hk
    ·rename_i ty p T xs I;split at hk
     ·rename_i hs;have hs:=ak hs;subst hs;obtain⟨hj,hk⟩:=dA hk;have hcond:(T.size==T.size&&cD 0 j&&eX j (af xs))=ajp:=by
       simp only[aj] at hj;rw[hj.1,hj.2,beq_self_eq_true];rfl
      simp only[cD,eX,aj,decide_eq_true_eq] at hj;have hp:¬((p&&xs.length==0)=ajp):=by
       simp only[aj,beq_iff_eq];omega
      simp only[bU,bD,I,aA,lE,eo,if_neg hp,aa] at Y;subst Y;exact jS.q (k:=0) (y0:=.sl (nm id) (j.toNat*T.size) (af xs-j.toNat)) hinv hc (λH _=>by simp only[dO,h1,Z,fM,hcond,if_true]) (cP (by simp only[bU,bD,I,aA,lE])) hk
     ·cases hk
    ·cases hk
   ·cases hk
  ·cases hk
 ·cases hk
theorem ajb {con:FuncId->Option bW} {bL:TypeId->Option Ty} {sz:Nat} {z:List Value} {x:Operand} (hc:cL P o.op=ajn (.clr sz z x)) (hk:dj con bL (.op (.clr sz z x)) e h nx K=ajn r):jS P o ajq e h nx K r:=by
 obtain⟨H,hH⟩:=iT h;simp only[dj] at hk;split at hk
 ·rename_i id j hv;split at hk
  ·rename_i ty p T xs hb;split at hk
   ·rename_i hs;simp only[aj] at hs;obtain⟨⟨hs,J⟩,hco⟩:=hs;have hs:=ak hs;have J:=IV J;subst hs;subst J;obtain⟨hj,hk⟩:=dA hk;simp only[cD,eX,aj,decide_eq_true_eq] at hj;obtain⟨j0,j1⟩:=hj;obtain⟨y,h1,h2⟩:=bu hi hv;simp only[bU,bD,hb,aA,lE,aa] at h2;subst h2;have hp:¬((p&&xs.length==0)=ajp):=by
     simp only[aj,beq_iff_eq];omega
    have fl:=eA (bl T) xs;have hg:H.get (nm id)=ajn ⟨ty,.fz (xs.flatMap (bC T))⟩:=by rw[hH,bt,hb];simp only[aA,jR,if_neg hp]
    have hrl:(repl (ru T) (xs.length-j.toNat)).length=(xs.length-j.toNat)*T.size:=by
     have h9:=(FO (H:=λ_=>ajo) (H':=λ_=>ajo) (λn b hb=>by cases hb) T (xs.length-j.toNat)).length;rw[bV,bV,eA (bl T),dK] at h9;exact h9.symm
    have hoff:j.toNat*T.size+(xs.length-j.toNat)*T.size=xs.length*T.size:=by rw[<- LN];congr 1;omega
    have hput:(BC.fz (xs.flatMap (bC T))).put (j.toNat*T.size) ((repl (ru T) (xs.length-j.toNat)).map .f)=ajn (.fz (splice (xs.flatMap (bC T)) (j.toNat*T.size) (repl (ru T) (xs.length-j.toNat)))):=by
     unfold BC.put;rw[if_pos]
     ·simp only[I2]
     ·simp only[aj];refine ⟨⟨rfl,bp ?_⟩,E3 _ λq hq=>?_⟩
      ·simp only[BC.len,bV];omega
      ·obtain⟨v,hv,rfl⟩:=N6 _ q hq;exact fh.1 hco v hv
    have hblt:fd 0 (xs.length-j.toNat)=ajp:=bp (by omega);have Y:dO (.clr T.size (ru T) x) (Js e h) H (nm nx)=ajn ⟨.tup [],[nm id],[nm id],[(nm id,⟨ty,.fz (splice (xs.flatMap (bC T)) (j.toNat*T.size) (repl (ru T) (xs.length-j.toNat)))⟩)],[]⟩:=by
     simp only[dO,h1,hg,hblt,if_true,hput]
    have hlen:(db j.toNat xs++ay (af xs-j.toNat) T.zero).length=xs.length:=by
     rw[bg,bm,dK];omega
    have hrow:lE (.rows ty p T (db j.toNat xs++ay (af xs-j.toNat) T.zero))=lE (.rows ty p T xs):=by simp only[lE,hlen]
    refine ⟨_,_,_,_,_,hk,iy.wrt (m:=0) (v:=.tup []) (rd:=kg id) hinv hc hH Y hb (dl.zero h) (by simp) hrow (λ_ _ he=>by cases he) (λH1 H2 d g b' I=>?_) (λH1 H2 y d g Z=>?_) (λn hn=>?_)⟩
    ·have U:¬((p&&(db j.toNat xs++ay (af xs-j.toNat) T.zero).length==0)=ajp):=by rw[hlen];exact hp
     simp only[jR,if_neg U,aa] at I;subst I;refine jz.cells rfl rfl ?_ λq hq=>?_
     ·simp only[BC.toMx];unfold splice;rw[hrl,hoff,<-fl,List.drop_length,kF,List.flatMap_append,yC (bl T),ct,ct];exact (gr.refl d _).append (FO d T _)
     ·simp only[BC.toMx] at hq;obtain⟨q',M,rfl⟩:=cO.1 hq;exact qj T _ q' M
    ·simp only[bU,cj,aa] at Z;subst Z;exact kG.refl d _
    ·simp only[aF] at hn;subst hn;rw[dz];exact bK.2 rfl
   ·cases hk
  ·cases hk
 ·cases hk
end ops
theorem RE {K V:Ty} {es:List (K.den×V.den)} (I:mpE K V es=ajp):es.map (λp=>(oE K p.1,AV.f (fM V p.2)))=[]:=by
 unfold mpE at I;split at I
 ·rfl
 ·cases I
theorem ae0 {K V:Ty} {es:List (K.den×V.den)} (I:mpE K V es=ajp):RD K=ajp:=by
 unfold mpE at I;split at I
 ·rfl
 ·cases I
theorem Uv {str:Bool} {K:Ty} (I:Vw str K=ajp):RD K=ajp:=by
 cases K<;>cases str<;>first|rfl|cases I
theorem Me {str:Bool} {K:Ty} (J:Vw str K=ajp) (k I:K.den):td .eql (oE K k) (oE K I)=ajn (.bool (Nz K k I))/\xv str (oE K k)=ajp/\fM K k= .raw (oE K k):=by
 cases K<;>cases str<;>first|cases J|skip
 ·exact⟨by simp only[td,oE,Nz,beq_self_eq_true,if_true,aa,AF];exact Bool.beq_eq_decide_eq _ _,rfl,rfl⟩
 ·exact⟨by simp only[td,oE,Nz,Ct],rfl,rfl⟩
theorem Om {str:Bool} {K V:Ty} (J:Vw str K=ajp) (k:K.den):∀ es:List (K.den×V.den),rK (oE K k) (es.map λp=>(oE K p.1,AV.f (fM V p.2)))=ajn ((On k es).map λv=>AV.f (fM V v))
 |[]=>rfl
 |(I,v)::r=>by
  simp only[ff,rK,(Me J k I).1,On];cases hb:Nz K k I with
  |true=>rfl
  |false=>simp only[b8,if_false];exact Om J k r
theorem Us {str:Bool} {K V:Ty} (J:Vw str K=ajp) (k:K.den) (v:V.den):∀ es:List (K.den×V.den),xt (oE K k) (.f (fM V v)) (es.map λp=>(oE K p.1,AV.f (fM V p.2)))=ajn ((Ma k v es).map λp=>(oE K p.1,AV.f (fM V p.2)))
 |[]=>rfl
 |(I,M)::r=>by
  simp only[ff,xt,(Me J k I).1,Ma];cases hb:Nz K k I with
  |true=>rfl
  |false=>simp only[Us J k v r,b8,if_false,ff]
section ops
variable {R:Type} {P:Program} {o:Oper} {e:gU} {h:aZ} {nx:Nat} {K:KO R} {r:R}
theorem Le.aggOf {l:List FV} (hc:∀ x∈l,x.isCell=ajp):Le (.agg (l.map .f)) (.f (.agg l)):=by
 intro φ O w v hr;cases hr with
 |@agg _ vs hl hcl hrr=>
  refine .f (.agg l vs (by simpa using hl) hc λj y u I hu=>?_);have:=hrr j (.f y) u (by rw[aU,I];rfl) hu;cases this with
  |f h=>exact h
def Od (S:Ty) (l:List TV):Option (S.den×Nat×List TV):=match l with
 |c::r=>(match gP PT.leaf S c with|some (x,m)=>ajn (x,m,r)|none=>ajo)
 |[]=>ajo
theorem KW:∀ {l I:List FV},l.map AV.f=I.map AV.f->l=I
 |[],[],_=>rfl
 |[],_::_,h=>by simp at h
 |_::_,[],h=>by simp at h
 |x::r,y::r',h=>by
  simp only[ff,gZ,AV.f.injEq] at h;rw[h.1,KW h.2]
theorem Gz (h:aZ):∀ (ds:List TypeDesc) (T:Ty),pL ds=ajn T->∀ (n:Nat) (l:List TV) (x:T.den) (m:Nat) (r:List TV),dU PT.leaf n T l=ajn (x,m,r)->∀ J,cj h l=ajn J->∃ l2,cj h r=ajn l2/\J=(bC T x).map .f++l2
 |[],T,hd,n,l,x,m,r,hp,J,hl=>by
  simp only[pL,aa] at hd;subst hd;cases n with
  |zero=>simp[dU] at hp
  |succ n=>
   simp only[dU,aa,aw] at hp;obtain⟨_,_,rfl⟩:=hp;exact⟨J,hl,rfl⟩
 |d::ds,T,hd,n,l,x,m,r,hp,J,hl=>by
  have plain:∀ (S:Ty),S.one=ajp->(∀ t,S≠ .sl t)->∀ (v:TV) (a:S.den) (m:Nat) (y:AV),gP PT.leaf S v=ajn (a,m)->bU h v=ajn y->y= .f (fM S a):=by
   intro S Y hns v a m y I hy;cases v with
   |f Q q=>
    simp only[gP] at I;split at I
    ·rename_i z hz;simp only[aa,aw] at I;obtain⟨rfl,_⟩:=I;obtain⟨e,rfl⟩:=io hz;subst e;simp only[bU,aa] at hy;exact hy.symm
    ·cases I
   |emp=>
    cases S with
    |sl t=>exact absurd rfl (hns t)
    |_=>simp[gP] at I
   |nil=>
    cases S with
    |sl t=>exact absurd rfl (hns t)
    |_=>simp[gP] at I
   |row id=>simp[gP,PT.get] at I
   |fel T xs j hj off=>simp[gP] at I
   |pel id sz j off=>simp[gP] at I
   |ptr id off=>simp[gP] at I
   |csl id off z=>simp[gP] at I
   |mp id=>simp[gP] at I
   |rtl id jj=>simp[gP] at I
   |agg q=>simp[gP] at I
   |tup q=>simp[gP] at I
   |clo f q=>simp[gP] at I
   |undef=>simp[gP] at I
   |np=>simp[gP] at I
   |anyb=>simp[gP] at I
  have one:∀ (S:Ty),S.one=ajp->(∀ t,S≠ .sl t)->∀ (n:Nat) (l:List TV) (a:S.den) (m:Nat) (r:List TV),dU PT.leaf n S l=ajn (a,m,r)->∀ J,cj h l=ajn J->∃ l2,cj h r=ajn l2/\J=(bC S a).map .f++l2:=by
   intro S Y hns n l a m r hp J hl;cases n with
   |zero=>simp[dU] at hp
   |succ n=>
    cases l with
    |nil=>
     cases S with
     |int k=>cases hp
     |bool=>cases hp
     |str=>cases hp
     |sl t=>exact absurd rfl (hns t)
     |_=>cases Y
    |cons c q=>
     have hpp:Od S (c::q)=ajn (a,m,r):=by
      cases S with
      |int k=>simp only[dU] at hp;simp only[Od];cases hq:gP PT.leaf (.int k) c with
       |none=>rw[hq] at hp;cases hp
       |some z=>rw[hq] at hp;exact hp
      |bool=>simp only[dU] at hp;simp only[Od];cases hq:gP PT.leaf .bool c with
       |none=>rw[hq] at hp;cases hp
       |some z=>rw[hq] at hp;exact hp
      |str=>simp only[dU] at hp;simp only[Od];cases hq:gP PT.leaf .str c with
       |none=>rw[hq] at hp;cases hp
       |some z=>rw[hq] at hp;exact hp
      |sl t=>exact absurd rfl (hns t)
      |_=>cases Y
     simp only[Od] at hpp;split at hpp
     ·rename_i a1 m1 h1;simp only[aa,aw] at hpp;obtain⟨rfl,rfl,rfl⟩:=hpp;obtain⟨y,l2,rfl,g1,Z⟩:=cB hl;have:=plain S Y hns c a1 m1 y h1 g1;subst this;exact⟨l2,Z,by rw[(BS S a1 Y).1];rfl⟩
     ·cases hpp
  have two:∀ (S U:Ty),S.one=ajp->(∀ t,S≠ .sl t)->pL ds=ajn U->T= .pr S U->∃ l2,cj h r=ajn l2/\J=(bC T x).map .f++l2:=by
   intro S U Y hns M e;subst e;cases n with
   |zero=>simp[dU] at hp
   |succ n=>
    simp only[dU] at hp;split at hp
    ·rename_i x1 m1 r1 h1;split at hp
     ·rename_i x2 m2 r2 h2;simp only[aa,aw] at hp;obtain⟨rfl,rfl,rfl⟩:=hp;obtain⟨l2,g1,Z⟩:=one S Y hns n l x1 m1 r1 h1 J hl;obtain⟨l3,g3,g4⟩:=Gz h ds U M n r1 x2 m2 r2 h2 l2 g1;exact⟨l3,g3,by rw[Z,g4,bC,ct,iV]⟩
     ·cases hp
    ·cases hp
  cases d with
  |int k=>
   simp only[pL] at hd;split at hd
   ·rename_i U M;simp only[aa] at hd;exact two (.int k) U rfl (λt h=>by cases h) M hd.symm
   ·cases hd
  |bool=>
   simp only[pL] at hd;split at hd
   ·rename_i U M;simp only[aa] at hd;exact two .bool U rfl (λt h=>by cases h) M hd.symm
   ·cases hd
  |string=>
   simp only[pL] at hd;split at hd
   ·rename_i U M;simp only[aa] at hd;exact two .str U rfl (λt h=>by cases h) M hd.symm
   ·cases hd
  |_=>simp[pL] at hd
theorem BQ:∀ (ds:List TypeDesc) (T:Ty),pL ds=ajn T->∀ a b:T.den,nR ds (bC T a) (bC T b)=ajn (Nz T a b)
 |[],T,hd,a,b=>by simp only[pL,aa] at hd;subst hd;rfl
 |d::ds,T,hd,a,b=>by
  cases d with
  |int k=>
   simp only[pL] at hd;split at hd
   ·rename_i U M;simp only[aa] at hd;subst hd;have J:=BQ ds U M a.2 b.2;simp only[bC,fg,kE,nR,v9,beq_self_eq_true,if_true,Nz];cases he:((a.1:Int)==b.1) with
    |true=>have I:(a.1:Int)=b.1:=by simpa using he
           simp only[J,I,decide_true,oy]
    |false=>have I:¬(a.1:Int)=b.1:=by simpa using he
            simp only[I,decide_false,mn]
   ·cases hd
  |bool=>
   simp only[pL] at hd;split at hd
   ·rename_i U M;simp only[aa] at hd;subst hd;have J:=BQ ds U M a.2 b.2;simp only[bC,fg,kE,nR,v9,Nz];cases he:((a.1:Bool)==b.1)<;>simp[he,J]
   ·cases hd
  |string=>
   simp only[pL] at hd;split at hd
   ·rename_i U M;simp only[aa] at hd;subst hd;have J:=BQ ds U M a.2 b.2;simp only[bC,fg,kE,nR,v9,Nz,Ct];cases he:decide ((a.1:List UInt8)=b.1) with
    |true=>simp only[J,oy]
    |false=>simp only[mn]
   ·cases hd
  |_=>simp[pL] at hd
theorem LC {u:TV} (hu:u.isC=ajq) {lu:List TV} (hl:u.cs=ajn lu) {ds:List TypeDesc} {T:Ty} (hd:pL ds=ajn T) {a:T.den} {m:Nat} (hp:dU PT.leaf 40 T lu=ajn (a,m,[])) {y:AV} (I:bU h u=ajn y):Le y (.f (.agg (bC T a))):=by
 obtain⟨h1,_⟩:=Ly hl I;obtain⟨l2,M,J⟩:=Gz h ds T hd 40 lu a m [] hp _ h1;simp only[cj,aa] at M;subst M;rw[kF] at J;cases u with
 |agg l=>
  simp only[bU] at I;split at I
  ·rename_i U _;simp only[aa] at I;subst I;have:U=(bC T a).map .f:=J;rw[this];exact Le.aggOf (mM T a)
  ·cases I
 |f S x=>
  simp only[bU,aa] at I;subst I;have Y:S.one=ajq:=hu;rw[yE] at J;have:bC S x=bC T a:=KW J;rw[po S x Y,this];exact Le.refl _
 |tup l=>simp[TV.cs,TV.isC] at hl
 |undef=>simp[TV.cs,TV.isC] at hl
 |np=>cases hu
 |anyb=>simp[TV.cs,TV.isC] at hl
 |fel T xs j hj off=>cases hu
 |pel id sz j off=>cases hu
 |ptr id off=>cases hu
 |csl id off z=>cases hu
 |row id=>cases hu
 |emp=>cases hu
 |nil=>cases hu
 |mp id=>cases hu
 |rtl id Z=>cases hl
 |clo g l=>cases hu
variable (hinv:kU h nx) (hi:rT e h)
include hinv hi
theorem aj9 {con:FuncId->Option bW} {bL:TypeId->Option Ty} {neg:Bool} {ds:List TypeDesc} {x y:Operand} {st:Bool} (hc:cL P o.op=ajn (.eqs neg ds x y)) (hk:dj con bL (.op (.eqs neg ds x y)) e h nx K=ajn r):jS P o st e h nx K r:=by
 obtain⟨H,hH⟩:=iT h;simp only[dj] at hk;split at hk
 ·rename_i T u v hd hu hv;split at hk
  ·cases hk
  ·rename_i hcc;simp only[hP,not_or,Bool.not_eq_true] at hcc;split at hk
   ·rename_i lu lv hlu hlv;split at hk
    ·rename_i a m1 b m2 hpa hpb;obtain⟨yu,h1,h2⟩:=bu hi hu;obtain⟨yv,h3,h4⟩:=bu hi hv;obtain⟨⟨⟨U,M⟩,hc3⟩,Z⟩:=hcc;have l1:=LC U hlu hd hpa h2;have l2:=LC M hlv hd hpb h4;have tmp:∀ (z:Operand) (q:TV),eH e z=ajn q->q.isC=ajq->RM z=ajq->∃ t,z= .tmp t:=by
      intro z q I hq hg;cases z with
      |tmp t=>exact⟨t,rfl⟩
      |const c=>
       have I:cst c=ajn q:=by
        simp only[eH,aeb] at I;split at I
        ·cases hg
        ·exact I
       have:=(Iy h I).2.2;rw[hq] at this;cases this
      |func g=>simp only[eH,aa] at I;subst I;cases hq
      |global g=>
       simp only[eH] at I;split at I
       ·cases I;cases hq
       ·cases I
     obtain⟨t,rfl⟩:=tmp x u hu U hc3;obtain⟨t',rfl⟩:=tmp y v hv M Z;have same:t=t'->bC T a=bC T b:=by
      intro ht;subst ht;rw[hu] at hv;cases hv;rw[hlu] at hlv;cases hlv;rw[hpa] at hpb;cases hpb;rfl
     let J:yf:=((Js e h).set t (ajn (.f (.agg (bC T a))))).set t' (ajn (.f (.agg (bC T b))))
     have e1:lB J (.tmp t)=ajn (.f (.agg (bC T a))):=by
      simp only[lB,J,PT.get_set];by_cases ht:t=t'
      ·rw[if_pos ht,same ht]
      ·rw[if_neg ht];simp
     have e2:lB J (.tmp t')=ajn (.f (.agg (bC T b))):=by simp only[lB,J,PT.get_set,if_true]
     have ha:dO (.eqs neg ds (.tmp t) (.tmp t')) J H 0=ajn ⟨raw (.bool (Nz T a b !=neg)),[],[],[],[]⟩:=by
      simp only[dO,e1,e2,BQ ds T hd a b];rfl
     have ht:=GD hc ha;rw[hH] at ht;have Y:fO P o (eP e h) (bi h) _:=ht.envLe (e2:=eP e h) λs z _ I=>by
      simp only[J,PT.get_set] at I;rw[<- tR];simp only[lB] at h1 h3;split at I
      ·rename_i es;subst es;cases I;exact⟨yv,h3,l2⟩
      ·split at I
       ·rename_i es;subst es;cases I;exact⟨yu,h1,l1⟩
       ·exact⟨z,I,Le.refl _⟩
     refine ⟨_,0,0,h,nx,hk,⟨⟨_,Y,λy hy=>?_,by simp[AD.eff,sg],by simp[AD.eff],by simp[AD.eff],by simp[AD.eff]⟩,λ_ _ h=>h,hinv,bF _,λ_=>⟨rfl,rfl⟩⟩⟩;simp only[bU,aa] at hy;exact hy
    ·cases hk
   ·cases hk
 ·cases hk
theorem aiy {con:FuncId->Option bW} {bL:TypeId->Option Ty} (hc:cL P o.op=ajn .mkm) (hk:dj con bL (.op .mkm) e h nx K=ajn r):jS P o ajq e h nx K r:=by
 have _:=hi;obtain⟨H,M⟩:=iT h;refine ⟨_,_,_,_,_,hk,iy.new hinv hc M (y0:=.mp (nm nx)) (rdl:=[]) (b0:=⟨0,.mp []⟩) rfl (dl.zero h) (λ_ _ he=>by cases he) (λY U d g b' I=>?_) (λY U y d g J=>?_) (by simp)⟩
 ·cases I;exact jz.refl d _
 ·simp only[bU,aa] at J;subst J;exact kG.refl d _
theorem ag9 {con:FuncId->Option bW} {bL:TypeId->Option Ty} {x:Operand} (hc:cL P o.op=ajn (.lenm x)) (hk:dj con bL (.op (.lenm x)) e h nx K=ajn r):jS P o ajq e h nx K r:=by
 obtain⟨H,J⟩:=iT h;simp only[dj] at hk;split at hk
 ·rename_i id hv;split at hk
  ·rename_i K' V es hb;obtain⟨y,h1,M⟩:=bu hi hv;simp only[bU,aa] at M;subst M;split at hk
   case isFalse=>cases hk
   rename_i hO;have hg:H.get (nm id)=ajn ⟨0,.mp (es.map λp=>(oE K' p.1,.f (fM V p.2)))⟩:=by rw[J,bt,hb];show ajn (vy.mk 0 (X8 K' V es))=_;rw[Ah hO]
   exact⟨_,_,_,_,_,hk,iy.pure (k:=0) hinv hc J (y0:=raw (.int .i64 es.length)) (rdl:=[nm id]) (by simp only[dO,h1,hg,bV]) (λy I=>by simp only[bU,aa] at I;subst I;exact Le.refl _) (λn hn=>by simp only[aF] at hn;subst hn;rw[dz];exact bK.2 rfl) (λh=>by cases h)⟩
  ·cases hk
 ·cases hk
theorem aj2 {con:FuncId->Option bW} {bL:TypeId->Option Ty} {str:Bool} {z:Value} {x k:Operand} (hc:cL P o.op=ajn (.lku str z x k)) (hk:dj con bL (.op (.lku str z x k)) e h nx K=ajn r):jS P o ajq e h nx K r:=by
 obtain⟨H,Y⟩:=iT h;simp only[dj] at hk;split at hk
 ·rename_i id KT kv hv U;split at hk
  ·rename_i K' V es hb;split at hk
   ·rename_i J;obtain⟨y,h1,h2⟩:=bu hi hv;obtain⟨y2,h3,h4⟩:=bu hi U;simp only[bU,aa] at h2 h4;subst h2;subst h4;simp only[aj] at J;have hg:H.get (nm id)=ajn ⟨0,.mp (es.map λp=>(oE K' p.1,.f (fM V p.2)))⟩:=by rw[Y,bt,hb];show ajn (vy.mk 0 (X8 K' V es))=_;rw[Ah J.2]
    obtain⟨_,hok,henc⟩:=Me J.1 kv kv;rw[henc] at h3;have hrd:∀ n∈[nm id],aG (kg id) (ow n)=ajp:=λn hn=>by simp only[aF] at hn;subst hn;rw[dz];exact bK.2 rfl
    split at hk
    ·rename_i hE;split at hk
     ·rename_i v M;have hzz:=(Iy h M).1;exact⟨_,_,_,_,_,hk,iy.pure (k:=0) hinv hc Y (y0:=raw z) (rdl:=[nm id]) (by simp only[dO,h1,h3,hg,hok,if_true,RE hE,rK]) (λy I=>by rw[hzz] at I;cases I;exact Le.refl _) hrd (λh=>by cases h)⟩
     ·cases hk
    ·split at hk
     ·rename_i kv' Z zv hkv M;split at hk
      ·rename_i zv' hzv;obtain⟨e1,e2⟩:=io hkv;cases e1;subst e2;obtain⟨e3,e4⟩:=io hzv;cases e3;subst e4;have hzz:=(Iy h M).1;simp only[bU,aa] at hzz;refine ⟨_,_,_,_,_,hk,iy.pure (k:=0) hinv hc Y (y0:=.f (fM _ (GW kv' es zv'))) (rdl:=[nm id]) ?_ (λy I=>by simp only[bU,aa] at I;subst I;exact Le.refl _) hrd (λh=>by cases h)⟩;simp only[dO,h1,h3,hg,hok,if_true,Om J.1];unfold GW;cases hf:On kv' es with
       |none=>simp only[Option.map_none];rw[hzz]
       |some v=>rfl
      ·cases hk
     ·cases hk
   ·cases hk
  ·cases hk
 ·cases hk
theorem aiw {con:FuncId->Option bW} {bL:TypeId->Option Ty} {str:Bool} {x k v:Operand} (hc:cL P o.op=ajn (.mup str x k v)) (hk:dj con bL (.op (.mup str x k v)) e h nx K=ajn r):jS P o ajq e h nx K r:=by
 obtain⟨H,hH⟩:=iT h;simp only[dj] at hk;split at hk
 ·rename_i id KT U VT vv hv Z Y;split at hk
  ·rename_i K' V es hb;split at hk
   ·rename_i J;simp only[aj] at J;obtain⟨y,h1,h2⟩:=bu hi hv;obtain⟨y2,h3,h4⟩:=bu hi Z;obtain⟨y3,h5,h6⟩:=bu hi Y;simp only[bU,aa] at h2 h4 h6;subst h2;subst h4;subst h6;have hg:H.get (nm id)=ajn ⟨0,.mp (es.map λp=>(oE K' p.1,.f (fM V p.2)))⟩:=by rw[hH,bt,hb];show ajn (vy.mk 0 (X8 K' V es))=_;rw[Ah J.2]
    obtain⟨_,hok,henc⟩:=Me J.1.1 U U;rw[henc] at h3;have hrd:∀ n∈[nm id],aG (kg id) (ow n)=ajp:=λn hn=>by simp only[aF] at hn;subst hn;rw[dz];exact bK.2 rfl
    split at hk
    ·rename_i hE;exact⟨_,_,_,_,_,hk,iy.wrt (k:=0) (m:=0) (v:=.undef) (rd:=kg id) hinv hc hH (y0:=raw undef) (b0:=⟨0,.mp [(oE KT U,.f (fM VT vv))]⟩) (rdl:=[nm id]) (by simp only[dO,h1,h3,h5,hg,hok,if_true,RE hE,xt]) (B:=.mp KT VT [(U,vv)]) hb (dl.zero h) (by simp) rfl (λty' l2 he=>by cases he) (λH1 H2 d g b' I=>by simp only[jR,Ah (Uv J.1.1),aa] at I;subst I;exact jz.refl d _) (λH1 H2 y d g M=>by simp only[bU,aa] at M;subst M;exact kG.refl d _) hrd⟩
    ·split at hk
     ·rename_i kv' vv' hkv hvv;obtain⟨e1,e2⟩:=io hkv;cases e1;subst e2;obtain⟨e3,e4⟩:=io hvv;cases e3;subst e4;exact⟨_,_,_,_,_,hk,iy.wrt (k:=0) (m:=0) (v:=.undef) (rd:=kg id) hinv hc hH (y0:=raw undef) (b0:=⟨0,.mp ((Ma kv' vv' es).map λp=>(oE _ p.1,.f (fM _ p.2)))⟩) (rdl:=[nm id]) (by simp only[dO,h1,h3,h5,hg,hok,if_true,Us J.1.1]) (B:=.mp _ _ (Ma kv' vv' es)) hb (dl.zero h) (by simp) rfl (λty' l2 he=>by cases he) (λH1 H2 d g b' I=>by simp only[jR,Ah (Uv J.1.1),aa] at I;subst I;exact jz.refl d _) (λH1 H2 y d g M=>by simp only[bU,aa] at M;subst M;exact kG.refl d _) hrd⟩
     ·cases hk
   ·cases hk
  ·cases hk
 ·cases hk
theorem ait {con:FuncId->Option bW} {bL:TypeId->Option Ty} {x:Operand} (hc:cL P o.op=ajn (.rng x)) (hk:dj con bL (.op (.rng x)) e h nx K=ajn r):jS P o ajq e h nx K r:=by
 obtain⟨H,U⟩:=iT h;simp only[dj] at hk;split at hk
 ·rename_i s hv;obtain⟨y,h1,M⟩:=bu hi hv;simp only[bU,aa] at M;subst M;refine ⟨_,_,_,_,_,hk,iy.new hinv hc U (y0:=.ptr (nm nx) 0) (rdl:=[]) (b0:=⟨0,.it ⟨jK s⟩ 0⟩) (by simp only[dO,h1];rfl) (dl.zero h) (λ_ _ he=>by cases he) (λZ Y d g b' I=>?_) (λZ Y y d g J=>?_) (by simp)⟩
  ·cases I;exact jz.refl d _
  ·simp only[bU,aa] at J;subst J;exact kG.refl d _
 ·cases hk
theorem aiu {con:FuncId->Option bW} {bL:TypeId->Option Ty} {x:Operand} (hc:cL P o.op=ajn (.nxt x)) (hk:dj con bL (.op (.nxt x)) e h nx K=ajn r):jS P o ajq e h nx K r:=by
 obtain⟨H,M⟩:=iT h;simp only[dj] at hk;split at hk
 ·rename_i id hv;split at hk
  ·rename_i K' V es hb;split at hk
   ·rename_i s p hI;obtain⟨y,h1,Z⟩:=bu hi hv;simp only[bU,aa] at Z;subst Z;have hg:H.get (nm id)=ajn ⟨0,.it ⟨jK s⟩ p⟩:=by rw[M,bt,hb];show ajn (vy.mk 0 (X8 K' V es))=_;rw[ae4 hI]
    have hrd:∀ n∈[nm id],aG (kg id) (ow n)=ajp:=λn hn=>by simp only[aF] at hn;subst hn;rw[dz];exact bK.2 rfl
    rcases ov hk with ⟨hp,hk⟩|⟨hp,hk⟩
    ·obtain⟨hj,hk⟩:=dA hk;have hp:=aR hp;have e2:(⟨jK s⟩:ByteArray).data.toList[p]? =ajn (List.getD s p 0):=by
      show s[p]? =_;rw[au,ar hp];rfl
     have e3:fd (List.getD s p 0).toNat 128=ajp:=by
      have hj:(aJ (List.getD s p 0).toNat:Int)<128:=of_decide_eq_true hj;exact bp (Int.ofNat_lt.1 hj)
     exact⟨_,_,_,_,_,hk,iy.wrt (k:=0) (m:=0) (rd:=kg id) hinv hc M (y0:=.tup [raw (.bool ajp),raw (.int .i64 p),raw (.int .i32 (List.getD s p 0).toNat)]) (b0:=⟨0,.it ⟨jK s⟩ (p+1)⟩) (rdl:=[nm id]) (by simp only[dO,h1,hg,e2,e3,if_true]) (B:=.mp itK .un [((s,aJ (p+1)),())]) hb (dl.zero h) (by simp) rfl (λty' l2 he=>by cases he) (λY U d g b' I=>by cases I;exact jz.refl d _) (λY U y d g J=>by cases J;exact kG.refl d _) hrd⟩
    ·have hp:s.length<=p:=Nat.not_lt.1 λq=>by rw[show fd p s.length=ajp from bp q] at hp;cases hp
     have e2:(⟨jK s⟩:ByteArray).data.toList[p]? =ajo:=by
      show s[p]? =_;exact bB hp
     exact⟨_,_,_,_,_,hk,iy.wrt (k:=0) (m:=0) (rd:=kg id) hinv hc M (y0:=.tup [raw (.bool ajq)]) (b0:=⟨0,.it ⟨jK s⟩ p⟩) (rdl:=[nm id]) (by simp only[dO,h1,hg,e2]) (B:=.mp itK .un [((s,aJ p),())]) hb (dl.zero h) (by simp) rfl (λty' l2 he=>by cases he) (λY U d g b' I=>by cases I;exact jz.refl d _) (λY U y d g J=>by cases J;exact kG.refl d _) hrd⟩
   ·cases hk
  ·cases hk
 ·cases hk
theorem K_op {con:FuncId->Option bW} {bL:TypeId->Option Ty} {s:WR} (hc:cL P o.op=ajn s) (hk:dj con bL (.op s) e h nx K=ajn r):jS P o s.still e h nx K r:=by
 cases s with
 |mv x=>exact K_mv hinv hi hc hk
 |pick c a b=>exact ag4 hinv hi hc hk
 |alloc ty z=>exact ac8 hinv hi hc hk
 |box ty x=>exact ajd hinv hi hc hk
 |build z parts=>exact ac7 hinv hi hc hk
 |bsl ty sz len z parts=>exact ajc hinv hi hc hk
 |load sz ag x=>exact ag7 hinv hi hc hk
 |store sz x v=>exact ac4 hinv hi hc hk
 |nilc x=>exact ag5 hinv hi hc hk
 |bin op x y=>exact aje hinv hi hc hk
 |eqs neg ds x y=>exact aj9 hinv hi hc hk
 |eqb neg x y=>exact aja hinv hi hc hk
 |isnil neg x=>exact ac6 hinv hi hc hk
 |not x=>exact aiv hinv hi hc hk
 |conv k x=>exact agc hinv hi hc hk
 |mksl ty sz bytes z l c=>exact ag6 hinv hi hc hk
 |slc sz x lo I mx=>exact ais hinv hi hc hk
 |fad off x=>exact aj7 hinv hi hc hk
 |fld off sz ag x=>exact aj6 hinv hi hc hk
 |iad sz x i=>exact aj5 hinv hi hc hk
 |idx n sz ag x i=>exact aj4 hinv hi hc hk
 |iada n sz x i=>exact aga hinv hi hc hk
 |ext x i=>exact aj8 hinv hi hc hk
 |len x=>exact aj3 hinv hi hc hk
 |lens x=>exact ag8 hinv hi hc hk
 |max x y=>exact aj1 hinv hi hc hk
 |min x y=>exact aj0 hinv hi hc hk
 |sidx x i=>exact ag3 hinv hi hc hk
 |app ty sz bytes s x=>exact ajf hinv hi hc hk
 |copy sz d x=>exact agb hinv hi hc hk
 |clr sz z x=>exact ajb hinv hi hc hk
 |mkf f caps=>exact aiz hinv hi hc hk
 |mkm=>exact aiy hinv hi hc hk
 |rng x=>exact ait hinv hi hc hk
 |nxt x=>exact aiu hinv hi hc hk
 |lenm x=>exact ag9 hinv hi hc hk
 |lku str z x k=>exact aj2 hinv hi hc hk
 |mup str x k v=>exact aiw hinv hi hc hk
 |_=>simp[dj] at hk
end ops
mutual
def AV.ren (g:Nat->Nat):AV->AV
 |.f x=>.f x
 |.ptr id off=>.ptr (g id) off
 |.sl id off n=>.sl (g id) off n
 |.row id sz n=>.row (g id) sz n
 |.mp id=>.mp (g id)
 |.emp=>.emp
 |.anyb=>.anyb
 |.agg l=>.agg (AV.renL g l)
 |.tup l=>.tup (AV.renL g l)
 |.clo q l=>.clo q (AV.renL g l)
def AV.renL (g:Nat->Nat):List AV->List AV
 |[]=>[]
 |x::r=>x.ren g::AV.renL g r
end
theorem nj (g:Nat->Nat):∀ l,AV.renL g l=l.map (AV.ren g)
 |[]=>rfl
 |x::r=>by rw[AV.renL,nj g r];rfl
theorem Bc (g:Nat->Nat) (x:AV):(x.ren g).isCell=x.isCell:=by cases x<;>rfl
theorem cq.renTo {φ φ':PM} {g:Nat->Nat} {O:Nat->Prop} {w:World} (hk:∀ i k,φ i=ajn k->φ' (g i)=ajn k) {x:AV} {v:Value} (h:cq φ O w x v):cq φ' O w (x.ren g) v:=by
 induction h with
 |f h=>exact .f h
 |ptr h=>exact .ptr (hk _ _ h)
 |sl h hn hc=>exact .sl (hk _ _ h) hn hc
 |row h hn hc hsh=>exact .row (hk _ _ h) hn hc hsh
 |emp=>exact .emp
 |anyb=>exact .anyb
 |mp h=>exact .mp (hk _ _ h)
 |agg hl hcl hr M=>
  simp only[AV.ren,nj];refine .agg (by simpa using hl) (λx I=>?_) λj x v I hv=>?_
  ·obtain⟨y,J,rfl⟩:=cO.1 I;rw[Bc];exact hcl y J
  ·rw[aU] at I;obtain⟨y,J,rfl⟩:=iU.1 I;exact M j y v J hv
 |tup hl hr M=>
  simp only[AV.ren,nj];refine .tup (by simpa using hl) λj x v I hv=>?_
  rw[aU] at I;obtain⟨y,J,rfl⟩:=iU.1 I;exact M j y v J hv
 |clo hl hr M=>
  simp only[AV.ren,nj];refine .clo (by simpa using hl) λj x v I hv=>?_
  rw[aU] at I;obtain⟨y,J,rfl⟩:=iU.1 I;exact M j y v J hv
theorem cq.renFrom {φ φ':PM} {g:Nat->Nat} {O:Nat->Prop} {w:World} {p:Nat->Bool} (hk:∀ i k,p i=ajp->φ (g i)=ajn k->φ' i=ajn k) {z:AV} {v:Value} (h:cq φ O w z v):∀ x:AV,x.all p=ajp->z=x.ren g->cq φ' O w x v:=by
 induction h with
 |f h=>intro x hp e;cases x<;>simp only[AV.ren,reduceCtorEq] at e;cases e;exact .f h
 |ptr h=>intro x hp e;cases x<;>simp only[AV.ren,reduceCtorEq] at e;cases e;exact .ptr (hk _ _ hp h)
 |sl h hn hc=>intro x hp e;cases x<;>simp only[AV.ren,reduceCtorEq] at e;cases e;exact .sl (hk _ _ hp h) hn hc
 |row h hn hc hsh=>intro x hp e;cases x<;>simp only[AV.ren,reduceCtorEq] at e;cases e;exact .row (hk _ _ hp h) hn hc hsh
 |emp=>intro x hp e;cases x<;>simp only[AV.ren,reduceCtorEq] at e;exact .emp
 |anyb=>intro x hp e;cases x<;>simp only[AV.ren,reduceCtorEq] at e;exact .anyb
 |mp h=>intro x hp e;cases x<;>simp only[AV.ren,reduceCtorEq] at e;cases e;exact .mp (hk _ _ hp h)
 |agg hl hcl hr J=>
  intro x hp e;cases x<;>simp only[AV.ren,reduceCtorEq] at e;rename_i l;cases e;rw[nj] at hl hcl hr J;refine .agg (by simpa using hl) (λx I=>?_) λj x v I hv=>?_
  ·have:=hcl (x.ren g) (cO.2 ⟨x,I,rfl⟩);rwa [Bc] at this
  ·exact J j (x.ren g) v (by rw[aU,I];rfl) hv x (kS hp x (aS I)) rfl
 |tup hl hr J=>
  intro x hp e;cases x<;>simp only[AV.ren,reduceCtorEq] at e;rename_i l;cases e;rw[nj] at hl hr J;refine .tup (by simpa using hl) λj x v I hv=>?_
  exact J j (x.ren g) v (by rw[aU,I];rfl) hv x (kS hp x (aS I)) rfl
 |clo hl hr J=>
  intro x hp e;cases x<;>simp only[AV.ren,reduceCtorEq] at e;rename_i l;cases e;rw[nj] at hl hr J;refine .clo (by simpa using hl) λj x v I hv=>?_
  exact J j (x.ren g) v (by rw[aU,I];rfl) hv x (kS hp x (aS I)) rfl
def BC.ren (g:Nat->Nat):BC->BC
 |.fz l=>.fz l
 |.mx l=>.mx (l.map (AV.ren g))
 |.mp es=>.mp (es.map λp=>(p.1,p.2.ren g))
 |.it s p=>.it s p
def vy.ren (g:Nat->Nat) (b:vy):vy:=⟨b.ty,b.c.ren g⟩
theorem iE.renTo {φ φ':PM} {g:Nat->Nat} {O O':Nat->Prop} {w:World} (hk:∀ x v,cq φ O w x v->cq φ' O' w (x.ren g) v) {b:vy} {o:Obj} (h:iE φ O w b o):iE φ' O' w (b.ren g) o:=by
 obtain⟨ty,c⟩:=b;unfold iE at h ⊢;simp only[vy.ren];cases c with
 |fz l=>
  simp only[BC.ren];obtain⟨arr,h1,M,J⟩:=h;refine ⟨arr,h1,M,λj x I=>?_⟩;obtain⟨a,v,c,d⟩:=J j x I;simp only[BC.get] at I;obtain⟨q,_,rfl⟩:=iU.1 I;exact⟨a,v,c,hk _ _ d⟩
 |mx l=>
  simp only[BC.ren];obtain⟨arr,h1,M,J⟩:=h;refine ⟨arr,h1,by simpa[BC.len] using M,λj x I=>?_⟩;simp only[BC.get,aU] at I;obtain⟨q,hq,rfl⟩:=iU.1 I;obtain⟨a,v,c,d⟩:=J j q hq;exact⟨by rw[Bc];exact a,v,c,hk _ _ d⟩
 |mp es=>
  simp only[BC.ren];obtain⟨e,c,h1,M,J⟩:=h;refine ⟨e,c,h1,by rw[M,yk];rfl,λj x I=>?_⟩;rw[aU] at I;obtain⟨q,hq,rfl⟩:=iU.1 I;obtain⟨m,a,b⟩:=J j q hq;exact⟨m,a,hk _ _ b⟩
 |it s p=>exact h
theorem iE.renFrom {φ φ':PM} {g:Nat->Nat} {O O':Nat->Prop} {w:World} {p:Nat->Bool} (hk:∀ x v,x.all p=ajp->cq φ O w (x.ren g) v->cq φ' O' w x v) {b:vy} (hb:b.c.all p=ajp) {o:Obj} (h:iE φ O w (b.ren g) o):iE φ' O' w b o:=by
 obtain⟨ty,c⟩:=b;unfold iE at h ⊢;simp only[vy.ren] at h;cases c with
 |fz l=>
  simp only[BC.ren] at h;obtain⟨arr,h1,M,J⟩:=h;refine ⟨arr,h1,M,λj x I=>?_⟩;obtain⟨a,v,c,d⟩:=J j x I;simp only[BC.get] at I;obtain⟨q,_,rfl⟩:=iU.1 I;exact⟨a,v,c,hk _ _ rfl d⟩
 |mx l=>
  simp only[BC.ren] at h;obtain⟨arr,h1,M,J⟩:=h;refine ⟨arr,h1,by simpa[BC.len] using M,λj x I=>?_⟩;simp only[BC.get] at I;obtain⟨a,v,c,d⟩:=J j (x.ren g) (by simp only[BC.get,aU,I];rfl);rw[Bc] at a;exact⟨a,v,c,hk _ _ (kS hb x (aS I)) d⟩
 |mp es=>
  simp only[BC.ren] at h;obtain⟨e,c,h1,M,J⟩:=h;refine ⟨e,c,h1,by rw[M,yk];rfl,λj x I=>?_⟩;obtain⟨m,a,b⟩:=J j (x.1,x.2.ren g) (by rw[aU,I];rfl);exact⟨m,a,hk _ _ (kS hb x.2 (cO.2 ⟨x,aS I,rfl⟩)) b⟩
 |it s p=>exact h
end
end Go.Proofs.YtkagidinekdnoaaGreatDoor.AI
