/-
  Texts of the proof, part 4 of 6: what is used to prove the statement. No condition.
-/
import Derived.Test.YtgijlolllojpaaaGreatDoorShbFirstQ2
import Derived.WalkSpells
import Derived.Laws.CopyRow
import Derived.Deep.AppendSrc
import Derived.Laws.AppendOwn
import Derived.Defers
namespace Go.Proofs.YtgijlolllojpaaaGreatDoor.AI
open Go.RowKit
set_option maxRecDepth 100000
set_option maxHeartbeats 4000000
set_option linter.unusedVariables false
set_option linter.unusedSimpArgs false
open Act renaming put→ND
open _root_.Array renaming length_toList→iC,range→yL
open _root_.Bool renaming true→ai,false→aj
open Builtin renaming zeroCells→lx,firstCells→Ld
open Call renaming operands→eV
open Instr renaming findNow→jD,sliceBounds→jU,sliceBound→kC,sliceAt→pD,slice→uM
open _root_.Int renaming ofNat→aQ,toNat→aS
open IntKind renaming wrap→oX
open _root_.List renaming length→al,replicate→aG,length_cons→bZ,take→dA,range→dT,cons_append→gr,length_nil→jY,toArray→kJ,nil_append→lP,take_succ_cons→vZ,foldl_cons→xh
open _root_.Nat renaming beq→aC,testBit→aN,add_zero→dl,ble→eQ,blt→gk,min→iX
open Oper renaming wp→HE
open _root_.Option renaming some→af,none→ah,bind_some→aH,map_some→b_,getD_some→uW
open Region renaming wanted→iO
open Result renaming andThen_ok→cJ
open Sem renaming run_bind→eP,run→nE,run_pure→oU
open Value.bool renaming injEq→Cg
open World renaming shape?→rQ,cell?→Nx
noncomputable section
theorem fB {φ:PM} {O:Nat->Prop} {w:World} {v u:Value} (h:cM φ O w (.f (.raw v)) u):u=v:=by
 cases h with
 |f h=>cases h;rfl
theorem t_ (h:HF) (nw:HF):eX h [] nw=h:=by funext t;simp[eX]
theorem GU:∀ {l:List Value},Kz l=ai->∀ v∈l,v.oneCell'=ai
 |[],_,v,hv=>by cases hv
 |x::r,h,v,hv=>by
  simp only[Kz,av] at h;rcases bl.1 hv with rfl|hv
  .exact h.1
  .exact GU h.2 v hv
theorem Vp {φ:PM} {O:Nat->Prop} {w:World} (v:Value):cM φ O w (Fl v) v:=by
 unfold Fl;split
 .rename_i vs;split
  .rename_i h1;refine cM.agg (vs:=vs.toList) (by simp) (λx I=>?_) (λj x v I hv=>?_)
   .obtain⟨u,hu,rfl⟩:=dt.1 I;exact GU h1 u hu
   .rw[a8,hv] at I;simp only[b_,ak] at I;subst I;exact .f (.raw _)
  .exact .f (.raw _)
 .exact .f (.raw _)
theorem tO {φ:PM} {E:Nat->Prop} {h':HF} {w:World} {e:Ab} {a:Act} {xs:Array Operand} (hrep:qY φ E h' w) (h:∀ t,.tmp t∈xs->∀ y,e.get t=af y->cM φ (tot E φ h') w y (a.tmps.getD t undef)) {x:Operand} {y:AV} (J:x∈xs) (I:mF e x=af y):cM φ (tot E φ h') w y (a.eval x):=by
 cases x with
 |tmp t=>exact h t J y I
 |const v=>simp only[mF,ak] at I;subst I;exact Vp v
 |func g=>
  simp only[mF,ak] at I;subst I;exact cM.clo (vs:=[]) (g:=g) (cells:=[]) rfl (by intro j x v J;simp at J)
 |global g=>
  simp only[mF] at I;cases hg:G g with
  |none=>rw[hg] at I;cases I
  |some cells=>rw[hg] at I;simp only[ak] at I;subst I;exact .f (hrep.gl g cells hg)
abbrev V3 (φ:PM) (E:Nat->Prop) (h':HF) (w:World) (a:Act) (e:Ab) (o:Oper):Prop:=∀ x y,x∈o.op.operands->mF e x=af y->cM φ (tot E φ h') w y (a.eval x)
theorem gP.reads {P:Program} {o:Oper} {e:Ab} {h:HF} {val:AV} {rd:List Nat} {nw:HF}
 (hv:∀ (φ:PM) (E:Nat->Prop) (h':HF) (w:World) (a:Act),(∀ i∈rd,h' i=h i)->V3 φ E h' w a e o->qY φ E h' w->
   ∃ v,(execOp a.eval o).run P w= .ok (.value v) w/\cM φ (tot E φ h') w val v):gP P o e.get h ⟨val,rd,[],nw,[]⟩:=by
 intro φ E h' w a h1 h2 U I Y;obtain⟨v,r,rel⟩:=hv φ E h' w a h1 (λx y M J=>tO I U M J) I;unfold HE;rw[r];refine ⟨v,φ,rfl,?_,λ_ _ h=>.inl h,?_,?_⟩<;>rw[t_]
 .exact je.refl _ _ _
 .exact I
 .exact rel
theorem dy {x:AV} {R:Ce} (h:rv x=af R):R=⟨x,[],[],[],[]⟩:=by simp only[rv,ak] at h;exact h.symm
section pure
variable {P:Program} {o:Oper} {e:Ab} {h:oc} {nx:Nat} {R:Ce}
theorem amh {x:Operand} (I:o.op= .move x\/o.op= .assign x) (J:eU (.mv x) e h nx=af R):gP P o e.get h.get R.eff:=by
 simp only[eU] at J;split at J
 .rename_i v hv;rw[dy J];exact gP.reads λφ E h' w a _ hop _=>⟨a.eval x,by unfold execOp;rcases I with I|I<;>rw[I]<;>rfl,hop x v (by rcases I with I|I<;>rw[I]<;>simp[Op.operands]) hv⟩
 .cases J
theorem aj5 {c x y:Operand} (J:o.op= .pick c x y) (I:eU (.pick c x y) e h nx=af R):gP P o e.get h.get R.eff:=by
 simp only[eU] at I;split at I
 .rename_i t hc;split at I
  .rename_i v hv;rw[dy I];refine gP.reads λφ E h' w a _ hop _=>?_
   have hcv:=fB (hop c _ (by rw[J];simp[Op.operands]) hc);refine ⟨a.eval (if t then x else y),?_,hop _ v (by rw[J];cases t<;>simp[Op.operands]) hv⟩;unfold execOp;rw[J];simp only[hcv];cases t<;>rfl
  .cases I
 .cases I
theorem aj6 {x:Operand} (I:o.op= .nilCheck x) (J:eU (.nilc x) e h nx=af R):gP P o e.get h.get R.eff:=by
 simp only[eU] at J;split at J
 .rename_i id off U;rw[dy J];refine gP.reads λφ E h' w a _ hop _=>?_
  have h1:=hop x _ (by rw[I];simp[Op.operands]) U;generalize M:a.eval x=z at h1;cases h1 with
  |ptr hφ=>exact⟨_,by unfold execOp;rw[I];simp only[M];rfl,.ptr hφ⟩
 .rename_i cells off U;rw[dy J];refine gP.reads λφ E h' w a _ hop _=>?_
  have h1:=hop x _ (by rw[I];simp[Op.operands]) U;generalize M:a.eval x=z at h1;cases h1 with
  |f h1=>
   have h2:=h1;cases h2 with
   |ptr _ _ b base us hO hb hcl hu hr=>exact⟨_,by unfold execOp;rw[I];simp only[M];rfl,.f h1⟩
 .rename_i g cap U;rw[dy J];refine gP.reads λφ E h' w a _ hop _=>?_
  have h1:=hop x _ (by rw[I];simp[Op.operands]) U;generalize M:a.eval x=z at h1;cases h1 with
  |clo hl hr=>exact⟨_,by unfold execOp;rw[I];simp only[M];rfl,.clo hl hr⟩
 .cases J
theorem amf {x:Operand} {t:TypeId} (J:o.op= .unOp .not t x) (I:eU (.not x) e h nx=af R):gP P o e.get h.get R.eff:=by
 simp only[eU] at I;split at I
 .rename_i b M;rw[dy I];refine gP.reads λφ E h' w a _ hop _=>?_
  have h1:=fB (hop x _ (by rw[J];simp[Op.operands]) M);exact⟨_,by unfold execOp;rw[J];simp only[h1];rfl,.f (.raw _)⟩
 .cases I
theorem yS (k:IntKind) (n:Int):bn k n=k.wrap n:=by
 rw[HI];unfold Mn;split
 .split
  .rename_i h;simp only[cY,av,bt] at h;have:oX .i64 n=if n%18446744073709551616≥9223372036854775808 then n%18446744073709551616-18446744073709551616 else n%18446744073709551616:=by
    simp[oX,IntKind.bits,IntKind.signed]
   rw[this];split<;>omega
  .rfl
 .split
  .rename_i h;simp only[cY,av,bt] at h;have:oX .u8 n=n%256:=by
    simp[oX,IntKind.bits,IntKind.signed]
   rw[this];omega
  .rfl
 .rfl
theorem aje {x:Operand} {s d:TypeId} {k k':IntKind} (J:o.op= .convert s d x) (hs:P.underlying s=af (.int k')) (hd:P.underlying d=af (.int k)) (I:eU (.conv k x) e h nx=af R):gP P o e.get h.get R.eff:=by
 simp only[eU] at I;split at I
 .rename_i U n M;rw[dy I];refine gP.reads λφ E h' w a _ hop _=>?_
  have h1:=fB (hop x _ (by rw[J];simp[Op.operands]) M);refine ⟨_,?_,.f (.raw _)⟩;unfold execOp;rw[J];simp[h1,convert,run_underlying hs,run_underlying hd,Conv.intToInt,yS]
 .cases I
theorem Ps (a:ByteArray):a.toList=a.data.toList:=by
 first|exact ByteArray.toList_eq a|simp[ByteArray.toList]|rfl
theorem ZZ {op:BinOp} {t:TypeId} {u v r:Value} (hr:uS op u v=af r) (x y:Operand) (w:World):
 (do eqGuard op t x y u v;binOp op t u v:Sem Value).run P w= .ok r w:=by
 unfold uS at hr;split at hr
 .rename_i k a k' b;split at hr
  .rename_i hk;have I:k=k':=by simpa using hk
   subst I;split at hr<;>first|(simp only[ak] at hr;subst hr;simp[eqGuard,binOp,Op.intCmp,Op.intArith,yS,cY,fX];done)|(split at hr<;>first|(cases hr;done)|(rename_i hb;simp only[ak] at hr;subst hr;simp[eqGuard,binOp,Op.intDiv,yS,show b≠0 from by simpa using hb];done))|(cases hr;done)
  .cases hr
 .rename_i a b;split at hr<;>first|(simp only[ak] at hr;subst hr;simp[eqGuard,binOp,Op.stringOp,r9,Ps];done)|(cases hr;done)
 .cases hr
theorem agr {s:Sem Value} {r:Value} {w w':World} (hs:s.run P w= .ok r w'):(do let x<-s;pure (Next.value x):Sem Next).run P w= .ok (.value r) w':=by
 simp[hs]
theorem ahj {op:BinOp} {x y:Operand} {t t':TypeId} (J:o.op= .binOp op t x y t') (I:eU (.bin op x y) e h nx=af R):gP P o e.get h.get R.eff:=by
 simp only[eU] at I;split at I
 .rename_i u v U M;split at I
  .rename_i r hr;rw[dy I];refine gP.reads λφ E h' w a _ hop _=>?_
   have h1:=fB (hop x _ (by rw[J];simp[Op.operands]) U);have h2:=fB (hop y _ (by rw[J];simp[Op.operands]) M);refine ⟨r,?_,.f (.raw _)⟩;unfold execOp;rw[J];simp only[h1,h2];exact agr (ZZ (P:=P) (t:=t) hr x y w)
  .cases I
 .cases I
theorem UX {t:TypeId} (hu:P.underlying t=af .bool) (u v:Bool) (w:World):(Op.equal t (.bool u) (.bool v)).run P w= .ok (u==v) w:=by
 have key:∀ d,(Op.equalIn (d+1) t (.bool u) (.bool v)).run P w= .ok (u==v) w:=λd=>by simp[Op.equalIn,run_underlying hu]
 exact key 9999
theorem Rv {t el:TypeId} (hu:P.underlying t=af (.slice el)) (A:Option Addr) (n c:Nat) (w:World):(Op.equal t (.slice A n c) (.slice ah 0 0)).run P w= .ok A.isNone w:=by
 have key:∀ d,(Op.equalIn (d+1) t (.slice A n c) (.slice ah 0 0)).run P w= .ok A.isNone w:=λd=>by cases A<;>simp[Op.equalIn,run_underlying hu]
 exact key 9999
theorem ahi {neg:Bool} {op:BinOp} {x y:Operand} {t t':TypeId} (J:o.op= .binOp op t x y t') (hop:op=if neg then .neq else .eql) (hu:P.underlying t=af .bool) (I:eU (.eqb neg x y) e h nx=af R):gP P o e.get h.get R.eff:=by
 simp only[eU] at I;split at I
 .rename_i u v U M;rw[dy I];refine gP.reads λφ E h' w a _ hp _=>?_
  have h1:=fB (hp x _ (by rw[J];simp[Op.operands]) U);have h2:=fB (hp y _ (by rw[J];simp[Op.operands]) M);refine ⟨_,?_,.f (.raw _)⟩;unfold execOp;rw[J];simp only[h1,h2];subst hop;cases neg<;>simp[eqGuard,binOp,UX hu]
 .cases I
theorem XB {neg:Bool} {op:BinOp} {x y:Operand} {t t' el:TypeId} (U:o.op= .binOp op t x y t') (hop:op=if neg then .neq else .eql) (Y:y= .const (.slice ah 0 0)) (hu:P.underlying t=af (.slice el)) (J:eU (.isnil neg x) e h nx=af R):gP P o e.get h.get R.eff:=by
 have key:∀ (v:Value) (w:World) (ρ:Operand->Value) (A:Option Addr) (n c:Nat),ρ x= .slice A n c->ρ y= .slice ah 0 0->(execOp ρ o).run P w= .ok (.value (.bool (A.isNone !=neg))) w:=by
  intro v w ρ A n c h1 h2;unfold execOp;rw[U];simp only[h1,h2];subst hop;cases neg<;>simp[eqGuard,binOp,Rv hu]
 have hyv:∀ a:Act,a.eval y= .slice ah 0 0:=λa=>by rw[Y];rfl
 simp only[eU] at J;split at J
 .rename_i id sz n I;rw[dy J];refine gP.reads λφ E h' w a _ hp _=>?_
  have h1:=hp x _ (by rw[U];simp[Op.operands]) I;generalize M:a.eval x=z at h1;cases h1 with
  |row hφ hn hc hs=>exact⟨_,key (.bool ai) w a.eval _ _ _ M (hyv a),by simpa[raw] using cM.f (.raw _)⟩
 .rename_i id off n I;rw[dy J];refine gP.reads λφ E h' w a _ hp _=>?_
  have h1:=hp x _ (by rw[U];simp[Op.operands]) I;generalize M:a.eval x=z at h1;cases h1 with
  |sl hφ hn hc=>exact⟨_,key (.bool ai) w a.eval _ _ _ M (hyv a),by simpa[raw] using cM.f (.raw _)⟩
 .rename_i cells n I;rw[dy J];refine gP.reads λφ E h' w a _ hp _=>?_
  have h1:=hp x _ (by rw[U];simp[Op.operands]) I;generalize M:a.eval x=z at h1;cases h1 with
  |f h1=>
   cases h1 with
   |sl=>exact⟨_,key (.bool ai) w a.eval _ _ _ M (hyv a),by simpa[raw] using cM.f (.raw _)⟩
 .rename_i cells I;rw[dy J];refine gP.reads λφ E h' w a _ hp _=>?_
  have h1:=hp x _ (by rw[U];simp[Op.operands]) I;generalize M:a.eval x=z at h1;cases h1 with
  |f h1=>
   cases h1 with
   |nil=>exact⟨_,key (.bool ai) w a.eval _ _ _ M (hyv a),.anyb⟩
   |sl=>exact⟨_,key (.bool ai) w a.eval _ _ _ M (hyv a),.anyb⟩
 .rename_i I;rw[dy J];refine gP.reads λφ E h' w a _ hp _=>?_
  have h1:=hp x _ (by rw[U];simp[Op.operands]) I;generalize M:a.eval x=z at h1;cases h1 with
  |emp=>exact⟨_,key (.bool ai) w a.eval _ _ _ M (hyv a),.anyb⟩
 .rename_i v I;split at J
  .rename_i hv;rw[dy J];refine gP.reads λφ E h' w a _ hp _=>?_
   have h1:=fB (hp x _ (by rw[U];simp[Op.operands]) I);unfold An at hv;split at hv
   .exact⟨_,key (.bool ai) w a.eval _ _ _ h1 (hyv a),by simpa[raw] using cM.f (.raw _)⟩
   .cases hv
  .cases J
 .cases J
theorem gz {t:TypeId} {sz:Nat} (hs:fx P t=af sz) (w:World):(sizeOf t).run P w= .ok sz w:=by
 unfold fx at hs;cases hi:P.info? t with
 |none=>rw[hi] at hs;cases hs
 |some i=>rw[hi] at hs;simp at hs;simp[sizeOf,typeInfo,program,hi,nE,hs]
theorem Qh {t:TypeId} {ag:Bool} (hs:DY P t=af ag) (w:World):(isAgg t).run P w= .ok ag w:=by
 unfold DY at hs;cases hi:P.underlying t with
 |none=>rw[hi] at hs;cases hs
 |some d=>
  rw[hi] at hs;simp only[b_,ak] at hs;rw[<- hs];simp only[isAgg,eP,run_underlying hi,cJ];cases d<;>rfl
theorem li (b off i:Nat):(⟨b,off,ah⟩:Addr).add i=⟨b,off+i,ah⟩:=by
 unfold Addr.add;split<;>simp_all
theorem Qg {s:TypeId} {fs:Array Field} {k:Nat} {f:Field} {sz:Nat} (hu:P.underlying s=af (.struct fs)) (hf:fs[k]? =af f) (hs:fx P f.type=af sz) (h0:sz≠0) (w:World) (b i:Nat):
 (Instr.fieldAt s (.pointer (af ⟨b,i,ah⟩)) k).run P w= .ok (.pointer (af ⟨b,i+f.offset,ah⟩)) w:=by
 have h1:=gz hs w;simp[Instr.fieldAt,run_underlying hu,hf,Instr.sureAddr,fieldPlace,h1,h0,li]
theorem amp {s:TypeId} {fs:Array Field} {k:Nat} {f:Field} {sz:Nat} {x:Operand} (U:o.op= .fieldAddr s x k) (hu:P.underlying s=af (.struct fs)) (hf:fs[k]? =af f) (hs:fx P f.type=af sz) (h0:sz≠0) (I:eU (.fad f.offset x) e h nx=af R):gP P o e.get h.get R.eff:=by
 have key:∀ (w:World) (ρ:Operand->Value) (b i:Nat),ρ x= .pointer (af ⟨b,i,ah⟩)->(execOp ρ o).run P w= .ok (.value (.pointer (af ⟨b,i+f.offset,ah⟩))) w:=by
  intro w ρ b i h1;unfold execOp;rw[U];simp only[h1];exact agr (Qg hu hf hs h0 w b i)
 simp only[eU] at I;split at I
 .rename_i id off M;rw[dy I];refine gP.reads λφ E h' w a _ hp _=>?_
  have h1:=hp x _ (by rw[U];simp[Op.operands]) M;generalize J:a.eval x=z at h1;cases h1 with
  |ptr hφ=>exact⟨_,key w a.eval _ _ J,.ptr hφ⟩
 .rename_i cells off M;rw[dy I];refine gP.reads λφ E h' w a _ hp _=>?_
  have h1:=hp x _ (by rw[U];simp[Op.operands]) M;generalize J:a.eval x=z at h1;cases h1 with
  |f h1=>
   cases h1 with
   |ptr _ _ b base us hO hb hcl hu hr=>
    refine ⟨_,key w a.eval _ _ J,.f ?_⟩;rw[sP];exact .ptr cells _ b base us hO hb hcl hu hr
 .cases I
theorem Jy {t el:TypeId} {x y:Operand} {sz b off n c:Nat} {k:IntKind} {i:Int} {ρ:Operand->Value} {w:World} (M:o.op= .indexAddr t x y) (hu:P.underlying t=af (.slice el)) (hs:fx P el=af sz) (J:ρ x= .slice (af ⟨b,off,ah⟩) n c) (I:ρ y= .int k i) (h0:0<=i) (h1:i<n):
 (execOp ρ o).run P w= .ok (.value (.pointer (af ⟨b,off+i.toNat*sz,ah⟩))) w:=by
 have h2:=gz hs w;unfold execOp;rw[M];simp[J,I,Instr.indexAt,asIntOf,run_underlying hu,h2,h0,h1,li]
theorem amn {t el:TypeId} {x y:Operand} {sz:Nat} (J:o.op= .indexAddr t x y) (hu:P.underlying t=af (.slice el)) (hs:fx P el=af sz) (I:eU (.iad sz x y) e h nx=af R):gP P o e.get h.get R.eff:=by
 simp only[eU] at I;split at I
 .rename_i v k j Y hy;have hyv:∀ {φ:PM} {E:Nat->Prop} {h':HF} {w:World} {a:Act},V3 φ E h' w a e o->a.eval y= .int k j:=λhp=>fB (hp y _ (by rw[J];simp[Op.operands]) hy)
  split at I
  .split at I
   .rename_i id sz' n hc;simp only[cY,fX,av,bt,cU] at hc;obtain⟨⟨rfl,h0⟩,h1⟩:=hc;rw[dy I];refine gP.reads λφ E h' w a _ hp _=>?_
    have hr:=hp x _ (by rw[J];simp[Op.operands]) Y;generalize M:a.eval x=z at hr;cases hr with
    |row hφ hn U hsh=>
     refine ⟨_,Jy J hu hs M (hyv hp) h0 h1,?_⟩;rw[bO];exact .ptr hφ
   .cases I
  .split at I
   .rename_i id off n hc;simp only[cY,fX,av,bt] at hc;obtain⟨h0,h1⟩:=hc;rw[dy I];refine gP.reads λφ E h' w a _ hp _=>?_
    have hr:=hp x _ (by rw[J];simp[Op.operands]) Y;generalize M:a.eval x=z at hr;cases hr with
    |sl hφ hn U=>exact⟨_,Jy J hu hs M (hyv hp) h0 h1,.ptr hφ⟩
   .cases I
  .split at I
   .rename_i cells n hc;simp only[cY,fX,av,bt] at hc;obtain⟨h0,h1⟩:=hc;rw[dy I];refine gP.reads λφ E h' w a _ hp _=>?_
    have hr:=hp x _ (by rw[J];simp[Op.operands]) Y;generalize M:a.eval x=z at hr;cases hr with
    |f hr=>
     cases hr with
     |nil=>omega
     |sl _ _ c b base us hn U hO hb hcl Z hr'=>exact⟨_,Jy J hu hs M (hyv hp) h0 h1,.f (.ptr cells _ b base us hO hb hcl Z hr')⟩
   .cases I
  .cases I
 .cases I
theorem ajc {t el:TypeId} {x y:Operand} {n sz:Nat} (J:o.op= .indexAddr t x y) (hu:P.underlying t=af (.array n el)) (hs:fx P el=af sz) (I:eU (.iada n sz x y) e h nx=af R):gP P o e.get h.get R.eff:=by
 have key:∀ (w:World) (ρ:Operand->Value) (b off:Nat) (k:IntKind) (i:Int),ρ x= .pointer (af ⟨b,off,ah⟩)->ρ y= .int k i->0<=i->i<n->(execOp ρ o).run P w= .ok (.value (.pointer (af ⟨b,off+i.toNat*sz,ah⟩))) w:=by
  intro w ρ b off k i h1 h2 h3 h4;have h5:=gz hs w;unfold execOp;rw[J];simp[h1,h2,Instr.indexAt,asIntOf,run_underlying hu,h5,h3,h4,li,Instr.sureAddr]
 simp only[eU] at I;split at I
 .rename_i v k j hx Z;split at I
  .rename_i hc;simp only[cY,fX,av,bt] at hc;obtain⟨h0,h1⟩:=hc;split at I
   .rw[dy I];refine gP.reads λφ E h' w a _ hp _=>?_
    have hr:=hp x _ (by rw[J];simp[Op.operands]) hx;have hyv:=fB (hp y _ (by rw[J];simp[Op.operands]) Z);generalize M:a.eval x=z at hr;cases hr with
    |ptr hφ=>exact⟨_,key w a.eval _ _ k j M hyv h0 h1,.ptr hφ⟩
   .rw[dy I];refine gP.reads λφ E h' w a _ hp _=>?_
    have hr:=hp x _ (by rw[J];simp[Op.operands]) hx;have hyv:=fB (hp y _ (by rw[J];simp[Op.operands]) Z);generalize M:a.eval x=z at hr;cases hr with
    |f hr=>
     cases hr with
     |ptr _ _ b base us hO hb hcl U Y=>
      refine ⟨_,key w a.eval _ _ k j M hyv h0 h1,.f ?_⟩;rw[sP];exact .ptr _ _ b base us hO hb hcl U Y
   .cases I
  .cases I
 .cases I
theorem amq {x:Operand} {i:Nat} (J:o.op= .extract x i) (I:eU (.ext x i) e h nx=af R):gP P o e.get h.get R.eff:=by
 simp only[eU] at I;split at I
 .rename_i l U;split at I
  .rename_i v hv;rw[dy I];refine gP.reads λφ E h' w a _ hp _=>?_
   have hr:=hp x _ (by rw[J];simp[Op.operands]) U;generalize M:a.eval x=z at hr;cases hr with
   |@tup _ vs hl hrr=>
    have hlt:i<vs.length:=by
     rw[hl];exact (bg.1 hv).1
    refine ⟨vs[i],?_,hrr i v _ hv (aB hlt)⟩;unfold execOp;rw[J];simp[M,Instr.extract,hlt]
  .cases I
 .cases I
theorem aml {x y:Operand} {M:Array TypeId} (J:o.op= .call {callee:=.builtin .max,args:=#[x,y],argTypes:=M}) (I:eU (.max x y) e h nx=af R):gP P o e.get h.get R.eff:=by
 simp only[eU] at I;split at I
 .rename_i k a b k' Y U;rw[dy I];refine gP.reads λφ E h' w a _ hp _=>?_
  have h1:=fB (hp x _ (by rw[J];simp[Op.operands,eV]) Y);have h2:=fB (hp y _ (by rw[J];simp[Op.operands,eV]) U);refine ⟨_,?_,.f (.raw _)⟩;unfold execOp;rw[J];simp[resolve,invoke,builtin,Builtin.max_,Builtin.max2,h1,h2,fX]
 .cases I
theorem amk {x y:Operand} {M:Array TypeId} (J:o.op= .call {callee:=.builtin .min,args:=#[x,y],argTypes:=M}) (I:eU (.min x y) e h nx=af R):gP P o e.get h.get R.eff:=by
 simp only[eU] at I;split at I
 .rename_i k a b k' Y U;rw[dy I];refine gP.reads λφ E h' w a _ hp _=>?_
  have h1:=fB (hp x _ (by rw[J];simp[Op.operands,eV]) Y);have h2:=fB (hp y _ (by rw[J];simp[Op.operands,eV]) U);refine ⟨_,?_,.f (.raw _)⟩;unfold execOp;rw[J];simp[resolve,invoke,builtin,Builtin.min_,Builtin.min2,h1,h2,fX]
 .cases I
theorem amg {x:Operand} {t:TypeId} {k:IntKind} (J:o.op= .unOp .neg t x) (I:eU (.bin .sub (.const (.int k 0)) x) e h nx=af R):gP P o e.get h.get R.eff:=by
 simp only[eU,mF,Fl] at I;split at I
 .rename_i u v hu M;cases hu;split at I
  .rename_i r hb;rw[dy I];refine gP.reads λφ E h' w a _ hop _=>?_
   have h1:=fB (hop x _ (by rw[J];simp[Op.operands]) M);refine ⟨r,?_,.f (.raw _)⟩;unfold execOp;rw[J];cases v<;>simp only[uS] at hb<;>try (cases hb;done)
   split at hb
   .rename_i hk;have hk:=eq_of_beq hk;subst hk;simp only[ak] at hb;subst hb;simp[h1,Op.unary,Op.intArith,yS]
   .cases hb
  .cases I
 .cases I
theorem aj4 {x i:Operand} {t:TypeId} (J:o.op= .index t x i) (hu:P.underlying t=af .string) (I:eU (.sidx x i) e h nx=af R):gP P o e.get h.get R.eff:=by
 simp only[eU] at I;split at I
 .rename_i s k j M hi;split at I
  .rename_i h0;simp only[cY,bt] at h0;split at I
   .rename_i b hb;rw[dy I];refine gP.reads λφ E h' w a _ hop _=>?_
    have h1:=fB (hop x _ (by rw[J];simp[Op.operands]) M);have h2:=fB (hop i _ (by rw[J];simp[Op.operands]) hi);refine ⟨_,?_,.f (.raw _)⟩;have hs:s[j.toNat]? =af b:=by
     rw[cI] at hb;obtain⟨hl,he⟩:=cF.1 hb;exact getElem?_pos s j.toNat hl▸gx af he
    unfold execOp;rw[J];simp[Instr.index,run_underlying hu,h1,h2,asIntOf,h0,hs]
   .cases I
  .cases I
 .cases I
theorem amj {f:FuncId} {caps:Array Operand} (Y:o.op= .makeFunc (.func f) #[] caps) (M:eU (.mkf f caps.toList) e h nx=af R):gP P o e.get h.get R.eff:=by
 simp only[eU] at M;split at M
 .rename_i l hl;rw[dy M];refine gP.reads λφ E h' w a _ hp _=>?_
  refine ⟨_,by unfold execOp;rw[Y];rfl,?_⟩;have key:∀ (xs:List Operand) (I:List AV),(∀ x∈xs,x∈o.op.operands)->W7 e xs=af I->I.length=xs.length/\∀ (j:Nat) x v,I[j]? =af x->(xs.map a.eval)[j]? =af v->cM φ (tot E φ h') w x v:=by
   intro xs;induction xs with
   |nil=>intro I _ h;simp only[W7,ak] at h;subst h;exact⟨rfl,λj x v J=>by simp at J⟩
   |cons x xs Z=>
    intro I hm h;simp only[W7] at h;split at h
    .rename_i y hy;split at h
     .rename_i ys' hys;simp only[ak] at h;subst h;obtain⟨h1,h2⟩:=Z ys' (λx J=>hm x (cO _ J)) hys;refine ⟨by simp[h1],λj z v U hv=>?_⟩;cases j with
      |zero=>simp at U hv;subst U;subst hv;exact hp x _ (hm x (dC ..)) hy
      |succ j=>exact h2 j z v (by simpa using U) (by simpa using hv)
     .cases h
    .cases h
  obtain⟨h1,h2⟩:=key caps.toList l (λx J=>by rw[Y];simpa[Op.operands] using J) hl;have h3:(caps.map a.eval)=(caps.toList.map a.eval).toArray:=by
   apply Lf;simp
  have h4:(#[]:Array Operand).map a.eval=#[]:=by simp
  rw[h4,h3];exact .clo (by simp[h1]) h2
 .cases M
end pure
section
variable {P:Program} {o:Oper} {e:Ab} {h:oc} {nx:Nat} {R:Ce}
theorem We {α:Type} {l cs:List α} {off sz:Nat} (h:off+sz<=l.length) (he:(l.drop off).take sz=cs):cs.length=sz/\∀ (j:Nat) x,cs[j]? =af x->l[off+j]? =af x:=by
 subst he;constructor
 .simp;omega
 .intro j x I;rw[cH] at I;split at I
  .rw[g_] at I;exact I
  .cases I
theorem xI (f:Nat->Value) (n j:Nat) (v:Value) (h:((dT n).map f)[j]? =af v):v=f j/\j<n:=by
 rw[a8] at h;rcases b7 j n with hj|hj
 .rw[md hj] at h;simp at h;exact⟨h.symm,hj⟩
 .rw[bR (by simpa using hj)] at h;cases h
def xZ (φ:PM) (O:Nat->Prop) (w:World) (c:BC) (f:Nat->Option Value):Prop:=∀ j x,c.get j=af x->x.isCell=ai/\∃ v,f j=af v/\cM φ O w x v
theorem Wd {φ:PM} {O:Nat->Prop} {w:World} {c:BC} {off sz:Nat} {ag:Bool} {val:AV} (hs:c.sub? off sz ag=af val) {f:Nat->Option Value} (hc:xZ φ O w c f):
 ∃ cs:List Value,cs.length=sz/\(∀ (j:Nat) v,cs[j]? =af v->f (off+j)=af v)/\(ag=aj->sz=1)/\cM φ O w val (if ag then .agg cs.toArray else cs.getD 0 undef):=by
 cases ag with
 |false=>
  simp only[BC.sub?] at hs;split at hs
  .obtain⟨h0,v,h1,h2⟩:=hc off val hs;exact⟨[v],rfl,λj u hu=>by cases j with|zero=>simp at hu;subst hu;exact h1|succ j=>simp at hu,λ_=>rfl,by simpa using h2⟩
  .cases hs
 |true=>
  have fin:∀ (g:Nat->Option AV),(∀ j,j<sz->∃ x,g j=af x/\c.get (off+j)=af x)->
   ∃ cs:List Value,cs.length=sz/\(∀ (j:Nat) v,cs[j]? =af v->f (off+j)=af v)/\∀ (j:Nat) x v,g j=af x->cs[j]? =af v->cM φ O w x v:=by
   intro g hg;refine ⟨(dT sz).map λj=>(f (off+j)).getD undef,by simp,λj v hv=>?_,λj x v I hv=>?_⟩
   .obtain⟨rfl,hj⟩:=xI _ _ _ _ hv;obtain⟨x,_,h2⟩:=hg j hj;obtain⟨_,v,J,_⟩:=hc _ _ h2;rw[J];rfl
   .obtain⟨rfl,hj⟩:=xI _ _ _ _ hv;obtain⟨U,h1,h2⟩:=hg j hj;rw[I] at h1;cases h1;obtain⟨_,v,J,M⟩:=hc _ _ h2;rw[J];exact M
  simp only[BC.sub?] at hs;split at hs
  .rename_i l;split at hs
   .rename_i hle;simp only[ak] at hs;subst hs;obtain⟨hl,hg⟩:=We (a_ hle) (rfl:(l.drop off).take sz=_);obtain⟨cs,h1,h2,J⟩:=fin (λj=>(((l.drop off).take sz)[j]?).map AV.f) (λj hj=>by
     have hlt:j<((l.drop off).take sz).length:=by rw[hl];exact hj
     refine ⟨.f ((l.drop off).take sz)[j],by simp only[aB hlt,b_],?_⟩;simp only[BC.get,hg j _ (aB hlt),b_])
    refine ⟨cs,h1,h2,(λh=>by cases h),.f (.agg _ _ (by rw[h1,hl]) ?_ ?_)⟩
    .intro x I;obtain⟨j,hj⟩:=eC I;exact (hc (off+j) (.f x) (by simp only[BC.get,hg j x hj,b_])).1
    .intro j x v I hv;have:=J j (.f x) v (by simp only[I,b_]) hv;cases this with
     |f h=>exact h
   .cases hs
  .rename_i l;split at hs
   .rename_i hle;simp only[ak] at hs;subst hs;obtain⟨hl,hg⟩:=We (a_ hle) (rfl:(l.drop off).take sz=_);obtain⟨cs,h1,h2,J⟩:=fin (λj=>(((l.drop off).take sz)[j]?)) (λj hj=>by
     have hlt:j<((l.drop off).take sz).length:=by rw[hl];exact hj
     exact⟨_,aB hlt,hg j _ (aB hlt)⟩)
    refine ⟨cs,h1,h2,(λh=>by cases h),.agg (by rw[h1,hl]) ?_ ?_⟩
    .intro x I;obtain⟨j,hj⟩:=eC I;exact (hc (off+j) x (hg j x hj)).1
    .intro j x v I hv;exact J j x v I hv
   .cases hs
  .cases hs
theorem N0 {t:TypeId} {sz:Nat} {ag:Bool} (hs:fx P t=af sz) (I:DY P t=af ag) (w:World) (b off:Nat) (cs:List Value) (hl:cs.length=sz) (hc:∀ (j:Nat) v,cs[j]? =af v->w.cell? ⟨b,off+j,ah⟩=af v) (h1:ag=aj->sz=1):
 (loadVar t ⟨b,off,ah⟩).run P w= .ok (if ag then .agg cs.toArray else cs.getD 0 undef) w:=by
 unfold loadVar;simp only[eP,Qh I w,cJ];cases ag with
 |true=>
  simp only[bG,eP,gz hs w,cJ];rw[<- hl,run_loadCells_list (P:=P) w ⟨b,off,ah⟩ cs (λj v hv=>by rw[li];exact hc j v hv)];rfl
 |false=>
  have h1:=h1 rfl;cases cs with
  |nil=>simp at hl;omega
  |cons v r=>
   have:=hc 0 v rfl;simp only[dl] at this;simp[load,nE,this]
theorem IQ {φ:PM} {O:Nat->Prop} {w:World} {t:TypeId} {sz:Nat} {ag:Bool} (hs:fx P t=af sz) (I:DY P t=af ag) {c:BC} {b base off:Nat} {val:AV} (hv:c.sub? off sz ag=af val)
 (hc:xZ φ O w c λj=>w.cell? ⟨b,base+j,ah⟩):∃ v,(loadVar t ⟨b,base+off,ah⟩).run P w= .ok v w/\cM φ O w val v:=by
 obtain⟨cs,h1,h2,M,J⟩:=Wd hv hc;exact⟨_,N0 hs I w b (base+off) cs h1 (λj v hj=>by rw[sP];exact h2 j v hj) M,J⟩
theorem Sv {φ:PM} {E:Nat->Prop} {h':HF} {w:World} (hrep:qY φ E h' w) {id k:Nat} {b:xc} (hb:h' id=af b) (hk:φ id=af k) (hc:b.c.isCells=ai):xZ φ (tot E φ h') w b.c λj=>w.cell? ⟨k,0+j,ah⟩:=by
 obtain⟨k',h1,_,h2⟩:=hrep.at_ id b hb;rw[hk] at h1;cases h1;obtain⟨arr,M,h4,J⟩:=h2.cells hc;intro j x I;obtain⟨Z,v,Y,U⟩:=J j x I;exact⟨Z,v,by simp[Nx,M,Y],U⟩
theorem VG {φ:PM} {O:Nat->Prop} {w:World} {cells:List FV} {b base:Nat} {us:Nat->Value} (hcl:∀ x∈cells,x.isCell=ai) (hu:∀ j,j<cells.length->w.cell? ⟨b,base+j,ah⟩=af (us j)) (hr:∀ (j:Nat) x,cells[j]? =af x->nu O w x (us j)):
 xZ φ O w (.fz cells) λj=>w.cell? ⟨b,base+j,ah⟩:=by
 intro j y I;simp only[BC.get] at I;cases hc:cells[j]? with
 |none=>rw[hc] at I;cases I
 |some q=>
  rw[hc] at I;simp at I;subst I;have hj:j<cells.length:=(bg.1 hc).1;exact⟨hcl q (ba hc),us j,hu j hj,.f (hr j q hc)⟩
theorem P3 {c:BC} {off sz:Nat} {ag:Bool} {v:AV} (h:c.sub? off sz ag=af v):c.isCells=ai:=by
 cases c with
 |fz=>rfl
 |mx=>rfl
 |mp es=>cases ag<;>simp only[BC.sub?,BC.get] at h<;>(try split at h)<;>cases h
 |it s p=>cases ag<;>simp only[BC.sub?,BC.get] at h<;>(try split at h)<;>cases h
theorem SK {t:TypeId} {sz:Nat} {ag:Bool} (hs:fx P t=af sz) (hag:DY P t=af ag) {p:AV} (I:DX h sz ag p=af R):
 R.wr=[]/\R.nw=[]/\R.N=[]/\∀ (φ:PM) (E:Nat->Prop) (h':HF) (w:World) (pv:Value),(∀ i∈R.rd,h' i=h.get i)->qY φ E h' w->cM φ (tot E φ h') w p pv->
  ∃ J v,pv= .pointer (af J)/\(loadVar t J).run P w= .ok v w/\cM φ (tot E φ h') w R.val v:=by
 unfold DX at I;split at I
 .rename_i id off;split at I
  .rename_i b hb;split at I
   .rename_i v hv;simp only[ak] at I;subst I;refine ⟨rfl,rfl,rfl,λφ E h' w pv hrd hrep hr=>?_⟩;have hh:h' id=af b:=by rw[hrd id (by simp)];exact hb
    cases hr with
    |@ptr _ _ k hφ=>
     obtain⟨u,h1,h2⟩:=IQ hs hag (w:=w) (b:=k) (base:=0) hv (Sv hrep hh hφ (P3 hv));rw[bO] at h1;exact⟨_,u,rfl,h1,h2⟩
   .cases I
  .cases I
 .rename_i cells off;split at I
  .rename_i v hv;rw[dy I];refine ⟨rfl,rfl,rfl,λφ E h' w pv hrd hrep hr=>?_⟩;cases hr with
   |f hr=>
    cases hr with
    |ptr _ _ b base us hO hb hcl hu hr=>
     obtain⟨u,h1,h2⟩:=IQ (φ:=φ) (O:=tot E φ h') hs hag (w:=w) (b:=b) (base:=base) hv (VG hcl hu hr);exact⟨_,u,rfl,h1,h2⟩
  .cases I
 .cases I
theorem aj8 {t:TypeId} {x:Operand} {sz:Nat} {ag:Bool} (J:o.op= .load t x) (hs:fx P t=af sz) (hag:DY P t=af ag) (I:eU (.load sz ag x) e h nx=af R):gP P o e.get h.get R.eff:=by
 simp only[eU] at I;split at I
 .rename_i p Y;obtain⟨h1,h2,U,M⟩:=SK hs hag I;obtain⟨val,rd,wr,nw,N⟩:=R;simp only at h1 h2 U M;subst h1;subst h2;subst U;refine gP.reads λφ E h' w a hrd hp hrep=>?_
  obtain⟨ad,v,h5,h6,Z⟩:=M φ E h' w _ hrd hrep (hp x _ (by rw[J];simp[Op.operands]) Y);refine ⟨v,?_,Z⟩;unfold execOp;rw[J];simp[Instr.loadAt,h5,Instr.sureAddr,h6]
 .cases I
theorem Wu {φ:PM} {O:Nat->Prop} {w:World} {t:TypeId} {sz:Nat} {ag:Bool} (hs:fx P t=af sz) (hag:DY P t=af ag) {c:BC} {off:Nat} {val:AV} (hv:c.sub? off sz ag=af val) {vs:List Value}
 (hc:xZ φ O w c λj=>vs[j]?):∃ v,(part t vs.toArray off).run P w= .ok v w/\cM φ O w val v:=by
 obtain⟨cs,h1,h2,J,I⟩:=Wd hv hc;refine ⟨_,?_,I⟩;unfold part;simp only[eP,Qh hag w,cJ];cases ag with
 |true=>
  simp only[bG,eP,gz hs w,cJ];have:vs.toArray.extract off (off+sz)=cs.toArray:=by
   apply Lf;simp only[Array.toList_extract,List.extract_eq_take_drop];apply List.ext_getElem?;intro j;rw[show off+sz-off=sz from by omega,cH,g_];rcases b7 j sz with hj|hj
   .rw[aE hj];have:=h2 j _ (aB (by omega:j<cs.length));rw[this,aB (by omega:j<cs.length)]
   .rw[aA (by omega),bR (by omega)]
  rw[this];rfl
 |false=>
  have M:=J rfl;cases cs with
  |nil=>simp at h1;omega
  |cons v r=>
   have:=h2 0 v rfl;simp only[dl] at this;simp[this]
theorem Sw {φ:PM} {O:Nat->Prop} {w:World} {l:List AV} {vs:List Value} (hl:vs.length=l.length) (hcl:∀ x∈l,x.isCell=ai) (hr:∀ (j:Nat) x v,l[j]? =af x->vs[j]? =af v->cM φ O w x v):xZ φ O w (.mx l) λj=>vs[j]? :=by
 intro j x I;simp only[BC.get] at I;have hj:j<vs.length:=by rw[hl];exact (bg.1 I).1
 exact⟨hcl x (ba I),vs[j],aB hj,hr j x _ I (aB hj)⟩
theorem Pp {φ:PM} {O:Nat->Prop} {w:World} {l:List FV} {vs:List Value} (hl:vs.length=l.length) (hcl:∀ x∈l,x.isCell=ai) (hr:∀ (j:Nat) x v,l[j]? =af x->vs[j]? =af v->nu O w x v):xZ φ O w (.fz l) λj=>vs[j]? :=by
 intro j x I;simp only[BC.get] at I;cases hc:l[j]? with
 |none=>rw[hc] at I;cases I
 |some q=>
  rw[hc] at I;simp at I;subst I;have hj:j<vs.length:=by rw[hl];exact (bg.1 hc).1
  exact⟨hcl q (ba hc),vs[j],aB hj,.f (hr j q _ hc (aB hj))⟩
theorem KM {φ:PM} {O:Nat->Prop} {w:World} {t:TypeId} {sz:Nat} {ag:Bool} (hs:fx P t=af sz) (hag:DY P t=af ag) {x:AV} {z:Value} (hr:cM φ O w x z) {off:Nat} {val:AV}
 (hv:(∃ l,x= .agg l/\(BC.mx l).sub? off sz ag=af val)\/(∃ l,x= .f (.agg l)/\(BC.fz l).sub? off sz ag=af val)):∃ cs v,z= .agg cs/\(part t cs off).run P w= .ok v w/\cM φ O w val v:=by
 rcases hv with ⟨l,rfl,hv⟩|⟨l,rfl,hv⟩
 .cases hr with
  |agg hl hcl hr=>
   obtain⟨v,h1,h2⟩:=Wu hs hag hv (Sw hl hcl hr);exact⟨_,v,rfl,h1,h2⟩
 .cases hr with
  |f hr=>
   cases hr with
   |agg _ vs hl hcl hr=>
    obtain⟨v,h1,h2⟩:=Wu (φ:=φ) hs hag hv (Pp hl hcl hr);exact⟨_,v,rfl,h1,h2⟩
theorem amo {s:TypeId} {fs:Array Field} {k:Nat} {f:Field} {sz:Nat} {ag:Bool} {x:Operand} (M:o.op= .field s x k) (hu:P.underlying s=af (.struct fs)) (hf:fs[k]? =af f) (hs:fx P f.type=af sz) (hag:DY P f.type=af ag) (I:eU (.fld f.offset sz ag x) e h nx=af R):gP P o e.get h.get R.eff:=by
 have fin:∀ (y:AV) (val:AV),mF e x=af y->((∃ l,y= .agg l/\(BC.mx l).sub? f.offset sz ag=af val)\/(∃ l,y= .f (.agg l)/\(BC.fz l).sub? f.offset sz ag=af val))->rv val=af R->gP P o e.get h.get R.eff:=by
  intro y val J hv U;rw[dy U];refine gP.reads λφ E h' w a _ hp _=>?_
  obtain⟨cs,v,h1,h2,Y⟩:=KM hs hag (hp x _ (by rw[M];simp[Op.operands]) J) hv;refine ⟨v,?_,Y⟩;unfold execOp;rw[M];simp[Instr.field,run_underlying hu,hf,h1,asAgg,h2]
 simp only[eU] at I;split at I
 .rename_i l J;split at I
  .rename_i v hv;exact fin _ v J (.inl ⟨l,rfl,hv⟩) I
  .cases I
 .rename_i l J;split at I
  .rename_i v hv;exact fin _ v J (.inr ⟨l,rfl,hv⟩) I
  .cases I
 .cases I
theorem amm {t el:TypeId} {n sz:Nat} {ag:Bool} {x y:Operand} (J:o.op= .index t x y) (hu:P.underlying t=af (.array n el)) (hs:fx P el=af sz) (hag:DY P el=af ag) (I:eU (.idx n sz ag x y) e h nx=af R):gP P o e.get h.get R.eff:=by
 simp only[eU] at I;split at I
 .rename_i v0 k j U M;split at I
  .rename_i hc;simp only[cY,fX,av,bt] at hc;obtain⟨h0,h1⟩:=hc;have fin:∀ (val:AV),((∃ l,v0= .agg l/\(BC.mx l).sub? (j.toNat*sz) sz ag=af val)\/(∃ l,v0= .f (.agg l)/\(BC.fz l).sub? (j.toNat*sz) sz ag=af val))->rv val=af R->gP P o e.get h.get R.eff:=by
    intro val hv Y;rw[dy Y];refine gP.reads λφ E h' w a _ hp _=>?_
    have hyv:=fB (hp y _ (by rw[J];simp[Op.operands]) M);obtain⟨cs,v,h3,h4,h5⟩:=KM hs hag (hp x _ (by rw[J];simp[Op.operands]) U) hv;refine ⟨v,?_,h5⟩;have Z:=gz hs w;unfold execOp;rw[J];simp[Instr.index,run_underlying hu,hyv,asIntOf,h3,h0,h1,Z,h4]
   split at I
   .rename_i l;split at I
    .rename_i v hv;exact fin v (.inl ⟨l,rfl,hv⟩) I
    .cases I
   .rename_i l;split at I
    .rename_i v hv;exact fin v (.inr ⟨l,rfl,hv⟩) I
    .cases I
   .cases I
  .cases I
 .cases I
theorem ajb {t el:TypeId} {x:Operand} (M:o.op= .call {callee:=.builtin .len,args:=#[x],argTypes:=#[t]}) (hu:P.underlying t=af (.slice el)) (I:eU (.len x) e h nx=af R):gP P o e.get h.get R.eff:=by
 simp only[eU] at I;split at I
 .rename_i y U;split at I
  .rename_i n hn;rw[dy I];refine gP.reads λφ E h' w a _ hp _=>?_
   have hr:=hp x _ (by rw[M];simp[Op.operands,eV]) U;refine ⟨_,?_,.f (.raw _)⟩;have J:∃ A c,a.eval x= .slice A n c:=by
    generalize a.eval x=z at hr;unfold AV.slen at hn;split at hn<;>try (simp only[ak] at hn;subst hn)
    .cases hr with
     |f hr=>cases hr with
      |nil=>exact⟨_,_,rfl⟩
      |sl=>exact⟨_,_,rfl⟩
    .cases fB hr;exact⟨_,_,rfl⟩
    .cases hr;exact⟨_,_,rfl⟩
    .cases hr;exact⟨_,_,rfl⟩
    .cases hr;exact⟨_,_,rfl⟩
    .cases hn
   obtain⟨A,c,J⟩:=J;unfold execOp;rw[M];simp[resolve,invoke,builtin,Builtin.len_,run_underlying hu,J,goInt]
  .cases I
 .cases I
theorem aja {t:TypeId} {x:Operand} (J:o.op= .call {callee:=.builtin .len,args:=#[x],argTypes:=#[t]}) (hu:P.underlying t=af .string) (I:eU (.lens x) e h nx=af R):gP P o e.get h.get R.eff:=by
 simp only[eU] at I;split at I
 .rename_i s M;rw[dy I];refine gP.reads λφ E h' w a _ hp _=>?_
  have hr:=fB (hp x _ (by rw[J];simp[Op.operands,eV]) M);refine ⟨_,?_,.f (.raw _)⟩;unfold execOp;rw[J];simp[resolve,invoke,builtin,Builtin.len_,run_underlying hu,hr,goInt]
 .cases I
theorem aj9 {t k v:TypeId} {x:Operand} (J:o.op= .call {callee:=.builtin .len,args:=#[x],argTypes:=#[t]}) (hu:P.underlying t=af (.map k v)) (I:eU (.lenm x) e h nx=af R):gP P o e.get h.get R.eff:=by
 simp only[eU] at I;split at I
 .rename_i id U;split at I
  .rename_i ty es hid;simp only[ak] at I;subst I;refine gP.reads λφ E h' w a hrd hp hrep=>?_
   have hr:=hp x _ (by rw[J];simp[Op.operands,eV]) U;have hh:h' id=af ⟨ty,.mp es⟩:=by rw[hrd id (by simp)];exact hid
   generalize M:a.eval x=z at hr;cases hr with
   |@mp _ b hφ=>
    obtain⟨b',h1,_,ob,h2,h3⟩:=hrep.at_ id _ hh;rw[hφ] at h1;cases h1;obtain⟨ents,clock,rfl,Z,_⟩:=h3;have Y:ents.size=es.length:=by have:=gx al Z;simpa using this
    refine ⟨_,?_,.f (.raw _)⟩;unfold execOp;rw[J];simp[resolve,invoke,builtin,Builtin.len_,run_underlying hu,M,goInt,getObj,nE,h2,Y]
  .cases I
 .cases I
end
structure Fw (w w':World) (k:Nat) (ob:Obj):Prop where
 os:w'.os=w.os
 tape:w'.tape=w.tape
 output:w'.output=w.output
 size:w'.heap.size=w.heap.size
 at_:w'.heap[k]? =af ob
 other:∀ j,j≠k->w'.heap[j]? =w.heap[j]?
 shp:∀ j,w'.shape? j=w.shape? j
structure S1 (w w':World) (ob:Obj):Prop where
 os:w'.os=w.os
 tape:w'.tape=w.tape
 output:w'.output=w.output
 size:w'.heap.size=w.heap.size+1
 at_:w'.heap[w.heap.size]? =af ob
 other:∀ j,j<w.heap.size->w'.heap[j]? =w.heap[j]?
theorem qY.wset {φ:PM} {E:Nat->Prop} {h:HF} {w w':World} (r:qY φ E h w) {id k:Nat} {b b':xc} {ob:Obj} (hb:h id=af b) (hk:φ id=af k) (I:Fw w w' k ob) (hob:jy φ (tot E φ h) w b' ob) (nw:HF) (hnw:nw id=af b'):
 je φ φ h (eX h [id] nw) w w'/\qY φ E (eX h [id] nw) w':=by
 have hdom:∀ i,(∃ x,eX h [id] nw i=af x)↔∃ x,h i=af x:=λi=>by
  unfold eX;by_cases hi:i=id
  .subst hi;simp[hnw,hb]
  .simp[hi]
 have hown:∀ j,own φ (eX h [id] nw) j↔own φ h j:=λj=>by
  constructor
  .rintro⟨i,x,h1,h2⟩;obtain⟨y,M⟩:=(hdom i).1 ⟨x,h1⟩;exact⟨i,y,M,h2⟩
  .rintro⟨i,x,h1,h2⟩;obtain⟨y,M⟩:=(hdom i).2 ⟨x,h1⟩;exact⟨i,y,M,h2⟩
 have m:je φ φ h (eX h [id] nw) w w':=by
  refine ⟨λ_ _ h=>h,⟨I.os,I.tape,I.output,by rw[I.size];exact bP _,λj hj ho=>?_,λj _=>I.shp j⟩,λj _ h=>(hown j).1 h⟩;exact I.other j (λe=>ho (e▸⟨id,b,hb,hk⟩))
 refine ⟨m,⟨λi j x y kk hi hj h1 h2=>?_,λi x hi=>?_,λk hk=>dz (r.el k hk) m.ext.size,λg cells hg=>m.keepF (r.gl g cells hg)⟩⟩
 .obtain⟨x',U⟩:=(hdom i).1 ⟨x,hi⟩;obtain⟨Z,J⟩:=(hdom j).1 ⟨y,hj⟩;exact r.inj i j x' Z kk U J h1 h2
 .by_cases hid:i=id
  .subst hid;have:x=b':=by unfold eX at hi;simp[hnw] at hi;exact hi.symm
   subst this;obtain⟨k',h1,h2,_⟩:=r.at_ i b hb;rw[hk] at h1;cases h1;exact⟨k,hk,h2,ob,I.at_,hob.mono λ_ _ h=>m.keep h⟩
  .have Y:h i=af x:=by unfold eX at hi;simpa[hid] using hi
   obtain⟨k',h1,h2,ob',h3,h4⟩:=r.at_ i x Y;have hne:k'≠k:=λe=>hid (r.inj i id x b k Y hb (e▸h1) hk)
   exact⟨k',h1,h2,ob',by rw[I.other k' hne];exact h3,h4.mono λ_ _ h=>m.keep h⟩
theorem qY.wnew {φ:PM} {E:Nat->Prop} {h:HF} {w w':World} (r:qY φ E h w) {id:Nat} (hid:φ id=ah) {b:xc} {ob:Obj} (M:S1 w w' ob) (hob:jy φ (tot E φ h) w b ob) (del:List Nat) (nw:HF) (hnw:nw id=af b) (hdel:∀ i∈del,i≠id->nw i=ah):
 ∃ φ',φ' id=af w.heap.size/\je φ φ' h (eX h (id::del) nw) w w'/\(∀ i k,φ' i=af k->φ i=af k\/i∈[id])/\qY φ' E (eX h (id::del) nw) w':=by
 have hsub:∀ i x,eX h (id::del) nw i=af x->i≠id->h i=af x/\i∉del:=λi x U hi=>by
  unfold eX at U;by_cases hd:i∈del
  .rw[aE (by simp[hd]),hdel i hd hi] at U;cases U
  .rw[aA (by simp[hi,hd])] at U;exact⟨U,hd⟩
 have hlt:∀ i x k,h i=af x->φ i=af k->k<w.heap.size:=λi x k hi hk=>by
  obtain⟨k',h1,_,ob',Y,_⟩:=r.at_ i x hi;rw[hk] at h1;cases h1;exact (cF.1 Y).1
 have hφ:∀ i,i≠id->(if i=id then af w.heap.size else φ i)=φ i:=λi hi=>by simp[hi]
 have m:je φ (λi=>if i=id then af w.heap.size else φ i) h (eX h (id::del) nw) w w':=by
  refine ⟨λi k hk=>?_,⟨M.os,M.tape,M.output,by rw[M.size];omega,λj hj _=>M.other j hj,λj hj=>?_⟩,?_⟩
  .have:i≠id:=λe=>by rw[e,hid] at hk;cases hk
   rw[hφ i this];exact hk
  .unfold rQ;rw[M.other j hj]
  .rintro j hj ⟨i,x,h1,h2⟩;by_cases hi:i=id
   .simp[hi] at h2;omega
   .have Y:φ i=af j:=by simpa[hi] using h2
    exact⟨i,x,(hsub i x h1 hi).1,Y⟩
 refine ⟨_,by simp,m,λi k hk=>?_,⟨λi j x y k hi hj h1 h2=>?_,λi x hi=>?_,λk hk=>dz (r.el k hk) m.ext.size,λg cells hg=>m.keepF (r.gl g cells hg)⟩⟩
 .by_cases hi:i=id
  .right;simp[hi]
  .left;rw[hφ i hi] at hk;exact hk
 .by_cases I:i=id
  .by_cases J:j=id
   .rw[I,J]
   .exfalso;rw[hφ j J] at h2;have:=hlt j y k (hsub j y hj J).1 h2;simp[I] at h1;omega
  .rw[hφ i I] at h1;have hix:=(hsub i x hi I).1;by_cases J:j=id
   .exfalso;have:=hlt i x k hix h1;simp[J] at h2;omega
   .rw[hφ j J] at h2;exact r.inj i j x y k hix (hsub j y hj J).1 h1 h2
 .by_cases I:i=id
  .subst I;have:x=b:=by unfold eX at hi;simp[hnw] at hi;exact hi.symm
   subst this;refine ⟨w.heap.size,by simp,λhe=>?_,ob,M.at_,hob.mono λ_ _ h=>m.keep h⟩;have:=r.el _ he;omega
  .obtain⟨k,h1,h2,ob',Y,Z⟩:=r.at_ i x (hsub i x hi I).1;refine ⟨k,by rw[hφ i I];exact h1,h2,ob',?_,Z.mono λ_ _ h=>m.keep h⟩;rw[M.other k (hlt i x k (hsub i x hi I).1 h1)];exact Y
theorem qZ (w:World) (ob:Obj):S1 w {w with heap:=w.heap.push ob} ob:=by
 refine ⟨rfl,rfl,rfl,by simp,by simp,λj hj=>?_⟩;rw[Array.getElem?_push,aA (by omega)]
theorem S1.drawn {w w':World} {ob:Obj} (d:Nat) (h:S1 {w with drawn:=d} w' ob):S1 w w' ob:=⟨h.os,h.tape,h.output,h.size,h.at_,h.other⟩
theorem gP.makes {P:Program} {o:Oper} {e:Ab} {h:HF} {rd:List Nat} {nx:Nat} {b:xc} {val:AV}
 (hv:∀ (φ:PM) (E:Nat->Prop) (h':HF) (w:World) (a:Act),(∀ i∈rd,h' i=h i)->V3 φ E h' w a e o->qY φ E h' w->
   ∃ v w' ob,(execOp a.eval o).run P w= .ok (.value v) w'/\S1 w w' ob/\jy φ (tot E φ h') w b ob/\∀ φ' O,φ' nx=af w.heap.size->cM φ' O w' val v):
 gP P o e.get h ⟨val,rd,[nx],ji [(nx,b)],[nx]⟩:=by
 intro φ E h' w a h1 h2 Z I Y;obtain⟨v,w',ob,hrun,U,hob,hval⟩:=hv φ E h' w a h1 (λx y M J=>tO I Z M J) I;obtain⟨φ',g1,g2,g3,g4⟩:=I.wnew (id:=nx) (Y nx (by simp)) U hob [] (ji [(nx,b)]) (by simp[ji]) (by simp);unfold HE;rw[hrun];exact⟨v,φ',rfl,g2,g3,g4,hval φ' _ g1⟩
theorem gP.writes {P:Program} {o:Oper} {e:Ab} {h:HF} {rd:List Nat} {id:Nat} {b b':xc} {val:AV} (hb:h id=af b)
 (hv:∀ (φ:PM) (E:Nat->Prop) (h':HF) (w:World) (a:Act),(∀ i∈rd,h' i=h i)->h' id=af b->V3 φ E h' w a e o->qY φ E h' w->
   ∃ r w' k ob,(execOp a.eval o).run P w= .ok r w'/\φ id=af k/\Fw w w' k ob/\jy φ (tot E φ h') w b' ob/\(∃ v,(r= .value v\/r= .skip/\v=undef)/\cM φ (tot E φ (eX h' [id] (ji [(id,b')]))) w' val v)):
 gP P o e.get h ⟨val,rd,[id],ji [(id,b')],[]⟩:=by
 intro φ E h' w a h1 h2 h3 I h5;obtain⟨r,w',k,ob,hrun,hk,Z,hob,v,hr,hval⟩:=hv φ E h' w a h1 (by rw[h2 id (by simp)];exact hb) (λx y Y U=>tO I h3 Y U) I;obtain⟨M,J⟩:=I.wset (id:=id) (by rw[h2 id (by simp)];exact hb) hk Z hob (ji [(id,b')]) (by simp[ji]);unfold HE;rw[hrun];rcases hr with rfl|⟨rfl,rfl⟩
 .exact⟨v,φ,rfl,M,λ_ _ h=>.inl h,J,hval⟩
 .exact⟨undef,φ,rfl,M,λ_ _ h=>.inl h,J,hval⟩
theorem lK {l:List AV} (h:gK l=ai):∀ x∈l,x.isCell=ai:=by
 induction l with
 |nil=>intro x I;cases I
 |cons y l J=>
  simp only[gK,av] at h;intro x I;rcases bl.1 I with rfl|I
  .exact h.1
  .exact J h.2 x I
theorem pR:∀ {l:List AV} {fs:List FV},xX l=af fs->l=fs.map .f
 |[],fs,h=>by simp only[xX,ak] at h;subst h;rfl
 |.f x::r,fs,h=>by
  simp only[xX] at h;split at h
  .rename_i l hl;simp only[ak] at h;subst h;rw[pR hl];rfl
  .cases h
 |.ptr _ _::_,_,h=>by simp[xX] at h
 |.sl _ _ _::_,_,h=>by simp[xX] at h
 |.row _ _ _::_,_,h=>by simp[xX] at h
 |.mp _::_,_,h=>by simp[xX] at h
 |.emp::_,_,h=>by simp[xX] at h
 |.agg _::_,_,h=>by simp[xX] at h
 |.tup _::_,_,h=>by simp[xX] at h
 |.clo _ _::_,_,h=>by simp[xX] at h
def Cs (φ:PM) (O:Nat->Prop) (w:World) (l:List AV) (vs:List Value):Prop:=vs.length=l.length/\(∀ x∈l,x.isCell=ai)/\∀ (j:Nat) x v,l[j]? =af x->vs[j]? =af v->cM φ O w x v
theorem BC.get_toMx {c:BC} (hc:c.isCells=ai) (j:Nat):c.get j=c.toMx[j]? :=by
 cases c with
 |fz l=>simp[BC.get,BC.toMx]
 |mx l=>rfl
 |mp _=>cases hc
 |it _ _=>cases hc
theorem BC.len_toMx {c:BC} (hc:c.isCells=ai):c.len=c.toMx.length:=by
 cases c with
 |fz l=>simp[BC.len,BC.toMx]
 |mx l=>rfl
 |mp _=>cases hc
 |it _ _=>cases hc
theorem nP (l:List AV):(pu l).toMx=l/\(pu l).isCells=ai:=by
 unfold pu;cases h:xX l with
 |none=>exact⟨rfl,rfl⟩
 |some fs=>exact⟨(pR h).symm,rfl⟩
theorem qe {φ:PM} {O:Nat->Prop} {w:World} {ty:TypeId} {c:BC} (hc:c.isCells=ai) {arr:Array Value} (hl:c.toMx.length<=arr.size)
 (h:∀ (j:Nat) x,c.toMx[j]? =af x->x.isCell=ai/\∃ v,arr[j]? =af v/\cM φ O w x v):jy φ O w ⟨ty,c⟩ (.cells arr ty (0,0)):=by
 have h2:vG φ O w c arr:=⟨by rw[BC.len_toMx hc];exact hl,λj x I=>h j x (by rw[<- BC.get_toMx hc];exact I)⟩
 unfold jy;cases hb:c with
 |fz l=>rw[hb] at h2;exact⟨arr,rfl,h2⟩
 |mx l=>rw[hb] at h2;exact⟨arr,rfl,h2⟩
 |mp _=>rw[hb] at hc;cases hc
 |it _ _=>rw[hb] at hc;cases hc
theorem IB {φ:PM} {O:Nat->Prop} {w:World} {ty:TypeId} {l:List AV} {vs:List Value} (h:Cs φ O w l vs):jy φ O w ⟨ty,pu l⟩ (.cells vs.toArray ty (0,0)):=by
 obtain⟨h1,h2⟩:=nP l;refine qe h2 (by rw[h1];simp[h.1]) λj x I=>?_
 rw[h1] at I;have hj:j<vs.length:=by rw[h.1];exact (bg.1 I).1
 exact⟨h.2.1 x (ba I),vs[j],by simp[hj],h.2.2 j x _ I (aB hj)⟩
theorem U1 {φ:PM} {O:Nat->Prop} {w:World} {x:AV} {v:Value} (h:cM φ O w x v) (hc:gK x.cs=ai):Cs φ O w x.cs v.cells.toList:=by
 have one:x.cs=[x]->v.cells=#[v]->Cs φ O w x.cs v.cells.toList:=λh1 h2=>by
  rw[h1] at hc ⊢;rw[h2];exact⟨rfl,lK hc,λj y u I hu=>by cases j with|zero=>simp at I hu;subst I;subst hu;exact h|succ j=>simp at I⟩
 cases h with
 |ptr h=>exact one rfl rfl
 |sl h _ _=>exact one rfl rfl
 |row h _ _ _=>exact one rfl rfl
 |emp=>exact one rfl rfl
 |anyb=>exact one rfl rfl
 |mp h=>exact one rfl rfl
 |clo _ _=>exact one rfl rfl
 |tup _ _=>exact cV hc (by simp[AV.cs,gK,AV.isCell])
 |@agg l vs hl hcl hr=>exact⟨hl,hcl,hr⟩
 |@f y u hf=>
  cases hf with
  |raw v=>
   have hv:v.oneCell'=ai:=by
    have:(AV.f (.raw v)).cs=[.f (.raw v)]:=rfl;rw[this] at hc;simpa[gK,AV.isCell,FV.isCell] using hc
   refine one rfl ?_;cases v<;>first|rfl|simp[Value.oneCell'] at hv
  |nil=>exact one rfl rfl
  |sl=>exact one rfl rfl
  |ptr=>exact one rfl rfl
  |agg l vs hl hcl hr=>
   refine ⟨by simp[AV.cs,Value.cells,hl],lK hc,λj y u I hu=>?_⟩;simp only[AV.cs,a8] at I;cases hq:l[j]? with
   |none=>rw[hq] at I;cases I
   |some q=>rw[hq] at I;simp at I;subst I;exact .f (hr j q u hq (by simpa[Value.cells] using hu))
theorem nu.one {O:Nat->Prop} {w:World} {x:FV} {v:Value} (h:nu O w x v) (hc:x.isCell=ai):v.oneCell'=ai:=by
 cases h with
 |raw v=>exact hc
 |nil=>rfl
 |sl=>rfl
 |ptr=>rfl
 |agg=>cases hc
theorem cM.one {φ:PM} {O:Nat->Prop} {w:World} {x:AV} {v:Value} (h:cM φ O w x v) (hc:x.isCell=ai):v.oneCell'=ai:=by
 cases h with
 |f h=>exact h.one hc
 |ptr=>rfl
 |sl=>rfl
 |row=>rfl
 |emp=>rfl
 |anyb=>rfl
 |mp=>rfl
 |agg=>cases hc
 |tup=>cases hc
 |clo=>rfl
theorem Cs.one {φ:PM} {O:Nat->Prop} {w:World} {l:List AV} {vs:List Value} (h:Cs φ O w l vs):∀ v∈vs,v.oneCell'=ai:=by
 intro v hv;obtain⟨j,hj⟩:=eC hv;have hlt:j<l.length:=by rw[<- h.1];exact (bg.1 hj).1
 exact (h.2.2 j _ v (aB hlt) hj).one (h.2.1 _ (uZ hlt))
theorem Cs.append {φ:PM} {O:Nat->Prop} {w:World} {l J:List AV} {vs vs':List Value} (h:Cs φ O w l vs) (h':Cs φ O w J vs'):Cs φ O w (l++J) (vs++vs'):=by
 refine ⟨by simp[h.1,h'.1],λx I=>(bQ.1 I).elim (h.2.1 x) (h'.2.1 x),λj x v I hv=>?_⟩;rcases b7 j l.length with hj|hj
 .rw[bJ hj] at I;rw[bJ (by rw[h.1];exact hj)] at hv;exact h.2.2 j x v I hv
 .rw[bV hj] at I;rw[bV (by rw[h.1];exact hj),h.1] at hv;exact h'.2.2 _ x v I hv
theorem Cs.take {φ:PM} {O:Nat->Prop} {w:World} {l:List AV} {vs:List Value} (h:Cs φ O w l vs) (n:Nat):Cs φ O w (l.take n) (vs.take n):=by
 refine ⟨by simp[h.1],λx I=>h.2.1 x (gY I),λj x v I hv=>?_⟩;rw[cH] at I hv;split at I
 .rename_i hj;rw[aE hj] at hv;exact h.2.2 j x v I hv
 .cases I
theorem Cs.drop {φ:PM} {O:Nat->Prop} {w:World} {l:List AV} {vs:List Value} (h:Cs φ O w l vs) (n:Nat):Cs φ O w (l.drop n) (vs.drop n):=by
 refine ⟨by simp[h.1],λx I=>h.2.1 x (List.mem_of_mem_drop I),λj x v I hv=>?_⟩;rw[g_] at I hv;exact h.2.2 _ x v I hv
theorem Cs.splice {φ:PM} {O:Nat->Prop} {w:World} {l I:List AV} {vs vs':List Value} (h:Cs φ O w l vs) (h':Cs φ O w I vs') (off:Nat):Cs φ O w (splice l off I) (splice vs off vs'):=by
 unfold AI.splice;rw[h'.1];exact ((h.take off).append h').append (h.drop _)
theorem Cs.raws {φ:PM} {O:Nat->Prop} {w:World} (z:List Value) (J:mD z=ai):Cs φ O w (z.map raw) z:=by
 refine ⟨by simp,λx I=>?_,λj x v I hv=>?_⟩
 .obtain⟨v,hv,rfl⟩:=dt.1 I;exact gu.1 J v hv
 .rw[a8] at I;rw[hv] at I;simp at I;subst I;exact .f (.raw v)
theorem Cs.mono {φ φ':PM} {O O':Nat->Prop} {w w':World} {l:List AV} {vs:List Value} (h:Cs φ O w l vs) (hk:∀ x v,cM φ O w x v->cM φ' O' w' x v):Cs φ' O' w' l vs:=⟨h.1,h.2.1,λj x v I hv=>hk _ _ (h.2.2 j x v I hv)⟩
theorem Fw.setRow {w:World} {k:Nat} {arr arr':Array Value} {ty:TypeId} (I:w.heap[k]? =af (.cells arr ty (0,0))) (hs:arr'.size=arr.size):Fw w (w.setRow k arr') k (.cells arr' ty (0,0)):=by
 refine ⟨rfl,rfl,rfl,by simp,setRow_heap w k arr arr' ty (0,0) I,λj hj=>setRow_other w k j arr' hj,λj=>?_⟩;unfold rQ;by_cases hj:j=k
 .subst hj;rw[setRow_heap w j arr arr' ty (0,0) I,I];simp[hs]
 .rw[setRow_other w k j arr' hj]
section
variable {P:Program} {o:Oper} {e:Ab} {h:oc} {nx:Nat} {R:Ce}
theorem tR {t:TypeId} {z:List Value} (I:s7 P t=af z) (w:World):∃ v,(zeroValue t).run P w= .ok v w/\v.cells.toList=z/\∃ i,P.info? t=af i/\i.zero=af v:=by
 unfold s7 at I;cases hi:P.info? t with
 |none=>rw[hi] at I;cases I
 |some i=>
  rw[hi] at I;simp only[aH] at I;cases hv:i.zero with
  |none=>rw[hv] at I;cases I
  |some v=>
   rw[hv] at I;simp only[b_,ak] at I;exact⟨v,by simp[zeroValue,typeInfo,hi,hv],I,i,rfl,hv⟩
theorem afs {t:TypeId} {z:List Value} (Y:o.op= .alloc t) (U:s7 P t=af z) (hc:mD z=ai) (M:eU (.alloc t z) e h nx=af R):gP P o e.get h.get R.eff:=by
 simp only[eU,ak] at M;subst M;refine gP.makes λφ E h' w a _ _ _=>?_
 obtain⟨v,h1,h2,_⟩:=tR U w;refine ⟨.pointer (af ⟨w.heap.size,0,ah⟩),{w with heap:=w.heap.push (.cells v.cells t)},.cells v.cells t (0,0),?_,qZ w _,?_,λφ' O hφ=>.ptr hφ⟩
 .unfold execOp;rw[Y];simp[Instr.alloc,h1,newVar,newRow,newObj,nE]
 .have I:BC.toMx (.fz (z.map .raw))=z.map raw:=by simp[BC.toMx,raw]
  refine qe rfl (by rw[I,<-h2];simp) λj x J=>?_
  rw[I] at J;have cs:=Cs.raws (φ:=φ) (O:=tot E φ h') (w:=w) z hc;have hj:j<z.length:=by have:=(bg.1 J).1;simpa using this
  refine ⟨cs.2.1 x (ba J),z[j],?_,cs.2.2 j x _ J (aB hj)⟩;have:v.cells.toList[j]? =af z[j]:=by rw[h2];exact aB hj
  simpa using this
theorem amt {t:TypeId} {x:Operand} (J:o.op= .box t x) (I:eU (.box t x) e h nx=af R):gP P o e.get h.get R.eff:=by
 simp only[eU] at I;split at I
 .rename_i v M;split at I
  .rename_i hc;simp only[ak] at I;subst I;refine gP.makes λφ E h' w a _ hp _=>?_
   have hr:=U1 (hp x _ (by rw[J];simp[Op.operands]) M) hc;refine ⟨.pointer (af ⟨w.heap.size,0,ah⟩),{w with heap:=w.heap.push (.cells (a.eval x).cells t)},.cells (a.eval x).cells t (0,0),?_,qZ w _,?_,λφ' O hφ=>.ptr hφ⟩
   .unfold execOp;rw[J];simp[Instr.box,newVar,newRow,newObj,nE]
   .have:=IB (ty:=t) hr;simpa using this
  .cases I
 .cases I
theorem mG {α:Type} {l vs:List α} {off:Nat} (hle:off+vs.length<=l.length) (j:Nat):(splice l off vs)[j]? =if j<off then l[j]? else if j<off+vs.length then vs[j-off]? else l[j]? :=by
 unfold splice;rw[gH];have h1:(l.take off).length=off:=by simp;omega
 by_cases hj:j<off
 .rw[aE hj,bJ (by rw[h1];exact hj),cH,aE hj]
 .rw[aA hj,bV (by omega),h1];by_cases I:j<off+vs.length
  .rw[aE I,bJ (by omega)]
  .rw[aA I,bV (by omega),g_];congr 1;omega
theorem oC {α:Type} {l vs:List α} {off:Nat} (hle:off+vs.length<=l.length):(splice l off vs).length=l.length:=by
 unfold splice;simp;omega
theorem Ro (off:Nat):∀ (vs:List Value) (k:Nat) (arr:Array Value),off+k+vs.length<=arr.size->∀ j:Nat,
 ((vs.zipIdx k).foldl (λcs (p:Value×Nat)=>cs.setIfInBounds (off+p.2) p.1) arr)[j]? =if j<off+k then arr[j]? else if j<off+k+vs.length then vs[j-(off+k)]? else arr[j]?
 |[],k,arr,_,j=>by
  simp only[List.zipIdx_nil,List.foldl_nil,jY,dl];split<;>rfl
 |v::vs,k,arr,hle,j=>by
  simp only[bZ] at hle;rw[List.zipIdx_cons,xh,Ro off vs (k+1) _ (by simp;omega) j];simp only[bZ];by_cases h1:j<off+k
  .rw[aE (by omega),aE h1,pV (by omega)]
  .by_cases h2:j=off+k
   .subst h2;rw[aE (by omega),aA (by omega),aE (by omega)];simp[show off+k<arr.size by omega]
   .rw[aA (by omega),aA h1];by_cases I:j<off+k+(vs.length+1)
    .rw[aE (by omega),aE I,show j-(off+k)=(j-(off+(k+1)))+1 from by omega];simp
    .rw[aA (by omega),aA I,pV (by omega)]
theorem Rn (off:Nat) (c:Array Value) (l:List Value) (hle:off+c.size<=l.length):(c.zipIdx.foldl (λcs (p:Value×Nat)=>cs.setIfInBounds (off+p.2) p.1) l.toArray)=(splice l off c.toList).toArray:=by
 rw[<- Array.foldl_toList,Array.toList_zipIdx];apply Array.ext_getElem?;intro j;rw[Ro off c.toList 0 l.toArray (by simpa using hle) j];simp only[dl,ku];rw[mG (by simpa using hle)]
theorem OQ {φ:PM} {E:Nat->Prop} {h':HF} {w:World} {a:Act} (hp:V3 φ E h' w a e o) {place:Nat->Option (Nat×Nat)}:∀ (ps:List (Nat×Operand)) (ps':List (Nat×Nat×Operand)) (cells cs:List AV) (vs:List Value),
 (ps'.length=ps.length)->(∀ (j:Nat) i x,ps[j]? =af (i,x)->∃ of sz,ps'[j]? =af (of,sz,x)/\place i=af (of,sz))->(∀ p∈ps,p.2∈o.op.operands)->Cs φ (tot E φ h') w cells vs->zD cells e ps'=af cs->
 ∃ vs',Instr.fill place vs.toArray (ps.map λp=>(p.1,a.eval p.2))=af vs'.toArray/\Cs φ (tot E φ h') w cs vs'
 |[],ps',cells,cs,vs,hl,_,_,hcs,hf=>by
  cases ps' with
  |nil=>simp only[zD,ak] at hf;subst hf;exact⟨vs,rfl,hcs⟩
  |cons _ _=>simp at hl
 |(i,x)::ps,ps',cells,cs,vs,hl,hpl,hm,hcs,hf=>by
  obtain⟨of,sz,h1,h2⟩:=hpl 0 i x rfl;cases ps' with
  |nil=>simp at h1
  |cons p ps'=>
   simp at h1;subst h1;simp only[zD] at hf;split at hf
   .rename_i v hv;split at hf
    .rename_i hc;simp only[av,cU] at hc;obtain⟨⟨M,J⟩,I⟩:=hc;have hr:=U1 (hp x v (hm _ (dC ..)) hv) I;have hsz:(a.eval x).cells.size=sz:=by have:=hr.1;simp at this;omega
     have hle:of+sz<=vs.length:=by rw[hcs.1];exact a_ J
     obtain⟨vs',Y,U⟩:=OQ hp ps ps' _ cs _ (by simpa using hl) (λj i x hj=>by have:=hpl (j+1) i x (by simpa using hj);simpa using this) (λp hp=>hm p (cO _ hp)) (hcs.splice hr of) hf;refine ⟨vs',?_,U⟩;simp only[gq,Instr.fill,h2];have hcd:((decide ((a.eval x).cells.size≠sz))||decide (of+(a.eval x).cells.size>vs.toArray.size))=aj:=by
      rw[hsz];simp;omega
     rw[aA (by rw[hcd];simp)];have:=Rn of (a.eval x).cells vs (by rw[hsz];exact hle);rw[<- Y,<-this]
    .cases hf
   .cases hf
theorem Ep {t:TypeId}:∀ (ps:List (Nat×Operand)) (ps':List (Nat×Nat×Operand)),xr P t ps=af ps'->ps'.length=ps.length/\∀ (j:Nat) i x,ps[j]? =af (i,x)->∃ of sz,ps'[j]? =af (of,sz,x)/\BE P t i=af (of,sz)
 |[],ps',h=>by simp only[xr,ak] at h;subst h;exact⟨rfl,λj i x M=>by simp at M⟩
 |(i,x)::ps,ps',h=>by
  simp only[xr] at h;split at h
  .rename_i of sz l h1 h2;simp only[ak] at h;subst h;obtain⟨Y,U⟩:=Ep ps l h2;refine ⟨by simp[Y],λj J I hj=>?_⟩;cases j with
   |zero=>simp at hj;obtain⟨rfl,rfl⟩:=hj;exact⟨of,sz,rfl,h1⟩
   |succ j=>simpa using U j J I (by simpa using hj)
  .cases h
theorem IG (w:World):∀ (fs:List Field),(fs.all λf=>(fx P f.type).isSome)=ai->(fs.mapM (λf=>do pure (f.offset,<-sizeOf f.type)):Sem (List (Nat×Nat))).run P w= .ok (fs.map λf=>(f.offset,(fx P f.type).getD 0)) w
 |[],_=>by simp
 |f::fs,h=>by
  simp only[List.all_cons,av] at h;obtain⟨sz,hs⟩:=iP.1 h.1;have h1:=gz hs w;have I:=IG w fs h.2;simp only[List.mapM_cons,eP,h1,cJ,oU,I,gq,hs,uW]
theorem XC {t:TypeId} {ps:Array (Nat×Operand)} {z:List Value} {ps':List (Nat×Nat×Operand)} (M:o.op= .build t ps) (hz:s7 P t=af z) (hc:mD z=ai) (hps:xr P t ps.toList=af ps')
 (hu:(∃ fs,P.underlying t=af (.struct fs)/\(fs.toList.all λf=>(fx P f.type).isSome)=ai)\/∃ n el sz,P.underlying t=af (.array n el)/\fx P el=af sz) (I:eU (.build z ps') e h nx=af R):gP P o e.get h.get R.eff:=by
 simp only[eU] at I;split at I
 .rename_i cs hf;rw[dy I];refine gP.reads λφ E h' w a _ hp _=>?_
  obtain⟨v,h1,h2,_⟩:=tR hz w;have hcells:v.cells=z.toArray:=by rw[<- h2]
  obtain⟨g1,g2⟩:=Ep ps.toList ps' hps;have hops:∀ p∈ps.toList,p.2∈o.op.operands:=λp hp=>by
   rw[M];simp only[Op.operands,List.mem_toArray,dt];exact⟨p,hp,rfl⟩
  have hmap:(ps.map λx:Nat×Operand=>(x.1,a.eval x.2)).toList=ps.toList.map λp=>(p.1,a.eval p.2):=by simp
  have fin:∀ place:Nat->Option (Nat×Nat),(∀ i,BE P t i≠ah->place i=BE P t i)->∃ vs':List Value,Instr.fill place v.cells (ps.map λx:Nat×Operand=>(x.1,a.eval x.2)).toList=af vs'.toArray/\cM φ (tot E φ h') w (MF cs) (.agg vs'.toArray):=by
   intro place hpl;obtain⟨vs',k1,k2⟩:=OQ (place:=place) hp ps.toList ps' _ cs z g1 (λj i x hj=>by
    obtain⟨of,sz,Z,Y⟩:=g2 j i x hj;exact⟨of,sz,Z,by rw[hpl i (by rw[Y];simp),Y]⟩) hops (Cs.raws z hc) hf
   refine ⟨vs',by rw[hmap,hcells];exact k1,?_⟩;unfold MF;cases hfs:xX cs with
   |none=>exact .agg k2.1 k2.2.1 k2.2.2
   |some fs=>
    have he:=pR hfs;refine .f (.agg fs vs' (by rw[k2.1,he];simp) (λx J=>k2.2.1 (.f x) (by rw[he];exact dt.2 ⟨x,J,rfl⟩)) λj x u J hu=>?_);have:=k2.2.2 j (.f x) u (by rw[he,a8,J];rfl) hu;cases this with
    |f h=>exact h
  rcases hu with ⟨fs,hu,hall⟩|⟨n,el,sz,hu,hs⟩
  .obtain⟨vs',k1,k2⟩:=fin (λi=>(fs.map λf=>(f.offset,(fx P f.type).getD 0))[i]?) (λi hi=>by
    unfold BE at hi ⊢;rw[hu] at hi ⊢;simp only[Array.getElem?_map] at hi ⊢;cases hf:fs[i]? with
    |none=>rw[hf] at hi;simp at hi
    |some f=>
     simp only[b_,aH];cases hs:fx P f.type with
     |none=>rw[hf] at hi;simp[hs] at hi
     |some sz=>simp)
   refine ⟨_,?_,k2⟩;have hm:=IG w fs.toList hall;have U:(fs.mapM (λf=>do pure (f.offset,<-sizeOf f.type)):Sem (Array (Nat×Nat))).run P w= .ok (fs.map λf=>(f.offset,(fx P f.type).getD 0)) w:=by
    rw[Array.mapM_eq_mapM_toList];simp only[Sem.run_map,hm,cJ];congr 1;apply Lf;simp
   unfold execOp;rw[M];simp only[Instr.build,eP,h1,cJ,run_underlying hu,U,oU,k1]
  .obtain⟨vs',k1,k2⟩:=fin (λi=>af (i*sz,sz)) (λi hi=>by
    unfold BE;rw[hu];simp[hs])
   refine ⟨_,?_,k2⟩;have h3:=gz hs w;unfold execOp;rw[M];simp only[Instr.build,eP,h1,cJ,run_underlying hu,h3,oU,k1]
 .cases I
end
section
variable {P:Program} {o:Oper} {e:Ab} {h:oc} {nx:Nat} {R:Ce}
theorem sF {t el:TypeId} (h:AZ P t=af el):P.underlying t=af (.slice el):=by
 unfold AZ at h;split at h
 .rename_i e hu;simp only[ak] at h;subst h;exact hu
 .cases h
theorem mI (z:List Value):∀ n,(repl z n).length=n*z.length
 |0=>by simp[repl]
 |n+1=>by simp[repl,mI z n,iW];omega
theorem Cz (z:List Value):∀ (n j:Nat),j<n*z.length->(repl z n)[j]? =(z[j%z.length]?).map .raw
 |0,j,h=>by simp at h
 |n+1,j,h=>by
  have I:0<z.length:=by
   rcases Lc z.length with h0|h0
   .rw[h0] at h;simp at h
   .exact h0
  rw[repl];rcases b7 j z.length with hj|hj
  .rw[bJ (by simpa using hj),a8,Nat.mod_eq_of_lt hj]
  .rw[bV (by simpa using hj),bY,Cz z n (j-z.length) (by rw[iW] at h;omega),Nat.mod_eq_sub_mod hj]
theorem XL {v:Value} {z:List Value} (hv:v.cells.toList=z) (n sz:Nat) (hl:z.length=sz) (hsz:sz≠0) (j:Nat) (hj:j<n*sz):
 ((yL (n*sz)).map (λi=>v.cells[i%v.cells.size]!))[j]? =z[j%sz]? :=by
 have hs:v.cells.size=sz:=by rw[<- hl,<-hv];simp
 have hlt:j%sz<v.cells.size:=by rw[hs];exact Nat.mod_lt _ (by omega)
 rw[Array.getElem?_map,Array.getElem?_range];simp only[hj,bG,b_,hs];rw[<- hv,cI,getElem!_pos v.cells _ hlt,im hlt]
theorem Cs.repl {φ:PM} {O:Nat->Prop} {w:World} {v:Value} {z:List Value} (hv:v.cells.toList=z) (n sz:Nat) (hl:z.length=sz) (hsz:sz≠0) (hc:mD z=ai):
 Cs φ O w ((repl z n).map .f) ((yL (n*sz)).map (λi=>v.cells[i%v.cells.size]!)).toList:=by
 have key:∀ (j:Nat) (x:AV),((AI.repl z n).map AV.f)[j]? =af x->∃ u,z[j%sz]? =af u/\x=raw u/\j<n*sz:=by
  intro j x I;rw[a8] at I;have hj:j<n*z.length:=by
   rcases b7 j (n*z.length) with h|h
   .exact h
   .rw[bR (by rw[mI];exact h)] at I;cases I
  rw[Cz z n j hj,hl] at I;cases hu:z[j%sz]? with
  |none=>rw[hu] at I;cases I
  |some u=>rw[hu] at I;simp at I;exact⟨u,rfl,I.symm,by rw[<- hl];exact hj⟩
 refine ⟨by simp[mI,hl],λx I=>?_,λj x u I hu=>?_⟩
 .obtain⟨j,hj⟩:=eC I;obtain⟨u,h1,rfl,_⟩:=key j x hj;exact gu.1 hc u (ba h1)
 .obtain⟨J,h1,rfl,hj⟩:=key j x I;rw[cI,XL hv n sz hl hsz j hj,h1] at hu;cases hu;exact .f (.raw _)
theorem ams {t el:TypeId} {n sz:Nat} {ps:Array (Nat×Operand)} {z:List Value} {ps':List (Nat×Nat×Operand)} (Y:o.op= .buildSlice t n ps) (hu:P.underlying t=af (.slice el)) (hz:s7 P el=af z) (hs:fx P el=af sz) (hc:mD z=ai) (hl:z.length=sz) (hsz:sz≠0) (hb:n*sz<=65536)
 (hps:xr P t ps.toList=af ps') (I:eU (.bsl el sz n z ps') e h nx=af R):gP P o e.get h.get R.eff:=by
 simp only[eU] at I;split at I
 .rename_i cs hf;simp only[ak] at I;subst I;refine gP.makes λφ E h' w a _ hp _=>?_
  obtain⟨v,h1,h2,_⟩:=tR hz w;obtain⟨g1,g2⟩:=Ep ps.toList ps' hps;have hops:∀ p∈ps.toList,p.2∈o.op.operands:=λp hp=>by
   rw[Y];simp only[Op.operands,List.mem_toArray,dt];exact⟨p,hp,rfl⟩
  have hmap:(ps.map λx:Nat×Operand=>(x.1,a.eval x.2)).toList=ps.toList.map λp=>(p.1,a.eval p.2):=by simp
  obtain⟨vs',k1,k2⟩:=OQ (place:=λi=>af (i*sz,sz)) hp ps.toList ps' _ cs _ g1 (λj i x hj=>by
   obtain⟨of,s',Z,J⟩:=g2 j i x hj;unfold BE at J;rw[hu] at J;simp[hs] at J;obtain⟨rfl,rfl⟩:=J;exact⟨_,_,Z,rfl⟩) hops (Cs.repl h2 n sz hl hsz hc) hf
  have hcells:(yL (n*sz)).map ((if n*sz=0 then #[] else v.cells)[·%(if n*sz=0 then #[] else v.cells).size]!)=((yL (n*sz)).map (λi=>v.cells[i%v.cells.size]!)).toList.toArray:=by
   by_cases h0:n*sz=0
   .simp[h0]
   .rw[Array.toArray_toList];simp only[aA h0]
  have hlen:vs'.length=n*sz:=by
   have e1:=k2.1;have e2:cs.length=((AI.repl z n).map AV.f).length:=by
    have:∀ (ps':List (Nat×Nat×Operand)) (U M:List AV),zD U e ps'=af M->M.length=U.length:=by
     intro ps';induction ps' with
     |nil=>intro U M h;simp only[zD,ak] at h;rw[h]
     |cons p ps' ih=>
      intro U M h;obtain⟨of,s',x⟩:=p;simp only[zD] at h;split at h
      .split at h
       .rename_i hcc;simp only[av,cU] at hcc;rw[ih _ _ h,oC (by rw[hcc.1.1];exact a_ hcc.1.2)]
       .cases h
      .cases h
    exact this ps' _ _ hf
   rw[e1,e2];simp[mI,hl]
  refine ⟨.slice (af ⟨w.heap.size,0,ah⟩) n n,{w with heap:=w.heap.push (.cells vs'.toArray el)},.cells vs'.toArray el (0,0),?_,qZ w _,IB k2,λφ' O hφ=>?_⟩
  .have h3:=gz hs w;have hk:Instr.fill (λi=>af (i*sz,sz)) ((yL (n*sz)).map ((if n*sz=0 then #[] else v.cells)[·%(if n*sz=0 then #[] else v.cells).size]!)) (ps.map λx:Nat×Operand=>(x.1,a.eval x.2)).toList=af vs'.toArray:=by
    rw[hcells,hmap];exact k1
   unfold execOp;rw[Y];simp only[Instr.buildSlice,eP,run_underlying hu,cJ,h3];rw[aA (by omega)];by_cases h0:n*sz=0
   .simp only[aE h0] at hk ⊢;simp only[eP,oU,cJ,hk,newRow,newObj,nE]
   .simp only[aA h0] at hk ⊢;simp only[eP,oU,cJ,h1,hk,newRow,newObj,nE]
  .simp only[];split
   .rename_i h0;subst h0;exact .emp
   refine .row hφ (bP _) ?_ ⟨el,?_⟩
   .have:n<=n*sz:=Nat.le_mul_of_pos_right _ (by omega);unfold maxLen;omega
   .unfold rQ;simp[hlen]
 .cases I
end
theorem qY.wren {φ:PM} {E:Nat->Prop} {h:HF} {w w':World} (r:qY φ E h w) {id nx k:Nat} {b b':xc} {ob:Obj} (hb:h id=af b) (hk:φ id=af k) (hnx:φ nx=ah) (U:Fw w w' k ob) (hob:jy φ (tot E φ h) w b' ob) (nw:HF) (hnw:nw nx=af b') (hnid:nw id=ah):
 ∃ φ',φ' nx=af k/\je φ φ' h (eX h [nx,id] nw) w w'/\(∀ i k,φ' i=af k->φ i=af k\/i∈[nx])/\qY φ' E (eX h [nx,id] nw) w':=by
 have hne:nx≠id:=λe=>by rw[e,hk] at hnx;cases hnx
 have hsub:∀ i x,eX h [nx,id] nw i=af x->i≠nx->h i=af x/\i≠id:=λi x Y hi=>by
  unfold eX at Y;by_cases hd:i=id
  .subst hd;simp[hnid] at Y
  .simp[hi,hd] at Y;exact⟨Y,hd⟩
 have hφ:∀ i,i≠nx->(if i=nx then af k else φ i)=φ i:=λi hi=>by simp[hi]
 have m:je φ (λi=>if i=nx then af k else φ i) h (eX h [nx,id] nw) w w':=by
  refine ⟨λi k' M=>?_,⟨U.os,U.tape,U.output,by rw[U.size];exact bP _,λj hj ho=>?_,λj _=>U.shp j⟩,?_⟩
  .have:i≠nx:=λe=>by rw[e,hnx] at M;cases M
   rw[hφ i this];exact M
  .exact U.other j (λe=>ho (e▸⟨id,b,hb,hk⟩))
  .rintro j hj ⟨i,x,h1,h2⟩;by_cases hi:i=nx
   .simp[hi] at h2;subst h2;exact⟨id,b,hb,hk⟩
   .have Z:φ i=af j:=by simpa[hi] using h2
    exact⟨i,x,(hsub i x h1 hi).1,Z⟩
 refine ⟨_,by simp,m,λi k' M=>?_,⟨λi j x y kk hi hj h1 h2=>?_,λi x hi=>?_,λk hk=>dz (r.el k hk) m.ext.size,λg cells hg=>m.keepF (r.gl g cells hg)⟩⟩
 .by_cases hi:i=nx
  .right;simp[hi]
  .left;rw[hφ i hi] at M;exact M
 .by_cases I:i=nx
  .by_cases J:j=nx
   .rw[I,J]
   .exfalso;rw[hφ j J] at h2;simp[I] at h1;subst h1;obtain⟨q1,q2⟩:=hsub j y hj J;exact q2 (r.inj j id y b k q1 hb h2 hk)
  .rw[hφ i I] at h1;obtain⟨p1,p2⟩:=hsub i x hi I;by_cases J:j=nx
   .exfalso;simp[J] at h2;subst h2;exact p2 (r.inj i id x b k p1 hb h1 hk)
   .rw[hφ j J] at h2;exact r.inj i j x y kk p1 (hsub j y hj J).1 h1 h2
 .by_cases I:i=nx
  .subst I;have:x=b':=by unfold eX at hi;simp[hnw] at hi;exact hi.symm
   subst this;obtain⟨k',h1,h2,_⟩:=r.at_ id b hb;rw[hk] at h1;cases h1;exact⟨k,by simp,h2,ob,U.at_,hob.mono λ_ _ h=>m.keep h⟩
  .obtain⟨p1,p2⟩:=hsub i x hi I;obtain⟨k',h1,h2,ob',Z,h4⟩:=r.at_ i x p1;have hne':k'≠k:=λe=>p2 (r.inj i id x b k p1 hb (e▸h1) hk)
   exact⟨k',by rw[hφ i I];exact h1,h2,ob',by rw[U.other k' hne'];exact Z,h4.mono λ_ _ h=>m.keep h⟩
theorem qY.cs {φ:PM} {E:Nat->Prop} {h':HF} {w:World} (hrep:qY φ E h' w) {id k:Nat} {b:xc} (hb:h' id=af b) (hk:φ id=af k) (hc:b.c.isCells=ai):
 ∃ arr,w.heap[k]? =af (.cells arr b.ty (0,0))/\Cs φ (tot E φ h') w b.c.toMx (arr.toList.take b.c.toMx.length)/\b.c.toMx.length<=arr.size:=by
 obtain⟨k',h1,_,h2⟩:=hrep.at_ id b hb;rw[hk] at h1;cases h1;obtain⟨arr,Z,M,J⟩:=h2.cells hc;rw[BC.len_toMx hc] at M;refine ⟨arr,Z,⟨by simp;omega,λx I=>?_,λj x v I hv=>?_⟩,M⟩
 .obtain⟨j,hj⟩:=eC I;exact (J j x (by rw[BC.get_toMx hc];exact hj)).1
 .obtain⟨_,u,Y,U⟩:=J j x (by rw[BC.get_toMx hc];exact I);rw[cH] at hv;split at hv
  .rw[cI,Y] at hv;cases hv;exact U
  .cases hv
section
variable {P:Program} {o:Oper} {e:Ab} {h:oc} {nx:Nat} {R:Ce}
theorem Nk {t:TypeId} {b:Nat} (hb:Fp P t=af b):∃ i,P.info? t=af i/\i.bytes=b:=by
 unfold Fp at hb;cases hi:P.info? t with
 |none=>rw[hi] at hb;cases hb
 |some i=>rw[hi] at hb;simp at hb;exact⟨i,rfl,hb⟩
theorem Io {n b:Nat} (h:bc n b=ai):n<=1099511627776/\n*b<=1099511627776:=by
 simp only[bc,av] at h;exact⟨a_ h.1,a_ h.2⟩
theorem ZG {n:Int} (h1: -9223372036854775808<=n) (h2:n<=9223372036854775807):oX .i64 n=n:=by
 rw[<- yS];have:(cY (-9223372036854775808) n&&cY n 9223372036854775807)=ai:=by simp[cY,h1,h2]
 simp only[HI,Mn,this,bG]
theorem aj7 {t el:TypeId} {sz bytes:Nat} {z:List Value} {l c:Operand} (ho:o.op= .makeSlice t l c) (hu:P.underlying t=af (.slice el)) (hz:s7 P el=af z) (hs:fx P el=af sz) (hb:Fp P el=af bytes) (hc:mD z=ai) (hl:z.length=sz) (hsz:sz≠0)
 (J:eU (.mksl el sz bytes z l c) e h nx=af R):gP P o e.get h.get R.eff:=by
 simp only[eU] at J;split at J
 .rename_i k1 n k2 m I hy;split at J
  .rename_i hcd;simp only[cY,av,bt] at hcd;obtain⟨⟨h0,h1⟩,h2⟩:=hcd;obtain⟨r1,r2⟩:=Io h2;simp only[ak] at J;subst J;refine gP.makes λφ E h' w a _ hp _=>?_
   have e1:=fB (hp l _ (by rw[ho];simp[Op.operands]) I);have e2:=fB (hp c _ (by rw[ho];simp[Op.operands]) hy);obtain⟨v,z1,z2,_⟩:=tR hz w;obtain⟨i,i1,i2⟩:=Nk hb;have s1:=gz hs w;have w1:oX .i64 n=n:=ZG (by omega) (by omega);have w2:oX .i64 m=m:=ZG (by omega) (by omega);have hbm:(bytes:Int)*m=((m.toNat*bytes:Nat):Int):=by
    rw[Int.natCast_mul,G3 (by omega),Int.mul_comm]
   have t1:¬(m<0\/(281474976710656:Int)<bytes*m):=by rw[hbm];omega
   have hr:¬(m.toNat*bytes>roomBytes):=by unfold roomBytes;omega
   have hn0:m.toNat*sz=0->m.toNat=0:=λh=>(Nat.mul_eq_zero.1 h).resolve_right hsz
   let cells:Array Value:=(yL (m.toNat*sz)).map (λi=>v.cells[i%v.cells.size]!)
   refine ⟨.slice (af ⟨w.heap.size,0,ah⟩) n.toNat m.toNat,{w with heap:=w.heap.push (.cells cells el)},.cells cells el (0,0),?_,qZ w _,?_,λφ' O hφ=>?_⟩
   .unfold execOp;rw[ho];by_cases U:m.toNat*sz=0
    .obtain rfl:m=0:=by have:=hn0 U;omega
     obtain rfl:n=0:=by omega
     simp[Instr.makeSlice,run_underlying hu,e1,e2,asInt,asIntOf,typeInfo,i1,w1,askRoom,s1,newRow,newObj,nE,cells];rw[show yL 0=#[] from rfl];simp
    .simp[Instr.makeSlice,run_underlying hu,e1,e2,asInt,asIntOf,typeInfo,i1,i2,w1,w2,t1,show ¬n<0 by omega,show ¬m<n by omega,askRoom,hr,s1,U,z1,newRow,newObj,nE,cells]
   .have cs:=Cs.repl (φ:=φ) (O:=tot E φ h') (w:=w) z2 m.toNat sz hl hsz hc;have hle:n.toNat<=m.toNat:=by omega
    have hlen:n.toNat*sz<=m.toNat*sz:=cG _ hle;refine qe rfl (by simp[BC.toMx,mI,hl,cells];exact hlen) λj x I=>?_
    simp only[BC.toMx,a8] at I;have hj:j<n.toNat*z.length:=by
     rcases b7 j (n.toNat*z.length) with h|h
     .exact h
     .rw[bR (by rw[mI];exact h)] at I;cases I
    have Z:j<m.toNat*z.length:=by rw[hl] at hj ⊢;omega
    rw[Cz z _ j hj,<-Cz z m.toNat j Z] at I;have M:((repl z m.toNat).map AV.f)[j]? =af x:=by rw[a8];exact I
    have Y:j<cells.toList.length:=by simp[cells];rw[<- hl];exact Z
    exact⟨cs.2.1 x (ba M),cells.toList[j],by rw[<- cI];exact aB Y,cs.2.2 j x _ M (aB Y)⟩
   .refine .row hφ (by omega) (by unfold maxLen;omega) ⟨el,?_⟩;unfold rQ;simp[cells]
  .cases J
 .cases J
theorem afr {t:TypeId} {x y:Operand} {sz:Nat} (Y:o.op= .store t x y) (hs:fx P t=af sz) (I:eU (.store sz x y) e h nx=af R):gP P o e.get h.get R.eff:=by
 simp only[eU] at I;split at I
 .rename_i p v hx hy;unfold KH at I;split at I
  .rename_i id off;split at I
   .rename_i b hb;split at I
    .rename_i hl;split at I
     .rename_i c' hput;simp only[ak] at I;subst I;unfold BC.put at hput;split at hput
      .rename_i hcc;simp only[av] at hcc;obtain⟨⟨c1,c2⟩,c3⟩:=hcc;have c2:=a_ c2;have hl:v.cs.length=sz:=by simpa using hl
       have J:c'.toMx=splice b.c.toMx off v.cs/\c'.isCells=ai:=by
        split at hput
        .rename_i l ys hbl hys;simp only[ak] at hput;subst hput;refine ⟨?_,rfl⟩;have hv:=pR hys;rw[hv,hbl];simp only[BC.toMx];unfold splice;simp[kK,List.map_drop]
        .simp only[ak] at hput;subst hput;exact⟨rfl,rfl⟩
       refine gP.writes hb λφ E h' w a hrd Z hp hrep=>?_
       have hr:=U1 (hp y _ (by rw[Y];simp[Op.operands]) hy) c3;have hpx:=hp x _ (by rw[Y];simp[Op.operands]) hx;generalize hz:a.eval x=pv at hpx;cases hpx with
       |@ptr _ _ k hφ=>
        obtain⟨arr,g1,g2,g3⟩:=hrep.cs Z hφ c1;have hvl:(a.eval y).cells.toList.length=sz:=by rw[hr.1];exact hl
        rw[BC.len_toMx c1] at c2;have hst:=run_storeCells_at (P:=P) k off b.ty (a.eval y).cells.toList 0 arr w g1 (by rw[hvl];omega) hr.one
        let arr':Array Value:=(arr.toList.take off++(a.eval y).cells.toList++arr.toList.drop (off+sz)).toArray
        have hsize:arr'.size=arr.size:=by simp only[arr',tC,bm,bA,mE,iC,hvl];omega
        refine ⟨.skip,w.setRow k arr',k,.cells arr' b.ty (0,0),?_,hφ,Fw.setRow g1 hsize,?_,undef,.inr ⟨rfl,rfl⟩,.f (.raw _)⟩
        .have s1:=gz hs w;have hvs:(a.eval y).cells.size=sz:=by simpa using hvl
         simp only[dl,hvl] at hst;unfold execOp;rw[Y];simp[Instr.storeAt,hz,Instr.sureAddr,storeVar,s1,hvs,hst,arr']
        .refine qe J.2 (by rw[J.1,oC (by omega),hsize];exact g3) λj q hq=>?_
         rw[J.1,mG (by omega)] at hq;have ha':arr'[j]? =if j<off then arr.toList[j]? else if j<off+sz then (a.eval y).cells.toList[j-off]? else arr.toList[j]? :=by
          have:=mG (l:=arr.toList) (vs:=(a.eval y).cells.toList) (off:=off) (by have:=hvl;simp only[iC] at this ⊢;omega) j;unfold splice at this;rw[hvl] at this;simp only[arr',ku];exact this
         have old:b.c.toMx[j]? =af q->q.isCell=ai/\∃ u,arr.toList[j]? =af u/\cM φ (tot E φ h') w q u:=λhq=>by
          have hj:j<b.c.toMx.length:=(bg.1 hq).1;have U:j<arr.toList.length:=by simp;omega
          refine ⟨g2.2.1 q (ba hq),arr.toList[j],aB U,g2.2.2 j q _ hq ?_⟩;rw[cH,aE hj,aB U]
         rw[ha'];by_cases h1:j<off
         .rw[aE h1] at hq ⊢;exact old hq
         .rw[aA h1] at hq ⊢;by_cases h2:j<off+sz
          .rw[aE (by omega)] at hq;rw[aE h2];have M:j-off<(a.eval y).cells.toList.length:=by omega
           exact⟨hr.2.1 q (ba hq),_,aB M,hr.2.2 _ q _ hq (aB M)⟩
          .rw[aA (by omega)] at hq;rw[aA h2];exact old hq
      .cases hput
     .cases I
    .cases I
   .cases I
  .cases I
 .cases I
end
section
variable {P:Program} {o:Oper} {e:Ab} {h:oc} {nx:Nat} {R:Ce}
theorem am9 (A:Addr):A.add 0=A:=by cases A;simp[Addr.add]
theorem amb {t el:TypeId} {sz:Nat} {x:Operand} {lo hi mx:Option Operand} (J:o.op= .slice t x lo hi mx) (hu:P.underlying t=af (.slice el)) (hs:fx P el=af sz) (I:eU (.slc sz x lo hi mx) e h nx=af R):gP P o e.get h.get R.eff:=by
 simp only[eU] at I;split at I
 .rename_i v Y;split at I
  ·
   rename_i k k';split at I
   .rename_i hsl;rw[dy I];refine gP.reads λφ E h' w a _ hp _=>?_
    have hr:=hp x _ (by rw[J];simp[Op.operands]) Y;have U:∃ A n c,a.eval x= .slice A n c:=by
     generalize a.eval x=z at hr;obtain⟨n,hn⟩:=iP.1 hsl;unfold AV.slen at hn;split at hn
     .cases hr with
      |f hr=>cases hr with
       |nil=>exact⟨_,_,_,rfl⟩
       |sl=>exact⟨_,_,_,rfl⟩
     .cases fB hr;exact⟨_,_,_,rfl⟩
     .cases hr;exact⟨_,_,_,rfl⟩
     .cases hr;exact⟨_,_,_,rfl⟩
     .cases hr;exact⟨_,_,_,rfl⟩
     .cases hn
    obtain⟨A,n,c,U⟩:=U;have s1:=gz hs w;refine ⟨.slice A 0 0,?_,.emp⟩;unfold execOp;rw[J];have z0:∀ k,a.eval (.const (.int k 0))= .int k 0:=λ_=>rfl
    simp[pD,uM,run_underlying hu,U,jU,kC,asIntOf,s1,z0]
   .cases I
  ·
   rename_i b;split at I
   .rename_i id sz' n k j hb;split at I
    .rename_i hc;simp only[cY,av,bt,cU] at hc;obtain⟨⟨rfl,h0⟩,h1⟩:=hc;split at I
     .rename_i blk hblk;split at I
      .rename_i hcl;simp only[av] at hcl;obtain⟨hcells,hlen⟩:=hcl;have hlen:=a_ hlen;rw[BC.len_toMx hcells] at hlen;simp only[ak] at I;subst I;intro φ E h' w a g1 g2 g3 hrep g5;have hp:V3 φ E h' w a e o:=λx y Y M=>tO hrep g3 Y M
       have hb':h' id=af blk:=by rw[g1 id (by simp[Ce.eff])];exact hblk
       have hr:=hp x _ (by rw[J];simp[Op.operands]) Y;have hbv:=fB (hp b _ (by rw[J];simp[Op.operands]) hb);have hnx:φ nx=ah:=g5 nx (by simp[Ce.eff]);generalize U:a.eval x=z at hr;cases hr with
       |@row _ _ _ c q hφ hn hcap hsh=>
        obtain⟨arr,a1,a2,a3⟩:=hrep.cs hb' hφ hcells;have s1:=gz hs w;have hne:nx≠id:=λe=>by rw[e,hφ] at hnx;cases hnx
        have hnw1:ji [(nx,⟨blk.ty,pu (blk.c.toMx.take (j.toNat*sz'))⟩)] nx=af (⟨blk.ty,pu (blk.c.toMx.take (j.toNat*sz'))⟩:xc):=by simp[ji]
        have hnw2:ji [(nx,⟨blk.ty,pu (blk.c.toMx.take (j.toNat*sz'))⟩)] id=ah:=by
         simp only[ji];rw[aA];intro hb;exact hne (aw hb)
        have a4:=a2.take (j.toNat*sz');obtain⟨φ',p1,p2,p3,p4⟩:=hrep.wren hb' hφ hnx (w':=w) ⟨rfl,rfl,rfl,rfl,a1,λ_ _=>rfl,λ_=>rfl⟩ (b':=⟨blk.ty,pu (blk.c.toMx.take (j.toNat*sz'))⟩) (by
         obtain⟨q1,q2⟩:=nP (blk.c.toMx.take (j.toNat*sz'));refine qe q2 (by rw[q1,bA];omega) λi x Y=>?_
         rw[q1] at Y;have hi:i<((arr.toList.take blk.c.toMx.length).take (j.toNat*sz')).length:=by rw[a4.1];exact (bg.1 Y).1
         refine ⟨a4.2.1 x (ba Y),_,?_,a4.2.2 i x _ Y (aB hi)⟩;have hi':i<arr.size:=by simp at hi;omega
         simp[hi']) _ hnw1 hnw2
        have hrun:(execOp a.eval o).run P w= .ok (.value (.slice (af ⟨q,0,ah⟩) j.toNat c)) w:=by
         unfold execOp;rw[J];simp[pD,uM,run_underlying hu,U,jU,kC,asIntOf,s1,hbv,h0,show j<=c by omega,li]
        unfold HE;rw[hrun];exact⟨_,φ',rfl,p2,p3,p4,.row p1 (by omega) hcap hsh⟩
      .cases I
     .cases I
    .cases I
   .rename_i cells n k j hb;split at I
    .rename_i hc;simp only[cY,av,bt] at hc;obtain⟨⟨h0,h1⟩,h2⟩:=hc;have h2:=a_ h2;rw[dy I];refine gP.reads λφ E h' w a _ hp _=>?_
     have hr:=hp x _ (by rw[J];simp[Op.operands]) Y;have hbv:=fB (hp b _ (by rw[J];simp[Op.operands]) hb);generalize U:a.eval x=z at hr;have s1:=gz hs w;cases hr with
     |f hr=>
      cases hr with
      |nil A c hc=>
       have hj:j=0:=by omega
       subst hj;refine ⟨.slice A 0 c,?_,by simpa using cM.f (.nil A c hc)⟩;unfold execOp;rw[J];cases A<;>simp[pD,uM,run_underlying hu,U,jU,kC,asIntOf,s1,hbv,am9]
      |sl _ _ c q off us hn hc hO hq hcl Z hr=>
       refine ⟨.slice (af ⟨q,off,ah⟩) j.toNat c,?_,.f (.sl _ _ _ _ _ us (by omega) hc hO hq (λy M=>hcl y (gY M)) (λi hi=>Z i (by rw[bA] at hi;omega)) λi y M=>?_)⟩
       .unfold execOp;rw[J];simp[pD,uM,run_underlying hu,U,jU,kC,asIntOf,s1,hbv,h0,show j<=c by omega,li]
       .rw[cH] at M;split at M
        .exact hr i y M
        .cases M
    .cases I
   .cases I
  ·
   rename_i b;split at I
   .rename_i id sz' n k j hb;split at I
    .rename_i hc;simp only[cY,fX,av,bt,cU] at hc;obtain⟨⟨rfl,h0⟩,h1⟩:=hc;rw[dy I];refine gP.reads λφ E h' w a _ hp _=>?_
     have hr:=hp x _ (by rw[J];simp[Op.operands]) Y;have hbv:=fB (hp b _ (by rw[J];simp[Op.operands]) hb);generalize U:a.eval x=z at hr;cases hr with
     |@row _ _ _ c q hφ hn hc hsh=>
      have s1:=gz hs w;refine ⟨.slice (af ⟨q,0+j.toNat*sz',ah⟩) (n-j.toNat) (c-j.toNat),?_,?_⟩
      .unfold execOp;rw[J];simp[pD,uM,run_underlying hu,U,jU,kC,asIntOf,s1,hbv,h0,show j<=n by omega,show ¬c=j.toNat by omega,li]
      .rw[bO];exact .sl hφ (by omega) (by omega)
    .cases I
   .rename_i cells n k j hb;split at I
    .rename_i hc;simp only[cY,av,bt] at hc;obtain⟨⟨h0,h1⟩,h2⟩:=hc;have h2:=a_ h2;rw[dy I];refine gP.reads λφ E h' w a _ hp _=>?_
     have hr:=hp x _ (by rw[J];simp[Op.operands]) Y;have hbv:=fB (hp b _ (by rw[J];simp[Op.operands]) hb);generalize U:a.eval x=z at hr;have s1:=gz hs w;cases hr with
     |f hr=>
      cases hr with
      |nil A c hc=>
       have hj:j=0:=by omega
       subst hj;have hex:∃ A',(execOp a.eval o).run P w= .ok (.value (.slice A' 0 c)) w:=by
        unfold execOp;rw[J];cases A with
        |none=>exact⟨ah,by simp[pD,uM,run_underlying hu,U,jU,kC,asIntOf,s1,hbv]⟩
        |some A=>exact⟨af A,by simp[pD,uM,run_underlying hu,U,jU,kC,asIntOf,s1,hbv,am9]⟩
       obtain⟨A',hex⟩:=hex;exact⟨.slice A' 0 c,hex,by simpa using cM.f (.nil A' c hc)⟩
      |sl _ _ c q off us hn hc hO hq hcl Z hr=>
       by_cases hcj:c=j.toNat
       .refine ⟨.slice (af ⟨q,off,ah⟩) 0 0,?_,?_⟩
        .unfold execOp;rw[J];simp[pD,uM,run_underlying hu,U,jU,kC,asIntOf,s1,hbv,h0,show j<=n by omega,hcj,show n-j.toNat=0 by omega,li]
        .rw[show n-j.toNat=0 by omega];simpa using cM.f (.nil (af ⟨q,off,ah⟩) 0 (by unfold maxLen;omega))
       .refine ⟨.slice (af ⟨q,off+j.toNat*sz,ah⟩) (n-j.toNat) (c-j.toNat),?_,.f (.sl _ _ _ _ _ (λi=>us (j.toNat*sz+i)) (by omega) (by omega) hO hq (λy M=>hcl y (List.mem_of_mem_drop (gY M))) (λi hi=>?_) λi y M=>?_)⟩
        .unfold execOp;rw[J];simp[pD,uM,run_underlying hu,U,jU,kC,asIntOf,s1,hbv,h0,show j<=n by omega,hcj,li]
        .rw[sP];refine Z _ ?_;rw[bA,mE] at hi;omega
        .rw[cH] at M;split at M
         .rw[g_] at M;exact hr _ y M
         .cases M
    .cases I
   .cases I
  .cases I
 .cases I
theorem Z0 {sz:Nat} {x:AV} {src:List AV} {m:Nat} {rd:List Nat} (hrow:x.row? h sz=af (src,m,rd)) {φ:PM} {E:Nat->Prop} {h':HF} {w:World} (hrd:∀ i∈rd,h' i=h.get i) (hrep:qY φ E h' w) {v:Value} (hr:cM φ (tot E φ h') w x v):
 ∃ A c vs,v= .slice A m c/\Cs φ (tot E φ h') w src vs/\vs.length=m*sz/\(A=ah->vs=[])/\(∀ J,A=af J->∀ (j:Nat) u,vs[j]? =af u->w.cell? (J.add j)=af u):=by
 have emp:∀ A c,v= .slice A 0 c->src=[]->m=0->∃ A c vs,v= .slice A m c/\Cs φ (tot E φ h') w src vs/\vs.length=m*sz/\(A=ah->vs=[])/\(∀ J,A=af J->∀ (j:Nat) u,vs[j]? =af u->w.cell? (J.add j)=af u):=by
  rintro A c rfl rfl rfl;exact⟨A,c,[],rfl,⟨rfl,(by intro x I;cases I),(by intro j x v I;simp at I)⟩,by simp,λ_=>rfl,by intro J _ j u hu;simp at hu⟩
 have own:∀ (id off n c k:Nat) (b:xc),φ id=af k->h' id=af b->b.c.isCells=ai->off+n*sz<=b.c.len->v= .slice (af ⟨k,off,ah⟩) n c->src=(b.c.toMx.drop off).take (n*sz)->m=n->
  ∃ A c vs,v= .slice A m c/\Cs φ (tot E φ h') w src vs/\vs.length=m*sz/\(A=ah->vs=[])/\(∀ J,A=af J->∀ (j:Nat) u,vs[j]? =af u->w.cell? (J.add j)=af u):=by
  rintro id off n c k b hφ hb hc hle rfl rfl rfl;obtain⟨arr,g1,Z,g3⟩:=hrep.cs hb hφ hc;rw[BC.len_toMx hc] at hle;refine ⟨_,c,((arr.toList.take b.c.toMx.length).drop off).take (m*sz),rfl,(Z.drop off).take _,?_,(λh=>by cases h),?_⟩
  .simp;omega
  .intro J had j u hu;cases had;rw[li];rw[cH] at hu;split at hu
   .rw[g_,cH] at hu;split at hu
    .rw[cI] at hu;simp[Nx,g1,hu]
    .cases hu
   .cases hu
 unfold AV.row? at hrow;split at hrow
 .rename_i cells n;split at hrow
  .rename_i hle;have hle:=a_ hle;simp only[ak,aD] at hrow;obtain⟨rfl,rfl,rfl⟩:=hrow;cases hr with
   |f hr=>
    cases hr with
    |nil a c hc=>exact emp a c rfl (by simp) rfl
    |sl _ _ c b off us hn hc hO hb hcl hu hr=>
     refine ⟨_,c,(dT (n*sz)).map us,rfl,⟨by simp;omega,λx I=>?_,λj x u I M=>?_⟩,by simp,(λh=>by cases h),?_⟩
     .obtain⟨y,Y,rfl⟩:=dt.1 I;exact hcl y (gY Y)
     .obtain⟨rfl,hj⟩:=xI us _ _ _ M;rw[a8,cH,aE hj] at I;cases hq:cells[j]? with
      |none=>rw[hq] at I;cases I
      |some q=>rw[hq] at I;simp at I;subst I;exact .f (hr j q hq)
     .intro J had j u M;cases had;obtain⟨rfl,hj⟩:=xI us _ _ _ M;rw[li];exact hu j (by omega)
  .cases hrow
 .simp only[ak,aD] at hrow;obtain⟨rfl,rfl,rfl⟩:=hrow;exact emp ah 0 (fB hr) rfl rfl
 .simp only[ak,aD] at hrow;obtain⟨rfl,rfl,rfl⟩:=hrow;cases hr with
  |@emp a=>exact emp a 0 rfl rfl rfl
 .rename_i id sz' n;split at hrow
  .rename_i hsz;split at hrow
   .rename_i b hb;split at hrow
    .rename_i hc;simp only[av] at hc;simp only[ak,aD] at hrow;obtain⟨rfl,rfl,rfl⟩:=hrow;cases hr with
     |@row _ _ _ c k hφ hn U hsh=>
      exact own id 0 n c k b hφ (by rw[hrd id (by simp)];exact hb) hc.1 (by rw[bO];exact a_ hc.2) rfl (by simp) rfl
    .cases hrow
   .cases hrow
  .cases hrow
 .rename_i id off n;split at hrow
  .rename_i b hb;split at hrow
   .rename_i hc;simp only[av] at hc;simp only[ak,aD] at hrow;obtain⟨rfl,rfl,rfl⟩:=hrow;cases hr with
    |@sl _ _ _ c k hφ hn U=>exact own id off n c k b hφ (by rw[hrd id (by simp)];exact hb) hc.1 (a_ hc.2) rfl rfl rfl
   .cases hrow
  .cases hrow
 .cases hrow
theorem adu {sz:Nat} {x:AV} {src:List AV} {m:Nat} {rd:List Nat} (hrow:x.row? h sz=af (src,m,rd)) {φ:PM} {E:Nat->Prop} {h':HF} {w:World} (hrd:∀ i∈rd,h' i=h.get i) (hrep:qY φ E h' w) {v:Value} (hr:cM φ (tot E φ h') w x v) {I el:TypeId} (hk:P.underlying I=af (.slice el)):
 ∃ vs,Src P sz I v m vs w/\Cs φ (tot E φ h') w src vs:=by
 obtain⟨A,c,vs,rfl,h1,h2,U,M⟩:=Z0 hrow hrd hrep hr;refine ⟨vs,?_,h1⟩;cases A with
 |none=>
  have:=U rfl;subst this;have hm:m*sz=0:=by simpa using h2.symm
  refine ⟨.inl ⟨el,hk⟩,λ_=>rfl,run_firstCells_none w sz m m c,run_firstCells_none w.drew sz m m c,by simp[hm],λ_ h=>by cases h⟩
 |some J=>exact Src.ofSlice w hk J m c vs h2 (M J rfl) h1.one
theorem aic {x:Nat}:∀ {l:List Nat},X2 x l=ai↔x∈l
 |[]=>by simp[X2]
 |y::r=>by
  simp only[X2,iZ,aic (l:=r),bl];constructor
  .rintro (h|h)
   .exact .inl (aw h).symm
   .exact .inr h
  .rintro (h|h)
   .subst h;exact .inl (rR x)
   .exact .inr h
theorem ajd {t u el el':TypeId} {d x:Operand} {sz:Nat} (ho:o.op= .call {callee:=.builtin .copy,args:=#[d,x],argTypes:=#[t,u]}) (hu:P.underlying t=af (.slice el)) (hu':P.underlying u=af (.slice el')) (hs:fx P el=af sz) (J:eU (.copy sz d x) e h nx=af R):gP P o e.get h.get R.eff:=by
 simp only[eU] at J;split at J
 .rename_i id sz' n y hd hx;split at J
  .rename_i blk src m rd hblk hrow;split at J
   .rename_i hc;simp only[av,cU,eE] at hc;obtain⟨⟨rfl,hmem⟩,hlen⟩:=hc;split at J
    .rename_i c' hput;simp only[ak] at J;subst J;unfold BC.put at hput;split at hput
     .rename_i hcc;simp only[av] at hcc;obtain⟨⟨c1,Z⟩,c3⟩:=hcc;have Z:=a_ Z;rw[bO] at Z;have M:c'.toMx=splice blk.c.toMx 0 (src.take (iX m n*sz'))/\c'.isCells=ai:=by
       split at hput
       .rename_i l ys hbl hys;simp only[ak] at hput;subst hput;refine ⟨?_,rfl⟩;have hv:=pR hys;rw[hv,hbl];simp only[BC.toMx];unfold splice;simp[kK,List.map_drop]
       .simp only[ak] at hput;subst hput;exact⟨rfl,rfl⟩
      refine gP.writes hblk λφ E h' w a hrd hb' hp hrep=>?_
      have hpd:=hp d _ (by rw[ho];simp[Op.operands,eV]) hd;have hpx:=hp x _ (by rw[ho];simp[Op.operands,eV]) hx;obtain⟨A,c,vs,hv,q1,q2,q3,q4⟩:=Z0 hrow (λi hi=>hrd i (by simp[hi])) hrep hpx;generalize hz:a.eval d=pv at hpd;cases hpd with
      |@row _ _ _ cap k hφ hn hcap hsh=>
       obtain⟨arr,g1,g2,g3⟩:=hrep.cs hb' hφ c1;rw[BC.len_toMx c1] at Z;have hmn:iX m n<=m:=Nat.min_le_left _ _;have hle:iX m n*sz'<=m*sz':=cG _ hmn
       let I:=vs.take (iX m n*sz')
       have hnl:I.length=iX m n*sz':=by simp only[I,bA,q2];omega
       have hsl:(src.take (iX m n*sz')).length=iX m n*sz':=by rw[bA,<-q1.1,q2];omega
       have csn:=q1.take (iX m n*sz');rw[hsl] at Z;have hst:=run_storeCells_at (P:=P) k 0 blk.ty I 0 arr w g1 (by rw[hnl];omega) csn.one
       let arr':Array Value:=(arr.toList.take 0++I++arr.toList.drop (0+iX m n*sz')).toArray
       have hsize:arr'.size=arr.size:=by simp only[arr',tC,bm,bA,mE,iC,hnl];omega
       have hfc:(Ld sz' (iX m n) (.slice A m c)).run P w= .ok I.toArray w:=by
        cases A with
        |none=>
         have:I=[]:=by simp[I,q3 rfl]
         rw[this];exact run_firstCells_none w sz' _ _ _
        |some ad=>exact run_firstCells_some w sz' _ ad m c I hnl (λj u hu=>q4 ad rfl j u (by
          simp only[I,cH] at hu;split at hu
          .exact hu
          .cases hu))
       refine ⟨.value (.int .i64 (iX m n)),w.setRow k arr',k,.cells arr' blk.ty (0,0),?_,hφ,Fw.setRow g1 hsize,?_,_,.inl rfl,.f (.raw _)⟩
       .have s1:=gz hs w;simp only[dl,hnl] at hst;unfold execOp;rw[ho];simp[resolve,invoke,builtin,Builtin.copy_,run_underlying hu,hz,hv,Builtin.lenOf,s1,hfc,hst,goInt,arr']
       .refine qe M.2 (by rw[M.1,oC (by rw[hsl];omega),hsize];exact g3) λj q hq=>?_
        rw[M.1,mG (by rw[hsl];omega)] at hq;have ha':arr'[j]? =if j<0 then arr.toList[j]? else if j<0+I.length then I[j-0]? else arr.toList[j]? :=by
         have:=mG (l:=arr.toList) (vs:=I) (off:=0) (by simp only[iC];omega) j;unfold splice at this;simp only[arr',ku];rw[<- this,hnl]
        rw[ha',aA (by omega)];rw[aA (by omega),hsl] at hq;rw[hnl];by_cases h2:j<0+iX m n*sz'
        .rw[aE h2] at hq ⊢;have U:j-0<I.length:=by rw[hnl];omega
         exact⟨csn.2.1 q (ba hq),_,aB U,csn.2.2 _ q _ hq (aB U)⟩
        .rw[aA h2] at hq ⊢;have hj:j<blk.c.toMx.length:=(bg.1 hq).1;have Y:j<arr.toList.length:=by simp;omega
         refine ⟨g2.2.1 q (ba hq),arr.toList[j],aB Y,g2.2.2 j q _ hq ?_⟩;rw[cH,aE hj,aB Y]
     .cases hput
    .cases J
   .cases J
  .cases J
 .cases J
theorem amr {t el:TypeId} {sz:Nat} {z:List Value} {x:Operand} (ho:o.op= .call {callee:=.builtin .clear,args:=#[x],argTypes:=#[t]}) (hu:P.underlying t=af (.slice el)) (hz:s7 P el=af z) (hc:mD z=ai) (hl:z.length=sz) (hsz:sz≠0) (J:eU (.clr sz z x) e h nx=af R):gP P o e.get h.get R.eff:=by
 simp only[eU] at J;split at J
 .rename_i id off n hx;split at J
  .rename_i blk hblk;split at J
   .rename_i hn;have hn:=a_ hn;obtain⟨m,rfl⟩:∃ m,n=m+1:=⟨n-1,by omega⟩
    split at J
    .rename_i c' hput;simp only[ak] at J;subst J;unfold BC.put at hput;split at hput
     .rename_i hcc;simp only[av] at hcc;obtain⟨⟨c1,c2⟩,c3⟩:=hcc;have c2:=a_ c2;have hsrc:((repl z (m+1)).map AV.f).length=(m+1)*sz:=by rw[bY,mI,hl]
      rw[hsrc] at c2;have U:c'.toMx=splice blk.c.toMx off ((repl z (m+1)).map AV.f)/\c'.isCells=ai:=by
       split at hput
       .rename_i l ys hbl hys;simp only[ak] at hput;subst hput;refine ⟨?_,rfl⟩;have hv:=pR hys;rw[hv,hbl];simp only[BC.toMx];unfold splice;simp[kK,List.map_drop]
       .simp only[ak] at hput;subst hput;exact⟨rfl,rfl⟩
      refine gP.writes hblk λφ E h' w a hrd hb' hp hrep=>?_
      have hpx:=hp x _ (by rw[ho];simp[Op.operands,eV]) hx;generalize hzv:a.eval x=pv at hpx;cases hpx with
      |@sl _ _ _ cap k hφ hn2 hcap=>
       obtain⟨arr,g1,Z,g3⟩:=hrep.cs hb' hφ c1;rw[BC.len_toMx c1] at c2;obtain⟨v,z1,z2,_⟩:=tR hz w;have csn:=Cs.repl (φ:=φ) (O:=tot E φ h') (w:=w) z2 (m+1) sz hl hsz hc
       let M:=(lx v.cells (m+1)).toList
       have hvs:v.cells.size=sz:=by rw[<- hl,<-z2];simp
       have hns:M=((yL ((m+1)*sz)).map (λi=>v.cells[i%v.cells.size]!)).toList:=by simp only[M,lx,hvs]
       have hnl:M.length=(m+1)*sz:=by rw[hns];simp
       rw[<- hns] at csn;have hst:=run_storeCells_at (P:=P) k off blk.ty M 0 arr w g1 (by rw[hnl];omega) csn.one
       let arr':Array Value:=(arr.toList.take (off+0)++M++arr.toList.drop (off+0+M.length)).toArray
       have hsize:arr'.size=arr.size:=by simp only[arr',tC,bm,bA,mE,iC,hnl];omega
       refine ⟨.value (.tuple #[]),w.setRow k arr',k,.cells arr' blk.ty (0,0),?_,hφ,Fw.setRow g1 hsize,?_,_,.inl rfl,.tup (vs:=[]) rfl λj y v hy=>by simp at hy⟩
       .unfold execOp;rw[ho];have hst2:(storeCells ⟨k,off,ah⟩ (lx v.cells (m+1)).toList).run P w= .ok () (w.setRow k arr'):=hst;simp[resolve,invoke,builtin,Builtin.clear_,run_underlying hu,hzv,z1,hst2]
       .refine qe U.2 (by rw[U.1,oC (by rw[hsrc];omega),hsize];exact g3) λj q hq=>?_
        rw[U.1,mG (by rw[hsrc];omega)] at hq;have ha':arr'[j]? =if j<off then arr.toList[j]? else if j<off+M.length then M[j-off]? else arr.toList[j]? :=by
         have:=mG (l:=arr.toList) (vs:=M) (off:=off) (by simp only[iC];omega) j;unfold splice at this;simp only[arr',ku,dl];rw[<- this]
        rw[ha'];rw[hsrc] at hq;rw[hnl];by_cases h1:j<off
        .rw[aE h1] at hq ⊢;have hj:j<blk.c.toMx.length:=(bg.1 hq).1;have I:j<arr.toList.length:=by simp;omega
         refine ⟨Z.2.1 q (ba hq),arr.toList[j],aB I,Z.2.2 j q _ hq ?_⟩;rw[cH,aE hj,aB I]
        rw[aA h1] at hq ⊢;by_cases h2:j<off+(m+1)*sz
        .rw[aE h2] at hq ⊢;have Y:j-off<M.length:=by rw[hnl];omega
         exact⟨csn.2.1 q (ba hq),_,aB Y,csn.2.2 _ q _ hq (aB Y)⟩
        .rw[aA h2] at hq ⊢;have hj:j<blk.c.toMx.length:=(bg.1 hq).1;have I:j<arr.toList.length:=by simp;omega
         refine ⟨Z.2.1 q (ba hq),arr.toList[j],aB I,Z.2.2 j q _ hq ?_⟩;rw[cH,aE hj,aB I]
     .cases hput
    .cases J
   .cases J
  .cases J
 .cases J
end
theorem Mo (w:World) (ob:Obj):S1 w (w.drew.alloc ob) ob:=S1.drawn (w.drawn+1) (qZ {w with drawn:=w.drawn+1} ob)
section
variable {P:Program} {o:Oper} {e:Ab} {h:oc} {nx:Nat} {R:Ce}
theorem H9 {v:Value} {z:List Value} {sz:Nat} (hv:v.cells.toList=z) (hl:z.length=sz) (n:Nat):(lx v.cells n).size=n*sz:=by
 have:v.cells.size=sz:=by rw[<- hl,<-hv];simp
 simp[lx,this]
theorem SH {t u el:TypeId} {s x:Operand} {i:TypeInfo} {z:List Value} (ho:o.op= .call {callee:=.builtin .append,args:=#[s,x],argTypes:=#[t,u]}) (hu:P.underlying t=af (.slice el)) (U:P.info? el=af i) (hz:s7 P el=af z) (hzl:z.length=i.size)
 {φ:PM} {E:Nat->Prop} {h':HF} {w:World} {a:Act} (hrep:qY φ E h' w) (hnx:φ nx=ah) {A:Option Addr} {n cap m:Nat} {olds vs:List Value} {oldA src:List AV} (hsl:a.eval s= .slice A n cap)
 (hold:(Ld i.size n (.slice A n cap)).run P w.drew= .ok olds.toArray w.drew) (csold:Cs φ (tot E φ h') w oldA olds) (hol:olds.length=n*i.size) (hsrc:Src P i.size u (a.eval x) m vs w) (hcs:Cs φ (tot E φ h') w src vs)
 (hg:cap<n+m) (r1:n+m<=1099511627776) (r2:(n+m)*i.bytes<=1099511627776) (del:List Nat) (hdel:∀ j∈del,j≠nx):
 o.wp P a w (λa' w'=>∃ v φ',a'=a.put o.dst v/\je φ φ' h' (eX h' (nx::del) (ji [(nx,⟨el,pu (oldA++src)⟩)])) w w'/\(∀ i k,φ' i=af k->φ i=af k\/i∈[nx])/\
  qY φ' E (eX h' (nx::del) (ji [(nx,⟨el,pu (oldA++src)⟩)])) w'/\cM φ' (tot E φ' (eX h' (nx::del) (ji [(nx,⟨el,pu (oldA++src)⟩)]))) w' (.row nx i.size (n+m)) v) (λ_ _ _=>False):=by
 obtain⟨J,z1,Z,i',I,Y⟩:=tR hz w;rw[U] at I;cases I;have hfb:=growslice_fits (need:=n+m) (old:=cap) (bytes:=i.bytes) hg (by omega);have hrun:=run_append_grow_src w t u o.type el i J hu U Y A n cap olds hold (a.eval x) m vs hsrc hg (by omega) hfb;have hgc:=grownCap_ge w (n+m) cap el;have hgm:=grownCap_le_maxLen w (n+m) cap el (by unfold maxLen;omega);generalize grownCap w (n+m) cap el=Gc at hrun hgc hgm;have cs:=csold.append hcs;have hnl:=hsrc.newsLen;obtain⟨φ',p1,p2,p3,p4⟩:=hrep.wnew hnx (Mo w _) (b:=⟨el,pu (oldA++src)⟩) (ob:=.cells ((olds++vs).toArray++lx J.cells (Gc-(n+m))) el (0,0)) (by
  obtain⟨M,q2⟩:=nP (oldA++src);refine qe q2 (by rw[M,<-cs.1];simp) λj q hq=>?_
  rw[M] at hq;have hj:j<(olds++vs).length:=by rw[cs.1];exact (bg.1 hq).1
  refine ⟨cs.2.1 q (ba hq),_,?_,cs.2.2 j q _ hq (aB hj)⟩;rw[Array.getElem?_append_left (by simpa using hj),ku,aB hj]) del (ji [(nx,⟨el,pu (oldA++src)⟩)]) (by simp[ji]) (λj hj hne=>by
   simp only[ji];rw[aA];intro hb;exact hne (aw hb).symm)
 have hexec:(execOp a.eval o).run P w= .ok (.value (.slice (af ⟨w.heap.size,0,ah⟩) (n+m) Gc)) (w.drew.alloc (.cells ((olds++vs).toArray++lx J.cells (Gc-(n+m))) el)):=by
  unfold execOp;rw[ho];simp only[resolve,invoke,builtin,eP,oU,cJ,List.map_toArray,gq,List.map_nil,hsl,hrun]
 unfold HE;rw[hexec];refine ⟨_,φ',rfl,p2,p3,p4,.row p1 hgc hgm ⟨el,?_⟩⟩;have:=(Mo w (.cells ((olds++vs).toArray++lx J.cells (Gc-(n+m))) el (0,0))).at_;unfold rQ;rw[this];have hzs:=H9 Z hzl (Gc-(n+m));have e1:(n+m)*i.size+(Gc-(n+m))*i.size=Gc*i.size:=by rw[<- NA];congr 1;omega
 simp only[Array.size_append,tC,bm,hol,hnl,hzs];congr 2;rw[<- e1,NA]
theorem amu {t u el el':TypeId} {s x:Operand} {sz bytes:Nat} {z:List Value} (U:o.op= .call {callee:=.builtin .append,args:=#[s,x],argTypes:=#[t,u]}) (hu:P.underlying t=af (.slice el)) (hu':P.underlying u=af (.slice el')) (hs:fx P el=af sz) (hb:Fp P el=af bytes) (hz:s7 P el=af z) (hzl:z.length=sz) (hsz:sz≠0)
 (I:eU (.app el sz bytes s x) e h nx=af R):gP P o e.get h.get R.eff:=by
 obtain⟨i,Y,i2⟩:=Nk hb;have i3:i.size=sz:=by unfold fx at hs;rw[Y] at hs;simpa using hs
 subst i2;subst i3;simp only[eU] at I;split at I
 .rename_i bv y hsv M;split at I
  .rename_i src m rd hrow;have common:∀ {φ:PM} {E:Nat->Prop} {h':HF} {w:World} {a:Act},(∀ i∈rd,h' i=h.get i)->V3 φ E h' w a e o->qY φ E h' w->∃ vs,Src P i.size u (a.eval x) m vs w/\Cs φ (tot E φ h') w src vs:=
    λhrd hp hrep=>adu hrow hrd hrep (hp x _ (by rw[U];simp[Op.operands,eV]) M) hu'
   have exec:∀ {w w':World} {a:Act} {v:Value},(Builtin.append_ #[t,u] o.type #[a.eval s,a.eval x]).run P w= .ok v w'->(execOp a.eval o).run P w= .ok (.value v) w':=by
    intro w w' a v hrun;unfold execOp;rw[U];simp[resolve,invoke,builtin,hrun]
   split at I
   .rename_i id sz' n;split at I
    .rename_i blk hblk;split at I
     .rename_i hc;simp only[av,cU,eE] at hc;obtain⟨⟨⟨⟨⟨rfl,hmem⟩,hcells⟩,hlen⟩,hty⟩,hroom⟩:=hc;have hlen:=a_ hlen;rw[BC.len_toMx hcells] at hlen;obtain⟨r1,r2⟩:=Io hroom;simp only[ak] at I;subst I;subst hty;intro φ E h' w a h1 h2 h3 hrep h5;have hp:V3 φ E h' w a e o:=λx y M hy=>tO hrep h3 M hy
      have hb':h' id=af blk:=by rw[h1 id (by simp[Ce.eff])];exact hblk
      obtain⟨vs,hsrc,hcs⟩:=common (λi hi=>h1 i (by simp[Ce.eff,hi])) hp hrep;have hpd:=hp s _ (by rw[U];simp[Op.operands,eV]) hsv;have hnx:φ nx=ah:=h5 nx (by simp[Ce.eff]);have hwv:=hp s _ (by rw[U];simp[Op.operands,eV]) hsv;generalize hzv:a.eval s=pv at hpd;cases hpd with
      |@row _ _ _ cap k hφ hn hcap hsh=>
       obtain⟨arr,g1,g2,g3⟩:=hrep.cs hb' hφ hcells;have hne:nx≠id:=λe=>by rw[e,hφ] at hnx;cases hnx
       have harr:arr.size=cap*i.size:=by
        obtain⟨ty,hty⟩:=hsh;unfold rQ at hty;rw[g1] at hty;simp at hty;exact hty.2
       have hnl:=hsrc.newsLen;have hnn:n*i.size<=arr.size:=by omega
       have csnew:Cs φ (tot E φ h') w (blk.c.toMx.take (n*i.size)++src) (arr.toList.take (n*i.size)++vs):=by
        have:=(g2.take (n*i.size)).append hcs
        rwa [List.take_take,sJ hlen] at this
       have hnw1:ji [(nx,⟨blk.ty,pu (blk.c.toMx.take (n*i.size)++src)⟩)] nx=af ⟨blk.ty,pu (blk.c.toMx.take (n*i.size)++src)⟩:=by simp[ji]
       have hnw2:ji [(nx,⟨blk.ty,pu (blk.c.toMx.take (n*i.size)++src)⟩)] id=ah:=by
        simp only[ji];rw[aA];intro hb;exact hne (aw hb)
       by_cases hfit:n+m<=cap
       ·
        have hend:n*i.size+vs.length<=arr.size:=by
         rw[hnl,harr,<-NA];exact cG _ hfit
        have hst:=run_storeCells_at (P:=P) k (n*i.size) blk.ty vs 0 arr w g1 (by omega) hsrc.one;simp only[dl] at hst
        let arr':Array Value:=(arr.toList.take (n*i.size)++vs++arr.toList.drop (n*i.size+vs.length)).toArray
        have hsize:arr'.size=arr.size:=by simp only[arr',tC,bm,bA,mE,iC];omega
        have hrun:(Builtin.append_ #[t,u] o.type #[a.eval s,a.eval x]).run P w= .ok (.slice (af ⟨k,0,ah⟩) (n+m) cap) (w.setRow k arr'):=by
         rw[hzv];rcases hsrc.kind with ⟨e',hk⟩|hk<;>simp[Builtin.append_,run_underlying hu,run_underlying hk,sizeOf,typeInfo,Y,hsrc.len,hfit,hsrc.cells,li,hst,arr']
        obtain⟨φ',p1,p2,p3,p4⟩:=hrep.wren hb' hφ hnx (Fw.setRow g1 hsize) (b':=⟨blk.ty,pu (blk.c.toMx.take (n*i.size)++src)⟩) (by
         obtain⟨q1,q2⟩:=nP (blk.c.toMx.take (n*i.size)++src);refine qe q2 (by rw[q1,<-csnew.1,hsize];simp;omega) λj q hq=>?_
         rw[q1] at hq;have hj:j<(arr.toList.take (n*i.size)++vs).length:=by rw[csnew.1];exact (bg.1 hq).1
         refine ⟨csnew.2.1 q (ba hq),_,?_,csnew.2.2 j q _ hq (aB hj)⟩;simp only[arr',ku];rw[bJ hj,aB hj]) _ hnw1 hnw2
        unfold HE;rw[exec hrun];refine ⟨_,φ',rfl,p2,p3,p4,.row p1 hfit hcap ⟨blk.ty,?_⟩⟩;unfold rQ;rw[setRow_heap w k arr arr' blk.ty (0,0) g1];simp[hsize,harr]
       ·
        have hold:(Ld i.size n (.slice (af ⟨k,0,ah⟩) n cap)).run P w.drew= .ok (arr.toList.take (n*i.size)).toArray w.drew:=by
         refine run_firstCells_some w.drew i.size n _ n cap _ (by simp;omega) λj v hv=>?_
         rw[cH] at hv;split at hv
         .rw[cI] at hv;rw[li,bO];have hcl:w.cell? ⟨k,j,ah⟩=af v:=by simp[Nx,g1,hv]
          simpa using hcl
         .cases hv
        exact SH U hu Y hz hzl hrep hnx hzv hold (by
         have:=g2.take (n*i.size)
         rwa [List.take_take,sJ hlen] at this) (by simp;omega) hsrc hcs (by omega) r1 r2 [id] (λj hj=>by simp at hj;subst hj;exact λe=>hne e.symm)
     .cases I
    .cases I
   .split at I
    .rename_i hc;simp only[av] at hc;obtain⟨J,hroom⟩:=hc;obtain⟨r1,r2⟩:=Io hroom;have hbase:∀ {φ:PM} {O:Nat->Prop} {w:World} {v:Value},cM φ O w bv v->∃ A,v= .slice A 0 0:=by
      intro φ O w v hr;unfold IY at J;split at J
      .cases hr;exact⟨_,rfl⟩
      .rename_i q;cases fB hr;unfold An at J;split at J
       .exact⟨_,rfl⟩
       .cases J
      .cases J
     split at I
     .rename_i hm;have hm:m=0:=by simpa using hm
      subst hm;simp only[ak] at I;subst I;refine gP.reads λφ E h' w a hrd hp hrep=>?_
      obtain⟨vs,hsrc,hcs⟩:=common hrd hp hrep;have hr:=hp s _ (by rw[U];simp[Op.operands,eV]) hsv;obtain⟨A,hA⟩:=hbase hr;refine ⟨a.eval s,exec ?_,hr⟩;rw[hA];have hvs:vs=[]:=by have:=hsrc.newsLen;simpa using this
      have Z:=hsrc.cells;rw[hvs] at Z;rcases hsrc.kind with ⟨e',hk⟩|hk<;>cases A<;>simp[Builtin.append_,run_underlying hu,run_underlying hk,sizeOf,typeInfo,Y,hsrc.len,Z,storeCells]
     .rename_i hm;have hm:m≠0:=by simpa using hm
      simp only[ak] at I;subst I;intro φ E h' w a h1 h2 h3 hrep h5;have hp:V3 φ E h' w a e o:=λx y M hy=>tO hrep h3 M hy
      obtain⟨vs,hsrc,hcs⟩:=common (λi hi=>h1 i hi) hp hrep;obtain⟨A,hA⟩:=hbase (hp s _ (by rw[U];simp[Op.operands,eV]) hsv);have hold:(Ld i.size 0 (.slice A 0 0)).run P w.drew= .ok ([]:List Value).toArray w.drew:=by
       cases A with
       |none=>exact run_firstCells_none w.drew i.size 0 0 0
       |some ad=>exact run_firstCells_some w.drew i.size 0 ad 0 0 [] (by simp) (by intro j v hv;simp at hv)
      have:=SH (nx:=nx) (n:=0) (cap:=0) (olds:=[]) (oldA:=[]) U hu Y hz hzl hrep (h5 nx (by simp[Ce.eff])) hA hold ⟨rfl,(by intro x M;cases M),(by intro j x v M;simp at M)⟩ (by simp) hsrc hcs (by omega) (by omega) (by simpa using r2) [] (by simp);simpa[Ce.eff] using this
    .cases I
  .cases I
 .cases I
end
section
variable {P:Program} {o:Oper} {e:Ab} {h:oc} {nx:Nat} {R:Ce}
theorem ami {t:TypeId} (M:o.op= .makeMap t ah) (I:eU .mkm e h nx=af R):gP P o e.get h.get R.eff:=by
 simp only[eU,ak] at I;subst I;refine gP.makes λφ E h' w a _ _ _=>?_
 refine ⟨.map (af w.heap.size),{w with heap:=w.heap.push (.map #[] 0)},.map #[] 0,?_,qZ w _,⟨#[],0,rfl,rfl,by intro j x J;simp at J⟩,λφ' O hφ=>.mp hφ⟩;unfold execOp;rw[M];simp[Instr.makeMap,newObj,nE]
theorem amc {t:TypeId} {x:Operand} (J:o.op= .range t x) (hu:P.underlying t=af .string) (I:eU (.rng x) e h nx=af R):gP P o e.get h.get R.eff:=by
 simp only[eU] at I;split at I
 .rename_i s M;simp only[ak] at I;subst I;refine gP.makes λφ E h' w a _ hp _=>?_
  have hr:=fB (hp x _ (by rw[J];simp[Op.operands]) M);refine ⟨.pointer (af ⟨w.heap.size,0,ah⟩),{w with heap:=w.heap.push (.stringIter s 0)},.stringIter s 0,?_,qZ w _,rfl,λφ' O hφ=>.ptr hφ⟩;unfold execOp;rw[J];simp[Instr.range,run_underlying hu,hr,newObj,nE]
 .cases I
theorem Ia {w:World} {k:Nat} {ob ob':Obj} (hk:w.heap[k]? =af ob) (h1:∀ c t f,ob≠ .cells c t f) (h2:∀ c t f,ob'≠ .cells c t f):Fw w {w with heap:=w.heap.setIfInBounds k ob'} k ob':=by
 have hlt:k<w.heap.size:=(cF.1 hk).1;have hat:(w.heap.setIfInBounds k ob')[k]? =af ob':=by simp[hlt]
 have hot:∀ j,j≠k->(w.heap.setIfInBounds k ob')[j]? =w.heap[j]? :=λj hj=>pV (λe=>hj e.symm)
 refine ⟨rfl,rfl,rfl,by simp,hat,hot,λj=>?_⟩;unfold rQ;by_cases hj:j=k
 .subst hj;simp only[hat,hk];cases ob<;>cases ob'<;>first|rfl|exact cV rfl (h1 _ _ _)|exact cV rfl (h2 _ _ _)
 .simp only[hot j hj]
theorem ame {x:Operand} (Z:o.op= .next x ai) (I:eU (.nxt x) e h nx=af R):gP P o e.get h.get R.eff:=by
 simp only[eU] at I;split at I
 .rename_i id hx;split at I
  .rename_i ty s p hid;split at I
   .rename_i b hb;split at I
    .rename_i hlt;have hlt:=a_ hlt;simp only[ak] at I;subst I;refine gP.writes hid λφ E h' w a hrd M hp hrep=>?_
     have hr:=hp x _ (by rw[Z];simp[Op.operands]) hx;generalize hz:a.eval x=z at hr;cases hr with
     |@ptr _ _ k hφ=>
      obtain⟨k',Y,_,ob,U,q3⟩:=hrep.at_ id _ M;rw[hφ] at Y;cases Y;have q3:ob= .stringIter s p:=q3;subst q3;have hps:p<s.size:=by
       have:=(bg.1 hb).1;simpa using this
      have hget:s.get! p=b:=by
       have:s.data[p]? =af b:=by rw[<- cI];exact hb
       have hpd:p<s.data.size:=(cF.1 this).1;have h2:s.data[p]! =s.data[p]:=getElem!_pos s.data p hpd;rw[im hpd] at this;simp only[ByteArray.get!,h2];exact iV this
      have hdec:Utf8.decode s p=(b.toNat,1):=by
       unfold Utf8.decode;simp only[dl,hget];rw[aE (by omega)]
      refine ⟨.value (.tuple #[.bool ai,.int .i64 p,.int .i32 b.toNat]),_,k,.stringIter s (p+1),?_,hφ,Ia U (by simp) (by simp),rfl,_,.inl rfl,?_⟩
      .unfold execOp;rw[Z];simp[Instr.next,hz,getObj,nE,U,hps,hdec,setObj,goInt]
      .refine cM.tup (vs:=[.bool ai,.int .i64 p,.int .i32 b.toNat]) rfl λj y v J hv=>?_
       rcases j with _|_|_|j<;>simp at J hv
       .subst J;subst hv;exact .f (.raw _)
       .subst J;subst hv;exact .f (.raw _)
       .subst J;subst hv;exact .f (.raw _)
    .cases I
   .rename_i hb;simp only[ak] at I;subst I;refine gP.writes hid λφ E h' w a hrd M hp hrep=>?_
    have hr:=hp x _ (by rw[Z];simp[Op.operands]) hx;generalize hz:a.eval x=z at hr;cases hr with
    |@ptr _ _ k hφ=>
     obtain⟨k',Y,_,ob,U,q3⟩:=hrep.at_ id _ M;rw[hφ] at Y;cases Y;have q3:ob= .stringIter s p:=q3;subst q3;have hps:¬p<s.size:=by
      have:=List.getElem?_eq_none_iff.1 hb;have e:s.data.toList.length=s.size:=by simp
      omega
     refine ⟨.value (.tuple #[.bool aj]),w,k,.stringIter s p,?_,hφ,⟨rfl,rfl,rfl,rfl,U,λ_ _=>rfl,λ_=>rfl⟩,rfl,_,.inl rfl,?_⟩
     .unfold execOp;rw[Z];simp[Instr.next,hz,getObj,nE,U,hps]
     .refine cM.tup (vs:=[.bool aj]) rfl λj y v J hv=>?_
      rcases j with _|j<;>simp at J hv;subst J;subst hv;exact .f (.raw _)
  .cases I
 .cases I
theorem zX {a b:ByteArray}:r9 a b=ai↔a=b:=by
 unfold r9;constructor
 .intro h;have h1:a.data.toList=b.data.toList:=by simpa using h
  cases a;cases b;congr 1;exact Lf h1
 .rintro rfl;simp
theorem Fo (a b:ByteArray):(a==b)=r9 a b:=by
 have h1:(a==b)=(a.data==b.data):=rfl;rw[h1,Bool.eq_iff_iff,zX,cU];constructor
 .intro h;cases a;cases b;congr 1
 .rintro rfl;rfl
def kd (str:Bool) (d:TypeDesc):Prop:=if str then d= .string else ∃ k,d= .int k
theorem Cx {str:Bool} {d:TypeDesc} (hd:kd str d) {k k':Value} (hk:zh str k=ai) {b:Bool} (hb:uS .eql k k'=af (.bool b)):Instr.sameNow d k k'=af b:=by
 unfold kd at hd;cases str with
 |true=>
  simp only[bG] at hd;subst hd;cases k<;>simp[zh] at hk;cases k'<;>simp only[uS] at hb<;>try (simp at hb;done)
  simp only[ak,Cg] at hb;simp[Instr.sameNow,Fo,hb]
 |false=>
  simp only[cz,eo] at hd;obtain⟨q,rfl⟩:=hd;cases k<;>simp[zh] at hk;cases k'<;>simp only[uS] at hb<;>try (simp at hb;done)
  split at hb
  .rename_i hkk;have hkk':=eq_of_beq hkk;subst hkk';simp only[ak,Cg] at hb;simp[Instr.sameNow,<-hb]
  .cases hb
theorem Rr {str:Bool} {d:TypeDesc} (hd:kd str d) {k:Value} (hk:zh str k=ai):∀ (es:List (Value×AV)) (ents:List MapEntry) (i:Nat),ents.map (·.key)=es.map (·.1)->∀ r,tI k es=af r->
 (r=ah/\jD d k ents i=af ah)\/∃ (j:Nat) (v:AV) (m:MapEntry) (k':Value),r=af v/\es[j]? =af (k',v)/\ents[j]? =af m/\jD d k ents i=af (af (i+j,m.val))/\uS .eql k k'=af (.bool ai)
 |[],ents,i,he,r,h=>by
  cases ents with
  |nil=>simp only[tI,ak] at h;exact .inl ⟨h.symm,rfl⟩
  |cons _ _=>simp at he
 |(k',v)::es,ents,i,he,r,h=>by
  cases ents with
  |nil=>simp at he
  |cons m ents=>
   simp only[gq,iY] at he;obtain⟨I,J⟩:=he;simp only[tI] at h;split at h
   .rename_i hb;simp only[ak] at h;refine .inr ⟨0,v,m,k',h.symm,rfl,rfl,?_,hb⟩;simp only[jD];rw[I,Cx hd hk hb];rfl
   .rename_i hb;have hs:=Cx hd hk hb;rcases Rr hd hk es ents (i+1) J r h with ⟨h1,h2⟩|⟨j,M,m',k'',h1,h2,Z,Y,U⟩
    .refine .inl ⟨h1,?_⟩;simp only[jD];rw[I,hs];exact h2
    .refine .inr ⟨j+1,M,m',k'',h1,by simpa using h2,by simpa using Z,?_,U⟩;simp only[jD];rw[I,hs];show jD d k ents (i+1)=_;rw[Y,show i+1+j=i+(j+1) from by omega]
   .cases h
theorem Cy {I:TypeId} {str:Bool} {d:TypeDesc} (hu:P.underlying I=af d) (hd:kd str d) (b:Bool) (v:Value) (w:World):(Instr.checkKey b 10000 I v).run P w= .ok () w:=by
 have key:∀ n,(Instr.checkKey b (n+1) I v).run P w= .ok () w:=λn=>by
  unfold kd at hd;cases str with
  |true=>simp only[bG] at hd;subst hd;simp[Instr.checkKey,run_underlying hu]
  |false=>simp only[cz,eo] at hd;obtain⟨q,rfl⟩:=hd;simp[Instr.checkKey,run_underlying hu]
 exact key 9999
theorem Z' {φ:PM} {O:Nat->Prop} {w:World} {ok b:Bool} {x:AV} {v:Value} (h:cM φ O w x v):cM φ O w (pkV ok x b) (if ok then .tuple #[v,.bool b] else v):=by
 cases ok with
 |false=>exact h
 |true=>
  refine cM.tup (vs:=[v,.bool b]) rfl λj y u I hv=>?_
  rcases j with _|_|j<;>simp at I hv
  .subst I;subst hv;exact h
  .subst I;subst hv;exact .f (.raw _)
theorem ahg {t kt el:TypeId} {x k:Operand} {str ok:Bool} {d:TypeDesc} {z:Value} (U:o.op= .lookup t x k ok) (hu:P.underlying t=af (.map kt el)) (hk:P.underlying kt=af d) (hd:kd str d) (M:(P.info? el).bind (·.zero)=af z) (I:eU (.lku str ok z x k) e h nx=af R):gP P o e.get h.get R.eff:=by
 simp only[eU] at I;split at I
 .rename_i id key hx hkx;split at I
  .rename_i ty es hid;split at I
   .rename_i hko;have fin:∀ val:AV,(∀ (φ:PM) (E:Nat->Prop) (h':HF) (w:World) (a:Act),h' id=af ⟨ty,.mp es⟩->V3 φ E h' w a e o->qY φ E h' w->∃ v,(execOp a.eval o).run P w= .ok (.value v) w/\cM φ (tot E φ h') w val v)->R=⟨val,[id],[],[],[]⟩->gP P o e.get h.get R.eff:=by
     rintro val hv rfl;exact gP.reads λφ E h' w a hrd hp hrep=>hv φ E h' w a (by rw[hrd id (by simp)];exact hid) hp hrep
    have zrun:∀ w:World,(zeroValue el).run P w= .ok z w:=λw=>by
     cases hi:P.info? el with
     |none=>rw[hi] at M;cases M
     |some i=>rw[hi] at M;simp only[aH] at M;simp[zeroValue,typeInfo,hi,M]
    have main:∀ r,tI key es=af r->∀ (φ:PM) (E:Nat->Prop) (h':HF) (w:World) (a:Act),h' id=af ⟨ty,.mp es⟩->V3 φ E h' w a e o->qY φ E h' w->
     ∃ v,(execOp a.eval o).run P w= .ok (.value v) w/\cM φ (tot E φ h') w (match r with|some v=>pkV ok v ai|none=>pkV ok (raw z) aj) v:=by
     intro r hr φ E h' w a Y hp hrep;have hrx:=hp x _ (by rw[U];simp[Op.operands]) hx;have hrk:=fB (hp k _ (by rw[U];simp[Op.operands]) hkx);generalize J:a.eval x=zz at hrx;cases hrx with
     |@mp _ b hφ=>
      obtain⟨k',q1,_,ob,Z,q3⟩:=hrep.at_ id _ Y;rw[hφ] at q1;cases q1;obtain⟨ents,clock,rfl,q4,q5⟩:=q3;have hck:=Cy (P:=P) hk hd ents.isEmpty key w;rcases Rr hd hko es ents.toList 0 q4 r hr with ⟨h1,h2⟩|⟨j,v,m,k',h1,h2,h3,h4,_⟩
      .subst h1;refine ⟨_,?_,Z' (.f (.raw z))⟩;unfold execOp;rw[U];cases ok<;>simp[Instr.lookup,run_underlying hu,J,hrk,getObj,nE,Z,hck,Instr.findKey,run_underlying hk,h2,zrun]
      .subst h1;obtain⟨m',h6,h7⟩:=q5 j _ h2;rw[cI] at h3;rw[h3] at h6;cases h6;refine ⟨_,?_,Z' h7⟩;unfold execOp;rw[U];cases ok<;>simp[Instr.lookup,run_underlying hu,J,hrk,getObj,nE,Z,hck,Instr.findKey,run_underlying hk,h4]
    split at I
    .rename_i v hf;simp only[ak] at I;exact fin _ (main _ hf) I.symm
    .rename_i hf;simp only[ak] at I;exact fin _ (main _ hf) I.symm
    .cases I
   .cases I
  .cases I
 .cases I
theorem Ws {str:Bool} {d:TypeDesc} (hd:kd str d) {k:Value} (hk:zh str k=ai) {v:AV}:∀ (es es':List (Value×AV)) (ents:List MapEntry) (i:Nat),ents.map (·.key)=es.map (·.1)->zf k v es=af es'->
 (jD d k ents i=af ah/\es'=es++[(k,v)])\/∃ (j:Nat) (m:MapEntry) (k':Value) (J:AV),es[j]? =af (k',J)/\ents[j]? =af m/\jD d k ents i=af (af (i+j,m.val))/\uS .eql k k'=af (.bool ai)/\es'=es.set j (k,v)
 |[],es',ents,i,he,h=>by
  cases ents with
  |nil=>simp only[zf,ak] at h;exact .inl ⟨rfl,by simp[h]⟩
  |cons _ _=>simp at he
 |(k',J)::es,es',ents,i,he,h=>by
  cases ents with
  |nil=>simp at he
  |cons m ents=>
   simp only[gq,iY] at he;obtain⟨I,M⟩:=he;simp only[zf] at h;split at h
   .rename_i hb;simp only[ak] at h;refine .inr ⟨0,m,k',J,rfl,rfl,?_,hb,by simp[h]⟩;simp only[jD];rw[I,Cx hd hk hb];rfl
   .rename_i hb;have hs:=Cx hd hk hb;split at h
    .rename_i es2 hes2;simp only[ak] at h;subst h;rcases Ws hd hk es es2 ents (i+1) M hes2 with ⟨h1,h2⟩|⟨j,m',k'',v'',h1,h2,Z,Y,U⟩
     .refine .inl ⟨?_,by simp[h2]⟩;simp only[jD];rw[I,hs];exact h1
     .refine .inr ⟨j+1,m',k'',v'',by simpa using h1,by simpa using h2,?_,Y,by simp[U]⟩;simp only[jD];rw[I,hs];show jD d k ents (i+1)=_;rw[Z,show i+1+j=i+(j+1) from by omega]
    .cases h
   .cases h
theorem abb {str:Bool} {k k':Value} (hk:zh str k=ai) (hb:uS .eql k k'=af (.bool ai)):Instr.sameBits 10000 k' k=ai/\k'=k:=by
 cases str with
 |true=>
  cases k<;>simp[zh] at hk;cases k'<;>simp only[uS] at hb<;>try (simp at hb;done)
  simp only[ak,Cg] at hb;have:=zX.1 hb;subst this;exact⟨by simp[Instr.sameBits,Fo,hb],rfl⟩
 |false=>
  cases k<;>simp[zh] at hk;cases k'<;>simp only[uS] at hb<;>try (simp at hb;done)
  split at hb
  .rename_i hkk;have hkk':=eq_of_beq hkk;subst hkk';simp only[ak,Cg,cU] at hb;subst hb;exact⟨by simp[Instr.sameBits],rfl⟩
  .cases hb
theorem ahf {t kt el:TypeId} {x k y:Operand} {str:Bool} {d:TypeDesc} (M:o.op= .mapUpdate t x k y) (hu:P.underlying t=af (.map kt el)) (hk:P.underlying kt=af d) (hd:kd str d) (I:eU (.mup str x k y) e h nx=af R):gP P o e.get h.get R.eff:=by
 simp only[eU] at I;split at I
 .rename_i id key v hx hkx hy;split at I
  .rename_i ty es hid;split at I
   .rename_i hko;split at I
    .rename_i es' hput;simp only[ak] at I;subst I;refine gP.writes hid λφ E h' w a hrd Z hp hrep=>?_
     have hrx:=hp x _ (by rw[M];simp[Op.operands]) hx;have hrk:=fB (hp k _ (by rw[M];simp[Op.operands]) hkx);have hry:=hp y _ (by rw[M];simp[Op.operands]) hy;generalize J:a.eval x=zz at hrx;cases hrx with
     |@mp _ b hφ=>
      obtain⟨k',q1,_,ob,U,q3⟩:=hrep.at_ id _ Z;rw[hφ] at q1;cases q1;obtain⟨ents,clock,rfl,q4,q5⟩:=q3;have hck:=Cy (P:=P) hk hd aj key w;have hlen:ents.size=es.length:=by have:=gx al q4;simpa using this
      rcases Ws hd hko es es' ents.toList 0 q4 hput with ⟨h1,rfl⟩|⟨j,m,k',v',h1,h2,h3,h4,rfl⟩
      .refine ⟨.skip,_,b,.map (ents.push {key,val:=a.eval y,born:=clock}) (clock+1),?_,hφ,Ia U (by simp) (by simp),⟨_,_,rfl,by simp[q4],λj q hq=>?_⟩,undef,.inr ⟨rfl,rfl⟩,.f (.raw _)⟩
       .unfold execOp;rw[M];simp[Instr.mapUpdate,run_underlying hu,J,hrk,getObj,nE,U,hck,Instr.findKey,run_underlying hk,h1,setObj]
       .rcases b7 j es.length with hj|hj
        .rw[bJ hj] at hq;obtain⟨m,g1,g2⟩:=q5 j q hq;exact⟨m,by rw[Array.getElem?_push,aA (by omega)];exact g1,g2⟩
        .rw[bV hj] at hq;have Y:j-es.length=0:=by
          rcases Lc (j-es.length) with h0|h0
          .exact h0
          .rw[bR (by simp;omega)] at hq;cases hq
         rw[Y] at hq;simp at hq;subst hq;exact⟨_,by rw[Array.getElem?_push,aE (by omega)],hry⟩
      .obtain⟨s1,s2⟩:=abb hko h4;subst s2;rw[cI] at h2;rw[bO] at h3;have hjl:j<ents.size:=(cF.1 h2).1;have hmk:m.key=k':=by
        have e1:(ents.toList.map (·.key))[j]? =af m.key:=by rw[a8,cI,h2];rfl
        rw[q4,a8,h1] at e1;simpa using e1.symm
       refine ⟨.skip,_,b,.map (ents.modify j λe=>{e with key:=k',val:=a.eval y}) clock,?_,hφ,Ia U (by simp) (by simp),⟨_,_,rfl,?_,λi q hq=>?_⟩,undef,.inr ⟨rfl,rfl⟩,.f (.raw _)⟩
       .unfold execOp;rw[M];simp[Instr.mapUpdate,run_underlying hu,J,hrk,getObj,nE,U,hck,Instr.findKey,run_underlying hk,h3,setObj,h2,hmk,Instr.keyThatStays,s1]
       .apply List.ext_getElem?;intro i;simp only[a8,cI,oW,Array.getElem?_modify];have e2:∀ i:Nat,(ents[i]?).map (λm:MapEntry=>m.key)=(es[i]?).map (λp:Value×AV=>p.1):=λi=>by
         have:=gx (λl=>l[i]?) q4;simpa[a8,cI] using this
        by_cases hij:j=i
        .subst hij;simp[h2,show j<es.length by omega]
        .simp only[hij,eo];exact e2 i
       .rw[oW] at hq;rw[Array.getElem?_modify];by_cases hij:j=i
        .subst hij;simp[show j<es.length by omega] at hq;subst hq;exact⟨{m with key:=k',val:=a.eval y},by simp[h2],hry⟩
        .simp only[hij,eo] at hq ⊢;exact q5 i q hq
    .cases I
   .cases I
  .cases I
 .cases I
end
section
variable {P:Program} {o:Oper} {e:Ab} {h:oc} {nx:Nat} {R:Ce}
theorem Qs {t:TypeId} {d:TypeDesc} (hu:P.underlying t=af d) (hd:(match d with|.int _=>ai|.bool=>ai|.string=>ai|_=>aj)=ai) (cs:Array Value) (j:Nat) (v:Value) (hv:cs[j]? =af v) (w:World):(part t cs j).run P w= .ok v w:=by
 unfold part;simp only[isAgg,eP,run_underlying hu,cJ];cases d<;>simp at hd<;>simp[hv]
theorem Yq {t:TypeId} {d:TypeDesc} (hu:P.underlying t=af d) (hd:(match d with|.int _=>ai|.bool=>ai|.string=>ai|_=>aj)=ai) {x y:FV} {b:Bool} (hxy:xN d x y=af b) {u v:Value} (M:x= .raw u) (J:y= .raw v) (n:Nat) (w:World):(Op.equalIn (n+1) t u v).run P w= .ok b w:=by
 subst M;subst J;cases d<;>simp at hd<;>cases u<;>cases v<;>simp only[xN] at hxy<;>first|(cases hxy;done)|skip
 .simp only[ak] at hxy;subst hxy;simp[Op.equalIn,run_underlying hu]
 .split at hxy
  .rename_i hk;have I:=eq_of_beq hk;subst I;simp only[ak] at hxy;subst hxy;simp[Op.equalIn,run_underlying hu]
  .cases hxy
 .simp only[ak] at hxy;subst hxy;simp[Op.equalIn,run_underlying hu,Fo]
abbrev JD (n:Nat) (xs I:Array Value) (f:Field) (_:Option Bool×Unit):Sem (ForInStep (Option Bool×Unit)):=
 if f.name≠ "_" then do
  let a←part f.type xs f.offset
  let b←part f.type I f.offset
  let c←Op.equalIn (n+1) f.type a b
  if (!c)=ai then pure (ForInStep.done (af aj,())) else pure (ForInStep.yield (ah,()))
 else pure (ForInStep.yield (ah,()))
theorem MV (n:Nat) (w:World) (xs I:Array Value):∀ (fs:List Field) (ds:List TypeDesc) (a b:List FV) (k:Nat) (r:Bool),rU P k fs=af ds->
 (∀ (j:Nat) x u,a[j]? =af x->xs[k+j]? =af u->x= .raw u\/∀ v,x≠ .raw v)->(∀ (j:Nat) x u,b[j]? =af x->I[k+j]? =af u->x= .raw u\/∀ v,x≠ .raw v)->(∀ (j:Nat),j<a.length->k+j<xs.size)->(∀ (j:Nat),j<b.length->k+j<I.size)->o9 ds a b=af r->
 (forIn fs (ah,()) (JD n xs I)).run P w= .ok (if r then (ah,()) else (af aj,())) w
 |[],ds,a,b,k,r,hp,_,_,_,_,he=>by
  simp only[rU,ak] at hp;subst hp;cases a<;>cases b<;>simp[o9] at he;subst he;simp
 |f::fs,ds,a,b,k,r,hp,Z,hb,hla,hlb,he=>by
  simp only[rU] at hp;split at hp
  .rename_i d ds' hu Y;split at hp
   .rename_i hc;simp only[av,bne_iff_ne,ne_eq,cU] at hc;obtain⟨⟨hn,hof⟩,hd⟩:=hc;simp only[ak] at hp;subst hp;cases a with
    |nil=>cases b<;>simp[o9] at he
    |cons x a=>
     cases b with
     |nil=>simp[o9] at he
     |cons y b=>
      simp only[o9] at he;have U:k<xs.size:=by have:=hla 0 (by simp);omega
      have M:k<I.size:=by have:=hlb 0 (by simp);omega
      have hraw:∀ (z:FV) (q:Value),(z= .raw q\/∀ v,z≠ .raw v)->(∃ v,z= .raw v)->z= .raw q:=by
       rintro z q (h|h) ⟨v,hv⟩
       .exact h
       .exact cV hv (h v)
      have hxr:∀ J,xN d x y=af J->x= .raw xs[k]/\y= .raw I[k]:=by
       intro J hbb;have hrr:(∃ v,x= .raw v)/\∃ v,y= .raw v:=by
        unfold xN at hbb;split at hbb
        .exact⟨⟨_,rfl⟩,⟨_,rfl⟩⟩
        .exact⟨⟨_,rfl⟩,⟨_,rfl⟩⟩
        .exact⟨⟨_,rfl⟩,⟨_,rfl⟩⟩
        .cases hbb
       exact⟨hraw x _ (Z 0 x _ rfl (by simp[U])) hrr.1,hraw y _ (hb 0 y _ rfl (by simp[M])) hrr.2⟩
      have hstep:∀ J,xN d x y=af J->(JD n xs I f (ah,())).run P w= .ok (if J then ForInStep.yield (ah,()) else ForInStep.done (af aj,())) w:=by
       intro J hbb;obtain⟨h1,h2⟩:=hxr J hbb;have p1:=Qs hu (by cases d<;>simp[Iv] at hd<;>rfl) xs k xs[k] (by simp[U]) w;have p2:=Qs hu (by cases d<;>simp[Iv] at hd<;>rfl) I k I[k] (by simp[M]) w;have p3:=Yq hu (by cases d<;>simp[Iv] at hd<;>rfl) hbb h1 h2 n w;unfold JD;rw[aE hn,hof];simp only[eP,p1,p2,p3,cJ];cases J<;>simp
      rw[List.forIn_cons];simp only[eP];split at he
      .rename_i hbb;rw[hstep ai hbb];simp only[cJ,bG];exact MV n w xs I fs ds' a b (k+1) r Y (λj x u h1 h2=>Z (j+1) x u (by simpa using h1) (by rw[<- h2];congr 1;omega)) (λj x u h1 h2=>hb (j+1) x u (by simpa using h1) (by rw[<- h2];congr 1;omega))
        (λj hj=>by have:=hla (j+1) (by simpa using hj);omega) (λj hj=>by have:=hlb (j+1) (by simpa using hj);omega) he
      .rename_i hbb;rw[hstep aj hbb];simp only[ak] at he;subst he;simp
      .cases he
   .cases hp
  .cases hp
theorem Yp {t:TypeId} {fs:Array Field} (hu:P.underlying t=af (.struct fs)) (hs:P.stoodInHeld t=aj) {ds:List TypeDesc} (hp:rU P 0 fs.toList=af ds) (xs I:Array Value) {a b:List FV} {r:Bool}
 (J:∀ (j:Nat) x u,a[j]? =af x->xs[j]? =af u->x= .raw u\/∀ v,x≠ .raw v) (hb:∀ (j:Nat) x u,b[j]? =af x->I[j]? =af u->x= .raw u\/∀ v,x≠ .raw v) (hla:a.length=xs.size) (hlb:b.length=I.size) (he:o9 ds a b=af r) (w:World):
 (Op.equal t (.agg xs) (.agg I)).run P w= .ok r w:=by
 have key:∀ n,(Op.equalIn (n+2) t (.agg xs) (.agg I)).run P w= .ok r w:=by
  intro n;rw[Op.equalIn];have h1:=MV (P:=P) n w xs I fs.toList ds a b 0 r hp (λj x u h1 h2=>J j x u h1 (by simpa using h2)) (λj x u h1 h2=>hb j x u h1 (by simpa using h2)) (λj hj=>by omega) (λj hj=>by omega) he;rw[Array.forIn_toList] at h1;simp only[eP,run_underlying hu,cJ,program,nE,hs,cz,eo];have h2:(forIn fs (ah,()) (λf __s=>JD n xs I f __s)).run P w= .ok (if r then (ah,()) else (af aj,())) w:=h1;unfold JD at h2;rw[h2];cases r<;>simp
 exact key 9998
theorem Rw {t:TypeId} {fs:Array Field} (hu:P.underlying t=af (.struct fs)) {ds:List TypeDesc} (hp:rU P 0 fs.toList=af ds):P.eqGuardType P.depth t=aj:=by
 have key:∀ (fs:List Field) (k:Nat) (ds:List TypeDesc),rU P k fs=af ds→∀ d,(fs.any λf=>f.name != "_" &&P.eqGuardType (d+1) f.type)=aj:=by
  intro fs;induction fs with
  |nil=>intros;rfl
  |cons f fs M=>
   intro k ds hp d;simp only[rU] at hp;split at hp
   .rename_i U ds' I J;split at hp
    .rename_i hc;simp only[av] at hc;have:P.eqGuardType (d+1) f.type=aj:=by
      unfold Program.eqGuardType;rw[I];have:=hc.2;cases U<;>simp[Iv] at this<;>rfl
     simp only[List.any_cons,this,Bool.and_false,Bool.false_or];exact M (k+1) ds' J d
    .cases hp
   .cases hp
 unfold Program.depth Program.eqGuardType;rw[hu];simp only[];rw[← Array.any_toList];exact key fs.toList 0 ds hp _
theorem ahh {t t':TypeId} {op:BinOp} {neg:Bool} {x y:Operand} {fs:Array Field} {ds:List TypeDesc} (Y:o.op= .binOp op t x y t') (hop:op=if neg then .neq else .eql) (hu:P.underlying t=af (.struct fs)) (hs:P.stoodInHeld t=aj) (hp:rU P 0 fs.toList=af ds) (I:eU (.eqs neg ds x y) e h nx=af R):gP P o e.get h.get R.eff:=by
 simp only[eU] at I;split at I
 .rename_i a b J hy;split at I
  .rename_i r hr;rw[dy I];refine gP.reads λφ E h' w ac _ hpp _=>?_
   have h1:=hpp x _ (by rw[Y];simp[Op.operands]) J;have h2:=hpp y _ (by rw[Y];simp[Op.operands]) hy;generalize hzx:ac.eval x=zx at h1;generalize hzy:ac.eval y=zy at h2;have rawOr:∀ (l:List FV) (vs:List Value),(∀ (j:Nat) x v,l[j]? =af x->vs[j]? =af v->nu (tot E φ h') w x v)->∀ (j:Nat) x u,l[j]? =af x->vs.toArray[j]? =af u->x= .raw u\/∀ v,x≠ .raw v:=by
    intro l vs hr j x u J hu;have:=hr j x u J (by simpa using hu);cases this with
    |raw v=>exact .inl rfl
    |nil=>exact .inr (by simp)
    |sl=>exact .inr (by simp)
    |ptr=>exact .inr (by simp)
    |agg=>exact .inr (by simp)
   cases h1 with
   |f h1=>
    cases h1 with
    |agg _ vs hl hcl U=>
     cases h2 with
     |f h2=>
      cases h2 with
      |agg _ us Z hcl' M=>
       have heq:=Yp hu hs hp vs.toArray us.toArray (rawOr a vs U) (rawOr b us M) (by simp[hl]) (by simp[Z]) hr w;refine ⟨_,?_,.f (.raw _)⟩;have hg:=Rw hu hp;unfold execOp;rw[Y];simp only[hzx,hzy];subst hop;cases neg<;>simp[eqGuard,program,nE,hg,binOp,heq]
  .cases I
 .cases I
end
theorem bind_some {α β:Type} {x:Option α} {f:α->Option β} {y:β} (h:x.bind f=af y):∃ a,x=af a/\f a=af y:=by
 cases x with
 |none=>cases h
 |some a=>exact⟨a,rfl,h⟩
theorem map_some {α β:Type} {x:Option α} {f:α->β} {y:β} (h:x.map f=af y):∃ a,x=af a/\f a=y:=by
 cases x with
 |none=>cases h
 |some a=>exact⟨a,rfl,by simpa using h⟩
theorem lZ {c:Bool} {β:Type} {x:Option β} {y:β} (h:(if c then x else ah)=af y):c=ai/\x=af y:=by
 cases c with
 |true=>exact⟨rfl,by simpa using h⟩
 |false=>simp at h
theorem Iy {P:Program} {o:Oper} {e:Ab} {h:oc} {nx:Nat} {s:Y_} {R:Ce} (hc:dj P o.op=af s) (J:eU s e h nx=af R):gP P o e.get h.get R.eff:=by
 unfold dj at hc;split at hc
 .rename_i x I;simp only[ak] at hc;subst hc;exact amh (.inl I) J
 .rename_i x I;simp only[ak] at hc;subst hc;exact amh (.inr I) J
 .rename_i c a b I;simp only[ak] at hc;subst hc;exact aj5 I J
 .rename_i t I;obtain⟨z,h1,hc⟩:=bind_some hc;obtain⟨h2,hc⟩:=lZ hc;simp only[ak] at hc;subst hc;exact afs I h1 h2 J
 .rename_i t x I;simp only[ak] at hc;subst hc;exact amt I J
 .rename_i t ps I;split at hc
  .rename_i fs hu;obtain⟨z,h1,hc⟩:=bind_some hc;obtain⟨h2,hc⟩:=lZ hc;obtain⟨ps',M,rfl⟩:=map_some hc;simp only[av] at h2;exact XC I h1 h2.1 M (.inl ⟨fs,hu,h2.2⟩) J
  .rename_i n el hu;obtain⟨z,h1,hc⟩:=bind_some hc;obtain⟨h2,hc⟩:=lZ hc;obtain⟨ps',M,rfl⟩:=map_some hc;simp only[av] at h2;obtain⟨sz,U⟩:=iP.1 h2.2;exact XC I h1 h2.1 M (.inr ⟨n,el,sz,hu,U⟩) J
  .cases hc
 .rename_i t n ps I;obtain⟨el,h1,hc⟩:=bind_some hc;obtain⟨z,h2,hc⟩:=bind_some hc;obtain⟨sz,M,hc⟩:=bind_some hc;obtain⟨U,hc⟩:=lZ hc;obtain⟨ps',Z,rfl⟩:=map_some hc;simp only[av,cU,bne_iff_ne] at U;exact ams I (sF h1) h2 M U.1.1.1 U.1.1.2 U.2 (a_ U.1.2) Z J
 .rename_i t x I;obtain⟨sz,h1,hc⟩:=bind_some hc;obtain⟨ag,h2,rfl⟩:=map_some hc;exact aj8 I h1 h2 J
 .rename_i t x v I;obtain⟨sz,h1,rfl⟩:=map_some hc;exact afr I h1 J
 .rename_i x I;simp only[ak] at hc;subst hc;exact aj6 I J
 .rename_i op t x y t' I;split at hc
  .simp only[ak] at hc;subst hc;exact ahj I J
  .simp only[ak] at hc;subst hc;exact ahj I J
  .rename_i hu;split at hc
   .simp only[ak] at hc;subst hc;exact ahi (neg:=aj) I rfl hu J
   .simp only[ak] at hc;subst hc;exact ahi (neg:=ai) I rfl hu J
   .cases hc
  .rename_i el hu;split at hc
   .simp only[ak] at hc;subst hc;exact XB (neg:=aj) I rfl rfl hu J
   .simp only[ak] at hc;subst hc;exact XB (neg:=ai) I rfl rfl hu J
   .cases hc
  .rename_i fs hu;obtain⟨ds,h1,hc⟩:=bind_some hc;unfold Z_ at h1;rw[hu] at h1;simp only[] at h1;split at h1
   .cases h1
   .rename_i hst;have hst:P.stoodInHeld t=aj:=by simpa using hst
    split at hc
    .simp only[ak] at hc;subst hc;exact ahh (neg:=aj) I rfl hu hst h1 J
    .simp only[ak] at hc;subst hc;exact ahh (neg:=ai) I rfl hu hst h1 J
    .cases hc
  .cases hc
 .rename_i t x I;simp only[ak] at hc;subst hc;exact amf I J
 .rename_i t x I;split at hc
  .simp only[ak] at hc;subst hc;exact amg I J
  .cases hc
 .rename_i s' d x I;split at hc
  .rename_i k k' h1 h2;simp only[ak] at hc;subst hc;exact aje I h1 h2 J
  .cases hc
 .rename_i t l c I;obtain⟨el,h1,hc⟩:=bind_some hc;obtain⟨z,h2,hc⟩:=bind_some hc;obtain⟨sz,M,hc⟩:=bind_some hc;obtain⟨b,Z,hc⟩:=bind_some hc;obtain⟨U,hc⟩:=lZ hc;simp only[av,cU,bne_iff_ne] at U;simp only[ak] at hc;subst hc;exact aj7 I (sF h1) h2 M Z U.1.1 U.1.2 U.2 J
 .rename_i t x lo hi mx I;obtain⟨el,h1,hc⟩:=bind_some hc;obtain⟨sz,h2,rfl⟩:=map_some hc;exact amb I (sF h1) h2 J
 .rename_i t x k I;split at hc
  .rename_i fs hu;obtain⟨f,h1,hc⟩:=bind_some hc;obtain⟨sz,h2,hc⟩:=bind_some hc;obtain⟨M,hc⟩:=lZ hc;simp only[ak] at hc;subst hc;exact amp I hu h1 h2 (by simpa using M) J
  .cases hc
 .rename_i t x k I;split at hc
  .rename_i fs hu;obtain⟨f,h1,hc⟩:=bind_some hc;obtain⟨sz,h2,hc⟩:=bind_some hc;obtain⟨ag,M,rfl⟩:=map_some hc;exact amo I hu h1 h2 M J
  .cases hc
 .rename_i t x i I;split at hc
  .rename_i el hu;obtain⟨sz,h1,rfl⟩:=map_some hc;exact amn I hu h1 J
  .rename_i n el hu;obtain⟨sz,h1,rfl⟩:=map_some hc;exact ajc I hu h1 J
  .cases hc
 .rename_i t x i I;split at hc
  .rename_i n el hu;obtain⟨sz,h1,hc⟩:=bind_some hc;obtain⟨ag,h2,rfl⟩:=map_some hc;exact amm I hu h1 h2 J
  .rename_i hu;simp only[ak] at hc;subst hc;exact aj4 I hu J
  .cases hc
 .rename_i x i I;simp only[ak] at hc;subst hc;exact amq I J
 .rename_i f first caps I
  obtain⟨h1,hc⟩:=lZ hc;simp only[ak] at hc;subst hc;have h2:first=#[]:=by simpa using h1
  subst h2;exact amj I J
 .rename_i t I;split at hc
  .simp only[ak] at hc;subst hc;exact ami I J
  .cases hc
 .rename_i t x k ok I;split at hc
  .rename_i kt el hu;split at hc
   .rename_i q z h1 h2;obtain⟨M,hc⟩:=lZ hc;simp only[ak] at hc;subst hc;exact ahg (str:=aj) I hu h1 ⟨q,rfl⟩ h2 J
   .rename_i z h1 h2;obtain⟨M,hc⟩:=lZ hc;simp only[ak] at hc;subst hc;exact ahg (str:=ai) I hu h1 rfl h2 J
   .cases hc
  .cases hc
 .rename_i t m k v I;split at hc
  .rename_i kt el hu;split at hc
   .rename_i q h1;simp only[ak] at hc;subst hc;exact ahf (str:=aj) I hu h1 ⟨q,rfl⟩ J
   .rename_i h1;simp only[ak] at hc;subst hc;exact ahf (str:=ai) I hu h1 rfl J
   .cases hc
  .cases hc
 .rename_i t x I;split at hc
  .rename_i hu;simp only[ak] at hc;subst hc;exact amc I hu J
  .cases hc
 .rename_i x I;simp only[ak] at hc;subst hc;exact ame I J
 .rename_i c I;obtain⟨callee,args,argTypes⟩:=c;have arr:∀ {α:Type} {x:Array α} {l:List α},x.toList=l->x=l.toArray:=λh=>by rw[<- h]
  unfold Sr at hc;simp only[] at hc;split at hc
  .split at hc
   .rename_i x t h1 h2;rw[arr h1,arr h2] at I;split at hc
    .rename_i el hu;simp only[ak] at hc;subst hc;exact ajb I hu J
    .rename_i hu;simp only[ak] at hc;subst hc;exact aja I hu J
    .rename_i k v hu;simp only[ak] at hc;subst hc;exact aj9 I hu J
    .cases hc
   .cases hc
  .split at hc
   .rename_i x y h1;rw[arr h1] at I;simp only[ak] at hc;subst hc;exact aml I J
   .cases hc
  .split at hc
   .rename_i x y h1;rw[arr h1] at I;simp only[ak] at hc;subst hc;exact amk I J
   .cases hc
  .split at hc
   .rename_i d x t u h1 h2;rw[arr h1,arr h2] at I;split at hc
    .rename_i el el' h1 h2;obtain⟨sz,M,hc⟩:=bind_some hc;obtain⟨U,hc⟩:=lZ hc;simp only[ak] at hc;subst hc;exact ajd I (sF h1) (sF h2) M J
    .cases hc
   .cases hc
  .split at hc
   .rename_i x t h1 h2;rw[arr h1,arr h2] at I;obtain⟨el,M,hc⟩:=bind_some hc;obtain⟨z,U,hc⟩:=bind_some hc;obtain⟨sz,Z,hc⟩:=bind_some hc;obtain⟨Y,hc⟩:=lZ hc;simp only[av,cU,bne_iff_ne,ne_eq] at Y;simp only[ak] at hc;subst hc;exact amr I (sF M) U Y.1.1 Y.1.2 Y.2 J
   .cases hc
  .split at hc
   .rename_i s' x t u h1 h2;rw[arr h1,arr h2] at I;split at hc
    .rename_i el el' h1 h2;obtain⟨sz,M,hc⟩:=bind_some hc;obtain⟨b,U,hc⟩:=bind_some hc;obtain⟨z,Z,hc⟩:=bind_some hc;obtain⟨Y,hc⟩:=lZ hc;simp only[av,cU,bne_iff_ne] at Y;simp only[ak] at hc;subst hc;exact amu I (sF h1) (sF h2) M U Z Y.2 Y.1 J
    .cases hc
   .cases hc
  .cases hc
 .cases hc
theorem l_ {p:Nat->Bool}:∀ {l:List AV},AV.allL p l=ai->∀ x∈l,AV.all p x=ai
 |[],_,x,I=>by cases I
 |y::l,h,x,I=>by
  simp only[AV.allL,av] at h;rcases bl.1 I with rfl|I
  .exact h.1
  .exact l_ h.2 x I
theorem cM.restrict {φ φ':PM} {O O':Nat->Prop} {w:World} {p:Nat->Bool} (hs:∀ i k,p i=ai->φ i=af k->φ' i=af k) (M:∀ k,O' k->O k) {x:AV} {v:Value} (h:cM φ O w x v):x.all p=ai->cM φ' O' w x v:=by
 induction h with
 |f h=>intro _;exact .f (h.ext (O':=O') (K6.refl O w) λk _ hk=>M k hk)
 |ptr h=>intro hp;exact .ptr (hs _ _ hp h)
 |sl h hn hc=>intro hp;exact .sl (hs _ _ hp h) hn hc
 |row h hn hc hsh=>intro hp;exact .row (hs _ _ hp h) hn hc hsh
 |emp=>intro _;exact .emp
 |anyb=>intro _;exact .anyb
 |mp h=>intro hp;exact .mp (hs _ _ hp h)
 |agg hl hcl hr J=>intro hp;exact .agg hl hcl λj x v I hv=>J j x v I hv (l_ hp x (ba I))
 |tup hl hr J=>intro hp;exact .tup hl λj x v I hv=>J j x v I hv (l_ hp x (ba I))
 |clo hl hr J=>intro hp;exact .clo hl λj x v I hv=>J j x v I hv (l_ hp x (ba I))
theorem jy.restrict {φ φ':PM} {O O':Nat->Prop} {w w':World} {p:Nat->Bool} (hk:∀ x v,x.all p=ai->cM φ O w x v->cM φ' O' w' x v) {b:xc} {o:Obj} (hb:b.c.all p=ai) (h:jy φ O w b o):jy φ' O' w' b o:=by
 unfold jy at h ⊢;cases hc:b.c with
 |fz l=>
  rw[hc] at h;obtain⟨arr,h1,h2,J⟩:=h;exact⟨arr,h1,h2,λj x I=>by
   obtain⟨a,v,c,d⟩:=J j x I;refine ⟨a,v,c,hk _ _ ?_ d⟩;simp only[BC.get] at I;cases hl:l[j]? with
   |none=>rw[hl] at I;cases I
   |some q=>rw[hl] at I;simp at I;subst I;rfl⟩
 |mx l=>
  rw[hc] at h hb;obtain⟨arr,h1,h2,J⟩:=h;exact⟨arr,h1,h2,λj x I=>by
   obtain⟨a,v,c,d⟩:=J j x I;exact⟨a,v,c,hk _ _ (l_ hb x (ba I)) d⟩⟩
 |mp es=>
  rw[hc] at h hb;obtain⟨e,c,h1,h2,J⟩:=h;exact⟨e,c,h1,h2,λj x I=>by
   obtain⟨m,a,b⟩:=J j x I;exact⟨m,a,hk _ _ (l_ hb x.2 (dt.2 ⟨x,ba I,rfl⟩)) b⟩⟩
 |it s q=>rw[hc] at h;exact h
def abx (m:Nat):List Nat:=(dT (m+1)).filter λi=>aN m i
theorem MH {m i:Nat}:i∈abx m↔aN m i=ai:=by
 unfold abx;rw[FE,nz];constructor
 .exact λh=>h.2
 .intro h;refine ⟨?_,h⟩;have h1:=Nat.ge_two_pow_of_testBit h;have h2:=Nat.lt_two_pow_self (n:=i);omega
def j8 (φ:PM) (O:Nat->Prop) (w:World):List AV->List Value->Prop
 |[],[]=>True
 |x::xs,v::vs=>cM φ O w x v/\j8 φ O w xs vs
 |_,_=>False
theorem j8.length {φ:PM} {O:Nat->Prop} {w:World}:∀ {args:List AV} {vs:List Value},j8 φ O w args vs->vs.length=args.length
 |[],[],_=>rfl
 |[],_::_,h=>h.elim
 |_::_,[],h=>h.elim
 |_::_,_::_,h=>by simp[j8.length h.2]
theorem j8.mono {φ φ':PM} {O O':Nat->Prop} {w w':World} {p:Nat->Bool} (hk:∀ x v,x.all p=ai->cM φ O w x v->cM φ' O' w' x v):∀ {args:List AV} {vs:List Value},AV.allL p args=ai->j8 φ O w args vs->j8 φ' O' w' args vs
 |[],[],_,_=>trivial
 |[],_::_,_,h=>h.elim
 |_::_,[],_,h=>h.elim
 |x::xs,_::_,hp,h=>by
  simp only[AV.allL,av] at hp;exact⟨hk _ _ hp.1 h.1,j8.mono hk hp.2 h.2⟩
theorem j8.append {φ:PM} {O:Nat->Prop} {w:World}:∀ {xs I:List AV} {vs us:List Value},j8 φ O w xs vs->j8 φ O w I us->j8 φ O w (xs++I) (vs++us)
 |[],_,[],_,_,h=>h
 |[],_,_::_,_,h,_=>h.elim
 |_::_,_,[],_,h,_=>h.elim
 |_::_,_,_::_,_,h,h'=>⟨h.1,j8.append h.2 h'⟩
theorem j8.of {φ:PM} {O:Nat->Prop} {w:World}:∀ {xs:List AV} {vs:List Value},vs.length=xs.length->(∀ (j:Nat) x v,xs[j]? =af x->vs[j]? =af v->cM φ O w x v)->j8 φ O w xs vs
 |[],[],_,_=>trivial
 |[],_::_,h,_=>by simp at h
 |_::_,[],h,_=>by simp at h
 |x::xs,v::vs,hl,h=>⟨h 0 x v rfl rfl,j8.of (by simpa using hl) λj x v I hv=>h (j+1) x v (by simpa using I) (by simpa using hv)⟩
def D8 (P:Program) (f:FuncId):Prop:=∃ fn,P.funcs[f]? =af fn∧fn.body.isNone=aj∧(fn.name== "runtime.NumGoroutine")=aj
theorem OV {φ:PM} {E:Nat->Prop} {h':HF} {w:World} {a:Act} {e:Ab} {o:Oper} (hp:V3 φ E h' w a e o):∀ (xs:List Operand) (I:List AV),(∀ x∈xs,x∈o.op.operands)->W7 e xs=af I->j8 φ (tot E φ h') w I (xs.map a.eval)
 |[],I,_,h=>by simp only[W7,ak] at h;subst h;trivial
 |x::xs,I,hm,h=>by
  simp only[W7] at h;split at h
  .rename_i y J;split at h
   .rename_i ys' hys;simp only[ak] at h;subst h;exact⟨hp x y (hm x (dC ..)) J,OV hp xs ys' (λx M=>hm x (cO _ M)) hys⟩
   .cases h
  .cases h
theorem xn {P:Program} {f:FuncId} (hc:D8 P f) (args:Array Value) (w:World):(callFunc f args).run P w= .ok (.enter f args) w:=by
 obtain⟨fn,h1,h2,M⟩:=hc;have I:fn.name≠ "runtime.NumGoroutine" :=by simpa using M
 have J:fn.body≠ah:=by intro h;rw[h] at h2;cases h2
 simp[callFunc,program,nE,h1,J,I]
theorem WZ:∀ (fs:List FPm) (i:Nat),Yn fs i=fs[i]?
 |[],i=>by simp[Yn]
 |f::fs,0=>rfl
 |f::fs,i+1=>by simp[Yn,WZ fs i]
theorem xT {a b:Nat} (h:DG a b=ai) (i:Nat) (I:aN a i=ai):aN b i=aj:=by
 unfold DG at h;have h0:a&&&b=0:=aw h;have:=Nat.testBit_and a b i;rw[h0,I] at this;simpa using this.symm
structure Ctx where
 n0:Nat
 φ:PM
 E:Nat->Prop
 h:HF
 w:World
def acx (P:Program) (d:Deferred):Prop:=∀ w:World,∃ J cap f args,d.target= .fn J cap/\(invoke d.target d.args).run P w= .ok (.enter f args) w/\
 CallsD P f args .returning w λe I w'=>(∃ v,e= .returned v)/\I= .returning/\w'=w
structure Cfg (P:Program) (C:Ctx) (nt:Nat) (s:IS) (a:Act) (w:World):Prop where
 ex:∃ φ,je C.φ φ C.h s.h.get C.w w/\qY φ C.E s.h.get w/\Ns φ (tot C.E φ s.h.get) w s.e.get a/\(∀ i k,φ i=af k->i<s.nx)/\∀ i k,φ i=af k->C.φ i=af k\/C.n0<=i
 low:C.n0<=s.nx
 inert:∀ d∈a.defers,acx P d
 size:a.tmps.size=nt
theorem Cfg.bool {P:Program} {C:Ctx} {nt:Nat} {s:IS} {a:Act} {w:World} (c:Cfg P C nt s a w) {t:Nat} {b:Bool} (ht:s.e.get t=af (.f (.raw (.bool b)))):a.eval (.tmp t)= .bool b:=by
 obtain⟨φ,_,_,en,_,_⟩:=c.ex;exact fB (en t _ ht)
theorem Cm {P:Program} {c:Code} {Q:Exit->Act->World->Prop} (I:Nat->Act->World->Prop) (round:∀ n a w,I n a w->c.wp P (Exit.then (λa' w'=>∃ m,m<n/\I m a' w') Q) a w) {n:Nat} {a:Act} {w:World} (h0:I n a w):(Code.loop c).wp P Q a w:=by
 have least:∀ (n:Nat) (a:Act) (w:World),I n a w->∃ m,I m a w/\∀ k,I k a w->m<=k:=by
  intro n;induction n using Nat.strongRecOn with
  |_ n U=>
   intro a w hn;by_cases J:∃ k,k<n/\I k a w
   .obtain⟨k,hk,M⟩:=J;exact U k hk a w M
   .exact⟨n,hn,λk hk=>Nat.le_of_not_lt λhlt=>J ⟨k,hlt,hk⟩⟩
 have pick:∀ a w,∃ m,(∃ n,I n a w)->I m a w/\∀ k,I k a w->m<=k:=λa w=>by
  by_cases J:∃ n,I n a w
  .obtain⟨n,hn⟩:=J;obtain⟨m,hm⟩:=least n a w hn;exact⟨m,λ_=>hm⟩
  .exact⟨0,λh=>cV h J⟩
 let μ:Act->World->Nat:=λa w=>Classical.choose (pick a w)
 have hμ:∀ a w,(∃ n,I n a w)->I (μ a w) a w/\∀ k,I k a w->μ a w<=k:=λa w=>Classical.choose_spec (pick a w)
 refine wp_loop (λa w=>∃ n,I n a w) μ ⟨n,h0⟩ λa w M=>?_
 refine wp_mono (round (μ a w) a w (hμ a w M).1) λe a' w' he=>?_
 cases e with
 |normal=>
  obtain⟨m,hm,hIm⟩:=he;exact⟨⟨m,hIm⟩,Nat.lt_of_le_of_lt ((hμ a' w' ⟨m,hIm⟩).2 m hIm) hm⟩
 |exit id=>exact he
 |goto l=>exact he
 |ret=>exact he
 |panic c=>exact he
 |outgrown=>exact he
def Ex.to:Ex->Exit
 |.normal=>.normal
 |.exit id=>.exit id
 |.ret=>.ret
def K4 (P:Program) (inert:FuncId->Bool):Prop:=∀ f,inert f=ai->D8 P f/\∀ (args:Array Value) (w:World),CallsD P f args .returning w λe I w'=>(∃ v,e= .returned v)/\I= .returning/\w'=w
theorem RI {P:Program} {C:Ctx} {nt:Nat} {inert:FuncId->Bool} (hin:K4 P inert) {s:IS} {a:Act} {w:World} (c:Cfg P C nt s a w) {id:Nat} {ops:Array Oper} {dr:Bool} {f:FuncId} {caps:List Operand} {t:Nat} (hd:(ops.toList.all λo=>match o.dst with|some d=>decide (d<nt)|none=>ai)=ai) (hdf:DI ops dr=af (f,caps,t))
 {l:List AV} (hl:W7 s.e caps=af l) (hi:inert f=ai) {Q:Exit->Act->World->Prop} (hQ:∀ a w,Cfg P C nt ⟨s.e.put (af t) (.clo f l),s.h,s.nx,s.wr⟩ a w->Q .normal a w):(Code.region id ops dr).wp P Q a w:=by
 unfold DI at hdf;split at hdf
 .rename_i p q hops;split at hdf
  .rename_i f' first caps' t1 cl hpo hpg hpd hqo hqg hqd
   split at hdf
   .rename_i t2 hcl hca;split at hdf
    .rename_i hcond;simp only[av] at hcond;obtain⟨h1,h2⟩:=hcond;have h1:=aw h1;have h2:first=#[]:=by simpa using h2
     simp only[ak,aD] at hdf;obtain⟨rfl,rfl,rfl⟩:=hdf;subst h1;subst h2;have hops':ops=#[p,q]:=by rw[<- Array.toArray_toList (xs:=ops),hops]
     obtain⟨φ,m,r,en,dm⟩:=c.ex;obtain⟨hcb,hincalls⟩:=hin f' hi;have htn:t1<nt:=by
      have:=gu.1 hd p (by rw[hops];simp);rw[hpd] at this;simpa using this
     have hrelL:j8 φ (tot C.E φ s.h.get) w l (caps'.toList.map a.eval):=by
      have hp':V3 φ C.E s.h.get w a s.e p:=λx y U Y=>tO r (xs:=p.op.operands) (λt _ y Y=>en t y Y) U Y
      exact OV hp' caps'.toList l (λx U=>by rw[hpo];simpa[Op.operands] using U) hl
     have hcm:caps'.map a.eval=(caps'.toList.map a.eval).toArray:=by apply Lf;simp
     let J:Value:=.func (.func f') #[] (caps'.map a.eval)
     have hrel:cM φ (tot C.E φ s.h.get) w (.clo f' l) J:=by
      simp only[J];rw[hcm];refine .clo (hrelL.length) ?_;have:∀ (xs:List AV) (vs:List Value),j8 φ (tot C.E φ s.h.get) w xs vs->∀ (j:Nat) x v,xs[j]? =af x->vs[j]? =af v->cM φ (tot C.E φ s.h.get) w x v:=by
       intro xs;induction xs with
       |nil=>intro vs _ j x v U;simp at U
       |cons y xs ih=>
        intro vs h j x v U hv;cases vs with
        |nil=>exact h.elim
        |cons u vs=>
         cases j with
         |zero=>simp at U hv;subst U;subst hv;exact h.1
         |succ j=>exact ih vs h.2 j x v (by simpa using U) (by simpa using hv)
      exact this _ _ hrelL
     refine wp_region ?_;have Z:dT ops.size=[0,1]:=by rw[hops'];rfl
     rw[Z];have e0:ops[0]? =af p:=by rw[hops'];rfl
     have e1:ops[1]? =af q:=by rw[hops'];rfl
     rw[wpOps_cons];have hexec1:(execOp a.eval p).run P w= .ok (.value J) w:=by
      unfold execOp;rw[hpo];simp[Instr.makeFunc,J]
     have w1:iO p (yielded ops a.tmps)=ai:=by unfold iO;rw[hpg]
     unfold wpOp;simp only[e0,w1,bG];left;unfold HE;rw[hexec1];show wpOps P ops Q [1] (a.put p.dst J) w;rw[wpOps_cons];unfold wpOp;have w2:iO q (yielded ops (a.put p.dst J).tmps)=ai:=by unfold iO;rw[hqg]
     simp only[e1,w2,bG];left;have heval:(a.put p.dst J).eval (.tmp t1)=J:=by
      show (a.put p.dst J).tmps.getD t1 undef=J;rw[Ir (by intro d I;rw[hpd] at I;cases I;rw[c.size];exact htn),aE hpd]
     have hargs:cl.args=#[]:=by rw[<- Array.toArray_toList (xs:=cl.args),hca]
     have hexec2:(execOp (a.put p.dst J).eval q).run P w= .ok (.defer {target:=.fn (.func f') (caps'.map a.eval),args:=#[]}) w:=by
      unfold execOp;rw[hqo];simp[resolve,hcl,heval,J,Deferred.ofValue,hargs]
     unfold HE;rw[hexec2];show wpOps P ops Q [] _ w;refine hQ _ _ ⟨⟨φ,m,r,?_,dm⟩,c.low,?_,?_⟩
     .intro u x U;rw[hqd];show cM φ _ w x ((a.put p.dst J).tmps.getD u undef);rw[Ir (by intro d I;rw[hpd] at I;cases I;rw[c.size];exact htn)];have M:(s.e.put (af t1) (.clo f' l)).get u=af x:=U;rw[<- Z6] at M;unfold CG at M;rw[hpd];by_cases hu:af t1=af u
      .rw[aE hu] at M ⊢;cases M;exact hrel
      .rw[aA hu] at M ⊢;exact en u x M
     .intro d I;rw[hqd] at I;have hd'':d={target:=.fn (.func f') (caps'.map a.eval),args:=#[]}\/d∈(a.put p.dst J).defers:=by
       simpa[ND] using I
      rcases hd'' with rfl|hd''
      .intro w0;refine ⟨_,_,f',caps'.map a.eval,rfl,?_,hincalls _ w0⟩;simp[invoke,xn hcb]
      .rw[Is] at hd'';exact c.inert d hd''
     .rw[hqd];show (a.put p.dst J).tmps.size=nt;rw[Qo];exact c.size
    .cases hdf
   .cases hdf
  .cases hdf
 .cases hdf
def XT (tmps:Array Value):ResultVar->Sem Value
 |.tmp t=>pure (tmps.getD t undef)
 |.cell a t=>do
  let I<-asAddr (tmps.getD a undef)
  loadVar t I
theorem T5 (fn:Func) (tmps:Array Value):results fn tmps=(do let vs<-fn.results.mapM (XT tmps);pure (if h:vs.size=1 then vs[0] else .tuple vs)):=by
 unfold results;congr 2
theorem CU {P:Program} {fn:Func} {tmps:Array Value} {R:Ending->World->Prop} {w:World} {v:Value} (hr:(results fn tmps).run P w= .ok v w) (I:R (.returned v) w):∀ (ds:List Deferred),(∀ d∈ds,acx P d)->Leaves P fn tmps R ds .returning w
 |[],_=>⟨v,hr,I⟩
 |d::ds,h=>by
  obtain⟨M,cap,f,args,h1,h2,J⟩:=h d (dC ..) w;refine ⟨by simp,M,cap,f,args,h1,h2,J.mono ?_⟩;rintro e Y w' ⟨⟨U,rfl⟩,rfl,rfl⟩;exact CU hr I ds λd hd=>h d (cO _ hd)
theorem j8.get {φ:PM} {O:Nat->Prop} {w:World}:∀ {xs:List AV} {vs:List Value},j8 φ O w xs vs->∀ (j:Nat) x,xs[j]? =af x->∃ v,vs[j]? =af v/\cM φ O w x v
 |[],_,_,j,x,I=>by simp at I
 |_::_,[],h,_,_,_=>h.elim
 |y::xs,u::vs,h,j,x,I=>by
  cases j with
  |zero=>simp at I;subst I;exact⟨u,rfl,h.1⟩
  |succ j=>exact j8.get h.2 j x (by simpa using I)
theorem Sq {P:Program} {f:FuncId} {I:SF} (h:zS P f=af I):∃ fn c,P.funcs[f]? =af fn∧fn.body=af c∧(fn.name== "runtime.NumGoroutine")=aj∧I.code=cj P fn.ntmps c∧vC P fn.results.toList=af I.res∧I.nt=fn.ntmps:=by
 unfold zS at h;split at h
 .rename_i fn hf;split at h
  .cases h
  .rename_i hn;split at h
   .rename_i c r hb hr;simp only[ak] at h;subst h;exact⟨fn,c,hf,hb,by simpa using hn,rfl,hr,rfl⟩
   .cases h
 .cases h
theorem afj {a b:Value} (h:aiv a b=ai):a=b:=by
 unfold aiv at h;split at h
 .simp at h;rw[h]
 .simp at h;rw[h.1,h.2]
 .rw[zX.1 h]
 .simp only[av] at h;rw[aw h.1,aw h.2]
 .rfl
 .rename_i x y;simp only[av,Array.isEmpty_iff] at h;rw[h.1,h.2]
 .cases h
def PT.mapO {α β:Type} (g:α->Option β):PT α->PT β
 |.leaf=>.leaf
 |.node v l r=>.node (v.bind g) (PT.mapO g l) (PT.mapO g r)
theorem PT.get_mapO {α β:Type} (g:α->Option β):∀ (t:PT α) (i:Nat),(PT.mapO g t).get i=(t.get i).bind g
 |.leaf,i=>by simp[PT.mapO,PT.get]
 |.node v l r,0=>by simp[PT.mapO,PT.get]
 |.node v l r,j+1=>by
  simp only[PT.mapO,PT.get];split
  .exact PT.get_mapO g l _
  .exact PT.get_mapO g r _
theorem PT.get_updI {α:Type} (f:Nat->α->α):∀ (t:PT α) (a b i:Nat),(PT.updI f a b t).get i=(t.get i).map (f (a*i+b))
 |.leaf,_,_,i=>by simp[PT.updI,PT.get]
 |.node v l r,a,b,0=>by cases v<;>simp[PT.updI,PT.get]
 |.node v l r,a,b,j+1=>by
  simp only[PT.updI,PT.get];split
  .rename_i hj;rw[PT.get_updI f l];have:2*a*(j/2)+(a+b)=a*(j+1)+b:=by
    have h2:j=2*(j/2):=by have:=aw hj;omega
    have I:2*a*(j/2)=a*j:=by rw[HH 2 a,Nat.mul_assoc,<-h2]
    rw[I,Nat.mul_add];omega
   rw[this]
  .rename_i hj;rw[PT.get_updI f r];have:2*a*(j/2)+(2*a+b)=a*(j+1)+b:=by
    have h1:j%2≠0:=λh=>hj (by rw[h];rfl)
    have h2:j=2*(j/2)+1:=by omega
    have I:2*a*(j/2)=a*(2*(j/2)):=by rw[HH 2 a,Nat.mul_assoc]
    have J:a*(j+1)=a*(2*(j/2))+2*a:=by
     conv=>lhs;rw[h2]
     rw[Nat.mul_add,Nat.mul_add];omega
    rw[I,J];omega
   rw[this]
theorem PT.bound {α:Type}:∀ (t:PT α),∃ B,∀ i,B<=i->t.get i=ah
 |.leaf=>⟨0,λi _=>rfl⟩
 |.node v l r=>by
  obtain⟨a,I⟩:=PT.bound l;obtain⟨b,hb⟩:=PT.bound r;refine ⟨2*(a+b)+3,λi hi=>?_⟩;cases i with
  |zero=>omega
  |succ j=>
   simp only[PT.get];split
   .exact I _ (by omega)
   .exact hb _ (by omega)
def PT.ofF {α:Type} (f:Nat->Option α):Nat->PT α
 |0=>.leaf
 |n+1=>(PT.ofF f n).set n (f n)
theorem PT.get_ofF {α:Type} (f:Nat->Option α):∀ (n i:Nat),(PT.ofF f n).get i=if i<n then f i else ah
 |0,i=>by simp[PT.ofF,PT.get]
 |n+1,i=>by
  rw[PT.ofF,PT.get_set,PT.get_ofF f n];by_cases h:i=n
  .subst h;simp
  .rw[aA h];by_cases h2:i<n
   .rw[aE h2,aE (by omega)]
   .rw[aA h2,aA (by omega)]
def nm (i:Nat):Nat:=2*i
def ow (n:Nat):Nat:=n/2
theorem em (i:Nat):ow (nm i)=i:=by unfold ow nm;omega
theorem kV {i j:Nat} (h:nm i=nm j):i=j:=by unfold nm at h;omega
def fA (p:Bool) (id sz n:Nat):AV:=if p&&n==0 then .emp else .row (nm id) sz n
mutual
def ci (h:bk):TV->Option AV
 |.f T v=>af (.f (gL T v))
 |.fel T xs j _ off=>af (.f (.ptr (xs.flatMap (bS T)) (j.toNat*T.size+off)))
 |.pel id sz j off=>af (.ptr (nm id) (j.toNat*sz+off))
 |.ptr id off=>af (.ptr (nm id) off)
 |.csl id sz n=>af (.row (nm id) sz n)
 |.row id=>match eJ h id with|some (p,sz,n)=>af (fA p id sz n)|none=>ah
 |.rtl id j=>match eJ h id with|some (_,sz,n)=>af (.sl (nm id) (j.toNat*sz) (n-j.toNat))|none=>ah
 |.emp=>af .emp
 |.nil=>af (.f (.raw (.slice ah 0 0)))
 |.mp id=>af (.mp (nm id))
 |.agg l=>match cL h l with|some l'=>af (.agg l')|none=>ah
 |.tup l=>match cL h l with|some l'=>af (.tup l')|none=>ah
 |.clo g l=>match cL h l with|some l'=>af (.clo g l')|none=>ah
 |.undef=>af (.f (.raw undef))
 |.np=>af (.f (.raw (.pointer ah)))
 |.anyb=>af .anyb
def cL (h:bk):List TV->Option (List AV)
 |[]=>af []
 |x::r=>match ci h x with
  |some y=>(match cL h r with|some l=>af (y::l)|none=>ah)
  |none=>ah
end
def pO:(K:Ty)->K.den->Value
 |.int k,n=>.int k n
 |.str,s=>.string ⟨kJ s⟩
 |_,_=>undef
def mpC:(K V:Ty)->List (K.den×V.den)->BC
 |.st (.pr .str (.int .i64)),.un,es=>.it ⟨kJ (PQ es)⟩ (Oj es)
 |K,V,es=>.mp (es.map λp=>(pO K p.1,.f (gL V p.2)))
theorem BV {K V:Ty} {es:List (K.den×V.den)} (h:Ug K=ai):mpC K V es= .mp (es.map λp=>(pO K p.1,.f (gL V p.2))):=by
 unfold mpC;split
 .cases h
 .rfl
theorem aie {K V:Ty} {es:List (K.den×V.den)} {s:List UInt8} {p:Nat} (h:itE K V es=af (s,p)):mpC K V es= .it ⟨kJ s⟩ p:=by
 unfold itE at h;split at h
 .cases h;rfl
 .cases h
def kE (h:bk):iz->Option xc
 |.rows ty p T xs=>if p&&xs.length==0 then ah else af ⟨ty,.fz (xs.flatMap (bS T))⟩
 |.cells ty l=>match cL h l with|some I=>af ⟨ty,.mx I⟩|none=>ah
 |.dead _ _ _=>ah
 |.mp K V es=>af ⟨0,mpC K V es⟩
def fV (e:iS) (h:bk):EF:=λt=>(e.get t).bind (ci h)
def bC (h:bk):HF:=λn=>if n%2=0 then (h.get (n/2)).bind (kE h) else ah
theorem bM (h:bk) (i:Nat):bC h (nm i)=(h.get i).bind (kE h):=by
 unfold bC nm;rw[aE (by omega),show 2*i/2=i from by omega]
theorem jC {h:bk} {n:Nat} {b:xc} (hb:bC h n=af b):∃ i c,n=nm i/\h.get i=af c/\kE h c=af b:=by
 unfold bC at hb;split at hb
 .cases hc:h.get (n/2) with
  |none=>rw[hc] at hb;cases hb
  |some c=>rw[hc] at hb;exact⟨n/2,c,by unfold nm;omega,hc,hb⟩
 .cases hb
def JA (e:iS) (h:bk):Ab:=PT.mapO (ci h) e
theorem vw (e:iS) (h:bk):(JA e h).get=fV e h:=by funext t;exact PT.get_mapO _ _ _
theorem jR (h:bk):∃ H:oc,H.get=bC h:=by
 obtain⟨B,I⟩:=PT.bound h;refine ⟨PT.ofF (bC h) (2*B),?_⟩;funext n;rw[PT.get_ofF];split
 .rfl
 .unfold bC;split
  .rw[I _ (by omega)];rfl
  .rfl
theorem cX {h:bk} {x:TV} {r:List TV} {l:List AV} (he:cL h (x::r)=af l):∃ y I,l=y::I/\ci h x=af y/\cL h r=af I:=by
 simp only[cL] at he;split at he
 .rename_i y J;split at he
  .rename_i I hl;simp only[ak] at he;exact⟨y,I,he.symm,J,hl⟩
  .cases he
 .cases he
theorem o8 {h:bk} {x:TV} {r:List TV} {y:AV} {I:List AV} (h1:ci h x=af y) (h2:cL h r=af I):cL h (x::r)=af (y::I):=by
 simp only[cL,h1,h2]
theorem ic {h:bk}:∀ {l:List TV} {I:List AV},cL h l=af I->I.length=l.length
 |[],I,he=>by simp only[cL,ak] at he;subst he;rfl
 |x::r,I,he=>by
  obtain⟨y,l2,rfl,_,h2⟩:=cX he;simp[ic h2]
theorem nj {h:bk}:∀ {a b:List TV} {a' b':List AV},cL h a=af a'->cL h b=af b'->cL h (a++b)=af (a'++b')
 |[],b,a',b',I,hb=>by simp only[cL,ak] at I;subst I;exact hb
 |x::r,b,a',b',I,hb=>by
  obtain⟨y,l2,rfl,h1,h2⟩:=cX I;exact o8 h1 (nj h2 hb)
theorem B6 {h:bk}:∀ {a b:List TV} {l:List AV},cL h (a++b)=af l->∃ a' b',l=a'++b'/\cL h a=af a'/\cL h b=af b'
 |[],b,l,he=>⟨[],l,rfl,rfl,he⟩
 |x::r,b,l,he=>by
  obtain⟨y,l2,rfl,h1,h2⟩:=cX he;obtain⟨a',b',rfl,J,I⟩:=B6 h2;exact⟨y::a',b',rfl,o8 h1 J,I⟩
theorem Fa {h:bk}:∀ {l:List TV} {I:List AV} (n:Nat),cL h l=af I->cL h (l.take n)=af (I.take n)
 |[],I,n,he=>by simp only[cL,ak] at he;subst he;simp[cL]
 |x::r,I,n,he=>by
  obtain⟨y,l2,rfl,h1,h2⟩:=cX he;cases n with
  |zero=>simp[cL]
  |succ n=>exact o8 h1 (Fa n h2)
theorem Fc {h:bk}:∀ {l:List TV} {I:List AV} (n:Nat),cL h l=af I->cL h (l.drop n)=af (I.drop n)
 |[],I,n,he=>by simp only[cL,ak] at he;subst he;simp[cL]
 |x::r,I,n,he=>by
  obtain⟨y,l2,rfl,h1,h2⟩:=cX he;cases n with
  |zero=>exact he
  |succ n=>simpa using Fc n h2
theorem sC {h:bk} {l vs:List TV} {I vs':List AV} (off:Nat) (h1:cL h l=af I) (h2:cL h vs=af vs'):cL h (splice l off vs)=af (splice I off vs'):=by
 unfold splice;rw[ic h2];exact nj (nj (Fa _ h1) h2) (Fc _ h1)
theorem l9 {h:bk}:∀ {l:List TV} {I:List AV},cL h l=af I->∀ (j:Nat) x,l[j]? =af x->∃ y,I[j]? =af y/\ci h x=af y
 |[],I,he,j,x,M=>by simp at M
 |x::r,I,he,j,z,J=>by
  obtain⟨y,l2,rfl,h1,h2⟩:=cX he;cases j with
  |zero=>simp at J;subst J;exact⟨y,rfl,h1⟩
  |succ j=>simpa using l9 h2 j z (by simpa using J)
mutual
theorem qd (h:bk):∀ (u:TV),Lt h u=ai->∃ y,ci h u=af y
 |.f _ _,_=>⟨_,rfl⟩
 |.fel _ _ _ _ _,_=>⟨_,rfl⟩
 |.pel _ _ _ _,_=>⟨_,rfl⟩
 |.ptr _ _,_=>⟨_,rfl⟩
 |.csl _ _ _,_=>⟨_,rfl⟩
 |.row id,he=>by
  simp only[Lt] at he;cases hr:eJ h id with
  |none=>rw[hr] at he;cases he
  |some r=>obtain⟨p,sz,n⟩:=r;exact⟨_,by simp only[ci,hr];rfl⟩
 |.rtl id jj,he=>by
  simp only[Lt] at he;cases hr:eJ h id with
  |none=>rw[hr] at he;cases he
  |some r=>obtain⟨p,sz,n⟩:=r;exact⟨_,by simp only[ci,hr];rfl⟩
 |.emp,_=>⟨_,rfl⟩
 |.nil,_=>⟨_,rfl⟩
 |.mp _,_=>⟨_,rfl⟩
 |.agg l,he=>by obtain⟨y,hy⟩:=fy h l he;exact⟨_,by simp only[ci,hy];rfl⟩
 |.tup l,he=>by obtain⟨y,hy⟩:=fy h l he;exact⟨_,by simp only[ci,hy];rfl⟩
 |.clo g l,he=>by obtain⟨y,hy⟩:=fy h l he;exact⟨_,by simp only[ci,hy];rfl⟩
 |.undef,_=>⟨_,rfl⟩
 |.np,_=>⟨_,rfl⟩
 |.anyb,_=>⟨_,rfl⟩
theorem fy (h:bk):∀ (l:List TV),kU h l=ai->∃ l',cL h l=af l'
 |[],_=>⟨[],rfl⟩
 |x::r,he=>by
  simp only[kU,av] at he;obtain⟨y,hy⟩:=qd h x he.1;obtain⟨l',hl⟩:=fy h r he.2;exact⟨_,o8 hy hl⟩
end
def ch (h h':bk):Prop:=∀ id r,eJ h id=af r->eJ h' id=af r
mutual
theorem gE {h h':bk} (hk:ch h h'):∀ (u:TV) (y:AV),ci h u=af y->ci h' u=af y
 |.f _ _,y,he=>he
 |.fel _ _ _ _ _,y,he=>he
 |.pel _ _ _ _,y,he=>he
 |.ptr _ _,y,he=>he
 |.csl _ _ _,y,he=>he
 |.row id,y,he=>by
  simp only[ci] at he ⊢;split at he
  .rename_i p sz n hr;rw[hk _ _ hr];exact he
  .cases he
 |.rtl id jj,y,he=>by
  simp only[ci] at he ⊢;split at he
  .rename_i p sz n hr;rw[hk _ _ hr];exact he
  .cases he
 |.emp,y,he=>he
 |.nil,y,he=>he
 |.mp _,y,he=>he
 |.agg l,y,he=>by
  simp only[ci] at he ⊢;split at he
  .rename_i l' hl;rw[hX hk l l' hl];exact he
  .cases he
 |.tup l,y,he=>by
  simp only[ci] at he ⊢;split at he
  .rename_i l' hl;rw[hX hk l l' hl];exact he
  .cases he
 |.clo g l,y,he=>by
  simp only[ci] at he ⊢;split at he
  .rename_i l' hl;rw[hX hk l l' hl];exact he
  .cases he
 |.undef,y,he=>he
 |.np,y,he=>he
 |.anyb,y,he=>he
theorem hX {h h':bk} (hk:ch h h'):∀ (l:List TV) (l':List AV),cL h l=af l'->cL h' l=af l'
 |[],l',he=>he
 |x::r,l',he=>by
  obtain⟨y,l2,rfl,h1,h2⟩:=cX he;exact o8 (gE hk x y h1) (hX hk r l2 h2)
end
mutual
theorem oF {h h':bk} (hk:ch h h'):∀ (u:TV),Lt h u=ai->Lt h' u=ai
 |.f _ _,_=>rfl
 |.fel _ _ _ _ _,_=>rfl
 |.pel _ _ _ _,_=>rfl
 |.ptr _ _,_=>rfl
 |.csl _ _ _,_=>rfl
 |.row id,he=>by
  simp only[Lt] at he ⊢;cases hr:eJ h id with
  |none=>rw[hr] at he;cases he
  |some r=>rw[hk _ _ hr];rfl
 |.rtl id jj,he=>by
  simp only[Lt] at he ⊢;cases hr:eJ h id with
  |none=>rw[hr] at he;cases he
  |some r=>rw[hk _ _ hr];rfl
 |.emp,_=>rfl
 |.nil,_=>rfl
 |.mp _,_=>rfl
 |.agg l,he=>i_ hk l he
 |.tup l,he=>i_ hk l he
 |.clo g l,he=>i_ hk l he
 |.undef,_=>rfl
 |.np,_=>rfl
 |.anyb,_=>rfl
theorem i_ {h h':bk} (hk:ch h h'):∀ (l:List TV),kU h l=ai->kU h' l=ai
 |[],_=>rfl
 |x::r,he=>by
  simp only[kU,av] at he ⊢;exact⟨oF hk x he.1,i_ hk r he.2⟩
end
mutual
theorem E_ (h:bk):∀ (u:TV) (y:AV),ci h u=af y->Lt h u=ai
 |.f _ _,_,_=>rfl
 |.fel _ _ _ _ _,_,_=>rfl
 |.pel _ _ _ _,_,_=>rfl
 |.ptr _ _,_,_=>rfl
 |.csl _ _ _,_,_=>rfl
 |.row id,y,he=>by
  simp only[Lt,ci] at he ⊢;cases hr:eJ h id with
  |none=>rw[hr] at he;cases he
  |some r=>rfl
 |.rtl id jj,y,he=>by
  simp only[Lt,ci] at he ⊢;cases hr:eJ h id with
  |none=>rw[hr] at he;cases he
  |some r=>rfl
 |.emp,_,_=>rfl
 |.nil,_,_=>rfl
 |.mp _,_,_=>rfl
 |.agg l,y,he=>by
  simp only[ci] at he;split at he
  .rename_i l' hl;exact kP h l l' hl
  .cases he
 |.tup l,y,he=>by
  simp only[ci] at he;split at he
  .rename_i l' hl;exact kP h l l' hl
  .cases he
 |.clo g l,y,he=>by
  simp only[ci] at he;split at he
  .rename_i l' hl;exact kP h l l' hl
  .cases he
 |.undef,_,_=>rfl
 |.np,_,_=>rfl
 |.anyb,_,_=>rfl
theorem kP (h:bk):∀ (l:List TV) (l':List AV),cL h l=af l'->kU h l=ai
 |[],_,_=>rfl
 |x::r,l',he=>by
  obtain⟨y,l2,rfl,h1,h2⟩:=cX he;simp only[kU,av];exact⟨E_ h x y h1,kP h r l2 h2⟩
end
mutual
theorem Rt (h h':bk):∀ (u:TV),ur u=ai->ci h u=ci h' u
 |.f _ _,_=>rfl
 |.fel _ _ _ _ _,_=>rfl
 |.pel _ _ _ _,_=>rfl
 |.ptr _ _,_=>rfl
 |.csl _ _ _,_=>rfl
 |.row id,he=>by cases he
 |.emp,_=>rfl
 |.nil,_=>rfl
 |.mp _,_=>rfl
 |.agg l,he=>by simp only[ci];rw[Fb h h' l he]
 |.tup l,he=>by simp only[ci];rw[Fb h h' l he]
 |.clo g l,he=>by cases he
 |.undef,_=>rfl
 |.np,_=>rfl
 |.anyb,_=>rfl
theorem Fb (h h':bk):∀ (l:List TV),qx l=ai->cL h l=cL h' l
 |[],_=>rfl
 |x::r,he=>by
  simp only[qx,av] at he;simp only[cL];rw[Rt h h' x he.1,Fb h h' r he.2]
end
theorem Ol {h:bk} {u:TV} {y:AV} (he:ci h u=af y) (hc:u.isC=ai):y.isCell=ai:=by
 cases u with
 |f T v=>cases T<;>simp only[ci,ak] at he<;>subst he<;>first|rfl|(simp [TV.isC,Ty.one] at hc)
 |fel T xs j hj off=>simp only[ci,ak] at he;subst he;rfl
 |pel id sz j off=>simp only[ci,ak] at he;subst he;rfl
 |ptr id off=>simp only[ci,ak] at he;subst he;rfl
 |csl id off z=>simp only[ci,ak] at he;subst he;rfl
 |row id=>
  simp only[ci] at he;split at he
  .simp only[ak] at he;subst he;unfold fA;split<;>rfl
  .cases he
 |rtl id I=>cases hc
 |emp=>simp only[ci,ak] at he;subst he;rfl
 |nil=>simp only[ci,ak] at he;subst he;rfl
 |mp id=>simp only[ci,ak] at he;subst he;rfl
 |agg l=>cases hc
 |tup l=>cases hc
 |clo g l=>
  simp only[ci] at he;split at he
  .simp only[ak] at he;subst he;rfl
  .cases he
 |undef=>cases hc
 |np=>simp only[ci,ak] at he;subst he;rfl
 |anyb=>cases hc
theorem r_ {h:bk}:∀ {l:List TV} {I:List AV},cL h l=af I->kA l=ai->gK I=ai
 |[],I,he,_=>by simp only[cL,ak] at he;subst he;rfl
 |x::r,I,he,hc=>by
  obtain⟨y,l2,rfl,h1,h2⟩:=cX he;simp only[kA,av] at hc;simp only[gK,av];exact⟨Ol h1 hc.1,r_ h2 hc.2⟩
def Le (x y:AV):Prop:=∀ (φ:PM) (O:Nat->Prop) (w:World) (v:Value),cM φ O w x v->cM φ O w y v
theorem Le.refl (x:AV):Le x x:=λ_ _ _ _ h=>h
def lM (H H':HF) (x y:AV):Prop:=∀ (φ:PM) (E:Nat->Prop) (w:World) (v:Value),qY φ E H w->cM φ (tot E φ H) w x v->cM φ (tot E φ H') w y v
def vF (H H':HF):Prop:=∀ i b,H' i=af b->∃ b0,H i=af b0
theorem vF.refl (H:HF):vF H H:=λ_ b h=>⟨b,h⟩
theorem vF.own {H H':HF} (d:vF H H') {φ:PM} {k:Nat} (h:own φ H' k):own φ H k:=by
 obtain⟨i,b,h1,h2⟩:=h;obtain⟨b0,I⟩:=d i b h1;exact⟨i,b0,I,h2⟩
theorem vF.tot {H H':HF} (d:vF H H') {E:Nat->Prop} {φ:PM} {k:Nat} (h:tot E φ H' k):tot E φ H k:=h.imp id d.own
theorem cM.dom {H H':HF} (d:vF H H') {φ:PM} {E:Nat->Prop} {w:World} {x:AV} {v:Value} (h:cM φ (tot E φ H) w x v):cM φ (tot E φ H') w x v:=
 h.ext (λ_ _ h=>h) (K6.refl _ w) λ_ _ hk=>d.tot hk
theorem nu.dom {H H':HF} (d:vF H H') {φ:PM} {E:Nat->Prop} {w:World} {x:FV} {v:Value} (h:nu (tot E φ H) w x v):nu (tot E φ H') w x v:=
 h.ext (K6.refl _ w) λ_ _ hk=>d.tot hk
theorem Le.toH {H H':HF} (d:vF H H') {x y:AV} (h:Le x y):lM H H' x y:=λφ E w v _ hr=>(h _ _ _ _ hr).dom d
theorem lM.refl {H H':HF} (d:vF H H') (x:AV):lM H H' x x:=(Le.refl x).toH d
def il (H H':HF):List AV->List AV->Prop
 |[],[]=>True
 |x::xs,y::I=>lM H H' x y/\il H H' xs I
 |_,_=>False
theorem il.refl {H H':HF} (d:vF H H'):∀ l,il H H' l l
 |[]=>trivial
 |x::r=>⟨lM.refl d x,il.refl d r⟩
theorem il.length {H H':HF}:∀ {l I:List AV},il H H' l I->I.length=l.length
 |[],[],_=>rfl
 |[],_::_,h=>h.elim
 |_::_,[],h=>h.elim
 |_::_,_::_,h=>by simp[il.length h.2]
theorem il.get {H H':HF}:∀ {l J:List AV},il H H' l J->∀ (j:Nat) y,J[j]? =af y->∃ x,l[j]? =af x/\lM H H' x y
 |[],[],_,j,y,I=>by simp at I
 |[],_::_,h,_,_,_=>h.elim
 |_::_,[],h,_,_,_=>h.elim
 |x::xs,z::ys,h,j,y,I=>by
  cases j with
  |zero=>simp at I;subst I;exact⟨x,rfl,h.1⟩
  |succ j=>simpa using il.get h.2 j y (by simpa using I)
theorem il.append {H H':HF}:∀ {a a' b b':List AV},il H H' a a'->il H H' b b'->il H H' (a++b) (a'++b')
 |[],[],_,_,_,h=>h
 |[],_::_,_,_,h,_=>h.elim
 |_::_,[],_,_,h,_=>h.elim
 |_::_,_::_,_,_,h,h'=>⟨h.1,il.append h.2 h'⟩
theorem il.take {H H':HF}:∀ {a a':List AV} (n:Nat),il H H' a a'->il H H' (a.take n) (a'.take n)
 |[],[],n,_=>by simp[il]
 |[],_::_,_,h=>h.elim
 |_::_,[],_,h=>h.elim
 |_::_,_::_,0,_=>trivial
 |_::_,_::_,n+1,h=>⟨h.1,il.take n h.2⟩
theorem il.drop {H H':HF}:∀ {a a':List AV} (n:Nat),il H H' a a'->il H H' (a.drop n) (a'.drop n)
 |[],[],n,_=>by simp[il]
 |[],_::_,_,h=>h.elim
 |_::_,[],_,h=>h.elim
 |_::_,_::_,0,h=>h
 |_::_,_::_,n+1,h=>il.drop n h.2
theorem il.splice {H H':HF} {a a' b b':List AV} (off:Nat) (h1:il H H' a a') (h2:il H H' b b'):il H H' (splice a off b) (splice a' off b'):=by
 unfold AI.splice;rw[h2.length];exact ((h1.take off).append h2).append (h1.drop _)
def j9 (H H':HF) (b b':xc):Prop:=∀ (φ:PM) (E:Nat->Prop) (w:World) (o:Obj),qY φ E H w->jy φ (tot E φ H) w b o->jy φ (tot E φ H') w b' o
theorem j9.refl {H H':HF} (d:vF H H') (b:xc):j9 H H' b b:=λ_ _ _ _ _ h=>h.mono λ_ _ h=>h.dom d
theorem pG {φ:PM} {O:Nat->Prop} {w:World} {ty:TypeId} {c:BC} {o:Obj} (hc:c.isCells=ai):jy φ O w ⟨ty,c⟩ o↔∃ arr,o= .cells arr ty (0,0)/\vG φ O w c arr:=by
 unfold jy;cases c<;>simp[BC.isCells] at hc<;>rfl
theorem j9.cells {H H':HF} {ty:TypeId} {c c':BC} (hc:c.isCells=ai) (I:c'.isCells=ai) (hl:il H H' c.toMx c'.toMx) (hcell:∀ x∈c'.toMx,x.isCell=ai):j9 H H' ⟨ty,c⟩ ⟨ty,c'⟩:=by
 intro φ E w o hrep M;rw[pG hc] at M;rw[pG I];obtain⟨arr,h1,h2,h3⟩:=M;refine ⟨arr,h1,by rw[BC.len_toMx I,hl.length,<-BC.len_toMx hc];exact h2,λj x J=>?_⟩;rw[BC.get_toMx I] at J;refine ⟨hcell x (ba J),?_⟩;obtain⟨y,U,hle⟩:=hl.get j x J;obtain⟨_,v,Z,Y⟩:=h3 j y (by rw[BC.get_toMx hc];exact U);exact⟨v,Z,hle _ _ _ _ hrep Y⟩
theorem j9.eq {H H':HF} (d:vF H H') {ty:TypeId} {c c':BC} (hc:c.isCells=ai) (I:c'.isCells=ai) (hl:c.toMx=c'.toMx):j9 H H' ⟨ty,c⟩ ⟨ty,c'⟩:=by
 intro φ E w o hrep M;rw[pG hc] at M;rw[pG I];obtain⟨arr,h1,h2,h3⟩:=M;refine ⟨arr,h1,by rw[BC.len_toMx I,<-hl,<-BC.len_toMx hc];exact h2,λj x J=>?_⟩;rw[BC.get_toMx I,<-hl,<-BC.get_toMx hc] at J;obtain⟨Z,v,Y,U⟩:=h3 j x J;exact⟨Z,v,Y,U.dom d⟩
structure KP (H H':HF):Prop where
 dom:vF H H'
 blk:∀ i b b',H i=af b->H' i=af b'->j9 H H' b b'
theorem KP.refl (H:HF):KP H H:=⟨vF.refl H,λi b b' h h'=>by rw[h] at h';cases h';exact j9.refl (vF.refl H) b⟩
theorem KP.rep {H H':HF} (V:KP H H') {φ:PM} {E:Nat->Prop} {w:World} (r:qY φ E H w):qY φ E H' w:=by
 refine ⟨λi j b b' k J Z Y U=>?_,λi b J=>?_,r.el,λg cells hg=>(r.gl g cells hg).dom V.dom⟩
 .obtain⟨b0,I⟩:=V.dom i b J;obtain⟨b1,M⟩:=V.dom j b' Z;exact r.inj i j b0 b1 k I M Y U
 .obtain⟨b0,I⟩:=V.dom i b J;obtain⟨k,p1,p2,ob,p3,p4⟩:=r.at_ i b0 I;exact⟨k,p1,p2,ob,p3,V.blk i b0 b I J φ E w ob r p4⟩
theorem gP.view {P:Program} {o:Oper} {e:EF} {h:HF} {val val':AV} {rd wr wr' N:List Nat} {nw nw':HF} (ht:gP P o e h ⟨val,rd,wr,nw,N⟩) (hsub:∀ i∈wr,i∈wr'\/i∈rd)
 (hv:∀ h':HF,(∀ i∈rd,h' i=h i)->(∀ i∈wr',h' i=h i)->KP (eX h' wr nw) (eX h' wr' nw')/\lM (eX h' wr nw) (eX h' wr' nw') val val'):gP P o e h ⟨val',rd,wr',nw',N⟩:=by
 intro φ E h' w a h1 h2 Z Y U;have J:=ht φ E h' w a h1 (λi hi=>(hsub i hi).elim (h2 i) (h1 i)) Z Y U;obtain⟨V,hle⟩:=hv h' h1 h2;refine PY ?_ J;rintro a' w' ⟨v,φ',rfl,mv,nm',I,rel⟩;exact⟨v,φ',rfl,⟨mv.sub,mv.ext,λk hk M=>mv.own_ k hk (V.dom.own M)⟩,nm',V.rep I,hle _ _ _ _ I rel⟩
theorem Le.nil:Le (.f (.raw (.slice ah 0 0))) (.f (.sl [] 0)):=by
 intro φ O w v hr;cases hr with
 |f hr=>cases hr;exact .f (.nil ah 0 (by unfold maxLen;omega))
theorem Le.emp:Le .emp (.f (.sl [] 0)):=by
 intro φ O w v hr;cases hr with
 |emp=>exact .f (.nil _ 0 (by unfold maxLen;omega))
theorem Le.nilEmp:Le (.f (.raw (.slice ah 0 0))) .emp:=by
 intro φ O w v hr;cases hr with
 |f hr=>cases hr;exact .emp
theorem Le.aggF {l:List FV}:Le (.f (.agg l)) (.agg (l.map .f)):=by
 intro φ O w v hr;cases hr with
 |f hr=>
  cases hr with
  |agg _ vs hl hcl hrr=>
   refine .agg (by simp[hl]) (λx I=>?_) λj x u I hu=>?_
   .obtain⟨y,J,rfl⟩:=dt.1 I;exact hcl y J
   .rw[a8] at I;cases hc:l[j]? with
    |none=>rw[hc] at I;cases I
    |some y=>rw[hc] at I;simp at I;subst I;exact .f (hrr j y u hc hu)
theorem aac (l:List AV):Le (MF l) (.agg l):=by
 unfold MF;split
 .rename_i fs h;rw[pR h];exact Le.aggF
 .exact Le.refl _
theorem lM.aggL {H H':HF} {l:List AV} {I:List FV} (h:il H H' l (I.map .f)) (hc:∀ x∈I,x.isCell=ai):lM H H' (.agg l) (.f (.agg I)):=by
 intro φ E w v hrep hr;cases hr with
 |@agg _ vs hl hcl hrr=>
  refine .f (.agg I vs (by rw[hl,<-h.length];simp) hc λj y u J hu=>?_);obtain⟨x,M,hle⟩:=h.get j (.f y) (by rw[a8,J];rfl);have:=hle φ E w u hrep (hrr j x u M hu);cases this with
  |f h=>exact h
theorem lM.row {H H':HF} (d:vF H H') {id sz n:Nat} {ty:TypeId} {cells:List FV} (h1:H id=af ⟨ty,.fz cells⟩) (h2:H' id=ah) (hl:cells.length=n*sz):lM H H' (.row id sz n) (.f (.sl cells n)):=by
 intro φ E w v r hr;cases hr with
 |@row _ _ _ c k hφ hn hcap hsh=>
  obtain⟨k',U,Y,_⟩:=r.at_ id _ h1;rw[hφ] at U;cases U;obtain⟨arr,p1,p2,p3⟩:=r.cs h1 hφ rfl;have hk:k<w.heap.size:=(cF.1 p1).1;have hlen:cells.length<=arr.size:=by simpa[BC.toMx] using p3
  have hnk:¬tot E φ H' k:=by
   rintro (Z|⟨j,b,J,M⟩)
   .exact Y Z
   .obtain⟨b0,g3⟩:=d j b J;have:=r.inj j id b0 _ k g3 h1 M hφ;subst this;rw[h2] at J;cases J
  have hget:∀ (j:Nat) x,cells[j]? =af x->∃ u,arr[j]? =af u/\nu (tot E φ H) w x u:=λj x I=>by
   have hj:j<cells.length:=(bg.1 I).1;have hja:j<arr.size:=by omega
   refine ⟨arr[j],by simp[hja],?_⟩;have:=p2.2.2 j (.f x) arr[j] (by simp[BC.toMx,I]) (by
    rw[cH,aE (by simpa[BC.toMx] using hj),cI];simp[hja])
   cases this with
   |f h=>exact h
  refine .f (.sl cells n c k 0 (λj=>(arr[j]?).getD undef) hn hcap hnk hk (λx I=>?_) (λj hj=>?_) (λj x I=>?_))
  .have:=p2.2.1 (.f x) (by simp only[BC.toMx];exact dt.2 ⟨x,I,rfl⟩);exact this
  .have:j<arr.size:=by omega
   simp[Nx,p1,this]
  .obtain⟨u,J,M⟩:=hget j x I;rw[J];exact M.dom d
theorem sD:∀ l:List Xp,JH l=l.flatMap wL
 |[]=>rfl
 |x::r=>by rw[JH,sD r];rfl
theorem zF:∀ l:List Sx,JG l=l.flatMap yo
 |[]=>rfl
 |x::r=>by rw[JG,zF r];rfl
theorem JF (e:Xp):bS MU (NI e)=wL e:=by
 cases e with
 |mk op n name l=>simp only[MU,NI,bS,wL,Xp.op,Xp.n,Xp.name,Xp.l,sD];rfl
theorem RB (x:MU.den):wL (eh x)=bS MU x:=by
 simp only[MU,eh,bS,wL,sD];rfl
theorem JE (e:Sx):bS Mu (NH e)=yo e:=by
 cases e with
 |mk op line name arg index expr body els=>simp only[Mu,NH,bS,yo,Sx.op,Sx.line,Sx.name,Sx.arg,Sx.index,Sx.expr,Sx.body,Sx.els,sD,zF];rfl
theorem RA (x:Mu.den):yo (nO x)=bS Mu x:=by
 simp only[Mu,nO,bS,yo,sD,zF];rfl
theorem xO (e:Xp):(wL e).length=4:=by cases e;simp[wL]
theorem Dj (e:Sx):(yo e).length=11:=by cases e;simp[yo,xO]
theorem bD:∀ (T:Ty) (v:T.den),(bS T v).length=T.size
 |.int _,_=>rfl
 |.bool,_=>rfl
 |.str,_=>rfl
 |.sl _,_=>rfl
 |.st t,v=>bD t v
 |.pr a b,v=>by simp[bS,Ty.size,bD a,bD b]
 |.un,_=>rfl
 |.ex,v=>xO v
 |.sm,v=>Dj v
theorem JI (e:Xp):∀ x∈wL e,x.isCell=ai:=by
 cases e with
 |mk op n name l=>
  intro x I;simp only[wL,bl,cw,gf] at I;rcases I with rfl|rfl|rfl|rfl<;>rfl
theorem UY (e:Sx):∀ x∈yo e,x.isCell=ai:=by
 cases e with
 |mk op line name arg index expr body els=>
  intro x I;simp only[yo,bQ,bl,cw,gf] at I;rcases I with (I|I)|I
  .rcases I with rfl|rfl|rfl|rfl|rfl<;>rfl
  .exact JI _ _ I
  .rcases I with rfl|rfl<;>rfl
theorem nY:∀ (T:Ty) (v:T.den),∀ x∈bS T v,x.isCell=ai
 |.int _,_,x,I=>by simp only[bS,aL] at I;subst I;rfl
 |.bool,_,x,I=>by simp only[bS,aL] at I;subst I;rfl
 |.str,_,x,I=>by simp only[bS,aL] at I;subst I;rfl
 |.sl _,_,x,I=>by simp only[bS,aL] at I;subst I;rfl
 |.st t,v,x,I=>nY t v x I
 |.pr a b,v,x,I=>by
  simp only[bS,bQ] at I;exact I.elim (nY a v.1 x) (nY b v.2 x)
 |.un,_,x,I=>by simp[bS] at I
 |.ex,v,x,I=>JI v x I
 |.sm,v,x,I=>UY v x I
theorem Dk:∀ (T:Ty) (v:T.den),T.one=ai->bS T v=[gL T v]/\T.size=1
 |.int _,_,_=>⟨rfl,rfl⟩
 |.bool,_,_=>⟨rfl,rfl⟩
 |.str,_,_=>⟨rfl,rfl⟩
 |.sl _,_,_=>⟨rfl,rfl⟩
 |.st _,_,h=>by cases h
 |.pr _ _,_,h=>by cases h
 |.un,_,h=>by cases h
 |.ex,_,h=>by cases h
 |.sm,_,h=>by cases h
theorem qD:∀ (T:Ty) (v:T.den),T.one=aj->gL T v= .agg (bS T v)
 |.int _,_,h=>by cases h
 |.bool,_,h=>by cases h
 |.str,_,h=>by cases h
 |.sl _,_,h=>by cases h
 |.st _,_,_=>rfl
 |.pr _ _,_,_=>rfl
 |.un,_,_=>rfl
 |.ex,_,_=>rfl
 |.sm,_,_=>rfl
theorem Au (T:Ty) (v:T.den):(AV.f (gL T v)).cs=(bS T v).map .f:=by
 cases h:T.one with
 |true=>
  rw[(Dk T v h).1];cases T<;>simp only[Ty.one] at h<;>first|rfl|cases h
 |false=>rw[qD T v h];rfl
theorem fG {α:Type} {f:α->List FV} {n:Nat} (hf:∀ x,(f x).length=n):∀ (xs:List α),(xs.flatMap f).length=xs.length*n
 |[]=>by simp
 |x::r=>by rw[fM,bm,hf,fG hf r,bZ,iW];omega
theorem E7 {α:Type} {f:α->List FV} {n:Nat} (hf:∀ x,(f x).length=n):∀ (xs:List α) (j:Nat) (x:α),xs[j]? =af x->∃ r,(xs.flatMap f).drop (j*n)=f x++r
 |[],j,x,h=>by simp at h
 |y::r,j,x,h=>by
  cases j with
  |zero=>simp at h;subst h;exact⟨r.flatMap f,by simp⟩
  |succ j=>
   obtain⟨q,hq⟩:=E7 hf r j x (by simpa using h);refine ⟨q,?_⟩;rw[fM,show (j+1)*n=(f y).length+j*n from by rw[hf,iW];omega,u_];simp[hq]
theorem Rp {α:Type} {f:α->List FV} {n:Nat} (hf:∀ x,(f x).length=n):∀ (xs:List α) (j:Nat) (x z:α),xs[j]? =af x->∀ (off:Nat) (vs:List FV),off+vs.length<=n->f z=AI.splice (f x) off vs->(xs.set j z).flatMap f=AI.splice (xs.flatMap f) (j*n+off) vs
 |[],j,x,z,h,_,_,_,_=>by simp at h
 |y::r,j,x,z,h,off,vs,hle,I=>by
  cases j with
  |zero=>
   simp at h;subst h;simp only[List.set_cons_zero,fM,I,Nat.zero_mul,bO];unfold AI.splice;have M:=hf y;rw[List.take_append,u_];have e1:off-(f y).length=0:=by omega
   have e2:off+vs.length-(f y).length=0:=by omega
   rw[e1,e2];simp[gH]
  |succ j=>
   have J:=Rp hf r j x z (by simpa using h) off vs hle I;simp only[List.set_cons_succ,fM,J];unfold AI.splice;have M:=hf y;have e0:(j+1)*n=(f y).length+j*n:=by rw[hf,iW];omega
   rw[e0,List.take_append,u_];have e1:(f y).length+j*n+off-(f y).length=j*n+off:=by omega
   have e2:(f y).length+j*n+off+vs.length-(f y).length=j*n+off+vs.length:=by omega
   rw[e1,e2,fe (by omega:(f y).length<=(f y).length+j*n+off),rS (by omega:(f y).length<=(f y).length+j*n+off+vs.length)];simp[gH]
theorem rH (T:Ty) (xs:List T.den):∀ x∈xs.flatMap (bS T),x.isCell=ai:=λx I=>by
 obtain⟨y,_,h⟩:=uX.1 I;exact nY T y x h
theorem jm {S T:Ty} {v:S.den} {x:T.den} (h:wW T v=af x):∃ e:S=T,x=e▸v:=by
 unfold wW at h;split at h
 .rename_i e;simp only[ak] at h;exact⟨e,h.symm⟩
 .cases h
theorem lJ (h:bk):∀ (n:Nat) (T:Ty) (v:T.den) (l:List TV),cellsOf n T v=af l->cL h l=af ((bS T v).map .f)/\kA l=ai
 |0,_,_,_,he=>by simp[cellsOf] at he
 |n+1,.st t,v,l,he=>lJ h n t v l he
 |n+1,.pr a b,v,l,he=>by
  simp only[cellsOf] at he;split at he
  .rename_i x y J I;simp only[ak] at he;subst he;obtain⟨h1,h2⟩:=lJ h n a v.1 x J;obtain⟨M,Y⟩:=lJ h n b v.2 y I;refine ⟨by rw[bS,cP];exact nj h1 M,?_⟩;clear h1 M J I;induction x with
   |nil=>exact Y
   |cons z r U=>simp only[kA,av,gr] at h2 ⊢;exact⟨h2.1,U h2.2⟩
  .cases he
 |n+1,.un,v,l,he=>by simp only[cellsOf,ak] at he;subst he;exact⟨rfl,rfl⟩
 |n+1,.ex,v,l,he=>by rw[bS,<-JF];exact lJ h n MU (NI v) l he
 |n+1,.sm,v,l,he=>by rw[bS,<-JE];exact lJ h n Mu (NH v) l he
 |n+1,.int k,v,l,he=>by simp only[cellsOf,ak] at he;subst he;exact⟨rfl,rfl⟩
 |n+1,.bool,v,l,he=>by simp only[cellsOf,ak] at he;subst he;exact⟨rfl,rfl⟩
 |n+1,.str,v,l,he=>by simp only[cellsOf,ak] at he;subst he;exact⟨rfl,rfl⟩
 |n+1,.sl t,v,l,he=>by simp only[cellsOf,ak] at he;subst he;exact⟨rfl,rfl⟩
theorem N8 {y:AV} (h:y.isCell=ai):y.cs=[y]:=by
 cases y with
 |f x=>cases x<;>first|rfl|cases h
 |agg l=>cases h
 |_=>rfl
theorem Kj {h:bk} {v:TV} {l:List TV} {y:AV} (hv:v.cs=af l) (I:ci h v=af y):cL h l=af y.cs/\kA l=ai:=by
 have one:(if v.isC then af [v] else ah)=af l->cL h l=af y.cs/\kA l=ai:=λhv=>by
  split at hv
  .rename_i hc;simp only[ak] at hv;subst hv;exact⟨by rw[N8 (Ol I hc)];exact o8 I rfl,by simp[kA,hc]⟩
  .cases hv
 cases v with
 |agg q=>
  simp only[TV.cs] at hv;split at hv
  .rename_i hc;simp only[ak] at hv;subst hv;simp only[ci] at I;split at I
   .rename_i J hl;simp only[ak] at I;subst I;exact⟨hl,hc⟩
   .cases I
  .cases hv
 |f T x=>
  simp only[TV.cs] at hv;simp only[ci,ak] at I;subst I;rw[Au];exact lJ h 40 T x l hv
 |fel T xs j hj off=>exact one hv
 |pel id sz j off=>exact one hv
 |ptr id off=>exact one hv
 |csl id off z=>exact one hv
 |row id=>exact one hv
 |emp=>exact one hv
 |nil=>exact one hv
 |mp id=>exact one hv
 |rtl id M=>exact one hv
 |tup q=>exact one hv
 |clo g q=>exact one hv
 |undef=>exact one hv
 |np=>exact one hv
 |anyb=>exact one hv
def Eb (h:bk) (H H':HF) (m:Nat):Prop:=∀ id,aN m id=ai->H (nm id)=bC h (nm id)/\H' (nm id)=ah
theorem Eb.zero {h:bk} {H H':HF}:Eb h H H' 0:=λid hid=>by simp at hid
theorem Eb.or {h:bk} {H H':HF} {a b:Nat} (g:Eb h H H' (a|||b)):Eb h H H' a/\Eb h H H' b:=
 ⟨λid hid=>g id (by rw[bu,hid];rfl),λid hid=>g id (by rw[bu,hid];simp)⟩
theorem bX {i j:Nat}:aN (kR i) j=ai↔i=j:=by
 unfold kR;rw[Nat.one_shiftLeft,Nat.testBit_two_pow];simp
section pack
variable {h:bk} {H H':HF}
theorem xW (d:vF H H') {T:Ty} {v:TV} {x:T.den} {m:Nat} {y:AV} (I:iN h T v=af (x,m)) (J:ci h v=af y) (g:Eb h H H' m):lM H H' y (.f (gL T x))/\y.cs.length=T.size/\(T.one=ai->y.isCell=ai)/\il H H' y.cs ((bS T x).map .f):=by
 cases v with
 |f S v=>
  simp only[iN] at I;split at I
  .rename_i z M;simp only[ak,aD] at I;obtain⟨rfl,_⟩:=I;obtain⟨e,rfl⟩:=jm M;subst e;simp only[ci,ak] at J;subst J;refine ⟨lM.refl d _,by rw[Au,bY,bD],λY=>?_,by rw[Au];exact il.refl d _⟩;cases S<;>simp only[Ty.one] at Y<;>first|rfl|cases Y
  .cases I
 |emp=>
  simp only[iN] at I;split at I
  .simp only[ak,aD] at I;obtain⟨rfl,_⟩:=I;simp only[ci,ak] at J;subst J;exact⟨Le.emp.toH d,rfl,λ_=>rfl,⟨Le.emp.toH d,trivial⟩⟩
  .cases I
 |nil=>
  simp only[iN] at I;split at I
  .simp only[ak,aD] at I;obtain⟨rfl,_⟩:=I;simp only[ci,ak] at J;subst J;exact⟨Le.nil.toH d,rfl,λ_=>rfl,⟨Le.nil.toH d,trivial⟩⟩
  .cases I
 |row id=>
  simp only[iN] at I;split at I
  .rename_i ty p S xs hb;split at I
   .rename_i z M;simp only[ak,aD] at I;obtain⟨rfl,rfl⟩:=I;obtain⟨e,rfl⟩:=jm M;subst e;obtain⟨U,Z⟩:=g id (bX.2 rfl);rw[bM,hb] at U;simp only[ci,eJ,hb,ak] at J;subst J;have key:lM H H' (fA p id S.size xs.length) (.f (gL (.sl S) xs)):=by
     unfold fA;split
     .rename_i hp;simp only[av,cU] at hp;have:xs=[]:=gO.1 hp.2;subst this;exact Le.emp.toH d
     .rename_i hp;simp only[aH,kE,aA hp] at U;exact lM.row d U Z (fG (bD S) xs)
    have hc:(fA p id S.size xs.length).isCell=ai:=by unfold fA;split<;>rfl
    refine ⟨key,by rw[N8 hc];rfl,λ_=>hc,?_⟩;rw[N8 hc];exact⟨key,trivial⟩
   .cases I
  .cases I
 |fel T xs j hj off=>simp[iN] at I
 |pel id sz j off=>simp[iN] at I
 |ptr id off=>simp[iN] at I
 |csl id off z=>simp[iN] at I
 |mp id=>simp[iN] at I
 |rtl id jj=>simp[iN] at I
 |agg q=>simp[iN] at I
 |tup q=>simp[iN] at I
 |clo f q=>simp[iN] at I
 |undef=>simp[iN] at I
 |np=>simp[iN] at I
 |anyb=>simp[iN] at I
theorem sh (d:vF H H'):∀ (n:Nat) (T:Ty) (l:List TV) (x:T.den) (m:Nat) (r:List TV) (I:List AV),fc h n T l=af (x,m,r)->cL h l=af I->Eb h H H' m->∃ l1 l2,I=l1++l2/\cL h r=af l2/\il H H' l1 ((bS T x).map .f)
 |0,_,_,_,_,_,_,hp,_,_=>by simp[fc] at hp
 |n+1,.st t,l,x,m,r,I,hp,hl,g=>sh d n t l x m r I hp hl g
 |n+1,.pr a b,l,x,m,r,I,hp,hl,g=>by
  simp only[fc] at hp;split at hp
  .rename_i J m1 r1 h1;split at hp
   .rename_i Y m2 r2 h2;simp only[ak,aD] at hp;obtain⟨rfl,rfl,rfl⟩:=hp;obtain⟨ga,gb⟩:=g.or;obtain⟨l1,l2,rfl,U,M⟩:=sh d n a l J m1 r1 I h1 hl ga;obtain⟨l3,Z,rfl,q3,q4⟩:=sh d n b r1 Y m2 r2 l2 h2 U gb;refine ⟨l1++l3,Z,by simp,q3,?_⟩;rw[bS,cP];exact M.append q4
   .cases hp
  .cases hp
 |n+1,.un,l,x,m,r,I,hp,hl,g=>by
  simp only[fc,ak,aD] at hp;obtain⟨_,_,rfl⟩:=hp;exact⟨[],I,rfl,hl,trivial⟩
 |n+1,.ex,l,x,m,r,I,hp,hl,g=>by
  simp only[fc] at hp;split at hp
  .rename_i J m1 r1 h1;simp only[ak,aD] at hp;obtain⟨rfl,rfl,rfl⟩:=hp;rw[bS,RB];exact sh d n MU l J m1 r1 I h1 hl g
  .cases hp
 |n+1,.sm,l,x,m,r,I,hp,hl,g=>by
  simp only[fc] at hp;split at hp
  .rename_i J m1 r1 h1;simp only[ak,aD] at hp;obtain⟨rfl,rfl,rfl⟩:=hp;rw[bS,RA];exact sh d n Mu l J m1 r1 I h1 hl g
  .cases hp
 |n+1,.int k,l,x,m,r,I,hp,hl,g=>by
  simp only[fc] at hp;split at hp
  .rename_i c q;split at hp
   .rename_i J m1 h1;simp only[ak,aD] at hp;obtain⟨rfl,rfl,rfl⟩:=hp;obtain⟨y,l2,rfl,U,M⟩:=cX hl;exact⟨[y],l2,rfl,M,⟨(xW d h1 U g).1,trivial⟩⟩
   .cases hp
  .cases hp
 |n+1,.bool,l,x,m,r,I,hp,hl,g=>by
  simp only[fc] at hp;split at hp
  .rename_i c q;split at hp
   .rename_i J m1 h1;simp only[ak,aD] at hp;obtain⟨rfl,rfl,rfl⟩:=hp;obtain⟨y,l2,rfl,U,M⟩:=cX hl;exact⟨[y],l2,rfl,M,⟨(xW d h1 U g).1,trivial⟩⟩
   .cases hp
  .cases hp
 |n+1,.str,l,x,m,r,I,hp,hl,g=>by
  simp only[fc] at hp;split at hp
  .rename_i c q;split at hp
   .rename_i J m1 h1;simp only[ak,aD] at hp;obtain⟨rfl,rfl,rfl⟩:=hp;obtain⟨y,l2,rfl,U,M⟩:=cX hl;exact⟨[y],l2,rfl,M,⟨(xW d h1 U g).1,trivial⟩⟩
   .cases hp
  .cases hp
 |n+1,.sl t,l,x,m,r,I,hp,hl,g=>by
  simp only[fc] at hp;split at hp
  .rename_i c q;split at hp
   .rename_i J m1 h1;simp only[ak,aD] at hp;obtain⟨rfl,rfl,rfl⟩:=hp;obtain⟨y,l2,rfl,U,M⟩:=cX hl;exact⟨[y],l2,rfl,M,⟨(xW d h1 U g).1,trivial⟩⟩
   .cases hp
  .cases hp
theorem T8 (d:vF H H') {n:Nat} {T:Ty} {l:List TV} {x:T.den} {m:Nat} {I:List AV} (hp:fc h n T l=af (x,m,[])) (hl:cL h l=af I) (g:Eb h H H' m):il H H' I ((bS T x).map .f):=by
 obtain⟨l1,l2,rfl,J,M⟩:=sh d n T l x m [] I hp hl g;simp only[cL,ak] at J;subst J;simpa using M
theorem Pv (d:vF H H') {T:Ty} {v:TV} {x:T.den} {m:Nat} {y:AV} (I:DW h T v=af (x,m)) (J:ci h v=af y) (g:Eb h H H' m):lM H H' y (.f (gL T x))/\il H H' y.cs ((bS T x).map .f):=by
 have other:iN h T v=af (x,m)->lM H H' y (.f (gL T x))/\il H H' y.cs ((bS T x).map .f):=λI=>by
  obtain⟨h1,_,_,h2⟩:=xW d I J g;exact⟨h1,h2⟩
 cases v with
 |agg l=>
  simp only[DW] at I;split at I
  .cases I
  .rename_i U;split at I
   .rename_i M m1 h1;simp only[ak,aD] at I;obtain⟨rfl,rfl⟩:=I;simp only[ci] at J;split at J
    .rename_i Y hl;simp only[ak] at J;subst J;have:=T8 d h1 hl g;refine ⟨?_,this⟩;rw[qD T M (by simpa using U)];exact lM.aggL this (nY T M)
    .cases J
   .cases I
 |f S v=>exact other I
 |fel T xs j hj off=>exact other I
 |pel id sz j off=>exact other I
 |ptr id off=>exact other I
 |csl id off z=>exact other I
 |row id=>exact other I
 |emp=>exact other I
 |nil=>exact other I
 |mp id=>exact other I
 |rtl id Z=>exact other I
 |tup q=>exact other I
 |clo g q=>exact other I
 |undef=>exact other I
 |np=>exact other I
 |anyb=>exact other I
theorem CJ (d:vF H H') {T:Ty}:∀ (n:Nat) (l:List TV) (xs:List T.den) (m:Nat) (I:List AV),yW h T n l=af (xs,m)->cL h l=af I->Eb h H H' m->il H H' I ((xs.flatMap (bS T)).map .f)/\xs.length=n
 |0,[],xs,m,I,hp,hl,g=>by
  simp only[yW,ak,aD] at hp;obtain⟨rfl,_⟩:=hp;simp only[cL,ak] at hl;subst hl;exact⟨trivial,rfl⟩
 |0,_::_,xs,m,I,hp,hl,g=>by simp[yW] at hp
 |n+1,l,xs,m,I,hp,hl,g=>by
  simp only[yW] at hp;split at hp
  .rename_i M m1 r1 h1;split at hp
   .rename_i J m2 h2;simp only[ak,aD] at hp;obtain⟨rfl,rfl⟩:=hp;obtain⟨ga,Z⟩:=g.or;obtain⟨l1,l2,rfl,Y,U⟩:=sh d 40 T l M m1 r1 I h1 hl ga;obtain⟨q3,q4⟩:=CJ d n r1 J m2 l2 h2 Y Z;refine ⟨?_,by simp[q4]⟩;rw[fM,cP];exact U.append q3
   .cases hp
  .cases hp
theorem uB (h:bk):∀ (n:Nat) (T:Ty) (v:T.den) (off sz:Nat) (ag:Bool) (u:TV),og n T v off sz ag=af u->off+sz<=T.size/\∃ y,ci h u=af (.f y)/\(ag=aj->sz=1/\(bS T v)[off]? =af y)/\(ag=ai->y= .agg (((bS T v).drop off).take sz))
 |0,_,_,_,_,_,_,hg=>by simp[og] at hg
 |n+1,.st t,v,off,sz,ag,u,hg=>by
  simp only[og] at hg;split at hg
  .rename_i hc;simp only[av] at hc;obtain⟨⟨h1,h2⟩,rfl⟩:=hc;have h1:=aw h1;have h2:=aw h2;subst h1;subst h2;simp only[ak] at hg;subst hg;refine ⟨by simp[Ty.size],_,rfl,λh=>(by cases h),λ_=>?_⟩;simp only[gL,bS,List.drop_zero];rw[<- bD t v,cR]
  .exact uB h n t v off sz ag u hg
 |n+1,.pr a b,v,off,sz,ag,u,hg=>by
  simp only[og] at hg;have hla:=bD a v.1;have hlb:=bD b v.2;split at hg
  .rename_i hlt;have hlt:off<a.size:=a_ hlt;obtain⟨h1,y,h2,J,I⟩:=uB h n a v.1 off sz ag u hg;refine ⟨by simp only[Ty.size];omega,y,h2,λe=>?_,λe=>?_⟩
   .obtain⟨U,M⟩:=J e;exact⟨U,by rw[bS,bJ (by omega)];exact M⟩
   .rw[I e,bS];have:((bS a v.1++bS b v.2).drop off).take sz=((bS a v.1).drop off).take sz:=by
     rw[Ea (by omega),lj (by simp;omega)]
    rw[this]
  .rename_i hlt;have hlt:¬off<a.size:=λh=>hlt (bE h)
   obtain⟨h1,y,h2,J,I⟩:=uB h n b v.2 (off-a.size) sz ag u hg;refine ⟨by simp only[Ty.size];omega,y,h2,λe=>?_,λe=>?_⟩
   .obtain⟨U,M⟩:=J e;exact⟨U,by rw[bS,bV (by omega),hla];exact M⟩
   .rw[I e,bS];have:(bS a v.1++bS b v.2).drop off=(bS b v.2).drop (off-a.size):=by
     rw[u_,hla,rS (by omega)];simp
    rw[this]
 |n+1,.un,v,off,sz,ag,u,hg=>by simp[og] at hg
 |n+1,.ex,v,off,sz,ag,u,hg=>by
  simp only[og] at hg;split at hg
  .rename_i hc;simp only[av] at hc;obtain⟨⟨h1,h2⟩,rfl⟩:=hc;have h1:=aw h1;have h2:=aw h2;subst h1;subst h2;simp only[ak] at hg;subst hg;refine ⟨by simp[Ty.size],_,rfl,λh=>(by cases h),λ_=>?_⟩;simp only[gL,bS,List.drop_zero];rw[<- xO v,cR]
  .obtain⟨h1,y,h2,J,I⟩:=uB h n MU (NI v) off sz ag u hg;rw[JF] at J I;exact⟨h1,y,h2,J,I⟩
 |n+1,.sm,v,off,sz,ag,u,hg=>by
  simp only[og] at hg;split at hg
  .rename_i hc;simp only[av] at hc;obtain⟨⟨h1,h2⟩,rfl⟩:=hc;have h1:=aw h1;have h2:=aw h2;subst h1;subst h2;simp only[ak] at hg;subst hg;refine ⟨by simp[Ty.size],_,rfl,λh=>(by cases h),λ_=>?_⟩;simp only[gL,bS,List.drop_zero];rw[<- Dj v,cR]
  .obtain⟨h1,y,h2,J,I⟩:=uB h n Mu (NH v) off sz ag u hg;rw[JE] at J I;exact⟨h1,y,h2,J,I⟩
 |n+1,.int k,v,off,sz,ag,u,hg=>by
  simp only[og] at hg;split at hg
  .rename_i hc;simp only[av,eE] at hc;obtain⟨⟨h1,h2⟩,rfl⟩:=hc;have h1:=aw h1;have h2:=aw h2;subst h1;subst h2;simp only[ak] at hg;subst hg;exact⟨by simp[Ty.size],_,rfl,λ_=>⟨rfl,rfl⟩,λh=>by cases h⟩
  .cases hg
 |n+1,.bool,v,off,sz,ag,u,hg=>by
  simp only[og] at hg;split at hg
  .rename_i hc;simp only[av,eE] at hc;obtain⟨⟨h1,h2⟩,rfl⟩:=hc;have h1:=aw h1;have h2:=aw h2;subst h1;subst h2;simp only[ak] at hg;subst hg;exact⟨by simp[Ty.size],_,rfl,λ_=>⟨rfl,rfl⟩,λh=>by cases h⟩
  .cases hg
 |n+1,.str,v,off,sz,ag,u,hg=>by
  simp only[og] at hg;split at hg
  .rename_i hc;simp only[av,eE] at hc;obtain⟨⟨h1,h2⟩,rfl⟩:=hc;have h1:=aw h1;have h2:=aw h2;subst h1;subst h2;simp only[ak] at hg;subst hg;exact⟨by simp[Ty.size],_,rfl,λ_=>⟨rfl,rfl⟩,λh=>by cases h⟩
  .cases hg
 |n+1,.sl t,v,off,sz,ag,u,hg=>by
  simp only[og] at hg;split at hg
  .rename_i hc;simp only[av,eE] at hc;obtain⟨⟨h1,h2⟩,rfl⟩:=hc;have h1:=aw h1;have h2:=aw h2;subst h1;subst h2;simp only[ak] at hg;subst hg;exact⟨by simp[Ty.size],_,rfl,λ_=>⟨rfl,rfl⟩,λh=>by cases h⟩
  .cases hg
theorem TU {α:Type} (l vs:List α) (h:vs.length=l.length):AI.splice l 0 vs=vs:=by
 unfold AI.splice;rw[bO,h,List.drop_length];simp
theorem P' {α:Type} (a b vs:List α) (off:Nat) (h:off+vs.length<=a.length):AI.splice (a++b) off vs=AI.splice a off vs++b:=by
 unfold AI.splice;rw[lj (by omega),Ea (by omega)];simp[gH]
theorem NU {α:Type} (a b vs:List α) (off:Nat) (h:a.length<=off):AI.splice (a++b) off vs=a++AI.splice b (off-a.length) vs:=by
 unfold AI.splice;rw[List.take_append,u_,fe h,rS (by omega),show off+vs.length-a.length=off-a.length+vs.length from by omega];simp[gH]
def XD (H H':HF) (y:AV) (T:Ty) (v z:T.den) (off sz:Nat):Prop:=∃ fs:List FV,il H H' y.cs (fs.map .f)/\fs.length=sz/\off+sz<=T.size/\bS T z=AI.splice (bS T v) off fs/\∀ x∈fs,x.isCell=ai
theorem XD.whole {y:AV} {T:Ty} {v z:T.den} {off sz:Nat} (h0:off=0) (hs:sz=T.size) (hl:il H H' y.cs ((bS T z).map .f)):XD H H' y T v z off sz:=by
 subst h0;subst hs;exact⟨bS T z,hl,bD T z,by omega,(TU _ _ (by rw[bD,bD])).symm,nY T z⟩
theorem wj (d:vF H H') {u:TV} {y:AV} (I:ci h u=af y):∀ (n:Nat) (T:Ty) (v:T.den) (off sz:Nat) (z:T.den) (m:Nat),gR h u n T v off sz=af (z,m)->Eb h H H' m->XD H H' y T v z off sz
 |0,_,_,_,_,_,_,hg,_=>by simp[gR] at hg
 |n+1,.st t,v,off,sz,z,m,hg,g=>by
  simp only[gR] at hg;split at hg
  .rename_i q hq;split at hq
   .rename_i hc;simp only[av] at hc;simp only[ak] at hg;subst hg;exact .whole (aw hc.1) (aw hc.2) (Pv d hq I g).2
   .cases hq
  .exact wj d I n t v off sz z m hg g
 |n+1,.pr a b,v,off,sz,z,m,hg,g=>by
  simp only[gR] at hg;have hla:=bD a v.1;split at hg
  .rename_i hlt;split at hg
   .rename_i J m1 h1;simp only[ak,aD] at hg;obtain⟨rfl,rfl⟩:=hg;obtain⟨fs,U,M,q3,q4,q5⟩:=wj d I n a v.1 off sz J m1 h1 g;refine ⟨fs,U,M,by simp only[Ty.size];omega,?_,q5⟩;rw[bS,bS,P' _ _ _ _ (by omega),q4]
   .cases hg
  .rename_i hlt;have hlt:¬off<a.size:=λh=>hlt (bE h)
   split at hg
   .rename_i J m1 h1;simp only[ak,aD] at hg;obtain⟨rfl,rfl⟩:=hg;obtain⟨fs,U,M,q3,q4,q5⟩:=wj d I n b v.2 (off-a.size) sz J m1 h1 g;refine ⟨fs,U,M,by simp only[Ty.size];omega,?_,q5⟩;rw[bS,bS,NU _ _ _ _ (by omega),q4,hla]
   .cases hg
 |n+1,.un,v,off,sz,z,m,hg,g=>by simp[gR] at hg
 |n+1,.ex,v,off,sz,z,m,hg,g=>by
  simp only[gR] at hg;split at hg
  .rename_i q hq;split at hq
   .rename_i hc;simp only[av] at hc;simp only[ak] at hg;subst hg;exact .whole (aw hc.1) (aw hc.2) (Pv d hq I g).2
   .cases hq
  .split at hg
   .rename_i J m1 h1;simp only[ak,aD] at hg;obtain⟨rfl,rfl⟩:=hg;obtain⟨fs,U,M,q3,q4,q5⟩:=wj d I n MU (NI v) off sz J m1 h1 g;exact⟨fs,U,M,q3,by rw[bS,bS,RB,q4,JF],q5⟩
   .cases hg
 |n+1,.sm,v,off,sz,z,m,hg,g=>by
  simp only[gR] at hg;split at hg
  .rename_i q hq;split at hq
   .rename_i hc;simp only[av] at hc;simp only[ak] at hg;subst hg;exact .whole (aw hc.1) (aw hc.2) (Pv d hq I g).2
   .cases hq
  .split at hg
   .rename_i J m1 h1;simp only[ak,aD] at hg;obtain⟨rfl,rfl⟩:=hg;obtain⟨fs,U,M,q3,q4,q5⟩:=wj d I n Mu (NH v) off sz J m1 h1 g;exact⟨fs,U,M,q3,by rw[bS,bS,RA,q4,JE],q5⟩
   .cases hg
 |n+1,.int k,v,off,sz,z,m,hg,g=>by
  simp only[gR] at hg;split at hg
  .rename_i hc;simp only[av] at hc;exact .whole (aw hc.1) (aw hc.2) (xW d hg I g).2.2.2
  .cases hg
 |n+1,.bool,v,off,sz,z,m,hg,g=>by
  simp only[gR] at hg;split at hg
  .rename_i hc;simp only[av] at hc;exact .whole (aw hc.1) (aw hc.2) (xW d hg I g).2.2.2
  .cases hg
 |n+1,.str,v,off,sz,z,m,hg,g=>by
  simp only[gR] at hg;split at hg
  .rename_i hc;simp only[av] at hc;exact .whole (aw hc.1) (aw hc.2) (xW d hg I g).2.2.2
  .cases hg
 |n+1,.sl t,v,off,sz,z,m,hg,g=>by
  simp only[gR] at hg;split at hg
  .rename_i hc;simp only[av] at hc;exact .whole (aw hc.1) (aw hc.2) (xW d hg I g).2.2.2
  .cases hg
theorem KC:∀ {a b:List Value},SA a b=ai->a=b
 |[],[],_=>rfl
 |[],_::_,h=>by cases h
 |_::_,[],h=>by cases h
 |x::xs,y::ys,h=>by
  simp only[SA,av] at h;rw[afj h.1,KC h.2]
theorem zero_ok (d:vF H H'):∀ T:Ty,il H H' ((s6 T).map raw) ((bS T T.zero).map .f)
 |.int k=>⟨lM.refl d _,trivial⟩
 |.bool=>⟨lM.refl d _,trivial⟩
 |.str=>⟨lM.refl d _,trivial⟩
 |.sl t=>⟨Le.nil.toH d,trivial⟩
 |.st t=>zero_ok d t
 |.pr a b=>by
  simp only[s6,Ty.zero,bS,cP];exact (zero_ok d a).append (zero_ok d b)
 |.un=>trivial
 |.ex=>⟨lM.refl d _,lM.refl d _,lM.refl d _,Le.nil.toH d,trivial⟩
 |.sm=>⟨lM.refl d _,lM.refl d _,lM.refl d _,lM.refl d _,Le.nil.toH d,lM.refl d _,lM.refl d _,lM.refl d _,Le.nil.toH d,Le.nil.toH d,Le.nil.toH d,trivial⟩
theorem HM (d:vF H H') (T:Ty):∀ n,il H H' ((repl (s6 T) n).map .f) (((aG n T.zero).flatMap (bS T)).map .f)
 |0=>trivial
 |n+1=>by
  rw[repl,List.replicate_succ,fM,cP,cP];have h1:=zero_ok (H:=H) (H':=H') d T;have:((s6 T).map .raw).map AV.f=(s6 T).map raw:=by rw[Af];rfl
  rw[this];exact h1.append (HM d T n)
end pack
structure mc (h:bk) (nx:Nat):Prop where
 cells:∀ id ty l,h.get id=af (.cells ty l)->kU h l=ai
 low:∀ id b,h.get id=af b->id<nx
def tQ (e:iS) (h:bk):Prop:=∀ t v,e.get t=af v->Lt h v=ai
structure jp (P:Program) (o:Oper) (still:Bool) (e:iS) (h:bk) (nx:Nat) (v:TV) (rd wr:Nat) (h':bk) (nx':Nat):Prop where
 ex:∃ f:Bv,gP P o (fV e h) (bC h) f/\(∀ y,ci h' v=af y->f.val=y)/\eX (bC h) f.wr f.nw=bC h'/\(∀ n∈f.rd,aN rd (ow n)=ai)/\(∀ n∈f.wr,aN wr (ow n)=ai)/\(∀ n∈f.N,nx<=ow n/\ow n<nx')
 rows:ch h h'
 inv:mc h' nx'
 grows:nx<=nx'
 st:still=ai->rd=0/\wr=0
def kS {R:Type} (P:Program) (o:Oper) (still:Bool) (e:iS) (h:bk) (nx:Nat) (K:KO R) (r:R):Prop:=
 ∃ v rd wr h' nx',K v rd wr h' nx'=af r/\jp P o still e h nx v rd wr h' nx'
theorem d_ {R:Type} {b:Bool} {k:b=ai->Option R} {r:R} (h:chk b k=af r):∃ hb:b=ai,k hb=af r:=by
 cases b with
 |true=>exact⟨rfl,h⟩
 |false=>cases h
theorem pA {R:Type} {b:Bool} {t f:Option R} {r:R} (h:bcase b t f=af r):(b=ai/\t=af r)\/(b=aj/\f=af r):=by
 cases b with
 |true=>exact .inl ⟨rfl,h⟩
 |false=>exact .inr ⟨rfl,h⟩
theorem dK {α R:Type} {o:Option α} {k:α->Option R} {r:R} (h:obind o k=af r):∃ x,o=af x/\k x=af r:=by
 cases o with
 |some x=>exact⟨x,rfl,h⟩
 |none=>cases h
theorem EJ {j:Int} {n:Nat} (h:fk j n=ai):0<=j/\j<n/\j.toNat<n:=by
 simp only[fk,cY,fX,av,bt] at h;omega
theorem gP.envLe {P:Program} {o:Oper} {e e2:EF} {h:HF} {f:Bv} (ht:gP P o e h f) (hle:∀ t y,.tmp t∈o.op.operands->e t=af y->∃ J,e2 t=af J/\Le J y):gP P o e2 h f:=by
 intro φ E h' w a h1 h2 Z Y U;refine ht φ E h' w a h1 h2 (λt I y M=>?_) Y U;obtain⟨J,g1,g2⟩:=hle t y I M;exact g2 _ _ _ _ (Z t I J g1)
theorem Kh (h:bk) {v:Value} {u:TV} (hc:cst v=af u):ci h u=af (raw v)/\v.oneCell'=ai/\u.isC=ai:=by
 unfold cst at hc;split at hc<;>cases hc<;>exact⟨rfl,rfl,rfl⟩
theorem vB (h:bk):∀ {z:List Value} {l:List TV},Kg z=af l->cL h l=af (z.map raw)/\(∀ x∈z,x.oneCell'=ai)/\kA l=ai
 |[],l,hc=>by simp only[Kg,ak] at hc;subst hc;exact⟨rfl,by simp,rfl⟩
 |v::r,l,hc=>by
  simp only[Kg] at hc;split at hc
  .rename_i x l' J hl;simp only[ak] at hc;subst hc;obtain⟨h1,h2,Z⟩:=Kh h J;obtain⟨Y,U,M⟩:=vB h hl;refine ⟨o8 h1 Y,λy I=>?_,by simp[kA,Z,M]⟩;rcases bl.1 I with rfl|I
   .exact h2
   .exact U y I
  .cases hc
theorem bN {e:iS} {h:bk} (hi:tQ e h) {x:Operand} {v:TV} (I:fO e x=af v):∃ y,mF (JA e h) x=af y/\ci h v=af y:=by
 cases x with
 |tmp t=>
  simp only[fO] at I;obtain⟨y,J⟩:=qd h v (hi t v I);refine ⟨y,?_,J⟩;simp only[mF];rw[vw];simp only[fV,I,aH,J]
 |const c=>
  simp only[fO] at I;unfold ain at I;split at I
  .rename_i vs;split at I
   .rename_i h1;split at I
    .rename_i l hl;simp only[ak] at I;subst I;refine ⟨.agg (vs.toList.map raw),?_,by simp only[ci,(vB h hl).1]⟩;simp only[mF,Fl,h1,bG];rfl
    .cases I
   .cases I
  .rename_i hn;refine ⟨raw c,?_,(Kh h I).1⟩;simp only[mF];unfold Fl;split
   .rename_i vs;exact cV rfl (hn vs)
   .rfl
 |func g=>
  simp only[fO,ak] at I;subst I;exact⟨_,rfl,rfl⟩
 |global g=>
  simp only[fO] at I;cases hg:G g with
  |none=>rw[hg] at I;cases I
  |some cells=>
   rw[hg] at I;simp only[ak] at I;subst I;have hcells:cells=CV:=by
    unfold G at hg;split at hg
    .cases hg;rfl
    .cases hg
   subst hcells;exact⟨_,by simp only[mF,hg];rfl,rfl⟩
theorem yY {e:iS} {h:bk} (hi:tQ e h):∀ {xs:List Operand} {l:List TV},FL e xs=af l->∃ J,W7 (JA e h) xs=af J/\cL h l=af J
 |[],l,I=>by simp only[FL,ak] at I;subst I;exact⟨[],rfl,rfl⟩
 |x::xs,l,I=>by
  simp only[FL] at I;split at I
  .rename_i y U;split at I
   .rename_i ys hys;simp only[ak] at I;subst I;obtain⟨M,h1,h2⟩:=bN hi U;obtain⟨J,Z,Y⟩:=yY hi hys;exact⟨M::J,by simp only[W7,h1,Z],o8 h2 Y⟩
   .cases I
  .cases I
section ops
variable {R:Type} {P:Program} {o:Oper} {e:iS} {h:bk} {nx:Nat} {K:KO R} {r:R}
theorem jp.pure {s:Y_} {st:Bool} (hinv:mc h nx) (hc:dj P o.op=af s) {H:oc} (U:H.get=bC h) {k:Nat} {y0:AV} {rdl:List Nat} (M:eU s (JA e h) H k=af ⟨y0,rdl,[],[],[]⟩) {v:TV} (hv:∀ y,ci h v=af y->Le y0 y) {rd:Nat} (hrd:∀ n∈rdl,aN rd (ow n)=ai) (hst:st=ai->rd=0):jp P o st e h nx v rd 0 h nx:=by
 have ht:=Iy hc M;rw[vw,U] at ht;refine ⟨?_,λ_ _ h=>h,hinv,bP _,λhs=>⟨hst hs,rfl⟩⟩;have key:∀ y,Le y0 y->gP P o (fV e h) (bC h) ⟨y,rdl,[],ji [],[]⟩:=λy hle=>
  gP.view ht (λi hi=>by cases hi) λh' _ _=>⟨KP.refl _,hle.toH (vF.refl _)⟩
 cases J:ci h v with
 |none=>exact⟨_,ht,λy I=>by simp at I,by simp[Ce.eff,t_],hrd,by simp[Ce.eff],by simp[Ce.eff]⟩
 |some y=>exact⟨_,key y (hv y J),λY I=>by simpa using I,by simp[t_],hrd,by simp,by simp⟩
theorem kS.q {s:Y_} {st:Bool} (hinv:mc h nx) (hc:dj P o.op=af s) {k:Nat} {y0:AV} (J:∀ H:oc,H.get=bC h->eU s (JA e h) H k=rv y0) {v:TV} (hv:∀ y,ci h v=af y->Le y0 y) (hk:K v 0 0 h nx=af r):kS P o st e h nx K r:=by
 obtain⟨H,I⟩:=jR h;exact⟨v,0,0,h,nx,hk,jp.pure hinv hc I (J H I) hv (by simp) λ_=>rfl⟩
theorem du {y0:AV} {v:TV} (hv:ci h v=af y0):∀ y,ci h v=af y->Le y0 y:=λy I=>by rw[hv] at I;cases I;exact Le.refl _
theorem agn {T:Ty} {xs:List T.den} {j:Int} (hj:fk j xs.length=ai) {off sz:Nat} {ag:Bool} {u:TV} (hg:og 40 T (aJ xs j) off sz ag=af u):
 ∃ y,ci h u=af (.f y)/\(BC.fz (xs.flatMap (bS T))).sub? (j.toNat*T.size+off) sz ag=af (.f y):=by
 obtain⟨h1,y,h2,Y,U⟩:=uB h 40 T _ off sz ag u hg;refine ⟨y,h2,?_⟩;obtain⟨_,_,hlt⟩:=EJ hj;have I:xs[j.toNat]? =af (aJ xs j):=by
  unfold aJ;rw[ax,aB hlt];rfl
 obtain⟨q,hq⟩:=E7 (bD T) xs j.toNat _ I;have hlen:=fG (bD T) xs;have hle:(j.toNat+1)*T.size<=xs.length*T.size:=cG _ hlt;rw[iW] at hle;have hl:=bD T (aJ xs j);cases ag with
 |false=>
  obtain⟨M,J⟩:=Y rfl;subst M;simp only[BC.sub?,BC.get];have:(xs.flatMap (bS T))[j.toNat*T.size+off]? =af y:=by
   rw[<- g_,hq,bJ (by omega)];exact J
  rw[this];rfl
 |true=>
  simp only[BC.sub?];rw[aE (bE (by omega)),U rfl,<-List.drop_drop,hq,Ea (by omega),lj (by simp;omega)]
theorem ago {T:Ty} {v:T.den} {off sz:Nat} {ag:Bool} {u:TV} (hg:og 40 T v off sz ag=af u):
 ∃ y,ci h u=af (.f y)/\(BC.fz (bS T v)).sub? off sz ag=af (.f y):=by
 obtain⟨h1,y,h2,U,M⟩:=uB h 40 T _ off sz ag u hg;refine ⟨y,h2,?_⟩;have hl:=bD T v;cases ag with
 |false=>
  obtain⟨J,I⟩:=U rfl;subst J;simp only[BC.sub?,BC.get,I];rfl
 |true=>
  simp only[BC.sub?];rw[aE (bE (by omega)),M rfl]
theorem Wf {l:List TV} {I:List AV} (hl:cL h l=af I) {off sz:Nat} {ag:Bool} {u:TV} (hs:TQ l off sz ag=af u):∃ y,ci h u=af y/\(BC.mx I).sub? off sz ag=af y:=by
 cases ag with
 |false=>
  simp only[TQ] at hs;split at hs
  .rename_i h1;have h1:=aw h1;subst h1;obtain⟨y,h2,J⟩:=l9 hl off u hs;exact⟨y,J,by simp only[BC.sub?,BC.get,h2]⟩
  .cases hs
 |true=>
  simp only[TQ] at hs;split at hs
  .rename_i h1;simp only[ak] at hs;subst hs;have h2:=Fa sz (Fc off hl);exact⟨.agg ((I.drop off).take sz),by simp only[ci,h2],by simp only[BC.sub?,ic hl,h1,bG]⟩
  .cases hs
theorem QI {v:TV} {n:Nat} {y:AV} (hn:lenOf h v=af n) (I:ci h v=af y):y.slen=af n:=by
 unfold lenOf at hn;split at hn
 .simp only[ak] at hn;subst hn;simp only[ci,ak] at I;subst I;rfl
 .simp only[ak] at hn;subst hn;simp only[ci,ak] at I;subst I;rfl
 .simp only[ak] at hn;subst hn;simp only[ci,ak] at I;subst I;rfl
 .rename_i id;simp only[ci] at I;cases hr:eJ h id with
  |none=>rw[hr] at hn;cases hn
  |some q=>
   obtain⟨p,sz,m⟩:=q;rw[hr] at hn I;simp only[ak] at hn I;subst hn;subst I;unfold fA;split
   .rename_i hp;simp only[av,cU] at hp;rw[hp.2];rfl
   .rfl
 .simp only[ak] at hn;subst hn;simp only[ci,ak] at I;subst I;rfl
 .cases hn
theorem DV (a b:List UInt8):r9 ⟨a.toArray⟩ ⟨b.toArray⟩=decide (a=b):=by
 unfold r9;simp only[Bool.beq_eq_decide_eq]
theorem afi {op:BinOp} {u v:TV} {q:TV->Option R} (hk:aiu op u v q=af r):∃ a b c t,ci h u=af (raw a)/\ci h v=af (raw b)/\uS op a b=af c/\ci h t=af (raw c)/\q t=af r:=by
 unfold aiu at hk;split at hk
 .rename_i k a k' b;split at hk
  .rename_i hkk;have hkk':k=k':=by simpa using hkk
   subst hkk';refine ⟨.int k a,.int k b,?_⟩;cases op<;>simp only[reduceCtorEq] at hk<;>first
    |cases hk
    |exact⟨_,_,rfl,rfl,(by simp only[uS,cS,bG]<;>rfl),rfl,hk⟩
    |(obtain ⟨hb,hk⟩:=d_ hk
      have I:(b==(0:Int))=aj:=by simpa using hb
      exact⟨_,_,rfl,rfl,by simp only[uS,cS,bG,I,cz,eo],rfl,hk⟩)
  .cases hk
 .rename_i a b;refine ⟨.string ⟨kJ a⟩,.string ⟨kJ b⟩,?_⟩;split at hk
  .exact⟨.bool (decide ((a:List UInt8)=b)),_,rfl,rfl,by simp only[uS,DV],rfl,hk⟩
  .exact⟨.bool (!decide ((a:List UInt8)=b)),_,rfl,rfl,by simp only[uS,DV],rfl,hk⟩
  .cases hk
 .cases hk
theorem Xv {T:Ty}:∀ {l:List TV} {xs:List T.den},yP T l=af xs->∀ k,k<l.length->l[k]? =af (.f T (xs.getD k T.zero))
 |[],xs,_,k,hk=>by simp at hk
 |.f S v::r,xs,I,k,hk=>by
  simp only[yP] at I;split at I
  .rename_i x J;split at I
   .rename_i l hl;simp only[ak] at I;subst I;obtain⟨es,ex⟩:=jm J;cases es;subst ex;cases k with
    |zero=>rfl
    |succ k=>simpa using Xv hl k (by simpa using hk)
   .cases I
  .cases I
 |.fel _ _ _ _ _::r,xs,I,k,hk=>by simp[yP] at I
 |.pel _ _ _ _::r,xs,I,k,hk=>by simp[yP] at I
 |.ptr _ _::r,xs,I,k,hk=>by simp[yP] at I
 |.csl _ _ _::r,xs,I,k,hk=>by simp[yP] at I
 |.row _::r,xs,I,k,hk=>by simp[yP] at I
 |.emp::r,xs,I,k,hk=>by simp[yP] at I
 |.nil::r,xs,I,k,hk=>by simp[yP] at I
 |.mp _::r,xs,I,k,hk=>by simp[yP] at I
 |.agg _::r,xs,I,k,hk=>by simp[yP] at I
 |.tup _::r,xs,I,k,hk=>by simp[yP] at I
 |.clo _ _::r,xs,I,k,hk=>by simp[yP] at I
 |.undef::r,xs,I,k,hk=>by simp[yP] at I
 |.np::r,xs,I,k,hk=>by simp[yP] at I
 |.anyb::r,xs,I,k,hk=>by simp[yP] at I
theorem Xu {l:List TV} {T:Ty} {xs:List T.den} (I:ac1 l=af ⟨T,xs⟩):∀ k,k<l.length->l[k]? =af (.f T (xs.getD k T.zero)):=by
 unfold ac1 at I;split at I
 .split at I
  .rename_i l1 hl;simp only[ak] at I;cases I;exact Xv hl
  .cases I
 .cases I
variable (hinv:mc h nx) (hi:tQ e h)
include hinv hi
theorem K_mv {con:FuncId->Option cu} {b9:TypeId->Option Ty} {x:Operand} {st:Bool} (hc:dj P o.op=af (.mv x)) (hk:dY con b9 (.op (.mv x)) e h nx K=af r):kS P o st e h nx K r:=by
 simp only[dY] at hk;split at hk
 .rename_i v hv;obtain⟨y,h1,h2⟩:=bN hi hv;exact kS.q (k:=0) hinv hc (λH _=>by simp only[eU,h1]) (du h2) hk
 .cases hk
theorem akh {con:FuncId->Option cu} {b9:TypeId->Option Ty} {c a b:Operand} {st:Bool} (hc:dj P o.op=af (.pick c a b)) (hk:dY con b9 (.op (.pick c a b)) e h nx K=af r):kS P o st e h nx K r:=by
 simp only[dY] at hk;split at hk
 .rename_i t hv;obtain⟨y,h1,h2⟩:=bN hi hv;simp only[ci,ak] at h2;subst h2;rcases pA hk with ⟨rfl,I⟩|⟨rfl,I⟩
  .split at I
   .rename_i v J;obtain⟨Y,U,M⟩:=bN hi J;exact kS.q (k:=0) hinv hc (λH _=>by simp only[eU,h1,gL,bG,U]) (du M) I
   .cases I
  .split at I
   .rename_i v J;obtain⟨Y,U,M⟩:=bN hi J;exact kS.q (k:=0) hinv hc (λH _=>by simp only[eU,h1,gL,U,cz,eo]) (du M) I
   .cases I
 .cases hk
theorem aki {con:FuncId->Option cu} {b9:TypeId->Option Ty} {x:Operand} {st:Bool} (hc:dj P o.op=af (.nilc x)) (hk:dY con b9 (.op (.nilc x)) e h nx K=af r):kS P o st e h nx K r:=by
 simp only[dY] at hk;split at hk;all_goals first
  |(rename_i hv
    obtain⟨y,h1,h2⟩:=bN hi hv;have I:=h2;simp only[ci,ak] at h2;subst h2;exact kS.q (k:=0) hinv hc (λH _=>by simp only[eU,h1]) (du I) hk)
  |skip
 .rename_i g cap hv;obtain⟨y,h1,h2⟩:=bN hi hv;have I:=h2;simp only[ci] at h2;split at h2
  .simp only[ak] at h2;subst h2;exact kS.q (k:=0) hinv hc (λH _=>by simp only[eU,h1]) (du I) hk
  .cases h2
 .cases hk
theorem anj {con:FuncId->Option cu} {b9:TypeId->Option Ty} {x:Operand} {st:Bool} (hc:dj P o.op=af (.not x)) (hk:dY con b9 (.op (.not x)) e h nx K=af r):kS P o st e h nx K r:=by
 simp only[dY] at hk;split at hk
 .rename_i b hv;obtain⟨y,h1,h2⟩:=bN hi hv;simp only[ci,ak] at h2;subst h2;exact kS.q (k:=0) hinv hc (λH _=>by simp only[eU,h1,gL];rfl) (du rfl) hk
 .cases hk
theorem akp {con:FuncId->Option cu} {b9:TypeId->Option Ty} {k:IntKind} {x:Operand} {st:Bool} (hc:dj P o.op=af (.conv k x)) (hk:dY con b9 (.op (.conv k x)) e h nx K=af r):kS P o st e h nx K r:=by
 simp only[dY] at hk;split at hk
 .rename_i k' n hv;obtain⟨y,h1,h2⟩:=bN hi hv;simp only[ci,ak] at h2;subst h2;exact kS.q (k:=0) hinv hc (λH _=>by simp only[eU,h1,gL];rfl) (du rfl) hk
 .cases hk
theorem anx {con:FuncId->Option cu} {b9:TypeId->Option Ty} {neg:Bool} {x y:Operand} {st:Bool} (hc:dj P o.op=af (.eqb neg x y)) (hk:dY con b9 (.op (.eqb neg x y)) e h nx K=af r):kS P o st e h nx K r:=by
 simp only[dY] at hk;split at hk
 .rename_i a b hv I;obtain⟨y,h1,h2⟩:=bN hi hv;obtain⟨U,M,J⟩:=bN hi I;simp only[ci,ak] at h2 J;subst h2;subst J;exact kS.q (k:=0) hinv hc (λH _=>by simp only[eU,h1,M,gL];rfl) (du rfl) hk
 .cases hk
theorem ag8 {con:FuncId->Option cu} {b9:TypeId->Option Ty} {neg:Bool} {x:Operand} {st:Bool} (hc:dj P o.op=af (.isnil neg x)) (hk:dY con b9 (.op (.isnil neg x)) e h nx K=af r):kS P o st e h nx K r:=by
 simp only[dY] at hk;split at hk
 .rename_i hv;obtain⟨y,h1,h2⟩:=bN hi hv;simp only[ci,ak] at h2;subst h2;exact kS.q (k:=0) hinv hc (λH _=>by simp only[eU,h1,An,bG];rfl) (du rfl) hk
 .rename_i hv;obtain⟨y,h1,h2⟩:=bN hi hv;simp only[ci,ak] at h2;subst h2;exact kS.q (k:=0) hinv hc (λH _=>by simp only[eU,h1]) (du rfl) hk
 .rename_i T xs hv;obtain⟨y,h1,h2⟩:=bN hi hv;simp only[ci,ak] at h2;subst h2;rcases pA hk with ⟨J,I⟩|⟨J,I⟩
  .have J:=aw J;exact kS.q (k:=0) (y0:=.anyb) hinv hc (λH _=>by simp only[eU,h1,gL,J]) (du rfl) I
  .have J:=ii J;obtain⟨n,hn⟩:=Nat.exists_eq_succ_of_ne_zero J;exact kS.q (k:=0) (y0:=raw (.bool neg)) hinv hc (λH _=>by simp only[eU,h1,gL,hn]) (du rfl) I
 .rename_i id hv;split at hk
  .rename_i ty T xs hb;obtain⟨y,h1,h2⟩:=bN hi hv;simp only[ci,eJ,hb,fA,nB,cz,eo,ak] at h2;subst h2;exact kS.q (k:=0) (y0:=raw (.bool neg)) hinv hc (λH _=>by simp only[eU,h1]) (du rfl) hk
  .cases hk
 .cases hk
theorem ano {con:FuncId->Option cu} {b9:TypeId->Option Ty} {x y:Operand} {st:Bool} (hc:dj P o.op=af (.max x y)) (hk:dY con b9 (.op (.max x y)) e h nx K=af r):kS P o st e h nx K r:=by
 simp only[dY] at hk;split at hk
 .rename_i k a k' b hv I;obtain⟨y,h1,h2⟩:=bN hi hv;obtain⟨U,M,J⟩:=bN hi I;simp only[ci,ak] at h2 J;subst h2;subst J;split at hk
  .exact kS.q (k:=0) hinv hc (λH _=>by simp only[eU,h1,M,gL];rfl) (du rfl) hk
  .cases hk
 .cases hk
theorem ann {con:FuncId->Option cu} {b9:TypeId->Option Ty} {x y:Operand} {st:Bool} (hc:dj P o.op=af (.min x y)) (hk:dY con b9 (.op (.min x y)) e h nx K=af r):kS P o st e h nx K r:=by
 simp only[dY] at hk;split at hk
 .rename_i k a k' b hv I;obtain⟨y,h1,h2⟩:=bN hi hv;obtain⟨U,M,J⟩:=bN hi I;simp only[ci,ak] at h2 J;subst h2;subst J;split at hk
  .exact kS.q (k:=0) hinv hc (λH _=>by simp only[eU,h1,M,gL];rfl) (du rfl) hk
  .cases hk
 .cases hk
theorem anu {con:FuncId->Option cu} {b9:TypeId->Option Ty} {off:Nat} {x:Operand} {st:Bool} (hc:dj P o.op=af (.fad off x)) (hk:dY con b9 (.op (.fad off x)) e h nx K=af r):kS P o st e h nx K r:=by
 simp only[dY] at hk;split at hk;all_goals first
  |(rename_i hv
    obtain⟨y,h1,h2⟩:=bN hi hv;simp only[ci,ak] at h2;subst h2;exact kS.q (k:=0) hinv hc (λH _=>by simp only[eU,h1,sP]) (du rfl) hk)
  |cases hk
theorem ant {con:FuncId->Option cu} {b9:TypeId->Option Ty} {off sz:Nat} {ag:Bool} {x:Operand} {st:Bool} (hc:dj P o.op=af (.fld off sz ag x)) (hk:dY con b9 (.op (.fld off sz ag x)) e h nx K=af r):kS P o st e h nx K r:=by
 simp only[dY] at hk;split at hk
 .rename_i l hv;split at hk
  .rename_i u hs;obtain⟨y,h1,h2⟩:=bN hi hv;simp only[ci] at h2;split at h2
   .rename_i U hl;simp only[ak] at h2;subst h2;obtain⟨y,J,I⟩:=Wf hl hs;exact kS.q (k:=0) hinv hc (λH _=>by simp only[eU,h1,I]) (du J) hk
   .cases h2
  .cases hk
 .rename_i T v hv;split at hk
  .cases hk
  .rename_i M;split at hk
   .rename_i u hs;obtain⟨y,h1,h2⟩:=bN hi hv;simp only[ci,ak] at h2;rw[qD T v (by simpa using M)] at h2;subst h2;obtain⟨y,J,I⟩:=ago (h:=h) hs;exact kS.q (k:=0) hinv hc (λH _=>by simp only[eU,h1,I]) (du J) hk
   .cases hk
 .cases hk
theorem anr {con:FuncId->Option cu} {b9:TypeId->Option Ty} {n sz:Nat} {ag:Bool} {x i:Operand} {st:Bool} (hc:dj P o.op=af (.idx n sz ag x i)) (hk:dY con b9 (.op (.idx n sz ag x i)) e h nx K=af r):kS P o st e h nx K r:=by
 simp only[dY] at hk;split at hk
 .rename_i v0 k j hv U;split at hk
  .rename_i T xs hA;obtain⟨hb,hk⟩:=d_ hk;cases ag with
   |true=>cases hA
   |false=>
   simp only[alp] at hA;split at hA
   .rename_i hsz;simp only[av,eE] at hsz;have hsz1:=aw hsz.1;subst hsz1;split at hA
    .rename_i l hl;split at hA
     .rename_i hn;have hn:=aw hn;obtain⟨y,h1,h2⟩:=bN hi hv;obtain⟨y2,Y,J⟩:=bN hi U;simp only[ci,ak] at J;subst J;have hj:j.toNat<l.length:=by
       simp only[av,cY,fX,bt] at hb;omega
      have hg:=Xu hA j.toNat hj;obtain⟨he,_⟩:=Kj hl h2;obtain⟨z,I,M⟩:=l9 he j.toNat _ hg;have M:ci h (.f T (aJ xs j))=af z:=M;refine kS.q (k:=0) hinv hc (λH _=>?_) (du M) hk;cases v0 with
      |agg q=>
       simp only[ci] at h2;split at h2
       .rename_i l' _;simp only[ak] at h2;subst h2;have I:l'[j.toNat]? =af z:=I;simp only[eU,h1,Y,gL,hb,bG,BC.sub?,BC.get,Nat.mul_one,I]
       .cases h2
      |f S u=>
       have Z:S.one=aj:=by
        have:=hsz.2;simpa[TV.isC] using this
       simp only[ci,ak] at h2;rw[qD S u Z] at h2;subst h2;have I:((bS S u).map AV.f)[j.toNat]? =af z:=I;rw[a8] at I;simp only[eU,h1,Y,gL,hb,bG,BC.sub?,BC.get,Nat.mul_one,I]
      |_=>simp[TV.cs,TV.isC] at hl hsz
     .cases hA
    .cases hA
   .cases hA
  .split at hk
   .rename_i l;obtain⟨hb,hk⟩:=d_ hk;split at hk
    .rename_i u hs;obtain⟨y,h1,h2⟩:=bN hi hv;obtain⟨y2,Y,J⟩:=bN hi U;simp only[ci,ak] at J;subst J;simp only[ci] at h2;split at h2
     .rename_i l' hl;simp only[ak] at h2;subst h2;obtain⟨y,h3,h4⟩:=Wf hl hs;exact kS.q (k:=0) hinv hc (λH _=>by simp only[eU,h1,Y,gL,hb,bG,h4]) (du h3) hk
     .cases h2
    .cases hk
   .rename_i T v _;split at hk
    .cases hk
    .rename_i Z;obtain⟨hb,hk⟩:=d_ hk;split at hk
     .rename_i u hs;obtain⟨y,h1,h2⟩:=bN hi hv;obtain⟨y2,Y,J⟩:=bN hi U;simp only[ci,ak] at J h2;subst J;rw[qD T v (by simpa using Z)] at h2;subst h2;obtain⟨y,h3,h4⟩:=ago (h:=h) hs;exact kS.q (k:=0) hinv hc (λH _=>by simp only[eU,h1,Y,gL,hb,bG,h4]) (du h3) hk
     .cases hk
   .cases hk
 .cases hk
theorem akn {con:FuncId->Option cu} {b9:TypeId->Option Ty} {n sz:Nat} {x i:Operand} {st:Bool} (hc:dj P o.op=af (.iada n sz x i)) (hk:dY con b9 (.op (.iada n sz x i)) e h nx K=af r):kS P o st e h nx K r:=by
 simp only[dY] at hk;split at hk
 .rename_i id off k j hv I;obtain⟨y,h1,h2⟩:=bN hi hv;obtain⟨U,M,J⟩:=bN hi I;simp only[ci,ak] at J h2;subst J;subst h2;split at hk
  .obtain⟨hb,hk⟩:=d_ hk;exact kS.q (k:=0) (y0:=.ptr (nm id) (off+j.toNat*sz)) hinv hc (λH _=>by simp only[eU,h1,M,gL,hb,bG]) (du (by simp only[ci];rw[Nat.add_comm])) hk
  .obtain⟨hb,hk⟩:=d_ hk;exact kS.q (k:=0) hinv hc (λH _=>by simp only[eU,h1,M,gL,hb,bG]) (du rfl) hk
 .cases hk
theorem anv {con:FuncId->Option cu} {b9:TypeId->Option Ty} {i:Nat} {x:Operand} {st:Bool} (hc:dj P o.op=af (.ext x i)) (hk:dY con b9 (.op (.ext x i)) e h nx K=af r):kS P o st e h nx K r:=by
 simp only[dY] at hk;split at hk
 .rename_i l hv;split at hk
  .rename_i u hs;obtain⟨y,h1,h2⟩:=bN hi hv;simp only[ci] at h2;split at h2
   .rename_i M hl;simp only[ak] at h2;subst h2;obtain⟨y,J,I⟩:=l9 hl i u hs;exact kS.q (k:=0) hinv hc (λH _=>by simp only[eU,h1,J]) (du I) hk
   .cases h2
  .cases hk
 .cases hk
theorem anq {con:FuncId->Option cu} {b9:TypeId->Option Ty} {x:Operand} {st:Bool} (hc:dj P o.op=af (.len x)) (hk:dY con b9 (.op (.len x)) e h nx K=af r):kS P o st e h nx K r:=by
 simp only[dY] at hk;split at hk
 .rename_i v hv;split at hk
  .rename_i n hn;obtain⟨y,h1,h2⟩:=bN hi hv;have I:=QI hn h2;exact kS.q (k:=0) hinv hc (λH _=>by simp only[eU,h1,I];rfl) (du rfl) hk
  .cases hk
 .cases hk
theorem akl {con:FuncId->Option cu} {b9:TypeId->Option Ty} {x:Operand} {st:Bool} (hc:dj P o.op=af (.lens x)) (hk:dY con b9 (.op (.lens x)) e h nx K=af r):kS P o st e h nx K r:=by
 simp only[dY] at hk;split at hk
 .rename_i s hv;obtain⟨y,h1,h2⟩:=bN hi hv;simp only[ci,ak] at h2;subst h2;exact kS.q (k:=0) hinv hc (λH _=>by simp only[eU,h1,gL];rfl) (du rfl) hk
 .cases hk
theorem akg {con:FuncId->Option cu} {b9:TypeId->Option Ty} {x i:Operand} {st:Bool} (hc:dj P o.op=af (.sidx x i)) (hk:dY con b9 (.op (.sidx x i)) e h nx K=af r):kS P o st e h nx K r:=by
 simp only[dY] at hk;split at hk
 .rename_i s k j hv I;obtain⟨hj,hk⟩:=d_ hk;obtain⟨y,h1,h2⟩:=bN hi hv;obtain⟨Z,Y,J⟩:=bN hi I;simp only[ci,ak] at h2 J;subst h2;subst J;obtain⟨U,j1,M⟩:=EJ hj;have e1:cY 0 j=ai:=by simp[cY,U]
  have e2:(⟨kJ s⟩:ByteArray).data.toList[j.toNat]? =af (List.getD s j.toNat 0):=by
   show s[j.toNat]? =_;rw[ax,aB M];rfl
  exact kS.q (k:=0) (y0:=raw (.int .u8 (aQ (List.getD s j.toNat 0).toNat))) hinv hc (λH _=>by simp only[eU,h1,Y,gL,e1,bG,e2];rfl) (du rfl) hk
 .cases hk
theorem ans {con:FuncId->Option cu} {b9:TypeId->Option Ty} {sz:Nat} {x i:Operand} {st:Bool} (hc:dj P o.op=af (.iad sz x i)) (hk:dY con b9 (.op (.iad sz x i)) e h nx K=af r):kS P o st e h nx K r:=by
 simp only[dY] at hk;split at hk
 .rename_i id k j hv I;split at hk
  .rename_i ty p T xs hb;split at hk
   .rename_i hs;have hs:=aw hs;obtain⟨hj,hk⟩:=d_ hk;obtain⟨y,h1,h2⟩:=bN hi hv;obtain⟨Z,U,J⟩:=bN hi I;simp only[ci,ak] at J;subst J;obtain⟨j0,j1,j2⟩:=EJ hj;have hne:¬((p&&xs.length==0)=ai):=by
     simp only[av,cU];omega
    simp only[ci,eJ,hb,fA,aA hne,ak] at h2;subst h2;have Y:(T.size==sz&&cY 0 j&&fX j xs.length)=ai:=by
     simp only[fk,av] at hj;simp[hs,hj.1,hj.2]
    exact kS.q (k:=0) hinv hc (λH _=>by simp only[eU,h1,U,gL,Y,bG,dl]) (du rfl) hk
   .cases hk
  .cases hk
 .rename_i T xs k j hv I;split at hk
  .rename_i hs;have hs:=aw hs;obtain⟨hj,hk⟩:=d_ hk;obtain⟨y,h1,h2⟩:=bN hi hv;obtain⟨Z,U,J⟩:=bN hi I;simp only[ci,ak] at J h2;subst J;subst h2;have M:(cY 0 j&&fX j (al xs))=ai:=hj;exact kS.q (k:=0) hinv hc (λH _=>by simp only[eU,h1,U,gL,M,bG,dl,hs]) (du rfl) hk
  .cases hk
 .rename_i id sz' n k j hv I;split at hk
  .rename_i hs;have hs:=aw hs;subst hs;obtain⟨hj,hk⟩:=d_ hk;obtain⟨y,h1,h2⟩:=bN hi hv;obtain⟨Z,U,J⟩:=bN hi I;simp only[ci,ak] at J h2;subst J;subst h2;have M:(sz'==sz'&&cY 0 j&&fX j n)=ai:=by simp only[av] at hj ⊢;exact⟨⟨cS _,hj.1⟩,hj.2⟩
   exact kS.q (k:=0) hinv hc (λH _=>by simp only[eU,h1,U,gL,M,bG]) (du rfl) hk
  .cases hk
 .cases hk
theorem anm {con:FuncId->Option cu} {b9:TypeId->Option Ty} {f:FuncId} {caps:List Operand} {st:Bool} (hc:dj P o.op=af (.mkf f caps)) (hk:dY con b9 (.op (.mkf f caps)) e h nx K=af r):kS P o st e h nx K r:=by
 simp only[dY] at hk;split at hk
 .rename_i l hv;obtain⟨I,h1,h2⟩:=yY hi hv;exact kS.q (k:=0) hinv hc (y0:=.clo f I) (λH _=>by simp only[eU,h1]) (du (by simp only[ci,h2])) hk
 .cases hk
theorem ao2 {con:FuncId->Option cu} {b9:TypeId->Option Ty} {op:BinOp} {x y:Operand} {st:Bool} (hc:dj P o.op=af (.bin op x y)) (hk:dY con b9 (.op (.bin op x y)) e h nx K=af r):kS P o st e h nx K r:=by
 simp only[dY] at hk;split at hk
 .rename_i u v hv I;obtain⟨a,b,c,t,h1,h2,h3,h4,Z⟩:=afi (h:=h) hk;obtain⟨y,Y,U⟩:=bN hi hv;obtain⟨y2,M,J⟩:=bN hi I;rw[h1] at U;cases U;rw[h2] at J;cases J;simp only[raw] at Y M;exact kS.q (k:=0) hinv hc (λH _=>by simp only[eU,Y,M,h3]) (du h4) Z
 .cases hk
end ops
def mH:iz->Option (Bool×Nat×Nat)
 |.rows _ p T xs=>af (p,T.size,xs.length)
 |.dead p sz n=>af (p,sz,n)
 |_=>ah
theorem bU (h:bk) (i:Nat):eJ h i=(h.get i).bind mH:=by
 unfold eJ;cases h.get i with
 |none=>rfl
 |some b=>cases b<;>rfl
theorem ch.refl (h:bk):ch h h:=λ_ _ h=>h
theorem ch.trans {a b c:bk} (h1:ch a b) (h2:ch b c):ch a c:=λi r h=>h2 i r (h1 i r h)
theorem ch.set {h:bk} {i:Nat} {b:iz} (hb:∀ r,eJ h i=af r->mH b=af r):ch h (h.set i (af b)):=λj r hj=>by
 rw[bU,PT.get_set];by_cases e:j=i
 .subst e;rw[aE rfl];exact hb r hj
 .rw[aA e,<-bU];exact hj
theorem Mw {b:iz} {r:Bool×Nat×Nat} (h:mH b=af r):mH (vk b)=af r:=by cases b<;>first|exact h|cases h
theorem jd (m:Nat) (h:bk) (i:Nat):(eK m h).get i=if aN m i then (h.get i).map vk else h.get i:=by
 unfold eK;split
 .rename_i hm;have:=aw hm;subst this;simp
 .rw[PT.get_updI];simp only[Nat.one_mul,dl];cases h.get i with
  |none=>simp
  |some b=>simp only[b_];split<;>rfl
theorem ch.kill (m:Nat) (h:bk):ch h (eK m h):=λi r hr=>by
 rw[bU] at hr ⊢;rw[jd];split
 .cases hb:h.get i with
  |none=>rw[hb] at hr;cases hr
  |some b=>rw[hb] at hr;exact Mw hr
 .exact hr
theorem mc.set {h:bk} {nx nx' i:Nat} {b:iz} (hi:mc h nx) (hr:ch h (h.set i (af b))) (hlt:i<nx') (hle:nx<=nx') (hb:∀ ty l,b= .cells ty l->kU (h.set i (af b)) l=ai):mc (h.set i (af b)) nx':=by
 refine ⟨λj ty l hj=>?_,λj c hj=>?_⟩
 .rw[PT.get_set] at hj;split at hj
  .simp only[ak] at hj;exact hb ty l hj
  .exact i_ hr l (hi.cells j ty l hj)
 .rw[PT.get_set] at hj;split at hj
  .rename_i e;subst e;exact hlt
  .exact dz (hi.low j c hj) hle
theorem mc.kill {h:bk} {nx:Nat} (hi:mc h nx) (m:Nat):mc (eK m h) nx:=by
 refine ⟨λj ty l hj=>?_,λj c hj=>?_⟩
 .rw[jd] at hj;refine i_ (ch.kill m h) l (hi.cells j ty l ?_);split at hj
  .cases hb:h.get j with
   |none=>rw[hb] at hj;cases hj
   |some b=>rw[hb] at hj;cases b<;>simp[vk] at hj
  .exact hj
 .rw[jd] at hj;split at hj
  .cases hb:h.get j with
   |none=>rw[hb] at hj;cases hj
   |some b=>exact hi.low j b hb
  .exact hi.low j c hj
theorem JB {h h':bk} (hr:ch h h') {b:iz} (hb:∀ ty l,b= .cells ty l->kU h l=ai):kE h' b=kE h b:=by
 cases b with
 |cells ty l=>
  obtain⟨I,hl⟩:=fy h l (hb ty l rfl);simp only[kE,hl,hX hr l I hl]
 |_=>rfl
theorem Yo {h h':bk} {nx i:Nat} (hi:mc h nx) (hr:ch h h') (hg:h'.get i=h.get i):bC h' (nm i)=bC h (nm i):=by
 rw[bM,bM,hg];cases hb:h.get i with
 |none=>rfl
 |some b=>exact JB hr λty l e=>hi.cells i ty l (by rw[hb,e])
theorem wK (h:bk) {n:Nat} (hn:¬∃ i,n=nm i):bC h n=ah:=by
 unfold bC;rw[aA];intro h2;exact hn ⟨n/2,by unfold nm;omega⟩
theorem kQ {h h':bk} {nx:Nat} (hi:mc h nx) (hr:ch h h') {n:Nat} (hg:∀ i,n=nm i->h'.get i=h.get i):bC h' n=bC h n:=by
 by_cases hn:∃ i,n=nm i
 .obtain⟨i,rfl⟩:=hn;exact Yo hi hr (hg i rfl)
 .rw[wK h hn,wK h' hn]
def FO (m:Nat):List Nat:=(abx m).map nm
theorem nR {m n:Nat}:n∈FO m↔∃ i,n=nm i/\aN m i=ai:=by
 unfold FO;rw[dt];constructor
 .rintro⟨i,h1,rfl⟩;exact⟨i,rfl,MH.1 h1⟩
 .rintro⟨i,rfl,h1⟩;exact⟨i,MH.2 h1,rfl⟩
theorem lA {m i:Nat}:nm i∈FO m↔aN m i=ai:=by
 rw[nR];constructor
 .rintro⟨j,h1,h2⟩;rw[kV h1];exact h2
 .exact λh=>⟨i,rfl,h⟩
def dV (h:bk) (m:Nat):Prop:=∀ i,aN m i=ai->∃ ty p T xs,h.get i=af (.rows ty p T xs)
theorem dV.zero (h:bk):dV h 0:=λi hi=>by simp at hi
theorem dV.or {h:bk} {a b:Nat} (I:dV h a) (hb:dV h b):dV h (a|||b):=λi hi=>by
 rw[bu,iZ] at hi;exact hi.elim (I i) (hb i)
theorem nl {h:bk} {T:Ty} {v:TV} {x:T.den} {m:Nat} (I:iN h T v=af (x,m)):dV h m:=by
 cases v with
 |f S v=>
  simp only[iN] at I;split at I
  .simp only[ak,aD] at I;rw[<- I.2];exact dV.zero h
  .cases I
 |emp=>
  simp only[iN] at I;split at I
  .simp only[ak,aD] at I;rw[<- I.2];exact dV.zero h
  .cases I
 |nil=>
  simp only[iN] at I;split at I
  .simp only[ak,aD] at I;rw[<- I.2];exact dV.zero h
  .cases I
 |row id=>
  simp only[iN] at I;split at I
  .rename_i ty p S xs hb;split at I
   .simp only[ak,aD] at I;rw[<- I.2];intro i hi;have:=bX.1 hi;subst this;exact⟨ty,p,S,xs,hb⟩
   .cases I
  .cases I
 |fel T xs j hj off=>simp[iN] at I
 |pel id sz j off=>simp[iN] at I
 |ptr id off=>simp[iN] at I
 |csl id off z=>simp[iN] at I
 |mp id=>simp[iN] at I
 |rtl id J=>simp[iN] at I
 |agg q=>simp[iN] at I
 |tup q=>simp[iN] at I
 |clo f q=>simp[iN] at I
 |undef=>simp[iN] at I
 |np=>simp[iN] at I
 |anyb=>simp[iN] at I
theorem ve {h:bk}:∀ (n:Nat) (T:Ty) (l:List TV) (x:T.den) (m:Nat) (r:List TV),fc h n T l=af (x,m,r)->dV h m
 |0,_,_,_,_,_,hp=>by simp[fc] at hp
 |n+1,.st t,l,x,m,r,hp=>ve n t l x m r hp
 |n+1,.pr a b,l,x,m,r,hp=>by
  simp only[fc] at hp;split at hp
  .rename_i I m1 r1 h1;split at hp
   .rename_i J m2 r2 h2;simp only[ak,aD] at hp;obtain⟨_,rfl,_⟩:=hp;exact (ve n a l I m1 r1 h1).or (ve n b r1 J m2 r2 h2)
   .cases hp
  .cases hp
 |n+1,.un,l,x,m,r,hp=>by
  simp only[fc,ak,aD] at hp;obtain⟨_,rfl,_⟩:=hp;exact dV.zero h
 |n+1,.ex,l,x,m,r,hp=>by
  simp only[fc] at hp;split at hp
  .rename_i I m1 r1 h1;simp only[ak,aD] at hp;obtain⟨_,rfl,_⟩:=hp;exact ve n MU l I m1 r1 h1
  .cases hp
 |n+1,.sm,l,x,m,r,hp=>by
  simp only[fc] at hp;split at hp
  .rename_i I m1 r1 h1;simp only[ak,aD] at hp;obtain⟨_,rfl,_⟩:=hp;exact ve n Mu l I m1 r1 h1
  .cases hp
 |n+1,.int k,l,x,m,r,hp=>by
  simp only[fc] at hp;split at hp
  .split at hp
   .rename_i I m1 h1;simp only[ak,aD] at hp;obtain⟨_,rfl,_⟩:=hp;exact nl h1
   .cases hp
  .cases hp
 |n+1,.bool,l,x,m,r,hp=>by
  simp only[fc] at hp;split at hp
  .split at hp
   .rename_i I m1 h1;simp only[ak,aD] at hp;obtain⟨_,rfl,_⟩:=hp;exact nl h1
   .cases hp
  .cases hp
 |n+1,.str,l,x,m,r,hp=>by
  simp only[fc] at hp;split at hp
  .split at hp
   .rename_i I m1 h1;simp only[ak,aD] at hp;obtain⟨_,rfl,_⟩:=hp;exact nl h1
   .cases hp
  .cases hp
 |n+1,.sl t,l,x,m,r,hp=>by
  simp only[fc] at hp;split at hp
  .split at hp
   .rename_i I m1 h1;simp only[ak,aD] at hp;obtain⟨_,rfl,_⟩:=hp;exact nl h1
   .cases hp
  .cases hp
theorem Xt {h:bk} {T:Ty} {v:TV} {x:T.den} {m:Nat} (I:DW h T v=af (x,m)):dV h m:=by
 cases v with
 |agg l=>
  simp only[DW] at I;split at I
  .cases I
  .split at I
   .rename_i J m1 h1;simp only[ak,aD] at I;obtain⟨_,rfl⟩:=I;exact ve 40 T l J m1 [] h1
   .cases I
 |f S v=>exact nl (v:=.f S v) I
 |fel T xs j hj off=>exact nl (v:=.fel T xs j hj off) I
 |pel id sz j off=>exact nl (v:=.pel id sz j off) I
 |ptr id off=>exact nl (v:=.ptr id off) I
 |csl id off z=>exact nl (v:=.csl id off z) I
 |row id=>exact nl (v:=.row id) I
 |emp=>exact nl (v:=.emp) I
 |nil=>exact nl (v:=.nil) I
 |mp id=>exact nl (v:=.mp id) I
 |rtl id M=>exact nl (v:=.rtl id M) I
 |tup q=>exact nl (v:=.tup q) I
 |clo g q=>exact nl (v:=.clo g q) I
 |undef=>exact nl (v:=.undef) I
 |np=>exact nl (v:=.np) I
 |anyb=>exact nl (v:=.anyb) I
theorem N6 {h:bk} {T:Ty}:∀ (n:Nat) (l:List TV) (xs:List T.den) (m:Nat),yW h T n l=af (xs,m)->dV h m
 |0,[],xs,m,hp=>by simp only[yW,ak,aD] at hp;rw[<- hp.2];exact dV.zero h
 |0,_::_,xs,m,hp=>by simp[yW] at hp
 |n+1,l,xs,m,hp=>by
  simp only[yW] at hp;split at hp
  .rename_i J m1 r1 h1;split at hp
   .rename_i I m2 h2;simp only[ak,aD] at hp;obtain⟨_,rfl⟩:=hp;exact (ve 40 T l J m1 r1 h1).or (N6 n r1 I m2 h2)
   .cases hp
  .cases hp
theorem Ah {h:bk} {u:TV}:∀ (n:Nat) (T:Ty) (v:T.den) (off sz:Nat) (z:T.den) (m:Nat),gR h u n T v off sz=af (z,m)->dV h m
 |0,_,_,_,_,_,_,hg=>by simp[gR] at hg
 |n+1,.st t,v,off,sz,z,m,hg=>by
  simp only[gR] at hg;split at hg
  .rename_i q hq;split at hq
   .simp only[ak] at hg;subst hg;exact Xt hq
   .cases hq
  .exact Ah n t v off sz z m hg
 |n+1,.pr a b,v,off,sz,z,m,hg=>by
  simp only[gR] at hg;split at hg
  .split at hg
   .rename_i I m1 h1;simp only[ak,aD] at hg;obtain⟨_,rfl⟩:=hg;exact Ah n a v.1 off sz I m1 h1
   .cases hg
  .split at hg
   .rename_i I m1 h1;simp only[ak,aD] at hg;obtain⟨_,rfl⟩:=hg;exact Ah n b v.2 _ sz I m1 h1
   .cases hg
 |n+1,.un,v,off,sz,z,m,hg=>by simp[gR] at hg
 |n+1,.ex,v,off,sz,z,m,hg=>by
  simp only[gR] at hg;split at hg
  .rename_i q hq;split at hq
   .simp only[ak] at hg;subst hg;exact Xt hq
   .cases hq
  .split at hg
   .rename_i I m1 h1;simp only[ak,aD] at hg;obtain⟨_,rfl⟩:=hg;exact Ah n MU _ off sz I m1 h1
   .cases hg
 |n+1,.sm,v,off,sz,z,m,hg=>by
  simp only[gR] at hg;split at hg
  .rename_i q hq;split at hq
   .simp only[ak] at hg;subst hg;exact Xt hq
   .cases hq
  .split at hg
   .rename_i I m1 h1;simp only[ak,aD] at hg;obtain⟨_,rfl⟩:=hg;exact Ah n Mu _ off sz I m1 h1
   .cases hg
 |n+1,.int k,v,off,sz,z,m,hg=>by
  simp only[gR] at hg;split at hg
  .exact nl hg
  .cases hg
 |n+1,.bool,v,off,sz,z,m,hg=>by
  simp only[gR] at hg;split at hg
  .exact nl hg
  .cases hg
 |n+1,.str,v,off,sz,z,m,hg=>by
  simp only[gR] at hg;split at hg
  .exact nl hg
  .cases hg
 |n+1,.sl t,v,off,sz,z,m,hg=>by
  simp only[gR] at hg;split at hg
  .exact nl hg
  .cases hg
theorem tZ {h:bk} {m i:Nat} (hm:dV h m) (hb:aN m i=ai):∃ p sz n,(eK m h).get i=af (.dead p sz n):=by
 obtain⟨ty,p,T,xs,h1⟩:=hm i hb;exact⟨p,T.size,xs.length,by rw[jd,aE hb,h1];rfl⟩
section ops
variable {R:Type} {P:Program} {o:Oper} {e:iS} {h:bk} {nx:Nat} {K:KO R} {r:R}
theorem ip (n:Nat) (b:xc):ji [(n,b)] n=af b:=by simp[ji]
theorem jp.mk' {s:Y_} (hc:dj P o.op=af s) {H:oc} (hH:H.get=bC h) {k:Nat} {y0:AV} {rdl wrl N:List Nat} {nw:NW} (ha:eU s (JA e h) H k=af ⟨y0,rdl,wrl,nw,N⟩) {v:TV} {h':bk} {nx' rd wr:Nat} (wr':List Nat)
 (hsub:∀ i∈wrl,i∈wr') (hsame:∀ n,n∉wr'->bC h' n=bC h n)
 (hdom:∀ i∈wr',∀ b',bC h' i=af b'->∃ b,(if i∈wrl then ji nw i else bC h i)=af b)
 (hblk:∀ (Y H2:HF),vF Y H2->(∀ i∈wrl,Y i=ji nw i)->(∀ i∈wr',i∉wrl->Y i=bC h i)->(∀ i∈wr',H2 i=bC h' i)->(∀ i∈wr',∀ b b',Y i=af b->H2 i=af b'->j9 Y H2 b b')/\∀ y,ci h' v=af y->lM Y H2 y0 y)
 (hrd:∀ n∈rdl,aN rd (ow n)=ai) (hwr:∀ n∈wr',aN wr (ow n)=ai) (hN:∀ n∈N,nx<=ow n/\ow n<nx') (hrows:ch h h') (hinv':mc h' nx') (hg:nx<=nx'):jp P o aj e h nx v rd wr h' nx':=by
 have ht:=Iy hc ha;rw[vw,hH] at ht;refine ⟨?_,hrows,hinv',hg,λhs=>by cases hs⟩;have base:∀ (val:AV),(∀ y,ci h' v=af y->y=val)->(ci h' v=ah->val=y0)->gP P o (fV e h) (bC h) ⟨val,rdl,wr',bC h',N⟩:=by
  intro val hval hnone;refine gP.view ht (λi hi=>.inl (hsub i hi)) λh1 hr1 Z=>?_
  have hd:vF (eX h1 wrl (ji nw)) (eX h1 wr' (bC h')):=by
   intro i b hb;unfold eX at hb ⊢;by_cases hi:i∈wr'
   .rw[aE hi] at hb;obtain⟨b0,J⟩:=hdom i hi b hb;refine ⟨b0,?_⟩;by_cases U:i∈wrl
    .rw[aE U] at J ⊢;exact J
    .rw[aA U] at J ⊢;rw[Z i hi];exact J
   .rw[aA hi] at hb;rw[aA (λU=>hi (hsub i U))];exact⟨b,hb⟩
  obtain⟨q1,q2⟩:=hblk _ _ hd (λi hi=>by unfold eX;rw[aE hi]) (λi hi U=>by unfold eX;rw[aA U];exact Z i hi) (λi hi=>by unfold eX;rw[aE hi]);refine ⟨⟨hd,λi b b' hb M=>?_⟩,?_⟩
  .by_cases hi:i∈wr'
   .exact q1 i hi b b' hb M
   .unfold eX at hb M;rw[aA (λU=>hi (hsub i U))] at hb;rw[aA hi,hb] at M;cases M;exact j9.refl hd b
  .cases hv:ci h' v with
   |none=>rw[hnone hv];exact lM.refl hd _
   |some y=>rw[<- hval y hv];exact q2 y hv
 have hu:eX (bC h) wr' (bC h')=bC h':=by
  funext n;unfold eX;split
  .rfl
  .rename_i hn;exact (hsame n hn).symm
 cases hv:ci h' v with
 |none=>exact⟨_,base y0 (λy I=>by rw[hv] at I;cases I) (λ_=>rfl),λy I=>(by cases I),hu,hrd,hwr,hN⟩
 |some y=>exact⟨_,base y (λy' I=>by rw[hv] at I;cases I;rfl) (λhn=>by rw[hv] at hn;cases hn),λy' I=>by cases I;rfl,hu,hrd,hwr,hN⟩
theorem Df (hi:tQ e h):∀ (parts:List (Nat×Nat×Operand)) (cells cs:List TV) (cells':List AV),Jw cells e parts=af cs->cL h cells=af cells'->∃ cs',zD cells' (JA e h) parts=af cs'/\cL h cs=af cs'/\(kA cells=ai->kA cs=ai)
 |[],cells,cs,cells',hf,he=>by simp only[Jw,ak] at hf;subst hf;exact⟨cells',rfl,he,id⟩
 |(off,sz,x)::rest,cells,cs,cells',hf,he=>by
  simp only[Jw] at hf;split at hf
  .rename_i v hv;split at hf
   .rename_i q hq;split at hf
    .rename_i hc;simp only[av,cU] at hc;obtain⟨y,h1,h2⟩:=bN hi hv;obtain⟨M,h4⟩:=Kj hq h2;obtain⟨cs',Z,Y,U⟩:=Df hi rest (splice cells off q) cs (splice cells' off y.cs) hf (sC off he M);refine ⟨cs',?_,Y,λI=>U ?_⟩
     .simp only[zD,h1];rw[aE,Z];simp only[av,cU];exact⟨⟨by rw[ic M];exact hc.1,by rw[ic he];exact hc.2⟩,r_ M h4⟩
     .clear Z Y U hf;have app:∀ a b:List TV,kA a=ai->kA b=ai->kA (a++b)=ai:=by
       intro a b I hb;induction a with
       |nil=>exact hb
       |cons z r J=>simp only[kA,av,gr] at I ⊢;exact⟨I.1,J I.2⟩
      have tk:∀ (a:List TV) n,kA a=ai->kA (a.take n)=ai:=by
       intro a;induction a with
       |nil=>intro n h;simp[kA]
       |cons z r J=>
        intro n h;cases n with
        |zero=>rfl
        |succ n=>simp only[kA,av,vZ] at h ⊢;exact⟨h.1,J n h.2⟩
      have dr:∀ (a:List TV) n,kA a=ai->kA (a.drop n)=ai:=by
       intro a;induction a with
       |nil=>intro n h;simp[kA]
       |cons z r J=>
        intro n h;cases n with
        |zero=>exact h
        |succ n=>simp only[kA,av,v7] at h ⊢;exact J n h.2
      unfold splice;exact app _ _ (app _ _ (tk _ _ I) h4) (dr _ _ I)
    .cases hf
   .cases hf
  .cases hf
variable (hinv:mc h nx) (hi:tQ e h)
include hinv hi
theorem ag9 {con:FuncId->Option cu} {b9:TypeId->Option Ty} {z:List Value} {parts:List (Nat×Nat×Operand)} {st:Bool} (hc:dj P o.op=af (.build z parts)) (hk:dY con b9 (.op (.build z parts)) e h nx K=af r):kS P o st e h nx K r:=by
 simp only[dY] at hk;split at hk
 .rename_i l hl;split at hk
  .rename_i cs hf;obtain⟨h1,_,_⟩:=vB h hl;obtain⟨cs',h2,J,_⟩:=Df hi parts l cs _ hf h1;refine kS.q (k:=0) (y0:=MF cs') hinv hc (λH _=>by simp only[eU,h2]) (λy I=>?_) hk;simp only[ci,J,ak] at I;subst I;exact aac cs'
  .cases hk
 .cases hk
theorem akk {con:FuncId->Option cu} {b9:TypeId->Option Ty} {sz:Nat} {ag:Bool} {x:Operand} (hc:dj P o.op=af (.load sz ag x)) (hk:dY con b9 (.op (.load sz ag x)) e h nx K=af r):kS P o aj e h nx K r:=by
 obtain⟨H,J⟩:=jR h;simp only[dY] at hk;split at hk
 .rename_i id off hv;obtain⟨y,h1,h2⟩:=bN hi hv;simp only[ci,ak] at h2;subst h2;split at hk
  .rename_i ty l hb;split at hk
   .rename_i v hs;obtain⟨Y,hl⟩:=fy h l (hinv.cells id ty l hb);obtain⟨y,U,M⟩:=Wf hl hs;have hg:H.get (nm id)=af ⟨ty,.mx Y⟩:=by rw[J,bM,hb];simp only[aH,kE,hl]
    exact⟨v,kR id,0,h,nx,hk,jp.pure (k:=0) hinv hc J (y0:=y) (rdl:=[nm id]) (by simp only[eU,h1,DX,hg,M]) (du U) (λn hn=>by simp only[aL] at hn;subst hn;rw[em];exact bX.2 rfl) (λh=>by cases h)⟩
   .cases hk
  .cases hk
 .rename_i id sz' j off hv;obtain⟨y,h1,h2⟩:=bN hi hv;simp only[ci,ak] at h2;subst h2;split at hk
  .rename_i ty p T xs hb;split at hk
   .rename_i hsz;have hsz:=aw hsz;obtain⟨hj,hk⟩:=d_ hk;split at hk
    .rename_i v hs;obtain⟨y,U,M⟩:=agn (h:=h) hj hs;have hne:¬((p&&xs.length==0)=ai):=by
      have:=EJ hj;simp only[av,cU];omega
     have hg:H.get (nm id)=af ⟨ty,.fz (xs.flatMap (bS T))⟩:=by rw[J,bM,hb];simp only[aH,kE,aA hne]
     exact⟨v,kR id,0,h,nx,hk,jp.pure (k:=0) hinv hc J (y0:=.f y) (rdl:=[nm id]) (by simp only[eU,h1,DX,hg,hsz,M]) (du U) (λn hn=>by simp only[aL] at hn;subst hn;rw[em];exact bX.2 rfl) (λh=>by cases h)⟩
    .cases hk
   .cases hk
  .rename_i ty l hb;split at hk
   .cases hk
   .split at hk
    .rename_i hsz;simp only[av] at hsz;have e1:=aw hsz.1.1;have e2:=aw hsz.1.2;have e3:=aw hsz.2;subst e1;subst e2;subst e3;split at hk
     .rename_i T xs hA;obtain⟨hj,hk⟩:=d_ hk;obtain⟨Y,hl⟩:=fy h l (hinv.cells id ty l hb);have hg:H.get (nm id)=af ⟨ty,.mx Y⟩:=by rw[J,bM,hb];simp only[aH,kE,hl]
      have hlt:j.toNat<l.length:=by
       simp only[fk,av,cY,fX,bt] at hj;omega
      obtain⟨z,Z,I⟩:=l9 hl j.toNat _ (Xu hA j.toNat hlt);have I:ci h (.f T (aJ xs j))=af z:=I;exact⟨_,kR id,0,h,nx,hk,jp.pure (k:=0) hinv hc J (y0:=z) (rdl:=[nm id]) (by simp only[eU,h1,DX,hg,BC.sub?,BC.get,Nat.mul_one,dl,Z]) (du I) (λn hn=>by simp only[aL] at hn;subst hn;rw[em];exact bX.2 rfl) (λh=>by cases h)⟩
     .cases hk
    .cases hk
  .cases hk
 .rename_i T xs j hj off hv;obtain⟨y,h1,h2⟩:=bN hi hv;simp only[ci,ak] at h2;subst h2;split at hk
  .rename_i v hs;obtain⟨y,U,M⟩:=agn (h:=h) hj hs;exact kS.q (k:=0) (y0:=.f y) hinv hc (λH _=>by simp only[eU,h1,DX,M]) (du U) hk
  .cases hk
 .cases hk
theorem aga {con:FuncId->Option cu} {b9:TypeId->Option Ty} {ty:TypeId} {z:List Value} (hc:dj P o.op=af (.alloc ty z)) (hk:dY con b9 (.op (.alloc ty z)) e h nx K=af r):kS P o aj e h nx K r:=by
 have _:=hi;obtain⟨H,hH⟩:=jR h;simp only[dY] at hk;split at hk
 .rename_i l hl;obtain⟨_,hz,_⟩:=vB h hl;have hnone:h.get nx=ah:=by
   cases hb:h.get nx with
   |none=>rfl
   |some b=>have:=hinv.low nx b hb;omega
  have hr:ch h (h.set nx (af (.cells ty l))):=ch.set λr hr=>by rw[bU,hnone] at hr;cases hr
  obtain⟨h1,_,_⟩:=vB (h.set nx (af (.cells ty l))) hl;have U:bC (h.set nx (af (.cells ty l))) (nm nx)=af ⟨ty,.mx (z.map raw)⟩:=by rw[bM,PT.get_set,aE rfl];simp only[aH,kE,h1]
  refine ⟨_,_,_,_,_,hk,jp.mk' hc hH (k:=nm nx) (by simp only[eU];rfl) [nm nx] (λi hi=>hi) (λn hn=>?_) (λi hi b' _=>⟨⟨ty,.fz (z.map .raw)⟩,?_⟩) (λH1 H2 d M _ J=>⟨λi hi b b' hb I=>?_,λy Y=>?_⟩) (by simp) ?_ ?_ hr (hinv.set hr (by omega) (by omega) λty' l' he=>?_) (by omega)⟩
  .refine kQ hinv hr λi e=>?_
   subst e;rw[PT.get_set,aA (λe=>hn (by rw[e];simp))]
  .rw[aE hi];simp only[aL] at hi;subst hi;simp[ji]
  .simp only[aL] at hi;subst hi;rw[M _ (by simp)] at hb;rw[J _ (by simp),U] at I;rw[ip] at hb;simp only[ak] at hb I;subst hb;subst I;refine j9.cells rfl rfl ?_ λx Z=>?_
   .simp only[BC.toMx,Af];exact il.refl d _
   .simp only[BC.toMx] at Z;obtain⟨q,hq,rfl⟩:=dt.1 Z;exact hz q hq
  .simp only[ci,ak] at Y;subst Y;exact lM.refl d _
  .intro n hn;simp only[aL] at hn;subst hn;rw[em];exact bX.2 rfl
  .intro n hn;simp only[aL] at hn;subst hn;rw[em];omega
  .cases he;exact kP _ _ _ h1
 .cases hk
theorem ao1 {con:FuncId->Option cu} {b9:TypeId->Option Ty} {ty:TypeId} {x:Operand} (hc:dj P o.op=af (.box ty x)) (hk:dY con b9 (.op (.box ty x)) e h nx K=af r):kS P o aj e h nx K r:=by
 obtain⟨H,hH⟩:=jR h;simp only[dY] at hk;split at hk
 .rename_i v hv;split at hk
  .rename_i l hl;obtain⟨y,h1,h2⟩:=bN hi hv;obtain⟨h3,h4⟩:=Kj hl h2;have hcell:=r_ h3 h4;have hnone:h.get nx=ah:=by
    cases hb:h.get nx with
    |none=>rfl
    |some b=>have:=hinv.low nx b hb;omega
   have hr:ch h (h.set nx (af (.cells ty l))):=ch.set λr hr=>by rw[bU,hnone] at hr;cases hr
   have Z:=hX hr l _ h3;have U:bC (h.set nx (af (.cells ty l))) (nm nx)=af ⟨ty,.mx y.cs⟩:=by rw[bM,PT.get_set,aE rfl];simp only[aH,kE,Z]
   refine ⟨_,_,_,_,_,hk,jp.mk' hc hH (k:=nm nx) (by simp only[eU,h1,hcell,bG];rfl) [nm nx] (λi hi=>hi) (λn hn=>?_) (λi hi b' _=>⟨⟨ty,pu y.cs⟩,?_⟩) (λH1 H2 d M _ J=>⟨λi hi b b' hb I=>?_,λy Y=>?_⟩) (by simp) ?_ ?_ hr (hinv.set hr (by omega) (by omega) λty' l' he=>?_) (by omega)⟩
   .refine kQ hinv hr λi e=>?_
    subst e;rw[PT.get_set,aA (λe=>hn (by rw[e];simp))]
   .rw[aE hi];simp only[aL] at hi;subst hi;simp[ji]
   .simp only[aL] at hi;subst hi;rw[M _ (by simp)] at hb;rw[J _ (by simp),U] at I;rw[ip] at hb;simp only[ak] at hb I;subst hb;subst I;obtain⟨q1,q2⟩:=nP y.cs;refine j9.cells q2 rfl ?_ λx hx=>?_
    .rw[q1];exact il.refl d _
    .exact lK hcell x hx
   .simp only[ci,ak] at Y;subst Y;exact lM.refl d _
   .intro n hn;simp only[aL] at hn;subst hn;rw[em];exact bX.2 rfl
   .intro n hn;simp only[aL] at hn;subst hn;rw[em];omega
   .cases he;exact kP _ _ _ Z
  .cases hk
 .cases hk
theorem ag7 {con:FuncId->Option cu} {b9:TypeId->Option Ty} {ty:TypeId} {sz bytes:Nat} {z:List Value} {l c:Operand} (hcm:DN (b9 ty)=ah) (hc:dj P o.op=af (.mksl ty sz bytes z l c)) (hk:dY con b9 (.op (.mksl ty sz bytes z l c)) e h nx K=af r):kS P o aj e h nx K r:=by
 obtain⟨H,hH⟩:=jR h;simp only[dY,hcm] at hk;split at hk
 .rename_i T k a k' b hT hv U;split at hk
  .rename_i hsz;simp only[av] at hsz;have hs:=aw hsz.1;have hz:=KC hsz.2;subst hs;subst hz;obtain⟨hck,hk⟩:=d_ hk;obtain⟨y,h1,h2⟩:=bN hi hv;obtain⟨y2,h3,h4⟩:=bN hi U;simp only[ci,ak] at h2 h4;subst h2;subst h4;have hnone:h.get nx=ah:=by
    cases hb:h.get nx with
    |none=>rfl
    |some b=>have:=hinv.low nx b hb;omega
   generalize Z:iz.rows ty aj T (aG (aS a) T.zero)=B at hk;have hr:ch h (h.set nx (af B)):=ch.set λr hr=>by rw[bU,hnone] at hr;cases hr
   have Y:bC (h.set nx (af B)) (nm nx)=af ⟨ty,.fz ((aG (aS a) T.zero).flatMap (bS T))⟩:=by rw[bM,PT.get_set,aE rfl,<-Z];simp[kE]
   refine ⟨_,_,_,_,_,hk,jp.mk' hc hH (k:=nm nx) (by simp only[eU,h1,h3,gL,hck,bG];rfl) [nm nx] (λi hi=>hi) (λn hn=>?_) (λi hi b' _=>⟨⟨ty,.fz (repl (s6 T) (aS a))⟩,?_⟩) (λH1 H2 d M _ J=>⟨λi hi b b' hb I=>?_,λy hy=>?_⟩) (by simp) ?_ ?_ hr (hinv.set hr (by omega) (by omega) λty' l' he=>?_) (by omega)⟩
   .refine kQ hinv hr λi e=>?_
    subst e;rw[PT.get_set,aA (λe=>hn (by rw[e];simp))]
   .rw[aE hi];simp only[aL] at hi;subst hi;simp[ji]
   .simp only[aL] at hi;subst hi;rw[M _ (by simp)] at hb;rw[J _ (by simp),Y] at I;rw[ip] at hb;simp only[ak] at hb I;subst hb;subst I;refine j9.cells rfl rfl (HM d T _) λx hx=>?_
    simp only[BC.toMx] at hx;obtain⟨q,hq,rfl⟩:=dt.1 hx;exact rH T _ q hq
   .simp only[ci,bU,PT.get_set,bG,<-Z,aH,mH,fA,nB,cz,eo,ak,eR] at hy;subst hy;exact lM.refl d _
   .intro n hn;simp only[aL] at hn;subst hn;rw[em];exact bX.2 rfl
   .intro n hn;simp only[aL] at hn;subst hn;rw[em];omega
   .rw[<- Z] at he;cases he
  .cases hk
 .cases hk
end ops
theorem As {α:Type} {f:α->List FV} {n:Nat} (hf:∀ x,(f x).length=n):∀ (xs:List α) (j:Nat),(xs.take j).flatMap f=(xs.flatMap f).take (j*n)
 |[],j=>by simp
 |x::r,0=>by simp
 |x::r,j+1=>by
  rw[vZ,fM,fM,As hf r j,show (j+1)*n=(f x).length+j*n from by rw[hf,iW];omega,List.take_length_add_append]
theorem Jv {α:Type} {f:α->List FV} {n:Nat} (hf:∀ x,(f x).length=n):∀ (xs:List α) (j:Nat),(xs.drop j).flatMap f=(xs.flatMap f).drop (j*n)
 |[],j=>by simp
 |x::r,0=>by simp
 |x::r,j+1=>by
  rw[v7,fM,Jv hf r j,show (j+1)*n=(f x).length+j*n from by rw[hf,iW];omega,List.drop_length_add_append]
theorem Ql {z:List Value}:∀ (n:Nat) (x:FV),x∈repl z n->∃ v∈z,x= .raw v
 |0,x,h=>by simp[repl] at h
 |n+1,x,h=>by
  rw[repl,bQ] at h;rcases h with h|h
  .obtain⟨v,hv,rfl⟩:=dt.1 h;exact⟨v,hv,rfl⟩
  .exact Ql n x h
theorem GV:∀ l:List FV,(∀ x∈l,x.isCell=ai)->gK (l.map .f)=ai
 |[],_=>rfl
 |z::r,h=>by simp only[gq,gK,av];exact⟨h z (by simp),GV r λx I=>h x (by simp[I])⟩
section ops
variable {R:Type} {P:Program} {o:Oper} {e:iS} {h:bk} {nx:Nat} {K:KO R} {r:R}
theorem mc.fresh (hinv:mc h nx):h.get nx=ah:=by
 cases hb:h.get nx with
 |none=>rfl
 |some b=>have:=hinv.low nx b hb;omega
theorem dV.lt (hinv:mc h nx) {m:Nat} (hm:dV h m) {i:Nat} (hi:aN m i=ai):i<nx:=by
 obtain⟨_,_,_,_,hb⟩:=hm i hi;exact hinv.low i _ hb
theorem jp.new {s:Y_} (hinv:mc h nx) (hc:dj P o.op=af s) {H:oc} (hH:H.get=bC h) {y0:AV} {rdl:List Nat} {b0:xc} (ha:eU s (JA e h) H (nm nx)=af ⟨y0,rdl,[nm nx],[(nm nx,b0)],[nm nx]⟩) {B:iz} {v:TV} {m rd:Nat} (hm:dV h m)
 (hB:∀ ty l,B= .cells ty l->kU ((eK m h).set nx (af B)) l=ai)
 (hblk:∀ J I,vF J I->Eb h J I m->∀ b',kE ((eK m h).set nx (af B)) B=af b'->j9 J I b0 b')
 (hval:∀ J I y,vF J I->Eb h J I m->ci ((eK m h).set nx (af B)) v=af y->lM J I y0 y)
 (hrd:∀ n∈rdl,aN rd (ow n)=ai):jp P o aj e h nx v rd (m|||kR nx) ((eK m h).set nx (af B)) (nx+1):=by
 have hk:=hinv.kill m;have hr0:=ch.kill m h;have Y:ch (eK m h) ((eK m h).set nx (af B)):=ch.set λr hr=>by rw[bU,hk.fresh] at hr;cases hr
 have hr:=hr0.trans Y;have hgiv:∀ i,aN m i=ai->bC ((eK m h).set nx (af B)) (nm i)=ah:=λi hi=>by
  have hlt:=hm.lt hinv hi;obtain⟨p,sz,n,hd⟩:=tZ hm hi;rw[bM,PT.get_set,aA (by omega),hd];rfl
 refine jp.mk' hc hH ha (nm nx::FO m) (λi hi=>by simp only[aL] at hi;subst hi;simp) (λn hn=>?_) (λi hi b' Z=>?_) (λJ I d hw1 hw0 U=>?_) hrd ?_ ?_ hr (hk.set Y (by omega) (by omega) hB) (by omega)
 .refine kQ hinv hr λi e=>?_
  subst e;rw[PT.get_set,aA (λe=>hn (by rw[e];simp)),jd,aA];intro hb;exact hn (cO _ (lA.2 hb))
 .rcases bl.1 hi with rfl|hi
  .exact⟨b0,by rw[aE (by simp),ip]⟩
  .obtain⟨j,rfl,hj⟩:=nR.1 hi;rw[hgiv j hj] at Z;cases Z
 .have g:Eb h J I m:=λi hi=>by
   have hlt:=hm.lt hinv hi;have hmem:nm i∈nm nx::FO m:=cO _ (lA.2 hi);exact⟨hw0 _ hmem (λhc=>by simp only[aL] at hc;have:=kV hc;omega),by rw[U _ hmem,hgiv i hi]⟩
  refine ⟨λi hi b b' hb M=>?_,λy hy=>hval J I y d g hy⟩;rcases bl.1 hi with rfl|hi'
  .rw[hw1 _ (by simp),ip] at hb;rw[U _ hi,bM,PT.get_set,aE rfl] at M;simp only[ak] at hb;subst hb;exact hblk J I d g b' M
  .obtain⟨j,rfl,hj⟩:=nR.1 hi';rw[U _ hi,hgiv j hj] at M;cases M
 .intro n hn;rw[bu];rcases bl.1 hn with rfl|hn
  .rw[em,bX.2 rfl];simp
  .obtain⟨j,rfl,hj⟩:=nR.1 hn;rw[em,hj];rfl
 .intro n hn;simp only[aL] at hn;subst hn;rw[em];omega
theorem jp.wrt {s:Y_} (hinv:mc h nx) (hc:dj P o.op=af s) {H:oc} (hH:H.get=bC h) {id:Nat} {y0:AV} {rdl:List Nat} {b0:xc} {k:Nat} (ha:eU s (JA e h) H k=af ⟨y0,rdl,[nm id],[(nm id,b0)],[]⟩) {B0 B:iz} (Z:h.get id=af B0) {v:TV} {m rd:Nat} (hm:dV h m) (hmid:aN m id=aj)
 (hrow:mH B=mH B0) (hB:∀ ty l,B= .cells ty l->kU ((eK m h).set id (af B)) l=ai)
 (hblk:∀ J I,vF J I->Eb h J I m->∀ b',kE ((eK m h).set id (af B)) B=af b'->j9 J I b0 b')
 (hval:∀ J I y,vF J I->Eb h J I m->ci ((eK m h).set id (af B)) v=af y->lM J I y0 y)
 (hrd:∀ n∈rdl,aN rd (ow n)=ai):jp P o aj e h nx v rd (m|||kR id) ((eK m h).set id (af B)) nx:=by
 have hk:=hinv.kill m;have hr0:=ch.kill m h;have hkid:(eK m h).get id=af B0:=by rw[jd,hmid];simpa using Z
 have Y:ch (eK m h) ((eK m h).set id (af B)):=ch.set λr hr=>by rw[bU,hkid] at hr;rw[hrow];exact hr
 have hr:=hr0.trans Y;have hgiv:∀ i,aN m i=ai->bC ((eK m h).set id (af B)) (nm i)=ah:=λi hi=>by
  have hne:i≠id:=λe=>by rw[e,hmid] at hi;cases hi
  obtain⟨p,sz,n,hd⟩:=tZ hm hi;rw[bM,PT.get_set,aA hne,hd];rfl
 refine jp.mk' hc hH ha (nm id::FO m) (λi hi=>by simp only[aL] at hi;subst hi;simp) (λn hn=>?_) (λi hi b' hb'=>?_) (λJ I d hw1 hw0 U=>?_) hrd ?_ (by simp) hr (hk.set Y (hinv.low id B0 Z) (by omega) hB) (by omega)
 .refine kQ hinv hr λi e=>?_
  subst e;rw[PT.get_set,aA (λe=>hn (by rw[e];simp)),jd,aA];intro hb;exact hn (cO _ (lA.2 hb))
 .rcases bl.1 hi with rfl|hi
  .exact⟨b0,by rw[aE (by simp),ip]⟩
  .obtain⟨j,rfl,hj⟩:=nR.1 hi;rw[hgiv j hj] at hb';cases hb'
 .have g:Eb h J I m:=λi hi=>by
   have hne:i≠id:=λe=>by rw[e,hmid] at hi;cases hi
   have hmem:nm i∈nm id::FO m:=cO _ (lA.2 hi);exact⟨hw0 _ hmem (λhc=>by simp only[aL] at hc;exact hne (kV hc)),by rw[U _ hmem,hgiv i hi]⟩
  refine ⟨λi hi b b' hb M=>?_,λy hy=>hval J I y d g hy⟩;rcases bl.1 hi with rfl|hi'
  .rw[hw1 _ (by simp),ip] at hb;rw[U _ hi,bM,PT.get_set,aE rfl] at M;simp only[ak] at hb;subst hb;exact hblk J I d g b' M
  .obtain⟨j,rfl,hj⟩:=nR.1 hi';rw[U _ hi,hgiv j hj] at M;cases M
 .intro n hn;rw[bu];rcases bl.1 hn with rfl|hn
  .rw[em,bX.2 rfl];simp
  .obtain⟨j,rfl,hj⟩:=nR.1 hn;rw[em,hj];rfl
theorem Mx (h:bk) {z:List Value} {I:List TV} (J:Kg z=af I):∀ len,cL h (aG len I).flatten=af ((repl z len).map .f)
 |0=>rfl
 |n+1=>by
  rw[List.replicate_succ,List.flatten_cons,repl,cP];refine nj ?_ (Mx h J n);rw[(vB h J).1];simp only[Af];rfl
theorem Wn {H:oc} (Z:H.get=bC h) {T:Ty} {v:TV} {U:List T.den} {m:Nat} {y:AV} (I:DW h (.sl T) v=af (U,m)) (J:ci h v=af y):∃ rd,y.row? H T.size=af ((U.flatMap (bS T)).map .f,U.length,rd)/\∀ n∈rd,∃ i,n=nm i/\aN m i=ai:=by
 have fl:=λM:List T.den=>fG (bD T) M
 have tk:∀ M:List T.den,(M.flatMap (bS T)).take (M.length*T.size)=M.flatMap (bS T):=λM=>by rw[<- fl,cR]
 cases v with
 |f S x=>
  simp only[DW,iN] at I;split at I
  .rename_i z Y;simp only[ak,aD] at I;obtain⟨rfl,_⟩:=I;obtain⟨e,rfl⟩:=jm Y;subst e;simp only[ci,ak] at J;subst J;refine ⟨[],?_,by simp⟩;simp only[gL,AV.row?];rw[aE (bE (by rw[fl x];exact bP _)),tk]
  .cases I
 |emp=>
  simp only[DW,iN,ak,aD] at I;obtain⟨rfl,_⟩:=I;simp only[ci,ak] at J;subst J;exact⟨[],rfl,by simp⟩
 |nil=>
  simp only[DW,iN,ak,aD] at I;obtain⟨rfl,_⟩:=I;simp only[ci,ak] at J;subst J;exact⟨[],rfl,by simp⟩
 |row id=>
  simp only[DW,iN] at I;split at I
  .rename_i ty p S xs hb;split at I
   .rename_i z Y;simp only[ak,aD] at I;obtain⟨rfl,rfl⟩:=I;obtain⟨e,rfl⟩:=jm Y;cases e;simp only[ci,eJ,hb,ak] at J;subst J;unfold fA;split
    .rename_i hp;simp only[av,cU] at hp;have:xs=[]:=gO.1 hp.2;subst this;exact⟨[],rfl,by simp⟩
    .rename_i hp;have hg:H.get (nm id)=af ⟨ty,.fz (xs.flatMap (bS T))⟩:=by rw[Z,bM,hb];simp only[aH,kE,aA hp]
     refine ⟨[nm id],?_,λn hn=>?_⟩
     .simp only[AV.row?,hg,cS,bG,BC.isCells,BC.len,kL];rw[aE (bE (by rw[fl xs];exact bP _))];simp only[BC.toMx,<-kK,tk]
     .simp only[aL] at hn;exact⟨id,hn,bX.2 rfl⟩
   .cases I
  .cases I
 |agg l=>simp[DW,Ty.one] at I
 |fel T xs j hj off=>simp[DW,iN] at I
 |pel id sz j off=>simp[DW,iN] at I
 |ptr id off=>simp[DW,iN] at I
 |csl id off z=>simp[DW,iN] at I
 |mp id=>simp[DW,iN] at I
 |rtl id jj=>simp[DW,iN] at I
 |tup q=>simp[DW,iN] at I
 |clo f q=>simp[DW,iN] at I
 |undef=>simp[DW,iN] at I
 |np=>simp[DW,iN] at I
 |anyb=>simp[DW,iN] at I
theorem Uo {v:TV} {y:AV} (I:ci h v=af y) (hc:v.isC=ai):gK y.cs=ai:=by
 rw[N8 (Ol I hc)];simp only[gK,Bool.and_true];exact Ol I hc
theorem Ys (T:Ty) (x:T.den):gK ((bS T x).map .f)=ai:=by
 have:∀ l:List FV,(∀ x∈l,x.isCell=ai)->gK (l.map .f)=ai:=by
  intro l hl;induction l with
  |nil=>rfl
  |cons z r I=>simp only[gq,gK,av];exact⟨hl z (by simp),I λx J=>hl x (by simp[J])⟩
 exact this _ (nY T x)
theorem gW {T:Ty} {v:TV} {x:T.den} {m:Nat} {y:AV} (I:iN h T v=af (x,m)) (J:ci h v=af y):gK y.cs=ai:=by
 cases v with
 |f S v=>simp only[ci,ak] at J;subst J;rw[Au];exact Ys S v
 |emp=>exact Uo J rfl
 |nil=>exact Uo J rfl
 |row id=>exact Uo J rfl
 |fel T xs j hj off=>simp[iN] at I
 |pel id sz j off=>simp[iN] at I
 |ptr id off=>simp[iN] at I
 |csl id off z=>simp[iN] at I
 |mp id=>simp[iN] at I
 |rtl id M=>simp[iN] at I
 |agg q=>simp[iN] at I
 |tup q=>simp[iN] at I
 |clo f q=>simp[iN] at I
 |undef=>simp[iN] at I
 |np=>simp[iN] at I
 |anyb=>simp[iN] at I
theorem H6 {T:Ty} (M:T.one=ai) {v:TV} {x:T.den} {m:Nat} (I:iN h T v=af (x,m)):v.isC=ai:=by
 cases v with
 |f S v=>
  simp only[iN] at I;split at I
  .rename_i z J;obtain⟨e,_⟩:=jm J;subst e;exact M
  .cases I
 |emp=>rfl
 |nil=>rfl
 |row id=>rfl
 |fel T xs j hj off=>simp[iN] at I
 |pel id sz j off=>simp[iN] at I
 |ptr id off=>simp[iN] at I
 |csl id off z=>simp[iN] at I
 |mp id=>simp[iN] at I
 |rtl id U=>simp[iN] at I
 |agg q=>simp[iN] at I
 |tup q=>simp[iN] at I
 |clo f q=>simp[iN] at I
 |undef=>simp[iN] at I
 |np=>simp[iN] at I
 |anyb=>simp[iN] at I
theorem SM {a b:List TV} (I:kA a=ai) (hb:kA b=ai):kA (a++b)=ai:=by
 induction a with
 |nil=>exact hb
 |cons z r J=>simp only[kA,av,gr] at I ⊢;exact⟨I.1,J I.2⟩
theorem tV:∀ (n:Nat) (T:Ty) (l:List TV) (x:T.den) (m:Nat) (r:List TV),fc h n T l=af (x,m,r)->∃ a,l=a++r/\kA a=ai
 |0,_,_,_,_,_,hp=>by simp[fc] at hp
 |n+1,.st t,l,x,m,r,hp=>tV n t l x m r hp
 |n+1,.pr a b,l,x,m,r,hp=>by
  simp only[fc] at hp;split at hp
  .rename_i I m1 r1 h1;split at hp
   .rename_i J m2 r2 h2;simp only[ak,aD] at hp;obtain⟨_,_,rfl⟩:=hp;obtain⟨a1,rfl,U⟩:=tV n a l I m1 r1 h1;obtain⟨a2,rfl,M⟩:=tV n b r1 J m2 r2 h2;exact⟨a1++a2,by simp,SM U M⟩
   .cases hp
  .cases hp
 |n+1,.un,l,x,m,r,hp=>by
  simp only[fc,ak,aD] at hp;obtain⟨_,_,rfl⟩:=hp;exact⟨[],rfl,rfl⟩
 |n+1,.ex,l,x,m,r,hp=>by
  simp only[fc] at hp;split at hp
  .rename_i I m1 r1 h1;simp only[ak,aD] at hp;obtain⟨_,_,rfl⟩:=hp;exact tV n MU l I m1 r1 h1
  .cases hp
 |n+1,.sm,l,x,m,r,hp=>by
  simp only[fc] at hp;split at hp
  .rename_i I m1 r1 h1;simp only[ak,aD] at hp;obtain⟨_,_,rfl⟩:=hp;exact tV n Mu l I m1 r1 h1
  .cases hp
 |n+1,.int k,l,x,m,r,hp=>by
  simp only[fc] at hp;split at hp
  .rename_i c q;split at hp
   .rename_i I m1 h1;simp only[ak,aD] at hp;obtain⟨_,_,rfl⟩:=hp;exact⟨[c],rfl,by simp[kA,H6 rfl h1]⟩
   .cases hp
  .cases hp
 |n+1,.bool,l,x,m,r,hp=>by
  simp only[fc] at hp;split at hp
  .rename_i c q;split at hp
   .rename_i I m1 h1;simp only[ak,aD] at hp;obtain⟨_,_,rfl⟩:=hp;exact⟨[c],rfl,by simp[kA,H6 rfl h1]⟩
   .cases hp
  .cases hp
 |n+1,.str,l,x,m,r,hp=>by
  simp only[fc] at hp;split at hp
  .rename_i c q;split at hp
   .rename_i I m1 h1;simp only[ak,aD] at hp;obtain⟨_,_,rfl⟩:=hp;exact⟨[c],rfl,by simp[kA,H6 rfl h1]⟩
   .cases hp
  .cases hp
 |n+1,.sl t,l,x,m,r,hp=>by
  simp only[fc] at hp;split at hp
  .rename_i c q;split at hp
   .rename_i I m1 h1;simp only[ak,aD] at hp;obtain⟨_,_,rfl⟩:=hp;exact⟨[c],rfl,by simp[kA,H6 rfl h1]⟩
   .cases hp
  .cases hp
theorem KI {T:Ty} {v:TV} {x:T.den} {m:Nat} {y:AV} (J:DW h T v=af (x,m)) (I:ci h v=af y):gK y.cs=ai:=by
 cases v with
 |agg l=>
  simp only[DW] at J;split at J
  .cases J
  .split at J
   .rename_i M m1 h1;obtain⟨a,e,Y⟩:=tV 40 T l M m1 [] h1;rw[hY] at e;subst e;simp only[ci] at I;split at I
    .rename_i Z hl;simp only[ak] at I;subst I;exact r_ hl Y
    .cases I
   .cases J
 |f S v=>exact gW (v:=.f S v) J I
 |fel T xs j hj off=>exact gW (v:=.fel T xs j hj off) J I
 |pel id sz j off=>exact gW (v:=.pel id sz j off) J I
 |ptr id off=>exact gW (v:=.ptr id off) J I
 |csl id off z=>exact gW (v:=.csl id off z) J I
 |row id=>exact gW (v:=.row id) J I
 |emp=>exact gW (v:=.emp) J I
 |nil=>exact gW (v:=.nil) J I
 |mp id=>exact gW (v:=.mp id) J I
 |rtl id U=>exact gW (v:=.rtl id U) J I
 |tup q=>exact gW (v:=.tup q) J I
 |clo g q=>exact gW (v:=.clo g q) J I
 |undef=>exact gW (v:=.undef) J I
 |np=>exact gW (v:=.np) J I
 |anyb=>exact gW (v:=.anyb) J I
theorem rc {u:TV} {y:AV} (I:ci h u=af y):∀ (n:Nat) (T:Ty) (v:T.den) (off sz:Nat) (z:T.den) (m:Nat),gR h u n T v off sz=af (z,m)->gK y.cs=ai
 |0,_,_,_,_,_,_,hg=>by simp[gR] at hg
 |n+1,.st t,v,off,sz,z,m,hg=>by
  simp only[gR] at hg;split at hg
  .rename_i q hq;split at hq
   .exact KI hq I
   .cases hq
  .exact rc I n t v off sz z m hg
 |n+1,.pr a b,v,off,sz,z,m,hg=>by
  simp only[gR] at hg;split at hg
  .split at hg
   .rename_i J m1 h1;exact rc I n a v.1 off sz J m1 h1
   .cases hg
  .split at hg
   .rename_i J m1 h1;exact rc I n b v.2 _ sz J m1 h1
   .cases hg
 |n+1,.un,v,off,sz,z,m,hg=>by simp[gR] at hg
 |n+1,.ex,v,off,sz,z,m,hg=>by
  simp only[gR] at hg;split at hg
  .rename_i q hq;split at hq
   .exact KI hq I
   .cases hq
  .split at hg
   .rename_i J m1 h1;exact rc I n MU _ off sz J m1 h1
   .cases hg
 |n+1,.sm,v,off,sz,z,m,hg=>by
  simp only[gR] at hg;split at hg
  .rename_i q hq;split at hq
   .exact KI hq I
   .cases hq
  .split at hg
   .rename_i J m1 h1;exact rc I n Mu _ off sz J m1 h1
   .cases hg
 |n+1,.int k,v,off,sz,z,m,hg=>by
  simp only[gR] at hg;split at hg
  .exact gW hg I
  .cases hg
 |n+1,.bool,v,off,sz,z,m,hg=>by
  simp only[gR] at hg;split at hg
  .exact gW hg I
  .cases hg
 |n+1,.str,v,off,sz,z,m,hg=>by
  simp only[gR] at hg;split at hg
  .exact gW hg I
  .cases hg
 |n+1,.sl t,v,off,sz,z,m,hg=>by
  simp only[gR] at hg;split at hg
  .exact gW hg I
  .cases hg
theorem KL (l:List FV):xX (l.map .f)=af l:=by
 induction l with
 |nil=>rfl
 |cons x r I=>simp only[gq,xX,I]
theorem CR (l:List FV):pu (l.map .f)= .fz l:=by unfold pu;rw[KL]
theorem GW:∀ {a b:List TV},kA a=ai->kA b=ai->kA (a++b)=ai
 |[],_,_,hb=>hb
 |x::r,b,I,hb=>by
  simp only[kA,av] at I;simp only[gr,kA,av];exact⟨I.1,GW I.2 hb⟩
theorem Fu {I:List TV} (J:kA I=ai):∀ n,kA (aG n I).flatten=ai
 |0=>rfl
 |n+1=>by rw[List.replicate_succ,List.flatten_cons];exact GW J (Fu J n)
theorem aez {H:oc} (J:H.get=bC h) {id ty:Nat} {l:List TV} {I:List AV} (hb:h.get id=af (.cells ty l)) (hl:cL h l=af I) {n sz:Nat} (hn:l.length=n*sz):AV.row? H sz (.row (nm id) sz n)=af (I,n,[nm id]):=by
 have hg:H.get (nm id)=af ⟨ty,.mx I⟩:=by rw[J,bM,hb];simp only[aH,kE,hl]
 have hln:=ic hl;simp only[AV.row?,cS,bG,hg,BC.isCells,kL,BC.len,BC.toMx];rw[aE (bE (by omega)),fe (by omega)]
variable (hinv:mc h nx) (hi:tQ e h)
include hinv hi
theorem akq {con:FuncId->Option cu} {b9:TypeId->Option Ty} {ty:TypeId} {sz len:Nat} {z:List Value} {parts:List (Nat×Nat×Operand)} (hcm:DN (b9 ty)=ah) (hc:dj P o.op=af (.bsl ty sz len z parts)) (hk:dY con b9 (.op (.bsl ty sz len z parts)) e h nx K=af r):kS P o aj e h nx K r:=by
 obtain⟨H,hH⟩:=jR h;simp only[dY,hcm] at hk;split at hk
 .rename_i T zc hT Z;split at hk
  .rename_i hs;have hs:=aw hs;subst hs;split at hk
   .rename_i cs hf;split at hk
    .rename_i xs m hp;obtain⟨cs',h1,h2,_⟩:=Df hi parts _ cs _ hf (Mx h Z len);have hm:=N6 len cs xs m hp;refine ⟨_,_,_,_,_,hk,jp.new hinv hc hH (y0:=if len=0 then .emp else .row (nm nx) T.size len) (rdl:=[]) (b0:=⟨ty,pu cs'⟩) (by simp only[eU,h1]) hm (λ_ _ he=>by cases he) (λH1 H2 d g b' I=>?_) (λH1 H2 y d g J=>?_) (by simp)⟩
     .simp only[kE] at I;split at I
      .cases I
      rw[ak] at I;subst I;obtain⟨Y,U⟩:=nP cs';refine j9.cells U rfl ?_ λx M=>?_
      .rw[Y];exact (CJ d len cs xs m cs' hp h2 g).1
      .simp only[BC.toMx] at M;obtain⟨q,hq,rfl⟩:=dt.1 M;exact rH T _ q hq
     .simp only[ci,bU,PT.get_set,bG,aH,mH,fA,ak] at J;rw[(CJ d len cs xs m cs' hp h2 g).2] at J;split at J
      .rename_i hq;simp only[av,cU] at hq;subst J;rw[aE hq.2];exact lM.refl d _
      .rename_i hq;subst J;rw[aA (λh0=>hq (by subst h0;rfl))];exact lM.refl d _
    .cases hk
   .cases hk
  .cases hk
 .cases hk
theorem akr {con:FuncId->Option cu} {b9:TypeId->Option Ty} {ty:TypeId} {sz bytes:Nat} {s x:Operand} (hcm:DN (b9 ty)=ah) (hc:dj P o.op=af (.app ty sz bytes s x)) (hk:dY con b9 (.op (.app ty sz bytes s x)) e h nx K=af r):kS P o aj e h nx K r:=by
 obtain⟨H,hH⟩:=jR h;have hfr:=hinv.fresh;simp only[dY,hcm] at hk;split at hk
 .rename_i T b y hT hv hv2;split at hk
  .rename_i hs;have hs:=aw hs;subst hs;split at hk
   .rename_i J m hys;obtain⟨yb,h1,h2⟩:=bN hi hv;obtain⟨yy,h3,h4⟩:=bN hi hv2;obtain⟨rdl,h5,h6⟩:=Wn hH hys h4;have onEmp:∀ (rd':Nat),(∀ n∈rdl,aN rd' (ow n)=ai)->IY yb=ai->Le yb .emp->bc (al J) bytes=ai->jp P o aj e h nx (.row nx) rd' (kR nx) (h.set nx (af (.rows ty ai T J))) (nx+1):=by
     intro rd' hrd' he hle hroom;have hr1:ch h (h.set nx (af (.rows ty ai T J))):=ch.set λr hr=>by rw[bU,hfr] at hr;cases hr
     have hyb:∀ id sz' n,yb≠ .row id sz' n:=by rintro id sz' n rfl;cases he
     have I:eU (.app ty T.size bytes s x) (JA e h) H (nm nx)=if al J==0 then af ⟨yb,rdl,[],[],[]⟩ else af ⟨.row (nm nx) T.size (al J),rdl,[nm nx],[(nm nx,⟨ty,pu ((J.flatMap (bS T)).map .f)⟩)],[nm nx]⟩:=by
      simp only[eU,h1,h3,h5];cases yb with
      |row id sz' n=>exact cV rfl (hyb id sz' n)
      |_=>simp only[he,hroom,iQ,bG]
     by_cases hl:al J=0
     .rw[hl] at I;simp only[cS,bG] at I;have hnil:J=[]:=gO.1 hl;subst hnil;refine jp.mk' hc hH I [] (by simp) (λn _=>?_) (by simp) (λH1 H2 d _ _ _=>⟨by simp,λy M=>?_⟩) hrd' (by simp) (by simp) hr1 (hinv.set hr1 (by omega) (by omega) λ_ _ he=>by cases he) (by omega)
      .by_cases hn:n=nm nx
       .subst hn;rw[bM,bM,PT.get_set,aE rfl,hfr];rfl
       .refine kQ hinv hr1 λi e=>?_
        subst e;rw[PT.get_set,aA (λe=>hn (by rw[e]))]
      .simp only[ci,bU,PT.get_set,bG,aH,mH,fA,jY,cS,iQ,ak] at M;subst M;exact hle.toH d
     .rw[aA (by simpa using hl)] at I;rw[CR] at I;have key:=jp.new (m:=0) (rd:=rd') hinv hc hH I (B:=.rows ty ai T J) (v:=.row nx) (dV.zero h) (λ_ _ he=>by cases he) (λH1 H2 d g b' Z=>by
       simp only[kE] at Z;rw[aA (by simpa using hl)] at Z;simp only[ak] at Z;subst Z;exact j9.refl d _) (λH1 H2 y d g M=>by
       simp only[ci,bU,PT.get_set,bG,aH,mH,fA] at M;rw[aA (by simpa using hl)] at M;simp only[ak] at M;subst M;exact lM.refl d _) hrd'
      rw[yJ] at key;exact key
    split at hk
    .rename_i id;split at hk
     .rename_i ty' p S xs0 hb;split at hk
      .rename_i xs hxs;obtain⟨ee,rfl⟩:=jm hxs;cases ee;split at hk
       .rename_i hcond;simp only[av,cU,eE] at hcond;obtain⟨rfl,hmid⟩:=hcond;obtain⟨hroom,hk⟩:=d_ hk;simp only[ci,eJ,hb,ak] at h2;have hidlt:=hinv.low id _ hb;have hne:nx≠id:=by omega
        have hrd:∀ n∈rdl,aN (kR id|||m) (ow n)=ai:=λn hn=>by
         obtain⟨i,rfl,hm⟩:=h6 n hn;rw[em,bu,hm];simp
        generalize hh':(h.set id (af (.dead p T.size (al xs0)))).set nx (af (.rows ty' p T (xs0++J)))=h' at hk;have hrA:ch h (h.set id (af (.dead p T.size (al xs0)))):=ch.set λr hr=>by rw[bU,hb] at hr;exact hr
        have hg2:∀ i,h'.get i=if i=nx then af (.rows ty' p T (xs0++J)) else if i=id then af (.dead p T.size (al xs0)) else h.get i:=λi=>by rw[<- hh',PT.get_set,PT.get_set]
        have hr:ch h h':=by
         rw[<- hh'];refine hrA.trans (ch.set λr hr=>?_);rw[bU,PT.get_set,aA hne,hfr] at hr;cases hr
        have hinv':mc h' (nx+1):=by
         refine ⟨λi ty l hil=>?_,λi c hic=>?_⟩
         .rw[hg2] at hil;split at hil
          .cases hil
          .split at hil
           .cases hil
           .exact i_ hr l (hinv.cells i ty l hil)
         .rw[hg2] at hic;split at hic
          .omega
          .split at hic
           .omega
           .have:=hinv.low i c hic;omega
        have hsame:∀ n,n≠nm nx->n≠nm id->bC h' n=bC h n:=λn h1 h2=>kQ hinv hr λi e=>by
         subst e;rw[hg2,aA (λe=>h1 (by rw[e])),aA (λe=>h2 (by rw[e]))]
        have hdead:bC h' (nm id)=ah:=by rw[bM,hg2,aA (by omega),aE rfl];rfl
        have hnew:bC h' (nm nx)=if p&&(xs0++J).length==0 then ah else af ⟨ty',.fz ((xs0++J).flatMap (bS T))⟩:=by rw[bM,hg2,aE rfl];rfl
        have hval:ci h' (.row nx)=af (fA p nx T.size (xs0++J).length):=by simp only[ci,bU,hg2,bG,aH,mH]
        have hwm:∀ n,n=nm nx\/n=nm id->aN (kR id|||kR nx) (ow n)=ai:=λn hn=>by
         rcases hn with rfl|rfl<;>rw[em,bu,bX.2 rfl]<;>simp
        refine ⟨_,_,_,_,_,hk,?_⟩;by_cases hp:(p&&xs0.length==0)=ai
        ·
         have hyb:yb= .emp:=by rw[<- h2];unfold fA;rw[aE hp]
         subst hyb;simp only[av,cU] at hp;obtain⟨rfl,hl0⟩:=hp;have hnil:xs0=[]:=gO.1 hl0;subst hnil;have hroom':bc (al J) bytes=ai:=by simpa using hroom
         have I:eU (.app ty' T.size bytes s x) (JA e h) H (nm nx)=if al J==0 then af ⟨.emp,rdl,[],[],[]⟩ else af ⟨.row (nm nx) T.size (al J),rdl,[nm nx],[(nm nx,⟨ty',pu ((J.flatMap (bS T)).map .f)⟩)],[nm nx]⟩:=by
          simp only[eU,h1,h3,h5,IY,hroom',iQ,bG]
         have hdead0:bC h (nm id)=ah:=by rw[bM,hb];rfl
         by_cases hl:al J=0
         .rw[hl] at I;simp only[cS,bG] at I;have hnil:J=[]:=gO.1 hl;subst hnil;refine jp.mk' hc hH I [] (by simp) (λn _=>?_) (by simp) (λH1 H2 d _ _ _=>⟨by simp,λy M=>?_⟩) hrd (by simp) (by simp) hr hinv' (by omega)
          .by_cases hn:n=nm nx
           .subst hn;rw[hnew,bM,hfr];rfl
           .by_cases hn2:n=nm id
            .subst hn2;rw[hdead,hdead0]
            .exact hsame n hn hn2
          .rw[hval] at M;simp only[fA,hY,jY,cS,iQ,bG,ak] at M;subst M;exact lM.refl d _
         .rw[aA (by simpa using hl),CR] at I;refine jp.mk' hc hH I [nm nx] (λi hi=>hi) (λn hn=>?_) (λi hi b' _=>⟨_,by rw[aE hi];simp only[aL] at hi;subst hi;exact ip _ _⟩) (λH1 H2 d hw1 _ hw2=>⟨λi hi b b' Y U=>?_,λy M=>?_⟩) hrd (λn hn=>hwm n (.inl (by simpa using hn))) (λn hn=>by simp only[aL] at hn;subst hn;rw[em];omega) hr hinv' (by omega)
          .have hn1:n≠nm nx:=by simpa using hn
           by_cases hn2:n=nm id
           .subst hn2;rw[hdead,hdead0]
           .exact hsame n hn1 hn2
          .simp only[aL] at hi;subst hi;rw[hw1 _ (by simp),ip] at Y;rw[hw2 _ (by simp),hnew,aA (by simpa using hl)] at U;simp only[ak,lP] at Y U;subst Y;subst U;exact j9.refl d _
          .rw[hval] at M;simp only[fA,lP] at M;rw[aA (by simpa using hl)] at M;simp only[ak] at M;subst M;exact lM.refl d _
        .have hyb:yb= .row (nm id) T.size xs0.length:=by rw[<- h2];unfold fA;rw[aA hp]
         subst hyb;have hg:H.get (nm id)=af ⟨ty',.fz (xs0.flatMap (bS T))⟩:=by rw[hH,bM,hb];simp only[aH,kE,aA hp]
         have fl:=fG (bD T) xs0;have tk:(xs0.flatMap (bS T)).take (xs0.length*T.size)=xs0.flatMap (bS T):=by rw[<- fl,cR]
         have hmem:X2 (nm id) rdl=aj:=by
          cases hx:X2 (nm id) rdl with
          |false=>rfl
          |true=>
           obtain⟨i,e,hm⟩:=h6 _ (aic.1 hx);rw[<- kV e,hmid] at hm;cases hm
         have I:eU (.app ty' T.size bytes s x) (JA e h) H (nm nx)=af ⟨.row (nm nx) T.size (xs0.length+J.length),nm id::rdl,[nm nx,nm id],[(nm nx,⟨ty',.fz ((xs0++J).flatMap (bS T))⟩)],[nm nx]⟩:=by
          have hcnd:(T.size==T.size&& !(X2 (nm id) rdl)&&(BC.fz (xs0.flatMap (bS T))).isCells&&eQ (xs0.length*T.size) (BC.fz (xs0.flatMap (bS T))).len&&ty'==ty'&&bc (xs0.length+J.length) bytes)=ai:=by
           have:eQ (xs0.length*T.size) (BC.fz (xs0.flatMap (bS T))).len=ai:=bE (by simp only[BC.len];omega);rw[this,hmem,hroom];simp[BC.isCells]
          simp only[eU,h1,h3,h5,hg,hcnd,bG,BC.toMx,<-kK,tk,<-cP,CR,List.flatMap_append]
         have hne2:¬((p&&(xs0++J).length==0)=ai):=by
          simp only[av,cU,bm] at hp ⊢;intro hh;exact hp ⟨hh.1,by omega⟩
         refine jp.mk' hc hH I [nm nx,nm id] (λi hi=>hi) (λn hn=>?_) (λi hi b' Z=>?_) (λH1 H2 d hw1 _ hw2=>⟨λi hi b b' Y U=>?_,λy M=>?_⟩) (λn hn=>?_) (λn hn=>hwm n (by simpa using hn)) (λn hn=>by simp only[aL] at hn;subst hn;rw[em];omega) hr hinv' (by omega)
         .simp only[bl,cw,gf,not_or] at hn;exact hsame n hn.1 hn.2
         .simp only[bl,cw,gf] at hi;rcases hi with rfl|rfl
          .exact⟨_,by rw[aE (by simp)];exact ip _ _⟩
          .rw[hdead] at Z;cases Z
         .simp only[bl,cw,gf] at hi;rcases hi with rfl|rfl
          .rw[hw1 _ (by simp),ip] at Y;rw[hw2 _ (by simp),hnew,aA hne2] at U;simp only[ak] at Y U;subst Y;subst U;exact j9.refl d _
          .rw[hw2 _ (by simp),hdead] at U;cases U
         .rw[hval] at M;simp only[fA] at M;rw[aA hne2] at M;simp only[bm,ak] at M;subst M;exact lM.refl d _
         .rcases bl.1 hn with rfl|hn
          .rw[em,bu,bX.2 rfl];rfl
          .exact hrd n hn
       .cases hk
      .cases hk
     .cases hk
    .obtain⟨hroom,hk⟩:=d_ hk;simp only[ci,ak] at h2;subst h2;exact⟨_,_,_,_,_,hk,onEmp m (λn hn=>by obtain⟨i,rfl,hm⟩:=h6 n hn;rw[em];exact hm) rfl (Le.refl _) hroom⟩
    .obtain⟨hroom,hk⟩:=d_ hk;simp only[ci,ak] at h2;subst h2;exact⟨_,_,_,_,_,hk,onEmp m (λn hn=>by obtain⟨i,rfl,hm⟩:=h6 n hn;rw[em];exact hm) rfl Le.nilEmp hroom⟩
    .cases hk
   .cases hk
  .cases hk
 .cases hk
theorem abj {T:Ty} (xs I:List T.den):(TA xs I).flatMap (bS T)=AI.splice (xs.flatMap (bS T)) 0 ((I.flatMap (bS T)).take (iX I.length xs.length*T.size)):=by
 have _:=hinv;have _:=hi;have fl:=λJ:List T.den=>fG (bD T) J
 have tk:∀ (J:List T.den) n,(J.flatMap (bS T)).take (n*T.size)=(J.take n).flatMap (bS T):=by
  intro J;induction J with
  |nil=>intro n;simp
  |cons z r M=>
   intro n;cases n with
   |zero=>simp
   |succ n=>rw[fM,vZ,fM,iW,List.take_append,bD,fe (by rw[bD];omega),show n*T.size+T.size-T.size=n*T.size from by omega,M n]
 have U:∀ (J:List T.den) n,(J.flatMap (bS T)).drop (n*T.size)=(J.drop n).flatMap (bS T):=by
  intro J;induction J with
  |nil=>intro n;simp
  |cons z r M=>
   intro n;cases n with
   |zero=>simp
   |succ n=>rw[fM,v7,iW,u_,bD,rS (by rw[bD];omega),show n*T.size+T.size-T.size=n*T.size from by omega,M n,lP]
 unfold TA AI.splice;rw[tk,List.flatMap_append,fl,bA];have e1:I.take (iX I.length xs.length)=I.take xs.length:=by
  rcases Nat.le_total I.length xs.length with h|h
  .rw[show iX I.length xs.length=I.length from sJ h,cR,fe h]
  .rw[show iX I.length xs.length=xs.length from Nat.min_eq_right h]
 rw[e1];have e2:min (iX I.length xs.length) I.length=iX I.length xs.length:=sJ (Nat.min_le_left _ _);rw[e2];simp only[List.take_zero,lP,bO];rw[U];congr 1;rcases Nat.le_total I.length xs.length with h|h
 .rw[show iX I.length xs.length=I.length from sJ h]
 .rw[show iX I.length xs.length=xs.length from Nat.min_eq_right h,List.drop_length,rS h]
theorem ako {con:FuncId->Option cu} {b9:TypeId->Option Ty} {sz:Nat} {d x:Operand} (hc:dj P o.op=af (.copy sz d x)) (hk:dY con b9 (.op (.copy sz d x)) e h nx K=af r):kS P o aj e h nx K r:=by
 obtain⟨H,Z⟩:=jR h;simp only[dY] at hk;split at hk
 .rename_i id y hv U;split at hk
  .rename_i ty p T xs hb;split at hk
   .rename_i hs;have hs:=aw hs;subst hs;split at hk
    .rename_i I m hys;split at hk
     .rename_i hcond;simp only[av,eE] at hcond;obtain⟨hmid,rfl⟩:=hcond;obtain⟨yb,h1,h2⟩:=bN hi hv;obtain⟨yy,h3,h4⟩:=bN hi U;obtain⟨rdl,h5,h6⟩:=Wn Z hys h4;simp only[ci,eJ,hb,fA,nB,cz,eo,ak] at h2;subst h2;have fl:=fG (bD T) xs;have fl2:=fG (bD T) I;have hg:H.get (nm id)=af ⟨ty,.fz (xs.flatMap (bS T))⟩:=by rw[Z,bM,hb];simp[kE]
      have hmem:X2 (nm id) rdl=aj:=by
       cases J:X2 (nm id) rdl with
       |false=>rfl
       |true=>
        obtain⟨i,e,hm⟩:=h6 _ (aic.1 J);rw[<- kV e,hmid] at hm;cases hm
      have hle:iX I.length xs.length*T.size<=xs.length*T.size:=cG _ (Nat.min_le_right _ _);have Y:eU (.copy T.size d x) (JA e h) H (nm nx)=af ⟨raw (.int .i64 (iX I.length xs.length)),nm id::rdl,[nm id],[(nm id,⟨ty,.fz ((TA xs I).flatMap (bS T))⟩)],[]⟩:=by
       have hcnd:(T.size==T.size&& !(X2 (nm id) rdl)&&eQ (xs.length*T.size) (BC.fz (xs.flatMap (bS T))).len)=ai:=by
        have:eQ (xs.length*T.size) (BC.fz (xs.flatMap (bS T))).len=ai:=bE (by simp only[BC.len];omega);rw[this,hmem];simp
       have hput:(BC.fz (xs.flatMap (bS T))).put 0 (((I.flatMap (bS T)).map .f).take (iX I.length xs.length*T.size))=af (.fz ((TA xs I).flatMap (bS T))):=by
        rw[<- kK];unfold BC.put;rw[aE]
        .simp only[KL];rw[abj hinv hi]
        .simp only[av];refine ⟨⟨rfl,bE ?_⟩,?_⟩
         .simp only[BC.len,bY,bA];omega
         .have:∀ l:List FV,(∀ x∈l,x.isCell=ai)->gK (l.map .f)=ai:=by
           intro l hl;induction l with
           |nil=>rfl
           |cons z r ih=>simp only[gq,gK,av];exact⟨hl z (by simp),ih λx J=>hl x (by simp[J])⟩
          exact this _ λx J=>rH T I x (gY J)
       simp only[eU,h1,h3,hg,h5,hcnd,bG,hput]
      have hrow:mH (.rows ty aj T (TA xs I))=mH (.rows ty aj T xs):=by
       have:(TA xs I).length=xs.length:=by unfold TA;rw[bm,bA,mE];omega
       simp only[mH,this]
      have key:=jp.wrt (m:=0) (v:=.f (.int .i64) (aQ (iX (al I) (al xs)))) (rd:=kR id|||m) hinv hc Z Y (B:=.rows ty aj T (TA xs I)) hb (dV.zero h) (by simp) hrow (λ_ _ he=>by cases he) (λH1 H2 d g b' M=>by
       simp only[kE,nB,cz,eo,ak] at M;subst M;exact j9.refl d _) (λH1 H2 y d g hy=>by
       simp only[ci,ak] at hy;subst hy;exact lM.refl d _) (λn hn=>by
       rcases bl.1 hn with rfl|hn
       .rw[em,bu,bX.2 rfl];rfl
       .obtain⟨i,rfl,hm⟩:=h6 n hn;rw[em,bu,hm];simp)
      rw[yJ] at key;exact⟨_,_,_,_,_,hk,key⟩
     .cases hk
    .cases hk
   .cases hk
  .cases hk
 .cases hk
theorem ag6 {con:FuncId->Option cu} {b9:TypeId->Option Ty} {sz:Nat} {x v:Operand} (hc:dj P o.op=af (.store sz x v)) (hk:dY con b9 (.op (.store sz x v)) e h nx K=af r):kS P o aj e h nx K r:=by
 obtain⟨H,hH⟩:=jR h;simp only[dY] at hk;split at hk
 .rename_i id off y hv hv2;obtain⟨yb,h1,h2⟩:=bN hi hv;obtain⟨J,h3,h4⟩:=bN hi hv2;simp only[ci,ak] at h2;subst h2;split at hk
  .rename_i ty l hb;split at hk
   .rename_i cs hcs;split at hk
    .rename_i hcond;simp only[av,cU] at hcond;obtain⟨h5,h6⟩:=Kj hcs h4;obtain⟨M,hl⟩:=fy h l (hinv.cells id ty l hb);have hg:H.get (nm id)=af ⟨ty,.mx M⟩:=by rw[hH,bM,hb];simp only[aH,kE,hl]
     have hcell:=r_ h5 h6;have hlen:J.cs.length=sz:=by rw[ic h5];exact hcond.1
     have hput:(BC.mx M).put off J.cs=af (.mx (splice M off J.cs)):=by
      unfold BC.put;rw[aE]
      .rfl
      .simp only[av];exact⟨⟨rfl,by simp only[BC.len];rw[hlen,ic hl];exact hcond.2⟩,hcell⟩
     have Z:eU (.store sz x v) (JA e h) H (nm nx)=af ⟨raw undef,[nm id],[nm id],[(nm id,⟨ty,.mx (splice M off J.cs)⟩)],[]⟩:=by
      simp only[eU,h1,h3,KH,hg,hlen,cS,bG,hput]
     have hspl:∀ h',ch h h'->cL h' (splice l off cs)=af (splice M off J.cs):=λh' hr=>sC off (hX hr l M hl) (hX hr cs _ h5)
     have U:ch h (h.set id (af (.cells ty (splice l off cs)))):=ch.set λr hr=>by rw[bU,hb] at hr;cases hr
     have key:=jp.wrt (m:=0) (v:=.undef) (rd:=kR id) hinv hc hH Z (B:=.cells ty (splice l off cs)) hb (dV.zero h) (by simp) rfl (λty' l2 he=>by cases he;exact kP _ _ _ (hspl _ U)) (λH1 H2 d g b' I=>by
      have:=hspl _ U;simp only[eK,rR,bG,kE,this,ak] at I;subst I;exact j9.refl d _) (λH1 H2 y d g hy=>by
      simp only[ci,ak] at hy;subst hy;exact lM.refl d _) (λn hn=>by simp only[aL] at hn;subst hn;rw[em];exact bX.2 rfl)
     rw[yJ] at key;exact⟨_,_,_,_,_,hk,key⟩
    .cases hk
   .cases hk
  .cases hk
 .rename_i id sz' j off y hv hv2;obtain⟨yb,h1,h2⟩:=bN hi hv;obtain⟨J,h3,h4⟩:=bN hi hv2;simp only[ci,ak] at h2;subst h2;split at hk
  .rename_i ty p T xs hb;split at hk
   .rename_i hsz;have hsz:=aw hsz;subst hsz;obtain⟨hj,hk⟩:=d_ hk;split at hk
    .rename_i z m hset;split at hk
     .cases hk
     .rename_i hmid;have hmid:aN m id=aj:=by simpa using hmid
      have hm:=Ah 40 T _ off sz z m hset;obtain⟨j0,j1,j2⟩:=EJ hj;have hne:¬((p&&xs.length==0)=ai):=by simp only[av,cU];omega
      have hne2:¬((p&&(cq xs j z).length==0)=ai):=by unfold cq;rw[sL];exact hne
      have hg:H.get (nm id)=af ⟨ty,.fz (xs.flatMap (bS T))⟩:=by rw[hH,bM,hb];simp only[aH,kE,aA hne]
      have fl:=fG (bD T) xs;have hx:xs[j.toNat]? =af (aJ xs j):=by
       unfold aJ;rw[ax,aB j2];rfl
      have hle:(j.toNat+1)*T.size<=xs.length*T.size:=cG _ j2;rw[iW] at hle;have hso:∀ H1 H2,vF H1 H2->Eb h H1 H2 m->XD H1 H2 J T (aJ xs j) z off sz:=λH1 H2 d g=>wj d h4 40 T _ off sz z m hset g
      have hshape:J.cs.length=sz/\off+sz<=T.size/\gK J.cs=ai:=by
       have d0:vF (bC h) (bC (eK m h)):=λi b hb=>by
        obtain⟨i',c,rfl,g1,g2⟩:=jC hb;rw[jd] at g1;by_cases ht:aN m i'=ai
        .obtain⟨pp,ss,nn,g3⟩:=tZ hm ht;rw[jd] at g3;rw[g3] at g1;cases g1;cases g2
        .rw[aA ht] at g1;exact⟨b,by rw[bM,g1];simp only[aH];rw[<- JB (ch.kill m h) (λty l e=>hinv.cells i' ty l (by rw[g1,e]))];exact g2⟩
       obtain⟨fs,q1,q2,q3,q4,q5⟩:=hso _ _ d0 (λi hi=>⟨rfl,by
        obtain⟨pp,ss,nn,g3⟩:=tZ hm hi;rw[bM,g3];rfl⟩)
       refine ⟨by rw[<- q2,<-bY (f:=AV.f),q1.length],q3,?_⟩;exact rc h4 40 T _ off sz z m hset
      obtain⟨hlen,hoff,hcell⟩:=hshape;obtain⟨c',hput,Y,hc2⟩:∃ c',(BC.fz (xs.flatMap (bS T))).put (j.toNat*T.size+off) J.cs=af c'/\c'.toMx=splice ((xs.flatMap (bS T)).map .f) (j.toNat*T.size+off) J.cs/\c'.isCells=ai:=by
       unfold BC.put;rw[aE]
       .split
        .rename_i l ys hl hys;simp only[BC.fz.injEq] at hl;subst hl;refine ⟨_,rfl,?_,rfl⟩;rw[pR hys];simp only[BC.toMx];unfold splice;simp[kK,List.map_drop]
        .exact⟨_,rfl,rfl,rfl⟩
       .simp only[av];exact⟨⟨rfl,bE (by simp only[BC.len];omega)⟩,hcell⟩
      have Z:eU (.store sz x v) (JA e h) H (nm nx)=af ⟨raw undef,[nm id],[nm id],[(nm id,⟨ty,c'⟩)],[]⟩:=by
       simp only[eU,h1,h3,KH,hg,hlen,cS,bG,hput]
      have hrow:mH (.rows ty p T (cq xs j z))=mH (.rows ty p T xs):=by
       unfold cq;simp only[mH,sL]
      refine ⟨_,_,_,_,_,hk,jp.wrt hinv hc hH Z (B:=.rows ty p T (cq xs j z)) hb hm hmid hrow (λ_ _ he=>by cases he) (λH1 H2 d g b' I=>?_) (λH1 H2 y d g hy=>?_) (λn hn=>?_)⟩
      .simp only[kE,aA hne2,ak] at I;subst I;obtain⟨fs,q1,q2,q3,q4,q5⟩:=hso H1 H2 d g;have hfl:(cq xs j z).flatMap (bS T)=AI.splice (xs.flatMap (bS T)) (j.toNat*T.size+off) fs:=Rp (bD T) xs j.toNat _ z hx off fs (by omega) q4;refine j9.cells hc2 rfl ?_ λx hx=>?_
       .rw[Y];simp only[BC.toMx];rw[hfl];have:(AI.splice (xs.flatMap (bS T)) (j.toNat*T.size+off) fs).map AV.f=AI.splice ((xs.flatMap (bS T)).map .f) (j.toNat*T.size+off) (fs.map .f):=by unfold AI.splice;simp[kK,List.map_drop]
        rw[this];exact (il.refl d _).splice _ q1
       .simp only[BC.toMx] at hx;obtain⟨q,hq,rfl⟩:=dt.1 hx;exact rH T _ q hq
      .simp only[ci,ak] at hy;subst hy;exact lM.refl d _
      .simp only[aL] at hn;subst hn;rw[em,bu,bX.2 rfl];simp
    .cases hk
   .cases hk
  .rename_i ty l hb;split at hk
   .rename_i hsz;simp only[av] at hsz;obtain⟨s1,s2,s3⟩:=hsz;have s1:=aw s1;have s2:=aw s2;have s3:=aw s3;subst s1;subst s2;subst s3;obtain⟨hj,hk⟩:=d_ hk;obtain⟨j0,j1,j2⟩:=EJ hj;split at hk
    .rename_i cs hcs;split at hk
     .rename_i Y;have Y:=aw Y;obtain⟨h5,h6⟩:=Kj hcs h4;obtain⟨M,hl⟩:=fy h l (hinv.cells id ty l hb);have hg:H.get (nm id)=af ⟨ty,.mx M⟩:=by rw[hH,bM,hb];simp only[aH,kE,hl]
      have hcell:=r_ h5 h6;have hlen:J.cs.length=1:=by rw[ic h5];exact Y
      have e0:j.toNat*1+0=j.toNat:=by omega
      rw[e0] at h1;have hput:(BC.mx M).put j.toNat J.cs=af (.mx (splice M j.toNat J.cs)):=by
       unfold BC.put;rw[aE]
       .rfl
       .simp only[av];exact⟨⟨rfl,bE (by simp only[BC.len];rw[hlen,ic hl];omega)⟩,hcell⟩
      have Z:eU (.store 1 x v) (JA e h) H (nm nx)=af ⟨raw undef,[nm id],[nm id],[(nm id,⟨ty,.mx (splice M j.toNat J.cs)⟩)],[]⟩:=by
       simp only[eU,h1,h3,KH,hg,hlen,cS,bG,hput]
      have hspl:∀ h',ch h h'->cL h' (splice l j.toNat cs)=af (splice M j.toNat J.cs):=λh' hr=>sC j.toNat (hX hr l M hl) (hX hr cs _ h5)
      have U:ch h (h.set id (af (.cells ty (splice l j.toNat cs)))):=ch.set λr hr=>by rw[bU,hb] at hr;cases hr
      have key:=jp.wrt (m:=0) (v:=.undef) (rd:=kR id) hinv hc hH Z (B:=.cells ty (splice l j.toNat cs)) hb (dV.zero h) (by simp) rfl (λty' l2 he=>by cases he;exact kP _ _ _ (hspl _ U)) (λH1 H2 d g b' I=>by
       have:=hspl _ U;simp only[eK,rR,bG,kE,this,ak] at I;subst I;exact j9.refl d _) (λH1 H2 y d g hy=>by
       simp only[ci,ak] at hy;subst hy;exact lM.refl d _) (λn hn=>by simp only[aL] at hn;subst hn;rw[em];exact bX.2 rfl)
      rw[yJ] at key;exact⟨_,_,_,_,_,hk,key⟩
     .cases hk
    .cases hk
   .cases hk
  .cases hk
 .cases hk
theorem akj {con:FuncId->Option cu} {b9:TypeId->Option Ty} {ty:TypeId} {sz bytes:Nat} {z:List Value} {l c:Operand} (hc:dj P o.op=af (.mksl ty sz bytes z l c)) (hk:dY con b9 (.op (.mksl ty sz bytes z l c)) e h nx K=af r):kS P o aj e h nx K r:=by
 cases hcm:DN (b9 ty) with
 |none=>exact ag7 hinv hi hcm hc hk
 |some n=>
  obtain⟨H,hH⟩:=jR h;simp only[dY,hcm] at hk;split at hk
  .rename_i zc k a k' b J hv M;obtain⟨hck,hk⟩:=d_ hk;rw[av] at hck;obtain⟨hcond,hn⟩:=hck;have hn:=bf hn;obtain⟨y,h1,h2⟩:=bN hi hv;obtain⟨y2,h3,Y⟩:=bN hi M;simp only[ci,ak] at h2 Y;subst h2;subst Y;have han:aS a=n:=by rw[hn];rfl
   obtain⟨_,_,hzc⟩:=vB h J;refine ⟨_,_,_,_,_,hk,jp.new hinv hc hH (y0:=.row (nm nx) sz n) (rdl:=[]) (b0:=⟨ty,.fz (repl z n)⟩) (by simp only[eU,h1,h3,gL,hcond,bG,han]) (dV.zero h) (λty' l' he=>?_) (λH1 H2 d g b' I=>?_) (λH1 H2 y d g U=>?_) (by simp)⟩
   .cases he;exact kP _ _ _ (Mx _ J n)
   .simp only[kE,Mx _ J n,ak] at I;subst I;refine j9.cells rfl rfl (il.refl d _) λx Z=>?_
    exact lK (r_ (Mx h J n) (Fu hzc n)) x Z
   .simp only[ci,ak] at U;subst U;exact lM.refl d _
  .cases hk
theorem ao0 {con:FuncId->Option cu} {b9:TypeId->Option Ty} {ty:TypeId} {sz len:Nat} {z:List Value} {parts:List (Nat×Nat×Operand)} (hc:dj P o.op=af (.bsl ty sz len z parts)) (hk:dY con b9 (.op (.bsl ty sz len z parts)) e h nx K=af r):kS P o aj e h nx K r:=by
 cases hcm:DN (b9 ty) with
 |none=>exact akq hinv hi hcm hc hk
 |some n=>
  obtain⟨H,hH⟩:=jR h;simp only[dY,hcm] at hk;split at hk
  .rename_i zc M;split at hk
   .rename_i cs hf;split at hk
    .cases hk
    .rename_i hl;have hl:len≠0:=λe=>hl (by rw[e];rfl)
     obtain⟨cs',h1,h2,h3⟩:=Df hi parts _ cs _ hf (Mx h M len);obtain⟨_,_,hzc⟩:=vB h M;have hcs:=h3 (Fu hzc len);have hr:ch h ((eK 0 h).set nx (af (.cells ty cs))):=(ch.kill 0 h).trans (ch.set λr hr=>by rw[bU,(hinv.kill 0).fresh] at hr;cases hr);have J:=hX hr _ _ h2;refine ⟨_,_,_,_,_,hk,jp.new hinv hc hH (y0:=.row (nm nx) sz len) (rdl:=[]) (b0:=⟨ty,pu cs'⟩) (by simp only[eU,h1,aA hl]) (dV.zero h) (λty' l' he=>?_) (λH1 H2 d g b' I=>?_) (λH1 H2 y d g U=>?_) (by simp)⟩
     .cases he;exact kP _ _ _ J
     .simp only[kE,J,ak] at I;subst I;obtain⟨Z,Y⟩:=nP cs';refine j9.cells Y rfl ?_ λx hx=>?_
      .rw[Z];exact il.refl d _
      .exact lK (r_ h2 hcs) x hx
     .simp only[ci,ak] at U;subst U;exact lM.refl d _
   .cases hk
  .cases hk
theorem ao3 {con:FuncId->Option cu} {b9:TypeId->Option Ty} {ty:TypeId} {sz bytes:Nat} {s x:Operand} (hc:dj P o.op=af (.app ty sz bytes s x)) (hk:dY con b9 (.op (.app ty sz bytes s x)) e h nx K=af r):kS P o aj e h nx K r:=by
 cases hcm:DN (b9 ty) with
 |none=>exact akr hinv hi hcm hc hk
 |some n0=>
  obtain⟨H,hH⟩:=jR h;have hfr:=hinv.fresh;simp only[dY,hcm] at hk;split at hk
  .rename_i b y hv hv2;obtain⟨yb,h1,h2⟩:=bN hi hv;obtain⟨yy,h3,h4⟩:=bN hi hv2;unfold ah7 at hk;split at hk
   .rename_i id2 sz2 m;simp only[ci,ak] at h4;subst h4;split at hk
    .rename_i ty2 l2 I;split at hk
     .rename_i hq;simp only[av,eE] at hq;obtain⟨⟨q1,q2⟩,q3⟩:=hq;have q1:=aw q1;have q2:=aw q2;have q3:m≠0:=λe=>by rw[e] at q3;cases q3
      subst q1;obtain⟨J,Z⟩:=fy h l2 (hinv.cells id2 ty2 l2 I);have hrow:=aez hH I Z q2;split at hk
      .rename_i id sz1 n;simp only[ci,ak] at h2;subst h2;split at hk
       .rename_i ty1 l1 U;split at hk
        .rename_i hq;simp only[av,eE] at hq;obtain⟨⟨⟨p1,p2⟩,p3⟩,p4⟩:=hq;have p1:=aw p1;have p2:=eq_of_beq p2;have p3:=aw p3;have p4:id≠id2:=λe=>by rw[e,rR] at p4;cases p4
         subst p1;subst p2;obtain⟨hroom,hk⟩:=d_ hk;obtain⟨M,hl1⟩:=fy h l1 (hinv.cells id _ l1 U);have hln:=ic hl1;have hg:H.get (nm id)=af ⟨ty1,.mx M⟩:=by rw[hH,bM,U];simp only[aH,kE,hl1]
         have hidlt:id<nx:=hinv.low id _ U;generalize hB:iz.cells ty1 (l1++l2)=B at hk;have hd1:ch h (h.set id (af (.dead ai 0 0))):=ch.set λr hr=>by rw[bU,U] at hr;cases hr
         have hd2:ch (h.set id (af (.dead ai 0 0))) ((h.set id (af (.dead ai 0 0))).set nx (af B)):=ch.set λr hr=>by
          rw[bU,PT.get_set,aA (by omega),hfr] at hr;cases hr
         have hr:=hd1.trans hd2;have hsp:cL ((h.set id (af (.dead ai 0 0))).set nx (af B)) (l1++l2)=af (M++J):=hX hr _ _ (nj hl1 Z);have Y:bC ((h.set id (af (.dead ai 0 0))).set nx (af B)) (nm nx)=af ⟨ty1,.mx (M++J)⟩:=by rw[bM,PT.get_set,aE rfl,<-hB] at *;simp only[aH,kE,hsp]
         have hbd:bC ((h.set id (af (.dead ai 0 0))).set nx (af B)) (nm id)=ah:=by rw[bM,PT.get_set,aA (by omega),PT.get_set,aE rfl];rfl
         have hinv1:mc (h.set id (af (.dead ai 0 0))) nx:=hinv.set hd1 hidlt (bP _) (λ_ _ he=>by cases he);have ha:eU (.app ty1 sz1 bytes s x) (JA e h) H (nm nx)=af ⟨.row (nm nx) sz1 (n+m),[nm id,nm id2],[nm nx,nm id],[(nm nx,⟨ty1,pu (M++J)⟩)],[nm nx]⟩:=by
          simp only[eU,h1,h3,hrow,hg];rw[aE (by
           simp only[cS,kL,Bool.and_true,BC.isCells,BC.len,hroom,av,eE];refine ⟨?_,bE (by omega)⟩;simp only[X2,Bool.or_false];cases hq:aC (nm id2) (nm id) with
           |false=>rfl
           |true=>exact cV (kV (aw hq)).symm p4)]
          simp only[BC.toMx,fe (show M.length<=n*sz1 by omega)]
         refine ⟨_,_,_,_,_,hk,jp.mk' hc hH ha [nm nx,nm id] (λi hi=>hi) (λq hq=>?_) (λi hi b' hbb=>?_) (λH1 H2 d hw1 _ hw2=>⟨λi hi b b' hb I=>?_,λy hy=>?_⟩) (λq hq=>?_) (λq hq=>?_) (λq hq=>?_) hr (hinv1.set hd2 (by omega) (by omega) λty' l' he=>?_) (by omega)⟩
         .simp only[bl,cw,gf,not_or] at hq;refine kQ hinv hr λi ei=>?_
          subst ei;rw[PT.get_set,aA (λe=>hq.1 (by rw[e])),PT.get_set,aA (λe=>hq.2 (by rw[e]))]
         .simp only[bl,cw,gf] at hi;rcases hi with rfl|rfl
          .rw[aE (by simp)];exact⟨_,ip _ _⟩
          .rw[hbd] at hbb;cases hbb
         .simp only[bl,cw,gf] at hi;rcases hi with rfl|rfl
          .rw[hw1 _ (by simp),ip] at hb;rw[hw2 _ (by simp),Y] at I;simp only[ak] at hb I;subst hb;subst I;obtain⟨m1,m2⟩:=nP (M++J);exact j9.eq d m2 rfl m1
          .rw[hw2 _ (by simp),hbd] at I;cases I
         .simp only[ci,ak] at hy;subst hy;exact lM.refl d _
         .simp only[bl,cw,gf] at hq;rw[bu,iZ];rcases hq with rfl|rfl
          .rw[em];exact .inl (bX.2 rfl)
          .rw[em];exact .inr (bX.2 rfl)
         .simp only[bl,cw,gf] at hq;rw[bu,iZ];rcases hq with rfl|rfl
          .rw[em];exact .inr (bX.2 rfl)
          .rw[em];exact .inl (bX.2 rfl)
         .simp only[aL] at hq;subst hq;rw[em];omega
         .rw[<- hB] at he;cases he;exact kP _ _ _ hsp
        .cases hk
       .cases hk
      .simp only[ci,ak] at h2;subst h2;obtain⟨hroom,hk⟩:=d_ hk;have hr:ch h ((eK 0 h).set nx (af (.cells ty l2))):=(ch.kill 0 h).trans (ch.set λr hr=>by rw[bU,(hinv.kill 0).fresh] at hr;cases hr);have h2':=hX hr _ _ Z;refine ⟨_,_,_,_,_,hk,jp.new hinv hc hH (y0:=.row (nm nx) sz2 m) (rdl:=[nm id2]) (b0:=⟨ty,pu J⟩) (by simp only[eU,h1,h3,hrow];simp[IY,An,hroom,q3]) (dV.zero h) (λty' l' he=>?_) (λH1 H2 d g b' Y=>?_) (λH1 H2 y d g hy=>?_) (λn hn=>?_)⟩
       .cases he;exact kP _ _ _ h2'
       .simp only[kE,h2',ak] at Y;subst Y;obtain⟨p1,p2⟩:=nP J;exact j9.eq d p2 rfl p1
       .simp only[ci,ak] at hy;subst hy;exact lM.refl d _
       .simp only[aL] at hn;subst hn;rw[em];exact bX.2 rfl
      .cases hk
     .cases hk
    .cases hk
   .cases hk
  .cases hk
theorem ang {con:FuncId->Option cu} {b9:TypeId->Option Ty} {sz:Nat} {x:Operand} {lo hi' mx:Option Operand} (hc:dj P o.op=af (.slc sz x lo hi' mx)) (hk:dY con b9 (.op (.slc sz x lo hi' mx)) e h nx K=af r):kS P o aj e h nx K r:=by
 have hfr:=hinv.fresh;simp only[dY] at hk;split at hk
 .rename_i v hv;obtain⟨y,h1,h2⟩:=bN hi hv;split at hk
  .split at hk
   .rename_i hn;obtain⟨n,hn⟩:=iP.1 hn;have Y:=QI hn h2;exact kS.q (k:=0) hinv hc (λH _=>by simp only[eU,h1,Y,Option.isSome_some,bG]) (du rfl) hk
   .cases hk
  .rename_i b;split at hk
   .rename_i T xs k j hb;obtain⟨y2,Y,U⟩:=bN hi hb;simp only[ci,ak] at h2 U;subst h2;subst U;split at hk
    .rename_i hs;have hs:=aw hs;subst hs;obtain⟨hj,hk⟩:=d_ hk;have hfl:=fG (bD T) xs;have hcond:(cY 0 j&&cY j (al xs)&&eQ (al xs*T.size) (xs.flatMap (bS T)).length)=ai:=by
      rw[hj,kL];exact bE (by omega)
     simp only[cY,av,bt] at hj;have hlen:(xs.take j.toNat).length=j.toNat:=by rw[bA];omega
     exact kS.q (k:=0) (y0:=.f (.sl ((xs.flatMap (bS T)).take (j.toNat*T.size)) j.toNat)) hinv hc (λH _=>by simp only[eU,h1,Y,gL,hcond,bG]) (du (by simp only[ci,gL];rw[As (bD T),hlen])) hk
    .cases hk
   .rename_i id k j hb;obtain⟨y2,Y,U⟩:=bN hi hb;simp only[ci,ak] at U;subst U;split at hk
    .rename_i ty p T xs I;split at hk
     .rename_i hs;have hs:=aw hs;subst hs;obtain⟨hj,hk⟩:=d_ hk;obtain⟨H,hH⟩:=jR h;have hj0:=hj;simp only[cY,fX,av,bt] at hj;have hp:¬((p&&xs.length==0)=ai):=by
       simp only[av,cU];omega
      simp only[ci,bU,I,aH,mH,fA,aA hp,ak] at h2;subst h2;have hidlt:=hinv.low id _ I;have hne:nx≠id:=by omega
      have hg:H.get (nm id)=af ⟨ty,.fz (xs.flatMap (bS T))⟩:=by rw[hH,bM,I];simp only[aH,kE,aA hp]
      have fl:=fG (bD T) xs;have hcond:(T.size==T.size&&cY 0 j&&cY j (al xs))=ai:=by
       simp only[cY,av,bt,cS,Bx];omega
      have hlen:(xs.take j.toNat).length=j.toNat:=by rw[bA];omega
      have ha0:eU (.slc T.size x ah (af b) ah) (JA e h) H (nm nx)=af ⟨.row (nm nx) T.size j.toNat,[nm id],[nm nx,nm id],[(nm nx,⟨ty,.fz ((xs.take j.toNat).flatMap (bS T))⟩)],[nm nx]⟩:=by
       have hc2:((BC.fz (xs.flatMap (bS T))).isCells&&eQ (al xs*T.size) (BC.fz (xs.flatMap (bS T))).len)=ai:=by
        simp only[BC.isCells,kL,BC.len];exact bE (by omega)
       simp only[eU,h1,Y,gL,hcond,bG,hg,hc2,BC.toMx,<-kK,CR,As (bD T)]
      generalize hh':(h.set id (af (.dead p T.size (al xs)))).set nx (af (.rows ty aj T (dA j.toNat xs)))=h' at hk;have hrA:ch h (h.set id (af (.dead p T.size (al xs)))):=ch.set λr hr=>by rw[bU,I] at hr;exact hr
      have J:∀ i,h'.get i=if i=nx then af (.rows ty aj T (dA j.toNat xs)) else if i=id then af (.dead p T.size (al xs)) else h.get i:=λi=>by rw[<- hh',PT.get_set,PT.get_set]
      have hr:ch h h':=by
       rw[<- hh'];refine hrA.trans (ch.set λr hr=>?_);rw[bU,PT.get_set,aA hne,hfr] at hr;cases hr
      have hinv':mc h' (nx+1):=by
       refine ⟨λi ty l hil=>?_,λi c hic=>?_⟩
       .rw[J] at hil;split at hil
        .cases hil
        .split at hil
         .cases hil
         .exact i_ hr l (hinv.cells i ty l hil)
       .rw[J] at hic;split at hic
        .omega
        .split at hic
         .omega
         .have:=hinv.low i c hic;omega
      have hsame:∀ n,n≠nm nx->n≠nm id->bC h' n=bC h n:=λn h1 h2=>kQ hinv hr λi e=>by
       subst e;rw[J,aA (λe=>h1 (by rw[e])),aA (λe=>h2 (by rw[e]))]
      have hdead:bC h' (nm id)=ah:=by rw[bM,J,aA (by omega),aE rfl];rfl
      have hnew:bC h' (nm nx)=af ⟨ty,.fz ((xs.take j.toNat).flatMap (bS T))⟩:=by rw[bM,J,aE rfl];rfl
      have hval:ci h' (.row nx)=af (.row (nm nx) T.size j.toNat):=by simp only[ci,bU,J,bG,aH,mH,fA,nB,cz,eo,hlen]
      refine ⟨_,_,_,_,_,hk,?_⟩;refine jp.mk' hc hH ha0 [nm nx,nm id] (λi hi=>hi) (λn hn=>?_) (λi hi b' hb'=>?_) (λH1 H2 d hw1 _ hw2=>⟨λi hi b b' Z M=>?_,λy hy=>?_⟩) (λn hn=>?_) (λn hn=>?_) (λn hn=>by simp only[aL] at hn;subst hn;rw[em];omega) hr hinv' (by omega)
      .simp only[bl,cw,gf,not_or] at hn;exact hsame n hn.1 hn.2
      .simp only[bl,cw,gf] at hi;rcases hi with rfl|rfl
       .exact⟨_,by rw[aE (by simp)];exact ip _ _⟩
       .rw[hdead] at hb';cases hb'
      .simp only[bl,cw,gf] at hi;rcases hi with rfl|rfl
       .rw[hw1 _ (by simp),ip] at Z;rw[hw2 _ (by simp),hnew] at M;simp only[ak] at Z M;subst Z;subst M;exact j9.refl d _
       .rw[hw2 _ (by simp),hdead] at M;cases M
      .rw[hval] at hy;simp only[ak] at hy;subst hy;exact lM.refl d _
      .simp only[aL] at hn;subst hn;rw[em];exact bX.2 rfl
      .simp only[bl,cw,gf] at hn;rcases hn with rfl|rfl<;>rw[em,bu,bX.2 rfl]<;>simp
     .cases hk
    .cases hk
   .cases hk
  .rename_i b;split at hk
   .rename_i T xs k j hb;obtain⟨y2,Y,U⟩:=bN hi hb;simp only[ci,ak] at h2 U;subst h2;subst U;split at hk
    .rename_i hs;have hs:=aw hs;subst hs;obtain⟨hj,hk⟩:=d_ hk;have hfl:=fG (bD T) xs;have hcond:(cY 0 j&&cY j (al xs)&&eQ (al xs*T.size) (xs.flatMap (bS T)).length)=ai:=by
      rw[hj,kL];exact bE (by omega)
     simp only[cY,av,bt] at hj;have hlen:(xs.drop j.toNat).length=al xs-j.toNat:=by rw[mE]
     have htk:((xs.flatMap (bS T)).drop (j.toNat*T.size)).take ((al xs-j.toNat)*T.size)=(xs.flatMap (bS T)).drop (j.toNat*T.size):=by
      refine fe ?_;rw[mE,hfl,Nat.sub_mul];exact bP _
     exact kS.q (k:=0) (y0:=.f (.sl ((xs.flatMap (bS T)).drop (j.toNat*T.size)) (al xs-j.toNat))) hinv hc (λH _=>by simp only[eU,h1,Y,gL,hcond,bG,htk]) (du (by simp only[ci,gL];rw[Jv (bD T),hlen])) hk
    .cases hk
   .rename_i id k j hb;obtain⟨y2,Y,U⟩:=bN hi hb;simp only[ci,ak] at U;subst U;split at hk
    .rename_i ty p T xs I;split at hk
     .rename_i hs;have hs:=aw hs;subst hs;obtain⟨hj,hk⟩:=d_ hk;have hcond:(T.size==T.size&&cY 0 j&&fX j (al xs))=ai:=by
       simp only[av] at hj;rw[hj.1,hj.2,cS];rfl
      simp only[cY,fX,av,bt] at hj;have hp:¬((p&&xs.length==0)=ai):=by
       simp only[av,cU];omega
      simp only[ci,bU,I,aH,mH,fA,aA hp,ak] at h2;subst h2;exact kS.q (k:=0) (y0:=.sl (nm id) (j.toNat*T.size) (al xs-j.toNat)) hinv hc (λH _=>by simp only[eU,h1,Y,gL,hcond,bG]) (du (by simp only[ci,bU,I,aH,mH])) hk
     .cases hk
    .cases hk
   .cases hk
  .cases hk
 .cases hk
theorem anz {con:FuncId->Option cu} {b9:TypeId->Option Ty} {sz:Nat} {z:List Value} {x:Operand} (hc:dj P o.op=af (.clr sz z x)) (hk:dY con b9 (.op (.clr sz z x)) e h nx K=af r):kS P o aj e h nx K r:=by
 obtain⟨H,hH⟩:=jR h;simp only[dY] at hk;split at hk
 .rename_i id j hv;split at hk
  .rename_i ty p T xs hb;split at hk
   .rename_i hs;simp only[av] at hs;obtain⟨⟨hs,J⟩,hco⟩:=hs;have hs:=aw hs;have J:=KC J;subst hs;subst J;obtain⟨hj,hk⟩:=d_ hk;simp only[cY,fX,av,bt] at hj;obtain⟨j0,j1⟩:=hj;obtain⟨y,h1,h2⟩:=bN hi hv;simp only[ci,bU,hb,aH,mH,ak] at h2;subst h2;have hp:¬((p&&xs.length==0)=ai):=by
     simp only[av,cU];omega
    have fl:=fG (bD T) xs;have hg:H.get (nm id)=af ⟨ty,.fz (xs.flatMap (bS T))⟩:=by rw[hH,bM,hb];simp only[aH,kE,aA hp]
    have hrl:(repl (s6 T) (xs.length-j.toNat)).length=(xs.length-j.toNat)*T.size:=by
     have h9:=(HM (H:=λ_=>ah) (H':=λ_=>ah) (λn b hb=>by cases hb) T (xs.length-j.toNat)).length;rw[bY,bY,fG (bD T),eR] at h9;exact h9.symm
    have hoff:j.toNat*T.size+(xs.length-j.toNat)*T.size=xs.length*T.size:=by rw[<- NA];congr 1;omega
    have hput:(BC.fz (xs.flatMap (bS T))).put (j.toNat*T.size) ((repl (s6 T) (xs.length-j.toNat)).map .f)=af (.fz (splice (xs.flatMap (bS T)) (j.toNat*T.size) (repl (s6 T) (xs.length-j.toNat)))):=by
     unfold BC.put;rw[aE]
     .simp only[KL]
     .simp only[av];refine ⟨⟨rfl,bE ?_⟩,GV _ λq hq=>?_⟩
      .simp only[BC.len,bY];omega
      .obtain⟨v,hv,rfl⟩:=Ql _ q hq;exact gu.1 hco v hv
    have hblt:gk 0 (xs.length-j.toNat)=ai:=bE (by omega);have Y:eU (.clr T.size (s6 T) x) (JA e h) H (nm nx)=af ⟨.tup [],[nm id],[nm id],[(nm id,⟨ty,.fz (splice (xs.flatMap (bS T)) (j.toNat*T.size) (repl (s6 T) (xs.length-j.toNat)))⟩)],[]⟩:=by
     simp only[eU,h1,hg,hblt,bG,hput]
    have hlen:(dA j.toNat xs++aG (al xs-j.toNat) T.zero).length=xs.length:=by
     rw[bm,bA,eR];omega
    have hrow:mH (.rows ty p T (dA j.toNat xs++aG (al xs-j.toNat) T.zero))=mH (.rows ty p T xs):=by simp only[mH,hlen]
    refine ⟨_,_,_,_,_,hk,jp.wrt (m:=0) (v:=.tup []) (rd:=kR id) hinv hc hH Y hb (dV.zero h) (by simp) hrow (λ_ _ he=>by cases he) (λH1 H2 d g b' I=>?_) (λH1 H2 y d g Z=>?_) (λn hn=>?_)⟩
    .have U:¬((p&&(dA j.toNat xs++aG (al xs-j.toNat) T.zero).length==0)=ai):=by rw[hlen];exact hp
     simp only[kE,aA U,ak] at I;subst I;refine j9.cells rfl rfl ?_ λq hq=>?_
     .simp only[BC.toMx];unfold splice;rw[hrl,hoff,<-fl,List.drop_length,hY,List.flatMap_append,As (bD T),cP,cP];exact (il.refl d _).append (HM d T _)
     .simp only[BC.toMx] at hq;obtain⟨q',M,rfl⟩:=dt.1 hq;exact rH T _ q' M
    .simp only[ci,cL,ak] at Z;subst Z;exact lM.refl d _
    .simp only[aL] at hn;subst hn;rw[em];exact bX.2 rfl
   .cases hk
  .cases hk
 .cases hk
end ops
end
end Go.Proofs.YtgijlolllojpaaaGreatDoor.AI
