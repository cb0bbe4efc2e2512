/-
  Texts of the proof, part 4 of 6: what is used to prove the statement. No condition.
-/
import Derived.Test.YtgijlolllojpaaaGreatDoorShbClocksQ2
import Derived.WalkSpells
import Derived.Laws.CopyRow
import Derived.Deep.AppendSrc
import Derived.Laws.AppendOwn
import Derived.Defers
namespace Go.Proofs.YtgijlolllojpaaaGreatDoor.AI
open Go.RowKit
set_option maxRecDepth 100000
set_option maxHeartbeats 4000000
set_option linter.unusedVariables false
set_option linter.unusedSimpArgs false
open Act renaming put→Om
open _root_.Array renaming length_toList→iz,range→yZ
open _root_.Bool renaming true→ai,false→aj
open Builtin renaming zeroCells→lG,firstCells→LH
open Call renaming operands→eY
open Instr renaming findNow→jF,sliceBounds→jV,sliceBound→kF,sliceAt→pQ,slice→ve
open _root_.Int renaming ofNat→aO,toNat→aT
open IntKind renaming wrap→pa
open _root_.List renaming length→al,replicate→aG,range→bt,length_cons→b_,take→dF,cons_append→gr,length_nil→j6,toArray→kM,nil_append→l9,take_succ_cons→wy,foldl_cons→xD,take_zero→LG
open _root_.Nat renaming beq→aC,testBit→aN,add_zero→dx,ble→eO,blt→gm,min→iX
open Oper renaming wp→H7
open _root_.Option renaming some→af,none→ah,bind_some→aH,map_some→co,getD_some→vu
open Region renaming wanted→iO
open Result renaming andThen_ok→cQ
open Sem renaming run_bind→eM,run→nL,run_pure→o8
open Value.bool renaming injEq→CE
open World renaming shape?→rZ,cell?→Oh
noncomputable section
theorem fH {φ:PM} {O:Nat->Prop} {w:World} {v u:Value} (h:cW φ O w (.f (.raw v)) u):u=v:=by
 cases h with
 |f h=>cases h;rfl
theorem uo (h:HF) (nw:HF):eZ h [] nw=h:=by funext t;simp[eZ]
theorem Hg:∀{l:ξ},K_ l=ai->∀v∈l,v.oneCell'=ai
 |[],_,v,hv=>by cases hv
 |x::r,h,v,hv=>by
  simp only[K_,av]at h;rcases bm.1 hv with rfl|hv
  .exact h.1
  .exact Hg h.2 v hv
theorem Wl {φ:PM} {O:Nat->Prop} {w:World} (v:Value):cW φ O w (FF v) v:=by
 unfold FF;split
 .rename_i vs;split
  .rename_i h1;refine cW.agg (vs:=vs.toList) (by simp) (λx I=>?_) (λj x v I hv=>?_)
   .obtain⟨u,hu,rfl⟩:=c_.1 I;exact Hg h1 u hu
   .rw[bc,hv]at I;simp only[co,ak]at I;subst I;exact .f (.raw _)
  .exact .f (.raw _)
 .exact .f (.raw _)
theorem t8 {φ:PM} {E:Nat->Prop} {h':HF} {w:World} {e:Am} {a:Act} {xs:Array Operand} (hrep:rq φ E h' w) (h:∀t,.tmp t∈xs->∀y,e.get t=af y->cW φ (tot E φ h') w y (a.tmps.getD t undef)) {x:Operand} {y:AV} (J:x∈xs) (I:mO e x=af y):cW φ (tot E φ h') w y (a.eval x):=by
 cases x with
 |tmp t=>exact h t J y I
 |const v=>simp only[mO,ak]at I;subst I;exact Wl v
 |func g=>
  simp only[mO,ak]at I;subst I;exact cW.clo (vs:=[]) (g:=g) (cells:=[]) rfl (by intro j x v J;simp at J)
 |global g=>
  simp only[mO]at I;cases hg:G g with
  |none=>rw[hg]at I;cases I
  |some cells=>rw[hg]at I;simp only[ak]at I;subst I;exact .f (hrep.gl g cells hg)
abbrev WR (φ:PM) (E:Nat->Prop) (h':HF) (w:World) (a:Act) (e:Am) (o:Oper):Prop:=∀x y,x∈o.op.operands->mO e x=af y->cW φ (tot E φ h') w y (a.eval x)
theorem gQ.reads {P:Program} {o:Oper} {e:Am} {h:HF} {val:AV} {rd:ι} {nw:HF}
 (hv:∀(φ:PM) (E:Nat->Prop) (h':HF) (w:World) (a:Act),(∀i∈rd,h' i=h i)->WR φ E h' w a e o->rq φ E h' w->
   ∃v,(execOp a.eval o).run P w= .ok (.value v) w/\cW φ (tot E φ h') w val v):gQ P o e.get h ⟨val,rd,[],nw,[]⟩:=by
 intro φ E h' w a h1 h2 U I Y;obtain⟨v,r,rel⟩:=hv φ E h' w a h1 (λx y M J=>t8 I U M J) I;unfold H7;rw[r];refine ⟨v,φ,rfl,?_,λ_ _ h=>.inl h,?_,?_⟩<;>rw[uo]
 .exact jg.refl _ _ _
 .exact I
 .exact rel
theorem dD {x:AV} {R:CC} (h:rv x=af R):R=⟨x,[],[],[],[]⟩:=by simp only[rv,ak]at h;exact h.symm
section pure
variable {P:Program} {o:Oper} {e:Am} {h:ov} {nx:Nat} {R:CC}
theorem aob {x:Operand} (I:o.op= .move x\/o.op= .assign x) (J:eU (.mv x) e h nx=af R):gQ P o e.get h.get R.eff:=by
 simp only[eU]at J;split at J
 .rename_i v hv;rw[dD J];exact gQ.reads λφ E h' w a _ hop _=>⟨a.eval x,by unfold execOp;rcases I with I|I<;>rw[I]<;>rfl,hop x v (by rcases I with I|I<;>rw[I]<;>simp[Op.operands]) hv⟩
 .cases J
theorem akq {c x y:Operand} (J:o.op= .pick c x y) (I:eU (.pick c x y) e h nx=af R):gQ P o e.get h.get R.eff:=by
 simp only[eU]at I;split at I
 .rename_i t hc;split at I
  .rename_i v hv;rw[dD I];refine gQ.reads λφ E h' w a _ hop _=>?_
   have hcv:=fH (hop c _ (by rw[J];simp[Op.operands]) hc);refine ⟨a.eval (if t then x else y),?_,hop _ v (by rw[J];cases t<;>simp[Op.operands]) hv⟩;unfold execOp;rw[J];simp only[hcv];cases t<;>rfl
  .cases I
 .cases I
theorem akr {x:Operand} (I:o.op= .nilCheck x) (J:eU (.nilc x) e h nx=af R):gQ P o e.get h.get R.eff:=by
 simp only[eU]at J;split at J
 .rename_i id off U;rw[dD J];refine gQ.reads λφ E h' w a _ hop _=>?_
  have h1:=hop x _ (by rw[I];simp[Op.operands]) U;generalize M:a.eval x=z at h1;cases h1 with
  |ptr hφ=>exact⟨_,by unfold execOp;rw[I];simp only[M];rfl,.ptr hφ⟩
 .rename_i cells off U;rw[dD J];refine gQ.reads λφ E h' w a _ hop _=>?_
  have h1:=hop x _ (by rw[I];simp[Op.operands]) U;generalize M:a.eval x=z at h1;cases h1 with
  |f h1=>
   have h2:=h1;cases h2 with
   |ptr _ _ b base us hO hb hcl hu hr=>exact⟨_,by unfold execOp;rw[I];simp only[M];rfl,.f h1⟩
 .rename_i g cap U;rw[dD J];refine gQ.reads λφ E h' w a _ hop _=>?_
  have h1:=hop x _ (by rw[I];simp[Op.operands]) U;generalize M:a.eval x=z at h1;cases h1 with
  |clo hl hr=>exact⟨_,by unfold execOp;rw[I];simp only[M];rfl,.clo hl hr⟩
 .cases J
theorem ao9 {x:Operand} {t:TypeId} (J:o.op= .unOp .not t x) (I:eU (.not x) e h nx=af R):gQ P o e.get h.get R.eff:=by
 simp only[eU]at I;split at I
 .rename_i b M;rw[dD I];refine gQ.reads λφ E h' w a _ hop _=>?_
  have h1:=fH (hop x _ (by rw[J];simp[Op.operands]) M);exact⟨_,by unfold execOp;rw[J];simp only[h1];rfl,.f (.raw _)⟩
 .cases I
theorem zg (k:IntKind) (n:Int):bk k n=k.wrap n:=by
 rw[H9];unfold MZ;split
 .split
  .rename_i h;simp only[c6,av,be]at h;have:pa .i64 n=if n%18446744073709551616≥9223372036854775808 then n%18446744073709551616-18446744073709551616 else n%18446744073709551616:=by
    simp[pa,IntKind.bits,IntKind.signed]
   rw[this];split<;>omega
  .rfl
 .split
  .rename_i h;simp only[c6,av,be]at h;have:pa .u8 n=n%256:=by
    simp[pa,IntKind.bits,IntKind.signed]
   rw[this];omega
  .rfl
 .rfl
theorem akz {x:Operand} {s d:TypeId} {k k':IntKind} (J:o.op= .convert s d x) (hs:P.underlying s=af (.int k')) (hd:P.underlying d=af (.int k)) (I:eU (.conv k x) e h nx=af R):gQ P o e.get h.get R.eff:=by
 simp only[eU]at I;split at I
 .rename_i U n M;rw[dD I];refine gQ.reads λφ E h' w a _ hop _=>?_
  have h1:=fH (hop x _ (by rw[J];simp[Op.operands]) M);refine ⟨_,?_,.f (.raw _)⟩;unfold execOp;rw[J];simp[h1,convert,run_underlying hs,run_underlying hd,Conv.intToInt,zg]
 .cases I
theorem Qi (a:ByteArray):a.toList=a.data.toList:=by
 first|exact ByteArray.toList_eq a|simp[ByteArray.toList]|rfl
theorem ab9 {op:BinOp} {t:TypeId} {u v r:Value} (hr:vn op u v=af r) (x y:Operand) (w:World):
 (do eqGuard op t x y u v;binOp op t u v:Sem Value).run P w= .ok r w:=by
 unfold vn at hr;split at hr
 .rename_i k a k' b;split at hr
  .rename_i hk;have I:k=k':=by simpa using hk
   subst I;split at hr<;>first|(simp only[ak]at hr;subst hr;simp[eqGuard,binOp,Op.intCmp,Op.intArith,zg,c6,fV];done)|(split at hr<;>first|(cases hr;done)|(rename_i hb;simp only[ak]at hr;subst hr;simp[eqGuard,binOp,Op.intDiv,zg,show b≠0 from by simpa using hb];done))|(cases hr;done)
  .cases hr
 .rename_i a b;split at hr<;>first|(simp only[ak]at hr;subst hr;simp[eqGuard,binOp,Op.stringOp,sr,Qi];done)|(cases hr;done)
 .cases hr
theorem aie {s:Sem Value} {r:Value} {w w':World} (hs:s.run P w= .ok r w'):(do let x<-s;pure (Next.value x):Sem Next).run P w= .ok (.value r) w':=by
 simp[hs]
theorem aj5 {op:BinOp} {x y:Operand} {t t':TypeId} (J:o.op= .binOp op t x y t') (I:eU (.bin op x y) e h nx=af R):gQ P o e.get h.get R.eff:=by
 simp only[eU]at I;split at I
 .rename_i u v U M;split at I
  .rename_i r hr;rw[dD I];refine gQ.reads λφ E h' w a _ hop _=>?_
   have h1:=fH (hop x _ (by rw[J];simp[Op.operands]) U);have h2:=fH (hop y _ (by rw[J];simp[Op.operands]) M);refine ⟨r,?_,.f (.raw _)⟩;unfold execOp;rw[J];simp only[h1,h2];exact aie (ab9 (P:=P) (t:=t) hr x y w)
  .cases I
 .cases I
theorem VN {t:TypeId} (hu:P.underlying t=af .bool) (u v:Bool) (w:World):(Op.equal t (.bool u) (.bool v)).run P w= .ok (u==v) w:=by
 have key:∀d,(Op.equalIn (d+1) t (.bool u) (.bool v)).run P w= .ok (u==v) w:=λd=>by simp[Op.equalIn,run_underlying hu]
 exact key 9999
theorem Si {t el:TypeId} (hu:P.underlying t=af (.slice el)) (A:Option Addr) (n c:Nat) (w:World):(Op.equal t (.slice A n c) (.slice ah 0 0)).run P w= .ok A.isNone w:=by
 have key:∀d,(Op.equalIn (d+1) t (.slice A n c) (.slice ah 0 0)).run P w= .ok A.isNone w:=λd=>by cases A<;>simp[Op.equalIn,run_underlying hu]
 exact key 9999
theorem aj4 {neg:Bool} {op:BinOp} {x y:Operand} {t t':TypeId} (J:o.op= .binOp op t x y t') (hop:op=if neg then .neq else .eql) (hu:P.underlying t=af .bool) (I:eU (.eqb neg x y) e h nx=af R):gQ P o e.get h.get R.eff:=by
 simp only[eU]at I;split at I
 .rename_i u v U M;rw[dD I];refine gQ.reads λφ E h' w a _ hp _=>?_
  have h1:=fH (hp x _ (by rw[J];simp[Op.operands]) U);have h2:=fH (hp y _ (by rw[J];simp[Op.operands]) M);refine ⟨_,?_,.f (.raw _)⟩;unfold execOp;rw[J];simp only[h1,h2];subst hop;cases neg<;>simp[eqGuard,binOp,VN hu]
 .cases I
theorem Yp {neg:Bool} {op:BinOp} {x y:Operand} {t t' el:TypeId} (U:o.op= .binOp op t x y t') (hop:op=if neg then .neq else .eql) (Y:y= .const (.slice ah 0 0)) (hu:P.underlying t=af (.slice el)) (J:eU (.isnil neg x) e h nx=af R):gQ P o e.get h.get R.eff:=by
 have key:∀(v:Value) (w:World) (ρ:Operand->Value) (A:Option Addr) (n c:Nat),ρ x= .slice A n c->ρ y= .slice ah 0 0->(execOp ρ o).run P w= .ok (.value (.bool (A.isNone !=neg))) w:=by
  intro v w ρ A n c h1 h2;unfold execOp;rw[U];simp only[h1,h2];subst hop;cases neg<;>simp[eqGuard,binOp,Si hu]
 have hyv:∀a:Act,a.eval y= .slice ah 0 0:=λa=>by rw[Y];rfl
 simp only[eU]at J;split at J
 .rename_i id sz n I;rw[dD J];refine gQ.reads λφ E h' w a _ hp _=>?_
  have h1:=hp x _ (by rw[U];simp[Op.operands]) I;generalize M:a.eval x=z at h1;cases h1 with
  |row hφ hn hc hs=>exact⟨_,key (.bool ai) w a.eval _ _ _ M (hyv a),by simpa[raw] using cW.f (.raw _)⟩
 .rename_i id off n I;rw[dD J];refine gQ.reads λφ E h' w a _ hp _=>?_
  have h1:=hp x _ (by rw[U];simp[Op.operands]) I;generalize M:a.eval x=z at h1;cases h1 with
  |sl hφ hn hc=>exact⟨_,key (.bool ai) w a.eval _ _ _ M (hyv a),by simpa[raw] using cW.f (.raw _)⟩
 .rename_i cells n I;rw[dD J];refine gQ.reads λφ E h' w a _ hp _=>?_
  have h1:=hp x _ (by rw[U];simp[Op.operands]) I;generalize M:a.eval x=z at h1;cases h1 with
  |f h1=>
   cases h1 with
   |sl=>exact⟨_,key (.bool ai) w a.eval _ _ _ M (hyv a),by simpa[raw] using cW.f (.raw _)⟩
 .rename_i cells I;rw[dD J];refine gQ.reads λφ E h' w a _ hp _=>?_
  have h1:=hp x _ (by rw[U];simp[Op.operands]) I;generalize M:a.eval x=z at h1;cases h1 with
  |f h1=>
   cases h1 with
   |nil=>exact⟨_,key (.bool ai) w a.eval _ _ _ M (hyv a),.anyb⟩
   |sl=>exact⟨_,key (.bool ai) w a.eval _ _ _ M (hyv a),.anyb⟩
 .rename_i I;rw[dD J];refine gQ.reads λφ E h' w a _ hp _=>?_
  have h1:=hp x _ (by rw[U];simp[Op.operands]) I;generalize M:a.eval x=z at h1;cases h1 with
  |emp=>exact⟨_,key (.bool ai) w a.eval _ _ _ M (hyv a),.anyb⟩
 .rename_i v I;split at J
  .rename_i hv;rw[dD J];refine gQ.reads λφ E h' w a _ hp _=>?_
   have h1:=fH (hp x _ (by rw[U];simp[Op.operands]) I);unfold Ay at hv;split at hv
   .exact⟨_,key (.bool ai) w a.eval _ _ _ h1 (hyv a),by simpa[raw] using cW.f (.raw _)⟩
   .cases hv
  .cases J
 .cases J
theorem gB {t:TypeId} {sz:Nat} (hs:fB P t=af sz) (w:World):(sizeOf t).run P w= .ok sz w:=by
 unfold fB at hs;cases hi:P.info? t with
 |none=>rw[hi]at hs;cases hs
 |some i=>rw[hi]at hs;simp at hs;simp[sizeOf,typeInfo,program,hi,nL,hs]
theorem Q9 {t:TypeId} {ag:Bool} (hs:Ei P t=af ag) (w:World):(isAgg t).run P w= .ok ag w:=by
 unfold Ei at hs;cases hi:P.underlying t with
 |none=>rw[hi]at hs;cases hs
 |some d=>
  rw[hi]at hs;simp only[co,ak]at hs;rw[<- hs];simp only[isAgg,eM,run_underlying hi,cQ];cases d<;>rfl
theorem lm (b off i:Nat):(⟨b,off,ah⟩:Addr).add i=⟨b,off+i,ah⟩:=by
 unfold Addr.add;split<;>simp_all
theorem Q7 {s:TypeId} {fs:Array Field} {k:Nat} {f:Field} {sz:Nat} (hu:P.underlying s=af (.struct fs)) (hf:fs[k]? =af f) (hs:fB P f.type=af sz) (h0:sz≠0) (w:World) (b i:Nat):
 (Instr.fieldAt s (.pointer (af ⟨b,i,ah⟩)) k).run P w= .ok (.pointer (af ⟨b,i+f.offset,ah⟩)) w:=by
 have h1:=gB hs w;simp[Instr.fieldAt,run_underlying hu,hf,Instr.sureAddr,fieldPlace,h1,h0,lm]
theorem aoj {s:TypeId} {fs:Array Field} {k:Nat} {f:Field} {sz:Nat} {x:Operand} (U:o.op= .fieldAddr s x k) (hu:P.underlying s=af (.struct fs)) (hf:fs[k]? =af f) (hs:fB P f.type=af sz) (h0:sz≠0) (I:eU (.fad f.offset x) e h nx=af R):gQ P o e.get h.get R.eff:=by
 have key:∀(w:World) (ρ:Operand->Value) (b i:Nat),ρ x= .pointer (af ⟨b,i,ah⟩)->(execOp ρ o).run P w= .ok (.value (.pointer (af ⟨b,i+f.offset,ah⟩))) w:=by
  intro w ρ b i h1;unfold execOp;rw[U];simp only[h1];exact aie (Q7 hu hf hs h0 w b i)
 simp only[eU]at I;split at I
 .rename_i id off M;rw[dD I];refine gQ.reads λφ E h' w a _ hp _=>?_
  have h1:=hp x _ (by rw[U];simp[Op.operands]) M;generalize J:a.eval x=z at h1;cases h1 with
  |ptr hφ=>exact⟨_,key w a.eval _ _ J,.ptr hφ⟩
 .rename_i cells off M;rw[dD I];refine gQ.reads λφ E h' w a _ hp _=>?_
  have h1:=hp x _ (by rw[U];simp[Op.operands]) M;generalize J:a.eval x=z at h1;cases h1 with
  |f h1=>
   cases h1 with
   |ptr _ _ b base us hO hb hcl hu hr=>
    refine ⟨_,key w a.eval _ _ J,.f ?_⟩;rw[pO];exact .ptr cells _ b base us hO hb hcl hu hr
 .cases I
theorem J3 {t el:TypeId} {x y:Operand} {sz b off n c:Nat} {k:IntKind} {i:Int} {ρ:Operand->Value} {w:World} (M:o.op= .indexAddr t x y) (hu:P.underlying t=af (.slice el)) (hs:fB P el=af sz) (J:ρ x= .slice (af ⟨b,off,ah⟩) n c) (I:ρ y= .int k i) (h0:0<=i) (h1:i<n):
 (execOp ρ o).run P w= .ok (.value (.pointer (af ⟨b,off+i.toNat*sz,ah⟩))) w:=by
 have h2:=gB hs w;unfold execOp;rw[M];simp[J,I,Instr.indexAt,asIntOf,run_underlying hu,h2,h0,h1,lm]
theorem aoh {t el:TypeId} {x y:Operand} {sz:Nat} (J:o.op= .indexAddr t x y) (hu:P.underlying t=af (.slice el)) (hs:fB P el=af sz) (I:eU (.iad sz x y) e h nx=af R):gQ P o e.get h.get R.eff:=by
 simp only[eU]at I;split at I
 .rename_i v k j Y hy;have hyv:∀{φ:PM} {E:Nat->Prop} {h':HF} {w:World} {a:Act},WR φ E h' w a e o->a.eval y= .int k j:=λhp=>fH (hp y _ (by rw[J];simp[Op.operands]) hy)
  split at I
  .split at I
   .rename_i id sz' n hc;simp only[c6,fV,av,be,c5]at hc;obtain⟨⟨rfl,h0⟩,h1⟩:=hc;rw[dD I];refine gQ.reads λφ E h' w a _ hp _=>?_
    have hr:=hp x _ (by rw[J];simp[Op.operands]) Y;generalize M:a.eval x=z at hr;cases hr with
    |row hφ hn U hsh=>
     refine ⟨_,J3 J hu hs M (hyv hp) h0 h1,?_⟩;rw[bQ];exact .ptr hφ
   .cases I
  .split at I
   .rename_i id off n hc;simp only[c6,fV,av,be]at hc;obtain⟨h0,h1⟩:=hc;rw[dD I];refine gQ.reads λφ E h' w a _ hp _=>?_
    have hr:=hp x _ (by rw[J];simp[Op.operands]) Y;generalize M:a.eval x=z at hr;cases hr with
    |sl hφ hn U=>exact⟨_,J3 J hu hs M (hyv hp) h0 h1,.ptr hφ⟩
   .cases I
  .split at I
   .rename_i cells n hc;simp only[c6,fV,av,be]at hc;obtain⟨h0,h1⟩:=hc;rw[dD I];refine gQ.reads λφ E h' w a _ hp _=>?_
    have hr:=hp x _ (by rw[J];simp[Op.operands]) Y;generalize M:a.eval x=z at hr;cases hr with
    |f hr=>
     cases hr with
     |nil=>omega
     |sl _ _ c b base us hn U hO hb hcl Z hr'=>exact⟨_,J3 J hu hs M (hyv hp) h0 h1,.f (.ptr cells _ b base us hO hb hcl Z hr')⟩
   .cases I
  .cases I
 .cases I
theorem akx {t el:TypeId} {x y:Operand} {n sz:Nat} (J:o.op= .indexAddr t x y) (hu:P.underlying t=af (.array n el)) (hs:fB P el=af sz) (I:eU (.iada n sz x y) e h nx=af R):gQ P o e.get h.get R.eff:=by
 have key:∀(w:World) (ρ:Operand->Value) (b off:Nat) (k:IntKind) (i:Int),ρ x= .pointer (af ⟨b,off,ah⟩)->ρ y= .int k i->0<=i->i<n->(execOp ρ o).run P w= .ok (.value (.pointer (af ⟨b,off+i.toNat*sz,ah⟩))) w:=by
  intro w ρ b off k i h1 h2 h3 h4;have h5:=gB hs w;unfold execOp;rw[J];simp[h1,h2,Instr.indexAt,asIntOf,run_underlying hu,h5,h3,h4,lm,Instr.sureAddr]
 simp only[eU]at I;split at I
 .rename_i v k j hx Z;split at I
  .rename_i hc;simp only[c6,fV,av,be]at hc;obtain⟨h0,h1⟩:=hc;split at I
   .rw[dD I];refine gQ.reads λφ E h' w a _ hp _=>?_
    have hr:=hp x _ (by rw[J];simp[Op.operands]) hx;have hyv:=fH (hp y _ (by rw[J];simp[Op.operands]) Z);generalize M:a.eval x=z at hr;cases hr with
    |ptr hφ=>exact⟨_,key w a.eval _ _ k j M hyv h0 h1,.ptr hφ⟩
   .rw[dD I];refine gQ.reads λφ E h' w a _ hp _=>?_
    have hr:=hp x _ (by rw[J];simp[Op.operands]) hx;have hyv:=fH (hp y _ (by rw[J];simp[Op.operands]) Z);generalize M:a.eval x=z at hr;cases hr with
    |f hr=>
     cases hr with
     |ptr _ _ b base us hO hb hcl U Y=>
      refine ⟨_,key w a.eval _ _ k j M hyv h0 h1,.f ?_⟩;rw[pO];exact .ptr _ _ b base us hO hb hcl U Y
   .cases I
  .cases I
 .cases I
theorem aok {x:Operand} {i:Nat} (J:o.op= .extract x i) (I:eU (.ext x i) e h nx=af R):gQ P o e.get h.get R.eff:=by
 simp only[eU]at I;split at I
 .rename_i l U;split at I
  .rename_i v hv;rw[dD I];refine gQ.reads λφ E h' w a _ hp _=>?_
   have hr:=hp x _ (by rw[J];simp[Op.operands]) U;generalize M:a.eval x=z at hr;cases hr with
   |@tup _ vs hl hrr=>
    have hlt:i<vs.length:=by
     rw[hl];exact (bl.1 hv).1
    refine ⟨vs[i],?_,hrr i v _ hv (aB hlt)⟩;unfold execOp;rw[J];simp[M,Instr.extract,hlt]
  .cases I
 .cases I
theorem aof {x y:Operand} {M:Array TypeId} (J:o.op= .call {callee:=.builtin .max,args:=#[x,y],argTypes:=M}) (I:eU (.max x y) e h nx=af R):gQ P o e.get h.get R.eff:=by
 simp only[eU]at I;split at I
 .rename_i k a b k' Y U;rw[dD I];refine gQ.reads λφ E h' w a _ hp _=>?_
  have h1:=fH (hp x _ (by rw[J];simp[Op.operands,eY]) Y);have h2:=fH (hp y _ (by rw[J];simp[Op.operands,eY]) U);refine ⟨_,?_,.f (.raw _)⟩;unfold execOp;rw[J];simp[resolve,invoke,builtin,Builtin.max_,Builtin.max2,h1,h2,fV]
 .cases I
theorem aoe {x y:Operand} {M:Array TypeId} (J:o.op= .call {callee:=.builtin .min,args:=#[x,y],argTypes:=M}) (I:eU (.min x y) e h nx=af R):gQ P o e.get h.get R.eff:=by
 simp only[eU]at I;split at I
 .rename_i k a b k' Y U;rw[dD I];refine gQ.reads λφ E h' w a _ hp _=>?_
  have h1:=fH (hp x _ (by rw[J];simp[Op.operands,eY]) Y);have h2:=fH (hp y _ (by rw[J];simp[Op.operands,eY]) U);refine ⟨_,?_,.f (.raw _)⟩;unfold execOp;rw[J];simp[resolve,invoke,builtin,Builtin.min_,Builtin.min2,h1,h2,fV]
 .cases I
theorem aoa {x:Operand} {t:TypeId} {k:IntKind} (J:o.op= .unOp .neg t x) (I:eU (.bin .sub (.const (.int k 0)) x) e h nx=af R):gQ P o e.get h.get R.eff:=by
 simp only[eU,mO,FF]at I;split at I
 .rename_i u v hu M;cases hu;split at I
  .rename_i r hb;rw[dD I];refine gQ.reads λφ E h' w a _ hop _=>?_
   have h1:=fH (hop x _ (by rw[J];simp[Op.operands]) M);refine ⟨r,?_,.f (.raw _)⟩;unfold execOp;rw[J];cases v<;>simp only[vn]at hb<;>try (cases hb;done)
   split at hb
   .rename_i hk;have hk:=eq_of_beq hk;subst hk;simp only[ak]at hb;subst hb;simp[h1,Op.unary,Op.intArith,zg]
   .cases hb
  .cases I
 .cases I
theorem akp {x i:Operand} {t:TypeId} (J:o.op= .index t x i) (hu:P.underlying t=af .string) (I:eU (.sidx x i) e h nx=af R):gQ P o e.get h.get R.eff:=by
 simp only[eU]at I;split at I
 .rename_i s k j M hi;split at I
  .rename_i h0;simp only[c6,be]at h0;split at I
   .rename_i b hb;rw[dD I];refine gQ.reads λφ E h' w a _ hop _=>?_
    have h1:=fH (hop x _ (by rw[J];simp[Op.operands]) M);have h2:=fH (hop i _ (by rw[J];simp[Op.operands]) hi);refine ⟨_,?_,.f (.raw _)⟩;have hs:s[j.toNat]? =af b:=by
     rw[cP]at hb;obtain⟨hl,he⟩:=cJ.1 hb;exact getElem?_pos s j.toNat hl▸gM af he
    unfold execOp;rw[J];simp[Instr.index,run_underlying hu,h1,h2,asIntOf,h0,hs]
   .cases I
  .cases I
 .cases I
theorem aod {f:FuncId} {caps:Array Operand} (Y:o.op= .makeFunc (.func f) #[] caps) (M:eU (.mkf f caps.toList) e h nx=af R):gQ P o e.get h.get R.eff:=by
 simp only[eU]at M;split at M
 .rename_i l hl;rw[dD M];refine gQ.reads λφ E h' w a _ hp _=>?_
  refine ⟨_,by unfold execOp;rw[Y];rfl,?_⟩;have key:∀(xs:List Operand) (I:List AV),(∀x∈xs,x∈o.op.operands)->XY e xs=af I->I.length=xs.length/\∀(j:Nat) x v,I[j]? =af x->(xs.map a.eval)[j]? =af v->cW φ (tot E φ h') w x v:=by
   intro xs;induction xs with
   |nil=>intro I _ h;simp only[XY,ak]at h;subst h;exact⟨rfl,λj x v J=>by simp at J⟩
   |cons x xs Z=>
    intro I hm h;simp only[XY]at h;split at h
    .rename_i y hy;split at h
     .rename_i ys' hys;simp only[ak]at h;subst h;obtain⟨h1,h2⟩:=Z ys' (λx J=>hm x (cM _ J)) hys;refine ⟨by simp[h1],λj z v U hv=>?_⟩;cases j with
      |zero=>simp at U hv;subst U;subst hv;exact hp x _ (hm x (dh ..)) hy
      |succ j=>exact h2 j z v (by simpa using U) (by simpa using hv)
     .cases h
    .cases h
  obtain⟨h1,h2⟩:=key caps.toList l (λx J=>by rw[Y];simpa[Op.operands] using J) hl;have h3:(caps.map a.eval)=(caps.toList.map a.eval).toArray:=by
   apply LI;simp
  have h4:(#[]:Array Operand).map a.eval=#[]:=by simp
  rw[h4,h3];exact .clo (by simp[h1]) h2
 .cases M
end pure
section
variable {P:Program} {o:Oper} {e:Am} {h:ov} {nx:Nat} {R:CC}
theorem Xc {α:Type} {l cs:List α} {off sz:Nat} (h:off+sz<=l.length) (he:(l.drop off).take sz=cs):cs.length=sz/\∀(j:Nat) x,cs[j]? =af x->l[off+j]? =af x:=by
 subst he;constructor
 .simp;omega
 .intro j x I;rw[cZ]at I;split at I
  .rw[gY]at I;exact I
  .cases I
theorem xZ (f:Nat->Value) (n j:Nat) (v:Value) (h:((bt n).map f)[j]? =af v):v=f j/\j<n:=by
 rw[bc]at h;rcases cf j n with hj|hj
 .rw[Hn hj]at h;simp at h;exact⟨h.symm,hj⟩
 .rw[bR (by simpa using hj)]at h;cases h
def yr (φ:PM) (O:Nat->Prop) (w:World) (c:BC) (f:Nat->Option Value):Prop:=∀j x,c.get j=af x->x.isCell=ai/\∃v,f j=af v/\cW φ O w x v
theorem Xb {φ:PM} {O:Nat->Prop} {w:World} {c:BC} {off sz:Nat} {ag:Bool} {val:AV} (hs:c.sub? off sz ag=af val) {f:Nat->Option Value} (hc:yr φ O w c f):
 ∃cs:ξ,cs.length=sz/\(∀(j:Nat) v,cs[j]? =af v->f (off+j)=af v)/\(ag=aj->sz=1)/\cW φ O w val (if ag then .agg cs.toArray else cs.getD 0 undef):=by
 cases ag with
 |false=>
  simp only[BC.sub?]at hs;split at hs
  .obtain⟨h0,v,h1,h2⟩:=hc off val hs;exact⟨[v],rfl,λj u hu=>by cases j with|zero=>simp at hu;subst hu;exact h1|succ j=>simp at hu,λ_=>rfl,by simpa using h2⟩
  .cases hs
 |true=>
  have fin:∀(g:Nat->Option AV),(∀j,j<sz->∃x,g j=af x/\c.get (off+j)=af x)->
   ∃cs:ξ,cs.length=sz/\(∀(j:Nat) v,cs[j]? =af v->f (off+j)=af v)/\∀(j:Nat) x v,g j=af x->cs[j]? =af v->cW φ O w x v:=by
   intro g hg;refine ⟨(bt sz).map λj=>(f (off+j)).getD undef,by simp,λj v hv=>?_,λj x v I hv=>?_⟩
   .obtain⟨rfl,hj⟩:=xZ _ _ _ _ hv;obtain⟨x,_,h2⟩:=hg j hj;obtain⟨_,v,J,_⟩:=hc _ _ h2;rw[J];rfl
   .obtain⟨rfl,hj⟩:=xZ _ _ _ _ hv;obtain⟨U,h1,h2⟩:=hg j hj;rw[I]at h1;cases h1;obtain⟨_,v,J,M⟩:=hc _ _ h2;rw[J];exact M
  simp only[BC.sub?]at hs;split at hs
  .rename_i l;split at hs
   .rename_i hle;simp only[ak]at hs;subst hs;obtain⟨hl,hg⟩:=Xc (a8 hle) (rfl:(l.drop off).take sz=_);obtain⟨cs,h1,h2,J⟩:=fin (λj=>(((l.drop off).take sz)[j]?).map AV.f) (λj hj=>by
     have hlt:j<((l.drop off).take sz).length:=by rw[hl];exact hj
     refine ⟨.f ((l.drop off).take sz)[j],by simp only[aB hlt,co],?_⟩;simp only[BC.get,hg j _ (aB hlt),co])
    refine ⟨cs,h1,h2,(λh=>by cases h),.f (.agg _ _ (by rw[h1,hl]) ?_ ?_)⟩
    .intro x I;obtain⟨j,hj⟩:=fm I;exact (hc (off+j) (.f x) (by simp only[BC.get,hg j x hj,co])).1
    .intro j x v I hv;have:=J j (.f x) v (by simp only[I,co]) hv;cases this with
     |f h=>exact h
   .cases hs
  .rename_i l;split at hs
   .rename_i hle;simp only[ak]at hs;subst hs;obtain⟨hl,hg⟩:=Xc (a8 hle) (rfl:(l.drop off).take sz=_);obtain⟨cs,h1,h2,J⟩:=fin (λj=>(((l.drop off).take sz)[j]?)) (λj hj=>by
     have hlt:j<((l.drop off).take sz).length:=by rw[hl];exact hj
     exact⟨_,aB hlt,hg j _ (aB hlt)⟩)
    refine ⟨cs,h1,h2,(λh=>by cases h),.agg (by rw[h1,hl]) ?_ ?_⟩
    .intro x I;obtain⟨j,hj⟩:=fm I;exact (hc (off+j) x (hg j x hj)).1
    .intro j x v I hv;exact J j x v I hv
   .cases hs
  .cases hs
theorem OH {t:TypeId} {sz:Nat} {ag:Bool} (hs:fB P t=af sz) (I:Ei P t=af ag) (w:World) (b off:Nat) (cs:ξ) (hl:cs.length=sz) (hc:∀(j:Nat) v,cs[j]? =af v->w.cell? ⟨b,off+j,ah⟩=af v) (h1:ag=aj->sz=1):
 (loadVar t ⟨b,off,ah⟩).run P w= .ok (if ag then .agg cs.toArray else cs.getD 0 undef) w:=by
 unfold loadVar;simp only[eM,Q9 I w,cQ];cases ag with
 |true=>
  simp only[bG,eM,gB hs w,cQ];rw[<- hl,run_loadCells_list (P:=P) w ⟨b,off,ah⟩ cs (λj v hv=>by rw[lm];exact hc j v hv)];rfl
 |false=>
  have h1:=h1 rfl;cases cs with
  |nil=>simp at hl;omega
  |cons v r=>
   have:=hc 0 v rfl;simp only[dx]at this;simp[load,nL,this]
theorem Jj {φ:PM} {O:Nat->Prop} {w:World} {t:TypeId} {sz:Nat} {ag:Bool} (hs:fB P t=af sz) (I:Ei P t=af ag) {c:BC} {b base off:Nat} {val:AV} (hv:c.sub? off sz ag=af val)
 (hc:yr φ O w c λj=>w.cell? ⟨b,base+j,ah⟩):∃v,(loadVar t ⟨b,base+off,ah⟩).run P w= .ok v w/\cW φ O w val v:=by
 obtain⟨cs,h1,h2,M,J⟩:=Xb hv hc;exact⟨_,OH hs I w b (base+off) cs h1 (λj v hj=>by rw[pO];exact h2 j v hj) M,J⟩
theorem Tz {φ:PM} {E:Nat->Prop} {h':HF} {w:World} (hrep:rq φ E h' w) {id k:Nat} {b:xu} (hb:h' id=af b) (hk:φ id=af k) (hc:b.c.isCells=ai):yr φ (tot E φ h') w b.c λj=>w.cell? ⟨k,0+j,ah⟩:=by
 obtain⟨k',h1,_,h2⟩:=hrep.at_ id b hb;rw[hk]at h1;cases h1;obtain⟨arr,M,h4,J⟩:=h2.cells hc;intro j x I;obtain⟨Z,v,Y,U⟩:=J j x I;exact⟨Z,v,by simp[Oh,M,Y],U⟩
theorem Wv {φ:PM} {O:Nat->Prop} {w:World} {cells:List FV} {b base:Nat} {us:Nat->Value} (hcl:∀x∈cells,x.isCell=ai) (hu:∀j,j<cells.length->w.cell? ⟨b,base+j,ah⟩=af (us j)) (hr:∀(j:Nat) x,cells[j]? =af x->nF O w x (us j)):
 yr φ O w (.fz cells) λj=>w.cell? ⟨b,base+j,ah⟩:=by
 intro j y I;simp only[BC.get]at I;cases hc:cells[j]? with
 |none=>rw[hc]at I;cases I
 |some q=>
  rw[hc]at I;simp at I;subst I;have hj:j<cells.length:=(bl.1 hc).1;exact⟨hcl q (ba hc),us j,hu j hj,.f (hr j q hc)⟩
theorem QV {c:BC} {off sz:Nat} {ag:Bool} {v:AV} (h:c.sub? off sz ag=af v):c.isCells=ai:=by
 cases c with
 |fz=>rfl
 |mx=>rfl
 |mp es=>cases ag<;>simp only[BC.sub?,BC.get]at h<;>(try split at h)<;>cases h
 |it s p=>cases ag<;>simp only[BC.sub?,BC.get]at h<;>(try split at h)<;>cases h
theorem TO {t:TypeId} {sz:Nat} {ag:Bool} (hs:fB P t=af sz) (hag:Ei P t=af ag) {p:AV} (I:Eh h sz ag p=af R):
 R.wr=[]/\R.nw=[]/\R.N=[]/\∀(φ:PM) (E:Nat->Prop) (h':HF) (w:World) (pv:Value),(∀i∈R.rd,h' i=h.get i)->rq φ E h' w->cW φ (tot E φ h') w p pv->
  ∃J v,pv= .pointer (af J)/\(loadVar t J).run P w= .ok v w/\cW φ (tot E φ h') w R.val v:=by
 unfold Eh at I;split at I
 .rename_i id off;split at I
  .rename_i b hb;split at I
   .rename_i v hv;simp only[ak]at I;subst I;refine ⟨rfl,rfl,rfl,λφ E h' w pv hrd hrep hr=>?_⟩;have hh:h' id=af b:=by rw[hrd id (by simp)];exact hb
    cases hr with
    |@ptr _ _ k hφ=>
     obtain⟨u,h1,h2⟩:=Jj hs hag (w:=w) (b:=k) (base:=0) hv (Tz hrep hh hφ (QV hv));rw[bQ]at h1;exact⟨_,u,rfl,h1,h2⟩
   .cases I
  .cases I
 .rename_i cells off;split at I
  .rename_i v hv;rw[dD I];refine ⟨rfl,rfl,rfl,λφ E h' w pv hrd hrep hr=>?_⟩;cases hr with
   |f hr=>
    cases hr with
    |ptr _ _ b base us hO hb hcl hu hr=>
     obtain⟨u,h1,h2⟩:=Jj (φ:=φ) (O:=tot E φ h') hs hag (w:=w) (b:=b) (base:=base) hv (Wv hcl hu hr);exact⟨_,u,rfl,h1,h2⟩
  .cases I
 .cases I
theorem akt {t:TypeId} {x:Operand} {sz:Nat} {ag:Bool} (J:o.op= .load t x) (hs:fB P t=af sz) (hag:Ei P t=af ag) (I:eU (.load sz ag x) e h nx=af R):gQ P o e.get h.get R.eff:=by
 simp only[eU]at I;split at I
 .rename_i p Y;obtain⟨h1,h2,U,M⟩:=TO hs hag I;obtain⟨val,rd,wr,nw,N⟩:=R;simp only at h1 h2 U M;subst h1;subst h2;subst U;refine gQ.reads λφ E h' w a hrd hp hrep=>?_
  obtain⟨ad,v,h5,h6,Z⟩:=M φ E h' w _ hrd hrep (hp x _ (by rw[J];simp[Op.operands]) Y);refine ⟨v,?_,Z⟩;unfold execOp;rw[J];simp[Instr.loadAt,h5,Instr.sureAddr,h6]
 .cases I
theorem Xt {φ:PM} {O:Nat->Prop} {w:World} {t:TypeId} {sz:Nat} {ag:Bool} (hs:fB P t=af sz) (hag:Ei P t=af ag) {c:BC} {off:Nat} {val:AV} (hv:c.sub? off sz ag=af val) {vs:ξ}
 (hc:yr φ O w c λj=>vs[j]?):∃v,(part t vs.toArray off).run P w= .ok v w/\cW φ O w val v:=by
 obtain⟨cs,h1,h2,J,I⟩:=Xb hv hc;refine ⟨_,?_,I⟩;unfold part;simp only[eM,Q9 hag w,cQ];cases ag with
 |true=>
  simp only[bG,eM,gB hs w,cQ];have:vs.toArray.extract off (off+sz)=cs.toArray:=by
   apply LI;simp only[Array.toList_extract,List.extract_eq_take_drop];apply List.ext_getElem?;intro j;rw[show off+sz-off=sz from by omega,cZ,gY];rcases cf j sz with hj|hj
   .rw[aD hj];have:=h2 j _ (aB (by omega:j<cs.length));rw[this,aB (by omega:j<cs.length)]
   .rw[ay (by omega),bR (by omega)]
  rw[this];rfl
 |false=>
  have M:=J rfl;cases cs with
  |nil=>simp at h1;omega
  |cons v r=>
   have:=h2 0 v rfl;simp only[dx]at this;simp[this]
theorem TA {φ:PM} {O:Nat->Prop} {w:World} {l:List AV} {vs:ξ} (hl:vs.length=l.length) (hcl:∀x∈l,x.isCell=ai) (hr:∀(j:Nat) x v,l[j]? =af x->vs[j]? =af v->cW φ O w x v):yr φ O w (.mx l) λj=>vs[j]? :=by
 intro j x I;simp only[BC.get]at I;have hj:j<vs.length:=by rw[hl];exact (bl.1 I).1
 exact⟨hcl x (ba I),vs[j],aB hj,hr j x _ I (aB hj)⟩
theorem Qf {φ:PM} {O:Nat->Prop} {w:World} {l:List FV} {vs:ξ} (hl:vs.length=l.length) (hcl:∀x∈l,x.isCell=ai) (hr:∀(j:Nat) x v,l[j]? =af x->vs[j]? =af v->nF O w x v):yr φ O w (.fz l) λj=>vs[j]? :=by
 intro j x I;simp only[BC.get]at I;cases hc:l[j]? with
 |none=>rw[hc]at I;cases I
 |some q=>
  rw[hc]at I;simp at I;subst I;have hj:j<vs.length:=by rw[hl];exact (bl.1 hc).1
  exact⟨hcl q (ba hc),vs[j],aB hj,.f (hr j q _ hc (aB hj))⟩
theorem Ll {φ:PM} {O:Nat->Prop} {w:World} {t:TypeId} {sz:Nat} {ag:Bool} (hs:fB P t=af sz) (hag:Ei P t=af ag) {x:AV} {z:Value} (hr:cW φ O w x z) {off:Nat} {val:AV}
 (hv:(∃l,x= .agg l/\(BC.mx l).sub? off sz ag=af val)\/(∃l,x= .f (.agg l)/\(BC.fz l).sub? off sz ag=af val)):∃cs v,z= .agg cs/\(part t cs off).run P w= .ok v w/\cW φ O w val v:=by
 rcases hv with ⟨l,rfl,hv⟩|⟨l,rfl,hv⟩
 .cases hr with
  |agg hl hcl hr=>
   obtain⟨v,h1,h2⟩:=Xt hs hag hv (TA hl hcl hr);exact⟨_,v,rfl,h1,h2⟩
 .cases hr with
  |f hr=>
   cases hr with
   |agg _ vs hl hcl hr=>
    obtain⟨v,h1,h2⟩:=Xt (φ:=φ) hs hag hv (Qf hl hcl hr);exact⟨_,v,rfl,h1,h2⟩
theorem aoi {s:TypeId} {fs:Array Field} {k:Nat} {f:Field} {sz:Nat} {ag:Bool} {x:Operand} (M:o.op= .field s x k) (hu:P.underlying s=af (.struct fs)) (hf:fs[k]? =af f) (hs:fB P f.type=af sz) (hag:Ei P f.type=af ag) (I:eU (.fld f.offset sz ag x) e h nx=af R):gQ P o e.get h.get R.eff:=by
 have fin:∀(y:AV) (val:AV),mO e x=af y->((∃l,y= .agg l/\(BC.mx l).sub? f.offset sz ag=af val)\/(∃l,y= .f (.agg l)/\(BC.fz l).sub? f.offset sz ag=af val))->rv val=af R->gQ P o e.get h.get R.eff:=by
  intro y val J hv U;rw[dD U];refine gQ.reads λφ E h' w a _ hp _=>?_
  obtain⟨cs,v,h1,h2,Y⟩:=Ll hs hag (hp x _ (by rw[M];simp[Op.operands]) J) hv;refine ⟨v,?_,Y⟩;unfold execOp;rw[M];simp[Instr.field,run_underlying hu,hf,h1,asAgg,h2]
 simp only[eU]at I;split at I
 .rename_i l J;split at I
  .rename_i v hv;exact fin _ v J (.inl ⟨l,rfl,hv⟩) I
  .cases I
 .rename_i l J;split at I
  .rename_i v hv;exact fin _ v J (.inr ⟨l,rfl,hv⟩) I
  .cases I
 .cases I
theorem aog {t el:TypeId} {n sz:Nat} {ag:Bool} {x y:Operand} (J:o.op= .index t x y) (hu:P.underlying t=af (.array n el)) (hs:fB P el=af sz) (hag:Ei P el=af ag) (I:eU (.idx n sz ag x y) e h nx=af R):gQ P o e.get h.get R.eff:=by
 simp only[eU]at I;split at I
 .rename_i v0 k j U M;split at I
  .rename_i hc;simp only[c6,fV,av,be]at hc;obtain⟨h0,h1⟩:=hc;have fin:∀(val:AV),((∃l,v0= .agg l/\(BC.mx l).sub? (j.toNat*sz) sz ag=af val)\/(∃l,v0= .f (.agg l)/\(BC.fz l).sub? (j.toNat*sz) sz ag=af val))->rv val=af R->gQ P o e.get h.get R.eff:=by
    intro val hv Y;rw[dD Y];refine gQ.reads λφ E h' w a _ hp _=>?_
    have hyv:=fH (hp y _ (by rw[J];simp[Op.operands]) M);obtain⟨cs,v,h3,h4,h5⟩:=Ll hs hag (hp x _ (by rw[J];simp[Op.operands]) U) hv;refine ⟨v,?_,h5⟩;have Z:=gB hs w;unfold execOp;rw[J];simp[Instr.index,run_underlying hu,hyv,asIntOf,h3,h0,h1,Z,h4]
   split at I
   .rename_i l;split at I
    .rename_i v hv;exact fin v (.inl ⟨l,rfl,hv⟩) I
    .cases I
   .rename_i l;split at I
    .rename_i v hv;exact fin v (.inr ⟨l,rfl,hv⟩) I
    .cases I
   .cases I
  .cases I
 .cases I
theorem akw {t el:TypeId} {x:Operand} (M:o.op= .call {callee:=.builtin .len,args:=#[x],argTypes:=#[t]}) (hu:P.underlying t=af (.slice el)) (I:eU (.len x) e h nx=af R):gQ P o e.get h.get R.eff:=by
 simp only[eU]at I;split at I
 .rename_i y U;split at I
  .rename_i n hn;rw[dD I];refine gQ.reads λφ E h' w a _ hp _=>?_
   have hr:=hp x _ (by rw[M];simp[Op.operands,eY]) U;refine ⟨_,?_,.f (.raw _)⟩;have J:∃A c,a.eval x= .slice A n c:=by
    generalize a.eval x=z at hr;unfold AV.slen at hn;split at hn<;>try (simp only[ak]at hn;subst hn)
    .cases hr with
     |f hr=>cases hr with
      |nil=>exact⟨_,_,rfl⟩
      |sl=>exact⟨_,_,rfl⟩
    .cases fH hr;exact⟨_,_,rfl⟩
    .cases hr;exact⟨_,_,rfl⟩
    .cases hr;exact⟨_,_,rfl⟩
    .cases hr;exact⟨_,_,rfl⟩
    .cases hn
   obtain⟨A,c,J⟩:=J;unfold execOp;rw[M];simp[resolve,invoke,builtin,Builtin.len_,run_underlying hu,J,goInt]
  .cases I
 .cases I
theorem akv {t:TypeId} {x:Operand} (J:o.op= .call {callee:=.builtin .len,args:=#[x],argTypes:=#[t]}) (hu:P.underlying t=af .string) (I:eU (.lens x) e h nx=af R):gQ P o e.get h.get R.eff:=by
 simp only[eU]at I;split at I
 .rename_i s M;rw[dD I];refine gQ.reads λφ E h' w a _ hp _=>?_
  have hr:=fH (hp x _ (by rw[J];simp[Op.operands,eY]) M);refine ⟨_,?_,.f (.raw _)⟩;unfold execOp;rw[J];simp[resolve,invoke,builtin,Builtin.len_,run_underlying hu,hr,goInt]
 .cases I
theorem aku {t k v:TypeId} {x:Operand} (J:o.op= .call {callee:=.builtin .len,args:=#[x],argTypes:=#[t]}) (hu:P.underlying t=af (.map k v)) (I:eU (.lenm x) e h nx=af R):gQ P o e.get h.get R.eff:=by
 simp only[eU]at I;split at I
 .rename_i id U;split at I
  .rename_i ty es hid;simp only[ak]at I;subst I;refine gQ.reads λφ E h' w a hrd hp hrep=>?_
   have hr:=hp x _ (by rw[J];simp[Op.operands,eY]) U;have hh:h' id=af ⟨ty,.mp es⟩:=by rw[hrd id (by simp)];exact hid
   generalize M:a.eval x=z at hr;cases hr with
   |@mp _ b hφ=>
    obtain⟨b',h1,_,ob,h2,h3⟩:=hrep.at_ id _ hh;rw[hφ]at h1;cases h1;obtain⟨ents,clock,rfl,Z,_⟩:=h3;have Y:ents.size=es.length:=by have:=gM al Z;simpa using this
    refine ⟨_,?_,.f (.raw _)⟩;unfold execOp;rw[J];simp[resolve,invoke,builtin,Builtin.len_,run_underlying hu,M,goInt,getObj,nL,h2,Y]
  .cases I
 .cases I
end
structure FR (w w':World) (k:Nat) (ob:Obj):Prop where
 os:w'.os=w.os
 tape:w'.tape=w.tape
 output:w'.output=w.output
 size:w'.heap.size=w.heap.size
 at_:w'.heap[k]? =af ob
 other:∀j,j≠k->w'.heap[j]? =w.heap[j]?
 shp:∀j,w'.shape? j=w.shape? j
structure TZ (w w':World) (ob:Obj):Prop where
 os:w'.os=w.os
 tape:w'.tape=w.tape
 output:w'.output=w.output
 size:w'.heap.size=w.heap.size+1
 at_:w'.heap[w.heap.size]? =af ob
 other:∀j,j<w.heap.size->w'.heap[j]? =w.heap[j]?
theorem rq.wset {φ:PM} {E:Nat->Prop} {h:HF} {w w':World} (r:rq φ E h w) {id k:Nat} {b b':xu} {ob:Obj} (hb:h id=af b) (hk:φ id=af k) (I:FR w w' k ob) (hob:jC φ (tot E φ h) w b' ob) (nw:HF) (hnw:nw id=af b'):
 jg φ φ h (eZ h [id] nw) w w'/\rq φ E (eZ h [id] nw) w':=by
 have hdom:∀i,(∃x,eZ h [id] nw i=af x)↔∃x,h i=af x:=λi=>by
  unfold eZ;by_cases hi:i=id
  .subst hi;simp[hnw,hb]
  .simp[hi]
 have hown:∀j,own φ (eZ h [id] nw) j↔own φ h j:=λj=>by
  constructor
  .rintro⟨i,x,h1,h2⟩;obtain⟨y,M⟩:=(hdom i).1 ⟨x,h1⟩;exact⟨i,y,M,h2⟩
  .rintro⟨i,x,h1,h2⟩;obtain⟨y,M⟩:=(hdom i).2 ⟨x,h1⟩;exact⟨i,y,M,h2⟩
 have m:jg φ φ h (eZ h [id] nw) w w':=by
  refine ⟨λ_ _ h=>h,⟨I.os,I.tape,I.output,by rw[I.size];exact bX _,λj hj ho=>?_,λj _=>I.shp j⟩,λj _ h=>(hown j).1 h⟩;exact I.other j (λe=>ho (e▸⟨id,b,hb,hk⟩))
 refine ⟨m,⟨λi j x y kk hi hj h1 h2=>?_,λi x hi=>?_,λk hk=>dE (r.el k hk) m.ext.size,λg cells hg=>m.keepF (r.gl g cells hg)⟩⟩
 .obtain⟨x',U⟩:=(hdom i).1 ⟨x,hi⟩;obtain⟨Z,J⟩:=(hdom j).1 ⟨y,hj⟩;exact r.inj i j x' Z kk U J h1 h2
 .by_cases hid:i=id
  .subst hid;have:x=b':=by unfold eZ at hi;simp[hnw]at hi;exact hi.symm
   subst this;obtain⟨k',h1,h2,_⟩:=r.at_ i b hb;rw[hk]at h1;cases h1;exact⟨k,hk,h2,ob,I.at_,hob.mono λ_ _ h=>m.keep h⟩
  .have Y:h i=af x:=by unfold eZ at hi;simpa[hid] using hi
   obtain⟨k',h1,h2,ob',h3,h4⟩:=r.at_ i x Y;have hne:k'≠k:=λe=>hid (r.inj i id x b k Y hb (e▸h1) hk)
   exact⟨k',h1,h2,ob',by rw[I.other k' hne];exact h3,h4.mono λ_ _ h=>m.keep h⟩
theorem rq.wnew {φ:PM} {E:Nat->Prop} {h:HF} {w w':World} (r:rq φ E h w) {id:Nat} (hid:φ id=ah) {b:xu} {ob:Obj} (M:TZ w w' ob) (hob:jC φ (tot E φ h) w b ob) (del:ι) (nw:HF) (hnw:nw id=af b) (hdel:∀i∈del,i≠id->nw i=ah):
 ∃φ',φ' id=af w.heap.size/\jg φ φ' h (eZ h (id::del) nw) w w'/\(∀i k,φ' i=af k->φ i=af k\/i∈[id])/\rq φ' E (eZ h (id::del) nw) w':=by
 have hsub:∀i x,eZ h (id::del) nw i=af x->i≠id->h i=af x/\i∉del:=λi x U hi=>by
  unfold eZ at U;by_cases hd:i∈del
  .rw[aD (by simp[hd]),hdel i hd hi]at U;cases U
  .rw[ay (by simp[hi,hd])]at U;exact⟨U,hd⟩
 have hlt:∀i x k,h i=af x->φ i=af k->k<w.heap.size:=λi x k hi hk=>by
  obtain⟨k',h1,_,ob',Y,_⟩:=r.at_ i x hi;rw[hk]at h1;cases h1;exact (cJ.1 Y).1
 have hφ:∀i,i≠id->(if i=id then af w.heap.size else φ i)=φ i:=λi hi=>by simp[hi]
 have m:jg φ (λi=>if i=id then af w.heap.size else φ i) h (eZ h (id::del) nw) w w':=by
  refine ⟨λi k hk=>?_,⟨M.os,M.tape,M.output,by rw[M.size];omega,λj hj _=>M.other j hj,λj hj=>?_⟩,?_⟩
  .have:i≠id:=λe=>by rw[e,hid]at hk;cases hk
   rw[hφ i this];exact hk
  .unfold rZ;rw[M.other j hj]
  .rintro j hj ⟨i,x,h1,h2⟩;by_cases hi:i=id
   .simp[hi]at h2;omega
   .have Y:φ i=af j:=by simpa[hi] using h2
    exact⟨i,x,(hsub i x h1 hi).1,Y⟩
 refine ⟨_,by simp,m,λi k hk=>?_,⟨λi j x y k hi hj h1 h2=>?_,λi x hi=>?_,λk hk=>dE (r.el k hk) m.ext.size,λg cells hg=>m.keepF (r.gl g cells hg)⟩⟩
 .by_cases hi:i=id
  .right;simp[hi]
  .left;rw[hφ i hi]at hk;exact hk
 .by_cases I:i=id
  .by_cases J:j=id
   .rw[I,J]
   .exfalso;rw[hφ j J]at h2;have:=hlt j y k (hsub j y hj J).1 h2;simp[I]at h1;omega
  .rw[hφ i I]at h1;have hix:=(hsub i x hi I).1;by_cases J:j=id
   .exfalso;have:=hlt i x k hix h1;simp[J]at h2;omega
   .rw[hφ j J]at h2;exact r.inj i j x y k hix (hsub j y hj J).1 h1 h2
 .by_cases I:i=id
  .subst I;have:x=b:=by unfold eZ at hi;simp[hnw]at hi;exact hi.symm
   subst this;refine ⟨w.heap.size,by simp,λhe=>?_,ob,M.at_,hob.mono λ_ _ h=>m.keep h⟩;have:=r.el _ he;omega
  .obtain⟨k,h1,h2,ob',Y,Z⟩:=r.at_ i x (hsub i x hi I).1;refine ⟨k,by rw[hφ i I];exact h1,h2,ob',?_,Z.mono λ_ _ h=>m.keep h⟩;rw[M.other k (hlt i x k (hsub i x hi I).1 h1)];exact Y
theorem ru (w:World) (ob:Obj):TZ w {w with heap:=w.heap.push ob} ob:=by
 refine ⟨rfl,rfl,rfl,by simp,by simp,λj hj=>?_⟩;rw[Array.getElem?_push,ay (by omega)]
theorem TZ.drawn {w w':World} {ob:Obj} (d:Nat) (h:TZ {w with drawn:=d} w' ob):TZ w w' ob:=⟨h.os,h.tape,h.output,h.size,h.at_,h.other⟩
theorem gQ.makes {P:Program} {o:Oper} {e:Am} {h:HF} {rd:ι} {nx:Nat} {b:xu} {val:AV}
 (hv:∀(φ:PM) (E:Nat->Prop) (h':HF) (w:World) (a:Act),(∀i∈rd,h' i=h i)->WR φ E h' w a e o->rq φ E h' w->
   ∃v w' ob,(execOp a.eval o).run P w= .ok (.value v) w'/\TZ w w' ob/\jC φ (tot E φ h') w b ob/\∀φ' O,φ' nx=af w.heap.size->cW φ' O w' val v):
 gQ P o e.get h ⟨val,rd,[nx],jp [(nx,b)],[nx]⟩:=by
 intro φ E h' w a h1 h2 Z I Y;obtain⟨v,w',ob,hrun,U,hob,hval⟩:=hv φ E h' w a h1 (λx y M J=>t8 I Z M J) I;obtain⟨φ',g1,g2,g3,g4⟩:=I.wnew (id:=nx) (Y nx (by simp)) U hob [] (jp [(nx,b)]) (by simp[jp]) (by simp);unfold H7;rw[hrun];exact⟨v,φ',rfl,g2,g3,g4,hval φ' _ g1⟩
theorem gQ.writes {P:Program} {o:Oper} {e:Am} {h:HF} {rd:ι} {id:Nat} {b b':xu} {val:AV} (hb:h id=af b)
 (hv:∀(φ:PM) (E:Nat->Prop) (h':HF) (w:World) (a:Act),(∀i∈rd,h' i=h i)->h' id=af b->WR φ E h' w a e o->rq φ E h' w->
   ∃r w' k ob,(execOp a.eval o).run P w= .ok r w'/\φ id=af k/\FR w w' k ob/\jC φ (tot E φ h') w b' ob/\(∃v,(r= .value v\/r= .skip/\v=undef)/\cW φ (tot E φ (eZ h' [id] (jp [(id,b')]))) w' val v)):
 gQ P o e.get h ⟨val,rd,[id],jp [(id,b')],[]⟩:=by
 intro φ E h' w a h1 h2 h3 I h5;obtain⟨r,w',k,ob,hrun,hk,Z,hob,v,hr,hval⟩:=hv φ E h' w a h1 (by rw[h2 id (by simp)];exact hb) (λx y Y U=>t8 I h3 Y U) I;obtain⟨M,J⟩:=I.wset (id:=id) (by rw[h2 id (by simp)];exact hb) hk Z hob (jp [(id,b')]) (by simp[jp]);unfold H7;rw[hrun];rcases hr with rfl|⟨rfl,rfl⟩
 .exact⟨v,φ,rfl,M,λ_ _ h=>.inl h,J,hval⟩
 .exact⟨undef,φ,rfl,M,λ_ _ h=>.inl h,J,hval⟩
theorem lX {l:List AV} (h:gJ l=ai):∀x∈l,x.isCell=ai:=by
 induction l with
 |nil=>intro x I;cases I
 |cons y l J=>
  simp only[gJ,av]at h;intro x I;rcases bm.1 I with rfl|I
  .exact h.1
  .exact J h.2 x I
theorem qe:∀{l:List AV} {fs:List FV},yp l=af fs->l=fs.map .f
 |[],fs,h=>by simp only[yp,ak]at h;subst h;rfl
 |.f x::r,fs,h=>by
  simp only[yp]at h;split at h
  .rename_i l hl;simp only[ak]at h;subst h;rw[qe hl];rfl
  .cases h
 |.ptr _ _::_,_,h=>by simp[yp]at h
 |.sl _ _ _::_,_,h=>by simp[yp]at h
 |.row _ _ _::_,_,h=>by simp[yp]at h
 |.mp _::_,_,h=>by simp[yp]at h
 |.emp::_,_,h=>by simp[yp]at h
 |.agg _::_,_,h=>by simp[yp]at h
 |.tup _::_,_,h=>by simp[yp]at h
 |.clo _ _::_,_,h=>by simp[yp]at h
def Cs (φ:PM) (O:Nat->Prop) (w:World) (l:List AV) (vs:ξ):Prop:=vs.length=l.length/\(∀x∈l,x.isCell=ai)/\∀(j:Nat) x v,l[j]? =af x->vs[j]? =af v->cW φ O w x v
theorem BC.get_toMx {c:BC} (hc:c.isCells=ai) (j:Nat):c.get j=c.toMx[j]? :=by
 cases c with
 |fz l=>simp[BC.get,BC.toMx]
 |mx l=>rfl
 |mp _=>cases hc
 |it _ _=>cases hc
theorem BC.len_toMx {c:BC} (hc:c.isCells=ai):c.len=c.toMx.length:=by
 cases c with
 |fz l=>simp[BC.len,BC.toMx]
 |mx l=>rfl
 |mp _=>cases hc
 |it _ _=>cases hc
theorem nZ (l:List AV):(pH l).toMx=l/\(pH l).isCells=ai:=by
 unfold pH;cases h:yp l with
 |none=>exact⟨rfl,rfl⟩
 |some fs=>exact⟨(qe h).symm,rfl⟩
theorem qw {φ:PM} {O:Nat->Prop} {w:World} {ty:TypeId} {c:BC} (hc:c.isCells=ai) {arr:Array Value} (hl:c.toMx.length<=arr.size)
 (h:∀(j:Nat) x,c.toMx[j]? =af x->x.isCell=ai/\∃v,arr[j]? =af v/\cW φ O w x v):jC φ O w ⟨ty,c⟩ (.cells arr ty (0,0)):=by
 have h2:vV φ O w c arr:=⟨by rw[BC.len_toMx hc];exact hl,λj x I=>h j x (by rw[<- BC.get_toMx hc];exact I)⟩
 unfold jC;cases hb:c with
 |fz l=>rw[hb]at h2;exact⟨arr,rfl,h2⟩
 |mx l=>rw[hb]at h2;exact⟨arr,rfl,h2⟩
 |mp _=>rw[hb]at hc;cases hc
 |it _ _=>rw[hb]at hc;cases hc
theorem I6 {φ:PM} {O:Nat->Prop} {w:World} {ty:TypeId} {l:List AV} {vs:ξ} (h:Cs φ O w l vs):jC φ O w ⟨ty,pH l⟩ (.cells vs.toArray ty (0,0)):=by
 obtain⟨h1,h2⟩:=nZ l;refine qw h2 (by rw[h1];simp[h.1]) λj x I=>?_
 rw[h1]at I;have hj:j<vs.length:=by rw[h.1];exact (bl.1 I).1
 exact⟨h.2.1 x (ba I),vs[j],by simp[hj],h.2.2 j x _ I (aB hj)⟩
theorem VR {φ:PM} {O:Nat->Prop} {w:World} {x:AV} {v:Value} (h:cW φ O w x v) (hc:gJ x.cs=ai):Cs φ O w x.cs v.cells.toList:=by
 have one:x.cs=[x]->v.cells=#[v]->Cs φ O w x.cs v.cells.toList:=λh1 h2=>by
  rw[h1]at hc ⊢;rw[h2];exact⟨rfl,lX hc,λj y u I hu=>by cases j with|zero=>simp at I hu;subst I;subst hu;exact h|succ j=>simp at I⟩
 cases h with
 |ptr h=>exact one rfl rfl
 |sl h _ _=>exact one rfl rfl
 |row h _ _ _=>exact one rfl rfl
 |emp=>exact one rfl rfl
 |anyb=>exact one rfl rfl
 |mp h=>exact one rfl rfl
 |clo _ _=>exact one rfl rfl
 |tup _ _=>exact cY hc (by simp[AV.cs,gJ,AV.isCell])
 |@agg l vs hl hcl hr=>exact⟨hl,hcl,hr⟩
 |@f y u hf=>
  cases hf with
  |raw v=>
   have hv:v.oneCell'=ai:=by
    have:(AV.f (.raw v)).cs=[.f (.raw v)]:=rfl;rw[this]at hc;simpa[gJ,AV.isCell,FV.isCell] using hc
   refine one rfl ?_;cases v<;>first|rfl|simp[Value.oneCell']at hv
  |nil=>exact one rfl rfl
  |sl=>exact one rfl rfl
  |ptr=>exact one rfl rfl
  |agg l vs hl hcl hr=>
   refine ⟨by simp[AV.cs,Value.cells,hl],lX hc,λj y u I hu=>?_⟩;simp only[AV.cs,bc]at I;cases hq:l[j]? with
   |none=>rw[hq]at I;cases I
   |some q=>rw[hq]at I;simp at I;subst I;exact .f (hr j q u hq (by simpa[Value.cells] using hu))
theorem nF.one {O:Nat->Prop} {w:World} {x:FV} {v:Value} (h:nF O w x v) (hc:x.isCell=ai):v.oneCell'=ai:=by
 cases h with
 |raw v=>exact hc
 |nil=>rfl
 |sl=>rfl
 |ptr=>rfl
 |agg=>cases hc
theorem cW.one {φ:PM} {O:Nat->Prop} {w:World} {x:AV} {v:Value} (h:cW φ O w x v) (hc:x.isCell=ai):v.oneCell'=ai:=by
 cases h with
 |f h=>exact h.one hc
 |ptr=>rfl
 |sl=>rfl
 |row=>rfl
 |emp=>rfl
 |anyb=>rfl
 |mp=>rfl
 |agg=>cases hc
 |tup=>cases hc
 |clo=>rfl
theorem Cs.one {φ:PM} {O:Nat->Prop} {w:World} {l:List AV} {vs:ξ} (h:Cs φ O w l vs):∀v∈vs,v.oneCell'=ai:=by
 intro v hv;obtain⟨j,hj⟩:=fm hv;have hlt:j<l.length:=by rw[<- h.1];exact (bl.1 hj).1
 exact (h.2.2 j _ v (aB hlt) hj).one (h.2.1 _ (vz hlt))
theorem Cs.append {φ:PM} {O:Nat->Prop} {w:World} {l J:List AV} {vs vs':ξ} (h:Cs φ O w l vs) (h':Cs φ O w J vs'):Cs φ O w (l++J) (vs++vs'):=by
 refine ⟨by simp[h.1,h'.1],λx I=>(bV.1 I).elim (h.2.1 x) (h'.2.1 x),λj x v I hv=>?_⟩;rcases cf j l.length with hj|hj
 .rw[bK hj]at I;rw[bK (by rw[h.1];exact hj)]at hv;exact h.2.2 j x v I hv
 .rw[bW hj]at I;rw[bW (by rw[h.1];exact hj),h.1]at hv;exact h'.2.2 _ x v I hv
theorem Cs.take {φ:PM} {O:Nat->Prop} {w:World} {l:List AV} {vs:ξ} (h:Cs φ O w l vs) (n:Nat):Cs φ O w (l.take n) (vs.take n):=by
 refine ⟨by simp[h.1],λx I=>h.2.1 x (fZ I),λj x v I hv=>?_⟩;rw[cZ]at I hv;split at I
 .rename_i hj;rw[aD hj]at hv;exact h.2.2 j x v I hv
 .cases I
theorem Cs.drop {φ:PM} {O:Nat->Prop} {w:World} {l:List AV} {vs:ξ} (h:Cs φ O w l vs) (n:Nat):Cs φ O w (l.drop n) (vs.drop n):=by
 refine ⟨by simp[h.1],λx I=>h.2.1 x (List.mem_of_mem_drop I),λj x v I hv=>?_⟩;rw[gY]at I hv;exact h.2.2 _ x v I hv
theorem Cs.splice {φ:PM} {O:Nat->Prop} {w:World} {l I:List AV} {vs vs':ξ} (h:Cs φ O w l vs) (h':Cs φ O w I vs') (off:Nat):Cs φ O w (splice l off I) (splice vs off vs'):=by
 unfold AI.splice;rw[h'.1];exact ((h.take off).append h').append (h.drop _)
theorem Cs.raws {φ:PM} {O:Nat->Prop} {w:World} (z:ξ) (J:mL z=ai):Cs φ O w (z.map raw) z:=by
 refine ⟨by simp,λx I=>?_,λj x v I hv=>?_⟩
 .obtain⟨v,hv,rfl⟩:=c_.1 I;exact gu.1 J v hv
 .rw[bc]at I;rw[hv]at I;simp at I;subst I;exact .f (.raw v)
theorem Cs.mono {φ φ':PM} {O O':Nat->Prop} {w w':World} {l:List AV} {vs:ξ} (h:Cs φ O w l vs) (hk:∀x v,cW φ O w x v->cW φ' O' w' x v):Cs φ' O' w' l vs:=⟨h.1,h.2.1,λj x v I hv=>hk _ _ (h.2.2 j x v I hv)⟩
theorem FR.setRow {w:World} {k:Nat} {arr arr':Array Value} {ty:TypeId} (I:w.heap[k]? =af (.cells arr ty (0,0))) (hs:arr'.size=arr.size):FR w (w.setRow k arr') k (.cells arr' ty (0,0)):=by
 refine ⟨rfl,rfl,rfl,by simp,setRow_heap w k arr arr' ty (0,0) I,λj hj=>setRow_other w k j arr' hj,λj=>?_⟩;unfold rZ;by_cases hj:j=k
 .subst hj;rw[setRow_heap w j arr arr' ty (0,0) I,I];simp[hs]
 .rw[setRow_other w k j arr' hj]
section
variable {P:Program} {o:Oper} {e:Am} {h:ov} {nx:Nat} {R:CC}
theorem uc {t:TypeId} {z:ξ} (I:tB P t=af z) (w:World):∃v,(zeroValue t).run P w= .ok v w/\v.cells.toList=z/\∃i,P.info? t=af i/\i.zero=af v:=by
 unfold tB at I;cases hi:P.info? t with
 |none=>rw[hi]at I;cases I
 |some i=>
  rw[hi]at I;simp only[aH]at I;cases hv:i.zero with
  |none=>rw[hv]at I;cases I
  |some v=>
   rw[hv]at I;simp only[co,ak]at I;exact⟨v,by simp[zeroValue,typeInfo,hi,hv],I,i,rfl,hv⟩
theorem ahb {t:TypeId} {z:ξ} (Y:o.op= .alloc t) (U:tB P t=af z) (hc:mL z=ai) (M:eU (.alloc t z) e h nx=af R):gQ P o e.get h.get R.eff:=by
 simp only[eU,ak]at M;subst M;refine gQ.makes λφ E h' w a _ _ _=>?_
 obtain⟨v,h1,h2,_⟩:=uc U w;refine ⟨.pointer (af ⟨w.heap.size,0,ah⟩),{w with heap:=w.heap.push (.cells v.cells t)},.cells v.cells t (0,0),?_,ru w _,?_,λφ' O hφ=>.ptr hφ⟩
 .unfold execOp;rw[Y];simp[Instr.alloc,h1,newVar,newRow,newObj,nL]
 .have I:BC.toMx (.fz (z.map .raw))=z.map raw:=by simp[BC.toMx,raw]
  refine qw rfl (by rw[I,<-h2];simp) λj x J=>?_
  rw[I]at J;have cs:=Cs.raws (φ:=φ) (O:=tot E φ h') (w:=w) z hc;have hj:j<z.length:=by have:=(bl.1 J).1;simpa using this
  refine ⟨cs.2.1 x (ba J),z[j],?_,cs.2.2 j x _ J (aB hj)⟩;have:v.cells.toList[j]? =af z[j]:=by rw[h2];exact aB hj
  simpa using this
theorem aon {t:TypeId} {x:Operand} (J:o.op= .box t x) (I:eU (.box t x) e h nx=af R):gQ P o e.get h.get R.eff:=by
 simp only[eU]at I;split at I
 .rename_i v M;split at I
  .rename_i hc;simp only[ak]at I;subst I;refine gQ.makes λφ E h' w a _ hp _=>?_
   have hr:=VR (hp x _ (by rw[J];simp[Op.operands]) M) hc;refine ⟨.pointer (af ⟨w.heap.size,0,ah⟩),{w with heap:=w.heap.push (.cells (a.eval x).cells t)},.cells (a.eval x).cells t (0,0),?_,ru w _,?_,λφ' O hφ=>.ptr hφ⟩
   .unfold execOp;rw[J];simp[Instr.box,newVar,newRow,newObj,nL]
   .have:=I6 (ty:=t) hr;simpa using this
  .cases I
 .cases I
theorem mQ {α:Type} {l vs:List α} {off:Nat} (hle:off+vs.length<=l.length) (j:Nat):(splice l off vs)[j]? =if j<off then l[j]? else if j<off+vs.length then vs[j-off]? else l[j]? :=by
 unfold splice;rw[iD];have h1:(l.take off).length=off:=by simp;omega
 by_cases hj:j<off
 .rw[aD hj,bK (by rw[h1];exact hj),cZ,aD hj]
 .rw[ay hj,bW (by omega),h1];by_cases I:j<off+vs.length
  .rw[aD I,bK (by omega)]
  .rw[ay I,bW (by omega),gY];congr 1;omega
theorem oK {α:Type} {l vs:List α} {off:Nat} (hle:off+vs.length<=l.length):(splice l off vs).length=l.length:=by
 unfold splice;simp;omega
theorem Sb (off:Nat):∀(vs:ξ) (k:Nat) (arr:Array Value),off+k+vs.length<=arr.size->∀j:Nat,
 ((vs.zipIdx k).foldl (λcs (p:Value×Nat)=>cs.setIfInBounds (off+p.2) p.1) arr)[j]? =if j<off+k then arr[j]? else if j<off+k+vs.length then vs[j-(off+k)]? else arr[j]?
 |[],k,arr,_,j=>by
  simp only[List.zipIdx_nil,List.foldl_nil,j6,dx];split<;>rfl
 |v::vs,k,arr,hle,j=>by
  simp only[b_]at hle;rw[List.zipIdx_cons,xD,Sb off vs (k+1) _ (by simp;omega) j];simp only[b_];by_cases h1:j<off+k
  .rw[aD (by omega),aD h1,qg (by omega)]
  .by_cases h2:j=off+k
   .subst h2;rw[aD (by omega),ay (by omega),aD (by omega)];simp[show off+k<arr.size by omega]
   .rw[ay (by omega),ay h1];by_cases I:j<off+k+(vs.length+1)
    .rw[aD (by omega),aD I,show j-(off+k)=(j-(off+(k+1)))+1 from by omega];simp
    .rw[ay (by omega),ay I,qg (by omega)]
theorem Sa (off:Nat) (c:Array Value) (l:ξ) (hle:off+c.size<=l.length):(c.zipIdx.foldl (λcs (p:Value×Nat)=>cs.setIfInBounds (off+p.2) p.1) l.toArray)=(splice l off c.toList).toArray:=by
 rw[<- Array.foldl_toList,Array.toList_zipIdx];apply Array.ext_getElem?;intro j;rw[Sb off c.toList 0 l.toArray (by simpa using hle) j];simp only[dx,ky];rw[mQ (by simpa using hle)]
theorem Pw {φ:PM} {E:Nat->Prop} {h':HF} {w:World} {a:Act} (hp:WR φ E h' w a e o) {place:Nat->Option (Nat×Nat)}:∀(ps:List (Nat×Operand)) (ps':List (Nat×Nat×Operand)) (cells cs:List AV) (vs:ξ),
 (ps'.length=ps.length)->(∀(j:Nat) i x,ps[j]? =af (i,x)->∃of sz,ps'[j]? =af (of,sz,x)/\place i=af (of,sz))->(∀p∈ps,p.2∈o.op.operands)->Cs φ (tot E φ h') w cells vs->zP cells e ps'=af cs->
 ∃vs',Instr.fill place vs.toArray (ps.map λp=>(p.1,a.eval p.2))=af vs'.toArray/\Cs φ (tot E φ h') w cs vs'
 |[],ps',cells,cs,vs,hl,_,_,hcs,hf=>by
  cases ps' with
  |nil=>simp only[zP,ak]at hf;subst hf;exact⟨vs,rfl,hcs⟩
  |cons _ _=>simp at hl
 |(i,x)::ps,ps',cells,cs,vs,hl,hpl,hm,hcs,hf=>by
  obtain⟨of,sz,h1,h2⟩:=hpl 0 i x rfl;cases ps' with
  |nil=>simp at h1
  |cons p ps'=>
   simp at h1;subst h1;simp only[zP]at hf;split at hf
   .rename_i v hv;split at hf
    .rename_i hc;simp only[av,c5]at hc;obtain⟨⟨M,J⟩,I⟩:=hc;have hr:=VR (hp x v (hm _ (dh ..)) hv) I;have hsz:(a.eval x).cells.size=sz:=by have:=hr.1;simp at this;omega
     have hle:of+sz<=vs.length:=by rw[hcs.1];exact a8 J
     obtain⟨vs',Y,U⟩:=Pw hp ps ps' _ cs _ (by simpa using hl) (λj i x hj=>by have:=hpl (j+1) i x (by simpa using hj);simpa using this) (λp hp=>hm p (cM _ hp)) (hcs.splice hr of) hf;refine ⟨vs',?_,U⟩;simp only[gq,Instr.fill,h2];have hcd:((decide ((a.eval x).cells.size≠sz))||decide (of+(a.eval x).cells.size>vs.toArray.size))=aj:=by
      rw[hsz];simp;omega
     rw[ay (by rw[hcd];simp)];have:=Sa of (a.eval x).cells vs (by rw[hsz];exact hle);rw[<- Y,<-this]
    .cases hf
   .cases hf
theorem EL {t:TypeId}:∀(ps:List (Nat×Operand)) (ps':List (Nat×Nat×Operand)),xK P t ps=af ps'->ps'.length=ps.length/\∀(j:Nat) i x,ps[j]? =af (i,x)->∃of sz,ps'[j]? =af (of,sz,x)/\BW P t i=af (of,sz)
 |[],ps',h=>by simp only[xK,ak]at h;subst h;exact⟨rfl,λj i x M=>by simp at M⟩
 |(i,x)::ps,ps',h=>by
  simp only[xK]at h;split at h
  .rename_i of sz l h1 h2;simp only[ak]at h;subst h;obtain⟨Y,U⟩:=EL ps l h2;refine ⟨by simp[Y],λj J I hj=>?_⟩;cases j with
   |zero=>simp at hj;obtain⟨rfl,rfl⟩:=hj;exact⟨of,sz,rfl,h1⟩
   |succ j=>simpa using U j J I (by simpa using hj)
  .cases h
theorem Jc (w:World):∀(fs:List Field),(fs.all λf=>(fB P f.type).isSome)=ai->(fs.mapM (λf=>do pure (f.offset,<-sizeOf f.type)):Sem (List (Nat×Nat))).run P w= .ok (fs.map λf=>(f.offset,(fB P f.type).getD 0)) w
 |[],_=>by simp
 |f::fs,h=>by
  simp only[List.all_cons,av]at h;obtain⟨sz,hs⟩:=iP.1 h.1;have h1:=gB hs w;have I:=Jc w fs h.2;simp only[List.mapM_cons,eM,h1,cQ,o8,I,gq,hs,vu]
theorem Yq {t:TypeId} {ps:Array (Nat×Operand)} {z:ξ} {ps':List (Nat×Nat×Operand)} (M:o.op= .build t ps) (hz:tB P t=af z) (hc:mL z=ai) (hps:xK P t ps.toList=af ps')
 (hu:(∃fs,P.underlying t=af (.struct fs)/\(fs.toList.all λf=>(fB P f.type).isSome)=ai)\/∃n el sz,P.underlying t=af (.array n el)/\fB P el=af sz) (I:eU (.build z ps') e h nx=af R):gQ P o e.get h.get R.eff:=by
 simp only[eU]at I;split at I
 .rename_i cs hf;rw[dD I];refine gQ.reads λφ E h' w a _ hp _=>?_
  obtain⟨v,h1,h2,_⟩:=uc hz w;have hcells:v.cells=z.toArray:=by rw[<- h2]
  obtain⟨g1,g2⟩:=EL ps.toList ps' hps;have hops:∀p∈ps.toList,p.2∈o.op.operands:=λp hp=>by
   rw[M];simp only[Op.operands,List.mem_toArray,c_];exact⟨p,hp,rfl⟩
  have hmap:(ps.map λx:Nat×Operand=>(x.1,a.eval x.2)).toList=ps.toList.map λp=>(p.1,a.eval p.2):=by simp
  have fin:∀place:Nat->Option (Nat×Nat),(∀i,BW P t i≠ah->place i=BW P t i)->∃vs':ξ,Instr.fill place v.cells (ps.map λx:Nat×Operand=>(x.1,a.eval x.2)).toList=af vs'.toArray/\cW φ (tot E φ h') w (Nd cs) (.agg vs'.toArray):=by
   intro place hpl;obtain⟨vs',k1,k2⟩:=Pw (place:=place) hp ps.toList ps' _ cs z g1 (λj i x hj=>by
    obtain⟨of,sz,Z,Y⟩:=g2 j i x hj;exact⟨of,sz,Z,by rw[hpl i (by rw[Y];simp),Y]⟩) hops (Cs.raws z hc) hf
   refine ⟨vs',by rw[hmap,hcells];exact k1,?_⟩;unfold Nd;cases hfs:yp cs with
   |none=>exact .agg k2.1 k2.2.1 k2.2.2
   |some fs=>
    have he:=qe hfs;refine .f (.agg fs vs' (by rw[k2.1,he];simp) (λx J=>k2.2.1 (.f x) (by rw[he];exact c_.2 ⟨x,J,rfl⟩)) λj x u J hu=>?_);have:=k2.2.2 j (.f x) u (by rw[he,bc,J];rfl) hu;cases this with
    |f h=>exact h
  rcases hu with ⟨fs,hu,hall⟩|⟨n,el,sz,hu,hs⟩
  .obtain⟨vs',k1,k2⟩:=fin (λi=>(fs.map λf=>(f.offset,(fB P f.type).getD 0))[i]?) (λi hi=>by
    unfold BW at hi ⊢;rw[hu]at hi ⊢;simp only[Array.getElem?_map]at hi ⊢;cases hf:fs[i]? with
    |none=>rw[hf]at hi;simp at hi
    |some f=>
     simp only[co,aH];cases hs:fB P f.type with
     |none=>rw[hf]at hi;simp[hs]at hi
     |some sz=>simp)
   refine ⟨_,?_,k2⟩;have hm:=Jc w fs.toList hall;have U:(fs.mapM (λf=>do pure (f.offset,<-sizeOf f.type)):Sem (Array (Nat×Nat))).run P w= .ok (fs.map λf=>(f.offset,(fB P f.type).getD 0)) w:=by
    rw[Array.mapM_eq_mapM_toList];simp only[Sem.run_map,hm,cQ];congr 1;apply LI;simp
   unfold execOp;rw[M];simp only[Instr.build,eM,h1,cQ,run_underlying hu,U,o8,k1]
  .obtain⟨vs',k1,k2⟩:=fin (λi=>af (i*sz,sz)) (λi hi=>by
    unfold BW;rw[hu];simp[hs])
   refine ⟨_,?_,k2⟩;have h3:=gB hs w;unfold execOp;rw[M];simp only[Instr.build,eM,h1,cQ,run_underlying hu,h3,o8,k1]
 .cases I
end
section
variable {P:Program} {o:Oper} {e:Am} {h:ov} {nx:Nat} {R:CC}
theorem sT {t el:TypeId} (h:Bl P t=af el):P.underlying t=af (.slice el):=by
 unfold Bl at h;split at h
 .rename_i e hu;simp only[ak]at h;subst h;exact hu
 .cases h
theorem mS (z:ξ):∀n,(repl z n).length=n*z.length
 |0=>by simp[repl]
 |n+1=>by simp[repl,mS z n,iW];omega
theorem CY (z:ξ):∀(n j:Nat),j<n*z.length->(repl z n)[j]? =(z[j%z.length]?).map .raw
 |0,j,h=>by simp at h
 |n+1,j,h=>by
  have I:0<z.length:=by
   rcases LF z.length with h0|h0
   .rw[h0]at h;simp at h
   .exact h0
  rw[repl];rcases cf j z.length with hj|hj
  .rw[bK (by simpa using hj),bc,Nat.mod_eq_of_lt hj]
  .rw[bW (by simpa using hj),bY,CY z n (j-z.length) (by rw[iW]at h;omega),Nat.mod_eq_sub_mod hj]
theorem Yw {v:Value} {z:ξ} (hv:v.cells.toList=z) (n sz:Nat) (hl:z.length=sz) (hsz:sz≠0) (j:Nat) (hj:j<n*sz):
 ((yZ (n*sz)).map (λi=>v.cells[i%v.cells.size]!))[j]? =z[j%sz]? :=by
 have hs:v.cells.size=sz:=by rw[<- hl,<-hv];simp
 have hlt:j%sz<v.cells.size:=by rw[hs];exact Nat.mod_lt _ (by omega)
 rw[Array.getElem?_map,Array.getElem?_range];simp only[hj,bG,co,hs];rw[<- hv,cP,getElem!_pos v.cells _ hlt,ik hlt]
theorem Cs.repl {φ:PM} {O:Nat->Prop} {w:World} {v:Value} {z:ξ} (hv:v.cells.toList=z) (n sz:Nat) (hl:z.length=sz) (hsz:sz≠0) (hc:mL z=ai):
 Cs φ O w ((repl z n).map .f) ((yZ (n*sz)).map (λi=>v.cells[i%v.cells.size]!)).toList:=by
 have key:∀(j:Nat) (x:AV),((AI.repl z n).map AV.f)[j]? =af x->∃u,z[j%sz]? =af u/\x=raw u/\j<n*sz:=by
  intro j x I;rw[bc]at I;have hj:j<n*z.length:=by
   rcases cf j (n*z.length) with h|h
   .exact h
   .rw[bR (by rw[mS];exact h)]at I;cases I
  rw[CY z n j hj,hl]at I;cases hu:z[j%sz]? with
  |none=>rw[hu]at I;cases I
  |some u=>rw[hu]at I;simp at I;exact⟨u,rfl,I.symm,by rw[<- hl];exact hj⟩
 refine ⟨by simp[mS,hl],λx I=>?_,λj x u I hu=>?_⟩
 .obtain⟨j,hj⟩:=fm I;obtain⟨u,h1,rfl,_⟩:=key j x hj;exact gu.1 hc u (ba h1)
 .obtain⟨J,h1,rfl,hj⟩:=key j x I;rw[cP,Yw hv n sz hl hsz j hj,h1]at hu;cases hu;exact .f (.raw _)
theorem aom {t el:TypeId} {n sz:Nat} {ps:Array (Nat×Operand)} {z:ξ} {ps':List (Nat×Nat×Operand)} (Y:o.op= .buildSlice t n ps) (hu:P.underlying t=af (.slice el)) (hz:tB P el=af z) (hs:fB P el=af sz) (hc:mL z=ai) (hl:z.length=sz) (hsz:sz≠0) (hb:n*sz<=65536)
 (hps:xK P t ps.toList=af ps') (I:eU (.bsl el sz n z ps') e h nx=af R):gQ P o e.get h.get R.eff:=by
 simp only[eU]at I;split at I
 .rename_i cs hf;simp only[ak]at I;subst I;refine gQ.makes λφ E h' w a _ hp _=>?_
  obtain⟨v,h1,h2,_⟩:=uc hz w;obtain⟨g1,g2⟩:=EL ps.toList ps' hps;have hops:∀p∈ps.toList,p.2∈o.op.operands:=λp hp=>by
   rw[Y];simp only[Op.operands,List.mem_toArray,c_];exact⟨p,hp,rfl⟩
  have hmap:(ps.map λx:Nat×Operand=>(x.1,a.eval x.2)).toList=ps.toList.map λp=>(p.1,a.eval p.2):=by simp
  obtain⟨vs',k1,k2⟩:=Pw (place:=λi=>af (i*sz,sz)) hp ps.toList ps' _ cs _ g1 (λj i x hj=>by
   obtain⟨of,s',Z,J⟩:=g2 j i x hj;unfold BW at J;rw[hu]at J;simp[hs]at J;obtain⟨rfl,rfl⟩:=J;exact⟨_,_,Z,rfl⟩) hops (Cs.repl h2 n sz hl hsz hc) hf
  have hcells:(yZ (n*sz)).map ((if n*sz=0 then #[] else v.cells)[·%(if n*sz=0 then #[] else v.cells).size]!)=((yZ (n*sz)).map (λi=>v.cells[i%v.cells.size]!)).toList.toArray:=by
   by_cases h0:n*sz=0
   .simp[h0]
   .rw[Array.toArray_toList];simp only[ay h0]
  have hlen:vs'.length=n*sz:=by
   have e1:=k2.1;have e2:cs.length=((AI.repl z n).map AV.f).length:=by
    have:∀(ps':List (Nat×Nat×Operand)) (U M:List AV),zP U e ps'=af M->M.length=U.length:=by
     intro ps';induction ps' with
     |nil=>intro U M h;simp only[zP,ak]at h;rw[h]
     |cons p ps' ih=>
      intro U M h;obtain⟨of,s',x⟩:=p;simp only[zP]at h;split at h
      .split at h
       .rename_i hcc;simp only[av,c5]at hcc;rw[ih _ _ h,oK (by rw[hcc.1.1];exact a8 hcc.1.2)]
       .cases h
      .cases h
    exact this ps' _ _ hf
   rw[e1,e2];simp[mS,hl]
  refine ⟨.slice (af ⟨w.heap.size,0,ah⟩) n n,{w with heap:=w.heap.push (.cells vs'.toArray el)},.cells vs'.toArray el (0,0),?_,ru w _,I6 k2,λφ' O hφ=>?_⟩
  .have h3:=gB hs w;have hk:Instr.fill (λi=>af (i*sz,sz)) ((yZ (n*sz)).map ((if n*sz=0 then #[] else v.cells)[·%(if n*sz=0 then #[] else v.cells).size]!)) (ps.map λx:Nat×Operand=>(x.1,a.eval x.2)).toList=af vs'.toArray:=by
    rw[hcells,hmap];exact k1
   unfold execOp;rw[Y];simp only[Instr.buildSlice,eM,run_underlying hu,cQ,h3];rw[ay (by omega)];by_cases h0:n*sz=0
   .simp only[aD h0]at hk ⊢;simp only[eM,o8,cQ,hk,newRow,newObj,nL]
   .simp only[ay h0]at hk ⊢;simp only[eM,o8,cQ,h1,hk,newRow,newObj,nL]
  .simp only[];split
   .rename_i h0;subst h0;exact .emp
   refine .row hφ (bX _) ?_ ⟨el,?_⟩
   .have:n<=n*sz:=Nat.le_mul_of_pos_right _ (by omega);unfold maxLen;omega
   .unfold rZ;simp[hlen]
 .cases I
end
theorem rq.wren {φ:PM} {E:Nat->Prop} {h:HF} {w w':World} (r:rq φ E h w) {id nx k:Nat} {b b':xu} {ob:Obj} (hb:h id=af b) (hk:φ id=af k) (hnx:φ nx=ah) (U:FR w w' k ob) (hob:jC φ (tot E φ h) w b' ob) (nw:HF) (hnw:nw nx=af b') (hnid:nw id=ah):
 ∃φ',φ' nx=af k/\jg φ φ' h (eZ h [nx,id] nw) w w'/\(∀i k,φ' i=af k->φ i=af k\/i∈[nx])/\rq φ' E (eZ h [nx,id] nw) w':=by
 have hne:nx≠id:=λe=>by rw[e,hk]at hnx;cases hnx
 have hsub:∀i x,eZ h [nx,id] nw i=af x->i≠nx->h i=af x/\i≠id:=λi x Y hi=>by
  unfold eZ at Y;by_cases hd:i=id
  .subst hd;simp[hnid]at Y
  .simp[hi,hd]at Y;exact⟨Y,hd⟩
 have hφ:∀i,i≠nx->(if i=nx then af k else φ i)=φ i:=λi hi=>by simp[hi]
 have m:jg φ (λi=>if i=nx then af k else φ i) h (eZ h [nx,id] nw) w w':=by
  refine ⟨λi k' M=>?_,⟨U.os,U.tape,U.output,by rw[U.size];exact bX _,λj hj ho=>?_,λj _=>U.shp j⟩,?_⟩
  .have:i≠nx:=λe=>by rw[e,hnx]at M;cases M
   rw[hφ i this];exact M
  .exact U.other j (λe=>ho (e▸⟨id,b,hb,hk⟩))
  .rintro j hj ⟨i,x,h1,h2⟩;by_cases hi:i=nx
   .simp[hi]at h2;subst h2;exact⟨id,b,hb,hk⟩
   .have Z:φ i=af j:=by simpa[hi] using h2
    exact⟨i,x,(hsub i x h1 hi).1,Z⟩
 refine ⟨_,by simp,m,λi k' M=>?_,⟨λi j x y kk hi hj h1 h2=>?_,λi x hi=>?_,λk hk=>dE (r.el k hk) m.ext.size,λg cells hg=>m.keepF (r.gl g cells hg)⟩⟩
 .by_cases hi:i=nx
  .right;simp[hi]
  .left;rw[hφ i hi]at M;exact M
 .by_cases I:i=nx
  .by_cases J:j=nx
   .rw[I,J]
   .exfalso;rw[hφ j J]at h2;simp[I]at h1;subst h1;obtain⟨q1,q2⟩:=hsub j y hj J;exact q2 (r.inj j id y b k q1 hb h2 hk)
  .rw[hφ i I]at h1;obtain⟨p1,p2⟩:=hsub i x hi I;by_cases J:j=nx
   .exfalso;simp[J]at h2;subst h2;exact p2 (r.inj i id x b k p1 hb h1 hk)
   .rw[hφ j J]at h2;exact r.inj i j x y kk p1 (hsub j y hj J).1 h1 h2
 .by_cases I:i=nx
  .subst I;have:x=b':=by unfold eZ at hi;simp[hnw]at hi;exact hi.symm
   subst this;obtain⟨k',h1,h2,_⟩:=r.at_ id b hb;rw[hk]at h1;cases h1;exact⟨k,by simp,h2,ob,U.at_,hob.mono λ_ _ h=>m.keep h⟩
  .obtain⟨p1,p2⟩:=hsub i x hi I;obtain⟨k',h1,h2,ob',Z,h4⟩:=r.at_ i x p1;have hne':k'≠k:=λe=>p2 (r.inj i id x b k p1 hb (e▸h1) hk)
   exact⟨k',by rw[hφ i I];exact h1,h2,ob',by rw[U.other k' hne'];exact Z,h4.mono λ_ _ h=>m.keep h⟩
theorem rq.cs {φ:PM} {E:Nat->Prop} {h':HF} {w:World} (hrep:rq φ E h' w) {id k:Nat} {b:xu} (hb:h' id=af b) (hk:φ id=af k) (hc:b.c.isCells=ai):
 ∃arr,w.heap[k]? =af (.cells arr b.ty (0,0))/\Cs φ (tot E φ h') w b.c.toMx (arr.toList.take b.c.toMx.length)/\b.c.toMx.length<=arr.size:=by
 obtain⟨k',h1,_,h2⟩:=hrep.at_ id b hb;rw[hk]at h1;cases h1;obtain⟨arr,Z,M,J⟩:=h2.cells hc;rw[BC.len_toMx hc]at M;refine ⟨arr,Z,⟨by simp;omega,λx I=>?_,λj x v I hv=>?_⟩,M⟩
 .obtain⟨j,hj⟩:=fm I;exact (J j x (by rw[BC.get_toMx hc];exact hj)).1
 .obtain⟨_,u,Y,U⟩:=J j x (by rw[BC.get_toMx hc];exact I);rw[cZ]at hv;split at hv
  .rw[cP,Y]at hv;cases hv;exact U
  .cases hv
section
variable {P:Program} {o:Oper} {e:Am} {h:ov} {nx:Nat} {R:CC}
theorem N7 {t:TypeId} {b:Nat} (hb:FK P t=af b):∃i,P.info? t=af i/\i.bytes=b:=by
 unfold FK at hb;cases hi:P.info? t with
 |none=>rw[hi]at hb;cases hb
 |some i=>rw[hi]at hb;simp at hb;exact⟨i,rfl,hb⟩
theorem IU {n b:Nat} (h:a_ n b=ai):n<=1099511627776/\n*b<=1099511627776:=by
 simp only[a_,av]at h;exact⟨a8 h.1,a8 h.2⟩
theorem aao {n:Int} (h1: -9223372036854775808<=n) (h2:n<=9223372036854775807):pa .i64 n=n:=by
 rw[<- zg];have:(c6 (-9223372036854775808) n&&c6 n 9223372036854775807)=ai:=by simp[c6,h1,h2]
 simp only[H9,MZ,this,bG]
theorem aks {t el:TypeId} {sz bytes:Nat} {z:ξ} {l c:Operand} (ho:o.op= .makeSlice t l c) (hu:P.underlying t=af (.slice el)) (hz:tB P el=af z) (hs:fB P el=af sz) (hb:FK P el=af bytes) (hc:mL z=ai) (hl:z.length=sz) (hsz:sz≠0)
 (J:eU (.mksl el sz bytes z l c) e h nx=af R):gQ P o e.get h.get R.eff:=by
 simp only[eU]at J;split at J
 .rename_i k1 n k2 m I hy;split at J
  .rename_i hcd;simp only[c6,av,be]at hcd;obtain⟨⟨h0,h1⟩,h2⟩:=hcd;obtain⟨r1,r2⟩:=IU h2;simp only[ak]at J;subst J;refine gQ.makes λφ E h' w a _ hp _=>?_
   have e1:=fH (hp l _ (by rw[ho];simp[Op.operands]) I);have e2:=fH (hp c _ (by rw[ho];simp[Op.operands]) hy);obtain⟨v,z1,z2,_⟩:=uc hz w;obtain⟨i,i1,i2⟩:=N7 hb;have s1:=gB hs w;have w1:pa .i64 n=n:=aao (by omega) (by omega);have w2:pa .i64 m=m:=aao (by omega) (by omega);have hbm:(bytes:Int)*m=((m.toNat*bytes:Nat):Int):=by
    rw[Int.natCast_mul,Ho (by omega),Int.mul_comm]
   have t1:¬(m<0\/(281474976710656:Int)<bytes*m):=by rw[hbm];omega
   have hr:¬(m.toNat*bytes>roomBytes):=by unfold roomBytes;omega
   have hn0:m.toNat*sz=0->m.toNat=0:=λh=>(Nat.mul_eq_zero.1 h).resolve_right hsz
   let cells:Array Value:=(yZ (m.toNat*sz)).map (λi=>v.cells[i%v.cells.size]!)
   refine ⟨.slice (af ⟨w.heap.size,0,ah⟩) n.toNat m.toNat,{w with heap:=w.heap.push (.cells cells el)},.cells cells el (0,0),?_,ru w _,?_,λφ' O hφ=>?_⟩
   .unfold execOp;rw[ho];by_cases U:m.toNat*sz=0
    .obtain rfl:m=0:=by have:=hn0 U;omega
     obtain rfl:n=0:=by omega
     simp[Instr.makeSlice,run_underlying hu,e1,e2,asInt,asIntOf,typeInfo,i1,w1,askRoom,s1,newRow,newObj,nL,cells];rw[show yZ 0=#[] from rfl];simp
    .simp[Instr.makeSlice,run_underlying hu,e1,e2,asInt,asIntOf,typeInfo,i1,i2,w1,w2,t1,show ¬n<0 by omega,show ¬m<n by omega,askRoom,hr,s1,U,z1,newRow,newObj,nL,cells]
   .have cs:=Cs.repl (φ:=φ) (O:=tot E φ h') (w:=w) z2 m.toNat sz hl hsz hc;have hle:n.toNat<=m.toNat:=by omega
    have hlen:n.toNat*sz<=m.toNat*sz:=cL _ hle;refine qw rfl (by simp[BC.toMx,mS,hl,cells];exact hlen) λj x I=>?_
    simp only[BC.toMx,bc]at I;have hj:j<n.toNat*z.length:=by
     rcases cf j (n.toNat*z.length) with h|h
     .exact h
     .rw[bR (by rw[mS];exact h)]at I;cases I
    have Z:j<m.toNat*z.length:=by rw[hl]at hj ⊢;omega
    rw[CY z _ j hj,<-CY z m.toNat j Z]at I;have M:((repl z m.toNat).map AV.f)[j]? =af x:=by rw[bc];exact I
    have Y:j<cells.toList.length:=by simp[cells];rw[<- hl];exact Z
    exact⟨cs.2.1 x (ba M),cells.toList[j],by rw[<- cP];exact aB Y,cs.2.2 j x _ M (aB Y)⟩
   .refine .row hφ (by omega) (by unfold maxLen;omega) ⟨el,?_⟩;unfold rZ;simp[cells]
  .cases J
 .cases J
theorem aha {t:TypeId} {x y:Operand} {sz:Nat} (Y:o.op= .store t x y) (hs:fB P t=af sz) (I:eU (.store sz x y) e h nx=af R):gQ P o e.get h.get R.eff:=by
 simp only[eU]at I;split at I
 .rename_i p v hx hy;unfold Lg at I;split at I
  .rename_i id off;split at I
   .rename_i b hb;split at I
    .rename_i hl;split at I
     .rename_i c' hput;simp only[ak]at I;subst I;unfold BC.put at hput;split at hput
      .rename_i hcc;simp only[av]at hcc;obtain⟨⟨c1,c2⟩,c3⟩:=hcc;have c2:=a8 c2;have hl:v.cs.length=sz:=by simpa using hl
       have J:c'.toMx=splice b.c.toMx off v.cs/\c'.isCells=ai:=by
        split at hput
        .rename_i l ys hbl hys;simp only[ak]at hput;subst hput;refine ⟨?_,rfl⟩;have hv:=qe hys;rw[hv,hbl];simp only[BC.toMx];unfold splice;simp[kN,List.map_drop]
        .simp only[ak]at hput;subst hput;exact⟨rfl,rfl⟩
       refine gQ.writes hb λφ E h' w a hrd Z hp hrep=>?_
       have hr:=VR (hp y _ (by rw[Y];simp[Op.operands]) hy) c3;have hpx:=hp x _ (by rw[Y];simp[Op.operands]) hx;generalize hz:a.eval x=pv at hpx;cases hpx with
       |@ptr _ _ k hφ=>
        obtain⟨arr,g1,g2,g3⟩:=hrep.cs Z hφ c1;have hvl:(a.eval y).cells.toList.length=sz:=by rw[hr.1];exact hl
        rw[BC.len_toMx c1]at c2;have hst:=run_storeCells_at (P:=P) k off b.ty (a.eval y).cells.toList 0 arr w g1 (by rw[hvl];omega) hr.one
        let arr':Array Value:=(arr.toList.take off++(a.eval y).cells.toList++arr.toList.drop (off+sz)).toArray
        have hsize:arr'.size=arr.size:=by simp only[arr',tL,bx,bH,mN,iz,hvl];omega
        refine ⟨.skip,w.setRow k arr',k,.cells arr' b.ty (0,0),?_,hφ,FR.setRow g1 hsize,?_,undef,.inr ⟨rfl,rfl⟩,.f (.raw _)⟩
        .have s1:=gB hs w;have hvs:(a.eval y).cells.size=sz:=by simpa using hvl
         simp only[dx,hvl]at hst;unfold execOp;rw[Y];simp[Instr.storeAt,hz,Instr.sureAddr,storeVar,s1,hvs,hst,arr']
        .refine qw J.2 (by rw[J.1,oK (by omega),hsize];exact g3) λj q hq=>?_
         rw[J.1,mQ (by omega)]at hq;have ha':arr'[j]? =if j<off then arr.toList[j]? else if j<off+sz then (a.eval y).cells.toList[j-off]? else arr.toList[j]? :=by
          have:=mQ (l:=arr.toList) (vs:=(a.eval y).cells.toList) (off:=off) (by have:=hvl;simp only[iz]at this ⊢;omega) j;unfold splice at this;rw[hvl]at this;simp only[arr',ky];exact this
         have old:b.c.toMx[j]? =af q->q.isCell=ai/\∃u,arr.toList[j]? =af u/\cW φ (tot E φ h') w q u:=λhq=>by
          have hj:j<b.c.toMx.length:=(bl.1 hq).1;have U:j<arr.toList.length:=by simp;omega
          refine ⟨g2.2.1 q (ba hq),arr.toList[j],aB U,g2.2.2 j q _ hq ?_⟩;rw[cZ,aD hj,aB U]
         rw[ha'];by_cases h1:j<off
         .rw[aD h1]at hq ⊢;exact old hq
         .rw[ay h1]at hq ⊢;by_cases h2:j<off+sz
          .rw[aD (by omega)]at hq;rw[aD h2];have M:j-off<(a.eval y).cells.toList.length:=by omega
           exact⟨hr.2.1 q (ba hq),_,aB M,hr.2.2 _ q _ hq (aB M)⟩
          .rw[ay (by omega)]at hq;rw[ay h2];exact old hq
      .cases hput
     .cases I
    .cases I
   .cases I
  .cases I
 .cases I
end
section
variable {P:Program} {o:Oper} {e:Am} {h:ov} {nx:Nat} {R:CC}
theorem ao3 (A:Addr):A.add 0=A:=by cases A;simp[Addr.add]
theorem ao5 {t el:TypeId} {sz:Nat} {x:Operand} {lo hi mx:Option Operand} (J:o.op= .slice t x lo hi mx) (hu:P.underlying t=af (.slice el)) (hs:fB P el=af sz) (I:eU (.slc sz x lo hi mx) e h nx=af R):gQ P o e.get h.get R.eff:=by
 simp only[eU]at I;split at I
 .rename_i v Y;split at I
  ·
   rename_i k k';split at I
   .rename_i hsl;rw[dD I];refine gQ.reads λφ E h' w a _ hp _=>?_
    have hr:=hp x _ (by rw[J];simp[Op.operands]) Y;have U:∃A n c,a.eval x= .slice A n c:=by
     generalize a.eval x=z at hr;obtain⟨n,hn⟩:=iP.1 hsl;unfold AV.slen at hn;split at hn
     .cases hr with
      |f hr=>cases hr with
       |nil=>exact⟨_,_,_,rfl⟩
       |sl=>exact⟨_,_,_,rfl⟩
     .cases fH hr;exact⟨_,_,_,rfl⟩
     .cases hr;exact⟨_,_,_,rfl⟩
     .cases hr;exact⟨_,_,_,rfl⟩
     .cases hr;exact⟨_,_,_,rfl⟩
     .cases hn
    obtain⟨A,n,c,U⟩:=U;have s1:=gB hs w;refine ⟨.slice A 0 0,?_,.emp⟩;unfold execOp;rw[J];have z0:∀k,a.eval (.const (.int k 0))= .int k 0:=λ_=>rfl
    simp[pQ,ve,run_underlying hu,U,jV,kF,asIntOf,s1,z0]
   .cases I
  ·
   rename_i b;split at I
   .rename_i id sz' n k j hb;split at I
    .rename_i hc;simp only[c6,av,be,c5]at hc;obtain⟨⟨rfl,h0⟩,h1⟩:=hc;split at I
     .rename_i blk hblk;split at I
      .rename_i hcl;simp only[av]at hcl;obtain⟨hcells,hlen⟩:=hcl;have hlen:=a8 hlen;rw[BC.len_toMx hcells]at hlen;simp only[ak]at I;subst I;intro φ E h' w a g1 g2 g3 hrep g5;have hp:WR φ E h' w a e o:=λx y Y M=>t8 hrep g3 Y M
       have hb':h' id=af blk:=by rw[g1 id (by simp[CC.eff])];exact hblk
       have hr:=hp x _ (by rw[J];simp[Op.operands]) Y;have hbv:=fH (hp b _ (by rw[J];simp[Op.operands]) hb);have hnx:φ nx=ah:=g5 nx (by simp[CC.eff]);generalize U:a.eval x=z at hr;cases hr with
       |@row _ _ _ c q hφ hn hcap hsh=>
        obtain⟨arr,a1,a2,a3⟩:=hrep.cs hb' hφ hcells;have s1:=gB hs w;have hne:nx≠id:=λe=>by rw[e,hφ]at hnx;cases hnx
        have hnw1:jp [(nx,⟨blk.ty,pH (blk.c.toMx.take (j.toNat*sz'))⟩)] nx=af (⟨blk.ty,pH (blk.c.toMx.take (j.toNat*sz'))⟩:xu):=by simp[jp]
        have hnw2:jp [(nx,⟨blk.ty,pH (blk.c.toMx.take (j.toNat*sz'))⟩)] id=ah:=by
         simp only[jp];rw[ay];intro hb;exact hne (aw hb)
        have a4:=a2.take (j.toNat*sz');obtain⟨φ',p1,p2,p3,p4⟩:=hrep.wren hb' hφ hnx (w':=w) ⟨rfl,rfl,rfl,rfl,a1,λ_ _=>rfl,λ_=>rfl⟩ (b':=⟨blk.ty,pH (blk.c.toMx.take (j.toNat*sz'))⟩) (by
         obtain⟨q1,q2⟩:=nZ (blk.c.toMx.take (j.toNat*sz'));refine qw q2 (by rw[q1,bH];omega) λi x Y=>?_
         rw[q1]at Y;have hi:i<((arr.toList.take blk.c.toMx.length).take (j.toNat*sz')).length:=by rw[a4.1];exact (bl.1 Y).1
         refine ⟨a4.2.1 x (ba Y),_,?_,a4.2.2 i x _ Y (aB hi)⟩;have hi':i<arr.size:=by simp at hi;omega
         simp[hi']) _ hnw1 hnw2
        have hrun:(execOp a.eval o).run P w= .ok (.value (.slice (af ⟨q,0,ah⟩) j.toNat c)) w:=by
         unfold execOp;rw[J];simp[pQ,ve,run_underlying hu,U,jV,kF,asIntOf,s1,hbv,h0,show j<=c by omega,lm]
        unfold H7;rw[hrun];exact⟨_,φ',rfl,p2,p3,p4,.row p1 (by omega) hcap hsh⟩
      .cases I
     .cases I
    .cases I
   .rename_i cells n k j hb;split at I
    .rename_i hc;simp only[c6,av,be]at hc;obtain⟨⟨h0,h1⟩,h2⟩:=hc;have h2:=a8 h2;rw[dD I];refine gQ.reads λφ E h' w a _ hp _=>?_
     have hr:=hp x _ (by rw[J];simp[Op.operands]) Y;have hbv:=fH (hp b _ (by rw[J];simp[Op.operands]) hb);generalize U:a.eval x=z at hr;have s1:=gB hs w;cases hr with
     |f hr=>
      cases hr with
      |nil A c hc=>
       have hj:j=0:=by omega
       subst hj;refine ⟨.slice A 0 c,?_,by simpa using cW.f (.nil A c hc)⟩;unfold execOp;rw[J];cases A<;>simp[pQ,ve,run_underlying hu,U,jV,kF,asIntOf,s1,hbv,ao3]
      |sl _ _ c q off us hn hc hO hq hcl Z hr=>
       refine ⟨.slice (af ⟨q,off,ah⟩) j.toNat c,?_,.f (.sl _ _ _ _ _ us (by omega) hc hO hq (λy M=>hcl y (fZ M)) (λi hi=>Z i (by rw[bH]at hi;omega)) λi y M=>?_)⟩
       .unfold execOp;rw[J];simp[pQ,ve,run_underlying hu,U,jV,kF,asIntOf,s1,hbv,h0,show j<=c by omega,lm]
       .rw[cZ]at M;split at M
        .exact hr i y M
        .cases M
    .cases I
   .cases I
  ·
   rename_i b;split at I
   .rename_i id sz' n k j hb;split at I
    .rename_i hc;simp only[c6,fV,av,be,c5]at hc;obtain⟨⟨rfl,h0⟩,h1⟩:=hc;rw[dD I];refine gQ.reads λφ E h' w a _ hp _=>?_
     have hr:=hp x _ (by rw[J];simp[Op.operands]) Y;have hbv:=fH (hp b _ (by rw[J];simp[Op.operands]) hb);generalize U:a.eval x=z at hr;cases hr with
     |@row _ _ _ c q hφ hn hc hsh=>
      have s1:=gB hs w;refine ⟨.slice (af ⟨q,0+j.toNat*sz',ah⟩) (n-j.toNat) (c-j.toNat),?_,?_⟩
      .unfold execOp;rw[J];simp[pQ,ve,run_underlying hu,U,jV,kF,asIntOf,s1,hbv,h0,show j<=n by omega,show ¬c=j.toNat by omega,lm]
      .rw[bQ];exact .sl hφ (by omega) (by omega)
    .cases I
   .rename_i cells n k j hb;split at I
    .rename_i hc;simp only[c6,av,be]at hc;obtain⟨⟨h0,h1⟩,h2⟩:=hc;have h2:=a8 h2;rw[dD I];refine gQ.reads λφ E h' w a _ hp _=>?_
     have hr:=hp x _ (by rw[J];simp[Op.operands]) Y;have hbv:=fH (hp b _ (by rw[J];simp[Op.operands]) hb);generalize U:a.eval x=z at hr;have s1:=gB hs w;cases hr with
     |f hr=>
      cases hr with
      |nil A c hc=>
       have hj:j=0:=by omega
       subst hj;have hex:∃A',(execOp a.eval o).run P w= .ok (.value (.slice A' 0 c)) w:=by
        unfold execOp;rw[J];cases A with
        |none=>exact⟨ah,by simp[pQ,ve,run_underlying hu,U,jV,kF,asIntOf,s1,hbv]⟩
        |some A=>exact⟨af A,by simp[pQ,ve,run_underlying hu,U,jV,kF,asIntOf,s1,hbv,ao3]⟩
       obtain⟨A',hex⟩:=hex;exact⟨.slice A' 0 c,hex,by simpa using cW.f (.nil A' c hc)⟩
      |sl _ _ c q off us hn hc hO hq hcl Z hr=>
       by_cases hcj:c=j.toNat
       .refine ⟨.slice (af ⟨q,off,ah⟩) 0 0,?_,?_⟩
        .unfold execOp;rw[J];simp[pQ,ve,run_underlying hu,U,jV,kF,asIntOf,s1,hbv,h0,show j<=n by omega,hcj,show n-j.toNat=0 by omega,lm]
        .rw[show n-j.toNat=0 by omega];simpa using cW.f (.nil (af ⟨q,off,ah⟩) 0 (by unfold maxLen;omega))
       .refine ⟨.slice (af ⟨q,off+j.toNat*sz,ah⟩) (n-j.toNat) (c-j.toNat),?_,.f (.sl _ _ _ _ _ (λi=>us (j.toNat*sz+i)) (by omega) (by omega) hO hq (λy M=>hcl y (List.mem_of_mem_drop (fZ M))) (λi hi=>?_) λi y M=>?_)⟩
        .unfold execOp;rw[J];simp[pQ,ve,run_underlying hu,U,jV,kF,asIntOf,s1,hbv,h0,show j<=n by omega,hcj,lm]
        .rw[pO];refine Z _ ?_;rw[bH,mN]at hi;omega
        .rw[cZ]at M;split at M
         .rw[gY]at M;exact hr _ y M
         .cases M
    .cases I
   .cases I
  .cases I
 .cases I
theorem aba {sz:Nat} {x:AV} {src:List AV} {m:Nat} {rd:ι} (hrow:x.row? h sz=af (src,m,rd)) {φ:PM} {E:Nat->Prop} {h':HF} {w:World} (hrd:∀i∈rd,h' i=h.get i) (hrep:rq φ E h' w) {v:Value} (hr:cW φ (tot E φ h') w x v):
 ∃A c vs,v= .slice A m c/\Cs φ (tot E φ h') w src vs/\vs.length=m*sz/\(A=ah->vs=[])/\(∀J,A=af J->∀(j:Nat) u,vs[j]? =af u->w.cell? (J.add j)=af u):=by
 have emp:∀A c,v= .slice A 0 c->src=[]->m=0->∃A c vs,v= .slice A m c/\Cs φ (tot E φ h') w src vs/\vs.length=m*sz/\(A=ah->vs=[])/\(∀J,A=af J->∀(j:Nat) u,vs[j]? =af u->w.cell? (J.add j)=af u):=by
  rintro A c rfl rfl rfl;exact⟨A,c,[],rfl,⟨rfl,(by intro x I;cases I),(by intro j x v I;simp at I)⟩,by simp,λ_=>rfl,by intro J _ j u hu;simp at hu⟩
 have own:∀(id off n c k:Nat) (b:xu),φ id=af k->h' id=af b->b.c.isCells=ai->off+n*sz<=b.c.len->v= .slice (af ⟨k,off,ah⟩) n c->src=(b.c.toMx.drop off).take (n*sz)->m=n->
  ∃A c vs,v= .slice A m c/\Cs φ (tot E φ h') w src vs/\vs.length=m*sz/\(A=ah->vs=[])/\(∀J,A=af J->∀(j:Nat) u,vs[j]? =af u->w.cell? (J.add j)=af u):=by
  rintro id off n c k b hφ hb hc hle rfl rfl rfl;obtain⟨arr,g1,Z,g3⟩:=hrep.cs hb hφ hc;rw[BC.len_toMx hc]at hle;refine ⟨_,c,((arr.toList.take b.c.toMx.length).drop off).take (m*sz),rfl,(Z.drop off).take _,?_,(λh=>by cases h),?_⟩
  .simp;omega
  .intro J had j u hu;cases had;rw[lm];rw[cZ]at hu;split at hu
   .rw[gY,cZ]at hu;split at hu
    .rw[cP]at hu;simp[Oh,g1,hu]
    .cases hu
   .cases hu
 unfold AV.row? at hrow;split at hrow
 .rename_i cells n;split at hrow
  .rename_i hle;have hle:=a8 hle;simp only[ak,aE]at hrow;obtain⟨rfl,rfl,rfl⟩:=hrow;cases hr with
   |f hr=>
    cases hr with
    |nil a c hc=>exact emp a c rfl (by simp) rfl
    |sl _ _ c b off us hn hc hO hb hcl hu hr=>
     refine ⟨_,c,(bt (n*sz)).map us,rfl,⟨by simp;omega,λx I=>?_,λj x u I M=>?_⟩,by simp,(λh=>by cases h),?_⟩
     .obtain⟨y,Y,rfl⟩:=c_.1 I;exact hcl y (fZ Y)
     .obtain⟨rfl,hj⟩:=xZ us _ _ _ M;rw[bc,cZ,aD hj]at I;cases hq:cells[j]? with
      |none=>rw[hq]at I;cases I
      |some q=>rw[hq]at I;simp at I;subst I;exact .f (hr j q hq)
     .intro J had j u M;cases had;obtain⟨rfl,hj⟩:=xZ us _ _ _ M;rw[lm];exact hu j (by omega)
  .cases hrow
 .simp only[ak,aE]at hrow;obtain⟨rfl,rfl,rfl⟩:=hrow;exact emp ah 0 (fH hr) rfl rfl
 .simp only[ak,aE]at hrow;obtain⟨rfl,rfl,rfl⟩:=hrow;cases hr with
  |@emp a=>exact emp a 0 rfl rfl rfl
 .rename_i id sz' n;split at hrow
  .rename_i hsz;split at hrow
   .rename_i b hb;split at hrow
    .rename_i hc;simp only[av]at hc;simp only[ak,aE]at hrow;obtain⟨rfl,rfl,rfl⟩:=hrow;cases hr with
     |@row _ _ _ c k hφ hn U hsh=>
      exact own id 0 n c k b hφ (by rw[hrd id (by simp)];exact hb) hc.1 (by rw[bQ];exact a8 hc.2) rfl (by simp) rfl
    .cases hrow
   .cases hrow
  .cases hrow
 .rename_i id off n;split at hrow
  .rename_i b hb;split at hrow
   .rename_i hc;simp only[av]at hc;simp only[ak,aE]at hrow;obtain⟨rfl,rfl,rfl⟩:=hrow;cases hr with
    |@sl _ _ _ c k hφ hn U=>exact own id off n c k b hφ (by rw[hrd id (by simp)];exact hb) hc.1 (a8 hc.2) rfl rfl rfl
   .cases hrow
  .cases hrow
 .cases hrow
theorem afb {sz:Nat} {x:AV} {src:List AV} {m:Nat} {rd:ι} (hrow:x.row? h sz=af (src,m,rd)) {φ:PM} {E:Nat->Prop} {h':HF} {w:World} (hrd:∀i∈rd,h' i=h.get i) (hrep:rq φ E h' w) {v:Value} (hr:cW φ (tot E φ h') w x v) {I el:TypeId} (hk:P.underlying I=af (.slice el)):
 ∃vs,Src P sz I v m vs w/\Cs φ (tot E φ h') w src vs:=by
 obtain⟨A,c,vs,rfl,h1,h2,U,M⟩:=aba hrow hrd hrep hr;refine ⟨vs,?_,h1⟩;cases A with
 |none=>
  have:=U rfl;subst this;have hm:m*sz=0:=by simpa using h2.symm
  refine ⟨.inl ⟨el,hk⟩,λ_=>rfl,run_firstCells_none w sz m m c,run_firstCells_none w.drew sz m m c,by simp[hm],λ_ h=>by cases h⟩
 |some J=>exact Src.ofSlice w hk J m c vs h2 (M J rfl) h1.one
theorem ajy {x:Nat}:∀{l:ι},YN x l=ai↔x∈l
 |[]=>by simp[YN]
 |y::r=>by
  simp only[YN,i_,ajy (l:=r),bm];constructor
  .rintro (h|h)
   .exact .inl (aw h).symm
   .exact .inr h
  .rintro (h|h)
   .subst h;exact .inl (r7 x)
   .exact .inr h
theorem aky {t u el el':TypeId} {d x:Operand} {sz:Nat} (ho:o.op= .call {callee:=.builtin .copy,args:=#[d,x],argTypes:=#[t,u]}) (hu:P.underlying t=af (.slice el)) (hu':P.underlying u=af (.slice el')) (hs:fB P el=af sz) (J:eU (.copy sz d x) e h nx=af R):gQ P o e.get h.get R.eff:=by
 simp only[eU]at J;split at J
 .rename_i id sz' n y hd hx;split at J
  .rename_i blk src m rd hblk hrow;split at J
   .rename_i hc;simp only[av,c5,eC]at hc;obtain⟨⟨rfl,hmem⟩,hlen⟩:=hc;split at J
    .rename_i c' hput;simp only[ak]at J;subst J;unfold BC.put at hput;split at hput
     .rename_i hcc;simp only[av]at hcc;obtain⟨⟨c1,Z⟩,c3⟩:=hcc;have Z:=a8 Z;rw[bQ]at Z;have M:c'.toMx=splice blk.c.toMx 0 (src.take (iX m n*sz'))/\c'.isCells=ai:=by
       split at hput
       .rename_i l ys hbl hys;simp only[ak]at hput;subst hput;refine ⟨?_,rfl⟩;have hv:=qe hys;rw[hv,hbl];simp only[BC.toMx];unfold splice;simp[kN,List.map_drop]
       .simp only[ak]at hput;subst hput;exact⟨rfl,rfl⟩
      refine gQ.writes hblk λφ E h' w a hrd hb' hp hrep=>?_
      have hpd:=hp d _ (by rw[ho];simp[Op.operands,eY]) hd;have hpx:=hp x _ (by rw[ho];simp[Op.operands,eY]) hx;obtain⟨A,c,vs,hv,q1,q2,q3,q4⟩:=aba hrow (λi hi=>hrd i (by simp[hi])) hrep hpx;generalize hz:a.eval d=pv at hpd;cases hpd with
      |@row _ _ _ cap k hφ hn hcap hsh=>
       obtain⟨arr,g1,g2,g3⟩:=hrep.cs hb' hφ c1;rw[BC.len_toMx c1]at Z;have hmn:iX m n<=m:=Nat.min_le_left _ _;have hle:iX m n*sz'<=m*sz':=cL _ hmn
       let I:=vs.take (iX m n*sz')
       have hnl:I.length=iX m n*sz':=by simp only[I,bH,q2];omega
       have hsl:(src.take (iX m n*sz')).length=iX m n*sz':=by rw[bH,<-q1.1,q2];omega
       have csn:=q1.take (iX m n*sz');rw[hsl]at Z;have hst:=run_storeCells_at (P:=P) k 0 blk.ty I 0 arr w g1 (by rw[hnl];omega) csn.one
       let arr':Array Value:=(arr.toList.take 0++I++arr.toList.drop (0+iX m n*sz')).toArray
       have hsize:arr'.size=arr.size:=by simp only[arr',tL,bx,bH,mN,iz,hnl];omega
       have hfc:(LH sz' (iX m n) (.slice A m c)).run P w= .ok I.toArray w:=by
        cases A with
        |none=>
         have:I=[]:=by simp[I,q3 rfl]
         rw[this];exact run_firstCells_none w sz' _ _ _
        |some ad=>exact run_firstCells_some w sz' _ ad m c I hnl (λj u hu=>q4 ad rfl j u (by
          simp only[I,cZ]at hu;split at hu
          .exact hu
          .cases hu))
       refine ⟨.value (.int .i64 (iX m n)),w.setRow k arr',k,.cells arr' blk.ty (0,0),?_,hφ,FR.setRow g1 hsize,?_,_,.inl rfl,.f (.raw _)⟩
       .have s1:=gB hs w;simp only[dx,hnl]at hst;unfold execOp;rw[ho];simp[resolve,invoke,builtin,Builtin.copy_,run_underlying hu,hz,hv,Builtin.lenOf,s1,hfc,hst,goInt,arr']
       .refine qw M.2 (by rw[M.1,oK (by rw[hsl];omega),hsize];exact g3) λj q hq=>?_
        rw[M.1,mQ (by rw[hsl];omega)]at hq;have ha':arr'[j]? =if j<0 then arr.toList[j]? else if j<0+I.length then I[j-0]? else arr.toList[j]? :=by
         have:=mQ (l:=arr.toList) (vs:=I) (off:=0) (by simp only[iz];omega) j;unfold splice at this;simp only[arr',ky];rw[<- this,hnl]
        rw[ha',ay (by omega)];rw[ay (by omega),hsl]at hq;rw[hnl];by_cases h2:j<0+iX m n*sz'
        .rw[aD h2]at hq ⊢;have U:j-0<I.length:=by rw[hnl];omega
         exact⟨csn.2.1 q (ba hq),_,aB U,csn.2.2 _ q _ hq (aB U)⟩
        .rw[ay h2]at hq ⊢;have hj:j<blk.c.toMx.length:=(bl.1 hq).1;have Y:j<arr.toList.length:=by simp;omega
         refine ⟨g2.2.1 q (ba hq),arr.toList[j],aB Y,g2.2.2 j q _ hq ?_⟩;rw[cZ,aD hj,aB Y]
     .cases hput
    .cases J
   .cases J
  .cases J
 .cases J
theorem aol {t el:TypeId} {sz:Nat} {z:ξ} {x:Operand} (ho:o.op= .call {callee:=.builtin .clear,args:=#[x],argTypes:=#[t]}) (hu:P.underlying t=af (.slice el)) (hz:tB P el=af z) (hc:mL z=ai) (hl:z.length=sz) (hsz:sz≠0) (J:eU (.clr sz z x) e h nx=af R):gQ P o e.get h.get R.eff:=by
 simp only[eU]at J;split at J
 .rename_i id off n hx;split at J
  .rename_i blk hblk;split at J
   .rename_i hn;have hn:=a8 hn;obtain⟨m,rfl⟩:∃m,n=m+1:=⟨n-1,by omega⟩
    split at J
    .rename_i c' hput;simp only[ak]at J;subst J;unfold BC.put at hput;split at hput
     .rename_i hcc;simp only[av]at hcc;obtain⟨⟨c1,c2⟩,c3⟩:=hcc;have c2:=a8 c2;have hsrc:((repl z (m+1)).map AV.f).length=(m+1)*sz:=by rw[bY,mS,hl]
      rw[hsrc]at c2;have U:c'.toMx=splice blk.c.toMx off ((repl z (m+1)).map AV.f)/\c'.isCells=ai:=by
       split at hput
       .rename_i l ys hbl hys;simp only[ak]at hput;subst hput;refine ⟨?_,rfl⟩;have hv:=qe hys;rw[hv,hbl];simp only[BC.toMx];unfold splice;simp[kN,List.map_drop]
       .simp only[ak]at hput;subst hput;exact⟨rfl,rfl⟩
      refine gQ.writes hblk λφ E h' w a hrd hb' hp hrep=>?_
      have hpx:=hp x _ (by rw[ho];simp[Op.operands,eY]) hx;generalize hzv:a.eval x=pv at hpx;cases hpx with
      |@sl _ _ _ cap k hφ hn2 hcap=>
       obtain⟨arr,g1,Z,g3⟩:=hrep.cs hb' hφ c1;rw[BC.len_toMx c1]at c2;obtain⟨v,z1,z2,_⟩:=uc hz w;have csn:=Cs.repl (φ:=φ) (O:=tot E φ h') (w:=w) z2 (m+1) sz hl hsz hc
       let M:=(lG v.cells (m+1)).toList
       have hvs:v.cells.size=sz:=by rw[<- hl,<-z2];simp
       have hns:M=((yZ ((m+1)*sz)).map (λi=>v.cells[i%v.cells.size]!)).toList:=by simp only[M,lG,hvs]
       have hnl:M.length=(m+1)*sz:=by rw[hns];simp
       rw[<- hns]at csn;have hst:=run_storeCells_at (P:=P) k off blk.ty M 0 arr w g1 (by rw[hnl];omega) csn.one
       let arr':Array Value:=(arr.toList.take (off+0)++M++arr.toList.drop (off+0+M.length)).toArray
       have hsize:arr'.size=arr.size:=by simp only[arr',tL,bx,bH,mN,iz,hnl];omega
       refine ⟨.value (.tuple #[]),w.setRow k arr',k,.cells arr' blk.ty (0,0),?_,hφ,FR.setRow g1 hsize,?_,_,.inl rfl,.tup (vs:=[]) rfl λj y v hy=>by simp at hy⟩
       .unfold execOp;rw[ho];have hst2:(storeCells ⟨k,off,ah⟩ (lG v.cells (m+1)).toList).run P w= .ok () (w.setRow k arr'):=hst;simp[resolve,invoke,builtin,Builtin.clear_,run_underlying hu,hzv,z1,hst2]
       .refine qw U.2 (by rw[U.1,oK (by rw[hsrc];omega),hsize];exact g3) λj q hq=>?_
        rw[U.1,mQ (by rw[hsrc];omega)]at hq;have ha':arr'[j]? =if j<off then arr.toList[j]? else if j<off+M.length then M[j-off]? else arr.toList[j]? :=by
         have:=mQ (l:=arr.toList) (vs:=M) (off:=off) (by simp only[iz];omega) j;unfold splice at this;simp only[arr',ky,dx];rw[<- this]
        rw[ha'];rw[hsrc]at hq;rw[hnl];by_cases h1:j<off
        .rw[aD h1]at hq ⊢;have hj:j<blk.c.toMx.length:=(bl.1 hq).1;have I:j<arr.toList.length:=by simp;omega
         refine ⟨Z.2.1 q (ba hq),arr.toList[j],aB I,Z.2.2 j q _ hq ?_⟩;rw[cZ,aD hj,aB I]
        rw[ay h1]at hq ⊢;by_cases h2:j<off+(m+1)*sz
        .rw[aD h2]at hq ⊢;have Y:j-off<M.length:=by rw[hnl];omega
         exact⟨csn.2.1 q (ba hq),_,aB Y,csn.2.2 _ q _ hq (aB Y)⟩
        .rw[ay h2]at hq ⊢;have hj:j<blk.c.toMx.length:=(bl.1 hq).1;have I:j<arr.toList.length:=by simp;omega
         refine ⟨Z.2.1 q (ba hq),arr.toList[j],aB I,Z.2.2 j q _ hq ?_⟩;rw[cZ,aD hj,aB I]
     .cases hput
    .cases J
   .cases J
  .cases J
 .cases J
end
theorem M0 (w:World) (ob:Obj):TZ w (w.drew.alloc ob) ob:=TZ.drawn (w.drawn+1) (ru {w with drawn:=w.drawn+1} ob)
section
variable {P:Program} {o:Oper} {e:Am} {h:ov} {nx:Nat} {R:CC}
theorem IA {v:Value} {z:ξ} {sz:Nat} (hv:v.cells.toList=z) (hl:z.length=sz) (n:Nat):(lG v.cells n).size=n*sz:=by
 have:v.cells.size=sz:=by rw[<- hl,<-hv];simp
 simp[lG,this]
theorem TK {t u el:TypeId} {s x:Operand} {i:TypeInfo} {z:ξ} (ho:o.op= .call {callee:=.builtin .append,args:=#[s,x],argTypes:=#[t,u]}) (hu:P.underlying t=af (.slice el)) (U:P.info? el=af i) (hz:tB P el=af z) (hzl:z.length=i.size)
 {φ:PM} {E:Nat->Prop} {h':HF} {w:World} {a:Act} (hrep:rq φ E h' w) (hnx:φ nx=ah) {A:Option Addr} {n cap m:Nat} {olds vs:ξ} {oldA src:List AV} (hsl:a.eval s= .slice A n cap)
 (hold:(LH i.size n (.slice A n cap)).run P w.drew= .ok olds.toArray w.drew) (csold:Cs φ (tot E φ h') w oldA olds) (hol:olds.length=n*i.size) (hsrc:Src P i.size u (a.eval x) m vs w) (hcs:Cs φ (tot E φ h') w src vs)
 (hg:cap<n+m) (r1:n+m<=1099511627776) (r2:(n+m)*i.bytes<=1099511627776) (del:ι) (hdel:∀j∈del,j≠nx):
 o.wp P a w (λa' w'=>∃v φ',a'=a.put o.dst v/\jg φ φ' h' (eZ h' (nx::del) (jp [(nx,⟨el,pH (oldA++src)⟩)])) w w'/\(∀i k,φ' i=af k->φ i=af k\/i∈[nx])/\
  rq φ' E (eZ h' (nx::del) (jp [(nx,⟨el,pH (oldA++src)⟩)])) w'/\cW φ' (tot E φ' (eZ h' (nx::del) (jp [(nx,⟨el,pH (oldA++src)⟩)]))) w' (.row nx i.size (n+m)) v) (λ_ _ _=>False):=by
 obtain⟨J,z1,Z,i',I,Y⟩:=uc hz w;rw[U]at I;cases I;have hfb:=growslice_fits (need:=n+m) (old:=cap) (bytes:=i.bytes) hg (by omega);have hrun:=run_append_grow_src w t u o.type el i J hu U Y A n cap olds hold (a.eval x) m vs hsrc hg (by omega) hfb;have hgc:=grownCap_ge w (n+m) cap el;have hgm:=grownCap_le_maxLen w (n+m) cap el (by unfold maxLen;omega);generalize grownCap w (n+m) cap el=Gc at hrun hgc hgm;have cs:=csold.append hcs;have hnl:=hsrc.newsLen;obtain⟨φ',p1,p2,p3,p4⟩:=hrep.wnew hnx (M0 w _) (b:=⟨el,pH (oldA++src)⟩) (ob:=.cells ((olds++vs).toArray++lG J.cells (Gc-(n+m))) el (0,0)) (by
  obtain⟨M,q2⟩:=nZ (oldA++src);refine qw q2 (by rw[M,<-cs.1];simp) λj q hq=>?_
  rw[M]at hq;have hj:j<(olds++vs).length:=by rw[cs.1];exact (bl.1 hq).1
  refine ⟨cs.2.1 q (ba hq),_,?_,cs.2.2 j q _ hq (aB hj)⟩;rw[Array.getElem?_append_left (by simpa using hj),ky,aB hj]) del (jp [(nx,⟨el,pH (oldA++src)⟩)]) (by simp[jp]) (λj hj hne=>by
   simp only[jp];rw[ay];intro hb;exact hne (aw hb).symm)
 have hexec:(execOp a.eval o).run P w= .ok (.value (.slice (af ⟨w.heap.size,0,ah⟩) (n+m) Gc)) (w.drew.alloc (.cells ((olds++vs).toArray++lG J.cells (Gc-(n+m))) el)):=by
  unfold execOp;rw[ho];simp only[resolve,invoke,builtin,eM,o8,cQ,List.map_toArray,gq,List.map_nil,hsl,hrun]
 unfold H7;rw[hexec];refine ⟨_,φ',rfl,p2,p3,p4,.row p1 hgc hgm ⟨el,?_⟩⟩;have:=(M0 w (.cells ((olds++vs).toArray++lG J.cells (Gc-(n+m))) el (0,0))).at_;unfold rZ;rw[this];have hzs:=IA Z hzl (Gc-(n+m));have e1:(n+m)*i.size+(Gc-(n+m))*i.size=Gc*i.size:=by rw[<- Ol];congr 1;omega
 simp only[Array.size_append,tL,bx,hol,hnl,hzs];congr 2;rw[<- e1,Ol]
theorem aoo {t u el el':TypeId} {s x:Operand} {sz bytes:Nat} {z:ξ} (U:o.op= .call {callee:=.builtin .append,args:=#[s,x],argTypes:=#[t,u]}) (hu:P.underlying t=af (.slice el)) (hu':P.underlying u=af (.slice el')) (hs:fB P el=af sz) (hb:FK P el=af bytes) (hz:tB P el=af z) (hzl:z.length=sz) (hsz:sz≠0)
 (I:eU (.app el sz bytes s x) e h nx=af R):gQ P o e.get h.get R.eff:=by
 obtain⟨i,Y,i2⟩:=N7 hb;have i3:i.size=sz:=by unfold fB at hs;rw[Y]at hs;simpa using hs
 subst i2;subst i3;simp only[eU]at I;split at I
 .rename_i bv y hsv M;split at I
  .rename_i src m rd hrow;have common:∀{φ:PM} {E:Nat->Prop} {h':HF} {w:World} {a:Act},(∀i∈rd,h' i=h.get i)->WR φ E h' w a e o->rq φ E h' w->∃vs,Src P i.size u (a.eval x) m vs w/\Cs φ (tot E φ h') w src vs:=
    λhrd hp hrep=>afb hrow hrd hrep (hp x _ (by rw[U];simp[Op.operands,eY]) M) hu'
   have exec:∀{w w':World} {a:Act} {v:Value},(Builtin.append_ #[t,u] o.type #[a.eval s,a.eval x]).run P w= .ok v w'->(execOp a.eval o).run P w= .ok (.value v) w':=by
    intro w w' a v hrun;unfold execOp;rw[U];simp[resolve,invoke,builtin,hrun]
   split at I
   .rename_i id sz' n;split at I
    .rename_i blk hblk;split at I
     .rename_i hc;simp only[av,c5,eC]at hc;obtain⟨⟨⟨⟨⟨rfl,hmem⟩,hcells⟩,hlen⟩,hty⟩,hroom⟩:=hc;have hlen:=a8 hlen;rw[BC.len_toMx hcells]at hlen;obtain⟨r1,r2⟩:=IU hroom;simp only[ak]at I;subst I;subst hty;intro φ E h' w a h1 h2 h3 hrep h5;have hp:WR φ E h' w a e o:=λx y M hy=>t8 hrep h3 M hy
      have hb':h' id=af blk:=by rw[h1 id (by simp[CC.eff])];exact hblk
      obtain⟨vs,hsrc,hcs⟩:=common (λi hi=>h1 i (by simp[CC.eff,hi])) hp hrep;have hpd:=hp s _ (by rw[U];simp[Op.operands,eY]) hsv;have hnx:φ nx=ah:=h5 nx (by simp[CC.eff]);have hwv:=hp s _ (by rw[U];simp[Op.operands,eY]) hsv;generalize hzv:a.eval s=pv at hpd;cases hpd with
      |@row _ _ _ cap k hφ hn hcap hsh=>
       obtain⟨arr,g1,g2,g3⟩:=hrep.cs hb' hφ hcells;have hne:nx≠id:=λe=>by rw[e,hφ]at hnx;cases hnx
       have harr:arr.size=cap*i.size:=by
        obtain⟨ty,hty⟩:=hsh;unfold rZ at hty;rw[g1]at hty;simp at hty;exact hty.2
       have hnl:=hsrc.newsLen;have hnn:n*i.size<=arr.size:=by omega
       have csnew:Cs φ (tot E φ h') w (blk.c.toMx.take (n*i.size)++src) (arr.toList.take (n*i.size)++vs):=by
        have:=(g2.take (n*i.size)).append hcs
        rwa [List.take_take,sX hlen]at this
       have hnw1:jp [(nx,⟨blk.ty,pH (blk.c.toMx.take (n*i.size)++src)⟩)] nx=af ⟨blk.ty,pH (blk.c.toMx.take (n*i.size)++src)⟩:=by simp[jp]
       have hnw2:jp [(nx,⟨blk.ty,pH (blk.c.toMx.take (n*i.size)++src)⟩)] id=ah:=by
        simp only[jp];rw[ay];intro hb;exact hne (aw hb)
       by_cases hfit:n+m<=cap
       ·
        have hend:n*i.size+vs.length<=arr.size:=by
         rw[hnl,harr,<-Ol];exact cL _ hfit
        have hst:=run_storeCells_at (P:=P) k (n*i.size) blk.ty vs 0 arr w g1 (by omega) hsrc.one;simp only[dx]at hst
        let arr':Array Value:=(arr.toList.take (n*i.size)++vs++arr.toList.drop (n*i.size+vs.length)).toArray
        have hsize:arr'.size=arr.size:=by simp only[arr',tL,bx,bH,mN,iz];omega
        have hrun:(Builtin.append_ #[t,u] o.type #[a.eval s,a.eval x]).run P w= .ok (.slice (af ⟨k,0,ah⟩) (n+m) cap) (w.setRow k arr'):=by
         rw[hzv];rcases hsrc.kind with ⟨e',hk⟩|hk<;>simp[Builtin.append_,run_underlying hu,run_underlying hk,sizeOf,typeInfo,Y,hsrc.len,hfit,hsrc.cells,lm,hst,arr']
        obtain⟨φ',p1,p2,p3,p4⟩:=hrep.wren hb' hφ hnx (FR.setRow g1 hsize) (b':=⟨blk.ty,pH (blk.c.toMx.take (n*i.size)++src)⟩) (by
         obtain⟨q1,q2⟩:=nZ (blk.c.toMx.take (n*i.size)++src);refine qw q2 (by rw[q1,<-csnew.1,hsize];simp;omega) λj q hq=>?_
         rw[q1]at hq;have hj:j<(arr.toList.take (n*i.size)++vs).length:=by rw[csnew.1];exact (bl.1 hq).1
         refine ⟨csnew.2.1 q (ba hq),_,?_,csnew.2.2 j q _ hq (aB hj)⟩;simp only[arr',ky];rw[bK hj,aB hj]) _ hnw1 hnw2
        unfold H7;rw[exec hrun];refine ⟨_,φ',rfl,p2,p3,p4,.row p1 hfit hcap ⟨blk.ty,?_⟩⟩;unfold rZ;rw[setRow_heap w k arr arr' blk.ty (0,0) g1];simp[hsize,harr]
       ·
        have hold:(LH i.size n (.slice (af ⟨k,0,ah⟩) n cap)).run P w.drew= .ok (arr.toList.take (n*i.size)).toArray w.drew:=by
         refine run_firstCells_some w.drew i.size n _ n cap _ (by simp;omega) λj v hv=>?_
         rw[cZ]at hv;split at hv
         .rw[cP]at hv;rw[lm,bQ];have hcl:w.cell? ⟨k,j,ah⟩=af v:=by simp[Oh,g1,hv]
          simpa using hcl
         .cases hv
        exact TK U hu Y hz hzl hrep hnx hzv hold (by
         have:=g2.take (n*i.size)
         rwa [List.take_take,sX hlen]at this) (by simp;omega) hsrc hcs (by omega) r1 r2 [id] (λj hj=>by simp at hj;subst hj;exact λe=>hne e.symm)
     .cases I
    .cases I
   .split at I
    .rename_i hc;simp only[av]at hc;obtain⟨J,hroom⟩:=hc;obtain⟨r1,r2⟩:=IU hroom;have hbase:∀{φ:PM} {O:Nat->Prop} {w:World} {v:Value},cW φ O w bv v->∃A,v= .slice A 0 0:=by
      intro φ O w v hr;unfold Jq at J;split at J
      .cases hr;exact⟨_,rfl⟩
      .rename_i q;cases fH hr;unfold Ay at J;split at J
       .exact⟨_,rfl⟩
       .cases J
      .cases J
     split at I
     .rename_i hm;have hm:m=0:=by simpa using hm
      subst hm;simp only[ak]at I;subst I;refine gQ.reads λφ E h' w a hrd hp hrep=>?_
      obtain⟨vs,hsrc,hcs⟩:=common hrd hp hrep;have hr:=hp s _ (by rw[U];simp[Op.operands,eY]) hsv;obtain⟨A,hA⟩:=hbase hr;refine ⟨a.eval s,exec ?_,hr⟩;rw[hA];have hvs:vs=[]:=by have:=hsrc.newsLen;simpa using this
      have Z:=hsrc.cells;rw[hvs]at Z;rcases hsrc.kind with ⟨e',hk⟩|hk<;>cases A<;>simp[Builtin.append_,run_underlying hu,run_underlying hk,sizeOf,typeInfo,Y,hsrc.len,Z,storeCells]
     .rename_i hm;have hm:m≠0:=by simpa using hm
      simp only[ak]at I;subst I;intro φ E h' w a h1 h2 h3 hrep h5;have hp:WR φ E h' w a e o:=λx y M hy=>t8 hrep h3 M hy
      obtain⟨vs,hsrc,hcs⟩:=common (λi hi=>h1 i hi) hp hrep;obtain⟨A,hA⟩:=hbase (hp s _ (by rw[U];simp[Op.operands,eY]) hsv);have hold:(LH i.size 0 (.slice A 0 0)).run P w.drew= .ok ([]:ξ).toArray w.drew:=by
       cases A with
       |none=>exact run_firstCells_none w.drew i.size 0 0 0
       |some ad=>exact run_firstCells_some w.drew i.size 0 ad 0 0 [] (by simp) (by intro j v hv;simp at hv)
      have:=TK (nx:=nx) (n:=0) (cap:=0) (olds:=[]) (oldA:=[]) U hu Y hz hzl hrep (h5 nx (by simp[CC.eff])) hA hold ⟨rfl,(by intro x M;cases M),(by intro j x v M;simp at M)⟩ (by simp) hsrc hcs (by omega) (by omega) (by simpa using r2) [] (by simp);simpa[CC.eff] using this
    .cases I
  .cases I
 .cases I
end
section
variable {P:Program} {o:Oper} {e:Am} {h:ov} {nx:Nat} {R:CC}
theorem aoc {t:TypeId} (M:o.op= .makeMap t ah) (I:eU .mkm e h nx=af R):gQ P o e.get h.get R.eff:=by
 simp only[eU,ak]at I;subst I;refine gQ.makes λφ E h' w a _ _ _=>?_
 refine ⟨.map (af w.heap.size),{w with heap:=w.heap.push (.map #[] 0)},.map #[] 0,?_,ru w _,⟨#[],0,rfl,rfl,by intro j x J;simp at J⟩,λφ' O hφ=>.mp hφ⟩;unfold execOp;rw[M];simp[Instr.makeMap,newObj,nL]
theorem ao6 {t:TypeId} {x:Operand} (J:o.op= .range t x) (hu:P.underlying t=af .string) (I:eU (.rng x) e h nx=af R):gQ P o e.get h.get R.eff:=by
 simp only[eU]at I;split at I
 .rename_i s M;simp only[ak]at I;subst I;refine gQ.makes λφ E h' w a _ hp _=>?_
  have hr:=fH (hp x _ (by rw[J];simp[Op.operands]) M);refine ⟨.pointer (af ⟨w.heap.size,0,ah⟩),{w with heap:=w.heap.push (.stringIter s 0)},.stringIter s 0,?_,ru w _,rfl,λφ' O hφ=>.ptr hφ⟩;unfold execOp;rw[J];simp[Instr.range,run_underlying hu,hr,newObj,nL]
 .cases I
theorem IC {w:World} {k:Nat} {ob ob':Obj} (hk:w.heap[k]? =af ob) (h1:∀c t f,ob≠ .cells c t f) (h2:∀c t f,ob'≠ .cells c t f):FR w {w with heap:=w.heap.setIfInBounds k ob'} k ob':=by
 have hlt:k<w.heap.size:=(cJ.1 hk).1;have hat:(w.heap.setIfInBounds k ob')[k]? =af ob':=by simp[hlt]
 have hot:∀j,j≠k->(w.heap.setIfInBounds k ob')[j]? =w.heap[j]? :=λj hj=>qg (λe=>hj e.symm)
 refine ⟨rfl,rfl,rfl,by simp,hat,hot,λj=>?_⟩;unfold rZ;by_cases hj:j=k
 .subst hj;simp only[hat,hk];cases ob<;>cases ob'<;>first|rfl|exact cY rfl (h1 _ _ _)|exact cY rfl (h2 _ _ _)
 .simp only[hot j hj]
theorem ao8 {x:Operand} (Z:o.op= .next x ai) (I:eU (.nxt x) e h nx=af R):gQ P o e.get h.get R.eff:=by
 simp only[eU]at I;split at I
 .rename_i id hx;split at I
  .rename_i ty s p hid;split at I
   .rename_i b hb;split at I
    .rename_i hlt;have hlt:=a8 hlt;simp only[ak]at I;subst I;refine gQ.writes hid λφ E h' w a hrd M hp hrep=>?_
     have hr:=hp x _ (by rw[Z];simp[Op.operands]) hx;generalize hz:a.eval x=z at hr;cases hr with
     |@ptr _ _ k hφ=>
      obtain⟨k',Y,_,ob,U,q3⟩:=hrep.at_ id _ M;rw[hφ]at Y;cases Y;have q3:ob= .stringIter s p:=q3;subst q3;have hps:p<s.size:=by
       have:=(bl.1 hb).1;simpa using this
      have hget:s.get! p=b:=by
       have:s.data[p]? =af b:=by rw[<- cP];exact hb
       have hpd:p<s.data.size:=(cJ.1 this).1;have h2:s.data[p]! =s.data[p]:=getElem!_pos s.data p hpd;rw[ik hpd]at this;simp only[ByteArray.get!,h2];exact jZ this
      have hdec:Utf8.decode s p=(b.toNat,1):=by
       unfold Utf8.decode;simp only[dx,hget];rw[aD (by omega)]
      refine ⟨.value (.tuple #[.bool ai,.int .i64 p,.int .i32 b.toNat]),_,k,.stringIter s (p+1),?_,hφ,IC U (by simp) (by simp),rfl,_,.inl rfl,?_⟩
      .unfold execOp;rw[Z];simp[Instr.next,hz,getObj,nL,U,hps,hdec,setObj,goInt]
      .refine cW.tup (vs:=[.bool ai,.int .i64 p,.int .i32 b.toNat]) rfl λj y v J hv=>?_
       rcases j with _|_|_|j<;>simp at J hv
       .subst J;subst hv;exact .f (.raw _)
       .subst J;subst hv;exact .f (.raw _)
       .subst J;subst hv;exact .f (.raw _)
    .cases I
   .rename_i hb;simp only[ak]at I;subst I;refine gQ.writes hid λφ E h' w a hrd M hp hrep=>?_
    have hr:=hp x _ (by rw[Z];simp[Op.operands]) hx;generalize hz:a.eval x=z at hr;cases hr with
    |@ptr _ _ k hφ=>
     obtain⟨k',Y,_,ob,U,q3⟩:=hrep.at_ id _ M;rw[hφ]at Y;cases Y;have q3:ob= .stringIter s p:=q3;subst q3;have hps:¬p<s.size:=by
      have:=List.getElem?_eq_none_iff.1 hb;have e:s.data.toList.length=s.size:=by simp
      omega
     refine ⟨.value (.tuple #[.bool aj]),w,k,.stringIter s p,?_,hφ,⟨rfl,rfl,rfl,rfl,U,λ_ _=>rfl,λ_=>rfl⟩,rfl,_,.inl rfl,?_⟩
     .unfold execOp;rw[Z];simp[Instr.next,hz,getObj,nL,U,hps]
     .refine cW.tup (vs:=[.bool aj]) rfl λj y v J hv=>?_
      rcases j with _|j<;>simp at J hv;subst J;subst hv;exact .f (.raw _)
  .cases I
 .cases I
theorem Ai {a b:ByteArray}:sr a b=ai↔a=b:=by
 unfold sr;constructor
 .intro h;have h1:a.data.toList=b.data.toList:=by simpa using h
  cases a;cases b;congr 1;exact LI h1
 .rintro rfl;simp
theorem FJ (a b:ByteArray):(a==b)=sr a b:=by
 have h1:(a==b)=(a.data==b.data):=rfl;rw[h1,Bool.eq_iff_iff,Ai,c5];constructor
 .intro h;cases a;cases b;congr 1
 .rintro rfl;rfl
def kd (str:Bool) (d:TypeDesc):Prop:=if str then d= .string else ∃k,d= .int k
theorem CW {str:Bool} {d:TypeDesc} (hd:kd str d) {k k':Value} (hk:zD str k=ai) {b:Bool} (hb:vn .eql k k'=af (.bool b)):Instr.sameNow d k k'=af b:=by
 unfold kd at hd;cases str with
 |true=>
  simp only[bG]at hd;subst hd;cases k<;>simp[zD]at hk;cases k'<;>simp only[vn]at hb<;>try (simp at hb;done)
  simp only[ak,CE]at hb;simp[Instr.sameNow,FJ,hb]
 |false=>
  simp only[cE,ef]at hd;obtain⟨q,rfl⟩:=hd;cases k<;>simp[zD]at hk;cases k'<;>simp only[vn]at hb<;>try (simp at hb;done)
  split at hb
  .rename_i hkk;have hkk':=eq_of_beq hkk;subst hkk';simp only[ak,CE]at hb;simp[Instr.sameNow,<-hb]
  .cases hb
theorem Se {str:Bool} {d:TypeDesc} (hd:kd str d) {k:Value} (hk:zD str k=ai):∀(es:List (Value×AV)) (ents:List MapEntry) (i:Nat),ents.map (·.key)=es.map (·.1)->∀r,tU k es=af r->
 (r=ah/\jF d k ents i=af ah)\/∃(j:Nat) (v:AV) (m:MapEntry) (k':Value),r=af v/\es[j]? =af (k',v)/\ents[j]? =af m/\jF d k ents i=af (af (i+j,m.val))/\vn .eql k k'=af (.bool ai)
 |[],ents,i,he,r,h=>by
  cases ents with
  |nil=>simp only[tU,ak]at h;exact .inl ⟨h.symm,rfl⟩
  |cons _ _=>simp at he
 |(k',v)::es,ents,i,he,r,h=>by
  cases ents with
  |nil=>simp at he
  |cons m ents=>
   simp only[gq,iY]at he;obtain⟨I,J⟩:=he;simp only[tU]at h;split at h
   .rename_i hb;simp only[ak]at h;refine .inr ⟨0,v,m,k',h.symm,rfl,rfl,?_,hb⟩;simp only[jF];rw[I,CW hd hk hb];rfl
   .rename_i hb;have hs:=CW hd hk hb;rcases Se hd hk es ents (i+1) J r h with ⟨h1,h2⟩|⟨j,M,m',k'',h1,h2,Z,Y,U⟩
    .refine .inl ⟨h1,?_⟩;simp only[jF];rw[I,hs];exact h2
    .refine .inr ⟨j+1,M,m',k'',h1,by simpa using h2,by simpa using Z,?_,U⟩;simp only[jF];rw[I,hs];show jF d k ents (i+1)=_;rw[Y,show i+1+j=i+(j+1) from by omega]
   .cases h
theorem CX {I:TypeId} {str:Bool} {d:TypeDesc} (hu:P.underlying I=af d) (hd:kd str d) (b:Bool) (v:Value) (w:World):(Instr.checkKey b 10000 I v).run P w= .ok () w:=by
 have key:∀n,(Instr.checkKey b (n+1) I v).run P w= .ok () w:=λn=>by
  unfold kd at hd;cases str with
  |true=>simp only[bG]at hd;subst hd;simp[Instr.checkKey,run_underlying hu]
  |false=>simp only[cE,ef]at hd;obtain⟨q,rfl⟩:=hd;simp[Instr.checkKey,run_underlying hu]
 exact key 9999
theorem abj {φ:PM} {O:Nat->Prop} {w:World} {ok b:Bool} {x:AV} {v:Value} (h:cW φ O w x v):cW φ O w (pkV ok x b) (if ok then .tuple #[v,.bool b] else v):=by
 cases ok with
 |false=>exact h
 |true=>
  refine cW.tup (vs:=[v,.bool b]) rfl λj y u I hv=>?_
  rcases j with _|_|j<;>simp at I hv
  .subst I;subst hv;exact h
  .subst I;subst hv;exact .f (.raw _)
theorem aj2 {t kt el:TypeId} {x k:Operand} {str ok:Bool} {d:TypeDesc} {z:Value} (U:o.op= .lookup t x k ok) (hu:P.underlying t=af (.map kt el)) (hk:P.underlying kt=af d) (hd:kd str d) (M:(P.info? el).bind (·.zero)=af z) (I:eU (.lku str ok z x k) e h nx=af R):gQ P o e.get h.get R.eff:=by
 simp only[eU]at I;split at I
 .rename_i id key hx hkx;split at I
  .rename_i ty es hid;split at I
   .rename_i hko;have fin:∀val:AV,(∀(φ:PM) (E:Nat->Prop) (h':HF) (w:World) (a:Act),h' id=af ⟨ty,.mp es⟩->WR φ E h' w a e o->rq φ E h' w->∃v,(execOp a.eval o).run P w= .ok (.value v) w/\cW φ (tot E φ h') w val v)->R=⟨val,[id],[],[],[]⟩->gQ P o e.get h.get R.eff:=by
     rintro val hv rfl;exact gQ.reads λφ E h' w a hrd hp hrep=>hv φ E h' w a (by rw[hrd id (by simp)];exact hid) hp hrep
    have zrun:∀w:World,(zeroValue el).run P w= .ok z w:=λw=>by
     cases hi:P.info? el with
     |none=>rw[hi]at M;cases M
     |some i=>rw[hi]at M;simp only[aH]at M;simp[zeroValue,typeInfo,hi,M]
    have main:∀r,tU key es=af r->∀(φ:PM) (E:Nat->Prop) (h':HF) (w:World) (a:Act),h' id=af ⟨ty,.mp es⟩->WR φ E h' w a e o->rq φ E h' w->
     ∃v,(execOp a.eval o).run P w= .ok (.value v) w/\cW φ (tot E φ h') w (match r with|some v=>pkV ok v ai|none=>pkV ok (raw z) aj) v:=by
     intro r hr φ E h' w a Y hp hrep;have hrx:=hp x _ (by rw[U];simp[Op.operands]) hx;have hrk:=fH (hp k _ (by rw[U];simp[Op.operands]) hkx);generalize J:a.eval x=zz at hrx;cases hrx with
     |@mp _ b hφ=>
      obtain⟨k',q1,_,ob,Z,q3⟩:=hrep.at_ id _ Y;rw[hφ]at q1;cases q1;obtain⟨ents,clock,rfl,q4,q5⟩:=q3;have hck:=CX (P:=P) hk hd ents.isEmpty key w;rcases Se hd hko es ents.toList 0 q4 r hr with ⟨h1,h2⟩|⟨j,v,m,k',h1,h2,h3,h4,_⟩
      .subst h1;refine ⟨_,?_,abj (.f (.raw z))⟩;unfold execOp;rw[U];cases ok<;>simp[Instr.lookup,run_underlying hu,J,hrk,getObj,nL,Z,hck,Instr.findKey,run_underlying hk,h2,zrun]
      .subst h1;obtain⟨m',h6,h7⟩:=q5 j _ h2;rw[cP]at h3;rw[h3]at h6;cases h6;refine ⟨_,?_,abj h7⟩;unfold execOp;rw[U];cases ok<;>simp[Instr.lookup,run_underlying hu,J,hrk,getObj,nL,Z,hck,Instr.findKey,run_underlying hk,h4]
    split at I
    .rename_i v hf;simp only[ak]at I;exact fin _ (main _ hf) I.symm
    .rename_i hf;simp only[ak]at I;exact fin _ (main _ hf) I.symm
    .cases I
   .cases I
  .cases I
 .cases I
theorem Xr {str:Bool} {d:TypeDesc} (hd:kd str d) {k:Value} (hk:zD str k=ai) {v:AV}:∀(es es':List (Value×AV)) (ents:List MapEntry) (i:Nat),ents.map (·.key)=es.map (·.1)->zB k v es=af es'->
 (jF d k ents i=af ah/\es'=es++[(k,v)])\/∃(j:Nat) (m:MapEntry) (k':Value) (J:AV),es[j]? =af (k',J)/\ents[j]? =af m/\jF d k ents i=af (af (i+j,m.val))/\vn .eql k k'=af (.bool ai)/\es'=es.set j (k,v)
 |[],es',ents,i,he,h=>by
  cases ents with
  |nil=>simp only[zB,ak]at h;exact .inl ⟨rfl,by simp[h]⟩
  |cons _ _=>simp at he
 |(k',J)::es,es',ents,i,he,h=>by
  cases ents with
  |nil=>simp at he
  |cons m ents=>
   simp only[gq,iY]at he;obtain⟨I,M⟩:=he;simp only[zB]at h;split at h
   .rename_i hb;simp only[ak]at h;refine .inr ⟨0,m,k',J,rfl,rfl,?_,hb,by simp[h]⟩;simp only[jF];rw[I,CW hd hk hb];rfl
   .rename_i hb;have hs:=CW hd hk hb;split at h
    .rename_i es2 hes2;simp only[ak]at h;subst h;rcases Xr hd hk es es2 ents (i+1) M hes2 with ⟨h1,h2⟩|⟨j,m',k'',v'',h1,h2,Z,Y,U⟩
     .refine .inl ⟨?_,by simp[h2]⟩;simp only[jF];rw[I,hs];exact h1
     .refine .inr ⟨j+1,m',k'',v'',by simpa using h1,by simpa using h2,?_,Y,by simp[U]⟩;simp only[jF];rw[I,hs];show jF d k ents (i+1)=_;rw[Z,show i+1+j=i+(j+1) from by omega]
    .cases h
   .cases h
theorem acx {str:Bool} {k k':Value} (hk:zD str k=ai) (hb:vn .eql k k'=af (.bool ai)):Instr.sameBits 10000 k' k=ai/\k'=k:=by
 cases str with
 |true=>
  cases k<;>simp[zD]at hk;cases k'<;>simp only[vn]at hb<;>try (simp at hb;done)
  simp only[ak,CE]at hb;have:=Ai.1 hb;subst this;exact⟨by simp[Instr.sameBits,FJ,hb],rfl⟩
 |false=>
  cases k<;>simp[zD]at hk;cases k'<;>simp only[vn]at hb<;>try (simp at hb;done)
  split at hb
  .rename_i hkk;have hkk':=eq_of_beq hkk;subst hkk';simp only[ak,CE,c5]at hb;subst hb;exact⟨by simp[Instr.sameBits],rfl⟩
  .cases hb
theorem aj1 {t kt el:TypeId} {x k y:Operand} {str:Bool} {d:TypeDesc} (M:o.op= .mapUpdate t x k y) (hu:P.underlying t=af (.map kt el)) (hk:P.underlying kt=af d) (hd:kd str d) (I:eU (.mup str x k y) e h nx=af R):gQ P o e.get h.get R.eff:=by
 simp only[eU]at I;split at I
 .rename_i id key v hx hkx hy;split at I
  .rename_i ty es hid;split at I
   .rename_i hko;split at I
    .rename_i es' hput;simp only[ak]at I;subst I;refine gQ.writes hid λφ E h' w a hrd Z hp hrep=>?_
     have hrx:=hp x _ (by rw[M];simp[Op.operands]) hx;have hrk:=fH (hp k _ (by rw[M];simp[Op.operands]) hkx);have hry:=hp y _ (by rw[M];simp[Op.operands]) hy;generalize J:a.eval x=zz at hrx;cases hrx with
     |@mp _ b hφ=>
      obtain⟨k',q1,_,ob,U,q3⟩:=hrep.at_ id _ Z;rw[hφ]at q1;cases q1;obtain⟨ents,clock,rfl,q4,q5⟩:=q3;have hck:=CX (P:=P) hk hd aj key w;have hlen:ents.size=es.length:=by have:=gM al q4;simpa using this
      rcases Xr hd hko es es' ents.toList 0 q4 hput with ⟨h1,rfl⟩|⟨j,m,k',v',h1,h2,h3,h4,rfl⟩
      .refine ⟨.skip,_,b,.map (ents.push {key,val:=a.eval y,born:=clock}) (clock+1),?_,hφ,IC U (by simp) (by simp),⟨_,_,rfl,by simp[q4],λj q hq=>?_⟩,undef,.inr ⟨rfl,rfl⟩,.f (.raw _)⟩
       .unfold execOp;rw[M];simp[Instr.mapUpdate,run_underlying hu,J,hrk,getObj,nL,U,hck,Instr.findKey,run_underlying hk,h1,setObj]
       .rcases cf j es.length with hj|hj
        .rw[bK hj]at hq;obtain⟨m,g1,g2⟩:=q5 j q hq;exact⟨m,by rw[Array.getElem?_push,ay (by omega)];exact g1,g2⟩
        .rw[bW hj]at hq;have Y:j-es.length=0:=by
          rcases LF (j-es.length) with h0|h0
          .exact h0
          .rw[bR (by simp;omega)]at hq;cases hq
         rw[Y]at hq;simp at hq;subst hq;exact⟨_,by rw[Array.getElem?_push,aD (by omega)],hry⟩
      .obtain⟨s1,s2⟩:=acx hko h4;subst s2;rw[cP]at h2;rw[bQ]at h3;have hjl:j<ents.size:=(cJ.1 h2).1;have hmk:m.key=k':=by
        have e1:(ents.toList.map (·.key))[j]? =af m.key:=by rw[bc,cP,h2];rfl
        rw[q4,bc,h1]at e1;simpa using e1.symm
       refine ⟨.skip,_,b,.map (ents.modify j λe=>{e with key:=k',val:=a.eval y}) clock,?_,hφ,IC U (by simp) (by simp),⟨_,_,rfl,?_,λi q hq=>?_⟩,undef,.inr ⟨rfl,rfl⟩,.f (.raw _)⟩
       .unfold execOp;rw[M];simp[Instr.mapUpdate,run_underlying hu,J,hrk,getObj,nL,U,hck,Instr.findKey,run_underlying hk,h3,setObj,h2,hmk,Instr.keyThatStays,s1]
       .apply List.ext_getElem?;intro i;simp only[bc,cP,o_,Array.getElem?_modify];have e2:∀i:Nat,(ents[i]?).map (λm:MapEntry=>m.key)=(es[i]?).map (λp:Value×AV=>p.1):=λi=>by
         have:=gM (λl=>l[i]?) q4;simpa[bc,cP] using this
        by_cases hij:j=i
        .subst hij;simp[h2,show j<es.length by omega]
        .simp only[hij,ef];exact e2 i
       .rw[o_]at hq;rw[Array.getElem?_modify];by_cases hij:j=i
        .subst hij;simp[show j<es.length by omega]at hq;subst hq;exact⟨{m with key:=k',val:=a.eval y},by simp[h2],hry⟩
        .simp only[hij,ef]at hq ⊢;exact q5 i q hq
    .cases I
   .cases I
  .cases I
 .cases I
end
section
variable {P:Program} {o:Oper} {e:Am} {h:ov} {nx:Nat} {R:CC}
theorem Ri {t:TypeId} {d:TypeDesc} (hu:P.underlying t=af d) (hd:(match d with|.int _=>ai|.bool=>ai|.string=>ai|_=>aj)=ai) (cs:Array Value) (j:Nat) (v:Value) (hv:cs[j]? =af v) (w:World):(part t cs j).run P w= .ok v w:=by
 unfold part;simp only[isAgg,eM,run_underlying hu,cQ];cases d<;>simp at hd<;>simp[hv]
theorem Zh {t:TypeId} {d:TypeDesc} (hu:P.underlying t=af d) (hd:(match d with|.int _=>ai|.bool=>ai|.string=>ai|_=>aj)=ai) {x y:FV} {b:Bool} (hxy:ye d x y=af b) {u v:Value} (M:x= .raw u) (J:y= .raw v) (n:Nat) (w:World):(Op.equalIn (n+1) t u v).run P w= .ok b w:=by
 subst M;subst J;cases d<;>simp at hd<;>cases u<;>cases v<;>simp only[ye]at hxy<;>first|(cases hxy;done)|skip
 .simp only[ak]at hxy;subst hxy;simp[Op.equalIn,run_underlying hu]
 .split at hxy
  .rename_i hk;have I:=eq_of_beq hk;subst I;simp only[ak]at hxy;subst hxy;simp[Op.equalIn,run_underlying hu]
  .cases hxy
 .simp only[ak]at hxy;subst hxy;simp[Op.equalIn,run_underlying hu,FJ]
abbrev J6 (n:Nat) (xs I:Array Value) (f:Field) (_:Option Bool×Unit):Sem (ForInStep (Option Bool×Unit)):=
 if f.name≠ "_" then do
  let a←part f.type xs f.offset
  let b←part f.type I f.offset
  let c←Op.equalIn (n+1) f.type a b
  if (!c)=ai then pure (ForInStep.done (af aj,())) else pure (ForInStep.yield (ah,()))
 else pure (ForInStep.yield (ah,()))
theorem Nv (n:Nat) (w:World) (xs I:Array Value):∀(fs:List Field) (ds:List TypeDesc) (a b:List FV) (k:Nat) (r:Bool),r_ P k fs=af ds->
 (∀(j:Nat) x u,a[j]? =af x->xs[k+j]? =af u->x= .raw u\/∀v,x≠ .raw v)->(∀(j:Nat) x u,b[j]? =af x->I[k+j]? =af u->x= .raw u\/∀v,x≠ .raw v)->(∀(j:Nat),j<a.length->k+j<xs.size)->(∀(j:Nat),j<b.length->k+j<I.size)->pj ds a b=af r->
 (forIn fs (ah,()) (J6 n xs I)).run P w= .ok (if r then (ah,()) else (af aj,())) w
 |[],ds,a,b,k,r,hp,_,_,_,_,he=>by
  simp only[r_,ak]at hp;subst hp;cases a<;>cases b<;>simp[pj]at he;subst he;simp
 |f::fs,ds,a,b,k,r,hp,Z,hb,hla,hlb,he=>by
  simp only[r_]at hp;split at hp
  .rename_i d ds' hu Y;split at hp
   .rename_i hc;simp only[av,bne_iff_ne,ne_eq,c5]at hc;obtain⟨⟨hn,hof⟩,hd⟩:=hc;simp only[ak]at hp;subst hp;cases a with
    |nil=>cases b<;>simp[pj]at he
    |cons x a=>
     cases b with
     |nil=>simp[pj]at he
     |cons y b=>
      simp only[pj]at he;have U:k<xs.size:=by have:=hla 0 (by simp);omega
      have M:k<I.size:=by have:=hlb 0 (by simp);omega
      have hraw:∀(z:FV) (q:Value),(z= .raw q\/∀v,z≠ .raw v)->(∃v,z= .raw v)->z= .raw q:=by
       rintro z q (h|h) ⟨v,hv⟩
       .exact h
       .exact cY hv (h v)
      have hxr:∀J,ye d x y=af J->x= .raw xs[k]/\y= .raw I[k]:=by
       intro J hbb;have hrr:(∃v,x= .raw v)/\∃v,y= .raw v:=by
        unfold ye at hbb;split at hbb
        .exact⟨⟨_,rfl⟩,⟨_,rfl⟩⟩
        .exact⟨⟨_,rfl⟩,⟨_,rfl⟩⟩
        .exact⟨⟨_,rfl⟩,⟨_,rfl⟩⟩
        .cases hbb
       exact⟨hraw x _ (Z 0 x _ rfl (by simp[U])) hrr.1,hraw y _ (hb 0 y _ rfl (by simp[M])) hrr.2⟩
      have hstep:∀J,ye d x y=af J->(J6 n xs I f (ah,())).run P w= .ok (if J then ForInStep.yield (ah,()) else ForInStep.done (af aj,())) w:=by
       intro J hbb;obtain⟨h1,h2⟩:=hxr J hbb;have p1:=Ri hu (by cases d<;>simp[I0]at hd<;>rfl) xs k xs[k] (by simp[U]) w;have p2:=Ri hu (by cases d<;>simp[I0]at hd<;>rfl) I k I[k] (by simp[M]) w;have p3:=Zh hu (by cases d<;>simp[I0]at hd<;>rfl) hbb h1 h2 n w;unfold J6;rw[aD hn,hof];simp only[eM,p1,p2,p3,cQ];cases J<;>simp
      rw[List.forIn_cons];simp only[eM];split at he
      .rename_i hbb;rw[hstep ai hbb];simp only[cQ,bG];exact Nv n w xs I fs ds' a b (k+1) r Y (λj x u h1 h2=>Z (j+1) x u (by simpa using h1) (by rw[<- h2];congr 1;omega)) (λj x u h1 h2=>hb (j+1) x u (by simpa using h1) (by rw[<- h2];congr 1;omega))
        (λj hj=>by have:=hla (j+1) (by simpa using hj);omega) (λj hj=>by have:=hlb (j+1) (by simpa using hj);omega) he
      .rename_i hbb;rw[hstep aj hbb];simp only[ak]at he;subst he;simp
      .cases he
   .cases hp
  .cases hp
theorem Zg {t:TypeId} {fs:Array Field} (hu:P.underlying t=af (.struct fs)) (hs:P.stoodInHeld t=aj) {ds:List TypeDesc} (hp:r_ P 0 fs.toList=af ds) (xs I:Array Value) {a b:List FV} {r:Bool}
 (J:∀(j:Nat) x u,a[j]? =af x->xs[j]? =af u->x= .raw u\/∀v,x≠ .raw v) (hb:∀(j:Nat) x u,b[j]? =af x->I[j]? =af u->x= .raw u\/∀v,x≠ .raw v) (hla:a.length=xs.size) (hlb:b.length=I.size) (he:pj ds a b=af r) (w:World):
 (Op.equal t (.agg xs) (.agg I)).run P w= .ok r w:=by
 have key:∀n,(Op.equalIn (n+2) t (.agg xs) (.agg I)).run P w= .ok r w:=by
  intro n;rw[Op.equalIn];have h1:=Nv (P:=P) n w xs I fs.toList ds a b 0 r hp (λj x u h1 h2=>J j x u h1 (by simpa using h2)) (λj x u h1 h2=>hb j x u h1 (by simpa using h2)) (λj hj=>by omega) (λj hj=>by omega) he;rw[Array.forIn_toList]at h1;simp only[eM,run_underlying hu,cQ,program,nL,hs,cE,ef];have h2:(forIn fs (ah,()) (λf __s=>J6 n xs I f __s)).run P w= .ok (if r then (ah,()) else (af aj,())) w:=h1;unfold J6 at h2;rw[h2];cases r<;>simp
 exact key 9998
theorem Sj {t:TypeId} {fs:Array Field} (hu:P.underlying t=af (.struct fs)) {ds:List TypeDesc} (hp:r_ P 0 fs.toList=af ds):P.eqGuardType P.depth t=aj:=by
 have key:∀(fs:List Field) (k:Nat) (ds:List TypeDesc),r_ P k fs=af ds→∀d,(fs.any λf=>f.name != "_" &&P.eqGuardType (d+1) f.type)=aj:=by
  intro fs;induction fs with
  |nil=>intros;rfl
  |cons f fs M=>
   intro k ds hp d;simp only[r_]at hp;split at hp
   .rename_i U ds' I J;split at hp
    .rename_i hc;simp only[av]at hc;have:P.eqGuardType (d+1) f.type=aj:=by
      unfold Program.eqGuardType;rw[I];have:=hc.2;cases U<;>simp[I0]at this<;>rfl
     simp only[List.any_cons,this,Bool.and_false,Bool.false_or];exact M (k+1) ds' J d
    .cases hp
   .cases hp
 unfold Program.depth Program.eqGuardType;rw[hu];simp only[];rw[← Array.any_toList];exact key fs.toList 0 ds hp _
theorem aj3 {t t':TypeId} {op:BinOp} {neg:Bool} {x y:Operand} {fs:Array Field} {ds:List TypeDesc} (Y:o.op= .binOp op t x y t') (hop:op=if neg then .neq else .eql) (hu:P.underlying t=af (.struct fs)) (hs:P.stoodInHeld t=aj) (hp:r_ P 0 fs.toList=af ds) (I:eU (.eqs neg ds x y) e h nx=af R):gQ P o e.get h.get R.eff:=by
 simp only[eU]at I;split at I
 .rename_i a b J hy;split at I
  .rename_i r hr;rw[dD I];refine gQ.reads λφ E h' w ac _ hpp _=>?_
   have h1:=hpp x _ (by rw[Y];simp[Op.operands]) J;have h2:=hpp y _ (by rw[Y];simp[Op.operands]) hy;generalize hzx:ac.eval x=zx at h1;generalize hzy:ac.eval y=zy at h2;have rawOr:∀(l:List FV) (vs:ξ),(∀(j:Nat) x v,l[j]? =af x->vs[j]? =af v->nF (tot E φ h') w x v)->∀(j:Nat) x u,l[j]? =af x->vs.toArray[j]? =af u->x= .raw u\/∀v,x≠ .raw v:=by
    intro l vs hr j x u J hu;have:=hr j x u J (by simpa using hu);cases this with
    |raw v=>exact .inl rfl
    |nil=>exact .inr (by simp)
    |sl=>exact .inr (by simp)
    |ptr=>exact .inr (by simp)
    |agg=>exact .inr (by simp)
   cases h1 with
   |f h1=>
    cases h1 with
    |agg _ vs hl hcl U=>
     cases h2 with
     |f h2=>
      cases h2 with
      |agg _ us Z hcl' M=>
       have heq:=Zg hu hs hp vs.toArray us.toArray (rawOr a vs U) (rawOr b us M) (by simp[hl]) (by simp[Z]) hr w;refine ⟨_,?_,.f (.raw _)⟩;have hg:=Sj hu hp;unfold execOp;rw[Y];simp only[hzx,hzy];subst hop;cases neg<;>simp[eqGuard,program,nL,hg,binOp,heq]
  .cases I
 .cases I
end
theorem bind_some {α β:Type} {x:Option α} {f:α->Option β} {y:β} (h:x.bind f=af y):∃a,x=af a/\f a=af y:=by
 cases x with
 |none=>cases h
 |some a=>exact⟨a,rfl,h⟩
theorem map_some {α β:Type} {x:Option α} {f:α->β} {y:β} (h:x.map f=af y):∃a,x=af a/\f a=y:=by
 cases x with
 |none=>cases h
 |some a=>exact⟨a,rfl,by simpa using h⟩
theorem md {c:Bool} {β:Type} {x:Option β} {y:β} (h:(if c then x else ah)=af y):c=ai/\x=af y:=by
 cases c with
 |true=>exact⟨rfl,by simpa using h⟩
 |false=>simp at h
theorem I3 {P:Program} {o:Oper} {e:Am} {h:ov} {nx:Nat} {s:Z5} {R:CC} (hc:dt P o.op=af s) (J:eU s e h nx=af R):gQ P o e.get h.get R.eff:=by
 unfold dt at hc;split at hc
 .rename_i x I;simp only[ak]at hc;subst hc;exact aob (.inl I) J
 .rename_i x I;simp only[ak]at hc;subst hc;exact aob (.inr I) J
 .rename_i c a b I;simp only[ak]at hc;subst hc;exact akq I J
 .rename_i t I;obtain⟨z,h1,hc⟩:=bind_some hc;obtain⟨h2,hc⟩:=md hc;simp only[ak]at hc;subst hc;exact ahb I h1 h2 J
 .rename_i t x I;simp only[ak]at hc;subst hc;exact aon I J
 .rename_i t ps I;split at hc
  .rename_i fs hu;obtain⟨z,h1,hc⟩:=bind_some hc;obtain⟨h2,hc⟩:=md hc;obtain⟨ps',M,rfl⟩:=map_some hc;simp only[av]at h2;exact Yq I h1 h2.1 M (.inl ⟨fs,hu,h2.2⟩) J
  .rename_i n el hu;obtain⟨z,h1,hc⟩:=bind_some hc;obtain⟨h2,hc⟩:=md hc;obtain⟨ps',M,rfl⟩:=map_some hc;simp only[av]at h2;obtain⟨sz,U⟩:=iP.1 h2.2;exact Yq I h1 h2.1 M (.inr ⟨n,el,sz,hu,U⟩) J
  .cases hc
 .rename_i t n ps I;obtain⟨el,h1,hc⟩:=bind_some hc;obtain⟨z,h2,hc⟩:=bind_some hc;obtain⟨sz,M,hc⟩:=bind_some hc;obtain⟨U,hc⟩:=md hc;obtain⟨ps',Z,rfl⟩:=map_some hc;simp only[av,c5,bne_iff_ne]at U;exact aom I (sT h1) h2 M U.1.1.1 U.1.1.2 U.2 (a8 U.1.2) Z J
 .rename_i t x I;obtain⟨sz,h1,hc⟩:=bind_some hc;obtain⟨ag,h2,rfl⟩:=map_some hc;exact akt I h1 h2 J
 .rename_i t x v I;obtain⟨sz,h1,rfl⟩:=map_some hc;exact aha I h1 J
 .rename_i x I;simp only[ak]at hc;subst hc;exact akr I J
 .rename_i op t x y t' I;split at hc
  .simp only[ak]at hc;subst hc;exact aj5 I J
  .simp only[ak]at hc;subst hc;exact aj5 I J
  .rename_i hu;split at hc
   .simp only[ak]at hc;subst hc;exact aj4 (neg:=aj) I rfl hu J
   .simp only[ak]at hc;subst hc;exact aj4 (neg:=ai) I rfl hu J
   .cases hc
  .rename_i el hu;split at hc
   .simp only[ak]at hc;subst hc;exact Yp (neg:=aj) I rfl rfl hu J
   .simp only[ak]at hc;subst hc;exact Yp (neg:=ai) I rfl rfl hu J
   .cases hc
  .rename_i fs hu;obtain⟨ds,h1,hc⟩:=bind_some hc;unfold abi at h1;rw[hu]at h1;simp only[]at h1;split at h1
   .cases h1
   .rename_i hst;have hst:P.stoodInHeld t=aj:=by simpa using hst
    split at hc
    .simp only[ak]at hc;subst hc;exact aj3 (neg:=aj) I rfl hu hst h1 J
    .simp only[ak]at hc;subst hc;exact aj3 (neg:=ai) I rfl hu hst h1 J
    .cases hc
  .cases hc
 .rename_i t x I;simp only[ak]at hc;subst hc;exact ao9 I J
 .rename_i t x I;split at hc
  .simp only[ak]at hc;subst hc;exact aoa I J
  .cases hc
 .rename_i s' d x I;split at hc
  .rename_i k k' h1 h2;simp only[ak]at hc;subst hc;exact akz I h1 h2 J
  .cases hc
 .rename_i t l c I;obtain⟨el,h1,hc⟩:=bind_some hc;obtain⟨z,h2,hc⟩:=bind_some hc;obtain⟨sz,M,hc⟩:=bind_some hc;obtain⟨b,Z,hc⟩:=bind_some hc;obtain⟨U,hc⟩:=md hc;simp only[av,c5,bne_iff_ne]at U;simp only[ak]at hc;subst hc;exact aks I (sT h1) h2 M Z U.1.1 U.1.2 U.2 J
 .rename_i t x lo hi mx I;obtain⟨el,h1,hc⟩:=bind_some hc;obtain⟨sz,h2,rfl⟩:=map_some hc;exact ao5 I (sT h1) h2 J
 .rename_i t x k I;split at hc
  .rename_i fs hu;obtain⟨f,h1,hc⟩:=bind_some hc;obtain⟨sz,h2,hc⟩:=bind_some hc;obtain⟨M,hc⟩:=md hc;simp only[ak]at hc;subst hc;exact aoj I hu h1 h2 (by simpa using M) J
  .cases hc
 .rename_i t x k I;split at hc
  .rename_i fs hu;obtain⟨f,h1,hc⟩:=bind_some hc;obtain⟨sz,h2,hc⟩:=bind_some hc;obtain⟨ag,M,rfl⟩:=map_some hc;exact aoi I hu h1 h2 M J
  .cases hc
 .rename_i t x i I;split at hc
  .rename_i el hu;obtain⟨sz,h1,rfl⟩:=map_some hc;exact aoh I hu h1 J
  .rename_i n el hu;obtain⟨sz,h1,rfl⟩:=map_some hc;exact akx I hu h1 J
  .cases hc
 .rename_i t x i I;split at hc
  .rename_i n el hu;obtain⟨sz,h1,hc⟩:=bind_some hc;obtain⟨ag,h2,rfl⟩:=map_some hc;exact aog I hu h1 h2 J
  .rename_i hu;simp only[ak]at hc;subst hc;exact akp I hu J
  .cases hc
 .rename_i x i I;simp only[ak]at hc;subst hc;exact aok I J
 .rename_i f first caps I
  obtain⟨h1,hc⟩:=md hc;simp only[ak]at hc;subst hc;have h2:first=#[]:=by simpa using h1
  subst h2;exact aod I J
 .rename_i t I;split at hc
  .simp only[ak]at hc;subst hc;exact aoc I J
  .cases hc
 .rename_i t x k ok I;split at hc
  .rename_i kt el hu;split at hc
   .rename_i q z h1 h2;obtain⟨M,hc⟩:=md hc;simp only[ak]at hc;subst hc;exact aj2 (str:=aj) I hu h1 ⟨q,rfl⟩ h2 J
   .rename_i z h1 h2;obtain⟨M,hc⟩:=md hc;simp only[ak]at hc;subst hc;exact aj2 (str:=ai) I hu h1 rfl h2 J
   .cases hc
  .cases hc
 .rename_i t m k v I;split at hc
  .rename_i kt el hu;split at hc
   .rename_i q h1;simp only[ak]at hc;subst hc;exact aj1 (str:=aj) I hu h1 ⟨q,rfl⟩ J
   .rename_i h1;simp only[ak]at hc;subst hc;exact aj1 (str:=ai) I hu h1 rfl J
   .cases hc
  .cases hc
 .rename_i t x I;split at hc
  .rename_i hu;simp only[ak]at hc;subst hc;exact ao6 I hu J
  .cases hc
 .rename_i x I;simp only[ak]at hc;subst hc;exact ao8 I J
 .rename_i c I;obtain⟨callee,args,argTypes⟩:=c;have arr:∀{α:Type} {x:Array α} {l:List α},x.toList=l->x=l.toArray:=λh=>by rw[<- h]
  unfold Tu at hc;simp only[]at hc;split at hc
  .split at hc
   .rename_i x t h1 h2;rw[arr h1,arr h2]at I;split at hc
    .rename_i el hu;simp only[ak]at hc;subst hc;exact akw I hu J
    .rename_i hu;simp only[ak]at hc;subst hc;exact akv I hu J
    .rename_i k v hu;simp only[ak]at hc;subst hc;exact aku I hu J
    .cases hc
   .cases hc
  .split at hc
   .rename_i x y h1;rw[arr h1]at I;simp only[ak]at hc;subst hc;exact aof I J
   .cases hc
  .split at hc
   .rename_i x y h1;rw[arr h1]at I;simp only[ak]at hc;subst hc;exact aoe I J
   .cases hc
  .split at hc
   .rename_i d x t u h1 h2;rw[arr h1,arr h2]at I;split at hc
    .rename_i el el' h1 h2;obtain⟨sz,M,hc⟩:=bind_some hc;obtain⟨U,hc⟩:=md hc;simp only[ak]at hc;subst hc;exact aky I (sT h1) (sT h2) M J
    .cases hc
   .cases hc
  .split at hc
   .rename_i x t h1 h2;rw[arr h1,arr h2]at I;obtain⟨el,M,hc⟩:=bind_some hc;obtain⟨z,U,hc⟩:=bind_some hc;obtain⟨sz,Z,hc⟩:=bind_some hc;obtain⟨Y,hc⟩:=md hc;simp only[av,c5,bne_iff_ne,ne_eq]at Y;simp only[ak]at hc;subst hc;exact aol I (sT M) U Y.1.1 Y.1.2 Y.2 J
   .cases hc
  .split at hc
   .rename_i s' x t u h1 h2;rw[arr h1,arr h2]at I;split at hc
    .rename_i el el' h1 h2;obtain⟨sz,M,hc⟩:=bind_some hc;obtain⟨b,U,hc⟩:=bind_some hc;obtain⟨z,Z,hc⟩:=bind_some hc;obtain⟨Y,hc⟩:=md hc;simp only[av,c5,bne_iff_ne]at Y;simp only[ak]at hc;subst hc;exact aoo I (sT h1) (sT h2) M U Z Y.2 Y.1 J
    .cases hc
   .cases hc
  .cases hc
 .cases hc
theorem mh {p:Nat->Bool}:∀{l:List AV},AV.allL p l=ai->∀x∈l,AV.all p x=ai
 |[],_,x,I=>by cases I
 |y::l,h,x,I=>by
  simp only[AV.allL,av]at h;rcases bm.1 I with rfl|I
  .exact h.1
  .exact mh h.2 x I
theorem cW.restrict {φ φ':PM} {O O':Nat->Prop} {w:World} {p:Nat->Bool} (hs:∀i k,p i=ai->φ i=af k->φ' i=af k) (M:∀k,O' k->O k) {x:AV} {v:Value} (h:cW φ O w x v):x.all p=ai->cW φ' O' w x v:=by
 induction h with
 |f h=>intro _;exact .f (h.ext (O':=O') (LA.refl O w) λk _ hk=>M k hk)
 |ptr h=>intro hp;exact .ptr (hs _ _ hp h)
 |sl h hn hc=>intro hp;exact .sl (hs _ _ hp h) hn hc
 |row h hn hc hsh=>intro hp;exact .row (hs _ _ hp h) hn hc hsh
 |emp=>intro _;exact .emp
 |anyb=>intro _;exact .anyb
 |mp h=>intro hp;exact .mp (hs _ _ hp h)
 |agg hl hcl hr J=>intro hp;exact .agg hl hcl λj x v I hv=>J j x v I hv (mh hp x (ba I))
 |tup hl hr J=>intro hp;exact .tup hl λj x v I hv=>J j x v I hv (mh hp x (ba I))
 |clo hl hr J=>intro hp;exact .clo hl λj x v I hv=>J j x v I hv (mh hp x (ba I))
theorem jC.restrict {φ φ':PM} {O O':Nat->Prop} {w w':World} {p:Nat->Bool} (hk:∀x v,x.all p=ai->cW φ O w x v->cW φ' O' w' x v) {b:xu} {o:Obj} (hb:b.c.all p=ai) (h:jC φ O w b o):jC φ' O' w' b o:=by
 unfold jC at h ⊢;cases hc:b.c with
 |fz l=>
  rw[hc]at h;obtain⟨arr,h1,h2,J⟩:=h;exact⟨arr,h1,h2,λj x I=>by
   obtain⟨a,v,c,d⟩:=J j x I;refine ⟨a,v,c,hk _ _ ?_ d⟩;simp only[BC.get]at I;cases hl:l[j]? with
   |none=>rw[hl]at I;cases I
   |some q=>rw[hl]at I;simp at I;subst I;rfl⟩
 |mx l=>
  rw[hc]at h hb;obtain⟨arr,h1,h2,J⟩:=h;exact⟨arr,h1,h2,λj x I=>by
   obtain⟨a,v,c,d⟩:=J j x I;exact⟨a,v,c,hk _ _ (mh hb x (ba I)) d⟩⟩
 |mp es=>
  rw[hc]at h hb;obtain⟨e,c,h1,h2,J⟩:=h;exact⟨e,c,h1,h2,λj x I=>by
   obtain⟨m,a,b⟩:=J j x I;exact⟨m,a,hk _ _ (mh hb x.2 (c_.2 ⟨x,ba I,rfl⟩)) b⟩⟩
 |it s q=>rw[hc]at h;exact h
def adk (m:Nat):ι:=(bt (m+1)).filter λi=>aN m i
theorem Ng {m i:Nat}:i∈adk m↔aN m i=ai:=by
 unfold adk;rw[xC,jU];constructor
 .exact λh=>h.2
 .intro h;refine ⟨?_,h⟩;have h1:=Nat.ge_two_pow_of_testBit h;have h2:=Nat.lt_two_pow_self (n:=i);omega
def j9 (φ:PM) (O:Nat->Prop) (w:World):List AV->ξ->Prop
 |[],[]=>True
 |x::xs,v::vs=>cW φ O w x v/\j9 φ O w xs vs
 |_,_=>False
theorem j9.length {φ:PM} {O:Nat->Prop} {w:World}:∀{args:List AV} {vs:ξ},j9 φ O w args vs->vs.length=args.length
 |[],[],_=>rfl
 |[],_::_,h=>h.elim
 |_::_,[],h=>h.elim
 |_::_,_::_,h=>by simp[j9.length h.2]
theorem j9.mono {φ φ':PM} {O O':Nat->Prop} {w w':World} {p:Nat->Bool} (hk:∀x v,x.all p=ai->cW φ O w x v->cW φ' O' w' x v):∀{args:List AV} {vs:ξ},AV.allL p args=ai->j9 φ O w args vs->j9 φ' O' w' args vs
 |[],[],_,_=>trivial
 |[],_::_,_,h=>h.elim
 |_::_,[],_,h=>h.elim
 |x::xs,_::_,hp,h=>by
  simp only[AV.allL,av]at hp;exact⟨hk _ _ hp.1 h.1,j9.mono hk hp.2 h.2⟩
theorem j9.append {φ:PM} {O:Nat->Prop} {w:World}:∀{xs I:List AV} {vs us:ξ},j9 φ O w xs vs->j9 φ O w I us->j9 φ O w (xs++I) (vs++us)
 |[],_,[],_,_,h=>h
 |[],_,_::_,_,h,_=>h.elim
 |_::_,_,[],_,h,_=>h.elim
 |_::_,_,_::_,_,h,h'=>⟨h.1,j9.append h.2 h'⟩
theorem j9.of {φ:PM} {O:Nat->Prop} {w:World}:∀{xs:List AV} {vs:ξ},vs.length=xs.length->(∀(j:Nat) x v,xs[j]? =af x->vs[j]? =af v->cW φ O w x v)->j9 φ O w xs vs
 |[],[],_,_=>trivial
 |[],_::_,h,_=>by simp at h
 |_::_,[],h,_=>by simp at h
 |x::xs,v::vs,hl,h=>⟨h 0 x v rfl rfl,j9.of (by simpa using hl) λj x v I hv=>h (j+1) x v (by simpa using I) (by simpa using hv)⟩
def Et (P:Program) (f:FuncId):Prop:=∃fn,P.funcs[f]? =af fn∧fn.body.isNone=aj∧(fn.name== "runtime.NumGoroutine")=aj
theorem PC {φ:PM} {E:Nat->Prop} {h':HF} {w:World} {a:Act} {e:Am} {o:Oper} (hp:WR φ E h' w a e o):∀(xs:List Operand) (I:List AV),(∀x∈xs,x∈o.op.operands)->XY e xs=af I->j9 φ (tot E φ h') w I (xs.map a.eval)
 |[],I,_,h=>by simp only[XY,ak]at h;subst h;trivial
 |x::xs,I,hm,h=>by
  simp only[XY]at h;split at h
  .rename_i y J;split at h
   .rename_i ys' hys;simp only[ak]at h;subst h;exact⟨hp x y (hm x (dh ..)) J,PC hp xs ys' (λx M=>hm x (cM _ M)) hys⟩
   .cases h
  .cases h
theorem xH {P:Program} {f:FuncId} (hc:Et P f) (args:Array Value) (w:World):(callFunc f args).run P w= .ok (.enter f args) w:=by
 obtain⟨fn,h1,h2,M⟩:=hc;have I:fn.name≠ "runtime.NumGoroutine" :=by simpa using M
 have J:fn.body≠ah:=by intro h;rw[h]at h2;cases h2
 simp[callFunc,program,nL,h1,J,I]
theorem XR:∀(fs:List FPm) (i:Nat),Ze fs i=fs[i]?
 |[],i=>by simp[Ze]
 |f::fs,0=>rfl
 |f::fs,i+1=>by simp[Ze,XR fs i]
theorem yl {a b:Nat} (h:D5 a b=ai) (i:Nat) (I:aN a i=ai):aN b i=aj:=by
 unfold D5 at h;have h0:a&&&b=0:=aw h;have:=Nat.testBit_and a b i;rw[h0,I]at this;simpa using this.symm
structure Ctx where
 n0:Nat
 φ:PM
 E:Nat->Prop
 h:HF
 w:World
def aej (P:Program) (d:Deferred):Prop:=∀w:World,∃J cap f args,d.target= .fn J cap/\(invoke d.target d.args).run P w= .ok (.enter f args) w/\
 CallsD P f args .returning w λe I w'=>(∃v,e= .returned v)/\I= .returning/\w'=w
structure Cfg (P:Program) (C:Ctx) (nt:Nat) (s:IS) (a:Act) (w:World):Prop where
 ex:∃φ,jg C.φ φ C.h s.h.get C.w w/\rq φ C.E s.h.get w/\Od φ (tot C.E φ s.h.get) w s.e.get a/\(∀i k,φ i=af k->i<s.nx)/\∀i k,φ i=af k->C.φ i=af k\/C.n0<=i
 low:C.n0<=s.nx
 inert:∀d∈a.defers,aej P d
 size:a.tmps.size=nt
theorem Cfg.bool {P:Program} {C:Ctx} {nt:Nat} {s:IS} {a:Act} {w:World} (c:Cfg P C nt s a w) {t:Nat} {b:Bool} (ht:s.e.get t=af (.f (.raw (.bool b)))):a.eval (.tmp t)= .bool b:=by
 obtain⟨φ,_,_,en,_,_⟩:=c.ex;exact fH (en t _ ht)
theorem CK {P:Program} {c:Code} {Q:Exit->Act->World->Prop} (I:Nat->Act->World->Prop) (round:∀n a w,I n a w->c.wp P (Exit.then (λa' w'=>∃m,m<n/\I m a' w') Q) a w) {n:Nat} {a:Act} {w:World} (h0:I n a w):(Code.loop c).wp P Q a w:=by
 have least:∀(n:Nat) (a:Act) (w:World),I n a w->∃m,I m a w/\∀k,I k a w->m<=k:=by
  intro n;induction n using Nat.strongRecOn with
  |_ n U=>
   intro a w hn;by_cases J:∃k,k<n/\I k a w
   .obtain⟨k,hk,M⟩:=J;exact U k hk a w M
   .exact⟨n,hn,λk hk=>Nat.le_of_not_lt λhlt=>J ⟨k,hlt,hk⟩⟩
 have pick:∀a w,∃m,(∃n,I n a w)->I m a w/\∀k,I k a w->m<=k:=λa w=>by
  by_cases J:∃n,I n a w
  .obtain⟨n,hn⟩:=J;obtain⟨m,hm⟩:=least n a w hn;exact⟨m,λ_=>hm⟩
  .exact⟨0,λh=>cY h J⟩
 let μ:Act->World->Nat:=λa w=>Classical.choose (pick a w)
 have hμ:∀a w,(∃n,I n a w)->I (μ a w) a w/\∀k,I k a w->μ a w<=k:=λa w=>Classical.choose_spec (pick a w)
 refine wp_loop (λa w=>∃n,I n a w) μ ⟨n,h0⟩ λa w M=>?_
 refine wp_mono (round (μ a w) a w (hμ a w M).1) λe a' w' he=>?_
 cases e with
 |normal=>
  obtain⟨m,hm,hIm⟩:=he;exact⟨⟨m,hIm⟩,Nat.lt_of_le_of_lt ((hμ a' w' ⟨m,hIm⟩).2 m hIm) hm⟩
 |exit id=>exact he
 |goto l=>exact he
 |ret=>exact he
 |panic c=>exact he
 |outgrown=>exact he
def Ex.to:Ex->Exit
 |.normal=>.normal
 |.exit id=>.exit id
 |.ret=>.ret
def Ly (P:Program) (inert:FuncId->Bool):Prop:=∀f,inert f=ai->Et P f/\∀(args:Array Value) (w:World),CallsD P f args .returning w λe I w'=>(∃v,e= .returned v)/\I= .returning/\w'=w
theorem Sw {P:Program} {C:Ctx} {nt:Nat} {inert:FuncId->Bool} (hin:Ly P inert) {s:IS} {a:Act} {w:World} (c:Cfg P C nt s a w) {id:Nat} {ops:Array Oper} {dr:Bool} {f:FuncId} {caps:List Operand} {t:Nat} (hd:(ops.toList.all λo=>match o.dst with|some d=>decide (d<nt)|none=>ai)=ai) (hdf:D6 ops dr=af (f,caps,t))
 {l:List AV} (hl:XY s.e caps=af l) (hi:inert f=ai) {Q:Exit->Act->World->Prop} (hQ:∀a w,Cfg P C nt ⟨s.e.put (af t) (.clo f l),s.h,s.nx,s.wr⟩ a w->Q .normal a w):(Code.region id ops dr).wp P Q a w:=by
 unfold D6 at hdf;split at hdf
 .rename_i p q hops;split at hdf
  .rename_i f' first caps' t1 cl hpo hpg hpd hqo hqg hqd
   split at hdf
   .rename_i t2 hcl hca;split at hdf
    .rename_i hcond;simp only[av]at hcond;obtain⟨h1,h2⟩:=hcond;have h1:=aw h1;have h2:first=#[]:=by simpa using h2
     simp only[ak,aE]at hdf;obtain⟨rfl,rfl,rfl⟩:=hdf;subst h1;subst h2;have hops':ops=#[p,q]:=by rw[<- Array.toArray_toList (xs:=ops),hops]
     obtain⟨φ,m,r,en,dm⟩:=c.ex;obtain⟨hcb,hincalls⟩:=hin f' hi;have htn:t1<nt:=by
      have:=gu.1 hd p (by rw[hops];simp);rw[hpd]at this;simpa using this
     have hrelL:j9 φ (tot C.E φ s.h.get) w l (caps'.toList.map a.eval):=by
      have hp':WR φ C.E s.h.get w a s.e p:=λx y U Y=>t8 r (xs:=p.op.operands) (λt _ y Y=>en t y Y) U Y
      exact PC hp' caps'.toList l (λx U=>by rw[hpo];simpa[Op.operands] using U) hl
     have hcm:caps'.map a.eval=(caps'.toList.map a.eval).toArray:=by apply LI;simp
     let J:Value:=.func (.func f') #[] (caps'.map a.eval)
     have hrel:cW φ (tot C.E φ s.h.get) w (.clo f' l) J:=by
      simp only[J];rw[hcm];refine .clo (hrelL.length) ?_;have:∀(xs:List AV) (vs:ξ),j9 φ (tot C.E φ s.h.get) w xs vs->∀(j:Nat) x v,xs[j]? =af x->vs[j]? =af v->cW φ (tot C.E φ s.h.get) w x v:=by
       intro xs;induction xs with
       |nil=>intro vs _ j x v U;simp at U
       |cons y xs ih=>
        intro vs h j x v U hv;cases vs with
        |nil=>exact h.elim
        |cons u vs=>
         cases j with
         |zero=>simp at U hv;subst U;subst hv;exact h.1
         |succ j=>exact ih vs h.2 j x v (by simpa using U) (by simpa using hv)
      exact this _ _ hrelL
     refine wp_region ?_;have Z:bt ops.size=[0,1]:=by rw[hops'];rfl
     rw[Z];have e0:ops[0]? =af p:=by rw[hops'];rfl
     have e1:ops[1]? =af q:=by rw[hops'];rfl
     rw[wpOps_cons];have hexec1:(execOp a.eval p).run P w= .ok (.value J) w:=by
      unfold execOp;rw[hpo];simp[Instr.makeFunc,J]
     have w1:iO p (yielded ops a.tmps)=ai:=by unfold iO;rw[hpg]
     unfold wpOp;simp only[e0,w1,bG];left;unfold H7;rw[hexec1];show wpOps P ops Q [1] (a.put p.dst J) w;rw[wpOps_cons];unfold wpOp;have w2:iO q (yielded ops (a.put p.dst J).tmps)=ai:=by unfold iO;rw[hqg]
     simp only[e1,w2,bG];left;have heval:(a.put p.dst J).eval (.tmp t1)=J:=by
      show (a.put p.dst J).tmps.getD t1 undef=J;rw[IW (by intro d I;rw[hpd]at I;cases I;rw[c.size];exact htn),aD hpd]
     have hargs:cl.args=#[]:=by rw[<- Array.toArray_toList (xs:=cl.args),hca]
     have hexec2:(execOp (a.put p.dst J).eval q).run P w= .ok (.defer {target:=.fn (.func f') (caps'.map a.eval),args:=#[]}) w:=by
      unfold execOp;rw[hqo];simp[resolve,hcl,heval,J,Deferred.ofValue,hargs]
     unfold H7;rw[hexec2];show wpOps P ops Q [] _ w;refine hQ _ _ ⟨⟨φ,m,r,?_,dm⟩,c.low,?_,?_⟩
     .intro u x U;rw[hqd];show cW φ _ w x ((a.put p.dst J).tmps.getD u undef);rw[IW (by intro d I;rw[hpd]at I;cases I;rw[c.size];exact htn)];have M:(s.e.put (af t1) (.clo f' l)).get u=af x:=U;rw[<- abe]at M;unfold C4 at M;rw[hpd];by_cases hu:af t1=af u
      .rw[aD hu]at M ⊢;cases M;exact hrel
      .rw[ay hu]at M ⊢;exact en u x M
     .intro d I;rw[hqd]at I;have hd'':d={target:=.fn (.func f') (caps'.map a.eval),args:=#[]}\/d∈(a.put p.dst J).defers:=by
       simpa[Om] using I
      rcases hd'' with rfl|hd''
      .intro w0;refine ⟨_,_,f',caps'.map a.eval,rfl,?_,hincalls _ w0⟩;simp[invoke,xH hcb]
      .rw[IX]at hd'';exact c.inert d hd''
     .rw[hqd];show (a.put p.dst J).tmps.size=nt;rw[Rf];exact c.size
    .cases hdf
   .cases hdf
  .cases hdf
 .cases hdf
def YD (tmps:Array Value):ResultVar->Sem Value
 |.tmp t=>pure (tmps.getD t undef)
 |.cell a t=>do
  let I<-asAddr (tmps.getD a undef)
  loadVar t I
theorem UO (fn:Func) (tmps:Array Value):results fn tmps=(do let vs<-fn.results.mapM (YD tmps);pure (if h:vs.size=1 then vs[0] else .tuple vs)):=by
 unfold results;congr 2
theorem Dc {P:Program} {fn:Func} {tmps:Array Value} {R:Ending->World->Prop} {w:World} {v:Value} (hr:(results fn tmps).run P w= .ok v w) (I:R (.returned v) w):∀(ds:List Deferred),(∀d∈ds,aej P d)->Leaves P fn tmps R ds .returning w
 |[],_=>⟨v,hr,I⟩
 |d::ds,h=>by
  obtain⟨M,cap,f,args,h1,h2,J⟩:=h d (dh ..) w;refine ⟨by simp,M,cap,f,args,h1,h2,J.mono ?_⟩;rintro e Y w' ⟨⟨U,rfl⟩,rfl,rfl⟩;exact Dc hr I ds λd hd=>h d (cM _ hd)
theorem j9.get {φ:PM} {O:Nat->Prop} {w:World}:∀{xs:List AV} {vs:ξ},j9 φ O w xs vs->∀(j:Nat) x,xs[j]? =af x->∃v,vs[j]? =af v/\cW φ O w x v
 |[],_,_,j,x,I=>by simp at I
 |_::_,[],h,_,_,_=>h.elim
 |y::xs,u::vs,h,j,x,I=>by
  cases j with
  |zero=>simp at I;subst I;exact⟨u,rfl,h.1⟩
  |succ j=>exact j9.get h.2 j x (by simpa using I)
theorem Tt {P:Program} {f:FuncId} {I:SF} (h:Ae P f=af I):∃fn c,P.funcs[f]? =af fn∧fn.body=af c∧(fn.name== "runtime.NumGoroutine")=aj∧I.code=cA P fn.ntmps c∧vS P fn.results.toList=af I.res∧I.nt=fn.ntmps:=by
 unfold Ae at h;split at h
 .rename_i fn hf;split at h
  .cases h
  .rename_i hn;split at h
   .rename_i c r hb hr;simp only[ak]at h;subst h;exact⟨fn,c,hf,hb,by simpa using hn,rfl,hr,rfl⟩
   .cases h
 .cases h
theorem ah2 {a b:Value} (h:akh a b=ai):a=b:=by
 unfold akh at h;split at h
 .simp at h;rw[h]
 .simp at h;rw[h.1,h.2]
 .rw[Ai.1 h]
 .simp only[av]at h;rw[aw h.1,aw h.2]
 .rfl
 .rename_i x y;simp only[av,Array.isEmpty_iff]at h;rw[h.1,h.2]
 .cases h
def PT.mapO {α β:Type} (g:α->Option β):PT α->PT β
 |.leaf=>.leaf
 |.node v l r=>.node (v.bind g) (PT.mapO g l) (PT.mapO g r)
theorem PT.get_mapO {α β:Type} (g:α->Option β):∀(t:PT α) (i:Nat),(PT.mapO g t).get i=(t.get i).bind g
 |.leaf,i=>by simp[PT.mapO,PT.get]
 |.node v l r,0=>by simp[PT.mapO,PT.get]
 |.node v l r,j+1=>by
  simp only[PT.mapO,PT.get];split
  .exact PT.get_mapO g l _
  .exact PT.get_mapO g r _
theorem PT.get_updI {α:Type} (f:Nat->α->α):∀(t:PT α) (a b i:Nat),(PT.updI f a b t).get i=(t.get i).map (f (a*i+b))
 |.leaf,_,_,i=>by simp[PT.updI,PT.get]
 |.node v l r,a,b,0=>by cases v<;>simp[PT.updI,PT.get]
 |.node v l r,a,b,j+1=>by
  simp only[PT.updI,PT.get];split
  .rename_i hj;rw[PT.get_updI f l];have:2*a*(j/2)+(a+b)=a*(j+1)+b:=by
    have h2:j=2*(j/2):=by have:=aw hj;omega
    have I:2*a*(j/2)=a*j:=by rw[H8 2 a,Nat.mul_assoc,<-h2]
    rw[I,Nat.mul_add];omega
   rw[this]
  .rename_i hj;rw[PT.get_updI f r];have:2*a*(j/2)+(2*a+b)=a*(j+1)+b:=by
    have h1:j%2≠0:=λh=>hj (by rw[h];rfl)
    have h2:j=2*(j/2)+1:=by omega
    have I:2*a*(j/2)=a*(2*(j/2)):=by rw[H8 2 a,Nat.mul_assoc]
    have J:a*(j+1)=a*(2*(j/2))+2*a:=by
     conv=>lhs;rw[h2]
     rw[Nat.mul_add,Nat.mul_add];omega
    rw[I,J];omega
   rw[this]
theorem PT.bound {α:Type}:∀(t:PT α),∃B,∀i,B<=i->t.get i=ah
 |.leaf=>⟨0,λi _=>rfl⟩
 |.node v l r=>by
  obtain⟨a,I⟩:=PT.bound l;obtain⟨b,hb⟩:=PT.bound r;refine ⟨2*(a+b)+3,λi hi=>?_⟩;cases i with
  |zero=>omega
  |succ j=>
   simp only[PT.get];split
   .exact I _ (by omega)
   .exact hb _ (by omega)
def PT.ofF {α:Type} (f:Nat->Option α):Nat->PT α
 |0=>.leaf
 |n+1=>(PT.ofF f n).set n (f n)
theorem PT.get_ofF {α:Type} (f:Nat->Option α):∀(n i:Nat),(PT.ofF f n).get i=if i<n then f i else ah
 |0,i=>by simp[PT.ofF,PT.get]
 |n+1,i=>by
  rw[PT.ofF,PT.get_set,PT.get_ofF f n];by_cases h:i=n
  .subst h;simp
  .rw[ay h];by_cases h2:i<n
   .rw[aD h2,aD (by omega)]
   .rw[ay h2,ay (by omega)]
def nm (i:Nat):Nat:=2*i
def ow (n:Nat):Nat:=n/2
theorem ec (i:Nat):ow (nm i)=i:=by unfold ow nm;omega
theorem kW {i j:Nat} (h:nm i=nm j):i=j:=by unfold nm at h;omega
def fG (p:Bool) (id sz n:Nat):AV:=if p&&n==0 then .emp else .row (nm id) sz n
mutual
def cz (h:bi):TV->Option AV
 |.f T v=>af (.f (gK T v))
 |.fel T xs j _ off=>af (.f (.ptr (xs.flatMap (bS T)) (j.toNat*T.size+off)))
 |.pel id sz j off=>af (.ptr (nm id) (j.toNat*sz+off))
 |.ptr id off=>af (.ptr (nm id) off)
 |.csl id sz n=>af (.row (nm id) sz n)
 |.row id=>match eH h id with|some (p,sz,n)=>af (fG p id sz n)|none=>ah
 |.rtl id j=>match eH h id with|some (_,sz,n)=>af (.sl (nm id) (j.toNat*sz) (n-j.toNat))|none=>ah
 |.emp=>af .emp
 |.nil=>af (.f (.raw (.slice ah 0 0)))
 |.mp id=>af (.mp (nm id))
 |.agg l=>match cU h l with|some l'=>af (.agg l')|none=>ah
 |.tup l=>match cU h l with|some l'=>af (.tup l')|none=>ah
 |.clo g l=>match cU h l with|some l'=>af (.clo g l')|none=>ah
 |.undef=>af (.f (.raw undef))
 |.np=>af (.f (.raw (.pointer ah)))
 |.anyb=>af .anyb
def cU (h:bi):List TV->Option (List AV)
 |[]=>af []
 |x::r=>match cz h x with
  |some y=>(match cU h r with|some l=>af (y::l)|none=>ah)
  |none=>ah
end
def qc:(K:Ty)->K.den->Value
 |.int k,n=>.int k n
 |.str,s=>.string ⟨kM s⟩
 |_,_=>undef
def mpC:(K V:Ty)->List (K.den×V.den)->BC
 |.st (.pr .str (.int .i64)),.un,es=>.it ⟨kM (QI es)⟩ (O1 es)
 |K,V,es=>.mp (es.map λp=>(qc K p.1,.f (gK V p.2)))
theorem Ca {K V:Ty} {es:List (K.den×V.den)} (h:U0 K=ai):mpC K V es= .mp (es.map λp=>(qc K p.1,.f (gK V p.2))):=by
 unfold mpC;split
 .cases h
 .rfl
theorem ak0 {K V:Ty} {es:List (K.den×V.den)} {s:ζ} {p:Nat} (h:itE K V es=af (s,p)):mpC K V es= .it ⟨kM s⟩ p:=by
 unfold itE at h;split at h
 .cases h;rfl
 .cases h
def kH (h:bi):iw->Option xu
 |.rows ty p T xs=>if p&&xs.length==0 then ah else af ⟨ty,.fz (xs.flatMap (bS T))⟩
 |.cells ty l=>match cU h l with|some I=>af ⟨ty,.mx I⟩|none=>ah
 |.dead _ _ _=>ah
 |.mp K V es=>af ⟨0,mpC K V es⟩
def fY (e:iU) (h:bi):EF:=λt=>(e.get t).bind (cz h)
def bC (h:bi):HF:=λn=>if n%2=0 then (h.get (n/2)).bind (kH h) else ah
theorem bM (h:bi) (i:Nat):bC h (nm i)=(h.get i).bind (kH h):=by
 unfold bC nm;rw[aD (by omega),show 2*i/2=i from by omega]
theorem jE {h:bi} {n:Nat} {b:xu} (hb:bC h n=af b):∃i c,n=nm i/\h.get i=af c/\kH h c=af b:=by
 unfold bC at hb;split at hb
 .cases hc:h.get (n/2) with
  |none=>rw[hc]at hb;cases hb
  |some c=>rw[hc]at hb;exact⟨n/2,c,by unfold nm;omega,hc,hb⟩
 .cases hb
def J4 (e:iU) (h:bi):Am:=PT.mapO (cz h) e
theorem vM (e:iU) (h:bi):(J4 e h).get=fY e h:=by funext t;exact PT.get_mapO _ _ _
theorem jS (h:bi):∃H:ov,H.get=bC h:=by
 obtain⟨B,I⟩:=PT.bound h;refine ⟨PT.ofF (bC h) (2*B),?_⟩;funext n;rw[PT.get_ofF];split
 .rfl
 .unfold bC;split
  .rw[I _ (by omega)];rfl
  .rfl
theorem c7 {h:bi} {x:TV} {r:List TV} {l:List AV} (he:cU h (x::r)=af l):∃y I,l=y::I/\cz h x=af y/\cU h r=af I:=by
 simp only[cU]at he;split at he
 .rename_i y J;split at he
  .rename_i I hl;simp only[ak]at he;exact⟨y,I,he.symm,J,hl⟩
  .cases he
 .cases he
theorem pi {h:bi} {x:TV} {r:List TV} {y:AV} {I:List AV} (h1:cz h x=af y) (h2:cU h r=af I):cU h (x::r)=af (y::I):=by
 simp only[cU,h1,h2]
theorem ia {h:bi}:∀{l:List TV} {I:List AV},cU h l=af I->I.length=l.length
 |[],I,he=>by simp only[cU,ak]at he;subst he;rfl
 |x::r,I,he=>by
  obtain⟨y,l2,rfl,_,h2⟩:=c7 he;simp[ia h2]
theorem nC {h:bi}:∀{a b:List TV} {a' b':List AV},cU h a=af a'->cU h b=af b'->cU h (a++b)=af (a'++b')
 |[],b,a',b',I,hb=>by simp only[cU,ak]at I;subst I;exact hb
 |x::r,b,a',b',I,hb=>by
  obtain⟨y,l2,rfl,h1,h2⟩:=c7 I;exact pi h1 (nC h2 hb)
theorem Co {h:bi}:∀{a b:List TV} {l:List AV},cU h (a++b)=af l->∃a' b',l=a'++b'/\cU h a=af a'/\cU h b=af b'
 |[],b,l,he=>⟨[],l,rfl,rfl,he⟩
 |x::r,b,l,he=>by
  obtain⟨y,l2,rfl,h1,h2⟩:=c7 he;obtain⟨a',b',rfl,J,I⟩:=Co h2;exact⟨y::a',b',rfl,pi h1 J,I⟩
theorem Ft {h:bi}:∀{l:List TV} {I:List AV} (n:Nat),cU h l=af I->cU h (l.take n)=af (I.take n)
 |[],I,n,he=>by simp only[cU,ak]at he;subst he;simp[cU]
 |x::r,I,n,he=>by
  obtain⟨y,l2,rfl,h1,h2⟩:=c7 he;cases n with
  |zero=>simp[cU]
  |succ n=>exact pi h1 (Ft n h2)
theorem Fv {h:bi}:∀{l:List TV} {I:List AV} (n:Nat),cU h l=af I->cU h (l.drop n)=af (I.drop n)
 |[],I,n,he=>by simp only[cU,ak]at he;subst he;simp[cU]
 |x::r,I,n,he=>by
  obtain⟨y,l2,rfl,h1,h2⟩:=c7 he;cases n with
  |zero=>exact he
  |succ n=>simpa using Fv n h2
theorem sR {h:bi} {l vs:List TV} {I vs':List AV} (off:Nat) (h1:cU h l=af I) (h2:cU h vs=af vs'):cU h (splice l off vs)=af (splice I off vs'):=by
 unfold splice;rw[ia h2];exact nC (nC (Ft _ h1) h2) (Fv _ h1)
theorem mg {h:bi}:∀{l:List TV} {I:List AV},cU h l=af I->∀(j:Nat) x,l[j]? =af x->∃y,I[j]? =af y/\cz h x=af y
 |[],I,he,j,x,M=>by simp at M
 |x::r,I,he,j,z,J=>by
  obtain⟨y,l2,rfl,h1,h2⟩:=c7 he;cases j with
  |zero=>simp at J;subst J;exact⟨y,rfl,h1⟩
  |succ j=>simpa using mg h2 j z (by simpa using J)
mutual
theorem qu (h:bi):∀(u:TV),LX h u=ai->∃y,cz h u=af y
 |.f _ _,_=>⟨_,rfl⟩
 |.fel _ _ _ _ _,_=>⟨_,rfl⟩
 |.pel _ _ _ _,_=>⟨_,rfl⟩
 |.ptr _ _,_=>⟨_,rfl⟩
 |.csl _ _ _,_=>⟨_,rfl⟩
 |.row id,he=>by
  simp only[LX]at he;cases hr:eH h id with
  |none=>rw[hr]at he;cases he
  |some r=>obtain⟨p,sz,n⟩:=r;exact⟨_,by simp only[cz,hr];rfl⟩
 |.rtl id jj,he=>by
  simp only[LX]at he;cases hr:eH h id with
  |none=>rw[hr]at he;cases he
  |some r=>obtain⟨p,sz,n⟩:=r;exact⟨_,by simp only[cz,hr];rfl⟩
 |.emp,_=>⟨_,rfl⟩
 |.nil,_=>⟨_,rfl⟩
 |.mp _,_=>⟨_,rfl⟩
 |.agg l,he=>by obtain⟨y,hy⟩:=fE h l he;exact⟨_,by simp only[cz,hy];rfl⟩
 |.tup l,he=>by obtain⟨y,hy⟩:=fE h l he;exact⟨_,by simp only[cz,hy];rfl⟩
 |.clo g l,he=>by obtain⟨y,hy⟩:=fE h l he;exact⟨_,by simp only[cz,hy];rfl⟩
 |.undef,_=>⟨_,rfl⟩
 |.np,_=>⟨_,rfl⟩
 |.anyb,_=>⟨_,rfl⟩
theorem fE (h:bi):∀(l:List TV),kV h l=ai->∃l',cU h l=af l'
 |[],_=>⟨[],rfl⟩
 |x::r,he=>by
  simp only[kV,av]at he;obtain⟨y,hy⟩:=qu h x he.1;obtain⟨l',hl⟩:=fE h r he.2;exact⟨_,pi hy hl⟩
end
def cu (h h':bi):Prop:=∀id r,eH h id=af r->eH h' id=af r
mutual
theorem gG {h h':bi} (hk:cu h h'):∀(u:TV) (y:AV),cz h u=af y->cz h' u=af y
 |.f _ _,y,he=>he
 |.fel _ _ _ _ _,y,he=>he
 |.pel _ _ _ _,y,he=>he
 |.ptr _ _,y,he=>he
 |.csl _ _ _,y,he=>he
 |.row id,y,he=>by
  simp only[cz]at he ⊢;split at he
  .rename_i p sz n hr;rw[hk _ _ hr];exact he
  .cases he
 |.rtl id jj,y,he=>by
  simp only[cz]at he ⊢;split at he
  .rename_i p sz n hr;rw[hk _ _ hr];exact he
  .cases he
 |.emp,y,he=>he
 |.nil,y,he=>he
 |.mp _,y,he=>he
 |.agg l,y,he=>by
  simp only[cz]at he ⊢;split at he
  .rename_i l' hl;rw[g_ hk l l' hl];exact he
  .cases he
 |.tup l,y,he=>by
  simp only[cz]at he ⊢;split at he
  .rename_i l' hl;rw[g_ hk l l' hl];exact he
  .cases he
 |.clo g l,y,he=>by
  simp only[cz]at he ⊢;split at he
  .rename_i l' hl;rw[g_ hk l l' hl];exact he
  .cases he
 |.undef,y,he=>he
 |.np,y,he=>he
 |.anyb,y,he=>he
theorem g_ {h h':bi} (hk:cu h h'):∀(l:List TV) (l':List AV),cU h l=af l'->cU h' l=af l'
 |[],l',he=>he
 |x::r,l',he=>by
  obtain⟨y,l2,rfl,h1,h2⟩:=c7 he;exact pi (gG hk x y h1) (g_ hk r l2 h2)
end
mutual
theorem oN {h h':bi} (hk:cu h h'):∀(u:TV),LX h u=ai->LX h' u=ai
 |.f _ _,_=>rfl
 |.fel _ _ _ _ _,_=>rfl
 |.pel _ _ _ _,_=>rfl
 |.ptr _ _,_=>rfl
 |.csl _ _ _,_=>rfl
 |.row id,he=>by
  simp only[LX]at he ⊢;cases hr:eH h id with
  |none=>rw[hr]at he;cases he
  |some r=>rw[hk _ _ hr];rfl
 |.rtl id jj,he=>by
  simp only[LX]at he ⊢;cases hr:eH h id with
  |none=>rw[hr]at he;cases he
  |some r=>rw[hk _ _ hr];rfl
 |.emp,_=>rfl
 |.nil,_=>rfl
 |.mp _,_=>rfl
 |.agg l,he=>ja hk l he
 |.tup l,he=>ja hk l he
 |.clo g l,he=>ja hk l he
 |.undef,_=>rfl
 |.np,_=>rfl
 |.anyb,_=>rfl
theorem ja {h h':bi} (hk:cu h h'):∀(l:List TV),kV h l=ai->kV h' l=ai
 |[],_=>rfl
 |x::r,he=>by
  simp only[kV,av]at he ⊢;exact⟨oN hk x he.1,ja hk r he.2⟩
end
mutual
theorem Fs (h:bi):∀(u:TV) (y:AV),cz h u=af y->LX h u=ai
 |.f _ _,_,_=>rfl
 |.fel _ _ _ _ _,_,_=>rfl
 |.pel _ _ _ _,_,_=>rfl
 |.ptr _ _,_,_=>rfl
 |.csl _ _ _,_,_=>rfl
 |.row id,y,he=>by
  simp only[LX,cz]at he ⊢;cases hr:eH h id with
  |none=>rw[hr]at he;cases he
  |some r=>rfl
 |.rtl id jj,y,he=>by
  simp only[LX,cz]at he ⊢;cases hr:eH h id with
  |none=>rw[hr]at he;cases he
  |some r=>rfl
 |.emp,_,_=>rfl
 |.nil,_,_=>rfl
 |.mp _,_,_=>rfl
 |.agg l,y,he=>by
  simp only[cz]at he;split at he
  .rename_i l' hl;exact kR h l l' hl
  .cases he
 |.tup l,y,he=>by
  simp only[cz]at he;split at he
  .rename_i l' hl;exact kR h l l' hl
  .cases he
 |.clo g l,y,he=>by
  simp only[cz]at he;split at he
  .rename_i l' hl;exact kR h l l' hl
  .cases he
 |.undef,_,_=>rfl
 |.np,_,_=>rfl
 |.anyb,_,_=>rfl
theorem kR (h:bi):∀(l:List TV) (l':List AV),cU h l=af l'->kV h l=ai
 |[],_,_=>rfl
 |x::r,l',he=>by
  obtain⟨y,l2,rfl,h1,h2⟩:=c7 he;simp only[kV,av];exact⟨Fs h x y h1,kR h r l2 h2⟩
end
mutual
theorem Sg (h h':bi):∀(u:TV),uJ u=ai->cz h u=cz h' u
 |.f _ _,_=>rfl
 |.fel _ _ _ _ _,_=>rfl
 |.pel _ _ _ _,_=>rfl
 |.ptr _ _,_=>rfl
 |.csl _ _ _,_=>rfl
 |.row id,he=>by cases he
 |.emp,_=>rfl
 |.nil,_=>rfl
 |.mp _,_=>rfl
 |.agg l,he=>by simp only[cz];rw[Fu h h' l he]
 |.tup l,he=>by simp only[cz];rw[Fu h h' l he]
 |.clo g l,he=>by cases he
 |.undef,_=>rfl
 |.np,_=>rfl
 |.anyb,_=>rfl
theorem Fu (h h':bi):∀(l:List TV),qK l=ai->cU h l=cU h' l
 |[],_=>rfl
 |x::r,he=>by
  simp only[qK,av]at he;simp only[cU];rw[Sg h h' x he.1,Fu h h' r he.2]
end
theorem O2 {h:bi} {u:TV} {y:AV} (he:cz h u=af y) (hc:u.isC=ai):y.isCell=ai:=by
 cases u with
 |f T v=>cases T<;>simp only[cz,ak]at he<;>subst he<;>first|rfl|(simp [TV.isC,Ty.one]at hc)
 |fel T xs j hj off=>simp only[cz,ak]at he;subst he;rfl
 |pel id sz j off=>simp only[cz,ak]at he;subst he;rfl
 |ptr id off=>simp only[cz,ak]at he;subst he;rfl
 |csl id off z=>simp only[cz,ak]at he;subst he;rfl
 |row id=>
  simp only[cz]at he;split at he
  .simp only[ak]at he;subst he;unfold fG;split<;>rfl
  .cases he
 |rtl id I=>cases hc
 |emp=>simp only[cz,ak]at he;subst he;rfl
 |nil=>simp only[cz,ak]at he;subst he;rfl
 |mp id=>simp only[cz,ak]at he;subst he;rfl
 |agg l=>cases hc
 |tup l=>cases hc
 |clo g l=>
  simp only[cz]at he;split at he
  .simp only[ak]at he;subst he;rfl
  .cases he
 |undef=>cases hc
 |np=>simp only[cz,ak]at he;subst he;rfl
 |anyb=>cases hc
theorem su {h:bi}:∀{l:List TV} {I:List AV},cU h l=af I->kD l=ai->gJ I=ai
 |[],I,he,_=>by simp only[cU,ak]at he;subst he;rfl
 |x::r,I,he,hc=>by
  obtain⟨y,l2,rfl,h1,h2⟩:=c7 he;simp only[kD,av]at hc;simp only[gJ,av];exact⟨O2 h1 hc.1,su h2 hc.2⟩
def Le (x y:AV):Prop:=∀(φ:PM) (O:Nat->Prop) (w:World) (v:Value),cW φ O w x v->cW φ O w y v
theorem Le.refl (x:AV):Le x x:=λ_ _ _ _ h=>h
def lY (H H':HF) (x y:AV):Prop:=∀(φ:PM) (E:Nat->Prop) (w:World) (v:Value),rq φ E H w->cW φ (tot E φ H) w x v->cW φ (tot E φ H') w y v
def vU (H H':HF):Prop:=∀i b,H' i=af b->∃b0,H i=af b0
theorem vU.refl (H:HF):vU H H:=λ_ b h=>⟨b,h⟩
theorem vU.own {H H':HF} (d:vU H H') {φ:PM} {k:Nat} (h:own φ H' k):own φ H k:=by
 obtain⟨i,b,h1,h2⟩:=h;obtain⟨b0,I⟩:=d i b h1;exact⟨i,b0,I,h2⟩
theorem vU.tot {H H':HF} (d:vU H H') {E:Nat->Prop} {φ:PM} {k:Nat} (h:tot E φ H' k):tot E φ H k:=h.imp id d.own
theorem cW.dom {H H':HF} (d:vU H H') {φ:PM} {E:Nat->Prop} {w:World} {x:AV} {v:Value} (h:cW φ (tot E φ H) w x v):cW φ (tot E φ H') w x v:=
 h.ext (λ_ _ h=>h) (LA.refl _ w) λ_ _ hk=>d.tot hk
theorem nF.dom {H H':HF} (d:vU H H') {φ:PM} {E:Nat->Prop} {w:World} {x:FV} {v:Value} (h:nF (tot E φ H) w x v):nF (tot E φ H') w x v:=
 h.ext (LA.refl _ w) λ_ _ hk=>d.tot hk
theorem Le.toH {H H':HF} (d:vU H H') {x y:AV} (h:Le x y):lY H H' x y:=λφ E w v _ hr=>(h _ _ _ _ hr).dom d
theorem lY.refl {H H':HF} (d:vU H H') (x:AV):lY H H' x x:=(Le.refl x).toH d
def ij (H H':HF):List AV->List AV->Prop
 |[],[]=>True
 |x::xs,y::I=>lY H H' x y/\ij H H' xs I
 |_,_=>False
theorem ij.refl {H H':HF} (d:vU H H'):∀l,ij H H' l l
 |[]=>trivial
 |x::r=>⟨lY.refl d x,ij.refl d r⟩
theorem ij.length {H H':HF}:∀{l I:List AV},ij H H' l I->I.length=l.length
 |[],[],_=>rfl
 |[],_::_,h=>h.elim
 |_::_,[],h=>h.elim
 |_::_,_::_,h=>by simp[ij.length h.2]
theorem ij.get {H H':HF}:∀{l J:List AV},ij H H' l J->∀(j:Nat) y,J[j]? =af y->∃x,l[j]? =af x/\lY H H' x y
 |[],[],_,j,y,I=>by simp at I
 |[],_::_,h,_,_,_=>h.elim
 |_::_,[],h,_,_,_=>h.elim
 |x::xs,z::ys,h,j,y,I=>by
  cases j with
  |zero=>simp at I;subst I;exact⟨x,rfl,h.1⟩
  |succ j=>simpa using ij.get h.2 j y (by simpa using I)
theorem ij.append {H H':HF}:∀{a a' b b':List AV},ij H H' a a'->ij H H' b b'->ij H H' (a++b) (a'++b')
 |[],[],_,_,_,h=>h
 |[],_::_,_,_,h,_=>h.elim
 |_::_,[],_,_,h,_=>h.elim
 |_::_,_::_,_,_,h,h'=>⟨h.1,ij.append h.2 h'⟩
theorem ij.take {H H':HF}:∀{a a':List AV} (n:Nat),ij H H' a a'->ij H H' (a.take n) (a'.take n)
 |[],[],n,_=>by simp[ij]
 |[],_::_,_,h=>h.elim
 |_::_,[],_,h=>h.elim
 |_::_,_::_,0,_=>trivial
 |_::_,_::_,n+1,h=>⟨h.1,ij.take n h.2⟩
theorem ij.drop {H H':HF}:∀{a a':List AV} (n:Nat),ij H H' a a'->ij H H' (a.drop n) (a'.drop n)
 |[],[],n,_=>by simp[ij]
 |[],_::_,_,h=>h.elim
 |_::_,[],_,h=>h.elim
 |_::_,_::_,0,h=>h
 |_::_,_::_,n+1,h=>ij.drop n h.2
theorem ij.splice {H H':HF} {a a' b b':List AV} (off:Nat) (h1:ij H H' a a') (h2:ij H H' b b'):ij H H' (splice a off b) (splice a' off b'):=by
 unfold AI.splice;rw[h2.length];exact ((h1.take off).append h2).append (h1.drop _)
def j_ (H H':HF) (b b':xu):Prop:=∀(φ:PM) (E:Nat->Prop) (w:World) (o:Obj),rq φ E H w->jC φ (tot E φ H) w b o->jC φ (tot E φ H') w b' o
theorem j_.refl {H H':HF} (d:vU H H') (b:xu):j_ H H' b b:=λ_ _ _ _ _ h=>h.mono λ_ _ h=>h.dom d
theorem pU {φ:PM} {O:Nat->Prop} {w:World} {ty:TypeId} {c:BC} {o:Obj} (hc:c.isCells=ai):jC φ O w ⟨ty,c⟩ o↔∃arr,o= .cells arr ty (0,0)/\vV φ O w c arr:=by
 unfold jC;cases c<;>simp[BC.isCells]at hc<;>rfl
theorem j_.cells {H H':HF} {ty:TypeId} {c c':BC} (hc:c.isCells=ai) (I:c'.isCells=ai) (hl:ij H H' c.toMx c'.toMx) (hcell:∀x∈c'.toMx,x.isCell=ai):j_ H H' ⟨ty,c⟩ ⟨ty,c'⟩:=by
 intro φ E w o hrep M;rw[pU hc]at M;rw[pU I];obtain⟨arr,h1,h2,h3⟩:=M;refine ⟨arr,h1,by rw[BC.len_toMx I,hl.length,<-BC.len_toMx hc];exact h2,λj x J=>?_⟩;rw[BC.get_toMx I]at J;refine ⟨hcell x (ba J),?_⟩;obtain⟨y,U,hle⟩:=hl.get j x J;obtain⟨_,v,Z,Y⟩:=h3 j y (by rw[BC.get_toMx hc];exact U);exact⟨v,Z,hle _ _ _ _ hrep Y⟩
theorem j_.eq {H H':HF} (d:vU H H') {ty:TypeId} {c c':BC} (hc:c.isCells=ai) (I:c'.isCells=ai) (hl:c.toMx=c'.toMx):j_ H H' ⟨ty,c⟩ ⟨ty,c'⟩:=by
 intro φ E w o hrep M;rw[pU hc]at M;rw[pU I];obtain⟨arr,h1,h2,h3⟩:=M;refine ⟨arr,h1,by rw[BC.len_toMx I,<-hl,<-BC.len_toMx hc];exact h2,λj x J=>?_⟩;rw[BC.get_toMx I,<-hl,<-BC.get_toMx hc]at J;obtain⟨Z,v,Y,U⟩:=h3 j x J;exact⟨Z,v,Y,U.dom d⟩
structure Ln (H H':HF):Prop where
 dom:vU H H'
 blk:∀i b b',H i=af b->H' i=af b'->j_ H H' b b'
theorem Ln.refl (H:HF):Ln H H:=⟨vU.refl H,λi b b' h h'=>by rw[h]at h';cases h';exact j_.refl (vU.refl H) b⟩
theorem Ln.rep {H H':HF} (V:Ln H H') {φ:PM} {E:Nat->Prop} {w:World} (r:rq φ E H w):rq φ E H' w:=by
 refine ⟨λi j b b' k J Z Y U=>?_,λi b J=>?_,r.el,λg cells hg=>(r.gl g cells hg).dom V.dom⟩
 .obtain⟨b0,I⟩:=V.dom i b J;obtain⟨b1,M⟩:=V.dom j b' Z;exact r.inj i j b0 b1 k I M Y U
 .obtain⟨b0,I⟩:=V.dom i b J;obtain⟨k,p1,p2,ob,p3,p4⟩:=r.at_ i b0 I;exact⟨k,p1,p2,ob,p3,V.blk i b0 b I J φ E w ob r p4⟩
theorem gQ.view {P:Program} {o:Oper} {e:EF} {h:HF} {val val':AV} {rd wr wr' N:ι} {nw nw':HF} (ht:gQ P o e h ⟨val,rd,wr,nw,N⟩) (hsub:∀i∈wr,i∈wr'\/i∈rd)
 (hv:∀h':HF,(∀i∈rd,h' i=h i)->(∀i∈wr',h' i=h i)->Ln (eZ h' wr nw) (eZ h' wr' nw')/\lY (eZ h' wr nw) (eZ h' wr' nw') val val'):gQ P o e h ⟨val',rd,wr',nw',N⟩:=by
 intro φ E h' w a h1 h2 Z Y U;have J:=ht φ E h' w a h1 (λi hi=>(hsub i hi).elim (h2 i) (h1 i)) Z Y U;obtain⟨V,hle⟩:=hv h' h1 h2;refine QN ?_ J;rintro a' w' ⟨v,φ',rfl,mv,nm',I,rel⟩;exact⟨v,φ',rfl,⟨mv.sub,mv.ext,λk hk M=>mv.own_ k hk (V.dom.own M)⟩,nm',V.rep I,hle _ _ _ _ I rel⟩
theorem Le.nil:Le (.f (.raw (.slice ah 0 0))) (.f (.sl [] 0)):=by
 intro φ O w v hr;cases hr with
 |f hr=>cases hr;exact .f (.nil ah 0 (by unfold maxLen;omega))
theorem Le.emp:Le .emp (.f (.sl [] 0)):=by
 intro φ O w v hr;cases hr with
 |emp=>exact .f (.nil _ 0 (by unfold maxLen;omega))
theorem Le.nilEmp:Le (.f (.raw (.slice ah 0 0))) .emp:=by
 intro φ O w v hr;cases hr with
 |f hr=>cases hr;exact .emp
theorem Le.aggF {l:List FV}:Le (.f (.agg l)) (.agg (l.map .f)):=by
 intro φ O w v hr;cases hr with
 |f hr=>
  cases hr with
  |agg _ vs hl hcl hrr=>
   refine .agg (by simp[hl]) (λx I=>?_) λj x u I hu=>?_
   .obtain⟨y,J,rfl⟩:=c_.1 I;exact hcl y J
   .rw[bc]at I;cases hc:l[j]? with
    |none=>rw[hc]at I;cases I
    |some y=>rw[hc]at I;simp at I;subst I;exact .f (hrr j y u hc hu)
theorem abw (l:List AV):Le (Nd l) (.agg l):=by
 unfold Nd;split
 .rename_i fs h;rw[qe h];exact Le.aggF
 .exact Le.refl _
theorem lY.aggL {H H':HF} {l:List AV} {I:List FV} (h:ij H H' l (I.map .f)) (hc:∀x∈I,x.isCell=ai):lY H H' (.agg l) (.f (.agg I)):=by
 intro φ E w v hrep hr;cases hr with
 |@agg _ vs hl hcl hrr=>
  refine .f (.agg I vs (by rw[hl,<-h.length];simp) hc λj y u J hu=>?_);obtain⟨x,M,hle⟩:=h.get j (.f y) (by rw[bc,J];rfl);have:=hle φ E w u hrep (hrr j x u M hu);cases this with
  |f h=>exact h
theorem lY.row {H H':HF} (d:vU H H') {id sz n:Nat} {ty:TypeId} {cells:List FV} (h1:H id=af ⟨ty,.fz cells⟩) (h2:H' id=ah) (hl:cells.length=n*sz):lY H H' (.row id sz n) (.f (.sl cells n)):=by
 intro φ E w v r hr;cases hr with
 |@row _ _ _ c k hφ hn hcap hsh=>
  obtain⟨k',U,Y,_⟩:=r.at_ id _ h1;rw[hφ]at U;cases U;obtain⟨arr,p1,p2,p3⟩:=r.cs h1 hφ rfl;have hk:k<w.heap.size:=(cJ.1 p1).1;have hlen:cells.length<=arr.size:=by simpa[BC.toMx] using p3
  have hnk:¬tot E φ H' k:=by
   rintro (Z|⟨j,b,J,M⟩)
   .exact Y Z
   .obtain⟨b0,g3⟩:=d j b J;have:=r.inj j id b0 _ k g3 h1 M hφ;subst this;rw[h2]at J;cases J
  have hget:∀(j:Nat) x,cells[j]? =af x->∃u,arr[j]? =af u/\nF (tot E φ H) w x u:=λj x I=>by
   have hj:j<cells.length:=(bl.1 I).1;have hja:j<arr.size:=by omega
   refine ⟨arr[j],by simp[hja],?_⟩;have:=p2.2.2 j (.f x) arr[j] (by simp[BC.toMx,I]) (by
    rw[cZ,aD (by simpa[BC.toMx] using hj),cP];simp[hja])
   cases this with
   |f h=>exact h
  refine .f (.sl cells n c k 0 (λj=>(arr[j]?).getD undef) hn hcap hnk hk (λx I=>?_) (λj hj=>?_) (λj x I=>?_))
  .have:=p2.2.1 (.f x) (by simp only[BC.toMx];exact c_.2 ⟨x,I,rfl⟩);exact this
  .have:j<arr.size:=by omega
   simp[Oh,p1,this]
  .obtain⟨u,J,M⟩:=hget j x I;rw[J];exact M.dom d
theorem sS:∀l:List Xp,J_ l=l.flatMap wY
 |[]=>rfl
 |x::r=>by rw[J_,sS r];rfl
theorem zR:∀l:List Sx,J9 l=l.flatMap yK
 |[]=>rfl
 |x::r=>by rw[J9,zR r];rfl
theorem J8 (e:Xp):bS Nu (Oq e)=wY e:=by
 cases e with
 |mk op n name l=>simp only[Nu,Oq,bS,wY,Xp.op,Xp.n,Xp.name,Xp.l,sS];rfl
theorem So (x:Nu.den):wY (d_ x)=bS Nu x:=by
 simp only[Nu,d_,bS,wY,sS];rfl
theorem J7 (e:Sx):bS M5 (Oo e)=yK e:=by
 cases e with
 |mk op line name arg index expr body els=>simp only[M5,Oo,bS,yK,Sx.op,Sx.line,Sx.name,Sx.arg,Sx.index,Sx.expr,Sx.body,Sx.els,sS,zR];rfl
theorem Sn (x:M5.den):yK (nY x)=bS M5 x:=by
 simp only[M5,nY,bS,yK,sS,zR];rfl
theorem yf (e:Xp):(wY e).length=4:=by cases e;simp[wY]
theorem DE (e:Sx):(yK e).length=11:=by cases e;simp[yK,yf]
theorem bD:∀(T:Ty) (v:T.den),(bS T v).length=T.size
 |.int _,_=>rfl
 |.bool,_=>rfl
 |.str,_=>rfl
 |.sl _,_=>rfl
 |.st t,v=>bD t v
 |.pr a b,v=>by simp[bS,Ty.size,bD a,bD b]
 |.un,_=>rfl
 |.ex,v=>yf v
 |.sm,v=>DE v
theorem Ka (e:Xp):∀x∈wY e,x.isCell=ai:=by
 cases e with
 |mk op n name l=>
  intro x I;simp only[wY,bm,cD,gh]at I;rcases I with rfl|rfl|rfl|rfl<;>rfl
theorem VO (e:Sx):∀x∈yK e,x.isCell=ai:=by
 cases e with
 |mk op line name arg index expr body els=>
  intro x I;simp only[yK,bV,bm,cD,gh]at I;rcases I with (I|I)|I
  .rcases I with rfl|rfl|rfl|rfl|rfl<;>rfl
  .exact Ka _ _ I
  .rcases I with rfl|rfl<;>rfl
theorem om:∀(T:Ty) (v:T.den),∀x∈bS T v,x.isCell=ai
 |.int _,_,x,I=>by simp only[bS,aL]at I;subst I;rfl
 |.bool,_,x,I=>by simp only[bS,aL]at I;subst I;rfl
 |.str,_,x,I=>by simp only[bS,aL]at I;subst I;rfl
 |.sl _,_,x,I=>by simp only[bS,aL]at I;subst I;rfl
 |.st t,v,x,I=>om t v x I
 |.pr a b,v,x,I=>by
  simp only[bS,bV]at I;exact I.elim (om a v.1 x) (om b v.2 x)
 |.un,_,x,I=>by simp[bS]at I
 |.ex,v,x,I=>Ka v x I
 |.sm,v,x,I=>VO v x I
theorem DF:∀(T:Ty) (v:T.den),T.one=ai->bS T v=[gK T v]/\T.size=1
 |.int _,_,_=>⟨rfl,rfl⟩
 |.bool,_,_=>⟨rfl,rfl⟩
 |.str,_,_=>⟨rfl,rfl⟩
 |.sl _,_,_=>⟨rfl,rfl⟩
 |.st _,_,h=>by cases h
 |.pr _ _,_,h=>by cases h
 |.un,_,h=>by cases h
 |.ex,_,h=>by cases h
 |.sm,_,h=>by cases h
theorem qQ:∀(T:Ty) (v:T.den),T.one=aj->gK T v= .agg (bS T v)
 |.int _,_,h=>by cases h
 |.bool,_,h=>by cases h
 |.str,_,h=>by cases h
 |.sl _,_,h=>by cases h
 |.st _,_,_=>rfl
 |.pr _ _,_,_=>rfl
 |.un,_,_=>rfl
 |.ex,_,_=>rfl
 |.sm,_,_=>rfl
theorem AF (T:Ty) (v:T.den):(AV.f (gK T v)).cs=(bS T v).map .f:=by
 cases h:T.one with
 |true=>
  rw[(DF T v h).1];cases T<;>simp only[Ty.one]at h<;>first|rfl|cases h
 |false=>rw[qQ T v h];rfl
theorem fM {α:Type} {f:α->List FV} {n:Nat} (hf:∀x,(f x).length=n):∀(xs:List α),(xs.flatMap f).length=xs.length*n
 |[]=>by simp
 |x::r=>by rw[fQ,bx,hf,fM hf r,b_,iW];omega
theorem Fq {α:Type} {f:α->List FV} {n:Nat} (hf:∀x,(f x).length=n):∀(xs:List α) (j:Nat) (x:α),xs[j]? =af x->∃r,(xs.flatMap f).drop (j*n)=f x++r
 |[],j,x,h=>by simp at h
 |y::r,j,x,h=>by
  cases j with
  |zero=>simp at h;subst h;exact⟨r.flatMap f,by simp⟩
  |succ j=>
   obtain⟨q,hq⟩:=Fq hf r j x (by simpa using h);refine ⟨q,?_⟩;rw[fQ,show (j+1)*n=(f y).length+j*n from by rw[hf,iW];omega,vA];simp[hq]
theorem Sc {α:Type} {f:α->List FV} {n:Nat} (hf:∀x,(f x).length=n):∀(xs:List α) (j:Nat) (x z:α),xs[j]? =af x->∀(off:Nat) (vs:List FV),off+vs.length<=n->f z=AI.splice (f x) off vs->(xs.set j z).flatMap f=AI.splice (xs.flatMap f) (j*n+off) vs
 |[],j,x,z,h,_,_,_,_=>by simp at h
 |y::r,j,x,z,h,off,vs,hle,I=>by
  cases j with
  |zero=>
   simp at h;subst h;simp only[List.set_cons_zero,fQ,I,Nat.zero_mul,bQ];unfold AI.splice;have M:=hf y;rw[List.take_append,vA];have e1:off-(f y).length=0:=by omega
   have e2:off+vs.length-(f y).length=0:=by omega
   rw[e1,e2];simp[iD]
  |succ j=>
   have J:=Sc hf r j x z (by simpa using h) off vs hle I;simp only[List.set_cons_succ,fQ,J];unfold AI.splice;have M:=hf y;have e0:(j+1)*n=(f y).length+j*n:=by rw[hf,iW];omega
   rw[e0,List.take_append,vA];have e1:(f y).length+j*n+off-(f y).length=j*n+off:=by omega
   have e2:(f y).length+j*n+off+vs.length-(f y).length=j*n+off+vs.length:=by omega
   rw[e1,e2,fk (by omega:(f y).length<=(f y).length+j*n+off),r8 (by omega:(f y).length<=(f y).length+j*n+off+vs.length)];simp[iD]
theorem rT (T:Ty) (xs:List T.den):∀x∈xs.flatMap (bS T),x.isCell=ai:=λx I=>by
 obtain⟨y,_,h⟩:=vx.1 I;exact om T y x h
theorem jr {S T:Ty} {v:S.den} {x:T.den} (h:xk T v=af x):∃e:S=T,x=e▸v:=by
 unfold xk at h;split at h
 .rename_i e;simp only[ak]at h;exact⟨e,h.symm⟩
 .cases h
theorem lV (h:bi):∀(n:Nat) (T:Ty) (v:T.den) (l:List TV),cellsOf n T v=af l->cU h l=af ((bS T v).map .f)/\kD l=ai
 |0,_,_,_,he=>by simp[cellsOf]at he
 |n+1,.st t,v,l,he=>lV h n t v l he
 |n+1,.pr a b,v,l,he=>by
  simp only[cellsOf]at he;split at he
  .rename_i x y J I;simp only[ak]at he;subst he;obtain⟨h1,h2⟩:=lV h n a v.1 x J;obtain⟨M,Y⟩:=lV h n b v.2 y I;refine ⟨by rw[bS,cC];exact nC h1 M,?_⟩;clear h1 M J I;induction x with
   |nil=>exact Y
   |cons z r U=>simp only[kD,av,gr]at h2 ⊢;exact⟨h2.1,U h2.2⟩
  .cases he
 |n+1,.un,v,l,he=>by simp only[cellsOf,ak]at he;subst he;exact⟨rfl,rfl⟩
 |n+1,.ex,v,l,he=>by rw[bS,<-J8];exact lV h n Nu (Oq v) l he
 |n+1,.sm,v,l,he=>by rw[bS,<-J7];exact lV h n M5 (Oo v) l he
 |n+1,.int k,v,l,he=>by simp only[cellsOf,ak]at he;subst he;exact⟨rfl,rfl⟩
 |n+1,.bool,v,l,he=>by simp only[cellsOf,ak]at he;subst he;exact⟨rfl,rfl⟩
 |n+1,.str,v,l,he=>by simp only[cellsOf,ak]at he;subst he;exact⟨rfl,rfl⟩
 |n+1,.sl t,v,l,he=>by simp only[cellsOf,ak]at he;subst he;exact⟨rfl,rfl⟩
theorem ON {y:AV} (h:y.isCell=ai):y.cs=[y]:=by
 cases y with
 |f x=>cases x<;>first|rfl|cases h
 |agg l=>cases h
 |_=>rfl
theorem KN {h:bi} {v:TV} {l:List TV} {y:AV} (hv:v.cs=af l) (I:cz h v=af y):cU h l=af y.cs/\kD l=ai:=by
 have one:(if v.isC then af [v] else ah)=af l->cU h l=af y.cs/\kD l=ai:=λhv=>by
  split at hv
  .rename_i hc;simp only[ak]at hv;subst hv;exact⟨by rw[ON (O2 I hc)];exact pi I rfl,by simp[kD,hc]⟩
  .cases hv
 cases v with
 |agg q=>
  simp only[TV.cs]at hv;split at hv
  .rename_i hc;simp only[ak]at hv;subst hv;simp only[cz]at I;split at I
   .rename_i J hl;simp only[ak]at I;subst I;exact⟨hl,hc⟩
   .cases I
  .cases hv
 |f T x=>
  simp only[TV.cs]at hv;simp only[cz,ak]at I;subst I;rw[AF];exact lV h 40 T x l hv
 |fel T xs j hj off=>exact one hv
 |pel id sz j off=>exact one hv
 |ptr id off=>exact one hv
 |csl id off z=>exact one hv
 |row id=>exact one hv
 |emp=>exact one hv
 |nil=>exact one hv
 |mp id=>exact one hv
 |rtl id M=>exact one hv
 |tup q=>exact one hv
 |clo g q=>exact one hv
 |undef=>exact one hv
 |np=>exact one hv
 |anyb=>exact one hv
def Ey (h:bi) (H H':HF) (m:Nat):Prop:=∀id,aN m id=ai->H (nm id)=bC h (nm id)/\H' (nm id)=ah
theorem Ey.zero {h:bi} {H H':HF}:Ey h H H' 0:=λid hid=>by simp at hid
theorem Ey.or {h:bi} {H H':HF} {a b:Nat} (g:Ey h H H' (a|||b)):Ey h H H' a/\Ey h H H' b:=
 ⟨λid hid=>g id (by rw[bu,hid];rfl),λid hid=>g id (by rw[bu,hid];simp)⟩
theorem b9 {i j:Nat}:aN (kT i) j=ai↔i=j:=by
 unfold kT;rw[Nat.one_shiftLeft,Nat.testBit_two_pow];simp
section pack
variable {h:bi} {H H':HF}
theorem yo (d:vU H H') {T:Ty} {v:TV} {x:T.den} {m:Nat} {y:AV} (I:iM h T v=af (x,m)) (J:cz h v=af y) (g:Ey h H H' m):lY H H' y (.f (gK T x))/\y.cs.length=T.size/\(T.one=ai->y.isCell=ai)/\ij H H' y.cs ((bS T x).map .f):=by
 cases v with
 |f S v=>
  simp only[iM]at I;split at I
  .rename_i z M;simp only[ak,aE]at I;obtain⟨rfl,_⟩:=I;obtain⟨e,rfl⟩:=jr M;subst e;simp only[cz,ak]at J;subst J;refine ⟨lY.refl d _,by rw[AF,bY,bD],λY=>?_,by rw[AF];exact ij.refl d _⟩;cases S<;>simp only[Ty.one]at Y<;>first|rfl|cases Y
  .cases I
 |emp=>
  simp only[iM]at I;split at I
  .simp only[ak,aE]at I;obtain⟨rfl,_⟩:=I;simp only[cz,ak]at J;subst J;exact⟨Le.emp.toH d,rfl,λ_=>rfl,⟨Le.emp.toH d,trivial⟩⟩
  .cases I
 |nil=>
  simp only[iM]at I;split at I
  .simp only[ak,aE]at I;obtain⟨rfl,_⟩:=I;simp only[cz,ak]at J;subst J;exact⟨Le.nil.toH d,rfl,λ_=>rfl,⟨Le.nil.toH d,trivial⟩⟩
  .cases I
 |row id=>
  simp only[iM]at I;split at I
  .rename_i ty p S xs hb;split at I
   .rename_i z M;simp only[ak,aE]at I;obtain⟨rfl,rfl⟩:=I;obtain⟨e,rfl⟩:=jr M;subst e;obtain⟨U,Z⟩:=g id (b9.2 rfl);rw[bM,hb]at U;simp only[cz,eH,hb,ak]at J;subst J;have key:lY H H' (fG p id S.size xs.length) (.f (gK (.sl S) xs)):=by
     unfold fG;split
     .rename_i hp;simp only[av,c5]at hp;have:xs=[]:=gL.1 hp.2;subst this;exact Le.emp.toH d
     .rename_i hp;simp only[aH,kH,ay hp]at U;exact lY.row d U Z (fM (bD S) xs)
    have hc:(fG p id S.size xs.length).isCell=ai:=by unfold fG;split<;>rfl
    refine ⟨key,by rw[ON hc];rfl,λ_=>hc,?_⟩;rw[ON hc];exact⟨key,trivial⟩
   .cases I
  .cases I
 |fel T xs j hj off=>simp[iM]at I
 |pel id sz j off=>simp[iM]at I
 |ptr id off=>simp[iM]at I
 |csl id off z=>simp[iM]at I
 |mp id=>simp[iM]at I
 |rtl id jj=>simp[iM]at I
 |agg q=>simp[iM]at I
 |tup q=>simp[iM]at I
 |clo f q=>simp[iM]at I
 |undef=>simp[iM]at I
 |np=>simp[iM]at I
 |anyb=>simp[iM]at I
theorem sA (d:vU H H'):∀(n:Nat) (T:Ty) (l:List TV) (x:T.den) (m:Nat) (r:List TV) (I:List AV),fg h n T l=af (x,m,r)->cU h l=af I->Ey h H H' m->∃l1 l2,I=l1++l2/\cU h r=af l2/\ij H H' l1 ((bS T x).map .f)
 |0,_,_,_,_,_,_,hp,_,_=>by simp[fg]at hp
 |n+1,.st t,l,x,m,r,I,hp,hl,g=>sA d n t l x m r I hp hl g
 |n+1,.pr a b,l,x,m,r,I,hp,hl,g=>by
  simp only[fg]at hp;split at hp
  .rename_i J m1 r1 h1;split at hp
   .rename_i Y m2 r2 h2;simp only[ak,aE]at hp;obtain⟨rfl,rfl,rfl⟩:=hp;obtain⟨ga,gb⟩:=g.or;obtain⟨l1,l2,rfl,U,M⟩:=sA d n a l J m1 r1 I h1 hl ga;obtain⟨l3,Z,rfl,q3,q4⟩:=sA d n b r1 Y m2 r2 l2 h2 U gb;refine ⟨l1++l3,Z,by simp,q3,?_⟩;rw[bS,cC];exact M.append q4
   .cases hp
  .cases hp
 |n+1,.un,l,x,m,r,I,hp,hl,g=>by
  simp only[fg,ak,aE]at hp;obtain⟨_,_,rfl⟩:=hp;exact⟨[],I,rfl,hl,trivial⟩
 |n+1,.ex,l,x,m,r,I,hp,hl,g=>by
  simp only[fg]at hp;split at hp
  .rename_i J m1 r1 h1;simp only[ak,aE]at hp;obtain⟨rfl,rfl,rfl⟩:=hp;rw[bS,So];exact sA d n Nu l J m1 r1 I h1 hl g
  .cases hp
 |n+1,.sm,l,x,m,r,I,hp,hl,g=>by
  simp only[fg]at hp;split at hp
  .rename_i J m1 r1 h1;simp only[ak,aE]at hp;obtain⟨rfl,rfl,rfl⟩:=hp;rw[bS,Sn];exact sA d n M5 l J m1 r1 I h1 hl g
  .cases hp
 |n+1,.int k,l,x,m,r,I,hp,hl,g=>by
  simp only[fg]at hp;split at hp
  .rename_i c q;split at hp
   .rename_i J m1 h1;simp only[ak,aE]at hp;obtain⟨rfl,rfl,rfl⟩:=hp;obtain⟨y,l2,rfl,U,M⟩:=c7 hl;exact⟨[y],l2,rfl,M,⟨(yo d h1 U g).1,trivial⟩⟩
   .cases hp
  .cases hp
 |n+1,.bool,l,x,m,r,I,hp,hl,g=>by
  simp only[fg]at hp;split at hp
  .rename_i c q;split at hp
   .rename_i J m1 h1;simp only[ak,aE]at hp;obtain⟨rfl,rfl,rfl⟩:=hp;obtain⟨y,l2,rfl,U,M⟩:=c7 hl;exact⟨[y],l2,rfl,M,⟨(yo d h1 U g).1,trivial⟩⟩
   .cases hp
  .cases hp
 |n+1,.str,l,x,m,r,I,hp,hl,g=>by
  simp only[fg]at hp;split at hp
  .rename_i c q;split at hp
   .rename_i J m1 h1;simp only[ak,aE]at hp;obtain⟨rfl,rfl,rfl⟩:=hp;obtain⟨y,l2,rfl,U,M⟩:=c7 hl;exact⟨[y],l2,rfl,M,⟨(yo d h1 U g).1,trivial⟩⟩
   .cases hp
  .cases hp
 |n+1,.sl t,l,x,m,r,I,hp,hl,g=>by
  simp only[fg]at hp;split at hp
  .rename_i c q;split at hp
   .rename_i J m1 h1;simp only[ak,aE]at hp;obtain⟨rfl,rfl,rfl⟩:=hp;obtain⟨y,l2,rfl,U,M⟩:=c7 hl;exact⟨[y],l2,rfl,M,⟨(yo d h1 U g).1,trivial⟩⟩
   .cases hp
  .cases hp
theorem US (d:vU H H') {n:Nat} {T:Ty} {l:List TV} {x:T.den} {m:Nat} {I:List AV} (hp:fg h n T l=af (x,m,[])) (hl:cU h l=af I) (g:Ey h H H' m):ij H H' I ((bS T x).map .f):=by
 obtain⟨l1,l2,rfl,J,M⟩:=sA d n T l x m [] I hp hl g;simp only[cU,ak]at J;subst J;simpa using M
theorem Ql (d:vU H H') {T:Ty} {v:TV} {x:T.den} {m:Nat} {y:AV} (I:Eg h T v=af (x,m)) (J:cz h v=af y) (g:Ey h H H' m):lY H H' y (.f (gK T x))/\ij H H' y.cs ((bS T x).map .f):=by
 have other:iM h T v=af (x,m)->lY H H' y (.f (gK T x))/\ij H H' y.cs ((bS T x).map .f):=λI=>by
  obtain⟨h1,_,_,h2⟩:=yo d I J g;exact⟨h1,h2⟩
 cases v with
 |agg l=>
  simp only[Eg]at I;split at I
  .cases I
  .rename_i U;split at I
   .rename_i M m1 h1;simp only[ak,aE]at I;obtain⟨rfl,rfl⟩:=I;simp only[cz]at J;split at J
    .rename_i Y hl;simp only[ak]at J;subst J;have:=US d h1 hl g;refine ⟨?_,this⟩;rw[qQ T M (by simpa using U)];exact lY.aggL this (om T M)
    .cases J
   .cases I
 |f S v=>exact other I
 |fel T xs j hj off=>exact other I
 |pel id sz j off=>exact other I
 |ptr id off=>exact other I
 |csl id off z=>exact other I
 |row id=>exact other I
 |emp=>exact other I
 |nil=>exact other I
 |mp id=>exact other I
 |rtl id Z=>exact other I
 |tup q=>exact other I
 |clo g q=>exact other I
 |undef=>exact other I
 |np=>exact other I
 |anyb=>exact other I
theorem C7 (d:vU H H') {T:Ty}:∀(n:Nat) (l:List TV) (xs:List T.den) (m:Nat) (I:List AV),zl h T n l=af (xs,m)->cU h l=af I->Ey h H H' m->ij H H' I ((xs.flatMap (bS T)).map .f)/\xs.length=n
 |0,[],xs,m,I,hp,hl,g=>by
  simp only[zl,ak,aE]at hp;obtain⟨rfl,_⟩:=hp;simp only[cU,ak]at hl;subst hl;exact⟨trivial,rfl⟩
 |0,_::_,xs,m,I,hp,hl,g=>by simp[zl]at hp
 |n+1,l,xs,m,I,hp,hl,g=>by
  simp only[zl]at hp;split at hp
  .rename_i M m1 r1 h1;split at hp
   .rename_i J m2 h2;simp only[ak,aE]at hp;obtain⟨rfl,rfl⟩:=hp;obtain⟨ga,Z⟩:=g.or;obtain⟨l1,l2,rfl,Y,U⟩:=sA d 40 T l M m1 r1 I h1 hl ga;obtain⟨q3,q4⟩:=C7 d n r1 J m2 l2 h2 Y Z;refine ⟨?_,by simp[q4]⟩;rw[fQ,cC];exact U.append q3
   .cases hp
  .cases hp
theorem uQ (h:bi):∀(n:Nat) (T:Ty) (v:T.den) (off sz:Nat) (ag:Bool) (u:TV),ox n T v off sz ag=af u->off+sz<=T.size/\∃y,cz h u=af (.f y)/\(ag=aj->sz=1/\(bS T v)[off]? =af y)/\(ag=ai->y= .agg (((bS T v).drop off).take sz))
 |0,_,_,_,_,_,_,hg=>by simp[ox]at hg
 |n+1,.st t,v,off,sz,ag,u,hg=>by
  simp only[ox]at hg;split at hg
  .rename_i hc;simp only[av]at hc;obtain⟨⟨h1,h2⟩,rfl⟩:=hc;have h1:=aw h1;have h2:=aw h2;subst h1;subst h2;simp only[ak]at hg;subst hg;refine ⟨by simp[Ty.size],_,rfl,λh=>(by cases h),λ_=>?_⟩;simp only[gK,bS,List.drop_zero];rw[<- bD t v,cX]
  .exact uQ h n t v off sz ag u hg
 |n+1,.pr a b,v,off,sz,ag,u,hg=>by
  simp only[ox]at hg;have hla:=bD a v.1;have hlb:=bD b v.2;split at hg
  .rename_i hlt;have hlt:off<a.size:=a8 hlt;obtain⟨h1,y,h2,J,I⟩:=uQ h n a v.1 off sz ag u hg;refine ⟨by simp only[Ty.size];omega,y,h2,λe=>?_,λe=>?_⟩
   .obtain⟨U,M⟩:=J e;exact⟨U,by rw[bS,bK (by omega)];exact M⟩
   .rw[I e,bS];have:((bS a v.1++bS b v.2).drop off).take sz=((bS a v.1).drop off).take sz:=by
     rw[Ew (by omega),lw (by simp;omega)]
    rw[this]
  .rename_i hlt;have hlt:¬off<a.size:=λh=>hlt (bE h)
   obtain⟨h1,y,h2,J,I⟩:=uQ h n b v.2 (off-a.size) sz ag u hg;refine ⟨by simp only[Ty.size];omega,y,h2,λe=>?_,λe=>?_⟩
   .obtain⟨U,M⟩:=J e;exact⟨U,by rw[bS,bW (by omega),hla];exact M⟩
   .rw[I e,bS];have:(bS a v.1++bS b v.2).drop off=(bS b v.2).drop (off-a.size):=by
     rw[vA,hla,r8 (by omega)];simp
    rw[this]
 |n+1,.un,v,off,sz,ag,u,hg=>by simp[ox]at hg
 |n+1,.ex,v,off,sz,ag,u,hg=>by
  simp only[ox]at hg;split at hg
  .rename_i hc;simp only[av]at hc;obtain⟨⟨h1,h2⟩,rfl⟩:=hc;have h1:=aw h1;have h2:=aw h2;subst h1;subst h2;simp only[ak]at hg;subst hg;refine ⟨by simp[Ty.size],_,rfl,λh=>(by cases h),λ_=>?_⟩;simp only[gK,bS,List.drop_zero];rw[<- yf v,cX]
  .obtain⟨h1,y,h2,J,I⟩:=uQ h n Nu (Oq v) off sz ag u hg;rw[J8]at J I;exact⟨h1,y,h2,J,I⟩
 |n+1,.sm,v,off,sz,ag,u,hg=>by
  simp only[ox]at hg;split at hg
  .rename_i hc;simp only[av]at hc;obtain⟨⟨h1,h2⟩,rfl⟩:=hc;have h1:=aw h1;have h2:=aw h2;subst h1;subst h2;simp only[ak]at hg;subst hg;refine ⟨by simp[Ty.size],_,rfl,λh=>(by cases h),λ_=>?_⟩;simp only[gK,bS,List.drop_zero];rw[<- DE v,cX]
  .obtain⟨h1,y,h2,J,I⟩:=uQ h n M5 (Oo v) off sz ag u hg;rw[J7]at J I;exact⟨h1,y,h2,J,I⟩
 |n+1,.int k,v,off,sz,ag,u,hg=>by
  simp only[ox]at hg;split at hg
  .rename_i hc;simp only[av,eC]at hc;obtain⟨⟨h1,h2⟩,rfl⟩:=hc;have h1:=aw h1;have h2:=aw h2;subst h1;subst h2;simp only[ak]at hg;subst hg;exact⟨by simp[Ty.size],_,rfl,λ_=>⟨rfl,rfl⟩,λh=>by cases h⟩
  .cases hg
 |n+1,.bool,v,off,sz,ag,u,hg=>by
  simp only[ox]at hg;split at hg
  .rename_i hc;simp only[av,eC]at hc;obtain⟨⟨h1,h2⟩,rfl⟩:=hc;have h1:=aw h1;have h2:=aw h2;subst h1;subst h2;simp only[ak]at hg;subst hg;exact⟨by simp[Ty.size],_,rfl,λ_=>⟨rfl,rfl⟩,λh=>by cases h⟩
  .cases hg
 |n+1,.str,v,off,sz,ag,u,hg=>by
  simp only[ox]at hg;split at hg
  .rename_i hc;simp only[av,eC]at hc;obtain⟨⟨h1,h2⟩,rfl⟩:=hc;have h1:=aw h1;have h2:=aw h2;subst h1;subst h2;simp only[ak]at hg;subst hg;exact⟨by simp[Ty.size],_,rfl,λ_=>⟨rfl,rfl⟩,λh=>by cases h⟩
  .cases hg
 |n+1,.sl t,v,off,sz,ag,u,hg=>by
  simp only[ox]at hg;split at hg
  .rename_i hc;simp only[av,eC]at hc;obtain⟨⟨h1,h2⟩,rfl⟩:=hc;have h1:=aw h1;have h2:=aw h2;subst h1;subst h2;simp only[ak]at hg;subst hg;exact⟨by simp[Ty.size],_,rfl,λ_=>⟨rfl,rfl⟩,λh=>by cases h⟩
  .cases hg
theorem UH {α:Type} (l vs:List α) (h:vs.length=l.length):AI.splice l 0 vs=vs:=by
 unfold AI.splice;rw[bQ,h,List.drop_length];simp
theorem Q0 {α:Type} (a b vs:List α) (off:Nat) (h:off+vs.length<=a.length):AI.splice (a++b) off vs=AI.splice a off vs++b:=by
 unfold AI.splice;rw[lw (by omega),Ew (by omega)];simp[iD]
theorem OD {α:Type} (a b vs:List α) (off:Nat) (h:a.length<=off):AI.splice (a++b) off vs=a++AI.splice b (off-a.length) vs:=by
 unfold AI.splice;rw[List.take_append,vA,fk h,r8 (by omega),show off+vs.length-a.length=off-a.length+vs.length from by omega];simp[iD]
def Yr (H H':HF) (y:AV) (T:Ty) (v z:T.den) (off sz:Nat):Prop:=∃fs:List FV,ij H H' y.cs (fs.map .f)/\fs.length=sz/\off+sz<=T.size/\bS T z=AI.splice (bS T v) off fs/\∀x∈fs,x.isCell=ai
theorem Yr.whole {y:AV} {T:Ty} {v z:T.den} {off sz:Nat} (h0:off=0) (hs:sz=T.size) (hl:ij H H' y.cs ((bS T z).map .f)):Yr H H' y T v z off sz:=by
 subst h0;subst hs;exact⟨bS T z,hl,bD T z,by omega,(UH _ _ (by rw[bD,bD])).symm,om T z⟩
theorem wE (d:vU H H') {u:TV} {y:AV} (I:cz h u=af y):∀(n:Nat) (T:Ty) (v:T.den) (off sz:Nat) (z:T.den) (m:Nat),gU h u n T v off sz=af (z,m)->Ey h H H' m->Yr H H' y T v z off sz
 |0,_,_,_,_,_,_,hg,_=>by simp[gU]at hg
 |n+1,.st t,v,off,sz,z,m,hg,g=>by
  simp only[gU]at hg;split at hg
  .rename_i q hq;split at hq
   .rename_i hc;simp only[av]at hc;simp only[ak]at hg;subst hg;exact .whole (aw hc.1) (aw hc.2) (Ql d hq I g).2
   .cases hq
  .exact wE d I n t v off sz z m hg g
 |n+1,.pr a b,v,off,sz,z,m,hg,g=>by
  simp only[gU]at hg;have hla:=bD a v.1;split at hg
  .rename_i hlt;split at hg
   .rename_i J m1 h1;simp only[ak,aE]at hg;obtain⟨rfl,rfl⟩:=hg;obtain⟨fs,U,M,q3,q4,q5⟩:=wE d I n a v.1 off sz J m1 h1 g;refine ⟨fs,U,M,by simp only[Ty.size];omega,?_,q5⟩;rw[bS,bS,Q0 _ _ _ _ (by omega),q4]
   .cases hg
  .rename_i hlt;have hlt:¬off<a.size:=λh=>hlt (bE h)
   split at hg
   .rename_i J m1 h1;simp only[ak,aE]at hg;obtain⟨rfl,rfl⟩:=hg;obtain⟨fs,U,M,q3,q4,q5⟩:=wE d I n b v.2 (off-a.size) sz J m1 h1 g;refine ⟨fs,U,M,by simp only[Ty.size];omega,?_,q5⟩;rw[bS,bS,OD _ _ _ _ (by omega),q4,hla]
   .cases hg
 |n+1,.un,v,off,sz,z,m,hg,g=>by simp[gU]at hg
 |n+1,.ex,v,off,sz,z,m,hg,g=>by
  simp only[gU]at hg;split at hg
  .rename_i q hq;split at hq
   .rename_i hc;simp only[av]at hc;simp only[ak]at hg;subst hg;exact .whole (aw hc.1) (aw hc.2) (Ql d hq I g).2
   .cases hq
  .split at hg
   .rename_i J m1 h1;simp only[ak,aE]at hg;obtain⟨rfl,rfl⟩:=hg;obtain⟨fs,U,M,q3,q4,q5⟩:=wE d I n Nu (Oq v) off sz J m1 h1 g;exact⟨fs,U,M,q3,by rw[bS,bS,So,q4,J8],q5⟩
   .cases hg
 |n+1,.sm,v,off,sz,z,m,hg,g=>by
  simp only[gU]at hg;split at hg
  .rename_i q hq;split at hq
   .rename_i hc;simp only[av]at hc;simp only[ak]at hg;subst hg;exact .whole (aw hc.1) (aw hc.2) (Ql d hq I g).2
   .cases hq
  .split at hg
   .rename_i J m1 h1;simp only[ak,aE]at hg;obtain⟨rfl,rfl⟩:=hg;obtain⟨fs,U,M,q3,q4,q5⟩:=wE d I n M5 (Oo v) off sz J m1 h1 g;exact⟨fs,U,M,q3,by rw[bS,bS,Sn,q4,J7],q5⟩
   .cases hg
 |n+1,.int k,v,off,sz,z,m,hg,g=>by
  simp only[gU]at hg;split at hg
  .rename_i hc;simp only[av]at hc;exact .whole (aw hc.1) (aw hc.2) (yo d hg I g).2.2.2
  .cases hg
 |n+1,.bool,v,off,sz,z,m,hg,g=>by
  simp only[gU]at hg;split at hg
  .rename_i hc;simp only[av]at hc;exact .whole (aw hc.1) (aw hc.2) (yo d hg I g).2.2.2
  .cases hg
 |n+1,.str,v,off,sz,z,m,hg,g=>by
  simp only[gU]at hg;split at hg
  .rename_i hc;simp only[av]at hc;exact .whole (aw hc.1) (aw hc.2) (yo d hg I g).2.2.2
  .cases hg
 |n+1,.sl t,v,off,sz,z,m,hg,g=>by
  simp only[gU]at hg;split at hg
  .rename_i hc;simp only[av]at hc;exact .whole (aw hc.1) (aw hc.2) (yo d hg I g).2.2.2
  .cases hg
theorem Lc:∀{a b:ξ},TE a b=ai->a=b
 |[],[],_=>rfl
 |[],_::_,h=>by cases h
 |_::_,[],h=>by cases h
 |x::xs,y::ys,h=>by
  simp only[TE,av]at h;rw[ah2 h.1,Lc h.2]
theorem zero_ok (d:vU H H'):∀T:Ty,ij H H' ((tw T).map raw) ((bS T T.zero).map .f)
 |.int k=>⟨lY.refl d _,trivial⟩
 |.bool=>⟨lY.refl d _,trivial⟩
 |.str=>⟨lY.refl d _,trivial⟩
 |.sl t=>⟨Le.nil.toH d,trivial⟩
 |.st t=>zero_ok d t
 |.pr a b=>by
  simp only[tw,Ty.zero,bS,cC];exact (zero_ok d a).append (zero_ok d b)
 |.un=>trivial
 |.ex=>⟨lY.refl d _,lY.refl d _,lY.refl d _,Le.nil.toH d,trivial⟩
 |.sm=>⟨lY.refl d _,lY.refl d _,lY.refl d _,lY.refl d _,Le.nil.toH d,lY.refl d _,lY.refl d _,lY.refl d _,Le.nil.toH d,Le.nil.toH d,Le.nil.toH d,trivial⟩
theorem Ic (d:vU H H') (T:Ty):∀n,ij H H' ((repl (tw T) n).map .f) (((aG n T.zero).flatMap (bS T)).map .f)
 |0=>trivial
 |n+1=>by
  rw[repl,List.replicate_succ,fQ,cC,cC];have h1:=zero_ok (H:=H) (H':=H') d T;have:((tw T).map .raw).map AV.f=(tw T).map raw:=by rw[Aq];rfl
  rw[this];exact h1.append (Ic d T n)
end pack
structure mj (h:bi) (nx:Nat):Prop where
 cells:∀id ty l,h.get id=af (.cells ty l)->kV h l=ai
 low:∀id b,h.get id=af b->id<nx
def ub (e:iU) (h:bi):Prop:=∀t v,e.get t=af v->LX h v=ai
structure js (P:Program) (o:Oper) (still:Bool) (e:iU) (h:bi) (nx:Nat) (v:TV) (rd wr:Nat) (h':bi) (nx':Nat):Prop where
 ex:∃f:BO,gQ P o (fY e h) (bC h) f/\(∀y,cz h' v=af y->f.val=y)/\eZ (bC h) f.wr f.nw=bC h'/\(∀n∈f.rd,aN rd (ow n)=ai)/\(∀n∈f.wr,aN wr (ow n)=ai)/\(∀n∈f.N,nx<=ow n/\ow n<nx')
 rows:cu h h'
 inv:mj h' nx'
 grows:nx<=nx'
 st:still=ai->rd=0/\wr=0
def kU {R:Type} (P:Program) (o:Oper) (still:Bool) (e:iU) (h:bi) (nx:Nat) (K:KO R) (r:R):Prop:=
 ∃v rd wr h' nx',K v rd wr h' nx'=af r/\js P o still e h nx v rd wr h' nx'
theorem dY {R:Type} {b:Bool} {k:b=ai->Option R} {r:R} (h:chk b k=af r):∃hb:b=ai,k hb=af r:=by
 cases b with
 |true=>exact⟨rfl,h⟩
 |false=>cases h
theorem pN {R:Type} {b:Bool} {t f:Option R} {r:R} (h:bcase b t f=af r):(b=ai/\t=af r)\/(b=aj/\f=af r):=by
 cases b with
 |true=>exact .inl ⟨rfl,h⟩
 |false=>exact .inr ⟨rfl,h⟩
theorem dM {α R:Type} {o:Option α} {k:α->Option R} {r:R} (h:obind o k=af r):∃x,o=af x/\k x=af r:=by
 cases o with
 |some x=>exact⟨x,rfl,h⟩
 |none=>cases h
theorem E6 {j:Int} {n:Nat} (h:eX j n=ai):0<=j/\j<n/\j.toNat<n:=by
 simp only[eX,c6,fV,av,be]at h;omega
theorem gQ.envLe {P:Program} {o:Oper} {e e2:EF} {h:HF} {f:BO} (ht:gQ P o e h f) (hle:∀t y,.tmp t∈o.op.operands->e t=af y->∃J,e2 t=af J/\Le J y):gQ P o e2 h f:=by
 intro φ E h' w a h1 h2 Z Y U;refine ht φ E h' w a h1 h2 (λt I y M=>?_) Y U;obtain⟨J,g1,g2⟩:=hle t y I M;exact g2 _ _ _ _ (Z t I J g1)
theorem KL (h:bi) {v:Value} {u:TV} (hc:cst v=af u):cz h u=af (raw v)/\v.oneCell'=ai/\u.isC=ai:=by
 unfold cst at hc;split at hc<;>cases hc<;>exact⟨rfl,rfl,rfl⟩
theorem vR (h:bi):∀{z:ξ} {l:List TV},KK z=af l->cU h l=af (z.map raw)/\(∀x∈z,x.oneCell'=ai)/\kD l=ai
 |[],l,hc=>by simp only[KK,ak]at hc;subst hc;exact⟨rfl,by simp,rfl⟩
 |v::r,l,hc=>by
  simp only[KK]at hc;split at hc
  .rename_i x l' J hl;simp only[ak]at hc;subst hc;obtain⟨h1,h2,Z⟩:=KL h J;obtain⟨Y,U,M⟩:=vR h hl;refine ⟨pi h1 Y,λy I=>?_,by simp[kD,Z,M]⟩;rcases bm.1 I with rfl|I
   .exact h2
   .exact U y I
  .cases hc
theorem bO {e:iU} {h:bi} (hi:ub e h) {x:Operand} {v:TV} (I:fR e x=af v):∃y,mO (J4 e h) x=af y/\cz h v=af y:=by
 cases x with
 |tmp t=>
  simp only[fR]at I;obtain⟨y,J⟩:=qu h v (hi t v I);refine ⟨y,?_,J⟩;simp only[mO];rw[vM];simp only[fY,I,aH,J]
 |const c=>
  simp only[fR]at I;unfold ak9 at I;split at I
  .rename_i vs;split at I
   .rename_i h1;split at I
    .rename_i l hl;simp only[ak]at I;subst I;refine ⟨.agg (vs.toList.map raw),?_,by simp only[cz,(vR h hl).1]⟩;simp only[mO,FF,h1,bG];rfl
    .cases I
   .cases I
  .rename_i hn;refine ⟨raw c,?_,(KL h I).1⟩;simp only[mO];unfold FF;split
   .rename_i vs;exact cY rfl (hn vs)
   .rfl
 |func g=>
  simp only[fR,ak]at I;subst I;exact⟨_,rfl,rfl⟩
 |global g=>
  simp only[fR]at I;cases hg:G g with
  |none=>rw[hg]at I;cases I
  |some cells=>
   rw[hg]at I;simp only[ak]at I;subst I;have hcells:cells=Dd:=by
    unfold G at hg;split at hg
    .cases hg;rfl
    .cases hg
   subst hcells;exact⟨_,by simp only[mO,hg];rfl,rfl⟩
theorem zn {e:iU} {h:bi} (hi:ub e h):∀{xs:List Operand} {l:List TV},F_ e xs=af l->∃J,XY (J4 e h) xs=af J/\cU h l=af J
 |[],l,I=>by simp only[F_,ak]at I;subst I;exact⟨[],rfl,rfl⟩
 |x::xs,l,I=>by
  simp only[F_]at I;split at I
  .rename_i y U;split at I
   .rename_i ys hys;simp only[ak]at I;subst I;obtain⟨M,h1,h2⟩:=bO hi U;obtain⟨J,Z,Y⟩:=zn hi hys;exact⟨M::J,by simp only[XY,h1,Z],pi h2 Y⟩
   .cases I
  .cases I
section ops
variable {R:Type} {P:Program} {o:Oper} {e:iU} {h:bi} {nx:Nat} {K:KO R} {r:R}
theorem js.pure {s:Z5} {st:Bool} (hinv:mj h nx) (hc:dt P o.op=af s) {H:ov} (U:H.get=bC h) {k:Nat} {y0:AV} {rdl:ι} (M:eU s (J4 e h) H k=af ⟨y0,rdl,[],[],[]⟩) {v:TV} (hv:∀y,cz h v=af y->Le y0 y) {rd:Nat} (hrd:∀n∈rdl,aN rd (ow n)=ai) (hst:st=ai->rd=0):js P o st e h nx v rd 0 h nx:=by
 have ht:=I3 hc M;rw[vM,U]at ht;refine ⟨?_,λ_ _ h=>h,hinv,bX _,λhs=>⟨hst hs,rfl⟩⟩;have key:∀y,Le y0 y->gQ P o (fY e h) (bC h) ⟨y,rdl,[],jp [],[]⟩:=λy hle=>
  gQ.view ht (λi hi=>by cases hi) λh' _ _=>⟨Ln.refl _,hle.toH (vU.refl _)⟩
 cases J:cz h v with
 |none=>exact⟨_,ht,λy I=>by simp at I,by simp[CC.eff,uo],hrd,by simp[CC.eff],by simp[CC.eff]⟩
 |some y=>exact⟨_,key y (hv y J),λY I=>by simpa using I,by simp[uo],hrd,by simp,by simp⟩
theorem kU.q {s:Z5} {st:Bool} (hinv:mj h nx) (hc:dt P o.op=af s) {k:Nat} {y0:AV} (J:∀H:ov,H.get=bC h->eU s (J4 e h) H k=rv y0) {v:TV} (hv:∀y,cz h v=af y->Le y0 y) (hk:K v 0 0 h nx=af r):kU P o st e h nx K r:=by
 obtain⟨H,I⟩:=jS h;exact⟨v,0,0,h,nx,hk,js.pure hinv hc I (J H I) hv (by simp) λ_=>rfl⟩
theorem dy {y0:AV} {v:TV} (hv:cz h v=af y0):∀y,cz h v=af y->Le y0 y:=λy I=>by rw[hv]at I;cases I;exact Le.refl _
theorem aia {T:Ty} {xs:List T.den} {j:Int} (hj:eX j xs.length=ai) {off sz:Nat} {ag:Bool} {u:TV} (hg:ox 40 T (aJ xs j) off sz ag=af u):
 ∃y,cz h u=af (.f y)/\(BC.fz (xs.flatMap (bS T))).sub? (j.toNat*T.size+off) sz ag=af (.f y):=by
 obtain⟨h1,y,h2,Y,U⟩:=uQ h 40 T _ off sz ag u hg;refine ⟨y,h2,?_⟩;obtain⟨_,_,hlt⟩:=E6 hj;have I:xs[j.toNat]? =af (aJ xs j):=by
  unfold aJ;rw[aA,aB hlt];rfl
 obtain⟨q,hq⟩:=Fq (bD T) xs j.toNat _ I;have hlen:=fM (bD T) xs;have hle:(j.toNat+1)*T.size<=xs.length*T.size:=cL _ hlt;rw[iW]at hle;have hl:=bD T (aJ xs j);cases ag with
 |false=>
  obtain⟨M,J⟩:=Y rfl;subst M;simp only[BC.sub?,BC.get];have:(xs.flatMap (bS T))[j.toNat*T.size+off]? =af y:=by
   rw[<- gY,hq,bK (by omega)];exact J
  rw[this];rfl
 |true=>
  simp only[BC.sub?];rw[aD (bE (by omega)),U rfl,<-List.drop_drop,hq,Ew (by omega),lw (by simp;omega)]
theorem aib {T:Ty} {v:T.den} {off sz:Nat} {ag:Bool} {u:TV} (hg:ox 40 T v off sz ag=af u):
 ∃y,cz h u=af (.f y)/\(BC.fz (bS T v)).sub? off sz ag=af (.f y):=by
 obtain⟨h1,y,h2,U,M⟩:=uQ h 40 T _ off sz ag u hg;refine ⟨y,h2,?_⟩;have hl:=bD T v;cases ag with
 |false=>
  obtain⟨J,I⟩:=U rfl;subst J;simp only[BC.sub?,BC.get,I];rfl
 |true=>
  simp only[BC.sub?];rw[aD (bE (by omega)),M rfl]
theorem Xd {l:List TV} {I:List AV} (hl:cU h l=af I) {off sz:Nat} {ag:Bool} {u:TV} (hs:UG l off sz ag=af u):∃y,cz h u=af y/\(BC.mx I).sub? off sz ag=af y:=by
 cases ag with
 |false=>
  simp only[UG]at hs;split at hs
  .rename_i h1;have h1:=aw h1;subst h1;obtain⟨y,h2,J⟩:=mg hl off u hs;exact⟨y,J,by simp only[BC.sub?,BC.get,h2]⟩
  .cases hs
 |true=>
  simp only[UG]at hs;split at hs
  .rename_i h1;simp only[ak]at hs;subst hs;have h2:=Ft sz (Fv off hl);exact⟨.agg ((I.drop off).take sz),by simp only[cz,h2],by simp only[BC.sub?,ia hl,h1,bG]⟩
  .cases hs
theorem Rt {v:TV} {n:Nat} {y:AV} (hn:lenOf h v=af n) (I:cz h v=af y):y.slen=af n:=by
 unfold lenOf at hn;split at hn
 .simp only[ak]at hn;subst hn;simp only[cz,ak]at I;subst I;rfl
 .simp only[ak]at hn;subst hn;simp only[cz,ak]at I;subst I;rfl
 .simp only[ak]at hn;subst hn;simp only[cz,ak]at I;subst I;rfl
 .rename_i id;simp only[cz]at I;cases hr:eH h id with
  |none=>rw[hr]at hn;cases hn
  |some q=>
   obtain⟨p,sz,m⟩:=q;rw[hr]at hn I;simp only[ak]at hn I;subst hn;subst I;unfold fG;split
   .rename_i hp;simp only[av,c5]at hp;rw[hp.2];rfl
   .rfl
 .simp only[ak]at hn;subst hn;simp only[cz,ak]at I;subst I;rfl
 .cases hn
theorem Ef (a b:ζ):sr ⟨a.toArray⟩ ⟨b.toArray⟩=decide (a=b):=by
 unfold sr;simp only[Bool.beq_eq_decide_eq]
theorem ah1 {op:BinOp} {u v:TV} {q:TV->Option R} (hk:akg op u v q=af r):∃a b c t,cz h u=af (raw a)/\cz h v=af (raw b)/\vn op a b=af c/\cz h t=af (raw c)/\q t=af r:=by
 unfold akg at hk;split at hk
 .rename_i k a k' b;split at hk
  .rename_i hkk;have hkk':k=k':=by simpa using hkk
   subst hkk';refine ⟨.int k a,.int k b,?_⟩;cases op<;>simp only[reduceCtorEq]at hk<;>first
    |cases hk
    |exact⟨_,_,rfl,rfl,(by simp only[vn,c4,bG]<;>rfl),rfl,hk⟩
    |(obtain ⟨hb,hk⟩:=dY hk
      have I:(b==(0:Int))=aj:=by simpa using hb
      exact⟨_,_,rfl,rfl,by simp only[vn,c4,bG,I,cE,ef],rfl,hk⟩)
  .cases hk
 .rename_i a b;refine ⟨.string ⟨kM a⟩,.string ⟨kM b⟩,?_⟩;split at hk
  .exact⟨.bool (decide ((a:ζ)=b)),_,rfl,rfl,by simp only[vn,Ef],rfl,hk⟩
  .exact⟨.bool (!decide ((a:ζ)=b)),_,rfl,rfl,by simp only[vn,Ef],rfl,hk⟩
  .cases hk
 .cases hk
theorem Yj {T:Ty}:∀{l:List TV} {xs:List T.den},zd T l=af xs->∀k,k<l.length->l[k]? =af (.f T (xs.getD k T.zero))
 |[],xs,_,k,hk=>by simp at hk
 |.f S v::r,xs,I,k,hk=>by
  simp only[zd]at I;split at I
  .rename_i x J;split at I
   .rename_i l hl;simp only[ak]at I;subst I;obtain⟨es,ex⟩:=jr J;cases es;subst ex;cases k with
    |zero=>rfl
    |succ k=>simpa using Yj hl k (by simpa using hk)
   .cases I
  .cases I
 |.fel _ _ _ _ _::r,xs,I,k,hk=>by simp[zd]at I
 |.pel _ _ _ _::r,xs,I,k,hk=>by simp[zd]at I
 |.ptr _ _::r,xs,I,k,hk=>by simp[zd]at I
 |.csl _ _ _::r,xs,I,k,hk=>by simp[zd]at I
 |.row _::r,xs,I,k,hk=>by simp[zd]at I
 |.emp::r,xs,I,k,hk=>by simp[zd]at I
 |.nil::r,xs,I,k,hk=>by simp[zd]at I
 |.mp _::r,xs,I,k,hk=>by simp[zd]at I
 |.agg _::r,xs,I,k,hk=>by simp[zd]at I
 |.tup _::r,xs,I,k,hk=>by simp[zd]at I
 |.clo _ _::r,xs,I,k,hk=>by simp[zd]at I
 |.undef::r,xs,I,k,hk=>by simp[zd]at I
 |.np::r,xs,I,k,hk=>by simp[zd]at I
 |.anyb::r,xs,I,k,hk=>by simp[zd]at I
theorem Yi {l:List TV} {T:Ty} {xs:List T.den} (I:ado l=af ⟨T,xs⟩):∀k,k<l.length->l[k]? =af (.f T (xs.getD k T.zero)):=by
 unfold ado at I;split at I
 .split at I
  .rename_i l1 hl;simp only[ak]at I;cases I;exact Yj hl
  .cases I
 .cases I
variable (hinv:mj h nx) (hi:ub e h)
include hinv hi
theorem K_mv {con:FuncId->Option cq} {b7:TypeId->Option Ty} {x:Operand} {st:Bool} (hc:dt P o.op=af (.mv x)) (hk:dW con b7 (.op (.mv x)) e h nx K=af r):kU P o st e h nx K r:=by
 simp only[dW]at hk;split at hk
 .rename_i v hv;obtain⟨y,h1,h2⟩:=bO hi hv;exact kU.q (k:=0) hinv hc (λH _=>by simp only[eU,h1]) (dy h2) hk
 .cases hk
theorem am7 {con:FuncId->Option cq} {b7:TypeId->Option Ty} {c a b:Operand} {st:Bool} (hc:dt P o.op=af (.pick c a b)) (hk:dW con b7 (.op (.pick c a b)) e h nx K=af r):kU P o st e h nx K r:=by
 simp only[dW]at hk;split at hk
 .rename_i t hv;obtain⟨y,h1,h2⟩:=bO hi hv;simp only[cz,ak]at h2;subst h2;rcases pN hk with ⟨rfl,I⟩|⟨rfl,I⟩
  .split at I
   .rename_i v J;obtain⟨Y,U,M⟩:=bO hi J;exact kU.q (k:=0) hinv hc (λH _=>by simp only[eU,h1,gK,bG,U]) (dy M) I
   .cases I
  .split at I
   .rename_i v J;obtain⟨Y,U,M⟩:=bO hi J;exact kU.q (k:=0) hinv hc (λH _=>by simp only[eU,h1,gK,U,cE,ef]) (dy M) I
   .cases I
 .cases hk
theorem am8 {con:FuncId->Option cq} {b7:TypeId->Option Ty} {x:Operand} {st:Bool} (hc:dt P o.op=af (.nilc x)) (hk:dW con b7 (.op (.nilc x)) e h nx K=af r):kU P o st e h nx K r:=by
 simp only[dW]at hk;split at hk;all_goals first
  |(rename_i hv
    obtain⟨y,h1,h2⟩:=bO hi hv;have I:=h2;simp only[cz,ak]at h2;subst h2;exact kU.q (k:=0) hinv hc (λH _=>by simp only[eU,h1]) (dy I) hk)
  |skip
 .rename_i g cap hv;obtain⟨y,h1,h2⟩:=bO hi hv;have I:=h2;simp only[cz]at h2;split at h2
  .simp only[ak]at h2;subst h2;exact kU.q (k:=0) hinv hc (λH _=>by simp only[eU,h1]) (dy I) hk
  .cases h2
 .cases hk
theorem apd {con:FuncId->Option cq} {b7:TypeId->Option Ty} {x:Operand} {st:Bool} (hc:dt P o.op=af (.not x)) (hk:dW con b7 (.op (.not x)) e h nx K=af r):kU P o st e h nx K r:=by
 simp only[dW]at hk;split at hk
 .rename_i b hv;obtain⟨y,h1,h2⟩:=bO hi hv;simp only[cz,ak]at h2;subst h2;exact kU.q (k:=0) hinv hc (λH _=>by simp only[eU,h1,gK];rfl) (dy rfl) hk
 .cases hk
theorem amf {con:FuncId->Option cq} {b7:TypeId->Option Ty} {k:IntKind} {x:Operand} {st:Bool} (hc:dt P o.op=af (.conv k x)) (hk:dW con b7 (.op (.conv k x)) e h nx K=af r):kU P o st e h nx K r:=by
 simp only[dW]at hk;split at hk
 .rename_i k' n hv;obtain⟨y,h1,h2⟩:=bO hi hv;simp only[cz,ak]at h2;subst h2;exact kU.q (k:=0) hinv hc (λH _=>by simp only[eU,h1,gK];rfl) (dy rfl) hk
 .cases hk
theorem aps {con:FuncId->Option cq} {b7:TypeId->Option Ty} {neg:Bool} {x y:Operand} {st:Bool} (hc:dt P o.op=af (.eqb neg x y)) (hk:dW con b7 (.op (.eqb neg x y)) e h nx K=af r):kU P o st e h nx K r:=by
 simp only[dW]at hk;split at hk
 .rename_i a b hv I;obtain⟨y,h1,h2⟩:=bO hi hv;obtain⟨U,M,J⟩:=bO hi I;simp only[cz,ak]at h2 J;subst h2;subst J;exact kU.q (k:=0) hinv hc (λH _=>by simp only[eU,h1,M,gK];rfl) (dy rfl) hk
 .cases hk
theorem aht {con:FuncId->Option cq} {b7:TypeId->Option Ty} {neg:Bool} {x:Operand} {st:Bool} (hc:dt P o.op=af (.isnil neg x)) (hk:dW con b7 (.op (.isnil neg x)) e h nx K=af r):kU P o st e h nx K r:=by
 simp only[dW]at hk;split at hk
 .rename_i hv;obtain⟨y,h1,h2⟩:=bO hi hv;simp only[cz,ak]at h2;subst h2;exact kU.q (k:=0) hinv hc (λH _=>by simp only[eU,h1,Ay,bG];rfl) (dy rfl) hk
 .rename_i hv;obtain⟨y,h1,h2⟩:=bO hi hv;simp only[cz,ak]at h2;subst h2;exact kU.q (k:=0) hinv hc (λH _=>by simp only[eU,h1]) (dy rfl) hk
 .rename_i T xs hv;obtain⟨y,h1,h2⟩:=bO hi hv;simp only[cz,ak]at h2;subst h2;rcases pN hk with ⟨J,I⟩|⟨J,I⟩
  .have J:=aw J;exact kU.q (k:=0) (y0:=.anyb) hinv hc (λH _=>by simp only[eU,h1,gK,J]) (dy rfl) I
  .have J:=ig J;obtain⟨n,hn⟩:=Nat.exists_eq_succ_of_ne_zero J;exact kU.q (k:=0) (y0:=raw (.bool neg)) hinv hc (λH _=>by simp only[eU,h1,gK,hn]) (dy rfl) I
 .rename_i id hv;split at hk
  .rename_i ty T xs hb;obtain⟨y,h1,h2⟩:=bO hi hv;simp only[cz,eH,hb,fG,nI,cE,ef,ak]at h2;subst h2;exact kU.q (k:=0) (y0:=raw (.bool neg)) hinv hc (λH _=>by simp only[eU,h1]) (dy rfl) hk
  .cases hk
 .cases hk
theorem api {con:FuncId->Option cq} {b7:TypeId->Option Ty} {x y:Operand} {st:Bool} (hc:dt P o.op=af (.max x y)) (hk:dW con b7 (.op (.max x y)) e h nx K=af r):kU P o st e h nx K r:=by
 simp only[dW]at hk;split at hk
 .rename_i k a k' b hv I;obtain⟨y,h1,h2⟩:=bO hi hv;obtain⟨U,M,J⟩:=bO hi I;simp only[cz,ak]at h2 J;subst h2;subst J;split at hk
  .exact kU.q (k:=0) hinv hc (λH _=>by simp only[eU,h1,M,gK];rfl) (dy rfl) hk
  .cases hk
 .cases hk
theorem aph {con:FuncId->Option cq} {b7:TypeId->Option Ty} {x y:Operand} {st:Bool} (hc:dt P o.op=af (.min x y)) (hk:dW con b7 (.op (.min x y)) e h nx K=af r):kU P o st e h nx K r:=by
 simp only[dW]at hk;split at hk
 .rename_i k a k' b hv I;obtain⟨y,h1,h2⟩:=bO hi hv;obtain⟨U,M,J⟩:=bO hi I;simp only[cz,ak]at h2 J;subst h2;subst J;split at hk
  .exact kU.q (k:=0) hinv hc (λH _=>by simp only[eU,h1,M,gK];rfl) (dy rfl) hk
  .cases hk
 .cases hk
theorem apo {con:FuncId->Option cq} {b7:TypeId->Option Ty} {off:Nat} {x:Operand} {st:Bool} (hc:dt P o.op=af (.fad off x)) (hk:dW con b7 (.op (.fad off x)) e h nx K=af r):kU P o st e h nx K r:=by
 simp only[dW]at hk;split at hk;all_goals first
  |(rename_i hv
    obtain⟨y,h1,h2⟩:=bO hi hv;simp only[cz,ak]at h2;subst h2;exact kU.q (k:=0) hinv hc (λH _=>by simp only[eU,h1,pO]) (dy rfl) hk)
  |cases hk
theorem apn {con:FuncId->Option cq} {b7:TypeId->Option Ty} {off sz:Nat} {ag:Bool} {x:Operand} {st:Bool} (hc:dt P o.op=af (.fld off sz ag x)) (hk:dW con b7 (.op (.fld off sz ag x)) e h nx K=af r):kU P o st e h nx K r:=by
 simp only[dW]at hk;split at hk
 .rename_i l hv;split at hk
  .rename_i u hs;obtain⟨y,h1,h2⟩:=bO hi hv;simp only[cz]at h2;split at h2
   .rename_i U hl;simp only[ak]at h2;subst h2;obtain⟨y,J,I⟩:=Xd hl hs;exact kU.q (k:=0) hinv hc (λH _=>by simp only[eU,h1,I]) (dy J) hk
   .cases h2
  .cases hk
 .rename_i T v hv;split at hk
  .cases hk
  .rename_i M;split at hk
   .rename_i u hs;obtain⟨y,h1,h2⟩:=bO hi hv;simp only[cz,ak]at h2;rw[qQ T v (by simpa using M)]at h2;subst h2;obtain⟨y,J,I⟩:=aib (h:=h) hs;exact kU.q (k:=0) hinv hc (λH _=>by simp only[eU,h1,I]) (dy J) hk
   .cases hk
 .cases hk
theorem apl {con:FuncId->Option cq} {b7:TypeId->Option Ty} {n sz:Nat} {ag:Bool} {x i:Operand} {st:Bool} (hc:dt P o.op=af (.idx n sz ag x i)) (hk:dW con b7 (.op (.idx n sz ag x i)) e h nx K=af r):kU P o st e h nx K r:=by
 simp only[dW]at hk;split at hk
 .rename_i v0 k j hv U;split at hk
  .rename_i T xs hA;obtain⟨hb,hk⟩:=dY hk;cases ag with
   |true=>cases hA
   |false=>
   simp only[ang]at hA;split at hA
   .rename_i hsz;simp only[av,eC]at hsz;have hsz1:=aw hsz.1;subst hsz1;split at hA
    .rename_i l hl;split at hA
     .rename_i hn;have hn:=aw hn;obtain⟨y,h1,h2⟩:=bO hi hv;obtain⟨y2,Y,J⟩:=bO hi U;simp only[cz,ak]at J;subst J;have hj:j.toNat<l.length:=by
       simp only[av,c6,fV,be]at hb;omega
      have hg:=Yi hA j.toNat hj;obtain⟨he,_⟩:=KN hl h2;obtain⟨z,I,M⟩:=mg he j.toNat _ hg;have M:cz h (.f T (aJ xs j))=af z:=M;refine kU.q (k:=0) hinv hc (λH _=>?_) (dy M) hk;cases v0 with
      |agg q=>
       simp only[cz]at h2;split at h2
       .rename_i l' _;simp only[ak]at h2;subst h2;have I:l'[j.toNat]? =af z:=I;simp only[eU,h1,Y,gK,hb,bG,BC.sub?,BC.get,Nat.mul_one,I]
       .cases h2
      |f S u=>
       have Z:S.one=aj:=by
        have:=hsz.2;simpa[TV.isC] using this
       simp only[cz,ak]at h2;rw[qQ S u Z]at h2;subst h2;have I:((bS S u).map AV.f)[j.toNat]? =af z:=I;rw[bc]at I;simp only[eU,h1,Y,gK,hb,bG,BC.sub?,BC.get,Nat.mul_one,I]
      |_=>simp[TV.cs,TV.isC]at hl hsz
     .cases hA
    .cases hA
   .cases hA
  .split at hk
   .rename_i l;obtain⟨hb,hk⟩:=dY hk;split at hk
    .rename_i u hs;obtain⟨y,h1,h2⟩:=bO hi hv;obtain⟨y2,Y,J⟩:=bO hi U;simp only[cz,ak]at J;subst J;simp only[cz]at h2;split at h2
     .rename_i l' hl;simp only[ak]at h2;subst h2;obtain⟨y,h3,h4⟩:=Xd hl hs;exact kU.q (k:=0) hinv hc (λH _=>by simp only[eU,h1,Y,gK,hb,bG,h4]) (dy h3) hk
     .cases h2
    .cases hk
   .rename_i T v _;split at hk
    .cases hk
    .rename_i Z;obtain⟨hb,hk⟩:=dY hk;split at hk
     .rename_i u hs;obtain⟨y,h1,h2⟩:=bO hi hv;obtain⟨y2,Y,J⟩:=bO hi U;simp only[cz,ak]at J h2;subst J;rw[qQ T v (by simpa using Z)]at h2;subst h2;obtain⟨y,h3,h4⟩:=aib (h:=h) hs;exact kU.q (k:=0) hinv hc (λH _=>by simp only[eU,h1,Y,gK,hb,bG,h4]) (dy h3) hk
     .cases hk
   .cases hk
 .cases hk
theorem amd {con:FuncId->Option cq} {b7:TypeId->Option Ty} {n sz:Nat} {x i:Operand} {st:Bool} (hc:dt P o.op=af (.iada n sz x i)) (hk:dW con b7 (.op (.iada n sz x i)) e h nx K=af r):kU P o st e h nx K r:=by
 simp only[dW]at hk;split at hk
 .rename_i id off k j hv I;obtain⟨y,h1,h2⟩:=bO hi hv;obtain⟨U,M,J⟩:=bO hi I;simp only[cz,ak]at J h2;subst J;subst h2;split at hk
  .obtain⟨hb,hk⟩:=dY hk;exact kU.q (k:=0) (y0:=.ptr (nm id) (off+j.toNat*sz)) hinv hc (λH _=>by simp only[eU,h1,M,gK,hb,bG]) (dy (by simp only[cz];rw[Nat.add_comm])) hk
  .obtain⟨hb,hk⟩:=dY hk;exact kU.q (k:=0) hinv hc (λH _=>by simp only[eU,h1,M,gK,hb,bG]) (dy rfl) hk
 .cases hk
theorem apq {con:FuncId->Option cq} {b7:TypeId->Option Ty} {i:Nat} {x:Operand} {st:Bool} (hc:dt P o.op=af (.ext x i)) (hk:dW con b7 (.op (.ext x i)) e h nx K=af r):kU P o st e h nx K r:=by
 simp only[dW]at hk;split at hk
 .rename_i l hv;split at hk
  .rename_i u hs;obtain⟨y,h1,h2⟩:=bO hi hv;simp only[cz]at h2;split at h2
   .rename_i M hl;simp only[ak]at h2;subst h2;obtain⟨y,J,I⟩:=mg hl i u hs;exact kU.q (k:=0) hinv hc (λH _=>by simp only[eU,h1,J]) (dy I) hk
   .cases h2
  .cases hk
 .cases hk
theorem apk {con:FuncId->Option cq} {b7:TypeId->Option Ty} {x:Operand} {st:Bool} (hc:dt P o.op=af (.len x)) (hk:dW con b7 (.op (.len x)) e h nx K=af r):kU P o st e h nx K r:=by
 simp only[dW]at hk;split at hk
 .rename_i v hv;split at hk
  .rename_i n hn;obtain⟨y,h1,h2⟩:=bO hi hv;have I:=Rt hn h2;exact kU.q (k:=0) hinv hc (λH _=>by simp only[eU,h1,I];rfl) (dy rfl) hk
  .cases hk
 .cases hk
theorem amb {con:FuncId->Option cq} {b7:TypeId->Option Ty} {x:Operand} {st:Bool} (hc:dt P o.op=af (.lens x)) (hk:dW con b7 (.op (.lens x)) e h nx K=af r):kU P o st e h nx K r:=by
 simp only[dW]at hk;split at hk
 .rename_i s hv;obtain⟨y,h1,h2⟩:=bO hi hv;simp only[cz,ak]at h2;subst h2;exact kU.q (k:=0) hinv hc (λH _=>by simp only[eU,h1,gK];rfl) (dy rfl) hk
 .cases hk
theorem am6 {con:FuncId->Option cq} {b7:TypeId->Option Ty} {x i:Operand} {st:Bool} (hc:dt P o.op=af (.sidx x i)) (hk:dW con b7 (.op (.sidx x i)) e h nx K=af r):kU P o st e h nx K r:=by
 simp only[dW]at hk;split at hk
 .rename_i s k j hv I;obtain⟨hj,hk⟩:=dY hk;obtain⟨y,h1,h2⟩:=bO hi hv;obtain⟨Z,Y,J⟩:=bO hi I;simp only[cz,ak]at h2 J;subst h2;subst J;obtain⟨U,j1,M⟩:=E6 hj;have e1:c6 0 j=ai:=by simp[c6,U]
  have e2:(⟨kM s⟩:ByteArray).data.toList[j.toNat]? =af (List.getD s j.toNat 0):=by
   show s[j.toNat]? =_;rw[aA,aB M];rfl
  exact kU.q (k:=0) (y0:=raw (.int .u8 (aO (List.getD s j.toNat 0).toNat))) hinv hc (λH _=>by simp only[eU,h1,Y,gK,e1,bG,e2];rfl) (dy rfl) hk
 .cases hk
theorem apm {con:FuncId->Option cq} {b7:TypeId->Option Ty} {sz:Nat} {x i:Operand} {st:Bool} (hc:dt P o.op=af (.iad sz x i)) (hk:dW con b7 (.op (.iad sz x i)) e h nx K=af r):kU P o st e h nx K r:=by
 simp only[dW]at hk;split at hk
 .rename_i id k j hv I;split at hk
  .rename_i ty p T xs hb;split at hk
   .rename_i hs;have hs:=aw hs;obtain⟨hj,hk⟩:=dY hk;obtain⟨y,h1,h2⟩:=bO hi hv;obtain⟨Z,U,J⟩:=bO hi I;simp only[cz,ak]at J;subst J;obtain⟨j0,j1,j2⟩:=E6 hj;have hne:¬((p&&xs.length==0)=ai):=by
     simp only[av,c5];omega
    simp only[cz,eH,hb,fG,ay hne,ak]at h2;subst h2;have Y:(T.size==sz&&c6 0 j&&fV j xs.length)=ai:=by
     simp only[eX,av]at hj;simp[hs,hj.1,hj.2]
    exact kU.q (k:=0) hinv hc (λH _=>by simp only[eU,h1,U,gK,Y,bG,dx]) (dy rfl) hk
   .cases hk
  .cases hk
 .rename_i T xs k j hv I;split at hk
  .rename_i hs;have hs:=aw hs;obtain⟨hj,hk⟩:=dY hk;obtain⟨y,h1,h2⟩:=bO hi hv;obtain⟨Z,U,J⟩:=bO hi I;simp only[cz,ak]at J h2;subst J;subst h2;have M:(c6 0 j&&fV j (al xs))=ai:=hj;exact kU.q (k:=0) hinv hc (λH _=>by simp only[eU,h1,U,gK,M,bG,dx,hs]) (dy rfl) hk
  .cases hk
 .rename_i id sz' n k j hv I;split at hk
  .rename_i hs;have hs:=aw hs;subst hs;obtain⟨hj,hk⟩:=dY hk;obtain⟨y,h1,h2⟩:=bO hi hv;obtain⟨Z,U,J⟩:=bO hi I;simp only[cz,ak]at J h2;subst J;subst h2;have M:(sz'==sz'&&c6 0 j&&fV j n)=ai:=by simp only[av]at hj ⊢;exact⟨⟨c4 _,hj.1⟩,hj.2⟩
   exact kU.q (k:=0) hinv hc (λH _=>by simp only[eU,h1,U,gK,M,bG]) (dy rfl) hk
  .cases hk
 .cases hk
theorem apg {con:FuncId->Option cq} {b7:TypeId->Option Ty} {f:FuncId} {caps:List Operand} {st:Bool} (hc:dt P o.op=af (.mkf f caps)) (hk:dW con b7 (.op (.mkf f caps)) e h nx K=af r):kU P o st e h nx K r:=by
 simp only[dW]at hk;split at hk
 .rename_i l hv;obtain⟨I,h1,h2⟩:=zn hi hv;exact kU.q (k:=0) hinv hc (y0:=.clo f I) (λH _=>by simp only[eU,h1]) (dy (by simp only[cz,h2])) hk
 .cases hk
theorem apw {con:FuncId->Option cq} {b7:TypeId->Option Ty} {op:BinOp} {x y:Operand} {st:Bool} (hc:dt P o.op=af (.bin op x y)) (hk:dW con b7 (.op (.bin op x y)) e h nx K=af r):kU P o st e h nx K r:=by
 simp only[dW]at hk;split at hk
 .rename_i u v hv I;obtain⟨a,b,c,t,h1,h2,h3,h4,Z⟩:=ah1 (h:=h) hk;obtain⟨y,Y,U⟩:=bO hi hv;obtain⟨y2,M,J⟩:=bO hi I;rw[h1]at U;cases U;rw[h2]at J;cases J;simp only[raw]at Y M;exact kU.q (k:=0) hinv hc (λH _=>by simp only[eU,Y,M,h3]) (dy h4) Z
 .cases hk
end ops
def mR:iw->Option (Bool×Nat×Nat)
 |.rows _ p T xs=>af (p,T.size,xs.length)
 |.dead p sz n=>af (p,sz,n)
 |_=>ah
theorem bU (h:bi) (i:Nat):eH h i=(h.get i).bind mR:=by
 unfold eH;cases h.get i with
 |none=>rfl
 |some b=>cases b<;>rfl
theorem cu.refl (h:bi):cu h h:=λ_ _ h=>h
theorem cu.trans {a b c:bi} (h1:cu a b) (h2:cu b c):cu a c:=λi r h=>h2 i r (h1 i r h)
theorem cu.set {h:bi} {i:Nat} {b:iw} (hb:∀r,eH h i=af r->mR b=af r):cu h (h.set i (af b)):=λj r hj=>by
 rw[bU,PT.get_set];by_cases e:j=i
 .subst e;rw[aD rfl];exact hb r hj
 .rw[ay e,<-bU];exact hj
theorem M7 {b:iw} {r:Bool×Nat×Nat} (h:mR b=af r):mR (vG b)=af r:=by cases b<;>first|exact h|cases h
theorem jf (m:Nat) (h:bi) (i:Nat):(eJ m h).get i=if aN m i then (h.get i).map vG else h.get i:=by
 unfold eJ;split
 .rename_i hm;have:=aw hm;subst this;simp
 .rw[PT.get_updI];simp only[Nat.one_mul,dx];cases h.get i with
  |none=>simp
  |some b=>simp only[co];split<;>rfl
theorem cu.kill (m:Nat) (h:bi):cu h (eJ m h):=λi r hr=>by
 rw[bU]at hr ⊢;rw[jf];split
 .cases hb:h.get i with
  |none=>rw[hb]at hr;cases hr
  |some b=>rw[hb]at hr;exact M7 hr
 .exact hr
theorem mj.set {h:bi} {nx nx' i:Nat} {b:iw} (hi:mj h nx) (hr:cu h (h.set i (af b))) (hlt:i<nx') (hle:nx<=nx') (hb:∀ty l,b= .cells ty l->kV (h.set i (af b)) l=ai):mj (h.set i (af b)) nx':=by
 refine ⟨λj ty l hj=>?_,λj c hj=>?_⟩
 .rw[PT.get_set]at hj;split at hj
  .simp only[ak]at hj;exact hb ty l hj
  .exact ja hr l (hi.cells j ty l hj)
 .rw[PT.get_set]at hj;split at hj
  .rename_i e;subst e;exact hlt
  .exact dE (hi.low j c hj) hle
theorem mj.kill {h:bi} {nx:Nat} (hi:mj h nx) (m:Nat):mj (eJ m h) nx:=by
 refine ⟨λj ty l hj=>?_,λj c hj=>?_⟩
 .rw[jf]at hj;refine ja (cu.kill m h) l (hi.cells j ty l ?_);split at hj
  .cases hb:h.get j with
   |none=>rw[hb]at hj;cases hj
   |some b=>rw[hb]at hj;cases b<;>simp[vG]at hj
  .exact hj
 .rw[jf]at hj;split at hj
  .cases hb:h.get j with
   |none=>rw[hb]at hj;cases hj
   |some b=>exact hi.low j b hb
  .exact hi.low j c hj
theorem J5 {h h':bi} (hr:cu h h') {b:iw} (hb:∀ty l,b= .cells ty l->kV h l=ai):kH h' b=kH h b:=by
 cases b with
 |cells ty l=>
  obtain⟨I,hl⟩:=fE h l (hb ty l rfl);simp only[kH,hl,g_ hr l I hl]
 |_=>rfl
theorem Zf {h h':bi} {nx i:Nat} (hi:mj h nx) (hr:cu h h') (hg:h'.get i=h.get i):bC h' (nm i)=bC h (nm i):=by
 rw[bM,bM,hg];cases hb:h.get i with
 |none=>rfl
 |some b=>exact J5 hr λty l e=>hi.cells i ty l (by rw[hb,e])
theorem wX (h:bi) {n:Nat} (hn:¬∃i,n=nm i):bC h n=ah:=by
 unfold bC;rw[ay];intro h2;exact hn ⟨n/2,by unfold nm;omega⟩
theorem kS {h h':bi} {nx:Nat} (hi:mj h nx) (hr:cu h h') {n:Nat} (hg:∀i,n=nm i->h'.get i=h.get i):bC h' n=bC h n:=by
 by_cases hn:∃i,n=nm i
 .obtain⟨i,rfl⟩:=hn;exact Zf hi hr (hg i rfl)
 .rw[wX h hn,wX h' hn]
def Gb (m:Nat):ι:=(adk m).map nm
theorem oa {m n:Nat}:n∈Gb m↔∃i,n=nm i/\aN m i=ai:=by
 unfold Gb;rw[c_];constructor
 .rintro⟨i,h1,rfl⟩;exact⟨i,rfl,Ng.1 h1⟩
 .rintro⟨i,rfl,h1⟩;exact⟨i,Ng.2 h1,rfl⟩
theorem lJ {m i:Nat}:nm i∈Gb m↔aN m i=ai:=by
 rw[oa];constructor
 .rintro⟨j,h1,h2⟩;rw[kW h1];exact h2
 .exact λh=>⟨i,rfl,h⟩
def dU (h:bi) (m:Nat):Prop:=∀i,aN m i=ai->∃ty p T xs,h.get i=af (.rows ty p T xs)
theorem dU.zero (h:bi):dU h 0:=λi hi=>by simp at hi
theorem dU.or {h:bi} {a b:Nat} (I:dU h a) (hb:dU h b):dU h (a|||b):=λi hi=>by
 rw[bu,i_]at hi;exact hi.elim (I i) (hb i)
theorem nE {h:bi} {T:Ty} {v:TV} {x:T.den} {m:Nat} (I:iM h T v=af (x,m)):dU h m:=by
 cases v with
 |f S v=>
  simp only[iM]at I;split at I
  .simp only[ak,aE]at I;rw[<- I.2];exact dU.zero h
  .cases I
 |emp=>
  simp only[iM]at I;split at I
  .simp only[ak,aE]at I;rw[<- I.2];exact dU.zero h
  .cases I
 |nil=>
  simp only[iM]at I;split at I
  .simp only[ak,aE]at I;rw[<- I.2];exact dU.zero h
  .cases I
 |row id=>
  simp only[iM]at I;split at I
  .rename_i ty p S xs hb;split at I
   .simp only[ak,aE]at I;rw[<- I.2];intro i hi;have:=b9.1 hi;subst this;exact⟨ty,p,S,xs,hb⟩
   .cases I
  .cases I
 |fel T xs j hj off=>simp[iM]at I
 |pel id sz j off=>simp[iM]at I
 |ptr id off=>simp[iM]at I
 |csl id off z=>simp[iM]at I
 |mp id=>simp[iM]at I
 |rtl id J=>simp[iM]at I
 |agg q=>simp[iM]at I
 |tup q=>simp[iM]at I
 |clo f q=>simp[iM]at I
 |undef=>simp[iM]at I
 |np=>simp[iM]at I
 |anyb=>simp[iM]at I
theorem vC {h:bi}:∀(n:Nat) (T:Ty) (l:List TV) (x:T.den) (m:Nat) (r:List TV),fg h n T l=af (x,m,r)->dU h m
 |0,_,_,_,_,_,hp=>by simp[fg]at hp
 |n+1,.st t,l,x,m,r,hp=>vC n t l x m r hp
 |n+1,.pr a b,l,x,m,r,hp=>by
  simp only[fg]at hp;split at hp
  .rename_i I m1 r1 h1;split at hp
   .rename_i J m2 r2 h2;simp only[ak,aE]at hp;obtain⟨_,rfl,_⟩:=hp;exact (vC n a l I m1 r1 h1).or (vC n b r1 J m2 r2 h2)
   .cases hp
  .cases hp
 |n+1,.un,l,x,m,r,hp=>by
  simp only[fg,ak,aE]at hp;obtain⟨_,rfl,_⟩:=hp;exact dU.zero h
 |n+1,.ex,l,x,m,r,hp=>by
  simp only[fg]at hp;split at hp
  .rename_i I m1 r1 h1;simp only[ak,aE]at hp;obtain⟨_,rfl,_⟩:=hp;exact vC n Nu l I m1 r1 h1
  .cases hp
 |n+1,.sm,l,x,m,r,hp=>by
  simp only[fg]at hp;split at hp
  .rename_i I m1 r1 h1;simp only[ak,aE]at hp;obtain⟨_,rfl,_⟩:=hp;exact vC n M5 l I m1 r1 h1
  .cases hp
 |n+1,.int k,l,x,m,r,hp=>by
  simp only[fg]at hp;split at hp
  .split at hp
   .rename_i I m1 h1;simp only[ak,aE]at hp;obtain⟨_,rfl,_⟩:=hp;exact nE h1
   .cases hp
  .cases hp
 |n+1,.bool,l,x,m,r,hp=>by
  simp only[fg]at hp;split at hp
  .split at hp
   .rename_i I m1 h1;simp only[ak,aE]at hp;obtain⟨_,rfl,_⟩:=hp;exact nE h1
   .cases hp
  .cases hp
 |n+1,.str,l,x,m,r,hp=>by
  simp only[fg]at hp;split at hp
  .split at hp
   .rename_i I m1 h1;simp only[ak,aE]at hp;obtain⟨_,rfl,_⟩:=hp;exact nE h1
   .cases hp
  .cases hp
 |n+1,.sl t,l,x,m,r,hp=>by
  simp only[fg]at hp;split at hp
  .split at hp
   .rename_i I m1 h1;simp only[ak,aE]at hp;obtain⟨_,rfl,_⟩:=hp;exact nE h1
   .cases hp
  .cases hp
theorem Yh {h:bi} {T:Ty} {v:TV} {x:T.den} {m:Nat} (I:Eg h T v=af (x,m)):dU h m:=by
 cases v with
 |agg l=>
  simp only[Eg]at I;split at I
  .cases I
  .split at I
   .rename_i J m1 h1;simp only[ak,aE]at I;obtain⟨_,rfl⟩:=I;exact vC 40 T l J m1 [] h1
   .cases I
 |f S v=>exact nE (v:=.f S v) I
 |fel T xs j hj off=>exact nE (v:=.fel T xs j hj off) I
 |pel id sz j off=>exact nE (v:=.pel id sz j off) I
 |ptr id off=>exact nE (v:=.ptr id off) I
 |csl id off z=>exact nE (v:=.csl id off z) I
 |row id=>exact nE (v:=.row id) I
 |emp=>exact nE (v:=.emp) I
 |nil=>exact nE (v:=.nil) I
 |mp id=>exact nE (v:=.mp id) I
 |rtl id M=>exact nE (v:=.rtl id M) I
 |tup q=>exact nE (v:=.tup q) I
 |clo g q=>exact nE (v:=.clo g q) I
 |undef=>exact nE (v:=.undef) I
 |np=>exact nE (v:=.np) I
 |anyb=>exact nE (v:=.anyb) I
theorem OK {h:bi} {T:Ty}:∀(n:Nat) (l:List TV) (xs:List T.den) (m:Nat),zl h T n l=af (xs,m)->dU h m
 |0,[],xs,m,hp=>by simp only[zl,ak,aE]at hp;rw[<- hp.2];exact dU.zero h
 |0,_::_,xs,m,hp=>by simp[zl]at hp
 |n+1,l,xs,m,hp=>by
  simp only[zl]at hp;split at hp
  .rename_i J m1 r1 h1;split at hp
   .rename_i I m2 h2;simp only[ak,aE]at hp;obtain⟨_,rfl⟩:=hp;exact (vC 40 T l J m1 r1 h1).or (OK n r1 I m2 h2)
   .cases hp
  .cases hp
theorem As {h:bi} {u:TV}:∀(n:Nat) (T:Ty) (v:T.den) (off sz:Nat) (z:T.den) (m:Nat),gU h u n T v off sz=af (z,m)->dU h m
 |0,_,_,_,_,_,_,hg=>by simp[gU]at hg
 |n+1,.st t,v,off,sz,z,m,hg=>by
  simp only[gU]at hg;split at hg
  .rename_i q hq;split at hq
   .simp only[ak]at hg;subst hg;exact Yh hq
   .cases hq
  .exact As n t v off sz z m hg
 |n+1,.pr a b,v,off,sz,z,m,hg=>by
  simp only[gU]at hg;split at hg
  .split at hg
   .rename_i I m1 h1;simp only[ak,aE]at hg;obtain⟨_,rfl⟩:=hg;exact As n a v.1 off sz I m1 h1
   .cases hg
  .split at hg
   .rename_i I m1 h1;simp only[ak,aE]at hg;obtain⟨_,rfl⟩:=hg;exact As n b v.2 _ sz I m1 h1
   .cases hg
 |n+1,.un,v,off,sz,z,m,hg=>by simp[gU]at hg
 |n+1,.ex,v,off,sz,z,m,hg=>by
  simp only[gU]at hg;split at hg
  .rename_i q hq;split at hq
   .simp only[ak]at hg;subst hg;exact Yh hq
   .cases hq
  .split at hg
   .rename_i I m1 h1;simp only[ak,aE]at hg;obtain⟨_,rfl⟩:=hg;exact As n Nu _ off sz I m1 h1
   .cases hg
 |n+1,.sm,v,off,sz,z,m,hg=>by
  simp only[gU]at hg;split at hg
  .rename_i q hq;split at hq
   .simp only[ak]at hg;subst hg;exact Yh hq
   .cases hq
  .split at hg
   .rename_i I m1 h1;simp only[ak,aE]at hg;obtain⟨_,rfl⟩:=hg;exact As n M5 _ off sz I m1 h1
   .cases hg
 |n+1,.int k,v,off,sz,z,m,hg=>by
  simp only[gU]at hg;split at hg
  .exact nE hg
  .cases hg
 |n+1,.bool,v,off,sz,z,m,hg=>by
  simp only[gU]at hg;split at hg
  .exact nE hg
  .cases hg
 |n+1,.str,v,off,sz,z,m,hg=>by
  simp only[gU]at hg;split at hg
  .exact nE hg
  .cases hg
 |n+1,.sl t,v,off,sz,z,m,hg=>by
  simp only[gU]at hg;split at hg
  .exact nE hg
  .cases hg
theorem uk {h:bi} {m i:Nat} (hm:dU h m) (hb:aN m i=ai):∃p sz n,(eJ m h).get i=af (.dead p sz n):=by
 obtain⟨ty,p,T,xs,h1⟩:=hm i hb;exact⟨p,T.size,xs.length,by rw[jf,aD hb,h1];rfl⟩
section ops
variable {R:Type} {P:Program} {o:Oper} {e:iU} {h:bi} {nx:Nat} {K:KO R} {r:R}
theorem il (n:Nat) (b:xu):jp [(n,b)] n=af b:=by simp[jp]
theorem js.mk' {s:Z5} (hc:dt P o.op=af s) {H:ov} (hH:H.get=bC h) {k:Nat} {y0:AV} {rdl wrl N:ι} {nw:NW} (ha:eU s (J4 e h) H k=af ⟨y0,rdl,wrl,nw,N⟩) {v:TV} {h':bi} {nx' rd wr:Nat} (wr':ι)
 (hsub:∀i∈wrl,i∈wr') (hsame:∀n,n∉wr'->bC h' n=bC h n)
 (hdom:∀i∈wr',∀b',bC h' i=af b'->∃b,(if i∈wrl then jp nw i else bC h i)=af b)
 (hblk:∀(Y H2:HF),vU Y H2->(∀i∈wrl,Y i=jp nw i)->(∀i∈wr',i∉wrl->Y i=bC h i)->(∀i∈wr',H2 i=bC h' i)->(∀i∈wr',∀b b',Y i=af b->H2 i=af b'->j_ Y H2 b b')/\∀y,cz h' v=af y->lY Y H2 y0 y)
 (hrd:∀n∈rdl,aN rd (ow n)=ai) (hwr:∀n∈wr',aN wr (ow n)=ai) (hN:∀n∈N,nx<=ow n/\ow n<nx') (hrows:cu h h') (hinv':mj h' nx') (hg:nx<=nx'):js P o aj e h nx v rd wr h' nx':=by
 have ht:=I3 hc ha;rw[vM,hH]at ht;refine ⟨?_,hrows,hinv',hg,λhs=>by cases hs⟩;have base:∀(val:AV),(∀y,cz h' v=af y->y=val)->(cz h' v=ah->val=y0)->gQ P o (fY e h) (bC h) ⟨val,rdl,wr',bC h',N⟩:=by
  intro val hval hnone;refine gQ.view ht (λi hi=>.inl (hsub i hi)) λh1 hr1 Z=>?_
  have hd:vU (eZ h1 wrl (jp nw)) (eZ h1 wr' (bC h')):=by
   intro i b hb;unfold eZ at hb ⊢;by_cases hi:i∈wr'
   .rw[aD hi]at hb;obtain⟨b0,J⟩:=hdom i hi b hb;refine ⟨b0,?_⟩;by_cases U:i∈wrl
    .rw[aD U]at J ⊢;exact J
    .rw[ay U]at J ⊢;rw[Z i hi];exact J
   .rw[ay hi]at hb;rw[ay (λU=>hi (hsub i U))];exact⟨b,hb⟩
  obtain⟨q1,q2⟩:=hblk _ _ hd (λi hi=>by unfold eZ;rw[aD hi]) (λi hi U=>by unfold eZ;rw[ay U];exact Z i hi) (λi hi=>by unfold eZ;rw[aD hi]);refine ⟨⟨hd,λi b b' hb M=>?_⟩,?_⟩
  .by_cases hi:i∈wr'
   .exact q1 i hi b b' hb M
   .unfold eZ at hb M;rw[ay (λU=>hi (hsub i U))]at hb;rw[ay hi,hb]at M;cases M;exact j_.refl hd b
  .cases hv:cz h' v with
   |none=>rw[hnone hv];exact lY.refl hd _
   |some y=>rw[<- hval y hv];exact q2 y hv
 have hu:eZ (bC h) wr' (bC h')=bC h':=by
  funext n;unfold eZ;split
  .rfl
  .rename_i hn;exact (hsame n hn).symm
 cases hv:cz h' v with
 |none=>exact⟨_,base y0 (λy I=>by rw[hv]at I;cases I) (λ_=>rfl),λy I=>(by cases I),hu,hrd,hwr,hN⟩
 |some y=>exact⟨_,base y (λy' I=>by rw[hv]at I;cases I;rfl) (λhn=>by rw[hv]at hn;cases hn),λy' I=>by cases I;rfl,hu,hrd,hwr,hN⟩
theorem Dz (hi:ub e h):∀(parts:List (Nat×Nat×Operand)) (cells cs:List TV) (cells':List AV),J0 cells e parts=af cs->cU h cells=af cells'->∃cs',zP cells' (J4 e h) parts=af cs'/\cU h cs=af cs'/\(kD cells=ai->kD cs=ai)
 |[],cells,cs,cells',hf,he=>by simp only[J0,ak]at hf;subst hf;exact⟨cells',rfl,he,id⟩
 |(off,sz,x)::rest,cells,cs,cells',hf,he=>by
  simp only[J0]at hf;split at hf
  .rename_i v hv;split at hf
   .rename_i q hq;split at hf
    .rename_i hc;simp only[av,c5]at hc;obtain⟨y,h1,h2⟩:=bO hi hv;obtain⟨M,h4⟩:=KN hq h2;obtain⟨cs',Z,Y,U⟩:=Dz hi rest (splice cells off q) cs (splice cells' off y.cs) hf (sR off he M);refine ⟨cs',?_,Y,λI=>U ?_⟩
     .simp only[zP,h1];rw[aD,Z];simp only[av,c5];exact⟨⟨by rw[ia M];exact hc.1,by rw[ia he];exact hc.2⟩,su M h4⟩
     .clear Z Y U hf;have app:∀a b:List TV,kD a=ai->kD b=ai->kD (a++b)=ai:=by
       intro a b I hb;induction a with
       |nil=>exact hb
       |cons z r J=>simp only[kD,av,gr]at I ⊢;exact⟨I.1,J I.2⟩
      have tk:∀(a:List TV) n,kD a=ai->kD (a.take n)=ai:=by
       intro a;induction a with
       |nil=>intro n h;simp[kD]
       |cons z r J=>
        intro n h;cases n with
        |zero=>rfl
        |succ n=>simp only[kD,av,wy]at h ⊢;exact⟨h.1,J n h.2⟩
      have dr:∀(a:List TV) n,kD a=ai->kD (a.drop n)=ai:=by
       intro a;induction a with
       |nil=>intro n h;simp[kD]
       |cons z r J=>
        intro n h;cases n with
        |zero=>exact h
        |succ n=>simp only[kD,av,wz]at h ⊢;exact J n h.2
      unfold splice;exact app _ _ (app _ _ (tk _ _ I) h4) (dr _ _ I)
    .cases hf
   .cases hf
  .cases hf
variable (hinv:mj h nx) (hi:ub e h)
include hinv hi
theorem ahu {con:FuncId->Option cq} {b7:TypeId->Option Ty} {z:ξ} {parts:List (Nat×Nat×Operand)} {st:Bool} (hc:dt P o.op=af (.build z parts)) (hk:dW con b7 (.op (.build z parts)) e h nx K=af r):kU P o st e h nx K r:=by
 simp only[dW]at hk;split at hk
 .rename_i l hl;split at hk
  .rename_i cs hf;obtain⟨h1,_,_⟩:=vR h hl;obtain⟨cs',h2,J,_⟩:=Dz hi parts l cs _ hf h1;refine kU.q (k:=0) (y0:=Nd cs') hinv hc (λH _=>by simp only[eU,h2]) (λy I=>?_) hk;simp only[cz,J,ak]at I;subst I;exact abw cs'
  .cases hk
 .cases hk
theorem ama {con:FuncId->Option cq} {b7:TypeId->Option Ty} {sz:Nat} {ag:Bool} {x:Operand} (hc:dt P o.op=af (.load sz ag x)) (hk:dW con b7 (.op (.load sz ag x)) e h nx K=af r):kU P o aj e h nx K r:=by
 obtain⟨H,J⟩:=jS h;simp only[dW]at hk;split at hk
 .rename_i id off hv;obtain⟨y,h1,h2⟩:=bO hi hv;simp only[cz,ak]at h2;subst h2;split at hk
  .rename_i ty l hb;split at hk
   .rename_i v hs;obtain⟨Y,hl⟩:=fE h l (hinv.cells id ty l hb);obtain⟨y,U,M⟩:=Xd hl hs;have hg:H.get (nm id)=af ⟨ty,.mx Y⟩:=by rw[J,bM,hb];simp only[aH,kH,hl]
    exact⟨v,kT id,0,h,nx,hk,js.pure (k:=0) hinv hc J (y0:=y) (rdl:=[nm id]) (by simp only[eU,h1,Eh,hg,M]) (dy U) (λn hn=>by simp only[aL]at hn;subst hn;rw[ec];exact b9.2 rfl) (λh=>by cases h)⟩
   .cases hk
  .cases hk
 .rename_i id sz' j off hv;obtain⟨y,h1,h2⟩:=bO hi hv;simp only[cz,ak]at h2;subst h2;split at hk
  .rename_i ty p T xs hb;split at hk
   .rename_i hsz;have hsz:=aw hsz;obtain⟨hj,hk⟩:=dY hk;split at hk
    .rename_i v hs;obtain⟨y,U,M⟩:=aia (h:=h) hj hs;have hne:¬((p&&xs.length==0)=ai):=by
      have:=E6 hj;simp only[av,c5];omega
     have hg:H.get (nm id)=af ⟨ty,.fz (xs.flatMap (bS T))⟩:=by rw[J,bM,hb];simp only[aH,kH,ay hne]
     exact⟨v,kT id,0,h,nx,hk,js.pure (k:=0) hinv hc J (y0:=.f y) (rdl:=[nm id]) (by simp only[eU,h1,Eh,hg,hsz,M]) (dy U) (λn hn=>by simp only[aL]at hn;subst hn;rw[ec];exact b9.2 rfl) (λh=>by cases h)⟩
    .cases hk
   .cases hk
  .rename_i ty l hb;split at hk
   .cases hk
   .split at hk
    .rename_i hsz;simp only[av]at hsz;have e1:=aw hsz.1.1;have e2:=aw hsz.1.2;have e3:=aw hsz.2;subst e1;subst e2;subst e3;split at hk
     .rename_i T xs hA;obtain⟨hj,hk⟩:=dY hk;obtain⟨Y,hl⟩:=fE h l (hinv.cells id ty l hb);have hg:H.get (nm id)=af ⟨ty,.mx Y⟩:=by rw[J,bM,hb];simp only[aH,kH,hl]
      have hlt:j.toNat<l.length:=by
       simp only[eX,av,c6,fV,be]at hj;omega
      obtain⟨z,Z,I⟩:=mg hl j.toNat _ (Yi hA j.toNat hlt);have I:cz h (.f T (aJ xs j))=af z:=I;exact⟨_,kT id,0,h,nx,hk,js.pure (k:=0) hinv hc J (y0:=z) (rdl:=[nm id]) (by simp only[eU,h1,Eh,hg,BC.sub?,BC.get,Nat.mul_one,dx,Z]) (dy I) (λn hn=>by simp only[aL]at hn;subst hn;rw[ec];exact b9.2 rfl) (λh=>by cases h)⟩
     .cases hk
    .cases hk
  .cases hk
 .rename_i T xs j hj off hv;obtain⟨y,h1,h2⟩:=bO hi hv;simp only[cz,ak]at h2;subst h2;split at hk
  .rename_i v hs;obtain⟨y,U,M⟩:=aia (h:=h) hj hs;exact kU.q (k:=0) (y0:=.f y) hinv hc (λH _=>by simp only[eU,h1,Eh,M]) (dy U) hk
  .cases hk
 .cases hk
theorem ahv {con:FuncId->Option cq} {b7:TypeId->Option Ty} {ty:TypeId} {z:ξ} (hc:dt P o.op=af (.alloc ty z)) (hk:dW con b7 (.op (.alloc ty z)) e h nx K=af r):kU P o aj e h nx K r:=by
 have _:=hi;obtain⟨H,hH⟩:=jS h;simp only[dW]at hk;split at hk
 .rename_i l hl;obtain⟨_,hz,_⟩:=vR h hl;have hnone:h.get nx=ah:=by
   cases hb:h.get nx with
   |none=>rfl
   |some b=>have:=hinv.low nx b hb;omega
  have hr:cu h (h.set nx (af (.cells ty l))):=cu.set λr hr=>by rw[bU,hnone]at hr;cases hr
  obtain⟨h1,_,_⟩:=vR (h.set nx (af (.cells ty l))) hl;have U:bC (h.set nx (af (.cells ty l))) (nm nx)=af ⟨ty,.mx (z.map raw)⟩:=by rw[bM,PT.get_set,aD rfl];simp only[aH,kH,h1]
  refine ⟨_,_,_,_,_,hk,js.mk' hc hH (k:=nm nx) (by simp only[eU];rfl) [nm nx] (λi hi=>hi) (λn hn=>?_) (λi hi b' _=>⟨⟨ty,.fz (z.map .raw)⟩,?_⟩) (λH1 H2 d M _ J=>⟨λi hi b b' hb I=>?_,λy Y=>?_⟩) (by simp) ?_ ?_ hr (hinv.set hr (by omega) (by omega) λty' l' he=>?_) (by omega)⟩
  .refine kS hinv hr λi e=>?_
   subst e;rw[PT.get_set,ay (λe=>hn (by rw[e];simp))]
  .rw[aD hi];simp only[aL]at hi;subst hi;simp[jp]
  .simp only[aL]at hi;subst hi;rw[M _ (by simp)]at hb;rw[J _ (by simp),U]at I;rw[il]at hb;simp only[ak]at hb I;subst hb;subst I;refine j_.cells rfl rfl ?_ λx Z=>?_
   .simp only[BC.toMx,Aq];exact ij.refl d _
   .simp only[BC.toMx]at Z;obtain⟨q,hq,rfl⟩:=c_.1 Z;exact hz q hq
  .simp only[cz,ak]at Y;subst Y;exact lY.refl d _
  .intro n hn;simp only[aL]at hn;subst hn;rw[ec];exact b9.2 rfl
  .intro n hn;simp only[aL]at hn;subst hn;rw[ec];omega
  .cases he;exact kR _ _ _ h1
 .cases hk
theorem apv {con:FuncId->Option cq} {b7:TypeId->Option Ty} {ty:TypeId} {x:Operand} (hc:dt P o.op=af (.box ty x)) (hk:dW con b7 (.op (.box ty x)) e h nx K=af r):kU P o aj e h nx K r:=by
 obtain⟨H,hH⟩:=jS h;simp only[dW]at hk;split at hk
 .rename_i v hv;split at hk
  .rename_i l hl;obtain⟨y,h1,h2⟩:=bO hi hv;obtain⟨h3,h4⟩:=KN hl h2;have hcell:=su h3 h4;have hnone:h.get nx=ah:=by
    cases hb:h.get nx with
    |none=>rfl
    |some b=>have:=hinv.low nx b hb;omega
   have hr:cu h (h.set nx (af (.cells ty l))):=cu.set λr hr=>by rw[bU,hnone]at hr;cases hr
   have Z:=g_ hr l _ h3;have U:bC (h.set nx (af (.cells ty l))) (nm nx)=af ⟨ty,.mx y.cs⟩:=by rw[bM,PT.get_set,aD rfl];simp only[aH,kH,Z]
   refine ⟨_,_,_,_,_,hk,js.mk' hc hH (k:=nm nx) (by simp only[eU,h1,hcell,bG];rfl) [nm nx] (λi hi=>hi) (λn hn=>?_) (λi hi b' _=>⟨⟨ty,pH y.cs⟩,?_⟩) (λH1 H2 d M _ J=>⟨λi hi b b' hb I=>?_,λy Y=>?_⟩) (by simp) ?_ ?_ hr (hinv.set hr (by omega) (by omega) λty' l' he=>?_) (by omega)⟩
   .refine kS hinv hr λi e=>?_
    subst e;rw[PT.get_set,ay (λe=>hn (by rw[e];simp))]
   .rw[aD hi];simp only[aL]at hi;subst hi;simp[jp]
   .simp only[aL]at hi;subst hi;rw[M _ (by simp)]at hb;rw[J _ (by simp),U]at I;rw[il]at hb;simp only[ak]at hb I;subst hb;subst I;obtain⟨q1,q2⟩:=nZ y.cs;refine j_.cells q2 rfl ?_ λx hx=>?_
    .rw[q1];exact ij.refl d _
    .exact lX hcell x hx
   .simp only[cz,ak]at Y;subst Y;exact lY.refl d _
   .intro n hn;simp only[aL]at hn;subst hn;rw[ec];exact b9.2 rfl
   .intro n hn;simp only[aL]at hn;subst hn;rw[ec];omega
   .cases he;exact kR _ _ _ Z
  .cases hk
 .cases hk
theorem ahs {con:FuncId->Option cq} {b7:TypeId->Option Ty} {ty:TypeId} {sz bytes:Nat} {z:ξ} {l c:Operand} (hcm:D' (b7 ty)=ah) (hc:dt P o.op=af (.mksl ty sz bytes z l c)) (hk:dW con b7 (.op (.mksl ty sz bytes z l c)) e h nx K=af r):kU P o aj e h nx K r:=by
 obtain⟨H,hH⟩:=jS h;simp only[dW,hcm]at hk;split at hk
 .rename_i T k a k' b hT hv U;split at hk
  .rename_i hsz;simp only[av]at hsz;have hs:=aw hsz.1;have hz:=Lc hsz.2;subst hs;subst hz;obtain⟨hck,hk⟩:=dY hk;obtain⟨y,h1,h2⟩:=bO hi hv;obtain⟨y2,h3,h4⟩:=bO hi U;simp only[cz,ak]at h2 h4;subst h2;subst h4;have hnone:h.get nx=ah:=by
    cases hb:h.get nx with
    |none=>rfl
    |some b=>have:=hinv.low nx b hb;omega
   generalize Z:iw.rows ty aj T (aG (aT a) T.zero)=B at hk;have hr:cu h (h.set nx (af B)):=cu.set λr hr=>by rw[bU,hnone]at hr;cases hr
   have Y:bC (h.set nx (af B)) (nm nx)=af ⟨ty,.fz ((aG (aT a) T.zero).flatMap (bS T))⟩:=by rw[bM,PT.get_set,aD rfl,<-Z];simp[kH]
   refine ⟨_,_,_,_,_,hk,js.mk' hc hH (k:=nm nx) (by simp only[eU,h1,h3,gK,hck,bG];rfl) [nm nx] (λi hi=>hi) (λn hn=>?_) (λi hi b' _=>⟨⟨ty,.fz (repl (tw T) (aT a))⟩,?_⟩) (λH1 H2 d M _ J=>⟨λi hi b b' hb I=>?_,λy hy=>?_⟩) (by simp) ?_ ?_ hr (hinv.set hr (by omega) (by omega) λty' l' he=>?_) (by omega)⟩
   .refine kS hinv hr λi e=>?_
    subst e;rw[PT.get_set,ay (λe=>hn (by rw[e];simp))]
   .rw[aD hi];simp only[aL]at hi;subst hi;simp[jp]
   .simp only[aL]at hi;subst hi;rw[M _ (by simp)]at hb;rw[J _ (by simp),Y]at I;rw[il]at hb;simp only[ak]at hb I;subst hb;subst I;refine j_.cells rfl rfl (Ic d T _) λx hx=>?_
    simp only[BC.toMx]at hx;obtain⟨q,hq,rfl⟩:=c_.1 hx;exact rT T _ q hq
   .simp only[cz,bU,PT.get_set,bG,<-Z,aH,mR,fG,nI,cE,ef,ak,eP]at hy;subst hy;exact lY.refl d _
   .intro n hn;simp only[aL]at hn;subst hn;rw[ec];exact b9.2 rfl
   .intro n hn;simp only[aL]at hn;subst hn;rw[ec];omega
   .rw[<- Z]at he;cases he
  .cases hk
 .cases hk
end ops
theorem AD {α:Type} {f:α->List FV} {n:Nat} (hf:∀x,(f x).length=n):∀(xs:List α) (j:Nat),(xs.take j).flatMap f=(xs.flatMap f).take (j*n)
 |[],j=>by simp
 |x::r,0=>by simp
 |x::r,j+1=>by
  rw[wy,fQ,fQ,AD hf r j,show (j+1)*n=(f x).length+j*n from by rw[hf,iW];omega,List.take_length_add_append]
theorem JZ {α:Type} {f:α->List FV} {n:Nat} (hf:∀x,(f x).length=n):∀(xs:List α) (j:Nat),(xs.drop j).flatMap f=(xs.flatMap f).drop (j*n)
 |[],j=>by simp
 |x::r,0=>by simp
 |x::r,j+1=>by
  rw[wz,fQ,JZ hf r j,show (j+1)*n=(f x).length+j*n from by rw[hf,iW];omega,List.drop_length_add_append]
theorem Rb {z:ξ}:∀(n:Nat) (x:FV),x∈repl z n->∃v∈z,x= .raw v
 |0,x,h=>by simp[repl]at h
 |n+1,x,h=>by
  rw[repl,bV]at h;rcases h with h|h
  .obtain⟨v,hv,rfl⟩:=c_.1 h;exact⟨v,hv,rfl⟩
  .exact Rb n x h
theorem Hh:∀l:List FV,(∀x∈l,x.isCell=ai)->gJ (l.map .f)=ai
 |[],_=>rfl
 |z::r,h=>by simp only[gq,gJ,av];exact⟨h z (by simp),Hh r λx I=>h x (by simp[I])⟩
section ops
variable {R:Type} {P:Program} {o:Oper} {e:iU} {h:bi} {nx:Nat} {K:KO R} {r:R}
theorem mj.fresh (hinv:mj h nx):h.get nx=ah:=by
 cases hb:h.get nx with
 |none=>rfl
 |some b=>have:=hinv.low nx b hb;omega
theorem dU.lt (hinv:mj h nx) {m:Nat} (hm:dU h m) {i:Nat} (hi:aN m i=ai):i<nx:=by
 obtain⟨_,_,_,_,hb⟩:=hm i hi;exact hinv.low i _ hb
theorem js.new {s:Z5} (hinv:mj h nx) (hc:dt P o.op=af s) {H:ov} (hH:H.get=bC h) {y0:AV} {rdl:ι} {b0:xu} (ha:eU s (J4 e h) H (nm nx)=af ⟨y0,rdl,[nm nx],[(nm nx,b0)],[nm nx]⟩) {B:iw} {v:TV} {m rd:Nat} (hm:dU h m)
 (hB:∀ty l,B= .cells ty l->kV ((eJ m h).set nx (af B)) l=ai)
 (hblk:∀J I,vU J I->Ey h J I m->∀b',kH ((eJ m h).set nx (af B)) B=af b'->j_ J I b0 b')
 (hval:∀J I y,vU J I->Ey h J I m->cz ((eJ m h).set nx (af B)) v=af y->lY J I y0 y)
 (hrd:∀n∈rdl,aN rd (ow n)=ai):js P o aj e h nx v rd (m|||kT nx) ((eJ m h).set nx (af B)) (nx+1):=by
 have hk:=hinv.kill m;have hr0:=cu.kill m h;have Y:cu (eJ m h) ((eJ m h).set nx (af B)):=cu.set λr hr=>by rw[bU,hk.fresh]at hr;cases hr
 have hr:=hr0.trans Y;have hgiv:∀i,aN m i=ai->bC ((eJ m h).set nx (af B)) (nm i)=ah:=λi hi=>by
  have hlt:=hm.lt hinv hi;obtain⟨p,sz,n,hd⟩:=uk hm hi;rw[bM,PT.get_set,ay (by omega),hd];rfl
 refine js.mk' hc hH ha (nm nx::Gb m) (λi hi=>by simp only[aL]at hi;subst hi;simp) (λn hn=>?_) (λi hi b' Z=>?_) (λJ I d hw1 hw0 U=>?_) hrd ?_ ?_ hr (hk.set Y (by omega) (by omega) hB) (by omega)
 .refine kS hinv hr λi e=>?_
  subst e;rw[PT.get_set,ay (λe=>hn (by rw[e];simp)),jf,ay];intro hb;exact hn (cM _ (lJ.2 hb))
 .rcases bm.1 hi with rfl|hi
  .exact⟨b0,by rw[aD (by simp),il]⟩
  .obtain⟨j,rfl,hj⟩:=oa.1 hi;rw[hgiv j hj]at Z;cases Z
 .have g:Ey h J I m:=λi hi=>by
   have hlt:=hm.lt hinv hi;have hmem:nm i∈nm nx::Gb m:=cM _ (lJ.2 hi);exact⟨hw0 _ hmem (λhc=>by simp only[aL]at hc;have:=kW hc;omega),by rw[U _ hmem,hgiv i hi]⟩
  refine ⟨λi hi b b' hb M=>?_,λy hy=>hval J I y d g hy⟩;rcases bm.1 hi with rfl|hi'
  .rw[hw1 _ (by simp),il]at hb;rw[U _ hi,bM,PT.get_set,aD rfl]at M;simp only[ak]at hb;subst hb;exact hblk J I d g b' M
  .obtain⟨j,rfl,hj⟩:=oa.1 hi';rw[U _ hi,hgiv j hj]at M;cases M
 .intro n hn;rw[bu];rcases bm.1 hn with rfl|hn
  .rw[ec,b9.2 rfl];simp
  .obtain⟨j,rfl,hj⟩:=oa.1 hn;rw[ec,hj];rfl
 .intro n hn;simp only[aL]at hn;subst hn;rw[ec];omega
theorem js.wrt {s:Z5} (hinv:mj h nx) (hc:dt P o.op=af s) {H:ov} (hH:H.get=bC h) {id:Nat} {y0:AV} {rdl:ι} {b0:xu} {k:Nat} (ha:eU s (J4 e h) H k=af ⟨y0,rdl,[nm id],[(nm id,b0)],[]⟩) {B0 B:iw} (Z:h.get id=af B0) {v:TV} {m rd:Nat} (hm:dU h m) (hmid:aN m id=aj)
 (hrow:mR B=mR B0) (hB:∀ty l,B= .cells ty l->kV ((eJ m h).set id (af B)) l=ai)
 (hblk:∀J I,vU J I->Ey h J I m->∀b',kH ((eJ m h).set id (af B)) B=af b'->j_ J I b0 b')
 (hval:∀J I y,vU J I->Ey h J I m->cz ((eJ m h).set id (af B)) v=af y->lY J I y0 y)
 (hrd:∀n∈rdl,aN rd (ow n)=ai):js P o aj e h nx v rd (m|||kT id) ((eJ m h).set id (af B)) nx:=by
 have hk:=hinv.kill m;have hr0:=cu.kill m h;have hkid:(eJ m h).get id=af B0:=by rw[jf,hmid];simpa using Z
 have Y:cu (eJ m h) ((eJ m h).set id (af B)):=cu.set λr hr=>by rw[bU,hkid]at hr;rw[hrow];exact hr
 have hr:=hr0.trans Y;have hgiv:∀i,aN m i=ai->bC ((eJ m h).set id (af B)) (nm i)=ah:=λi hi=>by
  have hne:i≠id:=λe=>by rw[e,hmid]at hi;cases hi
  obtain⟨p,sz,n,hd⟩:=uk hm hi;rw[bM,PT.get_set,ay hne,hd];rfl
 refine js.mk' hc hH ha (nm id::Gb m) (λi hi=>by simp only[aL]at hi;subst hi;simp) (λn hn=>?_) (λi hi b' hb'=>?_) (λJ I d hw1 hw0 U=>?_) hrd ?_ (by simp) hr (hk.set Y (hinv.low id B0 Z) (by omega) hB) (by omega)
 .refine kS hinv hr λi e=>?_
  subst e;rw[PT.get_set,ay (λe=>hn (by rw[e];simp)),jf,ay];intro hb;exact hn (cM _ (lJ.2 hb))
 .rcases bm.1 hi with rfl|hi
  .exact⟨b0,by rw[aD (by simp),il]⟩
  .obtain⟨j,rfl,hj⟩:=oa.1 hi;rw[hgiv j hj]at hb';cases hb'
 .have g:Ey h J I m:=λi hi=>by
   have hne:i≠id:=λe=>by rw[e,hmid]at hi;cases hi
   have hmem:nm i∈nm id::Gb m:=cM _ (lJ.2 hi);exact⟨hw0 _ hmem (λhc=>by simp only[aL]at hc;exact hne (kW hc)),by rw[U _ hmem,hgiv i hi]⟩
  refine ⟨λi hi b b' hb M=>?_,λy hy=>hval J I y d g hy⟩;rcases bm.1 hi with rfl|hi'
  .rw[hw1 _ (by simp),il]at hb;rw[U _ hi,bM,PT.get_set,aD rfl]at M;simp only[ak]at hb;subst hb;exact hblk J I d g b' M
  .obtain⟨j,rfl,hj⟩:=oa.1 hi';rw[U _ hi,hgiv j hj]at M;cases M
 .intro n hn;rw[bu];rcases bm.1 hn with rfl|hn
  .rw[ec,b9.2 rfl];simp
  .obtain⟨j,rfl,hj⟩:=oa.1 hn;rw[ec,hj];rfl
theorem M8 (h:bi) {z:ξ} {I:List TV} (J:KK z=af I):∀len,cU h (aG len I).flatten=af ((repl z len).map .f)
 |0=>rfl
 |n+1=>by
  rw[List.replicate_succ,List.flatten_cons,repl,cC];refine nC ?_ (M8 h J n);rw[(vR h J).1];simp only[Aq];rfl
theorem Xk {H:ov} (Z:H.get=bC h) {T:Ty} {v:TV} {U:List T.den} {m:Nat} {y:AV} (I:Eg h (.sl T) v=af (U,m)) (J:cz h v=af y):∃rd,y.row? H T.size=af ((U.flatMap (bS T)).map .f,U.length,rd)/\∀n∈rd,∃i,n=nm i/\aN m i=ai:=by
 have fl:=λM:List T.den=>fM (bD T) M
 have tk:∀M:List T.den,(M.flatMap (bS T)).take (M.length*T.size)=M.flatMap (bS T):=λM=>by rw[<- fl,cX]
 cases v with
 |f S x=>
  simp only[Eg,iM]at I;split at I
  .rename_i z Y;simp only[ak,aE]at I;obtain⟨rfl,_⟩:=I;obtain⟨e,rfl⟩:=jr Y;subst e;simp only[cz,ak]at J;subst J;refine ⟨[],?_,by simp⟩;simp only[gK,AV.row?];rw[aD (bE (by rw[fl x];exact bX _)),tk]
  .cases I
 |emp=>
  simp only[Eg,iM,ak,aE]at I;obtain⟨rfl,_⟩:=I;simp only[cz,ak]at J;subst J;exact⟨[],rfl,by simp⟩
 |nil=>
  simp only[Eg,iM,ak,aE]at I;obtain⟨rfl,_⟩:=I;simp only[cz,ak]at J;subst J;exact⟨[],rfl,by simp⟩
 |row id=>
  simp only[Eg,iM]at I;split at I
  .rename_i ty p S xs hb;split at I
   .rename_i z Y;simp only[ak,aE]at I;obtain⟨rfl,rfl⟩:=I;obtain⟨e,rfl⟩:=jr Y;cases e;simp only[cz,eH,hb,ak]at J;subst J;unfold fG;split
    .rename_i hp;simp only[av,c5]at hp;have:xs=[]:=gL.1 hp.2;subst this;exact⟨[],rfl,by simp⟩
    .rename_i hp;have hg:H.get (nm id)=af ⟨ty,.fz (xs.flatMap (bS T))⟩:=by rw[Z,bM,hb];simp only[aH,kH,ay hp]
     refine ⟨[nm id],?_,λn hn=>?_⟩
     .simp only[AV.row?,hg,c4,bG,BC.isCells,BC.len,pR];rw[aD (bE (by rw[fl xs];exact bX _))];simp only[BC.toMx,<-kN,tk]
     .simp only[aL]at hn;exact⟨id,hn,b9.2 rfl⟩
   .cases I
  .cases I
 |agg l=>simp[Eg,Ty.one]at I
 |fel T xs j hj off=>simp[Eg,iM]at I
 |pel id sz j off=>simp[Eg,iM]at I
 |ptr id off=>simp[Eg,iM]at I
 |csl id off z=>simp[Eg,iM]at I
 |mp id=>simp[Eg,iM]at I
 |rtl id jj=>simp[Eg,iM]at I
 |tup q=>simp[Eg,iM]at I
 |clo f q=>simp[Eg,iM]at I
 |undef=>simp[Eg,iM]at I
 |np=>simp[Eg,iM]at I
 |anyb=>simp[Eg,iM]at I
theorem U8 {v:TV} {y:AV} (I:cz h v=af y) (hc:v.isC=ai):gJ y.cs=ai:=by
 rw[ON (O2 I hc)];simp only[gJ,Bool.and_true];exact O2 I hc
theorem Zi (T:Ty) (x:T.den):gJ ((bS T x).map .f)=ai:=by
 have:∀l:List FV,(∀x∈l,x.isCell=ai)->gJ (l.map .f)=ai:=by
  intro l hl;induction l with
  |nil=>rfl
  |cons z r I=>simp only[gq,gJ,av];exact⟨hl z (by simp),I λx J=>hl x (by simp[J])⟩
 exact this _ (om T x)
theorem gX {T:Ty} {v:TV} {x:T.den} {m:Nat} {y:AV} (I:iM h T v=af (x,m)) (J:cz h v=af y):gJ y.cs=ai:=by
 cases v with
 |f S v=>simp only[cz,ak]at J;subst J;rw[AF];exact Zi S v
 |emp=>exact U8 J rfl
 |nil=>exact U8 J rfl
 |row id=>exact U8 J rfl
 |fel T xs j hj off=>simp[iM]at I
 |pel id sz j off=>simp[iM]at I
 |ptr id off=>simp[iM]at I
 |csl id off z=>simp[iM]at I
 |mp id=>simp[iM]at I
 |rtl id M=>simp[iM]at I
 |agg q=>simp[iM]at I
 |tup q=>simp[iM]at I
 |clo f q=>simp[iM]at I
 |undef=>simp[iM]at I
 |np=>simp[iM]at I
 |anyb=>simp[iM]at I
theorem Iw {T:Ty} (M:T.one=ai) {v:TV} {x:T.den} {m:Nat} (I:iM h T v=af (x,m)):v.isC=ai:=by
 cases v with
 |f S v=>
  simp only[iM]at I;split at I
  .rename_i z J;obtain⟨e,_⟩:=jr J;subst e;exact M
  .cases I
 |emp=>rfl
 |nil=>rfl
 |row id=>rfl
 |fel T xs j hj off=>simp[iM]at I
 |pel id sz j off=>simp[iM]at I
 |ptr id off=>simp[iM]at I
 |csl id off z=>simp[iM]at I
 |mp id=>simp[iM]at I
 |rtl id U=>simp[iM]at I
 |agg q=>simp[iM]at I
 |tup q=>simp[iM]at I
 |clo f q=>simp[iM]at I
 |undef=>simp[iM]at I
 |np=>simp[iM]at I
 |anyb=>simp[iM]at I
theorem TQ {a b:List TV} (I:kD a=ai) (hb:kD b=ai):kD (a++b)=ai:=by
 induction a with
 |nil=>exact hb
 |cons z r J=>simp only[kD,av,gr]at I ⊢;exact⟨I.1,J I.2⟩
theorem ue:∀(n:Nat) (T:Ty) (l:List TV) (x:T.den) (m:Nat) (r:List TV),fg h n T l=af (x,m,r)->∃a,l=a++r/\kD a=ai
 |0,_,_,_,_,_,hp=>by simp[fg]at hp
 |n+1,.st t,l,x,m,r,hp=>ue n t l x m r hp
 |n+1,.pr a b,l,x,m,r,hp=>by
  simp only[fg]at hp;split at hp
  .rename_i I m1 r1 h1;split at hp
   .rename_i J m2 r2 h2;simp only[ak,aE]at hp;obtain⟨_,_,rfl⟩:=hp;obtain⟨a1,rfl,U⟩:=ue n a l I m1 r1 h1;obtain⟨a2,rfl,M⟩:=ue n b r1 J m2 r2 h2;exact⟨a1++a2,by simp,TQ U M⟩
   .cases hp
  .cases hp
 |n+1,.un,l,x,m,r,hp=>by
  simp only[fg,ak,aE]at hp;obtain⟨_,_,rfl⟩:=hp;exact⟨[],rfl,rfl⟩
 |n+1,.ex,l,x,m,r,hp=>by
  simp only[fg]at hp;split at hp
  .rename_i I m1 r1 h1;simp only[ak,aE]at hp;obtain⟨_,_,rfl⟩:=hp;exact ue n Nu l I m1 r1 h1
  .cases hp
 |n+1,.sm,l,x,m,r,hp=>by
  simp only[fg]at hp;split at hp
  .rename_i I m1 r1 h1;simp only[ak,aE]at hp;obtain⟨_,_,rfl⟩:=hp;exact ue n M5 l I m1 r1 h1
  .cases hp
 |n+1,.int k,l,x,m,r,hp=>by
  simp only[fg]at hp;split at hp
  .rename_i c q;split at hp
   .rename_i I m1 h1;simp only[ak,aE]at hp;obtain⟨_,_,rfl⟩:=hp;exact⟨[c],rfl,by simp[kD,Iw rfl h1]⟩
   .cases hp
  .cases hp
 |n+1,.bool,l,x,m,r,hp=>by
  simp only[fg]at hp;split at hp
  .rename_i c q;split at hp
   .rename_i I m1 h1;simp only[ak,aE]at hp;obtain⟨_,_,rfl⟩:=hp;exact⟨[c],rfl,by simp[kD,Iw rfl h1]⟩
   .cases hp
  .cases hp
 |n+1,.str,l,x,m,r,hp=>by
  simp only[fg]at hp;split at hp
  .rename_i c q;split at hp
   .rename_i I m1 h1;simp only[ak,aE]at hp;obtain⟨_,_,rfl⟩:=hp;exact⟨[c],rfl,by simp[kD,Iw rfl h1]⟩
   .cases hp
  .cases hp
 |n+1,.sl t,l,x,m,r,hp=>by
  simp only[fg]at hp;split at hp
  .rename_i c q;split at hp
   .rename_i I m1 h1;simp only[ak,aE]at hp;obtain⟨_,_,rfl⟩:=hp;exact⟨[c],rfl,by simp[kD,Iw rfl h1]⟩
   .cases hp
  .cases hp
theorem Lh {T:Ty} {v:TV} {x:T.den} {m:Nat} {y:AV} (J:Eg h T v=af (x,m)) (I:cz h v=af y):gJ y.cs=ai:=by
 cases v with
 |agg l=>
  simp only[Eg]at J;split at J
  .cases J
  .split at J
   .rename_i M m1 h1;obtain⟨a,e,Y⟩:=ue 40 T l M m1 [] h1;rw[iZ]at e;subst e;simp only[cz]at I;split at I
    .rename_i Z hl;simp only[ak]at I;subst I;exact su hl Y
    .cases I
   .cases J
 |f S v=>exact gX (v:=.f S v) J I
 |fel T xs j hj off=>exact gX (v:=.fel T xs j hj off) J I
 |pel id sz j off=>exact gX (v:=.pel id sz j off) J I
 |ptr id off=>exact gX (v:=.ptr id off) J I
 |csl id off z=>exact gX (v:=.csl id off z) J I
 |row id=>exact gX (v:=.row id) J I
 |emp=>exact gX (v:=.emp) J I
 |nil=>exact gX (v:=.nil) J I
 |mp id=>exact gX (v:=.mp id) J I
 |rtl id U=>exact gX (v:=.rtl id U) J I
 |tup q=>exact gX (v:=.tup q) J I
 |clo g q=>exact gX (v:=.clo g q) J I
 |undef=>exact gX (v:=.undef) J I
 |np=>exact gX (v:=.np) J I
 |anyb=>exact gX (v:=.anyb) J I
theorem ry {u:TV} {y:AV} (I:cz h u=af y):∀(n:Nat) (T:Ty) (v:T.den) (off sz:Nat) (z:T.den) (m:Nat),gU h u n T v off sz=af (z,m)->gJ y.cs=ai
 |0,_,_,_,_,_,_,hg=>by simp[gU]at hg
 |n+1,.st t,v,off,sz,z,m,hg=>by
  simp only[gU]at hg;split at hg
  .rename_i q hq;split at hq
   .exact Lh hq I
   .cases hq
  .exact ry I n t v off sz z m hg
 |n+1,.pr a b,v,off,sz,z,m,hg=>by
  simp only[gU]at hg;split at hg
  .split at hg
   .rename_i J m1 h1;exact ry I n a v.1 off sz J m1 h1
   .cases hg
  .split at hg
   .rename_i J m1 h1;exact ry I n b v.2 _ sz J m1 h1
   .cases hg
 |n+1,.un,v,off,sz,z,m,hg=>by simp[gU]at hg
 |n+1,.ex,v,off,sz,z,m,hg=>by
  simp only[gU]at hg;split at hg
  .rename_i q hq;split at hq
   .exact Lh hq I
   .cases hq
  .split at hg
   .rename_i J m1 h1;exact ry I n Nu _ off sz J m1 h1
   .cases hg
 |n+1,.sm,v,off,sz,z,m,hg=>by
  simp only[gU]at hg;split at hg
  .rename_i q hq;split at hq
   .exact Lh hq I
   .cases hq
  .split at hg
   .rename_i J m1 h1;exact ry I n M5 _ off sz J m1 h1
   .cases hg
 |n+1,.int k,v,off,sz,z,m,hg=>by
  simp only[gU]at hg;split at hg
  .exact gX hg I
  .cases hg
 |n+1,.bool,v,off,sz,z,m,hg=>by
  simp only[gU]at hg;split at hg
  .exact gX hg I
  .cases hg
 |n+1,.str,v,off,sz,z,m,hg=>by
  simp only[gU]at hg;split at hg
  .exact gX hg I
  .cases hg
 |n+1,.sl t,v,off,sz,z,m,hg=>by
  simp only[gU]at hg;split at hg
  .exact gX hg I
  .cases hg
theorem Lk (l:List FV):yp (l.map .f)=af l:=by
 induction l with
 |nil=>rfl
 |cons x r I=>simp only[gq,yp,I]
theorem Da (l:List FV):pH (l.map .f)= .fz l:=by unfold pH;rw[Lk]
theorem Hi:∀{a b:List TV},kD a=ai->kD b=ai->kD (a++b)=ai
 |[],_,_,hb=>hb
 |x::r,b,I,hb=>by
  simp only[kD,av]at I;simp only[gr,kD,av];exact⟨I.1,Hi I.2 hb⟩
theorem FP {I:List TV} (J:kD I=ai):∀n,kD (aG n I).flatten=ai
 |0=>rfl
 |n+1=>by rw[List.replicate_succ,List.flatten_cons];exact Hi J (FP J n)
theorem agk {H:ov} (J:H.get=bC h) {id ty:Nat} {l:List TV} {I:List AV} (hb:h.get id=af (.cells ty l)) (hl:cU h l=af I) {n sz:Nat} (hn:l.length=n*sz):AV.row? H sz (.row (nm id) sz n)=af (I,n,[nm id]):=by
 have hg:H.get (nm id)=af ⟨ty,.mx I⟩:=by rw[J,bM,hb];simp only[aH,kH,hl]
 have hln:=ia hl;simp only[AV.row?,c4,bG,hg,BC.isCells,pR,BC.len,BC.toMx];rw[aD (bE (by omega)),fk (by omega)]
variable (hinv:mj h nx) (hi:ub e h)
include hinv hi
theorem amg {con:FuncId->Option cq} {b7:TypeId->Option Ty} {ty:TypeId} {sz len:Nat} {z:ξ} {parts:List (Nat×Nat×Operand)} (hcm:D' (b7 ty)=ah) (hc:dt P o.op=af (.bsl ty sz len z parts)) (hk:dW con b7 (.op (.bsl ty sz len z parts)) e h nx K=af r):kU P o aj e h nx K r:=by
 obtain⟨H,hH⟩:=jS h;simp only[dW,hcm]at hk;split at hk
 .rename_i T zc hT Z;split at hk
  .rename_i hs;have hs:=aw hs;subst hs;split at hk
   .rename_i cs hf;split at hk
    .rename_i xs m hp;obtain⟨cs',h1,h2,_⟩:=Dz hi parts _ cs _ hf (M8 h Z len);have hm:=OK len cs xs m hp;refine ⟨_,_,_,_,_,hk,js.new hinv hc hH (y0:=if len=0 then .emp else .row (nm nx) T.size len) (rdl:=[]) (b0:=⟨ty,pH cs'⟩) (by simp only[eU,h1]) hm (λ_ _ he=>by cases he) (λH1 H2 d g b' I=>?_) (λH1 H2 y d g J=>?_) (by simp)⟩
     .simp only[kH]at I;split at I
      .cases I
      rw[ak]at I;subst I;obtain⟨Y,U⟩:=nZ cs';refine j_.cells U rfl ?_ λx M=>?_
      .rw[Y];exact (C7 d len cs xs m cs' hp h2 g).1
      .simp only[BC.toMx]at M;obtain⟨q,hq,rfl⟩:=c_.1 M;exact rT T _ q hq
     .simp only[cz,bU,PT.get_set,bG,aH,mR,fG,ak]at J;rw[(C7 d len cs xs m cs' hp h2 g).2]at J;split at J
      .rename_i hq;simp only[av,c5]at hq;subst J;rw[aD hq.2];exact lY.refl d _
      .rename_i hq;subst J;rw[ay (λh0=>hq (by subst h0;rfl))];exact lY.refl d _
    .cases hk
   .cases hk
  .cases hk
 .cases hk
theorem amh {con:FuncId->Option cq} {b7:TypeId->Option Ty} {ty:TypeId} {sz bytes:Nat} {s x:Operand} (hcm:D' (b7 ty)=ah) (hc:dt P o.op=af (.app ty sz bytes s x)) (hk:dW con b7 (.op (.app ty sz bytes s x)) e h nx K=af r):kU P o aj e h nx K r:=by
 obtain⟨H,hH⟩:=jS h;have hfr:=hinv.fresh;simp only[dW,hcm]at hk;split at hk
 .rename_i T b y hT hv hv2;split at hk
  .rename_i hs;have hs:=aw hs;subst hs;split at hk
   .rename_i J m hys;obtain⟨yb,h1,h2⟩:=bO hi hv;obtain⟨yy,h3,h4⟩:=bO hi hv2;obtain⟨rdl,h5,h6⟩:=Xk hH hys h4;have onEmp:∀(rd':Nat),(∀n∈rdl,aN rd' (ow n)=ai)->Jq yb=ai->Le yb .emp->a_ (al J) bytes=ai->js P o aj e h nx (.row nx) rd' (kT nx) (h.set nx (af (.rows ty ai T J))) (nx+1):=by
     intro rd' hrd' he hle hroom;have hr1:cu h (h.set nx (af (.rows ty ai T J))):=cu.set λr hr=>by rw[bU,hfr]at hr;cases hr
     have hyb:∀id sz' n,yb≠ .row id sz' n:=by rintro id sz' n rfl;cases he
     have I:eU (.app ty T.size bytes s x) (J4 e h) H (nm nx)=if al J==0 then af ⟨yb,rdl,[],[],[]⟩ else af ⟨.row (nm nx) T.size (al J),rdl,[nm nx],[(nm nx,⟨ty,pH ((J.flatMap (bS T)).map .f)⟩)],[nm nx]⟩:=by
      simp only[eU,h1,h3,h5];cases yb with
      |row id sz' n=>exact cY rfl (hyb id sz' n)
      |_=>simp only[he,hroom,iQ,bG]
     by_cases hl:al J=0
     .rw[hl]at I;simp only[c4,bG]at I;have hnil:J=[]:=gL.1 hl;subst hnil;refine js.mk' hc hH I [] (by simp) (λn _=>?_) (by simp) (λH1 H2 d _ _ _=>⟨by simp,λy M=>?_⟩) hrd' (by simp) (by simp) hr1 (hinv.set hr1 (by omega) (by omega) λ_ _ he=>by cases he) (by omega)
      .by_cases hn:n=nm nx
       .subst hn;rw[bM,bM,PT.get_set,aD rfl,hfr];rfl
       .refine kS hinv hr1 λi e=>?_
        subst e;rw[PT.get_set,ay (λe=>hn (by rw[e]))]
      .simp only[cz,bU,PT.get_set,bG,aH,mR,fG,j6,c4,iQ,ak]at M;subst M;exact hle.toH d
     .rw[ay (by simpa using hl)]at I;rw[Da]at I;have key:=js.new (m:=0) (rd:=rd') hinv hc hH I (B:=.rows ty ai T J) (v:=.row nx) (dU.zero h) (λ_ _ he=>by cases he) (λH1 H2 d g b' Z=>by
       simp only[kH]at Z;rw[ay (by simpa using hl)]at Z;simp only[ak]at Z;subst Z;exact j_.refl d _) (λH1 H2 y d g M=>by
       simp only[cz,bU,PT.get_set,bG,aH,mR,fG]at M;rw[ay (by simpa using hl)]at M;simp only[ak]at M;subst M;exact lY.refl d _) hrd'
      rw[yX]at key;exact key
    split at hk
    .rename_i id;split at hk
     .rename_i ty' p S xs0 hb;split at hk
      .rename_i xs hxs;obtain⟨ee,rfl⟩:=jr hxs;cases ee;split at hk
       .rename_i hcond;simp only[av,c5,eC]at hcond;obtain⟨rfl,hmid⟩:=hcond;obtain⟨hroom,hk⟩:=dY hk;simp only[cz,eH,hb,ak]at h2;have hidlt:=hinv.low id _ hb;have hne:nx≠id:=by omega
        have hrd:∀n∈rdl,aN (kT id|||m) (ow n)=ai:=λn hn=>by
         obtain⟨i,rfl,hm⟩:=h6 n hn;rw[ec,bu,hm];simp
        generalize hh':(h.set id (af (.dead p T.size (al xs0)))).set nx (af (.rows ty' p T (xs0++J)))=h' at hk;have hrA:cu h (h.set id (af (.dead p T.size (al xs0)))):=cu.set λr hr=>by rw[bU,hb]at hr;exact hr
        have hg2:∀i,h'.get i=if i=nx then af (.rows ty' p T (xs0++J)) else if i=id then af (.dead p T.size (al xs0)) else h.get i:=λi=>by rw[<- hh',PT.get_set,PT.get_set]
        have hr:cu h h':=by
         rw[<- hh'];refine hrA.trans (cu.set λr hr=>?_);rw[bU,PT.get_set,ay hne,hfr]at hr;cases hr
        have hinv':mj h' (nx+1):=by
         refine ⟨λi ty l hil=>?_,λi c hic=>?_⟩
         .rw[hg2]at hil;split at hil
          .cases hil
          .split at hil
           .cases hil
           .exact ja hr l (hinv.cells i ty l hil)
         .rw[hg2]at hic;split at hic
          .omega
          .split at hic
           .omega
           .have:=hinv.low i c hic;omega
        have hsame:∀n,n≠nm nx->n≠nm id->bC h' n=bC h n:=λn h1 h2=>kS hinv hr λi e=>by
         subst e;rw[hg2,ay (λe=>h1 (by rw[e])),ay (λe=>h2 (by rw[e]))]
        have hdead:bC h' (nm id)=ah:=by rw[bM,hg2,ay (by omega),aD rfl];rfl
        have hnew:bC h' (nm nx)=if p&&(xs0++J).length==0 then ah else af ⟨ty',.fz ((xs0++J).flatMap (bS T))⟩:=by rw[bM,hg2,aD rfl];rfl
        have hval:cz h' (.row nx)=af (fG p nx T.size (xs0++J).length):=by simp only[cz,bU,hg2,bG,aH,mR]
        have hwm:∀n,n=nm nx\/n=nm id->aN (kT id|||kT nx) (ow n)=ai:=λn hn=>by
         rcases hn with rfl|rfl<;>rw[ec,bu,b9.2 rfl]<;>simp
        refine ⟨_,_,_,_,_,hk,?_⟩;by_cases hp:(p&&xs0.length==0)=ai
        ·
         have hyb:yb= .emp:=by rw[<- h2];unfold fG;rw[aD hp]
         subst hyb;simp only[av,c5]at hp;obtain⟨rfl,hl0⟩:=hp;have hnil:xs0=[]:=gL.1 hl0;subst hnil;have hroom':a_ (al J) bytes=ai:=by simpa using hroom
         have I:eU (.app ty' T.size bytes s x) (J4 e h) H (nm nx)=if al J==0 then af ⟨.emp,rdl,[],[],[]⟩ else af ⟨.row (nm nx) T.size (al J),rdl,[nm nx],[(nm nx,⟨ty',pH ((J.flatMap (bS T)).map .f)⟩)],[nm nx]⟩:=by
          simp only[eU,h1,h3,h5,Jq,hroom',iQ,bG]
         have hdead0:bC h (nm id)=ah:=by rw[bM,hb];rfl
         by_cases hl:al J=0
         .rw[hl]at I;simp only[c4,bG]at I;have hnil:J=[]:=gL.1 hl;subst hnil;refine js.mk' hc hH I [] (by simp) (λn _=>?_) (by simp) (λH1 H2 d _ _ _=>⟨by simp,λy M=>?_⟩) hrd (by simp) (by simp) hr hinv' (by omega)
          .by_cases hn:n=nm nx
           .subst hn;rw[hnew,bM,hfr];rfl
           .by_cases hn2:n=nm id
            .subst hn2;rw[hdead,hdead0]
            .exact hsame n hn hn2
          .rw[hval]at M;simp only[fG,iZ,j6,c4,iQ,bG,ak]at M;subst M;exact lY.refl d _
         .rw[ay (by simpa using hl),Da]at I;refine js.mk' hc hH I [nm nx] (λi hi=>hi) (λn hn=>?_) (λi hi b' _=>⟨_,by rw[aD hi];simp only[aL]at hi;subst hi;exact il _ _⟩) (λH1 H2 d hw1 _ hw2=>⟨λi hi b b' Y U=>?_,λy M=>?_⟩) hrd (λn hn=>hwm n (.inl (by simpa using hn))) (λn hn=>by simp only[aL]at hn;subst hn;rw[ec];omega) hr hinv' (by omega)
          .have hn1:n≠nm nx:=by simpa using hn
           by_cases hn2:n=nm id
           .subst hn2;rw[hdead,hdead0]
           .exact hsame n hn1 hn2
          .simp only[aL]at hi;subst hi;rw[hw1 _ (by simp),il]at Y;rw[hw2 _ (by simp),hnew,ay (by simpa using hl)]at U;simp only[ak,l9]at Y U;subst Y;subst U;exact j_.refl d _
          .rw[hval]at M;simp only[fG,l9]at M;rw[ay (by simpa using hl)]at M;simp only[ak]at M;subst M;exact lY.refl d _
        .have hyb:yb= .row (nm id) T.size xs0.length:=by rw[<- h2];unfold fG;rw[ay hp]
         subst hyb;have hg:H.get (nm id)=af ⟨ty',.fz (xs0.flatMap (bS T))⟩:=by rw[hH,bM,hb];simp only[aH,kH,ay hp]
         have fl:=fM (bD T) xs0;have tk:(xs0.flatMap (bS T)).take (xs0.length*T.size)=xs0.flatMap (bS T):=by rw[<- fl,cX]
         have hmem:YN (nm id) rdl=aj:=by
          cases hx:YN (nm id) rdl with
          |false=>rfl
          |true=>
           obtain⟨i,e,hm⟩:=h6 _ (ajy.1 hx);rw[<- kW e,hmid]at hm;cases hm
         have I:eU (.app ty' T.size bytes s x) (J4 e h) H (nm nx)=af ⟨.row (nm nx) T.size (xs0.length+J.length),nm id::rdl,[nm nx,nm id],[(nm nx,⟨ty',.fz ((xs0++J).flatMap (bS T))⟩)],[nm nx]⟩:=by
          have hcnd:(T.size==T.size&& !(YN (nm id) rdl)&&(BC.fz (xs0.flatMap (bS T))).isCells&&eO (xs0.length*T.size) (BC.fz (xs0.flatMap (bS T))).len&&ty'==ty'&&a_ (xs0.length+J.length) bytes)=ai:=by
           have:eO (xs0.length*T.size) (BC.fz (xs0.flatMap (bS T))).len=ai:=bE (by simp only[BC.len];omega);rw[this,hmem,hroom];simp[BC.isCells]
          simp only[eU,h1,h3,h5,hg,hcnd,bG,BC.toMx,<-kN,tk,<-cC,Da,List.flatMap_append]
         have hne2:¬((p&&(xs0++J).length==0)=ai):=by
          simp only[av,c5,bx]at hp ⊢;intro hh;exact hp ⟨hh.1,by omega⟩
         refine js.mk' hc hH I [nm nx,nm id] (λi hi=>hi) (λn hn=>?_) (λi hi b' Z=>?_) (λH1 H2 d hw1 _ hw2=>⟨λi hi b b' Y U=>?_,λy M=>?_⟩) (λn hn=>?_) (λn hn=>hwm n (by simpa using hn)) (λn hn=>by simp only[aL]at hn;subst hn;rw[ec];omega) hr hinv' (by omega)
         .simp only[bm,cD,gh,not_or]at hn;exact hsame n hn.1 hn.2
         .simp only[bm,cD,gh]at hi;rcases hi with rfl|rfl
          .exact⟨_,by rw[aD (by simp)];exact il _ _⟩
          .rw[hdead]at Z;cases Z
         .simp only[bm,cD,gh]at hi;rcases hi with rfl|rfl
          .rw[hw1 _ (by simp),il]at Y;rw[hw2 _ (by simp),hnew,ay hne2]at U;simp only[ak]at Y U;subst Y;subst U;exact j_.refl d _
          .rw[hw2 _ (by simp),hdead]at U;cases U
         .rw[hval]at M;simp only[fG]at M;rw[ay hne2]at M;simp only[bx,ak]at M;subst M;exact lY.refl d _
         .rcases bm.1 hn with rfl|hn
          .rw[ec,bu,b9.2 rfl];rfl
          .exact hrd n hn
       .cases hk
      .cases hk
     .cases hk
    .obtain⟨hroom,hk⟩:=dY hk;simp only[cz,ak]at h2;subst h2;exact⟨_,_,_,_,_,hk,onEmp m (λn hn=>by obtain⟨i,rfl,hm⟩:=h6 n hn;rw[ec];exact hm) rfl (Le.refl _) hroom⟩
    .obtain⟨hroom,hk⟩:=dY hk;simp only[cz,ak]at h2;subst h2;exact⟨_,_,_,_,_,hk,onEmp m (λn hn=>by obtain⟨i,rfl,hm⟩:=h6 n hn;rw[ec];exact hm) rfl Le.nilEmp hroom⟩
    .cases hk
   .cases hk
  .cases hk
 .cases hk
theorem ad3 {T:Ty} (xs I:List T.den):(Uw xs I).flatMap (bS T)=AI.splice (xs.flatMap (bS T)) 0 ((I.flatMap (bS T)).take (iX I.length xs.length*T.size)):=by
 have _:=hinv;have _:=hi;have fl:=λJ:List T.den=>fM (bD T) J
 have tk:∀(J:List T.den) n,(J.flatMap (bS T)).take (n*T.size)=(J.take n).flatMap (bS T):=by
  intro J;induction J with
  |nil=>intro n;simp
  |cons z r M=>
   intro n;cases n with
   |zero=>simp
   |succ n=>rw[fQ,wy,fQ,iW,List.take_append,bD,fk (by rw[bD];omega),show n*T.size+T.size-T.size=n*T.size from by omega,M n]
 have U:∀(J:List T.den) n,(J.flatMap (bS T)).drop (n*T.size)=(J.drop n).flatMap (bS T):=by
  intro J;induction J with
  |nil=>intro n;simp
  |cons z r M=>
   intro n;cases n with
   |zero=>simp
   |succ n=>rw[fQ,wz,iW,vA,bD,r8 (by rw[bD];omega),show n*T.size+T.size-T.size=n*T.size from by omega,M n,l9]
 unfold Uw AI.splice;rw[tk,List.flatMap_append,fl,bH];have e1:I.take (iX I.length xs.length)=I.take xs.length:=by
  rcases Nat.le_total I.length xs.length with h|h
  .rw[show iX I.length xs.length=I.length from sX h,cX,fk h]
  .rw[show iX I.length xs.length=xs.length from Nat.min_eq_right h]
 rw[e1];have e2:min (iX I.length xs.length) I.length=iX I.length xs.length:=sX (Nat.min_le_left _ _);rw[e2];simp only[LG,l9,bQ];rw[U];congr 1;rcases Nat.le_total I.length xs.length with h|h
 .rw[show iX I.length xs.length=I.length from sX h]
 .rw[show iX I.length xs.length=xs.length from Nat.min_eq_right h,List.drop_length,r8 h]
theorem ame {con:FuncId->Option cq} {b7:TypeId->Option Ty} {sz:Nat} {d x:Operand} (hc:dt P o.op=af (.copy sz d x)) (hk:dW con b7 (.op (.copy sz d x)) e h nx K=af r):kU P o aj e h nx K r:=by
 obtain⟨H,Z⟩:=jS h;simp only[dW]at hk;split at hk
 .rename_i id y hv U;split at hk
  .rename_i ty p T xs hb;split at hk
   .rename_i hs;have hs:=aw hs;subst hs;split at hk
    .rename_i I m hys;split at hk
     .rename_i hcond;simp only[av,eC]at hcond;obtain⟨hmid,rfl⟩:=hcond;obtain⟨yb,h1,h2⟩:=bO hi hv;obtain⟨yy,h3,h4⟩:=bO hi U;obtain⟨rdl,h5,h6⟩:=Xk Z hys h4;simp only[cz,eH,hb,fG,nI,cE,ef,ak]at h2;subst h2;have fl:=fM (bD T) xs;have fl2:=fM (bD T) I;have hg:H.get (nm id)=af ⟨ty,.fz (xs.flatMap (bS T))⟩:=by rw[Z,bM,hb];simp[kH]
      have hmem:YN (nm id) rdl=aj:=by
       cases J:YN (nm id) rdl with
       |false=>rfl
       |true=>
        obtain⟨i,e,hm⟩:=h6 _ (ajy.1 J);rw[<- kW e,hmid]at hm;cases hm
      have hle:iX I.length xs.length*T.size<=xs.length*T.size:=cL _ (Nat.min_le_right _ _);have Y:eU (.copy T.size d x) (J4 e h) H (nm nx)=af ⟨raw (.int .i64 (iX I.length xs.length)),nm id::rdl,[nm id],[(nm id,⟨ty,.fz ((Uw xs I).flatMap (bS T))⟩)],[]⟩:=by
       have hcnd:(T.size==T.size&& !(YN (nm id) rdl)&&eO (xs.length*T.size) (BC.fz (xs.flatMap (bS T))).len)=ai:=by
        have:eO (xs.length*T.size) (BC.fz (xs.flatMap (bS T))).len=ai:=bE (by simp only[BC.len];omega);rw[this,hmem];simp
       have hput:(BC.fz (xs.flatMap (bS T))).put 0 (((I.flatMap (bS T)).map .f).take (iX I.length xs.length*T.size))=af (.fz ((Uw xs I).flatMap (bS T))):=by
        rw[<- kN];unfold BC.put;rw[aD]
        .simp only[Lk];rw[ad3 hinv hi]
        .simp only[av];refine ⟨⟨rfl,bE ?_⟩,?_⟩
         .simp only[BC.len,bY,bH];omega
         .have:∀l:List FV,(∀x∈l,x.isCell=ai)->gJ (l.map .f)=ai:=by
           intro l hl;induction l with
           |nil=>rfl
           |cons z r ih=>simp only[gq,gJ,av];exact⟨hl z (by simp),ih λx J=>hl x (by simp[J])⟩
          exact this _ λx J=>rT T I x (fZ J)
       simp only[eU,h1,h3,hg,h5,hcnd,bG,hput]
      have hrow:mR (.rows ty aj T (Uw xs I))=mR (.rows ty aj T xs):=by
       have:(Uw xs I).length=xs.length:=by unfold Uw;rw[bx,bH,mN];omega
       simp only[mR,this]
      have key:=js.wrt (m:=0) (v:=.f (.int .i64) (aO (iX (al I) (al xs)))) (rd:=kT id|||m) hinv hc Z Y (B:=.rows ty aj T (Uw xs I)) hb (dU.zero h) (by simp) hrow (λ_ _ he=>by cases he) (λH1 H2 d g b' M=>by
       simp only[kH,nI,cE,ef,ak]at M;subst M;exact j_.refl d _) (λH1 H2 y d g hy=>by
       simp only[cz,ak]at hy;subst hy;exact lY.refl d _) (λn hn=>by
       rcases bm.1 hn with rfl|hn
       .rw[ec,bu,b9.2 rfl];rfl
       .obtain⟨i,rfl,hm⟩:=h6 n hn;rw[ec,bu,hm];simp)
      rw[yX]at key;exact⟨_,_,_,_,_,hk,key⟩
     .cases hk
    .cases hk
   .cases hk
  .cases hk
 .cases hk
theorem ahr {con:FuncId->Option cq} {b7:TypeId->Option Ty} {sz:Nat} {x v:Operand} (hc:dt P o.op=af (.store sz x v)) (hk:dW con b7 (.op (.store sz x v)) e h nx K=af r):kU P o aj e h nx K r:=by
 obtain⟨H,hH⟩:=jS h;simp only[dW]at hk;split at hk
 .rename_i id off y hv hv2;obtain⟨yb,h1,h2⟩:=bO hi hv;obtain⟨J,h3,h4⟩:=bO hi hv2;simp only[cz,ak]at h2;subst h2;split at hk
  .rename_i ty l hb;split at hk
   .rename_i cs hcs;split at hk
    .rename_i hcond;simp only[av,c5]at hcond;obtain⟨h5,h6⟩:=KN hcs h4;obtain⟨M,hl⟩:=fE h l (hinv.cells id ty l hb);have hg:H.get (nm id)=af ⟨ty,.mx M⟩:=by rw[hH,bM,hb];simp only[aH,kH,hl]
     have hcell:=su h5 h6;have hlen:J.cs.length=sz:=by rw[ia h5];exact hcond.1
     have hput:(BC.mx M).put off J.cs=af (.mx (splice M off J.cs)):=by
      unfold BC.put;rw[aD]
      .rfl
      .simp only[av];exact⟨⟨rfl,by simp only[BC.len];rw[hlen,ia hl];exact hcond.2⟩,hcell⟩
     have Z:eU (.store sz x v) (J4 e h) H (nm nx)=af ⟨raw undef,[nm id],[nm id],[(nm id,⟨ty,.mx (splice M off J.cs)⟩)],[]⟩:=by
      simp only[eU,h1,h3,Lg,hg,hlen,c4,bG,hput]
     have hspl:∀h',cu h h'->cU h' (splice l off cs)=af (splice M off J.cs):=λh' hr=>sR off (g_ hr l M hl) (g_ hr cs _ h5)
     have U:cu h (h.set id (af (.cells ty (splice l off cs)))):=cu.set λr hr=>by rw[bU,hb]at hr;cases hr
     have key:=js.wrt (m:=0) (v:=.undef) (rd:=kT id) hinv hc hH Z (B:=.cells ty (splice l off cs)) hb (dU.zero h) (by simp) rfl (λty' l2 he=>by cases he;exact kR _ _ _ (hspl _ U)) (λH1 H2 d g b' I=>by
      have:=hspl _ U;simp only[eJ,r7,bG,kH,this,ak]at I;subst I;exact j_.refl d _) (λH1 H2 y d g hy=>by
      simp only[cz,ak]at hy;subst hy;exact lY.refl d _) (λn hn=>by simp only[aL]at hn;subst hn;rw[ec];exact b9.2 rfl)
     rw[yX]at key;exact⟨_,_,_,_,_,hk,key⟩
    .cases hk
   .cases hk
  .cases hk
 .rename_i id sz' j off y hv hv2;obtain⟨yb,h1,h2⟩:=bO hi hv;obtain⟨J,h3,h4⟩:=bO hi hv2;simp only[cz,ak]at h2;subst h2;split at hk
  .rename_i ty p T xs hb;split at hk
   .rename_i hsz;have hsz:=aw hsz;subst hsz;obtain⟨hj,hk⟩:=dY hk;split at hk
    .rename_i z m hset;split at hk
     .cases hk
     .rename_i hmid;have hmid:aN m id=aj:=by simpa using hmid
      have hm:=As 40 T _ off sz z m hset;obtain⟨j0,j1,j2⟩:=E6 hj;have hne:¬((p&&xs.length==0)=ai):=by simp only[av,c5];omega
      have hne2:¬((p&&(cw xs j z).length==0)=ai):=by unfold cw;rw[sY];exact hne
      have hg:H.get (nm id)=af ⟨ty,.fz (xs.flatMap (bS T))⟩:=by rw[hH,bM,hb];simp only[aH,kH,ay hne]
      have fl:=fM (bD T) xs;have hx:xs[j.toNat]? =af (aJ xs j):=by
       unfold aJ;rw[aA,aB j2];rfl
      have hle:(j.toNat+1)*T.size<=xs.length*T.size:=cL _ j2;rw[iW]at hle;have hso:∀H1 H2,vU H1 H2->Ey h H1 H2 m->Yr H1 H2 J T (aJ xs j) z off sz:=λH1 H2 d g=>wE d h4 40 T _ off sz z m hset g
      have hshape:J.cs.length=sz/\off+sz<=T.size/\gJ J.cs=ai:=by
       have d0:vU (bC h) (bC (eJ m h)):=λi b hb=>by
        obtain⟨i',c,rfl,g1,g2⟩:=jE hb;rw[jf]at g1;by_cases ht:aN m i'=ai
        .obtain⟨pp,ss,nn,g3⟩:=uk hm ht;rw[jf]at g3;rw[g3]at g1;cases g1;cases g2
        .rw[ay ht]at g1;exact⟨b,by rw[bM,g1];simp only[aH];rw[<- J5 (cu.kill m h) (λty l e=>hinv.cells i' ty l (by rw[g1,e]))];exact g2⟩
       obtain⟨fs,q1,q2,q3,q4,q5⟩:=hso _ _ d0 (λi hi=>⟨rfl,by
        obtain⟨pp,ss,nn,g3⟩:=uk hm hi;rw[bM,g3];rfl⟩)
       refine ⟨by rw[<- q2,<-bY (f:=AV.f),q1.length],q3,?_⟩;exact ry h4 40 T _ off sz z m hset
      obtain⟨hlen,hoff,hcell⟩:=hshape;obtain⟨c',hput,Y,hc2⟩:∃c',(BC.fz (xs.flatMap (bS T))).put (j.toNat*T.size+off) J.cs=af c'/\c'.toMx=splice ((xs.flatMap (bS T)).map .f) (j.toNat*T.size+off) J.cs/\c'.isCells=ai:=by
       unfold BC.put;rw[aD]
       .split
        .rename_i l ys hl hys;simp only[BC.fz.injEq]at hl;subst hl;refine ⟨_,rfl,?_,rfl⟩;rw[qe hys];simp only[BC.toMx];unfold splice;simp[kN,List.map_drop]
        .exact⟨_,rfl,rfl,rfl⟩
       .simp only[av];exact⟨⟨rfl,bE (by simp only[BC.len];omega)⟩,hcell⟩
      have Z:eU (.store sz x v) (J4 e h) H (nm nx)=af ⟨raw undef,[nm id],[nm id],[(nm id,⟨ty,c'⟩)],[]⟩:=by
       simp only[eU,h1,h3,Lg,hg,hlen,c4,bG,hput]
      have hrow:mR (.rows ty p T (cw xs j z))=mR (.rows ty p T xs):=by
       unfold cw;simp only[mR,sY]
      refine ⟨_,_,_,_,_,hk,js.wrt hinv hc hH Z (B:=.rows ty p T (cw xs j z)) hb hm hmid hrow (λ_ _ he=>by cases he) (λH1 H2 d g b' I=>?_) (λH1 H2 y d g hy=>?_) (λn hn=>?_)⟩
      .simp only[kH,ay hne2,ak]at I;subst I;obtain⟨fs,q1,q2,q3,q4,q5⟩:=hso H1 H2 d g;have hfl:(cw xs j z).flatMap (bS T)=AI.splice (xs.flatMap (bS T)) (j.toNat*T.size+off) fs:=Sc (bD T) xs j.toNat _ z hx off fs (by omega) q4;refine j_.cells hc2 rfl ?_ λx hx=>?_
       .rw[Y];simp only[BC.toMx];rw[hfl];have:(AI.splice (xs.flatMap (bS T)) (j.toNat*T.size+off) fs).map AV.f=AI.splice ((xs.flatMap (bS T)).map .f) (j.toNat*T.size+off) (fs.map .f):=by unfold AI.splice;simp[kN,List.map_drop]
        rw[this];exact (ij.refl d _).splice _ q1
       .simp only[BC.toMx]at hx;obtain⟨q,hq,rfl⟩:=c_.1 hx;exact rT T _ q hq
      .simp only[cz,ak]at hy;subst hy;exact lY.refl d _
      .simp only[aL]at hn;subst hn;rw[ec,bu,b9.2 rfl];simp
    .cases hk
   .cases hk
  .rename_i ty l hb;split at hk
   .rename_i hsz;simp only[av]at hsz;obtain⟨s1,s2,s3⟩:=hsz;have s1:=aw s1;have s2:=aw s2;have s3:=aw s3;subst s1;subst s2;subst s3;obtain⟨hj,hk⟩:=dY hk;obtain⟨j0,j1,j2⟩:=E6 hj;split at hk
    .rename_i cs hcs;split at hk
     .rename_i Y;have Y:=aw Y;obtain⟨h5,h6⟩:=KN hcs h4;obtain⟨M,hl⟩:=fE h l (hinv.cells id ty l hb);have hg:H.get (nm id)=af ⟨ty,.mx M⟩:=by rw[hH,bM,hb];simp only[aH,kH,hl]
      have hcell:=su h5 h6;have hlen:J.cs.length=1:=by rw[ia h5];exact Y
      have e0:j.toNat*1+0=j.toNat:=by omega
      rw[e0]at h1;have hput:(BC.mx M).put j.toNat J.cs=af (.mx (splice M j.toNat J.cs)):=by
       unfold BC.put;rw[aD]
       .rfl
       .simp only[av];exact⟨⟨rfl,bE (by simp only[BC.len];rw[hlen,ia hl];omega)⟩,hcell⟩
      have Z:eU (.store 1 x v) (J4 e h) H (nm nx)=af ⟨raw undef,[nm id],[nm id],[(nm id,⟨ty,.mx (splice M j.toNat J.cs)⟩)],[]⟩:=by
       simp only[eU,h1,h3,Lg,hg,hlen,c4,bG,hput]
      have hspl:∀h',cu h h'->cU h' (splice l j.toNat cs)=af (splice M j.toNat J.cs):=λh' hr=>sR j.toNat (g_ hr l M hl) (g_ hr cs _ h5)
      have U:cu h (h.set id (af (.cells ty (splice l j.toNat cs)))):=cu.set λr hr=>by rw[bU,hb]at hr;cases hr
      have key:=js.wrt (m:=0) (v:=.undef) (rd:=kT id) hinv hc hH Z (B:=.cells ty (splice l j.toNat cs)) hb (dU.zero h) (by simp) rfl (λty' l2 he=>by cases he;exact kR _ _ _ (hspl _ U)) (λH1 H2 d g b' I=>by
       have:=hspl _ U;simp only[eJ,r7,bG,kH,this,ak]at I;subst I;exact j_.refl d _) (λH1 H2 y d g hy=>by
       simp only[cz,ak]at hy;subst hy;exact lY.refl d _) (λn hn=>by simp only[aL]at hn;subst hn;rw[ec];exact b9.2 rfl)
      rw[yX]at key;exact⟨_,_,_,_,_,hk,key⟩
     .cases hk
    .cases hk
   .cases hk
  .cases hk
 .cases hk
theorem am9 {con:FuncId->Option cq} {b7:TypeId->Option Ty} {ty:TypeId} {sz bytes:Nat} {z:ξ} {l c:Operand} (hc:dt P o.op=af (.mksl ty sz bytes z l c)) (hk:dW con b7 (.op (.mksl ty sz bytes z l c)) e h nx K=af r):kU P o aj e h nx K r:=by
 cases hcm:D' (b7 ty) with
 |none=>exact ahs hinv hi hcm hc hk
 |some n=>
  obtain⟨H,hH⟩:=jS h;simp only[dW,hcm]at hk;split at hk
  .rename_i zc k a k' b J hv M;obtain⟨hck,hk⟩:=dY hk;rw[av]at hck;obtain⟨hcond,hn⟩:=hck;have hn:=bw hn;obtain⟨y,h1,h2⟩:=bO hi hv;obtain⟨y2,h3,Y⟩:=bO hi M;simp only[cz,ak]at h2 Y;subst h2;subst Y;have han:aT a=n:=by rw[hn];rfl
   obtain⟨_,_,hzc⟩:=vR h J;refine ⟨_,_,_,_,_,hk,js.new hinv hc hH (y0:=.row (nm nx) sz n) (rdl:=[]) (b0:=⟨ty,.fz (repl z n)⟩) (by simp only[eU,h1,h3,gK,hcond,bG,han]) (dU.zero h) (λty' l' he=>?_) (λH1 H2 d g b' I=>?_) (λH1 H2 y d g U=>?_) (by simp)⟩
   .cases he;exact kR _ _ _ (M8 _ J n)
   .simp only[kH,M8 _ J n,ak]at I;subst I;refine j_.cells rfl rfl (ij.refl d _) λx Z=>?_
    exact lX (su (M8 h J n) (FP hzc n)) x Z
   .simp only[cz,ak]at U;subst U;exact lY.refl d _
  .cases hk
theorem apu {con:FuncId->Option cq} {b7:TypeId->Option Ty} {ty:TypeId} {sz len:Nat} {z:ξ} {parts:List (Nat×Nat×Operand)} (hc:dt P o.op=af (.bsl ty sz len z parts)) (hk:dW con b7 (.op (.bsl ty sz len z parts)) e h nx K=af r):kU P o aj e h nx K r:=by
 cases hcm:D' (b7 ty) with
 |none=>exact amg hinv hi hcm hc hk
 |some n=>
  obtain⟨H,hH⟩:=jS h;simp only[dW,hcm]at hk;split at hk
  .rename_i zc M;split at hk
   .rename_i cs hf;split at hk
    .cases hk
    .rename_i hl;have hl:len≠0:=λe=>hl (by rw[e];rfl)
     obtain⟨cs',h1,h2,h3⟩:=Dz hi parts _ cs _ hf (M8 h M len);obtain⟨_,_,hzc⟩:=vR h M;have hcs:=h3 (FP hzc len);have hr:cu h ((eJ 0 h).set nx (af (.cells ty cs))):=(cu.kill 0 h).trans (cu.set λr hr=>by rw[bU,(hinv.kill 0).fresh]at hr;cases hr);have J:=g_ hr _ _ h2;refine ⟨_,_,_,_,_,hk,js.new hinv hc hH (y0:=.row (nm nx) sz len) (rdl:=[]) (b0:=⟨ty,pH cs'⟩) (by simp only[eU,h1,ay hl]) (dU.zero h) (λty' l' he=>?_) (λH1 H2 d g b' I=>?_) (λH1 H2 y d g U=>?_) (by simp)⟩
     .cases he;exact kR _ _ _ J
     .simp only[kH,J,ak]at I;subst I;obtain⟨Z,Y⟩:=nZ cs';refine j_.cells Y rfl ?_ λx hx=>?_
      .rw[Z];exact ij.refl d _
      .exact lX (su h2 hcs) x hx
     .simp only[cz,ak]at U;subst U;exact lY.refl d _
   .cases hk
  .cases hk
theorem apx {con:FuncId->Option cq} {b7:TypeId->Option Ty} {ty:TypeId} {sz bytes:Nat} {s x:Operand} (hc:dt P o.op=af (.app ty sz bytes s x)) (hk:dW con b7 (.op (.app ty sz bytes s x)) e h nx K=af r):kU P o aj e h nx K r:=by
 cases hcm:D' (b7 ty) with
 |none=>exact amh hinv hi hcm hc hk
 |some n0=>
  obtain⟨H,hH⟩:=jS h;have hfr:=hinv.fresh;simp only[dW,hcm]at hk;split at hk
  .rename_i b y hv hv2;obtain⟨yb,h1,h2⟩:=bO hi hv;obtain⟨yy,h3,h4⟩:=bO hi hv2;unfold ais at hk;split at hk
   .rename_i id2 sz2 m;simp only[cz,ak]at h4;subst h4;split at hk
    .rename_i ty2 l2 I;split at hk
     .rename_i hq;simp only[av,eC]at hq;obtain⟨⟨q1,q2⟩,q3⟩:=hq;have q1:=aw q1;have q2:=aw q2;have q3:m≠0:=λe=>by rw[e]at q3;cases q3
      subst q1;obtain⟨J,Z⟩:=fE h l2 (hinv.cells id2 ty2 l2 I);have hrow:=agk hH I Z q2;split at hk
      .rename_i id sz1 n;simp only[cz,ak]at h2;subst h2;split at hk
       .rename_i ty1 l1 U;split at hk
        .rename_i hq;simp only[av,eC]at hq;obtain⟨⟨⟨p1,p2⟩,p3⟩,p4⟩:=hq;have p1:=aw p1;have p2:=eq_of_beq p2;have p3:=aw p3;have p4:id≠id2:=λe=>by rw[e,r7]at p4;cases p4
         subst p1;subst p2;obtain⟨hroom,hk⟩:=dY hk;obtain⟨M,hl1⟩:=fE h l1 (hinv.cells id _ l1 U);have hln:=ia hl1;have hg:H.get (nm id)=af ⟨ty1,.mx M⟩:=by rw[hH,bM,U];simp only[aH,kH,hl1]
         have hidlt:id<nx:=hinv.low id _ U;generalize hB:iw.cells ty1 (l1++l2)=B at hk;have hd1:cu h (h.set id (af (.dead ai 0 0))):=cu.set λr hr=>by rw[bU,U]at hr;cases hr
         have hd2:cu (h.set id (af (.dead ai 0 0))) ((h.set id (af (.dead ai 0 0))).set nx (af B)):=cu.set λr hr=>by
          rw[bU,PT.get_set,ay (by omega),hfr]at hr;cases hr
         have hr:=hd1.trans hd2;have hsp:cU ((h.set id (af (.dead ai 0 0))).set nx (af B)) (l1++l2)=af (M++J):=g_ hr _ _ (nC hl1 Z);have Y:bC ((h.set id (af (.dead ai 0 0))).set nx (af B)) (nm nx)=af ⟨ty1,.mx (M++J)⟩:=by rw[bM,PT.get_set,aD rfl,<-hB]at *;simp only[aH,kH,hsp]
         have hbd:bC ((h.set id (af (.dead ai 0 0))).set nx (af B)) (nm id)=ah:=by rw[bM,PT.get_set,ay (by omega),PT.get_set,aD rfl];rfl
         have hinv1:mj (h.set id (af (.dead ai 0 0))) nx:=hinv.set hd1 hidlt (bX _) (λ_ _ he=>by cases he);have ha:eU (.app ty1 sz1 bytes s x) (J4 e h) H (nm nx)=af ⟨.row (nm nx) sz1 (n+m),[nm id,nm id2],[nm nx,nm id],[(nm nx,⟨ty1,pH (M++J)⟩)],[nm nx]⟩:=by
          simp only[eU,h1,h3,hrow,hg];rw[aD (by
           simp only[c4,pR,Bool.and_true,BC.isCells,BC.len,hroom,av,eC];refine ⟨?_,bE (by omega)⟩;simp only[YN,Bool.or_false];cases hq:aC (nm id2) (nm id) with
           |false=>rfl
           |true=>exact cY (kW (aw hq)).symm p4)]
          simp only[BC.toMx,fk (show M.length<=n*sz1 by omega)]
         refine ⟨_,_,_,_,_,hk,js.mk' hc hH ha [nm nx,nm id] (λi hi=>hi) (λq hq=>?_) (λi hi b' hbb=>?_) (λH1 H2 d hw1 _ hw2=>⟨λi hi b b' hb I=>?_,λy hy=>?_⟩) (λq hq=>?_) (λq hq=>?_) (λq hq=>?_) hr (hinv1.set hd2 (by omega) (by omega) λty' l' he=>?_) (by omega)⟩
         .simp only[bm,cD,gh,not_or]at hq;refine kS hinv hr λi ei=>?_
          subst ei;rw[PT.get_set,ay (λe=>hq.1 (by rw[e])),PT.get_set,ay (λe=>hq.2 (by rw[e]))]
         .simp only[bm,cD,gh]at hi;rcases hi with rfl|rfl
          .rw[aD (by simp)];exact⟨_,il _ _⟩
          .rw[hbd]at hbb;cases hbb
         .simp only[bm,cD,gh]at hi;rcases hi with rfl|rfl
          .rw[hw1 _ (by simp),il]at hb;rw[hw2 _ (by simp),Y]at I;simp only[ak]at hb I;subst hb;subst I;obtain⟨m1,m2⟩:=nZ (M++J);exact j_.eq d m2 rfl m1
          .rw[hw2 _ (by simp),hbd]at I;cases I
         .simp only[cz,ak]at hy;subst hy;exact lY.refl d _
         .simp only[bm,cD,gh]at hq;rw[bu,i_];rcases hq with rfl|rfl
          .rw[ec];exact .inl (b9.2 rfl)
          .rw[ec];exact .inr (b9.2 rfl)
         .simp only[bm,cD,gh]at hq;rw[bu,i_];rcases hq with rfl|rfl
          .rw[ec];exact .inr (b9.2 rfl)
          .rw[ec];exact .inl (b9.2 rfl)
         .simp only[aL]at hq;subst hq;rw[ec];omega
         .rw[<- hB]at he;cases he;exact kR _ _ _ hsp
        .cases hk
       .cases hk
      .simp only[cz,ak]at h2;subst h2;obtain⟨hroom,hk⟩:=dY hk;have hr:cu h ((eJ 0 h).set nx (af (.cells ty l2))):=(cu.kill 0 h).trans (cu.set λr hr=>by rw[bU,(hinv.kill 0).fresh]at hr;cases hr);have h2':=g_ hr _ _ Z;refine ⟨_,_,_,_,_,hk,js.new hinv hc hH (y0:=.row (nm nx) sz2 m) (rdl:=[nm id2]) (b0:=⟨ty,pH J⟩) (by simp only[eU,h1,h3,hrow];simp[Jq,Ay,hroom,q3]) (dU.zero h) (λty' l' he=>?_) (λH1 H2 d g b' Y=>?_) (λH1 H2 y d g hy=>?_) (λn hn=>?_)⟩
       .cases he;exact kR _ _ _ h2'
       .simp only[kH,h2',ak]at Y;subst Y;obtain⟨p1,p2⟩:=nZ J;exact j_.eq d p2 rfl p1
       .simp only[cz,ak]at hy;subst hy;exact lY.refl d _
       .simp only[aL]at hn;subst hn;rw[ec];exact b9.2 rfl
      .cases hk
     .cases hk
    .cases hk
   .cases hk
  .cases hk
theorem apa {con:FuncId->Option cq} {b7:TypeId->Option Ty} {sz:Nat} {x:Operand} {lo hi' mx:Option Operand} (hc:dt P o.op=af (.slc sz x lo hi' mx)) (hk:dW con b7 (.op (.slc sz x lo hi' mx)) e h nx K=af r):kU P o aj e h nx K r:=by
 have hfr:=hinv.fresh;simp only[dW]at hk;split at hk
 .rename_i v hv;obtain⟨y,h1,h2⟩:=bO hi hv;split at hk
  .split at hk
   .rename_i hn;obtain⟨n,hn⟩:=iP.1 hn;have Y:=Rt hn h2;exact kU.q (k:=0) hinv hc (λH _=>by simp only[eU,h1,Y,Option.isSome_some,bG]) (dy rfl) hk
   .cases hk
  .rename_i b;split at hk
   .rename_i T xs k j hb;obtain⟨y2,Y,U⟩:=bO hi hb;simp only[cz,ak]at h2 U;subst h2;subst U;split at hk
    .rename_i hs;have hs:=aw hs;subst hs;obtain⟨hj,hk⟩:=dY hk;have hfl:=fM (bD T) xs;have hcond:(c6 0 j&&c6 j (al xs)&&eO (al xs*T.size) (xs.flatMap (bS T)).length)=ai:=by
      rw[hj,pR];exact bE (by omega)
     simp only[c6,av,be]at hj;have hlen:(xs.take j.toNat).length=j.toNat:=by rw[bH];omega
     exact kU.q (k:=0) (y0:=.f (.sl ((xs.flatMap (bS T)).take (j.toNat*T.size)) j.toNat)) hinv hc (λH _=>by simp only[eU,h1,Y,gK,hcond,bG]) (dy (by simp only[cz,gK];rw[AD (bD T),hlen])) hk
    .cases hk
   .rename_i id k j hb;obtain⟨y2,Y,U⟩:=bO hi hb;simp only[cz,ak]at U;subst U;split at hk
    .rename_i ty p T xs I;split at hk
     .rename_i hs;have hs:=aw hs;subst hs;obtain⟨hj,hk⟩:=dY hk;obtain⟨H,hH⟩:=jS h;have hj0:=hj;simp only[c6,fV,av,be]at hj;have hp:¬((p&&xs.length==0)=ai):=by
       simp only[av,c5];omega
      simp only[cz,bU,I,aH,mR,fG,ay hp,ak]at h2;subst h2;have hidlt:=hinv.low id _ I;have hne:nx≠id:=by omega
      have hg:H.get (nm id)=af ⟨ty,.fz (xs.flatMap (bS T))⟩:=by rw[hH,bM,I];simp only[aH,kH,ay hp]
      have fl:=fM (bD T) xs;have hcond:(T.size==T.size&&c6 0 j&&c6 j (al xs))=ai:=by
       simp only[c6,av,be,c4,BR];omega
      have hlen:(xs.take j.toNat).length=j.toNat:=by rw[bH];omega
      have ha0:eU (.slc T.size x ah (af b) ah) (J4 e h) H (nm nx)=af ⟨.row (nm nx) T.size j.toNat,[nm id],[nm nx,nm id],[(nm nx,⟨ty,.fz ((xs.take j.toNat).flatMap (bS T))⟩)],[nm nx]⟩:=by
       have hc2:((BC.fz (xs.flatMap (bS T))).isCells&&eO (al xs*T.size) (BC.fz (xs.flatMap (bS T))).len)=ai:=by
        simp only[BC.isCells,pR,BC.len];exact bE (by omega)
       simp only[eU,h1,Y,gK,hcond,bG,hg,hc2,BC.toMx,<-kN,Da,AD (bD T)]
      generalize hh':(h.set id (af (.dead p T.size (al xs)))).set nx (af (.rows ty aj T (dF j.toNat xs)))=h' at hk;have hrA:cu h (h.set id (af (.dead p T.size (al xs)))):=cu.set λr hr=>by rw[bU,I]at hr;exact hr
      have J:∀i,h'.get i=if i=nx then af (.rows ty aj T (dF j.toNat xs)) else if i=id then af (.dead p T.size (al xs)) else h.get i:=λi=>by rw[<- hh',PT.get_set,PT.get_set]
      have hr:cu h h':=by
       rw[<- hh'];refine hrA.trans (cu.set λr hr=>?_);rw[bU,PT.get_set,ay hne,hfr]at hr;cases hr
      have hinv':mj h' (nx+1):=by
       refine ⟨λi ty l hil=>?_,λi c hic=>?_⟩
       .rw[J]at hil;split at hil
        .cases hil
        .split at hil
         .cases hil
         .exact ja hr l (hinv.cells i ty l hil)
       .rw[J]at hic;split at hic
        .omega
        .split at hic
         .omega
         .have:=hinv.low i c hic;omega
      have hsame:∀n,n≠nm nx->n≠nm id->bC h' n=bC h n:=λn h1 h2=>kS hinv hr λi e=>by
       subst e;rw[J,ay (λe=>h1 (by rw[e])),ay (λe=>h2 (by rw[e]))]
      have hdead:bC h' (nm id)=ah:=by rw[bM,J,ay (by omega),aD rfl];rfl
      have hnew:bC h' (nm nx)=af ⟨ty,.fz ((xs.take j.toNat).flatMap (bS T))⟩:=by rw[bM,J,aD rfl];rfl
      have hval:cz h' (.row nx)=af (.row (nm nx) T.size j.toNat):=by simp only[cz,bU,J,bG,aH,mR,fG,nI,cE,ef,hlen]
      refine ⟨_,_,_,_,_,hk,?_⟩;refine js.mk' hc hH ha0 [nm nx,nm id] (λi hi=>hi) (λn hn=>?_) (λi hi b' hb'=>?_) (λH1 H2 d hw1 _ hw2=>⟨λi hi b b' Z M=>?_,λy hy=>?_⟩) (λn hn=>?_) (λn hn=>?_) (λn hn=>by simp only[aL]at hn;subst hn;rw[ec];omega) hr hinv' (by omega)
      .simp only[bm,cD,gh,not_or]at hn;exact hsame n hn.1 hn.2
      .simp only[bm,cD,gh]at hi;rcases hi with rfl|rfl
       .exact⟨_,by rw[aD (by simp)];exact il _ _⟩
       .rw[hdead]at hb';cases hb'
      .simp only[bm,cD,gh]at hi;rcases hi with rfl|rfl
       .rw[hw1 _ (by simp),il]at Z;rw[hw2 _ (by simp),hnew]at M;simp only[ak]at Z M;subst Z;subst M;exact j_.refl d _
       .rw[hw2 _ (by simp),hdead]at M;cases M
      .rw[hval]at hy;simp only[ak]at hy;subst hy;exact lY.refl d _
      .simp only[aL]at hn;subst hn;rw[ec];exact b9.2 rfl
      .simp only[bm,cD,gh]at hn;rcases hn with rfl|rfl<;>rw[ec,bu,b9.2 rfl]<;>simp
     .cases hk
    .cases hk
   .cases hk
  .rename_i b;split at hk
   .rename_i T xs k j hb;obtain⟨y2,Y,U⟩:=bO hi hb;simp only[cz,ak]at h2 U;subst h2;subst U;split at hk
    .rename_i hs;have hs:=aw hs;subst hs;obtain⟨hj,hk⟩:=dY hk;have hfl:=fM (bD T) xs;have hcond:(c6 0 j&&c6 j (al xs)&&eO (al xs*T.size) (xs.flatMap (bS T)).length)=ai:=by
      rw[hj,pR];exact bE (by omega)
     simp only[c6,av,be]at hj;have hlen:(xs.drop j.toNat).length=al xs-j.toNat:=by rw[mN]
     have htk:((xs.flatMap (bS T)).drop (j.toNat*T.size)).take ((al xs-j.toNat)*T.size)=(xs.flatMap (bS T)).drop (j.toNat*T.size):=by
      refine fk ?_;rw[mN,hfl,Nat.sub_mul];exact bX _
     exact kU.q (k:=0) (y0:=.f (.sl ((xs.flatMap (bS T)).drop (j.toNat*T.size)) (al xs-j.toNat))) hinv hc (λH _=>by simp only[eU,h1,Y,gK,hcond,bG,htk]) (dy (by simp only[cz,gK];rw[JZ (bD T),hlen])) hk
    .cases hk
   .rename_i id k j hb;obtain⟨y2,Y,U⟩:=bO hi hb;simp only[cz,ak]at U;subst U;split at hk
    .rename_i ty p T xs I;split at hk
     .rename_i hs;have hs:=aw hs;subst hs;obtain⟨hj,hk⟩:=dY hk;have hcond:(T.size==T.size&&c6 0 j&&fV j (al xs))=ai:=by
       simp only[av]at hj;rw[hj.1,hj.2,c4];rfl
      simp only[c6,fV,av,be]at hj;have hp:¬((p&&xs.length==0)=ai):=by
       simp only[av,c5];omega
      simp only[cz,bU,I,aH,mR,fG,ay hp,ak]at h2;subst h2;exact kU.q (k:=0) (y0:=.sl (nm id) (j.toNat*T.size) (al xs-j.toNat)) hinv hc (λH _=>by simp only[eU,h1,Y,gK,hcond,bG]) (dy (by simp only[cz,bU,I,aH,mR])) hk
     .cases hk
    .cases hk
   .cases hk
  .cases hk
 .cases hk
theorem apt {con:FuncId->Option cq} {b7:TypeId->Option Ty} {sz:Nat} {z:ξ} {x:Operand} (hc:dt P o.op=af (.clr sz z x)) (hk:dW con b7 (.op (.clr sz z x)) e h nx K=af r):kU P o aj e h nx K r:=by
 obtain⟨H,hH⟩:=jS h;simp only[dW]at hk;split at hk
 .rename_i id j hv;split at hk
  .rename_i ty p T xs hb;split at hk
   .rename_i hs;simp only[av]at hs;obtain⟨⟨hs,J⟩,hco⟩:=hs;have hs:=aw hs;have J:=Lc J;subst hs;subst J;obtain⟨hj,hk⟩:=dY hk;simp only[c6,fV,av,be]at hj;obtain⟨j0,j1⟩:=hj;obtain⟨y,h1,h2⟩:=bO hi hv;simp only[cz,bU,hb,aH,mR,ak]at h2;subst h2;have hp:¬((p&&xs.length==0)=ai):=by
     simp only[av,c5];omega
    have fl:=fM (bD T) xs;have hg:H.get (nm id)=af ⟨ty,.fz (xs.flatMap (bS T))⟩:=by rw[hH,bM,hb];simp only[aH,kH,ay hp]
    have hrl:(repl (tw T) (xs.length-j.toNat)).length=(xs.length-j.toNat)*T.size:=by
     have h9:=(Ic (H:=λ_=>ah) (H':=λ_=>ah) (λn b hb=>by cases hb) T (xs.length-j.toNat)).length;rw[bY,bY,fM (bD T),eP]at h9;exact h9.symm
    have hoff:j.toNat*T.size+(xs.length-j.toNat)*T.size=xs.length*T.size:=by rw[<- Ol];congr 1;omega
    have hput:(BC.fz (xs.flatMap (bS T))).put (j.toNat*T.size) ((repl (tw T) (xs.length-j.toNat)).map .f)=af (.fz (splice (xs.flatMap (bS T)) (j.toNat*T.size) (repl (tw T) (xs.length-j.toNat)))):=by
     unfold BC.put;rw[aD]
     .simp only[Lk]
     .simp only[av];refine ⟨⟨rfl,bE ?_⟩,Hh _ λq hq=>?_⟩
      .simp only[BC.len,bY];omega
      .obtain⟨v,hv,rfl⟩:=Rb _ q hq;exact gu.1 hco v hv
    have hblt:gm 0 (xs.length-j.toNat)=ai:=bE (by omega);have Y:eU (.clr T.size (tw T) x) (J4 e h) H (nm nx)=af ⟨.tup [],[nm id],[nm id],[(nm id,⟨ty,.fz (splice (xs.flatMap (bS T)) (j.toNat*T.size) (repl (tw T) (xs.length-j.toNat)))⟩)],[]⟩:=by
     simp only[eU,h1,hg,hblt,bG,hput]
    have hlen:(dF j.toNat xs++aG (al xs-j.toNat) T.zero).length=xs.length:=by
     rw[bx,bH,eP];omega
    have hrow:mR (.rows ty p T (dF j.toNat xs++aG (al xs-j.toNat) T.zero))=mR (.rows ty p T xs):=by simp only[mR,hlen]
    refine ⟨_,_,_,_,_,hk,js.wrt (m:=0) (v:=.tup []) (rd:=kT id) hinv hc hH Y hb (dU.zero h) (by simp) hrow (λ_ _ he=>by cases he) (λH1 H2 d g b' I=>?_) (λH1 H2 y d g Z=>?_) (λn hn=>?_)⟩
    .have U:¬((p&&(dF j.toNat xs++aG (al xs-j.toNat) T.zero).length==0)=ai):=by rw[hlen];exact hp
     simp only[kH,ay U,ak]at I;subst I;refine j_.cells rfl rfl ?_ λq hq=>?_
     .simp only[BC.toMx];unfold splice;rw[hrl,hoff,<-fl,List.drop_length,iZ,List.flatMap_append,AD (bD T),cC,cC];exact (ij.refl d _).append (Ic d T _)
     .simp only[BC.toMx]at hq;obtain⟨q',M,rfl⟩:=c_.1 hq;exact rT T _ q' M
    .simp only[cz,cU,ak]at Z;subst Z;exact lY.refl d _
    .simp only[aL]at hn;subst hn;rw[ec];exact b9.2 rfl
   .cases hk
  .cases hk
 .cases hk
end ops
end
end Go.Proofs.YtgijlolllojpaaaGreatDoor.AI
