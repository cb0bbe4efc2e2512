/-
  Texts of the proof, part 4 of 5: what is used to prove the statement. No condition.
-/
import Derived.Test.YtgijlolllojpaaaGreatDoorShbReadsQ2
import Derived.Deep.AppendSrc
import Derived.Laws.AppendOwn
import Derived.Defers
namespace Go.Proofs.YtgijlolllojpaaaGreatDoor.AI
open Go.RowKit
set_option maxRecDepth 100000
set_option maxHeartbeats 4000000
set_option linter.unusedVariables false
set_option linter.unusedSimpArgs false
open Act renaming put→MP
open _root_.Array renaming length_toList→ip,range→xY
open _root_.Bool renaming true→ai,false→aj
open Builtin renaming zeroCells→lh,firstCells→Km
open Call renaming operands→eK
open Instr renaming findNow→jt,sliceBounds→jK,sliceBound→ko,sliceAt→pj,slice→uk
open _root_.Int renaming ofNat→aO,toNat→aS
open IntKind renaming wrap→oI
open _root_.List renaming length→al,replicate→aG,length_cons→bZ,take→du,range→eS,cons_append→gh,length_nil→jQ,toArray→ky,nil_append→lE,take_succ_cons→vB,foldl_cons→EU
open _root_.Nat renaming beq→aB,testBit→aN,add_zero→dg,ble→eB,blt→gd,min→iN
open Oper renaming wp→GW
open _root_.Option renaming some→af,none→ah,bind_some→aH,map_some→b_,map→lD,getD_some→uz
open Region renaming wanted→iF
open Result renaming andThen_ok→cG
open Sem renaming run_bind→eA,run→ng,run_pure→oF
open Value.bool renaming injEq→BI
open World renaming shape?→rz,cell?→ML
noncomputable section
theorem mZ.one {O:Nat->Prop} {w:World} {x:FV} {v:Value} (h:mZ O w x v) (hc:x.isCell=ai):v.oneCell'=ai:=by
 cases h with
 |raw v=>exact hc
 |nil=>rfl
 |sl=>rfl
 |ptr=>rfl
 |agg=>cases hc
theorem cI.one {φ:PM} {O:Nat->Prop} {w:World} {x:AV} {v:Value} (h:cI φ O w x v) (hc:x.isCell=ai):v.oneCell'=ai:=by
 cases h with
 |f h=>exact h.one hc
 |ptr=>rfl
 |sl=>rfl
 |row=>rfl
 |emp=>rfl
 |anyb=>rfl
 |mp=>rfl
 |agg=>cases hc
 |tup=>cases hc
 |clo=>rfl
theorem Cs.one {φ:PM} {O:Nat->Prop} {w:World} {l:List AV} {vs:List Value} (h:Cs φ O w l vs):∀ v∈vs,v.oneCell'=ai:=by
 intro v hv;obtain⟨j,hj⟩:=eX hv;have hlt:j<l.length:=by rw[<- h.1];exact (bh.1 hj).1
 exact (h.2.2 j _ v (aA hlt) hj).one (h.2.1 _ (uC hlt))
theorem Cs.append {φ:PM} {O:Nat->Prop} {w:World} {l J:List AV} {vs vs':List Value} (h:Cs φ O w l vs) (h':Cs φ O w J vs'):Cs φ O w (l++J) (vs++vs'):=by
 refine ⟨by simp[h.1,h'.1],λx I=>(bW.1 I).elim (h.2.1 x) (h'.2.1 x),λj x v I hv=>?_⟩;rcases b7 j l.length with hj|hj
 .rw[bG hj] at I;rw[bG (by rw[h.1];exact hj)] at hv;exact h.2.2 j x v I hv
 .rw[bT hj] at I;rw[bT (by rw[h.1];exact hj),h.1] at hv;exact h'.2.2 _ x v I hv
theorem Cs.take {φ:PM} {O:Nat->Prop} {w:World} {l:List AV} {vs:List Value} (h:Cs φ O w l vs) (n:Nat):Cs φ O w (l.take n) (vs.take n):=by
 refine ⟨by simp[h.1],λx I=>h.2.1 x (gP I),λj x v I hv=>?_⟩;rw[cM] at I hv;split at I
 .rename_i hj;rw[aF hj] at hv;exact h.2.2 j x v I hv
 .cases I
theorem Cs.drop {φ:PM} {O:Nat->Prop} {w:World} {l:List AV} {vs:List Value} (h:Cs φ O w l vs) (n:Nat):Cs φ O w (l.drop n) (vs.drop n):=by
 refine ⟨by simp[h.1],λx I=>h.2.1 x (List.mem_of_mem_drop I),λj x v I hv=>?_⟩;rw[gQ] at I hv;exact h.2.2 _ x v I hv
theorem Cs.splice {φ:PM} {O:Nat->Prop} {w:World} {l I:List AV} {vs vs':List Value} (h:Cs φ O w l vs) (h':Cs φ O w I vs') (off:Nat):Cs φ O w (splice l off I) (splice vs off vs'):=by
 unfold AI.splice;rw[h'.1];exact ((h.take off).append h').append (h.drop _)
theorem Cs.raws {φ:PM} {O:Nat->Prop} {w:World} (z:List Value) (J:mq z=ai):Cs φ O w (z.map raw) z:=by
 refine ⟨by simp,λx I=>?_,λj x v I hv=>?_⟩
 .obtain⟨v,hv,rfl⟩:=dh.1 I;exact gi.1 J v hv
 .rw[ba] at I;rw[hv] at I;simp at I;subst I;exact .f (.raw v)
theorem Cs.mono {φ φ':PM} {O O':Nat->Prop} {w w':World} {l:List AV} {vs:List Value} (h:Cs φ O w l vs) (hk:∀ x v,cI φ O w x v->cI φ' O' w' x v):Cs φ' O' w' l vs:=⟨h.1,h.2.1,λj x v I hv=>hk _ _ (h.2.2 j x v I hv)⟩
theorem EH.setRow {w:World} {k:Nat} {arr arr':Array Value} {ty:TypeId} (I:w.heap[k]? =af (.cells arr ty (0,0))) (hs:arr'.size=arr.size):EH w (w.setRow k arr') k (.cells arr' ty (0,0)):=by
 refine ⟨rfl,rfl,rfl,by simp,setRow_heap w k arr arr' ty (0,0) I,λj hj=>setRow_other w k j arr' hj,λj=>?_⟩;unfold rz;by_cases hj:j=k
 .subst hj;rw[setRow_heap w j arr arr' ty (0,0) I,I];simp[hs]
 .rw[setRow_other w k j arr' hj]
section
variable {P:Program} {o:Oper} {e:zo} {h:nQ} {nx:Nat} {R:BG}
theorem s7 {t:TypeId} {z:List Value} (I:sF P t=af z) (w:World):∃ v,(zeroValue t).run P w= .ok v w/\v.cells.toList=z/\∃ i,P.info? t=af i/\i.zero=af v:=by
 unfold sF at I;cases hi:P.info? t with
 |none=>rw[hi] at I;cases I
 |some i=>
  rw[hi] at I;simp only[aH] at I;cases hv:i.zero with
  |none=>rw[hv] at I;cases I
  |some v=>
   rw[hv] at I;simp only[b_,ak] at I;exact⟨v,by simp[zeroValue,typeInfo,hi,hv],I,i,rfl,hv⟩
theorem adm {t:TypeId} {z:List Value} (Y:o.op= .alloc t) (U:sF P t=af z) (hc:mq z=ai) (M:eH (.alloc t z) e h nx=af R):gG P o e.get h.get R.eff:=by
 simp only[eH,ak] at M;subst M;refine gG.makes λφ E h' w a _ _ _=>?_
 obtain⟨v,h1,h2,_⟩:=s7 U w;refine ⟨.pointer (af ⟨w.heap.size,0,ah⟩),{w with heap:=w.heap.push (.cells v.cells t)},.cells v.cells t (0,0),?_,qM w _,?_,λφ' O hφ=>.ptr hφ⟩
 .unfold execOp;rw[Y];simp[Instr.alloc,h1,newVar,newRow,newObj,ng]
 .have I:BC.toMx (.fz (z.map .raw))=z.map raw:=by simp[BC.toMx,raw]
  refine pO rfl (by rw[I,<-h2];simp) λj x J=>?_
  rw[I] at J;have cs:=Cs.raws (φ:=φ) (O:=tot E φ h') (w:=w) z hc;have hj:j<z.length:=by have:=(bh.1 J).1;simpa using this
  refine ⟨cs.2.1 x (a_ J),z[j],?_,cs.2.2 j x _ J (aA hj)⟩;have:v.cells.toList[j]? =af z[j]:=by rw[h2];exact aA hj
  simpa using this
theorem akg {t:TypeId} {x:Operand} (J:o.op= .box t x) (I:eH (.box t x) e h nx=af R):gG P o e.get h.get R.eff:=by
 simp only[eH] at I;split at I
 .rename_i v M;split at I
  .rename_i hc;simp only[ak] at I;subst I;refine gG.makes λφ E h' w a _ hp _=>?_
   have hr:=T4 (hp x _ (by rw[J];simp[Op.operands]) M) hc;refine ⟨.pointer (af ⟨w.heap.size,0,ah⟩),{w with heap:=w.heap.push (.cells (a.eval x).cells t)},.cells (a.eval x).cells t (0,0),?_,qM w _,?_,λφ' O hφ=>.ptr hφ⟩
   .unfold execOp;rw[J];simp[Instr.box,newVar,newRow,newObj,ng]
   .have:=HR (ty:=t) hr;simpa using this
  .cases I
 .cases I
theorem my {α:Type} {l vs:List α} {off:Nat} (hle:off+vs.length<=l.length) (j:Nat):(splice l off vs)[j]? =if j<off then l[j]? else if j<off+vs.length then vs[j-off]? else l[j]? :=by
 unfold splice;rw[jJ];have h1:(l.take off).length=off:=by simp;omega
 by_cases hj:j<off
 .rw[aF hj,bG (by rw[h1];exact hj),cM,aF hj]
 .rw[aC hj,bT (by omega),h1];by_cases I:j<off+vs.length
  .rw[aF I,bG (by omega)]
  .rw[aC I,bT (by omega),gQ];congr 1;omega
theorem ol {α:Type} {l vs:List α} {off:Nat} (hle:off+vs.length<=l.length):(splice l off vs).length=l.length:=by
 unfold splice;simp;omega
theorem Qo (off:Nat):∀ (vs:List Value) (k:Nat) (arr:Array Value),off+k+vs.length<=arr.size->∀ j:Nat,
 ((vs.zipIdx k).foldl (λcs (p:Value×Nat)=>cs.setIfInBounds (off+p.2) p.1) arr)[j]? =if j<off+k then arr[j]? else if j<off+k+vs.length then vs[j-(off+k)]? else arr[j]?
 |[],k,arr,_,j=>by
  simp only[List.zipIdx_nil,List.foldl_nil,jQ,dg];split<;>rfl
 |v::vs,k,arr,hle,j=>by
  simp only[bZ] at hle;rw[List.zipIdx_cons,EU,Qo off vs (k+1) _ (by simp;omega) j];simp only[bZ];by_cases h1:j<off+k
  .rw[aF (by omega),aF h1,pD (by omega)]
  .by_cases h2:j=off+k
   .subst h2;rw[aF (by omega),aC (by omega),aF (by omega)];simp[show off+k<arr.size by omega]
   .rw[aC (by omega),aC h1];by_cases I:j<off+k+(vs.length+1)
    .rw[aF (by omega),aF I,show j-(off+k)=(j-(off+(k+1)))+1 from by omega];simp
    .rw[aC (by omega),aC I,pD (by omega)]
theorem Qn (off:Nat) (c:Array Value) (l:List Value) (hle:off+c.size<=l.length):(c.zipIdx.foldl (λcs (p:Value×Nat)=>cs.setIfInBounds (off+p.2) p.1) l.toArray)=(splice l off c.toList).toArray:=by
 rw[<- Array.foldl_toList,Array.toList_zipIdx];apply Array.ext_getElem?;intro j;rw[Qo off c.toList 0 l.toArray (by simpa using hle) j];simp only[dg,kg];rw[my (by simpa using hle)]
theorem NL {φ:PM} {E:Nat->Prop} {h':HF} {w:World} {a:Act} (hp:UV φ E h' w a e o) {place:Nat->Option (Nat×Nat)}:∀ (ps:List (Nat×Operand)) (ps':List (Nat×Nat×Operand)) (cells cs:List AV) (vs:List Value),
 (ps'.length=ps.length)->(∀ (j:Nat) i x,ps[j]? =af (i,x)->∃ of sz,ps'[j]? =af (of,sz,x)/\place i=af (of,sz))->(∀ p∈ps,p.2∈o.op.operands)->Cs φ (tot E φ h') w cells vs->yP cells e ps'=af cs->
 ∃ vs',Instr.fill place vs.toArray (ps.map λp=>(p.1,a.eval p.2))=af vs'.toArray/\Cs φ (tot E φ h') w cs vs'
 |[],ps',cells,cs,vs,hl,_,_,hcs,hf=>by
  cases ps' with
  |nil=>simp only[yP,ak] at hf;subst hf;exact⟨vs,rfl,hcs⟩
  |cons _ _=>simp at hl
 |(i,x)::ps,ps',cells,cs,vs,hl,hpl,hm,hcs,hf=>by
  obtain⟨of,sz,h1,h2⟩:=hpl 0 i x rfl;cases ps' with
  |nil=>simp at h1
  |cons p ps'=>
   simp at h1;subst h1;simp only[yP] at hf;split at hf
   .rename_i v hv;split at hf
    .rename_i hc;simp only[av,cR] at hc;obtain⟨⟨M,J⟩,I⟩:=hc;have hr:=T4 (hp x v (hm _ (dv ..)) hv) I;have hsz:(a.eval x).cells.size=sz:=by have:=hr.1;simp at this;omega
     have hle:of+sz<=vs.length:=by rw[hcs.1];exact a8 J
     obtain⟨vs',Y,U⟩:=NL hp ps ps' _ cs _ (by simpa using hl) (λj i x hj=>by have:=hpl (j+1) i x (by simpa using hj);simpa using this) (λp hp=>hm p (cL _ hp)) (hcs.splice hr of) hf;refine ⟨vs',?_,U⟩;simp only[gg,Instr.fill,h2];have hcd:((decide ((a.eval x).cells.size≠sz))||decide (of+(a.eval x).cells.size>vs.toArray.size))=aj:=by
      rw[hsz];simp;omega
     rw[aC (by rw[hcd];simp)];have:=Qn of (a.eval x).cells vs (by rw[hsz];exact hle);rw[<- Y,<-this]
    .cases hf
   .cases hf
theorem DG {t:TypeId}:∀ (ps:List (Nat×Operand)) (ps':List (Nat×Nat×Operand)),wS P t ps=af ps'->ps'.length=ps.length/\∀ (j:Nat) i x,ps[j]? =af (i,x)->∃ of sz,ps'[j]? =af (of,sz,x)/\AW P t i=af (of,sz)
 |[],ps',h=>by simp only[wS,ak] at h;subst h;exact⟨rfl,λj i x M=>by simp at M⟩
 |(i,x)::ps,ps',h=>by
  simp only[wS] at h;split at h
  .rename_i of sz l h1 h2;simp only[ak] at h;subst h;obtain⟨Y,U⟩:=DG ps l h2;refine ⟨by simp[Y],λj J I hj=>?_⟩;cases j with
   |zero=>simp at hj;obtain⟨rfl,rfl⟩:=hj;exact⟨of,sz,rfl,h1⟩
   |succ j=>simpa using U j J I (by simpa using hj)
  .cases h
theorem H0 (w:World):∀ (fs:List Field),(fs.all λf=>(fh P f.type).isSome)=ai->(fs.mapM (λf=>do pure (f.offset,<-sizeOf f.type)):Sem (List (Nat×Nat))).run P w= .ok (fs.map λf=>(f.offset,(fh P f.type).getD 0)) w
 |[],_=>by simp
 |f::fs,h=>by
  simp only[List.all_cons,av] at h;obtain⟨sz,hs⟩:=iG.1 h.1;have h1:=gp hs w;have I:=H0 w fs h.2;simp only[List.mapM_cons,eA,h1,cG,oF,I,gg,hs,uz]
theorem Wp {t:TypeId} {ps:Array (Nat×Operand)} {z:List Value} {ps':List (Nat×Nat×Operand)} (M:o.op= .build t ps) (hz:sF P t=af z) (hc:mq z=ai) (hps:wS P t ps.toList=af ps')
 (hu:(∃ fs,P.underlying t=af (.struct fs)/\(fs.toList.all λf=>(fh P f.type).isSome)=ai)\/∃ n el sz,P.underlying t=af (.array n el)/\fh P el=af sz) (I:eH (.build z ps') e h nx=af R):gG P o e.get h.get R.eff:=by
 simp only[eH] at I;split at I
 .rename_i cs hf;rw[dk I];refine gG.reads λφ E h' w a _ hp _=>?_
  obtain⟨v,h1,h2,_⟩:=s7 hz w;have hcells:v.cells=z.toArray:=by rw[<- h2]
  obtain⟨g1,g2⟩:=DG ps.toList ps' hps;have hops:∀ p∈ps.toList,p.2∈o.op.operands:=λp hp=>by
   rw[M];simp only[Op.operands,List.mem_toArray,dh];exact⟨p,hp,rfl⟩
  have hmap:(ps.map λx:Nat×Operand=>(x.1,a.eval x.2)).toList=ps.toList.map λp=>(p.1,a.eval p.2):=by simp
  have fin:∀ place:Nat->Option (Nat×Nat),(∀ i,AW P t i≠ah->place i=AW P t i)->∃ vs':List Value,Instr.fill place v.cells (ps.map λx:Nat×Operand=>(x.1,a.eval x.2)).toList=af vs'.toArray/\cI φ (tot E φ h') w (LU cs) (.agg vs'.toArray):=by
   intro place hpl;obtain⟨vs',k1,k2⟩:=NL (place:=place) hp ps.toList ps' _ cs z g1 (λj i x hj=>by
    obtain⟨of,sz,Z,Y⟩:=g2 j i x hj;exact⟨of,sz,Z,by rw[hpl i (by rw[Y];simp),Y]⟩) hops (Cs.raws z hc) hf
   refine ⟨vs',by rw[hmap,hcells];exact k1,?_⟩;unfold LU;cases hfs:xv cs with
   |none=>exact .agg k2.1 k2.2.1 k2.2.2
   |some fs=>
    have he:=pA hfs;refine .f (.agg fs vs' (by rw[k2.1,he];simp) (λx J=>k2.2.1 (.f x) (by rw[he];exact dh.2 ⟨x,J,rfl⟩)) λj x u J hu=>?_);have:=k2.2.2 j (.f x) u (by rw[he,ba,J];rfl) hu;cases this with
    |f h=>exact h
  rcases hu with ⟨fs,hu,hall⟩|⟨n,el,sz,hu,hs⟩
  .obtain⟨vs',k1,k2⟩:=fin (λi=>(fs.map λf=>(f.offset,(fh P f.type).getD 0))[i]?) (λi hi=>by
    unfold AW at hi ⊢;rw[hu] at hi ⊢;simp only[Array.getElem?_map] at hi ⊢;cases hf:fs[i]? with
    |none=>rw[hf] at hi;simp at hi
    |some f=>
     simp only[b_,aH];cases hs:fh P f.type with
     |none=>rw[hf] at hi;simp[hs] at hi
     |some sz=>simp)
   refine ⟨_,?_,k2⟩;have hm:=H0 w fs.toList hall;have U:(fs.mapM (λf=>do pure (f.offset,<-sizeOf f.type)):Sem (Array (Nat×Nat))).run P w= .ok (fs.map λf=>(f.offset,(fh P f.type).getD 0)) w:=by
    rw[Array.mapM_eq_mapM_toList];simp only[Sem.run_map,hm,cG];congr 1;apply Kn;simp
   unfold execOp;rw[M];simp only[Instr.build,eA,h1,cG,run_underlying hu,U,oF,k1]
  .obtain⟨vs',k1,k2⟩:=fin (λi=>af (i*sz,sz)) (λi hi=>by
    unfold AW;rw[hu];simp[hs])
   refine ⟨_,?_,k2⟩;have h3:=gp hs w;unfold execOp;rw[M];simp only[Instr.build,eA,h1,cG,run_underlying hu,h3,oF,k1]
 .cases I
end
section
variable {P:Program} {o:Oper} {e:zo} {h:nQ} {nx:Nat} {R:BG}
theorem r7 {t el:TypeId} (h:An P t=af el):P.underlying t=af (.slice el):=by
 unfold An at h;split at h
 .rename_i e hu;simp only[ak] at h;subst h;exact hu
 .cases h
theorem mA (z:List Value):∀ n,(repl z n).length=n*z.length
 |0=>by simp[repl]
 |n+1=>by simp[repl,mA z n,iM];omega
theorem BZ (z:List Value):∀ (n j:Nat),j<n*z.length->(repl z n)[j]? =(z[j%z.length]?).map .raw
 |0,j,h=>by simp at h
 |n+1,j,h=>by
  have I:0<z.length:=by
   rcases Kl z.length with h0|h0
   .rw[h0] at h;simp at h
   .exact h0
  rw[repl];rcases b7 j z.length with hj|hj
  .rw[bG (by simpa using hj),ba,Nat.mod_eq_of_lt hj]
  .rw[bT (by simpa using hj),bY,BZ z n (j-z.length) (by rw[iM] at h;omega),Nat.mod_eq_sub_mod hj]
theorem Wx {v:Value} {z:List Value} (hv:v.cells.toList=z) (n sz:Nat) (hl:z.length=sz) (hsz:sz≠0) (j:Nat) (hj:j<n*sz):
 ((xY (n*sz)).map (λi=>v.cells[i%v.cells.size]!))[j]? =z[j%sz]? :=by
 have hs:v.cells.size=sz:=by rw[<- hl,<-hv];simp
 have hlt:j%sz<v.cells.size:=by rw[hs];exact Nat.mod_lt _ (by omega)
 rw[Array.getElem?_map,Array.getElem?_range];simp only[hj,bC,b_,hs];rw[<- hv,cF,getElem!_pos v.cells _ hlt,ib hlt]
theorem Cs.repl {φ:PM} {O:Nat->Prop} {w:World} {v:Value} {z:List Value} (hv:v.cells.toList=z) (n sz:Nat) (hl:z.length=sz) (hsz:sz≠0) (hc:mq z=ai):
 Cs φ O w ((repl z n).map .f) ((xY (n*sz)).map (λi=>v.cells[i%v.cells.size]!)).toList:=by
 have key:∀ (j:Nat) (x:AV),((AI.repl z n).map AV.f)[j]? =af x->∃ u,z[j%sz]? =af u/\x=raw u/\j<n*sz:=by
  intro j x I;rw[ba] at I;have hj:j<n*z.length:=by
   rcases b7 j (n*z.length) with h|h
   .exact h
   .rw[bO (by rw[mA];exact h)] at I;cases I
  rw[BZ z n j hj,hl] at I;cases hu:z[j%sz]? with
  |none=>rw[hu] at I;cases I
  |some u=>rw[hu] at I;simp at I;exact⟨u,rfl,I.symm,by rw[<- hl];exact hj⟩
 refine ⟨by simp[mA,hl],λx I=>?_,λj x u I hu=>?_⟩
 .obtain⟨j,hj⟩:=eX I;obtain⟨u,h1,rfl,_⟩:=key j x hj;exact gi.1 hc u (a_ h1)
 .obtain⟨J,h1,rfl,hj⟩:=key j x I;rw[cF,Wx hv n sz hl hsz j hj,h1] at hu;cases hu;exact .f (.raw _)
theorem akf {t el:TypeId} {n sz:Nat} {ps:Array (Nat×Operand)} {z:List Value} {ps':List (Nat×Nat×Operand)} (Y:o.op= .buildSlice t n ps) (hu:P.underlying t=af (.slice el)) (hz:sF P el=af z) (hs:fh P el=af sz) (hc:mq z=ai) (hl:z.length=sz) (hsz:sz≠0) (hb:n*sz<=65536)
 (hps:wS P t ps.toList=af ps') (I:eH (.bsl el sz n z ps') e h nx=af R):gG P o e.get h.get R.eff:=by
 simp only[eH] at I;split at I
 .rename_i cs hf;simp only[ak] at I;subst I;refine gG.makes λφ E h' w a _ hp _=>?_
  obtain⟨v,h1,h2,_⟩:=s7 hz w;obtain⟨g1,g2⟩:=DG ps.toList ps' hps;have hops:∀ p∈ps.toList,p.2∈o.op.operands:=λp hp=>by
   rw[Y];simp only[Op.operands,List.mem_toArray,dh];exact⟨p,hp,rfl⟩
  have hmap:(ps.map λx:Nat×Operand=>(x.1,a.eval x.2)).toList=ps.toList.map λp=>(p.1,a.eval p.2):=by simp
  obtain⟨vs',k1,k2⟩:=NL (place:=λi=>af (i*sz,sz)) hp ps.toList ps' _ cs _ g1 (λj i x hj=>by
   obtain⟨of,s',Z,J⟩:=g2 j i x hj;unfold AW at J;rw[hu] at J;simp[hs] at J;obtain⟨rfl,rfl⟩:=J;exact⟨_,_,Z,rfl⟩) hops (Cs.repl h2 n sz hl hsz hc) hf
  have hcells:(xY (n*sz)).map ((if n*sz=0 then #[] else v.cells)[·%(if n*sz=0 then #[] else v.cells).size]!)=((xY (n*sz)).map (λi=>v.cells[i%v.cells.size]!)).toList.toArray:=by
   by_cases h0:n*sz=0
   .simp[h0]
   .rw[Array.toArray_toList];simp only[aC h0]
  have hlen:vs'.length=n*sz:=by
   have e1:=k2.1;have e2:cs.length=((AI.repl z n).map AV.f).length:=by
    have:∀ (ps':List (Nat×Nat×Operand)) (U M:List AV),yP U e ps'=af M->M.length=U.length:=by
     intro ps';induction ps' with
     |nil=>intro U M h;simp only[yP,ak] at h;rw[h]
     |cons p ps' ih=>
      intro U M h;obtain⟨of,s',x⟩:=p;simp only[yP] at h;split at h
      .split at h
       .rename_i hcc;simp only[av,cR] at hcc;rw[ih _ _ h,ol (by rw[hcc.1.1];exact a8 hcc.1.2)]
       .cases h
      .cases h
    exact this ps' _ _ hf
   rw[e1,e2];simp[mA,hl]
  refine ⟨.slice (af ⟨w.heap.size,0,ah⟩) n n,{w with heap:=w.heap.push (.cells vs'.toArray el)},.cells vs'.toArray el (0,0),?_,qM w _,HR k2,λφ' O hφ=>?_⟩
  .have h3:=gp hs w;have hk:Instr.fill (λi=>af (i*sz,sz)) ((xY (n*sz)).map ((if n*sz=0 then #[] else v.cells)[·%(if n*sz=0 then #[] else v.cells).size]!)) (ps.map λx:Nat×Operand=>(x.1,a.eval x.2)).toList=af vs'.toArray:=by
    rw[hcells,hmap];exact k1
   unfold execOp;rw[Y];simp only[Instr.buildSlice,eA,run_underlying hu,cG,h3];rw[aC (by omega)];by_cases h0:n*sz=0
   .simp only[aF h0] at hk ⊢;simp only[eA,oF,cG,hk,newRow,newObj,ng]
   .simp only[aC h0] at hk ⊢;simp only[eA,oF,cG,h1,hk,newRow,newObj,ng]
  .simp only[];split
   .rename_i h0;subst h0;exact .emp
   refine .row hφ (bV _) ?_ ⟨el,?_⟩
   .have:n<=n*sz:=Nat.le_mul_of_pos_right _ (by omega);unfold maxLen;omega
   .unfold rz;simp[hlen]
 .cases I
end
theorem qL.wren {φ:PM} {E:Nat->Prop} {h:HF} {w w':World} (r:qL φ E h w) {id nx k:Nat} {b b':wG} {ob:Obj} (hb:h id=af b) (hk:φ id=af k) (hnx:φ nx=ah) (U:EH w w' k ob) (hob:jq φ (tot E φ h) w b' ob) (nw:HF) (hnw:nw nx=af b') (hnid:nw id=ah):
 ∃ φ',φ' nx=af k/\iV φ φ' h (eL h [nx,id] nw) w w'/\(∀ i k,φ' i=af k->φ i=af k\/i∈[nx])/\qL φ' E (eL h [nx,id] nw) w':=by
 have hne:nx≠id:=λe=>by rw[e,hk] at hnx;cases hnx
 have hsub:∀ i x,eL h [nx,id] nw i=af x->i≠nx->h i=af x/\i≠id:=λi x Y hi=>by
  unfold eL at Y;by_cases hd:i=id
  .subst hd;simp[hnid] at Y
  .simp[hi,hd] at Y;exact⟨Y,hd⟩
 have hφ:∀ i,i≠nx->(if i=nx then af k else φ i)=φ i:=λi hi=>by simp[hi]
 have m:iV φ (λi=>if i=nx then af k else φ i) h (eL h [nx,id] nw) w w':=by
  refine ⟨λi k' M=>?_,⟨U.os,U.tape,U.output,by rw[U.size];exact bV _,λj hj ho=>?_,λj _=>U.shp j⟩,?_⟩
  .have:i≠nx:=λe=>by rw[e,hnx] at M;cases M
   rw[hφ i this];exact M
  .exact U.other j (λe=>ho (e▸⟨id,b,hb,hk⟩))
  .rintro j hj ⟨i,x,h1,h2⟩;by_cases hi:i=nx
   .simp[hi] at h2;subst h2;exact⟨id,b,hb,hk⟩
   .have Z:φ i=af j:=by simpa[hi] using h2
    exact⟨i,x,(hsub i x h1 hi).1,Z⟩
 refine ⟨_,by simp,m,λi k' M=>?_,⟨λi j x y kk hi hj h1 h2=>?_,λi x hi=>?_,λk hk=>dt (r.el k hk) m.ext.size,λg cells hg=>m.keepF (r.gl g cells hg)⟩⟩
 .by_cases hi:i=nx
  .right;simp[hi]
  .left;rw[hφ i hi] at M;exact M
 .by_cases I:i=nx
  .by_cases J:j=nx
   .rw[I,J]
   .exfalso;rw[hφ j J] at h2;simp[I] at h1;subst h1;obtain⟨q1,q2⟩:=hsub j y hj J;exact q2 (r.inj j id y b k q1 hb h2 hk)
  .rw[hφ i I] at h1;obtain⟨p1,p2⟩:=hsub i x hi I;by_cases J:j=nx
   .exfalso;simp[J] at h2;subst h2;exact p2 (r.inj i id x b k p1 hb h1 hk)
   .rw[hφ j J] at h2;exact r.inj i j x y kk p1 (hsub j y hj J).1 h1 h2
 .by_cases I:i=nx
  .subst I;have:x=b':=by unfold eL at hi;simp[hnw] at hi;exact hi.symm
   subst this;obtain⟨k',h1,h2,_⟩:=r.at_ id b hb;rw[hk] at h1;cases h1;exact⟨k,by simp,h2,ob,U.at_,hob.mono λ_ _ h=>m.keep h⟩
  .obtain⟨p1,p2⟩:=hsub i x hi I;obtain⟨k',h1,h2,ob',Z,h4⟩:=r.at_ i x p1;have hne':k'≠k:=λe=>p2 (r.inj i id x b k p1 hb (e▸h1) hk)
   exact⟨k',by rw[hφ i I];exact h1,h2,ob',by rw[U.other k' hne'];exact Z,h4.mono λ_ _ h=>m.keep h⟩
theorem qL.cs {φ:PM} {E:Nat->Prop} {h':HF} {w:World} (hrep:qL φ E h' w) {id k:Nat} {b:wG} (hb:h' id=af b) (hk:φ id=af k) (hc:b.c.isCells=ai):
 ∃ arr,w.heap[k]? =af (.cells arr b.ty (0,0))/\Cs φ (tot E φ h') w b.c.toMx (arr.toList.take b.c.toMx.length)/\b.c.toMx.length<=arr.size:=by
 obtain⟨k',h1,_,h2⟩:=hrep.at_ id b hb;rw[hk] at h1;cases h1;obtain⟨arr,Z,M,J⟩:=h2.cells hc;rw[BC.len_toMx hc] at M;refine ⟨arr,Z,⟨by simp;omega,λx I=>?_,λj x v I hv=>?_⟩,M⟩
 .obtain⟨j,hj⟩:=eX I;exact (J j x (by rw[BC.get_toMx hc];exact hj)).1
 .obtain⟨_,u,Y,U⟩:=J j x (by rw[BC.get_toMx hc];exact I);rw[cM] at hv;split at hv
  .rw[cF,Y] at hv;cases hv;exact U
  .cases hv
section
variable {P:Program} {o:Oper} {e:zo} {h:nQ} {nx:Nat} {R:BG}
theorem Mx {t:TypeId} {b:Nat} (hb:EA P t=af b):∃ i,P.info? t=af i/\i.bytes=b:=by
 unfold EA at hb;cases hi:P.info? t with
 |none=>rw[hi] at hb;cases hb
 |some i=>rw[hi] at hb;simp at hb;exact⟨i,rfl,hb⟩
theorem HE {n b:Nat} (h:bc n b=ai):n<=1099511627776/\n*b<=1099511627776:=by
 simp only[bc,av] at h;exact⟨a8 h.1,a8 h.2⟩
theorem Yv {n:Int} (h1: -9223372036854775808<=n) (h2:n<=9223372036854775807):oI .i64 n=n:=by
 rw[<- yg];have:(cV (-9223372036854775808) n&&cV n 9223372036854775807)=ai:=by simp[cV,h1,h2]
 simp only[G0,LC,this,bC]
theorem agt {t el:TypeId} {sz bytes:Nat} {z:List Value} {l c:Operand} (ho:o.op= .makeSlice t l c) (hu:P.underlying t=af (.slice el)) (hz:sF P el=af z) (hs:fh P el=af sz) (hb:EA P el=af bytes) (hc:mq z=ai) (hl:z.length=sz) (hsz:sz≠0)
 (J:eH (.mksl el sz bytes z l c) e h nx=af R):gG P o e.get h.get R.eff:=by
 simp only[eH] at J;split at J
 .rename_i k1 n k2 m I hy;split at J
  .rename_i hcd;simp only[cV,av,bP] at hcd;obtain⟨⟨h0,h1⟩,h2⟩:=hcd;obtain⟨r1,r2⟩:=HE h2;simp only[ak] at J;subst J;refine gG.makes λφ E h' w a _ hp _=>?_
   have e1:=fo (hp l _ (by rw[ho];simp[Op.operands]) I);have e2:=fo (hp c _ (by rw[ho];simp[Op.operands]) hy);obtain⟨v,z1,z2,_⟩:=s7 hz w;obtain⟨i,i1,i2⟩:=Mx hb;have s1:=gp hs w;have w1:oI .i64 n=n:=Yv (by omega) (by omega);have w2:oI .i64 m=m:=Yv (by omega) (by omega);have hbm:(bytes:Int)*m=((m.toNat*bytes:Nat):Int):=by
    rw[Int.natCast_mul,F8 (by omega),Int.mul_comm]
   have t1:¬(m<0\/(281474976710656:Int)<bytes*m):=by rw[hbm];omega
   have hr:¬(m.toNat*bytes>roomBytes):=by unfold roomBytes;omega
   have hn0:m.toNat*sz=0->m.toNat=0:=λh=>(Nat.mul_eq_zero.1 h).resolve_right hsz
   let cells:Array Value:=(xY (m.toNat*sz)).map (λi=>v.cells[i%v.cells.size]!)
   refine ⟨.slice (af ⟨w.heap.size,0,ah⟩) n.toNat m.toNat,{w with heap:=w.heap.push (.cells cells el)},.cells cells el (0,0),?_,qM w _,?_,λφ' O hφ=>?_⟩
   .unfold execOp;rw[ho];by_cases U:m.toNat*sz=0
    .obtain rfl:m=0:=by have:=hn0 U;omega
     obtain rfl:n=0:=by omega
     simp[Instr.makeSlice,run_underlying hu,e1,e2,asInt,asIntOf,typeInfo,i1,w1,askRoom,s1,newRow,newObj,ng,cells];rw[show xY 0=#[] from rfl];simp
    .simp[Instr.makeSlice,run_underlying hu,e1,e2,asInt,asIntOf,typeInfo,i1,i2,w1,w2,t1,show ¬n<0 by omega,show ¬m<n by omega,askRoom,hr,s1,U,z1,newRow,newObj,ng,cells]
   .have cs:=Cs.repl (φ:=φ) (O:=tot E φ h') (w:=w) z2 m.toNat sz hl hsz hc;have hle:n.toNat<=m.toNat:=by omega
    have hlen:n.toNat*sz<=m.toNat*sz:=cE _ hle;refine pO rfl (by simp[BC.toMx,mA,hl,cells];exact hlen) λj x I=>?_
    simp only[BC.toMx,ba] at I;have hj:j<n.toNat*z.length:=by
     rcases b7 j (n.toNat*z.length) with h|h
     .exact h
     .rw[bO (by rw[mA];exact h)] at I;cases I
    have Z:j<m.toNat*z.length:=by rw[hl] at hj ⊢;omega
    rw[BZ z _ j hj,<-BZ z m.toNat j Z] at I;have M:((repl z m.toNat).map AV.f)[j]? =af x:=by rw[ba];exact I
    have Y:j<cells.toList.length:=by simp[cells];rw[<- hl];exact Z
    exact⟨cs.2.1 x (a_ M),cells.toList[j],by rw[<- cF];exact aA Y,cs.2.2 j x _ M (aA Y)⟩
   .refine .row hφ (by omega) (by unfold maxLen;omega) ⟨el,?_⟩;unfold rz;simp[cells]
  .cases J
 .cases J
theorem adl {t:TypeId} {x y:Operand} {sz:Nat} (Y:o.op= .store t x y) (hs:fh P t=af sz) (I:eH (.store sz x y) e h nx=af R):gG P o e.get h.get R.eff:=by
 simp only[eH] at I;split at I
 .rename_i p v hx hy;unfold JX at I;split at I
  .rename_i id off;split at I
   .rename_i b hb;split at I
    .rename_i hl;split at I
     .rename_i c' hput;simp only[ak] at I;subst I;unfold BC.put at hput;split at hput
      .rename_i hcc;simp only[av] at hcc;obtain⟨⟨c1,c2⟩,c3⟩:=hcc;have c2:=a8 c2;have hl:v.cs.length=sz:=by simpa using hl
       have J:c'.toMx=splice b.c.toMx off v.cs/\c'.isCells=ai:=by
        split at hput
        .rename_i l ys hbl hys;simp only[ak] at hput;subst hput;refine ⟨?_,rfl⟩;have hv:=pA hys;rw[hv,hbl];simp only[BC.toMx];unfold splice;simp[kz,List.map_drop]
        .simp only[ak] at hput;subst hput;exact⟨rfl,rfl⟩
       refine gG.writes hb λφ E h' w a hrd Z hp hrep=>?_
       have hr:=T4 (hp y _ (by rw[Y];simp[Op.operands]) hy) c3;have hpx:=hp x _ (by rw[Y];simp[Op.operands]) hx;generalize hz:a.eval x=pv at hpx;cases hpx with
       |@ptr _ _ k hφ=>
        obtain⟨arr,g1,g2,g3⟩:=hrep.cs Z hφ c1;have hvl:(a.eval y).cells.toList.length=sz:=by rw[hr.1];exact hl
        rw[BC.len_toMx c1] at c2;have hst:=run_storeCells_at (P:=P) k off b.ty (a.eval y).cells.toList 0 arr w g1 (by rw[hvl];omega) hr.one
        let arr':Array Value:=(arr.toList.take off++(a.eval y).cells.toList++arr.toList.drop (off+sz)).toArray
        have hsize:arr'.size=arr.size:=by simp only[arr',sO,bu,bD,mr,ip,hvl];omega
        refine ⟨.skip,w.setRow k arr',k,.cells arr' b.ty (0,0),?_,hφ,EH.setRow g1 hsize,?_,undef,.inr ⟨rfl,rfl⟩,.f (.raw _)⟩
        .have s1:=gp hs w;have hvs:(a.eval y).cells.size=sz:=by simpa using hvl
         simp only[dg,hvl] at hst;unfold execOp;rw[Y];simp[Instr.storeAt,hz,Instr.sureAddr,storeVar,s1,hvs,hst,arr']
        .refine pO J.2 (by rw[J.1,ol (by omega),hsize];exact g3) λj q hq=>?_
         rw[J.1,my (by omega)] at hq;have ha':arr'[j]? =if j<off then arr.toList[j]? else if j<off+sz then (a.eval y).cells.toList[j-off]? else arr.toList[j]? :=by
          have:=my (l:=arr.toList) (vs:=(a.eval y).cells.toList) (off:=off) (by have:=hvl;simp only[ip] at this ⊢;omega) j;unfold splice at this;rw[hvl] at this;simp only[arr',kg];exact this
         have old:b.c.toMx[j]? =af q->q.isCell=ai/\∃ u,arr.toList[j]? =af u/\cI φ (tot E φ h') w q u:=λhq=>by
          have hj:j<b.c.toMx.length:=(bh.1 hq).1;have U:j<arr.toList.length:=by simp;omega
          refine ⟨g2.2.1 q (a_ hq),arr.toList[j],aA U,g2.2.2 j q _ hq ?_⟩;rw[cM,aF hj,aA U]
         rw[ha'];by_cases h1:j<off
         .rw[aF h1] at hq ⊢;exact old hq
         .rw[aC h1] at hq ⊢;by_cases h2:j<off+sz
          .rw[aF (by omega)] at hq;rw[aF h2];have M:j-off<(a.eval y).cells.toList.length:=by omega
           exact⟨hr.2.1 q (a_ hq),_,aA M,hr.2.2 _ q _ hq (aA M)⟩
          .rw[aC (by omega)] at hq;rw[aC h2];exact old hq
      .cases hput
     .cases I
    .cases I
   .cases I
  .cases I
 .cases I
end
section
variable {P:Program} {o:Oper} {e:zo} {h:nQ} {nx:Nat} {R:BG}
theorem ajx (A:Addr):A.add 0=A:=by cases A;simp[Addr.add]
theorem ajz {t el:TypeId} {sz:Nat} {x:Operand} {lo hi mx:Option Operand} (J:o.op= .slice t x lo hi mx) (hu:P.underlying t=af (.slice el)) (hs:fh P el=af sz) (I:eH (.slc sz x lo hi mx) e h nx=af R):gG P o e.get h.get R.eff:=by
 simp only[eH] at I;split at I
 .rename_i v Y;split at I
  ·
   rename_i k k';split at I
   .rename_i hsl;rw[dk I];refine gG.reads λφ E h' w a _ hp _=>?_
    have hr:=hp x _ (by rw[J];simp[Op.operands]) Y;have U:∃ A n c,a.eval x= .slice A n c:=by
     generalize a.eval x=z at hr;obtain⟨n,hn⟩:=iG.1 hsl;unfold AV.slen at hn;split at hn
     .cases hr with
      |f hr=>cases hr with
       |nil=>exact⟨_,_,_,rfl⟩
       |sl=>exact⟨_,_,_,rfl⟩
     .cases fo hr;exact⟨_,_,_,rfl⟩
     .cases hr;exact⟨_,_,_,rfl⟩
     .cases hr;exact⟨_,_,_,rfl⟩
     .cases hr;exact⟨_,_,_,rfl⟩
     .cases hn
    obtain⟨A,n,c,U⟩:=U;have s1:=gp hs w;refine ⟨.slice A 0 0,?_,.emp⟩;unfold execOp;rw[J];have z0:∀ k,a.eval (.const (.int k 0))= .int k 0:=λ_=>rfl
    simp[pj,uk,run_underlying hu,U,jK,ko,asIntOf,s1,z0]
   .cases I
  ·
   rename_i b;split at I
   .rename_i id sz' n k j hb;split at I
    .rename_i hc;simp only[cV,av,bP,cR] at hc;obtain⟨⟨rfl,h0⟩,h1⟩:=hc;split at I
     .rename_i blk hblk;split at I
      .rename_i hcl;simp only[av] at hcl;obtain⟨hcells,hlen⟩:=hcl;have hlen:=a8 hlen;rw[BC.len_toMx hcells] at hlen;simp only[ak] at I;subst I;intro φ E h' w a g1 g2 g3 hrep g5;have hp:UV φ E h' w a e o:=λx y Y M=>sZ hrep g3 Y M
       have hb':h' id=af blk:=by rw[g1 id (by simp[BG.eff])];exact hblk
       have hr:=hp x _ (by rw[J];simp[Op.operands]) Y;have hbv:=fo (hp b _ (by rw[J];simp[Op.operands]) hb);have hnx:φ nx=ah:=g5 nx (by simp[BG.eff]);generalize U:a.eval x=z at hr;cases hr with
       |@row _ _ _ c q hφ hn hcap hsh=>
        obtain⟨arr,a1,a2,a3⟩:=hrep.cs hb' hφ hcells;have s1:=gp hs w;have hne:nx≠id:=λe=>by rw[e,hφ] at hnx;cases hnx
        have hnw1:iZ [(nx,⟨blk.ty,pd (blk.c.toMx.take (j.toNat*sz'))⟩)] nx=af (⟨blk.ty,pd (blk.c.toMx.take (j.toNat*sz'))⟩:wG):=by simp[iZ]
        have hnw2:iZ [(nx,⟨blk.ty,pd (blk.c.toMx.take (j.toNat*sz'))⟩)] id=ah:=by
         simp only[iZ];rw[aC];intro hb;exact hne (aw hb)
        have a4:=a2.take (j.toNat*sz');obtain⟨φ',p1,p2,p3,p4⟩:=hrep.wren hb' hφ hnx (w':=w) ⟨rfl,rfl,rfl,rfl,a1,λ_ _=>rfl,λ_=>rfl⟩ (b':=⟨blk.ty,pd (blk.c.toMx.take (j.toNat*sz'))⟩) (by
         obtain⟨q1,q2⟩:=nF (blk.c.toMx.take (j.toNat*sz'));refine pO q2 (by rw[q1,bD];omega) λi x Y=>?_
         rw[q1] at Y;have hi:i<((arr.toList.take blk.c.toMx.length).take (j.toNat*sz')).length:=by rw[a4.1];exact (bh.1 Y).1
         refine ⟨a4.2.1 x (a_ Y),_,?_,a4.2.2 i x _ Y (aA hi)⟩;have hi':i<arr.size:=by simp at hi;omega
         simp[hi']) _ hnw1 hnw2
        have hrun:(execOp a.eval o).run P w= .ok (.value (.slice (af ⟨q,0,ah⟩) j.toNat c)) w:=by
         unfold execOp;rw[J];simp[pj,uk,run_underlying hu,U,jK,ko,asIntOf,s1,hbv,h0,show j<=c by omega,kS]
        unfold GW;rw[hrun];exact⟨_,φ',rfl,p2,p3,p4,.row p1 (by omega) hcap hsh⟩
      .cases I
     .cases I
    .cases I
   .rename_i cells n k j hb;split at I
    .rename_i hc;simp only[cV,av,bP] at hc;obtain⟨⟨h0,h1⟩,h2⟩:=hc;have h2:=a8 h2;rw[dk I];refine gG.reads λφ E h' w a _ hp _=>?_
     have hr:=hp x _ (by rw[J];simp[Op.operands]) Y;have hbv:=fo (hp b _ (by rw[J];simp[Op.operands]) hb);generalize U:a.eval x=z at hr;have s1:=gp hs w;cases hr with
     |f hr=>
      cases hr with
      |nil A c hc=>
       have hj:j=0:=by omega
       subst hj;refine ⟨.slice A 0 c,?_,by simpa using cI.f (.nil A c hc)⟩;unfold execOp;rw[J];cases A<;>simp[pj,uk,run_underlying hu,U,jK,ko,asIntOf,s1,hbv,ajx]
      |sl _ _ c q off us hn hc hO hq hcl Z hr=>
       refine ⟨.slice (af ⟨q,off,ah⟩) j.toNat c,?_,.f (.sl _ _ _ _ _ us (by omega) hc hO hq (λy M=>hcl y (gP M)) (λi hi=>Z i (by rw[bD] at hi;omega)) λi y M=>?_)⟩
       .unfold execOp;rw[J];simp[pj,uk,run_underlying hu,U,jK,ko,asIntOf,s1,hbv,h0,show j<=c by omega,kS]
       .rw[cM] at M;split at M
        .exact hr i y M
        .cases M
    .cases I
   .cases I
  ·
   rename_i b;split at I
   .rename_i id sz' n k j hb;split at I
    .rename_i hc;simp only[cV,fP,av,bP,cR] at hc;obtain⟨⟨rfl,h0⟩,h1⟩:=hc;rw[dk I];refine gG.reads λφ E h' w a _ hp _=>?_
     have hr:=hp x _ (by rw[J];simp[Op.operands]) Y;have hbv:=fo (hp b _ (by rw[J];simp[Op.operands]) hb);generalize U:a.eval x=z at hr;cases hr with
     |@row _ _ _ c q hφ hn hc hsh=>
      have s1:=gp hs w;refine ⟨.slice (af ⟨q,0+j.toNat*sz',ah⟩) (n-j.toNat) (c-j.toNat),?_,?_⟩
      .unfold execOp;rw[J];simp[pj,uk,run_underlying hu,U,jK,ko,asIntOf,s1,hbv,h0,show j<=n by omega,show ¬c=j.toNat by omega,kS]
      .rw[bN];exact .sl hφ (by omega) (by omega)
    .cases I
   .rename_i cells n k j hb;split at I
    .rename_i hc;simp only[cV,av,bP] at hc;obtain⟨⟨h0,h1⟩,h2⟩:=hc;have h2:=a8 h2;rw[dk I];refine gG.reads λφ E h' w a _ hp _=>?_
     have hr:=hp x _ (by rw[J];simp[Op.operands]) Y;have hbv:=fo (hp b _ (by rw[J];simp[Op.operands]) hb);generalize U:a.eval x=z at hr;have s1:=gp hs w;cases hr with
     |f hr=>
      cases hr with
      |nil A c hc=>
       have hj:j=0:=by omega
       subst hj;have hex:∃ A',(execOp a.eval o).run P w= .ok (.value (.slice A' 0 c)) w:=by
        unfold execOp;rw[J];cases A with
        |none=>exact⟨ah,by simp[pj,uk,run_underlying hu,U,jK,ko,asIntOf,s1,hbv]⟩
        |some A=>exact⟨af A,by simp[pj,uk,run_underlying hu,U,jK,ko,asIntOf,s1,hbv,ajx]⟩
       obtain⟨A',hex⟩:=hex;exact⟨.slice A' 0 c,hex,by simpa using cI.f (.nil A' c hc)⟩
      |sl _ _ c q off us hn hc hO hq hcl Z hr=>
       by_cases hcj:c=j.toNat
       .refine ⟨.slice (af ⟨q,off,ah⟩) 0 0,?_,?_⟩
        .unfold execOp;rw[J];simp[pj,uk,run_underlying hu,U,jK,ko,asIntOf,s1,hbv,h0,show j<=n by omega,hcj,show n-j.toNat=0 by omega,kS]
        .rw[show n-j.toNat=0 by omega];simpa using cI.f (.nil (af ⟨q,off,ah⟩) 0 (by unfold maxLen;omega))
       .refine ⟨.slice (af ⟨q,off+j.toNat*sz,ah⟩) (n-j.toNat) (c-j.toNat),?_,.f (.sl _ _ _ _ _ (λi=>us (j.toNat*sz+i)) (by omega) (by omega) hO hq (λy M=>hcl y (List.mem_of_mem_drop (gP M))) (λi hi=>?_) λi y M=>?_)⟩
        .unfold execOp;rw[J];simp[pj,uk,run_underlying hu,U,jK,ko,asIntOf,s1,hbv,h0,show j<=n by omega,hcj,kS]
        .rw[sg];refine Z _ ?_;rw[bD,mr] at hi;omega
        .rw[cM] at M;split at M
         .rw[gQ] at M;exact hr _ y M
         .cases M
    .cases I
   .cases I
  .cases I
 .cases I
theorem YO {sz:Nat} {x:AV} {src:List AV} {m:Nat} {rd:List Nat} (hrow:x.row? h sz=af (src,m,rd)) {φ:PM} {E:Nat->Prop} {h':HF} {w:World} (hrd:∀ i∈rd,h' i=h.get i) (hrep:qL φ E h' w) {v:Value} (hr:cI φ (tot E φ h') w x v):
 ∃ A c vs,v= .slice A m c/\Cs φ (tot E φ h') w src vs/\vs.length=m*sz/\(A=ah->vs=[])/\(∀ J,A=af J->∀ (j:Nat) u,vs[j]? =af u->w.cell? (J.add j)=af u):=by
 have emp:∀ A c,v= .slice A 0 c->src=[]->m=0->∃ A c vs,v= .slice A m c/\Cs φ (tot E φ h') w src vs/\vs.length=m*sz/\(A=ah->vs=[])/\(∀ J,A=af J->∀ (j:Nat) u,vs[j]? =af u->w.cell? (J.add j)=af u):=by
  rintro A c rfl rfl rfl;exact⟨A,c,[],rfl,⟨rfl,(by intro x I;cases I),(by intro j x v I;simp at I)⟩,by simp,λ_=>rfl,by intro J _ j u hu;simp at hu⟩
 have own:∀ (id off n c k:Nat) (b:wG),φ id=af k->h' id=af b->b.c.isCells=ai->off+n*sz<=b.c.len->v= .slice (af ⟨k,off,ah⟩) n c->src=(b.c.toMx.drop off).take (n*sz)->m=n->
  ∃ A c vs,v= .slice A m c/\Cs φ (tot E φ h') w src vs/\vs.length=m*sz/\(A=ah->vs=[])/\(∀ J,A=af J->∀ (j:Nat) u,vs[j]? =af u->w.cell? (J.add j)=af u):=by
  rintro id off n c k b hφ hb hc hle rfl rfl rfl;obtain⟨arr,g1,Z,g3⟩:=hrep.cs hb hφ hc;rw[BC.len_toMx hc] at hle;refine ⟨_,c,((arr.toList.take b.c.toMx.length).drop off).take (m*sz),rfl,(Z.drop off).take _,?_,(λh=>by cases h),?_⟩
  .simp;omega
  .intro J had j u hu;cases had;rw[kS];rw[cM] at hu;split at hu
   .rw[gQ,cM] at hu;split at hu
    .rw[cF] at hu;simp[ML,g1,hu]
    .cases hu
   .cases hu
 unfold AV.row? at hrow;split at hrow
 .rename_i cells n;split at hrow
  .rename_i hle;have hle:=a8 hle;simp only[ak,aD] at hrow;obtain⟨rfl,rfl,rfl⟩:=hrow;cases hr with
   |f hr=>
    cases hr with
    |nil a c hc=>exact emp a c rfl (by simp) rfl
    |sl _ _ c b off us hn hc hO hb hcl hu hr=>
     refine ⟨_,c,(eS (n*sz)).map us,rfl,⟨by simp;omega,λx I=>?_,λj x u I M=>?_⟩,by simp,(λh=>by cases h),?_⟩
     .obtain⟨y,Y,rfl⟩:=dh.1 I;exact hcl y (gP Y)
     .obtain⟨rfl,hj⟩:=xd us _ _ _ M;rw[ba,cM,aF hj] at I;cases hq:cells[j]? with
      |none=>rw[hq] at I;cases I
      |some q=>rw[hq] at I;simp at I;subst I;exact .f (hr j q hq)
     .intro J had j u M;cases had;obtain⟨rfl,hj⟩:=xd us _ _ _ M;rw[kS];exact hu j (by omega)
  .cases hrow
 .simp only[ak,aD] at hrow;obtain⟨rfl,rfl,rfl⟩:=hrow;exact emp ah 0 (fo hr) rfl rfl
 .simp only[ak,aD] at hrow;obtain⟨rfl,rfl,rfl⟩:=hrow;cases hr with
  |@emp a=>exact emp a 0 rfl rfl rfl
 .rename_i id sz' n;split at hrow
  .rename_i hsz;split at hrow
   .rename_i b hb;split at hrow
    .rename_i hc;simp only[av] at hc;simp only[ak,aD] at hrow;obtain⟨rfl,rfl,rfl⟩:=hrow;cases hr with
     |@row _ _ _ c k hφ hn U hsh=>
      exact own id 0 n c k b hφ (by rw[hrd id (by simp)];exact hb) hc.1 (by rw[bN];exact a8 hc.2) rfl (by simp) rfl
    .cases hrow
   .cases hrow
  .cases hrow
 .rename_i id off n;split at hrow
  .rename_i b hb;split at hrow
   .rename_i hc;simp only[av] at hc;simp only[ak,aD] at hrow;obtain⟨rfl,rfl,rfl⟩:=hrow;cases hr with
    |@sl _ _ _ c k hφ hn U=>exact own id off n c k b hφ (by rw[hrd id (by simp)];exact hb) hc.1 (a8 hc.2) rfl rfl rfl
   .cases hrow
  .cases hrow
 .cases hrow
theorem abl {sz:Nat} {x:AV} {src:List AV} {m:Nat} {rd:List Nat} (hrow:x.row? h sz=af (src,m,rd)) {φ:PM} {E:Nat->Prop} {h':HF} {w:World} (hrd:∀ i∈rd,h' i=h.get i) (hrep:qL φ E h' w) {v:Value} (hr:cI φ (tot E φ h') w x v) {I el:TypeId} (hk:P.underlying I=af (.slice el)):
 ∃ vs,Src P sz I v m vs w/\Cs φ (tot E φ h') w src vs:=by
 obtain⟨A,c,vs,rfl,h1,h2,U,M⟩:=YO hrow hrd hrep hr;refine ⟨vs,?_,h1⟩;cases A with
 |none=>
  have:=U rfl;subst this;have hm:m*sz=0:=by simpa using h2.symm
  refine ⟨.inl ⟨el,hk⟩,λ_=>rfl,run_firstCells_none w sz m m c,run_firstCells_none w.drew sz m m c,by simp[hm],λ_ h=>by cases h⟩
 |some J=>exact Src.ofSlice w hk J m c vs h2 (M J rfl) h1.one
theorem ag0 {x:Nat}:∀ {l:List Nat},WR x l=ai↔x∈l
 |[]=>by simp[WR]
 |y::r=>by
  simp only[WR,iP,ag0 (l:=r),bi];constructor
  .rintro (h|h)
   .exact .inl (aw h).symm
   .exact .inr h
  .rintro (h|h)
   .subst h;exact .inl (rA x)
   .exact .inr h
theorem agz {t u el el':TypeId} {d x:Operand} {sz:Nat} (ho:o.op= .call {callee:=.builtin .copy,args:=#[d,x],argTypes:=#[t,u]}) (hu:P.underlying t=af (.slice el)) (hu':P.underlying u=af (.slice el')) (hs:fh P el=af sz) (J:eH (.copy sz d x) e h nx=af R):gG P o e.get h.get R.eff:=by
 simp only[eH] at J;split at J
 .rename_i id sz' n y hd hx;split at J
  .rename_i blk src m rd hblk hrow;split at J
   .rename_i hc;simp only[av,cR,ec] at hc;obtain⟨⟨rfl,hmem⟩,hlen⟩:=hc;split at J
    .rename_i c' hput;simp only[ak] at J;subst J;unfold BC.put at hput;split at hput
     .rename_i hcc;simp only[av] at hcc;obtain⟨⟨c1,Z⟩,c3⟩:=hcc;have Z:=a8 Z;rw[bN] at Z;have M:c'.toMx=splice blk.c.toMx 0 (src.take (iN m n*sz'))/\c'.isCells=ai:=by
       split at hput
       .rename_i l ys hbl hys;simp only[ak] at hput;subst hput;refine ⟨?_,rfl⟩;have hv:=pA hys;rw[hv,hbl];simp only[BC.toMx];unfold splice;simp[kz,List.map_drop]
       .simp only[ak] at hput;subst hput;exact⟨rfl,rfl⟩
      refine gG.writes hblk λφ E h' w a hrd hb' hp hrep=>?_
      have hpd:=hp d _ (by rw[ho];simp[Op.operands,eK]) hd;have hpx:=hp x _ (by rw[ho];simp[Op.operands,eK]) hx;obtain⟨A,c,vs,hv,q1,q2,q3,q4⟩:=YO hrow (λi hi=>hrd i (by simp[hi])) hrep hpx;generalize hz:a.eval d=pv at hpd;cases hpd with
      |@row _ _ _ cap k hφ hn hcap hsh=>
       obtain⟨arr,g1,g2,g3⟩:=hrep.cs hb' hφ c1;rw[BC.len_toMx c1] at Z;have hmn:iN m n<=m:=Nat.min_le_left _ _;have hle:iN m n*sz'<=m*sz':=cE _ hmn
       let I:=vs.take (iN m n*sz')
       have hnl:I.length=iN m n*sz':=by simp only[I,bD,q2];omega
       have hsl:(src.take (iN m n*sz')).length=iN m n*sz':=by rw[bD,<-q1.1,q2];omega
       have csn:=q1.take (iN m n*sz');rw[hsl] at Z;have hst:=run_storeCells_at (P:=P) k 0 blk.ty I 0 arr w g1 (by rw[hnl];omega) csn.one
       let arr':Array Value:=(arr.toList.take 0++I++arr.toList.drop (0+iN m n*sz')).toArray
       have hsize:arr'.size=arr.size:=by simp only[arr',sO,bu,bD,mr,ip,hnl];omega
       have hfc:(Km sz' (iN m n) (.slice A m c)).run P w= .ok I.toArray w:=by
        cases A with
        |none=>
         have:I=[]:=by simp[I,q3 rfl]
         rw[this];exact run_firstCells_none w sz' _ _ _
        |some ad=>exact run_firstCells_some w sz' _ ad m c I hnl (λj u hu=>q4 ad rfl j u (by
          simp only[I,cM] at hu;split at hu
          .exact hu
          .cases hu))
       refine ⟨.value (.int .i64 (iN m n)),w.setRow k arr',k,.cells arr' blk.ty (0,0),?_,hφ,EH.setRow g1 hsize,?_,_,.inl rfl,.f (.raw _)⟩
       .have s1:=gp hs w;simp only[dg,hnl] at hst;unfold execOp;rw[ho];simp[resolve,invoke,builtin,Builtin.copy_,run_underlying hu,hz,hv,Builtin.lenOf,s1,hfc,hst,goInt,arr']
       .refine pO M.2 (by rw[M.1,ol (by rw[hsl];omega),hsize];exact g3) λj q hq=>?_
        rw[M.1,my (by rw[hsl];omega)] at hq;have ha':arr'[j]? =if j<0 then arr.toList[j]? else if j<0+I.length then I[j-0]? else arr.toList[j]? :=by
         have:=my (l:=arr.toList) (vs:=I) (off:=0) (by simp only[ip];omega) j;unfold splice at this;simp only[arr',kg];rw[<- this,hnl]
        rw[ha',aC (by omega)];rw[aC (by omega),hsl] at hq;rw[hnl];by_cases h2:j<0+iN m n*sz'
        .rw[aF h2] at hq ⊢;have U:j-0<I.length:=by rw[hnl];omega
         exact⟨csn.2.1 q (a_ hq),_,aA U,csn.2.2 _ q _ hq (aA U)⟩
        .rw[aC h2] at hq ⊢;have hj:j<blk.c.toMx.length:=(bh.1 hq).1;have Y:j<arr.toList.length:=by simp;omega
         refine ⟨g2.2.1 q (a_ hq),arr.toList[j],aA Y,g2.2.2 j q _ hq ?_⟩;rw[cM,aF hj,aA Y]
     .cases hput
    .cases J
   .cases J
  .cases J
 .cases J
theorem ake {t el:TypeId} {sz:Nat} {z:List Value} {x:Operand} (ho:o.op= .call {callee:=.builtin .clear,args:=#[x],argTypes:=#[t]}) (hu:P.underlying t=af (.slice el)) (hz:sF P el=af z) (hc:mq z=ai) (hl:z.length=sz) (hsz:sz≠0) (J:eH (.clr sz z x) e h nx=af R):gG P o e.get h.get R.eff:=by
 simp only[eH] at J;split at J
 .rename_i id off n hx;split at J
  .rename_i blk hblk;split at J
   .rename_i hn;have hn:=a8 hn;obtain⟨m,rfl⟩:∃ m,n=m+1:=⟨n-1,by omega⟩
    split at J
    .rename_i c' hput;simp only[ak] at J;subst J;unfold BC.put at hput;split at hput
     .rename_i hcc;simp only[av] at hcc;obtain⟨⟨c1,c2⟩,c3⟩:=hcc;have c2:=a8 c2;have hsrc:((repl z (m+1)).map AV.f).length=(m+1)*sz:=by rw[bY,mA,hl]
      rw[hsrc] at c2;have U:c'.toMx=splice blk.c.toMx off ((repl z (m+1)).map AV.f)/\c'.isCells=ai:=by
       split at hput
       .rename_i l ys hbl hys;simp only[ak] at hput;subst hput;refine ⟨?_,rfl⟩;have hv:=pA hys;rw[hv,hbl];simp only[BC.toMx];unfold splice;simp[kz,List.map_drop]
       .simp only[ak] at hput;subst hput;exact⟨rfl,rfl⟩
      refine gG.writes hblk λφ E h' w a hrd hb' hp hrep=>?_
      have hpx:=hp x _ (by rw[ho];simp[Op.operands,eK]) hx;generalize hzv:a.eval x=pv at hpx;cases hpx with
      |@sl _ _ _ cap k hφ hn2 hcap=>
       obtain⟨arr,g1,Z,g3⟩:=hrep.cs hb' hφ c1;rw[BC.len_toMx c1] at c2;obtain⟨v,z1,z2,_⟩:=s7 hz w;have csn:=Cs.repl (φ:=φ) (O:=tot E φ h') (w:=w) z2 (m+1) sz hl hsz hc
       let M:=(lh v.cells (m+1)).toList
       have hvs:v.cells.size=sz:=by rw[<- hl,<-z2];simp
       have hns:M=((xY ((m+1)*sz)).map (λi=>v.cells[i%v.cells.size]!)).toList:=by simp only[M,lh,hvs]
       have hnl:M.length=(m+1)*sz:=by rw[hns];simp
       rw[<- hns] at csn;have hst:=run_storeCells_at (P:=P) k off blk.ty M 0 arr w g1 (by rw[hnl];omega) csn.one
       let arr':Array Value:=(arr.toList.take (off+0)++M++arr.toList.drop (off+0+M.length)).toArray
       have hsize:arr'.size=arr.size:=by simp only[arr',sO,bu,bD,mr,ip,hnl];omega
       refine ⟨.value (.tuple #[]),w.setRow k arr',k,.cells arr' blk.ty (0,0),?_,hφ,EH.setRow g1 hsize,?_,_,.inl rfl,.tup (vs:=[]) rfl λj y v hy=>by simp at hy⟩
       .unfold execOp;rw[ho];have hst2:(storeCells ⟨k,off,ah⟩ (lh v.cells (m+1)).toList).run P w= .ok () (w.setRow k arr'):=hst;simp[resolve,invoke,builtin,Builtin.clear_,run_underlying hu,hzv,z1,hst2]
       .refine pO U.2 (by rw[U.1,ol (by rw[hsrc];omega),hsize];exact g3) λj q hq=>?_
        rw[U.1,my (by rw[hsrc];omega)] at hq;have ha':arr'[j]? =if j<off then arr.toList[j]? else if j<off+M.length then M[j-off]? else arr.toList[j]? :=by
         have:=my (l:=arr.toList) (vs:=M) (off:=off) (by simp only[ip];omega) j;unfold splice at this;simp only[arr',kg,dg];rw[<- this]
        rw[ha'];rw[hsrc] at hq;rw[hnl];by_cases h1:j<off
        .rw[aF h1] at hq ⊢;have hj:j<blk.c.toMx.length:=(bh.1 hq).1;have I:j<arr.toList.length:=by simp;omega
         refine ⟨Z.2.1 q (a_ hq),arr.toList[j],aA I,Z.2.2 j q _ hq ?_⟩;rw[cM,aF hj,aA I]
        rw[aC h1] at hq ⊢;by_cases h2:j<off+(m+1)*sz
        .rw[aF h2] at hq ⊢;have Y:j-off<M.length:=by rw[hnl];omega
         exact⟨csn.2.1 q (a_ hq),_,aA Y,csn.2.2 _ q _ hq (aA Y)⟩
        .rw[aC h2] at hq ⊢;have hj:j<blk.c.toMx.length:=(bh.1 hq).1;have I:j<arr.toList.length:=by simp;omega
         refine ⟨Z.2.1 q (a_ hq),arr.toList[j],aA I,Z.2.2 j q _ hq ?_⟩;rw[cM,aF hj,aA I]
     .cases hput
    .cases J
   .cases J
  .cases J
 .cases J
end
theorem LD (w:World) (ob:Obj):RN w (w.drew.alloc ob) ob:=RN.drawn (w.drawn+1) (qM {w with drawn:=w.drawn+1} ob)
section
variable {P:Program} {o:Oper} {e:zo} {h:nQ} {nx:Nat} {R:BG}
theorem Hm {v:Value} {z:List Value} {sz:Nat} (hv:v.cells.toList=z) (hl:z.length=sz) (n:Nat):(lh v.cells n).size=n*sz:=by
 have:v.cells.size=sz:=by rw[<- hl,<-hv];simp
 simp[lh,this]
theorem RF {t u el:TypeId} {s x:Operand} {i:TypeInfo} {z:List Value} (ho:o.op= .call {callee:=.builtin .append,args:=#[s,x],argTypes:=#[t,u]}) (hu:P.underlying t=af (.slice el)) (U:P.info? el=af i) (hz:sF P el=af z) (hzl:z.length=i.size)
 {φ:PM} {E:Nat->Prop} {h':HF} {w:World} {a:Act} (hrep:qL φ E h' w) (hnx:φ nx=ah) {A:Option Addr} {n cap m:Nat} {olds vs:List Value} {oldA src:List AV} (hsl:a.eval s= .slice A n cap)
 (hold:(Km i.size n (.slice A n cap)).run P w.drew= .ok olds.toArray w.drew) (csold:Cs φ (tot E φ h') w oldA olds) (hol:olds.length=n*i.size) (hsrc:Src P i.size u (a.eval x) m vs w) (hcs:Cs φ (tot E φ h') w src vs)
 (hg:cap<n+m) (r1:n+m<=1099511627776) (r2:(n+m)*i.bytes<=1099511627776) (del:List Nat) (hdel:∀ j∈del,j≠nx):
 o.wp P a w (λa' w'=>∃ v φ',a'=a.put o.dst v/\iV φ φ' h' (eL h' (nx::del) (iZ [(nx,⟨el,pd (oldA++src)⟩)])) w w'/\(∀ i k,φ' i=af k->φ i=af k\/i∈[nx])/\
  qL φ' E (eL h' (nx::del) (iZ [(nx,⟨el,pd (oldA++src)⟩)])) w'/\cI φ' (tot E φ' (eL h' (nx::del) (iZ [(nx,⟨el,pd (oldA++src)⟩)]))) w' (.row nx i.size (n+m)) v) (λ_ _ _=>False):=by
 obtain⟨J,z1,Z,i',I,Y⟩:=s7 hz w;rw[U] at I;cases I;have hfb:=growslice_fits (need:=n+m) (old:=cap) (bytes:=i.bytes) hg (by omega);have hrun:=run_append_grow_src w t u o.type el i J hu U Y A n cap olds hold (a.eval x) m vs hsrc hg (by omega) hfb;have hgc:=grownCap_ge w (n+m) cap el;have hgm:=grownCap_le_maxLen w (n+m) cap el (by unfold maxLen;omega);generalize grownCap w (n+m) cap el=Gc at hrun hgc hgm;have cs:=csold.append hcs;have hnl:=hsrc.newsLen;obtain⟨φ',p1,p2,p3,p4⟩:=hrep.wnew hnx (LD w _) (b:=⟨el,pd (oldA++src)⟩) (ob:=.cells ((olds++vs).toArray++lh J.cells (Gc-(n+m))) el (0,0)) (by
  obtain⟨M,q2⟩:=nF (oldA++src);refine pO q2 (by rw[M,<-cs.1];simp) λj q hq=>?_
  rw[M] at hq;have hj:j<(olds++vs).length:=by rw[cs.1];exact (bh.1 hq).1
  refine ⟨cs.2.1 q (a_ hq),_,?_,cs.2.2 j q _ hq (aA hj)⟩;rw[Array.getElem?_append_left (by simpa using hj),kg,aA hj]) del (iZ [(nx,⟨el,pd (oldA++src)⟩)]) (by simp[iZ]) (λj hj hne=>by
   simp only[iZ];rw[aC];intro hb;exact hne (aw hb).symm)
 have hexec:(execOp a.eval o).run P w= .ok (.value (.slice (af ⟨w.heap.size,0,ah⟩) (n+m) Gc)) (w.drew.alloc (.cells ((olds++vs).toArray++lh J.cells (Gc-(n+m))) el)):=by
  unfold execOp;rw[ho];simp only[resolve,invoke,builtin,eA,oF,cG,List.map_toArray,gg,List.map_nil,hsl,hrun]
 unfold GW;rw[hexec];refine ⟨_,φ',rfl,p2,p3,p4,.row p1 hgc hgm ⟨el,?_⟩⟩;have:=(LD w (.cells ((olds++vs).toArray++lh J.cells (Gc-(n+m))) el (0,0))).at_;unfold rz;rw[this];have hzs:=Hm Z hzl (Gc-(n+m));have e1:(n+m)*i.size+(Gc-(n+m))*i.size=Gc*i.size:=by rw[<- MO];congr 1;omega
 simp only[Array.size_append,sO,bu,hol,hnl,hzs];congr 2;rw[<- e1,MO]
theorem akh {t u el el':TypeId} {s x:Operand} {sz bytes:Nat} {z:List Value} (U:o.op= .call {callee:=.builtin .append,args:=#[s,x],argTypes:=#[t,u]}) (hu:P.underlying t=af (.slice el)) (hu':P.underlying u=af (.slice el')) (hs:fh P el=af sz) (hb:EA P el=af bytes) (hz:sF P el=af z) (hzl:z.length=sz) (hsz:sz≠0)
 (I:eH (.app el sz bytes s x) e h nx=af R):gG P o e.get h.get R.eff:=by
 obtain⟨i,Y,i2⟩:=Mx hb;have i3:i.size=sz:=by unfold fh at hs;rw[Y] at hs;simpa using hs
 subst i2;subst i3;simp only[eH] at I;split at I
 .rename_i bv y hsv M;split at I
  .rename_i src m rd hrow;have common:∀ {φ:PM} {E:Nat->Prop} {h':HF} {w:World} {a:Act},(∀ i∈rd,h' i=h.get i)->UV φ E h' w a e o->qL φ E h' w->∃ vs,Src P i.size u (a.eval x) m vs w/\Cs φ (tot E φ h') w src vs:=
    λhrd hp hrep=>abl hrow hrd hrep (hp x _ (by rw[U];simp[Op.operands,eK]) M) hu'
   have exec:∀ {w w':World} {a:Act} {v:Value},(Builtin.append_ #[t,u] o.type #[a.eval s,a.eval x]).run P w= .ok v w'->(execOp a.eval o).run P w= .ok (.value v) w':=by
    intro w w' a v hrun;unfold execOp;rw[U];simp[resolve,invoke,builtin,hrun]
   split at I
   .rename_i id sz' n;split at I
    .rename_i blk hblk;split at I
     .rename_i hc;simp only[av,cR,ec] at hc;obtain⟨⟨⟨⟨⟨rfl,hmem⟩,hcells⟩,hlen⟩,hty⟩,hroom⟩:=hc;have hlen:=a8 hlen;rw[BC.len_toMx hcells] at hlen;obtain⟨r1,r2⟩:=HE hroom;simp only[ak] at I;subst I;subst hty;intro φ E h' w a h1 h2 h3 hrep h5;have hp:UV φ E h' w a e o:=λx y M hy=>sZ hrep h3 M hy
      have hb':h' id=af blk:=by rw[h1 id (by simp[BG.eff])];exact hblk
      obtain⟨vs,hsrc,hcs⟩:=common (λi hi=>h1 i (by simp[BG.eff,hi])) hp hrep;have hpd:=hp s _ (by rw[U];simp[Op.operands,eK]) hsv;have hnx:φ nx=ah:=h5 nx (by simp[BG.eff]);have hwv:=hp s _ (by rw[U];simp[Op.operands,eK]) hsv;generalize hzv:a.eval s=pv at hpd;cases hpd with
      |@row _ _ _ cap k hφ hn hcap hsh=>
       obtain⟨arr,g1,g2,g3⟩:=hrep.cs hb' hφ hcells;have hne:nx≠id:=λe=>by rw[e,hφ] at hnx;cases hnx
       have harr:arr.size=cap*i.size:=by
        obtain⟨ty,hty⟩:=hsh;unfold rz at hty;rw[g1] at hty;simp at hty;exact hty.2
       have hnl:=hsrc.newsLen;have hnn:n*i.size<=arr.size:=by omega
       have csnew:Cs φ (tot E φ h') w (blk.c.toMx.take (n*i.size)++src) (arr.toList.take (n*i.size)++vs):=by
        have:=(g2.take (n*i.size)).append hcs
        rwa [List.take_take,sa hlen] at this
       have hnw1:iZ [(nx,⟨blk.ty,pd (blk.c.toMx.take (n*i.size)++src)⟩)] nx=af ⟨blk.ty,pd (blk.c.toMx.take (n*i.size)++src)⟩:=by simp[iZ]
       have hnw2:iZ [(nx,⟨blk.ty,pd (blk.c.toMx.take (n*i.size)++src)⟩)] id=ah:=by
        simp only[iZ];rw[aC];intro hb;exact hne (aw hb)
       by_cases hfit:n+m<=cap
       ·
        have hend:n*i.size+vs.length<=arr.size:=by
         rw[hnl,harr,<-MO];exact cE _ hfit
        have hst:=run_storeCells_at (P:=P) k (n*i.size) blk.ty vs 0 arr w g1 (by omega) hsrc.one;simp only[dg] at hst
        let arr':Array Value:=(arr.toList.take (n*i.size)++vs++arr.toList.drop (n*i.size+vs.length)).toArray
        have hsize:arr'.size=arr.size:=by simp only[arr',sO,bu,bD,mr,ip];omega
        have hrun:(Builtin.append_ #[t,u] o.type #[a.eval s,a.eval x]).run P w= .ok (.slice (af ⟨k,0,ah⟩) (n+m) cap) (w.setRow k arr'):=by
         rw[hzv];rcases hsrc.kind with ⟨e',hk⟩|hk<;>simp[Builtin.append_,run_underlying hu,run_underlying hk,sizeOf,typeInfo,Y,hsrc.len,hfit,hsrc.cells,kS,hst,arr']
        obtain⟨φ',p1,p2,p3,p4⟩:=hrep.wren hb' hφ hnx (EH.setRow g1 hsize) (b':=⟨blk.ty,pd (blk.c.toMx.take (n*i.size)++src)⟩) (by
         obtain⟨q1,q2⟩:=nF (blk.c.toMx.take (n*i.size)++src);refine pO q2 (by rw[q1,<-csnew.1,hsize];simp;omega) λj q hq=>?_
         rw[q1] at hq;have hj:j<(arr.toList.take (n*i.size)++vs).length:=by rw[csnew.1];exact (bh.1 hq).1
         refine ⟨csnew.2.1 q (a_ hq),_,?_,csnew.2.2 j q _ hq (aA hj)⟩;simp only[arr',kg];rw[bG hj,aA hj]) _ hnw1 hnw2
        unfold GW;rw[exec hrun];refine ⟨_,φ',rfl,p2,p3,p4,.row p1 hfit hcap ⟨blk.ty,?_⟩⟩;unfold rz;rw[setRow_heap w k arr arr' blk.ty (0,0) g1];simp[hsize,harr]
       ·
        have hold:(Km i.size n (.slice (af ⟨k,0,ah⟩) n cap)).run P w.drew= .ok (arr.toList.take (n*i.size)).toArray w.drew:=by
         refine run_firstCells_some w.drew i.size n _ n cap _ (by simp;omega) λj v hv=>?_
         rw[cM] at hv;split at hv
         .rw[cF] at hv;rw[kS,bN];have hcl:w.cell? ⟨k,j,ah⟩=af v:=by simp[ML,g1,hv]
          simpa using hcl
         .cases hv
        exact RF U hu Y hz hzl hrep hnx hzv hold (by
         have:=g2.take (n*i.size)
         rwa [List.take_take,sa hlen] at this) (by simp;omega) hsrc hcs (by omega) r1 r2 [id] (λj hj=>by simp at hj;subst hj;exact λe=>hne e.symm)
     .cases I
    .cases I
   .split at I
    .rename_i hc;simp only[av] at hc;obtain⟨J,hroom⟩:=hc;obtain⟨r1,r2⟩:=HE hroom;have hbase:∀ {φ:PM} {O:Nat->Prop} {w:World} {v:Value},cI φ O w bv v->∃ A,v= .slice A 0 0:=by
      intro φ O w v hr;unfold If at J;split at J
      .cases hr;exact⟨_,rfl⟩
      .rename_i q;cases fo hr;unfold zI at J;split at J
       .exact⟨_,rfl⟩
       .cases J
      .cases J
     split at I
     .rename_i hm;have hm:m=0:=by simpa using hm
      subst hm;simp only[ak] at I;subst I;refine gG.reads λφ E h' w a hrd hp hrep=>?_
      obtain⟨vs,hsrc,hcs⟩:=common hrd hp hrep;have hr:=hp s _ (by rw[U];simp[Op.operands,eK]) hsv;obtain⟨A,hA⟩:=hbase hr;refine ⟨a.eval s,exec ?_,hr⟩;rw[hA];have hvs:vs=[]:=by have:=hsrc.newsLen;simpa using this
      have Z:=hsrc.cells;rw[hvs] at Z;rcases hsrc.kind with ⟨e',hk⟩|hk<;>cases A<;>simp[Builtin.append_,run_underlying hu,run_underlying hk,sizeOf,typeInfo,Y,hsrc.len,Z,storeCells]
     .rename_i hm;have hm:m≠0:=by simpa using hm
      simp only[ak] at I;subst I;intro φ E h' w a h1 h2 h3 hrep h5;have hp:UV φ E h' w a e o:=λx y M hy=>sZ hrep h3 M hy
      obtain⟨vs,hsrc,hcs⟩:=common (λi hi=>h1 i hi) hp hrep;obtain⟨A,hA⟩:=hbase (hp s _ (by rw[U];simp[Op.operands,eK]) hsv);have hold:(Km i.size 0 (.slice A 0 0)).run P w.drew= .ok ([]:List Value).toArray w.drew:=by
       cases A with
       |none=>exact run_firstCells_none w.drew i.size 0 0 0
       |some ad=>exact run_firstCells_some w.drew i.size 0 ad 0 0 [] (by simp) (by intro j v hv;simp at hv)
      have:=RF (nx:=nx) (n:=0) (cap:=0) (olds:=[]) (oldA:=[]) U hu Y hz hzl hrep (h5 nx (by simp[BG.eff])) hA hold ⟨rfl,(by intro x M;cases M),(by intro j x v M;simp at M)⟩ (by simp) hsrc hcs (by omega) (by omega) (by simpa using r2) [] (by simp);simpa[BG.eff] using this
    .cases I
  .cases I
 .cases I
end
section
variable {P:Program} {o:Oper} {e:zo} {h:nQ} {nx:Nat} {R:BG}
theorem ak5 {t:TypeId} (M:o.op= .makeMap t ah) (I:eH .mkm e h nx=af R):gG P o e.get h.get R.eff:=by
 simp only[eH,ak] at I;subst I;refine gG.makes λφ E h' w a _ _ _=>?_
 refine ⟨.map (af w.heap.size),{w with heap:=w.heap.push (.map #[] 0)},.map #[] 0,?_,qM w _,⟨#[],0,rfl,rfl,by intro j x J;simp at J⟩,λφ' O hφ=>.mp hφ⟩;unfold execOp;rw[M];simp[Instr.makeMap,newObj,ng]
theorem ak0 {t:TypeId} {x:Operand} (J:o.op= .range t x) (hu:P.underlying t=af .string) (I:eH (.rng x) e h nx=af R):gG P o e.get h.get R.eff:=by
 simp only[eH] at I;split at I
 .rename_i s M;simp only[ak] at I;subst I;refine gG.makes λφ E h' w a _ hp _=>?_
  have hr:=fo (hp x _ (by rw[J];simp[Op.operands]) M);refine ⟨.pointer (af ⟨w.heap.size,0,ah⟩),{w with heap:=w.heap.push (.stringIter s 0)},.stringIter s 0,?_,qM w _,rfl,λφ' O hφ=>.ptr hφ⟩;unfold execOp;rw[J];simp[Instr.range,run_underlying hu,hr,newObj,ng]
 .cases I
theorem Ho {w:World} {k:Nat} {ob ob':Obj} (hk:w.heap[k]? =af ob) (h1:∀ c t f,ob≠ .cells c t f) (h2:∀ c t f,ob'≠ .cells c t f):EH w {w with heap:=w.heap.setIfInBounds k ob'} k ob':=by
 have hlt:k<w.heap.size:=(cC.1 hk).1;have hat:(w.heap.setIfInBounds k ob')[k]? =af ob':=by simp[hlt]
 have hot:∀ j,j≠k->(w.heap.setIfInBounds k ob')[j]? =w.heap[j]? :=λj hj=>pD (λe=>hj e.symm)
 refine ⟨rfl,rfl,rfl,by simp,hat,hot,λj=>?_⟩;unfold rz;by_cases hj:j=k
 .subst hj;simp only[hat,hk];cases ob<;>cases ob'<;>first|rfl|exact cU rfl (h1 _ _ _)|exact cU rfl (h2 _ _ _)
 .simp only[hot j hj]
theorem ak1 {x:Operand} (Z:o.op= .next x ai) (I:eH (.nxt x) e h nx=af R):gG P o e.get h.get R.eff:=by
 simp only[eH] at I;split at I
 .rename_i id hx;split at I
  .rename_i ty s p hid;split at I
   .rename_i b hb;split at I
    .rename_i hlt;have hlt:=a8 hlt;simp only[ak] at I;subst I;refine gG.writes hid λφ E h' w a hrd M hp hrep=>?_
     have hr:=hp x _ (by rw[Z];simp[Op.operands]) hx;generalize hz:a.eval x=z at hr;cases hr with
     |@ptr _ _ k hφ=>
      obtain⟨k',Y,_,ob,U,q3⟩:=hrep.at_ id _ M;rw[hφ] at Y;cases Y;have q3:ob= .stringIter s p:=q3;subst q3;have hps:p<s.size:=by
       have:=(bh.1 hb).1;simpa using this
      have hget:s.get! p=b:=by
       have:s.data[p]? =af b:=by rw[<- cF];exact hb
       have hpd:p<s.data.size:=(cC.1 this).1;have h2:s.data[p]! =s.data[p]:=getElem!_pos s.data p hpd;rw[ib hpd] at this;simp only[ByteArray.get!,h2];exact jP this
      have hdec:Utf8.decode s p=(b.toNat,1):=by
       unfold Utf8.decode;simp only[dg,hget];rw[aF (by omega)]
      refine ⟨.value (.tuple #[.bool ai,.int .i64 p,.int .i32 b.toNat]),_,k,.stringIter s (p+1),?_,hφ,Ho U (by simp) (by simp),rfl,_,.inl rfl,?_⟩
      .unfold execOp;rw[Z];simp[Instr.next,hz,getObj,ng,U,hps,hdec,setObj,goInt]
      .refine cI.tup (vs:=[.bool ai,.int .i64 p,.int .i32 b.toNat]) rfl λj y v J hv=>?_
       rcases j with _|_|_|j<;>simp at J hv
       .subst J;subst hv;exact .f (.raw _)
       .subst J;subst hv;exact .f (.raw _)
       .subst J;subst hv;exact .f (.raw _)
    .cases I
   .rename_i hb;simp only[ak] at I;subst I;refine gG.writes hid λφ E h' w a hrd M hp hrep=>?_
    have hr:=hp x _ (by rw[Z];simp[Op.operands]) hx;generalize hz:a.eval x=z at hr;cases hr with
    |@ptr _ _ k hφ=>
     obtain⟨k',Y,_,ob,U,q3⟩:=hrep.at_ id _ M;rw[hφ] at Y;cases Y;have q3:ob= .stringIter s p:=q3;subst q3;have hps:¬p<s.size:=by
      have:=List.getElem?_eq_none_iff.1 hb;have e:s.data.toList.length=s.size:=by simp
      omega
     refine ⟨.value (.tuple #[.bool aj]),w,k,.stringIter s p,?_,hφ,⟨rfl,rfl,rfl,rfl,U,λ_ _=>rfl,λ_=>rfl⟩,rfl,_,.inl rfl,?_⟩
     .unfold execOp;rw[Z];simp[Instr.next,hz,getObj,ng,U,hps]
     .refine cI.tup (vs:=[.bool aj]) rfl λj y v J hv=>?_
      rcases j with _|j<;>simp at J hv;subst J;subst hv;exact .f (.raw _)
  .cases I
 .cases I
theorem zk {a b:ByteArray}:rL a b=ai↔a=b:=by
 unfold rL;constructor
 .intro h;have h1:a.data.toList=b.data.toList:=by simpa using h
  cases a;cases b;congr 1;exact Kn h1
 .rintro rfl;simp
theorem Ez (a b:ByteArray):(a==b)=rL a b:=by
 have h1:(a==b)=(a.data==b.data):=rfl;rw[h1,Bool.eq_iff_iff,zk,cR];constructor
 .intro h;cases a;cases b;congr 1
 .rintro rfl;rfl
def kd (str:Bool) (d:TypeDesc):Prop:=if str then d= .string else ∃ k,d= .int k
theorem BX {str:Bool} {d:TypeDesc} (hd:kd str d) {k k':Value} (hk:yC str k=ai) {b:Bool} (hb:uu .eql k k'=af (.bool b)):Instr.sameNow d k k'=af b:=by
 unfold kd at hd;cases str with
 |true=>
  simp only[bC] at hd;subst hd;cases k<;>simp[yC] at hk;cases k'<;>simp only[uu] at hb<;>try (simp at hb;done)
  simp only[ak,BI] at hb;simp[Instr.sameNow,Ez,hb]
 |false=>
  simp only[ct,dV] at hd;obtain⟨q,rfl⟩:=hd;cases k<;>simp[yC] at hk;cases k'<;>simp only[uu] at hb<;>try (simp at hb;done)
  split at hb
  .rename_i hkk;have hkk':=eq_of_beq hkk;subst hkk';simp only[ak,BI] at hb;simp[Instr.sameNow,<-hb]
  .cases hb
theorem Qr {str:Bool} {d:TypeDesc} (hd:kd str d) {k:Value} (hk:yC str k=ai):∀ (es:List (Value×AV)) (ents:List MapEntry) (i:Nat),ents.map (·.key)=es.map (·.1)->∀ r,sT k es=af r->
 (r=ah/\jt d k ents i=af ah)\/∃ (j:Nat) (v:AV) (m:MapEntry) (k':Value),r=af v/\es[j]? =af (k',v)/\ents[j]? =af m/\jt d k ents i=af (af (i+j,m.val))/\uu .eql k k'=af (.bool ai)
 |[],ents,i,he,r,h=>by
  cases ents with
  |nil=>simp only[sT,ak] at h;exact .inl ⟨h.symm,rfl⟩
  |cons _ _=>simp at he
 |(k',v)::es,ents,i,he,r,h=>by
  cases ents with
  |nil=>simp at he
  |cons m ents=>
   simp only[gg,iO] at he;obtain⟨I,J⟩:=he;simp only[sT] at h;split at h
   .rename_i hb;simp only[ak] at h;refine .inr ⟨0,v,m,k',h.symm,rfl,rfl,?_,hb⟩;simp only[jt];rw[I,BX hd hk hb];rfl
   .rename_i hb;have hs:=BX hd hk hb;rcases Qr hd hk es ents (i+1) J r h with ⟨h1,h2⟩|⟨j,M,m',k'',h1,h2,Z,Y,U⟩
    .refine .inl ⟨h1,?_⟩;simp only[jt];rw[I,hs];exact h2
    .refine .inr ⟨j+1,M,m',k'',h1,by simpa using h2,by simpa using Z,?_,U⟩;simp only[jt];rw[I,hs];show jt d k ents (i+1)=_;rw[Y,show i+1+j=i+(j+1) from by omega]
   .cases h
theorem BY {I:TypeId} {str:Bool} {d:TypeDesc} (hu:P.underlying I=af d) (hd:kd str d) (b:Bool) (v:Value) (w:World):(Instr.checkKey b 10000 I v).run P w= .ok () w:=by
 have key:∀ n,(Instr.checkKey b (n+1) I v).run P w= .ok () w:=λn=>by
  unfold kd at hd;cases str with
  |true=>simp only[bC] at hd;subst hd;simp[Instr.checkKey,run_underlying hu]
  |false=>simp only[ct,dV] at hd;obtain⟨q,rfl⟩:=hd;simp[Instr.checkKey,run_underlying hu]
 exact key 9999
theorem YX {φ:PM} {O:Nat->Prop} {w:World} {ok b:Bool} {x:AV} {v:Value} (h:cI φ O w x v):cI φ O w (pkV ok x b) (if ok then .tuple #[v,.bool b] else v):=by
 cases ok with
 |false=>exact h
 |true=>
  refine cI.tup (vs:=[v,.bool b]) rfl λj y u I hv=>?_
  rcases j with _|_|j<;>simp at I hv
  .subst I;subst hv;exact h
  .subst I;subst hv;exact .f (.raw _)
theorem af5 {t kt el:TypeId} {x k:Operand} {str ok:Bool} {d:TypeDesc} {z:Value} (U:o.op= .lookup t x k ok) (hu:P.underlying t=af (.map kt el)) (hk:P.underlying kt=af d) (hd:kd str d) (M:(P.info? el).bind (·.zero)=af z) (I:eH (.lku str ok z x k) e h nx=af R):gG P o e.get h.get R.eff:=by
 simp only[eH] at I;split at I
 .rename_i id key hx hkx;split at I
  .rename_i ty es hid;split at I
   .rename_i hko;have fin:∀ val:AV,(∀ (φ:PM) (E:Nat->Prop) (h':HF) (w:World) (a:Act),h' id=af ⟨ty,.mp es⟩->UV φ E h' w a e o->qL φ E h' w->∃ v,(execOp a.eval o).run P w= .ok (.value v) w/\cI φ (tot E φ h') w val v)->R=⟨val,[id],[],[],[]⟩->gG P o e.get h.get R.eff:=by
     rintro val hv rfl;exact gG.reads λφ E h' w a hrd hp hrep=>hv φ E h' w a (by rw[hrd id (by simp)];exact hid) hp hrep
    have zrun:∀ w:World,(zeroValue el).run P w= .ok z w:=λw=>by
     cases hi:P.info? el with
     |none=>rw[hi] at M;cases M
     |some i=>rw[hi] at M;simp only[aH] at M;simp[zeroValue,typeInfo,hi,M]
    have main:∀ r,sT key es=af r->∀ (φ:PM) (E:Nat->Prop) (h':HF) (w:World) (a:Act),h' id=af ⟨ty,.mp es⟩->UV φ E h' w a e o->qL φ E h' w->
     ∃ v,(execOp a.eval o).run P w= .ok (.value v) w/\cI φ (tot E φ h') w (match r with|some v=>pkV ok v ai|none=>pkV ok (raw z) aj) v:=by
     intro r hr φ E h' w a Y hp hrep;have hrx:=hp x _ (by rw[U];simp[Op.operands]) hx;have hrk:=fo (hp k _ (by rw[U];simp[Op.operands]) hkx);generalize J:a.eval x=zz at hrx;cases hrx with
     |@mp _ b hφ=>
      obtain⟨k',q1,_,ob,Z,q3⟩:=hrep.at_ id _ Y;rw[hφ] at q1;cases q1;obtain⟨ents,clock,rfl,q4,q5⟩:=q3;have hck:=BY (P:=P) hk hd ents.isEmpty key w;rcases Qr hd hko es ents.toList 0 q4 r hr with ⟨h1,h2⟩|⟨j,v,m,k',h1,h2,h3,h4,_⟩
      .subst h1;refine ⟨_,?_,YX (.f (.raw z))⟩;unfold execOp;rw[U];cases ok<;>simp[Instr.lookup,run_underlying hu,J,hrk,getObj,ng,Z,hck,Instr.findKey,run_underlying hk,h2,zrun]
      .subst h1;obtain⟨m',h6,h7⟩:=q5 j _ h2;rw[cF] at h3;rw[h3] at h6;cases h6;refine ⟨_,?_,YX h7⟩;unfold execOp;rw[U];cases ok<;>simp[Instr.lookup,run_underlying hu,J,hrk,getObj,ng,Z,hck,Instr.findKey,run_underlying hk,h4]
    split at I
    .rename_i v hf;simp only[ak] at I;exact fin _ (main _ hf) I.symm
    .rename_i hf;simp only[ak] at I;exact fin _ (main _ hf) I.symm
    .cases I
   .cases I
  .cases I
 .cases I
theorem Vh {str:Bool} {d:TypeDesc} (hd:kd str d) {k:Value} (hk:yC str k=ai) {v:AV}:∀ (es es':List (Value×AV)) (ents:List MapEntry) (i:Nat),ents.map (·.key)=es.map (·.1)->yA k v es=af es'->
 (jt d k ents i=af ah/\es'=es++[(k,v)])\/∃ (j:Nat) (m:MapEntry) (k':Value) (J:AV),es[j]? =af (k',J)/\ents[j]? =af m/\jt d k ents i=af (af (i+j,m.val))/\uu .eql k k'=af (.bool ai)/\es'=es.set j (k,v)
 |[],es',ents,i,he,h=>by
  cases ents with
  |nil=>simp only[yA,ak] at h;exact .inl ⟨rfl,by simp[h]⟩
  |cons _ _=>simp at he
 |(k',J)::es,es',ents,i,he,h=>by
  cases ents with
  |nil=>simp at he
  |cons m ents=>
   simp only[gg,iO] at he;obtain⟨I,M⟩:=he;simp only[yA] at h;split at h
   .rename_i hb;simp only[ak] at h;refine .inr ⟨0,m,k',J,rfl,rfl,?_,hb,by simp[h]⟩;simp only[jt];rw[I,BX hd hk hb];rfl
   .rename_i hb;have hs:=BX hd hk hb;split at h
    .rename_i es2 hes2;simp only[ak] at h;subst h;rcases Vh hd hk es es2 ents (i+1) M hes2 with ⟨h1,h2⟩|⟨j,m',k'',v'',h1,h2,Z,Y,U⟩
     .refine .inl ⟨?_,by simp[h2]⟩;simp only[jt];rw[I,hs];exact h1
     .refine .inr ⟨j+1,m',k'',v'',by simpa using h1,by simpa using h2,?_,Y,by simp[U]⟩;simp only[jt];rw[I,hs];show jt d k ents (i+1)=_;rw[Z,show i+1+j=i+(j+1) from by omega]
    .cases h
   .cases h
theorem ZL {str:Bool} {k k':Value} (hk:yC str k=ai) (hb:uu .eql k k'=af (.bool ai)):Instr.sameBits 10000 k' k=ai/\k'=k:=by
 cases str with
 |true=>
  cases k<;>simp[yC] at hk;cases k'<;>simp only[uu] at hb<;>try (simp at hb;done)
  simp only[ak,BI] at hb;have:=zk.1 hb;subst this;exact⟨by simp[Instr.sameBits,Ez,hb],rfl⟩
 |false=>
  cases k<;>simp[yC] at hk;cases k'<;>simp only[uu] at hb<;>try (simp at hb;done)
  split at hb
  .rename_i hkk;have hkk':=eq_of_beq hkk;subst hkk';simp only[ak,BI,cR] at hb;subst hb;exact⟨by simp[Instr.sameBits],rfl⟩
  .cases hb
theorem af4 {t kt el:TypeId} {x k y:Operand} {str:Bool} {d:TypeDesc} (M:o.op= .mapUpdate t x k y) (hu:P.underlying t=af (.map kt el)) (hk:P.underlying kt=af d) (hd:kd str d) (I:eH (.mup str x k y) e h nx=af R):gG P o e.get h.get R.eff:=by
 simp only[eH] at I;split at I
 .rename_i id key v hx hkx hy;split at I
  .rename_i ty es hid;split at I
   .rename_i hko;split at I
    .rename_i es' hput;simp only[ak] at I;subst I;refine gG.writes hid λφ E h' w a hrd Z hp hrep=>?_
     have hrx:=hp x _ (by rw[M];simp[Op.operands]) hx;have hrk:=fo (hp k _ (by rw[M];simp[Op.operands]) hkx);have hry:=hp y _ (by rw[M];simp[Op.operands]) hy;generalize J:a.eval x=zz at hrx;cases hrx with
     |@mp _ b hφ=>
      obtain⟨k',q1,_,ob,U,q3⟩:=hrep.at_ id _ Z;rw[hφ] at q1;cases q1;obtain⟨ents,clock,rfl,q4,q5⟩:=q3;have hck:=BY (P:=P) hk hd aj key w;have hlen:ents.size=es.length:=by have:=gE al q4;simpa using this
      rcases Vh hd hko es es' ents.toList 0 q4 hput with ⟨h1,rfl⟩|⟨j,m,k',v',h1,h2,h3,h4,rfl⟩
      .refine ⟨.skip,_,b,.map (ents.push {key,val:=a.eval y,born:=clock}) (clock+1),?_,hφ,Ho U (by simp) (by simp),⟨_,_,rfl,by simp[q4],λj q hq=>?_⟩,undef,.inr ⟨rfl,rfl⟩,.f (.raw _)⟩
       .unfold execOp;rw[M];simp[Instr.mapUpdate,run_underlying hu,J,hrk,getObj,ng,U,hck,Instr.findKey,run_underlying hk,h1,setObj]
       .rcases b7 j es.length with hj|hj
        .rw[bG hj] at hq;obtain⟨m,g1,g2⟩:=q5 j q hq;exact⟨m,by rw[Array.getElem?_push,aC (by omega)];exact g1,g2⟩
        .rw[bT hj] at hq;have Y:j-es.length=0:=by
          rcases Kl (j-es.length) with h0|h0
          .exact h0
          .rw[bO (by simp;omega)] at hq;cases hq
         rw[Y] at hq;simp at hq;subst hq;exact⟨_,by rw[Array.getElem?_push,aF (by omega)],hry⟩
      .obtain⟨s1,s2⟩:=ZL hko h4;subst s2;rw[cF] at h2;rw[bN] at h3;have hjl:j<ents.size:=(cC.1 h2).1;have hmk:m.key=k':=by
        have e1:(ents.toList.map (·.key))[j]? =af m.key:=by rw[ba,cF,h2];rfl
        rw[q4,ba,h1] at e1;simpa using e1.symm
       refine ⟨.skip,_,b,.map (ents.modify j λe=>{e with key:=k',val:=a.eval y}) clock,?_,hφ,Ho U (by simp) (by simp),⟨_,_,rfl,?_,λi q hq=>?_⟩,undef,.inr ⟨rfl,rfl⟩,.f (.raw _)⟩
       .unfold execOp;rw[M];simp[Instr.mapUpdate,run_underlying hu,J,hrk,getObj,ng,U,hck,Instr.findKey,run_underlying hk,h3,setObj,h2,hmk,Instr.keyThatStays,s1]
       .apply List.ext_getElem?;intro i;simp only[ba,cF,oH,Array.getElem?_modify];have e2:∀ i:Nat,(ents[i]?).map (λm:MapEntry=>m.key)=(es[i]?).map (λp:Value×AV=>p.1):=λi=>by
         have:=gE (λl=>l[i]?) q4;simpa[ba,cF] using this
        by_cases hij:j=i
        .subst hij;simp[h2,show j<es.length by omega]
        .simp only[hij,dV];exact e2 i
       .rw[oH] at hq;rw[Array.getElem?_modify];by_cases hij:j=i
        .subst hij;simp[show j<es.length by omega] at hq;subst hq;exact⟨{m with key:=k',val:=a.eval y},by simp[h2],hry⟩
        .simp only[hij,dV] at hq ⊢;exact q5 i q hq
    .cases I
   .cases I
  .cases I
 .cases I
end
section
variable {P:Program} {o:Oper} {e:zo} {h:nQ} {nx:Nat} {R:BG}
theorem Po {t:TypeId} {d:TypeDesc} (hu:P.underlying t=af d) (hd:(match d with|.int _=>ai|.bool=>ai|.string=>ai|_=>aj)=ai) (cs:Array Value) (j:Nat) (v:Value) (hv:cs[j]? =af v) (w:World):(part t cs j).run P w= .ok v w:=by
 unfold part;simp only[isAgg,eA,run_underlying hu,cG];cases d<;>simp at hd<;>simp[hv]
theorem Xl {t:TypeId} {d:TypeDesc} (hu:P.underlying t=af d) (hd:(match d with|.int _=>ai|.bool=>ai|.string=>ai|_=>aj)=ai) {x y:FV} {b:Bool} (hxy:xj d x y=af b) {u v:Value} (M:x= .raw u) (J:y= .raw v) (n:Nat) (w:World):(Op.equalIn (n+1) t u v).run P w= .ok b w:=by
 subst M;subst J;cases d<;>simp at hd<;>cases u<;>cases v<;>simp only[xj] at hxy<;>first|(cases hxy;done)|skip
 .simp only[ak] at hxy;subst hxy;simp[Op.equalIn,run_underlying hu]
 .split at hxy
  .rename_i hk;have I:=eq_of_beq hk;subst I;simp only[ak] at hxy;subst hxy;simp[Op.equalIn,run_underlying hu]
  .cases hxy
 .simp only[ak] at hxy;subst hxy;simp[Op.equalIn,run_underlying hu,Ez]
abbrev IX (n:Nat) (xs I:Array Value) (f:Field) (_:Option Bool×Unit):Sem (ForInStep (Option Bool×Unit)):=
 if f.name≠ "_" then do
  let a←part f.type xs f.offset
  let b←part f.type I f.offset
  let c←Op.equalIn (n+1) f.type a b
  if (!c)=ai then pure (ForInStep.done (af aj,())) else pure (ForInStep.yield (ah,()))
 else pure (ForInStep.yield (ah,()))
theorem Ma (n:Nat) (w:World) (xs I:Array Value):∀ (fs:List Field) (ds:List TypeDesc) (a b:List FV) (k:Nat) (r:Bool),rD P k fs=af ds->
 (∀ (j:Nat) x u,a[j]? =af x->xs[k+j]? =af u->x= .raw u\/∀ v,x≠ .raw v)->(∀ (j:Nat) x u,b[j]? =af x->I[k+j]? =af u->x= .raw u\/∀ v,x≠ .raw v)->(∀ (j:Nat),j<a.length->k+j<xs.size)->(∀ (j:Nat),j<b.length->k+j<I.size)->oO ds a b=af r->
 (forIn fs (ah,()) (IX n xs I)).run P w= .ok (if r then (ah,()) else (af aj,())) w
 |[],ds,a,b,k,r,hp,_,_,_,_,he=>by
  simp only[rD,ak] at hp;subst hp;cases a<;>cases b<;>simp[oO] at he;subst he;simp
 |f::fs,ds,a,b,k,r,hp,Z,hb,hla,hlb,he=>by
  simp only[rD] at hp;split at hp
  .rename_i d ds' hu Y;split at hp
   .rename_i hc;simp only[av,bne_iff_ne,ne_eq,cR] at hc;obtain⟨⟨hn,hof⟩,hd⟩:=hc;simp only[ak] at hp;subst hp;cases a with
    |nil=>cases b<;>simp[oO] at he
    |cons x a=>
     cases b with
     |nil=>simp[oO] at he
     |cons y b=>
      simp only[oO] at he;have U:k<xs.size:=by have:=hla 0 (by simp);omega
      have M:k<I.size:=by have:=hlb 0 (by simp);omega
      have hraw:∀ (z:FV) (q:Value),(z= .raw q\/∀ v,z≠ .raw v)->(∃ v,z= .raw v)->z= .raw q:=by
       rintro z q (h|h) ⟨v,hv⟩
       .exact h
       .exact cU hv (h v)
      have hxr:∀ J,xj d x y=af J->x= .raw xs[k]/\y= .raw I[k]:=by
       intro J hbb;have hrr:(∃ v,x= .raw v)/\∃ v,y= .raw v:=by
        unfold xj at hbb;split at hbb
        .exact⟨⟨_,rfl⟩,⟨_,rfl⟩⟩
        .exact⟨⟨_,rfl⟩,⟨_,rfl⟩⟩
        .exact⟨⟨_,rfl⟩,⟨_,rfl⟩⟩
        .cases hbb
       exact⟨hraw x _ (Z 0 x _ rfl (by simp[U])) hrr.1,hraw y _ (hb 0 y _ rfl (by simp[M])) hrr.2⟩
      have hstep:∀ J,xj d x y=af J->(IX n xs I f (ah,())).run P w= .ok (if J then ForInStep.yield (ah,()) else ForInStep.done (af aj,())) w:=by
       intro J hbb;obtain⟨h1,h2⟩:=hxr J hbb;have p1:=Po hu (by cases d<;>simp[HL] at hd<;>rfl) xs k xs[k] (by simp[U]) w;have p2:=Po hu (by cases d<;>simp[HL] at hd<;>rfl) I k I[k] (by simp[M]) w;have p3:=Xl hu (by cases d<;>simp[HL] at hd<;>rfl) hbb h1 h2 n w;unfold IX;rw[aF hn,hof];simp only[eA,p1,p2,p3,cG];cases J<;>simp
      rw[List.forIn_cons];simp only[eA];split at he
      .rename_i hbb;rw[hstep ai hbb];simp only[cG,bC];exact Ma n w xs I fs ds' a b (k+1) r Y (λj x u h1 h2=>Z (j+1) x u (by simpa using h1) (by rw[<- h2];congr 1;omega)) (λj x u h1 h2=>hb (j+1) x u (by simpa using h1) (by rw[<- h2];congr 1;omega))
        (λj hj=>by have:=hla (j+1) (by simpa using hj);omega) (λj hj=>by have:=hlb (j+1) (by simpa using hj);omega) he
      .rename_i hbb;rw[hstep aj hbb];simp only[ak] at he;subst he;simp
      .cases he
   .cases hp
  .cases hp
theorem Xk {t:TypeId} {fs:Array Field} (hu:P.underlying t=af (.struct fs)) (hs:P.stoodInHeld t=aj) {ds:List TypeDesc} (hp:rD P 0 fs.toList=af ds) (xs I:Array Value) {a b:List FV} {r:Bool}
 (J:∀ (j:Nat) x u,a[j]? =af x->xs[j]? =af u->x= .raw u\/∀ v,x≠ .raw v) (hb:∀ (j:Nat) x u,b[j]? =af x->I[j]? =af u->x= .raw u\/∀ v,x≠ .raw v) (hla:a.length=xs.size) (hlb:b.length=I.size) (he:oO ds a b=af r) (w:World):
 (Op.equal t (.agg xs) (.agg I)).run P w= .ok r w:=by
 have key:∀ n,(Op.equalIn (n+2) t (.agg xs) (.agg I)).run P w= .ok r w:=by
  intro n;rw[Op.equalIn];have h1:=Ma (P:=P) n w xs I fs.toList ds a b 0 r hp (λj x u h1 h2=>J j x u h1 (by simpa using h2)) (λj x u h1 h2=>hb j x u h1 (by simpa using h2)) (λj hj=>by omega) (λj hj=>by omega) he;rw[Array.forIn_toList] at h1;simp only[eA,run_underlying hu,cG,program,ng,hs,ct,dV];have h2:(forIn fs (ah,()) (λf __s=>IX n xs I f __s)).run P w= .ok (if r then (ah,()) else (af aj,())) w:=h1;unfold IX at h2;rw[h2];cases r<;>simp
 exact key 9998
theorem Qx {t:TypeId} {fs:Array Field} (hu:P.underlying t=af (.struct fs)) {ds:List TypeDesc} (hp:rD P 0 fs.toList=af ds):P.eqGuardType P.depth t=aj:=by
 have key:∀ (fs:List Field) (k:Nat) (ds:List TypeDesc),rD P k fs=af ds→∀ d,(fs.any λf=>f.name != "_" &&P.eqGuardType (d+1) f.type)=aj:=by
  intro fs;induction fs with
  |nil=>intros;rfl
  |cons f fs M=>
   intro k ds hp d;simp only[rD] at hp;split at hp
   .rename_i U ds' I J;split at hp
    .rename_i hc;simp only[av] at hc;have:P.eqGuardType (d+1) f.type=aj:=by
      unfold Program.eqGuardType;rw[I];have:=hc.2;cases U<;>simp[HL] at this<;>rfl
     simp only[List.any_cons,this,Bool.and_false,Bool.false_or];exact M (k+1) ds' J d
    .cases hp
   .cases hp
 unfold Program.depth Program.eqGuardType;rw[hu];simp only[];rw[← Array.any_toList];exact key fs.toList 0 ds hp _
theorem af6 {t t':TypeId} {op:BinOp} {neg:Bool} {x y:Operand} {fs:Array Field} {ds:List TypeDesc} (Y:o.op= .binOp op t x y t') (hop:op=if neg then .neq else .eql) (hu:P.underlying t=af (.struct fs)) (hs:P.stoodInHeld t=aj) (hp:rD P 0 fs.toList=af ds) (I:eH (.eqs neg ds x y) e h nx=af R):gG P o e.get h.get R.eff:=by
 simp only[eH] at I;split at I
 .rename_i a b J hy;split at I
  .rename_i r hr;rw[dk I];refine gG.reads λφ E h' w ac _ hpp _=>?_
   have h1:=hpp x _ (by rw[Y];simp[Op.operands]) J;have h2:=hpp y _ (by rw[Y];simp[Op.operands]) hy;generalize hzx:ac.eval x=zx at h1;generalize hzy:ac.eval y=zy at h2;have rawOr:∀ (l:List FV) (vs:List Value),(∀ (j:Nat) x v,l[j]? =af x->vs[j]? =af v->mZ (tot E φ h') w x v)->∀ (j:Nat) x u,l[j]? =af x->vs.toArray[j]? =af u->x= .raw u\/∀ v,x≠ .raw v:=by
    intro l vs hr j x u J hu;have:=hr j x u J (by simpa using hu);cases this with
    |raw v=>exact .inl rfl
    |nil=>exact .inr (by simp)
    |sl=>exact .inr (by simp)
    |ptr=>exact .inr (by simp)
    |agg=>exact .inr (by simp)
   cases h1 with
   |f h1=>
    cases h1 with
    |agg _ vs hl hcl U=>
     cases h2 with
     |f h2=>
      cases h2 with
      |agg _ us Z hcl' M=>
       have heq:=Xk hu hs hp vs.toArray us.toArray (rawOr a vs U) (rawOr b us M) (by simp[hl]) (by simp[Z]) hr w;refine ⟨_,?_,.f (.raw _)⟩;have hg:=Qx hu hp;unfold execOp;rw[Y];simp only[hzx,hzy];subst hop;cases neg<;>simp[eqGuard,program,ng,hg,binOp,heq]
  .cases I
 .cases I
end
theorem bind_some {α β:Type} {x:Option α} {f:α->Option β} {y:β} (h:x.bind f=af y):∃ a,x=af a/\f a=af y:=by
 cases x with
 |none=>cases h
 |some a=>exact⟨a,rfl,h⟩
theorem map_some {α β:Type} {x:Option α} {f:α->β} {y:β} (h:x.map f=af y):∃ a,x=af a/\f a=y:=by
 cases x with
 |none=>cases h
 |some a=>exact⟨a,rfl,by simpa using h⟩
theorem lO {c:Bool} {β:Type} {x:Option β} {y:β} (h:(if c then x else ah)=af y):c=ai/\x=af y:=by
 cases c with
 |true=>exact⟨rfl,by simpa using h⟩
 |false=>simp at h
theorem HO {P:Program} {o:Oper} {e:zo} {h:nQ} {nx:Nat} {s:X3} {R:BG} (hc:c_ P o.op=af s) (J:eH s e h nx=af R):gG P o e.get h.get R.eff:=by
 unfold c_ at hc;split at hc
 .rename_i x I;simp only[ak] at hc;subst hc;exact ak4 (.inl I) J
 .rename_i x I;simp only[ak] at hc;subst hc;exact ak4 (.inr I) J
 .rename_i c a b I;simp only[ak] at hc;subst hc;exact agr I J
 .rename_i t I;obtain⟨z,h1,hc⟩:=bind_some hc;obtain⟨h2,hc⟩:=lO hc;simp only[ak] at hc;subst hc;exact adm I h1 h2 J
 .rename_i t x I;simp only[ak] at hc;subst hc;exact akg I J
 .rename_i t ps I;split at hc
  .rename_i fs hu;obtain⟨z,h1,hc⟩:=bind_some hc;obtain⟨h2,hc⟩:=lO hc;obtain⟨ps',M,rfl⟩:=map_some hc;simp only[av] at h2;exact Wp I h1 h2.1 M (.inl ⟨fs,hu,h2.2⟩) J
  .rename_i n el hu;obtain⟨z,h1,hc⟩:=bind_some hc;obtain⟨h2,hc⟩:=lO hc;obtain⟨ps',M,rfl⟩:=map_some hc;simp only[av] at h2;obtain⟨sz,U⟩:=iG.1 h2.2;exact Wp I h1 h2.1 M (.inr ⟨n,el,sz,hu,U⟩) J
  .cases hc
 .rename_i t n ps I;obtain⟨el,h1,hc⟩:=bind_some hc;obtain⟨z,h2,hc⟩:=bind_some hc;obtain⟨sz,M,hc⟩:=bind_some hc;obtain⟨U,hc⟩:=lO hc;obtain⟨ps',Z,rfl⟩:=map_some hc;simp only[av,cR,bne_iff_ne] at U;exact akf I (r7 h1) h2 M U.1.1.1 U.1.1.2 U.2 (a8 U.1.2) Z J
 .rename_i t x I;obtain⟨sz,h1,hc⟩:=bind_some hc;obtain⟨ag,h2,rfl⟩:=map_some hc;exact agu I h1 h2 J
 .rename_i t x v I;obtain⟨sz,h1,rfl⟩:=map_some hc;exact adl I h1 J
 .rename_i x I;simp only[ak] at hc;subst hc;exact ags I J
 .rename_i op t x y t' I;split at hc
  .simp only[ak] at hc;subst hc;exact af8 I J
  .simp only[ak] at hc;subst hc;exact af8 I J
  .rename_i hu;split at hc
   .simp only[ak] at hc;subst hc;exact af7 (neg:=aj) I rfl hu J
   .simp only[ak] at hc;subst hc;exact af7 (neg:=ai) I rfl hu J
   .cases hc
  .rename_i el hu;split at hc
   .simp only[ak] at hc;subst hc;exact Wo (neg:=aj) I rfl rfl hu J
   .simp only[ak] at hc;subst hc;exact Wo (neg:=ai) I rfl rfl hu J
   .cases hc
  .rename_i fs hu;obtain⟨ds,h1,hc⟩:=bind_some hc;unfold YW at h1;rw[hu] at h1;simp only[] at h1;split at h1
   .cases h1
   .rename_i hst;have hst:P.stoodInHeld t=aj:=by simpa using hst
    split at hc
    .simp only[ak] at hc;subst hc;exact af6 (neg:=aj) I rfl hu hst h1 J
    .simp only[ak] at hc;subst hc;exact af6 (neg:=ai) I rfl hu hst h1 J
    .cases hc
  .cases hc
 .rename_i t x I;simp only[ak] at hc;subst hc;exact ak2 I J
 .rename_i t x I;split at hc
  .simp only[ak] at hc;subst hc;exact ak3 I J
  .cases hc
 .rename_i s' d x I;split at hc
  .rename_i k k' h1 h2;simp only[ak] at hc;subst hc;exact ah0 I h1 h2 J
  .cases hc
 .rename_i t l c I;obtain⟨el,h1,hc⟩:=bind_some hc;obtain⟨z,h2,hc⟩:=bind_some hc;obtain⟨sz,M,hc⟩:=bind_some hc;obtain⟨b,Z,hc⟩:=bind_some hc;obtain⟨U,hc⟩:=lO hc;simp only[av,cR,bne_iff_ne] at U;simp only[ak] at hc;subst hc;exact agt I (r7 h1) h2 M Z U.1.1 U.1.2 U.2 J
 .rename_i t x lo hi mx I;obtain⟨el,h1,hc⟩:=bind_some hc;obtain⟨sz,h2,rfl⟩:=map_some hc;exact ajz I (r7 h1) h2 J
 .rename_i t x k I;split at hc
  .rename_i fs hu;obtain⟨f,h1,hc⟩:=bind_some hc;obtain⟨sz,h2,hc⟩:=bind_some hc;obtain⟨M,hc⟩:=lO hc;simp only[ak] at hc;subst hc;exact akc I hu h1 h2 (by simpa using M) J
  .cases hc
 .rename_i t x k I;split at hc
  .rename_i fs hu;obtain⟨f,h1,hc⟩:=bind_some hc;obtain⟨sz,h2,hc⟩:=bind_some hc;obtain⟨ag,M,rfl⟩:=map_some hc;exact akb I hu h1 h2 M J
  .cases hc
 .rename_i t x i I;split at hc
  .rename_i el hu;obtain⟨sz,h1,rfl⟩:=map_some hc;exact aka I hu h1 J
  .rename_i n el hu;obtain⟨sz,h1,rfl⟩:=map_some hc;exact agy I hu h1 J
  .cases hc
 .rename_i t x i I;split at hc
  .rename_i n el hu;obtain⟨sz,h1,hc⟩:=bind_some hc;obtain⟨ag,h2,rfl⟩:=map_some hc;exact ak9 I hu h1 h2 J
  .rename_i hu;simp only[ak] at hc;subst hc;exact agq I hu J
  .cases hc
 .rename_i x i I;simp only[ak] at hc;subst hc;exact akd I J
 .rename_i f first caps I
  obtain⟨h1,hc⟩:=lO hc;simp only[ak] at hc;subst hc;have h2:first=#[]:=by simpa using h1
  subst h2;exact ak6 I J
 .rename_i t I;split at hc
  .simp only[ak] at hc;subst hc;exact ak5 I J
  .cases hc
 .rename_i t x k ok I;split at hc
  .rename_i kt el hu;split at hc
   .rename_i q z h1 h2;obtain⟨M,hc⟩:=lO hc;simp only[ak] at hc;subst hc;exact af5 (str:=aj) I hu h1 ⟨q,rfl⟩ h2 J
   .rename_i z h1 h2;obtain⟨M,hc⟩:=lO hc;simp only[ak] at hc;subst hc;exact af5 (str:=ai) I hu h1 rfl h2 J
   .cases hc
  .cases hc
 .rename_i t m k v I;split at hc
  .rename_i kt el hu;split at hc
   .rename_i q h1;simp only[ak] at hc;subst hc;exact af4 (str:=aj) I hu h1 ⟨q,rfl⟩ J
   .rename_i h1;simp only[ak] at hc;subst hc;exact af4 (str:=ai) I hu h1 rfl J
   .cases hc
  .cases hc
 .rename_i t x I;split at hc
  .rename_i hu;simp only[ak] at hc;subst hc;exact ak0 I hu J
  .cases hc
 .rename_i x I;simp only[ak] at hc;subst hc;exact ak1 I J
 .rename_i c I;obtain⟨callee,args,argTypes⟩:=c;have arr:∀ {α:Type} {x:Array α} {l:List α},x.toList=l->x=l.toArray:=λh=>by rw[<- h]
  unfold Ru at hc;simp only[] at hc;split at hc
  .split at hc
   .rename_i x t h1 h2;rw[arr h1,arr h2] at I;split at hc
    .rename_i el hu;simp only[ak] at hc;subst hc;exact agx I hu J
    .rename_i hu;simp only[ak] at hc;subst hc;exact agw I hu J
    .rename_i k v hu;simp only[ak] at hc;subst hc;exact agv I hu J
    .cases hc
   .cases hc
  .split at hc
   .rename_i x y h1;rw[arr h1] at I;simp only[ak] at hc;subst hc;exact ak8 I J
   .cases hc
  .split at hc
   .rename_i x y h1;rw[arr h1] at I;simp only[ak] at hc;subst hc;exact ak7 I J
   .cases hc
  .split at hc
   .rename_i d x t u h1 h2;rw[arr h1,arr h2] at I;split at hc
    .rename_i el el' h1 h2;obtain⟨sz,M,hc⟩:=bind_some hc;obtain⟨U,hc⟩:=lO hc;simp only[ak] at hc;subst hc;exact agz I (r7 h1) (r7 h2) M J
    .cases hc
   .cases hc
  .split at hc
   .rename_i x t h1 h2;rw[arr h1,arr h2] at I;obtain⟨el,M,hc⟩:=bind_some hc;obtain⟨z,U,hc⟩:=bind_some hc;obtain⟨sz,Z,hc⟩:=bind_some hc;obtain⟨Y,hc⟩:=lO hc;simp only[av,cR,bne_iff_ne,ne_eq] at Y;simp only[ak] at hc;subst hc;exact ake I (r7 M) U Y.1.1 Y.1.2 Y.2 J
   .cases hc
  .split at hc
   .rename_i s' x t u h1 h2;rw[arr h1,arr h2] at I;split at hc
    .rename_i el el' h1 h2;obtain⟨sz,M,hc⟩:=bind_some hc;obtain⟨b,U,hc⟩:=bind_some hc;obtain⟨z,Z,hc⟩:=bind_some hc;obtain⟨Y,hc⟩:=lO hc;simp only[av,cR,bne_iff_ne] at Y;simp only[ak] at hc;subst hc;exact akh I (r7 h1) (r7 h2) M U Z Y.2 Y.1 J
    .cases hc
   .cases hc
  .cases hc
 .cases hc
theorem lV {p:Nat->Bool}:∀ {l:List AV},AV.allL p l=ai->∀ x∈l,AV.all p x=ai
 |[],_,x,I=>by cases I
 |y::l,h,x,I=>by
  simp only[AV.allL,av] at h;rcases bi.1 I with rfl|I
  .exact h.1
  .exact lV h.2 x I
theorem cI.restrict {φ φ':PM} {O O':Nat->Prop} {w:World} {p:Nat->Bool} (hs:∀ i k,p i=ai->φ i=af k->φ' i=af k) (M:∀ k,O' k->O k) {x:AV} {v:Value} (h:cI φ O w x v):x.all p=ai->cI φ' O' w x v:=by
 induction h with
 |f h=>intro _;exact .f (h.ext (O':=O') (Kh.refl O w) λk _ hk=>M k hk)
 |ptr h=>intro hp;exact .ptr (hs _ _ hp h)
 |sl h hn hc=>intro hp;exact .sl (hs _ _ hp h) hn hc
 |row h hn hc hsh=>intro hp;exact .row (hs _ _ hp h) hn hc hsh
 |emp=>intro _;exact .emp
 |anyb=>intro _;exact .anyb
 |mp h=>intro hp;exact .mp (hs _ _ hp h)
 |agg hl hcl hr J=>intro hp;exact .agg hl hcl λj x v I hv=>J j x v I hv (lV hp x (a_ I))
 |tup hl hr J=>intro hp;exact .tup hl λj x v I hv=>J j x v I hv (lV hp x (a_ I))
 |clo hl hr J=>intro hp;exact .clo hl λj x v I hv=>J j x v I hv (lV hp x (a_ I))
theorem jq.restrict {φ φ':PM} {O O':Nat->Prop} {w w':World} {p:Nat->Bool} (hk:∀ x v,x.all p=ai->cI φ O w x v->cI φ' O' w' x v) {b:wG} {o:Obj} (hb:b.c.all p=ai) (h:jq φ O w b o):jq φ' O' w' b o:=by
 unfold jq at h ⊢;cases hc:b.c with
 |fz l=>
  rw[hc] at h;obtain⟨arr,h1,h2,J⟩:=h;exact⟨arr,h1,h2,λj x I=>by
   obtain⟨a,v,c,d⟩:=J j x I;refine ⟨a,v,c,hk _ _ ?_ d⟩;simp only[BC.get] at I;cases hl:l[j]? with
   |none=>rw[hl] at I;cases I
   |some q=>rw[hl] at I;simp at I;subst I;rfl⟩
 |mx l=>
  rw[hc] at h hb;obtain⟨arr,h1,h2,J⟩:=h;exact⟨arr,h1,h2,λj x I=>by
   obtain⟨a,v,c,d⟩:=J j x I;exact⟨a,v,c,hk _ _ (lV hb x (a_ I)) d⟩⟩
 |mp es=>
  rw[hc] at h hb;obtain⟨e,c,h1,h2,J⟩:=h;exact⟨e,c,h1,h2,λj x I=>by
   obtain⟨m,a,b⟩:=J j x I;exact⟨m,a,hk _ _ (lV hb x.2 (dh.2 ⟨x,a_ I,rfl⟩)) b⟩⟩
 |it s q=>rw[hc] at h;exact h
def Z5 (m:Nat):List Nat:=(eS (m+1)).filter λi=>aN m i
theorem LW {m i:Nat}:i∈Z5 m↔aN m i=ai:=by
 unfold Z5;rw[ES,m6];constructor
 .exact λh=>h.2
 .intro h;refine ⟨?_,h⟩;have h1:=Nat.ge_two_pow_of_testBit h;have h2:=Nat.lt_two_pow_self (n:=i);omega
def jT (φ:PM) (O:Nat->Prop) (w:World):List AV->List Value->Prop
 |[],[]=>True
 |x::xs,v::vs=>cI φ O w x v/\jT φ O w xs vs
 |_,_=>False
theorem jT.length {φ:PM} {O:Nat->Prop} {w:World}:∀ {args:List AV} {vs:List Value},jT φ O w args vs->vs.length=args.length
 |[],[],_=>rfl
 |[],_::_,h=>h.elim
 |_::_,[],h=>h.elim
 |_::_,_::_,h=>by simp[jT.length h.2]
theorem jT.mono {φ φ':PM} {O O':Nat->Prop} {w w':World} {p:Nat->Bool} (hk:∀ x v,x.all p=ai->cI φ O w x v->cI φ' O' w' x v):∀ {args:List AV} {vs:List Value},AV.allL p args=ai->jT φ O w args vs->jT φ' O' w' args vs
 |[],[],_,_=>trivial
 |[],_::_,_,h=>h.elim
 |_::_,[],_,h=>h.elim
 |x::xs,_::_,hp,h=>by
  simp only[AV.allL,av] at hp;exact⟨hk _ _ hp.1 h.1,jT.mono hk hp.2 h.2⟩
theorem jT.append {φ:PM} {O:Nat->Prop} {w:World}:∀ {xs I:List AV} {vs us:List Value},jT φ O w xs vs->jT φ O w I us->jT φ O w (xs++I) (vs++us)
 |[],_,[],_,_,h=>h
 |[],_,_::_,_,h,_=>h.elim
 |_::_,_,[],_,h,_=>h.elim
 |_::_,_,_::_,_,h,h'=>⟨h.1,jT.append h.2 h'⟩
theorem jT.of {φ:PM} {O:Nat->Prop} {w:World}:∀ {xs:List AV} {vs:List Value},vs.length=xs.length->(∀ (j:Nat) x v,xs[j]? =af x->vs[j]? =af v->cI φ O w x v)->jT φ O w xs vs
 |[],[],_,_=>trivial
 |[],_::_,h,_=>by simp at h
 |_::_,[],h,_=>by simp at h
 |x::xs,v::vs,hl,h=>⟨h 0 x v rfl rfl,jT.of (by simpa using hl) λj x v I hv=>h (j+1) x v (by simpa using I) (by simpa using hv)⟩
def Dq (P:Program) (f:FuncId):Prop:=∃ fn,P.funcs[f]? =af fn∧fn.body.isNone=aj∧(fn.name== "runtime.NumGoroutine")=aj
theorem NS {φ:PM} {E:Nat->Prop} {h':HF} {w:World} {a:Act} {e:zo} {o:Oper} (hp:UV φ E h' w a e o):∀ (xs:List Operand) (I:List AV),(∀ x∈xs,x∈o.op.operands)->VV e xs=af I->jT φ (tot E φ h') w I (xs.map a.eval)
 |[],I,_,h=>by simp only[VV,ak] at h;subst h;trivial
 |x::xs,I,hm,h=>by
  simp only[VV] at h;split at h
  .rename_i y J;split at h
   .rename_i ys' hys;simp only[ak] at h;subst h;exact⟨hp x y (hm x (dv ..)) J,NS hp xs ys' (λx M=>hm x (cL _ M)) hys⟩
   .cases h
  .cases h
theorem wO {P:Program} {f:FuncId} (hc:Dq P f) (args:Array Value) (w:World):(callFunc f args).run P w= .ok (.enter f args) w:=by
 obtain⟨fn,h1,h2,M⟩:=hc;have I:fn.name≠ "runtime.NumGoroutine" :=by simpa using M
 have J:fn.body≠ah:=by intro h;rw[h] at h2;cases h2
 simp[callFunc,program,ng,h1,J,I]
theorem VO:∀ (fs:List FPm) (i:Nat),Xi fs i=fs[i]?
 |[],i=>by simp[Xi]
 |f::fs,0=>rfl
 |f::fs,i+1=>by simp[Xi,VO fs i]
theorem xp {a b:Nat} (h:C7 a b=ai) (i:Nat) (I:aN a i=ai):aN b i=aj:=by
 unfold C7 at h;have h0:a&&&b=0:=aw h;have:=Nat.testBit_and a b i;rw[h0,I] at this;simpa using this.symm
structure Ctx where
 n0:Nat
 φ:PM
 E:Nat->Prop
 h:HF
 w:World
def aaq (P:Program) (d:Deferred):Prop:=∀ w:World,∃ J cap f args,d.target= .fn J cap/\(invoke d.target d.args).run P w= .ok (.enter f args) w/\
 CallsD P f args .returning w λe I w'=>(∃ v,e= .returned v)/\I= .returning/\w'=w
structure Cfg (P:Program) (C:Ctx) (nt:Nat) (s:IS) (a:Act) (w:World):Prop where
 ex:∃ φ,iV C.φ φ C.h s.h.get C.w w/\qL φ C.E s.h.get w/\MG φ (tot C.E φ s.h.get) w s.e.get a/\(∀ i k,φ i=af k->i<s.nx)/\∀ i k,φ i=af k->C.φ i=af k\/C.n0<=i
 low:C.n0<=s.nx
 inert:∀ d∈a.defers,aaq P d
 size:a.tmps.size=nt
theorem Cfg.bool {P:Program} {C:Ctx} {nt:Nat} {s:IS} {a:Act} {w:World} (c:Cfg P C nt s a w) {t:Nat} {b:Bool} (ht:s.e.get t=af (.f (.raw (.bool b)))):a.eval (.tmp t)= .bool b:=by
 obtain⟨φ,_,_,en,_,_⟩:=c.ex;exact fo (en t _ ht)
theorem BP {P:Program} {c:Code} {Q:Exit->Act->World->Prop} (I:Nat->Act->World->Prop) (round:∀ n a w,I n a w->c.wp P (Exit.then (λa' w'=>∃ m,m<n/\I m a' w') Q) a w) {n:Nat} {a:Act} {w:World} (h0:I n a w):(Code.loop c).wp P Q a w:=by
 have least:∀ (n:Nat) (a:Act) (w:World),I n a w->∃ m,I m a w/\∀ k,I k a w->m<=k:=by
  intro n;induction n using Nat.strongRecOn with
  |_ n U=>
   intro a w hn;by_cases J:∃ k,k<n/\I k a w
   .obtain⟨k,hk,M⟩:=J;exact U k hk a w M
   .exact⟨n,hn,λk hk=>Nat.le_of_not_lt λhlt=>J ⟨k,hlt,hk⟩⟩
 have pick:∀ a w,∃ m,(∃ n,I n a w)->I m a w/\∀ k,I k a w->m<=k:=λa w=>by
  by_cases J:∃ n,I n a w
  .obtain⟨n,hn⟩:=J;obtain⟨m,hm⟩:=least n a w hn;exact⟨m,λ_=>hm⟩
  .exact⟨0,λh=>cU h J⟩
 let μ:Act->World->Nat:=λa w=>Classical.choose (pick a w)
 have hμ:∀ a w,(∃ n,I n a w)->I (μ a w) a w/\∀ k,I k a w->μ a w<=k:=λa w=>Classical.choose_spec (pick a w)
 refine wp_loop (λa w=>∃ n,I n a w) μ ⟨n,h0⟩ λa w M=>?_
 refine wp_mono (round (μ a w) a w (hμ a w M).1) λe a' w' he=>?_
 cases e with
 |normal=>
  obtain⟨m,hm,hIm⟩:=he;exact⟨⟨m,hIm⟩,Nat.lt_of_le_of_lt ((hμ a' w' ⟨m,hIm⟩).2 m hIm) hm⟩
 |exit id=>exact he
 |goto l=>exact he
 |ret=>exact he
 |panic c=>exact he
 |outgrown=>exact he
def Ex.to:Ex->Exit
 |.normal=>.normal
 |.exit id=>.exit id
 |.ret=>.ret
def Kf (P:Program) (inert:FuncId->Bool):Prop:=∀ f,inert f=ai->Dq P f/\∀ (args:Array Value) (w:World),CallsD P f args .returning w λe I w'=>(∃ v,e= .returned v)/\I= .returning/\w'=w
theorem QO {P:Program} {C:Ctx} {nt:Nat} {inert:FuncId->Bool} (hin:Kf P inert) {s:IS} {a:Act} {w:World} (c:Cfg P C nt s a w) {id:Nat} {ops:Array Oper} {dr:Bool} {f:FuncId} {caps:List Operand} {t:Nat} (hd:(ops.toList.all λo=>match o.dst with|some d=>decide (d<nt)|none=>ai)=ai) (hdf:C8 ops dr=af (f,caps,t))
 {l:List AV} (hl:VV s.e caps=af l) (hi:inert f=ai) {Q:Exit->Act->World->Prop} (hQ:∀ a w,Cfg P C nt ⟨s.e.put (af t) (.clo f l),s.h,s.nx,s.wr⟩ a w->Q .normal a w):(Code.region id ops dr).wp P Q a w:=by
 unfold C8 at hdf;split at hdf
 .rename_i p q hops;split at hdf
  .rename_i f' first caps' t1 cl hpo hpg hpd hqo hqg hqd
   split at hdf
   .rename_i t2 hcl hca;split at hdf
    .rename_i hcond;simp only[av] at hcond;obtain⟨h1,h2⟩:=hcond;have h1:=aw h1;have h2:first=#[]:=by simpa using h2
     simp only[ak,aD] at hdf;obtain⟨rfl,rfl,rfl⟩:=hdf;subst h1;subst h2;have hops':ops=#[p,q]:=by rw[<- Array.toArray_toList (xs:=ops),hops]
     obtain⟨φ,m,r,en,dm⟩:=c.ex;obtain⟨hcb,hincalls⟩:=hin f' hi;have htn:t1<nt:=by
      have:=gi.1 hd p (by rw[hops];simp);rw[hpd] at this;simpa using this
     have hrelL:jT φ (tot C.E φ s.h.get) w l (caps'.toList.map a.eval):=by
      have hp':UV φ C.E s.h.get w a s.e p:=λx y U Y=>sZ r (xs:=p.op.operands) (λt _ y Y=>en t y Y) U Y
      exact NS hp' caps'.toList l (λx U=>by rw[hpo];simpa[Op.operands] using U) hl
     have hcm:caps'.map a.eval=(caps'.toList.map a.eval).toArray:=by apply Kn;simp
     let J:Value:=.func (.func f') #[] (caps'.map a.eval)
     have hrel:cI φ (tot C.E φ s.h.get) w (.clo f' l) J:=by
      simp only[J];rw[hcm];refine .clo (hrelL.length) ?_;have:∀ (xs:List AV) (vs:List Value),jT φ (tot C.E φ s.h.get) w xs vs->∀ (j:Nat) x v,xs[j]? =af x->vs[j]? =af v->cI φ (tot C.E φ s.h.get) w x v:=by
       intro xs;induction xs with
       |nil=>intro vs _ j x v U;simp at U
       |cons y xs ih=>
        intro vs h j x v U hv;cases vs with
        |nil=>exact h.elim
        |cons u vs=>
         cases j with
         |zero=>simp at U hv;subst U;subst hv;exact h.1
         |succ j=>exact ih vs h.2 j x v (by simpa using U) (by simpa using hv)
      exact this _ _ hrelL
     refine wp_region ?_;have Z:eS ops.size=[0,1]:=by rw[hops'];rfl
     rw[Z];have e0:ops[0]? =af p:=by rw[hops'];rfl
     have e1:ops[1]? =af q:=by rw[hops'];rfl
     rw[wpOps_cons];have hexec1:(execOp a.eval p).run P w= .ok (.value J) w:=by
      unfold execOp;rw[hpo];simp[Instr.makeFunc,J]
     have w1:iF p (yielded ops a.tmps)=ai:=by unfold iF;rw[hpg]
     unfold wpOp;simp only[e0,w1,bC];left;unfold GW;rw[hexec1];show wpOps P ops Q [1] (a.put p.dst J) w;rw[wpOps_cons];unfold wpOp;have w2:iF q (yielded ops (a.put p.dst J).tmps)=ai:=by unfold iF;rw[hqg]
     simp only[e1,w2,bC];left;have heval:(a.put p.dst J).eval (.tmp t1)=J:=by
      show (a.put p.dst J).tmps.getD t1 undef=J;rw[HH (by intro d I;rw[hpd] at I;cases I;rw[c.size];exact htn),aF hpd]
     have hargs:cl.args=#[]:=by rw[<- Array.toArray_toList (xs:=cl.args),hca]
     have hexec2:(execOp (a.put p.dst J).eval q).run P w= .ok (.defer {target:=.fn (.func f') (caps'.map a.eval),args:=#[]}) w:=by
      unfold execOp;rw[hqo];simp[resolve,hcl,heval,J,Deferred.ofValue,hargs]
     unfold GW;rw[hexec2];show wpOps P ops Q [] _ w;refine hQ _ _ ⟨⟨φ,m,r,?_,dm⟩,c.low,?_,?_⟩
     .intro u x U;rw[hqd];show cI φ _ w x ((a.put p.dst J).tmps.getD u undef);rw[HH (by intro d I;rw[hpd] at I;cases I;rw[c.size];exact htn)];have M:(s.e.put (af t1) (.clo f' l)).get u=af x:=U;rw[<- YS] at M;unfold B5 at M;rw[hpd];by_cases hu:af t1=af u
      .rw[aF hu] at M ⊢;cases M;exact hrel
      .rw[aC hu] at M ⊢;exact en u x M
     .intro d I;rw[hqd] at I;have hd'':d={target:=.fn (.func f') (caps'.map a.eval),args:=#[]}\/d∈(a.put p.dst J).defers:=by
       simpa[MP] using I
      rcases hd'' with rfl|hd''
      .intro w0;refine ⟨_,_,f',caps'.map a.eval,rfl,?_,hincalls _ w0⟩;simp[invoke,wO hcb]
      .rw[HI] at hd'';exact c.inert d hd''
     .rw[hqd];show (a.put p.dst J).tmps.size=nt;rw[Pk];exact c.size
    .cases hdf
   .cases hdf
  .cases hdf
 .cases hdf
def WF (tmps:Array Value):ResultVar->Sem Value
 |.tmp t=>pure (tmps.getD t undef)
 |.cell a t=>do
  let I<-asAddr (tmps.getD a undef)
  loadVar t I
theorem SM (fn:Func) (tmps:Array Value):results fn tmps=(do let vs<-fn.results.mapM (WF tmps);pure (if h:vs.size=1 then vs[0] else .tuple vs)):=by
 unfold results;congr 2
theorem Ce {P:Program} {fn:Func} {tmps:Array Value} {R:Ending->World->Prop} {w:World} {v:Value} (hr:(results fn tmps).run P w= .ok v w) (I:R (.returned v) w):∀ (ds:List Deferred),(∀ d∈ds,aaq P d)->Leaves P fn tmps R ds .returning w
 |[],_=>⟨v,hr,I⟩
 |d::ds,h=>by
  obtain⟨M,cap,f,args,h1,h2,J⟩:=h d (dv ..) w;refine ⟨by simp,M,cap,f,args,h1,h2,J.mono ?_⟩;rintro e Y w' ⟨⟨U,rfl⟩,rfl,rfl⟩;exact Ce hr I ds λd hd=>h d (cL _ hd)
theorem jT.get {φ:PM} {O:Nat->Prop} {w:World}:∀ {xs:List AV} {vs:List Value},jT φ O w xs vs->∀ (j:Nat) x,xs[j]? =af x->∃ v,vs[j]? =af v/\cI φ O w x v
 |[],_,_,j,x,I=>by simp at I
 |_::_,[],h,_,_,_=>h.elim
 |y::xs,u::vs,h,j,x,I=>by
  cases j with
  |zero=>simp at I;subst I;exact⟨u,rfl,h.1⟩
  |succ j=>exact jT.get h.2 j x (by simpa using I)
theorem Rt {P:Program} {f:FuncId} {I:SF} (h:zf P f=af I):∃ fn c,P.funcs[f]? =af fn∧fn.body=af c∧(fn.name== "runtime.NumGoroutine")=aj∧I.code=co P fn.ntmps c∧uW P fn.results.toList=af I.res∧I.nt=fn.ntmps:=by
 unfold zf at h;split at h
 .rename_i fn hf;split at h
  .cases h
  .rename_i hn;split at h
   .rename_i c r hb hr;simp only[ak] at h;subst h;exact⟨fn,c,hf,hb,by simpa using hn,rfl,hr,rfl⟩
   .cases h
 .cases h
theorem adb {a b:Value} (h:agi a b=ai):a=b:=by
 unfold agi at h;split at h
 .simp at h;rw[h]
 .simp at h;rw[h.1,h.2]
 .rw[zk.1 h]
 .simp only[av] at h;rw[aw h.1,aw h.2]
 .rfl
 .rename_i x y;simp only[av,Array.isEmpty_iff] at h;rw[h.1,h.2]
 .cases h
def PT.mapO {α β:Type} (g:α->Option β):PT α->PT β
 |.leaf=>.leaf
 |.node v l r=>.node (v.bind g) (PT.mapO g l) (PT.mapO g r)
theorem PT.get_mapO {α β:Type} (g:α->Option β):∀ (t:PT α) (i:Nat),(PT.mapO g t).get i=(t.get i).bind g
 |.leaf,i=>by simp[PT.mapO,PT.get]
 |.node v l r,0=>by simp[PT.mapO,PT.get]
 |.node v l r,j+1=>by
  simp only[PT.mapO,PT.get];split
  .exact PT.get_mapO g l _
  .exact PT.get_mapO g r _
theorem PT.get_updI {α:Type} (f:Nat->α->α):∀ (t:PT α) (a b i:Nat),(PT.updI f a b t).get i=(t.get i).map (f (a*i+b))
 |.leaf,_,_,i=>by simp[PT.updI,PT.get]
 |.node v l r,a,b,0=>by cases v<;>simp[PT.updI,PT.get]
 |.node v l r,a,b,j+1=>by
  simp only[PT.updI,PT.get];split
  .rename_i hj;rw[PT.get_updI f l];have:2*a*(j/2)+(a+b)=a*(j+1)+b:=by
    have h2:j=2*(j/2):=by have:=aw hj;omega
    have I:2*a*(j/2)=a*j:=by rw[GZ 2 a,Nat.mul_assoc,<-h2]
    rw[I,Nat.mul_add];omega
   rw[this]
  .rename_i hj;rw[PT.get_updI f r];have:2*a*(j/2)+(2*a+b)=a*(j+1)+b:=by
    have h1:j%2≠0:=λh=>hj (by rw[h];rfl)
    have h2:j=2*(j/2)+1:=by omega
    have I:2*a*(j/2)=a*(2*(j/2)):=by rw[GZ 2 a,Nat.mul_assoc]
    have J:a*(j+1)=a*(2*(j/2))+2*a:=by
     conv=>lhs;rw[h2]
     rw[Nat.mul_add,Nat.mul_add];omega
    rw[I,J];omega
   rw[this]
theorem PT.bound {α:Type}:∀ (t:PT α),∃ B,∀ i,B<=i->t.get i=ah
 |.leaf=>⟨0,λi _=>rfl⟩
 |.node v l r=>by
  obtain⟨a,I⟩:=PT.bound l;obtain⟨b,hb⟩:=PT.bound r;refine ⟨2*(a+b)+3,λi hi=>?_⟩;cases i with
  |zero=>omega
  |succ j=>
   simp only[PT.get];split
   .exact I _ (by omega)
   .exact hb _ (by omega)
def PT.ofF {α:Type} (f:Nat->Option α):Nat->PT α
 |0=>.leaf
 |n+1=>(PT.ofF f n).set n (f n)
theorem PT.get_ofF {α:Type} (f:Nat->Option α):∀ (n i:Nat),(PT.ofF f n).get i=if i<n then f i else ah
 |0,i=>by simp[PT.ofF,PT.get]
 |n+1,i=>by
  rw[PT.ofF,PT.get_set,PT.get_ofF f n];by_cases h:i=n
  .subst h;simp
  .rw[aC h];by_cases h2:i<n
   .rw[aF h2,aF (by omega)]
   .rw[aC h2,aC (by omega)]
def nm (i:Nat):Nat:=2*i
def ow (n:Nat):Nat:=n/2
theorem dU (i:Nat):ow (nm i)=i:=by unfold ow nm;omega
theorem kK {i j:Nat} (h:nm i=nm j):i=j:=by unfold nm at h;omega
def fm (p:Bool) (id sz n:Nat):AV:=if p&&n==0 then .emp else .row (nm id) sz n
mutual
def cj (h:bf):TV->Option AV
 |.f T v=>af (.f (gC T v))
 |.fel T xs j _ off=>af (.f (.ptr (xs.flatMap (bQ T)) (j.toNat*T.size+off)))
 |.pel id sz j off=>af (.ptr (nm id) (j.toNat*sz+off))
 |.ptr id off=>af (.ptr (nm id) off)
 |.csl id sz n=>af (.row (nm id) sz n)
 |.row id=>match eh h id with|some (p,sz,n)=>af (fm p id sz n)|none=>ah
 |.rtl id j=>match eh h id with|some (_,sz,n)=>af (.sl (nm id) (j.toNat*sz) (n-j.toNat))|none=>ah
 |.emp=>af .emp
 |.nil=>af (.f (.raw (.slice ah 0 0)))
 |.mp id=>af (.mp (nm id))
 |.agg l=>match cH h l with|some l'=>af (.agg l')|none=>ah
 |.tup l=>match cH h l with|some l'=>af (.tup l')|none=>ah
 |.clo g l=>match cH h l with|some l'=>af (.clo g l')|none=>ah
 |.undef=>af (.f (.raw undef))
 |.np=>af (.f (.raw (.pointer ah)))
 |.anyb=>af .anyb
def cH (h:bf):List TV->Option (List AV)
 |[]=>af []
 |x::r=>match cj h x with
  |some y=>(match cH h r with|some l=>af (y::l)|none=>ah)
  |none=>ah
end
def px:(K:Ty)->K.den->Value
 |.int k,n=>.int k n
 |.str,s=>.string ⟨ky s⟩
 |_,_=>undef
def Y9:(K V:Ty)->List (K.den×V.den)->BC
 |.st (.pr .str (.int .i64)),.un,es=>.it ⟨ky (ON es)⟩ (Nl es)
 |K,V,es=>.mp (es.map λp=>(px K p.1,.f (gC V p.2)))
theorem Bk {K V:Ty} {es:List (K.den×V.den)} (h:S8 K=ai):Y9 K V es= .mp (es.map λp=>(px K p.1,.f (gC V p.2))):=by
 unfold Y9;split
 .cases h
 .rfl
theorem ag2 {K V:Ty} {es:List (K.den×V.den)} {s:List UInt8} {p:Nat} (h:itE K V es=af (s,p)):Y9 K V es= .it ⟨ky s⟩ p:=by
 unfold itE at h;split at h
 .cases h;rfl
 .cases h
def kr (h:bf):im->Option wG
 |.rows ty p T xs=>if p&&xs.length==0 then ah else af ⟨ty,.fz (xs.flatMap (bQ T))⟩
 |.cells ty l=>match cH h l with|some I=>af ⟨ty,.mx I⟩|none=>ah
 |.dead _ _ _=>ah
 |.mp K V es=>af ⟨0,Y9 K V es⟩
def fO (e:iK) (h:bf):EF:=λt=>(e.get t).bind (cj h)
def bz (h:bf):HF:=λn=>if n%2=0 then (h.get (n/2)).bind (kr h) else ah
theorem bI (h:bf) (i:Nat):bz h (nm i)=(h.get i).bind (kr h):=by
 unfold bz nm;rw[aF (by omega),show 2*i/2=i from by omega]
theorem js {h:bf} {n:Nat} {b:wG} (hb:bz h n=af b):∃ i c,n=nm i/\h.get i=af c/\kr h c=af b:=by
 unfold bz at hb;split at hb
 .cases hc:h.get (n/2) with
  |none=>rw[hc] at hb;cases hb
  |some c=>rw[hc] at hb;exact⟨n/2,c,by unfold nm;omega,hc,hb⟩
 .cases hb
def IV (e:iK) (h:bf):zo:=PT.mapO (cj h) e
theorem uQ (e:iK) (h:bf):(IV e h).get=fO e h:=by funext t;exact PT.get_mapO _ _ _
theorem jG (h:bf):∃ H:nQ,H.get=bz h:=by
 obtain⟨B,I⟩:=PT.bound h;refine ⟨PT.ofF (bz h) (2*B),?_⟩;funext n;rw[PT.get_ofF];split
 .rfl
 .unfold bz;split
  .rw[I _ (by omega)];rfl
  .rfl
theorem cS {h:bf} {x:TV} {r:List TV} {l:List AV} (he:cH h (x::r)=af l):∃ y I,l=y::I/\cj h x=af y/\cH h r=af I:=by
 simp only[cH] at he;split at he
 .rename_i y J;split at he
  .rename_i I hl;simp only[ak] at he;exact⟨y,I,he.symm,J,hl⟩
  .cases he
 .cases he
theorem oN {h:bf} {x:TV} {r:List TV} {y:AV} {I:List AV} (h1:cj h x=af y) (h2:cH h r=af I):cH h (x::r)=af (y::I):=by
 simp only[cH,h1,h2]
theorem hP {h:bf}:∀ {l:List TV} {I:List AV},cH h l=af I->I.length=l.length
 |[],I,he=>by simp only[cH,ak] at he;subst he;rfl
 |x::r,I,he=>by
  obtain⟨y,l2,rfl,_,h2⟩:=cS he;simp[hP h2]
theorem mW {h:bf}:∀ {a b:List TV} {a' b':List AV},cH h a=af a'->cH h b=af b'->cH h (a++b)=af (a'++b')
 |[],b,a',b',I,hb=>by simp only[cH,ak] at I;subst I;exact hb
 |x::r,b,a',b',I,hb=>by
  obtain⟨y,l2,rfl,h1,h2⟩:=cS I;exact oN h1 (mW h2 hb)
theorem Bv {h:bf}:∀ {a b:List TV} {l:List AV},cH h (a++b)=af l->∃ a' b',l=a'++b'/\cH h a=af a'/\cH h b=af b'
 |[],b,l,he=>⟨[],l,rfl,rfl,he⟩
 |x::r,b,l,he=>by
  obtain⟨y,l2,rfl,h1,h2⟩:=cS he;obtain⟨a',b',rfl,J,I⟩:=Bv h2;exact⟨y::a',b',rfl,oN h1 J,I⟩
theorem Eh {h:bf}:∀ {l:List TV} {I:List AV} (n:Nat),cH h l=af I->cH h (l.take n)=af (I.take n)
 |[],I,n,he=>by simp only[cH,ak] at he;subst he;simp[cH]
 |x::r,I,n,he=>by
  obtain⟨y,l2,rfl,h1,h2⟩:=cS he;cases n with
  |zero=>simp[cH]
  |succ n=>exact oN h1 (Eh n h2)
theorem Ej {h:bf}:∀ {l:List TV} {I:List AV} (n:Nat),cH h l=af I->cH h (l.drop n)=af (I.drop n)
 |[],I,n,he=>by simp only[cH,ak] at he;subst he;simp[cH]
 |x::r,I,n,he=>by
  obtain⟨y,l2,rfl,h1,h2⟩:=cS he;cases n with
  |zero=>exact he
  |succ n=>simpa using Ej n h2
theorem rY {h:bf} {l vs:List TV} {I vs':List AV} (off:Nat) (h1:cH h l=af I) (h2:cH h vs=af vs'):cH h (splice l off vs)=af (splice I off vs'):=by
 unfold splice;rw[hP h2];exact mW (mW (Eh _ h1) h2) (Ej _ h1)
theorem lU {h:bf}:∀ {l:List TV} {I:List AV},cH h l=af I->∀ (j:Nat) x,l[j]? =af x->∃ y,I[j]? =af y/\cj h x=af y
 |[],I,he,j,x,M=>by simp at M
 |x::r,I,he,j,z,J=>by
  obtain⟨y,l2,rfl,h1,h2⟩:=cS he;cases j with
  |zero=>simp at J;subst J;exact⟨y,rfl,h1⟩
  |succ j=>simpa using lU h2 j z (by simpa using J)
mutual
theorem pN (h:bf):∀ (u:TV),KC h u=ai->∃ y,cj h u=af y
 |.f _ _,_=>⟨_,rfl⟩
 |.fel _ _ _ _ _,_=>⟨_,rfl⟩
 |.pel _ _ _ _,_=>⟨_,rfl⟩
 |.ptr _ _,_=>⟨_,rfl⟩
 |.csl _ _ _,_=>⟨_,rfl⟩
 |.row id,he=>by
  simp only[KC] at he;cases hr:eh h id with
  |none=>rw[hr] at he;cases he
  |some r=>obtain⟨p,sz,n⟩:=r;exact⟨_,by simp only[cj,hr];rfl⟩
 |.rtl id jj,he=>by
  simp only[KC] at he;cases hr:eh h id with
  |none=>rw[hr] at he;cases he
  |some r=>obtain⟨p,sz,n⟩:=r;exact⟨_,by simp only[cj,hr];rfl⟩
 |.emp,_=>⟨_,rfl⟩
 |.nil,_=>⟨_,rfl⟩
 |.mp _,_=>⟨_,rfl⟩
 |.agg l,he=>by obtain⟨y,hy⟩:=fk h l he;exact⟨_,by simp only[cj,hy];rfl⟩
 |.tup l,he=>by obtain⟨y,hy⟩:=fk h l he;exact⟨_,by simp only[cj,hy];rfl⟩
 |.clo g l,he=>by obtain⟨y,hy⟩:=fk h l he;exact⟨_,by simp only[cj,hy];rfl⟩
 |.undef,_=>⟨_,rfl⟩
 |.np,_=>⟨_,rfl⟩
 |.anyb,_=>⟨_,rfl⟩
theorem fk (h:bf):∀ (l:List TV),kJ h l=ai->∃ l',cH h l=af l'
 |[],_=>⟨[],rfl⟩
 |x::r,he=>by
  simp only[kJ,av] at he;obtain⟨y,hy⟩:=pN h x he.1;obtain⟨l',hl⟩:=fk h r he.2;exact⟨_,oN hy hl⟩
end
def ci (h h':bf):Prop:=∀ id r,eh h id=af r->eh h' id=af r
mutual
theorem gw {h h':bf} (hk:ci h h'):∀ (u:TV) (y:AV),cj h u=af y->cj h' u=af y
 |.f _ _,y,he=>he
 |.fel _ _ _ _ _,y,he=>he
 |.pel _ _ _ _,y,he=>he
 |.ptr _ _,y,he=>he
 |.csl _ _ _,y,he=>he
 |.row id,y,he=>by
  simp only[cj] at he ⊢;split at he
  .rename_i p sz n hr;rw[hk _ _ hr];exact he
  .cases he
 |.rtl id jj,y,he=>by
  simp only[cj] at he ⊢;split at he
  .rename_i p sz n hr;rw[hk _ _ hr];exact he
  .cases he
 |.emp,y,he=>he
 |.nil,y,he=>he
 |.mp _,y,he=>he
 |.agg l,y,he=>by
  simp only[cj] at he ⊢;split at he
  .rename_i l' hl;rw[gU hk l l' hl];exact he
  .cases he
 |.tup l,y,he=>by
  simp only[cj] at he ⊢;split at he
  .rename_i l' hl;rw[gU hk l l' hl];exact he
  .cases he
 |.clo g l,y,he=>by
  simp only[cj] at he ⊢;split at he
  .rename_i l' hl;rw[gU hk l l' hl];exact he
  .cases he
 |.undef,y,he=>he
 |.np,y,he=>he
 |.anyb,y,he=>he
theorem gU {h h':bf} (hk:ci h h'):∀ (l:List TV) (l':List AV),cH h l=af l'->cH h' l=af l'
 |[],l',he=>he
 |x::r,l',he=>by
  obtain⟨y,l2,rfl,h1,h2⟩:=cS he;exact oN (gw hk x y h1) (gU hk r l2 h2)
end
mutual
theorem oq {h h':bf} (hk:ci h h'):∀ (u:TV),KC h u=ai->KC h' u=ai
 |.f _ _,_=>rfl
 |.fel _ _ _ _ _,_=>rfl
 |.pel _ _ _ _,_=>rfl
 |.ptr _ _,_=>rfl
 |.csl _ _ _,_=>rfl
 |.row id,he=>by
  simp only[KC] at he ⊢;cases hr:eh h id with
  |none=>rw[hr] at he;cases he
  |some r=>rw[hk _ _ hr];rfl
 |.rtl id jj,he=>by
  simp only[KC] at he ⊢;cases hr:eh h id with
  |none=>rw[hr] at he;cases he
  |some r=>rw[hk _ _ hr];rfl
 |.emp,_=>rfl
 |.nil,_=>rfl
 |.mp _,_=>rfl
 |.agg l,he=>iQ hk l he
 |.tup l,he=>iQ hk l he
 |.clo g l,he=>iQ hk l he
 |.undef,_=>rfl
 |.np,_=>rfl
 |.anyb,_=>rfl
theorem iQ {h h':bf} (hk:ci h h'):∀ (l:List TV),kJ h l=ai->kJ h' l=ai
 |[],_=>rfl
 |x::r,he=>by
  simp only[kJ,av] at he ⊢;exact⟨oq hk x he.1,iQ hk r he.2⟩
end
mutual
theorem Eg (h:bf):∀ (u:TV) (y:AV),cj h u=af y->KC h u=ai
 |.f _ _,_,_=>rfl
 |.fel _ _ _ _ _,_,_=>rfl
 |.pel _ _ _ _,_,_=>rfl
 |.ptr _ _,_,_=>rfl
 |.csl _ _ _,_,_=>rfl
 |.row id,y,he=>by
  simp only[KC,cj] at he ⊢;cases hr:eh h id with
  |none=>rw[hr] at he;cases he
  |some r=>rfl
 |.rtl id jj,y,he=>by
  simp only[KC,cj] at he ⊢;cases hr:eh h id with
  |none=>rw[hr] at he;cases he
  |some r=>rfl
 |.emp,_,_=>rfl
 |.nil,_,_=>rfl
 |.mp _,_,_=>rfl
 |.agg l,y,he=>by
  simp only[cj] at he;split at he
  .rename_i l' hl;exact kE h l l' hl
  .cases he
 |.tup l,y,he=>by
  simp only[cj] at he;split at he
  .rename_i l' hl;exact kE h l l' hl
  .cases he
 |.clo g l,y,he=>by
  simp only[cj] at he;split at he
  .rename_i l' hl;exact kE h l l' hl
  .cases he
 |.undef,_,_=>rfl
 |.np,_,_=>rfl
 |.anyb,_,_=>rfl
theorem kE (h:bf):∀ (l:List TV) (l':List AV),cH h l=af l'->kJ h l=ai
 |[],_,_=>rfl
 |x::r,l',he=>by
  obtain⟨y,l2,rfl,h1,h2⟩:=cS he;simp only[kJ,av];exact⟨Eg h x y h1,kE h r l2 h2⟩
end
mutual
theorem Qu (h h':bf):∀ (u:TV),tW u=ai->cj h u=cj h' u
 |.f _ _,_=>rfl
 |.fel _ _ _ _ _,_=>rfl
 |.pel _ _ _ _,_=>rfl
 |.ptr _ _,_=>rfl
 |.csl _ _ _,_=>rfl
 |.row id,he=>by cases he
 |.emp,_=>rfl
 |.nil,_=>rfl
 |.mp _,_=>rfl
 |.agg l,he=>by simp only[cj];rw[Ei h h' l he]
 |.tup l,he=>by simp only[cj];rw[Ei h h' l he]
 |.clo g l,he=>by cases he
 |.undef,_=>rfl
 |.np,_=>rfl
 |.anyb,_=>rfl
theorem Ei (h h':bf):∀ (l:List TV),qc l=ai->cH h l=cH h' l
 |[],_=>rfl
 |x::r,he=>by
  simp only[qc,av] at he;simp only[cH];rw[Qu h h' x he.1,Ei h h' r he.2]
end
theorem Nm {h:bf} {u:TV} {y:AV} (he:cj h u=af y) (hc:u.isC=ai):y.isCell=ai:=by
 cases u with
 |f T v=>cases T<;>simp only[cj,ak] at he<;>subst he<;>first|rfl|(simp [TV.isC,Ty.one] at hc)
 |fel T xs j hj off=>simp only[cj,ak] at he;subst he;rfl
 |pel id sz j off=>simp only[cj,ak] at he;subst he;rfl
 |ptr id off=>simp only[cj,ak] at he;subst he;rfl
 |csl id off z=>simp only[cj,ak] at he;subst he;rfl
 |row id=>
  simp only[cj] at he;split at he
  .simp only[ak] at he;subst he;unfold fm;split<;>rfl
  .cases he
 |rtl id I=>cases hc
 |emp=>simp only[cj,ak] at he;subst he;rfl
 |nil=>simp only[cj,ak] at he;subst he;rfl
 |mp id=>simp only[cj,ak] at he;subst he;rfl
 |agg l=>cases hc
 |tup l=>cases hc
 |clo g l=>
  simp only[cj] at he;split at he
  .simp only[ak] at he;subst he;rfl
  .cases he
 |undef=>cases hc
 |np=>simp only[cj,ak] at he;subst he;rfl
 |anyb=>cases hc
theorem rM {h:bf}:∀ {l:List TV} {I:List AV},cH h l=af I->kn l=ai->gB I=ai
 |[],I,he,_=>by simp only[cH,ak] at he;subst he;rfl
 |x::r,I,he,hc=>by
  obtain⟨y,l2,rfl,h1,h2⟩:=cS he;simp only[kn,av] at hc;simp only[gB,av];exact⟨Nm h1 hc.1,rM h2 hc.2⟩
def Le (x y:AV):Prop:=∀ (φ:PM) (O:Nat->Prop) (w:World) (v:Value),cI φ O w x v->cI φ O w y v
theorem Le.refl (x:AV):Le x x:=λ_ _ _ _ h=>h
def lB (H H':HF) (x y:AV):Prop:=∀ (φ:PM) (E:Nat->Prop) (w:World) (v:Value),qL φ E H w->cI φ (tot E φ H) w x v->cI φ (tot E φ H') w y v
def uY (H H':HF):Prop:=∀ i b,H' i=af b->∃ b0,H i=af b0
theorem uY.refl (H:HF):uY H H:=λ_ b h=>⟨b,h⟩
theorem uY.own {H H':HF} (d:uY H H') {φ:PM} {k:Nat} (h:own φ H' k):own φ H k:=by
 obtain⟨i,b,h1,h2⟩:=h;obtain⟨b0,I⟩:=d i b h1;exact⟨i,b0,I,h2⟩
theorem uY.tot {H H':HF} (d:uY H H') {E:Nat->Prop} {φ:PM} {k:Nat} (h:tot E φ H' k):tot E φ H k:=h.imp id d.own
theorem cI.dom {H H':HF} (d:uY H H') {φ:PM} {E:Nat->Prop} {w:World} {x:AV} {v:Value} (h:cI φ (tot E φ H) w x v):cI φ (tot E φ H') w x v:=
 h.ext (λ_ _ h=>h) (Kh.refl _ w) λ_ _ hk=>d.tot hk
theorem mZ.dom {H H':HF} (d:uY H H') {φ:PM} {E:Nat->Prop} {w:World} {x:FV} {v:Value} (h:mZ (tot E φ H) w x v):mZ (tot E φ H') w x v:=
 h.ext (Kh.refl _ w) λ_ _ hk=>d.tot hk
theorem Le.toH {H H':HF} (d:uY H H') {x y:AV} (h:Le x y):lB H H' x y:=λφ E w v _ hr=>(h _ _ _ _ hr).dom d
theorem lB.refl {H H':HF} (d:uY H H') (x:AV):lB H H' x x:=(Le.refl x).toH d
def ia (H H':HF):List AV->List AV->Prop
 |[],[]=>True
 |x::xs,y::I=>lB H H' x y/\ia H H' xs I
 |_,_=>False
theorem ia.refl {H H':HF} (d:uY H H'):∀ l,ia H H' l l
 |[]=>trivial
 |x::r=>⟨lB.refl d x,ia.refl d r⟩
theorem ia.length {H H':HF}:∀ {l I:List AV},ia H H' l I->I.length=l.length
 |[],[],_=>rfl
 |[],_::_,h=>h.elim
 |_::_,[],h=>h.elim
 |_::_,_::_,h=>by simp[ia.length h.2]
theorem ia.get {H H':HF}:∀ {l J:List AV},ia H H' l J->∀ (j:Nat) y,J[j]? =af y->∃ x,l[j]? =af x/\lB H H' x y
 |[],[],_,j,y,I=>by simp at I
 |[],_::_,h,_,_,_=>h.elim
 |_::_,[],h,_,_,_=>h.elim
 |x::xs,z::ys,h,j,y,I=>by
  cases j with
  |zero=>simp at I;subst I;exact⟨x,rfl,h.1⟩
  |succ j=>simpa using ia.get h.2 j y (by simpa using I)
theorem ia.append {H H':HF}:∀ {a a' b b':List AV},ia H H' a a'->ia H H' b b'->ia H H' (a++b) (a'++b')
 |[],[],_,_,_,h=>h
 |[],_::_,_,_,h,_=>h.elim
 |_::_,[],_,_,h,_=>h.elim
 |_::_,_::_,_,_,h,h'=>⟨h.1,ia.append h.2 h'⟩
theorem ia.take {H H':HF}:∀ {a a':List AV} (n:Nat),ia H H' a a'->ia H H' (a.take n) (a'.take n)
 |[],[],n,_=>by simp[ia]
 |[],_::_,_,h=>h.elim
 |_::_,[],_,h=>h.elim
 |_::_,_::_,0,_=>trivial
 |_::_,_::_,n+1,h=>⟨h.1,ia.take n h.2⟩
theorem ia.drop {H H':HF}:∀ {a a':List AV} (n:Nat),ia H H' a a'->ia H H' (a.drop n) (a'.drop n)
 |[],[],n,_=>by simp[ia]
 |[],_::_,_,h=>h.elim
 |_::_,[],_,h=>h.elim
 |_::_,_::_,0,h=>h
 |_::_,_::_,n+1,h=>ia.drop n h.2
theorem ia.splice {H H':HF} {a a' b b':List AV} (off:Nat) (h1:ia H H' a a') (h2:ia H H' b b'):ia H H' (splice a off b) (splice a' off b'):=by
 unfold AI.splice;rw[h2.length];exact ((h1.take off).append h2).append (h1.drop _)
def jU (H H':HF) (b b':wG):Prop:=∀ (φ:PM) (E:Nat->Prop) (w:World) (o:Obj),qL φ E H w->jq φ (tot E φ H) w b o->jq φ (tot E φ H') w b' o
theorem jU.refl {H H':HF} (d:uY H H') (b:wG):jU H H' b b:=λ_ _ _ _ _ h=>h.mono λ_ _ h=>h.dom d
theorem pm {φ:PM} {O:Nat->Prop} {w:World} {ty:TypeId} {c:BC} {o:Obj} (hc:c.isCells=ai):jq φ O w ⟨ty,c⟩ o↔∃ arr,o= .cells arr ty (0,0)/\uZ φ O w c arr:=by
 unfold jq;cases c<;>simp[BC.isCells] at hc<;>rfl
theorem jU.cells {H H':HF} {ty:TypeId} {c c':BC} (hc:c.isCells=ai) (I:c'.isCells=ai) (hl:ia H H' c.toMx c'.toMx) (hcell:∀ x∈c'.toMx,x.isCell=ai):jU H H' ⟨ty,c⟩ ⟨ty,c'⟩:=by
 intro φ E w o hrep M;rw[pm hc] at M;rw[pm I];obtain⟨arr,h1,h2,h3⟩:=M;refine ⟨arr,h1,by rw[BC.len_toMx I,hl.length,<-BC.len_toMx hc];exact h2,λj x J=>?_⟩;rw[BC.get_toMx I] at J;refine ⟨hcell x (a_ J),?_⟩;obtain⟨y,U,hle⟩:=hl.get j x J;obtain⟨_,v,Z,Y⟩:=h3 j y (by rw[BC.get_toMx hc];exact U);exact⟨v,Z,hle _ _ _ _ hrep Y⟩
theorem jU.eq {H H':HF} (d:uY H H') {ty:TypeId} {c c':BC} (hc:c.isCells=ai) (I:c'.isCells=ai) (hl:c.toMx=c'.toMx):jU H H' ⟨ty,c⟩ ⟨ty,c'⟩:=by
 intro φ E w o hrep M;rw[pm hc] at M;rw[pm I];obtain⟨arr,h1,h2,h3⟩:=M;refine ⟨arr,h1,by rw[BC.len_toMx I,<-hl,<-BC.len_toMx hc];exact h2,λj x J=>?_⟩;rw[BC.get_toMx I,<-hl,<-BC.get_toMx hc] at J;obtain⟨Z,v,Y,U⟩:=h3 j x J;exact⟨Z,v,Y,U.dom d⟩
structure J4 (H H':HF):Prop where
 dom:uY H H'
 blk:∀ i b b',H i=af b->H' i=af b'->jU H H' b b'
theorem J4.refl (H:HF):J4 H H:=⟨uY.refl H,λi b b' h h'=>by rw[h] at h';cases h';exact jU.refl (uY.refl H) b⟩
theorem J4.rep {H H':HF} (V:J4 H H') {φ:PM} {E:Nat->Prop} {w:World} (r:qL φ E H w):qL φ E H' w:=by
 refine ⟨λi j b b' k J Z Y U=>?_,λi b J=>?_,r.el,λg cells hg=>(r.gl g cells hg).dom V.dom⟩
 .obtain⟨b0,I⟩:=V.dom i b J;obtain⟨b1,M⟩:=V.dom j b' Z;exact r.inj i j b0 b1 k I M Y U
 .obtain⟨b0,I⟩:=V.dom i b J;obtain⟨k,p1,p2,ob,p3,p4⟩:=r.at_ i b0 I;exact⟨k,p1,p2,ob,p3,V.blk i b0 b I J φ E w ob r p4⟩
theorem gG.view {P:Program} {o:Oper} {e:EF} {h:HF} {val val':AV} {rd wr wr' N:List Nat} {nw nw':HF} (ht:gG P o e h ⟨val,rd,wr,nw,N⟩) (hsub:∀ i∈wr,i∈wr'\/i∈rd)
 (hv:∀ h':HF,(∀ i∈rd,h' i=h i)->(∀ i∈wr',h' i=h i)->J4 (eL h' wr nw) (eL h' wr' nw')/\lB (eL h' wr nw) (eL h' wr' nw') val val'):gG P o e h ⟨val',rd,wr',nw',N⟩:=by
 intro φ E h' w a h1 h2 Z Y U;have J:=ht φ E h' w a h1 (λi hi=>(hsub i hi).elim (h2 i) (h1 i)) Z Y U;obtain⟨V,hle⟩:=hv h' h1 h2;refine OU ?_ J;rintro a' w' ⟨v,φ',rfl,mv,nm',I,rel⟩;exact⟨v,φ',rfl,⟨mv.sub,mv.ext,λk hk M=>mv.own_ k hk (V.dom.own M)⟩,nm',V.rep I,hle _ _ _ _ I rel⟩
theorem Le.nil:Le (.f (.raw (.slice ah 0 0))) (.f (.sl [] 0)):=by
 intro φ O w v hr;cases hr with
 |f hr=>cases hr;exact .f (.nil ah 0 (by unfold maxLen;omega))
theorem Le.emp:Le .emp (.f (.sl [] 0)):=by
 intro φ O w v hr;cases hr with
 |emp=>exact .f (.nil _ 0 (by unfold maxLen;omega))
theorem Le.nilEmp:Le (.f (.raw (.slice ah 0 0))) .emp:=by
 intro φ O w v hr;cases hr with
 |f hr=>cases hr;exact .emp
theorem Le.aggF {l:List FV}:Le (.f (.agg l)) (.agg (l.map .f)):=by
 intro φ O w v hr;cases hr with
 |f hr=>
  cases hr with
  |agg _ vs hl hcl hrr=>
   refine .agg (by simp[hl]) (λx I=>?_) λj x u I hu=>?_
   .obtain⟨y,J,rfl⟩:=dh.1 I;exact hcl y J
   .rw[ba] at I;cases hc:l[j]? with
    |none=>rw[hc] at I;cases I
    |some y=>rw[hc] at I;simp at I;subst I;exact .f (hrr j y u hc hu)
theorem Y_ (l:List AV):Le (LU l) (.agg l):=by
 unfold LU;split
 .rename_i fs h;rw[pA h];exact Le.aggF
 .exact Le.refl _
theorem lB.aggL {H H':HF} {l:List AV} {I:List FV} (h:ia H H' l (I.map .f)) (hc:∀ x∈I,x.isCell=ai):lB H H' (.agg l) (.f (.agg I)):=by
 intro φ E w v hrep hr;cases hr with
 |@agg _ vs hl hcl hrr=>
  refine .f (.agg I vs (by rw[hl,<-h.length];simp) hc λj y u J hu=>?_);obtain⟨x,M,hle⟩:=h.get j (.f y) (by rw[ba,J];rfl);have:=hle φ E w u hrep (hrr j x u M hu);cases this with
  |f h=>exact h
theorem lB.row {H H':HF} (d:uY H H') {id sz n:Nat} {ty:TypeId} {cells:List FV} (h1:H id=af ⟨ty,.fz cells⟩) (h2:H' id=ah) (hl:cells.length=n*sz):lB H H' (.row id sz n) (.f (.sl cells n)):=by
 intro φ E w v r hr;cases hr with
 |@row _ _ _ c k hφ hn hcap hsh=>
  obtain⟨k',U,Y,_⟩:=r.at_ id _ h1;rw[hφ] at U;cases U;obtain⟨arr,p1,p2,p3⟩:=r.cs h1 hφ rfl;have hk:k<w.heap.size:=(cC.1 p1).1;have hlen:cells.length<=arr.size:=by simpa[BC.toMx] using p3
  have hnk:¬tot E φ H' k:=by
   rintro (Z|⟨j,b,J,M⟩)
   .exact Y Z
   .obtain⟨b0,g3⟩:=d j b J;have:=r.inj j id b0 _ k g3 h1 M hφ;subst this;rw[h2] at J;cases J
  have hget:∀ (j:Nat) x,cells[j]? =af x->∃ u,arr[j]? =af u/\mZ (tot E φ H) w x u:=λj x I=>by
   have hj:j<cells.length:=(bh.1 I).1;have hja:j<arr.size:=by omega
   refine ⟨arr[j],by simp[hja],?_⟩;have:=p2.2.2 j (.f x) arr[j] (by simp[BC.toMx,I]) (by
    rw[cM,aF (by simpa[BC.toMx] using hj),cF];simp[hja])
   cases this with
   |f h=>exact h
  refine .f (.sl cells n c k 0 (λj=>(arr[j]?).getD undef) hn hcap hnk hk (λx I=>?_) (λj hj=>?_) (λj x I=>?_))
  .have:=p2.2.1 (.f x) (by simp only[BC.toMx];exact dh.2 ⟨x,I,rfl⟩);exact this
  .have:j<arr.size:=by omega
   simp[ML,p1,this]
  .obtain⟨u,J,M⟩:=hget j x I;rw[J];exact M.dom d
theorem rZ:∀ l:List Xp,I1 l=l.flatMap v9
 |[]=>rfl
 |x::r=>by rw[I1,rZ r];rfl
theorem yR:∀ l:List Sx,I0 l=l.flatMap xJ
 |[]=>rfl
 |x::r=>by rw[I0,yR r];rfl
theorem IZ (e:Xp):bQ L_ (MS e)=v9 e:=by
 cases e with
 |mk op n name l=>simp only[L_,MS,bQ,v9,Xp.op,Xp.n,Xp.name,Xp.l,rZ];rfl
theorem QF (x:L_.den):v9 (dT x)=bQ L_ x:=by
 simp only[L_,dT,bQ,v9,rZ];rfl
theorem IY (e:Sx):bQ LK (MR e)=xJ e:=by
 cases e with
 |mk op line name arg index expr body els=>simp only[LK,MR,bQ,xJ,Sx.op,Sx.line,Sx.name,Sx.arg,Sx.index,Sx.expr,Sx.body,Sx.els,rZ,yR];rfl
theorem QE (x:LK.den):xJ (nE x)=bQ LK x:=by
 simp only[LK,nE,bQ,xJ,rZ,yR];rfl
theorem xk (e:Xp):(v9 e).length=4:=by cases e;simp[v9]
theorem CH (e:Sx):(xJ e).length=11:=by cases e;simp[xJ,xk]
theorem bA:∀ (T:Ty) (v:T.den),(bQ T v).length=T.size
 |.int _,_=>rfl
 |.bool,_=>rfl
 |.str,_=>rfl
 |.sl _,_=>rfl
 |.st t,v=>bA t v
 |.pr a b,v=>by simp[bQ,Ty.size,bA a,bA b]
 |.un,_=>rfl
 |.ex,v=>xk v
 |.sm,v=>CH v
theorem I2 (e:Xp):∀ x∈v9 e,x.isCell=ai:=by
 cases e with
 |mk op n name l=>
  intro x I;simp only[v9,bi,cr,fY] at I;rcases I with rfl|rfl|rfl|rfl<;>rfl
theorem TZ (e:Sx):∀ x∈xJ e,x.isCell=ai:=by
 cases e with
 |mk op line name arg index expr body els=>
  intro x I;simp only[xJ,bW,bi,cr,fY] at I;rcases I with (I|I)|I
  .rcases I with rfl|rfl|rfl|rfl|rfl<;>rfl
  .exact I2 _ _ I
  .rcases I with rfl|rfl<;>rfl
theorem nN:∀ (T:Ty) (v:T.den),∀ x∈bQ T v,x.isCell=ai
 |.int _,_,x,I=>by simp only[bQ,aL] at I;subst I;rfl
 |.bool,_,x,I=>by simp only[bQ,aL] at I;subst I;rfl
 |.str,_,x,I=>by simp only[bQ,aL] at I;subst I;rfl
 |.sl _,_,x,I=>by simp only[bQ,aL] at I;subst I;rfl
 |.st t,v,x,I=>nN t v x I
 |.pr a b,v,x,I=>by
  simp only[bQ,bW] at I;exact I.elim (nN a v.1 x) (nN b v.2 x)
 |.un,_,x,I=>by simp[bQ] at I
 |.ex,v,x,I=>I2 v x I
 |.sm,v,x,I=>TZ v x I
theorem CI:∀ (T:Ty) (v:T.den),T.one=ai->bQ T v=[gC T v]/\T.size=1
 |.int _,_,_=>⟨rfl,rfl⟩
 |.bool,_,_=>⟨rfl,rfl⟩
 |.str,_,_=>⟨rfl,rfl⟩
 |.sl _,_,_=>⟨rfl,rfl⟩
 |.st _,_,h=>by cases h
 |.pr _ _,_,h=>by cases h
 |.un,_,h=>by cases h
 |.ex,_,h=>by cases h
 |.sm,_,h=>by cases h
theorem qj:∀ (T:Ty) (v:T.den),T.one=aj->gC T v= .agg (bQ T v)
 |.int _,_,h=>by cases h
 |.bool,_,h=>by cases h
 |.str,_,h=>by cases h
 |.sl _,_,h=>by cases h
 |.st _,_,_=>rfl
 |.pr _ _,_,_=>rfl
 |.un,_,_=>rfl
 |.ex,_,_=>rfl
 |.sm,_,_=>rfl
theorem zO (T:Ty) (v:T.den):(AV.f (gC T v)).cs=(bQ T v).map .f:=by
 cases h:T.one with
 |true=>
  rw[(CI T v h).1];cases T<;>simp only[Ty.one] at h<;>first|rfl|cases h
 |false=>rw[qj T v h];rfl
theorem fA {α:Type} {f:α->List FV} {n:Nat} (hf:∀ x,(f x).length=n):∀ (xs:List α),(xs.flatMap f).length=xs.length*n
 |[]=>by simp
 |x::r=>by rw[fH,bu,hf,fA hf r,bZ,iM];omega
theorem Ee {α:Type} {f:α->List FV} {n:Nat} (hf:∀ x,(f x).length=n):∀ (xs:List α) (j:Nat) (x:α),xs[j]? =af x->∃ r,(xs.flatMap f).drop (j*n)=f x++r
 |[],j,x,h=>by simp at h
 |y::r,j,x,h=>by
  cases j with
  |zero=>simp at h;subst h;exact⟨r.flatMap f,by simp⟩
  |succ j=>
   obtain⟨q,hq⟩:=Ee hf r j x (by simpa using h);refine ⟨q,?_⟩;rw[fH,show (j+1)*n=(f y).length+j*n from by rw[hf,iM];omega,uD];simp[hq]
theorem Qp {α:Type} {f:α->List FV} {n:Nat} (hf:∀ x,(f x).length=n):∀ (xs:List α) (j:Nat) (x z:α),xs[j]? =af x->∀ (off:Nat) (vs:List FV),off+vs.length<=n->f z=AI.splice (f x) off vs->(xs.set j z).flatMap f=AI.splice (xs.flatMap f) (j*n+off) vs
 |[],j,x,z,h,_,_,_,_=>by simp at h
 |y::r,j,x,z,h,off,vs,hle,I=>by
  cases j with
  |zero=>
   simp at h;subst h;simp only[List.set_cons_zero,fH,I,Nat.zero_mul,bN];unfold AI.splice;have M:=hf y;rw[List.take_append,uD];have e1:off-(f y).length=0:=by omega
   have e2:off+vs.length-(f y).length=0:=by omega
   rw[e1,e2];simp[jJ]
  |succ j=>
   have J:=Qp hf r j x z (by simpa using h) off vs hle I;simp only[List.set_cons_succ,fH,J];unfold AI.splice;have M:=hf y;have e0:(j+1)*n=(f y).length+j*n:=by rw[hf,iM];omega
   rw[e0,List.take_append,uD];have e1:(f y).length+j*n+off-(f y).length=j*n+off:=by omega
   have e2:(f y).length+j*n+off+vs.length-(f y).length=j*n+off+vs.length:=by omega
   rw[e1,e2,eV (by omega:(f y).length<=(f y).length+j*n+off),rB (by omega:(f y).length<=(f y).length+j*n+off+vs.length)];simp[jJ]
theorem rm (T:Ty) (xs:List T.den):∀ x∈xs.flatMap (bQ T),x.isCell=ai:=λx I=>by
 obtain⟨y,_,h⟩:=uA.1 I;exact nN T y x h
theorem ja {S T:Ty} {v:S.den} {x:T.den} (h:wy T v=af x):∃ e:S=T,x=e▸v:=by
 unfold wy at h;split at h
 .rename_i e;simp only[ak] at h;exact⟨e,h.symm⟩
 .cases h
theorem lz (h:bf):∀ (n:Nat) (T:Ty) (v:T.den) (l:List TV),cellsOf n T v=af l->cH h l=af ((bQ T v).map .f)/\kn l=ai
 |0,_,_,_,he=>by simp[cellsOf] at he
 |n+1,.st t,v,l,he=>lz h n t v l he
 |n+1,.pr a b,v,l,he=>by
  simp only[cellsOf] at he;split at he
  .rename_i x y J I;simp only[ak] at he;subst he;obtain⟨h1,h2⟩:=lz h n a v.1 x J;obtain⟨M,Y⟩:=lz h n b v.2 y I;refine ⟨by rw[bQ,cN];exact mW h1 M,?_⟩;clear h1 M J I;induction x with
   |nil=>exact Y
   |cons z r U=>simp only[kn,av,gh] at h2 ⊢;exact⟨h2.1,U h2.2⟩
  .cases he
 |n+1,.un,v,l,he=>by simp only[cellsOf,ak] at he;subst he;exact⟨rfl,rfl⟩
 |n+1,.ex,v,l,he=>by rw[bQ,<-IZ];exact lz h n L_ (MS v) l he
 |n+1,.sm,v,l,he=>by rw[bQ,<-IY];exact lz h n LK (MR v) l he
 |n+1,.int k,v,l,he=>by simp only[cellsOf,ak] at he;subst he;exact⟨rfl,rfl⟩
 |n+1,.bool,v,l,he=>by simp only[cellsOf,ak] at he;subst he;exact⟨rfl,rfl⟩
 |n+1,.str,v,l,he=>by simp only[cellsOf,ak] at he;subst he;exact⟨rfl,rfl⟩
 |n+1,.sl t,v,l,he=>by simp only[cellsOf,ak] at he;subst he;exact⟨rfl,rfl⟩
theorem M_ {y:AV} (h:y.isCell=ai):y.cs=[y]:=by
 cases y with
 |f x=>cases x<;>first|rfl|cases h
 |agg l=>cases h
 |_=>rfl
theorem Jz {h:bf} {v:TV} {l:List TV} {y:AV} (hv:v.cs=af l) (I:cj h v=af y):cH h l=af y.cs/\kn l=ai:=by
 have one:(if v.isC then af [v] else ah)=af l->cH h l=af y.cs/\kn l=ai:=λhv=>by
  split at hv
  .rename_i hc;simp only[ak] at hv;subst hv;exact⟨by rw[M_ (Nm I hc)];exact oN I rfl,by simp[kn,hc]⟩
  .cases hv
 cases v with
 |agg q=>
  simp only[TV.cs] at hv;split at hv
  .rename_i hc;simp only[ak] at hv;subst hv;simp only[cj] at I;split at I
   .rename_i J hl;simp only[ak] at I;subst I;exact⟨hl,hc⟩
   .cases I
  .cases hv
 |f T x=>
  simp only[TV.cs] at hv;simp only[cj,ak] at I;subst I;rw[zO];exact lz h 40 T x l hv
 |fel T xs j hj off=>exact one hv
 |pel id sz j off=>exact one hv
 |ptr id off=>exact one hv
 |csl id off z=>exact one hv
 |row id=>exact one hv
 |emp=>exact one hv
 |nil=>exact one hv
 |mp id=>exact one hv
 |rtl id M=>exact one hv
 |tup q=>exact one hv
 |clo g q=>exact one hv
 |undef=>exact one hv
 |np=>exact one hv
 |anyb=>exact one hv
def Dv (h:bf) (H H':HF) (m:Nat):Prop:=∀ id,aN m id=ai->H (nm id)=bz h (nm id)/\H' (nm id)=ah
theorem Dv.zero {h:bf} {H H':HF}:Dv h H H' 0:=λid hid=>by simp at hid
theorem Dv.or {h:bf} {H H':HF} {a b:Nat} (g:Dv h H H' (a|||b)):Dv h H H' a/\Dv h H H' b:=
 ⟨λid hid=>g id (by rw[bn,hid];rfl),λid hid=>g id (by rw[bn,hid];simp)⟩
theorem bX {i j:Nat}:aN (kG i) j=ai↔i=j:=by
 unfold kG;rw[Nat.one_shiftLeft,Nat.testBit_two_pow];simp
section pack
variable {h:bf} {H H':HF}
theorem xu (d:uY H H') {T:Ty} {v:TV} {x:T.den} {m:Nat} {y:AV} (I:iD h T v=af (x,m)) (J:cj h v=af y) (g:Dv h H H' m):lB H H' y (.f (gC T x))/\y.cs.length=T.size/\(T.one=ai->y.isCell=ai)/\ia H H' y.cs ((bQ T x).map .f):=by
 cases v with
 |f S v=>
  simp only[iD] at I;split at I
  .rename_i z M;simp only[ak,aD] at I;obtain⟨rfl,_⟩:=I;obtain⟨e,rfl⟩:=ja M;subst e;simp only[cj,ak] at J;subst J;refine ⟨lB.refl d _,by rw[zO,bY,bA],λY=>?_,by rw[zO];exact ia.refl d _⟩;cases S<;>simp only[Ty.one] at Y<;>first|rfl|cases Y
  .cases I
 |emp=>
  simp only[iD] at I;split at I
  .simp only[ak,aD] at I;obtain⟨rfl,_⟩:=I;simp only[cj,ak] at J;subst J;exact⟨Le.emp.toH d,rfl,λ_=>rfl,⟨Le.emp.toH d,trivial⟩⟩
  .cases I
 |nil=>
  simp only[iD] at I;split at I
  .simp only[ak,aD] at I;obtain⟨rfl,_⟩:=I;simp only[cj,ak] at J;subst J;exact⟨Le.nil.toH d,rfl,λ_=>rfl,⟨Le.nil.toH d,trivial⟩⟩
  .cases I
 |row id=>
  simp only[iD] at I;split at I
  .rename_i ty p S xs hb;split at I
   .rename_i z M;simp only[ak,aD] at I;obtain⟨rfl,rfl⟩:=I;obtain⟨e,rfl⟩:=ja M;subst e;obtain⟨U,Z⟩:=g id (bX.2 rfl);rw[bI,hb] at U;simp only[cj,eh,hb,ak] at J;subst J;have key:lB H H' (fm p id S.size xs.length) (.f (gC (.sl S) xs)):=by
     unfold fm;split
     .rename_i hp;simp only[av,cR] at hp;have:xs=[]:=gD.1 hp.2;subst this;exact Le.emp.toH d
     .rename_i hp;simp only[aH,kr,aC hp] at U;exact lB.row d U Z (fA (bA S) xs)
    have hc:(fm p id S.size xs.length).isCell=ai:=by unfold fm;split<;>rfl
    refine ⟨key,by rw[M_ hc];rfl,λ_=>hc,?_⟩;rw[M_ hc];exact⟨key,trivial⟩
   .cases I
  .cases I
 |fel T xs j hj off=>simp[iD] at I
 |pel id sz j off=>simp[iD] at I
 |ptr id off=>simp[iD] at I
 |csl id off z=>simp[iD] at I
 |mp id=>simp[iD] at I
 |rtl id jj=>simp[iD] at I
 |agg q=>simp[iD] at I
 |tup q=>simp[iD] at I
 |clo f q=>simp[iD] at I
 |undef=>simp[iD] at I
 |np=>simp[iD] at I
 |anyb=>simp[iD] at I
theorem rP (d:uY H H'):∀ (n:Nat) (T:Ty) (l:List TV) (x:T.den) (m:Nat) (r:List TV) (I:List AV),eT h n T l=af (x,m,r)->cH h l=af I->Dv h H H' m->∃ l1 l2,I=l1++l2/\cH h r=af l2/\ia H H' l1 ((bQ T x).map .f)
 |0,_,_,_,_,_,_,hp,_,_=>by simp[eT] at hp
 |n+1,.st t,l,x,m,r,I,hp,hl,g=>rP d n t l x m r I hp hl g
 |n+1,.pr a b,l,x,m,r,I,hp,hl,g=>by
  simp only[eT] at hp;split at hp
  .rename_i J m1 r1 h1;split at hp
   .rename_i Y m2 r2 h2;simp only[ak,aD] at hp;obtain⟨rfl,rfl,rfl⟩:=hp;obtain⟨ga,gb⟩:=g.or;obtain⟨l1,l2,rfl,U,M⟩:=rP d n a l J m1 r1 I h1 hl ga;obtain⟨l3,Z,rfl,q3,q4⟩:=rP d n b r1 Y m2 r2 l2 h2 U gb;refine ⟨l1++l3,Z,by simp,q3,?_⟩;rw[bQ,cN];exact M.append q4
   .cases hp
  .cases hp
 |n+1,.un,l,x,m,r,I,hp,hl,g=>by
  simp only[eT,ak,aD] at hp;obtain⟨_,_,rfl⟩:=hp;exact⟨[],I,rfl,hl,trivial⟩
 |n+1,.ex,l,x,m,r,I,hp,hl,g=>by
  simp only[eT] at hp;split at hp
  .rename_i J m1 r1 h1;simp only[ak,aD] at hp;obtain⟨rfl,rfl,rfl⟩:=hp;rw[bQ,QF];exact rP d n L_ l J m1 r1 I h1 hl g
  .cases hp
 |n+1,.sm,l,x,m,r,I,hp,hl,g=>by
  simp only[eT] at hp;split at hp
  .rename_i J m1 r1 h1;simp only[ak,aD] at hp;obtain⟨rfl,rfl,rfl⟩:=hp;rw[bQ,QE];exact rP d n LK l J m1 r1 I h1 hl g
  .cases hp
 |n+1,.int k,l,x,m,r,I,hp,hl,g=>by
  simp only[eT] at hp;split at hp
  .rename_i c q;split at hp
   .rename_i J m1 h1;simp only[ak,aD] at hp;obtain⟨rfl,rfl,rfl⟩:=hp;obtain⟨y,l2,rfl,U,M⟩:=cS hl;exact⟨[y],l2,rfl,M,⟨(xu d h1 U g).1,trivial⟩⟩
   .cases hp
  .cases hp
 |n+1,.bool,l,x,m,r,I,hp,hl,g=>by
  simp only[eT] at hp;split at hp
  .rename_i c q;split at hp
   .rename_i J m1 h1;simp only[ak,aD] at hp;obtain⟨rfl,rfl,rfl⟩:=hp;obtain⟨y,l2,rfl,U,M⟩:=cS hl;exact⟨[y],l2,rfl,M,⟨(xu d h1 U g).1,trivial⟩⟩
   .cases hp
  .cases hp
 |n+1,.str,l,x,m,r,I,hp,hl,g=>by
  simp only[eT] at hp;split at hp
  .rename_i c q;split at hp
   .rename_i J m1 h1;simp only[ak,aD] at hp;obtain⟨rfl,rfl,rfl⟩:=hp;obtain⟨y,l2,rfl,U,M⟩:=cS hl;exact⟨[y],l2,rfl,M,⟨(xu d h1 U g).1,trivial⟩⟩
   .cases hp
  .cases hp
 |n+1,.sl t,l,x,m,r,I,hp,hl,g=>by
  simp only[eT] at hp;split at hp
  .rename_i c q;split at hp
   .rename_i J m1 h1;simp only[ak,aD] at hp;obtain⟨rfl,rfl,rfl⟩:=hp;obtain⟨y,l2,rfl,U,M⟩:=cS hl;exact⟨[y],l2,rfl,M,⟨(xu d h1 U g).1,trivial⟩⟩
   .cases hp
  .cases hp
theorem SU (d:uY H H') {n:Nat} {T:Ty} {l:List TV} {x:T.den} {m:Nat} {I:List AV} (hp:eT h n T l=af (x,m,[])) (hl:cH h l=af I) (g:Dv h H H' m):ia H H' I ((bQ T x).map .f):=by
 obtain⟨l1,l2,rfl,J,M⟩:=rP d n T l x m [] I hp hl g;simp only[cH,ak] at J;subst J;simpa using M
theorem Ow (d:uY H H') {T:Ty} {v:TV} {x:T.den} {m:Nat} {y:AV} (I:Di h T v=af (x,m)) (J:cj h v=af y) (g:Dv h H H' m):lB H H' y (.f (gC T x))/\ia H H' y.cs ((bQ T x).map .f):=by
 have other:iD h T v=af (x,m)->lB H H' y (.f (gC T x))/\ia H H' y.cs ((bQ T x).map .f):=λI=>by
  obtain⟨h1,_,_,h2⟩:=xu d I J g;exact⟨h1,h2⟩
 cases v with
 |agg l=>
  simp only[Di] at I;split at I
  .cases I
  .rename_i U;split at I
   .rename_i M m1 h1;simp only[ak,aD] at I;obtain⟨rfl,rfl⟩:=I;simp only[cj] at J;split at J
    .rename_i Y hl;simp only[ak] at J;subst J;have:=SU d h1 hl g;refine ⟨?_,this⟩;rw[qj T M (by simpa using U)];exact lB.aggL this (nN T M)
    .cases J
   .cases I
 |f S v=>exact other I
 |fel T xs j hj off=>exact other I
 |pel id sz j off=>exact other I
 |ptr id off=>exact other I
 |csl id off z=>exact other I
 |row id=>exact other I
 |emp=>exact other I
 |nil=>exact other I
 |mp id=>exact other I
 |rtl id Z=>exact other I
 |tup q=>exact other I
 |clo g q=>exact other I
 |undef=>exact other I
 |np=>exact other I
 |anyb=>exact other I
theorem B8 (d:uY H H') {T:Ty}:∀ (n:Nat) (l:List TV) (xs:List T.den) (m:Nat) (I:List AV),ym h T n l=af (xs,m)->cH h l=af I->Dv h H H' m->ia H H' I ((xs.flatMap (bQ T)).map .f)/\xs.length=n
 |0,[],xs,m,I,hp,hl,g=>by
  simp only[ym,ak,aD] at hp;obtain⟨rfl,_⟩:=hp;simp only[cH,ak] at hl;subst hl;exact⟨trivial,rfl⟩
 |0,_::_,xs,m,I,hp,hl,g=>by simp[ym] at hp
 |n+1,l,xs,m,I,hp,hl,g=>by
  simp only[ym] at hp;split at hp
  .rename_i M m1 r1 h1;split at hp
   .rename_i J m2 h2;simp only[ak,aD] at hp;obtain⟨rfl,rfl⟩:=hp;obtain⟨ga,Z⟩:=g.or;obtain⟨l1,l2,rfl,Y,U⟩:=rP d 40 T l M m1 r1 I h1 hl ga;obtain⟨q3,q4⟩:=B8 d n r1 J m2 l2 h2 Y Z;refine ⟨?_,by simp[q4]⟩;rw[fH,cN];exact U.append q3
   .cases hp
  .cases hp
theorem ub (h:bf):∀ (n:Nat) (T:Ty) (v:T.den) (off sz:Nat) (ag:Bool) (u:TV),nS n T v off sz ag=af u->off+sz<=T.size/\∃ y,cj h u=af (.f y)/\(ag=aj->sz=1/\(bQ T v)[off]? =af y)/\(ag=ai->y= .agg (((bQ T v).drop off).take sz))
 |0,_,_,_,_,_,_,hg=>by simp[nS] at hg
 |n+1,.st t,v,off,sz,ag,u,hg=>by
  simp only[nS] at hg;split at hg
  .rename_i hc;simp only[av] at hc;obtain⟨⟨h1,h2⟩,rfl⟩:=hc;have h1:=aw h1;have h2:=aw h2;subst h1;subst h2;simp only[ak] at hg;subst hg;refine ⟨by simp[Ty.size],_,rfl,λh=>(by cases h),λ_=>?_⟩;simp only[gC,bQ,List.drop_zero];rw[<- bA t v,cP]
  .exact ub h n t v off sz ag u hg
 |n+1,.pr a b,v,off,sz,ag,u,hg=>by
  simp only[nS] at hg;have hla:=bA a v.1;have hlb:=bA b v.2;split at hg
  .rename_i hlt;have hlt:off<a.size:=a8 hlt;obtain⟨h1,y,h2,J,I⟩:=ub h n a v.1 off sz ag u hg;refine ⟨by simp only[Ty.size];omega,y,h2,λe=>?_,λe=>?_⟩
   .obtain⟨U,M⟩:=J e;exact⟨U,by rw[bQ,bG (by omega)];exact M⟩
   .rw[I e,bQ];have:((bQ a v.1++bQ b v.2).drop off).take sz=((bQ a v.1).drop off).take sz:=by
     rw[Du (by omega),kV (by simp;omega)]
    rw[this]
  .rename_i hlt;have hlt:¬off<a.size:=λh=>hlt (bB h)
   obtain⟨h1,y,h2,J,I⟩:=ub h n b v.2 (off-a.size) sz ag u hg;refine ⟨by simp only[Ty.size];omega,y,h2,λe=>?_,λe=>?_⟩
   .obtain⟨U,M⟩:=J e;exact⟨U,by rw[bQ,bT (by omega),hla];exact M⟩
   .rw[I e,bQ];have:(bQ a v.1++bQ b v.2).drop off=(bQ b v.2).drop (off-a.size):=by
     rw[uD,hla,rB (by omega)];simp
    rw[this]
 |n+1,.un,v,off,sz,ag,u,hg=>by simp[nS] at hg
 |n+1,.ex,v,off,sz,ag,u,hg=>by
  simp only[nS] at hg;split at hg
  .rename_i hc;simp only[av] at hc;obtain⟨⟨h1,h2⟩,rfl⟩:=hc;have h1:=aw h1;have h2:=aw h2;subst h1;subst h2;simp only[ak] at hg;subst hg;refine ⟨by simp[Ty.size],_,rfl,λh=>(by cases h),λ_=>?_⟩;simp only[gC,bQ,List.drop_zero];rw[<- xk v,cP]
  .obtain⟨h1,y,h2,J,I⟩:=ub h n L_ (MS v) off sz ag u hg;rw[IZ] at J I;exact⟨h1,y,h2,J,I⟩
 |n+1,.sm,v,off,sz,ag,u,hg=>by
  simp only[nS] at hg;split at hg
  .rename_i hc;simp only[av] at hc;obtain⟨⟨h1,h2⟩,rfl⟩:=hc;have h1:=aw h1;have h2:=aw h2;subst h1;subst h2;simp only[ak] at hg;subst hg;refine ⟨by simp[Ty.size],_,rfl,λh=>(by cases h),λ_=>?_⟩;simp only[gC,bQ,List.drop_zero];rw[<- CH v,cP]
  .obtain⟨h1,y,h2,J,I⟩:=ub h n LK (MR v) off sz ag u hg;rw[IY] at J I;exact⟨h1,y,h2,J,I⟩
 |n+1,.int k,v,off,sz,ag,u,hg=>by
  simp only[nS] at hg;split at hg
  .rename_i hc;simp only[av,ec] at hc;obtain⟨⟨h1,h2⟩,rfl⟩:=hc;have h1:=aw h1;have h2:=aw h2;subst h1;subst h2;simp only[ak] at hg;subst hg;exact⟨by simp[Ty.size],_,rfl,λ_=>⟨rfl,rfl⟩,λh=>by cases h⟩
  .cases hg
 |n+1,.bool,v,off,sz,ag,u,hg=>by
  simp only[nS] at hg;split at hg
  .rename_i hc;simp only[av,ec] at hc;obtain⟨⟨h1,h2⟩,rfl⟩:=hc;have h1:=aw h1;have h2:=aw h2;subst h1;subst h2;simp only[ak] at hg;subst hg;exact⟨by simp[Ty.size],_,rfl,λ_=>⟨rfl,rfl⟩,λh=>by cases h⟩
  .cases hg
 |n+1,.str,v,off,sz,ag,u,hg=>by
  simp only[nS] at hg;split at hg
  .rename_i hc;simp only[av,ec] at hc;obtain⟨⟨h1,h2⟩,rfl⟩:=hc;have h1:=aw h1;have h2:=aw h2;subst h1;subst h2;simp only[ak] at hg;subst hg;exact⟨by simp[Ty.size],_,rfl,λ_=>⟨rfl,rfl⟩,λh=>by cases h⟩
  .cases hg
 |n+1,.sl t,v,off,sz,ag,u,hg=>by
  simp only[nS] at hg;split at hg
  .rename_i hc;simp only[av,ec] at hc;obtain⟨⟨h1,h2⟩,rfl⟩:=hc;have h1:=aw h1;have h2:=aw h2;subst h1;subst h2;simp only[ak] at hg;subst hg;exact⟨by simp[Ty.size],_,rfl,λ_=>⟨rfl,rfl⟩,λh=>by cases h⟩
  .cases hg
theorem Sy {α:Type} (l vs:List α) (h:vs.length=l.length):AI.splice l 0 vs=vs:=by
 unfold AI.splice;rw[bN,h,List.drop_length];simp
theorem O5 {α:Type} (a b vs:List α) (off:Nat) (h:off+vs.length<=a.length):AI.splice (a++b) off vs=AI.splice a off vs++b:=by
 unfold AI.splice;rw[kV (by omega),Du (by omega)];simp[jJ]
theorem M2 {α:Type} (a b vs:List α) (off:Nat) (h:a.length<=off):AI.splice (a++b) off vs=a++AI.splice b (off-a.length) vs:=by
 unfold AI.splice;rw[List.take_append,uD,eV h,rB (by omega),show off+vs.length-a.length=off-a.length+vs.length from by omega];simp[jJ]
def Wq (H H':HF) (y:AV) (T:Ty) (v z:T.den) (off sz:Nat):Prop:=∃ fs:List FV,ia H H' y.cs (fs.map .f)/\fs.length=sz/\off+sz<=T.size/\bQ T z=AI.splice (bQ T v) off fs/\∀ x∈fs,x.isCell=ai
theorem Wq.whole {y:AV} {T:Ty} {v z:T.den} {off sz:Nat} (h0:off=0) (hs:sz=T.size) (hl:ia H H' y.cs ((bQ T z).map .f)):Wq H H' y T v z off sz:=by
 subst h0;subst hs;exact⟨bQ T z,hl,bA T z,by omega,(Sy _ _ (by rw[bA,bA])).symm,nN T z⟩
theorem vI (d:uY H H') {u:TV} {y:AV} (I:cj h u=af y):∀ (n:Nat) (T:Ty) (v:T.den) (off sz:Nat) (z:T.den) (m:Nat),gI h u n T v off sz=af (z,m)->Dv h H H' m->Wq H H' y T v z off sz
 |0,_,_,_,_,_,_,hg,_=>by simp[gI] at hg
 |n+1,.st t,v,off,sz,z,m,hg,g=>by
  simp only[gI] at hg;split at hg
  .rename_i q hq;split at hq
   .rename_i hc;simp only[av] at hc;simp only[ak] at hg;subst hg;exact .whole (aw hc.1) (aw hc.2) (Ow d hq I g).2
   .cases hq
  .exact vI d I n t v off sz z m hg g
 |n+1,.pr a b,v,off,sz,z,m,hg,g=>by
  simp only[gI] at hg;have hla:=bA a v.1;split at hg
  .rename_i hlt;split at hg
   .rename_i J m1 h1;simp only[ak,aD] at hg;obtain⟨rfl,rfl⟩:=hg;obtain⟨fs,U,M,q3,q4,q5⟩:=vI d I n a v.1 off sz J m1 h1 g;refine ⟨fs,U,M,by simp only[Ty.size];omega,?_,q5⟩;rw[bQ,bQ,O5 _ _ _ _ (by omega),q4]
   .cases hg
  .rename_i hlt;have hlt:¬off<a.size:=λh=>hlt (bB h)
   split at hg
   .rename_i J m1 h1;simp only[ak,aD] at hg;obtain⟨rfl,rfl⟩:=hg;obtain⟨fs,U,M,q3,q4,q5⟩:=vI d I n b v.2 (off-a.size) sz J m1 h1 g;refine ⟨fs,U,M,by simp only[Ty.size];omega,?_,q5⟩;rw[bQ,bQ,M2 _ _ _ _ (by omega),q4,hla]
   .cases hg
 |n+1,.un,v,off,sz,z,m,hg,g=>by simp[gI] at hg
 |n+1,.ex,v,off,sz,z,m,hg,g=>by
  simp only[gI] at hg;split at hg
  .rename_i q hq;split at hq
   .rename_i hc;simp only[av] at hc;simp only[ak] at hg;subst hg;exact .whole (aw hc.1) (aw hc.2) (Ow d hq I g).2
   .cases hq
  .split at hg
   .rename_i J m1 h1;simp only[ak,aD] at hg;obtain⟨rfl,rfl⟩:=hg;obtain⟨fs,U,M,q3,q4,q5⟩:=vI d I n L_ (MS v) off sz J m1 h1 g;exact⟨fs,U,M,q3,by rw[bQ,bQ,QF,q4,IZ],q5⟩
   .cases hg
 |n+1,.sm,v,off,sz,z,m,hg,g=>by
  simp only[gI] at hg;split at hg
  .rename_i q hq;split at hq
   .rename_i hc;simp only[av] at hc;simp only[ak] at hg;subst hg;exact .whole (aw hc.1) (aw hc.2) (Ow d hq I g).2
   .cases hq
  .split at hg
   .rename_i J m1 h1;simp only[ak,aD] at hg;obtain⟨rfl,rfl⟩:=hg;obtain⟨fs,U,M,q3,q4,q5⟩:=vI d I n LK (MR v) off sz J m1 h1 g;exact⟨fs,U,M,q3,by rw[bQ,bQ,QE,q4,IY],q5⟩
   .cases hg
 |n+1,.int k,v,off,sz,z,m,hg,g=>by
  simp only[gI] at hg;split at hg
  .rename_i hc;simp only[av] at hc;exact .whole (aw hc.1) (aw hc.2) (xu d hg I g).2.2.2
  .cases hg
 |n+1,.bool,v,off,sz,z,m,hg,g=>by
  simp only[gI] at hg;split at hg
  .rename_i hc;simp only[av] at hc;exact .whole (aw hc.1) (aw hc.2) (xu d hg I g).2.2.2
  .cases hg
 |n+1,.str,v,off,sz,z,m,hg,g=>by
  simp only[gI] at hg;split at hg
  .rename_i hc;simp only[av] at hc;exact .whole (aw hc.1) (aw hc.2) (xu d hg I g).2.2.2
  .cases hg
 |n+1,.sl t,v,off,sz,z,m,hg,g=>by
  simp only[gI] at hg;split at hg
  .rename_i hc;simp only[av] at hc;exact .whole (aw hc.1) (aw hc.2) (xu d hg I g).2.2.2
  .cases hg
theorem JU:∀ {a b:List Value},RC a b=ai->a=b
 |[],[],_=>rfl
 |[],_::_,h=>by cases h
 |_::_,[],h=>by cases h
 |x::xs,y::ys,h=>by
  simp only[RC,av] at h;rw[adb h.1,JU h.2]
theorem zero_ok (d:uY H H'):∀ T:Ty,ia H H' ((sD T).map raw) ((bQ T T.zero).map .f)
 |.int k=>⟨lB.refl d _,trivial⟩
 |.bool=>⟨lB.refl d _,trivial⟩
 |.str=>⟨lB.refl d _,trivial⟩
 |.sl t=>⟨Le.nil.toH d,trivial⟩
 |.st t=>zero_ok d t
 |.pr a b=>by
  simp only[sD,Ty.zero,bQ,cN];exact (zero_ok d a).append (zero_ok d b)
 |.un=>trivial
 |.ex=>⟨lB.refl d _,lB.refl d _,lB.refl d _,Le.nil.toH d,trivial⟩
 |.sm=>⟨lB.refl d _,lB.refl d _,lB.refl d _,lB.refl d _,Le.nil.toH d,lB.refl d _,lB.refl d _,lB.refl d _,Le.nil.toH d,Le.nil.toH d,Le.nil.toH d,trivial⟩
theorem G4 (d:uY H H') (T:Ty):∀ n,ia H H' ((repl (sD T) n).map .f) (((aG n T.zero).flatMap (bQ T)).map .f)
 |0=>trivial
 |n+1=>by
  rw[repl,List.replicate_succ,fH,cN,cN];have h1:=zero_ok (H:=H) (H':=H') d T;have:((sD T).map .raw).map AV.f=(sD T).map raw:=by rw[zA];rfl
  rw[this];exact h1.append (G4 d T n)
end pack
structure lZ (h:bf) (nx:Nat):Prop where
 cells:∀ id ty l,h.get id=af (.cells ty l)->kJ h l=ai
 low:∀ id b,h.get id=af b->id<nx
def s6 (e:iK) (h:bf):Prop:=∀ t v,e.get t=af v->KC h v=ai
structure jb (P:Program) (o:Oper) (still:Bool) (e:iK) (h:bf) (nx:Nat) (v:TV) (rd wr:Nat) (h':bf) (nx':Nat):Prop where
 ex:∃ f:AL,gG P o (fO e h) (bz h) f/\(∀ y,cj h' v=af y->f.val=y)/\eL (bz h) f.wr f.nw=bz h'/\(∀ n∈f.rd,aN rd (ow n)=ai)/\(∀ n∈f.wr,aN wr (ow n)=ai)/\(∀ n∈f.N,nx<=ow n/\ow n<nx')
 rows:ci h h'
 inv:lZ h' nx'
 grows:nx<=nx'
 st:still=ai->rd=0/\wr=0
def kH {R:Type} (P:Program) (o:Oper) (still:Bool) (e:iK) (h:bf) (nx:Nat) (K:KO R) (r:R):Prop:=
 ∃ v rd wr h' nx',K v rd wr h' nx'=af r/\jb P o still e h nx v rd wr h' nx'
theorem dR {R:Type} {b:Bool} {k:b=ai->Option R} {r:R} (h:chk b k=af r):∃ hb:b=ai,k hb=af r:=by
 cases b with
 |true=>exact⟨rfl,h⟩
 |false=>cases h
theorem ph {R:Type} {b:Bool} {t f:Option R} {r:R} (h:bcase b t f=af r):(b=ai/\t=af r)\/(b=aj/\f=af r):=by
 cases b with
 |true=>exact .inl ⟨rfl,h⟩
 |false=>exact .inr ⟨rfl,h⟩
theorem dD {α R:Type} {o:Option α} {k:α->Option R} {r:R} (h:obind o k=af r):∃ x,o=af x/\k x=af r:=by
 cases o with
 |some x=>exact⟨x,rfl,h⟩
 |none=>cases h
theorem DV {j:Int} {n:Nat} (h:fe j n=ai):0<=j/\j<n/\j.toNat<n:=by
 simp only[fe,cV,fP,av,bP] at h;omega
theorem gG.envLe {P:Program} {o:Oper} {e e2:EF} {h:HF} {f:AL} (ht:gG P o e h f) (hle:∀ t y,.tmp t∈o.op.operands->e t=af y->∃ J,e2 t=af J/\Le J y):gG P o e2 h f:=by
 intro φ E h' w a h1 h2 Z Y U;refine ht φ E h' w a h1 h2 (λt I y M=>?_) Y U;obtain⟨J,g1,g2⟩:=hle t y I M;exact g2 _ _ _ _ (Z t I J g1)
theorem Jx (h:bf) {v:Value} {u:TV} (hc:cst v=af u):cj h u=af (raw v)/\v.oneCell'=ai/\u.isC=ai:=by
 unfold cst at hc;split at hc<;>cases hc<;>exact⟨rfl,rfl,rfl⟩
theorem uV (h:bf):∀ {z:List Value} {l:List TV},Jw z=af l->cH h l=af (z.map raw)/\(∀ x∈z,x.oneCell'=ai)/\kn l=ai
 |[],l,hc=>by simp only[Jw,ak] at hc;subst hc;exact⟨rfl,by simp,rfl⟩
 |v::r,l,hc=>by
  simp only[Jw] at hc;split at hc
  .rename_i x l' J hl;simp only[ak] at hc;subst hc;obtain⟨h1,h2,Z⟩:=Jx h J;obtain⟨Y,U,M⟩:=uV h hl;refine ⟨oN h1 Y,λy I=>?_,by simp[kn,Z,M]⟩;rcases bi.1 I with rfl|I
   .exact h2
   .exact U y I
  .cases hc
theorem bM {e:iK} {h:bf} (hi:s6 e h) {x:Operand} {v:TV} (I:fI e x=af v):∃ y,mw (IV e h) x=af y/\cj h v=af y:=by
 cases x with
 |tmp t=>
  simp only[fI] at I;obtain⟨y,J⟩:=pN h v (hi t v I);refine ⟨y,?_,J⟩;simp only[mw];rw[uQ];simp only[fO,I,aH,J]
 |const c=>
  simp only[fI] at I;unfold aga at I;split at I
  .rename_i vs;split at I
   .rename_i h1;split at I
    .rename_i l hl;simp only[ak] at I;subst I;refine ⟨.agg (vs.toList.map raw),?_,by simp only[cj,(uV h hl).1]⟩;simp only[mw,Ev,h1,bC];rfl
    .cases I
   .cases I
  .rename_i hn;refine ⟨raw c,?_,(Jx h I).1⟩;simp only[mw];unfold Ev;split
   .rename_i vs;exact cU rfl (hn vs)
   .rfl
 |func g=>
  simp only[fI,ak] at I;subst I;exact⟨_,rfl,rfl⟩
 |global g=>
  simp only[fI] at I;cases hg:G g with
  |none=>rw[hg] at I;cases I
  |some cells=>
   rw[hg] at I;simp only[ak] at I;subst I;have hcells:cells=Cf:=by
    unfold G at hg;split at hg
    .cases hg;rfl
    .cases hg
   subst hcells;exact⟨_,by simp only[mw,hg];rfl,rfl⟩
theorem yo {e:iK} {h:bf} (hi:s6 e h):∀ {xs:List Operand} {l:List TV},E4 e xs=af l->∃ J,VV (IV e h) xs=af J/\cH h l=af J
 |[],l,I=>by simp only[E4,ak] at I;subst I;exact⟨[],rfl,rfl⟩
 |x::xs,l,I=>by
  simp only[E4] at I;split at I
  .rename_i y U;split at I
   .rename_i ys hys;simp only[ak] at I;subst I;obtain⟨M,h1,h2⟩:=bM hi U;obtain⟨J,Z,Y⟩:=yo hi hys;exact⟨M::J,by simp only[VV,h1,Z],oN h2 Y⟩
   .cases I
  .cases I
section ops
variable {R:Type} {P:Program} {o:Oper} {e:iK} {h:bf} {nx:Nat} {K:KO R} {r:R}
theorem jb.pure {s:X3} {st:Bool} (hinv:lZ h nx) (hc:c_ P o.op=af s) {H:nQ} (U:H.get=bz h) {k:Nat} {y0:AV} {rdl:List Nat} (M:eH s (IV e h) H k=af ⟨y0,rdl,[],[],[]⟩) {v:TV} (hv:∀ y,cj h v=af y->Le y0 y) {rd:Nat} (hrd:∀ n∈rdl,aN rd (ow n)=ai) (hst:st=ai->rd=0):jb P o st e h nx v rd 0 h nx:=by
 have ht:=HO hc M;rw[uQ,U] at ht;refine ⟨?_,λ_ _ h=>h,hinv,bV _,λhs=>⟨hst hs,rfl⟩⟩;have key:∀ y,Le y0 y->gG P o (fO e h) (bz h) ⟨y,rdl,[],iZ [],[]⟩:=λy hle=>
  gG.view ht (λi hi=>by cases hi) λh' _ _=>⟨J4.refl _,hle.toH (uY.refl _)⟩
 cases J:cj h v with
 |none=>exact⟨_,ht,λy I=>by simp at I,by simp[BG.eff,tB],hrd,by simp[BG.eff],by simp[BG.eff]⟩
 |some y=>exact⟨_,key y (hv y J),λY I=>by simpa using I,by simp[tB],hrd,by simp,by simp⟩
theorem kH.q {s:X3} {st:Bool} (hinv:lZ h nx) (hc:c_ P o.op=af s) {k:Nat} {y0:AV} (J:∀ H:nQ,H.get=bz h->eH s (IV e h) H k=rv y0) {v:TV} (hv:∀ y,cj h v=af y->Le y0 y) (hk:K v 0 0 h nx=af r):kH P o st e h nx K r:=by
 obtain⟨H,I⟩:=jG h;exact⟨v,0,0,h,nx,hk,jb.pure hinv hc I (J H I) hv (by simp) λ_=>rfl⟩
theorem di {y0:AV} {v:TV} (hv:cj h v=af y0):∀ y,cj h v=af y->Le y0 y:=λy I=>by rw[hv] at I;cases I;exact Le.refl _
theorem aef {T:Ty} {xs:List T.den} {j:Int} (hj:fe j xs.length=ai) {off sz:Nat} {ag:Bool} {u:TV} (hg:nS 40 T (aJ xs j) off sz ag=af u):
 ∃ y,cj h u=af (.f y)/\(BC.fz (xs.flatMap (bQ T))).sub? (j.toNat*T.size+off) sz ag=af (.f y):=by
 obtain⟨h1,y,h2,Y,U⟩:=ub h 40 T _ off sz ag u hg;refine ⟨y,h2,?_⟩;obtain⟨_,_,hlt⟩:=DV hj;have I:xs[j.toNat]? =af (aJ xs j):=by
  unfold aJ;rw[ay,aA hlt];rfl
 obtain⟨q,hq⟩:=Ee (bA T) xs j.toNat _ I;have hlen:=fA (bA T) xs;have hle:(j.toNat+1)*T.size<=xs.length*T.size:=cE _ hlt;rw[iM] at hle;have hl:=bA T (aJ xs j);cases ag with
 |false=>
  obtain⟨M,J⟩:=Y rfl;subst M;simp only[BC.sub?,BC.get];have:(xs.flatMap (bQ T))[j.toNat*T.size+off]? =af y:=by
   rw[<- gQ,hq,bG (by omega)];exact J
  rw[this];rfl
 |true=>
  simp only[BC.sub?];rw[aF (bB (by omega)),U rfl,<-List.drop_drop,hq,Du (by omega),kV (by simp;omega)]
theorem aeg {T:Ty} {v:T.den} {off sz:Nat} {ag:Bool} {u:TV} (hg:nS 40 T v off sz ag=af u):
 ∃ y,cj h u=af (.f y)/\(BC.fz (bQ T v)).sub? off sz ag=af (.f y):=by
 obtain⟨h1,y,h2,U,M⟩:=ub h 40 T _ off sz ag u hg;refine ⟨y,h2,?_⟩;have hl:=bA T v;cases ag with
 |false=>
  obtain⟨J,I⟩:=U rfl;subst J;simp only[BC.sub?,BC.get,I];rfl
 |true=>
  simp only[BC.sub?];rw[aF (bB (by omega)),M rfl]
theorem U8 {l:List TV} {I:List AV} (hl:cH h l=af I) {off sz:Nat} {ag:Bool} {u:TV} (hs:Sw l off sz ag=af u):∃ y,cj h u=af y/\(BC.mx I).sub? off sz ag=af y:=by
 cases ag with
 |false=>
  simp only[Sw] at hs;split at hs
  .rename_i h1;have h1:=aw h1;subst h1;obtain⟨y,h2,J⟩:=lU hl off u hs;exact⟨y,J,by simp only[BC.sub?,BC.get,h2]⟩
  .cases hs
 |true=>
  simp only[Sw] at hs;split at hs
  .rename_i h1;simp only[ak] at hs;subst hs;have h2:=Eh sz (Ej off hl);exact⟨.agg ((I.drop off).take sz),by simp only[cj,h2],by simp only[BC.sub?,hP hl,h1,bC]⟩
  .cases hs
theorem Pz {v:TV} {n:Nat} {y:AV} (hn:lenOf h v=af n) (I:cj h v=af y):y.slen=af n:=by
 unfold lenOf at hn;split at hn
 .simp only[ak] at hn;subst hn;simp only[cj,ak] at I;subst I;rfl
 .simp only[ak] at hn;subst hn;simp only[cj,ak] at I;subst I;rfl
 .simp only[ak] at hn;subst hn;simp only[cj,ak] at I;subst I;rfl
 .rename_i id;simp only[cj] at I;cases hr:eh h id with
  |none=>rw[hr] at hn;cases hn
  |some q=>
   obtain⟨p,sz,m⟩:=q;rw[hr] at hn I;simp only[ak] at hn I;subst hn;subst I;unfold fm;split
   .rename_i hp;simp only[av,cR] at hp;rw[hp.2];rfl
   .rfl
 .simp only[ak] at hn;subst hn;simp only[cj,ak] at I;subst I;rfl
 .cases hn
theorem Dh (a b:List UInt8):rL ⟨a.toArray⟩ ⟨b.toArray⟩=decide (a=b):=by
 unfold rL;simp only[Bool.beq_eq_decide_eq]
theorem ada {op:BinOp} {u v:TV} {q:TV->Option R} (hk:agh op u v q=af r):∃ a b c t,cj h u=af (raw a)/\cj h v=af (raw b)/\uu op a b=af c/\cj h t=af (raw c)/\q t=af r:=by
 unfold agh at hk;split at hk
 .rename_i k a k' b;split at hk
  .rename_i hkk;have hkk':k=k':=by simpa using hkk
   subst hkk';refine ⟨.int k a,.int k b,?_⟩;cases op<;>simp only[reduceCtorEq] at hk<;>first
    |cases hk
    |exact⟨_,_,rfl,rfl,(by simp only[uu,cQ,bC]<;>rfl),rfl,hk⟩
    |(obtain ⟨hb,hk⟩:=dR hk
      have I:(b==(0:Int))=aj:=by simpa using hb
      exact⟨_,_,rfl,rfl,by simp only[uu,cQ,bC,I,ct,dV],rfl,hk⟩)
  .cases hk
 .rename_i a b;refine ⟨.string ⟨ky a⟩,.string ⟨ky b⟩,?_⟩;split at hk
  .exact⟨.bool (decide ((a:List UInt8)=b)),_,rfl,rfl,by simp only[uu,Dh],rfl,hk⟩
  .exact⟨.bool (!decide ((a:List UInt8)=b)),_,rfl,rfl,by simp only[uu,Dh],rfl,hk⟩
  .cases hk
 .cases hk
theorem Wi {T:Ty}:∀ {l:List TV} {xs:List T.den},yc T l=af xs->∀ k,k<l.length->l[k]? =af (.f T (xs.getD k T.zero))
 |[],xs,_,k,hk=>by simp at hk
 |.f S v::r,xs,I,k,hk=>by
  simp only[yc] at I;split at I
  .rename_i x J;split at I
   .rename_i l hl;simp only[ak] at I;subst I;obtain⟨es,ex⟩:=ja J;cases es;subst ex;cases k with
    |zero=>rfl
    |succ k=>simpa using Wi hl k (by simpa using hk)
   .cases I
  .cases I
 |.fel _ _ _ _ _::r,xs,I,k,hk=>by simp[yc] at I
 |.pel _ _ _ _::r,xs,I,k,hk=>by simp[yc] at I
 |.ptr _ _::r,xs,I,k,hk=>by simp[yc] at I
 |.csl _ _ _::r,xs,I,k,hk=>by simp[yc] at I
 |.row _::r,xs,I,k,hk=>by simp[yc] at I
 |.emp::r,xs,I,k,hk=>by simp[yc] at I
 |.nil::r,xs,I,k,hk=>by simp[yc] at I
 |.mp _::r,xs,I,k,hk=>by simp[yc] at I
 |.agg _::r,xs,I,k,hk=>by simp[yc] at I
 |.tup _::r,xs,I,k,hk=>by simp[yc] at I
 |.clo _ _::r,xs,I,k,hk=>by simp[yc] at I
 |.undef::r,xs,I,k,hk=>by simp[yc] at I
 |.np::r,xs,I,k,hk=>by simp[yc] at I
 |.anyb::r,xs,I,k,hk=>by simp[yc] at I
theorem Wh {l:List TV} {T:Ty} {xs:List T.den} (I:Z9 l=af ⟨T,xs⟩):∀ k,k<l.length->l[k]? =af (.f T (xs.getD k T.zero)):=by
 unfold Z9 at I;split at I
 .split at I
  .rename_i l1 hl;simp only[ak] at I;cases I;exact Wi hl
  .cases I
 .cases I
variable (hinv:lZ h nx) (hi:s6 e h)
include hinv hi
theorem K_mv {con:FuncId->Option cu} {b9:TypeId->Option Ty} {x:Operand} {st:Bool} (hc:c_ P o.op=af (.mv x)) (hk:dO con b9 (.op (.mv x)) e h nx K=af r):kH P o st e h nx K r:=by
 simp only[dO] at hk;split at hk
 .rename_i v hv;obtain⟨y,h1,h2⟩:=bM hi hv;exact kH.q (k:=0) hinv hc (λH _=>by simp only[eH,h1]) (di h2) hk
 .cases hk
theorem ai4 {con:FuncId->Option cu} {b9:TypeId->Option Ty} {c a b:Operand} {st:Bool} (hc:c_ P o.op=af (.pick c a b)) (hk:dO con b9 (.op (.pick c a b)) e h nx K=af r):kH P o st e h nx K r:=by
 simp only[dO] at hk;split at hk
 .rename_i t hv;obtain⟨y,h1,h2⟩:=bM hi hv;simp only[cj,ak] at h2;subst h2;rcases ph hk with ⟨rfl,I⟩|⟨rfl,I⟩
  .split at I
   .rename_i v J;obtain⟨Y,U,M⟩:=bM hi J;exact kH.q (k:=0) hinv hc (λH _=>by simp only[eH,h1,gC,bC,U]) (di M) I
   .cases I
  .split at I
   .rename_i v J;obtain⟨Y,U,M⟩:=bM hi J;exact kH.q (k:=0) hinv hc (λH _=>by simp only[eH,h1,gC,U,ct,dV]) (di M) I
   .cases I
 .cases hk
theorem ai5 {con:FuncId->Option cu} {b9:TypeId->Option Ty} {x:Operand} {st:Bool} (hc:c_ P o.op=af (.nilc x)) (hk:dO con b9 (.op (.nilc x)) e h nx K=af r):kH P o st e h nx K r:=by
 simp only[dO] at hk;split at hk;all_goals first
  |(rename_i hv
    obtain⟨y,h1,h2⟩:=bM hi hv;have I:=h2;simp only[cj,ak] at h2;subst h2;exact kH.q (k:=0) hinv hc (λH _=>by simp only[eH,h1]) (di I) hk)
  |skip
 .rename_i g cap hv;obtain⟨y,h1,h2⟩:=bM hi hv;have I:=h2;simp only[cj] at h2;split at h2
  .simp only[ak] at h2;subst h2;exact kH.q (k:=0) hinv hc (λH _=>by simp only[eH,h1]) (di I) hk
  .cases h2
 .cases hk
theorem al8 {con:FuncId->Option cu} {b9:TypeId->Option Ty} {x:Operand} {st:Bool} (hc:c_ P o.op=af (.not x)) (hk:dO con b9 (.op (.not x)) e h nx K=af r):kH P o st e h nx K r:=by
 simp only[dO] at hk;split at hk
 .rename_i b hv;obtain⟨y,h1,h2⟩:=bM hi hv;simp only[cj,ak] at h2;subst h2;exact kH.q (k:=0) hinv hc (λH _=>by simp only[eH,h1,gC];rfl) (di rfl) hk
 .cases hk
theorem aic {con:FuncId->Option cu} {b9:TypeId->Option Ty} {k:IntKind} {x:Operand} {st:Bool} (hc:c_ P o.op=af (.conv k x)) (hk:dO con b9 (.op (.conv k x)) e h nx K=af r):kH P o st e h nx K r:=by
 simp only[dO] at hk;split at hk
 .rename_i k' n hv;obtain⟨y,h1,h2⟩:=bM hi hv;simp only[cj,ak] at h2;subst h2;exact kH.q (k:=0) hinv hc (λH _=>by simp only[eH,h1,gC];rfl) (di rfl) hk
 .cases hk
theorem aln {con:FuncId->Option cu} {b9:TypeId->Option Ty} {neg:Bool} {x y:Operand} {st:Bool} (hc:c_ P o.op=af (.eqb neg x y)) (hk:dO con b9 (.op (.eqb neg x y)) e h nx K=af r):kH P o st e h nx K r:=by
 simp only[dO] at hk;split at hk
 .rename_i a b hv I;obtain⟨y,h1,h2⟩:=bM hi hv;obtain⟨U,M,J⟩:=bM hi I;simp only[cj,ak] at h2 J;subst h2;subst J;exact kH.q (k:=0) hinv hc (λH _=>by simp only[eH,h1,M,gC];rfl) (di rfl) hk
 .cases hk
theorem ae1 {con:FuncId->Option cu} {b9:TypeId->Option Ty} {neg:Bool} {x:Operand} {st:Bool} (hc:c_ P o.op=af (.isnil neg x)) (hk:dO con b9 (.op (.isnil neg x)) e h nx K=af r):kH P o st e h nx K r:=by
 simp only[dO] at hk;split at hk
 .rename_i hv;obtain⟨y,h1,h2⟩:=bM hi hv;simp only[cj,ak] at h2;subst h2;exact kH.q (k:=0) hinv hc (λH _=>by simp only[eH,h1,zI,bC];rfl) (di rfl) hk
 .rename_i hv;obtain⟨y,h1,h2⟩:=bM hi hv;simp only[cj,ak] at h2;subst h2;exact kH.q (k:=0) hinv hc (λH _=>by simp only[eH,h1]) (di rfl) hk
 .rename_i T xs hv;obtain⟨y,h1,h2⟩:=bM hi hv;simp only[cj,ak] at h2;subst h2;rcases ph hk with ⟨J,I⟩|⟨J,I⟩
  .have J:=aw J;exact kH.q (k:=0) (y0:=.anyb) hinv hc (λH _=>by simp only[eH,h1,gC,J]) (di rfl) I
  .have J:=hY J;obtain⟨n,hn⟩:=Nat.exists_eq_succ_of_ne_zero J;exact kH.q (k:=0) (y0:=raw (.bool neg)) hinv hc (λH _=>by simp only[eH,h1,gC,hn]) (di rfl) I
 .rename_i id hv;split at hk
  .rename_i ty T xs hb;obtain⟨y,h1,h2⟩:=bM hi hv;simp only[cj,eh,hb,fm,m8,ct,dV,ak] at h2;subst h2;exact kH.q (k:=0) (y0:=raw (.bool neg)) hinv hc (λH _=>by simp only[eH,h1]) (di rfl) hk
  .cases hk
 .cases hk
theorem ald {con:FuncId->Option cu} {b9:TypeId->Option Ty} {x y:Operand} {st:Bool} (hc:c_ P o.op=af (.max x y)) (hk:dO con b9 (.op (.max x y)) e h nx K=af r):kH P o st e h nx K r:=by
 simp only[dO] at hk;split at hk
 .rename_i k a k' b hv I;obtain⟨y,h1,h2⟩:=bM hi hv;obtain⟨U,M,J⟩:=bM hi I;simp only[cj,ak] at h2 J;subst h2;subst J;split at hk
  .exact kH.q (k:=0) hinv hc (λH _=>by simp only[eH,h1,M,gC];rfl) (di rfl) hk
  .cases hk
 .cases hk
theorem alc {con:FuncId->Option cu} {b9:TypeId->Option Ty} {x y:Operand} {st:Bool} (hc:c_ P o.op=af (.min x y)) (hk:dO con b9 (.op (.min x y)) e h nx K=af r):kH P o st e h nx K r:=by
 simp only[dO] at hk;split at hk
 .rename_i k a k' b hv I;obtain⟨y,h1,h2⟩:=bM hi hv;obtain⟨U,M,J⟩:=bM hi I;simp only[cj,ak] at h2 J;subst h2;subst J;split at hk
  .exact kH.q (k:=0) hinv hc (λH _=>by simp only[eH,h1,M,gC];rfl) (di rfl) hk
  .cases hk
 .cases hk
theorem alj {con:FuncId->Option cu} {b9:TypeId->Option Ty} {off:Nat} {x:Operand} {st:Bool} (hc:c_ P o.op=af (.fad off x)) (hk:dO con b9 (.op (.fad off x)) e h nx K=af r):kH P o st e h nx K r:=by
 simp only[dO] at hk;split at hk;all_goals first
  |(rename_i hv
    obtain⟨y,h1,h2⟩:=bM hi hv;simp only[cj,ak] at h2;subst h2;exact kH.q (k:=0) hinv hc (λH _=>by simp only[eH,h1,sg]) (di rfl) hk)
  |cases hk
theorem ali {con:FuncId->Option cu} {b9:TypeId->Option Ty} {off sz:Nat} {ag:Bool} {x:Operand} {st:Bool} (hc:c_ P o.op=af (.fld off sz ag x)) (hk:dO con b9 (.op (.fld off sz ag x)) e h nx K=af r):kH P o st e h nx K r:=by
 simp only[dO] at hk;split at hk
 .rename_i l hv;split at hk
  .rename_i u hs;obtain⟨y,h1,h2⟩:=bM hi hv;simp only[cj] at h2;split at h2
   .rename_i U hl;simp only[ak] at h2;subst h2;obtain⟨y,J,I⟩:=U8 hl hs;exact kH.q (k:=0) hinv hc (λH _=>by simp only[eH,h1,I]) (di J) hk
   .cases h2
  .cases hk
 .rename_i T v hv;split at hk
  .cases hk
  .rename_i M;split at hk
   .rename_i u hs;obtain⟨y,h1,h2⟩:=bM hi hv;simp only[cj,ak] at h2;rw[qj T v (by simpa using M)] at h2;subst h2;obtain⟨y,J,I⟩:=aeg (h:=h) hs;exact kH.q (k:=0) hinv hc (λH _=>by simp only[eH,h1,I]) (di J) hk
   .cases hk
 .cases hk
theorem alg {con:FuncId->Option cu} {b9:TypeId->Option Ty} {n sz:Nat} {ag:Bool} {x i:Operand} {st:Bool} (hc:c_ P o.op=af (.idx n sz ag x i)) (hk:dO con b9 (.op (.idx n sz ag x i)) e h nx K=af r):kH P o st e h nx K r:=by
 simp only[dO] at hk;split at hk
 .rename_i v0 k j hv U;split at hk
  .rename_i T xs hA;obtain⟨hb,hk⟩:=dR hk;cases ag with
   |true=>cases hA
   |false=>
   simp only[ajd] at hA;split at hA
   .rename_i hsz;simp only[av,ec] at hsz;have hsz1:=aw hsz.1;subst hsz1;split at hA
    .rename_i l hl;split at hA
     .rename_i hn;have hn:=aw hn;obtain⟨y,h1,h2⟩:=bM hi hv;obtain⟨y2,Y,J⟩:=bM hi U;simp only[cj,ak] at J;subst J;have hj:j.toNat<l.length:=by
       simp only[av,cV,fP,bP] at hb;omega
      have hg:=Wh hA j.toNat hj;obtain⟨he,_⟩:=Jz hl h2;obtain⟨z,I,M⟩:=lU he j.toNat _ hg;have M:cj h (.f T (aJ xs j))=af z:=M;refine kH.q (k:=0) hinv hc (λH _=>?_) (di M) hk;cases v0 with
      |agg q=>
       simp only[cj] at h2;split at h2
       .rename_i l' _;simp only[ak] at h2;subst h2;have I:l'[j.toNat]? =af z:=I;simp only[eH,h1,Y,gC,hb,bC,BC.sub?,BC.get,Nat.mul_one,I]
       .cases h2
      |f S u=>
       have Z:S.one=aj:=by
        have:=hsz.2;simpa[TV.isC] using this
       simp only[cj,ak] at h2;rw[qj S u Z] at h2;subst h2;have I:((bQ S u).map AV.f)[j.toNat]? =af z:=I;rw[ba] at I;simp only[eH,h1,Y,gC,hb,bC,BC.sub?,BC.get,Nat.mul_one,I]
      |_=>simp[TV.cs,TV.isC] at hl hsz
     .cases hA
    .cases hA
   .cases hA
  .split at hk
   .rename_i l;obtain⟨hb,hk⟩:=dR hk;split at hk
    .rename_i u hs;obtain⟨y,h1,h2⟩:=bM hi hv;obtain⟨y2,Y,J⟩:=bM hi U;simp only[cj,ak] at J;subst J;simp only[cj] at h2;split at h2
     .rename_i l' hl;simp only[ak] at h2;subst h2;obtain⟨y,h3,h4⟩:=U8 hl hs;exact kH.q (k:=0) hinv hc (λH _=>by simp only[eH,h1,Y,gC,hb,bC,h4]) (di h3) hk
     .cases h2
    .cases hk
   .rename_i T v _;split at hk
    .cases hk
    .rename_i Z;obtain⟨hb,hk⟩:=dR hk;split at hk
     .rename_i u hs;obtain⟨y,h1,h2⟩:=bM hi hv;obtain⟨y2,Y,J⟩:=bM hi U;simp only[cj,ak] at J h2;subst J;rw[qj T v (by simpa using Z)] at h2;subst h2;obtain⟨y,h3,h4⟩:=aeg (h:=h) hs;exact kH.q (k:=0) hinv hc (λH _=>by simp only[eH,h1,Y,gC,hb,bC,h4]) (di h3) hk
     .cases hk
   .cases hk
 .cases hk
theorem aia {con:FuncId->Option cu} {b9:TypeId->Option Ty} {n sz:Nat} {x i:Operand} {st:Bool} (hc:c_ P o.op=af (.iada n sz x i)) (hk:dO con b9 (.op (.iada n sz x i)) e h nx K=af r):kH P o st e h nx K r:=by
 simp only[dO] at hk;split at hk
 .rename_i id off k j hv I;obtain⟨y,h1,h2⟩:=bM hi hv;obtain⟨U,M,J⟩:=bM hi I;simp only[cj,ak] at J h2;subst J;subst h2;split at hk
  .obtain⟨hb,hk⟩:=dR hk;exact kH.q (k:=0) (y0:=.ptr (nm id) (off+j.toNat*sz)) hinv hc (λH _=>by simp only[eH,h1,M,gC,hb,bC]) (di (by simp only[cj];rw[Nat.add_comm])) hk
  .obtain⟨hb,hk⟩:=dR hk;exact kH.q (k:=0) hinv hc (λH _=>by simp only[eH,h1,M,gC,hb,bC]) (di rfl) hk
 .cases hk
theorem alk {con:FuncId->Option cu} {b9:TypeId->Option Ty} {i:Nat} {x:Operand} {st:Bool} (hc:c_ P o.op=af (.ext x i)) (hk:dO con b9 (.op (.ext x i)) e h nx K=af r):kH P o st e h nx K r:=by
 simp only[dO] at hk;split at hk
 .rename_i l hv;split at hk
  .rename_i u hs;obtain⟨y,h1,h2⟩:=bM hi hv;simp only[cj] at h2;split at h2
   .rename_i M hl;simp only[ak] at h2;subst h2;obtain⟨y,J,I⟩:=lU hl i u hs;exact kH.q (k:=0) hinv hc (λH _=>by simp only[eH,h1,J]) (di I) hk
   .cases h2
  .cases hk
 .cases hk
theorem alf {con:FuncId->Option cu} {b9:TypeId->Option Ty} {x:Operand} {st:Bool} (hc:c_ P o.op=af (.len x)) (hk:dO con b9 (.op (.len x)) e h nx K=af r):kH P o st e h nx K r:=by
 simp only[dO] at hk;split at hk
 .rename_i v hv;split at hk
  .rename_i n hn;obtain⟨y,h1,h2⟩:=bM hi hv;have I:=Pz hn h2;exact kH.q (k:=0) hinv hc (λH _=>by simp only[eH,h1,I];rfl) (di rfl) hk
  .cases hk
 .cases hk
theorem ai8 {con:FuncId->Option cu} {b9:TypeId->Option Ty} {x:Operand} {st:Bool} (hc:c_ P o.op=af (.lens x)) (hk:dO con b9 (.op (.lens x)) e h nx K=af r):kH P o st e h nx K r:=by
 simp only[dO] at hk;split at hk
 .rename_i s hv;obtain⟨y,h1,h2⟩:=bM hi hv;simp only[cj,ak] at h2;subst h2;exact kH.q (k:=0) hinv hc (λH _=>by simp only[eH,h1,gC];rfl) (di rfl) hk
 .cases hk
theorem ai3 {con:FuncId->Option cu} {b9:TypeId->Option Ty} {x i:Operand} {st:Bool} (hc:c_ P o.op=af (.sidx x i)) (hk:dO con b9 (.op (.sidx x i)) e h nx K=af r):kH P o st e h nx K r:=by
 simp only[dO] at hk;split at hk
 .rename_i s k j hv I;obtain⟨hj,hk⟩:=dR hk;obtain⟨y,h1,h2⟩:=bM hi hv;obtain⟨Z,Y,J⟩:=bM hi I;simp only[cj,ak] at h2 J;subst h2;subst J;obtain⟨U,j1,M⟩:=DV hj;have e1:cV 0 j=ai:=by simp[cV,U]
  have e2:(⟨ky s⟩:ByteArray).data.toList[j.toNat]? =af (List.getD s j.toNat 0):=by
   show s[j.toNat]? =_;rw[ay,aA M];rfl
  exact kH.q (k:=0) (y0:=raw (.int .u8 (aO (List.getD s j.toNat 0).toNat))) hinv hc (λH _=>by simp only[eH,h1,Y,gC,e1,bC,e2];rfl) (di rfl) hk
 .cases hk
theorem alh {con:FuncId->Option cu} {b9:TypeId->Option Ty} {sz:Nat} {x i:Operand} {st:Bool} (hc:c_ P o.op=af (.iad sz x i)) (hk:dO con b9 (.op (.iad sz x i)) e h nx K=af r):kH P o st e h nx K r:=by
 simp only[dO] at hk;split at hk
 .rename_i id k j hv I;split at hk
  .rename_i ty p T xs hb;split at hk
   .rename_i hs;have hs:=aw hs;obtain⟨hj,hk⟩:=dR hk;obtain⟨y,h1,h2⟩:=bM hi hv;obtain⟨Z,U,J⟩:=bM hi I;simp only[cj,ak] at J;subst J;obtain⟨j0,j1,j2⟩:=DV hj;have hne:¬((p&&xs.length==0)=ai):=by
     simp only[av,cR];omega
    simp only[cj,eh,hb,fm,aC hne,ak] at h2;subst h2;have Y:(T.size==sz&&cV 0 j&&fP j xs.length)=ai:=by
     simp only[fe,av] at hj;simp[hs,hj.1,hj.2]
    exact kH.q (k:=0) hinv hc (λH _=>by simp only[eH,h1,U,gC,Y,bC,dg]) (di rfl) hk
   .cases hk
  .cases hk
 .rename_i T xs k j hv I;split at hk
  .rename_i hs;have hs:=aw hs;obtain⟨hj,hk⟩:=dR hk;obtain⟨y,h1,h2⟩:=bM hi hv;obtain⟨Z,U,J⟩:=bM hi I;simp only[cj,ak] at J h2;subst J;subst h2;have M:(cV 0 j&&fP j (al xs))=ai:=hj;exact kH.q (k:=0) hinv hc (λH _=>by simp only[eH,h1,U,gC,M,bC,dg,hs]) (di rfl) hk
  .cases hk
 .rename_i id sz' n k j hv I;split at hk
  .rename_i hs;have hs:=aw hs;subst hs;obtain⟨hj,hk⟩:=dR hk;obtain⟨y,h1,h2⟩:=bM hi hv;obtain⟨Z,U,J⟩:=bM hi I;simp only[cj,ak] at J h2;subst J;subst h2;have M:(sz'==sz'&&cV 0 j&&fP j n)=ai:=by simp only[av] at hj ⊢;exact⟨⟨cQ _,hj.1⟩,hj.2⟩
   exact kH.q (k:=0) hinv hc (λH _=>by simp only[eH,h1,U,gC,M,bC]) (di rfl) hk
  .cases hk
 .cases hk
theorem alb {con:FuncId->Option cu} {b9:TypeId->Option Ty} {f:FuncId} {caps:List Operand} {st:Bool} (hc:c_ P o.op=af (.mkf f caps)) (hk:dO con b9 (.op (.mkf f caps)) e h nx K=af r):kH P o st e h nx K r:=by
 simp only[dO] at hk;split at hk
 .rename_i l hv;obtain⟨I,h1,h2⟩:=yo hi hv;exact kH.q (k:=0) hinv hc (y0:=.clo f I) (λH _=>by simp only[eH,h1]) (di (by simp only[cj,h2])) hk
 .cases hk
theorem alr {con:FuncId->Option cu} {b9:TypeId->Option Ty} {op:BinOp} {x y:Operand} {st:Bool} (hc:c_ P o.op=af (.bin op x y)) (hk:dO con b9 (.op (.bin op x y)) e h nx K=af r):kH P o st e h nx K r:=by
 simp only[dO] at hk;split at hk
 .rename_i u v hv I;obtain⟨a,b,c,t,h1,h2,h3,h4,Z⟩:=ada (h:=h) hk;obtain⟨y,Y,U⟩:=bM hi hv;obtain⟨y2,M,J⟩:=bM hi I;rw[h1] at U;cases U;rw[h2] at J;cases J;simp only[raw] at Y M;exact kH.q (k:=0) hinv hc (λH _=>by simp only[eH,Y,M,h3]) (di h4) Z
 .cases hk
end ops
def mz:im->Option (Bool×Nat×Nat)
 |.rows _ p T xs=>af (p,T.size,xs.length)
 |.dead p sz n=>af (p,sz,n)
 |_=>ah
theorem bS (h:bf) (i:Nat):eh h i=(h.get i).bind mz:=by
 unfold eh;cases h.get i with
 |none=>rfl
 |some b=>cases b<;>rfl
theorem ci.refl (h:bf):ci h h:=λ_ _ h=>h
theorem ci.trans {a b c:bf} (h1:ci a b) (h2:ci b c):ci a c:=λi r h=>h2 i r (h1 i r h)
theorem ci.set {h:bf} {i:Nat} {b:im} (hb:∀ r,eh h i=af r->mz b=af r):ci h (h.set i (af b)):=λj r hj=>by
 rw[bS,PT.get_set];by_cases e:j=i
 .subst e;rw[aF rfl];exact hb r hj
 .rw[aC e,<-bS];exact hj
theorem LM {b:im} {r:Bool×Nat×Nat} (h:mz b=af r):mz (uJ b)=af r:=by cases b<;>first|exact h|cases h
theorem iU (m:Nat) (h:bf) (i:Nat):(em m h).get i=if aN m i then (h.get i).map uJ else h.get i:=by
 unfold em;split
 .rename_i hm;have:=aw hm;subst this;simp
 .rw[PT.get_updI];simp only[Nat.one_mul,dg];cases h.get i with
  |none=>simp
  |some b=>simp only[b_];split<;>rfl
theorem ci.kill (m:Nat) (h:bf):ci h (em m h):=λi r hr=>by
 rw[bS] at hr ⊢;rw[iU];split
 .cases hb:h.get i with
  |none=>rw[hb] at hr;cases hr
  |some b=>rw[hb] at hr;exact LM hr
 .exact hr
theorem lZ.set {h:bf} {nx nx' i:Nat} {b:im} (hi:lZ h nx) (hr:ci h (h.set i (af b))) (hlt:i<nx') (hle:nx<=nx') (hb:∀ ty l,b= .cells ty l->kJ (h.set i (af b)) l=ai):lZ (h.set i (af b)) nx':=by
 refine ⟨λj ty l hj=>?_,λj c hj=>?_⟩
 .rw[PT.get_set] at hj;split at hj
  .simp only[ak] at hj;exact hb ty l hj
  .exact iQ hr l (hi.cells j ty l hj)
 .rw[PT.get_set] at hj;split at hj
  .rename_i e;subst e;exact hlt
  .exact dt (hi.low j c hj) hle
theorem lZ.kill {h:bf} {nx:Nat} (hi:lZ h nx) (m:Nat):lZ (em m h) nx:=by
 refine ⟨λj ty l hj=>?_,λj c hj=>?_⟩
 .rw[iU] at hj;refine iQ (ci.kill m h) l (hi.cells j ty l ?_);split at hj
  .cases hb:h.get j with
   |none=>rw[hb] at hj;cases hj
   |some b=>rw[hb] at hj;cases b<;>simp[uJ] at hj
  .exact hj
 .rw[iU] at hj;split at hj
  .cases hb:h.get j with
   |none=>rw[hb] at hj;cases hj
   |some b=>exact hi.low j b hb
  .exact hi.low j c hj
theorem IW {h h':bf} (hr:ci h h') {b:im} (hb:∀ ty l,b= .cells ty l->kJ h l=ai):kr h' b=kr h b:=by
 cases b with
 |cells ty l=>
  obtain⟨I,hl⟩:=fk h l (hb ty l rfl);simp only[kr,hl,gU hr l I hl]
 |_=>rfl
theorem Xj {h h':bf} {nx i:Nat} (hi:lZ h nx) (hr:ci h h') (hg:h'.get i=h.get i):bz h' (nm i)=bz h (nm i):=by
 rw[bI,bI,hg];cases hb:h.get i with
 |none=>rfl
 |some b=>exact IW hr λty l e=>hi.cells i ty l (by rw[hb,e])
theorem v8 (h:bf) {n:Nat} (hn:¬∃ i,n=nm i):bz h n=ah:=by
 unfold bz;rw[aC];intro h2;exact hn ⟨n/2,by unfold nm;omega⟩
theorem kF {h h':bf} {nx:Nat} (hi:lZ h nx) (hr:ci h h') {n:Nat} (hg:∀ i,n=nm i->h'.get i=h.get i):bz h' n=bz h n:=by
 by_cases hn:∃ i,n=nm i
 .obtain⟨i,rfl⟩:=hn;exact Xj hi hr (hg i rfl)
 .rw[v8 h hn,v8 h' hn]
def E7 (m:Nat):List Nat:=(Z5 m).map nm
theorem nH {m n:Nat}:n∈E7 m↔∃ i,n=nm i/\aN m i=ai:=by
 unfold E7;rw[dh];constructor
 .rintro⟨i,h1,rfl⟩;exact⟨i,rfl,LW.1 h1⟩
 .rintro⟨i,rfl,h1⟩;exact⟨i,LW.2 h1,rfl⟩
theorem ll {m i:Nat}:nm i∈E7 m↔aN m i=ai:=by
 rw[nH];constructor
 .rintro⟨j,h1,h2⟩;rw[kK h1];exact h2
 .exact λh=>⟨i,rfl,h⟩
def dK (h:bf) (m:Nat):Prop:=∀ i,aN m i=ai->∃ ty p T xs,h.get i=af (.rows ty p T xs)
theorem dK.zero (h:bf):dK h 0:=λi hi=>by simp at hi
theorem dK.or {h:bf} {a b:Nat} (I:dK h a) (hb:dK h b):dK h (a|||b):=λi hi=>by
 rw[bn,iP] at hi;exact hi.elim (I i) (hb i)
theorem mY {h:bf} {T:Ty} {v:TV} {x:T.den} {m:Nat} (I:iD h T v=af (x,m)):dK h m:=by
 cases v with
 |f S v=>
  simp only[iD] at I;split at I
  .simp only[ak,aD] at I;rw[<- I.2];exact dK.zero h
  .cases I
 |emp=>
  simp only[iD] at I;split at I
  .simp only[ak,aD] at I;rw[<- I.2];exact dK.zero h
  .cases I
 |nil=>
  simp only[iD] at I;split at I
  .simp only[ak,aD] at I;rw[<- I.2];exact dK.zero h
  .cases I
 |row id=>
  simp only[iD] at I;split at I
  .rename_i ty p S xs hb;split at I
   .simp only[ak,aD] at I;rw[<- I.2];intro i hi;have:=bX.1 hi;subst this;exact⟨ty,p,S,xs,hb⟩
   .cases I
  .cases I
 |fel T xs j hj off=>simp[iD] at I
 |pel id sz j off=>simp[iD] at I
 |ptr id off=>simp[iD] at I
 |csl id off z=>simp[iD] at I
 |mp id=>simp[iD] at I
 |rtl id J=>simp[iD] at I
 |agg q=>simp[iD] at I
 |tup q=>simp[iD] at I
 |clo f q=>simp[iD] at I
 |undef=>simp[iD] at I
 |np=>simp[iD] at I
 |anyb=>simp[iD] at I
theorem uF {h:bf}:∀ (n:Nat) (T:Ty) (l:List TV) (x:T.den) (m:Nat) (r:List TV),eT h n T l=af (x,m,r)->dK h m
 |0,_,_,_,_,_,hp=>by simp[eT] at hp
 |n+1,.st t,l,x,m,r,hp=>uF n t l x m r hp
 |n+1,.pr a b,l,x,m,r,hp=>by
  simp only[eT] at hp;split at hp
  .rename_i I m1 r1 h1;split at hp
   .rename_i J m2 r2 h2;simp only[ak,aD] at hp;obtain⟨_,rfl,_⟩:=hp;exact (uF n a l I m1 r1 h1).or (uF n b r1 J m2 r2 h2)
   .cases hp
  .cases hp
 |n+1,.un,l,x,m,r,hp=>by
  simp only[eT,ak,aD] at hp;obtain⟨_,rfl,_⟩:=hp;exact dK.zero h
 |n+1,.ex,l,x,m,r,hp=>by
  simp only[eT] at hp;split at hp
  .rename_i I m1 r1 h1;simp only[ak,aD] at hp;obtain⟨_,rfl,_⟩:=hp;exact uF n L_ l I m1 r1 h1
  .cases hp
 |n+1,.sm,l,x,m,r,hp=>by
  simp only[eT] at hp;split at hp
  .rename_i I m1 r1 h1;simp only[ak,aD] at hp;obtain⟨_,rfl,_⟩:=hp;exact uF n LK l I m1 r1 h1
  .cases hp
 |n+1,.int k,l,x,m,r,hp=>by
  simp only[eT] at hp;split at hp
  .split at hp
   .rename_i I m1 h1;simp only[ak,aD] at hp;obtain⟨_,rfl,_⟩:=hp;exact mY h1
   .cases hp
  .cases hp
 |n+1,.bool,l,x,m,r,hp=>by
  simp only[eT] at hp;split at hp
  .split at hp
   .rename_i I m1 h1;simp only[ak,aD] at hp;obtain⟨_,rfl,_⟩:=hp;exact mY h1
   .cases hp
  .cases hp
 |n+1,.str,l,x,m,r,hp=>by
  simp only[eT] at hp;split at hp
  .split at hp
   .rename_i I m1 h1;simp only[ak,aD] at hp;obtain⟨_,rfl,_⟩:=hp;exact mY h1
   .cases hp
  .cases hp
 |n+1,.sl t,l,x,m,r,hp=>by
  simp only[eT] at hp;split at hp
  .split at hp
   .rename_i I m1 h1;simp only[ak,aD] at hp;obtain⟨_,rfl,_⟩:=hp;exact mY h1
   .cases hp
  .cases hp
theorem Wg {h:bf} {T:Ty} {v:TV} {x:T.den} {m:Nat} (I:Di h T v=af (x,m)):dK h m:=by
 cases v with
 |agg l=>
  simp only[Di] at I;split at I
  .cases I
  .split at I
   .rename_i J m1 h1;simp only[ak,aD] at I;obtain⟨_,rfl⟩:=I;exact uF 40 T l J m1 [] h1
   .cases I
 |f S v=>exact mY (v:=.f S v) I
 |fel T xs j hj off=>exact mY (v:=.fel T xs j hj off) I
 |pel id sz j off=>exact mY (v:=.pel id sz j off) I
 |ptr id off=>exact mY (v:=.ptr id off) I
 |csl id off z=>exact mY (v:=.csl id off z) I
 |row id=>exact mY (v:=.row id) I
 |emp=>exact mY (v:=.emp) I
 |nil=>exact mY (v:=.nil) I
 |mp id=>exact mY (v:=.mp id) I
 |rtl id M=>exact mY (v:=.rtl id M) I
 |tup q=>exact mY (v:=.tup q) I
 |clo g q=>exact mY (v:=.clo g q) I
 |undef=>exact mY (v:=.undef) I
 |np=>exact mY (v:=.np) I
 |anyb=>exact mY (v:=.anyb) I
theorem M8 {h:bf} {T:Ty}:∀ (n:Nat) (l:List TV) (xs:List T.den) (m:Nat),ym h T n l=af (xs,m)->dK h m
 |0,[],xs,m,hp=>by simp only[ym,ak,aD] at hp;rw[<- hp.2];exact dK.zero h
 |0,_::_,xs,m,hp=>by simp[ym] at hp
 |n+1,l,xs,m,hp=>by
  simp only[ym] at hp;split at hp
  .rename_i J m1 r1 h1;split at hp
   .rename_i I m2 h2;simp only[ak,aD] at hp;obtain⟨_,rfl⟩:=hp;exact (uF 40 T l J m1 r1 h1).or (M8 n r1 I m2 h2)
   .cases hp
  .cases hp
theorem zC {h:bf} {u:TV}:∀ (n:Nat) (T:Ty) (v:T.den) (off sz:Nat) (z:T.den) (m:Nat),gI h u n T v off sz=af (z,m)->dK h m
 |0,_,_,_,_,_,_,hg=>by simp[gI] at hg
 |n+1,.st t,v,off,sz,z,m,hg=>by
  simp only[gI] at hg;split at hg
  .rename_i q hq;split at hq
   .simp only[ak] at hg;subst hg;exact Wg hq
   .cases hq
  .exact zC n t v off sz z m hg
 |n+1,.pr a b,v,off,sz,z,m,hg=>by
  simp only[gI] at hg;split at hg
  .split at hg
   .rename_i I m1 h1;simp only[ak,aD] at hg;obtain⟨_,rfl⟩:=hg;exact zC n a v.1 off sz I m1 h1
   .cases hg
  .split at hg
   .rename_i I m1 h1;simp only[ak,aD] at hg;obtain⟨_,rfl⟩:=hg;exact zC n b v.2 _ sz I m1 h1
   .cases hg
 |n+1,.un,v,off,sz,z,m,hg=>by simp[gI] at hg
 |n+1,.ex,v,off,sz,z,m,hg=>by
  simp only[gI] at hg;split at hg
  .rename_i q hq;split at hq
   .simp only[ak] at hg;subst hg;exact Wg hq
   .cases hq
  .split at hg
   .rename_i I m1 h1;simp only[ak,aD] at hg;obtain⟨_,rfl⟩:=hg;exact zC n L_ _ off sz I m1 h1
   .cases hg
 |n+1,.sm,v,off,sz,z,m,hg=>by
  simp only[gI] at hg;split at hg
  .rename_i q hq;split at hq
   .simp only[ak] at hg;subst hg;exact Wg hq
   .cases hq
  .split at hg
   .rename_i I m1 h1;simp only[ak,aD] at hg;obtain⟨_,rfl⟩:=hg;exact zC n LK _ off sz I m1 h1
   .cases hg
 |n+1,.int k,v,off,sz,z,m,hg=>by
  simp only[gI] at hg;split at hg
  .exact mY hg
  .cases hg
 |n+1,.bool,v,off,sz,z,m,hg=>by
  simp only[gI] at hg;split at hg
  .exact mY hg
  .cases hg
 |n+1,.str,v,off,sz,z,m,hg=>by
  simp only[gI] at hg;split at hg
  .exact mY hg
  .cases hg
 |n+1,.sl t,v,off,sz,z,m,hg=>by
  simp only[gI] at hg;split at hg
  .exact mY hg
  .cases hg
theorem tm {h:bf} {m i:Nat} (hm:dK h m) (hb:aN m i=ai):∃ p sz n,(em m h).get i=af (.dead p sz n):=by
 obtain⟨ty,p,T,xs,h1⟩:=hm i hb;exact⟨p,T.size,xs.length,by rw[iU,aF hb,h1];rfl⟩
section ops
variable {R:Type} {P:Program} {o:Oper} {e:iK} {h:bf} {nx:Nat} {K:KO R} {r:R}
theorem ie (n:Nat) (b:wG):iZ [(n,b)] n=af b:=by simp[iZ]
theorem jb.mk' {s:X3} (hc:c_ P o.op=af s) {H:nQ} (hH:H.get=bz h) {k:Nat} {y0:AV} {rdl wrl N:List Nat} {nw:NW} (ha:eH s (IV e h) H k=af ⟨y0,rdl,wrl,nw,N⟩) {v:TV} {h':bf} {nx' rd wr:Nat} (wr':List Nat)
 (hsub:∀ i∈wrl,i∈wr') (hsame:∀ n,n∉wr'->bz h' n=bz h n)
 (hdom:∀ i∈wr',∀ b',bz h' i=af b'->∃ b,(if i∈wrl then iZ nw i else bz h i)=af b)
 (hblk:∀ (Y H2:HF),uY Y H2->(∀ i∈wrl,Y i=iZ nw i)->(∀ i∈wr',i∉wrl->Y i=bz h i)->(∀ i∈wr',H2 i=bz h' i)->(∀ i∈wr',∀ b b',Y i=af b->H2 i=af b'->jU Y H2 b b')/\∀ y,cj h' v=af y->lB Y H2 y0 y)
 (hrd:∀ n∈rdl,aN rd (ow n)=ai) (hwr:∀ n∈wr',aN wr (ow n)=ai) (hN:∀ n∈N,nx<=ow n/\ow n<nx') (hrows:ci h h') (hinv':lZ h' nx') (hg:nx<=nx'):jb P o aj e h nx v rd wr h' nx':=by
 have ht:=HO hc ha;rw[uQ,hH] at ht;refine ⟨?_,hrows,hinv',hg,λhs=>by cases hs⟩;have base:∀ (val:AV),(∀ y,cj h' v=af y->y=val)->(cj h' v=ah->val=y0)->gG P o (fO e h) (bz h) ⟨val,rdl,wr',bz h',N⟩:=by
  intro val hval hnone;refine gG.view ht (λi hi=>.inl (hsub i hi)) λh1 hr1 Z=>?_
  have hd:uY (eL h1 wrl (iZ nw)) (eL h1 wr' (bz h')):=by
   intro i b hb;unfold eL at hb ⊢;by_cases hi:i∈wr'
   .rw[aF hi] at hb;obtain⟨b0,J⟩:=hdom i hi b hb;refine ⟨b0,?_⟩;by_cases U:i∈wrl
    .rw[aF U] at J ⊢;exact J
    .rw[aC U] at J ⊢;rw[Z i hi];exact J
   .rw[aC hi] at hb;rw[aC (λU=>hi (hsub i U))];exact⟨b,hb⟩
  obtain⟨q1,q2⟩:=hblk _ _ hd (λi hi=>by unfold eL;rw[aF hi]) (λi hi U=>by unfold eL;rw[aC U];exact Z i hi) (λi hi=>by unfold eL;rw[aF hi]);refine ⟨⟨hd,λi b b' hb M=>?_⟩,?_⟩
  .by_cases hi:i∈wr'
   .exact q1 i hi b b' hb M
   .unfold eL at hb M;rw[aC (λU=>hi (hsub i U))] at hb;rw[aC hi,hb] at M;cases M;exact jU.refl hd b
  .cases hv:cj h' v with
   |none=>rw[hnone hv];exact lB.refl hd _
   |some y=>rw[<- hval y hv];exact q2 y hv
 have hu:eL (bz h) wr' (bz h')=bz h':=by
  funext n;unfold eL;split
  .rfl
  .rename_i hn;exact (hsame n hn).symm
 cases hv:cj h' v with
 |none=>exact⟨_,base y0 (λy I=>by rw[hv] at I;cases I) (λ_=>rfl),λy I=>(by cases I),hu,hrd,hwr,hN⟩
 |some y=>exact⟨_,base y (λy' I=>by rw[hv] at I;cases I;rfl) (λhn=>by rw[hv] at hn;cases hn),λy' I=>by cases I;rfl,hu,hrd,hwr,hN⟩
theorem CD (hi:s6 e h):∀ (parts:List (Nat×Nat×Operand)) (cells cs:List TV) (cells':List AV),IQ cells e parts=af cs->cH h cells=af cells'->∃ cs',yP cells' (IV e h) parts=af cs'/\cH h cs=af cs'/\(kn cells=ai->kn cs=ai)
 |[],cells,cs,cells',hf,he=>by simp only[IQ,ak] at hf;subst hf;exact⟨cells',rfl,he,id⟩
 |(off,sz,x)::rest,cells,cs,cells',hf,he=>by
  simp only[IQ] at hf;split at hf
  .rename_i v hv;split at hf
   .rename_i q hq;split at hf
    .rename_i hc;simp only[av,cR] at hc;obtain⟨y,h1,h2⟩:=bM hi hv;obtain⟨M,h4⟩:=Jz hq h2;obtain⟨cs',Z,Y,U⟩:=CD hi rest (splice cells off q) cs (splice cells' off y.cs) hf (rY off he M);refine ⟨cs',?_,Y,λI=>U ?_⟩
     .simp only[yP,h1];rw[aF,Z];simp only[av,cR];exact⟨⟨by rw[hP M];exact hc.1,by rw[hP he];exact hc.2⟩,rM M h4⟩
     .clear Z Y U hf;have app:∀ a b:List TV,kn a=ai->kn b=ai->kn (a++b)=ai:=by
       intro a b I hb;induction a with
       |nil=>exact hb
       |cons z r J=>simp only[kn,av,gh] at I ⊢;exact⟨I.1,J I.2⟩
      have tk:∀ (a:List TV) n,kn a=ai->kn (a.take n)=ai:=by
       intro a;induction a with
       |nil=>intro n h;simp[kn]
       |cons z r J=>
        intro n h;cases n with
        |zero=>rfl
        |succ n=>simp only[kn,av,vB] at h ⊢;exact⟨h.1,J n h.2⟩
      have dr:∀ (a:List TV) n,kn a=ai->kn (a.drop n)=ai:=by
       intro a;induction a with
       |nil=>intro n h;simp[kn]
       |cons z r J=>
        intro n h;cases n with
        |zero=>exact h
        |succ n=>simp only[kn,av,vC] at h ⊢;exact J n h.2
      unfold splice;exact app _ _ (app _ _ (tk _ _ I) h4) (dr _ _ I)
    .cases hf
   .cases hf
  .cases hf
variable (hinv:lZ h nx) (hi:s6 e h)
include hinv hi
theorem ae2 {con:FuncId->Option cu} {b9:TypeId->Option Ty} {z:List Value} {parts:List (Nat×Nat×Operand)} {st:Bool} (hc:c_ P o.op=af (.build z parts)) (hk:dO con b9 (.op (.build z parts)) e h nx K=af r):kH P o st e h nx K r:=by
 simp only[dO] at hk;split at hk
 .rename_i l hl;split at hk
  .rename_i cs hf;obtain⟨h1,_,_⟩:=uV h hl;obtain⟨cs',h2,J,_⟩:=CD hi parts l cs _ hf h1;refine kH.q (k:=0) (y0:=LU cs') hinv hc (λH _=>by simp only[eH,h2]) (λy I=>?_) hk;simp only[cj,J,ak] at I;subst I;exact Y_ cs'
  .cases hk
 .cases hk
theorem ai7 {con:FuncId->Option cu} {b9:TypeId->Option Ty} {sz:Nat} {ag:Bool} {x:Operand} (hc:c_ P o.op=af (.load sz ag x)) (hk:dO con b9 (.op (.load sz ag x)) e h nx K=af r):kH P o aj e h nx K r:=by
 obtain⟨H,J⟩:=jG h;simp only[dO] at hk;split at hk
 .rename_i id off hv;obtain⟨y,h1,h2⟩:=bM hi hv;simp only[cj,ak] at h2;subst h2;split at hk
  .rename_i ty l hb;split at hk
   .rename_i v hs;obtain⟨Y,hl⟩:=fk h l (hinv.cells id ty l hb);obtain⟨y,U,M⟩:=U8 hl hs;have hg:H.get (nm id)=af ⟨ty,.mx Y⟩:=by rw[J,bI,hb];simp only[aH,kr,hl]
    exact⟨v,kG id,0,h,nx,hk,jb.pure (k:=0) hinv hc J (y0:=y) (rdl:=[nm id]) (by simp only[eH,h1,Dj,hg,M]) (di U) (λn hn=>by simp only[aL] at hn;subst hn;rw[dU];exact bX.2 rfl) (λh=>by cases h)⟩
   .cases hk
  .cases hk
 .rename_i id sz' j off hv;obtain⟨y,h1,h2⟩:=bM hi hv;simp only[cj,ak] at h2;subst h2;split at hk
  .rename_i ty p T xs hb;split at hk
   .rename_i hsz;have hsz:=aw hsz;obtain⟨hj,hk⟩:=dR hk;split at hk
    .rename_i v hs;obtain⟨y,U,M⟩:=aef (h:=h) hj hs;have hne:¬((p&&xs.length==0)=ai):=by
      have:=DV hj;simp only[av,cR];omega
     have hg:H.get (nm id)=af ⟨ty,.fz (xs.flatMap (bQ T))⟩:=by rw[J,bI,hb];simp only[aH,kr,aC hne]
     exact⟨v,kG id,0,h,nx,hk,jb.pure (k:=0) hinv hc J (y0:=.f y) (rdl:=[nm id]) (by simp only[eH,h1,Dj,hg,hsz,M]) (di U) (λn hn=>by simp only[aL] at hn;subst hn;rw[dU];exact bX.2 rfl) (λh=>by cases h)⟩
    .cases hk
   .cases hk
  .rename_i ty l hb;split at hk
   .cases hk
   .split at hk
    .rename_i hsz;simp only[av] at hsz;have e1:=aw hsz.1.1;have e2:=aw hsz.1.2;have e3:=aw hsz.2;subst e1;subst e2;subst e3;split at hk
     .rename_i T xs hA;obtain⟨hj,hk⟩:=dR hk;obtain⟨Y,hl⟩:=fk h l (hinv.cells id ty l hb);have hg:H.get (nm id)=af ⟨ty,.mx Y⟩:=by rw[J,bI,hb];simp only[aH,kr,hl]
      have hlt:j.toNat<l.length:=by
       simp only[fe,av,cV,fP,bP] at hj;omega
      obtain⟨z,Z,I⟩:=lU hl j.toNat _ (Wh hA j.toNat hlt);have I:cj h (.f T (aJ xs j))=af z:=I;exact⟨_,kG id,0,h,nx,hk,jb.pure (k:=0) hinv hc J (y0:=z) (rdl:=[nm id]) (by simp only[eH,h1,Dj,hg,BC.sub?,BC.get,Nat.mul_one,dg,Z]) (di I) (λn hn=>by simp only[aL] at hn;subst hn;rw[dU];exact bX.2 rfl) (λh=>by cases h)⟩
     .cases hk
    .cases hk
  .cases hk
 .rename_i T xs j hj off hv;obtain⟨y,h1,h2⟩:=bM hi hv;simp only[cj,ak] at h2;subst h2;split at hk
  .rename_i v hs;obtain⟨y,U,M⟩:=aef (h:=h) hj hs;exact kH.q (k:=0) (y0:=.f y) hinv hc (λH _=>by simp only[eH,h1,Dj,M]) (di U) hk
  .cases hk
 .cases hk
theorem ae3 {con:FuncId->Option cu} {b9:TypeId->Option Ty} {ty:TypeId} {z:List Value} (hc:c_ P o.op=af (.alloc ty z)) (hk:dO con b9 (.op (.alloc ty z)) e h nx K=af r):kH P o aj e h nx K r:=by
 have _:=hi;obtain⟨H,hH⟩:=jG h;simp only[dO] at hk;split at hk
 .rename_i l hl;obtain⟨_,hz,_⟩:=uV h hl;have hnone:h.get nx=ah:=by
   cases hb:h.get nx with
   |none=>rfl
   |some b=>have:=hinv.low nx b hb;omega
  have hr:ci h (h.set nx (af (.cells ty l))):=ci.set λr hr=>by rw[bS,hnone] at hr;cases hr
  obtain⟨h1,_,_⟩:=uV (h.set nx (af (.cells ty l))) hl;have U:bz (h.set nx (af (.cells ty l))) (nm nx)=af ⟨ty,.mx (z.map raw)⟩:=by rw[bI,PT.get_set,aF rfl];simp only[aH,kr,h1]
  refine ⟨_,_,_,_,_,hk,jb.mk' hc hH (k:=nm nx) (by simp only[eH];rfl) [nm nx] (λi hi=>hi) (λn hn=>?_) (λi hi b' _=>⟨⟨ty,.fz (z.map .raw)⟩,?_⟩) (λH1 H2 d M _ J=>⟨λi hi b b' hb I=>?_,λy Y=>?_⟩) (by simp) ?_ ?_ hr (hinv.set hr (by omega) (by omega) λty' l' he=>?_) (by omega)⟩
  .refine kF hinv hr λi e=>?_
   subst e;rw[PT.get_set,aC (λe=>hn (by rw[e];simp))]
  .rw[aF hi];simp only[aL] at hi;subst hi;simp[iZ]
  .simp only[aL] at hi;subst hi;rw[M _ (by simp)] at hb;rw[J _ (by simp),U] at I;rw[ie] at hb;simp only[ak] at hb I;subst hb;subst I;refine jU.cells rfl rfl ?_ λx Z=>?_
   .simp only[BC.toMx,zA];exact ia.refl d _
   .simp only[BC.toMx] at Z;obtain⟨q,hq,rfl⟩:=dh.1 Z;exact hz q hq
  .simp only[cj,ak] at Y;subst Y;exact lB.refl d _
  .intro n hn;simp only[aL] at hn;subst hn;rw[dU];exact bX.2 rfl
  .intro n hn;simp only[aL] at hn;subst hn;rw[dU];omega
  .cases he;exact kE _ _ _ h1
 .cases hk
theorem alq {con:FuncId->Option cu} {b9:TypeId->Option Ty} {ty:TypeId} {x:Operand} (hc:c_ P o.op=af (.box ty x)) (hk:dO con b9 (.op (.box ty x)) e h nx K=af r):kH P o aj e h nx K r:=by
 obtain⟨H,hH⟩:=jG h;simp only[dO] at hk;split at hk
 .rename_i v hv;split at hk
  .rename_i l hl;obtain⟨y,h1,h2⟩:=bM hi hv;obtain⟨h3,h4⟩:=Jz hl h2;have hcell:=rM h3 h4;have hnone:h.get nx=ah:=by
    cases hb:h.get nx with
    |none=>rfl
    |some b=>have:=hinv.low nx b hb;omega
   have hr:ci h (h.set nx (af (.cells ty l))):=ci.set λr hr=>by rw[bS,hnone] at hr;cases hr
   have Z:=gU hr l _ h3;have U:bz (h.set nx (af (.cells ty l))) (nm nx)=af ⟨ty,.mx y.cs⟩:=by rw[bI,PT.get_set,aF rfl];simp only[aH,kr,Z]
   refine ⟨_,_,_,_,_,hk,jb.mk' hc hH (k:=nm nx) (by simp only[eH,h1,hcell,bC];rfl) [nm nx] (λi hi=>hi) (λn hn=>?_) (λi hi b' _=>⟨⟨ty,pd y.cs⟩,?_⟩) (λH1 H2 d M _ J=>⟨λi hi b b' hb I=>?_,λy Y=>?_⟩) (by simp) ?_ ?_ hr (hinv.set hr (by omega) (by omega) λty' l' he=>?_) (by omega)⟩
   .refine kF hinv hr λi e=>?_
    subst e;rw[PT.get_set,aC (λe=>hn (by rw[e];simp))]
   .rw[aF hi];simp only[aL] at hi;subst hi;simp[iZ]
   .simp only[aL] at hi;subst hi;rw[M _ (by simp)] at hb;rw[J _ (by simp),U] at I;rw[ie] at hb;simp only[ak] at hb I;subst hb;subst I;obtain⟨q1,q2⟩:=nF y.cs;refine jU.cells q2 rfl ?_ λx hx=>?_
    .rw[q1];exact ia.refl d _
    .exact lA hcell x hx
   .simp only[cj,ak] at Y;subst Y;exact lB.refl d _
   .intro n hn;simp only[aL] at hn;subst hn;rw[dU];exact bX.2 rfl
   .intro n hn;simp only[aL] at hn;subst hn;rw[dU];omega
   .cases he;exact kE _ _ _ Z
  .cases hk
 .cases hk
theorem ae0 {con:FuncId->Option cu} {b9:TypeId->Option Ty} {ty:TypeId} {sz bytes:Nat} {z:List Value} {l c:Operand} (hcm:Db (b9 ty)=ah) (hc:c_ P o.op=af (.mksl ty sz bytes z l c)) (hk:dO con b9 (.op (.mksl ty sz bytes z l c)) e h nx K=af r):kH P o aj e h nx K r:=by
 obtain⟨H,hH⟩:=jG h;simp only[dO,hcm] at hk;split at hk
 .rename_i T k a k' b hT hv U;split at hk
  .rename_i hsz;simp only[av] at hsz;have hs:=aw hsz.1;have hz:=JU hsz.2;subst hs;subst hz;obtain⟨hck,hk⟩:=dR hk;obtain⟨y,h1,h2⟩:=bM hi hv;obtain⟨y2,h3,h4⟩:=bM hi U;simp only[cj,ak] at h2 h4;subst h2;subst h4;have hnone:h.get nx=ah:=by
    cases hb:h.get nx with
    |none=>rfl
    |some b=>have:=hinv.low nx b hb;omega
   generalize Z:im.rows ty aj T (aG (aS a) T.zero)=B at hk;have hr:ci h (h.set nx (af B)):=ci.set λr hr=>by rw[bS,hnone] at hr;cases hr
   have Y:bz (h.set nx (af B)) (nm nx)=af ⟨ty,.fz ((aG (aS a) T.zero).flatMap (bQ T))⟩:=by rw[bI,PT.get_set,aF rfl,<-Z];simp[kr]
   refine ⟨_,_,_,_,_,hk,jb.mk' hc hH (k:=nm nx) (by simp only[eH,h1,h3,gC,hck,bC];rfl) [nm nx] (λi hi=>hi) (λn hn=>?_) (λi hi b' _=>⟨⟨ty,.fz (repl (sD T) (aS a))⟩,?_⟩) (λH1 H2 d M _ J=>⟨λi hi b b' hb I=>?_,λy hy=>?_⟩) (by simp) ?_ ?_ hr (hinv.set hr (by omega) (by omega) λty' l' he=>?_) (by omega)⟩
   .refine kF hinv hr λi e=>?_
    subst e;rw[PT.get_set,aC (λe=>hn (by rw[e];simp))]
   .rw[aF hi];simp only[aL] at hi;subst hi;simp[iZ]
   .simp only[aL] at hi;subst hi;rw[M _ (by simp)] at hb;rw[J _ (by simp),Y] at I;rw[ie] at hb;simp only[ak] at hb I;subst hb;subst I;refine jU.cells rfl rfl (G4 d T _) λx hx=>?_
    simp only[BC.toMx] at hx;obtain⟨q,hq,rfl⟩:=dh.1 hx;exact rm T _ q hq
   .simp only[cj,bS,PT.get_set,bC,<-Z,aH,mz,fm,m8,ct,dV,ak,eC] at hy;subst hy;exact lB.refl d _
   .intro n hn;simp only[aL] at hn;subst hn;rw[dU];exact bX.2 rfl
   .intro n hn;simp only[aL] at hn;subst hn;rw[dU];omega
   .rw[<- Z] at he;cases he
  .cases hk
 .cases hk
end ops
theorem zM {α:Type} {f:α->List FV} {n:Nat} (hf:∀ x,(f x).length=n):∀ (xs:List α) (j:Nat),(xs.take j).flatMap f=(xs.flatMap f).take (j*n)
 |[],j=>by simp
 |x::r,0=>by simp
 |x::r,j+1=>by
  rw[vB,fH,fH,zM hf r j,show (j+1)*n=(f x).length+j*n from by rw[hf,iM];omega,List.take_length_add_append]
theorem IP {α:Type} {f:α->List FV} {n:Nat} (hf:∀ x,(f x).length=n):∀ (xs:List α) (j:Nat),(xs.drop j).flatMap f=(xs.flatMap f).drop (j*n)
 |[],j=>by simp
 |x::r,0=>by simp
 |x::r,j+1=>by
  rw[vC,fH,IP hf r j,show (j+1)*n=(f x).length+j*n from by rw[hf,iM];omega,List.drop_length_add_append]
theorem Pf {z:List Value}:∀ (n:Nat) (x:FV),x∈repl z n->∃ v∈z,x= .raw v
 |0,x,h=>by simp[repl] at h
 |n+1,x,h=>by
  rw[repl,bW] at h;rcases h with h|h
  .obtain⟨v,hv,rfl⟩:=dh.1 h;exact⟨v,hv,rfl⟩
  .exact Pf n x h
theorem F1:∀ l:List FV,(∀ x∈l,x.isCell=ai)->gB (l.map .f)=ai
 |[],_=>rfl
 |z::r,h=>by simp only[gg,gB,av];exact⟨h z (by simp),F1 r λx I=>h x (by simp[I])⟩
section ops
variable {R:Type} {P:Program} {o:Oper} {e:iK} {h:bf} {nx:Nat} {K:KO R} {r:R}
theorem lZ.fresh (hinv:lZ h nx):h.get nx=ah:=by
 cases hb:h.get nx with
 |none=>rfl
 |some b=>have:=hinv.low nx b hb;omega
theorem dK.lt (hinv:lZ h nx) {m:Nat} (hm:dK h m) {i:Nat} (hi:aN m i=ai):i<nx:=by
 obtain⟨_,_,_,_,hb⟩:=hm i hi;exact hinv.low i _ hb
theorem jb.new {s:X3} (hinv:lZ h nx) (hc:c_ P o.op=af s) {H:nQ} (hH:H.get=bz h) {y0:AV} {rdl:List Nat} {b0:wG} (ha:eH s (IV e h) H (nm nx)=af ⟨y0,rdl,[nm nx],[(nm nx,b0)],[nm nx]⟩) {B:im} {v:TV} {m rd:Nat} (hm:dK h m)
 (hB:∀ ty l,B= .cells ty l->kJ ((em m h).set nx (af B)) l=ai)
 (hblk:∀ J I,uY J I->Dv h J I m->∀ b',kr ((em m h).set nx (af B)) B=af b'->jU J I b0 b')
 (hval:∀ J I y,uY J I->Dv h J I m->cj ((em m h).set nx (af B)) v=af y->lB J I y0 y)
 (hrd:∀ n∈rdl,aN rd (ow n)=ai):jb P o aj e h nx v rd (m|||kG nx) ((em m h).set nx (af B)) (nx+1):=by
 have hk:=hinv.kill m;have hr0:=ci.kill m h;have Y:ci (em m h) ((em m h).set nx (af B)):=ci.set λr hr=>by rw[bS,hk.fresh] at hr;cases hr
 have hr:=hr0.trans Y;have hgiv:∀ i,aN m i=ai->bz ((em m h).set nx (af B)) (nm i)=ah:=λi hi=>by
  have hlt:=hm.lt hinv hi;obtain⟨p,sz,n,hd⟩:=tm hm hi;rw[bI,PT.get_set,aC (by omega),hd];rfl
 refine jb.mk' hc hH ha (nm nx::E7 m) (λi hi=>by simp only[aL] at hi;subst hi;simp) (λn hn=>?_) (λi hi b' Z=>?_) (λJ I d hw1 hw0 U=>?_) hrd ?_ ?_ hr (hk.set Y (by omega) (by omega) hB) (by omega)
 .refine kF hinv hr λi e=>?_
  subst e;rw[PT.get_set,aC (λe=>hn (by rw[e];simp)),iU,aC];intro hb;exact hn (cL _ (ll.2 hb))
 .rcases bi.1 hi with rfl|hi
  .exact⟨b0,by rw[aF (by simp),ie]⟩
  .obtain⟨j,rfl,hj⟩:=nH.1 hi;rw[hgiv j hj] at Z;cases Z
 .have g:Dv h J I m:=λi hi=>by
   have hlt:=hm.lt hinv hi;have hmem:nm i∈nm nx::E7 m:=cL _ (ll.2 hi);exact⟨hw0 _ hmem (λhc=>by simp only[aL] at hc;have:=kK hc;omega),by rw[U _ hmem,hgiv i hi]⟩
  refine ⟨λi hi b b' hb M=>?_,λy hy=>hval J I y d g hy⟩;rcases bi.1 hi with rfl|hi'
  .rw[hw1 _ (by simp),ie] at hb;rw[U _ hi,bI,PT.get_set,aF rfl] at M;simp only[ak] at hb;subst hb;exact hblk J I d g b' M
  .obtain⟨j,rfl,hj⟩:=nH.1 hi';rw[U _ hi,hgiv j hj] at M;cases M
 .intro n hn;rw[bn];rcases bi.1 hn with rfl|hn
  .rw[dU,bX.2 rfl];simp
  .obtain⟨j,rfl,hj⟩:=nH.1 hn;rw[dU,hj];rfl
 .intro n hn;simp only[aL] at hn;subst hn;rw[dU];omega
theorem jb.wrt {s:X3} (hinv:lZ h nx) (hc:c_ P o.op=af s) {H:nQ} (hH:H.get=bz h) {id:Nat} {y0:AV} {rdl:List Nat} {b0:wG} {k:Nat} (ha:eH s (IV e h) H k=af ⟨y0,rdl,[nm id],[(nm id,b0)],[]⟩) {B0 B:im} (Z:h.get id=af B0) {v:TV} {m rd:Nat} (hm:dK h m) (hmid:aN m id=aj)
 (hrow:mz B=mz B0) (hB:∀ ty l,B= .cells ty l->kJ ((em m h).set id (af B)) l=ai)
 (hblk:∀ J I,uY J I->Dv h J I m->∀ b',kr ((em m h).set id (af B)) B=af b'->jU J I b0 b')
 (hval:∀ J I y,uY J I->Dv h J I m->cj ((em m h).set id (af B)) v=af y->lB J I y0 y)
 (hrd:∀ n∈rdl,aN rd (ow n)=ai):jb P o aj e h nx v rd (m|||kG id) ((em m h).set id (af B)) nx:=by
 have hk:=hinv.kill m;have hr0:=ci.kill m h;have hkid:(em m h).get id=af B0:=by rw[iU,hmid];simpa using Z
 have Y:ci (em m h) ((em m h).set id (af B)):=ci.set λr hr=>by rw[bS,hkid] at hr;rw[hrow];exact hr
 have hr:=hr0.trans Y;have hgiv:∀ i,aN m i=ai->bz ((em m h).set id (af B)) (nm i)=ah:=λi hi=>by
  have hne:i≠id:=λe=>by rw[e,hmid] at hi;cases hi
  obtain⟨p,sz,n,hd⟩:=tm hm hi;rw[bI,PT.get_set,aC hne,hd];rfl
 refine jb.mk' hc hH ha (nm id::E7 m) (λi hi=>by simp only[aL] at hi;subst hi;simp) (λn hn=>?_) (λi hi b' hb'=>?_) (λJ I d hw1 hw0 U=>?_) hrd ?_ (by simp) hr (hk.set Y (hinv.low id B0 Z) (by omega) hB) (by omega)
 .refine kF hinv hr λi e=>?_
  subst e;rw[PT.get_set,aC (λe=>hn (by rw[e];simp)),iU,aC];intro hb;exact hn (cL _ (ll.2 hb))
 .rcases bi.1 hi with rfl|hi
  .exact⟨b0,by rw[aF (by simp),ie]⟩
  .obtain⟨j,rfl,hj⟩:=nH.1 hi;rw[hgiv j hj] at hb';cases hb'
 .have g:Dv h J I m:=λi hi=>by
   have hne:i≠id:=λe=>by rw[e,hmid] at hi;cases hi
   have hmem:nm i∈nm id::E7 m:=cL _ (ll.2 hi);exact⟨hw0 _ hmem (λhc=>by simp only[aL] at hc;exact hne (kK hc)),by rw[U _ hmem,hgiv i hi]⟩
  refine ⟨λi hi b b' hb M=>?_,λy hy=>hval J I y d g hy⟩;rcases bi.1 hi with rfl|hi'
  .rw[hw1 _ (by simp),ie] at hb;rw[U _ hi,bI,PT.get_set,aF rfl] at M;simp only[ak] at hb;subst hb;exact hblk J I d g b' M
  .obtain⟨j,rfl,hj⟩:=nH.1 hi';rw[U _ hi,hgiv j hj] at M;cases M
 .intro n hn;rw[bn];rcases bi.1 hn with rfl|hn
  .rw[dU,bX.2 rfl];simp
  .obtain⟨j,rfl,hj⟩:=nH.1 hn;rw[dU,hj];rfl
theorem LN (h:bf) {z:List Value} {I:List TV} (J:Jw z=af I):∀ len,cH h (aG len I).flatten=af ((repl z len).map .f)
 |0=>rfl
 |n+1=>by
  rw[List.replicate_succ,List.flatten_cons,repl,cN];refine mW ?_ (LN h J n);rw[(uV h J).1];simp only[zA];rfl
theorem Vd {H:nQ} (Z:H.get=bz h) {T:Ty} {v:TV} {U:List T.den} {m:Nat} {y:AV} (I:Di h (.sl T) v=af (U,m)) (J:cj h v=af y):∃ rd,y.row? H T.size=af ((U.flatMap (bQ T)).map .f,U.length,rd)/\∀ n∈rd,∃ i,n=nm i/\aN m i=ai:=by
 have fl:=λM:List T.den=>fA (bA T) M
 have tk:∀ M:List T.den,(M.flatMap (bQ T)).take (M.length*T.size)=M.flatMap (bQ T):=λM=>by rw[<- fl,cP]
 cases v with
 |f S x=>
  simp only[Di,iD] at I;split at I
  .rename_i z Y;simp only[ak,aD] at I;obtain⟨rfl,_⟩:=I;obtain⟨e,rfl⟩:=ja Y;subst e;simp only[cj,ak] at J;subst J;refine ⟨[],?_,by simp⟩;simp only[gC,AV.row?];rw[aF (bB (by rw[fl x];exact bV _)),tk]
  .cases I
 |emp=>
  simp only[Di,iD,ak,aD] at I;obtain⟨rfl,_⟩:=I;simp only[cj,ak] at J;subst J;exact⟨[],rfl,by simp⟩
 |nil=>
  simp only[Di,iD,ak,aD] at I;obtain⟨rfl,_⟩:=I;simp only[cj,ak] at J;subst J;exact⟨[],rfl,by simp⟩
 |row id=>
  simp only[Di,iD] at I;split at I
  .rename_i ty p S xs hb;split at I
   .rename_i z Y;simp only[ak,aD] at I;obtain⟨rfl,rfl⟩:=I;obtain⟨e,rfl⟩:=ja Y;cases e;simp only[cj,eh,hb,ak] at J;subst J;unfold fm;split
    .rename_i hp;simp only[av,cR] at hp;have:xs=[]:=gD.1 hp.2;subst this;exact⟨[],rfl,by simp⟩
    .rename_i hp;have hg:H.get (nm id)=af ⟨ty,.fz (xs.flatMap (bQ T))⟩:=by rw[Z,bI,hb];simp only[aH,kr,aC hp]
     refine ⟨[nm id],?_,λn hn=>?_⟩
     .simp only[AV.row?,hg,cQ,bC,BC.isCells,BC.len,pl];rw[aF (bB (by rw[fl xs];exact bV _))];simp only[BC.toMx,<-kz,tk]
     .simp only[aL] at hn;exact⟨id,hn,bX.2 rfl⟩
   .cases I
  .cases I
 |agg l=>simp[Di,Ty.one] at I
 |fel T xs j hj off=>simp[Di,iD] at I
 |pel id sz j off=>simp[Di,iD] at I
 |ptr id off=>simp[Di,iD] at I
 |csl id off z=>simp[Di,iD] at I
 |mp id=>simp[Di,iD] at I
 |rtl id jj=>simp[Di,iD] at I
 |tup q=>simp[Di,iD] at I
 |clo f q=>simp[Di,iD] at I
 |undef=>simp[Di,iD] at I
 |np=>simp[Di,iD] at I
 |anyb=>simp[Di,iD] at I
theorem Tf {v:TV} {y:AV} (I:cj h v=af y) (hc:v.isC=ai):gB y.cs=ai:=by
 rw[M_ (Nm I hc)];simp only[gB,Bool.and_true];exact Nm I hc
theorem Xm (T:Ty) (x:T.den):gB ((bQ T x).map .f)=ai:=by
 have:∀ l:List FV,(∀ x∈l,x.isCell=ai)->gB (l.map .f)=ai:=by
  intro l hl;induction l with
  |nil=>rfl
  |cons z r I=>simp only[gg,gB,av];exact⟨hl z (by simp),I λx J=>hl x (by simp[J])⟩
 exact this _ (nN T x)
theorem gM {T:Ty} {v:TV} {x:T.den} {m:Nat} {y:AV} (I:iD h T v=af (x,m)) (J:cj h v=af y):gB y.cs=ai:=by
 cases v with
 |f S v=>simp only[cj,ak] at J;subst J;rw[zO];exact Xm S v
 |emp=>exact Tf J rfl
 |nil=>exact Tf J rfl
 |row id=>exact Tf J rfl
 |fel T xs j hj off=>simp[iD] at I
 |pel id sz j off=>simp[iD] at I
 |ptr id off=>simp[iD] at I
 |csl id off z=>simp[iD] at I
 |mp id=>simp[iD] at I
 |rtl id M=>simp[iD] at I
 |agg q=>simp[iD] at I
 |tup q=>simp[iD] at I
 |clo f q=>simp[iD] at I
 |undef=>simp[iD] at I
 |np=>simp[iD] at I
 |anyb=>simp[iD] at I
theorem Hj {T:Ty} (M:T.one=ai) {v:TV} {x:T.den} {m:Nat} (I:iD h T v=af (x,m)):v.isC=ai:=by
 cases v with
 |f S v=>
  simp only[iD] at I;split at I
  .rename_i z J;obtain⟨e,_⟩:=ja J;subst e;exact M
  .cases I
 |emp=>rfl
 |nil=>rfl
 |row id=>rfl
 |fel T xs j hj off=>simp[iD] at I
 |pel id sz j off=>simp[iD] at I
 |ptr id off=>simp[iD] at I
 |csl id off z=>simp[iD] at I
 |mp id=>simp[iD] at I
 |rtl id U=>simp[iD] at I
 |agg q=>simp[iD] at I
 |tup q=>simp[iD] at I
 |clo f q=>simp[iD] at I
 |undef=>simp[iD] at I
 |np=>simp[iD] at I
 |anyb=>simp[iD] at I
theorem RI {a b:List TV} (I:kn a=ai) (hb:kn b=ai):kn (a++b)=ai:=by
 induction a with
 |nil=>exact hb
 |cons z r J=>simp only[kn,av,gh] at I ⊢;exact⟨I.1,J I.2⟩
theorem s9:∀ (n:Nat) (T:Ty) (l:List TV) (x:T.den) (m:Nat) (r:List TV),eT h n T l=af (x,m,r)->∃ a,l=a++r/\kn a=ai
 |0,_,_,_,_,_,hp=>by simp[eT] at hp
 |n+1,.st t,l,x,m,r,hp=>s9 n t l x m r hp
 |n+1,.pr a b,l,x,m,r,hp=>by
  simp only[eT] at hp;split at hp
  .rename_i I m1 r1 h1;split at hp
   .rename_i J m2 r2 h2;simp only[ak,aD] at hp;obtain⟨_,_,rfl⟩:=hp;obtain⟨a1,rfl,U⟩:=s9 n a l I m1 r1 h1;obtain⟨a2,rfl,M⟩:=s9 n b r1 J m2 r2 h2;exact⟨a1++a2,by simp,RI U M⟩
   .cases hp
  .cases hp
 |n+1,.un,l,x,m,r,hp=>by
  simp only[eT,ak,aD] at hp;obtain⟨_,_,rfl⟩:=hp;exact⟨[],rfl,rfl⟩
 |n+1,.ex,l,x,m,r,hp=>by
  simp only[eT] at hp;split at hp
  .rename_i I m1 r1 h1;simp only[ak,aD] at hp;obtain⟨_,_,rfl⟩:=hp;exact s9 n L_ l I m1 r1 h1
  .cases hp
 |n+1,.sm,l,x,m,r,hp=>by
  simp only[eT] at hp;split at hp
  .rename_i I m1 r1 h1;simp only[ak,aD] at hp;obtain⟨_,_,rfl⟩:=hp;exact s9 n LK l I m1 r1 h1
  .cases hp
 |n+1,.int k,l,x,m,r,hp=>by
  simp only[eT] at hp;split at hp
  .rename_i c q;split at hp
   .rename_i I m1 h1;simp only[ak,aD] at hp;obtain⟨_,_,rfl⟩:=hp;exact⟨[c],rfl,by simp[kn,Hj rfl h1]⟩
   .cases hp
  .cases hp
 |n+1,.bool,l,x,m,r,hp=>by
  simp only[eT] at hp;split at hp
  .rename_i c q;split at hp
   .rename_i I m1 h1;simp only[ak,aD] at hp;obtain⟨_,_,rfl⟩:=hp;exact⟨[c],rfl,by simp[kn,Hj rfl h1]⟩
   .cases hp
  .cases hp
 |n+1,.str,l,x,m,r,hp=>by
  simp only[eT] at hp;split at hp
  .rename_i c q;split at hp
   .rename_i I m1 h1;simp only[ak,aD] at hp;obtain⟨_,_,rfl⟩:=hp;exact⟨[c],rfl,by simp[kn,Hj rfl h1]⟩
   .cases hp
  .cases hp
 |n+1,.sl t,l,x,m,r,hp=>by
  simp only[eT] at hp;split at hp
  .rename_i c q;split at hp
   .rename_i I m1 h1;simp only[ak,aD] at hp;obtain⟨_,_,rfl⟩:=hp;exact⟨[c],rfl,by simp[kn,Hj rfl h1]⟩
   .cases hp
  .cases hp
theorem JY {T:Ty} {v:TV} {x:T.den} {m:Nat} {y:AV} (J:Di h T v=af (x,m)) (I:cj h v=af y):gB y.cs=ai:=by
 cases v with
 |agg l=>
  simp only[Di] at J;split at J
  .cases J
  .split at J
   .rename_i M m1 h1;obtain⟨a,e,Y⟩:=s9 40 T l M m1 [] h1;rw[lG] at e;subst e;simp only[cj] at I;split at I
    .rename_i Z hl;simp only[ak] at I;subst I;exact rM hl Y
    .cases I
   .cases J
 |f S v=>exact gM (v:=.f S v) J I
 |fel T xs j hj off=>exact gM (v:=.fel T xs j hj off) J I
 |pel id sz j off=>exact gM (v:=.pel id sz j off) J I
 |ptr id off=>exact gM (v:=.ptr id off) J I
 |csl id off z=>exact gM (v:=.csl id off z) J I
 |row id=>exact gM (v:=.row id) J I
 |emp=>exact gM (v:=.emp) J I
 |nil=>exact gM (v:=.nil) J I
 |mp id=>exact gM (v:=.mp id) J I
 |rtl id U=>exact gM (v:=.rtl id U) J I
 |tup q=>exact gM (v:=.tup q) J I
 |clo g q=>exact gM (v:=.clo g q) J I
 |undef=>exact gM (v:=.undef) J I
 |np=>exact gM (v:=.np) J I
 |anyb=>exact gM (v:=.anyb) J I
theorem qO {u:TV} {y:AV} (I:cj h u=af y):∀ (n:Nat) (T:Ty) (v:T.den) (off sz:Nat) (z:T.den) (m:Nat),gI h u n T v off sz=af (z,m)->gB y.cs=ai
 |0,_,_,_,_,_,_,hg=>by simp[gI] at hg
 |n+1,.st t,v,off,sz,z,m,hg=>by
  simp only[gI] at hg;split at hg
  .rename_i q hq;split at hq
   .exact JY hq I
   .cases hq
  .exact qO I n t v off sz z m hg
 |n+1,.pr a b,v,off,sz,z,m,hg=>by
  simp only[gI] at hg;split at hg
  .split at hg
   .rename_i J m1 h1;exact qO I n a v.1 off sz J m1 h1
   .cases hg
  .split at hg
   .rename_i J m1 h1;exact qO I n b v.2 _ sz J m1 h1
   .cases hg
 |n+1,.un,v,off,sz,z,m,hg=>by simp[gI] at hg
 |n+1,.ex,v,off,sz,z,m,hg=>by
  simp only[gI] at hg;split at hg
  .rename_i q hq;split at hq
   .exact JY hq I
   .cases hq
  .split at hg
   .rename_i J m1 h1;exact qO I n L_ _ off sz J m1 h1
   .cases hg
 |n+1,.sm,v,off,sz,z,m,hg=>by
  simp only[gI] at hg;split at hg
  .rename_i q hq;split at hq
   .exact JY hq I
   .cases hq
  .split at hg
   .rename_i J m1 h1;exact qO I n LK _ off sz J m1 h1
   .cases hg
 |n+1,.int k,v,off,sz,z,m,hg=>by
  simp only[gI] at hg;split at hg
  .exact gM hg I
  .cases hg
 |n+1,.bool,v,off,sz,z,m,hg=>by
  simp only[gI] at hg;split at hg
  .exact gM hg I
  .cases hg
 |n+1,.str,v,off,sz,z,m,hg=>by
  simp only[gI] at hg;split at hg
  .exact gM hg I
  .cases hg
 |n+1,.sl t,v,off,sz,z,m,hg=>by
  simp only[gI] at hg;split at hg
  .exact gM hg I
  .cases hg
theorem J1 (l:List FV):xv (l.map .f)=af l:=by
 induction l with
 |nil=>rfl
 |cons x r I=>simp only[gg,xv,I]
theorem Cc (l:List FV):pd (l.map .f)= .fz l:=by unfold pd;rw[J1]
theorem F3:∀ {a b:List TV},kn a=ai->kn b=ai->kn (a++b)=ai
 |[],_,_,hb=>hb
 |x::r,b,I,hb=>by
  simp only[kn,av] at I;simp only[gh,kn,av];exact⟨I.1,F3 I.2 hb⟩
theorem EG {I:List TV} (J:kn I=ai):∀ n,kn (aG n I).flatten=ai
 |0=>rfl
 |n+1=>by rw[List.replicate_succ,List.flatten_cons];exact F3 J (EG J n)
theorem act {H:nQ} (J:H.get=bz h) {id ty:Nat} {l:List TV} {I:List AV} (hb:h.get id=af (.cells ty l)) (hl:cH h l=af I) {n sz:Nat} (hn:l.length=n*sz):AV.row? H sz (.row (nm id) sz n)=af (I,n,[nm id]):=by
 have hg:H.get (nm id)=af ⟨ty,.mx I⟩:=by rw[J,bI,hb];simp only[aH,kr,hl]
 have hln:=hP hl;simp only[AV.row?,cQ,bC,hg,BC.isCells,pl,BC.len,BC.toMx];rw[aF (bB (by omega)),eV (by omega)]
variable (hinv:lZ h nx) (hi:s6 e h)
include hinv hi
theorem aid {con:FuncId->Option cu} {b9:TypeId->Option Ty} {ty:TypeId} {sz len:Nat} {z:List Value} {parts:List (Nat×Nat×Operand)} (hcm:Db (b9 ty)=ah) (hc:c_ P o.op=af (.bsl ty sz len z parts)) (hk:dO con b9 (.op (.bsl ty sz len z parts)) e h nx K=af r):kH P o aj e h nx K r:=by
 obtain⟨H,hH⟩:=jG h;simp only[dO,hcm] at hk;split at hk
 .rename_i T zc hT Z;split at hk
  .rename_i hs;have hs:=aw hs;subst hs;split at hk
   .rename_i cs hf;split at hk
    .rename_i xs m hp;obtain⟨cs',h1,h2,_⟩:=CD hi parts _ cs _ hf (LN h Z len);have hm:=M8 len cs xs m hp;refine ⟨_,_,_,_,_,hk,jb.new hinv hc hH (y0:=if len=0 then .emp else .row (nm nx) T.size len) (rdl:=[]) (b0:=⟨ty,pd cs'⟩) (by simp only[eH,h1]) hm (λ_ _ he=>by cases he) (λH1 H2 d g b' I=>?_) (λH1 H2 y d g J=>?_) (by simp)⟩
     .simp only[kr] at I;split at I
      .cases I
      rw[ak] at I;subst I;obtain⟨Y,U⟩:=nF cs';refine jU.cells U rfl ?_ λx M=>?_
      .rw[Y];exact (B8 d len cs xs m cs' hp h2 g).1
      .simp only[BC.toMx] at M;obtain⟨q,hq,rfl⟩:=dh.1 M;exact rm T _ q hq
     .simp only[cj,bS,PT.get_set,bC,aH,mz,fm,ak] at J;rw[(B8 d len cs xs m cs' hp h2 g).2] at J;split at J
      .rename_i hq;simp only[av,cR] at hq;subst J;rw[aF hq.2];exact lB.refl d _
      .rename_i hq;subst J;rw[aC (λh0=>hq (by subst h0;rfl))];exact lB.refl d _
    .cases hk
   .cases hk
  .cases hk
 .cases hk
theorem aie {con:FuncId->Option cu} {b9:TypeId->Option Ty} {ty:TypeId} {sz bytes:Nat} {s x:Operand} (hcm:Db (b9 ty)=ah) (hc:c_ P o.op=af (.app ty sz bytes s x)) (hk:dO con b9 (.op (.app ty sz bytes s x)) e h nx K=af r):kH P o aj e h nx K r:=by
 obtain⟨H,hH⟩:=jG h;have hfr:=hinv.fresh;simp only[dO,hcm] at hk;split at hk
 .rename_i T b y hT hv hv2;split at hk
  .rename_i hs;have hs:=aw hs;subst hs;split at hk
   .rename_i J m hys;obtain⟨yb,h1,h2⟩:=bM hi hv;obtain⟨yy,h3,h4⟩:=bM hi hv2;obtain⟨rdl,h5,h6⟩:=Vd hH hys h4;have onEmp:∀ (rd':Nat),(∀ n∈rdl,aN rd' (ow n)=ai)->If yb=ai->Le yb .emp->bc (al J) bytes=ai->jb P o aj e h nx (.row nx) rd' (kG nx) (h.set nx (af (.rows ty ai T J))) (nx+1):=by
     intro rd' hrd' he hle hroom;have hr1:ci h (h.set nx (af (.rows ty ai T J))):=ci.set λr hr=>by rw[bS,hfr] at hr;cases hr
     have hyb:∀ id sz' n,yb≠ .row id sz' n:=by rintro id sz' n rfl;cases he
     have I:eH (.app ty T.size bytes s x) (IV e h) H (nm nx)=if al J==0 then af ⟨yb,rdl,[],[],[]⟩ else af ⟨.row (nm nx) T.size (al J),rdl,[nm nx],[(nm nx,⟨ty,pd ((J.flatMap (bQ T)).map .f)⟩)],[nm nx]⟩:=by
      simp only[eH,h1,h3,h5];cases yb with
      |row id sz' n=>exact cU rfl (hyb id sz' n)
      |_=>simp only[he,hroom,iH,bC]
     by_cases hl:al J=0
     .rw[hl] at I;simp only[cQ,bC] at I;have hnil:J=[]:=gD.1 hl;subst hnil;refine jb.mk' hc hH I [] (by simp) (λn _=>?_) (by simp) (λH1 H2 d _ _ _=>⟨by simp,λy M=>?_⟩) hrd' (by simp) (by simp) hr1 (hinv.set hr1 (by omega) (by omega) λ_ _ he=>by cases he) (by omega)
      .by_cases hn:n=nm nx
       .subst hn;rw[bI,bI,PT.get_set,aF rfl,hfr];rfl
       .refine kF hinv hr1 λi e=>?_
        subst e;rw[PT.get_set,aC (λe=>hn (by rw[e]))]
      .simp only[cj,bS,PT.get_set,bC,aH,mz,fm,jQ,cQ,iH,ak] at M;subst M;exact hle.toH d
     .rw[aC (by simpa using hl)] at I;rw[Cc] at I;have key:=jb.new (m:=0) (rd:=rd') hinv hc hH I (B:=.rows ty ai T J) (v:=.row nx) (dK.zero h) (λ_ _ he=>by cases he) (λH1 H2 d g b' Z=>by
       simp only[kr] at Z;rw[aC (by simpa using hl)] at Z;simp only[ak] at Z;subst Z;exact jU.refl d _) (λH1 H2 y d g M=>by
       simp only[cj,bS,PT.get_set,bC,aH,mz,fm] at M;rw[aC (by simpa using hl)] at M;simp only[ak] at M;subst M;exact lB.refl d _) hrd'
      rw[xX] at key;exact key
    split at hk
    .rename_i id;split at hk
     .rename_i ty' p S xs0 hb;split at hk
      .rename_i xs hxs;obtain⟨ee,rfl⟩:=ja hxs;cases ee;split at hk
       .rename_i hcond;simp only[av,cR,ec] at hcond;obtain⟨rfl,hmid⟩:=hcond;obtain⟨hroom,hk⟩:=dR hk;simp only[cj,eh,hb,ak] at h2;have hidlt:=hinv.low id _ hb;have hne:nx≠id:=by omega
        have hrd:∀ n∈rdl,aN (kG id|||m) (ow n)=ai:=λn hn=>by
         obtain⟨i,rfl,hm⟩:=h6 n hn;rw[dU,bn,hm];simp
        generalize hh':(h.set id (af (.dead p T.size (al xs0)))).set nx (af (.rows ty' p T (xs0++J)))=h' at hk;have hrA:ci h (h.set id (af (.dead p T.size (al xs0)))):=ci.set λr hr=>by rw[bS,hb] at hr;exact hr
        have hg2:∀ i,h'.get i=if i=nx then af (.rows ty' p T (xs0++J)) else if i=id then af (.dead p T.size (al xs0)) else h.get i:=λi=>by rw[<- hh',PT.get_set,PT.get_set]
        have hr:ci h h':=by
         rw[<- hh'];refine hrA.trans (ci.set λr hr=>?_);rw[bS,PT.get_set,aC hne,hfr] at hr;cases hr
        have hinv':lZ h' (nx+1):=by
         refine ⟨λi ty l hil=>?_,λi c hic=>?_⟩
         .rw[hg2] at hil;split at hil
          .cases hil
          .split at hil
           .cases hil
           .exact iQ hr l (hinv.cells i ty l hil)
         .rw[hg2] at hic;split at hic
          .omega
          .split at hic
           .omega
           .have:=hinv.low i c hic;omega
        have hsame:∀ n,n≠nm nx->n≠nm id->bz h' n=bz h n:=λn h1 h2=>kF hinv hr λi e=>by
         subst e;rw[hg2,aC (λe=>h1 (by rw[e])),aC (λe=>h2 (by rw[e]))]
        have hdead:bz h' (nm id)=ah:=by rw[bI,hg2,aC (by omega),aF rfl];rfl
        have hnew:bz h' (nm nx)=if p&&(xs0++J).length==0 then ah else af ⟨ty',.fz ((xs0++J).flatMap (bQ T))⟩:=by rw[bI,hg2,aF rfl];rfl
        have hval:cj h' (.row nx)=af (fm p nx T.size (xs0++J).length):=by simp only[cj,bS,hg2,bC,aH,mz]
        have hwm:∀ n,n=nm nx\/n=nm id->aN (kG id|||kG nx) (ow n)=ai:=λn hn=>by
         rcases hn with rfl|rfl<;>rw[dU,bn,bX.2 rfl]<;>simp
        refine ⟨_,_,_,_,_,hk,?_⟩;by_cases hp:(p&&xs0.length==0)=ai
        ·
         have hyb:yb= .emp:=by rw[<- h2];unfold fm;rw[aF hp]
         subst hyb;simp only[av,cR] at hp;obtain⟨rfl,hl0⟩:=hp;have hnil:xs0=[]:=gD.1 hl0;subst hnil;have hroom':bc (al J) bytes=ai:=by simpa using hroom
         have I:eH (.app ty' T.size bytes s x) (IV e h) H (nm nx)=if al J==0 then af ⟨.emp,rdl,[],[],[]⟩ else af ⟨.row (nm nx) T.size (al J),rdl,[nm nx],[(nm nx,⟨ty',pd ((J.flatMap (bQ T)).map .f)⟩)],[nm nx]⟩:=by
          simp only[eH,h1,h3,h5,If,hroom',iH,bC]
         have hdead0:bz h (nm id)=ah:=by rw[bI,hb];rfl
         by_cases hl:al J=0
         .rw[hl] at I;simp only[cQ,bC] at I;have hnil:J=[]:=gD.1 hl;subst hnil;refine jb.mk' hc hH I [] (by simp) (λn _=>?_) (by simp) (λH1 H2 d _ _ _=>⟨by simp,λy M=>?_⟩) hrd (by simp) (by simp) hr hinv' (by omega)
          .by_cases hn:n=nm nx
           .subst hn;rw[hnew,bI,hfr];rfl
           .by_cases hn2:n=nm id
            .subst hn2;rw[hdead,hdead0]
            .exact hsame n hn hn2
          .rw[hval] at M;simp only[fm,lG,jQ,cQ,iH,bC,ak] at M;subst M;exact lB.refl d _
         .rw[aC (by simpa using hl),Cc] at I;refine jb.mk' hc hH I [nm nx] (λi hi=>hi) (λn hn=>?_) (λi hi b' _=>⟨_,by rw[aF hi];simp only[aL] at hi;subst hi;exact ie _ _⟩) (λH1 H2 d hw1 _ hw2=>⟨λi hi b b' Y U=>?_,λy M=>?_⟩) hrd (λn hn=>hwm n (.inl (by simpa using hn))) (λn hn=>by simp only[aL] at hn;subst hn;rw[dU];omega) hr hinv' (by omega)
          .have hn1:n≠nm nx:=by simpa using hn
           by_cases hn2:n=nm id
           .subst hn2;rw[hdead,hdead0]
           .exact hsame n hn1 hn2
          .simp only[aL] at hi;subst hi;rw[hw1 _ (by simp),ie] at Y;rw[hw2 _ (by simp),hnew,aC (by simpa using hl)] at U;simp only[ak,lE] at Y U;subst Y;subst U;exact jU.refl d _
          .rw[hval] at M;simp only[fm,lE] at M;rw[aC (by simpa using hl)] at M;simp only[ak] at M;subst M;exact lB.refl d _
        .have hyb:yb= .row (nm id) T.size xs0.length:=by rw[<- h2];unfold fm;rw[aC hp]
         subst hyb;have hg:H.get (nm id)=af ⟨ty',.fz (xs0.flatMap (bQ T))⟩:=by rw[hH,bI,hb];simp only[aH,kr,aC hp]
         have fl:=fA (bA T) xs0;have tk:(xs0.flatMap (bQ T)).take (xs0.length*T.size)=xs0.flatMap (bQ T):=by rw[<- fl,cP]
         have hmem:WR (nm id) rdl=aj:=by
          cases hx:WR (nm id) rdl with
          |false=>rfl
          |true=>
           obtain⟨i,e,hm⟩:=h6 _ (ag0.1 hx);rw[<- kK e,hmid] at hm;cases hm
         have I:eH (.app ty' T.size bytes s x) (IV e h) H (nm nx)=af ⟨.row (nm nx) T.size (xs0.length+J.length),nm id::rdl,[nm nx,nm id],[(nm nx,⟨ty',.fz ((xs0++J).flatMap (bQ T))⟩)],[nm nx]⟩:=by
          have hcnd:(T.size==T.size&& !(WR (nm id) rdl)&&(BC.fz (xs0.flatMap (bQ T))).isCells&&eB (xs0.length*T.size) (BC.fz (xs0.flatMap (bQ T))).len&&ty'==ty'&&bc (xs0.length+J.length) bytes)=ai:=by
           have:eB (xs0.length*T.size) (BC.fz (xs0.flatMap (bQ T))).len=ai:=bB (by simp only[BC.len];omega);rw[this,hmem,hroom];simp[BC.isCells]
          simp only[eH,h1,h3,h5,hg,hcnd,bC,BC.toMx,<-kz,tk,<-cN,Cc,List.flatMap_append]
         have hne2:¬((p&&(xs0++J).length==0)=ai):=by
          simp only[av,cR,bu] at hp ⊢;intro hh;exact hp ⟨hh.1,by omega⟩
         refine jb.mk' hc hH I [nm nx,nm id] (λi hi=>hi) (λn hn=>?_) (λi hi b' Z=>?_) (λH1 H2 d hw1 _ hw2=>⟨λi hi b b' Y U=>?_,λy M=>?_⟩) (λn hn=>?_) (λn hn=>hwm n (by simpa using hn)) (λn hn=>by simp only[aL] at hn;subst hn;rw[dU];omega) hr hinv' (by omega)
         .simp only[bi,cr,fY,not_or] at hn;exact hsame n hn.1 hn.2
         .simp only[bi,cr,fY] at hi;rcases hi with rfl|rfl
          .exact⟨_,by rw[aF (by simp)];exact ie _ _⟩
          .rw[hdead] at Z;cases Z
         .simp only[bi,cr,fY] at hi;rcases hi with rfl|rfl
          .rw[hw1 _ (by simp),ie] at Y;rw[hw2 _ (by simp),hnew,aC hne2] at U;simp only[ak] at Y U;subst Y;subst U;exact jU.refl d _
          .rw[hw2 _ (by simp),hdead] at U;cases U
         .rw[hval] at M;simp only[fm] at M;rw[aC hne2] at M;simp only[bu,ak] at M;subst M;exact lB.refl d _
         .rcases bi.1 hn with rfl|hn
          .rw[dU,bn,bX.2 rfl];rfl
          .exact hrd n hn
       .cases hk
      .cases hk
     .cases hk
    .obtain⟨hroom,hk⟩:=dR hk;simp only[cj,ak] at h2;subst h2;exact⟨_,_,_,_,_,hk,onEmp m (λn hn=>by obtain⟨i,rfl,hm⟩:=h6 n hn;rw[dU];exact hm) rfl (Le.refl _) hroom⟩
    .obtain⟨hroom,hk⟩:=dR hk;simp only[cj,ak] at h2;subst h2;exact⟨_,_,_,_,_,hk,onEmp m (λn hn=>by obtain⟨i,rfl,hm⟩:=h6 n hn;rw[dU];exact hm) rfl Le.nilEmp hroom⟩
    .cases hk
   .cases hk
  .cases hk
 .cases hk
theorem ZR {T:Ty} (xs I:List T.den):(Sm xs I).flatMap (bQ T)=AI.splice (xs.flatMap (bQ T)) 0 ((I.flatMap (bQ T)).take (iN I.length xs.length*T.size)):=by
 have _:=hinv;have _:=hi;have fl:=λJ:List T.den=>fA (bA T) J
 have tk:∀ (J:List T.den) n,(J.flatMap (bQ T)).take (n*T.size)=(J.take n).flatMap (bQ T):=by
  intro J;induction J with
  |nil=>intro n;simp
  |cons z r M=>
   intro n;cases n with
   |zero=>simp
   |succ n=>rw[fH,vB,fH,iM,List.take_append,bA,eV (by rw[bA];omega),show n*T.size+T.size-T.size=n*T.size from by omega,M n]
 have U:∀ (J:List T.den) n,(J.flatMap (bQ T)).drop (n*T.size)=(J.drop n).flatMap (bQ T):=by
  intro J;induction J with
  |nil=>intro n;simp
  |cons z r M=>
   intro n;cases n with
   |zero=>simp
   |succ n=>rw[fH,vC,iM,uD,bA,rB (by rw[bA];omega),show n*T.size+T.size-T.size=n*T.size from by omega,M n,lE]
 unfold Sm AI.splice;rw[tk,List.flatMap_append,fl,bD];have e1:I.take (iN I.length xs.length)=I.take xs.length:=by
  rcases Nat.le_total I.length xs.length with h|h
  .rw[show iN I.length xs.length=I.length from sa h,cP,eV h]
  .rw[show iN I.length xs.length=xs.length from Nat.min_eq_right h]
 rw[e1];have e2:min (iN I.length xs.length) I.length=iN I.length xs.length:=sa (Nat.min_le_left _ _);rw[e2];simp only[List.take_zero,lE,bN];rw[U];congr 1;rcases Nat.le_total I.length xs.length with h|h
 .rw[show iN I.length xs.length=I.length from sa h]
 .rw[show iN I.length xs.length=xs.length from Nat.min_eq_right h,List.drop_length,rB h]
theorem aib {con:FuncId->Option cu} {b9:TypeId->Option Ty} {sz:Nat} {d x:Operand} (hc:c_ P o.op=af (.copy sz d x)) (hk:dO con b9 (.op (.copy sz d x)) e h nx K=af r):kH P o aj e h nx K r:=by
 obtain⟨H,Z⟩:=jG h;simp only[dO] at hk;split at hk
 .rename_i id y hv U;split at hk
  .rename_i ty p T xs hb;split at hk
   .rename_i hs;have hs:=aw hs;subst hs;split at hk
    .rename_i I m hys;split at hk
     .rename_i hcond;simp only[av,ec] at hcond;obtain⟨hmid,rfl⟩:=hcond;obtain⟨yb,h1,h2⟩:=bM hi hv;obtain⟨yy,h3,h4⟩:=bM hi U;obtain⟨rdl,h5,h6⟩:=Vd Z hys h4;simp only[cj,eh,hb,fm,m8,ct,dV,ak] at h2;subst h2;have fl:=fA (bA T) xs;have fl2:=fA (bA T) I;have hg:H.get (nm id)=af ⟨ty,.fz (xs.flatMap (bQ T))⟩:=by rw[Z,bI,hb];simp[kr]
      have hmem:WR (nm id) rdl=aj:=by
       cases J:WR (nm id) rdl with
       |false=>rfl
       |true=>
        obtain⟨i,e,hm⟩:=h6 _ (ag0.1 J);rw[<- kK e,hmid] at hm;cases hm
      have hle:iN I.length xs.length*T.size<=xs.length*T.size:=cE _ (Nat.min_le_right _ _);have Y:eH (.copy T.size d x) (IV e h) H (nm nx)=af ⟨raw (.int .i64 (iN I.length xs.length)),nm id::rdl,[nm id],[(nm id,⟨ty,.fz ((Sm xs I).flatMap (bQ T))⟩)],[]⟩:=by
       have hcnd:(T.size==T.size&& !(WR (nm id) rdl)&&eB (xs.length*T.size) (BC.fz (xs.flatMap (bQ T))).len)=ai:=by
        have:eB (xs.length*T.size) (BC.fz (xs.flatMap (bQ T))).len=ai:=bB (by simp only[BC.len];omega);rw[this,hmem];simp
       have hput:(BC.fz (xs.flatMap (bQ T))).put 0 (((I.flatMap (bQ T)).map .f).take (iN I.length xs.length*T.size))=af (.fz ((Sm xs I).flatMap (bQ T))):=by
        rw[<- kz];unfold BC.put;rw[aF]
        .simp only[J1];rw[ZR hinv hi]
        .simp only[av];refine ⟨⟨rfl,bB ?_⟩,?_⟩
         .simp only[BC.len,bY,bD];omega
         .have:∀ l:List FV,(∀ x∈l,x.isCell=ai)->gB (l.map .f)=ai:=by
           intro l hl;induction l with
           |nil=>rfl
           |cons z r ih=>simp only[gg,gB,av];exact⟨hl z (by simp),ih λx J=>hl x (by simp[J])⟩
          exact this _ λx J=>rm T I x (gP J)
       simp only[eH,h1,h3,hg,h5,hcnd,bC,hput]
      have hrow:mz (.rows ty aj T (Sm xs I))=mz (.rows ty aj T xs):=by
       have:(Sm xs I).length=xs.length:=by unfold Sm;rw[bu,bD,mr];omega
       simp only[mz,this]
      have key:=jb.wrt (m:=0) (v:=.f (.int .i64) (aO (iN (al I) (al xs)))) (rd:=kG id|||m) hinv hc Z Y (B:=.rows ty aj T (Sm xs I)) hb (dK.zero h) (by simp) hrow (λ_ _ he=>by cases he) (λH1 H2 d g b' M=>by
       simp only[kr,m8,ct,dV,ak] at M;subst M;exact jU.refl d _) (λH1 H2 y d g hy=>by
       simp only[cj,ak] at hy;subst hy;exact lB.refl d _) (λn hn=>by
       rcases bi.1 hn with rfl|hn
       .rw[dU,bn,bX.2 rfl];rfl
       .obtain⟨i,rfl,hm⟩:=h6 n hn;rw[dU,bn,hm];simp)
      rw[xX] at key;exact⟨_,_,_,_,_,hk,key⟩
     .cases hk
    .cases hk
   .cases hk
  .cases hk
 .cases hk
theorem adz {con:FuncId->Option cu} {b9:TypeId->Option Ty} {sz:Nat} {x v:Operand} (hc:c_ P o.op=af (.store sz x v)) (hk:dO con b9 (.op (.store sz x v)) e h nx K=af r):kH P o aj e h nx K r:=by
 obtain⟨H,hH⟩:=jG h;simp only[dO] at hk;split at hk
 .rename_i id off y hv hv2;obtain⟨yb,h1,h2⟩:=bM hi hv;obtain⟨J,h3,h4⟩:=bM hi hv2;simp only[cj,ak] at h2;subst h2;split at hk
  .rename_i ty l hb;split at hk
   .rename_i cs hcs;split at hk
    .rename_i hcond;simp only[av,cR] at hcond;obtain⟨h5,h6⟩:=Jz hcs h4;obtain⟨M,hl⟩:=fk h l (hinv.cells id ty l hb);have hg:H.get (nm id)=af ⟨ty,.mx M⟩:=by rw[hH,bI,hb];simp only[aH,kr,hl]
     have hcell:=rM h5 h6;have hlen:J.cs.length=sz:=by rw[hP h5];exact hcond.1
     have hput:(BC.mx M).put off J.cs=af (.mx (splice M off J.cs)):=by
      unfold BC.put;rw[aF]
      .rfl
      .simp only[av];exact⟨⟨rfl,by simp only[BC.len];rw[hlen,hP hl];exact hcond.2⟩,hcell⟩
     have Z:eH (.store sz x v) (IV e h) H (nm nx)=af ⟨raw undef,[nm id],[nm id],[(nm id,⟨ty,.mx (splice M off J.cs)⟩)],[]⟩:=by
      simp only[eH,h1,h3,JX,hg,hlen,cQ,bC,hput]
     have hspl:∀ h',ci h h'->cH h' (splice l off cs)=af (splice M off J.cs):=λh' hr=>rY off (gU hr l M hl) (gU hr cs _ h5)
     have U:ci h (h.set id (af (.cells ty (splice l off cs)))):=ci.set λr hr=>by rw[bS,hb] at hr;cases hr
     have key:=jb.wrt (m:=0) (v:=.undef) (rd:=kG id) hinv hc hH Z (B:=.cells ty (splice l off cs)) hb (dK.zero h) (by simp) rfl (λty' l2 he=>by cases he;exact kE _ _ _ (hspl _ U)) (λH1 H2 d g b' I=>by
      have:=hspl _ U;simp only[em,rA,bC,kr,this,ak] at I;subst I;exact jU.refl d _) (λH1 H2 y d g hy=>by
      simp only[cj,ak] at hy;subst hy;exact lB.refl d _) (λn hn=>by simp only[aL] at hn;subst hn;rw[dU];exact bX.2 rfl)
     rw[xX] at key;exact⟨_,_,_,_,_,hk,key⟩
    .cases hk
   .cases hk
  .cases hk
 .rename_i id sz' j off y hv hv2;obtain⟨yb,h1,h2⟩:=bM hi hv;obtain⟨J,h3,h4⟩:=bM hi hv2;simp only[cj,ak] at h2;subst h2;split at hk
  .rename_i ty p T xs hb;split at hk
   .rename_i hsz;have hsz:=aw hsz;subst hsz;obtain⟨hj,hk⟩:=dR hk;split at hk
    .rename_i z m hset;split at hk
     .cases hk
     .rename_i hmid;have hmid:aN m id=aj:=by simpa using hmid
      have hm:=zC 40 T _ off sz z m hset;obtain⟨j0,j1,j2⟩:=DV hj;have hne:¬((p&&xs.length==0)=ai):=by simp only[av,cR];omega
      have hne2:¬((p&&(cq xs j z).length==0)=ai):=by unfold cq;rw[sd];exact hne
      have hg:H.get (nm id)=af ⟨ty,.fz (xs.flatMap (bQ T))⟩:=by rw[hH,bI,hb];simp only[aH,kr,aC hne]
      have fl:=fA (bA T) xs;have hx:xs[j.toNat]? =af (aJ xs j):=by
       unfold aJ;rw[ay,aA j2];rfl
      have hle:(j.toNat+1)*T.size<=xs.length*T.size:=cE _ j2;rw[iM] at hle;have hso:∀ H1 H2,uY H1 H2->Dv h H1 H2 m->Wq H1 H2 J T (aJ xs j) z off sz:=λH1 H2 d g=>vI d h4 40 T _ off sz z m hset g
      have hshape:J.cs.length=sz/\off+sz<=T.size/\gB J.cs=ai:=by
       have d0:uY (bz h) (bz (em m h)):=λi b hb=>by
        obtain⟨i',c,rfl,g1,g2⟩:=js hb;rw[iU] at g1;by_cases ht:aN m i'=ai
        .obtain⟨pp,ss,nn,g3⟩:=tm hm ht;rw[iU] at g3;rw[g3] at g1;cases g1;cases g2
        .rw[aC ht] at g1;exact⟨b,by rw[bI,g1];simp only[aH];rw[<- IW (ci.kill m h) (λty l e=>hinv.cells i' ty l (by rw[g1,e]))];exact g2⟩
       obtain⟨fs,q1,q2,q3,q4,q5⟩:=hso _ _ d0 (λi hi=>⟨rfl,by
        obtain⟨pp,ss,nn,g3⟩:=tm hm hi;rw[bI,g3];rfl⟩)
       refine ⟨by rw[<- q2,<-bY (f:=AV.f),q1.length],q3,?_⟩;exact qO h4 40 T _ off sz z m hset
      obtain⟨hlen,hoff,hcell⟩:=hshape;obtain⟨c',hput,Y,hc2⟩:∃ c',(BC.fz (xs.flatMap (bQ T))).put (j.toNat*T.size+off) J.cs=af c'/\c'.toMx=splice ((xs.flatMap (bQ T)).map .f) (j.toNat*T.size+off) J.cs/\c'.isCells=ai:=by
       unfold BC.put;rw[aF]
       .split
        .rename_i l ys hl hys;simp only[BC.fz.injEq] at hl;subst hl;refine ⟨_,rfl,?_,rfl⟩;rw[pA hys];simp only[BC.toMx];unfold splice;simp[kz,List.map_drop]
        .exact⟨_,rfl,rfl,rfl⟩
       .simp only[av];exact⟨⟨rfl,bB (by simp only[BC.len];omega)⟩,hcell⟩
      have Z:eH (.store sz x v) (IV e h) H (nm nx)=af ⟨raw undef,[nm id],[nm id],[(nm id,⟨ty,c'⟩)],[]⟩:=by
       simp only[eH,h1,h3,JX,hg,hlen,cQ,bC,hput]
      have hrow:mz (.rows ty p T (cq xs j z))=mz (.rows ty p T xs):=by
       unfold cq;simp only[mz,sd]
      refine ⟨_,_,_,_,_,hk,jb.wrt hinv hc hH Z (B:=.rows ty p T (cq xs j z)) hb hm hmid hrow (λ_ _ he=>by cases he) (λH1 H2 d g b' I=>?_) (λH1 H2 y d g hy=>?_) (λn hn=>?_)⟩
      .simp only[kr,aC hne2,ak] at I;subst I;obtain⟨fs,q1,q2,q3,q4,q5⟩:=hso H1 H2 d g;have hfl:(cq xs j z).flatMap (bQ T)=AI.splice (xs.flatMap (bQ T)) (j.toNat*T.size+off) fs:=Qp (bA T) xs j.toNat _ z hx off fs (by omega) q4;refine jU.cells hc2 rfl ?_ λx hx=>?_
       .rw[Y];simp only[BC.toMx];rw[hfl];have:(AI.splice (xs.flatMap (bQ T)) (j.toNat*T.size+off) fs).map AV.f=AI.splice ((xs.flatMap (bQ T)).map .f) (j.toNat*T.size+off) (fs.map .f):=by unfold AI.splice;simp[kz,List.map_drop]
        rw[this];exact (ia.refl d _).splice _ q1
       .simp only[BC.toMx] at hx;obtain⟨q,hq,rfl⟩:=dh.1 hx;exact rm T _ q hq
      .simp only[cj,ak] at hy;subst hy;exact lB.refl d _
      .simp only[aL] at hn;subst hn;rw[dU,bn,bX.2 rfl];simp
    .cases hk
   .cases hk
  .rename_i ty l hb;split at hk
   .rename_i hsz;simp only[av] at hsz;obtain⟨s1,s2,s3⟩:=hsz;have s1:=aw s1;have s2:=aw s2;have s3:=aw s3;subst s1;subst s2;subst s3;obtain⟨hj,hk⟩:=dR hk;obtain⟨j0,j1,j2⟩:=DV hj;split at hk
    .rename_i cs hcs;split at hk
     .rename_i Y;have Y:=aw Y;obtain⟨h5,h6⟩:=Jz hcs h4;obtain⟨M,hl⟩:=fk h l (hinv.cells id ty l hb);have hg:H.get (nm id)=af ⟨ty,.mx M⟩:=by rw[hH,bI,hb];simp only[aH,kr,hl]
      have hcell:=rM h5 h6;have hlen:J.cs.length=1:=by rw[hP h5];exact Y
      have e0:j.toNat*1+0=j.toNat:=by omega
      rw[e0] at h1;have hput:(BC.mx M).put j.toNat J.cs=af (.mx (splice M j.toNat J.cs)):=by
       unfold BC.put;rw[aF]
       .rfl
       .simp only[av];exact⟨⟨rfl,bB (by simp only[BC.len];rw[hlen,hP hl];omega)⟩,hcell⟩
      have Z:eH (.store 1 x v) (IV e h) H (nm nx)=af ⟨raw undef,[nm id],[nm id],[(nm id,⟨ty,.mx (splice M j.toNat J.cs)⟩)],[]⟩:=by
       simp only[eH,h1,h3,JX,hg,hlen,cQ,bC,hput]
      have hspl:∀ h',ci h h'->cH h' (splice l j.toNat cs)=af (splice M j.toNat J.cs):=λh' hr=>rY j.toNat (gU hr l M hl) (gU hr cs _ h5)
      have U:ci h (h.set id (af (.cells ty (splice l j.toNat cs)))):=ci.set λr hr=>by rw[bS,hb] at hr;cases hr
      have key:=jb.wrt (m:=0) (v:=.undef) (rd:=kG id) hinv hc hH Z (B:=.cells ty (splice l j.toNat cs)) hb (dK.zero h) (by simp) rfl (λty' l2 he=>by cases he;exact kE _ _ _ (hspl _ U)) (λH1 H2 d g b' I=>by
       have:=hspl _ U;simp only[em,rA,bC,kr,this,ak] at I;subst I;exact jU.refl d _) (λH1 H2 y d g hy=>by
       simp only[cj,ak] at hy;subst hy;exact lB.refl d _) (λn hn=>by simp only[aL] at hn;subst hn;rw[dU];exact bX.2 rfl)
      rw[xX] at key;exact⟨_,_,_,_,_,hk,key⟩
     .cases hk
    .cases hk
   .cases hk
  .cases hk
 .cases hk
theorem ai6 {con:FuncId->Option cu} {b9:TypeId->Option Ty} {ty:TypeId} {sz bytes:Nat} {z:List Value} {l c:Operand} (hc:c_ P o.op=af (.mksl ty sz bytes z l c)) (hk:dO con b9 (.op (.mksl ty sz bytes z l c)) e h nx K=af r):kH P o aj e h nx K r:=by
 cases hcm:Db (b9 ty) with
 |none=>exact ae0 hinv hi hcm hc hk
 |some n=>
  obtain⟨H,hH⟩:=jG h;simp only[dO,hcm] at hk;split at hk
  .rename_i zc k a k' b J hv M;obtain⟨hck,hk⟩:=dR hk;rw[av] at hck;obtain⟨hcond,hn⟩:=hck;have hn:=bt hn;obtain⟨y,h1,h2⟩:=bM hi hv;obtain⟨y2,h3,Y⟩:=bM hi M;simp only[cj,ak] at h2 Y;subst h2;subst Y;have han:aS a=n:=by rw[hn];rfl
   obtain⟨_,_,hzc⟩:=uV h J;refine ⟨_,_,_,_,_,hk,jb.new hinv hc hH (y0:=.row (nm nx) sz n) (rdl:=[]) (b0:=⟨ty,.fz (repl z n)⟩) (by simp only[eH,h1,h3,gC,hcond,bC,han]) (dK.zero h) (λty' l' he=>?_) (λH1 H2 d g b' I=>?_) (λH1 H2 y d g U=>?_) (by simp)⟩
   .cases he;exact kE _ _ _ (LN _ J n)
   .simp only[kr,LN _ J n,ak] at I;subst I;refine jU.cells rfl rfl (ia.refl d _) λx Z=>?_
    exact lA (rM (LN h J n) (EG hzc n)) x Z
   .simp only[cj,ak] at U;subst U;exact lB.refl d _
  .cases hk
theorem alp {con:FuncId->Option cu} {b9:TypeId->Option Ty} {ty:TypeId} {sz len:Nat} {z:List Value} {parts:List (Nat×Nat×Operand)} (hc:c_ P o.op=af (.bsl ty sz len z parts)) (hk:dO con b9 (.op (.bsl ty sz len z parts)) e h nx K=af r):kH P o aj e h nx K r:=by
 cases hcm:Db (b9 ty) with
 |none=>exact aid hinv hi hcm hc hk
 |some n=>
  obtain⟨H,hH⟩:=jG h;simp only[dO,hcm] at hk;split at hk
  .rename_i zc M;split at hk
   .rename_i cs hf;split at hk
    .cases hk
    .rename_i hl;have hl:len≠0:=λe=>hl (by rw[e];rfl)
     obtain⟨cs',h1,h2,h3⟩:=CD hi parts _ cs _ hf (LN h M len);obtain⟨_,_,hzc⟩:=uV h M;have hcs:=h3 (EG hzc len);have hr:ci h ((em 0 h).set nx (af (.cells ty cs))):=(ci.kill 0 h).trans (ci.set λr hr=>by rw[bS,(hinv.kill 0).fresh] at hr;cases hr);have J:=gU hr _ _ h2;refine ⟨_,_,_,_,_,hk,jb.new hinv hc hH (y0:=.row (nm nx) sz len) (rdl:=[]) (b0:=⟨ty,pd cs'⟩) (by simp only[eH,h1,aC hl]) (dK.zero h) (λty' l' he=>?_) (λH1 H2 d g b' I=>?_) (λH1 H2 y d g U=>?_) (by simp)⟩
     .cases he;exact kE _ _ _ J
     .simp only[kr,J,ak] at I;subst I;obtain⟨Z,Y⟩:=nF cs';refine jU.cells Y rfl ?_ λx hx=>?_
      .rw[Z];exact ia.refl d _
      .exact lA (rM h2 hcs) x hx
     .simp only[cj,ak] at U;subst U;exact lB.refl d _
   .cases hk
  .cases hk
theorem als {con:FuncId->Option cu} {b9:TypeId->Option Ty} {ty:TypeId} {sz bytes:Nat} {s x:Operand} (hc:c_ P o.op=af (.app ty sz bytes s x)) (hk:dO con b9 (.op (.app ty sz bytes s x)) e h nx K=af r):kH P o aj e h nx K r:=by
 cases hcm:Db (b9 ty) with
 |none=>exact aie hinv hi hcm hc hk
 |some n0=>
  obtain⟨H,hH⟩:=jG h;have hfr:=hinv.fresh;simp only[dO,hcm] at hk;split at hk
  .rename_i b y hv hv2;obtain⟨yb,h1,h2⟩:=bM hi hv;obtain⟨yy,h3,h4⟩:=bM hi hv2;unfold aew at hk;split at hk
   .rename_i id2 sz2 m;simp only[cj,ak] at h4;subst h4;split at hk
    .rename_i ty2 l2 I;split at hk
     .rename_i hq;simp only[av,ec] at hq;obtain⟨⟨q1,q2⟩,q3⟩:=hq;have q1:=aw q1;have q2:=aw q2;have q3:m≠0:=λe=>by rw[e] at q3;cases q3
      subst q1;obtain⟨J,Z⟩:=fk h l2 (hinv.cells id2 ty2 l2 I);have hrow:=act hH I Z q2;split at hk
      .rename_i id sz1 n;simp only[cj,ak] at h2;subst h2;split at hk
       .rename_i ty1 l1 U;split at hk
        .rename_i hq;simp only[av,ec] at hq;obtain⟨⟨⟨p1,p2⟩,p3⟩,p4⟩:=hq;have p1:=aw p1;have p2:=eq_of_beq p2;have p3:=aw p3;have p4:id≠id2:=λe=>by rw[e,rA] at p4;cases p4
         subst p1;subst p2;obtain⟨hroom,hk⟩:=dR hk;obtain⟨M,hl1⟩:=fk h l1 (hinv.cells id _ l1 U);have hln:=hP hl1;have hg:H.get (nm id)=af ⟨ty1,.mx M⟩:=by rw[hH,bI,U];simp only[aH,kr,hl1]
         have hidlt:id<nx:=hinv.low id _ U;generalize hB:im.cells ty1 (l1++l2)=B at hk;have hd1:ci h (h.set id (af (.dead ai 0 0))):=ci.set λr hr=>by rw[bS,U] at hr;cases hr
         have hd2:ci (h.set id (af (.dead ai 0 0))) ((h.set id (af (.dead ai 0 0))).set nx (af B)):=ci.set λr hr=>by
          rw[bS,PT.get_set,aC (by omega),hfr] at hr;cases hr
         have hr:=hd1.trans hd2;have hsp:cH ((h.set id (af (.dead ai 0 0))).set nx (af B)) (l1++l2)=af (M++J):=gU hr _ _ (mW hl1 Z);have Y:bz ((h.set id (af (.dead ai 0 0))).set nx (af B)) (nm nx)=af ⟨ty1,.mx (M++J)⟩:=by rw[bI,PT.get_set,aF rfl,<-hB] at *;simp only[aH,kr,hsp]
         have hbd:bz ((h.set id (af (.dead ai 0 0))).set nx (af B)) (nm id)=ah:=by rw[bI,PT.get_set,aC (by omega),PT.get_set,aF rfl];rfl
         have hinv1:lZ (h.set id (af (.dead ai 0 0))) nx:=hinv.set hd1 hidlt (bV _) (λ_ _ he=>by cases he);have ha:eH (.app ty1 sz1 bytes s x) (IV e h) H (nm nx)=af ⟨.row (nm nx) sz1 (n+m),[nm id,nm id2],[nm nx,nm id],[(nm nx,⟨ty1,pd (M++J)⟩)],[nm nx]⟩:=by
          simp only[eH,h1,h3,hrow,hg];rw[aF (by
           simp only[cQ,pl,Bool.and_true,BC.isCells,BC.len,hroom,av,ec];refine ⟨?_,bB (by omega)⟩;simp only[WR,Bool.or_false];cases hq:aB (nm id2) (nm id) with
           |false=>rfl
           |true=>exact cU (kK (aw hq)).symm p4)]
          simp only[BC.toMx,eV (show M.length<=n*sz1 by omega)]
         refine ⟨_,_,_,_,_,hk,jb.mk' hc hH ha [nm nx,nm id] (λi hi=>hi) (λq hq=>?_) (λi hi b' hbb=>?_) (λH1 H2 d hw1 _ hw2=>⟨λi hi b b' hb I=>?_,λy hy=>?_⟩) (λq hq=>?_) (λq hq=>?_) (λq hq=>?_) hr (hinv1.set hd2 (by omega) (by omega) λty' l' he=>?_) (by omega)⟩
         .simp only[bi,cr,fY,not_or] at hq;refine kF hinv hr λi ei=>?_
          subst ei;rw[PT.get_set,aC (λe=>hq.1 (by rw[e])),PT.get_set,aC (λe=>hq.2 (by rw[e]))]
         .simp only[bi,cr,fY] at hi;rcases hi with rfl|rfl
          .rw[aF (by simp)];exact⟨_,ie _ _⟩
          .rw[hbd] at hbb;cases hbb
         .simp only[bi,cr,fY] at hi;rcases hi with rfl|rfl
          .rw[hw1 _ (by simp),ie] at hb;rw[hw2 _ (by simp),Y] at I;simp only[ak] at hb I;subst hb;subst I;obtain⟨m1,m2⟩:=nF (M++J);exact jU.eq d m2 rfl m1
          .rw[hw2 _ (by simp),hbd] at I;cases I
         .simp only[cj,ak] at hy;subst hy;exact lB.refl d _
         .simp only[bi,cr,fY] at hq;rw[bn,iP];rcases hq with rfl|rfl
          .rw[dU];exact .inl (bX.2 rfl)
          .rw[dU];exact .inr (bX.2 rfl)
         .simp only[bi,cr,fY] at hq;rw[bn,iP];rcases hq with rfl|rfl
          .rw[dU];exact .inr (bX.2 rfl)
          .rw[dU];exact .inl (bX.2 rfl)
         .simp only[aL] at hq;subst hq;rw[dU];omega
         .rw[<- hB] at he;cases he;exact kE _ _ _ hsp
        .cases hk
       .cases hk
      .simp only[cj,ak] at h2;subst h2;obtain⟨hroom,hk⟩:=dR hk;have hr:ci h ((em 0 h).set nx (af (.cells ty l2))):=(ci.kill 0 h).trans (ci.set λr hr=>by rw[bS,(hinv.kill 0).fresh] at hr;cases hr);have h2':=gU hr _ _ Z;refine ⟨_,_,_,_,_,hk,jb.new hinv hc hH (y0:=.row (nm nx) sz2 m) (rdl:=[nm id2]) (b0:=⟨ty,pd J⟩) (by simp only[eH,h1,h3,hrow];simp[If,zI,hroom,q3]) (dK.zero h) (λty' l' he=>?_) (λH1 H2 d g b' Y=>?_) (λH1 H2 y d g hy=>?_) (λn hn=>?_)⟩
       .cases he;exact kE _ _ _ h2'
       .simp only[kr,h2',ak] at Y;subst Y;obtain⟨p1,p2⟩:=nF J;exact jU.eq d p2 rfl p1
       .simp only[cj,ak] at hy;subst hy;exact lB.refl d _
       .simp only[aL] at hn;subst hn;rw[dU];exact bX.2 rfl
      .cases hk
     .cases hk
    .cases hk
   .cases hk
  .cases hk
theorem al5 {con:FuncId->Option cu} {b9:TypeId->Option Ty} {sz:Nat} {x:Operand} {lo hi' mx:Option Operand} (hc:c_ P o.op=af (.slc sz x lo hi' mx)) (hk:dO con b9 (.op (.slc sz x lo hi' mx)) e h nx K=af r):kH P o aj e h nx K r:=by
 have hfr:=hinv.fresh;simp only[dO] at hk;split at hk
 .rename_i v hv;obtain⟨y,h1,h2⟩:=bM hi hv;split at hk
  .split at hk
   .rename_i hn;obtain⟨n,hn⟩:=iG.1 hn;have Y:=Pz hn h2;exact kH.q (k:=0) hinv hc (λH _=>by simp only[eH,h1,Y,Option.isSome_some,bC]) (di rfl) hk
   .cases hk
  .rename_i b;split at hk
   .rename_i T xs k j hb;obtain⟨y2,Y,U⟩:=bM hi hb;simp only[cj,ak] at h2 U;subst h2;subst U;split at hk
    .rename_i hs;have hs:=aw hs;subst hs;obtain⟨hj,hk⟩:=dR hk;have hfl:=fA (bA T) xs;have hcond:(cV 0 j&&cV j (al xs)&&eB (al xs*T.size) (xs.flatMap (bQ T)).length)=ai:=by
      rw[hj,pl];exact bB (by omega)
     simp only[cV,av,bP] at hj;have hlen:(xs.take j.toNat).length=j.toNat:=by rw[bD];omega
     exact kH.q (k:=0) (y0:=.f (.sl ((xs.flatMap (bQ T)).take (j.toNat*T.size)) j.toNat)) hinv hc (λH _=>by simp only[eH,h1,Y,gC,hcond,bC]) (di (by simp only[cj,gC];rw[zM (bA T),hlen])) hk
    .cases hk
   .rename_i id k j hb;obtain⟨y2,Y,U⟩:=bM hi hb;simp only[cj,ak] at U;subst U;split at hk
    .rename_i ty p T xs I;split at hk
     .rename_i hs;have hs:=aw hs;subst hs;obtain⟨hj,hk⟩:=dR hk;obtain⟨H,hH⟩:=jG h;have hj0:=hj;simp only[cV,fP,av,bP] at hj;have hp:¬((p&&xs.length==0)=ai):=by
       simp only[av,cR];omega
      simp only[cj,bS,I,aH,mz,fm,aC hp,ak] at h2;subst h2;have hidlt:=hinv.low id _ I;have hne:nx≠id:=by omega
      have hg:H.get (nm id)=af ⟨ty,.fz (xs.flatMap (bQ T))⟩:=by rw[hH,bI,I];simp only[aH,kr,aC hp]
      have fl:=fA (bA T) xs;have hcond:(T.size==T.size&&cV 0 j&&cV j (al xs))=ai:=by
       simp only[cV,av,bP,cQ,AO];omega
      have hlen:(xs.take j.toNat).length=j.toNat:=by rw[bD];omega
      have ha0:eH (.slc T.size x ah (af b) ah) (IV e h) H (nm nx)=af ⟨.row (nm nx) T.size j.toNat,[nm id],[nm nx,nm id],[(nm nx,⟨ty,.fz ((xs.take j.toNat).flatMap (bQ T))⟩)],[nm nx]⟩:=by
       have hc2:((BC.fz (xs.flatMap (bQ T))).isCells&&eB (al xs*T.size) (BC.fz (xs.flatMap (bQ T))).len)=ai:=by
        simp only[BC.isCells,pl,BC.len];exact bB (by omega)
       simp only[eH,h1,Y,gC,hcond,bC,hg,hc2,BC.toMx,<-kz,Cc,zM (bA T)]
      generalize hh':(h.set id (af (.dead p T.size (al xs)))).set nx (af (.rows ty aj T (du j.toNat xs)))=h' at hk;have hrA:ci h (h.set id (af (.dead p T.size (al xs)))):=ci.set λr hr=>by rw[bS,I] at hr;exact hr
      have J:∀ i,h'.get i=if i=nx then af (.rows ty aj T (du j.toNat xs)) else if i=id then af (.dead p T.size (al xs)) else h.get i:=λi=>by rw[<- hh',PT.get_set,PT.get_set]
      have hr:ci h h':=by
       rw[<- hh'];refine hrA.trans (ci.set λr hr=>?_);rw[bS,PT.get_set,aC hne,hfr] at hr;cases hr
      have hinv':lZ h' (nx+1):=by
       refine ⟨λi ty l hil=>?_,λi c hic=>?_⟩
       .rw[J] at hil;split at hil
        .cases hil
        .split at hil
         .cases hil
         .exact iQ hr l (hinv.cells i ty l hil)
       .rw[J] at hic;split at hic
        .omega
        .split at hic
         .omega
         .have:=hinv.low i c hic;omega
      have hsame:∀ n,n≠nm nx->n≠nm id->bz h' n=bz h n:=λn h1 h2=>kF hinv hr λi e=>by
       subst e;rw[J,aC (λe=>h1 (by rw[e])),aC (λe=>h2 (by rw[e]))]
      have hdead:bz h' (nm id)=ah:=by rw[bI,J,aC (by omega),aF rfl];rfl
      have hnew:bz h' (nm nx)=af ⟨ty,.fz ((xs.take j.toNat).flatMap (bQ T))⟩:=by rw[bI,J,aF rfl];rfl
      have hval:cj h' (.row nx)=af (.row (nm nx) T.size j.toNat):=by simp only[cj,bS,J,bC,aH,mz,fm,m8,ct,dV,hlen]
      refine ⟨_,_,_,_,_,hk,?_⟩;refine jb.mk' hc hH ha0 [nm nx,nm id] (λi hi=>hi) (λn hn=>?_) (λi hi b' hb'=>?_) (λH1 H2 d hw1 _ hw2=>⟨λi hi b b' Z M=>?_,λy hy=>?_⟩) (λn hn=>?_) (λn hn=>?_) (λn hn=>by simp only[aL] at hn;subst hn;rw[dU];omega) hr hinv' (by omega)
      .simp only[bi,cr,fY,not_or] at hn;exact hsame n hn.1 hn.2
      .simp only[bi,cr,fY] at hi;rcases hi with rfl|rfl
       .exact⟨_,by rw[aF (by simp)];exact ie _ _⟩
       .rw[hdead] at hb';cases hb'
      .simp only[bi,cr,fY] at hi;rcases hi with rfl|rfl
       .rw[hw1 _ (by simp),ie] at Z;rw[hw2 _ (by simp),hnew] at M;simp only[ak] at Z M;subst Z;subst M;exact jU.refl d _
       .rw[hw2 _ (by simp),hdead] at M;cases M
      .rw[hval] at hy;simp only[ak] at hy;subst hy;exact lB.refl d _
      .simp only[aL] at hn;subst hn;rw[dU];exact bX.2 rfl
      .simp only[bi,cr,fY] at hn;rcases hn with rfl|rfl<;>rw[dU,bn,bX.2 rfl]<;>simp
     .cases hk
    .cases hk
   .cases hk
  .rename_i b;split at hk
   .rename_i T xs k j hb;obtain⟨y2,Y,U⟩:=bM hi hb;simp only[cj,ak] at h2 U;subst h2;subst U;split at hk
    .rename_i hs;have hs:=aw hs;subst hs;obtain⟨hj,hk⟩:=dR hk;have hfl:=fA (bA T) xs;have hcond:(cV 0 j&&cV j (al xs)&&eB (al xs*T.size) (xs.flatMap (bQ T)).length)=ai:=by
      rw[hj,pl];exact bB (by omega)
     simp only[cV,av,bP] at hj;have hlen:(xs.drop j.toNat).length=al xs-j.toNat:=by rw[mr]
     have htk:((xs.flatMap (bQ T)).drop (j.toNat*T.size)).take ((al xs-j.toNat)*T.size)=(xs.flatMap (bQ T)).drop (j.toNat*T.size):=by
      refine eV ?_;rw[mr,hfl,Nat.sub_mul];exact bV _
     exact kH.q (k:=0) (y0:=.f (.sl ((xs.flatMap (bQ T)).drop (j.toNat*T.size)) (al xs-j.toNat))) hinv hc (λH _=>by simp only[eH,h1,Y,gC,hcond,bC,htk]) (di (by simp only[cj,gC];rw[IP (bA T),hlen])) hk
    .cases hk
   .rename_i id k j hb;obtain⟨y2,Y,U⟩:=bM hi hb;simp only[cj,ak] at U;subst U;split at hk
    .rename_i ty p T xs I;split at hk
     .rename_i hs;have hs:=aw hs;subst hs;obtain⟨hj,hk⟩:=dR hk;have hcond:(T.size==T.size&&cV 0 j&&fP j (al xs))=ai:=by
       simp only[av] at hj;rw[hj.1,hj.2,cQ];rfl
      simp only[cV,fP,av,bP] at hj;have hp:¬((p&&xs.length==0)=ai):=by
       simp only[av,cR];omega
      simp only[cj,bS,I,aH,mz,fm,aC hp,ak] at h2;subst h2;exact kH.q (k:=0) (y0:=.sl (nm id) (j.toNat*T.size) (al xs-j.toNat)) hinv hc (λH _=>by simp only[eH,h1,Y,gC,hcond,bC]) (di (by simp only[cj,bS,I,aH,mz])) hk
     .cases hk
    .cases hk
   .cases hk
  .cases hk
 .cases hk
theorem alo {con:FuncId->Option cu} {b9:TypeId->Option Ty} {sz:Nat} {z:List Value} {x:Operand} (hc:c_ P o.op=af (.clr sz z x)) (hk:dO con b9 (.op (.clr sz z x)) e h nx K=af r):kH P o aj e h nx K r:=by
 obtain⟨H,hH⟩:=jG h;simp only[dO] at hk;split at hk
 .rename_i id j hv;split at hk
  .rename_i ty p T xs hb;split at hk
   .rename_i hs;simp only[av] at hs;obtain⟨⟨hs,J⟩,hco⟩:=hs;have hs:=aw hs;have J:=JU J;subst hs;subst J;obtain⟨hj,hk⟩:=dR hk;simp only[cV,fP,av,bP] at hj;obtain⟨j0,j1⟩:=hj;obtain⟨y,h1,h2⟩:=bM hi hv;simp only[cj,bS,hb,aH,mz,ak] at h2;subst h2;have hp:¬((p&&xs.length==0)=ai):=by
     simp only[av,cR];omega
    have fl:=fA (bA T) xs;have hg:H.get (nm id)=af ⟨ty,.fz (xs.flatMap (bQ T))⟩:=by rw[hH,bI,hb];simp only[aH,kr,aC hp]
    have hrl:(repl (sD T) (xs.length-j.toNat)).length=(xs.length-j.toNat)*T.size:=by
     have h9:=(G4 (H:=λ_=>ah) (H':=λ_=>ah) (λn b hb=>by cases hb) T (xs.length-j.toNat)).length;rw[bY,bY,fA (bA T),eC] at h9;exact h9.symm
    have hoff:j.toNat*T.size+(xs.length-j.toNat)*T.size=xs.length*T.size:=by rw[<- MO];congr 1;omega
    have hput:(BC.fz (xs.flatMap (bQ T))).put (j.toNat*T.size) ((repl (sD T) (xs.length-j.toNat)).map .f)=af (.fz (splice (xs.flatMap (bQ T)) (j.toNat*T.size) (repl (sD T) (xs.length-j.toNat)))):=by
     unfold BC.put;rw[aF]
     .simp only[J1]
     .simp only[av];refine ⟨⟨rfl,bB ?_⟩,F1 _ λq hq=>?_⟩
      .simp only[BC.len,bY];omega
      .obtain⟨v,hv,rfl⟩:=Pf _ q hq;exact gi.1 hco v hv
    have hblt:gd 0 (xs.length-j.toNat)=ai:=bB (by omega);have Y:eH (.clr T.size (sD T) x) (IV e h) H (nm nx)=af ⟨.tup [],[nm id],[nm id],[(nm id,⟨ty,.fz (splice (xs.flatMap (bQ T)) (j.toNat*T.size) (repl (sD T) (xs.length-j.toNat)))⟩)],[]⟩:=by
     simp only[eH,h1,hg,hblt,bC,hput]
    have hlen:(du j.toNat xs++aG (al xs-j.toNat) T.zero).length=xs.length:=by
     rw[bu,bD,eC];omega
    have hrow:mz (.rows ty p T (du j.toNat xs++aG (al xs-j.toNat) T.zero))=mz (.rows ty p T xs):=by simp only[mz,hlen]
    refine ⟨_,_,_,_,_,hk,jb.wrt (m:=0) (v:=.tup []) (rd:=kG id) hinv hc hH Y hb (dK.zero h) (by simp) hrow (λ_ _ he=>by cases he) (λH1 H2 d g b' I=>?_) (λH1 H2 y d g Z=>?_) (λn hn=>?_)⟩
    .have U:¬((p&&(du j.toNat xs++aG (al xs-j.toNat) T.zero).length==0)=ai):=by rw[hlen];exact hp
     simp only[kr,aC U,ak] at I;subst I;refine jU.cells rfl rfl ?_ λq hq=>?_
     .simp only[BC.toMx];unfold splice;rw[hrl,hoff,<-fl,List.drop_length,lG,List.flatMap_append,zM (bA T),cN,cN];exact (ia.refl d _).append (G4 d T _)
     .simp only[BC.toMx] at hq;obtain⟨q',M,rfl⟩:=dh.1 hq;exact rm T _ q' M
    .simp only[cj,cH,ak] at Z;subst Z;exact lB.refl d _
    .simp only[aL] at hn;subst hn;rw[dU];exact bX.2 rfl
   .cases hk
  .cases hk
 .cases hk
end ops
theorem S9 {K V:Ty} {es:List (K.den×V.den)} (I:mpE K V es=ai):es.map (λp=>(px K p.1,AV.f (gC V p.2)))=[]:=by
 unfold mpE at I;split at I
 .rfl
 .cases I
theorem afy {K V:Ty} {es:List (K.den×V.den)} (I:mpE K V es=ai):S8 K=ai:=by
 unfold mpE at I;split at I
 .rfl
 .cases I
theorem Vz {str:Bool} {K:Ty} (I:WS str K=ai):S8 K=ai:=by
 cases K<;>cases str<;>first|rfl|cases I
theorem Nj {str:Bool} {K:Ty} (I:WS str K=ai) (k k':K.den):uu .eql (px K k) (px K k')=af (.bool (OO K k k'))/\yC str (px K k)=ai/\gC K k= .raw (px K k):=by
 cases K<;>cases str<;>first|cases I|skip
 .exact⟨by simp only[uu,px,OO,cQ,bC,ak,BI];exact Bool.beq_eq_decide_eq _ _,rfl,rfl⟩
 .exact⟨by simp only[uu,px,OO,Dh],rfl,rfl⟩
theorem Py {str:Bool} {K V:Ty} (I:WS str K=ai) (k:K.den):∀ es:List (K.den×V.den),sT (px K k) (es.map λp=>(px K p.1,AV.f (gC V p.2)))=af ((sH k es).map λv=>AV.f (gC V v))
 |[]=>rfl
 |(k',v)::r=>by
  simp only[gg,sT,(Nj I k k').1,sH];cases hb:OO K k k' with
  |true=>rfl
  |false=>simp only[ct,dV];exact Py I k r
theorem Vv {str:Bool} {K V:Ty} (I:WS str K=ai) (k:K.den) (v:V.den):∀ es:List (K.den×V.den),yA (px K k) (.f (gC V v)) (es.map λp=>(px K p.1,AV.f (gC V p.2)))=af ((HZ k v es).map λp=>(px K p.1,AV.f (gC V p.2)))
 |[]=>rfl
 |(k',J)::r=>by
  simp only[gg,yA,(Nj I k k').1,HZ];cases hb:OO K k k' with
  |true=>rfl
  |false=>simp only[Vv I k v r,ct,dV,gg]
theorem aem {h:bf} {ok b:Bool} {v:TV} {y:AV} (hv:cj h v=af y):cj h (pkT ok v (.f .bool b))=af (pkV ok y b):=by
 cases ok with
 |false=>exact hv
 |true=>simp only[pkT,pkV,cj,cH,hv];rfl
section ops
variable {R:Type} {P:Program} {o:Oper} {e:iK} {h:bf} {nx:Nat} {K:KO R} {r:R}
theorem Le.aggOf {l:List FV} (hc:∀ x∈l,x.isCell=ai):Le (.agg (l.map .f)) (.f (.agg l)):=by
 intro φ O w v hr;cases hr with
 |@agg _ vs hl hcl hrr=>
  refine .f (.agg l vs (by simpa using hl) hc λj y u I hu=>?_);have:=hrr j (.f y) u (by rw[ba,I];rfl) hu;cases this with
  |f h=>exact h
def Pp (S:Ty) (l:List TV):Option (S.den×Nat×List TV):=match l with
 |c::r=>(match iD PT.leaf S c with|some (x,m)=>af (x,m,r)|none=>ah)
 |[]=>ah
theorem LX:∀ {l I:List FV},l.map AV.f=I.map AV.f->l=I
 |[],[],_=>rfl
 |[],_::_,h=>by simp at h
 |_::_,[],h=>by simp at h
 |x::r,y::r',h=>by
  simp only[gg,iO,AV.f.injEq] at h;rw[h.1,LX h.2]
theorem HM (h:bf):∀ (ds:List TypeDesc) (T:Ty),qJ ds=af T->∀ (n:Nat) (l:List TV) (x:T.den) (m:Nat) (r:List TV),eT PT.leaf n T l=af (x,m,r)->∀ J,cH h l=af J->∃ l2,cH h r=af l2/\J=(bQ T x).map .f++l2
 |[],T,hd,n,l,x,m,r,hp,J,hl=>by
  simp only[qJ,ak] at hd;subst hd;cases n with
  |zero=>simp[eT] at hp
  |succ n=>
   simp only[eT,ak,aD] at hp;obtain⟨_,_,rfl⟩:=hp;exact⟨J,hl,rfl⟩
 |d::ds,T,hd,n,l,x,m,r,hp,J,hl=>by
  have plain:∀ (S:Ty),S.one=ai->(∀ t,S≠ .sl t)->∀ (v:TV) (a:S.den) (m:Nat) (y:AV),iD PT.leaf S v=af (a,m)->cj h v=af y->y= .f (gC S a):=by
   intro S Y hns v a m y I hy;cases v with
   |f Q q=>
    simp only[iD] at I;split at I
    .rename_i z hz;simp only[ak,aD] at I;obtain⟨rfl,_⟩:=I;obtain⟨e,rfl⟩:=ja hz;subst e;simp only[cj,ak] at hy;exact hy.symm
    .cases I
   |emp=>
    cases S with
    |sl t=>exact cU rfl (hns t)
    |_=>simp[iD] at I
   |nil=>
    cases S with
    |sl t=>exact cU rfl (hns t)
    |_=>simp[iD] at I
   |row id=>simp[iD,PT.get] at I
   |fel T xs j hj off=>simp[iD] at I
   |pel id sz j off=>simp[iD] at I
   |ptr id off=>simp[iD] at I
   |csl id off z=>simp[iD] at I
   |mp id=>simp[iD] at I
   |rtl id jj=>simp[iD] at I
   |agg q=>simp[iD] at I
   |tup q=>simp[iD] at I
   |clo f q=>simp[iD] at I
   |undef=>simp[iD] at I
   |np=>simp[iD] at I
   |anyb=>simp[iD] at I
  have one:∀ (S:Ty),S.one=ai->(∀ t,S≠ .sl t)->∀ (n:Nat) (l:List TV) (a:S.den) (m:Nat) (r:List TV),eT PT.leaf n S l=af (a,m,r)->∀ J,cH h l=af J->∃ l2,cH h r=af l2/\J=(bQ S a).map .f++l2:=by
   intro S Y hns n l a m r hp J hl;cases n with
   |zero=>simp[eT] at hp
   |succ n=>
    cases l with
    |nil=>
     cases S with
     |int k=>cases hp
     |bool=>cases hp
     |str=>cases hp
     |sl t=>exact cU rfl (hns t)
     |_=>cases Y
    |cons c q=>
     have hpp:Pp S (c::q)=af (a,m,r):=by
      cases S with
      |int k=>simp only[eT] at hp;simp only[Pp];cases hq:iD PT.leaf (.int k) c with
       |none=>rw[hq] at hp;cases hp
       |some z=>rw[hq] at hp;exact hp
      |bool=>simp only[eT] at hp;simp only[Pp];cases hq:iD PT.leaf .bool c with
       |none=>rw[hq] at hp;cases hp
       |some z=>rw[hq] at hp;exact hp
      |str=>simp only[eT] at hp;simp only[Pp];cases hq:iD PT.leaf .str c with
       |none=>rw[hq] at hp;cases hp
       |some z=>rw[hq] at hp;exact hp
      |sl t=>exact cU rfl (hns t)
      |_=>cases Y
     simp only[Pp] at hpp;split at hpp
     .rename_i a1 m1 h1;simp only[ak,aD] at hpp;obtain⟨rfl,rfl,rfl⟩:=hpp;obtain⟨y,l2,rfl,g1,Z⟩:=cS hl;have:=plain S Y hns c a1 m1 y h1 g1;subst this;exact⟨l2,Z,by rw[(CI S a1 Y).1];rfl⟩
     .cases hpp
  have two:∀ (S U:Ty),S.one=ai->(∀ t,S≠ .sl t)->qJ ds=af U->T= .pr S U->∃ l2,cH h r=af l2/\J=(bQ T x).map .f++l2:=by
   intro S U Y hns M e;subst e;cases n with
   |zero=>simp[eT] at hp
   |succ n=>
    simp only[eT] at hp;split at hp
    .rename_i x1 m1 r1 h1;split at hp
     .rename_i x2 m2 r2 h2;simp only[ak,aD] at hp;obtain⟨rfl,rfl,rfl⟩:=hp;obtain⟨l2,g1,Z⟩:=one S Y hns n l x1 m1 r1 h1 J hl;obtain⟨l3,g3,g4⟩:=HM h ds U M n r1 x2 m2 r2 h2 l2 g1;exact⟨l3,g3,by rw[Z,g4,bQ,cN,jJ]⟩
     .cases hp
    .cases hp
  cases d with
  |int k=>
   simp only[qJ] at hd;split at hd
   .rename_i U M;simp only[ak] at hd;exact two (.int k) U rfl (λt h=>by cases h) M hd.symm
   .cases hd
  |bool=>
   simp only[qJ] at hd;split at hd
   .rename_i U M;simp only[ak] at hd;exact two .bool U rfl (λt h=>by cases h) M hd.symm
   .cases hd
  |string=>
   simp only[qJ] at hd;split at hd
   .rename_i U M;simp only[ak] at hd;exact two .str U rfl (λt h=>by cases h) M hd.symm
   .cases hd
  |_=>simp[qJ] at hd
theorem CG:∀ (ds:List TypeDesc) (T:Ty),qJ ds=af T->∀ a b:T.den,oO ds (bQ T a) (bQ T b)=af (OO T a b)
 |[],T,hd,a,b=>by simp only[qJ,ak] at hd;subst hd;rfl
 |d::ds,T,hd,a,b=>by
  cases d with
  |int k=>
   simp only[qJ] at hd;split at hd
   .rename_i U M;simp only[ak] at hd;subst hd;have J:=CG ds U M a.2 b.2;simp only[bQ,gh,lE,oO,xj,cQ,bC,OO];cases he:((a.1:Int)==b.1) with
    |true=>have I:(a.1:Int)=b.1:=by simpa using he
           simp only[J,I,dL,pl]
    |false=>have I:¬(a.1:Int)=b.1:=by simpa using he
            simp only[I,c7,m8]
   .cases hd
  |bool=>
   simp only[qJ] at hd;split at hd
   .rename_i U M;simp only[ak] at hd;subst hd;have J:=CG ds U M a.2 b.2;simp only[bQ,gh,lE,oO,xj,OO];cases he:((a.1:Bool)==b.1)<;>simp[he,J]
   .cases hd
  |string=>
   simp only[qJ] at hd;split at hd
   .rename_i U M;simp only[ak] at hd;subst hd;have J:=CG ds U M a.2 b.2;simp only[bQ,gh,lE,oO,xj,OO,Dh];cases he:decide ((a.1:List UInt8)=b.1) with
    |true=>simp only[J,pl]
    |false=>simp only[m8]
   .cases hd
  |_=>simp[qJ] at hd
theorem MA {u:TV} (hu:u.isC=aj) {lu:List TV} (hl:u.cs=af lu) {ds:List TypeDesc} {T:Ty} (hd:qJ ds=af T) {a:T.den} {m:Nat} (hp:eT PT.leaf 40 T lu=af (a,m,[])) {y:AV} (I:cj h u=af y):Le y (.f (.agg (bQ T a))):=by
 obtain⟨h1,_⟩:=Jz hl I;obtain⟨l2,h2,J⟩:=HM h ds T hd 40 lu a m [] hp _ h1;simp only[cH,ak] at h2;subst h2;rw[lG] at J;cases u with
 |agg l=>
  simp only[cj] at I;split at I
  .rename_i M _;simp only[ak] at I;subst I;have:M=(bQ T a).map .f:=J;rw[this];exact Le.aggOf (nN T a)
  .cases I
 |f S x=>
  simp only[cj,ak] at I;subst I;have U:S.one=aj:=hu;rw[zO] at J;have:bQ S x=bQ T a:=LX J;rw[qj S x U,this];exact Le.refl _
 |tup l=>simp[TV.cs,TV.isC] at hl
 |undef=>simp[TV.cs,TV.isC] at hl
 |np=>cases hu
 |anyb=>simp[TV.cs,TV.isC] at hl
 |fel T xs j hj off=>cases hu
 |pel id sz j off=>cases hu
 |ptr id off=>cases hu
 |csl id off z=>cases hu
 |row id=>cases hu
 |emp=>cases hu
 |nil=>cases hu
 |mp id=>cases hu
 |rtl id Y=>cases hl
 |clo g l=>cases hu
variable (hinv:lZ h nx) (hi:s6 e h)
include hinv hi
theorem alm {con:FuncId->Option cu} {b9:TypeId->Option Ty} {neg:Bool} {ds:List TypeDesc} {x y:Operand} {st:Bool} (hc:c_ P o.op=af (.eqs neg ds x y)) (hk:dO con b9 (.op (.eqs neg ds x y)) e h nx K=af r):kH P o st e h nx K r:=by
 obtain⟨H,hH⟩:=jG h;simp only[dO] at hk;split at hk
 .rename_i T u v hd hu hv;split at hk
  .cases hk
  .rename_i hcc;simp only[iP,not_or,Bool.not_eq_true] at hcc;split at hk
   .rename_i lu lv hlu hlv;split at hk
    .rename_i a m1 b m2 hpa hpb;obtain⟨yu,h1,h2⟩:=bM hi hu;obtain⟨yv,h3,h4⟩:=bM hi hv;obtain⟨⟨⟨U,M⟩,hc3⟩,Z⟩:=hcc;have l1:=MA U hlu hd hpa h2;have l2:=MA M hlv hd hpb h4;have tmp:∀ (z:Operand) (q:TV),fI e z=af q->q.isC=aj->Tg z=aj->∃ t,z= .tmp t:=by
      intro z q I hq hg;cases z with
      |tmp t=>exact⟨t,rfl⟩
      |const c=>
       have I:cst c=af q:=by
        simp only[fI,aga] at I;split at I
        .cases hg
        .exact I
       have:=(Jx h I).2.2;rw[hq] at this;cases this
      |func g=>simp only[fI,ak] at I;subst I;cases hq
      |global g=>
       simp only[fI] at I;split at I
       .cases I;cases hq
       .cases I
     obtain⟨t,rfl⟩:=tmp x u hu U hc3;obtain⟨t',rfl⟩:=tmp y v hv M Z;have same:t=t'->bQ T a=bQ T b:=by
      intro ht;subst ht;rw[hu] at hv;cases hv;rw[hlu] at hlv;cases hlv;rw[hpa] at hpb;cases hpb;rfl
     let J:zo:=((IV e h).set t (af (.f (.agg (bQ T a))))).set t' (af (.f (.agg (bQ T b))))
     have e1:mw J (.tmp t)=af (.f (.agg (bQ T a))):=by
      simp only[mw,J,PT.get_set];by_cases ht:t=t'
      .rw[aF ht,same ht]
      .rw[aC ht];simp
     have e2:mw J (.tmp t')=af (.f (.agg (bQ T b))):=by simp only[mw,J,PT.get_set,bC]
     have ha:eH (.eqs neg ds (.tmp t) (.tmp t')) J H 0=af ⟨raw (.bool (OO T a b !=neg)),[],[],[],[]⟩:=by
      simp only[eH,e1,e2,CG ds T hd a b];rfl
     have ht:=HO hc ha;rw[hH] at ht;have Y:gG P o (fO e h) (bz h) _:=ht.envLe (e2:=fO e h) λs z _ I=>by
      simp only[J,PT.get_set] at I;rw[<- uQ];simp only[mw] at h1 h3;split at I
      .rename_i es;subst es;cases I;exact⟨yv,h3,l2⟩
      .split at I
       .rename_i es;subst es;cases I;exact⟨yu,h1,l1⟩
       .exact⟨z,I,Le.refl _⟩
     refine ⟨_,0,0,h,nx,hk,⟨⟨_,Y,λy hy=>?_,by simp[BG.eff,tB],by simp[BG.eff],by simp[BG.eff],by simp[BG.eff]⟩,λ_ _ h=>h,hinv,bV _,λ_=>⟨rfl,rfl⟩⟩⟩;simp only[cj,ak] at hy;exact hy
    .cases hk
   .cases hk
 .cases hk
theorem ala {con:FuncId->Option cu} {b9:TypeId->Option Ty} (hc:c_ P o.op=af .mkm) (hk:dO con b9 (.op .mkm) e h nx K=af r):kH P o aj e h nx K r:=by
 have _:=hi;obtain⟨H,M⟩:=jG h;refine ⟨_,_,_,_,_,hk,jb.new hinv hc M (y0:=.mp (nm nx)) (rdl:=[]) (b0:=⟨0,.mp []⟩) rfl (dK.zero h) (λ_ _ he=>by cases he) (λY U d g b' I=>?_) (λY U y d g J=>?_) (by simp)⟩
 .cases I;exact jU.refl d _
 .simp only[cj,ak] at J;subst J;exact lB.refl d _
theorem ai9 {con:FuncId->Option cu} {b9:TypeId->Option Ty} {x:Operand} (hc:c_ P o.op=af (.lenm x)) (hk:dO con b9 (.op (.lenm x)) e h nx K=af r):kH P o aj e h nx K r:=by
 obtain⟨H,J⟩:=jG h;simp only[dO] at hk;split at hk
 .rename_i id hv;split at hk
  .rename_i K' V es hb;obtain⟨y,h1,h2⟩:=bM hi hv;simp only[cj,ak] at h2;subst h2;split at hk
   case isFalse=>cases hk
   rename_i hO;have hg:H.get (nm id)=af ⟨0,.mp (es.map λp=>(px K' p.1,.f (gC V p.2)))⟩:=by rw[J,bI,hb];show af (wG.mk 0 (Y9 K' V es))=_;rw[Bk hO]
   exact⟨_,_,_,_,_,hk,jb.pure (k:=0) hinv hc J (y0:=raw (.int .i64 es.length)) (rdl:=[nm id]) (by simp only[eH,h1,hg,bY]) (λy I=>by simp only[cj,ak] at I;subst I;exact Le.refl _) (λn hn=>by simp only[aL] at hn;subst hn;rw[dU];exact bX.2 rfl) (λh=>by cases h)⟩
  .cases hk
 .cases hk
theorem ale {con:FuncId->Option cu} {b9:TypeId->Option Ty} {str ok:Bool} {z:Value} {x k:Operand} (hc:c_ P o.op=af (.lku str ok z x k)) (hk:dO con b9 (.op (.lku str ok z x k)) e h nx K=af r):kH P o aj e h nx K r:=by
 obtain⟨H,Y⟩:=jG h;simp only[dO] at hk;split at hk
 .rename_i id KT kv hv U;split at hk
  .rename_i K' V es hb;split at hk
   .rename_i J;obtain⟨y,h1,h2⟩:=bM hi hv;obtain⟨y2,h3,h4⟩:=bM hi U;simp only[cj,ak] at h2 h4;subst h2;subst h4;simp only[av] at J;have hg:H.get (nm id)=af ⟨0,.mp (es.map λp=>(px K' p.1,.f (gC V p.2)))⟩:=by rw[Y,bI,hb];show af (wG.mk 0 (Y9 K' V es))=_;rw[Bk J.2]
    obtain⟨_,hok,henc⟩:=Nj J.1 kv kv;rw[henc] at h3;have hrd:∀ n∈[nm id],aN (kG id) (ow n)=ai:=λn hn=>by simp only[aL] at hn;subst hn;rw[dU];exact bX.2 rfl
    split at hk
    .rename_i hE;split at hk
     .rename_i v M;have hzz:=(Jx h M).1;exact⟨_,_,_,_,_,hk,jb.pure (k:=0) hinv hc Y (y0:=pkV ok (raw z) aj) (rdl:=[nm id]) (by simp only[eH,h1,h3,hg,hok,bC,S9 hE,sT]) (λy I=>by rw[aem hzz] at I;cases I;exact Le.refl _) hrd (λh=>by cases h)⟩
     .cases hk
    .split at hk
     .rename_i kv' Z zv hkv M;split at hk
      .rename_i zv' hzv;obtain⟨e1,e2⟩:=ja hkv;cases e1;subst e2;obtain⟨e3,e4⟩:=ja hzv;cases e3;subst e4;have hzz:=(Jx h M).1;simp only[cj,ak] at hzz;refine ⟨_,_,_,_,_,hk,jb.pure (k:=0) hinv hc Y (y0:=pkV ok (.f (gC _ (E8 kv' es zv'))) (Nf kv' es)) (rdl:=[nm id]) ?_ (λy I=>by rw[aem (y:=.f (gC _ (E8 kv' es zv'))) rfl] at I;cases I;exact Le.refl _) hrd (λh=>by cases h)⟩;simp only[eH,h1,h3,hg,hok,bC,Py J.1];unfold E8 Nf;cases hf:sH kv' es with
       |none=>simp only[Option.map_none];rw[hzz]
       |some v=>rfl
      .cases hk
     .cases hk
   .cases hk
  .cases hk
 .cases hk
theorem al9 {con:FuncId->Option cu} {b9:TypeId->Option Ty} {str:Bool} {x k v:Operand} (hc:c_ P o.op=af (.mup str x k v)) (hk:dO con b9 (.op (.mup str x k v)) e h nx K=af r):kH P o aj e h nx K r:=by
 obtain⟨H,hH⟩:=jG h;simp only[dO] at hk;split at hk
 .rename_i id KT U VT vv hv Z Y;split at hk
  .rename_i K' V es hb;split at hk
   .rename_i J;simp only[av] at J;obtain⟨y,h1,h2⟩:=bM hi hv;obtain⟨y2,h3,h4⟩:=bM hi Z;obtain⟨y3,h5,h6⟩:=bM hi Y;simp only[cj,ak] at h2 h4 h6;subst h2;subst h4;subst h6;have hg:H.get (nm id)=af ⟨0,.mp (es.map λp=>(px K' p.1,.f (gC V p.2)))⟩:=by rw[hH,bI,hb];show af (wG.mk 0 (Y9 K' V es))=_;rw[Bk J.2]
    obtain⟨_,hok,henc⟩:=Nj J.1.1 U U;rw[henc] at h3;have hrd:∀ n∈[nm id],aN (kG id) (ow n)=ai:=λn hn=>by simp only[aL] at hn;subst hn;rw[dU];exact bX.2 rfl
    split at hk
    .rename_i hE;exact⟨_,_,_,_,_,hk,jb.wrt (k:=0) (m:=0) (v:=.undef) (rd:=kG id) hinv hc hH (y0:=raw undef) (b0:=⟨0,.mp [(px KT U,.f (gC VT vv))]⟩) (rdl:=[nm id]) (by simp only[eH,h1,h3,h5,hg,hok,bC,S9 hE,yA]) (B:=.mp KT VT [(U,vv)]) hb (dK.zero h) (by simp) rfl (λty' l2 he=>by cases he) (λH1 H2 d g b' I=>by simp only[kr,Bk (Vz J.1.1),ak] at I;subst I;exact jU.refl d _) (λH1 H2 y d g M=>by simp only[cj,ak] at M;subst M;exact lB.refl d _) hrd⟩
    .split at hk
     .rename_i kv' vv' hkv hvv;obtain⟨e1,e2⟩:=ja hkv;cases e1;subst e2;obtain⟨e3,e4⟩:=ja hvv;cases e3;subst e4;exact⟨_,_,_,_,_,hk,jb.wrt (k:=0) (m:=0) (v:=.undef) (rd:=kG id) hinv hc hH (y0:=raw undef) (b0:=⟨0,.mp ((HZ kv' vv' es).map λp=>(px _ p.1,.f (gC _ p.2)))⟩) (rdl:=[nm id]) (by simp only[eH,h1,h3,h5,hg,hok,bC,Vv J.1.1]) (B:=.mp _ _ (HZ kv' vv' es)) hb (dK.zero h) (by simp) rfl (λty' l2 he=>by cases he) (λH1 H2 d g b' I=>by simp only[kr,Bk (Vz J.1.1),ak] at I;subst I;exact jU.refl d _) (λH1 H2 y d g M=>by simp only[cj,ak] at M;subst M;exact lB.refl d _) hrd⟩
     .cases hk
   .cases hk
  .cases hk
 .cases hk
theorem al6 {con:FuncId->Option cu} {b9:TypeId->Option Ty} {x:Operand} (hc:c_ P o.op=af (.rng x)) (hk:dO con b9 (.op (.rng x)) e h nx K=af r):kH P o aj e h nx K r:=by
 obtain⟨H,M⟩:=jG h;simp only[dO] at hk;split at hk
 .rename_i s hv;obtain⟨y,h1,h2⟩:=bM hi hv;simp only[cj,ak] at h2;subst h2;refine ⟨_,_,_,_,_,hk,jb.new hinv hc M (y0:=.ptr (nm nx) 0) (rdl:=[]) (b0:=⟨0,.it ⟨ky s⟩ 0⟩) (by simp only[eH,h1];rfl) (dK.zero h) (λ_ _ he=>by cases he) (λY U d g b' I=>?_) (λY U y d g J=>?_) (by simp)⟩
  .cases I;exact jU.refl d _
  .simp only[cj,ak] at J;subst J;exact lB.refl d _
 .cases hk
theorem al7 {con:FuncId->Option cu} {b9:TypeId->Option Ty} {x:Operand} (hc:c_ P o.op=af (.nxt x)) (hk:dO con b9 (.op (.nxt x)) e h nx K=af r):kH P o aj e h nx K r:=by
 obtain⟨H,M⟩:=jG h;simp only[dO] at hk;split at hk
 .rename_i id hv;split at hk
  .rename_i K' V es hb;split at hk
   .rename_i s p Z;obtain⟨y,h1,h2⟩:=bM hi hv;simp only[cj,ak] at h2;subst h2;have hg:H.get (nm id)=af ⟨0,.it ⟨ky s⟩ p⟩:=by rw[M,bI,hb];show af (wG.mk 0 (Y9 K' V es))=_;rw[ag2 Z]
    have hrd:∀ n∈[nm id],aN (kG id) (ow n)=ai:=λn hn=>by simp only[aL] at hn;subst hn;rw[dU];exact bX.2 rfl
    rcases ph hk with ⟨hp,hk⟩|⟨hp,hk⟩
    .obtain⟨hj,hk⟩:=dR hk;have hp:=a8 hp;have e2:(⟨ky s⟩:ByteArray).data.toList[p]? =af (List.getD s p 0):=by
      show s[p]? =_;rw[ay,aA hp];rfl
     have e3:gd (List.getD s p 0).toNat 128=ai:=by
      have hj:(aO (List.getD s p 0).toNat:Int)<128:=bt hj;exact bB (Int.ofNat_lt.1 hj)
     exact⟨_,_,_,_,_,hk,jb.wrt (k:=0) (m:=0) (rd:=kG id) hinv hc M (y0:=.tup [raw (.bool ai),raw (.int .i64 p),raw (.int .i32 (List.getD s p 0).toNat)]) (b0:=⟨0,.it ⟨ky s⟩ (p+1)⟩) (rdl:=[nm id]) (by simp only[eH,h1,hg,e2,e3,bC]) (B:=.mp itK .un [((s,aO (p+1)),())]) hb (dK.zero h) (by simp) rfl (λty' l2 he=>by cases he) (λY U d g b' I=>by cases I;exact jU.refl d _) (λY U y d g J=>by cases J;exact lB.refl d _) hrd⟩
    .have hp:s.length<=p:=Nat.not_lt.1 λq=>by rw[show gd p s.length=ai from bB q] at hp;cases hp
     have e2:(⟨ky s⟩:ByteArray).data.toList[p]? =ah:=by
      show s[p]? =_;exact bO hp
     exact⟨_,_,_,_,_,hk,jb.wrt (k:=0) (m:=0) (rd:=kG id) hinv hc M (y0:=.tup [raw (.bool aj)]) (b0:=⟨0,.it ⟨ky s⟩ p⟩) (rdl:=[nm id]) (by simp only[eH,h1,hg,e2]) (B:=.mp itK .un [((s,aO p),())]) hb (dK.zero h) (by simp) rfl (λty' l2 he=>by cases he) (λY U d g b' I=>by cases I;exact jU.refl d _) (λY U y d g J=>by cases J;exact lB.refl d _) hrd⟩
   .cases hk
  .cases hk
 .cases hk
theorem K_op {con:FuncId->Option cu} {b9:TypeId->Option Ty} {s:X3} (hc:c_ P o.op=af s) (hk:dO con b9 (.op s) e h nx K=af r):kH P o s.still e h nx K r:=by
 cases s with
 |mv x=>exact K_mv hinv hi hc hk
 |pick c a b=>exact ai4 hinv hi hc hk
 |alloc ty z=>exact ae3 hinv hi hc hk
 |box ty x=>exact alq hinv hi hc hk
 |build z parts=>exact ae2 hinv hi hc hk
 |bsl ty sz len z parts=>exact alp hinv hi hc hk
 |load sz ag x=>exact ai7 hinv hi hc hk
 |store sz x v=>exact adz hinv hi hc hk
 |nilc x=>exact ai5 hinv hi hc hk
 |bin op x y=>exact alr hinv hi hc hk
 |eqs neg ds x y=>exact alm hinv hi hc hk
 |eqb neg x y=>exact aln hinv hi hc hk
 |isnil neg x=>exact ae1 hinv hi hc hk
 |not x=>exact al8 hinv hi hc hk
 |conv k x=>exact aic hinv hi hc hk
 |mksl ty sz bytes z l c=>exact ai6 hinv hi hc hk
 |slc sz x lo I mx=>exact al5 hinv hi hc hk
 |fad off x=>exact alj hinv hi hc hk
 |fld off sz ag x=>exact ali hinv hi hc hk
 |iad sz x i=>exact alh hinv hi hc hk
 |idx n sz ag x i=>exact alg hinv hi hc hk
 |iada n sz x i=>exact aia hinv hi hc hk
 |ext x i=>exact alk hinv hi hc hk
 |len x=>exact alf hinv hi hc hk
 |lens x=>exact ai8 hinv hi hc hk
 |max x y=>exact ald hinv hi hc hk
 |min x y=>exact alc hinv hi hc hk
 |sidx x i=>exact ai3 hinv hi hc hk
 |app ty sz bytes s x=>exact als hinv hi hc hk
 |copy sz d x=>exact aib hinv hi hc hk
 |clr sz z x=>exact alo hinv hi hc hk
 |mkf f caps=>exact alb hinv hi hc hk
 |mkm=>exact ala hinv hi hc hk
 |rng x=>exact al6 hinv hi hc hk
 |nxt x=>exact al7 hinv hi hc hk
 |lenm x=>exact ai9 hinv hi hc hk
 |lku str ok z x k=>exact ale hinv hi hc hk
 |mup str x k v=>exact al9 hinv hi hc hk
 |_=>simp[dO] at hk
end ops
mutual
def AV.ren (g:Nat->Nat):AV->AV
 |.f x=>.f x
 |.ptr id off=>.ptr (g id) off
 |.sl id off n=>.sl (g id) off n
 |.row id sz n=>.row (g id) sz n
 |.mp id=>.mp (g id)
 |.emp=>.emp
 |.anyb=>.anyb
 |.agg l=>.agg (AV.renL g l)
 |.tup l=>.tup (AV.renL g l)
 |.clo q l=>.clo q (AV.renL g l)
def AV.renL (g:Nat->Nat):List AV->List AV
 |[]=>[]
 |x::r=>x.ren g::AV.renL g r
end
theorem om (g:Nat->Nat):∀ l,AV.renL g l=l.map (AV.ren g)
 |[]=>rfl
 |x::r=>by rw[AV.renL,om g r];rfl
theorem B1 (g:Nat->Nat) (x:AV):(x.ren g).isCell=x.isCell:=by cases x<;>rfl
theorem cI.renTo {φ φ':PM} {g:Nat->Nat} {O:Nat->Prop} {w:World} (hk:∀ i k,φ i=af k->φ' (g i)=af k) {x:AV} {v:Value} (h:cI φ O w x v):cI φ' O w (x.ren g) v:=by
 induction h with
 |f h=>exact .f h
 |ptr h=>exact .ptr (hk _ _ h)
 |sl h hn hc=>exact .sl (hk _ _ h) hn hc
 |row h hn hc hsh=>exact .row (hk _ _ h) hn hc hsh
 |emp=>exact .emp
 |anyb=>exact .anyb
 |mp h=>exact .mp (hk _ _ h)
 |agg hl hcl hr M=>
  simp only[AV.ren,om];refine .agg (by simpa using hl) (λx I=>?_) λj x v I hv=>?_
  .obtain⟨y,J,rfl⟩:=dh.1 I;rw[B1];exact hcl y J
  .rw[ba] at I;obtain⟨y,J,rfl⟩:=jH.1 I;exact M j y v J hv
 |tup hl hr M=>
  simp only[AV.ren,om];refine .tup (by simpa using hl) λj x v I hv=>?_
  rw[ba] at I;obtain⟨y,J,rfl⟩:=jH.1 I;exact M j y v J hv
 |clo hl hr M=>
  simp only[AV.ren,om];refine .clo (by simpa using hl) λj x v I hv=>?_
  rw[ba] at I;obtain⟨y,J,rfl⟩:=jH.1 I;exact M j y v J hv
theorem cI.renFrom {φ φ':PM} {g:Nat->Nat} {O:Nat->Prop} {w:World} {p:Nat->Bool} (hk:∀ i k,p i=ai->φ (g i)=af k->φ' i=af k) {z:AV} {v:Value} (h:cI φ O w z v):∀ x:AV,x.all p=ai->z=x.ren g->cI φ' O w x v:=by
 induction h with
 |f h=>intro x hp e;cases x<;>simp only[AV.ren,reduceCtorEq] at e;cases e;exact .f h
 |ptr h=>intro x hp e;cases x<;>simp only[AV.ren,reduceCtorEq] at e;cases e;exact .ptr (hk _ _ hp h)
 |sl h hn hc=>intro x hp e;cases x<;>simp only[AV.ren,reduceCtorEq] at e;cases e;exact .sl (hk _ _ hp h) hn hc
 |row h hn hc hsh=>intro x hp e;cases x<;>simp only[AV.ren,reduceCtorEq] at e;cases e;exact .row (hk _ _ hp h) hn hc hsh
 |emp=>intro x hp e;cases x<;>simp only[AV.ren,reduceCtorEq] at e;exact .emp
 |anyb=>intro x hp e;cases x<;>simp only[AV.ren,reduceCtorEq] at e;exact .anyb
 |mp h=>intro x hp e;cases x<;>simp only[AV.ren,reduceCtorEq] at e;cases e;exact .mp (hk _ _ hp h)
 |agg hl hcl hr J=>
  intro x hp e;cases x<;>simp only[AV.ren,reduceCtorEq] at e;rename_i l;cases e;rw[om] at hl hcl hr J;refine .agg (by simpa using hl) (λx I=>?_) λj x v I hv=>?_
  .have:=hcl (x.ren g) (dh.2 ⟨x,I,rfl⟩);rwa [B1] at this
  .exact J j (x.ren g) v (by rw[ba,I];rfl) hv x (lV hp x (a_ I)) rfl
 |tup hl hr J=>
  intro x hp e;cases x<;>simp only[AV.ren,reduceCtorEq] at e;rename_i l;cases e;rw[om] at hl hr J;refine .tup (by simpa using hl) λj x v I hv=>?_
  exact J j (x.ren g) v (by rw[ba,I];rfl) hv x (lV hp x (a_ I)) rfl
 |clo hl hr J=>
  intro x hp e;cases x<;>simp only[AV.ren,reduceCtorEq] at e;rename_i l;cases e;rw[om] at hl hr J;refine .clo (by simpa using hl) λj x v I hv=>?_
  exact J j (x.ren g) v (by rw[ba,I];rfl) hv x (lV hp x (a_ I)) rfl
def BC.ren (g:Nat->Nat):BC->BC
 |.fz l=>.fz l
 |.mx l=>.mx (l.map (AV.ren g))
 |.mp es=>.mp (es.map λp=>(p.1,p.2.ren g))
 |.it s p=>.it s p
def wG.ren (g:Nat->Nat) (b:wG):wG:=⟨b.ty,b.c.ren g⟩
theorem jq.renTo {φ φ':PM} {g:Nat->Nat} {O O':Nat->Prop} {w:World} (hk:∀ x v,cI φ O w x v->cI φ' O' w (x.ren g) v) {b:wG} {o:Obj} (h:jq φ O w b o):jq φ' O' w (b.ren g) o:=by
 obtain⟨ty,c⟩:=b;unfold jq at h ⊢;simp only[wG.ren];cases c with
 |fz l=>
  simp only[BC.ren];obtain⟨arr,h1,h2,J⟩:=h;refine ⟨arr,h1,h2,λj x I=>?_⟩;obtain⟨a,v,c,d⟩:=J j x I;simp only[BC.get] at I;obtain⟨q,_,rfl⟩:=jH.1 I;exact⟨a,v,c,hk _ _ d⟩
 |mx l=>
  simp only[BC.ren];obtain⟨arr,h1,h2,J⟩:=h;refine ⟨arr,h1,by simpa[BC.len] using h2,λj x I=>?_⟩;simp only[BC.get,ba] at I;obtain⟨q,hq,rfl⟩:=jH.1 I;obtain⟨a,v,c,d⟩:=J j q hq;exact⟨by rw[B1];exact a,v,c,hk _ _ d⟩
 |mp es=>
  simp only[BC.ren];obtain⟨e,c,h1,h2,J⟩:=h;refine ⟨e,c,h1,by rw[h2,zA];rfl,λj x I=>?_⟩;rw[ba] at I;obtain⟨q,hq,rfl⟩:=jH.1 I;obtain⟨m,a,b⟩:=J j q hq;exact⟨m,a,hk _ _ b⟩
 |it s p=>exact h
theorem jq.renFrom {φ φ':PM} {g:Nat->Nat} {O O':Nat->Prop} {w:World} {p:Nat->Bool} (hk:∀ x v,x.all p=ai->cI φ O w (x.ren g) v->cI φ' O' w x v) {b:wG} (hb:b.c.all p=ai) {o:Obj} (h:jq φ O w (b.ren g) o):jq φ' O' w b o:=by
 obtain⟨ty,c⟩:=b;unfold jq at h ⊢;simp only[wG.ren] at h;cases c with
 |fz l=>
  simp only[BC.ren] at h;obtain⟨arr,h1,h2,J⟩:=h;refine ⟨arr,h1,h2,λj x I=>?_⟩;obtain⟨a,v,c,d⟩:=J j x I;simp only[BC.get] at I;obtain⟨q,_,rfl⟩:=jH.1 I;exact⟨a,v,c,hk _ _ rfl d⟩
 |mx l=>
  simp only[BC.ren] at h;obtain⟨arr,h1,h2,J⟩:=h;refine ⟨arr,h1,by simpa[BC.len] using h2,λj x I=>?_⟩;simp only[BC.get] at I;obtain⟨a,v,c,d⟩:=J j (x.ren g) (by simp only[BC.get,ba,I];rfl);rw[B1] at a;exact⟨a,v,c,hk _ _ (lV hb x (a_ I)) d⟩
 |mp es=>
  simp only[BC.ren] at h;obtain⟨e,c,h1,h2,J⟩:=h;refine ⟨e,c,h1,by rw[h2,zA];rfl,λj x I=>?_⟩;obtain⟨m,a,b⟩:=J j (x.1,x.2.ren g) (by rw[ba,I];rfl);exact⟨m,a,hk _ _ (lV hb x.2 (dh.2 ⟨x,a_ I,rfl⟩)) b⟩
 |it s p=>exact h
mutual
def B3 (g:Nat->Nat):TV->TV
 |.row i=>.row (g i)
 |.rtl i j=>.rtl (g i) j
 |.agg l=>.agg (kq g l)
 |.tup l=>.tup (kq g l)
 |.clo q l=>.clo q (kq g l)
 |.f T v=>.f T v
 |.fel T xs j h off=>.fel T xs j h off
 |.pel a b c d=>.pel (g a) b c d
 |.ptr a b=>.ptr (g a) b
 |.csl a b c=>.csl (g a) b c
 |.emp=>.emp
 |.nil=>.nil
 |.mp i=>.mp (g i)
 |.undef=>.undef
 |.np=>.np
 |.anyb=>.anyb
def kq (g:Nat->Nat):List TV->List TV
 |[]=>[]
 |x::r=>B3 g x::kq g r
end
theorem zD (g:Nat->Nat):∀ l,kq g l=l.map (B3 g)
 |[]=>rfl
 |x::r=>by rw[kq,zD g r];rfl
def lH (g:Nat->Nat):im->im
 |.cells ty l=>.cells ty (kq g l)
 |.rows ty p T xs=>.rows ty p T xs
 |.dead p sz n=>.dead p sz n
 |.mp K V es=>.mp K V es
theorem HC (g:Nat->Nat) (b:im):mz (lH g b)=mz b:=by cases b<;>rfl
def Hd (g:Nat->Nat) (n:Nat):Nat:=nm (g (ow n))
theorem xf (g:Nat->Nat) (i:Nat):Hd g (nm i)=nm (g i):=by unfold Hd;rw[dU]
mutual
theorem ag8 {g:Nat->Nat} {h1 h2:bf} (hrow:∀ i r,eh h1 i=af r->eh h2 (g i)=af r):∀ (v:TV) (y:AV),cj h1 v=af y->cj h2 (B3 g v)=af (y.ren (Hd g))
 |.f _ _,y,he=>by simp only[cj,ak] at he;subst he;rfl
 |.fel _ _ _ _ _,y,he=>by simp only[cj,ak] at he;subst he;rfl
 |.pel _ _ _ _,y,he=>by simp only[cj,ak] at he;subst he;simp only[B3,cj,AV.ren,xf]
 |.ptr _ _,y,he=>by simp only[cj,ak] at he;subst he;simp only[B3,cj,AV.ren,xf]
 |.csl _ _ _,y,he=>by simp only[cj,ak] at he;subst he;simp only[B3,cj,AV.ren,xf]
 |.row id,y,he=>by
  simp only[cj] at he;split at he
  .rename_i p sz n hr;simp only[ak] at he;subst he;simp only[B3,cj,hrow id _ hr];unfold fm;split
   .rfl
   .simp only[AV.ren,xf]
  .cases he
 |.rtl id jj,y,he=>by
  simp only[cj] at he;split at he
  .rename_i p sz n hr;simp only[ak] at he;subst he;simp only[B3,cj,hrow id _ hr,AV.ren,xf]
  .cases he
 |.emp,y,he=>by simp only[cj,ak] at he;subst he;rfl
 |.nil,y,he=>by simp only[cj,ak] at he;subst he;rfl
 |.mp _,y,he=>by simp only[cj,ak] at he;subst he;simp only[B3,cj,AV.ren,xf]
 |.agg l,y,he=>by
  simp only[cj] at he;split at he
  .rename_i l' hl;simp only[ak] at he;subst he;simp only[B3,cj,qi hrow l l' hl,AV.ren]
  .cases he
 |.tup l,y,he=>by
  simp only[cj] at he;split at he
  .rename_i l' hl;simp only[ak] at he;subst he;simp only[B3,cj,qi hrow l l' hl,AV.ren]
  .cases he
 |.clo q l,y,he=>by
  simp only[cj] at he;split at he
  .rename_i l' hl;simp only[ak] at he;subst he;simp only[B3,cj,qi hrow l l' hl,AV.ren]
  .cases he
 |.undef,y,he=>by simp only[cj,ak] at he;subst he;rfl
 |.np,y,he=>by simp only[cj,ak] at he;subst he;rfl
 |.anyb,y,he=>by simp only[cj,ak] at he;subst he;rfl
theorem qi {g:Nat->Nat} {h1 h2:bf} (hrow:∀ i r,eh h1 i=af r->eh h2 (g i)=af r):∀ (l:List TV) (l':List AV),cH h1 l=af l'->cH h2 (kq g l)=af (AV.renL (Hd g) l')
 |[],l',he=>by simp only[cH,ak] at he;subst he;rfl
 |x::r,l',he=>by
  obtain⟨y,l2,rfl,e1,e2⟩:=cS he;exact oN (ag8 hrow x y e1) (qi hrow r l2 e2)
end
theorem CF {g:Nat->Nat} {h1 h2:bf} (hrow:∀ i r,eh h1 i=af r->eh h2 (g i)=af r) {b:im} {y:wG} (he:kr h1 b=af y):kr h2 (lH g b)=af (y.ren (Hd g)):=by
 cases b with
 |rows ty p T xs=>
  simp only[kr] at he;split at he
  .cases he
  .rename_i hc;simp only[ak] at he;subst he;simp only[lH,kr,aC hc];rfl
 |cells ty l=>
  simp only[kr] at he;split at he
  .rename_i I hl;simp only[ak] at he;subst he;simp only[lH,kr,qi hrow l I hl,om];rfl
  .cases he
 |dead p sz n=>cases he
 |mp K V es=>
  simp only[kr,ak] at he;subst he;simp only[lH,kr,wG.ren,ak,wG.mk.injEq,AO];unfold Y9;split
  .rfl
  .simp only[BC.ren,zA];rfl
theorem B2 (g:Nat->Nat) (a b:List TV):kq g (a++b)=kq g a++kq g b:=by
 rw[zD,zD,zD,cN]
theorem py (g:Nat->Nat):∀ (n:Nat) (T:Ty) (v:T.den) (l:List TV),cellsOf n T v=af l->kq g l=l
 |0,_,_,_,he=>by simp[cellsOf] at he
 |n+1,.st t,v,l,he=>py g n t v l he
 |n+1,.pr a b,v,l,he=>by
  simp only[cellsOf] at he;split at he
  .rename_i x y J I;simp only[ak] at he;subst he;rw[B2,py g n a v.1 x J,py g n b v.2 y I]
  .cases he
 |n+1,.un,v,l,he=>by simp only[cellsOf,ak] at he;subst he;rfl
 |n+1,.ex,v,l,he=>py g n L_ (MS v) l he
 |n+1,.sm,v,l,he=>py g n LK (MR v) l he
 |n+1,.int k,v,l,he=>by simp only[cellsOf,ak] at he;subst he;rfl
 |n+1,.bool,v,l,he=>by simp only[cellsOf,ak] at he;subst he;rfl
 |n+1,.str,v,l,he=>by simp only[cellsOf,ak] at he;subst he;rfl
 |n+1,.sl t,v,l,he=>by simp only[cellsOf,ak] at he;subst he;rfl
abbrev G_:Nat->Nat:=λi=>i
mutual
theorem YT (g:Nat->Nat):∀ (p:PV) (x:p.ty.den),pE g p x=(pE G_ p x).map (kq g)
 |.d T,x=>by
  simp only[pE];cases h:cellsOf 40 T x with
  |none=>rfl
  |some l=>simp only[b_,py g 40 T x l h]
 |.ptr i o,x=>rfl
 |.csl i o z,x=>rfl
 |.clo q i o,x=>rfl
 |.row i,x=>rfl
 |.mp i,x=>rfl
 |.nil,x=>rfl
 |.emp,x=>rfl
 |.agg ps,x=>zE g ps x
theorem zE (g:Nat->Nat):∀ (ps:List PV) (x:(PV.tyL ps).den),qH g ps x=(qH G_ ps x).map (kq g)
 |[],x=>rfl
 |p::r,x=>by
  simp only[qH];rw[YT g p,zE g r];cases pE G_ p (NJ p.ty (PV.tyL r) x) with
  |none=>rfl
  |some a=>
   cases qH G_ r (Ku p.ty (PV.tyL r) x) with
   |none=>rfl
   |some b=>simp only[b_,B2]
end
def agm (o:Option (List TV)):Option TV:=match o with|some l=>af (.agg l)|none=>ah
theorem Z' (g:Nat->Nat) (o:Option (List TV)):agm (o.map (kq g))=(agm o).map (B3 g):=by cases o<;>rfl
theorem YR (g:Nat->Nat) (p:PV) (x:p.ty.den):sQ g p x=(sQ G_ p x).map (B3 g):=by
 cases p with
 |agg ps=>exact (gE agm (zE g ps x)).trans (Z' g _)
 |_=>rfl
theorem s8 (g:Nat->Nat):∀ (ps:List PV) (x:(PV.tyL ps).den),pK g ps x=(pK G_ ps x).map (kq g)
 |[],x=>rfl
 |p::r,x=>by
  simp only[pK];rw[YR g p,s8 g r];cases sQ G_ p (NJ p.ty (PV.tyL r) x) with
  |none=>rfl
  |some a=>
   cases pK G_ r (Ku p.ty (PV.tyL r) x) with
   |none=>rfl
   |some b=>rfl
def UF (ty:TypeId) (o:Option (List TV)):Option (Option im):=match o with|some l=>af (af (.cells ty l))|none=>ah
theorem UE (g:Nat->Nat) (ty:TypeId) (o:Option (List TV)):UF ty (o.map (kq g))=(UF ty o).map (lD (lH g)):=by cases o<;>rfl
theorem YU (g:Nat->Nat) (b:PB) (x:b.ty.den):B7 g b x=(B7 G_ b x).map (lD (lH g)):=by
 cases b with
 |cells ty ps=>exact (gE (UF ty) (zE g ps x)).trans (UE g ty _)
 |_=>rfl
theorem vJ (g:Nat->Nat):∀ (bs:List PB) (x:(PB.tyL bs).den),oo g bs x=(oo G_ bs x).map (List.map (lD (lH g)))
 |[],x=>rfl
 |b::r,x=>by
  simp only[oo];rw[YU g b,vJ g r];cases B7 G_ b (NJ b.ty (PB.tyL r) x) with
  |none=>rfl
  |some a=>
   cases oo G_ r (Ku b.ty (PB.tyL r) x) with
   |none=>rfl
   |some l=>rfl
theorem B6 (g:Nat->Nat):∀ (bs:List PB) (x:(PB.tyL bs).den) (l:List (Option im)),oo g bs x=af l->l.length=bs.length
 |[],x,l,h=>by simp only[oo,ak] at h;subst h;rfl
 |b::r,x,l,h=>by
  simp only[oo] at h;split at h
  .split at h
   .rename_i q hq;simp only[ak] at h;subst h;simp[B6 g r _ q hq]
   .cases h
  .cases h
theorem IF (h:bf) (i j:Nat):(kill h i).get j=if j=i then (h.get i).map uJ else h.get j:=by
 unfold kill;cases hb:h.get i with
 |none=>
  simp only[Option.map_none];split
  .rename_i e;rw[e,hb]
  .rfl
 |some b=>rw[PT.get_set];rfl
theorem uH (g:Nat->Nat):∀ (l:List (Option im)) (i:Nat) (h:bf) (j:Nat),(∀ k,k<l.length->j≠g (i+k))->(zZ g i l h).get j=h.get j
 |[],i,h,j,_=>rfl
 |some c::r,i,h,j,hj=>by
  rw[zZ,uH g r (i+1) _ j (λk hk=>by have:=hj (k+1) (by simpa using hk);rwa [show i+1+k=i+(k+1) from by omega]),PT.get_set,aC];exact hj 0 (by simp)
 |none::r,i,h,j,hj=>by
  rw[zZ,uH g r (i+1) _ j (λk hk=>by have:=hj (k+1) (by simpa using hk);rwa [show i+1+k=i+(k+1) from by omega]),IF,aC];exact hj 0 (by simp)
theorem uI (g:Nat->Nat):∀ (l:List (Option im)) (i:Nat) (h:bf),(∀ a b,a<l.length->b<l.length->g (i+a)=g (i+b)->a=b)->∀ (k:Nat) (c:Option im),l[k]? =af c->(zZ g i l h).get (g (i+k))=(match c with|some b=>af b|none=>(h.get (g (i+k))).map uJ)
 |[],i,h,_,k,c,hk=>by simp at hk
 |o::r,i,h,hinj,k,c,hk=>by
  have hinj':∀ a b,a<r.length->b<r.length->g (i+1+a)=g (i+1+b)->a=b:=λa b J hb e=>by
   have:=hinj (a+1) (b+1) (by simpa using J) (by simpa using hb) (by rw[show i+(a+1)=i+1+a from by omega,show i+(b+1)=i+1+b from by omega];exact e);omega
  cases k with
  |zero=>
   simp at hk;subst hk;have hne:∀ k,k<r.length->g (i+0)≠g (i+1+k):=λk hk e=>by
    have:=hinj 0 (k+1) (by simp) (by simpa using hk) (by rw[show i+(k+1)=i+1+k from by omega];exact e);omega
   cases o with
   |some b=>rw[zZ,uH g r (i+1) _ _ hne];simp only[dg];rw[PT.get_set,aF rfl]
   |none=>rw[zZ,uH g r (i+1) _ _ hne];simp only[dg];rw[IF,aF rfl]
  |succ k=>
   have I:r[k]? =af c:=by simpa using hk
   have hkl:k<r.length:=(bh.1 I).1;have hne:g (i+(k+1))≠g i:=λe=>by
    have:=hinj (k+1) 0 (by simpa using hkl) (by simp) (by rw[e];rfl);omega
   rw[show i+(k+1)=i+1+k from by omega] at hne ⊢;cases o with
   |some b=>
    rw[zZ,uI g r (i+1) _ hinj' k c I];cases c with
    |some _=>rfl
    |none=>simp only[PT.get_set,aC hne]
   |none=>
    rw[zZ,uI g r (i+1) _ hinj' k c I];cases c with
    |some _=>rfl
    |none=>simp only[IF,aC hne]
def xw (h' h:bf):Prop:=∀ i r,eh h' i=af r->eh h i=af r
section get
variable {h h':bf} {H H':HF} {g:Nat->Nat}
theorem lB.agg {l I:List AV} (hl:ia H H' l I) (hc:∀ x∈I,x.isCell=ai):lB H H' (.agg l) (.agg I):=by
 intro φ E w v hrep hr;cases hr with
 |@agg _ vs hlen hcl hrr=>
  refine .agg (by rw[hlen,<-hl.length]) hc λj y u J hu=>?_
  obtain⟨x,M,hle⟩:=hl.get j y J;exact hle φ E w u hrep (hrr j x u M hu)
theorem Pd (hr:xw h' h) {i:Nat} {y M:AV} (J:cj h (.row i)=af y) (I:cj h' (.row i)=af M):M=y:=by
 simp only[cj] at J I;cases h1:eh h' i with
 |none=>rw[h1] at I;cases I
 |some r=>
  rw[h1] at I;rw[hr i r h1] at J;rw[J] at I;cases I;rfl
mutual
theorem ack (d:uY H H') (hr:xw h' h):∀ (p:PV) (l:List TV) (x:p.ty.den) (m:Nat) (r:List TV) (cs:List TV) (l' cs':List AV),pf g h p l=af (x,m,r)->pE g p x=af cs->cH h l=af l'->cH h' cs=af cs'->Dv h H H' m->∃ l1 l2,l'=l1++l2/\cH h r=af l2/\ia H H' l1 cs'
 |.d T,l,x,m,r,cs,l',cs',hg,hp,hl,hc,gv=>by
  obtain⟨l1,l2,e1,e2,e3⟩:=rP d 40 T l x m r l' hg hl gv;have:=(lz h' 40 T x cs hp).1;rw[hc] at this;cases this;exact⟨l1,l2,e1,e2,e3⟩
 |.ptr i q,l,x,m,r,cs,l',cs',hg,hp,hl,hc,gv=>by
  simp only[pf] at hg;split at hg
  .rename_i i' o' r';split at hg
   .rename_i hb;simp only[av] at hb;have e1:=aw hb.1;have e2:=aw hb.2;subst e1;subst e2;simp only[ak,aD] at hg;obtain⟨_,_,rfl⟩:=hg;simp only[pE,ak] at hp;subst hp;obtain⟨y,l2,rfl,g1,g2⟩:=cS hl;simp only[cj,ak] at g1;subst g1;simp only[cH,cj,ak] at hc;subst hc;exact⟨[_],l2,rfl,g2,lB.refl d _,trivial⟩
   .cases hg
  .cases hg
 |.csl i q z,l,x,m,r,cs,l',cs',hg,hp,hl,hc,gv=>by
  simp only[pf] at hg;split at hg
  .rename_i i' o' z' r';split at hg
   .rename_i hb;simp only[av] at hb;have e1:=aw hb.1.1;have e2:=aw hb.1.2;have e3:=aw hb.2;subst e1;subst e2;subst e3;simp only[ak,aD] at hg;obtain⟨_,_,rfl⟩:=hg;simp only[pE,ak] at hp;subst hp;obtain⟨y,l2,rfl,g1,g2⟩:=cS hl;simp only[cj,ak] at g1;subst g1;simp only[cH,cj,ak] at hc;subst hc;exact⟨[_],l2,rfl,g2,lB.refl d _,trivial⟩
   .cases hg
  .cases hg
 |.clo q i z,l,x,m,r,cs,l',cs',hg,hp,hl,hc,gv=>by
  simp only[pf] at hg;split at hg
  .rename_i q' i' z' r';split at hg
   .rename_i hb;simp only[av] at hb;have e1:=aw hb.1.1;have e2:=aw hb.1.2;have e3:=aw hb.2;subst e1;subst e2;subst e3;simp only[ak,aD] at hg;obtain⟨_,_,rfl⟩:=hg;simp only[pE,ak] at hp;subst hp;obtain⟨y,l2,rfl,g1,g2⟩:=cS hl;simp only[cj,cH,ak] at g1;subst g1;simp only[cH,cj,ak] at hc;subst hc;exact⟨[_],l2,rfl,g2,lB.refl d _,trivial⟩
   .cases hg
  .cases hg
 |.row i,l,x,m,r,cs,l',cs',hg,hp,hl,hc,gv=>by
  simp only[pf] at hg;split at hg
  .rename_i i' r';split at hg
   .rename_i hb;have e1:=aw hb;subst e1;simp only[ak,aD] at hg;obtain⟨_,_,rfl⟩:=hg;simp only[pE,ak] at hp;subst hp;obtain⟨y,l2,rfl,g1,g2⟩:=cS hl;obtain⟨y',l3,rfl,g3,g4⟩:=cS hc;simp only[cH,ak] at g4;subst g4;rw[Pd hr g1 g3];exact⟨[_],l2,rfl,g2,lB.refl d _,trivial⟩
   .cases hg
  .cases hg
 |.mp i,l,x,m,r,cs,l',cs',hg,hp,hl,hc,gv=>by
  simp only[pf] at hg;split at hg
  .rename_i i' r';split at hg
   .rename_i hb;have e1:=aw hb;subst e1;simp only[ak,aD] at hg;obtain⟨_,_,rfl⟩:=hg;simp only[pE,ak] at hp;subst hp;obtain⟨y,l2,rfl,g1,g2⟩:=cS hl;simp only[cj,ak] at g1;subst g1;simp only[cH,cj,ak] at hc;subst hc;exact⟨[_],l2,rfl,g2,lB.refl d _,trivial⟩
   .cases hg
  .cases hg
 |.nil,l,x,m,r,cs,l',cs',hg,hp,hl,hc,gv=>by
  simp only[pf] at hg;split at hg
  .simp only[ak,aD] at hg;obtain⟨_,_,rfl⟩:=hg;simp only[pE,ak] at hp;subst hp;obtain⟨y,l2,rfl,g1,g2⟩:=cS hl;simp only[cj,ak] at g1;subst g1;simp only[cH,cj,ak] at hc;subst hc;exact⟨[_],l2,rfl,g2,lB.refl d _,trivial⟩
  .cases hg
 |.emp,l,x,m,r,cs,l',cs',hg,hp,hl,hc,gv=>by
  simp only[pf] at hg;split at hg
  .simp only[ak,aD] at hg;obtain⟨_,_,rfl⟩:=hg;simp only[pE,ak] at hp;subst hp;obtain⟨y,l2,rfl,g1,g2⟩:=cS hl;simp only[cj,ak] at g1;subst g1;simp only[cH,cj,ak] at hc;subst hc;exact⟨[_],l2,rfl,g2,Le.nilEmp.toH d,trivial⟩
  .simp only[ak,aD] at hg;obtain⟨_,_,rfl⟩:=hg;simp only[pE,ak] at hp;subst hp;obtain⟨y,l2,rfl,g1,g2⟩:=cS hl;simp only[cj,ak] at g1;subst g1;simp only[cH,cj,ak] at hc;subst hc;exact⟨[_],l2,rfl,g2,lB.refl d _,trivial⟩
  .cases hg
 |.agg ps,l,x,m,r,cs,l',cs',hg,hp,hl,hc,gv=>CC d hr ps l x m r cs l' cs' hg hp hl hc gv
theorem CC (d:uY H H') (hr:xw h' h):∀ (ps:List PV) (l:List TV) (x:(PV.tyL ps).den) (m:Nat) (r:List TV) (cs:List TV) (l' cs':List AV),yL g h ps l=af (x,m,r)->qH g ps x=af cs->cH h l=af l'->cH h' cs=af cs'->Dv h H H' m->∃ l1 l2,l'=l1++l2/\cH h r=af l2/\ia H H' l1 cs'
 |[],l,x,m,r,cs,l',cs',hg,hp,hl,hc,gv=>by
  simp only[yL,ak,aD] at hg;obtain⟨_,_,rfl⟩:=hg;simp only[qH,ak] at hp;subst hp;simp only[cH,ak] at hc;subst hc;exact⟨[],l',rfl,hl,trivial⟩
 |p::ps,l,x,m,r,cs,l',cs',hg,hp,hl,hc,gv=>by
  simp only[yL] at hg;split at hg
  .rename_i x1 m1 r1 h1;split at hg
   .rename_i x2 m2 r2 h2;simp only[ak,aD] at hg;obtain⟨rfl,rfl,rfl⟩:=hg;simp only[qH,sY,uE] at hp;split at hp
    .rename_i a ha;split at hp
     .rename_i b hb;simp only[ak] at hp;subst hp;obtain⟨a',b',rfl,ea,eb⟩:=Bv hc;obtain⟨ga,gb⟩:=gv.or;obtain⟨l1,l2,rfl,q1,q2⟩:=ack d hr p l _ _ _ a l' a' h1 ha hl ea ga;obtain⟨l3,l4,rfl,q3,q4⟩:=CC d hr ps _ _ _ _ b l2 b' h2 hb q1 eb gb;exact⟨l1++l3,l4,by simp,q3,q2.append q4⟩
     .cases hp
    .cases hp
   .cases hg
  .cases hg
end
mutual
theorem WJ:∀ (p:PV) (x:p.ty.den) (cs:List TV),pE g p x=af cs->kn cs=ai
 |.d T,x,cs,hp=>(lz PT.leaf 40 T x cs hp).2
 |.ptr i q,x,cs,hp=>by simp only[pE,ak] at hp;subst hp;rfl
 |.csl i q z,x,cs,hp=>by simp only[pE,ak] at hp;subst hp;rfl
 |.clo q i z,x,cs,hp=>by simp only[pE,ak] at hp;subst hp;rfl
 |.row i,x,cs,hp=>by simp only[pE,ak] at hp;subst hp;rfl
 |.mp i,x,cs,hp=>by simp only[pE,ak] at hp;subst hp;rfl
 |.nil,x,cs,hp=>by simp only[pE,ak] at hp;subst hp;rfl
 |.emp,x,cs,hp=>by simp only[pE,ak] at hp;subst hp;rfl
 |.agg ps,x,cs,hp=>wQ ps x cs hp
theorem wQ:∀ (ps:List PV) (x:(PV.tyL ps).den) (cs:List TV),qH g ps x=af cs->kn cs=ai
 |[],x,cs,hp=>by simp only[qH,ak] at hp;subst hp;rfl
 |p::ps,x,cs,hp=>by
  simp only[qH] at hp;split at hp
  .rename_i a ha;split at hp
   .rename_i b hb;simp only[ak] at hp;subst hp;exact RI (WJ p _ a ha) (wQ ps _ b hb)
   .cases hp
  .cases hp
end
theorem acj (d:uY H H') (hr:xw h' h) {p:PV} {v:TV} {x:p.ty.den} {m:Nat} {u:TV} {y M:AV} (hg:xc g h p v=af (x,m)) (hp:sQ g p x=af u) (J:cj h v=af y) (I:cj h' u=af M) (Z:Dv h H H' m):lB H H' y M:=by
 cases p with
 |d T=>
  simp only[sQ,ak] at hp;subst hp;simp only[cj,ak] at I;subst I;exact (Ow d hg J Z).1
 |agg ps=>
  simp only[xc] at hg;split at hg
  .cases hg
  .rename_i hc;split at hg
   .rename_i l hl;split at hg
    .rename_i x1 m1 h1;simp only[ak,aD] at hg;obtain⟨rfl,rfl⟩:=hg;simp only[sQ] at hp;split at hp
     .rename_i cs hcs;simp only[ak] at hp;subst hp;simp only[cj] at I;split at I
      .rename_i cs' hcs';simp only[ak] at I;subst I;obtain⟨e1,e2⟩:=Jz hl J;obtain⟨l1,l2,Y,U,q3⟩:=CC d hr ps l _ _ [] cs y.cs cs' h1 hcs e1 hcs' Z;simp only[cH,ak] at U;subst U;rw[lG] at Y;subst Y;have hcell:∀ x∈cs',x.isCell=ai:=lA (rM hcs' (wQ ps _ cs hcs));cases v with
       |agg q=>
        simp only[cj] at J;split at J
        .simp only[ak] at J;subst J;exact lB.agg q3 hcell
        .cases J
       |f S z=>
        simp only[cj,ak] at J;subst J;have ho:S.one=aj:=by simpa[TV.isC] using hc
        rw[zO] at q3;rw[qj S z ho];intro φ E w v hrep hrel;exact lB.agg q3 hcell φ E w v hrep (Le.aggF _ _ _ _ hrel)
       |tup q=>simp[TV.cs,TV.isC] at hl
       |undef=>simp[TV.cs,TV.isC] at hl
       |np=>simp[TV.isC] at hc
       |anyb=>simp[TV.cs,TV.isC] at hl
       |fel T xs j hj off=>simp[TV.isC] at hc
       |pel id sz j off=>simp[TV.isC] at hc
       |ptr id off=>simp[TV.isC] at hc
       |csl id off z=>simp[TV.isC] at hc
       |row id=>simp[TV.isC] at hc
       |emp=>simp[TV.isC] at hc
       |nil=>simp[TV.isC] at hc
       |mp id=>simp[TV.isC] at hc
       |rtl id jj=>cases hl
       |clo g l=>simp[TV.isC] at hc
      .cases I
     .cases hp
    .cases hg
   .cases hg
 |ptr i q=>
  simp only[sQ,ak] at hp;subst hp;simp only[xc] at hg;split at hg
  .rename_i h1;simp only[pf] at h1;split at h1
   .rename_i e;simp only[iO] at e;obtain⟨rfl,_⟩:=e;split at h1
    .rename_i hb;simp only[av] at hb;have e1:=aw hb.1;have e2:=aw hb.2;subst e1;subst e2;simp only[cj,ak] at J I;subst J;subst I;exact lB.refl d _
    .cases h1
   .cases h1
  .cases hg
 |csl i q z=>
  simp only[sQ,ak] at hp;subst hp;simp only[xc] at hg;split at hg
  .rename_i h1;simp only[pf] at h1;split at h1
   .rename_i e;simp only[iO] at e;obtain⟨rfl,_⟩:=e;split at h1
    .rename_i hb;simp only[av] at hb;have e1:=aw hb.1.1;have e2:=aw hb.1.2;have e3:=aw hb.2;subst e1;subst e2;subst e3;simp only[cj,ak] at J I;subst J;subst I;exact lB.refl d _
    .cases h1
   .cases h1
  .cases hg
 |clo q i z=>
  simp only[sQ,ak] at hp;subst hp;simp only[xc] at hg;split at hg
  .rename_i h1;simp only[pf] at h1;split at h1
   .rename_i e;simp only[iO] at e;obtain⟨rfl,_⟩:=e;split at h1
    .rename_i hb;simp only[av] at hb;have e1:=aw hb.1.1;have e2:=aw hb.1.2;have e3:=aw hb.2;subst e1;subst e2;subst e3;simp only[cj,cH,ak] at J I;subst J;subst I;exact lB.refl d _
    .cases h1
   .cases h1
  .cases hg
 |row i=>
  simp only[sQ,ak] at hp;subst hp;simp only[xc] at hg;split at hg
  .rename_i h1;simp only[pf] at h1;split at h1
   .rename_i e;simp only[iO] at e;obtain⟨rfl,_⟩:=e;split at h1
    .rename_i hb;have e1:=aw hb;subst e1;rw[Pd hr J I];exact lB.refl d _
    .cases h1
   .cases h1
  .cases hg
 |mp i=>
  simp only[sQ,ak] at hp;subst hp;simp only[xc] at hg;split at hg
  .rename_i h1;simp only[pf] at h1;split at h1
   .rename_i e;simp only[iO] at e;obtain⟨rfl,_⟩:=e;split at h1
    .rename_i hb;have e1:=aw hb;subst e1;simp only[cj,ak] at J I;subst J;subst I;exact lB.refl d _
    .cases h1
   .cases h1
  .cases hg
 |nil=>
  simp only[sQ,ak] at hp;subst hp;simp only[xc] at hg;split at hg
  .rename_i h1;simp only[pf] at h1;split at h1
   .rename_i e;simp only[iO] at e;obtain⟨rfl,_⟩:=e;simp only[cj,ak] at J I;subst J;subst I;exact lB.refl d _
   .cases h1
  .cases hg
 |emp=>
  simp only[sQ,ak] at hp;subst hp;simp only[xc] at hg;split at hg
  .rename_i h1;simp only[pf] at h1;split at h1
   .rename_i e;simp only[iO] at e;obtain⟨rfl,_⟩:=e;simp only[cj,ak] at J I;subst J;subst I;exact Le.nilEmp.toH d
   .rename_i e;simp only[iO] at e;obtain⟨rfl,_⟩:=e;simp only[cj,ak] at J I;subst J;subst I;exact lB.refl d _
   .cases h1
  .cases hg
theorem Cz (d:uY H H') (hr:xw h' h):∀ (ps:List PV) (vs:List TV) (x:(PV.tyL ps).den) (m:Nat) (us:List TV) (l J:List AV),xF g h ps vs=af (x,m)->pK g ps x=af us->cH h vs=af l->cH h' us=af J->Dv h H H' m->ia H H' l J
 |[],[],x,m,us,l,J,hg,hp,hl,I,M=>by
  simp only[pK,ak] at hp;subst hp;simp only[cH,ak] at hl I;subst hl;subst I;trivial
 |[],_::_,x,m,us,l,J,hg,_,_,_,_=>by simp[xF] at hg
 |_::_,[],x,m,us,l,J,hg,_,_,_,_=>by simp[xF] at hg
 |p::ps,v::vs,x,m,us,l,J,hg,hp,hl,I,M=>by
  simp only[xF] at hg;split at hg
  .rename_i x1 m1 h1;split at hg
   .rename_i x2 m2 h2;simp only[ak,aD] at hg;obtain⟨rfl,rfl⟩:=hg;simp only[pK,sY,uE] at hp;split at hp
    .rename_i a Y;split at hp
     .rename_i b hb;simp only[ak] at hp;subst hp;obtain⟨y,l2,rfl,e1,e2⟩:=cS hl;obtain⟨y',U,rfl,e3,e4⟩:=cS I;obtain⟨ga,Z⟩:=M.or;exact⟨acj d hr h1 Y e1 e3 ga,Cz d hr ps vs _ _ b l2 U h2 hb e2 e4 Z⟩
     .cases hp
    .cases hp
   .cases hg
  .cases hg
inductive BM (g:Nat->Nat) (h:bf) (m:Nat):im->im->Prop
 |rows (ty:TypeId) (p:Bool) (T:Ty) (xs:List T.den):BM g h m (.rows ty p T xs) (.rows ty p T xs)
 |mp (K V:Ty) (es:List (K.den×V.den)):BM g h m (.mp K V es) (.mp K V es)
 |cells (ty:TypeId) (ps:List PV) (x:(PV.tyL ps).den) (l l2:List TV) (m':Nat) (hg:yL g h ps l=af (x,m',[])) (hp:qH g ps x=af l2) (hm:∀ i,aN m' i=ai->aN m i=ai):BM g h m (.cells ty l) (.cells ty l2)
theorem BM.mono {m m2:Nat} (hm:∀ i,aN m i=ai->aN m2 i=ai) {b c:im} (h1:BM g h m b c):BM g h m2 b c:=by
 cases h1 with
 |rows ty p T xs=>exact .rows ty p T xs
 |mp K V es=>exact .mp K V es
 |cells ty ps x l l2 m' hg hp I=>exact .cells ty ps x l l2 m' hg hp λi hi=>hm i (I i hi)
theorem acl {i:Nat} {b:PB} {x:b.ty.den} {m:Nat} {c:im} (hg:Eb g h i b=af (x,m)) (hp:B7 g b x=af (af c)):∃ b0,h.get (g i)=af b0/\BM g h m b0 c:=by
 cases b with
 |rows ty p T=>
  simp only[Eb] at hg;split at hg
  .rename_i ty' M S xs hb;split at hg
   .rename_i hc;simp only[av,cR] at hc;obtain⟨rfl,rfl⟩:=hc;split at hg
    .rename_i z I;simp only[ak,aD] at hg;obtain⟨rfl,rfl⟩:=hg;obtain⟨e,rfl⟩:=ja I;cases e;simp only[B7,ak] at hp;subst hp;exact⟨_,hb,.rows _ _ _ _⟩
    .cases hg
   .cases hg
  .cases hg
 |rowsP ty T=>
  simp only[Eb] at hg;split at hg
  .rename_i ty' M S xs hb;split at hg
   .rename_i hc;have hc:ty=ty':=by simpa using hc
    subst hc;split at hg
    .rename_i z I;simp only[ak,aD] at hg;obtain⟨rfl,rfl⟩:=hg;obtain⟨e,rfl⟩:=ja I;cases e;simp only[B7,ak] at hp;subst hp;exact⟨_,hb,.rows _ _ _ _⟩
    .cases hg
   .cases hg
  .cases hg
 |cells ty ps=>
  simp only[Eb] at hg;split at hg
  .rename_i ty' l hb;split at hg
   .rename_i hc;have hc:ty=ty':=by simpa using hc
    subst hc;split at hg
    .rename_i z m1 I;simp only[ak,aD] at hg;obtain⟨rfl,rfl⟩:=hg;simp only[B7] at hp;split at hp
     .rename_i l2 J;simp only[ak] at hp;subst hp;exact⟨_,hb,.cells ty ps _ l l2 _ I J λ_ h=>h⟩
     .cases hp
    .cases hg
   .cases hg
  .cases hg
 |mp K V=>
  simp only[Eb] at hg;split at hg
  .rename_i K' V' es hb;split at hg
   .rename_i z I;simp only[ak,aD] at hg;obtain⟨rfl,rfl⟩:=hg;obtain⟨e,rfl⟩:=ja I;cases e;simp only[B7,ak] at hp;subst hp;exact⟨_,hb,.mp _ _ _⟩
   .cases hg
  .cases hg
 |gone=>simp[B7] at hp
theorem IG:∀ (bs:List PB) (i:Nat) (x:(PB.tyL bs).den) (m:Nat) (I:List (Option im)),Am g h i bs=af (x,m)->oo g bs x=af I->∀ (k:Nat) c,I[k]? =af (af c)->∃ b0,h.get (g (i+k))=af b0/\BM g h m b0 c
 |[],i,x,m,I,hg,hp,k,c,hk=>by
  simp only[oo,ak] at hp;subst hp;simp at hk
 |b::r,i,x,m,I,hg,hp,k,c,hk=>by
  simp only[Am] at hg;split at hg
  .rename_i U m1 h1;split at hg
   .rename_i M m2 h2;simp only[ak,aD] at hg;obtain⟨rfl,rfl⟩:=hg;simp only[oo,sY,uE] at hp;split at hp
    .rename_i a J;split at hp
     .rename_i q hq;simp only[ak] at hp;subst hp;cases k with
      |zero=>
       simp at hk;subst hk;obtain⟨b0,e1,e2⟩:=acl h1 J;exact⟨b0,e1,e2.mono λi hi=>by rw[bn,hi];rfl⟩
      |succ k=>
       obtain⟨b0,e1,e2⟩:=IG r (i+1) _ _ q h2 hq k c (by simpa using hk);rw[show i+1+k=i+(k+1) from by omega] at e1;exact⟨b0,e1,e2.mono λi hi=>by rw[bn,hi];simp⟩
     .cases hp
    .cases hp
   .cases hg
  .cases hg
end get
end
end Go.Proofs.YtgijlolllojpaaaGreatDoor.AI
