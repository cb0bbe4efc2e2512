/-
  Texts of the proof, part 4 of 5: what is used to prove the statement. No condition.
-/
import Derived.Test.YthehadcddfilhaaGreatDoorHBSyncQ2
import Derived.Defers
namespace Go.Proofs.YthehadcddfilhaaGreatDoor.AI
open Go.RowKit
set_option maxRecDepth 100000
set_option maxHeartbeats 4000000
set_option linter.unusedVariables false
set_option linter.unusedSimpArgs false
open Act renaming put→MX
open _root_.Array renaming length_toList→iu,range→x_
open _root_.Bool renaming true→ai,false→aj
open Builtin renaming zeroCells→lw,firstCells→Kn
open Call renaming operands→eM
open Instr renaming findNow→jx,sliceBounds→jN,sliceBound→kr,sliceAt→pt,slice→uq
open _root_.Int renaming ofNat→aO,toNat→aU
open IntKind renaming wrap→oL
open _root_.List renaming length→al,replicate→aG,length_cons→bY,take→dM,range→eS,cons_append→gi,length_nil→jS,toArray→kB,nil_append→lM,take_succ_cons→vB
open _root_.Nat renaming beq→aC,testBit→aM,add_zero→c8,ble→eC,blt→gf,min→iQ
open Oper renaming wp→GW
open _root_.Option renaming some→af,none→ah,bind_some→aH,map_some→ca,map→lK
open Region renaming wanted→iJ
open Result renaming andThen_ok→cI
open Sem renaming run_bind→eB,run→nj,run_pure→oI
open Value.bool renaming injEq→BT
open World renaming shape?→rF,cell?→MT
noncomputable section
section
variable {P:Program} {o:Oper} {e:zA} {h:nP} {nx:Nat} {R:BR}
theorem sk {t el:TypeId} (h:As P t=af el):P.underlying t=af (.slice el):=by
 unfold As at h;split at h
 .rename_i e hu;simp only[ak] at h;subst h;exact hu
 .cases h
theorem mB (z:List Value):∀ n,(repl z n).length=n*z.length
 |0=>by simp[repl]
 |n+1=>by simp[repl,mB z n,iP];omega
theorem Cb (z:List Value):∀ (n j:Nat),j<n*z.length->(repl z n)[j]? =(z[j%z.length]?).map .raw
 |0,j,h=>by simp at h
 |n+1,j,h=>by
  have I:0<z.length:=by
   rcases Km z.length with h0|h0
   .rw[h0] at h;simp at h
   .exact h0
  rw[repl];rcases bZ j z.length with hj|hj
  .rw[bO (by simpa using hj),bc,Nat.mod_eq_of_lt hj]
  .rw[b7 (by simpa using hj),cf,Cb z n (j-z.length) (by rw[iP] at h;omega),Nat.mod_eq_sub_mod hj]
theorem Wx {v:Value} {z:List Value} (hv:v.cells.toList=z) (n sz:Nat) (hl:z.length=sz) (hsz:sz≠0) (j:Nat) (hj:j<n*sz):
 ((x_ (n*sz)).map (λi=>v.cells[i%v.cells.size]!))[j]? =z[j%sz]? :=by
 have hs:v.cells.size=sz:=by rw[<- hl,<-hv];simp
 have hlt:j%sz<v.cells.size:=by rw[hs];exact Nat.mod_lt _ (by omega)
 rw[Array.getElem?_map,Array.getElem?_range];simp only[hj,bD,ca,hs];rw[<- hv,cH,getElem!_pos v.cells _ hlt,ig hlt]
theorem Cs.repl {φ:PM} {O:Nat->Prop} {w:World} {v:Value} {z:List Value} (hv:v.cells.toList=z) (n sz:Nat) (hl:z.length=sz) (hsz:sz≠0) (hc:mr z=ai):
 Cs φ O w ((repl z n).map .f) ((x_ (n*sz)).map (λi=>v.cells[i%v.cells.size]!)).toList:=by
 have key:∀ (j:Nat) (x:AV),((AI.repl z n).map AV.f)[j]? =af x->∃ u,z[j%sz]? =af u/\x=raw u/\j<n*sz:=by
  intro j x I;rw[bc] at I;have hj:j<n*z.length:=by
   rcases bZ j (n*z.length) with h|h
   .exact h
   .rw[bQ (by rw[mB];exact h)] at I;cases I
  rw[Cb z n j hj,hl] at I;cases hu:z[j%sz]? with
  |none=>rw[hu] at I;cases I
  |some u=>rw[hu] at I;simp at I;exact⟨u,rfl,I.symm,by rw[<- hl];exact hj⟩
 refine ⟨by simp[mB,hl],λx I=>?_,λj x u I hu=>?_⟩
 .obtain⟨j,hj⟩:=eV I;obtain⟨u,h1,rfl,_⟩:=key j x hj;exact gj.1 hc u (ba h1)
 .obtain⟨J,h1,rfl,hj⟩:=key j x I;rw[cH,Wx hv n sz hl hsz j hj,h1] at hu;cases hu;exact .f (.raw _)
theorem akw {t el:TypeId} {n sz:Nat} {ps:Array (Nat×Operand)} {z:List Value} {ps':List (Nat×Nat×Operand)} (Y:o.op= .buildSlice t n ps) (hu:P.underlying t=af (.slice el)) (hz:sO P el=af z) (hs:fg P el=af sz) (hc:mr z=ai) (hl:z.length=sz) (hsz:sz≠0) (hb:n*sz<=65536)
 (hps:wU P t ps.toList=af ps') (I:eL (.bsl el sz n z ps') e h nx=af R):gK P o e.get h.get R.eff:=by
 simp only[eL] at I;split at I
 .rename_i cs hf;simp only[ak] at I;subst I;refine gK.makes λφ E h' w a _ hp _=>?_
  obtain⟨v,h1,h2,_⟩:=tu hz w;obtain⟨g1,g2⟩:=DQ ps.toList ps' hps;have hops:∀ p∈ps.toList,p.2∈o.op.operands:=λp hp=>by
   rw[Y];simp only[Op.operands,List.mem_toArray,dk];exact⟨p,hp,rfl⟩
  have hmap:(ps.map λx:Nat×Operand=>(x.1,a.eval x.2)).toList=ps.toList.map λp=>(p.1,a.eval p.2):=by simp
  obtain⟨vs',k1,k2⟩:=NT (place:=λi=>af (i*sz,sz)) hp ps.toList ps' _ cs _ g1 (λj i x hj=>by
   obtain⟨of,s',Z,J⟩:=g2 j i x hj;unfold Bf at J;rw[hu] at J;simp[hs] at J;obtain⟨rfl,rfl⟩:=J;exact⟨_,_,Z,rfl⟩) hops (Cs.repl h2 n sz hl hsz hc) hf
  have hcells:(x_ (n*sz)).map ((if n*sz=0 then #[] else v.cells)[·%(if n*sz=0 then #[] else v.cells).size]!)=((x_ (n*sz)).map (λi=>v.cells[i%v.cells.size]!)).toList.toArray:=by
   by_cases h0:n*sz=0
   .simp[h0]
   .rw[Array.toArray_toList];simp only[aB h0]
  have hlen:vs'.length=n*sz:=by
   have e1:=k2.1;have e2:cs.length=((AI.repl z n).map AV.f).length:=by
    have:∀ (ps':List (Nat×Nat×Operand)) (U M:List AV),yR U e ps'=af M->M.length=U.length:=by
     intro ps';induction ps' with
     |nil=>intro U M h;simp only[yR,ak] at h;rw[h]
     |cons p ps' ih=>
      intro U M h;obtain⟨of,s',x⟩:=p;simp only[yR] at h;split at h
      .split at h
       .rename_i hcc;simp only[av,cV] at hcc;rw[ih _ _ h,ol (by rw[hcc.1.1];exact a_ hcc.1.2)]
       .cases h
      .cases h
    exact this ps' _ _ hf
   rw[e1,e2];simp[mB,hl]
  refine ⟨.slice (af ⟨w.heap.size,0,ah⟩) n n,{w with heap:=w.heap.push (.cells vs'.toArray el)},.cells vs'.toArray el (0,0),?_,qS w _,HV k2,λφ' O hφ=>?_⟩
  .have h3:=gr hs w;have hk:Instr.fill (λi=>af (i*sz,sz)) ((x_ (n*sz)).map ((if n*sz=0 then #[] else v.cells)[·%(if n*sz=0 then #[] else v.cells).size]!)) (ps.map λx:Nat×Operand=>(x.1,a.eval x.2)).toList=af vs'.toArray:=by
    rw[hcells,hmap];exact k1
   unfold execOp;rw[Y];simp only[Instr.buildSlice,eB,run_underlying hu,cI,h3];rw[aB (by omega)];by_cases h0:n*sz=0
   .simp only[aE h0] at hk ⊢;simp only[eB,oI,cI,hk,newRow,newObj,nj]
   .simp only[aB h0] at hk ⊢;simp only[eB,oI,cI,h1,hk,newRow,newObj,nj]
  .simp only[];split
   .rename_i h0;subst h0;exact .emp
   refine .row hφ (bT _) ?_ ⟨el,?_⟩
   .have:n<=n*sz:=Nat.le_mul_of_pos_right _ (by omega);unfold maxLen;omega
   .unfold rF;simp[hlen]
 .cases I
end
theorem qP.wren {φ:PM} {E:Nat->Prop} {h:HF} {w w':World} (r:qP φ E h w) {id nx k:Nat} {b b':wK} {ob:Obj} (hb:h id=af b) (hk:φ id=af k) (hnx:φ nx=ah) (U:EP w w' k ob) (hob:js φ (tot E φ h) w b' ob) (nw:HF) (hnw:nw nx=af b') (hnid:nw id=ah):
 ∃ φ',φ' nx=af k/\iY φ φ' h (eO h [nx,id] nw) w w'/\(∀ i k,φ' i=af k->φ i=af k\/i∈[nx])/\qP φ' E (eO h [nx,id] nw) w':=by
 have hne:nx≠id:=λe=>by rw[e,hk] at hnx;cases hnx
 have hsub:∀ i x,eO h [nx,id] nw i=af x->i≠nx->h i=af x/\i≠id:=λi x Y hi=>by
  unfold eO at Y;by_cases hd:i=id
  .subst hd;simp[hnid] at Y
  .simp[hi,hd] at Y;exact⟨Y,hd⟩
 have hφ:∀ i,i≠nx->(if i=nx then af k else φ i)=φ i:=λi hi=>by simp[hi]
 have m:iY φ (λi=>if i=nx then af k else φ i) h (eO h [nx,id] nw) w w':=by
  refine ⟨λi k' M=>?_,⟨U.os,U.tape,U.output,by rw[U.size];exact bT _,λj hj ho=>?_,λj _=>U.shp j⟩,?_⟩
  .have:i≠nx:=λe=>by rw[e,hnx] at M;cases M
   rw[hφ i this];exact M
  .exact U.other j (λe=>ho (e▸⟨id,b,hb,hk⟩))
  .rintro j hj ⟨i,x,h1,h2⟩;by_cases hi:i=nx
   .simp[hi] at h2;subst h2;exact⟨id,b,hb,hk⟩
   .have Z:φ i=af j:=by simpa[hi] using h2
    exact⟨i,x,(hsub i x h1 hi).1,Z⟩
 refine ⟨_,by simp,m,λi k' M=>?_,⟨λi j x y kk hi hj h1 h2=>?_,λi x hi=>?_,λk hk=>dy (r.el k hk) m.ext.size,λg cells hg=>m.keepF (r.gl g cells hg)⟩⟩
 .by_cases hi:i=nx
  .right;simp[hi]
  .left;rw[hφ i hi] at M;exact M
 .by_cases I:i=nx
  .by_cases J:j=nx
   .rw[I,J]
   .exfalso;rw[hφ j J] at h2;simp[I] at h1;subst h1;obtain⟨q1,q2⟩:=hsub j y hj J;exact q2 (r.inj j id y b k q1 hb h2 hk)
  .rw[hφ i I] at h1;obtain⟨p1,p2⟩:=hsub i x hi I;by_cases J:j=nx
   .exfalso;simp[J] at h2;subst h2;exact p2 (r.inj i id x b k p1 hb h1 hk)
   .rw[hφ j J] at h2;exact r.inj i j x y kk p1 (hsub j y hj J).1 h1 h2
 .by_cases I:i=nx
  .subst I;have:x=b':=by unfold eO at hi;simp[hnw] at hi;exact hi.symm
   subst this;obtain⟨k',h1,h2,_⟩:=r.at_ id b hb;rw[hk] at h1;cases h1;exact⟨k,by simp,h2,ob,U.at_,hob.mono λ_ _ h=>m.keep h⟩
  .obtain⟨p1,p2⟩:=hsub i x hi I;obtain⟨k',h1,h2,ob',Z,h4⟩:=r.at_ i x p1;have hne':k'≠k:=λe=>p2 (r.inj i id x b k p1 hb (e▸h1) hk)
   exact⟨k',by rw[hφ i I];exact h1,h2,ob',by rw[U.other k' hne'];exact Z,h4.mono λ_ _ h=>m.keep h⟩
theorem qP.cs {φ:PM} {E:Nat->Prop} {h':HF} {w:World} (hrep:qP φ E h' w) {id k:Nat} {b:wK} (hb:h' id=af b) (hk:φ id=af k) (hc:b.c.isCells=ai):
 ∃ arr,w.heap[k]? =af (.cells arr b.ty (0,0))/\Cs φ (tot E φ h') w b.c.toMx (arr.toList.take b.c.toMx.length)/\b.c.toMx.length<=arr.size:=by
 obtain⟨k',h1,_,h2⟩:=hrep.at_ id b hb;rw[hk] at h1;cases h1;obtain⟨arr,Z,M,J⟩:=h2.cells hc;rw[BC.len_toMx hc] at M;refine ⟨arr,Z,⟨by simp;omega,λx I=>?_,λj x v I hv=>?_⟩,M⟩
 .obtain⟨j,hj⟩:=eV I;exact (J j x (by rw[BC.get_toMx hc];exact hj)).1
 .obtain⟨_,u,Y,U⟩:=J j x (by rw[BC.get_toMx hc];exact I);rw[cN] at hv;split at hv
  .rw[cH,Y] at hv;cases hv;exact U
  .cases hv
section
variable {P:Program} {o:Oper} {e:zA} {h:nP} {nx:Nat} {R:BR}
theorem MH {t:TypeId} {b:Nat} (hb:EI P t=af b):∃ i,P.info? t=af i/\i.bytes=b:=by
 unfold EI at hb;cases hi:P.info? t with
 |none=>rw[hi] at hb;cases hb
 |some i=>rw[hi] at hb;simp at hb;exact⟨i,rfl,hb⟩
theorem HH {n b:Nat} (h:bd n b=ai):n<=1099511627776/\n*b<=1099511627776:=by
 simp only[bd,av] at h;exact⟨a_ h.1,a_ h.2⟩
theorem YC {n:Int} (h1: -9223372036854775808<=n) (h2:n<=9223372036854775807):oL .i64 n=n:=by
 rw[<- yi];have:(c5 (-9223372036854775808) n&&c5 n 9223372036854775807)=ai:=by simp[c5,h1,h2]
 simp only[G0,LL,this,bD]
theorem ahb {t el:TypeId} {sz bytes:Nat} {z:List Value} {l c:Operand} (ho:o.op= .makeSlice t l c) (hu:P.underlying t=af (.slice el)) (hz:sO P el=af z) (hs:fg P el=af sz) (hb:EI P el=af bytes) (hc:mr z=ai) (hl:z.length=sz) (hsz:sz≠0)
 (J:eL (.mksl el sz bytes z l c) e h nx=af R):gK P o e.get h.get R.eff:=by
 simp only[eL] at J;split at J
 .rename_i k1 n k2 m I hy;split at J
  .rename_i hcd;simp only[c5,av,bR] at hcd;obtain⟨⟨h0,h1⟩,h2⟩:=hcd;obtain⟨r1,r2⟩:=HH h2;simp only[ak] at J;subst J;refine gK.makes λφ E h' w a _ hp _=>?_
   have e1:=fm (hp l _ (by rw[ho];simp[Op.operands]) I);have e2:=fm (hp c _ (by rw[ho];simp[Op.operands]) hy);obtain⟨v,z1,z2,_⟩:=tu hz w;obtain⟨i,i1,i2⟩:=MH hb;have s1:=gr hs w;have w1:oL .i64 n=n:=YC (by omega) (by omega);have w2:oL .i64 m=m:=YC (by omega) (by omega);have hbm:(bytes:Int)*m=((m.toNat*bytes:Nat):Int):=by
    rw[Int.natCast_mul,F8 (by omega),Int.mul_comm]
   have t1:¬(m<0\/(281474976710656:Int)<bytes*m):=by rw[hbm];omega
   have hr:¬(m.toNat*bytes>roomBytes):=by unfold roomBytes;omega
   have hn0:m.toNat*sz=0->m.toNat=0:=λh=>(Nat.mul_eq_zero.1 h).resolve_right hsz
   let cells:Array Value:=(x_ (m.toNat*sz)).map (λi=>v.cells[i%v.cells.size]!)
   refine ⟨.slice (af ⟨w.heap.size,0,ah⟩) n.toNat m.toNat,{w with heap:=w.heap.push (.cells cells el)},.cells cells el (0,0),?_,qS w _,?_,λφ' O hφ=>?_⟩
   .unfold execOp;rw[ho];by_cases U:m.toNat*sz=0
    .obtain rfl:m=0:=by have:=hn0 U;omega
     obtain rfl:n=0:=by omega
     simp[Instr.makeSlice,run_underlying hu,e1,e2,asInt,asIntOf,typeInfo,i1,w1,askRoom,s1,newRow,newObj,nj,cells];rw[show x_ 0=#[] from rfl];simp
    .simp[Instr.makeSlice,run_underlying hu,e1,e2,asInt,asIntOf,typeInfo,i1,i2,w1,w2,t1,show ¬n<0 by omega,show ¬m<n by omega,askRoom,hr,s1,U,z1,newRow,newObj,nj,cells]
   .have cs:=Cs.repl (φ:=φ) (O:=tot E φ h') (w:=w) z2 m.toNat sz hl hsz hc;have hle:n.toNat<=m.toNat:=by omega
    have hlen:n.toNat*sz<=m.toNat*sz:=cG _ hle;refine pV rfl (by simp[BC.toMx,mB,hl,cells];exact hlen) λj x I=>?_
    simp only[BC.toMx,bc] at I;have hj:j<n.toNat*z.length:=by
     rcases bZ j (n.toNat*z.length) with h|h
     .exact h
     .rw[bQ (by rw[mB];exact h)] at I;cases I
    have Z:j<m.toNat*z.length:=by rw[hl] at hj ⊢;omega
    rw[Cb z _ j hj,<-Cb z m.toNat j Z] at I;have M:((repl z m.toNat).map AV.f)[j]? =af x:=by rw[bc];exact I
    have Y:j<cells.toList.length:=by simp[cells];rw[<- hl];exact Z
    exact⟨cs.2.1 x (ba M),cells.toList[j],by rw[<- cH];exact aA Y,cs.2.2 j x _ M (aA Y)⟩
   .refine .row hφ (by omega) (by unfold maxLen;omega) ⟨el,?_⟩;unfold rF;simp[cells]
  .cases J
 .cases J
theorem adz {t:TypeId} {x y:Operand} {sz:Nat} (Y:o.op= .store t x y) (hs:fg P t=af sz) (I:eL (.store sz x y) e h nx=af R):gK P o e.get h.get R.eff:=by
 simp only[eL] at I;split at I
 .rename_i p v hx hy;unfold JX at I;split at I
  .rename_i id off;split at I
   .rename_i b hb;split at I
    .rename_i hl;split at I
     .rename_i c' hput;simp only[ak] at I;subst I;unfold BC.put at hput;split at hput
      .rename_i hcc;simp only[av] at hcc;obtain⟨⟨c1,c2⟩,c3⟩:=hcc;have c2:=a_ c2;have hl:v.cs.length=sz:=by simpa using hl
       have J:c'.toMx=splice b.c.toMx off v.cs/\c'.isCells=ai:=by
        split at hput
        .rename_i l ys hbl hys;simp only[ak] at hput;subst hput;refine ⟨?_,rfl⟩;have hv:=pG hys;rw[hv,hbl];simp only[BC.toMx];unfold splice;simp[kC,List.map_drop]
        .simp only[ak] at hput;subst hput;exact⟨rfl,rfl⟩
       refine gK.writes hb λφ E h' w a hrd Z hp hrep=>?_
       have hr:=T7 (hp y _ (by rw[Y];simp[Op.operands]) hy) c3;have hpx:=hp x _ (by rw[Y];simp[Op.operands]) hx;generalize hz:a.eval x=pv at hpx;cases hpx with
       |@ptr _ _ k hφ=>
        obtain⟨arr,g1,g2,g3⟩:=hrep.cs Z hφ c1;have hvl:(a.eval y).cells.toList.length=sz:=by rw[hr.1];exact hl
        rw[BC.len_toMx c1] at c2;have hst:=run_storeCells_at (P:=P) k off b.ty (a.eval y).cells.toList 0 arr w g1 (by rw[hvl];omega) hr.one
        let arr':Array Value:=(arr.toList.take off++(a.eval y).cells.toList++arr.toList.drop (off+sz)).toArray
        have hsize:arr'.size=arr.size:=by simp only[arr',sV,bt,bE,mw,iu,hvl];omega
        refine ⟨.skip,w.setRow k arr',k,.cells arr' b.ty (0,0),?_,hφ,EP.setRow g1 hsize,?_,undef,.inr ⟨rfl,rfl⟩,.f (.raw _)⟩
        .have s1:=gr hs w;have hvs:(a.eval y).cells.size=sz:=by simpa using hvl
         simp only[c8,hvl] at hst;unfold execOp;rw[Y];simp[Instr.storeAt,hz,Instr.sureAddr,storeVar,s1,hvs,hst,arr']
        .refine pV J.2 (by rw[J.1,ol (by omega),hsize];exact g3) λj q hq=>?_
         rw[J.1,mz (by omega)] at hq;have ha':arr'[j]? =if j<off then arr.toList[j]? else if j<off+sz then (a.eval y).cells.toList[j-off]? else arr.toList[j]? :=by
          have:=mz (l:=arr.toList) (vs:=(a.eval y).cells.toList) (off:=off) (by have:=hvl;simp only[iu] at this ⊢;omega) j;unfold splice at this;rw[hvl] at this;simp only[arr',ki];exact this
         have old:b.c.toMx[j]? =af q->q.isCell=ai/\∃ u,arr.toList[j]? =af u/\cL φ (tot E φ h') w q u:=λhq=>by
          have hj:j<b.c.toMx.length:=(bk.1 hq).1;have U:j<arr.toList.length:=by simp;omega
          refine ⟨g2.2.1 q (ba hq),arr.toList[j],aA U,g2.2.2 j q _ hq ?_⟩;rw[cN,aE hj,aA U]
         rw[ha'];by_cases h1:j<off
         .rw[aE h1] at hq ⊢;exact old hq
         .rw[aB h1] at hq ⊢;by_cases h2:j<off+sz
          .rw[aE (by omega)] at hq;rw[aE h2];have M:j-off<(a.eval y).cells.toList.length:=by omega
           exact⟨hr.2.1 q (ba hq),_,aA M,hr.2.2 _ q _ hq (aA M)⟩
          .rw[aB (by omega)] at hq;rw[aB h2];exact old hq
      .cases hput
     .cases I
    .cases I
   .cases I
  .cases I
 .cases I
end
section
variable {P:Program} {o:Oper} {e:zA} {h:nP} {nx:Nat} {R:BR}
theorem ake (A:Addr):A.add 0=A:=by cases A;simp[Addr.add]
theorem akg {t el:TypeId} {sz:Nat} {x:Operand} {lo hi mx:Option Operand} (J:o.op= .slice t x lo hi mx) (hu:P.underlying t=af (.slice el)) (hs:fg P el=af sz) (I:eL (.slc sz x lo hi mx) e h nx=af R):gK P o e.get h.get R.eff:=by
 simp only[eL] at I;split at I
 .rename_i v Y;split at I
  ·
   rename_i k k';split at I
   .rename_i hsl;rw[dx I];refine gK.reads λφ E h' w a _ hp _=>?_
    have hr:=hp x _ (by rw[J];simp[Op.operands]) Y;have U:∃ A n c,a.eval x= .slice A n c:=by
     generalize a.eval x=z at hr;obtain⟨n,hn⟩:=iK.1 hsl;unfold AV.slen at hn;split at hn
     .cases hr with
      |f hr=>cases hr with
       |nil=>exact⟨_,_,_,rfl⟩
       |sl=>exact⟨_,_,_,rfl⟩
     .cases fm hr;exact⟨_,_,_,rfl⟩
     .cases hr;exact⟨_,_,_,rfl⟩
     .cases hr;exact⟨_,_,_,rfl⟩
     .cases hr;exact⟨_,_,_,rfl⟩
     .cases hn
    obtain⟨A,n,c,U⟩:=U;have s1:=gr hs w;refine ⟨.slice A 0 0,?_,.emp⟩;unfold execOp;rw[J];have z0:∀ k,a.eval (.const (.int k 0))= .int k 0:=λ_=>rfl
    simp[pt,uq,run_underlying hu,U,jN,kr,asIntOf,s1,z0]
   .cases I
  ·
   rename_i b;split at I
   .rename_i id sz' n k j hb;split at I
    .rename_i hc;simp only[c5,av,bR,cV] at hc;obtain⟨⟨rfl,h0⟩,h1⟩:=hc;split at I
     .rename_i blk hblk;split at I
      .rename_i hcl;simp only[av] at hcl;obtain⟨hcells,hlen⟩:=hcl;have hlen:=a_ hlen;rw[BC.len_toMx hcells] at hlen;simp only[ak] at I;subst I;intro φ E h' w a g1 g2 g3 hrep g5;have hp:U4 φ E h' w a e o:=λx y Y M=>tf hrep g3 Y M
       have hb':h' id=af blk:=by rw[g1 id (by simp[BR.eff])];exact hblk
       have hr:=hp x _ (by rw[J];simp[Op.operands]) Y;have hbv:=fm (hp b _ (by rw[J];simp[Op.operands]) hb);have hnx:φ nx=ah:=g5 nx (by simp[BR.eff]);generalize U:a.eval x=z at hr;cases hr with
       |@row _ _ _ c q hφ hn hcap hsh=>
        obtain⟨arr,a1,a2,a3⟩:=hrep.cs hb' hφ hcells;have s1:=gr hs w;have hne:nx≠id:=λe=>by rw[e,hφ] at hnx;cases hnx
        have hnw1:jb [(nx,⟨blk.ty,ph (blk.c.toMx.take (j.toNat*sz'))⟩)] nx=af (⟨blk.ty,ph (blk.c.toMx.take (j.toNat*sz'))⟩:wK):=by simp[jb]
        have hnw2:jb [(nx,⟨blk.ty,ph (blk.c.toMx.take (j.toNat*sz'))⟩)] id=ah:=by
         simp only[jb];rw[aB];intro hb;exact hne (aw hb)
        have a4:=a2.take (j.toNat*sz');obtain⟨φ',p1,p2,p3,p4⟩:=hrep.wren hb' hφ hnx (w':=w) ⟨rfl,rfl,rfl,rfl,a1,λ_ _=>rfl,λ_=>rfl⟩ (b':=⟨blk.ty,ph (blk.c.toMx.take (j.toNat*sz'))⟩) (by
         obtain⟨q1,q2⟩:=nE (blk.c.toMx.take (j.toNat*sz'));refine pV q2 (by rw[q1,bE];omega) λi x Y=>?_
         rw[q1] at Y;have hi:i<((arr.toList.take blk.c.toMx.length).take (j.toNat*sz')).length:=by rw[a4.1];exact (bk.1 Y).1
         refine ⟨a4.2.1 x (ba Y),_,?_,a4.2.2 i x _ Y (aA hi)⟩;have hi':i<arr.size:=by simp at hi;omega
         simp[hi']) _ hnw1 hnw2
        have hrun:(execOp a.eval o).run P w= .ok (.value (.slice (af ⟨q,0,ah⟩) j.toNat c)) w:=by
         unfold execOp;rw[J];simp[pt,uq,run_underlying hu,U,jN,kr,asIntOf,s1,hbv,h0,show j<=c by omega,kW]
        unfold GW;rw[hrun];exact⟨_,φ',rfl,p2,p3,p4,.row p1 (by omega) hcap hsh⟩
      .cases I
     .cases I
    .cases I
   .rename_i cells n k j hb;split at I
    .rename_i hc;simp only[c5,av,bR] at hc;obtain⟨⟨h0,h1⟩,h2⟩:=hc;have h2:=a_ h2;rw[dx I];refine gK.reads λφ E h' w a _ hp _=>?_
     have hr:=hp x _ (by rw[J];simp[Op.operands]) Y;have hbv:=fm (hp b _ (by rw[J];simp[Op.operands]) hb);generalize U:a.eval x=z at hr;have s1:=gr hs w;cases hr with
     |f hr=>
      cases hr with
      |nil A c hc=>
       have hj:j=0:=by omega
       subst hj;refine ⟨.slice A 0 c,?_,by simpa using cL.f (.nil A c hc)⟩;unfold execOp;rw[J];cases A<;>simp[pt,uq,run_underlying hu,U,jN,kr,asIntOf,s1,hbv,ake]
      |sl _ _ c q off us hn hc hO hq hcl Z hr=>
       refine ⟨.slice (af ⟨q,off,ah⟩) j.toNat c,?_,.f (.sl _ _ _ _ _ us (by omega) hc hO hq (λy M=>hcl y (jg M)) (λi hi=>Z i (by rw[bE] at hi;omega)) λi y M=>?_)⟩
       .unfold execOp;rw[J];simp[pt,uq,run_underlying hu,U,jN,kr,asIntOf,s1,hbv,h0,show j<=c by omega,kW]
       .rw[cN] at M;split at M
        .exact hr i y M
        .cases M
    .cases I
   .cases I
  ·
   rename_i b;split at I
   .rename_i id sz' n k j hb;split at I
    .rename_i hc;simp only[c5,fO,av,bR,cV] at hc;obtain⟨⟨rfl,h0⟩,h1⟩:=hc;rw[dx I];refine gK.reads λφ E h' w a _ hp _=>?_
     have hr:=hp x _ (by rw[J];simp[Op.operands]) Y;have hbv:=fm (hp b _ (by rw[J];simp[Op.operands]) hb);generalize U:a.eval x=z at hr;cases hr with
     |@row _ _ _ c q hφ hn hc hsh=>
      have s1:=gr hs w;refine ⟨.slice (af ⟨q,0+j.toNat*sz',ah⟩) (n-j.toNat) (c-j.toNat),?_,?_⟩
      .unfold execOp;rw[J];simp[pt,uq,run_underlying hu,U,jN,kr,asIntOf,s1,hbv,h0,show j<=n by omega,show ¬c=j.toNat by omega,kW]
      .rw[bN];exact .sl hφ (by omega) (by omega)
    .cases I
   .rename_i cells n k j hb;split at I
    .rename_i hc;simp only[c5,av,bR] at hc;obtain⟨⟨h0,h1⟩,h2⟩:=hc;have h2:=a_ h2;rw[dx I];refine gK.reads λφ E h' w a _ hp _=>?_
     have hr:=hp x _ (by rw[J];simp[Op.operands]) Y;have hbv:=fm (hp b _ (by rw[J];simp[Op.operands]) hb);generalize U:a.eval x=z at hr;have s1:=gr hs w;cases hr with
     |f hr=>
      cases hr with
      |nil A c hc=>
       have hj:j=0:=by omega
       subst hj;have hex:∃ A',(execOp a.eval o).run P w= .ok (.value (.slice A' 0 c)) w:=by
        unfold execOp;rw[J];cases A with
        |none=>exact⟨ah,by simp[pt,uq,run_underlying hu,U,jN,kr,asIntOf,s1,hbv]⟩
        |some A=>exact⟨af A,by simp[pt,uq,run_underlying hu,U,jN,kr,asIntOf,s1,hbv,ake]⟩
       obtain⟨A',hex⟩:=hex;exact⟨.slice A' 0 c,hex,by simpa using cL.f (.nil A' c hc)⟩
      |sl _ _ c q off us hn hc hO hq hcl Z hr=>
       by_cases hcj:c=j.toNat
       .refine ⟨.slice (af ⟨q,off,ah⟩) 0 0,?_,?_⟩
        .unfold execOp;rw[J];simp[pt,uq,run_underlying hu,U,jN,kr,asIntOf,s1,hbv,h0,show j<=n by omega,hcj,show n-j.toNat=0 by omega,kW]
        .rw[show n-j.toNat=0 by omega];simpa using cL.f (.nil (af ⟨q,off,ah⟩) 0 (by unfold maxLen;omega))
       .refine ⟨.slice (af ⟨q,off+j.toNat*sz,ah⟩) (n-j.toNat) (c-j.toNat),?_,.f (.sl _ _ _ _ _ (λi=>us (j.toNat*sz+i)) (by omega) (by omega) hO hq (λy M=>hcl y (List.mem_of_mem_drop (jg M))) (λi hi=>?_) λi y M=>?_)⟩
        .unfold execOp;rw[J];simp[pt,uq,run_underlying hu,U,jN,kr,asIntOf,s1,hbv,h0,show j<=n by omega,hcj,kW]
        .rw[sA];refine Z _ ?_;rw[bE,mw] at hi;omega
        .rw[cN] at M;split at M
         .rw[gV] at M;exact hr _ y M
         .cases M
    .cases I
   .cases I
  .cases I
 .cases I
theorem YW {sz:Nat} {x:AV} {src:List AV} {m:Nat} {rd:List Nat} (hrow:x.row? h sz=af (src,m,rd)) {φ:PM} {E:Nat->Prop} {h':HF} {w:World} (hrd:∀ i∈rd,h' i=h.get i) (hrep:qP φ E h' w) {v:Value} (hr:cL φ (tot E φ h') w x v):
 ∃ A c vs,v= .slice A m c/\Cs φ (tot E φ h') w src vs/\vs.length=m*sz/\(A=ah->vs=[])/\(∀ J,A=af J->∀ (j:Nat) u,vs[j]? =af u->w.cell? (J.add j)=af u):=by
 have emp:∀ A c,v= .slice A 0 c->src=[]->m=0->∃ A c vs,v= .slice A m c/\Cs φ (tot E φ h') w src vs/\vs.length=m*sz/\(A=ah->vs=[])/\(∀ J,A=af J->∀ (j:Nat) u,vs[j]? =af u->w.cell? (J.add j)=af u):=by
  rintro A c rfl rfl rfl;exact⟨A,c,[],rfl,⟨rfl,(by intro x I;cases I),(by intro j x v I;simp at I)⟩,by simp,λ_=>rfl,by intro J _ j u hu;simp at hu⟩
 have own:∀ (id off n c k:Nat) (b:wK),φ id=af k->h' id=af b->b.c.isCells=ai->off+n*sz<=b.c.len->v= .slice (af ⟨k,off,ah⟩) n c->src=(b.c.toMx.drop off).take (n*sz)->m=n->
  ∃ A c vs,v= .slice A m c/\Cs φ (tot E φ h') w src vs/\vs.length=m*sz/\(A=ah->vs=[])/\(∀ J,A=af J->∀ (j:Nat) u,vs[j]? =af u->w.cell? (J.add j)=af u):=by
  rintro id off n c k b hφ hb hc hle rfl rfl rfl;obtain⟨arr,g1,Z,g3⟩:=hrep.cs hb hφ hc;rw[BC.len_toMx hc] at hle;refine ⟨_,c,((arr.toList.take b.c.toMx.length).drop off).take (m*sz),rfl,(Z.drop off).take _,?_,(λh=>by cases h),?_⟩
  .simp;omega
  .intro J had j u hu;cases had;rw[kW];rw[cN] at hu;split at hu
   .rw[gV,cN] at hu;split at hu
    .rw[cH] at hu;simp[MT,g1,hu]
    .cases hu
   .cases hu
 unfold AV.row? at hrow;split at hrow
 .rename_i cells n;split at hrow
  .rename_i hle;have hle:=a_ hle;simp only[ak,aD] at hrow;obtain⟨rfl,rfl,rfl⟩:=hrow;cases hr with
   |f hr=>
    cases hr with
    |nil a c hc=>exact emp a c rfl (by simp) rfl
    |sl _ _ c b off us hn hc hO hb hcl hu hr=>
     refine ⟨_,c,(eS (n*sz)).map us,rfl,⟨by simp;omega,λx I=>?_,λj x u I M=>?_⟩,by simp,(λh=>by cases h),?_⟩
     .obtain⟨y,Y,rfl⟩:=dk.1 I;exact hcl y (jg Y)
     .obtain⟨rfl,hj⟩:=xi us _ _ _ M;rw[bc,cN,aE hj] at I;cases hq:cells[j]? with
      |none=>rw[hq] at I;cases I
      |some q=>rw[hq] at I;simp at I;subst I;exact .f (hr j q hq)
     .intro J had j u M;cases had;obtain⟨rfl,hj⟩:=xi us _ _ _ M;rw[kW];exact hu j (by omega)
  .cases hrow
 .simp only[ak,aD] at hrow;obtain⟨rfl,rfl,rfl⟩:=hrow;exact emp ah 0 (fm hr) rfl rfl
 .simp only[ak,aD] at hrow;obtain⟨rfl,rfl,rfl⟩:=hrow;cases hr with
  |@emp a=>exact emp a 0 rfl rfl rfl
 .rename_i id sz' n;split at hrow
  .rename_i hsz;split at hrow
   .rename_i b hb;split at hrow
    .rename_i hc;simp only[av] at hc;simp only[ak,aD] at hrow;obtain⟨rfl,rfl,rfl⟩:=hrow;cases hr with
     |@row _ _ _ c k hφ hn U hsh=>
      exact own id 0 n c k b hφ (by rw[hrd id (by simp)];exact hb) hc.1 (by rw[bN];exact a_ hc.2) rfl (by simp) rfl
    .cases hrow
   .cases hrow
  .cases hrow
 .rename_i id off n;split at hrow
  .rename_i b hb;split at hrow
   .rename_i hc;simp only[av] at hc;simp only[ak,aD] at hrow;obtain⟨rfl,rfl,rfl⟩:=hrow;cases hr with
    |@sl _ _ _ c k hφ hn U=>exact own id off n c k b hφ (by rw[hrd id (by simp)];exact hb) hc.1 (a_ hc.2) rfl rfl rfl
   .cases hrow
  .cases hrow
 .cases hrow
theorem abz {sz:Nat} {x:AV} {src:List AV} {m:Nat} {rd:List Nat} (hrow:x.row? h sz=af (src,m,rd)) {φ:PM} {E:Nat->Prop} {h':HF} {w:World} (hrd:∀ i∈rd,h' i=h.get i) (hrep:qP φ E h' w) {v:Value} (hr:cL φ (tot E φ h') w x v) {I el:TypeId} (hk:P.underlying I=af (.slice el)):
 ∃ vs,Src P sz I v m vs w/\Cs φ (tot E φ h') w src vs:=by
 obtain⟨A,c,vs,rfl,h1,h2,U,M⟩:=YW hrow hrd hrep hr;refine ⟨vs,?_,h1⟩;cases A with
 |none=>
  have:=U rfl;subst this;have hm:m*sz=0:=by simpa using h2.symm
  refine ⟨.inl ⟨el,hk⟩,λ_=>rfl,run_firstCells_none w sz m m c,run_firstCells_none w.drew sz m m c,by simp[hm],λ_ h=>by cases h⟩
 |some J=>exact Src.ofSlice w hk J m c vs h2 (M J rfl) h1.one
theorem agh {x:Nat}:∀ {l:List Nat},WS x l=ai↔x∈l
 |[]=>by simp[WS]
 |y::r=>by
  simp only[WS,iS,agh (l:=r),bi];constructor
  .rintro (h|h)
   .exact .inl (aw h).symm
   .exact .inr h
  .rintro (h|h)
   .subst h;exact .inl (rG x)
   .exact .inr h
theorem ahh {t u el el':TypeId} {d x:Operand} {sz:Nat} (ho:o.op= .call {callee:=.builtin .copy,args:=#[d,x],argTypes:=#[t,u]}) (hu:P.underlying t=af (.slice el)) (hu':P.underlying u=af (.slice el')) (hs:fg P el=af sz) (J:eL (.copy sz d x) e h nx=af R):gK P o e.get h.get R.eff:=by
 simp only[eL] at J;split at J
 .rename_i id sz' n y hd hx;split at J
  .rename_i blk src m rd hblk hrow;split at J
   .rename_i hc;simp only[av,cV,dN] at hc;obtain⟨⟨rfl,hmem⟩,hlen⟩:=hc;split at J
    .rename_i c' hput;simp only[ak] at J;subst J;unfold BC.put at hput;split at hput
     .rename_i hcc;simp only[av] at hcc;obtain⟨⟨c1,Z⟩,c3⟩:=hcc;have Z:=a_ Z;rw[bN] at Z;have M:c'.toMx=splice blk.c.toMx 0 (src.take (iQ m n*sz'))/\c'.isCells=ai:=by
       split at hput
       .rename_i l ys hbl hys;simp only[ak] at hput;subst hput;refine ⟨?_,rfl⟩;have hv:=pG hys;rw[hv,hbl];simp only[BC.toMx];unfold splice;simp[kC,List.map_drop]
       .simp only[ak] at hput;subst hput;exact⟨rfl,rfl⟩
      refine gK.writes hblk λφ E h' w a hrd hb' hp hrep=>?_
      have hpd:=hp d _ (by rw[ho];simp[Op.operands,eM]) hd;have hpx:=hp x _ (by rw[ho];simp[Op.operands,eM]) hx;obtain⟨A,c,vs,hv,q1,q2,q3,q4⟩:=YW hrow (λi hi=>hrd i (by simp[hi])) hrep hpx;generalize hz:a.eval d=pv at hpd;cases hpd with
      |@row _ _ _ cap k hφ hn hcap hsh=>
       obtain⟨arr,g1,g2,g3⟩:=hrep.cs hb' hφ c1;rw[BC.len_toMx c1] at Z;have hmn:iQ m n<=m:=Nat.min_le_left _ _;have hle:iQ m n*sz'<=m*sz':=cG _ hmn
       let I:=vs.take (iQ m n*sz')
       have hnl:I.length=iQ m n*sz':=by simp only[I,bE,q2];omega
       have hsl:(src.take (iQ m n*sz')).length=iQ m n*sz':=by rw[bE,<-q1.1,q2];omega
       have csn:=q1.take (iQ m n*sz');rw[hsl] at Z;have hst:=run_storeCells_at (P:=P) k 0 blk.ty I 0 arr w g1 (by rw[hnl];omega) csn.one
       let arr':Array Value:=(arr.toList.take 0++I++arr.toList.drop (0+iQ m n*sz')).toArray
       have hsize:arr'.size=arr.size:=by simp only[arr',sV,bt,bE,mw,iu,hnl];omega
       have hfc:(Kn sz' (iQ m n) (.slice A m c)).run P w= .ok I.toArray w:=by
        cases A with
        |none=>
         have:I=[]:=by simp[I,q3 rfl]
         rw[this];exact run_firstCells_none w sz' _ _ _
        |some ad=>exact run_firstCells_some w sz' _ ad m c I hnl (λj u hu=>q4 ad rfl j u (by
          simp only[I,cN] at hu;split at hu
          .exact hu
          .cases hu))
       refine ⟨.value (.int .i64 (iQ m n)),w.setRow k arr',k,.cells arr' blk.ty (0,0),?_,hφ,EP.setRow g1 hsize,?_,_,.inl rfl,.f (.raw _)⟩
       .have s1:=gr hs w;simp only[c8,hnl] at hst;unfold execOp;rw[ho];simp[resolve,invoke,builtin,Builtin.copy_,run_underlying hu,hz,hv,Builtin.lenOf,s1,hfc,hst,goInt,arr']
       .refine pV M.2 (by rw[M.1,ol (by rw[hsl];omega),hsize];exact g3) λj q hq=>?_
        rw[M.1,mz (by rw[hsl];omega)] at hq;have ha':arr'[j]? =if j<0 then arr.toList[j]? else if j<0+I.length then I[j-0]? else arr.toList[j]? :=by
         have:=mz (l:=arr.toList) (vs:=I) (off:=0) (by simp only[iu];omega) j;unfold splice at this;simp only[arr',ki];rw[<- this,hnl]
        rw[ha',aB (by omega)];rw[aB (by omega),hsl] at hq;rw[hnl];by_cases h2:j<0+iQ m n*sz'
        .rw[aE h2] at hq ⊢;have U:j-0<I.length:=by rw[hnl];omega
         exact⟨csn.2.1 q (ba hq),_,aA U,csn.2.2 _ q _ hq (aA U)⟩
        .rw[aB h2] at hq ⊢;have hj:j<blk.c.toMx.length:=(bk.1 hq).1;have Y:j<arr.toList.length:=by simp;omega
         refine ⟨g2.2.1 q (ba hq),arr.toList[j],aA Y,g2.2.2 j q _ hq ?_⟩;rw[cN,aE hj,aA Y]
     .cases hput
    .cases J
   .cases J
  .cases J
 .cases J
theorem akv {t el:TypeId} {sz:Nat} {z:List Value} {x:Operand} (ho:o.op= .call {callee:=.builtin .clear,args:=#[x],argTypes:=#[t]}) (hu:P.underlying t=af (.slice el)) (hz:sO P el=af z) (hc:mr z=ai) (hl:z.length=sz) (hsz:sz≠0) (J:eL (.clr sz z x) e h nx=af R):gK P o e.get h.get R.eff:=by
 simp only[eL] at J;split at J
 .rename_i id off n hx;split at J
  .rename_i blk hblk;split at J
   .rename_i hn;have hn:=a_ hn;obtain⟨m,rfl⟩:∃ m,n=m+1:=⟨n-1,by omega⟩
    split at J
    .rename_i c' hput;simp only[ak] at J;subst J;unfold BC.put at hput;split at hput
     .rename_i hcc;simp only[av] at hcc;obtain⟨⟨c1,c2⟩,c3⟩:=hcc;have c2:=a_ c2;have hsrc:((repl z (m+1)).map AV.f).length=(m+1)*sz:=by rw[cf,mB,hl]
      rw[hsrc] at c2;have U:c'.toMx=splice blk.c.toMx off ((repl z (m+1)).map AV.f)/\c'.isCells=ai:=by
       split at hput
       .rename_i l ys hbl hys;simp only[ak] at hput;subst hput;refine ⟨?_,rfl⟩;have hv:=pG hys;rw[hv,hbl];simp only[BC.toMx];unfold splice;simp[kC,List.map_drop]
       .simp only[ak] at hput;subst hput;exact⟨rfl,rfl⟩
      refine gK.writes hblk λφ E h' w a hrd hb' hp hrep=>?_
      have hpx:=hp x _ (by rw[ho];simp[Op.operands,eM]) hx;generalize hzv:a.eval x=pv at hpx;cases hpx with
      |@sl _ _ _ cap k hφ hn2 hcap=>
       obtain⟨arr,g1,Z,g3⟩:=hrep.cs hb' hφ c1;rw[BC.len_toMx c1] at c2;obtain⟨v,z1,z2,_⟩:=tu hz w;have csn:=Cs.repl (φ:=φ) (O:=tot E φ h') (w:=w) z2 (m+1) sz hl hsz hc
       let M:=(lw v.cells (m+1)).toList
       have hvs:v.cells.size=sz:=by rw[<- hl,<-z2];simp
       have hns:M=((x_ ((m+1)*sz)).map (λi=>v.cells[i%v.cells.size]!)).toList:=by simp only[M,lw,hvs]
       have hnl:M.length=(m+1)*sz:=by rw[hns];simp
       rw[<- hns] at csn;have hst:=run_storeCells_at (P:=P) k off blk.ty M 0 arr w g1 (by rw[hnl];omega) csn.one
       let arr':Array Value:=(arr.toList.take (off+0)++M++arr.toList.drop (off+0+M.length)).toArray
       have hsize:arr'.size=arr.size:=by simp only[arr',sV,bt,bE,mw,iu,hnl];omega
       refine ⟨.value (.tuple #[]),w.setRow k arr',k,.cells arr' blk.ty (0,0),?_,hφ,EP.setRow g1 hsize,?_,_,.inl rfl,.tup (vs:=[]) rfl λj y v hy=>by simp at hy⟩
       .unfold execOp;rw[ho];have hst2:(storeCells ⟨k,off,ah⟩ (lw v.cells (m+1)).toList).run P w= .ok () (w.setRow k arr'):=hst;simp[resolve,invoke,builtin,Builtin.clear_,run_underlying hu,hzv,z1,hst2]
       .refine pV U.2 (by rw[U.1,ol (by rw[hsrc];omega),hsize];exact g3) λj q hq=>?_
        rw[U.1,mz (by rw[hsrc];omega)] at hq;have ha':arr'[j]? =if j<off then arr.toList[j]? else if j<off+M.length then M[j-off]? else arr.toList[j]? :=by
         have:=mz (l:=arr.toList) (vs:=M) (off:=off) (by simp only[iu];omega) j;unfold splice at this;simp only[arr',ki,c8];rw[<- this]
        rw[ha'];rw[hsrc] at hq;rw[hnl];by_cases h1:j<off
        .rw[aE h1] at hq ⊢;have hj:j<blk.c.toMx.length:=(bk.1 hq).1;have I:j<arr.toList.length:=by simp;omega
         refine ⟨Z.2.1 q (ba hq),arr.toList[j],aA I,Z.2.2 j q _ hq ?_⟩;rw[cN,aE hj,aA I]
        rw[aB h1] at hq ⊢;by_cases h2:j<off+(m+1)*sz
        .rw[aE h2] at hq ⊢;have Y:j-off<M.length:=by rw[hnl];omega
         exact⟨csn.2.1 q (ba hq),_,aA Y,csn.2.2 _ q _ hq (aA Y)⟩
        .rw[aB h2] at hq ⊢;have hj:j<blk.c.toMx.length:=(bk.1 hq).1;have I:j<arr.toList.length:=by simp;omega
         refine ⟨Z.2.1 q (ba hq),arr.toList[j],aA I,Z.2.2 j q _ hq ?_⟩;rw[cN,aE hj,aA I]
     .cases hput
    .cases J
   .cases J
  .cases J
 .cases J
end
theorem LM (w:World) (ob:Obj):RN w (w.drew.alloc ob) ob:=RN.drawn (w.drawn+1) (qS {w with drawn:=w.drawn+1} ob)
section
variable {P:Program} {o:Oper} {e:zA} {h:nP} {nx:Nat} {R:BR}
theorem Hp {v:Value} {z:List Value} {sz:Nat} (hv:v.cells.toList=z) (hl:z.length=sz) (n:Nat):(lw v.cells n).size=n*sz:=by
 have:v.cells.size=sz:=by rw[<- hl,<-hv];simp
 simp[lw,this]
theorem RG {t u el:TypeId} {s x:Operand} {i:TypeInfo} {z:List Value} (ho:o.op= .call {callee:=.builtin .append,args:=#[s,x],argTypes:=#[t,u]}) (hu:P.underlying t=af (.slice el)) (U:P.info? el=af i) (hz:sO P el=af z) (hzl:z.length=i.size)
 {φ:PM} {E:Nat->Prop} {h':HF} {w:World} {a:Act} (hrep:qP φ E h' w) (hnx:φ nx=ah) {A:Option Addr} {n cap m:Nat} {olds vs:List Value} {oldA src:List AV} (hsl:a.eval s= .slice A n cap)
 (hold:(Kn i.size n (.slice A n cap)).run P w.drew= .ok olds.toArray w.drew) (csold:Cs φ (tot E φ h') w oldA olds) (hol:olds.length=n*i.size) (hsrc:Src P i.size u (a.eval x) m vs w) (hcs:Cs φ (tot E φ h') w src vs)
 (hg:cap<n+m) (r1:n+m<=1099511627776) (r2:(n+m)*i.bytes<=1099511627776) (del:List Nat) (hdel:∀ j∈del,j≠nx):
 o.wp P a w (λa' w'=>∃ v φ',a'=a.put o.dst v/\iY φ φ' h' (eO h' (nx::del) (jb [(nx,⟨el,ph (oldA++src)⟩)])) w w'/\(∀ i k,φ' i=af k->φ i=af k\/i∈[nx])/\
  qP φ' E (eO h' (nx::del) (jb [(nx,⟨el,ph (oldA++src)⟩)])) w'/\cL φ' (tot E φ' (eO h' (nx::del) (jb [(nx,⟨el,ph (oldA++src)⟩)]))) w' (.row nx i.size (n+m)) v) (λ_ _ _=>False):=by
 obtain⟨J,z1,Z,i',I,Y⟩:=tu hz w;rw[U] at I;cases I;have hfb:=growslice_fits (need:=n+m) (old:=cap) (bytes:=i.bytes) hg (by omega);have hrun:=run_append_grow_src w t u o.type el i J hu U Y A n cap olds hold (a.eval x) m vs hsrc hg (by omega) hfb;have hgc:=grownCap_ge w (n+m) cap el;have hgm:=grownCap_le_maxLen w (n+m) cap el (by unfold maxLen;omega);generalize grownCap w (n+m) cap el=Gc at hrun hgc hgm;have cs:=csold.append hcs;have hnl:=hsrc.newsLen;obtain⟨φ',p1,p2,p3,p4⟩:=hrep.wnew hnx (LM w _) (b:=⟨el,ph (oldA++src)⟩) (ob:=.cells ((olds++vs).toArray++lw J.cells (Gc-(n+m))) el (0,0)) (by
  obtain⟨M,q2⟩:=nE (oldA++src);refine pV q2 (by rw[M,<-cs.1];simp) λj q hq=>?_
  rw[M] at hq;have hj:j<(olds++vs).length:=by rw[cs.1];exact (bk.1 hq).1
  refine ⟨cs.2.1 q (ba hq),_,?_,cs.2.2 j q _ hq (aA hj)⟩;rw[Array.getElem?_append_left (by simpa using hj),ki,aA hj]) del (jb [(nx,⟨el,ph (oldA++src)⟩)]) (by simp[jb]) (λj hj hne=>by
   simp only[jb];rw[aB];intro hb;exact hne (aw hb).symm)
 have hexec:(execOp a.eval o).run P w= .ok (.value (.slice (af ⟨w.heap.size,0,ah⟩) (n+m) Gc)) (w.drew.alloc (.cells ((olds++vs).toArray++lw J.cells (Gc-(n+m))) el)):=by
  unfold execOp;rw[ho];simp only[resolve,invoke,builtin,eB,oI,cI,List.map_toArray,gh,List.map_nil,hsl,hrun]
 unfold GW;rw[hexec];refine ⟨_,φ',rfl,p2,p3,p4,.row p1 hgc hgm ⟨el,?_⟩⟩;have:=(LM w (.cells ((olds++vs).toArray++lw J.cells (Gc-(n+m))) el (0,0))).at_;unfold rF;rw[this];have hzs:=Hp Z hzl (Gc-(n+m));have e1:(n+m)*i.size+(Gc-(n+m))*i.size=Gc*i.size:=by rw[<- MV];congr 1;omega
 simp only[Array.size_append,sV,bt,hol,hnl,hzs];congr 2;rw[<- e1,MV]
theorem aky {t u el el':TypeId} {s x:Operand} {sz bytes:Nat} {z:List Value} (U:o.op= .call {callee:=.builtin .append,args:=#[s,x],argTypes:=#[t,u]}) (hu:P.underlying t=af (.slice el)) (hu':P.underlying u=af (.slice el')) (hs:fg P el=af sz) (hb:EI P el=af bytes) (hz:sO P el=af z) (hzl:z.length=sz) (hsz:sz≠0)
 (I:eL (.app el sz bytes s x) e h nx=af R):gK P o e.get h.get R.eff:=by
 obtain⟨i,Y,i2⟩:=MH hb;have i3:i.size=sz:=by unfold fg at hs;rw[Y] at hs;simpa using hs
 subst i2;subst i3;simp only[eL] at I;split at I
 .rename_i bv y hsv M;split at I
  .rename_i src m rd hrow;have common:∀ {φ:PM} {E:Nat->Prop} {h':HF} {w:World} {a:Act},(∀ i∈rd,h' i=h.get i)->U4 φ E h' w a e o->qP φ E h' w->∃ vs,Src P i.size u (a.eval x) m vs w/\Cs φ (tot E φ h') w src vs:=
    λhrd hp hrep=>abz hrow hrd hrep (hp x _ (by rw[U];simp[Op.operands,eM]) M) hu'
   have exec:∀ {w w':World} {a:Act} {v:Value},(Builtin.append_ #[t,u] o.type #[a.eval s,a.eval x]).run P w= .ok v w'->(execOp a.eval o).run P w= .ok (.value v) w':=by
    intro w w' a v hrun;unfold execOp;rw[U];simp[resolve,invoke,builtin,hrun]
   split at I
   .rename_i id sz' n;split at I
    .rename_i blk hblk;split at I
     .rename_i hc;simp only[av,cV,dN] at hc;obtain⟨⟨⟨⟨⟨rfl,hmem⟩,hcells⟩,hlen⟩,hty⟩,hroom⟩:=hc;have hlen:=a_ hlen;rw[BC.len_toMx hcells] at hlen;obtain⟨r1,r2⟩:=HH hroom;simp only[ak] at I;subst I;subst hty;intro φ E h' w a h1 h2 h3 hrep h5;have hp:U4 φ E h' w a e o:=λx y M hy=>tf hrep h3 M hy
      have hb':h' id=af blk:=by rw[h1 id (by simp[BR.eff])];exact hblk
      obtain⟨vs,hsrc,hcs⟩:=common (λi hi=>h1 i (by simp[BR.eff,hi])) hp hrep;have hpd:=hp s _ (by rw[U];simp[Op.operands,eM]) hsv;have hnx:φ nx=ah:=h5 nx (by simp[BR.eff]);have hwv:=hp s _ (by rw[U];simp[Op.operands,eM]) hsv;generalize hzv:a.eval s=pv at hpd;cases hpd with
      |@row _ _ _ cap k hφ hn hcap hsh=>
       obtain⟨arr,g1,g2,g3⟩:=hrep.cs hb' hφ hcells;have hne:nx≠id:=λe=>by rw[e,hφ] at hnx;cases hnx
       have harr:arr.size=cap*i.size:=by
        obtain⟨ty,hty⟩:=hsh;unfold rF at hty;rw[g1] at hty;simp at hty;exact hty.2
       have hnl:=hsrc.newsLen;have hnn:n*i.size<=arr.size:=by omega
       have csnew:Cs φ (tot E φ h') w (blk.c.toMx.take (n*i.size)++src) (arr.toList.take (n*i.size)++vs):=by
        have:=(g2.take (n*i.size)).append hcs
        rwa [List.take_take,sw hlen] at this
       have hnw1:jb [(nx,⟨blk.ty,ph (blk.c.toMx.take (n*i.size)++src)⟩)] nx=af ⟨blk.ty,ph (blk.c.toMx.take (n*i.size)++src)⟩:=by simp[jb]
       have hnw2:jb [(nx,⟨blk.ty,ph (blk.c.toMx.take (n*i.size)++src)⟩)] id=ah:=by
        simp only[jb];rw[aB];intro hb;exact hne (aw hb)
       by_cases hfit:n+m<=cap
       ·
        have hend:n*i.size+vs.length<=arr.size:=by
         rw[hnl,harr,<-MV];exact cG _ hfit
        have hst:=run_storeCells_at (P:=P) k (n*i.size) blk.ty vs 0 arr w g1 (by omega) hsrc.one;simp only[c8] at hst
        let arr':Array Value:=(arr.toList.take (n*i.size)++vs++arr.toList.drop (n*i.size+vs.length)).toArray
        have hsize:arr'.size=arr.size:=by simp only[arr',sV,bt,bE,mw,iu];omega
        have hrun:(Builtin.append_ #[t,u] o.type #[a.eval s,a.eval x]).run P w= .ok (.slice (af ⟨k,0,ah⟩) (n+m) cap) (w.setRow k arr'):=by
         rw[hzv];rcases hsrc.kind with ⟨e',hk⟩|hk<;>simp[Builtin.append_,run_underlying hu,run_underlying hk,sizeOf,typeInfo,Y,hsrc.len,hfit,hsrc.cells,kW,hst,arr']
        obtain⟨φ',p1,p2,p3,p4⟩:=hrep.wren hb' hφ hnx (EP.setRow g1 hsize) (b':=⟨blk.ty,ph (blk.c.toMx.take (n*i.size)++src)⟩) (by
         obtain⟨q1,q2⟩:=nE (blk.c.toMx.take (n*i.size)++src);refine pV q2 (by rw[q1,<-csnew.1,hsize];simp;omega) λj q hq=>?_
         rw[q1] at hq;have hj:j<(arr.toList.take (n*i.size)++vs).length:=by rw[csnew.1];exact (bk.1 hq).1
         refine ⟨csnew.2.1 q (ba hq),_,?_,csnew.2.2 j q _ hq (aA hj)⟩;simp only[arr',ki];rw[bO hj,aA hj]) _ hnw1 hnw2
        unfold GW;rw[exec hrun];refine ⟨_,φ',rfl,p2,p3,p4,.row p1 hfit hcap ⟨blk.ty,?_⟩⟩;unfold rF;rw[setRow_heap w k arr arr' blk.ty (0,0) g1];simp[hsize,harr]
       ·
        have hold:(Kn i.size n (.slice (af ⟨k,0,ah⟩) n cap)).run P w.drew= .ok (arr.toList.take (n*i.size)).toArray w.drew:=by
         refine run_firstCells_some w.drew i.size n _ n cap _ (by simp;omega) λj v hv=>?_
         rw[cN] at hv;split at hv
         .rw[cH] at hv;rw[kW,bN];have hcl:w.cell? ⟨k,j,ah⟩=af v:=by simp[MT,g1,hv]
          simpa using hcl
         .cases hv
        exact RG U hu Y hz hzl hrep hnx hzv hold (by
         have:=g2.take (n*i.size)
         rwa [List.take_take,sw hlen] at this) (by simp;omega) hsrc hcs (by omega) r1 r2 [id] (λj hj=>by simp at hj;subst hj;exact λe=>hne e.symm)
     .cases I
    .cases I
   .split at I
    .rename_i hc;simp only[av] at hc;obtain⟨J,hroom⟩:=hc;obtain⟨r1,r2⟩:=HH hroom;have hbase:∀ {φ:PM} {O:Nat->Prop} {w:World} {v:Value},cL φ O w bv v->∃ A,v= .slice A 0 0:=by
      intro φ O w v hr;unfold If at J;split at J
      .cases hr;exact⟨_,rfl⟩
      .rename_i q;cases fm hr;unfold zO at J;split at J
       .exact⟨_,rfl⟩
       .cases J
      .cases J
     split at I
     .rename_i hm;have hm:m=0:=by simpa using hm
      subst hm;simp only[ak] at I;subst I;refine gK.reads λφ E h' w a hrd hp hrep=>?_
      obtain⟨vs,hsrc,hcs⟩:=common hrd hp hrep;have hr:=hp s _ (by rw[U];simp[Op.operands,eM]) hsv;obtain⟨A,hA⟩:=hbase hr;refine ⟨a.eval s,exec ?_,hr⟩;rw[hA];have hvs:vs=[]:=by have:=hsrc.newsLen;simpa using this
      have Z:=hsrc.cells;rw[hvs] at Z;rcases hsrc.kind with ⟨e',hk⟩|hk<;>cases A<;>simp[Builtin.append_,run_underlying hu,run_underlying hk,sizeOf,typeInfo,Y,hsrc.len,Z,storeCells]
     .rename_i hm;have hm:m≠0:=by simpa using hm
      simp only[ak] at I;subst I;intro φ E h' w a h1 h2 h3 hrep h5;have hp:U4 φ E h' w a e o:=λx y M hy=>tf hrep h3 M hy
      obtain⟨vs,hsrc,hcs⟩:=common (λi hi=>h1 i hi) hp hrep;obtain⟨A,hA⟩:=hbase (hp s _ (by rw[U];simp[Op.operands,eM]) hsv);have hold:(Kn i.size 0 (.slice A 0 0)).run P w.drew= .ok ([]:List Value).toArray w.drew:=by
       cases A with
       |none=>exact run_firstCells_none w.drew i.size 0 0 0
       |some ad=>exact run_firstCells_some w.drew i.size 0 ad 0 0 [] (by simp) (by intro j v hv;simp at hv)
      have:=RG (nx:=nx) (n:=0) (cap:=0) (olds:=[]) (oldA:=[]) U hu Y hz hzl hrep (h5 nx (by simp[BR.eff])) hA hold ⟨rfl,(by intro x M;cases M),(by intro j x v M;simp at M)⟩ (by simp) hsrc hcs (by omega) (by omega) (by simpa using r2) [] (by simp);simpa[BR.eff] using this
    .cases I
  .cases I
 .cases I
end
section
variable {P:Program} {o:Oper} {e:zA} {h:nP} {nx:Nat} {R:BR}
theorem akm {t:TypeId} (M:o.op= .makeMap t ah) (I:eL .mkm e h nx=af R):gK P o e.get h.get R.eff:=by
 simp only[eL,ak] at I;subst I;refine gK.makes λφ E h' w a _ _ _=>?_
 refine ⟨.map (af w.heap.size),{w with heap:=w.heap.push (.map #[] 0)},.map #[] 0,?_,qS w _,⟨#[],0,rfl,rfl,by intro j x J;simp at J⟩,λφ' O hφ=>.mp hφ⟩;unfold execOp;rw[M];simp[Instr.makeMap,newObj,nj]
theorem akh {t:TypeId} {x:Operand} (J:o.op= .range t x) (hu:P.underlying t=af .string) (I:eL (.rng x) e h nx=af R):gK P o e.get h.get R.eff:=by
 simp only[eL] at I;split at I
 .rename_i s M;simp only[ak] at I;subst I;refine gK.makes λφ E h' w a _ hp _=>?_
  have hr:=fm (hp x _ (by rw[J];simp[Op.operands]) M);refine ⟨.pointer (af ⟨w.heap.size,0,ah⟩),{w with heap:=w.heap.push (.stringIter s 0)},.stringIter s 0,?_,qS w _,rfl,λφ' O hφ=>.ptr hφ⟩;unfold execOp;rw[J];simp[Instr.range,run_underlying hu,hr,newObj,nj]
 .cases I
theorem Hr {w:World} {k:Nat} {ob ob':Obj} (hk:w.heap[k]? =af ob) (h1:∀ c t f,ob≠ .cells c t f) (h2:∀ c t f,ob'≠ .cells c t f):EP w {w with heap:=w.heap.setIfInBounds k ob'} k ob':=by
 have hlt:k<w.heap.size:=(cC.1 hk).1;have hat:(w.heap.setIfInBounds k ob')[k]? =af ob':=by simp[hlt]
 have hot:∀ j,j≠k->(w.heap.setIfInBounds k ob')[j]? =w.heap[j]? :=λj hj=>pI (λe=>hj e.symm)
 refine ⟨rfl,rfl,rfl,by simp,hat,hot,λj=>?_⟩;unfold rF;by_cases hj:j=k
 .subst hj;simp only[hat,hk];cases ob<;>cases ob'<;>first|rfl|exact cZ rfl (h1 _ _ _)|exact cZ rfl (h2 _ _ _)
 .simp only[hot j hj]
theorem aki {x:Operand} (Z:o.op= .next x ai) (I:eL (.nxt x) e h nx=af R):gK P o e.get h.get R.eff:=by
 simp only[eL] at I;split at I
 .rename_i id hx;split at I
  .rename_i ty s p hid;split at I
   .rename_i b hb;split at I
    .rename_i hlt;have hlt:=a_ hlt;simp only[ak] at I;subst I;refine gK.writes hid λφ E h' w a hrd M hp hrep=>?_
     have hr:=hp x _ (by rw[Z];simp[Op.operands]) hx;generalize hz:a.eval x=z at hr;cases hr with
     |@ptr _ _ k hφ=>
      obtain⟨k',Y,_,ob,U,q3⟩:=hrep.at_ id _ M;rw[hφ] at Y;cases Y;have q3:ob= .stringIter s p:=q3;subst q3;have hps:p<s.size:=by
       have:=(bk.1 hb).1;simpa using this
      have hget:s.get! p=b:=by
       have:s.data[p]? =af b:=by rw[<- cH];exact hb
       have hpd:p<s.data.size:=(cC.1 this).1;have h2:s.data[p]! =s.data[p]:=getElem!_pos s.data p hpd;rw[ig hpd] at this;simp only[ByteArray.get!,h2];exact jQ this
      have hdec:Utf8.decode s p=(b.toNat,1):=by
       unfold Utf8.decode;simp only[c8,hget];rw[aE (by omega)]
      refine ⟨.value (.tuple #[.bool ai,.int .i64 p,.int .i32 b.toNat]),_,k,.stringIter s (p+1),?_,hφ,Hr U (by simp) (by simp),rfl,_,.inl rfl,?_⟩
      .unfold execOp;rw[Z];simp[Instr.next,hz,getObj,nj,U,hps,hdec,setObj,goInt]
      .refine cL.tup (vs:=[.bool ai,.int .i64 p,.int .i32 b.toNat]) rfl λj y v J hv=>?_
       rcases j with _|_|_|j<;>simp at J hv
       .subst J;subst hv;exact .f (.raw _)
       .subst J;subst hv;exact .f (.raw _)
       .subst J;subst hv;exact .f (.raw _)
    .cases I
   .rename_i hb;simp only[ak] at I;subst I;refine gK.writes hid λφ E h' w a hrd M hp hrep=>?_
    have hr:=hp x _ (by rw[Z];simp[Op.operands]) hx;generalize hz:a.eval x=z at hr;cases hr with
    |@ptr _ _ k hφ=>
     obtain⟨k',Y,_,ob,U,q3⟩:=hrep.at_ id _ M;rw[hφ] at Y;cases Y;have q3:ob= .stringIter s p:=q3;subst q3;have hps:¬p<s.size:=by
      have:=List.getElem?_eq_none_iff.1 hb;have e:s.data.toList.length=s.size:=by simp
      omega
     refine ⟨.value (.tuple #[.bool aj]),w,k,.stringIter s p,?_,hφ,⟨rfl,rfl,rfl,rfl,U,λ_ _=>rfl,λ_=>rfl⟩,rfl,_,.inl rfl,?_⟩
     .unfold execOp;rw[Z];simp[Instr.next,hz,getObj,nj,U,hps]
     .refine cL.tup (vs:=[.bool aj]) rfl λj y v J hv=>?_
      rcases j with _|j<;>simp at J hv;subst J;subst hv;exact .f (.raw _)
  .cases I
 .cases I
theorem zn {a b:ByteArray}:rT a b=ai↔a=b:=by
 unfold rT;constructor
 .intro h;have h1:a.data.toList=b.data.toList:=by simpa using h
  cases a;cases b;congr 1;exact Ko h1
 .rintro rfl;simp
theorem EH (a b:ByteArray):(a==b)=rT a b:=by
 have h1:(a==b)=(a.data==b.data):=rfl;rw[h1,Bool.eq_iff_iff,zn,cV];constructor
 .intro h;cases a;cases b;congr 1
 .rintro rfl;rfl
def kd (str:Bool) (d:TypeDesc):Prop:=if str then d= .string else ∃ k,d= .int k
theorem B' {str:Bool} {d:TypeDesc} (hd:kd str d) {k k':Value} (hk:yE str k=ai) {b:Bool} (hb:uz .eql k k'=af (.bool b)):Instr.sameNow d k k'=af b:=by
 unfold kd at hd;cases str with
 |true=>
  simp only[bD] at hd;subst hd;cases k<;>simp[yE] at hk;cases k'<;>simp only[uz] at hb<;>try (simp at hb;done)
  simp only[ak,BT] at hb;simp[Instr.sameNow,EH,hb]
 |false=>
  simp only[cw,dY] at hd;obtain⟨q,rfl⟩:=hd;cases k<;>simp[yE] at hk;cases k'<;>simp only[uz] at hb<;>try (simp at hb;done)
  split at hb
  .rename_i hkk;have hkk':=eq_of_beq hkk;subst hkk';simp only[ak,BT] at hb;simp[Instr.sameNow,<-hb]
  .cases hb
theorem Qu {str:Bool} {d:TypeDesc} (hd:kd str d) {k:Value} (hk:yE str k=ai):∀ (es:List (Value×AV)) (ents:List MapEntry) (i:Nat),ents.map (·.key)=es.map (·.1)->∀ r,s5 k es=af r->
 (r=ah/\jx d k ents i=af ah)\/∃ (j:Nat) (v:AV) (m:MapEntry) (k':Value),r=af v/\es[j]? =af (k',v)/\ents[j]? =af m/\jx d k ents i=af (af (i+j,m.val))/\uz .eql k k'=af (.bool ai)
 |[],ents,i,he,r,h=>by
  cases ents with
  |nil=>simp only[s5,ak] at h;exact .inl ⟨h.symm,rfl⟩
  |cons _ _=>simp at he
 |(k',v)::es,ents,i,he,r,h=>by
  cases ents with
  |nil=>simp at he
  |cons m ents=>
   simp only[gh,iR] at he;obtain⟨I,J⟩:=he;simp only[s5] at h;split at h
   .rename_i hb;simp only[ak] at h;refine .inr ⟨0,v,m,k',h.symm,rfl,rfl,?_,hb⟩;simp only[jx];rw[I,B' hd hk hb];rfl
   .rename_i hb;have hs:=B' hd hk hb;rcases Qu hd hk es ents (i+1) J r h with ⟨h1,h2⟩|⟨j,M,m',k'',h1,h2,Z,Y,U⟩
    .refine .inl ⟨h1,?_⟩;simp only[jx];rw[I,hs];exact h2
    .refine .inr ⟨j+1,M,m',k'',h1,by simpa using h2,by simpa using Z,?_,U⟩;simp only[jx];rw[I,hs];show jx d k ents (i+1)=_;rw[Y,show i+1+j=i+(j+1) from by omega]
   .cases h
theorem Ca {I:TypeId} {str:Bool} {d:TypeDesc} (hu:P.underlying I=af d) (hd:kd str d) (b:Bool) (v:Value) (w:World):(Instr.checkKey b 10000 I v).run P w= .ok () w:=by
 have key:∀ n,(Instr.checkKey b (n+1) I v).run P w= .ok () w:=λn=>by
  unfold kd at hd;cases str with
  |true=>simp only[bD] at hd;subst hd;simp[Instr.checkKey,run_underlying hu]
  |false=>simp only[cw,dY] at hd;obtain⟨q,rfl⟩:=hd;simp[Instr.checkKey,run_underlying hu]
 exact key 9999
theorem Y6 {φ:PM} {O:Nat->Prop} {w:World} {ok b:Bool} {x:AV} {v:Value} (h:cL φ O w x v):cL φ O w (pkV ok x b) (if ok then .tuple #[v,.bool b] else v):=by
 cases ok with
 |false=>exact h
 |true=>
  refine cL.tup (vs:=[v,.bool b]) rfl λj y u I hv=>?_
  rcases j with _|_|j<;>simp at I hv
  .subst I;subst hv;exact h
  .subst I;subst hv;exact .f (.raw _)
theorem afj {t kt el:TypeId} {x k:Operand} {str ok:Bool} {d:TypeDesc} {z:Value} (U:o.op= .lookup t x k ok) (hu:P.underlying t=af (.map kt el)) (hk:P.underlying kt=af d) (hd:kd str d) (M:(P.info? el).bind (·.zero)=af z) (I:eL (.lku str ok z x k) e h nx=af R):gK P o e.get h.get R.eff:=by
 simp only[eL] at I;split at I
 .rename_i id key hx hkx;split at I
  .rename_i ty es hid;split at I
   .rename_i hko;have fin:∀ val:AV,(∀ (φ:PM) (E:Nat->Prop) (h':HF) (w:World) (a:Act),h' id=af ⟨ty,.mp es⟩->U4 φ E h' w a e o->qP φ E h' w->∃ v,(execOp a.eval o).run P w= .ok (.value v) w/\cL φ (tot E φ h') w val v)->R=⟨val,[id],[],[],[]⟩->gK P o e.get h.get R.eff:=by
     rintro val hv rfl;exact gK.reads λφ E h' w a hrd hp hrep=>hv φ E h' w a (by rw[hrd id (by simp)];exact hid) hp hrep
    have zrun:∀ w:World,(zeroValue el).run P w= .ok z w:=λw=>by
     cases hi:P.info? el with
     |none=>rw[hi] at M;cases M
     |some i=>rw[hi] at M;simp only[aH] at M;simp[zeroValue,typeInfo,hi,M]
    have main:∀ r,s5 key es=af r->∀ (φ:PM) (E:Nat->Prop) (h':HF) (w:World) (a:Act),h' id=af ⟨ty,.mp es⟩->U4 φ E h' w a e o->qP φ E h' w->
     ∃ v,(execOp a.eval o).run P w= .ok (.value v) w/\cL φ (tot E φ h') w (match r with|some v=>pkV ok v ai|none=>pkV ok (raw z) aj) v:=by
     intro r hr φ E h' w a Y hp hrep;have hrx:=hp x _ (by rw[U];simp[Op.operands]) hx;have hrk:=fm (hp k _ (by rw[U];simp[Op.operands]) hkx);generalize J:a.eval x=zz at hrx;cases hrx with
     |@mp _ b hφ=>
      obtain⟨k',q1,_,ob,Z,q3⟩:=hrep.at_ id _ Y;rw[hφ] at q1;cases q1;obtain⟨ents,clock,rfl,q4,q5⟩:=q3;have hck:=Ca (P:=P) hk hd ents.isEmpty key w;rcases Qu hd hko es ents.toList 0 q4 r hr with ⟨h1,h2⟩|⟨j,v,m,k',h1,h2,h3,h4,_⟩
      .subst h1;refine ⟨_,?_,Y6 (.f (.raw z))⟩;unfold execOp;rw[U];cases ok<;>simp[Instr.lookup,run_underlying hu,J,hrk,getObj,nj,Z,hck,Instr.findKey,run_underlying hk,h2,zrun]
      .subst h1;obtain⟨m',h6,h7⟩:=q5 j _ h2;rw[cH] at h3;rw[h3] at h6;cases h6;refine ⟨_,?_,Y6 h7⟩;unfold execOp;rw[U];cases ok<;>simp[Instr.lookup,run_underlying hu,J,hrk,getObj,nj,Z,hck,Instr.findKey,run_underlying hk,h4]
    split at I
    .rename_i v hf;simp only[ak] at I;exact fin _ (main _ hf) I.symm
    .rename_i hf;simp only[ak] at I;exact fin _ (main _ hf) I.symm
    .cases I
   .cases I
  .cases I
 .cases I
theorem Vp {str:Bool} {d:TypeDesc} (hd:kd str d) {k:Value} (hk:yE str k=ai) {v:AV}:∀ (es es':List (Value×AV)) (ents:List MapEntry) (i:Nat),ents.map (·.key)=es.map (·.1)->yC k v es=af es'->
 (jx d k ents i=af ah/\es'=es++[(k,v)])\/∃ (j:Nat) (m:MapEntry) (k':Value) (J:AV),es[j]? =af (k',J)/\ents[j]? =af m/\jx d k ents i=af (af (i+j,m.val))/\uz .eql k k'=af (.bool ai)/\es'=es.set j (k,v)
 |[],es',ents,i,he,h=>by
  cases ents with
  |nil=>simp only[yC,ak] at h;exact .inl ⟨rfl,by simp[h]⟩
  |cons _ _=>simp at he
 |(k',J)::es,es',ents,i,he,h=>by
  cases ents with
  |nil=>simp at he
  |cons m ents=>
   simp only[gh,iR] at he;obtain⟨I,M⟩:=he;simp only[yC] at h;split at h
   .rename_i hb;simp only[ak] at h;refine .inr ⟨0,m,k',J,rfl,rfl,?_,hb,by simp[h]⟩;simp only[jx];rw[I,B' hd hk hb];rfl
   .rename_i hb;have hs:=B' hd hk hb;split at h
    .rename_i es2 hes2;simp only[ak] at h;subst h;rcases Vp hd hk es es2 ents (i+1) M hes2 with ⟨h1,h2⟩|⟨j,m',k'',v'',h1,h2,Z,Y,U⟩
     .refine .inl ⟨?_,by simp[h2]⟩;simp only[jx];rw[I,hs];exact h1
     .refine .inr ⟨j+1,m',k'',v'',by simpa using h1,by simpa using h2,?_,Y,by simp[U]⟩;simp only[jx];rw[I,hs];show jx d k ents (i+1)=_;rw[Z,show i+1+j=i+(j+1) from by omega]
    .cases h
   .cases h
theorem ZT {str:Bool} {k k':Value} (hk:yE str k=ai) (hb:uz .eql k k'=af (.bool ai)):Instr.sameBits 10000 k' k=ai/\k'=k:=by
 cases str with
 |true=>
  cases k<;>simp[yE] at hk;cases k'<;>simp only[uz] at hb<;>try (simp at hb;done)
  simp only[ak,BT] at hb;have:=zn.1 hb;subst this;exact⟨by simp[Instr.sameBits,EH,hb],rfl⟩
 |false=>
  cases k<;>simp[yE] at hk;cases k'<;>simp only[uz] at hb<;>try (simp at hb;done)
  split at hb
  .rename_i hkk;have hkk':=eq_of_beq hkk;subst hkk';simp only[ak,BT,cV] at hb;subst hb;exact⟨by simp[Instr.sameBits],rfl⟩
  .cases hb
theorem afi {t kt el:TypeId} {x k y:Operand} {str:Bool} {d:TypeDesc} (M:o.op= .mapUpdate t x k y) (hu:P.underlying t=af (.map kt el)) (hk:P.underlying kt=af d) (hd:kd str d) (I:eL (.mup str x k y) e h nx=af R):gK P o e.get h.get R.eff:=by
 simp only[eL] at I;split at I
 .rename_i id key v hx hkx hy;split at I
  .rename_i ty es hid;split at I
   .rename_i hko;split at I
    .rename_i es' hput;simp only[ak] at I;subst I;refine gK.writes hid λφ E h' w a hrd Z hp hrep=>?_
     have hrx:=hp x _ (by rw[M];simp[Op.operands]) hx;have hrk:=fm (hp k _ (by rw[M];simp[Op.operands]) hkx);have hry:=hp y _ (by rw[M];simp[Op.operands]) hy;generalize J:a.eval x=zz at hrx;cases hrx with
     |@mp _ b hφ=>
      obtain⟨k',q1,_,ob,U,q3⟩:=hrep.at_ id _ Z;rw[hφ] at q1;cases q1;obtain⟨ents,clock,rfl,q4,q5⟩:=q3;have hck:=Ca (P:=P) hk hd aj key w;have hlen:ents.size=es.length:=by have:=gG al q4;simpa using this
      rcases Vp hd hko es es' ents.toList 0 q4 hput with ⟨h1,rfl⟩|⟨j,m,k',v',h1,h2,h3,h4,rfl⟩
      .refine ⟨.skip,_,b,.map (ents.push {key,val:=a.eval y,born:=clock}) (clock+1),?_,hφ,Hr U (by simp) (by simp),⟨_,_,rfl,by simp[q4],λj q hq=>?_⟩,undef,.inr ⟨rfl,rfl⟩,.f (.raw _)⟩
       .unfold execOp;rw[M];simp[Instr.mapUpdate,run_underlying hu,J,hrk,getObj,nj,U,hck,Instr.findKey,run_underlying hk,h1,setObj]
       .rcases bZ j es.length with hj|hj
        .rw[bO hj] at hq;obtain⟨m,g1,g2⟩:=q5 j q hq;exact⟨m,by rw[Array.getElem?_push,aB (by omega)];exact g1,g2⟩
        .rw[b7 hj] at hq;have Y:j-es.length=0:=by
          rcases Km (j-es.length) with h0|h0
          .exact h0
          .rw[bQ (by simp;omega)] at hq;cases hq
         rw[Y] at hq;simp at hq;subst hq;exact⟨_,by rw[Array.getElem?_push,aE (by omega)],hry⟩
      .obtain⟨s1,s2⟩:=ZT hko h4;subst s2;rw[cH] at h2;rw[bN] at h3;have hjl:j<ents.size:=(cC.1 h2).1;have hmk:m.key=k':=by
        have e1:(ents.toList.map (·.key))[j]? =af m.key:=by rw[bc,cH,h2];rfl
        rw[q4,bc,h1] at e1;simpa using e1.symm
       refine ⟨.skip,_,b,.map (ents.modify j λe=>{e with key:=k',val:=a.eval y}) clock,?_,hφ,Hr U (by simp) (by simp),⟨_,_,rfl,?_,λi q hq=>?_⟩,undef,.inr ⟨rfl,rfl⟩,.f (.raw _)⟩
       .unfold execOp;rw[M];simp[Instr.mapUpdate,run_underlying hu,J,hrk,getObj,nj,U,hck,Instr.findKey,run_underlying hk,h3,setObj,h2,hmk,Instr.keyThatStays,s1]
       .apply List.ext_getElem?;intro i;simp only[bc,cH,oK,Array.getElem?_modify];have e2:∀ i:Nat,(ents[i]?).map (λm:MapEntry=>m.key)=(es[i]?).map (λp:Value×AV=>p.1):=λi=>by
         have:=gG (λl=>l[i]?) q4;simpa[bc,cH] using this
        by_cases hij:j=i
        .subst hij;simp[h2,show j<es.length by omega]
        .simp only[hij,dY];exact e2 i
       .rw[oK] at hq;rw[Array.getElem?_modify];by_cases hij:j=i
        .subst hij;simp[show j<es.length by omega] at hq;subst hq;exact⟨{m with key:=k',val:=a.eval y},by simp[h2],hry⟩
        .simp only[hij,dY] at hq ⊢;exact q5 i q hq
    .cases I
   .cases I
  .cases I
 .cases I
end
section
variable {P:Program} {o:Oper} {e:zA} {h:nP} {nx:Nat} {R:BR}
theorem Pr {t:TypeId} {d:TypeDesc} (hu:P.underlying t=af d) (hd:(match d with|.int _=>ai|.bool=>ai|.string=>ai|_=>aj)=ai) (cs:Array Value) (j:Nat) (v:Value) (hv:cs[j]? =af v) (w:World):(part t cs j).run P w= .ok v w:=by
 unfold part;simp only[isAgg,eB,run_underlying hu,cI];cases d<;>simp at hd<;>simp[hv]
theorem Xo {t:TypeId} {d:TypeDesc} (hu:P.underlying t=af d) (hd:(match d with|.int _=>ai|.bool=>ai|.string=>ai|_=>aj)=ai) {x y:FV} {b:Bool} (hxy:xm d x y=af b) {u v:Value} (M:x= .raw u) (J:y= .raw v) (n:Nat) (w:World):(Op.equalIn (n+1) t u v).run P w= .ok b w:=by
 subst M;subst J;cases d<;>simp at hd<;>cases u<;>cases v<;>simp only[xm] at hxy<;>first|(cases hxy;done)|skip
 .simp only[ak] at hxy;subst hxy;simp[Op.equalIn,run_underlying hu]
 .split at hxy
  .rename_i hk;have I:=eq_of_beq hk;subst I;simp only[ak] at hxy;subst hxy;simp[Op.equalIn,run_underlying hu]
  .cases hxy
 .simp only[ak] at hxy;subst hxy;simp[Op.equalIn,run_underlying hu,EH]
abbrev IV (n:Nat) (xs I:Array Value) (f:Field) (_:Option Bool×Unit):Sem (ForInStep (Option Bool×Unit)):=
 if f.name≠ "_" then do
  let a←part f.type xs f.offset
  let b←part f.type I f.offset
  let c←Op.equalIn (n+1) f.type a b
  if (!c)=ai then pure (ForInStep.done (af aj,())) else pure (ForInStep.yield (ah,()))
 else pure (ForInStep.yield (ah,()))
theorem Mk (n:Nat) (w:World) (xs I:Array Value):∀ (fs:List Field) (ds:List TypeDesc) (a b:List FV) (k:Nat) (r:Bool),rK P k fs=af ds->
 (∀ (j:Nat) x u,a[j]? =af x->xs[k+j]? =af u->x= .raw u\/∀ v,x≠ .raw v)->(∀ (j:Nat) x u,b[j]? =af x->I[k+j]? =af u->x= .raw u\/∀ v,x≠ .raw v)->(∀ (j:Nat),j<a.length->k+j<xs.size)->(∀ (j:Nat),j<b.length->k+j<I.size)->oU ds a b=af r->
 (forIn fs (ah,()) (IV n xs I)).run P w= .ok (if r then (ah,()) else (af aj,())) w
 |[],ds,a,b,k,r,hp,_,_,_,_,he=>by
  simp only[rK,ak] at hp;subst hp;cases a<;>cases b<;>simp[oU] at he;subst he;simp
 |f::fs,ds,a,b,k,r,hp,Z,hb,hla,hlb,he=>by
  simp only[rK] at hp;split at hp
  .rename_i d ds' hu Y;split at hp
   .rename_i hc;simp only[av,bne_iff_ne,ne_eq,cV] at hc;obtain⟨⟨hn,hof⟩,hd⟩:=hc;simp only[ak] at hp;subst hp;cases a with
    |nil=>cases b<;>simp[oU] at he
    |cons x a=>
     cases b with
     |nil=>simp[oU] at he
     |cons y b=>
      simp only[oU] at he;have U:k<xs.size:=by have:=hla 0 (by simp);omega
      have M:k<I.size:=by have:=hlb 0 (by simp);omega
      have hraw:∀ (z:FV) (q:Value),(z= .raw q\/∀ v,z≠ .raw v)->(∃ v,z= .raw v)->z= .raw q:=by
       rintro z q (h|h) ⟨v,hv⟩
       .exact h
       .exact cZ hv (h v)
      have hxr:∀ J,xm d x y=af J->x= .raw xs[k]/\y= .raw I[k]:=by
       intro J hbb;have hrr:(∃ v,x= .raw v)/\∃ v,y= .raw v:=by
        unfold xm at hbb;split at hbb
        .exact⟨⟨_,rfl⟩,⟨_,rfl⟩⟩
        .exact⟨⟨_,rfl⟩,⟨_,rfl⟩⟩
        .exact⟨⟨_,rfl⟩,⟨_,rfl⟩⟩
        .cases hbb
       exact⟨hraw x _ (Z 0 x _ rfl (by simp[U])) hrr.1,hraw y _ (hb 0 y _ rfl (by simp[M])) hrr.2⟩
      have hstep:∀ J,xm d x y=af J->(IV n xs I f (ah,())).run P w= .ok (if J then ForInStep.yield (ah,()) else ForInStep.done (af aj,())) w:=by
       intro J hbb;obtain⟨h1,h2⟩:=hxr J hbb;have p1:=Pr hu (by cases d<;>simp[HN] at hd<;>rfl) xs k xs[k] (by simp[U]) w;have p2:=Pr hu (by cases d<;>simp[HN] at hd<;>rfl) I k I[k] (by simp[M]) w;have p3:=Xo hu (by cases d<;>simp[HN] at hd<;>rfl) hbb h1 h2 n w;unfold IV;rw[aE hn,hof];simp only[eB,p1,p2,p3,cI];cases J<;>simp
      rw[List.forIn_cons];simp only[eB];split at he
      .rename_i hbb;rw[hstep ai hbb];simp only[cI,bD];exact Mk n w xs I fs ds' a b (k+1) r Y (λj x u h1 h2=>Z (j+1) x u (by simpa using h1) (by rw[<- h2];congr 1;omega)) (λj x u h1 h2=>hb (j+1) x u (by simpa using h1) (by rw[<- h2];congr 1;omega))
        (λj hj=>by have:=hla (j+1) (by simpa using hj);omega) (λj hj=>by have:=hlb (j+1) (by simpa using hj);omega) he
      .rename_i hbb;rw[hstep aj hbb];simp only[ak] at he;subst he;simp
      .cases he
   .cases hp
  .cases hp
theorem Xn {t:TypeId} {fs:Array Field} (hu:P.underlying t=af (.struct fs)) (hs:P.stoodInHeld t=aj) {ds:List TypeDesc} (hp:rK P 0 fs.toList=af ds) (xs I:Array Value) {a b:List FV} {r:Bool}
 (J:∀ (j:Nat) x u,a[j]? =af x->xs[j]? =af u->x= .raw u\/∀ v,x≠ .raw v) (hb:∀ (j:Nat) x u,b[j]? =af x->I[j]? =af u->x= .raw u\/∀ v,x≠ .raw v) (hla:a.length=xs.size) (hlb:b.length=I.size) (he:oU ds a b=af r) (w:World):
 (Op.equal t (.agg xs) (.agg I)).run P w= .ok r w:=by
 have key:∀ n,(Op.equalIn (n+2) t (.agg xs) (.agg I)).run P w= .ok r w:=by
  intro n;rw[Op.equalIn];have h1:=Mk (P:=P) n w xs I fs.toList ds a b 0 r hp (λj x u h1 h2=>J j x u h1 (by simpa using h2)) (λj x u h1 h2=>hb j x u h1 (by simpa using h2)) (λj hj=>by omega) (λj hj=>by omega) he;rw[Array.forIn_toList] at h1;simp only[eB,run_underlying hu,cI,program,nj,hs,cw,dY];have h2:(forIn fs (ah,()) (λf __s=>IV n xs I f __s)).run P w= .ok (if r then (ah,()) else (af aj,())) w:=h1;unfold IV at h2;rw[h2];cases r<;>simp
 exact key 9998
theorem Qz {t:TypeId} {fs:Array Field} (hu:P.underlying t=af (.struct fs)) {ds:List TypeDesc} (hp:rK P 0 fs.toList=af ds):P.eqGuardType P.depth t=aj:=by
 have key:∀ (fs:List Field) (k:Nat) (ds:List TypeDesc),rK P k fs=af ds→∀ d,(fs.any λf=>f.name != "_" &&P.eqGuardType (d+1) f.type)=aj:=by
  intro fs;induction fs with
  |nil=>intros;rfl
  |cons f fs M=>
   intro k ds hp d;simp only[rK] at hp;split at hp
   .rename_i U ds' I J;split at hp
    .rename_i hc;simp only[av] at hc;have:P.eqGuardType (d+1) f.type=aj:=by
      unfold Program.eqGuardType;rw[I];have:=hc.2;cases U<;>simp[HN] at this<;>rfl
     simp only[List.any_cons,this,Bool.and_false,Bool.false_or];exact M (k+1) ds' J d
    .cases hp
   .cases hp
 unfold Program.depth Program.eqGuardType;rw[hu];simp only[];rw[← Array.any_toList];exact key fs.toList 0 ds hp _
theorem afk {t t':TypeId} {op:BinOp} {neg:Bool} {x y:Operand} {fs:Array Field} {ds:List TypeDesc} (Y:o.op= .binOp op t x y t') (hop:op=if neg then .neq else .eql) (hu:P.underlying t=af (.struct fs)) (hs:P.stoodInHeld t=aj) (hp:rK P 0 fs.toList=af ds) (I:eL (.eqs neg ds x y) e h nx=af R):gK P o e.get h.get R.eff:=by
 simp only[eL] at I;split at I
 .rename_i a b J hy;split at I
  .rename_i r hr;rw[dx I];refine gK.reads λφ E h' w ac _ hpp _=>?_
   have h1:=hpp x _ (by rw[Y];simp[Op.operands]) J;have h2:=hpp y _ (by rw[Y];simp[Op.operands]) hy;generalize hzx:ac.eval x=zx at h1;generalize hzy:ac.eval y=zy at h2;have rawOr:∀ (l:List FV) (vs:List Value),(∀ (j:Nat) x v,l[j]? =af x->vs[j]? =af v->m6 (tot E φ h') w x v)->∀ (j:Nat) x u,l[j]? =af x->vs.toArray[j]? =af u->x= .raw u\/∀ v,x≠ .raw v:=by
    intro l vs hr j x u J hu;have:=hr j x u J (by simpa using hu);cases this with
    |raw v=>exact .inl rfl
    |nil=>exact .inr (by simp)
    |sl=>exact .inr (by simp)
    |ptr=>exact .inr (by simp)
    |agg=>exact .inr (by simp)
   cases h1 with
   |f h1=>
    cases h1 with
    |agg _ vs hl hcl U=>
     cases h2 with
     |f h2=>
      cases h2 with
      |agg _ us Z hcl' M=>
       have heq:=Xn hu hs hp vs.toArray us.toArray (rawOr a vs U) (rawOr b us M) (by simp[hl]) (by simp[Z]) hr w;refine ⟨_,?_,.f (.raw _)⟩;have hg:=Qz hu hp;unfold execOp;rw[Y];simp only[hzx,hzy];subst hop;cases neg<;>simp[eqGuard,program,nj,hg,binOp,heq]
  .cases I
 .cases I
end
theorem bind_some {α β:Type} {x:Option α} {f:α->Option β} {y:β} (h:x.bind f=af y):∃ a,x=af a/\f a=af y:=by
 cases x with
 |none=>cases h
 |some a=>exact⟨a,rfl,h⟩
theorem map_some {α β:Type} {x:Option α} {f:α->β} {y:β} (h:x.map f=af y):∃ a,x=af a/\f a=y:=by
 cases x with
 |none=>cases h
 |some a=>exact⟨a,rfl,by simpa using h⟩
theorem lV {c:Bool} {β:Type} {x:Option β} {y:β} (h:(if c then x else ah)=af y):c=ai/\x=af y:=by
 cases c with
 |true=>exact⟨rfl,by simpa using h⟩
 |false=>simp at h
theorem HQ {P:Program} {o:Oper} {e:zA} {h:nP} {nx:Nat} {s:X9} {R:BR} (hc:di P o.op=af s) (J:eL s e h nx=af R):gK P o e.get h.get R.eff:=by
 unfold di at hc;split at hc
 .rename_i x I;simp only[ak] at hc;subst hc;exact akl (.inl I) J
 .rename_i x I;simp only[ak] at hc;subst hc;exact akl (.inr I) J
 .rename_i c a b I;simp only[ak] at hc;subst hc;exact ah9 I J
 .rename_i t I;obtain⟨z,h1,hc⟩:=bind_some hc;obtain⟨h2,hc⟩:=lV hc;simp only[ak] at hc;subst hc;exact ae0 I h1 h2 J
 .rename_i t x I;simp only[ak] at hc;subst hc;exact akx I J
 .rename_i t ps I;split at hc
  .rename_i fs hu;obtain⟨z,h1,hc⟩:=bind_some hc;obtain⟨h2,hc⟩:=lV hc;obtain⟨ps',M,rfl⟩:=map_some hc;simp only[av] at h2;exact Wq I h1 h2.1 M (.inl ⟨fs,hu,h2.2⟩) J
  .rename_i n el hu;obtain⟨z,h1,hc⟩:=bind_some hc;obtain⟨h2,hc⟩:=lV hc;obtain⟨ps',M,rfl⟩:=map_some hc;simp only[av] at h2;obtain⟨sz,U⟩:=iK.1 h2.2;exact Wq I h1 h2.1 M (.inr ⟨n,el,sz,hu,U⟩) J
  .cases hc
 .rename_i t n ps I;obtain⟨el,h1,hc⟩:=bind_some hc;obtain⟨z,h2,hc⟩:=bind_some hc;obtain⟨sz,M,hc⟩:=bind_some hc;obtain⟨U,hc⟩:=lV hc;obtain⟨ps',Z,rfl⟩:=map_some hc;simp only[av,cV,bne_iff_ne] at U;exact akw I (sk h1) h2 M U.1.1.1 U.1.1.2 U.2 (a_ U.1.2) Z J
 .rename_i t x I;obtain⟨sz,h1,hc⟩:=bind_some hc;obtain⟨ag,h2,rfl⟩:=map_some hc;exact ahc I h1 h2 J
 .rename_i t x v I;obtain⟨sz,h1,rfl⟩:=map_some hc;exact adz I h1 J
 .rename_i x I;simp only[ak] at hc;subst hc;exact aha I J
 .rename_i op t x y t' I;split at hc
  .simp only[ak] at hc;subst hc;exact afm I J
  .simp only[ak] at hc;subst hc;exact afm I J
  .rename_i hu;split at hc
   .simp only[ak] at hc;subst hc;exact afl (neg:=aj) I rfl hu J
   .simp only[ak] at hc;subst hc;exact afl (neg:=ai) I rfl hu J
   .cases hc
  .rename_i el hu;split at hc
   .simp only[ak] at hc;subst hc;exact Wp (neg:=aj) I rfl rfl hu J
   .simp only[ak] at hc;subst hc;exact Wp (neg:=ai) I rfl rfl hu J
   .cases hc
  .rename_i fs hu;obtain⟨ds,h1,hc⟩:=bind_some hc;unfold Y5 at h1;rw[hu] at h1;simp only[] at h1;split at h1
   .cases h1
   .rename_i hst;have hst:P.stoodInHeld t=aj:=by simpa using hst
    split at hc
    .simp only[ak] at hc;subst hc;exact afk (neg:=aj) I rfl hu hst h1 J
    .simp only[ak] at hc;subst hc;exact afk (neg:=ai) I rfl hu hst h1 J
    .cases hc
  .cases hc
 .rename_i t x I;simp only[ak] at hc;subst hc;exact akj I J
 .rename_i t x I;split at hc
  .simp only[ak] at hc;subst hc;exact akk I J
  .cases hc
 .rename_i s' d x I;split at hc
  .rename_i k k' h1 h2;simp only[ak] at hc;subst hc;exact ahi I h1 h2 J
  .cases hc
 .rename_i t l c I;obtain⟨el,h1,hc⟩:=bind_some hc;obtain⟨z,h2,hc⟩:=bind_some hc;obtain⟨sz,M,hc⟩:=bind_some hc;obtain⟨b,Z,hc⟩:=bind_some hc;obtain⟨U,hc⟩:=lV hc;simp only[av,cV,bne_iff_ne] at U;simp only[ak] at hc;subst hc;exact ahb I (sk h1) h2 M Z U.1.1 U.1.2 U.2 J
 .rename_i t x lo hi mx I;obtain⟨el,h1,hc⟩:=bind_some hc;obtain⟨sz,h2,rfl⟩:=map_some hc;exact akg I (sk h1) h2 J
 .rename_i t x k I;split at hc
  .rename_i fs hu;obtain⟨f,h1,hc⟩:=bind_some hc;obtain⟨sz,h2,hc⟩:=bind_some hc;obtain⟨M,hc⟩:=lV hc;simp only[ak] at hc;subst hc;exact akt I hu h1 h2 (by simpa using M) J
  .cases hc
 .rename_i t x k I;split at hc
  .rename_i fs hu;obtain⟨f,h1,hc⟩:=bind_some hc;obtain⟨sz,h2,hc⟩:=bind_some hc;obtain⟨ag,M,rfl⟩:=map_some hc;exact aks I hu h1 h2 M J
  .cases hc
 .rename_i t x i I;split at hc
  .rename_i el hu;obtain⟨sz,h1,rfl⟩:=map_some hc;exact akr I hu h1 J
  .rename_i n el hu;obtain⟨sz,h1,rfl⟩:=map_some hc;exact ahg I hu h1 J
  .cases hc
 .rename_i t x i I;split at hc
  .rename_i n el hu;obtain⟨sz,h1,hc⟩:=bind_some hc;obtain⟨ag,h2,rfl⟩:=map_some hc;exact akq I hu h1 h2 J
  .rename_i hu;simp only[ak] at hc;subst hc;exact ah8 I hu J
  .cases hc
 .rename_i x i I;simp only[ak] at hc;subst hc;exact aku I J
 .rename_i f first caps I
  obtain⟨h1,hc⟩:=lV hc;simp only[ak] at hc;subst hc;have h2:first=#[]:=by simpa using h1
  subst h2;exact akn I J
 .rename_i t I;split at hc
  .simp only[ak] at hc;subst hc;exact akm I J
  .cases hc
 .rename_i t x k ok I;split at hc
  .rename_i kt el hu;split at hc
   .rename_i q z h1 h2;obtain⟨M,hc⟩:=lV hc;simp only[ak] at hc;subst hc;exact afj (str:=aj) I hu h1 ⟨q,rfl⟩ h2 J
   .rename_i z h1 h2;obtain⟨M,hc⟩:=lV hc;simp only[ak] at hc;subst hc;exact afj (str:=ai) I hu h1 rfl h2 J
   .cases hc
  .cases hc
 .rename_i t m k v I;split at hc
  .rename_i kt el hu;split at hc
   .rename_i q h1;simp only[ak] at hc;subst hc;exact afi (str:=aj) I hu h1 ⟨q,rfl⟩ J
   .rename_i h1;simp only[ak] at hc;subst hc;exact afi (str:=ai) I hu h1 rfl J
   .cases hc
  .cases hc
 .rename_i t x I;split at hc
  .rename_i hu;simp only[ak] at hc;subst hc;exact akh I hu J
  .cases hc
 .rename_i x I;simp only[ak] at hc;subst hc;exact aki I J
 .rename_i c I;obtain⟨callee,args,argTypes⟩:=c;have arr:∀ {α:Type} {x:Array α} {l:List α},x.toList=l->x=l.toArray:=λh=>by rw[<- h]
  unfold Ru at hc;simp only[] at hc;split at hc
  .split at hc
   .rename_i x t h1 h2;rw[arr h1,arr h2] at I;split at hc
    .rename_i el hu;simp only[ak] at hc;subst hc;exact ahf I hu J
    .rename_i hu;simp only[ak] at hc;subst hc;exact ahe I hu J
    .rename_i k v hu;simp only[ak] at hc;subst hc;exact ahd I hu J
    .cases hc
   .cases hc
  .split at hc
   .rename_i x y h1;rw[arr h1] at I;simp only[ak] at hc;subst hc;exact akp I J
   .cases hc
  .split at hc
   .rename_i x y h1;rw[arr h1] at I;simp only[ak] at hc;subst hc;exact ako I J
   .cases hc
  .split at hc
   .rename_i d x t u h1 h2;rw[arr h1,arr h2] at I;split at hc
    .rename_i el el' h1 h2;obtain⟨sz,M,hc⟩:=bind_some hc;obtain⟨U,hc⟩:=lV hc;simp only[ak] at hc;subst hc;exact ahh I (sk h1) (sk h2) M J
    .cases hc
   .cases hc
  .split at hc
   .rename_i x t h1 h2;rw[arr h1,arr h2] at I;obtain⟨el,M,hc⟩:=bind_some hc;obtain⟨z,U,hc⟩:=bind_some hc;obtain⟨sz,Z,hc⟩:=bind_some hc;obtain⟨Y,hc⟩:=lV hc;simp only[av,cV,bne_iff_ne,ne_eq] at Y;simp only[ak] at hc;subst hc;exact akv I (sk M) U Y.1.1 Y.1.2 Y.2 J
   .cases hc
  .split at hc
   .rename_i s' x t u h1 h2;rw[arr h1,arr h2] at I;split at hc
    .rename_i el el' h1 h2;obtain⟨sz,M,hc⟩:=bind_some hc;obtain⟨b,U,hc⟩:=bind_some hc;obtain⟨z,Z,hc⟩:=bind_some hc;obtain⟨Y,hc⟩:=lV hc;simp only[av,cV,bne_iff_ne] at Y;simp only[ak] at hc;subst hc;exact aky I (sk h1) (sk h2) M U Z Y.2 Y.1 J
    .cases hc
   .cases hc
  .cases hc
 .cases hc
theorem l7 {p:Nat->Bool}:∀ {l:List AV},AV.allL p l=ai->∀ x∈l,AV.all p x=ai
 |[],_,x,I=>by cases I
 |y::l,h,x,I=>by
  simp only[AV.allL,av] at h;rcases bi.1 I with rfl|I
  .exact h.1
  .exact l7 h.2 x I
theorem cL.restrict {φ φ':PM} {O O':Nat->Prop} {w:World} {p:Nat->Bool} (hs:∀ i k,p i=ai->φ i=af k->φ' i=af k) (M:∀ k,O' k->O k) {x:AV} {v:Value} (h:cL φ O w x v):x.all p=ai->cL φ' O' w x v:=by
 induction h with
 |f h=>intro _;exact .f (h.ext (O':=O') (Ki.refl O w) λk _ hk=>M k hk)
 |ptr h=>intro hp;exact .ptr (hs _ _ hp h)
 |sl h hn hc=>intro hp;exact .sl (hs _ _ hp h) hn hc
 |row h hn hc hsh=>intro hp;exact .row (hs _ _ hp h) hn hc hsh
 |emp=>intro _;exact .emp
 |anyb=>intro _;exact .anyb
 |mp h=>intro hp;exact .mp (hs _ _ hp h)
 |agg hl hcl hr J=>intro hp;exact .agg hl hcl λj x v I hv=>J j x v I hv (l7 hp x (ba I))
 |tup hl hr J=>intro hp;exact .tup hl λj x v I hv=>J j x v I hv (l7 hp x (ba I))
 |clo hl hr J=>intro hp;exact .clo hl λj x v I hv=>J j x v I hv (l7 hp x (ba I))
theorem js.restrict {φ φ':PM} {O O':Nat->Prop} {w w':World} {p:Nat->Bool} (hk:∀ x v,x.all p=ai->cL φ O w x v->cL φ' O' w' x v) {b:wK} {o:Obj} (hb:b.c.all p=ai) (h:js φ O w b o):js φ' O' w' b o:=by
 unfold js at h ⊢;cases hc:b.c with
 |fz l=>
  rw[hc] at h;obtain⟨arr,h1,h2,J⟩:=h;exact⟨arr,h1,h2,λj x I=>by
   obtain⟨a,v,c,d⟩:=J j x I;refine ⟨a,v,c,hk _ _ ?_ d⟩;simp only[BC.get] at I;cases hl:l[j]? with
   |none=>rw[hl] at I;cases I
   |some q=>rw[hl] at I;simp at I;subst I;rfl⟩
 |mx l=>
  rw[hc] at h hb;obtain⟨arr,h1,h2,J⟩:=h;exact⟨arr,h1,h2,λj x I=>by
   obtain⟨a,v,c,d⟩:=J j x I;exact⟨a,v,c,hk _ _ (l7 hb x (ba I)) d⟩⟩
 |mp es=>
  rw[hc] at h hb;obtain⟨e,c,h1,h2,J⟩:=h;exact⟨e,c,h1,h2,λj x I=>by
   obtain⟨m,a,b⟩:=J j x I;exact⟨m,a,hk _ _ (l7 hb x.2 (dk.2 ⟨x,ba I,rfl⟩)) b⟩⟩
 |it s q=>rw[hc] at h;exact h
def aa3 (m:Nat):List Nat:=(eS (m+1)).filter λi=>aM m i
theorem L6 {m i:Nat}:i∈aa3 m↔aM m i=ai:=by
 unfold aa3;rw[EZ,m8];constructor
 .exact λh=>h.2
 .intro h;refine ⟨?_,h⟩;have h1:=Nat.ge_two_pow_of_testBit h;have h2:=Nat.lt_two_pow_self (n:=i);omega
def jW (φ:PM) (O:Nat->Prop) (w:World):List AV->List Value->Prop
 |[],[]=>True
 |x::xs,v::vs=>cL φ O w x v/\jW φ O w xs vs
 |_,_=>False
theorem jW.length {φ:PM} {O:Nat->Prop} {w:World}:∀ {args:List AV} {vs:List Value},jW φ O w args vs->vs.length=args.length
 |[],[],_=>rfl
 |[],_::_,h=>h.elim
 |_::_,[],h=>h.elim
 |_::_,_::_,h=>by simp[jW.length h.2]
theorem jW.mono {φ φ':PM} {O O':Nat->Prop} {w w':World} {p:Nat->Bool} (hk:∀ x v,x.all p=ai->cL φ O w x v->cL φ' O' w' x v):∀ {args:List AV} {vs:List Value},AV.allL p args=ai->jW φ O w args vs->jW φ' O' w' args vs
 |[],[],_,_=>trivial
 |[],_::_,_,h=>h.elim
 |_::_,[],_,h=>h.elim
 |x::xs,_::_,hp,h=>by
  simp only[AV.allL,av] at hp;exact⟨hk _ _ hp.1 h.1,jW.mono hk hp.2 h.2⟩
theorem jW.append {φ:PM} {O:Nat->Prop} {w:World}:∀ {xs I:List AV} {vs us:List Value},jW φ O w xs vs->jW φ O w I us->jW φ O w (xs++I) (vs++us)
 |[],_,[],_,_,h=>h
 |[],_,_::_,_,h,_=>h.elim
 |_::_,_,[],_,h,_=>h.elim
 |_::_,_,_::_,_,h,h'=>⟨h.1,jW.append h.2 h'⟩
theorem jW.of {φ:PM} {O:Nat->Prop} {w:World}:∀ {xs:List AV} {vs:List Value},vs.length=xs.length->(∀ (j:Nat) x v,xs[j]? =af x->vs[j]? =af v->cL φ O w x v)->jW φ O w xs vs
 |[],[],_,_=>trivial
 |[],_::_,h,_=>by simp at h
 |_::_,[],h,_=>by simp at h
 |x::xs,v::vs,hl,h=>⟨h 0 x v rfl rfl,jW.of (by simpa using hl) λj x v I hv=>h (j+1) x v (by simpa using I) (by simpa using hv)⟩
def DA (P:Program) (f:FuncId):Prop:=∃ fn,P.funcs[f]? =af fn∧fn.body.isNone=aj∧(fn.name== "runtime.NumGoroutine")=aj
theorem NZ {φ:PM} {E:Nat->Prop} {h':HF} {w:World} {a:Act} {e:zA} {o:Oper} (hp:U4 φ E h' w a e o):∀ (xs:List Operand) (I:List AV),(∀ x∈xs,x∈o.op.operands)->V0 e xs=af I->jW φ (tot E φ h') w I (xs.map a.eval)
 |[],I,_,h=>by simp only[V0,ak] at h;subst h;trivial
 |x::xs,I,hm,h=>by
  simp only[V0] at h;split at h
  .rename_i y J;split at h
   .rename_i ys' hys;simp only[ak] at h;subst h;exact⟨hp x y (hm x (dz ..)) J,NZ hp xs ys' (λx M=>hm x (cM _ M)) hys⟩
   .cases h
  .cases h
theorem wP {P:Program} {f:FuncId} (hc:DA P f) (args:Array Value) (w:World):(callFunc f args).run P w= .ok (.enter f args) w:=by
 obtain⟨fn,h1,h2,M⟩:=hc;have I:fn.name≠ "runtime.NumGoroutine" :=by simpa using M
 have J:fn.body≠ah:=by intro h;rw[h] at h2;cases h2
 simp[callFunc,program,nj,h1,J,I]
theorem VU:∀ (fs:List FPm) (i:Nat),Xl fs i=fs[i]?
 |[],i=>by simp[Xl]
 |f::fs,0=>rfl
 |f::fs,i+1=>by simp[Xl,VU fs i]
theorem xt {a b:Nat} (h:Dd a b=ai) (i:Nat) (I:aM a i=ai):aM b i=aj:=by
 unfold Dd at h;have h0:a&&&b=0:=aw h;have:=Nat.testBit_and a b i;rw[h0,I] at this;simpa using this.symm
structure Ctx where
 n0:Nat
 φ:PM
 E:Nat->Prop
 h:HF
 w:World
def ab3 (P:Program) (d:Deferred):Prop:=∀ w:World,∃ J cap f args,d.target= .fn J cap/\(invoke d.target d.args).run P w= .ok (.enter f args) w/\
 CallsD P f args .returning w λe I w'=>(∃ v,e= .returned v)/\I= .returning/\w'=w
structure Cfg (P:Program) (C:Ctx) (nt:Nat) (s:IS) (a:Act) (w:World):Prop where
 ex:∃ φ,iY C.φ φ C.h s.h.get C.w w/\qP φ C.E s.h.get w/\MP φ (tot C.E φ s.h.get) w s.e.get a/\(∀ i k,φ i=af k->i<s.nx)/\∀ i k,φ i=af k->C.φ i=af k\/C.n0<=i
 low:C.n0<=s.nx
 inert:∀ d∈a.defers,ab3 P d
 size:a.tmps.size=nt
theorem Cfg.bool {P:Program} {C:Ctx} {nt:Nat} {s:IS} {a:Act} {w:World} (c:Cfg P C nt s a w) {t:Nat} {b:Bool} (ht:s.e.get t=af (.f (.raw (.bool b)))):a.eval (.tmp t)= .bool b:=by
 obtain⟨φ,_,_,en,_,_⟩:=c.ex;exact fm (en t _ ht)
theorem B3 {P:Program} {c:Code} {Q:Exit->Act->World->Prop} (I:Nat->Act->World->Prop) (round:∀ n a w,I n a w->c.wp P (Exit.then (λa' w'=>∃ m,m<n/\I m a' w') Q) a w) {n:Nat} {a:Act} {w:World} (h0:I n a w):(Code.loop c).wp P Q a w:=by
 have least:∀ (n:Nat) (a:Act) (w:World),I n a w->∃ m,I m a w/\∀ k,I k a w->m<=k:=by
  intro n;induction n using Nat.strongRecOn with
  |_ n U=>
   intro a w hn;by_cases J:∃ k,k<n/\I k a w
   .obtain⟨k,hk,M⟩:=J;exact U k hk a w M
   .exact⟨n,hn,λk hk=>Nat.le_of_not_lt λhlt=>J ⟨k,hlt,hk⟩⟩
 have pick:∀ a w,∃ m,(∃ n,I n a w)->I m a w/\∀ k,I k a w->m<=k:=λa w=>by
  by_cases J:∃ n,I n a w
  .obtain⟨n,hn⟩:=J;obtain⟨m,hm⟩:=least n a w hn;exact⟨m,λ_=>hm⟩
  .exact⟨0,λh=>cZ h J⟩
 let μ:Act->World->Nat:=λa w=>Classical.choose (pick a w)
 have hμ:∀ a w,(∃ n,I n a w)->I (μ a w) a w/\∀ k,I k a w->μ a w<=k:=λa w=>Classical.choose_spec (pick a w)
 refine wp_loop (λa w=>∃ n,I n a w) μ ⟨n,h0⟩ λa w M=>?_
 refine wp_mono (round (μ a w) a w (hμ a w M).1) λe a' w' he=>?_
 cases e with
 |normal=>
  obtain⟨m,hm,hIm⟩:=he;exact⟨⟨m,hIm⟩,Nat.lt_of_le_of_lt ((hμ a' w' ⟨m,hIm⟩).2 m hIm) hm⟩
 |exit id=>exact he
 |goto l=>exact he
 |ret=>exact he
 |panic c=>exact he
 |outgrown=>exact he
def Ex.to:Ex->Exit
 |.normal=>.normal
 |.exit id=>.exit id
 |.ret=>.ret
def Kg (P:Program) (inert:FuncId->Bool):Prop:=∀ f,inert f=ai->DA P f/\∀ (args:Array Value) (w:World),CallsD P f args .returning w λe I w'=>(∃ v,e= .returned v)/\I= .returning/\w'=w
theorem QO {P:Program} {C:Ctx} {nt:Nat} {inert:FuncId->Bool} (hin:Kg P inert) {s:IS} {a:Act} {w:World} (c:Cfg P C nt s a w) {id:Nat} {ops:Array Oper} {dr:Bool} {f:FuncId} {caps:List Operand} {t:Nat} (hd:(ops.toList.all λo=>match o.dst with|some d=>decide (d<nt)|none=>ai)=ai) (hdf:Df ops dr=af (f,caps,t))
 {l:List AV} (hl:V0 s.e caps=af l) (hi:inert f=ai) {Q:Exit->Act->World->Prop} (hQ:∀ a w,Cfg P C nt ⟨s.e.put (af t) (.clo f l),s.h,s.nx,s.wr⟩ a w->Q .normal a w):(Code.region id ops dr).wp P Q a w:=by
 unfold Df at hdf;split at hdf
 .rename_i p q hops;split at hdf
  .rename_i f' first caps' t1 cl hpo hpg hpd hqo hqg hqd
   split at hdf
   .rename_i t2 hcl hca;split at hdf
    .rename_i hcond;simp only[av] at hcond;obtain⟨h1,h2⟩:=hcond;have h1:=aw h1;have h2:first=#[]:=by simpa using h2
     simp only[ak,aD] at hdf;obtain⟨rfl,rfl,rfl⟩:=hdf;subst h1;subst h2;have hops':ops=#[p,q]:=by rw[<- Array.toArray_toList (xs:=ops),hops]
     obtain⟨φ,m,r,en,dm⟩:=c.ex;obtain⟨hcb,hincalls⟩:=hin f' hi;have htn:t1<nt:=by
      have:=gj.1 hd p (by rw[hops];simp);rw[hpd] at this;simpa using this
     have hrelL:jW φ (tot C.E φ s.h.get) w l (caps'.toList.map a.eval):=by
      have hp':U4 φ C.E s.h.get w a s.e p:=λx y U Y=>tf r (xs:=p.op.operands) (λt _ y Y=>en t y Y) U Y
      exact NZ hp' caps'.toList l (λx U=>by rw[hpo];simpa[Op.operands] using U) hl
     have hcm:caps'.map a.eval=(caps'.toList.map a.eval).toArray:=by apply Ko;simp
     let J:Value:=.func (.func f') #[] (caps'.map a.eval)
     have hrel:cL φ (tot C.E φ s.h.get) w (.clo f' l) J:=by
      simp only[J];rw[hcm];refine .clo (hrelL.length) ?_;have:∀ (xs:List AV) (vs:List Value),jW φ (tot C.E φ s.h.get) w xs vs->∀ (j:Nat) x v,xs[j]? =af x->vs[j]? =af v->cL φ (tot C.E φ s.h.get) w x v:=by
       intro xs;induction xs with
       |nil=>intro vs _ j x v U;simp at U
       |cons y xs ih=>
        intro vs h j x v U hv;cases vs with
        |nil=>exact h.elim
        |cons u vs=>
         cases j with
         |zero=>simp at U hv;subst U;subst hv;exact h.1
         |succ j=>exact ih vs h.2 j x v (by simpa using U) (by simpa using hv)
      exact this _ _ hrelL
     refine wp_region ?_;have Z:eS ops.size=[0,1]:=by rw[hops'];rfl
     rw[Z];have e0:ops[0]? =af p:=by rw[hops'];rfl
     have e1:ops[1]? =af q:=by rw[hops'];rfl
     rw[wpOps_cons];have hexec1:(execOp a.eval p).run P w= .ok (.value J) w:=by
      unfold execOp;rw[hpo];simp[Instr.makeFunc,J]
     have w1:iJ p (yielded ops a.tmps)=ai:=by unfold iJ;rw[hpg]
     unfold wpOp;simp only[e0,w1,bD];left;unfold GW;rw[hexec1];show wpOps P ops Q [1] (a.put p.dst J) w;rw[wpOps_cons];unfold wpOp;have w2:iJ q (yielded ops (a.put p.dst J).tmps)=ai:=by unfold iJ;rw[hqg]
     simp only[e1,w2,bD];left;have heval:(a.put p.dst J).eval (.tmp t1)=J:=by
      show (a.put p.dst J).tmps.getD t1 undef=J;rw[HJ (by intro d I;rw[hpd] at I;cases I;rw[c.size];exact htn),aE hpd]
     have hargs:cl.args=#[]:=by rw[<- Array.toArray_toList (xs:=cl.args),hca]
     have hexec2:(execOp (a.put p.dst J).eval q).run P w= .ok (.defer {target:=.fn (.func f') (caps'.map a.eval),args:=#[]}) w:=by
      unfold execOp;rw[hqo];simp[resolve,hcl,heval,J,Deferred.ofValue,hargs]
     unfold GW;rw[hexec2];show wpOps P ops Q [] _ w;refine hQ _ _ ⟨⟨φ,m,r,?_,dm⟩,c.low,?_,?_⟩
     .intro u x U;rw[hqd];show cL φ _ w x ((a.put p.dst J).tmps.getD u undef);rw[HJ (by intro d I;rw[hpd] at I;cases I;rw[c.size];exact htn)];have M:(s.e.put (af t1) (.clo f' l)).get u=af x:=U;rw[<- Y1] at M;unfold Cg at M;rw[hpd];by_cases hu:af t1=af u
      .rw[aE hu] at M ⊢;cases M;exact hrel
      .rw[aB hu] at M ⊢;exact en u x M
     .intro d I;rw[hqd] at I;have hd'':d={target:=.fn (.func f') (caps'.map a.eval),args:=#[]}\/d∈(a.put p.dst J).defers:=by
       simpa[MX] using I
      rcases hd'' with rfl|hd''
      .intro w0;refine ⟨_,_,f',caps'.map a.eval,rfl,?_,hincalls _ w0⟩;simp[invoke,wP hcb]
      .rw[HK] at hd'';exact c.inert d hd''
     .rw[hqd];show (a.put p.dst J).tmps.size=nt;rw[Po];exact c.size
    .cases hdf
   .cases hdf
  .cases hdf
 .cases hdf
def WF (tmps:Array Value):ResultVar->Sem Value
 |.tmp t=>pure (tmps.getD t undef)
 |.cell a t=>do
  let I<-asAddr (tmps.getD a undef)
  loadVar t I
theorem SK (fn:Func) (tmps:Array Value):results fn tmps=(do let vs<-fn.results.mapM (WF tmps);pure (if h:vs.size=1 then vs[0] else .tuple vs)):=by
 unfold results;congr 2
theorem Cq {P:Program} {fn:Func} {tmps:Array Value} {R:Ending->World->Prop} {w:World} {v:Value} (hr:(results fn tmps).run P w= .ok v w) (I:R (.returned v) w):∀ (ds:List Deferred),(∀ d∈ds,ab3 P d)->Leaves P fn tmps R ds .returning w
 |[],_=>⟨v,hr,I⟩
 |d::ds,h=>by
  obtain⟨M,cap,f,args,h1,h2,J⟩:=h d (dz ..) w;refine ⟨by simp,M,cap,f,args,h1,h2,J.mono ?_⟩;rintro e Y w' ⟨⟨U,rfl⟩,rfl,rfl⟩;exact Cq hr I ds λd hd=>h d (cM _ hd)
theorem jW.get {φ:PM} {O:Nat->Prop} {w:World}:∀ {xs:List AV} {vs:List Value},jW φ O w xs vs->∀ (j:Nat) x,xs[j]? =af x->∃ v,vs[j]? =af v/\cL φ O w x v
 |[],_,_,j,x,I=>by simp at I
 |_::_,[],h,_,_,_=>h.elim
 |y::xs,u::vs,h,j,x,I=>by
  cases j with
  |zero=>simp at I;subst I;exact⟨u,rfl,h.1⟩
  |succ j=>exact jW.get h.2 j x (by simpa using I)
theorem Rt {P:Program} {f:FuncId} {I:SF} (h:zj P f=af I):∃ fn c,P.funcs[f]? =af fn∧fn.body=af c∧(fn.name== "runtime.NumGoroutine")=aj∧I.code=cq P fn.ntmps c∧uZ P fn.results.toList=af I.res∧I.nt=fn.ntmps:=by
 unfold zj at h;split at h
 .rename_i fn hf;split at h
  .cases h
  .rename_i hn;split at h
   .rename_i c r hb hr;simp only[ak] at h;subst h;exact⟨fn,c,hf,hb,by simpa using hn,rfl,hr,rfl⟩
   .cases h
 .cases h
theorem adr {a b:Value} (h:agx a b=ai):a=b:=by
 unfold agx at h;split at h
 .simp at h;rw[h]
 .simp at h;rw[h.1,h.2]
 .rw[zn.1 h]
 .simp only[av] at h;rw[aw h.1,aw h.2]
 .rfl
 .rename_i x y;simp only[av,Array.isEmpty_iff] at h;rw[h.1,h.2]
 .cases h
def PT.mapO {α β:Type} (g:α->Option β):PT α->PT β
 |.leaf=>.leaf
 |.node v l r=>.node (v.bind g) (PT.mapO g l) (PT.mapO g r)
theorem PT.get_mapO {α β:Type} (g:α->Option β):∀ (t:PT α) (i:Nat),(PT.mapO g t).get i=(t.get i).bind g
 |.leaf,i=>by simp[PT.mapO,PT.get]
 |.node v l r,0=>by simp[PT.mapO,PT.get]
 |.node v l r,j+1=>by
  simp only[PT.mapO,PT.get];split
  .exact PT.get_mapO g l _
  .exact PT.get_mapO g r _
theorem PT.get_updI {α:Type} (f:Nat->α->α):∀ (t:PT α) (a b i:Nat),(PT.updI f a b t).get i=(t.get i).map (f (a*i+b))
 |.leaf,_,_,i=>by simp[PT.updI,PT.get]
 |.node v l r,a,b,0=>by cases v<;>simp[PT.updI,PT.get]
 |.node v l r,a,b,j+1=>by
  simp only[PT.updI,PT.get];split
  .rename_i hj;rw[PT.get_updI f l];have:2*a*(j/2)+(a+b)=a*(j+1)+b:=by
    have h2:j=2*(j/2):=by have:=aw hj;omega
    have I:2*a*(j/2)=a*j:=by rw[GZ 2 a,Nat.mul_assoc,<-h2]
    rw[I,Nat.mul_add];omega
   rw[this]
  .rename_i hj;rw[PT.get_updI f r];have:2*a*(j/2)+(2*a+b)=a*(j+1)+b:=by
    have h1:j%2≠0:=λh=>hj (by rw[h];rfl)
    have h2:j=2*(j/2)+1:=by omega
    have I:2*a*(j/2)=a*(2*(j/2)):=by rw[GZ 2 a,Nat.mul_assoc]
    have J:a*(j+1)=a*(2*(j/2))+2*a:=by
     conv=>lhs;rw[h2]
     rw[Nat.mul_add,Nat.mul_add];omega
    rw[I,J];omega
   rw[this]
theorem PT.bound {α:Type}:∀ (t:PT α),∃ B,∀ i,B<=i->t.get i=ah
 |.leaf=>⟨0,λi _=>rfl⟩
 |.node v l r=>by
  obtain⟨a,I⟩:=PT.bound l;obtain⟨b,hb⟩:=PT.bound r;refine ⟨2*(a+b)+3,λi hi=>?_⟩;cases i with
  |zero=>omega
  |succ j=>
   simp only[PT.get];split
   .exact I _ (by omega)
   .exact hb _ (by omega)
def PT.ofF {α:Type} (f:Nat->Option α):Nat->PT α
 |0=>.leaf
 |n+1=>(PT.ofF f n).set n (f n)
theorem PT.get_ofF {α:Type} (f:Nat->Option α):∀ (n i:Nat),(PT.ofF f n).get i=if i<n then f i else ah
 |0,i=>by simp[PT.ofF,PT.get]
 |n+1,i=>by
  rw[PT.ofF,PT.get_set,PT.get_ofF f n];by_cases h:i=n
  .subst h;simp
  .rw[aB h];by_cases h2:i<n
   .rw[aE h2,aE (by omega)]
   .rw[aB h2,aB (by omega)]
def nm (i:Nat):Nat:=2*i
def ow (n:Nat):Nat:=n/2
theorem dX (i:Nat):ow (nm i)=i:=by unfold ow nm;omega
theorem kN {i j:Nat} (h:nm i=nm j):i=j:=by unfold nm at h;omega
def fk (p:Bool) (id sz n:Nat):AV:=if p&&n==0 then .emp else .row (nm id) sz n
mutual
def co (h:bh):TV->Option AV
 |.f T v=>af (.f (gE T v))
 |.fel T xs j _ off=>af (.f (.ptr (xs.flatMap (bS T)) (j.toNat*T.size+off)))
 |.pel id sz j off=>af (.ptr (nm id) (j.toNat*sz+off))
 |.ptr id off=>af (.ptr (nm id) off)
 |.csl id sz n=>af (.row (nm id) sz n)
 |.row id=>match em h id with|some (p,sz,n)=>af (fk p id sz n)|none=>ah
 |.rtl id j=>match em h id with|some (_,sz,n)=>af (.sl (nm id) (j.toNat*sz) (n-j.toNat))|none=>ah
 |.emp=>af .emp
 |.nil=>af (.f (.raw (.slice ah 0 0)))
 |.mp id=>af (.mp (nm id))
 |.agg l=>match cK h l with|some l'=>af (.agg l')|none=>ah
 |.tup l=>match cK h l with|some l'=>af (.tup l')|none=>ah
 |.clo g l=>match cK h l with|some l'=>af (.clo g l')|none=>ah
 |.undef=>af (.f (.raw undef))
 |.np=>af (.f (.raw (.pointer ah)))
 |.anyb=>af .anyb
def cK (h:bh):List TV->Option (List AV)
 |[]=>af []
 |x::r=>match co h x with
  |some y=>(match cK h r with|some l=>af (y::l)|none=>ah)
  |none=>ah
end
def pD:(K:Ty)->K.den->Value
 |.int k,n=>.int k n
 |.str,s=>.string ⟨kB s⟩
 |_,_=>undef
def Zg:(K V:Ty)->List (K.den×V.den)->BC
 |.st (.pr .str (.int .i64)),.un,es=>.it ⟨kB (OT es)⟩ (No es)
 |K,V,es=>.mp (es.map λp=>(pD K p.1,.f (gE V p.2)))
theorem Bu {K V:Ty} {es:List (K.den×V.den)} (h:S_ K=ai):Zg K V es= .mp (es.map λp=>(pD K p.1,.f (gE V p.2))):=by
 unfold Zg;split
 .cases h
 .rfl
theorem agj {K V:Ty} {es:List (K.den×V.den)} {s:List UInt8} {p:Nat} (h:itE K V es=af (s,p)):Zg K V es= .it ⟨kB s⟩ p:=by
 unfold itE at h;split at h
 .cases h;rfl
 .cases h
def kw (h:bh):ip->Option wK
 |.rows ty p T xs=>if p&&xs.length==0 then ah else af ⟨ty,.fz (xs.flatMap (bS T))⟩
 |.cells ty l=>match cK h l with|some I=>af ⟨ty,.mx I⟩|none=>ah
 |.dead _ _ _=>ah
 |.mp K V es=>af ⟨0,Zg K V es⟩
def fM (e:iN) (h:bh):EF:=λt=>(e.get t).bind (co h)
def bA (h:bh):HF:=λn=>if n%2=0 then (h.get (n/2)).bind (kw h) else ah
theorem bJ (h:bh) (i:Nat):bA h (nm i)=(h.get i).bind (kw h):=by
 unfold bA nm;rw[aE (by omega),show 2*i/2=i from by omega]
theorem jw {h:bh} {n:Nat} {b:wK} (hb:bA h n=af b):∃ i c,n=nm i/\h.get i=af c/\kw h c=af b:=by
 unfold bA at hb;split at hb
 .cases hc:h.get (n/2) with
  |none=>rw[hc] at hb;cases hb
  |some c=>rw[hc] at hb;exact⟨n/2,c,by unfold nm;omega,hc,hb⟩
 .cases hb
def IR (e:iN) (h:bh):zA:=PT.mapO (co h) e
theorem uU (e:iN) (h:bh):(IR e h).get=fM e h:=by funext t;exact PT.get_mapO _ _ _
theorem jL (h:bh):∃ H:nP,H.get=bA h:=by
 obtain⟨B,I⟩:=PT.bound h;refine ⟨PT.ofF (bA h) (2*B),?_⟩;funext n;rw[PT.get_ofF];split
 .rfl
 .unfold bA;split
  .rw[I _ (by omega)];rfl
  .rfl
theorem cY {h:bh} {x:TV} {r:List TV} {l:List AV} (he:cK h (x::r)=af l):∃ y I,l=y::I/\co h x=af y/\cK h r=af I:=by
 simp only[cK] at he;split at he
 .rename_i y J;split at he
  .rename_i I hl;simp only[ak] at he;exact⟨y,I,he.symm,J,hl⟩
  .cases he
 .cases he
theorem oS {h:bh} {x:TV} {r:List TV} {y:AV} {I:List AV} (h1:co h x=af y) (h2:cK h r=af I):cK h (x::r)=af (y::I):=by
 simp only[cK,h1,h2]
theorem hZ {h:bh}:∀ {l:List TV} {I:List AV},cK h l=af I->I.length=l.length
 |[],I,he=>by simp only[cK,ak] at he;subst he;rfl
 |x::r,I,he=>by
  obtain⟨y,l2,rfl,_,h2⟩:=cY he;simp[hZ h2]
theorem mX {h:bh}:∀ {a b:List TV} {a' b':List AV},cK h a=af a'->cK h b=af b'->cK h (a++b)=af (a'++b')
 |[],b,a',b',I,hb=>by simp only[cK,ak] at I;subst I;exact hb
 |x::r,b,a',b',I,hb=>by
  obtain⟨y,l2,rfl,h1,h2⟩:=cY I;exact oS h1 (mX h2 hb)
theorem BH {h:bh}:∀ {a b:List TV} {l:List AV},cK h (a++b)=af l->∃ a' b',l=a'++b'/\cK h a=af a'/\cK h b=af b'
 |[],b,l,he=>⟨[],l,rfl,rfl,he⟩
 |x::r,b,l,he=>by
  obtain⟨y,l2,rfl,h1,h2⟩:=cY he;obtain⟨a',b',rfl,J,I⟩:=BH h2;exact⟨y::a',b',rfl,oS h1 J,I⟩
theorem Es {h:bh}:∀ {l:List TV} {I:List AV} (n:Nat),cK h l=af I->cK h (l.take n)=af (I.take n)
 |[],I,n,he=>by simp only[cK,ak] at he;subst he;simp[cK]
 |x::r,I,n,he=>by
  obtain⟨y,l2,rfl,h1,h2⟩:=cY he;cases n with
  |zero=>simp[cK]
  |succ n=>exact oS h1 (Es n h2)
theorem Eu {h:bh}:∀ {l:List TV} {I:List AV} (n:Nat),cK h l=af I->cK h (l.drop n)=af (I.drop n)
 |[],I,n,he=>by simp only[cK,ak] at he;subst he;simp[cK]
 |x::r,I,n,he=>by
  obtain⟨y,l2,rfl,h1,h2⟩:=cY he;cases n with
  |zero=>exact he
  |succ n=>simpa using Eu n h2
theorem sh {h:bh} {l vs:List TV} {I vs':List AV} (off:Nat) (h1:cK h l=af I) (h2:cK h vs=af vs'):cK h (splice l off vs)=af (splice I off vs'):=by
 unfold splice;rw[hZ h2];exact mX (mX (Es _ h1) h2) (Eu _ h1)
theorem lZ {h:bh}:∀ {l:List TV} {I:List AV},cK h l=af I->∀ (j:Nat) x,l[j]? =af x->∃ y,I[j]? =af y/\co h x=af y
 |[],I,he,j,x,M=>by simp at M
 |x::r,I,he,j,z,J=>by
  obtain⟨y,l2,rfl,h1,h2⟩:=cY he;cases j with
  |zero=>simp at J;subst J;exact⟨y,rfl,h1⟩
  |succ j=>simpa using lZ h2 j z (by simpa using J)
mutual
theorem pU (h:bh):∀ (u:TV),KC h u=ai->∃ y,co h u=af y
 |.f _ _,_=>⟨_,rfl⟩
 |.fel _ _ _ _ _,_=>⟨_,rfl⟩
 |.pel _ _ _ _,_=>⟨_,rfl⟩
 |.ptr _ _,_=>⟨_,rfl⟩
 |.csl _ _ _,_=>⟨_,rfl⟩
 |.row id,he=>by
  simp only[KC] at he;cases hr:em h id with
  |none=>rw[hr] at he;cases he
  |some r=>obtain⟨p,sz,n⟩:=r;exact⟨_,by simp only[co,hr];rfl⟩
 |.rtl id jj,he=>by
  simp only[KC] at he;cases hr:em h id with
  |none=>rw[hr] at he;cases he
  |some r=>obtain⟨p,sz,n⟩:=r;exact⟨_,by simp only[co,hr];rfl⟩
 |.emp,_=>⟨_,rfl⟩
 |.nil,_=>⟨_,rfl⟩
 |.mp _,_=>⟨_,rfl⟩
 |.agg l,he=>by obtain⟨y,hy⟩:=fh h l he;exact⟨_,by simp only[co,hy];rfl⟩
 |.tup l,he=>by obtain⟨y,hy⟩:=fh h l he;exact⟨_,by simp only[co,hy];rfl⟩
 |.clo g l,he=>by obtain⟨y,hy⟩:=fh h l he;exact⟨_,by simp only[co,hy];rfl⟩
 |.undef,_=>⟨_,rfl⟩
 |.np,_=>⟨_,rfl⟩
 |.anyb,_=>⟨_,rfl⟩
theorem fh (h:bh):∀ (l:List TV),kM h l=ai->∃ l',cK h l=af l'
 |[],_=>⟨[],rfl⟩
 |x::r,he=>by
  simp only[kM,av] at he;obtain⟨y,hy⟩:=pU h x he.1;obtain⟨l',hl⟩:=fh h r he.2;exact⟨_,oS hy hl⟩
end
def cj (h h':bh):Prop:=∀ id r,em h id=af r->em h' id=af r
mutual
theorem gz {h h':bh} (hk:cj h h'):∀ (u:TV) (y:AV),co h u=af y->co h' u=af y
 |.f _ _,y,he=>he
 |.fel _ _ _ _ _,y,he=>he
 |.pel _ _ _ _,y,he=>he
 |.ptr _ _,y,he=>he
 |.csl _ _ _,y,he=>he
 |.row id,y,he=>by
  simp only[co] at he ⊢;split at he
  .rename_i p sz n hr;rw[hk _ _ hr];exact he
  .cases he
 |.rtl id jj,y,he=>by
  simp only[co] at he ⊢;split at he
  .rename_i p sz n hr;rw[hk _ _ hr];exact he
  .cases he
 |.emp,y,he=>he
 |.nil,y,he=>he
 |.mp _,y,he=>he
 |.agg l,y,he=>by
  simp only[co] at he ⊢;split at he
  .rename_i l' hl;rw[gY hk l l' hl];exact he
  .cases he
 |.tup l,y,he=>by
  simp only[co] at he ⊢;split at he
  .rename_i l' hl;rw[gY hk l l' hl];exact he
  .cases he
 |.clo g l,y,he=>by
  simp only[co] at he ⊢;split at he
  .rename_i l' hl;rw[gY hk l l' hl];exact he
  .cases he
 |.undef,y,he=>he
 |.np,y,he=>he
 |.anyb,y,he=>he
theorem gY {h h':bh} (hk:cj h h'):∀ (l:List TV) (l':List AV),cK h l=af l'->cK h' l=af l'
 |[],l',he=>he
 |x::r,l',he=>by
  obtain⟨y,l2,rfl,h1,h2⟩:=cY he;exact oS (gz hk x y h1) (gY hk r l2 h2)
end
mutual
theorem oq {h h':bh} (hk:cj h h'):∀ (u:TV),KC h u=ai->KC h' u=ai
 |.f _ _,_=>rfl
 |.fel _ _ _ _ _,_=>rfl
 |.pel _ _ _ _,_=>rfl
 |.ptr _ _,_=>rfl
 |.csl _ _ _,_=>rfl
 |.row id,he=>by
  simp only[KC] at he ⊢;cases hr:em h id with
  |none=>rw[hr] at he;cases he
  |some r=>rw[hk _ _ hr];rfl
 |.rtl id jj,he=>by
  simp only[KC] at he ⊢;cases hr:em h id with
  |none=>rw[hr] at he;cases he
  |some r=>rw[hk _ _ hr];rfl
 |.emp,_=>rfl
 |.nil,_=>rfl
 |.mp _,_=>rfl
 |.agg l,he=>iU hk l he
 |.tup l,he=>iU hk l he
 |.clo g l,he=>iU hk l he
 |.undef,_=>rfl
 |.np,_=>rfl
 |.anyb,_=>rfl
theorem iU {h h':bh} (hk:cj h h'):∀ (l:List TV),kM h l=ai->kM h' l=ai
 |[],_=>rfl
 |x::r,he=>by
  simp only[kM,av] at he ⊢;exact⟨oq hk x he.1,iU hk r he.2⟩
end
mutual
theorem Ep (h:bh):∀ (u:TV) (y:AV),co h u=af y->KC h u=ai
 |.f _ _,_,_=>rfl
 |.fel _ _ _ _ _,_,_=>rfl
 |.pel _ _ _ _,_,_=>rfl
 |.ptr _ _,_,_=>rfl
 |.csl _ _ _,_,_=>rfl
 |.row id,y,he=>by
  simp only[KC,co] at he ⊢;cases hr:em h id with
  |none=>rw[hr] at he;cases he
  |some r=>rfl
 |.rtl id jj,y,he=>by
  simp only[KC,co] at he ⊢;cases hr:em h id with
  |none=>rw[hr] at he;cases he
  |some r=>rfl
 |.emp,_,_=>rfl
 |.nil,_,_=>rfl
 |.mp _,_,_=>rfl
 |.agg l,y,he=>by
  simp only[co] at he;split at he
  .rename_i l' hl;exact kH h l l' hl
  .cases he
 |.tup l,y,he=>by
  simp only[co] at he;split at he
  .rename_i l' hl;exact kH h l l' hl
  .cases he
 |.clo g l,y,he=>by
  simp only[co] at he;split at he
  .rename_i l' hl;exact kH h l l' hl
  .cases he
 |.undef,_,_=>rfl
 |.np,_,_=>rfl
 |.anyb,_,_=>rfl
theorem kH (h:bh):∀ (l:List TV) (l':List AV),cK h l=af l'->kM h l=ai
 |[],_,_=>rfl
 |x::r,l',he=>by
  obtain⟨y,l2,rfl,h1,h2⟩:=cY he;simp only[kM,av];exact⟨Ep h x y h1,kH h r l2 h2⟩
end
mutual
theorem Qw (h h':bh):∀ (u:TV),t7 u=ai->co h u=co h' u
 |.f _ _,_=>rfl
 |.fel _ _ _ _ _,_=>rfl
 |.pel _ _ _ _,_=>rfl
 |.ptr _ _,_=>rfl
 |.csl _ _ _,_=>rfl
 |.row id,he=>by cases he
 |.emp,_=>rfl
 |.nil,_=>rfl
 |.mp _,_=>rfl
 |.agg l,he=>by simp only[co];rw[Et h h' l he]
 |.tup l,he=>by simp only[co];rw[Et h h' l he]
 |.clo g l,he=>by cases he
 |.undef,_=>rfl
 |.np,_=>rfl
 |.anyb,_=>rfl
theorem Et (h h':bh):∀ (l:List TV),qj l=ai->cK h l=cK h' l
 |[],_=>rfl
 |x::r,he=>by
  simp only[qj,av] at he;simp only[cK];rw[Qw h h' x he.1,Et h h' r he.2]
end
theorem Np {h:bh} {u:TV} {y:AV} (he:co h u=af y) (hc:u.isC=ai):y.isCell=ai:=by
 cases u with
 |f T v=>cases T<;>simp only[co,ak] at he<;>subst he<;>first|rfl|(simp [TV.isC,Ty.one] at hc)
 |fel T xs j hj off=>simp only[co,ak] at he;subst he;rfl
 |pel id sz j off=>simp only[co,ak] at he;subst he;rfl
 |ptr id off=>simp only[co,ak] at he;subst he;rfl
 |csl id off z=>simp only[co,ak] at he;subst he;rfl
 |row id=>
  simp only[co] at he;split at he
  .simp only[ak] at he;subst he;unfold fk;split<;>rfl
  .cases he
 |rtl id I=>cases hc
 |emp=>simp only[co,ak] at he;subst he;rfl
 |nil=>simp only[co,ak] at he;subst he;rfl
 |mp id=>simp only[co,ak] at he;subst he;rfl
 |agg l=>cases hc
 |tup l=>cases hc
 |clo g l=>
  simp only[co] at he;split at he
  .simp only[ak] at he;subst he;rfl
  .cases he
 |undef=>cases hc
 |np=>simp only[co,ak] at he;subst he;rfl
 |anyb=>cases hc
theorem rU {h:bh}:∀ {l:List TV} {I:List AV},cK h l=af I->kq l=ai->gD I=ai
 |[],I,he,_=>by simp only[cK,ak] at he;subst he;rfl
 |x::r,I,he,hc=>by
  obtain⟨y,l2,rfl,h1,h2⟩:=cY he;simp only[kq,av] at hc;simp only[gD,av];exact⟨Np h1 hc.1,rU h2 hc.2⟩
def Le (x y:AV):Prop:=∀ (φ:PM) (O:Nat->Prop) (w:World) (v:Value),cL φ O w x v->cL φ O w y v
theorem Le.refl (x:AV):Le x x:=λ_ _ _ _ h=>h
def lJ (H H':HF) (x y:AV):Prop:=∀ (φ:PM) (E:Nat->Prop) (w:World) (v:Value),qP φ E H w->cL φ (tot E φ H) w x v->cL φ (tot E φ H') w y v
def vb (H H':HF):Prop:=∀ i b,H' i=af b->∃ b0,H i=af b0
theorem vb.refl (H:HF):vb H H:=λ_ b h=>⟨b,h⟩
theorem vb.own {H H':HF} (d:vb H H') {φ:PM} {k:Nat} (h:own φ H' k):own φ H k:=by
 obtain⟨i,b,h1,h2⟩:=h;obtain⟨b0,I⟩:=d i b h1;exact⟨i,b0,I,h2⟩
theorem vb.tot {H H':HF} (d:vb H H') {E:Nat->Prop} {φ:PM} {k:Nat} (h:tot E φ H' k):tot E φ H k:=h.imp id d.own
theorem cL.dom {H H':HF} (d:vb H H') {φ:PM} {E:Nat->Prop} {w:World} {x:AV} {v:Value} (h:cL φ (tot E φ H) w x v):cL φ (tot E φ H') w x v:=
 h.ext (λ_ _ h=>h) (Ki.refl _ w) λ_ _ hk=>d.tot hk
theorem m6.dom {H H':HF} (d:vb H H') {φ:PM} {E:Nat->Prop} {w:World} {x:FV} {v:Value} (h:m6 (tot E φ H) w x v):m6 (tot E φ H') w x v:=
 h.ext (Ki.refl _ w) λ_ _ hk=>d.tot hk
theorem Le.toH {H H':HF} (d:vb H H') {x y:AV} (h:Le x y):lJ H H' x y:=λφ E w v _ hr=>(h _ _ _ _ hr).dom d
theorem lJ.refl {H H':HF} (d:vb H H') (x:AV):lJ H H' x x:=(Le.refl x).toH d
def ie (H H':HF):List AV->List AV->Prop
 |[],[]=>True
 |x::xs,y::I=>lJ H H' x y/\ie H H' xs I
 |_,_=>False
theorem ie.refl {H H':HF} (d:vb H H'):∀ l,ie H H' l l
 |[]=>trivial
 |x::r=>⟨lJ.refl d x,ie.refl d r⟩
theorem ie.length {H H':HF}:∀ {l I:List AV},ie H H' l I->I.length=l.length
 |[],[],_=>rfl
 |[],_::_,h=>h.elim
 |_::_,[],h=>h.elim
 |_::_,_::_,h=>by simp[ie.length h.2]
theorem ie.get {H H':HF}:∀ {l J:List AV},ie H H' l J->∀ (j:Nat) y,J[j]? =af y->∃ x,l[j]? =af x/\lJ H H' x y
 |[],[],_,j,y,I=>by simp at I
 |[],_::_,h,_,_,_=>h.elim
 |_::_,[],h,_,_,_=>h.elim
 |x::xs,z::ys,h,j,y,I=>by
  cases j with
  |zero=>simp at I;subst I;exact⟨x,rfl,h.1⟩
  |succ j=>simpa using ie.get h.2 j y (by simpa using I)
theorem ie.append {H H':HF}:∀ {a a' b b':List AV},ie H H' a a'->ie H H' b b'->ie H H' (a++b) (a'++b')
 |[],[],_,_,_,h=>h
 |[],_::_,_,_,h,_=>h.elim
 |_::_,[],_,_,h,_=>h.elim
 |_::_,_::_,_,_,h,h'=>⟨h.1,ie.append h.2 h'⟩
theorem ie.take {H H':HF}:∀ {a a':List AV} (n:Nat),ie H H' a a'->ie H H' (a.take n) (a'.take n)
 |[],[],n,_=>by simp[ie]
 |[],_::_,_,h=>h.elim
 |_::_,[],_,h=>h.elim
 |_::_,_::_,0,_=>trivial
 |_::_,_::_,n+1,h=>⟨h.1,ie.take n h.2⟩
theorem ie.drop {H H':HF}:∀ {a a':List AV} (n:Nat),ie H H' a a'->ie H H' (a.drop n) (a'.drop n)
 |[],[],n,_=>by simp[ie]
 |[],_::_,_,h=>h.elim
 |_::_,[],_,h=>h.elim
 |_::_,_::_,0,h=>h
 |_::_,_::_,n+1,h=>ie.drop n h.2
theorem ie.splice {H H':HF} {a a' b b':List AV} (off:Nat) (h1:ie H H' a a') (h2:ie H H' b b'):ie H H' (splice a off b) (splice a' off b'):=by
 unfold AI.splice;rw[h2.length];exact ((h1.take off).append h2).append (h1.drop _)
def jX (H H':HF) (b b':wK):Prop:=∀ (φ:PM) (E:Nat->Prop) (w:World) (o:Obj),qP φ E H w->js φ (tot E φ H) w b o->js φ (tot E φ H') w b' o
theorem jX.refl {H H':HF} (d:vb H H') (b:wK):jX H H' b b:=λ_ _ _ _ _ h=>h.mono λ_ _ h=>h.dom d
theorem pw {φ:PM} {O:Nat->Prop} {w:World} {ty:TypeId} {c:BC} {o:Obj} (hc:c.isCells=ai):js φ O w ⟨ty,c⟩ o↔∃ arr,o= .cells arr ty (0,0)/\ve φ O w c arr:=by
 unfold js;cases c<;>simp[BC.isCells] at hc<;>rfl
theorem jX.cells {H H':HF} {ty:TypeId} {c c':BC} (hc:c.isCells=ai) (I:c'.isCells=ai) (hl:ie H H' c.toMx c'.toMx) (hcell:∀ x∈c'.toMx,x.isCell=ai):jX H H' ⟨ty,c⟩ ⟨ty,c'⟩:=by
 intro φ E w o hrep M;rw[pw hc] at M;rw[pw I];obtain⟨arr,h1,h2,h3⟩:=M;refine ⟨arr,h1,by rw[BC.len_toMx I,hl.length,<-BC.len_toMx hc];exact h2,λj x J=>?_⟩;rw[BC.get_toMx I] at J;refine ⟨hcell x (ba J),?_⟩;obtain⟨y,U,hle⟩:=hl.get j x J;obtain⟨_,v,Z,Y⟩:=h3 j y (by rw[BC.get_toMx hc];exact U);exact⟨v,Z,hle _ _ _ _ hrep Y⟩
theorem jX.eq {H H':HF} (d:vb H H') {ty:TypeId} {c c':BC} (hc:c.isCells=ai) (I:c'.isCells=ai) (hl:c.toMx=c'.toMx):jX H H' ⟨ty,c⟩ ⟨ty,c'⟩:=by
 intro φ E w o hrep M;rw[pw hc] at M;rw[pw I];obtain⟨arr,h1,h2,h3⟩:=M;refine ⟨arr,h1,by rw[BC.len_toMx I,<-hl,<-BC.len_toMx hc];exact h2,λj x J=>?_⟩;rw[BC.get_toMx I,<-hl,<-BC.get_toMx hc] at J;obtain⟨Z,v,Y,U⟩:=h3 j x J;exact⟨Z,v,Y,U.dom d⟩
structure J7 (H H':HF):Prop where
 dom:vb H H'
 blk:∀ i b b',H i=af b->H' i=af b'->jX H H' b b'
theorem J7.refl (H:HF):J7 H H:=⟨vb.refl H,λi b b' h h'=>by rw[h] at h';cases h';exact jX.refl (vb.refl H) b⟩
theorem J7.rep {H H':HF} (V:J7 H H') {φ:PM} {E:Nat->Prop} {w:World} (r:qP φ E H w):qP φ E H' w:=by
 refine ⟨λi j b b' k J Z Y U=>?_,λi b J=>?_,r.el,λg cells hg=>(r.gl g cells hg).dom V.dom⟩
 .obtain⟨b0,I⟩:=V.dom i b J;obtain⟨b1,M⟩:=V.dom j b' Z;exact r.inj i j b0 b1 k I M Y U
 .obtain⟨b0,I⟩:=V.dom i b J;obtain⟨k,p1,p2,ob,p3,p4⟩:=r.at_ i b0 I;exact⟨k,p1,p2,ob,p3,V.blk i b0 b I J φ E w ob r p4⟩
theorem gK.view {P:Program} {o:Oper} {e:EF} {h:HF} {val val':AV} {rd wr wr' N:List Nat} {nw nw':HF} (ht:gK P o e h ⟨val,rd,wr,nw,N⟩) (hsub:∀ i∈wr,i∈wr'\/i∈rd)
 (hv:∀ h':HF,(∀ i∈rd,h' i=h i)->(∀ i∈wr',h' i=h i)->J7 (eO h' wr nw) (eO h' wr' nw')/\lJ (eO h' wr nw) (eO h' wr' nw') val val'):gK P o e h ⟨val',rd,wr',nw',N⟩:=by
 intro φ E h' w a h1 h2 Z Y U;have J:=ht φ E h' w a h1 (λi hi=>(hsub i hi).elim (h2 i) (h1 i)) Z Y U;obtain⟨V,hle⟩:=hv h' h1 h2;refine OY ?_ J;rintro a' w' ⟨v,φ',rfl,mv,nm',I,rel⟩;exact⟨v,φ',rfl,⟨mv.sub,mv.ext,λk hk M=>mv.own_ k hk (V.dom.own M)⟩,nm',V.rep I,hle _ _ _ _ I rel⟩
theorem Le.nil:Le (.f (.raw (.slice ah 0 0))) (.f (.sl [] 0)):=by
 intro φ O w v hr;cases hr with
 |f hr=>cases hr;exact .f (.nil ah 0 (by unfold maxLen;omega))
theorem Le.emp:Le .emp (.f (.sl [] 0)):=by
 intro φ O w v hr;cases hr with
 |emp=>exact .f (.nil _ 0 (by unfold maxLen;omega))
theorem Le.nilEmp:Le (.f (.raw (.slice ah 0 0))) .emp:=by
 intro φ O w v hr;cases hr with
 |f hr=>cases hr;exact .emp
theorem Le.aggF {l:List FV}:Le (.f (.agg l)) (.agg (l.map .f)):=by
 intro φ O w v hr;cases hr with
 |f hr=>
  cases hr with
  |agg _ vs hl hcl hrr=>
   refine .agg (by simp[hl]) (λx I=>?_) λj x u I hu=>?_
   .obtain⟨y,J,rfl⟩:=dk.1 I;exact hcl y J
   .rw[bc] at I;cases hc:l[j]? with
    |none=>rw[hc] at I;cases I
    |some y=>rw[hc] at I;simp at I;subst I;exact .f (hrr j y u hc hu)
theorem Zh (l:List AV):Le (L3 l) (.agg l):=by
 unfold L3;split
 .rename_i fs h;rw[pG h];exact Le.aggF
 .exact Le.refl _
theorem lJ.aggL {H H':HF} {l:List AV} {I:List FV} (h:ie H H' l (I.map .f)) (hc:∀ x∈I,x.isCell=ai):lJ H H' (.agg l) (.f (.agg I)):=by
 intro φ E w v hrep hr;cases hr with
 |@agg _ vs hl hcl hrr=>
  refine .f (.agg I vs (by rw[hl,<-h.length];simp) hc λj y u J hu=>?_);obtain⟨x,M,hle⟩:=h.get j (.f y) (by rw[bc,J];rfl);have:=hle φ E w u hrep (hrr j x u M hu);cases this with
  |f h=>exact h
theorem lJ.row {H H':HF} (d:vb H H') {id sz n:Nat} {ty:TypeId} {cells:List FV} (h1:H id=af ⟨ty,.fz cells⟩) (h2:H' id=ah) (hl:cells.length=n*sz):lJ H H' (.row id sz n) (.f (.sl cells n)):=by
 intro φ E w v r hr;cases hr with
 |@row _ _ _ c k hφ hn hcap hsh=>
  obtain⟨k',U,Y,_⟩:=r.at_ id _ h1;rw[hφ] at U;cases U;obtain⟨arr,p1,p2,p3⟩:=r.cs h1 hφ rfl;have hk:k<w.heap.size:=(cC.1 p1).1;have hlen:cells.length<=arr.size:=by simpa[BC.toMx] using p3
  have hnk:¬tot E φ H' k:=by
   rintro (Z|⟨j,b,J,M⟩)
   .exact Y Z
   .obtain⟨b0,g3⟩:=d j b J;have:=r.inj j id b0 _ k g3 h1 M hφ;subst this;rw[h2] at J;cases J
  have hget:∀ (j:Nat) x,cells[j]? =af x->∃ u,arr[j]? =af u/\m6 (tot E φ H) w x u:=λj x I=>by
   have hj:j<cells.length:=(bk.1 I).1;have hja:j<arr.size:=by omega
   refine ⟨arr[j],by simp[hja],?_⟩;have:=p2.2.2 j (.f x) arr[j] (by simp[BC.toMx,I]) (by
    rw[cN,aE (by simpa[BC.toMx] using hj),cH];simp[hja])
   cases this with
   |f h=>exact h
  refine .f (.sl cells n c k 0 (λj=>(arr[j]?).getD undef) hn hcap hnk hk (λx I=>?_) (λj hj=>?_) (λj x I=>?_))
  .have:=p2.2.1 (.f x) (by simp only[BC.toMx];exact dk.2 ⟨x,I,rfl⟩);exact this
  .have:j<arr.size:=by omega
   simp[MT,p1,this]
  .obtain⟨u,J,M⟩:=hget j x I;rw[J];exact M.dom d
theorem sj:∀ l:List Xp,IZ l=l.flatMap wj
 |[]=>rfl
 |x::r=>by rw[IZ,sj r];rfl
theorem yU:∀ l:List Sx,IY l=l.flatMap xM
 |[]=>rfl
 |x::r=>by rw[IY,yU r];rfl
theorem IX (e:Xp):bS Mj (M0 e)=wj e:=by
 cases e with
 |mk op n name l=>simp only[Mj,M0,bS,wj,Xp.op,Xp.n,Xp.name,Xp.l,sj];rfl
theorem QH (x:Mj.den):wj (dW x)=bS Mj x:=by
 simp only[Mj,dW,bS,wj,sj];rfl
theorem IW (e:Sx):bS LS (MZ e)=xM e:=by
 cases e with
 |mk op line name arg index expr body els=>simp only[LS,MZ,bS,xM,Sx.op,Sx.line,Sx.name,Sx.arg,Sx.index,Sx.expr,Sx.body,Sx.els,sj,yU];rfl
theorem QF (x:LS.den):xM (nD x)=bS LS x:=by
 simp only[LS,nD,bS,xM,sj,yU];rfl
theorem xn (e:Xp):(wj e).length=4:=by cases e;simp[wj]
theorem CR (e:Sx):(xM e).length=11:=by cases e;simp[xM,xn]
theorem bB:∀ (T:Ty) (v:T.den),(bS T v).length=T.size
 |.int _,_=>rfl
 |.bool,_=>rfl
 |.str,_=>rfl
 |.sl _,_=>rfl
 |.st t,v=>bB t v
 |.pr a b,v=>by simp[bS,Ty.size,bB a,bB b]
 |.un,_=>rfl
 |.ex,v=>xn v
 |.sm,v=>CR v
theorem I0 (e:Xp):∀ x∈wj e,x.isCell=ai:=by
 cases e with
 |mk op n name l=>
  intro x I;simp only[wj,bi,cu,fY] at I;rcases I with rfl|rfl|rfl|rfl<;>rfl
theorem T5 (e:Sx):∀ x∈xM e,x.isCell=ai:=by
 cases e with
 |mk op line name arg index expr body els=>
  intro x I;simp only[xM,bP,bi,cu,fY] at I;rcases I with (I|I)|I
  .rcases I with rfl|rfl|rfl|rfl|rfl<;>rfl
  .exact I0 _ _ I
  .rcases I with rfl|rfl<;>rfl
theorem nM:∀ (T:Ty) (v:T.den),∀ x∈bS T v,x.isCell=ai
 |.int _,_,x,I=>by simp only[bS,aL] at I;subst I;rfl
 |.bool,_,x,I=>by simp only[bS,aL] at I;subst I;rfl
 |.str,_,x,I=>by simp only[bS,aL] at I;subst I;rfl
 |.sl _,_,x,I=>by simp only[bS,aL] at I;subst I;rfl
 |.st t,v,x,I=>nM t v x I
 |.pr a b,v,x,I=>by
  simp only[bS,bP] at I;exact I.elim (nM a v.1 x) (nM b v.2 x)
 |.un,_,x,I=>by simp[bS] at I
 |.ex,v,x,I=>I0 v x I
 |.sm,v,x,I=>T5 v x I
theorem CS:∀ (T:Ty) (v:T.den),T.one=ai->bS T v=[gE T v]/\T.size=1
 |.int _,_,_=>⟨rfl,rfl⟩
 |.bool,_,_=>⟨rfl,rfl⟩
 |.str,_,_=>⟨rfl,rfl⟩
 |.sl _,_,_=>⟨rfl,rfl⟩
 |.st _,_,h=>by cases h
 |.pr _ _,_,h=>by cases h
 |.un,_,h=>by cases h
 |.ex,_,h=>by cases h
 |.sm,_,h=>by cases h
theorem qw:∀ (T:Ty) (v:T.den),T.one=aj->gE T v= .agg (bS T v)
 |.int _,_,h=>by cases h
 |.bool,_,h=>by cases h
 |.str,_,h=>by cases h
 |.sl _,_,h=>by cases h
 |.st _,_,_=>rfl
 |.pr _ _,_,_=>rfl
 |.un,_,_=>rfl
 |.ex,_,_=>rfl
 |.sm,_,_=>rfl
theorem zV (T:Ty) (v:T.den):(AV.f (gE T v)).cs=(bS T v).map .f:=by
 cases h:T.one with
 |true=>
  rw[(CS T v h).1];cases T<;>simp only[Ty.one] at h<;>first|rfl|cases h
 |false=>rw[qw T v h];rfl
theorem fx {α:Type} {f:α->List FV} {n:Nat} (hf:∀ x,(f x).length=n):∀ (xs:List α),(xs.flatMap f).length=xs.length*n
 |[]=>by simp
 |x::r=>by rw[fD,bt,hf,fx hf r,bY,iP];omega
theorem Em {α:Type} {f:α->List FV} {n:Nat} (hf:∀ x,(f x).length=n):∀ (xs:List α) (j:Nat) (x:α),xs[j]? =af x->∃ r,(xs.flatMap f).drop (j*n)=f x++r
 |[],j,x,h=>by simp at h
 |y::r,j,x,h=>by
  cases j with
  |zero=>simp at h;subst h;exact⟨r.flatMap f,by simp⟩
  |succ j=>
   obtain⟨q,hq⟩:=Em hf r j x (by simpa using h);refine ⟨q,?_⟩;rw[fD,show (j+1)*n=(f y).length+j*n from by rw[hf,iP];omega,uI];simp[hq]
theorem Qs {α:Type} {f:α->List FV} {n:Nat} (hf:∀ x,(f x).length=n):∀ (xs:List α) (j:Nat) (x z:α),xs[j]? =af x->∀ (off:Nat) (vs:List FV),off+vs.length<=n->f z=AI.splice (f x) off vs->(xs.set j z).flatMap f=AI.splice (xs.flatMap f) (j*n+off) vs
 |[],j,x,z,h,_,_,_,_=>by simp at h
 |y::r,j,x,z,h,off,vs,hle,I=>by
  cases j with
  |zero=>
   simp at h;subst h;simp only[List.set_cons_zero,fD,I,Nat.zero_mul,bN];unfold AI.splice;have M:=hf y;rw[List.take_append,uI];have e1:off-(f y).length=0:=by omega
   have e2:off+vs.length-(f y).length=0:=by omega
   rw[e1,e2];simp[iw]
  |succ j=>
   have J:=Qs hf r j x z (by simpa using h) off vs hle I;simp only[List.set_cons_succ,fD,J];unfold AI.splice;have M:=hf y;have e0:(j+1)*n=(f y).length+j*n:=by rw[hf,iP];omega
   rw[e0,List.take_append,uI];have e1:(f y).length+j*n+off-(f y).length=j*n+off:=by omega
   have e2:(f y).length+j*n+off+vs.length-(f y).length=j*n+off+vs.length:=by omega
   rw[e1,e2,fR (by omega:(f y).length<=(f y).length+j*n+off),rH (by omega:(f y).length<=(f y).length+j*n+off+vs.length)];simp[iw]
theorem rA (T:Ty) (xs:List T.den):∀ x∈xs.flatMap (bS T),x.isCell=ai:=λx I=>by
 obtain⟨y,_,h⟩:=uF.1 I;exact nM T y x h
theorem je {S T:Ty} {v:S.den} {x:T.den} (h:wC T v=af x):∃ e:S=T,x=e▸v:=by
 unfold wC at h;split at h
 .rename_i e;simp only[ak] at h;exact⟨e,h.symm⟩
 .cases h
theorem lH (h:bh):∀ (n:Nat) (T:Ty) (v:T.den) (l:List TV),cellsOf n T v=af l->cK h l=af ((bS T v).map .f)/\kq l=ai
 |0,_,_,_,he=>by simp[cellsOf] at he
 |n+1,.st t,v,l,he=>lH h n t v l he
 |n+1,.pr a b,v,l,he=>by
  simp only[cellsOf] at he;split at he
  .rename_i x y J I;simp only[ak] at he;subst he;obtain⟨h1,h2⟩:=lH h n a v.1 x J;obtain⟨M,Y⟩:=lH h n b v.2 y I;refine ⟨by rw[bS,cQ];exact mX h1 M,?_⟩;clear h1 M J I;induction x with
   |nil=>exact Y
   |cons z r U=>simp only[kq,av,gi] at h2 ⊢;exact⟨h2.1,U h2.2⟩
  .cases he
 |n+1,.un,v,l,he=>by simp only[cellsOf,ak] at he;subst he;exact⟨rfl,rfl⟩
 |n+1,.ex,v,l,he=>by rw[bS,<-IX];exact lH h n Mj (M0 v) l he
 |n+1,.sm,v,l,he=>by rw[bS,<-IW];exact lH h n LS (MZ v) l he
 |n+1,.int k,v,l,he=>by simp only[cellsOf,ak] at he;subst he;exact⟨rfl,rfl⟩
 |n+1,.bool,v,l,he=>by simp only[cellsOf,ak] at he;subst he;exact⟨rfl,rfl⟩
 |n+1,.str,v,l,he=>by simp only[cellsOf,ak] at he;subst he;exact⟨rfl,rfl⟩
 |n+1,.sl t,v,l,he=>by simp only[cellsOf,ak] at he;subst he;exact⟨rfl,rfl⟩
theorem Nb {y:AV} (h:y.isCell=ai):y.cs=[y]:=by
 cases y with
 |f x=>cases x<;>first|rfl|cases h
 |agg l=>cases h
 |_=>rfl
theorem JB {h:bh} {v:TV} {l:List TV} {y:AV} (hv:v.cs=af l) (I:co h v=af y):cK h l=af y.cs/\kq l=ai:=by
 have one:(if v.isC then af [v] else ah)=af l->cK h l=af y.cs/\kq l=ai:=λhv=>by
  split at hv
  .rename_i hc;simp only[ak] at hv;subst hv;exact⟨by rw[Nb (Np I hc)];exact oS I rfl,by simp[kq,hc]⟩
  .cases hv
 cases v with
 |agg q=>
  simp only[TV.cs] at hv;split at hv
  .rename_i hc;simp only[ak] at hv;subst hv;simp only[co] at I;split at I
   .rename_i J hl;simp only[ak] at I;subst I;exact⟨hl,hc⟩
   .cases I
  .cases hv
 |f T x=>
  simp only[TV.cs] at hv;simp only[co,ak] at I;subst I;rw[zV];exact lH h 40 T x l hv
 |fel T xs j hj off=>exact one hv
 |pel id sz j off=>exact one hv
 |ptr id off=>exact one hv
 |csl id off z=>exact one hv
 |row id=>exact one hv
 |emp=>exact one hv
 |nil=>exact one hv
 |mp id=>exact one hv
 |rtl id M=>exact one hv
 |tup q=>exact one hv
 |clo g q=>exact one hv
 |undef=>exact one hv
 |np=>exact one hv
 |anyb=>exact one hv
def DG (h:bh) (H H':HF) (m:Nat):Prop:=∀ id,aM m id=ai->H (nm id)=bA h (nm id)/\H' (nm id)=ah
theorem DG.zero {h:bh} {H H':HF}:DG h H H' 0:=λid hid=>by simp at hid
theorem DG.or {h:bh} {H H':HF} {a b:Nat} (g:DG h H H' (a|||b)):DG h H H' a/\DG h H H' b:=
 ⟨λid hid=>g id (by rw[bu,hid];rfl),λid hid=>g id (by rw[bu,hid];simp)⟩
theorem bX {i j:Nat}:aM (kK i) j=ai↔i=j:=by
 unfold kK;rw[Nat.one_shiftLeft,Nat.testBit_two_pow];simp
section pack
variable {h:bh} {H H':HF}
theorem xw (d:vb H H') {T:Ty} {v:TV} {x:T.den} {m:Nat} {y:AV} (I:iI h T v=af (x,m)) (J:co h v=af y) (g:DG h H H' m):lJ H H' y (.f (gE T x))/\y.cs.length=T.size/\(T.one=ai->y.isCell=ai)/\ie H H' y.cs ((bS T x).map .f):=by
 cases v with
 |f S v=>
  simp only[iI] at I;split at I
  .rename_i z M;simp only[ak,aD] at I;obtain⟨rfl,_⟩:=I;obtain⟨e,rfl⟩:=je M;subst e;simp only[co,ak] at J;subst J;refine ⟨lJ.refl d _,by rw[zV,cf,bB],λY=>?_,by rw[zV];exact ie.refl d _⟩;cases S<;>simp only[Ty.one] at Y<;>first|rfl|cases Y
  .cases I
 |emp=>
  simp only[iI] at I;split at I
  .simp only[ak,aD] at I;obtain⟨rfl,_⟩:=I;simp only[co,ak] at J;subst J;exact⟨Le.emp.toH d,rfl,λ_=>rfl,⟨Le.emp.toH d,trivial⟩⟩
  .cases I
 |nil=>
  simp only[iI] at I;split at I
  .simp only[ak,aD] at I;obtain⟨rfl,_⟩:=I;simp only[co,ak] at J;subst J;exact⟨Le.nil.toH d,rfl,λ_=>rfl,⟨Le.nil.toH d,trivial⟩⟩
  .cases I
 |row id=>
  simp only[iI] at I;split at I
  .rename_i ty p S xs hb;split at I
   .rename_i z M;simp only[ak,aD] at I;obtain⟨rfl,rfl⟩:=I;obtain⟨e,rfl⟩:=je M;subst e;obtain⟨U,Z⟩:=g id (bX.2 rfl);rw[bJ,hb] at U;simp only[co,em,hb,ak] at J;subst J;have key:lJ H H' (fk p id S.size xs.length) (.f (gE (.sl S) xs)):=by
     unfold fk;split
     .rename_i hp;simp only[av,cV] at hp;have:xs=[]:=gF.1 hp.2;subst this;exact Le.emp.toH d
     .rename_i hp;simp only[aH,kw,aB hp] at U;exact lJ.row d U Z (fx (bB S) xs)
    have hc:(fk p id S.size xs.length).isCell=ai:=by unfold fk;split<;>rfl
    refine ⟨key,by rw[Nb hc];rfl,λ_=>hc,?_⟩;rw[Nb hc];exact⟨key,trivial⟩
   .cases I
  .cases I
 |fel T xs j hj off=>simp[iI] at I
 |pel id sz j off=>simp[iI] at I
 |ptr id off=>simp[iI] at I
 |csl id off z=>simp[iI] at I
 |mp id=>simp[iI] at I
 |rtl id jj=>simp[iI] at I
 |agg q=>simp[iI] at I
 |tup q=>simp[iI] at I
 |clo f q=>simp[iI] at I
 |undef=>simp[iI] at I
 |np=>simp[iI] at I
 |anyb=>simp[iI] at I
theorem rX (d:vb H H'):∀ (n:Nat) (T:Ty) (l:List TV) (x:T.den) (m:Nat) (r:List TV) (I:List AV),eT h n T l=af (x,m,r)->cK h l=af I->DG h H H' m->∃ l1 l2,I=l1++l2/\cK h r=af l2/\ie H H' l1 ((bS T x).map .f)
 |0,_,_,_,_,_,_,hp,_,_=>by simp[eT] at hp
 |n+1,.st t,l,x,m,r,I,hp,hl,g=>rX d n t l x m r I hp hl g
 |n+1,.pr a b,l,x,m,r,I,hp,hl,g=>by
  simp only[eT] at hp;split at hp
  .rename_i J m1 r1 h1;split at hp
   .rename_i Y m2 r2 h2;simp only[ak,aD] at hp;obtain⟨rfl,rfl,rfl⟩:=hp;obtain⟨ga,gb⟩:=g.or;obtain⟨l1,l2,rfl,U,M⟩:=rX d n a l J m1 r1 I h1 hl ga;obtain⟨l3,Z,rfl,q3,q4⟩:=rX d n b r1 Y m2 r2 l2 h2 U gb;refine ⟨l1++l3,Z,by simp,q3,?_⟩;rw[bS,cQ];exact M.append q4
   .cases hp
  .cases hp
 |n+1,.un,l,x,m,r,I,hp,hl,g=>by
  simp only[eT,ak,aD] at hp;obtain⟨_,_,rfl⟩:=hp;exact⟨[],I,rfl,hl,trivial⟩
 |n+1,.ex,l,x,m,r,I,hp,hl,g=>by
  simp only[eT] at hp;split at hp
  .rename_i J m1 r1 h1;simp only[ak,aD] at hp;obtain⟨rfl,rfl,rfl⟩:=hp;rw[bS,QH];exact rX d n Mj l J m1 r1 I h1 hl g
  .cases hp
 |n+1,.sm,l,x,m,r,I,hp,hl,g=>by
  simp only[eT] at hp;split at hp
  .rename_i J m1 r1 h1;simp only[ak,aD] at hp;obtain⟨rfl,rfl,rfl⟩:=hp;rw[bS,QF];exact rX d n LS l J m1 r1 I h1 hl g
  .cases hp
 |n+1,.int k,l,x,m,r,I,hp,hl,g=>by
  simp only[eT] at hp;split at hp
  .rename_i c q;split at hp
   .rename_i J m1 h1;simp only[ak,aD] at hp;obtain⟨rfl,rfl,rfl⟩:=hp;obtain⟨y,l2,rfl,U,M⟩:=cY hl;exact⟨[y],l2,rfl,M,⟨(xw d h1 U g).1,trivial⟩⟩
   .cases hp
  .cases hp
 |n+1,.bool,l,x,m,r,I,hp,hl,g=>by
  simp only[eT] at hp;split at hp
  .rename_i c q;split at hp
   .rename_i J m1 h1;simp only[ak,aD] at hp;obtain⟨rfl,rfl,rfl⟩:=hp;obtain⟨y,l2,rfl,U,M⟩:=cY hl;exact⟨[y],l2,rfl,M,⟨(xw d h1 U g).1,trivial⟩⟩
   .cases hp
  .cases hp
 |n+1,.str,l,x,m,r,I,hp,hl,g=>by
  simp only[eT] at hp;split at hp
  .rename_i c q;split at hp
   .rename_i J m1 h1;simp only[ak,aD] at hp;obtain⟨rfl,rfl,rfl⟩:=hp;obtain⟨y,l2,rfl,U,M⟩:=cY hl;exact⟨[y],l2,rfl,M,⟨(xw d h1 U g).1,trivial⟩⟩
   .cases hp
  .cases hp
 |n+1,.sl t,l,x,m,r,I,hp,hl,g=>by
  simp only[eT] at hp;split at hp
  .rename_i c q;split at hp
   .rename_i J m1 h1;simp only[ak,aD] at hp;obtain⟨rfl,rfl,rfl⟩:=hp;obtain⟨y,l2,rfl,U,M⟩:=cY hl;exact⟨[y],l2,rfl,M,⟨(xw d h1 U g).1,trivial⟩⟩
   .cases hp
  .cases hp
theorem S0 (d:vb H H') {n:Nat} {T:Ty} {l:List TV} {x:T.den} {m:Nat} {I:List AV} (hp:eT h n T l=af (x,m,[])) (hl:cK h l=af I) (g:DG h H H' m):ie H H' I ((bS T x).map .f):=by
 obtain⟨l1,l2,rfl,J,M⟩:=rX d n T l x m [] I hp hl g;simp only[cK,ak] at J;subst J;simpa using M
theorem Oz (d:vb H H') {T:Ty} {v:TV} {x:T.den} {m:Nat} {y:AV} (I:Ds h T v=af (x,m)) (J:co h v=af y) (g:DG h H H' m):lJ H H' y (.f (gE T x))/\ie H H' y.cs ((bS T x).map .f):=by
 have other:iI h T v=af (x,m)->lJ H H' y (.f (gE T x))/\ie H H' y.cs ((bS T x).map .f):=λI=>by
  obtain⟨h1,_,_,h2⟩:=xw d I J g;exact⟨h1,h2⟩
 cases v with
 |agg l=>
  simp only[Ds] at I;split at I
  .cases I
  .rename_i U;split at I
   .rename_i M m1 h1;simp only[ak,aD] at I;obtain⟨rfl,rfl⟩:=I;simp only[co] at J;split at J
    .rename_i Y hl;simp only[ak] at J;subst J;have:=S0 d h1 hl g;refine ⟨?_,this⟩;rw[qw T M (by simpa using U)];exact lJ.aggL this (nM T M)
    .cases J
   .cases I
 |f S v=>exact other I
 |fel T xs j hj off=>exact other I
 |pel id sz j off=>exact other I
 |ptr id off=>exact other I
 |csl id off z=>exact other I
 |row id=>exact other I
 |emp=>exact other I
 |nil=>exact other I
 |mp id=>exact other I
 |rtl id Z=>exact other I
 |tup q=>exact other I
 |clo g q=>exact other I
 |undef=>exact other I
 |np=>exact other I
 |anyb=>exact other I
theorem Cj (d:vb H H') {T:Ty}:∀ (n:Nat) (l:List TV) (xs:List T.den) (m:Nat) (I:List AV),yo h T n l=af (xs,m)->cK h l=af I->DG h H H' m->ie H H' I ((xs.flatMap (bS T)).map .f)/\xs.length=n
 |0,[],xs,m,I,hp,hl,g=>by
  simp only[yo,ak,aD] at hp;obtain⟨rfl,_⟩:=hp;simp only[cK,ak] at hl;subst hl;exact⟨trivial,rfl⟩
 |0,_::_,xs,m,I,hp,hl,g=>by simp[yo] at hp
 |n+1,l,xs,m,I,hp,hl,g=>by
  simp only[yo] at hp;split at hp
  .rename_i M m1 r1 h1;split at hp
   .rename_i J m2 h2;simp only[ak,aD] at hp;obtain⟨rfl,rfl⟩:=hp;obtain⟨ga,Z⟩:=g.or;obtain⟨l1,l2,rfl,Y,U⟩:=rX d 40 T l M m1 r1 I h1 hl ga;obtain⟨q3,q4⟩:=Cj d n r1 J m2 l2 h2 Y Z;refine ⟨?_,by simp[q4]⟩;rw[fD,cQ];exact U.append q3
   .cases hp
  .cases hp
theorem uf (h:bh):∀ (n:Nat) (T:Ty) (v:T.den) (off sz:Nat) (ag:Bool) (u:TV),nR n T v off sz ag=af u->off+sz<=T.size/\∃ y,co h u=af (.f y)/\(ag=aj->sz=1/\(bS T v)[off]? =af y)/\(ag=ai->y= .agg (((bS T v).drop off).take sz))
 |0,_,_,_,_,_,_,hg=>by simp[nR] at hg
 |n+1,.st t,v,off,sz,ag,u,hg=>by
  simp only[nR] at hg;split at hg
  .rename_i hc;simp only[av] at hc;obtain⟨⟨h1,h2⟩,rfl⟩:=hc;have h1:=aw h1;have h2:=aw h2;subst h1;subst h2;simp only[ak] at hg;subst hg;refine ⟨by simp[Ty.size],_,rfl,λh=>(by cases h),λ_=>?_⟩;simp only[gE,bS,List.drop_zero];rw[<- bB t v,cR]
  .exact uf h n t v off sz ag u hg
 |n+1,.pr a b,v,off,sz,ag,u,hg=>by
  simp only[nR] at hg;have hla:=bB a v.1;have hlb:=bB b v.2;split at hg
  .rename_i hlt;have hlt:off<a.size:=a_ hlt;obtain⟨h1,y,h2,J,I⟩:=uf h n a v.1 off sz ag u hg;refine ⟨by simp only[Ty.size];omega,y,h2,λe=>?_,λe=>?_⟩
   .obtain⟨U,M⟩:=J e;exact⟨U,by rw[bS,bO (by omega)];exact M⟩
   .rw[I e,bS];have:((bS a v.1++bS b v.2).drop off).take sz=((bS a v.1).drop off).take sz:=by
     rw[DF (by omega),kX (by simp;omega)]
    rw[this]
  .rename_i hlt;have hlt:¬off<a.size:=λh=>hlt (bC h)
   obtain⟨h1,y,h2,J,I⟩:=uf h n b v.2 (off-a.size) sz ag u hg;refine ⟨by simp only[Ty.size];omega,y,h2,λe=>?_,λe=>?_⟩
   .obtain⟨U,M⟩:=J e;exact⟨U,by rw[bS,b7 (by omega),hla];exact M⟩
   .rw[I e,bS];have:(bS a v.1++bS b v.2).drop off=(bS b v.2).drop (off-a.size):=by
     rw[uI,hla,rH (by omega)];simp
    rw[this]
 |n+1,.un,v,off,sz,ag,u,hg=>by simp[nR] at hg
 |n+1,.ex,v,off,sz,ag,u,hg=>by
  simp only[nR] at hg;split at hg
  .rename_i hc;simp only[av] at hc;obtain⟨⟨h1,h2⟩,rfl⟩:=hc;have h1:=aw h1;have h2:=aw h2;subst h1;subst h2;simp only[ak] at hg;subst hg;refine ⟨by simp[Ty.size],_,rfl,λh=>(by cases h),λ_=>?_⟩;simp only[gE,bS,List.drop_zero];rw[<- xn v,cR]
  .obtain⟨h1,y,h2,J,I⟩:=uf h n Mj (M0 v) off sz ag u hg;rw[IX] at J I;exact⟨h1,y,h2,J,I⟩
 |n+1,.sm,v,off,sz,ag,u,hg=>by
  simp only[nR] at hg;split at hg
  .rename_i hc;simp only[av] at hc;obtain⟨⟨h1,h2⟩,rfl⟩:=hc;have h1:=aw h1;have h2:=aw h2;subst h1;subst h2;simp only[ak] at hg;subst hg;refine ⟨by simp[Ty.size],_,rfl,λh=>(by cases h),λ_=>?_⟩;simp only[gE,bS,List.drop_zero];rw[<- CR v,cR]
  .obtain⟨h1,y,h2,J,I⟩:=uf h n LS (MZ v) off sz ag u hg;rw[IW] at J I;exact⟨h1,y,h2,J,I⟩
 |n+1,.int k,v,off,sz,ag,u,hg=>by
  simp only[nR] at hg;split at hg
  .rename_i hc;simp only[av,dN] at hc;obtain⟨⟨h1,h2⟩,rfl⟩:=hc;have h1:=aw h1;have h2:=aw h2;subst h1;subst h2;simp only[ak] at hg;subst hg;exact⟨by simp[Ty.size],_,rfl,λ_=>⟨rfl,rfl⟩,λh=>by cases h⟩
  .cases hg
 |n+1,.bool,v,off,sz,ag,u,hg=>by
  simp only[nR] at hg;split at hg
  .rename_i hc;simp only[av,dN] at hc;obtain⟨⟨h1,h2⟩,rfl⟩:=hc;have h1:=aw h1;have h2:=aw h2;subst h1;subst h2;simp only[ak] at hg;subst hg;exact⟨by simp[Ty.size],_,rfl,λ_=>⟨rfl,rfl⟩,λh=>by cases h⟩
  .cases hg
 |n+1,.str,v,off,sz,ag,u,hg=>by
  simp only[nR] at hg;split at hg
  .rename_i hc;simp only[av,dN] at hc;obtain⟨⟨h1,h2⟩,rfl⟩:=hc;have h1:=aw h1;have h2:=aw h2;subst h1;subst h2;simp only[ak] at hg;subst hg;exact⟨by simp[Ty.size],_,rfl,λ_=>⟨rfl,rfl⟩,λh=>by cases h⟩
  .cases hg
 |n+1,.sl t,v,off,sz,ag,u,hg=>by
  simp only[nR] at hg;split at hg
  .rename_i hc;simp only[av,dN] at hc;obtain⟨⟨h1,h2⟩,rfl⟩:=hc;have h1:=aw h1;have h2:=aw h2;subst h1;subst h2;simp only[ak] at hg;subst hg;exact⟨by simp[Ty.size],_,rfl,λ_=>⟨rfl,rfl⟩,λh=>by cases h⟩
  .cases hg
theorem Sz {α:Type} (l vs:List α) (h:vs.length=l.length):AI.splice l 0 vs=vs:=by
 unfold AI.splice;rw[bN,h,List.drop_length];simp
theorem O9 {α:Type} (a b vs:List α) (off:Nat) (h:off+vs.length<=a.length):AI.splice (a++b) off vs=AI.splice a off vs++b:=by
 unfold AI.splice;rw[kX (by omega),DF (by omega)];simp[iw]
theorem M7 {α:Type} (a b vs:List α) (off:Nat) (h:a.length<=off):AI.splice (a++b) off vs=a++AI.splice b (off-a.length) vs:=by
 unfold AI.splice;rw[List.take_append,uI,fR h,rH (by omega),show off+vs.length-a.length=off-a.length+vs.length from by omega];simp[iw]
def Wr (H H':HF) (y:AV) (T:Ty) (v z:T.den) (off sz:Nat):Prop:=∃ fs:List FV,ie H H' y.cs (fs.map .f)/\fs.length=sz/\off+sz<=T.size/\bS T z=AI.splice (bS T v) off fs/\∀ x∈fs,x.isCell=ai
theorem Wr.whole {y:AV} {T:Ty} {v z:T.den} {off sz:Nat} (h0:off=0) (hs:sz=T.size) (hl:ie H H' y.cs ((bS T z).map .f)):Wr H H' y T v z off sz:=by
 subst h0;subst hs;exact⟨bS T z,hl,bB T z,by omega,(Sz _ _ (by rw[bB,bB])).symm,nM T z⟩
theorem vH (d:vb H H') {u:TV} {y:AV} (I:co h u=af y):∀ (n:Nat) (T:Ty) (v:T.den) (off sz:Nat) (z:T.den) (m:Nat),gP h u n T v off sz=af (z,m)->DG h H H' m->Wr H H' y T v z off sz
 |0,_,_,_,_,_,_,hg,_=>by simp[gP] at hg
 |n+1,.st t,v,off,sz,z,m,hg,g=>by
  simp only[gP] at hg;split at hg
  .rename_i q hq;split at hq
   .rename_i hc;simp only[av] at hc;simp only[ak] at hg;subst hg;exact .whole (aw hc.1) (aw hc.2) (Oz d hq I g).2
   .cases hq
  .exact vH d I n t v off sz z m hg g
 |n+1,.pr a b,v,off,sz,z,m,hg,g=>by
  simp only[gP] at hg;have hla:=bB a v.1;split at hg
  .rename_i hlt;split at hg
   .rename_i J m1 h1;simp only[ak,aD] at hg;obtain⟨rfl,rfl⟩:=hg;obtain⟨fs,U,M,q3,q4,q5⟩:=vH d I n a v.1 off sz J m1 h1 g;refine ⟨fs,U,M,by simp only[Ty.size];omega,?_,q5⟩;rw[bS,bS,O9 _ _ _ _ (by omega),q4]
   .cases hg
  .rename_i hlt;have hlt:¬off<a.size:=λh=>hlt (bC h)
   split at hg
   .rename_i J m1 h1;simp only[ak,aD] at hg;obtain⟨rfl,rfl⟩:=hg;obtain⟨fs,U,M,q3,q4,q5⟩:=vH d I n b v.2 (off-a.size) sz J m1 h1 g;refine ⟨fs,U,M,by simp only[Ty.size];omega,?_,q5⟩;rw[bS,bS,M7 _ _ _ _ (by omega),q4,hla]
   .cases hg
 |n+1,.un,v,off,sz,z,m,hg,g=>by simp[gP] at hg
 |n+1,.ex,v,off,sz,z,m,hg,g=>by
  simp only[gP] at hg;split at hg
  .rename_i q hq;split at hq
   .rename_i hc;simp only[av] at hc;simp only[ak] at hg;subst hg;exact .whole (aw hc.1) (aw hc.2) (Oz d hq I g).2
   .cases hq
  .split at hg
   .rename_i J m1 h1;simp only[ak,aD] at hg;obtain⟨rfl,rfl⟩:=hg;obtain⟨fs,U,M,q3,q4,q5⟩:=vH d I n Mj (M0 v) off sz J m1 h1 g;exact⟨fs,U,M,q3,by rw[bS,bS,QH,q4,IX],q5⟩
   .cases hg
 |n+1,.sm,v,off,sz,z,m,hg,g=>by
  simp only[gP] at hg;split at hg
  .rename_i q hq;split at hq
   .rename_i hc;simp only[av] at hc;simp only[ak] at hg;subst hg;exact .whole (aw hc.1) (aw hc.2) (Oz d hq I g).2
   .cases hq
  .split at hg
   .rename_i J m1 h1;simp only[ak,aD] at hg;obtain⟨rfl,rfl⟩:=hg;obtain⟨fs,U,M,q3,q4,q5⟩:=vH d I n LS (MZ v) off sz J m1 h1 g;exact⟨fs,U,M,q3,by rw[bS,bS,QF,q4,IW],q5⟩
   .cases hg
 |n+1,.int k,v,off,sz,z,m,hg,g=>by
  simp only[gP] at hg;split at hg
  .rename_i hc;simp only[av] at hc;exact .whole (aw hc.1) (aw hc.2) (xw d hg I g).2.2.2
  .cases hg
 |n+1,.bool,v,off,sz,z,m,hg,g=>by
  simp only[gP] at hg;split at hg
  .rename_i hc;simp only[av] at hc;exact .whole (aw hc.1) (aw hc.2) (xw d hg I g).2.2.2
  .cases hg
 |n+1,.str,v,off,sz,z,m,hg,g=>by
  simp only[gP] at hg;split at hg
  .rename_i hc;simp only[av] at hc;exact .whole (aw hc.1) (aw hc.2) (xw d hg I g).2.2.2
  .cases hg
 |n+1,.sl t,v,off,sz,z,m,hg,g=>by
  simp only[gP] at hg;split at hg
  .rename_i hc;simp only[av] at hc;exact .whole (aw hc.1) (aw hc.2) (xw d hg I g).2.2.2
  .cases hg
theorem JU:∀ {a b:List Value},RD a b=ai->a=b
 |[],[],_=>rfl
 |[],_::_,h=>by cases h
 |_::_,[],h=>by cases h
 |x::xs,y::ys,h=>by
  simp only[RD,av] at h;rw[adr h.1,JU h.2]
theorem zero_ok (d:vb H H'):∀ T:Ty,ie H H' ((sN T).map raw) ((bS T T.zero).map .f)
 |.int k=>⟨lJ.refl d _,trivial⟩
 |.bool=>⟨lJ.refl d _,trivial⟩
 |.str=>⟨lJ.refl d _,trivial⟩
 |.sl t=>⟨Le.nil.toH d,trivial⟩
 |.st t=>zero_ok d t
 |.pr a b=>by
  simp only[sN,Ty.zero,bS,cQ];exact (zero_ok d a).append (zero_ok d b)
 |.un=>trivial
 |.ex=>⟨lJ.refl d _,lJ.refl d _,lJ.refl d _,Le.nil.toH d,trivial⟩
 |.sm=>⟨lJ.refl d _,lJ.refl d _,lJ.refl d _,lJ.refl d _,Le.nil.toH d,lJ.refl d _,lJ.refl d _,lJ.refl d _,Le.nil.toH d,Le.nil.toH d,Le.nil.toH d,trivial⟩
theorem G3 (d:vb H H') (T:Ty):∀ n,ie H H' ((repl (sN T) n).map .f) (((aG n T.zero).flatMap (bS T)).map .f)
 |0=>trivial
 |n+1=>by
  rw[repl,List.replicate_succ,fD,cQ,cQ];have h1:=zero_ok (H:=H) (H':=H') d T;have:((sN T).map .raw).map AV.f=(sN T).map raw:=by rw[zF];rfl
  rw[this];exact h1.append (G3 d T n)
end pack
structure l9 (h:bh) (nx:Nat):Prop where
 cells:∀ id ty l,h.get id=af (.cells ty l)->kM h l=ai
 low:∀ id b,h.get id=af b->id<nx
def tm (e:iN) (h:bh):Prop:=∀ t v,e.get t=af v->KC h v=ai
structure jf (P:Program) (o:Oper) (still:Bool) (e:iN) (h:bh) (nx:Nat) (v:TV) (rd wr:Nat) (h':bh) (nx':Nat):Prop where
 ex:∃ f:AY,gK P o (fM e h) (bA h) f/\(∀ y,co h' v=af y->f.val=y)/\eO (bA h) f.wr f.nw=bA h'/\(∀ n∈f.rd,aM rd (ow n)=ai)/\(∀ n∈f.wr,aM wr (ow n)=ai)/\(∀ n∈f.N,nx<=ow n/\ow n<nx')
 rows:cj h h'
 inv:l9 h' nx'
 grows:nx<=nx'
 st:still=ai->rd=0/\wr=0
def kL {R:Type} (P:Program) (o:Oper) (still:Bool) (e:iN) (h:bh) (nx:Nat) (K:KO R) (r:R):Prop:=
 ∃ v rd wr h' nx',K v rd wr h' nx'=af r/\jf P o still e h nx v rd wr h' nx'
theorem dU {R:Type} {b:Bool} {k:b=ai->Option R} {r:R} (h:chk b k=af r):∃ hb:b=ai,k hb=af r:=by
 cases b with
 |true=>exact⟨rfl,h⟩
 |false=>cases h
theorem pn {R:Type} {b:Bool} {t f:Option R} {r:R} (h:bcase b t f=af r):(b=ai/\t=af r)\/(b=aj/\f=af r):=by
 cases b with
 |true=>exact .inl ⟨rfl,h⟩
 |false=>exact .inr ⟨rfl,h⟩
theorem dG {α R:Type} {o:Option α} {k:α->Option R} {r:R} (h:obind o k=af r):∃ x,o=af x/\k x=af r:=by
 cases o with
 |some x=>exact⟨x,rfl,h⟩
 |none=>cases h
theorem D8 {j:Int} {n:Nat} (h:fI j n=ai):0<=j/\j<n/\j.toNat<n:=by
 simp only[fI,c5,fO,av,bR] at h;omega
theorem gK.envLe {P:Program} {o:Oper} {e e2:EF} {h:HF} {f:AY} (ht:gK P o e h f) (hle:∀ t y,.tmp t∈o.op.operands->e t=af y->∃ J,e2 t=af J/\Le J y):gK P o e2 h f:=by
 intro φ E h' w a h1 h2 Z Y U;refine ht φ E h' w a h1 h2 (λt I y M=>?_) Y U;obtain⟨J,g1,g2⟩:=hle t y I M;exact g2 _ _ _ _ (Z t I J g1)
theorem Jz (h:bh) {v:Value} {u:TV} (hc:cst v=af u):co h u=af (raw v)/\v.oneCell'=ai/\u.isC=ai:=by
 unfold cst at hc;split at hc<;>cases hc<;>exact⟨rfl,rfl,rfl⟩
theorem uY (h:bh):∀ {z:List Value} {l:List TV},Jy z=af l->cK h l=af (z.map raw)/\(∀ x∈z,x.oneCell'=ai)/\kq l=ai
 |[],l,hc=>by simp only[Jy,ak] at hc;subst hc;exact⟨rfl,by simp,rfl⟩
 |v::r,l,hc=>by
  simp only[Jy] at hc;split at hc
  .rename_i x l' J hl;simp only[ak] at hc;subst hc;obtain⟨h1,h2,Z⟩:=Jz h J;obtain⟨Y,U,M⟩:=uY h hl;refine ⟨oS h1 Y,λy I=>?_,by simp[kq,Z,M]⟩;rcases bi.1 I with rfl|I
   .exact h2
   .exact U y I
  .cases hc
theorem bM {e:iN} {h:bh} (hi:tm e h) {x:Operand} {v:TV} (I:fE e x=af v):∃ y,my (IR e h) x=af y/\co h v=af y:=by
 cases x with
 |tmp t=>
  simp only[fE] at I;obtain⟨y,J⟩:=pU h v (hi t v I);refine ⟨y,?_,J⟩;simp only[my];rw[uU];simp only[fM,I,aH,J]
 |const c=>
  simp only[fE] at I;unfold agq at I;split at I
  .rename_i vs;split at I
   .rename_i h1;split at I
    .rename_i l hl;simp only[ak] at I;subst I;refine ⟨.agg (vs.toList.map raw),?_,by simp only[co,(uY h hl).1]⟩;simp only[my,ED,h1,bD];rfl
    .cases I
   .cases I
  .rename_i hn;refine ⟨raw c,?_,(Jz h I).1⟩;simp only[my];unfold ED;split
   .rename_i vs;exact cZ rfl (hn vs)
   .rfl
 |func g=>
  simp only[fE,ak] at I;subst I;exact⟨_,rfl,rfl⟩
 |global g=>
  simp only[fE] at I;cases hg:G g with
  |none=>rw[hg] at I;cases I
  |some cells=>
   rw[hg] at I;simp only[ak] at I;subst I;have hcells:cells=Cr:=by
    unfold G at hg;split at hg
    .cases hg;rfl
    .cases hg
   subst hcells;exact⟨_,by simp only[my,hg];rfl,rfl⟩
theorem yq {e:iN} {h:bh} (hi:tm e h):∀ {xs:List Operand} {l:List TV},E7 e xs=af l->∃ J,V0 (IR e h) xs=af J/\cK h l=af J
 |[],l,I=>by simp only[E7,ak] at I;subst I;exact⟨[],rfl,rfl⟩
 |x::xs,l,I=>by
  simp only[E7] at I;split at I
  .rename_i y U;split at I
   .rename_i ys hys;simp only[ak] at I;subst I;obtain⟨M,h1,h2⟩:=bM hi U;obtain⟨J,Z,Y⟩:=yq hi hys;exact⟨M::J,by simp only[V0,h1,Z],oS h2 Y⟩
   .cases I
  .cases I
section ops
variable {R:Type} {P:Program} {o:Oper} {e:iN} {h:bh} {nx:Nat} {K:KO R} {r:R}
theorem jf.pure {s:X9} {st:Bool} (hinv:l9 h nx) (hc:di P o.op=af s) {H:nP} (U:H.get=bA h) {k:Nat} {y0:AV} {rdl:List Nat} (M:eL s (IR e h) H k=af ⟨y0,rdl,[],[],[]⟩) {v:TV} (hv:∀ y,co h v=af y->Le y0 y) {rd:Nat} (hrd:∀ n∈rdl,aM rd (ow n)=ai) (hst:st=ai->rd=0):jf P o st e h nx v rd 0 h nx:=by
 have ht:=HQ hc M;rw[uU,U] at ht;refine ⟨?_,λ_ _ h=>h,hinv,bT _,λhs=>⟨hst hs,rfl⟩⟩;have key:∀ y,Le y0 y->gK P o (fM e h) (bA h) ⟨y,rdl,[],jb [],[]⟩:=λy hle=>
  gK.view ht (λi hi=>by cases hi) λh' _ _=>⟨J7.refl _,hle.toH (vb.refl _)⟩
 cases J:co h v with
 |none=>exact⟨_,ht,λy I=>by simp at I,by simp[BR.eff,tJ],hrd,by simp[BR.eff],by simp[BR.eff]⟩
 |some y=>exact⟨_,key y (hv y J),λY I=>by simpa using I,by simp[tJ],hrd,by simp,by simp⟩
theorem kL.q {s:X9} {st:Bool} (hinv:l9 h nx) (hc:di P o.op=af s) {k:Nat} {y0:AV} (J:∀ H:nP,H.get=bA h->eL s (IR e h) H k=rv y0) {v:TV} (hv:∀ y,co h v=af y->Le y0 y) (hk:K v 0 0 h nx=af r):kL P o st e h nx K r:=by
 obtain⟨H,I⟩:=jL h;exact⟨v,0,0,h,nx,hk,jf.pure hinv hc I (J H I) hv (by simp) λ_=>rfl⟩
theorem dl {y0:AV} {v:TV} (hv:co h v=af y0):∀ y,co h v=af y->Le y0 y:=λy I=>by rw[hv] at I;cases I;exact Le.refl _
theorem aew {T:Ty} {xs:List T.den} {j:Int} (hj:fI j xs.length=ai) {off sz:Nat} {ag:Bool} {u:TV} (hg:nR 40 T (aJ xs j) off sz ag=af u):
 ∃ y,co h u=af (.f y)/\(BC.fz (xs.flatMap (bS T))).sub? (j.toNat*T.size+off) sz ag=af (.f y):=by
 obtain⟨h1,y,h2,Y,U⟩:=uf h 40 T _ off sz ag u hg;refine ⟨y,h2,?_⟩;obtain⟨_,_,hlt⟩:=D8 hj;have I:xs[j.toNat]? =af (aJ xs j):=by
  unfold aJ;rw[ay,aA hlt];rfl
 obtain⟨q,hq⟩:=Em (bB T) xs j.toNat _ I;have hlen:=fx (bB T) xs;have hle:(j.toNat+1)*T.size<=xs.length*T.size:=cG _ hlt;rw[iP] at hle;have hl:=bB T (aJ xs j);cases ag with
 |false=>
  obtain⟨M,J⟩:=Y rfl;subst M;simp only[BC.sub?,BC.get];have:(xs.flatMap (bS T))[j.toNat*T.size+off]? =af y:=by
   rw[<- gV,hq,bO (by omega)];exact J
  rw[this];rfl
 |true=>
  simp only[BC.sub?];rw[aE (bC (by omega)),U rfl,<-List.drop_drop,hq,DF (by omega),kX (by simp;omega)]
theorem aex {T:Ty} {v:T.den} {off sz:Nat} {ag:Bool} {u:TV} (hg:nR 40 T v off sz ag=af u):
 ∃ y,co h u=af (.f y)/\(BC.fz (bS T v)).sub? off sz ag=af (.f y):=by
 obtain⟨h1,y,h2,U,M⟩:=uf h 40 T _ off sz ag u hg;refine ⟨y,h2,?_⟩;have hl:=bB T v;cases ag with
 |false=>
  obtain⟨J,I⟩:=U rfl;subst J;simp only[BC.sub?,BC.get,I];rfl
 |true=>
  simp only[BC.sub?];rw[aE (bC (by omega)),M rfl]
theorem Vf {l:List TV} {I:List AV} (hl:cK h l=af I) {off sz:Nat} {ag:Bool} {u:TV} (hs:Sw l off sz ag=af u):∃ y,co h u=af y/\(BC.mx I).sub? off sz ag=af y:=by
 cases ag with
 |false=>
  simp only[Sw] at hs;split at hs
  .rename_i h1;have h1:=aw h1;subst h1;obtain⟨y,h2,J⟩:=lZ hl off u hs;exact⟨y,J,by simp only[BC.sub?,BC.get,h2]⟩
  .cases hs
 |true=>
  simp only[Sw] at hs;split at hs
  .rename_i h1;simp only[ak] at hs;subst hs;have h2:=Es sz (Eu off hl);exact⟨.agg ((I.drop off).take sz),by simp only[co,h2],by simp only[BC.sub?,hZ hl,h1,bD]⟩
  .cases hs
theorem PC {v:TV} {n:Nat} {y:AV} (hn:lenOf h v=af n) (I:co h v=af y):y.slen=af n:=by
 unfold lenOf at hn;split at hn
 .simp only[ak] at hn;subst hn;simp only[co,ak] at I;subst I;rfl
 .simp only[ak] at hn;subst hn;simp only[co,ak] at I;subst I;rfl
 .simp only[ak] at hn;subst hn;simp only[co,ak] at I;subst I;rfl
 .rename_i id;simp only[co] at I;cases hr:em h id with
  |none=>rw[hr] at hn;cases hn
  |some q=>
   obtain⟨p,sz,m⟩:=q;rw[hr] at hn I;simp only[ak] at hn I;subst hn;subst I;unfold fk;split
   .rename_i hp;simp only[av,cV] at hp;rw[hp.2];rfl
   .rfl
 .simp only[ak] at hn;subst hn;simp only[co,ak] at I;subst I;rfl
 .cases hn
theorem Dr (a b:List UInt8):rT ⟨a.toArray⟩ ⟨b.toArray⟩=decide (a=b):=by
 unfold rT;simp only[Bool.beq_eq_decide_eq]
theorem adq {op:BinOp} {u v:TV} {q:TV->Option R} (hk:agw op u v q=af r):∃ a b c t,co h u=af (raw a)/\co h v=af (raw b)/\uz op a b=af c/\co h t=af (raw c)/\q t=af r:=by
 unfold agw at hk;split at hk
 .rename_i k a k' b;split at hk
  .rename_i hkk;have hkk':k=k':=by simpa using hkk
   subst hkk';refine ⟨.int k a,.int k b,?_⟩;cases op<;>simp only[reduceCtorEq] at hk<;>first
    |cases hk
    |exact⟨_,_,rfl,rfl,(by simp only[uz,cU,bD]<;>rfl),rfl,hk⟩
    |(obtain ⟨hb,hk⟩:=dU hk
      have I:(b==(0:Int))=aj:=by simpa using hb
      exact⟨_,_,rfl,rfl,by simp only[uz,cU,bD,I,cw,dY],rfl,hk⟩)
  .cases hk
 .rename_i a b;refine ⟨.string ⟨kB a⟩,.string ⟨kB b⟩,?_⟩;split at hk
  .exact⟨.bool (decide ((a:List UInt8)=b)),_,rfl,rfl,by simp only[uz,Dr],rfl,hk⟩
  .exact⟨.bool (!decide ((a:List UInt8)=b)),_,rfl,rfl,by simp only[uz,Dr],rfl,hk⟩
  .cases hk
 .cases hk
theorem Wl {T:Ty}:∀ {l:List TV} {xs:List T.den},yf T l=af xs->∀ k,k<l.length->l[k]? =af (.f T (xs.getD k T.zero))
 |[],xs,_,k,hk=>by simp at hk
 |.f S v::r,xs,I,k,hk=>by
  simp only[yf] at I;split at I
  .rename_i x J;split at I
   .rename_i l hl;simp only[ak] at I;subst I;obtain⟨es,ex⟩:=je J;cases es;subst ex;cases k with
    |zero=>rfl
    |succ k=>simpa using Wl hl k (by simpa using hk)
   .cases I
  .cases I
 |.fel _ _ _ _ _::r,xs,I,k,hk=>by simp[yf] at I
 |.pel _ _ _ _::r,xs,I,k,hk=>by simp[yf] at I
 |.ptr _ _::r,xs,I,k,hk=>by simp[yf] at I
 |.csl _ _ _::r,xs,I,k,hk=>by simp[yf] at I
 |.row _::r,xs,I,k,hk=>by simp[yf] at I
 |.emp::r,xs,I,k,hk=>by simp[yf] at I
 |.nil::r,xs,I,k,hk=>by simp[yf] at I
 |.mp _::r,xs,I,k,hk=>by simp[yf] at I
 |.agg _::r,xs,I,k,hk=>by simp[yf] at I
 |.tup _::r,xs,I,k,hk=>by simp[yf] at I
 |.clo _ _::r,xs,I,k,hk=>by simp[yf] at I
 |.undef::r,xs,I,k,hk=>by simp[yf] at I
 |.np::r,xs,I,k,hk=>by simp[yf] at I
 |.anyb::r,xs,I,k,hk=>by simp[yf] at I
theorem Wk {l:List TV} {T:Ty} {xs:List T.den} (I:aa8 l=af ⟨T,xs⟩):∀ k,k<l.length->l[k]? =af (.f T (xs.getD k T.zero)):=by
 unfold aa8 at I;split at I
 .split at I
  .rename_i l1 hl;simp only[ak] at I;cases I;exact Wl hl
  .cases I
 .cases I
variable (hinv:l9 h nx) (hi:tm e h)
include hinv hi
theorem K_mv {con:FuncId->Option ct} {b9:TypeId->Option Ty} {x:Operand} {st:Bool} (hc:di P o.op=af (.mv x)) (hk:dS con b9 (.op (.mv x)) e h nx K=af r):kL P o st e h nx K r:=by
 simp only[dS] at hk;split at hk
 .rename_i v hv;obtain⟨y,h1,h2⟩:=bM hi hv;exact kL.q (k:=0) hinv hc (λH _=>by simp only[eL,h1]) (dl h2) hk
 .cases hk
theorem aim {con:FuncId->Option ct} {b9:TypeId->Option Ty} {c a b:Operand} {st:Bool} (hc:di P o.op=af (.pick c a b)) (hk:dS con b9 (.op (.pick c a b)) e h nx K=af r):kL P o st e h nx K r:=by
 simp only[dS] at hk;split at hk
 .rename_i t hv;obtain⟨y,h1,h2⟩:=bM hi hv;simp only[co,ak] at h2;subst h2;rcases pn hk with ⟨rfl,I⟩|⟨rfl,I⟩
  .split at I
   .rename_i v J;obtain⟨Y,U,M⟩:=bM hi J;exact kL.q (k:=0) hinv hc (λH _=>by simp only[eL,h1,gE,bD,U]) (dl M) I
   .cases I
  .split at I
   .rename_i v J;obtain⟨Y,U,M⟩:=bM hi J;exact kL.q (k:=0) hinv hc (λH _=>by simp only[eL,h1,gE,U,cw,dY]) (dl M) I
   .cases I
 .cases hk
theorem ain {con:FuncId->Option ct} {b9:TypeId->Option Ty} {x:Operand} {st:Bool} (hc:di P o.op=af (.nilc x)) (hk:dS con b9 (.op (.nilc x)) e h nx K=af r):kL P o st e h nx K r:=by
 simp only[dS] at hk;split at hk;all_goals first
  |(rename_i hv
    obtain⟨y,h1,h2⟩:=bM hi hv;have I:=h2;simp only[co,ak] at h2;subst h2;exact kL.q (k:=0) hinv hc (λH _=>by simp only[eL,h1]) (dl I) hk)
  |skip
 .rename_i g cap hv;obtain⟨y,h1,h2⟩:=bM hi hv;have I:=h2;simp only[co] at h2;split at h2
  .simp only[ak] at h2;subst h2;exact kL.q (k:=0) hinv hc (λH _=>by simp only[eL,h1]) (dl I) hk
  .cases h2
 .cases hk
theorem alo {con:FuncId->Option ct} {b9:TypeId->Option Ty} {x:Operand} {st:Bool} (hc:di P o.op=af (.not x)) (hk:dS con b9 (.op (.not x)) e h nx K=af r):kL P o st e h nx K r:=by
 simp only[dS] at hk;split at hk
 .rename_i b hv;obtain⟨y,h1,h2⟩:=bM hi hv;simp only[co,ak] at h2;subst h2;exact kL.q (k:=0) hinv hc (λH _=>by simp only[eL,h1,gE];rfl) (dl rfl) hk
 .cases hk
theorem aiu {con:FuncId->Option ct} {b9:TypeId->Option Ty} {k:IntKind} {x:Operand} {st:Bool} (hc:di P o.op=af (.conv k x)) (hk:dS con b9 (.op (.conv k x)) e h nx K=af r):kL P o st e h nx K r:=by
 simp only[dS] at hk;split at hk
 .rename_i k' n hv;obtain⟨y,h1,h2⟩:=bM hi hv;simp only[co,ak] at h2;subst h2;exact kL.q (k:=0) hinv hc (λH _=>by simp only[eL,h1,gE];rfl) (dl rfl) hk
 .cases hk
theorem am2 {con:FuncId->Option ct} {b9:TypeId->Option Ty} {neg:Bool} {x y:Operand} {st:Bool} (hc:di P o.op=af (.eqb neg x y)) (hk:dS con b9 (.op (.eqb neg x y)) e h nx K=af r):kL P o st e h nx K r:=by
 simp only[dS] at hk;split at hk
 .rename_i a b hv I;obtain⟨y,h1,h2⟩:=bM hi hv;obtain⟨U,M,J⟩:=bM hi I;simp only[co,ak] at h2 J;subst h2;subst J;exact kL.q (k:=0) hinv hc (λH _=>by simp only[eL,h1,M,gE];rfl) (dl rfl) hk
 .cases hk
theorem aeh {con:FuncId->Option ct} {b9:TypeId->Option Ty} {neg:Bool} {x:Operand} {st:Bool} (hc:di P o.op=af (.isnil neg x)) (hk:dS con b9 (.op (.isnil neg x)) e h nx K=af r):kL P o st e h nx K r:=by
 simp only[dS] at hk;split at hk
 .rename_i hv;obtain⟨y,h1,h2⟩:=bM hi hv;simp only[co,ak] at h2;subst h2;exact kL.q (k:=0) hinv hc (λH _=>by simp only[eL,h1,zO,bD];rfl) (dl rfl) hk
 .rename_i hv;obtain⟨y,h1,h2⟩:=bM hi hv;simp only[co,ak] at h2;subst h2;exact kL.q (k:=0) hinv hc (λH _=>by simp only[eL,h1]) (dl rfl) hk
 .rename_i T xs hv;obtain⟨y,h1,h2⟩:=bM hi hv;simp only[co,ak] at h2;subst h2;rcases pn hk with ⟨J,I⟩|⟨J,I⟩
  .have J:=aw J;exact kL.q (k:=0) (y0:=.anyb) hinv hc (λH _=>by simp only[eL,h1,gE,J]) (dl rfl) I
  .have J:=ia J;obtain⟨n,hn⟩:=Nat.exists_eq_succ_of_ne_zero J;exact kL.q (k:=0) (y0:=raw (.bool neg)) hinv hc (λH _=>by simp only[eL,h1,gE,hn]) (dl rfl) I
 .rename_i id hv;split at hk
  .rename_i ty T xs hb;obtain⟨y,h1,h2⟩:=bM hi hv;simp only[co,em,hb,fk,ne,cw,dY,ak] at h2;subst h2;exact kL.q (k:=0) (y0:=raw (.bool neg)) hinv hc (λH _=>by simp only[eL,h1]) (dl rfl) hk
  .cases hk
 .cases hk
theorem alt {con:FuncId->Option ct} {b9:TypeId->Option Ty} {x y:Operand} {st:Bool} (hc:di P o.op=af (.max x y)) (hk:dS con b9 (.op (.max x y)) e h nx K=af r):kL P o st e h nx K r:=by
 simp only[dS] at hk;split at hk
 .rename_i k a k' b hv I;obtain⟨y,h1,h2⟩:=bM hi hv;obtain⟨U,M,J⟩:=bM hi I;simp only[co,ak] at h2 J;subst h2;subst J;split at hk
  .exact kL.q (k:=0) hinv hc (λH _=>by simp only[eL,h1,M,gE];rfl) (dl rfl) hk
  .cases hk
 .cases hk
theorem als {con:FuncId->Option ct} {b9:TypeId->Option Ty} {x y:Operand} {st:Bool} (hc:di P o.op=af (.min x y)) (hk:dS con b9 (.op (.min x y)) e h nx K=af r):kL P o st e h nx K r:=by
 simp only[dS] at hk;split at hk
 .rename_i k a k' b hv I;obtain⟨y,h1,h2⟩:=bM hi hv;obtain⟨U,M,J⟩:=bM hi I;simp only[co,ak] at h2 J;subst h2;subst J;split at hk
  .exact kL.q (k:=0) hinv hc (λH _=>by simp only[eL,h1,M,gE];rfl) (dl rfl) hk
  .cases hk
 .cases hk
theorem alz {con:FuncId->Option ct} {b9:TypeId->Option Ty} {off:Nat} {x:Operand} {st:Bool} (hc:di P o.op=af (.fad off x)) (hk:dS con b9 (.op (.fad off x)) e h nx K=af r):kL P o st e h nx K r:=by
 simp only[dS] at hk;split at hk;all_goals first
  |(rename_i hv
    obtain⟨y,h1,h2⟩:=bM hi hv;simp only[co,ak] at h2;subst h2;exact kL.q (k:=0) hinv hc (λH _=>by simp only[eL,h1,sA]) (dl rfl) hk)
  |cases hk
theorem aly {con:FuncId->Option ct} {b9:TypeId->Option Ty} {off sz:Nat} {ag:Bool} {x:Operand} {st:Bool} (hc:di P o.op=af (.fld off sz ag x)) (hk:dS con b9 (.op (.fld off sz ag x)) e h nx K=af r):kL P o st e h nx K r:=by
 simp only[dS] at hk;split at hk
 .rename_i l hv;split at hk
  .rename_i u hs;obtain⟨y,h1,h2⟩:=bM hi hv;simp only[co] at h2;split at h2
   .rename_i U hl;simp only[ak] at h2;subst h2;obtain⟨y,J,I⟩:=Vf hl hs;exact kL.q (k:=0) hinv hc (λH _=>by simp only[eL,h1,I]) (dl J) hk
   .cases h2
  .cases hk
 .rename_i T v hv;split at hk
  .cases hk
  .rename_i M;split at hk
   .rename_i u hs;obtain⟨y,h1,h2⟩:=bM hi hv;simp only[co,ak] at h2;rw[qw T v (by simpa using M)] at h2;subst h2;obtain⟨y,J,I⟩:=aex (h:=h) hs;exact kL.q (k:=0) hinv hc (λH _=>by simp only[eL,h1,I]) (dl J) hk
   .cases hk
 .cases hk
theorem alw {con:FuncId->Option ct} {b9:TypeId->Option Ty} {n sz:Nat} {ag:Bool} {x i:Operand} {st:Bool} (hc:di P o.op=af (.idx n sz ag x i)) (hk:dS con b9 (.op (.idx n sz ag x i)) e h nx K=af r):kL P o st e h nx K r:=by
 simp only[dS] at hk;split at hk
 .rename_i v0 k j hv U;split at hk
  .rename_i T xs hA;obtain⟨hb,hk⟩:=dU hk;cases ag with
   |true=>cases hA
   |false=>
   simp only[ajv] at hA;split at hA
   .rename_i hsz;simp only[av,dN] at hsz;have hsz1:=aw hsz.1;subst hsz1;split at hA
    .rename_i l hl;split at hA
     .rename_i hn;have hn:=aw hn;obtain⟨y,h1,h2⟩:=bM hi hv;obtain⟨y2,Y,J⟩:=bM hi U;simp only[co,ak] at J;subst J;have hj:j.toNat<l.length:=by
       simp only[av,c5,fO,bR] at hb;omega
      have hg:=Wk hA j.toNat hj;obtain⟨he,_⟩:=JB hl h2;obtain⟨z,I,M⟩:=lZ he j.toNat _ hg;have M:co h (.f T (aJ xs j))=af z:=M;refine kL.q (k:=0) hinv hc (λH _=>?_) (dl M) hk;cases v0 with
      |agg q=>
       simp only[co] at h2;split at h2
       .rename_i l' _;simp only[ak] at h2;subst h2;have I:l'[j.toNat]? =af z:=I;simp only[eL,h1,Y,gE,hb,bD,BC.sub?,BC.get,Nat.mul_one,I]
       .cases h2
      |f S u=>
       have Z:S.one=aj:=by
        have:=hsz.2;simpa[TV.isC] using this
       simp only[co,ak] at h2;rw[qw S u Z] at h2;subst h2;have I:((bS S u).map AV.f)[j.toNat]? =af z:=I;rw[bc] at I;simp only[eL,h1,Y,gE,hb,bD,BC.sub?,BC.get,Nat.mul_one,I]
      |_=>simp[TV.cs,TV.isC] at hl hsz
     .cases hA
    .cases hA
   .cases hA
  .split at hk
   .rename_i l;obtain⟨hb,hk⟩:=dU hk;split at hk
    .rename_i u hs;obtain⟨y,h1,h2⟩:=bM hi hv;obtain⟨y2,Y,J⟩:=bM hi U;simp only[co,ak] at J;subst J;simp only[co] at h2;split at h2
     .rename_i l' hl;simp only[ak] at h2;subst h2;obtain⟨y,h3,h4⟩:=Vf hl hs;exact kL.q (k:=0) hinv hc (λH _=>by simp only[eL,h1,Y,gE,hb,bD,h4]) (dl h3) hk
     .cases h2
    .cases hk
   .rename_i T v _;split at hk
    .cases hk
    .rename_i Z;obtain⟨hb,hk⟩:=dU hk;split at hk
     .rename_i u hs;obtain⟨y,h1,h2⟩:=bM hi hv;obtain⟨y2,Y,J⟩:=bM hi U;simp only[co,ak] at J h2;subst J;rw[qw T v (by simpa using Z)] at h2;subst h2;obtain⟨y,h3,h4⟩:=aex (h:=h) hs;exact kL.q (k:=0) hinv hc (λH _=>by simp only[eL,h1,Y,gE,hb,bD,h4]) (dl h3) hk
     .cases hk
   .cases hk
 .cases hk
theorem ais {con:FuncId->Option ct} {b9:TypeId->Option Ty} {n sz:Nat} {x i:Operand} {st:Bool} (hc:di P o.op=af (.iada n sz x i)) (hk:dS con b9 (.op (.iada n sz x i)) e h nx K=af r):kL P o st e h nx K r:=by
 simp only[dS] at hk;split at hk
 .rename_i id off k j hv I;obtain⟨y,h1,h2⟩:=bM hi hv;obtain⟨U,M,J⟩:=bM hi I;simp only[co,ak] at J h2;subst J;subst h2;split at hk
  .obtain⟨hb,hk⟩:=dU hk;exact kL.q (k:=0) (y0:=.ptr (nm id) (off+j.toNat*sz)) hinv hc (λH _=>by simp only[eL,h1,M,gE,hb,bD]) (dl (by simp only[co];rw[Nat.add_comm])) hk
  .obtain⟨hb,hk⟩:=dU hk;exact kL.q (k:=0) hinv hc (λH _=>by simp only[eL,h1,M,gE,hb,bD]) (dl rfl) hk
 .cases hk
theorem am0 {con:FuncId->Option ct} {b9:TypeId->Option Ty} {i:Nat} {x:Operand} {st:Bool} (hc:di P o.op=af (.ext x i)) (hk:dS con b9 (.op (.ext x i)) e h nx K=af r):kL P o st e h nx K r:=by
 simp only[dS] at hk;split at hk
 .rename_i l hv;split at hk
  .rename_i u hs;obtain⟨y,h1,h2⟩:=bM hi hv;simp only[co] at h2;split at h2
   .rename_i M hl;simp only[ak] at h2;subst h2;obtain⟨y,J,I⟩:=lZ hl i u hs;exact kL.q (k:=0) hinv hc (λH _=>by simp only[eL,h1,J]) (dl I) hk
   .cases h2
  .cases hk
 .cases hk
theorem alv {con:FuncId->Option ct} {b9:TypeId->Option Ty} {x:Operand} {st:Bool} (hc:di P o.op=af (.len x)) (hk:dS con b9 (.op (.len x)) e h nx K=af r):kL P o st e h nx K r:=by
 simp only[dS] at hk;split at hk
 .rename_i v hv;split at hk
  .rename_i n hn;obtain⟨y,h1,h2⟩:=bM hi hv;have I:=PC hn h2;exact kL.q (k:=0) hinv hc (λH _=>by simp only[eL,h1,I];rfl) (dl rfl) hk
  .cases hk
 .cases hk
theorem aiq {con:FuncId->Option ct} {b9:TypeId->Option Ty} {x:Operand} {st:Bool} (hc:di P o.op=af (.lens x)) (hk:dS con b9 (.op (.lens x)) e h nx K=af r):kL P o st e h nx K r:=by
 simp only[dS] at hk;split at hk
 .rename_i s hv;obtain⟨y,h1,h2⟩:=bM hi hv;simp only[co,ak] at h2;subst h2;exact kL.q (k:=0) hinv hc (λH _=>by simp only[eL,h1,gE];rfl) (dl rfl) hk
 .cases hk
theorem ail {con:FuncId->Option ct} {b9:TypeId->Option Ty} {x i:Operand} {st:Bool} (hc:di P o.op=af (.sidx x i)) (hk:dS con b9 (.op (.sidx x i)) e h nx K=af r):kL P o st e h nx K r:=by
 simp only[dS] at hk;split at hk
 .rename_i s k j hv I;obtain⟨hj,hk⟩:=dU hk;obtain⟨y,h1,h2⟩:=bM hi hv;obtain⟨Z,Y,J⟩:=bM hi I;simp only[co,ak] at h2 J;subst h2;subst J;obtain⟨U,j1,M⟩:=D8 hj;have e1:c5 0 j=ai:=by simp[c5,U]
  have e2:(⟨kB s⟩:ByteArray).data.toList[j.toNat]? =af (List.getD s j.toNat 0):=by
   show s[j.toNat]? =_;rw[ay,aA M];rfl
  exact kL.q (k:=0) (y0:=raw (.int .u8 (aO (List.getD s j.toNat 0).toNat))) hinv hc (λH _=>by simp only[eL,h1,Y,gE,e1,bD,e2];rfl) (dl rfl) hk
 .cases hk
theorem alx {con:FuncId->Option ct} {b9:TypeId->Option Ty} {sz:Nat} {x i:Operand} {st:Bool} (hc:di P o.op=af (.iad sz x i)) (hk:dS con b9 (.op (.iad sz x i)) e h nx K=af r):kL P o st e h nx K r:=by
 simp only[dS] at hk;split at hk
 .rename_i id k j hv I;split at hk
  .rename_i ty p T xs hb;split at hk
   .rename_i hs;have hs:=aw hs;obtain⟨hj,hk⟩:=dU hk;obtain⟨y,h1,h2⟩:=bM hi hv;obtain⟨Z,U,J⟩:=bM hi I;simp only[co,ak] at J;subst J;obtain⟨j0,j1,j2⟩:=D8 hj;have hne:¬((p&&xs.length==0)=ai):=by
     simp only[av,cV];omega
    simp only[co,em,hb,fk,aB hne,ak] at h2;subst h2;have Y:(T.size==sz&&c5 0 j&&fO j xs.length)=ai:=by
     simp only[fI,av] at hj;simp[hs,hj.1,hj.2]
    exact kL.q (k:=0) hinv hc (λH _=>by simp only[eL,h1,U,gE,Y,bD,c8]) (dl rfl) hk
   .cases hk
  .cases hk
 .rename_i T xs k j hv I;split at hk
  .rename_i hs;have hs:=aw hs;obtain⟨hj,hk⟩:=dU hk;obtain⟨y,h1,h2⟩:=bM hi hv;obtain⟨Z,U,J⟩:=bM hi I;simp only[co,ak] at J h2;subst J;subst h2;have M:(c5 0 j&&fO j (al xs))=ai:=hj;exact kL.q (k:=0) hinv hc (λH _=>by simp only[eL,h1,U,gE,M,bD,c8,hs]) (dl rfl) hk
  .cases hk
 .rename_i id sz' n k j hv I;split at hk
  .rename_i hs;have hs:=aw hs;subst hs;obtain⟨hj,hk⟩:=dU hk;obtain⟨y,h1,h2⟩:=bM hi hv;obtain⟨Z,U,J⟩:=bM hi I;simp only[co,ak] at J h2;subst J;subst h2;have M:(sz'==sz'&&c5 0 j&&fO j n)=ai:=by simp only[av] at hj ⊢;exact⟨⟨cU _,hj.1⟩,hj.2⟩
   exact kL.q (k:=0) hinv hc (λH _=>by simp only[eL,h1,U,gE,M,bD]) (dl rfl) hk
  .cases hk
 .cases hk
theorem alr {con:FuncId->Option ct} {b9:TypeId->Option Ty} {f:FuncId} {caps:List Operand} {st:Bool} (hc:di P o.op=af (.mkf f caps)) (hk:dS con b9 (.op (.mkf f caps)) e h nx K=af r):kL P o st e h nx K r:=by
 simp only[dS] at hk;split at hk
 .rename_i l hv;obtain⟨I,h1,h2⟩:=yq hi hv;exact kL.q (k:=0) hinv hc (y0:=.clo f I) (λH _=>by simp only[eL,h1]) (dl (by simp only[co,h2])) hk
 .cases hk
theorem am6 {con:FuncId->Option ct} {b9:TypeId->Option Ty} {op:BinOp} {x y:Operand} {st:Bool} (hc:di P o.op=af (.bin op x y)) (hk:dS con b9 (.op (.bin op x y)) e h nx K=af r):kL P o st e h nx K r:=by
 simp only[dS] at hk;split at hk
 .rename_i u v hv I;obtain⟨a,b,c,t,h1,h2,h3,h4,Z⟩:=adq (h:=h) hk;obtain⟨y,Y,U⟩:=bM hi hv;obtain⟨y2,M,J⟩:=bM hi I;rw[h1] at U;cases U;rw[h2] at J;cases J;simp only[raw] at Y M;exact kL.q (k:=0) hinv hc (λH _=>by simp only[eL,Y,M,h3]) (dl h4) Z
 .cases hk
end ops
def mA:ip->Option (Bool×Nat×Nat)
 |.rows _ p T xs=>af (p,T.size,xs.length)
 |.dead p sz n=>af (p,sz,n)
 |_=>ah
theorem bU (h:bh) (i:Nat):em h i=(h.get i).bind mA:=by
 unfold em;cases h.get i with
 |none=>rfl
 |some b=>cases b<;>rfl
theorem cj.refl (h:bh):cj h h:=λ_ _ h=>h
theorem cj.trans {a b c:bh} (h1:cj a b) (h2:cj b c):cj a c:=λi r h=>h2 i r (h1 i r h)
theorem cj.set {h:bh} {i:Nat} {b:ip} (hb:∀ r,em h i=af r->mA b=af r):cj h (h.set i (af b)):=λj r hj=>by
 rw[bU,PT.get_set];by_cases e:j=i
 .subst e;rw[aE rfl];exact hb r hj
 .rw[aB e,<-bU];exact hj
theorem LV {b:ip} {r:Bool×Nat×Nat} (h:mA b=af r):mA (uP b)=af r:=by cases b<;>first|exact h|cases h
theorem iX (m:Nat) (h:bh) (i:Nat):(eo m h).get i=if aM m i then (h.get i).map uP else h.get i:=by
 unfold eo;split
 .rename_i hm;have:=aw hm;subst this;simp
 .rw[PT.get_updI];simp only[Nat.one_mul,c8];cases h.get i with
  |none=>simp
  |some b=>simp only[ca];split<;>rfl
theorem cj.kill (m:Nat) (h:bh):cj h (eo m h):=λi r hr=>by
 rw[bU] at hr ⊢;rw[iX];split
 .cases hb:h.get i with
  |none=>rw[hb] at hr;cases hr
  |some b=>rw[hb] at hr;exact LV hr
 .exact hr
theorem l9.set {h:bh} {nx nx' i:Nat} {b:ip} (hi:l9 h nx) (hr:cj h (h.set i (af b))) (hlt:i<nx') (hle:nx<=nx') (hb:∀ ty l,b= .cells ty l->kM (h.set i (af b)) l=ai):l9 (h.set i (af b)) nx':=by
 refine ⟨λj ty l hj=>?_,λj c hj=>?_⟩
 .rw[PT.get_set] at hj;split at hj
  .simp only[ak] at hj;exact hb ty l hj
  .exact iU hr l (hi.cells j ty l hj)
 .rw[PT.get_set] at hj;split at hj
  .rename_i e;subst e;exact hlt
  .exact dy (hi.low j c hj) hle
theorem l9.kill {h:bh} {nx:Nat} (hi:l9 h nx) (m:Nat):l9 (eo m h) nx:=by
 refine ⟨λj ty l hj=>?_,λj c hj=>?_⟩
 .rw[iX] at hj;refine iU (cj.kill m h) l (hi.cells j ty l ?_);split at hj
  .cases hb:h.get j with
   |none=>rw[hb] at hj;cases hj
   |some b=>rw[hb] at hj;cases b<;>simp[uP] at hj
  .exact hj
 .rw[iX] at hj;split at hj
  .cases hb:h.get j with
   |none=>rw[hb] at hj;cases hj
   |some b=>exact hi.low j b hb
  .exact hi.low j c hj
theorem IU {h h':bh} (hr:cj h h') {b:ip} (hb:∀ ty l,b= .cells ty l->kM h l=ai):kw h' b=kw h b:=by
 cases b with
 |cells ty l=>
  obtain⟨I,hl⟩:=fh h l (hb ty l rfl);simp only[kw,hl,gY hr l I hl]
 |_=>rfl
theorem Xm {h h':bh} {nx i:Nat} (hi:l9 h nx) (hr:cj h h') (hg:h'.get i=h.get i):bA h' (nm i)=bA h (nm i):=by
 rw[bJ,bJ,hg];cases hb:h.get i with
 |none=>rfl
 |some b=>exact IU hr λty l e=>hi.cells i ty l (by rw[hb,e])
theorem wh (h:bh) {n:Nat} (hn:¬∃ i,n=nm i):bA h n=ah:=by
 unfold bA;rw[aB];intro h2;exact hn ⟨n/2,by unfold nm;omega⟩
theorem kJ {h h':bh} {nx:Nat} (hi:l9 h nx) (hr:cj h h') {n:Nat} (hg:∀ i,n=nm i->h'.get i=h.get i):bA h' n=bA h n:=by
 by_cases hn:∃ i,n=nm i
 .obtain⟨i,rfl⟩:=hn;exact Xm hi hr (hg i rfl)
 .rw[wh h hn,wh h' hn]
def E_ (m:Nat):List Nat:=(aa3 m).map nm
theorem nG {m n:Nat}:n∈E_ m↔∃ i,n=nm i/\aM m i=ai:=by
 unfold E_;rw[dk];constructor
 .rintro⟨i,h1,rfl⟩;exact⟨i,rfl,L6.1 h1⟩
 .rintro⟨i,rfl,h1⟩;exact⟨i,L6.2 h1,rfl⟩
theorem lz {m i:Nat}:nm i∈E_ m↔aM m i=ai:=by
 rw[nG];constructor
 .rintro⟨j,h1,h2⟩;rw[kN h1];exact h2
 .exact λh=>⟨i,rfl,h⟩
def dQ (h:bh) (m:Nat):Prop:=∀ i,aM m i=ai->∃ ty p T xs,h.get i=af (.rows ty p T xs)
theorem dQ.zero (h:bh):dQ h 0:=λi hi=>by simp at hi
theorem dQ.or {h:bh} {a b:Nat} (I:dQ h a) (hb:dQ h b):dQ h (a|||b):=λi hi=>by
 rw[bu,iS] at hi;exact hi.elim (I i) (hb i)
theorem mZ {h:bh} {T:Ty} {v:TV} {x:T.den} {m:Nat} (I:iI h T v=af (x,m)):dQ h m:=by
 cases v with
 |f S v=>
  simp only[iI] at I;split at I
  .simp only[ak,aD] at I;rw[<- I.2];exact dQ.zero h
  .cases I
 |emp=>
  simp only[iI] at I;split at I
  .simp only[ak,aD] at I;rw[<- I.2];exact dQ.zero h
  .cases I
 |nil=>
  simp only[iI] at I;split at I
  .simp only[ak,aD] at I;rw[<- I.2];exact dQ.zero h
  .cases I
 |row id=>
  simp only[iI] at I;split at I
  .rename_i ty p S xs hb;split at I
   .simp only[ak,aD] at I;rw[<- I.2];intro i hi;have:=bX.1 hi;subst this;exact⟨ty,p,S,xs,hb⟩
   .cases I
  .cases I
 |fel T xs j hj off=>simp[iI] at I
 |pel id sz j off=>simp[iI] at I
 |ptr id off=>simp[iI] at I
 |csl id off z=>simp[iI] at I
 |mp id=>simp[iI] at I
 |rtl id J=>simp[iI] at I
 |agg q=>simp[iI] at I
 |tup q=>simp[iI] at I
 |clo f q=>simp[iI] at I
 |undef=>simp[iI] at I
 |np=>simp[iI] at I
 |anyb=>simp[iI] at I
theorem uK {h:bh}:∀ (n:Nat) (T:Ty) (l:List TV) (x:T.den) (m:Nat) (r:List TV),eT h n T l=af (x,m,r)->dQ h m
 |0,_,_,_,_,_,hp=>by simp[eT] at hp
 |n+1,.st t,l,x,m,r,hp=>uK n t l x m r hp
 |n+1,.pr a b,l,x,m,r,hp=>by
  simp only[eT] at hp;split at hp
  .rename_i I m1 r1 h1;split at hp
   .rename_i J m2 r2 h2;simp only[ak,aD] at hp;obtain⟨_,rfl,_⟩:=hp;exact (uK n a l I m1 r1 h1).or (uK n b r1 J m2 r2 h2)
   .cases hp
  .cases hp
 |n+1,.un,l,x,m,r,hp=>by
  simp only[eT,ak,aD] at hp;obtain⟨_,rfl,_⟩:=hp;exact dQ.zero h
 |n+1,.ex,l,x,m,r,hp=>by
  simp only[eT] at hp;split at hp
  .rename_i I m1 r1 h1;simp only[ak,aD] at hp;obtain⟨_,rfl,_⟩:=hp;exact uK n Mj l I m1 r1 h1
  .cases hp
 |n+1,.sm,l,x,m,r,hp=>by
  simp only[eT] at hp;split at hp
  .rename_i I m1 r1 h1;simp only[ak,aD] at hp;obtain⟨_,rfl,_⟩:=hp;exact uK n LS l I m1 r1 h1
  .cases hp
 |n+1,.int k,l,x,m,r,hp=>by
  simp only[eT] at hp;split at hp
  .split at hp
   .rename_i I m1 h1;simp only[ak,aD] at hp;obtain⟨_,rfl,_⟩:=hp;exact mZ h1
   .cases hp
  .cases hp
 |n+1,.bool,l,x,m,r,hp=>by
  simp only[eT] at hp;split at hp
  .split at hp
   .rename_i I m1 h1;simp only[ak,aD] at hp;obtain⟨_,rfl,_⟩:=hp;exact mZ h1
   .cases hp
  .cases hp
 |n+1,.str,l,x,m,r,hp=>by
  simp only[eT] at hp;split at hp
  .split at hp
   .rename_i I m1 h1;simp only[ak,aD] at hp;obtain⟨_,rfl,_⟩:=hp;exact mZ h1
   .cases hp
  .cases hp
 |n+1,.sl t,l,x,m,r,hp=>by
  simp only[eT] at hp;split at hp
  .split at hp
   .rename_i I m1 h1;simp only[ak,aD] at hp;obtain⟨_,rfl,_⟩:=hp;exact mZ h1
   .cases hp
  .cases hp
theorem Wj {h:bh} {T:Ty} {v:TV} {x:T.den} {m:Nat} (I:Ds h T v=af (x,m)):dQ h m:=by
 cases v with
 |agg l=>
  simp only[Ds] at I;split at I
  .cases I
  .split at I
   .rename_i J m1 h1;simp only[ak,aD] at I;obtain⟨_,rfl⟩:=I;exact uK 40 T l J m1 [] h1
   .cases I
 |f S v=>exact mZ (v:=.f S v) I
 |fel T xs j hj off=>exact mZ (v:=.fel T xs j hj off) I
 |pel id sz j off=>exact mZ (v:=.pel id sz j off) I
 |ptr id off=>exact mZ (v:=.ptr id off) I
 |csl id off z=>exact mZ (v:=.csl id off z) I
 |row id=>exact mZ (v:=.row id) I
 |emp=>exact mZ (v:=.emp) I
 |nil=>exact mZ (v:=.nil) I
 |mp id=>exact mZ (v:=.mp id) I
 |rtl id M=>exact mZ (v:=.rtl id M) I
 |tup q=>exact mZ (v:=.tup q) I
 |clo g q=>exact mZ (v:=.clo g q) I
 |undef=>exact mZ (v:=.undef) I
 |np=>exact mZ (v:=.np) I
 |anyb=>exact mZ (v:=.anyb) I
theorem M' {h:bh} {T:Ty}:∀ (n:Nat) (l:List TV) (xs:List T.den) (m:Nat),yo h T n l=af (xs,m)->dQ h m
 |0,[],xs,m,hp=>by simp only[yo,ak,aD] at hp;rw[<- hp.2];exact dQ.zero h
 |0,_::_,xs,m,hp=>by simp[yo] at hp
 |n+1,l,xs,m,hp=>by
  simp only[yo] at hp;split at hp
  .rename_i J m1 r1 h1;split at hp
   .rename_i I m2 h2;simp only[ak,aD] at hp;obtain⟨_,rfl⟩:=hp;exact (uK 40 T l J m1 r1 h1).or (M' n r1 I m2 h2)
   .cases hp
  .cases hp
theorem zI {h:bh} {u:TV}:∀ (n:Nat) (T:Ty) (v:T.den) (off sz:Nat) (z:T.den) (m:Nat),gP h u n T v off sz=af (z,m)->dQ h m
 |0,_,_,_,_,_,_,hg=>by simp[gP] at hg
 |n+1,.st t,v,off,sz,z,m,hg=>by
  simp only[gP] at hg;split at hg
  .rename_i q hq;split at hq
   .simp only[ak] at hg;subst hg;exact Wj hq
   .cases hq
  .exact zI n t v off sz z m hg
 |n+1,.pr a b,v,off,sz,z,m,hg=>by
  simp only[gP] at hg;split at hg
  .split at hg
   .rename_i I m1 h1;simp only[ak,aD] at hg;obtain⟨_,rfl⟩:=hg;exact zI n a v.1 off sz I m1 h1
   .cases hg
  .split at hg
   .rename_i I m1 h1;simp only[ak,aD] at hg;obtain⟨_,rfl⟩:=hg;exact zI n b v.2 _ sz I m1 h1
   .cases hg
 |n+1,.un,v,off,sz,z,m,hg=>by simp[gP] at hg
 |n+1,.ex,v,off,sz,z,m,hg=>by
  simp only[gP] at hg;split at hg
  .rename_i q hq;split at hq
   .simp only[ak] at hg;subst hg;exact Wj hq
   .cases hq
  .split at hg
   .rename_i I m1 h1;simp only[ak,aD] at hg;obtain⟨_,rfl⟩:=hg;exact zI n Mj _ off sz I m1 h1
   .cases hg
 |n+1,.sm,v,off,sz,z,m,hg=>by
  simp only[gP] at hg;split at hg
  .rename_i q hq;split at hq
   .simp only[ak] at hg;subst hg;exact Wj hq
   .cases hq
  .split at hg
   .rename_i I m1 h1;simp only[ak,aD] at hg;obtain⟨_,rfl⟩:=hg;exact zI n LS _ off sz I m1 h1
   .cases hg
 |n+1,.int k,v,off,sz,z,m,hg=>by
  simp only[gP] at hg;split at hg
  .exact mZ hg
  .cases hg
 |n+1,.bool,v,off,sz,z,m,hg=>by
  simp only[gP] at hg;split at hg
  .exact mZ hg
  .cases hg
 |n+1,.str,v,off,sz,z,m,hg=>by
  simp only[gP] at hg;split at hg
  .exact mZ hg
  .cases hg
 |n+1,.sl t,v,off,sz,z,m,hg=>by
  simp only[gP] at hg;split at hg
  .exact mZ hg
  .cases hg
theorem tG {h:bh} {m i:Nat} (hm:dQ h m) (hb:aM m i=ai):∃ p sz n,(eo m h).get i=af (.dead p sz n):=by
 obtain⟨ty,p,T,xs,h1⟩:=hm i hb;exact⟨p,T.size,xs.length,by rw[iX,aE hb,h1];rfl⟩
section ops
variable {R:Type} {P:Program} {o:Oper} {e:iN} {h:bh} {nx:Nat} {K:KO R} {r:R}
theorem ii (n:Nat) (b:wK):jb [(n,b)] n=af b:=by simp[jb]
theorem jf.mk' {s:X9} (hc:di P o.op=af s) {H:nP} (hH:H.get=bA h) {k:Nat} {y0:AV} {rdl wrl N:List Nat} {nw:NW} (ha:eL s (IR e h) H k=af ⟨y0,rdl,wrl,nw,N⟩) {v:TV} {h':bh} {nx' rd wr:Nat} (wr':List Nat)
 (hsub:∀ i∈wrl,i∈wr') (hsame:∀ n,n∉wr'->bA h' n=bA h n)
 (hdom:∀ i∈wr',∀ b',bA h' i=af b'->∃ b,(if i∈wrl then jb nw i else bA h i)=af b)
 (hblk:∀ (Y H2:HF),vb Y H2->(∀ i∈wrl,Y i=jb nw i)->(∀ i∈wr',i∉wrl->Y i=bA h i)->(∀ i∈wr',H2 i=bA h' i)->(∀ i∈wr',∀ b b',Y i=af b->H2 i=af b'->jX Y H2 b b')/\∀ y,co h' v=af y->lJ Y H2 y0 y)
 (hrd:∀ n∈rdl,aM rd (ow n)=ai) (hwr:∀ n∈wr',aM wr (ow n)=ai) (hN:∀ n∈N,nx<=ow n/\ow n<nx') (hrows:cj h h') (hinv':l9 h' nx') (hg:nx<=nx'):jf P o aj e h nx v rd wr h' nx':=by
 have ht:=HQ hc ha;rw[uU,hH] at ht;refine ⟨?_,hrows,hinv',hg,λhs=>by cases hs⟩;have base:∀ (val:AV),(∀ y,co h' v=af y->y=val)->(co h' v=ah->val=y0)->gK P o (fM e h) (bA h) ⟨val,rdl,wr',bA h',N⟩:=by
  intro val hval hnone;refine gK.view ht (λi hi=>.inl (hsub i hi)) λh1 hr1 Z=>?_
  have hd:vb (eO h1 wrl (jb nw)) (eO h1 wr' (bA h')):=by
   intro i b hb;unfold eO at hb ⊢;by_cases hi:i∈wr'
   .rw[aE hi] at hb;obtain⟨b0,J⟩:=hdom i hi b hb;refine ⟨b0,?_⟩;by_cases U:i∈wrl
    .rw[aE U] at J ⊢;exact J
    .rw[aB U] at J ⊢;rw[Z i hi];exact J
   .rw[aB hi] at hb;rw[aB (λU=>hi (hsub i U))];exact⟨b,hb⟩
  obtain⟨q1,q2⟩:=hblk _ _ hd (λi hi=>by unfold eO;rw[aE hi]) (λi hi U=>by unfold eO;rw[aB U];exact Z i hi) (λi hi=>by unfold eO;rw[aE hi]);refine ⟨⟨hd,λi b b' hb M=>?_⟩,?_⟩
  .by_cases hi:i∈wr'
   .exact q1 i hi b b' hb M
   .unfold eO at hb M;rw[aB (λU=>hi (hsub i U))] at hb;rw[aB hi,hb] at M;cases M;exact jX.refl hd b
  .cases hv:co h' v with
   |none=>rw[hnone hv];exact lJ.refl hd _
   |some y=>rw[<- hval y hv];exact q2 y hv
 have hu:eO (bA h) wr' (bA h')=bA h':=by
  funext n;unfold eO;split
  .rfl
  .rename_i hn;exact (hsame n hn).symm
 cases hv:co h' v with
 |none=>exact⟨_,base y0 (λy I=>by rw[hv] at I;cases I) (λ_=>rfl),λy I=>(by cases I),hu,hrd,hwr,hN⟩
 |some y=>exact⟨_,base y (λy' I=>by rw[hv] at I;cases I;rfl) (λhn=>by rw[hv] at hn;cases hn),λy' I=>by cases I;rfl,hu,hrd,hwr,hN⟩
theorem CM (hi:tm e h):∀ (parts:List (Nat×Nat×Operand)) (cells cs:List TV) (cells':List AV),IL cells e parts=af cs->cK h cells=af cells'->∃ cs',yR cells' (IR e h) parts=af cs'/\cK h cs=af cs'/\(kq cells=ai->kq cs=ai)
 |[],cells,cs,cells',hf,he=>by simp only[IL,ak] at hf;subst hf;exact⟨cells',rfl,he,id⟩
 |(off,sz,x)::rest,cells,cs,cells',hf,he=>by
  simp only[IL] at hf;split at hf
  .rename_i v hv;split at hf
   .rename_i q hq;split at hf
    .rename_i hc;simp only[av,cV] at hc;obtain⟨y,h1,h2⟩:=bM hi hv;obtain⟨M,h4⟩:=JB hq h2;obtain⟨cs',Z,Y,U⟩:=CM hi rest (splice cells off q) cs (splice cells' off y.cs) hf (sh off he M);refine ⟨cs',?_,Y,λI=>U ?_⟩
     .simp only[yR,h1];rw[aE,Z];simp only[av,cV];exact⟨⟨by rw[hZ M];exact hc.1,by rw[hZ he];exact hc.2⟩,rU M h4⟩
     .clear Z Y U hf;have app:∀ a b:List TV,kq a=ai->kq b=ai->kq (a++b)=ai:=by
       intro a b I hb;induction a with
       |nil=>exact hb
       |cons z r J=>simp only[kq,av,gi] at I ⊢;exact⟨I.1,J I.2⟩
      have tk:∀ (a:List TV) n,kq a=ai->kq (a.take n)=ai:=by
       intro a;induction a with
       |nil=>intro n h;simp[kq]
       |cons z r J=>
        intro n h;cases n with
        |zero=>rfl
        |succ n=>simp only[kq,av,vB] at h ⊢;exact⟨h.1,J n h.2⟩
      have dr:∀ (a:List TV) n,kq a=ai->kq (a.drop n)=ai:=by
       intro a;induction a with
       |nil=>intro n h;simp[kq]
       |cons z r J=>
        intro n h;cases n with
        |zero=>exact h
        |succ n=>simp only[kq,av,vC] at h ⊢;exact J n h.2
      unfold splice;exact app _ _ (app _ _ (tk _ _ I) h4) (dr _ _ I)
    .cases hf
   .cases hf
  .cases hf
variable (hinv:l9 h nx) (hi:tm e h)
include hinv hi
theorem aei {con:FuncId->Option ct} {b9:TypeId->Option Ty} {z:List Value} {parts:List (Nat×Nat×Operand)} {st:Bool} (hc:di P o.op=af (.build z parts)) (hk:dS con b9 (.op (.build z parts)) e h nx K=af r):kL P o st e h nx K r:=by
 simp only[dS] at hk;split at hk
 .rename_i l hl;split at hk
  .rename_i cs hf;obtain⟨h1,_,_⟩:=uY h hl;obtain⟨cs',h2,J,_⟩:=CM hi parts l cs _ hf h1;refine kL.q (k:=0) (y0:=L3 cs') hinv hc (λH _=>by simp only[eL,h2]) (λy I=>?_) hk;simp only[co,J,ak] at I;subst I;exact Zh cs'
  .cases hk
 .cases hk
theorem aip {con:FuncId->Option ct} {b9:TypeId->Option Ty} {sz:Nat} {ag:Bool} {x:Operand} (hc:di P o.op=af (.load sz ag x)) (hk:dS con b9 (.op (.load sz ag x)) e h nx K=af r):kL P o aj e h nx K r:=by
 obtain⟨H,J⟩:=jL h;simp only[dS] at hk;split at hk
 .rename_i id off hv;obtain⟨y,h1,h2⟩:=bM hi hv;simp only[co,ak] at h2;subst h2;split at hk
  .rename_i ty l hb;split at hk
   .rename_i v hs;obtain⟨Y,hl⟩:=fh h l (hinv.cells id ty l hb);obtain⟨y,U,M⟩:=Vf hl hs;have hg:H.get (nm id)=af ⟨ty,.mx Y⟩:=by rw[J,bJ,hb];simp only[aH,kw,hl]
    exact⟨v,kK id,0,h,nx,hk,jf.pure (k:=0) hinv hc J (y0:=y) (rdl:=[nm id]) (by simp only[eL,h1,Dt,hg,M]) (dl U) (λn hn=>by simp only[aL] at hn;subst hn;rw[dX];exact bX.2 rfl) (λh=>by cases h)⟩
   .cases hk
  .cases hk
 .rename_i id sz' j off hv;obtain⟨y,h1,h2⟩:=bM hi hv;simp only[co,ak] at h2;subst h2;split at hk
  .rename_i ty p T xs hb;split at hk
   .rename_i hsz;have hsz:=aw hsz;obtain⟨hj,hk⟩:=dU hk;split at hk
    .rename_i v hs;obtain⟨y,U,M⟩:=aew (h:=h) hj hs;have hne:¬((p&&xs.length==0)=ai):=by
      have:=D8 hj;simp only[av,cV];omega
     have hg:H.get (nm id)=af ⟨ty,.fz (xs.flatMap (bS T))⟩:=by rw[J,bJ,hb];simp only[aH,kw,aB hne]
     exact⟨v,kK id,0,h,nx,hk,jf.pure (k:=0) hinv hc J (y0:=.f y) (rdl:=[nm id]) (by simp only[eL,h1,Dt,hg,hsz,M]) (dl U) (λn hn=>by simp only[aL] at hn;subst hn;rw[dX];exact bX.2 rfl) (λh=>by cases h)⟩
    .cases hk
   .cases hk
  .rename_i ty l hb;split at hk
   .cases hk
   .split at hk
    .rename_i hsz;simp only[av] at hsz;have e1:=aw hsz.1.1;have e2:=aw hsz.1.2;have e3:=aw hsz.2;subst e1;subst e2;subst e3;split at hk
     .rename_i T xs hA;obtain⟨hj,hk⟩:=dU hk;obtain⟨Y,hl⟩:=fh h l (hinv.cells id ty l hb);have hg:H.get (nm id)=af ⟨ty,.mx Y⟩:=by rw[J,bJ,hb];simp only[aH,kw,hl]
      have hlt:j.toNat<l.length:=by
       simp only[fI,av,c5,fO,bR] at hj;omega
      obtain⟨z,Z,I⟩:=lZ hl j.toNat _ (Wk hA j.toNat hlt);have I:co h (.f T (aJ xs j))=af z:=I;exact⟨_,kK id,0,h,nx,hk,jf.pure (k:=0) hinv hc J (y0:=z) (rdl:=[nm id]) (by simp only[eL,h1,Dt,hg,BC.sub?,BC.get,Nat.mul_one,c8,Z]) (dl I) (λn hn=>by simp only[aL] at hn;subst hn;rw[dX];exact bX.2 rfl) (λh=>by cases h)⟩
     .cases hk
    .cases hk
  .cases hk
 .rename_i T xs j hj off hv;obtain⟨y,h1,h2⟩:=bM hi hv;simp only[co,ak] at h2;subst h2;split at hk
  .rename_i v hs;obtain⟨y,U,M⟩:=aew (h:=h) hj hs;exact kL.q (k:=0) (y0:=.f y) hinv hc (λH _=>by simp only[eL,h1,Dt,M]) (dl U) hk
  .cases hk
 .cases hk
theorem aej {con:FuncId->Option ct} {b9:TypeId->Option Ty} {ty:TypeId} {z:List Value} (hc:di P o.op=af (.alloc ty z)) (hk:dS con b9 (.op (.alloc ty z)) e h nx K=af r):kL P o aj e h nx K r:=by
 have _:=hi;obtain⟨H,hH⟩:=jL h;simp only[dS] at hk;split at hk
 .rename_i l hl;obtain⟨_,hz,_⟩:=uY h hl;have hnone:h.get nx=ah:=by
   cases hb:h.get nx with
   |none=>rfl
   |some b=>have:=hinv.low nx b hb;omega
  have hr:cj h (h.set nx (af (.cells ty l))):=cj.set λr hr=>by rw[bU,hnone] at hr;cases hr
  obtain⟨h1,_,_⟩:=uY (h.set nx (af (.cells ty l))) hl;have U:bA (h.set nx (af (.cells ty l))) (nm nx)=af ⟨ty,.mx (z.map raw)⟩:=by rw[bJ,PT.get_set,aE rfl];simp only[aH,kw,h1]
  refine ⟨_,_,_,_,_,hk,jf.mk' hc hH (k:=nm nx) (by simp only[eL];rfl) [nm nx] (λi hi=>hi) (λn hn=>?_) (λi hi b' _=>⟨⟨ty,.fz (z.map .raw)⟩,?_⟩) (λH1 H2 d M _ J=>⟨λi hi b b' hb I=>?_,λy Y=>?_⟩) (by simp) ?_ ?_ hr (hinv.set hr (by omega) (by omega) λty' l' he=>?_) (by omega)⟩
  .refine kJ hinv hr λi e=>?_
   subst e;rw[PT.get_set,aB (λe=>hn (by rw[e];simp))]
  .rw[aE hi];simp only[aL] at hi;subst hi;simp[jb]
  .simp only[aL] at hi;subst hi;rw[M _ (by simp)] at hb;rw[J _ (by simp),U] at I;rw[ii] at hb;simp only[ak] at hb I;subst hb;subst I;refine jX.cells rfl rfl ?_ λx Z=>?_
   .simp only[BC.toMx,zF];exact ie.refl d _
   .simp only[BC.toMx] at Z;obtain⟨q,hq,rfl⟩:=dk.1 Z;exact hz q hq
  .simp only[co,ak] at Y;subst Y;exact lJ.refl d _
  .intro n hn;simp only[aL] at hn;subst hn;rw[dX];exact bX.2 rfl
  .intro n hn;simp only[aL] at hn;subst hn;rw[dX];omega
  .cases he;exact kH _ _ _ h1
 .cases hk
theorem am5 {con:FuncId->Option ct} {b9:TypeId->Option Ty} {ty:TypeId} {x:Operand} (hc:di P o.op=af (.box ty x)) (hk:dS con b9 (.op (.box ty x)) e h nx K=af r):kL P o aj e h nx K r:=by
 obtain⟨H,hH⟩:=jL h;simp only[dS] at hk;split at hk
 .rename_i v hv;split at hk
  .rename_i l hl;obtain⟨y,h1,h2⟩:=bM hi hv;obtain⟨h3,h4⟩:=JB hl h2;have hcell:=rU h3 h4;have hnone:h.get nx=ah:=by
    cases hb:h.get nx with
    |none=>rfl
    |some b=>have:=hinv.low nx b hb;omega
   have hr:cj h (h.set nx (af (.cells ty l))):=cj.set λr hr=>by rw[bU,hnone] at hr;cases hr
   have Z:=gY hr l _ h3;have U:bA (h.set nx (af (.cells ty l))) (nm nx)=af ⟨ty,.mx y.cs⟩:=by rw[bJ,PT.get_set,aE rfl];simp only[aH,kw,Z]
   refine ⟨_,_,_,_,_,hk,jf.mk' hc hH (k:=nm nx) (by simp only[eL,h1,hcell,bD];rfl) [nm nx] (λi hi=>hi) (λn hn=>?_) (λi hi b' _=>⟨⟨ty,ph y.cs⟩,?_⟩) (λH1 H2 d M _ J=>⟨λi hi b b' hb I=>?_,λy Y=>?_⟩) (by simp) ?_ ?_ hr (hinv.set hr (by omega) (by omega) λty' l' he=>?_) (by omega)⟩
   .refine kJ hinv hr λi e=>?_
    subst e;rw[PT.get_set,aB (λe=>hn (by rw[e];simp))]
   .rw[aE hi];simp only[aL] at hi;subst hi;simp[jb]
   .simp only[aL] at hi;subst hi;rw[M _ (by simp)] at hb;rw[J _ (by simp),U] at I;rw[ii] at hb;simp only[ak] at hb I;subst hb;subst I;obtain⟨q1,q2⟩:=nE y.cs;refine jX.cells q2 rfl ?_ λx hx=>?_
    .rw[q1];exact ie.refl d _
    .exact lI hcell x hx
   .simp only[co,ak] at Y;subst Y;exact lJ.refl d _
   .intro n hn;simp only[aL] at hn;subst hn;rw[dX];exact bX.2 rfl
   .intro n hn;simp only[aL] at hn;subst hn;rw[dX];omega
   .cases he;exact kH _ _ _ Z
  .cases hk
 .cases hk
theorem aeg {con:FuncId->Option ct} {b9:TypeId->Option Ty} {ty:TypeId} {sz bytes:Nat} {z:List Value} {l c:Operand} (hcm:Dk (b9 ty)=ah) (hc:di P o.op=af (.mksl ty sz bytes z l c)) (hk:dS con b9 (.op (.mksl ty sz bytes z l c)) e h nx K=af r):kL P o aj e h nx K r:=by
 obtain⟨H,hH⟩:=jL h;simp only[dS,hcm] at hk;split at hk
 .rename_i T k a k' b hT hv U;split at hk
  .rename_i hsz;simp only[av] at hsz;have hs:=aw hsz.1;have hz:=JU hsz.2;subst hs;subst hz;obtain⟨hck,hk⟩:=dU hk;obtain⟨y,h1,h2⟩:=bM hi hv;obtain⟨y2,h3,h4⟩:=bM hi U;simp only[co,ak] at h2 h4;subst h2;subst h4;have hnone:h.get nx=ah:=by
    cases hb:h.get nx with
    |none=>rfl
    |some b=>have:=hinv.low nx b hb;omega
   generalize Z:ip.rows ty aj T (aG (aU a) T.zero)=B at hk;have hr:cj h (h.set nx (af B)):=cj.set λr hr=>by rw[bU,hnone] at hr;cases hr
   have Y:bA (h.set nx (af B)) (nm nx)=af ⟨ty,.fz ((aG (aU a) T.zero).flatMap (bS T))⟩:=by rw[bJ,PT.get_set,aE rfl,<-Z];simp[kw]
   refine ⟨_,_,_,_,_,hk,jf.mk' hc hH (k:=nm nx) (by simp only[eL,h1,h3,gE,hck,bD];rfl) [nm nx] (λi hi=>hi) (λn hn=>?_) (λi hi b' _=>⟨⟨ty,.fz (repl (sN T) (aU a))⟩,?_⟩) (λH1 H2 d M _ J=>⟨λi hi b b' hb I=>?_,λy hy=>?_⟩) (by simp) ?_ ?_ hr (hinv.set hr (by omega) (by omega) λty' l' he=>?_) (by omega)⟩
   .refine kJ hinv hr λi e=>?_
    subst e;rw[PT.get_set,aB (λe=>hn (by rw[e];simp))]
   .rw[aE hi];simp only[aL] at hi;subst hi;simp[jb]
   .simp only[aL] at hi;subst hi;rw[M _ (by simp)] at hb;rw[J _ (by simp),Y] at I;rw[ii] at hb;simp only[ak] at hb I;subst hb;subst I;refine jX.cells rfl rfl (G3 d T _) λx hx=>?_
    simp only[BC.toMx] at hx;obtain⟨q,hq,rfl⟩:=dk.1 hx;exact rA T _ q hq
   .simp only[co,bU,PT.get_set,bD,<-Z,aH,mA,fk,ne,cw,dY,ak,eE] at hy;subst hy;exact lJ.refl d _
   .intro n hn;simp only[aL] at hn;subst hn;rw[dX];exact bX.2 rfl
   .intro n hn;simp only[aL] at hn;subst hn;rw[dX];omega
   .rw[<- Z] at he;cases he
  .cases hk
 .cases hk
end ops
theorem zS {α:Type} {f:α->List FV} {n:Nat} (hf:∀ x,(f x).length=n):∀ (xs:List α) (j:Nat),(xs.take j).flatMap f=(xs.flatMap f).take (j*n)
 |[],j=>by simp
 |x::r,0=>by simp
 |x::r,j+1=>by
  rw[vB,fD,fD,zS hf r j,show (j+1)*n=(f x).length+j*n from by rw[hf,iP];omega,List.take_length_add_append]
theorem IK {α:Type} {f:α->List FV} {n:Nat} (hf:∀ x,(f x).length=n):∀ (xs:List α) (j:Nat),(xs.drop j).flatMap f=(xs.flatMap f).drop (j*n)
 |[],j=>by simp
 |x::r,0=>by simp
 |x::r,j+1=>by
  rw[vC,fD,IK hf r j,show (j+1)*n=(f x).length+j*n from by rw[hf,iP];omega,List.drop_length_add_append]
theorem Pk {z:List Value}:∀ (n:Nat) (x:FV),x∈repl z n->∃ v∈z,x= .raw v
 |0,x,h=>by simp[repl] at h
 |n+1,x,h=>by
  rw[repl,bP] at h;rcases h with h|h
  .obtain⟨v,hv,rfl⟩:=dk.1 h;exact⟨v,hv,rfl⟩
  .exact Pk n x h
theorem F1:∀ l:List FV,(∀ x∈l,x.isCell=ai)->gD (l.map .f)=ai
 |[],_=>rfl
 |z::r,h=>by simp only[gh,gD,av];exact⟨h z (by simp),F1 r λx I=>h x (by simp[I])⟩
section ops
variable {R:Type} {P:Program} {o:Oper} {e:iN} {h:bh} {nx:Nat} {K:KO R} {r:R}
theorem l9.fresh (hinv:l9 h nx):h.get nx=ah:=by
 cases hb:h.get nx with
 |none=>rfl
 |some b=>have:=hinv.low nx b hb;omega
theorem dQ.lt (hinv:l9 h nx) {m:Nat} (hm:dQ h m) {i:Nat} (hi:aM m i=ai):i<nx:=by
 obtain⟨_,_,_,_,hb⟩:=hm i hi;exact hinv.low i _ hb
theorem jf.new {s:X9} (hinv:l9 h nx) (hc:di P o.op=af s) {H:nP} (hH:H.get=bA h) {y0:AV} {rdl:List Nat} {b0:wK} (ha:eL s (IR e h) H (nm nx)=af ⟨y0,rdl,[nm nx],[(nm nx,b0)],[nm nx]⟩) {B:ip} {v:TV} {m rd:Nat} (hm:dQ h m)
 (hB:∀ ty l,B= .cells ty l->kM ((eo m h).set nx (af B)) l=ai)
 (hblk:∀ J I,vb J I->DG h J I m->∀ b',kw ((eo m h).set nx (af B)) B=af b'->jX J I b0 b')
 (hval:∀ J I y,vb J I->DG h J I m->co ((eo m h).set nx (af B)) v=af y->lJ J I y0 y)
 (hrd:∀ n∈rdl,aM rd (ow n)=ai):jf P o aj e h nx v rd (m|||kK nx) ((eo m h).set nx (af B)) (nx+1):=by
 have hk:=hinv.kill m;have hr0:=cj.kill m h;have Y:cj (eo m h) ((eo m h).set nx (af B)):=cj.set λr hr=>by rw[bU,hk.fresh] at hr;cases hr
 have hr:=hr0.trans Y;have hgiv:∀ i,aM m i=ai->bA ((eo m h).set nx (af B)) (nm i)=ah:=λi hi=>by
  have hlt:=hm.lt hinv hi;obtain⟨p,sz,n,hd⟩:=tG hm hi;rw[bJ,PT.get_set,aB (by omega),hd];rfl
 refine jf.mk' hc hH ha (nm nx::E_ m) (λi hi=>by simp only[aL] at hi;subst hi;simp) (λn hn=>?_) (λi hi b' Z=>?_) (λJ I d hw1 hw0 U=>?_) hrd ?_ ?_ hr (hk.set Y (by omega) (by omega) hB) (by omega)
 .refine kJ hinv hr λi e=>?_
  subst e;rw[PT.get_set,aB (λe=>hn (by rw[e];simp)),iX,aB];intro hb;exact hn (cM _ (lz.2 hb))
 .rcases bi.1 hi with rfl|hi
  .exact⟨b0,by rw[aE (by simp),ii]⟩
  .obtain⟨j,rfl,hj⟩:=nG.1 hi;rw[hgiv j hj] at Z;cases Z
 .have g:DG h J I m:=λi hi=>by
   have hlt:=hm.lt hinv hi;have hmem:nm i∈nm nx::E_ m:=cM _ (lz.2 hi);exact⟨hw0 _ hmem (λhc=>by simp only[aL] at hc;have:=kN hc;omega),by rw[U _ hmem,hgiv i hi]⟩
  refine ⟨λi hi b b' hb M=>?_,λy hy=>hval J I y d g hy⟩;rcases bi.1 hi with rfl|hi'
  .rw[hw1 _ (by simp),ii] at hb;rw[U _ hi,bJ,PT.get_set,aE rfl] at M;simp only[ak] at hb;subst hb;exact hblk J I d g b' M
  .obtain⟨j,rfl,hj⟩:=nG.1 hi';rw[U _ hi,hgiv j hj] at M;cases M
 .intro n hn;rw[bu];rcases bi.1 hn with rfl|hn
  .rw[dX,bX.2 rfl];simp
  .obtain⟨j,rfl,hj⟩:=nG.1 hn;rw[dX,hj];rfl
 .intro n hn;simp only[aL] at hn;subst hn;rw[dX];omega
theorem jf.wrt {s:X9} (hinv:l9 h nx) (hc:di P o.op=af s) {H:nP} (hH:H.get=bA h) {id:Nat} {y0:AV} {rdl:List Nat} {b0:wK} {k:Nat} (ha:eL s (IR e h) H k=af ⟨y0,rdl,[nm id],[(nm id,b0)],[]⟩) {B0 B:ip} (Z:h.get id=af B0) {v:TV} {m rd:Nat} (hm:dQ h m) (hmid:aM m id=aj)
 (hrow:mA B=mA B0) (hB:∀ ty l,B= .cells ty l->kM ((eo m h).set id (af B)) l=ai)
 (hblk:∀ J I,vb J I->DG h J I m->∀ b',kw ((eo m h).set id (af B)) B=af b'->jX J I b0 b')
 (hval:∀ J I y,vb J I->DG h J I m->co ((eo m h).set id (af B)) v=af y->lJ J I y0 y)
 (hrd:∀ n∈rdl,aM rd (ow n)=ai):jf P o aj e h nx v rd (m|||kK id) ((eo m h).set id (af B)) nx:=by
 have hk:=hinv.kill m;have hr0:=cj.kill m h;have hkid:(eo m h).get id=af B0:=by rw[iX,hmid];simpa using Z
 have Y:cj (eo m h) ((eo m h).set id (af B)):=cj.set λr hr=>by rw[bU,hkid] at hr;rw[hrow];exact hr
 have hr:=hr0.trans Y;have hgiv:∀ i,aM m i=ai->bA ((eo m h).set id (af B)) (nm i)=ah:=λi hi=>by
  have hne:i≠id:=λe=>by rw[e,hmid] at hi;cases hi
  obtain⟨p,sz,n,hd⟩:=tG hm hi;rw[bJ,PT.get_set,aB hne,hd];rfl
 refine jf.mk' hc hH ha (nm id::E_ m) (λi hi=>by simp only[aL] at hi;subst hi;simp) (λn hn=>?_) (λi hi b' hb'=>?_) (λJ I d hw1 hw0 U=>?_) hrd ?_ (by simp) hr (hk.set Y (hinv.low id B0 Z) (by omega) hB) (by omega)
 .refine kJ hinv hr λi e=>?_
  subst e;rw[PT.get_set,aB (λe=>hn (by rw[e];simp)),iX,aB];intro hb;exact hn (cM _ (lz.2 hb))
 .rcases bi.1 hi with rfl|hi
  .exact⟨b0,by rw[aE (by simp),ii]⟩
  .obtain⟨j,rfl,hj⟩:=nG.1 hi;rw[hgiv j hj] at hb';cases hb'
 .have g:DG h J I m:=λi hi=>by
   have hne:i≠id:=λe=>by rw[e,hmid] at hi;cases hi
   have hmem:nm i∈nm id::E_ m:=cM _ (lz.2 hi);exact⟨hw0 _ hmem (λhc=>by simp only[aL] at hc;exact hne (kN hc)),by rw[U _ hmem,hgiv i hi]⟩
  refine ⟨λi hi b b' hb M=>?_,λy hy=>hval J I y d g hy⟩;rcases bi.1 hi with rfl|hi'
  .rw[hw1 _ (by simp),ii] at hb;rw[U _ hi,bJ,PT.get_set,aE rfl] at M;simp only[ak] at hb;subst hb;exact hblk J I d g b' M
  .obtain⟨j,rfl,hj⟩:=nG.1 hi';rw[U _ hi,hgiv j hj] at M;cases M
 .intro n hn;rw[bu];rcases bi.1 hn with rfl|hn
  .rw[dX,bX.2 rfl];simp
  .obtain⟨j,rfl,hj⟩:=nG.1 hn;rw[dX,hj];rfl
theorem LW (h:bh) {z:List Value} {I:List TV} (J:Jy z=af I):∀ len,cK h (aG len I).flatten=af ((repl z len).map .f)
 |0=>rfl
 |n+1=>by
  rw[List.replicate_succ,List.flatten_cons,repl,cQ];refine mX ?_ (LW h J n);rw[(uY h J).1];simp only[zF];rfl
theorem Vl {H:nP} (Z:H.get=bA h) {T:Ty} {v:TV} {U:List T.den} {m:Nat} {y:AV} (I:Ds h (.sl T) v=af (U,m)) (J:co h v=af y):∃ rd,y.row? H T.size=af ((U.flatMap (bS T)).map .f,U.length,rd)/\∀ n∈rd,∃ i,n=nm i/\aM m i=ai:=by
 have fl:=λM:List T.den=>fx (bB T) M
 have tk:∀ M:List T.den,(M.flatMap (bS T)).take (M.length*T.size)=M.flatMap (bS T):=λM=>by rw[<- fl,cR]
 cases v with
 |f S x=>
  simp only[Ds,iI] at I;split at I
  .rename_i z Y;simp only[ak,aD] at I;obtain⟨rfl,_⟩:=I;obtain⟨e,rfl⟩:=je Y;subst e;simp only[co,ak] at J;subst J;refine ⟨[],?_,by simp⟩;simp only[gE,AV.row?];rw[aE (bC (by rw[fl x];exact bT _)),tk]
  .cases I
 |emp=>
  simp only[Ds,iI,ak,aD] at I;obtain⟨rfl,_⟩:=I;simp only[co,ak] at J;subst J;exact⟨[],rfl,by simp⟩
 |nil=>
  simp only[Ds,iI,ak,aD] at I;obtain⟨rfl,_⟩:=I;simp only[co,ak] at J;subst J;exact⟨[],rfl,by simp⟩
 |row id=>
  simp only[Ds,iI] at I;split at I
  .rename_i ty p S xs hb;split at I
   .rename_i z Y;simp only[ak,aD] at I;obtain⟨rfl,rfl⟩:=I;obtain⟨e,rfl⟩:=je Y;cases e;simp only[co,em,hb,ak] at J;subst J;unfold fk;split
    .rename_i hp;simp only[av,cV] at hp;have:xs=[]:=gF.1 hp.2;subst this;exact⟨[],rfl,by simp⟩
    .rename_i hp;have hg:H.get (nm id)=af ⟨ty,.fz (xs.flatMap (bS T))⟩:=by rw[Z,bJ,hb];simp only[aH,kw,aB hp]
     refine ⟨[nm id],?_,λn hn=>?_⟩
     .simp only[AV.row?,hg,cU,bD,BC.isCells,BC.len,pu];rw[aE (bC (by rw[fl xs];exact bT _))];simp only[BC.toMx,<-kC,tk]
     .simp only[aL] at hn;exact⟨id,hn,bX.2 rfl⟩
   .cases I
  .cases I
 |agg l=>simp[Ds,Ty.one] at I
 |fel T xs j hj off=>simp[Ds,iI] at I
 |pel id sz j off=>simp[Ds,iI] at I
 |ptr id off=>simp[Ds,iI] at I
 |csl id off z=>simp[Ds,iI] at I
 |mp id=>simp[Ds,iI] at I
 |rtl id jj=>simp[Ds,iI] at I
 |tup q=>simp[Ds,iI] at I
 |clo f q=>simp[Ds,iI] at I
 |undef=>simp[Ds,iI] at I
 |np=>simp[Ds,iI] at I
 |anyb=>simp[Ds,iI] at I
theorem Th {v:TV} {y:AV} (I:co h v=af y) (hc:v.isC=ai):gD y.cs=ai:=by
 rw[Nb (Np I hc)];simp only[gD,Bool.and_true];exact Np I hc
theorem Xr (T:Ty) (x:T.den):gD ((bS T x).map .f)=ai:=by
 have:∀ l:List FV,(∀ x∈l,x.isCell=ai)->gD (l.map .f)=ai:=by
  intro l hl;induction l with
  |nil=>rfl
  |cons z r I=>simp only[gh,gD,av];exact⟨hl z (by simp),I λx J=>hl x (by simp[J])⟩
 exact this _ (nM T x)
theorem gU {T:Ty} {v:TV} {x:T.den} {m:Nat} {y:AV} (I:iI h T v=af (x,m)) (J:co h v=af y):gD y.cs=ai:=by
 cases v with
 |f S v=>simp only[co,ak] at J;subst J;rw[zV];exact Xr S v
 |emp=>exact Th J rfl
 |nil=>exact Th J rfl
 |row id=>exact Th J rfl
 |fel T xs j hj off=>simp[iI] at I
 |pel id sz j off=>simp[iI] at I
 |ptr id off=>simp[iI] at I
 |csl id off z=>simp[iI] at I
 |mp id=>simp[iI] at I
 |rtl id M=>simp[iI] at I
 |agg q=>simp[iI] at I
 |tup q=>simp[iI] at I
 |clo f q=>simp[iI] at I
 |undef=>simp[iI] at I
 |np=>simp[iI] at I
 |anyb=>simp[iI] at I
theorem Hl {T:Ty} (M:T.one=ai) {v:TV} {x:T.den} {m:Nat} (I:iI h T v=af (x,m)):v.isC=ai:=by
 cases v with
 |f S v=>
  simp only[iI] at I;split at I
  .rename_i z J;obtain⟨e,_⟩:=je J;subst e;exact M
  .cases I
 |emp=>rfl
 |nil=>rfl
 |row id=>rfl
 |fel T xs j hj off=>simp[iI] at I
 |pel id sz j off=>simp[iI] at I
 |ptr id off=>simp[iI] at I
 |csl id off z=>simp[iI] at I
 |mp id=>simp[iI] at I
 |rtl id U=>simp[iI] at I
 |agg q=>simp[iI] at I
 |tup q=>simp[iI] at I
 |clo f q=>simp[iI] at I
 |undef=>simp[iI] at I
 |np=>simp[iI] at I
 |anyb=>simp[iI] at I
theorem RJ {a b:List TV} (I:kq a=ai) (hb:kq b=ai):kq (a++b)=ai:=by
 induction a with
 |nil=>exact hb
 |cons z r J=>simp only[kq,av,gi] at I ⊢;exact⟨I.1,J I.2⟩
theorem tB:∀ (n:Nat) (T:Ty) (l:List TV) (x:T.den) (m:Nat) (r:List TV),eT h n T l=af (x,m,r)->∃ a,l=a++r/\kq a=ai
 |0,_,_,_,_,_,hp=>by simp[eT] at hp
 |n+1,.st t,l,x,m,r,hp=>tB n t l x m r hp
 |n+1,.pr a b,l,x,m,r,hp=>by
  simp only[eT] at hp;split at hp
  .rename_i I m1 r1 h1;split at hp
   .rename_i J m2 r2 h2;simp only[ak,aD] at hp;obtain⟨_,_,rfl⟩:=hp;obtain⟨a1,rfl,U⟩:=tB n a l I m1 r1 h1;obtain⟨a2,rfl,M⟩:=tB n b r1 J m2 r2 h2;exact⟨a1++a2,by simp,RJ U M⟩
   .cases hp
  .cases hp
 |n+1,.un,l,x,m,r,hp=>by
  simp only[eT,ak,aD] at hp;obtain⟨_,_,rfl⟩:=hp;exact⟨[],rfl,rfl⟩
 |n+1,.ex,l,x,m,r,hp=>by
  simp only[eT] at hp;split at hp
  .rename_i I m1 r1 h1;simp only[ak,aD] at hp;obtain⟨_,_,rfl⟩:=hp;exact tB n Mj l I m1 r1 h1
  .cases hp
 |n+1,.sm,l,x,m,r,hp=>by
  simp only[eT] at hp;split at hp
  .rename_i I m1 r1 h1;simp only[ak,aD] at hp;obtain⟨_,_,rfl⟩:=hp;exact tB n LS l I m1 r1 h1
  .cases hp
 |n+1,.int k,l,x,m,r,hp=>by
  simp only[eT] at hp;split at hp
  .rename_i c q;split at hp
   .rename_i I m1 h1;simp only[ak,aD] at hp;obtain⟨_,_,rfl⟩:=hp;exact⟨[c],rfl,by simp[kq,Hl rfl h1]⟩
   .cases hp
  .cases hp
 |n+1,.bool,l,x,m,r,hp=>by
  simp only[eT] at hp;split at hp
  .rename_i c q;split at hp
   .rename_i I m1 h1;simp only[ak,aD] at hp;obtain⟨_,_,rfl⟩:=hp;exact⟨[c],rfl,by simp[kq,Hl rfl h1]⟩
   .cases hp
  .cases hp
 |n+1,.str,l,x,m,r,hp=>by
  simp only[eT] at hp;split at hp
  .rename_i c q;split at hp
   .rename_i I m1 h1;simp only[ak,aD] at hp;obtain⟨_,_,rfl⟩:=hp;exact⟨[c],rfl,by simp[kq,Hl rfl h1]⟩
   .cases hp
  .cases hp
 |n+1,.sl t,l,x,m,r,hp=>by
  simp only[eT] at hp;split at hp
  .rename_i c q;split at hp
   .rename_i I m1 h1;simp only[ak,aD] at hp;obtain⟨_,_,rfl⟩:=hp;exact⟨[c],rfl,by simp[kq,Hl rfl h1]⟩
   .cases hp
  .cases hp
theorem JY {T:Ty} {v:TV} {x:T.den} {m:Nat} {y:AV} (J:Ds h T v=af (x,m)) (I:co h v=af y):gD y.cs=ai:=by
 cases v with
 |agg l=>
  simp only[Ds] at J;split at J
  .cases J
  .split at J
   .rename_i M m1 h1;obtain⟨a,e,Y⟩:=tB 40 T l M m1 [] h1;rw[jT] at e;subst e;simp only[co] at I;split at I
    .rename_i Z hl;simp only[ak] at I;subst I;exact rU hl Y
    .cases I
   .cases J
 |f S v=>exact gU (v:=.f S v) J I
 |fel T xs j hj off=>exact gU (v:=.fel T xs j hj off) J I
 |pel id sz j off=>exact gU (v:=.pel id sz j off) J I
 |ptr id off=>exact gU (v:=.ptr id off) J I
 |csl id off z=>exact gU (v:=.csl id off z) J I
 |row id=>exact gU (v:=.row id) J I
 |emp=>exact gU (v:=.emp) J I
 |nil=>exact gU (v:=.nil) J I
 |mp id=>exact gU (v:=.mp id) J I
 |rtl id U=>exact gU (v:=.rtl id U) J I
 |tup q=>exact gU (v:=.tup q) J I
 |clo g q=>exact gU (v:=.clo g q) J I
 |undef=>exact gU (v:=.undef) J I
 |np=>exact gU (v:=.np) J I
 |anyb=>exact gU (v:=.anyb) J I
theorem qU {u:TV} {y:AV} (I:co h u=af y):∀ (n:Nat) (T:Ty) (v:T.den) (off sz:Nat) (z:T.den) (m:Nat),gP h u n T v off sz=af (z,m)->gD y.cs=ai
 |0,_,_,_,_,_,_,hg=>by simp[gP] at hg
 |n+1,.st t,v,off,sz,z,m,hg=>by
  simp only[gP] at hg;split at hg
  .rename_i q hq;split at hq
   .exact JY hq I
   .cases hq
  .exact qU I n t v off sz z m hg
 |n+1,.pr a b,v,off,sz,z,m,hg=>by
  simp only[gP] at hg;split at hg
  .split at hg
   .rename_i J m1 h1;exact qU I n a v.1 off sz J m1 h1
   .cases hg
  .split at hg
   .rename_i J m1 h1;exact qU I n b v.2 _ sz J m1 h1
   .cases hg
 |n+1,.un,v,off,sz,z,m,hg=>by simp[gP] at hg
 |n+1,.ex,v,off,sz,z,m,hg=>by
  simp only[gP] at hg;split at hg
  .rename_i q hq;split at hq
   .exact JY hq I
   .cases hq
  .split at hg
   .rename_i J m1 h1;exact qU I n Mj _ off sz J m1 h1
   .cases hg
 |n+1,.sm,v,off,sz,z,m,hg=>by
  simp only[gP] at hg;split at hg
  .rename_i q hq;split at hq
   .exact JY hq I
   .cases hq
  .split at hg
   .rename_i J m1 h1;exact qU I n LS _ off sz J m1 h1
   .cases hg
 |n+1,.int k,v,off,sz,z,m,hg=>by
  simp only[gP] at hg;split at hg
  .exact gU hg I
  .cases hg
 |n+1,.bool,v,off,sz,z,m,hg=>by
  simp only[gP] at hg;split at hg
  .exact gU hg I
  .cases hg
 |n+1,.str,v,off,sz,z,m,hg=>by
  simp only[gP] at hg;split at hg
  .exact gU hg I
  .cases hg
 |n+1,.sl t,v,off,sz,z,m,hg=>by
  simp only[gP] at hg;split at hg
  .exact gU hg I
  .cases hg
theorem J1 (l:List FV):xx (l.map .f)=af l:=by
 induction l with
 |nil=>rfl
 |cons x r I=>simp only[gh,xx,I]
theorem Co (l:List FV):ph (l.map .f)= .fz l:=by unfold ph;rw[J1]
theorem F3:∀ {a b:List TV},kq a=ai->kq b=ai->kq (a++b)=ai
 |[],_,_,hb=>hb
 |x::r,b,I,hb=>by
  simp only[kq,av] at I;simp only[gi,kq,av];exact⟨I.1,F3 I.2 hb⟩
theorem EO {I:List TV} (J:kq I=ai):∀ n,kq (aG n I).flatten=ai
 |0=>rfl
 |n+1=>by rw[List.replicate_succ,List.flatten_cons];exact F3 J (EO J n)
theorem ad6 {H:nP} (J:H.get=bA h) {id ty:Nat} {l:List TV} {I:List AV} (hb:h.get id=af (.cells ty l)) (hl:cK h l=af I) {n sz:Nat} (hn:l.length=n*sz):AV.row? H sz (.row (nm id) sz n)=af (I,n,[nm id]):=by
 have hg:H.get (nm id)=af ⟨ty,.mx I⟩:=by rw[J,bJ,hb];simp only[aH,kw,hl]
 have hln:=hZ hl;simp only[AV.row?,cU,bD,hg,BC.isCells,pu,BC.len,BC.toMx];rw[aE (bC (by omega)),fR (by omega)]
variable (hinv:l9 h nx) (hi:tm e h)
include hinv hi
theorem aiv {con:FuncId->Option ct} {b9:TypeId->Option Ty} {ty:TypeId} {sz len:Nat} {z:List Value} {parts:List (Nat×Nat×Operand)} (hcm:Dk (b9 ty)=ah) (hc:di P o.op=af (.bsl ty sz len z parts)) (hk:dS con b9 (.op (.bsl ty sz len z parts)) e h nx K=af r):kL P o aj e h nx K r:=by
 obtain⟨H,hH⟩:=jL h;simp only[dS,hcm] at hk;split at hk
 .rename_i T zc hT Z;split at hk
  .rename_i hs;have hs:=aw hs;subst hs;split at hk
   .rename_i cs hf;split at hk
    .rename_i xs m hp;obtain⟨cs',h1,h2,_⟩:=CM hi parts _ cs _ hf (LW h Z len);have hm:=M' len cs xs m hp;refine ⟨_,_,_,_,_,hk,jf.new hinv hc hH (y0:=if len=0 then .emp else .row (nm nx) T.size len) (rdl:=[]) (b0:=⟨ty,ph cs'⟩) (by simp only[eL,h1]) hm (λ_ _ he=>by cases he) (λH1 H2 d g b' I=>?_) (λH1 H2 y d g J=>?_) (by simp)⟩
     .simp only[kw] at I;split at I
      .cases I
      rw[ak] at I;subst I;obtain⟨Y,U⟩:=nE cs';refine jX.cells U rfl ?_ λx M=>?_
      .rw[Y];exact (Cj d len cs xs m cs' hp h2 g).1
      .simp only[BC.toMx] at M;obtain⟨q,hq,rfl⟩:=dk.1 M;exact rA T _ q hq
     .simp only[co,bU,PT.get_set,bD,aH,mA,fk,ak] at J;rw[(Cj d len cs xs m cs' hp h2 g).2] at J;split at J
      .rename_i hq;simp only[av,cV] at hq;subst J;rw[aE hq.2];exact lJ.refl d _
      .rename_i hq;subst J;rw[aB (λh0=>hq (by subst h0;rfl))];exact lJ.refl d _
    .cases hk
   .cases hk
  .cases hk
 .cases hk
theorem aiw {con:FuncId->Option ct} {b9:TypeId->Option Ty} {ty:TypeId} {sz bytes:Nat} {s x:Operand} (hcm:Dk (b9 ty)=ah) (hc:di P o.op=af (.app ty sz bytes s x)) (hk:dS con b9 (.op (.app ty sz bytes s x)) e h nx K=af r):kL P o aj e h nx K r:=by
 obtain⟨H,hH⟩:=jL h;have hfr:=hinv.fresh;simp only[dS,hcm] at hk;split at hk
 .rename_i T b y hT hv hv2;split at hk
  .rename_i hs;have hs:=aw hs;subst hs;split at hk
   .rename_i J m hys;obtain⟨yb,h1,h2⟩:=bM hi hv;obtain⟨yy,h3,h4⟩:=bM hi hv2;obtain⟨rdl,h5,h6⟩:=Vl hH hys h4;have onEmp:∀ (rd':Nat),(∀ n∈rdl,aM rd' (ow n)=ai)->If yb=ai->Le yb .emp->bd (al J) bytes=ai->jf P o aj e h nx (.row nx) rd' (kK nx) (h.set nx (af (.rows ty ai T J))) (nx+1):=by
     intro rd' hrd' he hle hroom;have hr1:cj h (h.set nx (af (.rows ty ai T J))):=cj.set λr hr=>by rw[bU,hfr] at hr;cases hr
     have hyb:∀ id sz' n,yb≠ .row id sz' n:=by rintro id sz' n rfl;cases he
     have I:eL (.app ty T.size bytes s x) (IR e h) H (nm nx)=if al J==0 then af ⟨yb,rdl,[],[],[]⟩ else af ⟨.row (nm nx) T.size (al J),rdl,[nm nx],[(nm nx,⟨ty,ph ((J.flatMap (bS T)).map .f)⟩)],[nm nx]⟩:=by
      simp only[eL,h1,h3,h5];cases yb with
      |row id sz' n=>exact cZ rfl (hyb id sz' n)
      |_=>simp only[he,hroom,kD,bD]
     by_cases hl:al J=0
     .rw[hl] at I;simp only[cU,bD] at I;have hnil:J=[]:=gF.1 hl;subst hnil;refine jf.mk' hc hH I [] (by simp) (λn _=>?_) (by simp) (λH1 H2 d _ _ _=>⟨by simp,λy M=>?_⟩) hrd' (by simp) (by simp) hr1 (hinv.set hr1 (by omega) (by omega) λ_ _ he=>by cases he) (by omega)
      .by_cases hn:n=nm nx
       .subst hn;rw[bJ,bJ,PT.get_set,aE rfl,hfr];rfl
       .refine kJ hinv hr1 λi e=>?_
        subst e;rw[PT.get_set,aB (λe=>hn (by rw[e]))]
      .simp only[co,bU,PT.get_set,bD,aH,mA,fk,jS,cU,kD,ak] at M;subst M;exact hle.toH d
     .rw[aB (by simpa using hl)] at I;rw[Co] at I;have key:=jf.new (m:=0) (rd:=rd') hinv hc hH I (B:=.rows ty ai T J) (v:=.row nx) (dQ.zero h) (λ_ _ he=>by cases he) (λH1 H2 d g b' Z=>by
       simp only[kw] at Z;rw[aB (by simpa using hl)] at Z;simp only[ak] at Z;subst Z;exact jX.refl d _) (λH1 H2 y d g M=>by
       simp only[co,bU,PT.get_set,bD,aH,mA,fk] at M;rw[aB (by simpa using hl)] at M;simp only[ak] at M;subst M;exact lJ.refl d _) hrd'
      rw[xZ] at key;exact key
    split at hk
    .rename_i id;split at hk
     .rename_i ty' p S xs0 hb;split at hk
      .rename_i xs hxs;obtain⟨ee,rfl⟩:=je hxs;cases ee;split at hk
       .rename_i hcond;simp only[av,cV,dN] at hcond;obtain⟨rfl,hmid⟩:=hcond;obtain⟨hroom,hk⟩:=dU hk;simp only[co,em,hb,ak] at h2;have hidlt:=hinv.low id _ hb;have hne:nx≠id:=by omega
        have hrd:∀ n∈rdl,aM (kK id|||m) (ow n)=ai:=λn hn=>by
         obtain⟨i,rfl,hm⟩:=h6 n hn;rw[dX,bu,hm];simp
        generalize hh':(h.set id (af (.dead p T.size (al xs0)))).set nx (af (.rows ty' p T (xs0++J)))=h' at hk;have hrA:cj h (h.set id (af (.dead p T.size (al xs0)))):=cj.set λr hr=>by rw[bU,hb] at hr;exact hr
        have hg2:∀ i,h'.get i=if i=nx then af (.rows ty' p T (xs0++J)) else if i=id then af (.dead p T.size (al xs0)) else h.get i:=λi=>by rw[<- hh',PT.get_set,PT.get_set]
        have hr:cj h h':=by
         rw[<- hh'];refine hrA.trans (cj.set λr hr=>?_);rw[bU,PT.get_set,aB hne,hfr] at hr;cases hr
        have hinv':l9 h' (nx+1):=by
         refine ⟨λi ty l hil=>?_,λi c hic=>?_⟩
         .rw[hg2] at hil;split at hil
          .cases hil
          .split at hil
           .cases hil
           .exact iU hr l (hinv.cells i ty l hil)
         .rw[hg2] at hic;split at hic
          .omega
          .split at hic
           .omega
           .have:=hinv.low i c hic;omega
        have hsame:∀ n,n≠nm nx->n≠nm id->bA h' n=bA h n:=λn h1 h2=>kJ hinv hr λi e=>by
         subst e;rw[hg2,aB (λe=>h1 (by rw[e])),aB (λe=>h2 (by rw[e]))]
        have hdead:bA h' (nm id)=ah:=by rw[bJ,hg2,aB (by omega),aE rfl];rfl
        have hnew:bA h' (nm nx)=if p&&(xs0++J).length==0 then ah else af ⟨ty',.fz ((xs0++J).flatMap (bS T))⟩:=by rw[bJ,hg2,aE rfl];rfl
        have hval:co h' (.row nx)=af (fk p nx T.size (xs0++J).length):=by simp only[co,bU,hg2,bD,aH,mA]
        have hwm:∀ n,n=nm nx\/n=nm id->aM (kK id|||kK nx) (ow n)=ai:=λn hn=>by
         rcases hn with rfl|rfl<;>rw[dX,bu,bX.2 rfl]<;>simp
        refine ⟨_,_,_,_,_,hk,?_⟩;by_cases hp:(p&&xs0.length==0)=ai
        ·
         have hyb:yb= .emp:=by rw[<- h2];unfold fk;rw[aE hp]
         subst hyb;simp only[av,cV] at hp;obtain⟨rfl,hl0⟩:=hp;have hnil:xs0=[]:=gF.1 hl0;subst hnil;have hroom':bd (al J) bytes=ai:=by simpa using hroom
         have I:eL (.app ty' T.size bytes s x) (IR e h) H (nm nx)=if al J==0 then af ⟨.emp,rdl,[],[],[]⟩ else af ⟨.row (nm nx) T.size (al J),rdl,[nm nx],[(nm nx,⟨ty',ph ((J.flatMap (bS T)).map .f)⟩)],[nm nx]⟩:=by
          simp only[eL,h1,h3,h5,If,hroom',kD,bD]
         have hdead0:bA h (nm id)=ah:=by rw[bJ,hb];rfl
         by_cases hl:al J=0
         .rw[hl] at I;simp only[cU,bD] at I;have hnil:J=[]:=gF.1 hl;subst hnil;refine jf.mk' hc hH I [] (by simp) (λn _=>?_) (by simp) (λH1 H2 d _ _ _=>⟨by simp,λy M=>?_⟩) hrd (by simp) (by simp) hr hinv' (by omega)
          .by_cases hn:n=nm nx
           .subst hn;rw[hnew,bJ,hfr];rfl
           .by_cases hn2:n=nm id
            .subst hn2;rw[hdead,hdead0]
            .exact hsame n hn hn2
          .rw[hval] at M;simp only[fk,jT,jS,cU,kD,bD,ak] at M;subst M;exact lJ.refl d _
         .rw[aB (by simpa using hl),Co] at I;refine jf.mk' hc hH I [nm nx] (λi hi=>hi) (λn hn=>?_) (λi hi b' _=>⟨_,by rw[aE hi];simp only[aL] at hi;subst hi;exact ii _ _⟩) (λH1 H2 d hw1 _ hw2=>⟨λi hi b b' Y U=>?_,λy M=>?_⟩) hrd (λn hn=>hwm n (.inl (by simpa using hn))) (λn hn=>by simp only[aL] at hn;subst hn;rw[dX];omega) hr hinv' (by omega)
          .have hn1:n≠nm nx:=by simpa using hn
           by_cases hn2:n=nm id
           .subst hn2;rw[hdead,hdead0]
           .exact hsame n hn1 hn2
          .simp only[aL] at hi;subst hi;rw[hw1 _ (by simp),ii] at Y;rw[hw2 _ (by simp),hnew,aB (by simpa using hl)] at U;simp only[ak,lM] at Y U;subst Y;subst U;exact jX.refl d _
          .rw[hval] at M;simp only[fk,lM] at M;rw[aB (by simpa using hl)] at M;simp only[ak] at M;subst M;exact lJ.refl d _
        .have hyb:yb= .row (nm id) T.size xs0.length:=by rw[<- h2];unfold fk;rw[aB hp]
         subst hyb;have hg:H.get (nm id)=af ⟨ty',.fz (xs0.flatMap (bS T))⟩:=by rw[hH,bJ,hb];simp only[aH,kw,aB hp]
         have fl:=fx (bB T) xs0;have tk:(xs0.flatMap (bS T)).take (xs0.length*T.size)=xs0.flatMap (bS T):=by rw[<- fl,cR]
         have hmem:WS (nm id) rdl=aj:=by
          cases hx:WS (nm id) rdl with
          |false=>rfl
          |true=>
           obtain⟨i,e,hm⟩:=h6 _ (agh.1 hx);rw[<- kN e,hmid] at hm;cases hm
         have I:eL (.app ty' T.size bytes s x) (IR e h) H (nm nx)=af ⟨.row (nm nx) T.size (xs0.length+J.length),nm id::rdl,[nm nx,nm id],[(nm nx,⟨ty',.fz ((xs0++J).flatMap (bS T))⟩)],[nm nx]⟩:=by
          have hcnd:(T.size==T.size&& !(WS (nm id) rdl)&&(BC.fz (xs0.flatMap (bS T))).isCells&&eC (xs0.length*T.size) (BC.fz (xs0.flatMap (bS T))).len&&ty'==ty'&&bd (xs0.length+J.length) bytes)=ai:=by
           have:eC (xs0.length*T.size) (BC.fz (xs0.flatMap (bS T))).len=ai:=bC (by simp only[BC.len];omega);rw[this,hmem,hroom];simp[BC.isCells]
          simp only[eL,h1,h3,h5,hg,hcnd,bD,BC.toMx,<-kC,tk,<-cQ,Co,List.flatMap_append]
         have hne2:¬((p&&(xs0++J).length==0)=ai):=by
          simp only[av,cV,bt] at hp ⊢;intro hh;exact hp ⟨hh.1,by omega⟩
         refine jf.mk' hc hH I [nm nx,nm id] (λi hi=>hi) (λn hn=>?_) (λi hi b' Z=>?_) (λH1 H2 d hw1 _ hw2=>⟨λi hi b b' Y U=>?_,λy M=>?_⟩) (λn hn=>?_) (λn hn=>hwm n (by simpa using hn)) (λn hn=>by simp only[aL] at hn;subst hn;rw[dX];omega) hr hinv' (by omega)
         .simp only[bi,cu,fY,not_or] at hn;exact hsame n hn.1 hn.2
         .simp only[bi,cu,fY] at hi;rcases hi with rfl|rfl
          .exact⟨_,by rw[aE (by simp)];exact ii _ _⟩
          .rw[hdead] at Z;cases Z
         .simp only[bi,cu,fY] at hi;rcases hi with rfl|rfl
          .rw[hw1 _ (by simp),ii] at Y;rw[hw2 _ (by simp),hnew,aB hne2] at U;simp only[ak] at Y U;subst Y;subst U;exact jX.refl d _
          .rw[hw2 _ (by simp),hdead] at U;cases U
         .rw[hval] at M;simp only[fk] at M;rw[aB hne2] at M;simp only[bt,ak] at M;subst M;exact lJ.refl d _
         .rcases bi.1 hn with rfl|hn
          .rw[dX,bu,bX.2 rfl];rfl
          .exact hrd n hn
       .cases hk
      .cases hk
     .cases hk
    .obtain⟨hroom,hk⟩:=dU hk;simp only[co,ak] at h2;subst h2;exact⟨_,_,_,_,_,hk,onEmp m (λn hn=>by obtain⟨i,rfl,hm⟩:=h6 n hn;rw[dX];exact hm) rfl (Le.refl _) hroom⟩
    .obtain⟨hroom,hk⟩:=dU hk;simp only[co,ak] at h2;subst h2;exact⟨_,_,_,_,_,hk,onEmp m (λn hn=>by obtain⟨i,rfl,hm⟩:=h6 n hn;rw[dX];exact hm) rfl Le.nilEmp hroom⟩
    .cases hk
   .cases hk
  .cases hk
 .cases hk
theorem Z2 {T:Ty} (xs I:List T.den):(Sn xs I).flatMap (bS T)=AI.splice (xs.flatMap (bS T)) 0 ((I.flatMap (bS T)).take (iQ I.length xs.length*T.size)):=by
 have _:=hinv;have _:=hi;have fl:=λJ:List T.den=>fx (bB T) J
 have tk:∀ (J:List T.den) n,(J.flatMap (bS T)).take (n*T.size)=(J.take n).flatMap (bS T):=by
  intro J;induction J with
  |nil=>intro n;simp
  |cons z r M=>
   intro n;cases n with
   |zero=>simp
   |succ n=>rw[fD,vB,fD,iP,List.take_append,bB,fR (by rw[bB];omega),show n*T.size+T.size-T.size=n*T.size from by omega,M n]
 have U:∀ (J:List T.den) n,(J.flatMap (bS T)).drop (n*T.size)=(J.drop n).flatMap (bS T):=by
  intro J;induction J with
  |nil=>intro n;simp
  |cons z r M=>
   intro n;cases n with
   |zero=>simp
   |succ n=>rw[fD,vC,iP,uI,bB,rH (by rw[bB];omega),show n*T.size+T.size-T.size=n*T.size from by omega,M n,lM]
 unfold Sn AI.splice;rw[tk,List.flatMap_append,fl,bE];have e1:I.take (iQ I.length xs.length)=I.take xs.length:=by
  rcases Nat.le_total I.length xs.length with h|h
  .rw[show iQ I.length xs.length=I.length from sw h,cR,fR h]
  .rw[show iQ I.length xs.length=xs.length from Nat.min_eq_right h]
 rw[e1];have e2:min (iQ I.length xs.length) I.length=iQ I.length xs.length:=sw (Nat.min_le_left _ _);rw[e2];simp only[List.take_zero,lM,bN];rw[U];congr 1;rcases Nat.le_total I.length xs.length with h|h
 .rw[show iQ I.length xs.length=I.length from sw h]
 .rw[show iQ I.length xs.length=xs.length from Nat.min_eq_right h,List.drop_length,rH h]
theorem ait {con:FuncId->Option ct} {b9:TypeId->Option Ty} {sz:Nat} {d x:Operand} (hc:di P o.op=af (.copy sz d x)) (hk:dS con b9 (.op (.copy sz d x)) e h nx K=af r):kL P o aj e h nx K r:=by
 obtain⟨H,Z⟩:=jL h;simp only[dS] at hk;split at hk
 .rename_i id y hv U;split at hk
  .rename_i ty p T xs hb;split at hk
   .rename_i hs;have hs:=aw hs;subst hs;split at hk
    .rename_i I m hys;split at hk
     .rename_i hcond;simp only[av,dN] at hcond;obtain⟨hmid,rfl⟩:=hcond;obtain⟨yb,h1,h2⟩:=bM hi hv;obtain⟨yy,h3,h4⟩:=bM hi U;obtain⟨rdl,h5,h6⟩:=Vl Z hys h4;simp only[co,em,hb,fk,ne,cw,dY,ak] at h2;subst h2;have fl:=fx (bB T) xs;have fl2:=fx (bB T) I;have hg:H.get (nm id)=af ⟨ty,.fz (xs.flatMap (bS T))⟩:=by rw[Z,bJ,hb];simp[kw]
      have hmem:WS (nm id) rdl=aj:=by
       cases J:WS (nm id) rdl with
       |false=>rfl
       |true=>
        obtain⟨i,e,hm⟩:=h6 _ (agh.1 J);rw[<- kN e,hmid] at hm;cases hm
      have hle:iQ I.length xs.length*T.size<=xs.length*T.size:=cG _ (Nat.min_le_right _ _);have Y:eL (.copy T.size d x) (IR e h) H (nm nx)=af ⟨raw (.int .i64 (iQ I.length xs.length)),nm id::rdl,[nm id],[(nm id,⟨ty,.fz ((Sn xs I).flatMap (bS T))⟩)],[]⟩:=by
       have hcnd:(T.size==T.size&& !(WS (nm id) rdl)&&eC (xs.length*T.size) (BC.fz (xs.flatMap (bS T))).len)=ai:=by
        have:eC (xs.length*T.size) (BC.fz (xs.flatMap (bS T))).len=ai:=bC (by simp only[BC.len];omega);rw[this,hmem];simp
       have hput:(BC.fz (xs.flatMap (bS T))).put 0 (((I.flatMap (bS T)).map .f).take (iQ I.length xs.length*T.size))=af (.fz ((Sn xs I).flatMap (bS T))):=by
        rw[<- kC];unfold BC.put;rw[aE]
        .simp only[J1];rw[Z2 hinv hi]
        .simp only[av];refine ⟨⟨rfl,bC ?_⟩,?_⟩
         .simp only[BC.len,cf,bE];omega
         .have:∀ l:List FV,(∀ x∈l,x.isCell=ai)->gD (l.map .f)=ai:=by
           intro l hl;induction l with
           |nil=>rfl
           |cons z r ih=>simp only[gh,gD,av];exact⟨hl z (by simp),ih λx J=>hl x (by simp[J])⟩
          exact this _ λx J=>rA T I x (jg J)
       simp only[eL,h1,h3,hg,h5,hcnd,bD,hput]
      have hrow:mA (.rows ty aj T (Sn xs I))=mA (.rows ty aj T xs):=by
       have:(Sn xs I).length=xs.length:=by unfold Sn;rw[bt,bE,mw];omega
       simp only[mA,this]
      have key:=jf.wrt (m:=0) (v:=.f (.int .i64) (aO (iQ (al I) (al xs)))) (rd:=kK id|||m) hinv hc Z Y (B:=.rows ty aj T (Sn xs I)) hb (dQ.zero h) (by simp) hrow (λ_ _ he=>by cases he) (λH1 H2 d g b' M=>by
       simp only[kw,ne,cw,dY,ak] at M;subst M;exact jX.refl d _) (λH1 H2 y d g hy=>by
       simp only[co,ak] at hy;subst hy;exact lJ.refl d _) (λn hn=>by
       rcases bi.1 hn with rfl|hn
       .rw[dX,bu,bX.2 rfl];rfl
       .obtain⟨i,rfl,hm⟩:=h6 n hn;rw[dX,bu,hm];simp)
      rw[xZ] at key;exact⟨_,_,_,_,_,hk,key⟩
     .cases hk
    .cases hk
   .cases hk
  .cases hk
 .cases hk
theorem aef {con:FuncId->Option ct} {b9:TypeId->Option Ty} {sz:Nat} {x v:Operand} (hc:di P o.op=af (.store sz x v)) (hk:dS con b9 (.op (.store sz x v)) e h nx K=af r):kL P o aj e h nx K r:=by
 obtain⟨H,hH⟩:=jL h;simp only[dS] at hk;split at hk
 .rename_i id off y hv hv2;obtain⟨yb,h1,h2⟩:=bM hi hv;obtain⟨J,h3,h4⟩:=bM hi hv2;simp only[co,ak] at h2;subst h2;split at hk
  .rename_i ty l hb;split at hk
   .rename_i cs hcs;split at hk
    .rename_i hcond;simp only[av,cV] at hcond;obtain⟨h5,h6⟩:=JB hcs h4;obtain⟨M,hl⟩:=fh h l (hinv.cells id ty l hb);have hg:H.get (nm id)=af ⟨ty,.mx M⟩:=by rw[hH,bJ,hb];simp only[aH,kw,hl]
     have hcell:=rU h5 h6;have hlen:J.cs.length=sz:=by rw[hZ h5];exact hcond.1
     have hput:(BC.mx M).put off J.cs=af (.mx (splice M off J.cs)):=by
      unfold BC.put;rw[aE]
      .rfl
      .simp only[av];exact⟨⟨rfl,by simp only[BC.len];rw[hlen,hZ hl];exact hcond.2⟩,hcell⟩
     have Z:eL (.store sz x v) (IR e h) H (nm nx)=af ⟨raw undef,[nm id],[nm id],[(nm id,⟨ty,.mx (splice M off J.cs)⟩)],[]⟩:=by
      simp only[eL,h1,h3,JX,hg,hlen,cU,bD,hput]
     have hspl:∀ h',cj h h'->cK h' (splice l off cs)=af (splice M off J.cs):=λh' hr=>sh off (gY hr l M hl) (gY hr cs _ h5)
     have U:cj h (h.set id (af (.cells ty (splice l off cs)))):=cj.set λr hr=>by rw[bU,hb] at hr;cases hr
     have key:=jf.wrt (m:=0) (v:=.undef) (rd:=kK id) hinv hc hH Z (B:=.cells ty (splice l off cs)) hb (dQ.zero h) (by simp) rfl (λty' l2 he=>by cases he;exact kH _ _ _ (hspl _ U)) (λH1 H2 d g b' I=>by
      have:=hspl _ U;simp only[eo,rG,bD,kw,this,ak] at I;subst I;exact jX.refl d _) (λH1 H2 y d g hy=>by
      simp only[co,ak] at hy;subst hy;exact lJ.refl d _) (λn hn=>by simp only[aL] at hn;subst hn;rw[dX];exact bX.2 rfl)
     rw[xZ] at key;exact⟨_,_,_,_,_,hk,key⟩
    .cases hk
   .cases hk
  .cases hk
 .rename_i id sz' j off y hv hv2;obtain⟨yb,h1,h2⟩:=bM hi hv;obtain⟨J,h3,h4⟩:=bM hi hv2;simp only[co,ak] at h2;subst h2;split at hk
  .rename_i ty p T xs hb;split at hk
   .rename_i hsz;have hsz:=aw hsz;subst hsz;obtain⟨hj,hk⟩:=dU hk;split at hk
    .rename_i z m hset;split at hk
     .cases hk
     .rename_i hmid;have hmid:aM m id=aj:=by simpa using hmid
      have hm:=zI 40 T _ off sz z m hset;obtain⟨j0,j1,j2⟩:=D8 hj;have hne:¬((p&&xs.length==0)=ai):=by simp only[av,cV];omega
      have hne2:¬((p&&(cO xs j z).length==0)=ai):=by unfold cO;rw[sx];exact hne
      have hg:H.get (nm id)=af ⟨ty,.fz (xs.flatMap (bS T))⟩:=by rw[hH,bJ,hb];simp only[aH,kw,aB hne]
      have fl:=fx (bB T) xs;have hx:xs[j.toNat]? =af (aJ xs j):=by
       unfold aJ;rw[ay,aA j2];rfl
      have hle:(j.toNat+1)*T.size<=xs.length*T.size:=cG _ j2;rw[iP] at hle;have hso:∀ H1 H2,vb H1 H2->DG h H1 H2 m->Wr H1 H2 J T (aJ xs j) z off sz:=λH1 H2 d g=>vH d h4 40 T _ off sz z m hset g
      have hshape:J.cs.length=sz/\off+sz<=T.size/\gD J.cs=ai:=by
       have d0:vb (bA h) (bA (eo m h)):=λi b hb=>by
        obtain⟨i',c,rfl,g1,g2⟩:=jw hb;rw[iX] at g1;by_cases ht:aM m i'=ai
        .obtain⟨pp,ss,nn,g3⟩:=tG hm ht;rw[iX] at g3;rw[g3] at g1;cases g1;cases g2
        .rw[aB ht] at g1;exact⟨b,by rw[bJ,g1];simp only[aH];rw[<- IU (cj.kill m h) (λty l e=>hinv.cells i' ty l (by rw[g1,e]))];exact g2⟩
       obtain⟨fs,q1,q2,q3,q4,q5⟩:=hso _ _ d0 (λi hi=>⟨rfl,by
        obtain⟨pp,ss,nn,g3⟩:=tG hm hi;rw[bJ,g3];rfl⟩)
       refine ⟨by rw[<- q2,<-cf (f:=AV.f),q1.length],q3,?_⟩;exact qU h4 40 T _ off sz z m hset
      obtain⟨hlen,hoff,hcell⟩:=hshape;obtain⟨c',hput,Y,hc2⟩:∃ c',(BC.fz (xs.flatMap (bS T))).put (j.toNat*T.size+off) J.cs=af c'/\c'.toMx=splice ((xs.flatMap (bS T)).map .f) (j.toNat*T.size+off) J.cs/\c'.isCells=ai:=by
       unfold BC.put;rw[aE]
       .split
        .rename_i l ys hl hys;simp only[BC.fz.injEq] at hl;subst hl;refine ⟨_,rfl,?_,rfl⟩;rw[pG hys];simp only[BC.toMx];unfold splice;simp[kC,List.map_drop]
        .exact⟨_,rfl,rfl,rfl⟩
       .simp only[av];exact⟨⟨rfl,bC (by simp only[BC.len];omega)⟩,hcell⟩
      have Z:eL (.store sz x v) (IR e h) H (nm nx)=af ⟨raw undef,[nm id],[nm id],[(nm id,⟨ty,c'⟩)],[]⟩:=by
       simp only[eL,h1,h3,JX,hg,hlen,cU,bD,hput]
      have hrow:mA (.rows ty p T (cO xs j z))=mA (.rows ty p T xs):=by
       unfold cO;simp only[mA,sx]
      refine ⟨_,_,_,_,_,hk,jf.wrt hinv hc hH Z (B:=.rows ty p T (cO xs j z)) hb hm hmid hrow (λ_ _ he=>by cases he) (λH1 H2 d g b' I=>?_) (λH1 H2 y d g hy=>?_) (λn hn=>?_)⟩
      .simp only[kw,aB hne2,ak] at I;subst I;obtain⟨fs,q1,q2,q3,q4,q5⟩:=hso H1 H2 d g;have hfl:(cO xs j z).flatMap (bS T)=AI.splice (xs.flatMap (bS T)) (j.toNat*T.size+off) fs:=Qs (bB T) xs j.toNat _ z hx off fs (by omega) q4;refine jX.cells hc2 rfl ?_ λx hx=>?_
       .rw[Y];simp only[BC.toMx];rw[hfl];have:(AI.splice (xs.flatMap (bS T)) (j.toNat*T.size+off) fs).map AV.f=AI.splice ((xs.flatMap (bS T)).map .f) (j.toNat*T.size+off) (fs.map .f):=by unfold AI.splice;simp[kC,List.map_drop]
        rw[this];exact (ie.refl d _).splice _ q1
       .simp only[BC.toMx] at hx;obtain⟨q,hq,rfl⟩:=dk.1 hx;exact rA T _ q hq
      .simp only[co,ak] at hy;subst hy;exact lJ.refl d _
      .simp only[aL] at hn;subst hn;rw[dX,bu,bX.2 rfl];simp
    .cases hk
   .cases hk
  .rename_i ty l hb;split at hk
   .rename_i hsz;simp only[av] at hsz;obtain⟨s1,s2,s3⟩:=hsz;have s1:=aw s1;have s2:=aw s2;have s3:=aw s3;subst s1;subst s2;subst s3;obtain⟨hj,hk⟩:=dU hk;obtain⟨j0,j1,j2⟩:=D8 hj;split at hk
    .rename_i cs hcs;split at hk
     .rename_i Y;have Y:=aw Y;obtain⟨h5,h6⟩:=JB hcs h4;obtain⟨M,hl⟩:=fh h l (hinv.cells id ty l hb);have hg:H.get (nm id)=af ⟨ty,.mx M⟩:=by rw[hH,bJ,hb];simp only[aH,kw,hl]
      have hcell:=rU h5 h6;have hlen:J.cs.length=1:=by rw[hZ h5];exact Y
      have e0:j.toNat*1+0=j.toNat:=by omega
      rw[e0] at h1;have hput:(BC.mx M).put j.toNat J.cs=af (.mx (splice M j.toNat J.cs)):=by
       unfold BC.put;rw[aE]
       .rfl
       .simp only[av];exact⟨⟨rfl,bC (by simp only[BC.len];rw[hlen,hZ hl];omega)⟩,hcell⟩
      have Z:eL (.store 1 x v) (IR e h) H (nm nx)=af ⟨raw undef,[nm id],[nm id],[(nm id,⟨ty,.mx (splice M j.toNat J.cs)⟩)],[]⟩:=by
       simp only[eL,h1,h3,JX,hg,hlen,cU,bD,hput]
      have hspl:∀ h',cj h h'->cK h' (splice l j.toNat cs)=af (splice M j.toNat J.cs):=λh' hr=>sh j.toNat (gY hr l M hl) (gY hr cs _ h5)
      have U:cj h (h.set id (af (.cells ty (splice l j.toNat cs)))):=cj.set λr hr=>by rw[bU,hb] at hr;cases hr
      have key:=jf.wrt (m:=0) (v:=.undef) (rd:=kK id) hinv hc hH Z (B:=.cells ty (splice l j.toNat cs)) hb (dQ.zero h) (by simp) rfl (λty' l2 he=>by cases he;exact kH _ _ _ (hspl _ U)) (λH1 H2 d g b' I=>by
       have:=hspl _ U;simp only[eo,rG,bD,kw,this,ak] at I;subst I;exact jX.refl d _) (λH1 H2 y d g hy=>by
       simp only[co,ak] at hy;subst hy;exact lJ.refl d _) (λn hn=>by simp only[aL] at hn;subst hn;rw[dX];exact bX.2 rfl)
      rw[xZ] at key;exact⟨_,_,_,_,_,hk,key⟩
     .cases hk
    .cases hk
   .cases hk
  .cases hk
 .cases hk
theorem aio {con:FuncId->Option ct} {b9:TypeId->Option Ty} {ty:TypeId} {sz bytes:Nat} {z:List Value} {l c:Operand} (hc:di P o.op=af (.mksl ty sz bytes z l c)) (hk:dS con b9 (.op (.mksl ty sz bytes z l c)) e h nx K=af r):kL P o aj e h nx K r:=by
 cases hcm:Dk (b9 ty) with
 |none=>exact aeg hinv hi hcm hc hk
 |some n=>
  obtain⟨H,hH⟩:=jL h;simp only[dS,hcm] at hk;split at hk
  .rename_i zc k a k' b J hv M;obtain⟨hck,hk⟩:=dU hk;rw[av] at hck;obtain⟨hcond,hn⟩:=hck;have hn:=bg hn;obtain⟨y,h1,h2⟩:=bM hi hv;obtain⟨y2,h3,Y⟩:=bM hi M;simp only[co,ak] at h2 Y;subst h2;subst Y;have han:aU a=n:=by rw[hn];rfl
   obtain⟨_,_,hzc⟩:=uY h J;refine ⟨_,_,_,_,_,hk,jf.new hinv hc hH (y0:=.row (nm nx) sz n) (rdl:=[]) (b0:=⟨ty,.fz (repl z n)⟩) (by simp only[eL,h1,h3,gE,hcond,bD,han]) (dQ.zero h) (λty' l' he=>?_) (λH1 H2 d g b' I=>?_) (λH1 H2 y d g U=>?_) (by simp)⟩
   .cases he;exact kH _ _ _ (LW _ J n)
   .simp only[kw,LW _ J n,ak] at I;subst I;refine jX.cells rfl rfl (ie.refl d _) λx Z=>?_
    exact lI (rU (LW h J n) (EO hzc n)) x Z
   .simp only[co,ak] at U;subst U;exact lJ.refl d _
  .cases hk
theorem am4 {con:FuncId->Option ct} {b9:TypeId->Option Ty} {ty:TypeId} {sz len:Nat} {z:List Value} {parts:List (Nat×Nat×Operand)} (hc:di P o.op=af (.bsl ty sz len z parts)) (hk:dS con b9 (.op (.bsl ty sz len z parts)) e h nx K=af r):kL P o aj e h nx K r:=by
 cases hcm:Dk (b9 ty) with
 |none=>exact aiv hinv hi hcm hc hk
 |some n=>
  obtain⟨H,hH⟩:=jL h;simp only[dS,hcm] at hk;split at hk
  .rename_i zc M;split at hk
   .rename_i cs hf;split at hk
    .cases hk
    .rename_i hl;have hl:len≠0:=λe=>hl (by rw[e];rfl)
     obtain⟨cs',h1,h2,h3⟩:=CM hi parts _ cs _ hf (LW h M len);obtain⟨_,_,hzc⟩:=uY h M;have hcs:=h3 (EO hzc len);have hr:cj h ((eo 0 h).set nx (af (.cells ty cs))):=(cj.kill 0 h).trans (cj.set λr hr=>by rw[bU,(hinv.kill 0).fresh] at hr;cases hr);have J:=gY hr _ _ h2;refine ⟨_,_,_,_,_,hk,jf.new hinv hc hH (y0:=.row (nm nx) sz len) (rdl:=[]) (b0:=⟨ty,ph cs'⟩) (by simp only[eL,h1,aB hl]) (dQ.zero h) (λty' l' he=>?_) (λH1 H2 d g b' I=>?_) (λH1 H2 y d g U=>?_) (by simp)⟩
     .cases he;exact kH _ _ _ J
     .simp only[kw,J,ak] at I;subst I;obtain⟨Z,Y⟩:=nE cs';refine jX.cells Y rfl ?_ λx hx=>?_
      .rw[Z];exact ie.refl d _
      .exact lI (rU h2 hcs) x hx
     .simp only[co,ak] at U;subst U;exact lJ.refl d _
   .cases hk
  .cases hk
theorem am7 {con:FuncId->Option ct} {b9:TypeId->Option Ty} {ty:TypeId} {sz bytes:Nat} {s x:Operand} (hc:di P o.op=af (.app ty sz bytes s x)) (hk:dS con b9 (.op (.app ty sz bytes s x)) e h nx K=af r):kL P o aj e h nx K r:=by
 cases hcm:Dk (b9 ty) with
 |none=>exact aiw hinv hi hcm hc hk
 |some n0=>
  obtain⟨H,hH⟩:=jL h;have hfr:=hinv.fresh;simp only[dS,hcm] at hk;split at hk
  .rename_i b y hv hv2;obtain⟨yb,h1,h2⟩:=bM hi hv;obtain⟨yy,h3,h4⟩:=bM hi hv2;unfold afb at hk;split at hk
   .rename_i id2 sz2 m;simp only[co,ak] at h4;subst h4;split at hk
    .rename_i ty2 l2 I;split at hk
     .rename_i hq;simp only[av,dN] at hq;obtain⟨⟨q1,q2⟩,q3⟩:=hq;have q1:=aw q1;have q2:=aw q2;have q3:m≠0:=λe=>by rw[e] at q3;cases q3
      subst q1;obtain⟨J,Z⟩:=fh h l2 (hinv.cells id2 ty2 l2 I);have hrow:=ad6 hH I Z q2;split at hk
      .rename_i id sz1 n;simp only[co,ak] at h2;subst h2;split at hk
       .rename_i ty1 l1 U;split at hk
        .rename_i hq;simp only[av,dN] at hq;obtain⟨⟨⟨p1,p2⟩,p3⟩,p4⟩:=hq;have p1:=aw p1;have p2:=eq_of_beq p2;have p3:=aw p3;have p4:id≠id2:=λe=>by rw[e,rG] at p4;cases p4
         subst p1;subst p2;obtain⟨hroom,hk⟩:=dU hk;obtain⟨M,hl1⟩:=fh h l1 (hinv.cells id _ l1 U);have hln:=hZ hl1;have hg:H.get (nm id)=af ⟨ty1,.mx M⟩:=by rw[hH,bJ,U];simp only[aH,kw,hl1]
         have hidlt:id<nx:=hinv.low id _ U;generalize hB:ip.cells ty1 (l1++l2)=B at hk;have hd1:cj h (h.set id (af (.dead ai 0 0))):=cj.set λr hr=>by rw[bU,U] at hr;cases hr
         have hd2:cj (h.set id (af (.dead ai 0 0))) ((h.set id (af (.dead ai 0 0))).set nx (af B)):=cj.set λr hr=>by
          rw[bU,PT.get_set,aB (by omega),hfr] at hr;cases hr
         have hr:=hd1.trans hd2;have hsp:cK ((h.set id (af (.dead ai 0 0))).set nx (af B)) (l1++l2)=af (M++J):=gY hr _ _ (mX hl1 Z);have Y:bA ((h.set id (af (.dead ai 0 0))).set nx (af B)) (nm nx)=af ⟨ty1,.mx (M++J)⟩:=by rw[bJ,PT.get_set,aE rfl,<-hB] at *;simp only[aH,kw,hsp]
         have hbd:bA ((h.set id (af (.dead ai 0 0))).set nx (af B)) (nm id)=ah:=by rw[bJ,PT.get_set,aB (by omega),PT.get_set,aE rfl];rfl
         have hinv1:l9 (h.set id (af (.dead ai 0 0))) nx:=hinv.set hd1 hidlt (bT _) (λ_ _ he=>by cases he);have ha:eL (.app ty1 sz1 bytes s x) (IR e h) H (nm nx)=af ⟨.row (nm nx) sz1 (n+m),[nm id,nm id2],[nm nx,nm id],[(nm nx,⟨ty1,ph (M++J)⟩)],[nm nx]⟩:=by
          simp only[eL,h1,h3,hrow,hg];rw[aE (by
           simp only[cU,pu,Bool.and_true,BC.isCells,BC.len,hroom,av,dN];refine ⟨?_,bC (by omega)⟩;simp only[WS,Bool.or_false];cases hq:aC (nm id2) (nm id) with
           |false=>rfl
           |true=>exact cZ (kN (aw hq)).symm p4)]
          simp only[BC.toMx,fR (show M.length<=n*sz1 by omega)]
         refine ⟨_,_,_,_,_,hk,jf.mk' hc hH ha [nm nx,nm id] (λi hi=>hi) (λq hq=>?_) (λi hi b' hbb=>?_) (λH1 H2 d hw1 _ hw2=>⟨λi hi b b' hb I=>?_,λy hy=>?_⟩) (λq hq=>?_) (λq hq=>?_) (λq hq=>?_) hr (hinv1.set hd2 (by omega) (by omega) λty' l' he=>?_) (by omega)⟩
         .simp only[bi,cu,fY,not_or] at hq;refine kJ hinv hr λi ei=>?_
          subst ei;rw[PT.get_set,aB (λe=>hq.1 (by rw[e])),PT.get_set,aB (λe=>hq.2 (by rw[e]))]
         .simp only[bi,cu,fY] at hi;rcases hi with rfl|rfl
          .rw[aE (by simp)];exact⟨_,ii _ _⟩
          .rw[hbd] at hbb;cases hbb
         .simp only[bi,cu,fY] at hi;rcases hi with rfl|rfl
          .rw[hw1 _ (by simp),ii] at hb;rw[hw2 _ (by simp),Y] at I;simp only[ak] at hb I;subst hb;subst I;obtain⟨m1,m2⟩:=nE (M++J);exact jX.eq d m2 rfl m1
          .rw[hw2 _ (by simp),hbd] at I;cases I
         .simp only[co,ak] at hy;subst hy;exact lJ.refl d _
         .simp only[bi,cu,fY] at hq;rw[bu,iS];rcases hq with rfl|rfl
          .rw[dX];exact .inl (bX.2 rfl)
          .rw[dX];exact .inr (bX.2 rfl)
         .simp only[bi,cu,fY] at hq;rw[bu,iS];rcases hq with rfl|rfl
          .rw[dX];exact .inr (bX.2 rfl)
          .rw[dX];exact .inl (bX.2 rfl)
         .simp only[aL] at hq;subst hq;rw[dX];omega
         .rw[<- hB] at he;cases he;exact kH _ _ _ hsp
        .cases hk
       .cases hk
      .simp only[co,ak] at h2;subst h2;obtain⟨hroom,hk⟩:=dU hk;have hr:cj h ((eo 0 h).set nx (af (.cells ty l2))):=(cj.kill 0 h).trans (cj.set λr hr=>by rw[bU,(hinv.kill 0).fresh] at hr;cases hr);have h2':=gY hr _ _ Z;refine ⟨_,_,_,_,_,hk,jf.new hinv hc hH (y0:=.row (nm nx) sz2 m) (rdl:=[nm id2]) (b0:=⟨ty,ph J⟩) (by simp only[eL,h1,h3,hrow];simp[If,zO,hroom,q3]) (dQ.zero h) (λty' l' he=>?_) (λH1 H2 d g b' Y=>?_) (λH1 H2 y d g hy=>?_) (λn hn=>?_)⟩
       .cases he;exact kH _ _ _ h2'
       .simp only[kw,h2',ak] at Y;subst Y;obtain⟨p1,p2⟩:=nE J;exact jX.eq d p2 rfl p1
       .simp only[co,ak] at hy;subst hy;exact lJ.refl d _
       .simp only[aL] at hn;subst hn;rw[dX];exact bX.2 rfl
      .cases hk
     .cases hk
    .cases hk
   .cases hk
  .cases hk
theorem alk {con:FuncId->Option ct} {b9:TypeId->Option Ty} {sz:Nat} {x:Operand} {lo hi' mx:Option Operand} (hc:di P o.op=af (.slc sz x lo hi' mx)) (hk:dS con b9 (.op (.slc sz x lo hi' mx)) e h nx K=af r):kL P o aj e h nx K r:=by
 have hfr:=hinv.fresh;simp only[dS] at hk;split at hk
 .rename_i v hv;obtain⟨y,h1,h2⟩:=bM hi hv;split at hk
  .split at hk
   .rename_i hn;obtain⟨n,hn⟩:=iK.1 hn;have Y:=PC hn h2;exact kL.q (k:=0) hinv hc (λH _=>by simp only[eL,h1,Y,Option.isSome_some,bD]) (dl rfl) hk
   .cases hk
  .rename_i b;split at hk
   .rename_i T xs k j hb;obtain⟨y2,Y,U⟩:=bM hi hb;simp only[co,ak] at h2 U;subst h2;subst U;split at hk
    .rename_i hs;have hs:=aw hs;subst hs;obtain⟨hj,hk⟩:=dU hk;have hfl:=fx (bB T) xs;have hcond:(c5 0 j&&c5 j (al xs)&&eC (al xs*T.size) (xs.flatMap (bS T)).length)=ai:=by
      rw[hj,pu];exact bC (by omega)
     simp only[c5,av,bR] at hj;have hlen:(xs.take j.toNat).length=j.toNat:=by rw[bE];omega
     exact kL.q (k:=0) (y0:=.f (.sl ((xs.flatMap (bS T)).take (j.toNat*T.size)) j.toNat)) hinv hc (λH _=>by simp only[eL,h1,Y,gE,hcond,bD]) (dl (by simp only[co,gE];rw[zS (bB T),hlen])) hk
    .cases hk
   .rename_i id k j hb;obtain⟨y2,Y,U⟩:=bM hi hb;simp only[co,ak] at U;subst U;split at hk
    .rename_i ty p T xs I;split at hk
     .rename_i hs;have hs:=aw hs;subst hs;obtain⟨hj,hk⟩:=dU hk;obtain⟨H,hH⟩:=jL h;have hj0:=hj;simp only[c5,fO,av,bR] at hj;have hp:¬((p&&xs.length==0)=ai):=by
       simp only[av,cV];omega
      simp only[co,bU,I,aH,mA,fk,aB hp,ak] at h2;subst h2;have hidlt:=hinv.low id _ I;have hne:nx≠id:=by omega
      have hg:H.get (nm id)=af ⟨ty,.fz (xs.flatMap (bS T))⟩:=by rw[hH,bJ,I];simp only[aH,kw,aB hp]
      have fl:=fx (bB T) xs;have hcond:(T.size==T.size&&c5 0 j&&c5 j (al xs))=ai:=by
       simp only[c5,av,bR,cU,A_];omega
      have hlen:(xs.take j.toNat).length=j.toNat:=by rw[bE];omega
      have ha0:eL (.slc T.size x ah (af b) ah) (IR e h) H (nm nx)=af ⟨.row (nm nx) T.size j.toNat,[nm id],[nm nx,nm id],[(nm nx,⟨ty,.fz ((xs.take j.toNat).flatMap (bS T))⟩)],[nm nx]⟩:=by
       have hc2:((BC.fz (xs.flatMap (bS T))).isCells&&eC (al xs*T.size) (BC.fz (xs.flatMap (bS T))).len)=ai:=by
        simp only[BC.isCells,pu,BC.len];exact bC (by omega)
       simp only[eL,h1,Y,gE,hcond,bD,hg,hc2,BC.toMx,<-kC,Co,zS (bB T)]
      generalize hh':(h.set id (af (.dead p T.size (al xs)))).set nx (af (.rows ty aj T (dM j.toNat xs)))=h' at hk;have hrA:cj h (h.set id (af (.dead p T.size (al xs)))):=cj.set λr hr=>by rw[bU,I] at hr;exact hr
      have J:∀ i,h'.get i=if i=nx then af (.rows ty aj T (dM j.toNat xs)) else if i=id then af (.dead p T.size (al xs)) else h.get i:=λi=>by rw[<- hh',PT.get_set,PT.get_set]
      have hr:cj h h':=by
       rw[<- hh'];refine hrA.trans (cj.set λr hr=>?_);rw[bU,PT.get_set,aB hne,hfr] at hr;cases hr
      have hinv':l9 h' (nx+1):=by
       refine ⟨λi ty l hil=>?_,λi c hic=>?_⟩
       .rw[J] at hil;split at hil
        .cases hil
        .split at hil
         .cases hil
         .exact iU hr l (hinv.cells i ty l hil)
       .rw[J] at hic;split at hic
        .omega
        .split at hic
         .omega
         .have:=hinv.low i c hic;omega
      have hsame:∀ n,n≠nm nx->n≠nm id->bA h' n=bA h n:=λn h1 h2=>kJ hinv hr λi e=>by
       subst e;rw[J,aB (λe=>h1 (by rw[e])),aB (λe=>h2 (by rw[e]))]
      have hdead:bA h' (nm id)=ah:=by rw[bJ,J,aB (by omega),aE rfl];rfl
      have hnew:bA h' (nm nx)=af ⟨ty,.fz ((xs.take j.toNat).flatMap (bS T))⟩:=by rw[bJ,J,aE rfl];rfl
      have hval:co h' (.row nx)=af (.row (nm nx) T.size j.toNat):=by simp only[co,bU,J,bD,aH,mA,fk,ne,cw,dY,hlen]
      refine ⟨_,_,_,_,_,hk,?_⟩;refine jf.mk' hc hH ha0 [nm nx,nm id] (λi hi=>hi) (λn hn=>?_) (λi hi b' hb'=>?_) (λH1 H2 d hw1 _ hw2=>⟨λi hi b b' Z M=>?_,λy hy=>?_⟩) (λn hn=>?_) (λn hn=>?_) (λn hn=>by simp only[aL] at hn;subst hn;rw[dX];omega) hr hinv' (by omega)
      .simp only[bi,cu,fY,not_or] at hn;exact hsame n hn.1 hn.2
      .simp only[bi,cu,fY] at hi;rcases hi with rfl|rfl
       .exact⟨_,by rw[aE (by simp)];exact ii _ _⟩
       .rw[hdead] at hb';cases hb'
      .simp only[bi,cu,fY] at hi;rcases hi with rfl|rfl
       .rw[hw1 _ (by simp),ii] at Z;rw[hw2 _ (by simp),hnew] at M;simp only[ak] at Z M;subst Z;subst M;exact jX.refl d _
       .rw[hw2 _ (by simp),hdead] at M;cases M
      .rw[hval] at hy;simp only[ak] at hy;subst hy;exact lJ.refl d _
      .simp only[aL] at hn;subst hn;rw[dX];exact bX.2 rfl
      .simp only[bi,cu,fY] at hn;rcases hn with rfl|rfl<;>rw[dX,bu,bX.2 rfl]<;>simp
     .cases hk
    .cases hk
   .cases hk
  .rename_i b;split at hk
   .rename_i T xs k j hb;obtain⟨y2,Y,U⟩:=bM hi hb;simp only[co,ak] at h2 U;subst h2;subst U;split at hk
    .rename_i hs;have hs:=aw hs;subst hs;obtain⟨hj,hk⟩:=dU hk;have hfl:=fx (bB T) xs;have hcond:(c5 0 j&&c5 j (al xs)&&eC (al xs*T.size) (xs.flatMap (bS T)).length)=ai:=by
      rw[hj,pu];exact bC (by omega)
     simp only[c5,av,bR] at hj;have hlen:(xs.drop j.toNat).length=al xs-j.toNat:=by rw[mw]
     have htk:((xs.flatMap (bS T)).drop (j.toNat*T.size)).take ((al xs-j.toNat)*T.size)=(xs.flatMap (bS T)).drop (j.toNat*T.size):=by
      refine fR ?_;rw[mw,hfl,Nat.sub_mul];exact bT _
     exact kL.q (k:=0) (y0:=.f (.sl ((xs.flatMap (bS T)).drop (j.toNat*T.size)) (al xs-j.toNat))) hinv hc (λH _=>by simp only[eL,h1,Y,gE,hcond,bD,htk]) (dl (by simp only[co,gE];rw[IK (bB T),hlen])) hk
    .cases hk
   .rename_i id k j hb;obtain⟨y2,Y,U⟩:=bM hi hb;simp only[co,ak] at U;subst U;split at hk
    .rename_i ty p T xs I;split at hk
     .rename_i hs;have hs:=aw hs;subst hs;obtain⟨hj,hk⟩:=dU hk;have hcond:(T.size==T.size&&c5 0 j&&fO j (al xs))=ai:=by
       simp only[av] at hj;rw[hj.1,hj.2,cU];rfl
      simp only[c5,fO,av,bR] at hj;have hp:¬((p&&xs.length==0)=ai):=by
       simp only[av,cV];omega
      simp only[co,bU,I,aH,mA,fk,aB hp,ak] at h2;subst h2;exact kL.q (k:=0) (y0:=.sl (nm id) (j.toNat*T.size) (al xs-j.toNat)) hinv hc (λH _=>by simp only[eL,h1,Y,gE,hcond,bD]) (dl (by simp only[co,bU,I,aH,mA])) hk
     .cases hk
    .cases hk
   .cases hk
  .cases hk
 .cases hk
theorem am3 {con:FuncId->Option ct} {b9:TypeId->Option Ty} {sz:Nat} {z:List Value} {x:Operand} (hc:di P o.op=af (.clr sz z x)) (hk:dS con b9 (.op (.clr sz z x)) e h nx K=af r):kL P o aj e h nx K r:=by
 obtain⟨H,hH⟩:=jL h;simp only[dS] at hk;split at hk
 .rename_i id j hv;split at hk
  .rename_i ty p T xs hb;split at hk
   .rename_i hs;simp only[av] at hs;obtain⟨⟨hs,J⟩,hco⟩:=hs;have hs:=aw hs;have J:=JU J;subst hs;subst J;obtain⟨hj,hk⟩:=dU hk;simp only[c5,fO,av,bR] at hj;obtain⟨j0,j1⟩:=hj;obtain⟨y,h1,h2⟩:=bM hi hv;simp only[co,bU,hb,aH,mA,ak] at h2;subst h2;have hp:¬((p&&xs.length==0)=ai):=by
     simp only[av,cV];omega
    have fl:=fx (bB T) xs;have hg:H.get (nm id)=af ⟨ty,.fz (xs.flatMap (bS T))⟩:=by rw[hH,bJ,hb];simp only[aH,kw,aB hp]
    have hrl:(repl (sN T) (xs.length-j.toNat)).length=(xs.length-j.toNat)*T.size:=by
     have h9:=(G3 (H:=λ_=>ah) (H':=λ_=>ah) (λn b hb=>by cases hb) T (xs.length-j.toNat)).length;rw[cf,cf,fx (bB T),eE] at h9;exact h9.symm
    have hoff:j.toNat*T.size+(xs.length-j.toNat)*T.size=xs.length*T.size:=by rw[<- MV];congr 1;omega
    have hput:(BC.fz (xs.flatMap (bS T))).put (j.toNat*T.size) ((repl (sN T) (xs.length-j.toNat)).map .f)=af (.fz (splice (xs.flatMap (bS T)) (j.toNat*T.size) (repl (sN T) (xs.length-j.toNat)))):=by
     unfold BC.put;rw[aE]
     .simp only[J1]
     .simp only[av];refine ⟨⟨rfl,bC ?_⟩,F1 _ λq hq=>?_⟩
      .simp only[BC.len,cf];omega
      .obtain⟨v,hv,rfl⟩:=Pk _ q hq;exact gj.1 hco v hv
    have hblt:gf 0 (xs.length-j.toNat)=ai:=bC (by omega);have Y:eL (.clr T.size (sN T) x) (IR e h) H (nm nx)=af ⟨.tup [],[nm id],[nm id],[(nm id,⟨ty,.fz (splice (xs.flatMap (bS T)) (j.toNat*T.size) (repl (sN T) (xs.length-j.toNat)))⟩)],[]⟩:=by
     simp only[eL,h1,hg,hblt,bD,hput]
    have hlen:(dM j.toNat xs++aG (al xs-j.toNat) T.zero).length=xs.length:=by
     rw[bt,bE,eE];omega
    have hrow:mA (.rows ty p T (dM j.toNat xs++aG (al xs-j.toNat) T.zero))=mA (.rows ty p T xs):=by simp only[mA,hlen]
    refine ⟨_,_,_,_,_,hk,jf.wrt (m:=0) (v:=.tup []) (rd:=kK id) hinv hc hH Y hb (dQ.zero h) (by simp) hrow (λ_ _ he=>by cases he) (λH1 H2 d g b' I=>?_) (λH1 H2 y d g Z=>?_) (λn hn=>?_)⟩
    .have U:¬((p&&(dM j.toNat xs++aG (al xs-j.toNat) T.zero).length==0)=ai):=by rw[hlen];exact hp
     simp only[kw,aB U,ak] at I;subst I;refine jX.cells rfl rfl ?_ λq hq=>?_
     .simp only[BC.toMx];unfold splice;rw[hrl,hoff,<-fl,List.drop_length,jT,List.flatMap_append,zS (bB T),cQ,cQ];exact (ie.refl d _).append (G3 d T _)
     .simp only[BC.toMx] at hq;obtain⟨q',M,rfl⟩:=dk.1 hq;exact rA T _ q' M
    .simp only[co,cK,ak] at Z;subst Z;exact lJ.refl d _
    .simp only[aL] at hn;subst hn;rw[dX];exact bX.2 rfl
   .cases hk
  .cases hk
 .cases hk
end ops
theorem Ta {K V:Ty} {es:List (K.den×V.den)} (I:mpE K V es=ai):es.map (λp=>(pD K p.1,AV.f (gE V p.2)))=[]:=by
 unfold mpE at I;split at I
 .rfl
 .cases I
theorem agd {K V:Ty} {es:List (K.den×V.den)} (I:mpE K V es=ai):S_ K=ai:=by
 unfold mpE at I;split at I
 .rfl
 .cases I
theorem VG {str:Bool} {K:Ty} (I:WU str K=ai):S_ K=ai:=by
 cases K<;>cases str<;>first|rfl|cases I
theorem Nm {str:Bool} {K:Ty} (I:WU str K=ai) (k k':K.den):uz .eql (pD K k) (pD K k')=af (.bool (OU K k k'))/\yE str (pD K k)=ai/\gE K k= .raw (pD K k):=by
 cases K<;>cases str<;>first|cases I|skip
 .exact⟨by simp only[uz,pD,OU,cU,bD,ak,BT];exact Bool.beq_eq_decide_eq _ _,rfl,rfl⟩
 .exact⟨by simp only[uz,pD,OU,Dr],rfl,rfl⟩
theorem PA {str:Bool} {K V:Ty} (I:WU str K=ai) (k:K.den):∀ es:List (K.den×V.den),s5 (pD K k) (es.map λp=>(pD K p.1,AV.f (gE V p.2)))=af ((vS k es).map λv=>AV.f (gE V v))
 |[]=>rfl
 |(k',v)::r=>by
  simp only[gh,s5,(Nm I k k').1,vS];cases hb:OU K k k' with
  |true=>rfl
  |false=>simp only[cw,dY];exact PA I k r
theorem VD {str:Bool} {K V:Ty} (I:WU str K=ai) (k:K.den) (v:V.den):∀ es:List (K.den×V.den),yC (pD K k) (.f (gE V v)) (es.map λp=>(pD K p.1,AV.f (gE V p.2)))=af ((DX k v es).map λp=>(pD K p.1,AV.f (gE V p.2)))
 |[]=>rfl
 |(k',J)::r=>by
  simp only[gh,yC,(Nm I k k').1,DX];cases hb:OU K k k' with
  |true=>rfl
  |false=>simp only[VD I k v r,cw,dY,gh]
theorem af2 {h:bh} {ok b:Bool} {v:TV} {y:AV} (hv:co h v=af y):co h (pkT ok v (.f .bool b))=af (pkV ok y b):=by
 cases ok with
 |false=>exact hv
 |true=>simp only[pkT,pkV,co,cK,hv];rfl
section ops
variable {R:Type} {P:Program} {o:Oper} {e:iN} {h:bh} {nx:Nat} {K:KO R} {r:R}
theorem Le.aggOf {l:List FV} (hc:∀ x∈l,x.isCell=ai):Le (.agg (l.map .f)) (.f (.agg l)):=by
 intro φ O w v hr;cases hr with
 |@agg _ vs hl hcl hrr=>
  refine .f (.agg l vs (by simpa using hl) hc λj y u I hu=>?_);have:=hrr j (.f y) u (by rw[bc,I];rfl) hu;cases this with
  |f h=>exact h
def Ps (S:Ty) (l:List TV):Option (S.den×Nat×List TV):=match l with
 |c::r=>(match iI PT.leaf S c with|some (x,m)=>af (x,m,r)|none=>ah)
 |[]=>ah
theorem L7:∀ {l I:List FV},l.map AV.f=I.map AV.f->l=I
 |[],[],_=>rfl
 |[],_::_,h=>by simp at h
 |_::_,[],h=>by simp at h
 |x::r,y::r',h=>by
  simp only[gh,iR,AV.f.injEq] at h;rw[h.1,L7 h.2]
theorem HO (h:bh):∀ (ds:List TypeDesc) (T:Ty),qO ds=af T->∀ (n:Nat) (l:List TV) (x:T.den) (m:Nat) (r:List TV),eT PT.leaf n T l=af (x,m,r)->∀ J,cK h l=af J->∃ l2,cK h r=af l2/\J=(bS T x).map .f++l2
 |[],T,hd,n,l,x,m,r,hp,J,hl=>by
  simp only[qO,ak] at hd;subst hd;cases n with
  |zero=>simp[eT] at hp
  |succ n=>
   simp only[eT,ak,aD] at hp;obtain⟨_,_,rfl⟩:=hp;exact⟨J,hl,rfl⟩
 |d::ds,T,hd,n,l,x,m,r,hp,J,hl=>by
  have plain:∀ (S:Ty),S.one=ai->(∀ t,S≠ .sl t)->∀ (v:TV) (a:S.den) (m:Nat) (y:AV),iI PT.leaf S v=af (a,m)->co h v=af y->y= .f (gE S a):=by
   intro S Y hns v a m y I hy;cases v with
   |f Q q=>
    simp only[iI] at I;split at I
    .rename_i z hz;simp only[ak,aD] at I;obtain⟨rfl,_⟩:=I;obtain⟨e,rfl⟩:=je hz;subst e;simp only[co,ak] at hy;exact hy.symm
    .cases I
   |emp=>
    cases S with
    |sl t=>exact cZ rfl (hns t)
    |_=>simp[iI] at I
   |nil=>
    cases S with
    |sl t=>exact cZ rfl (hns t)
    |_=>simp[iI] at I
   |row id=>simp[iI,PT.get] at I
   |fel T xs j hj off=>simp[iI] at I
   |pel id sz j off=>simp[iI] at I
   |ptr id off=>simp[iI] at I
   |csl id off z=>simp[iI] at I
   |mp id=>simp[iI] at I
   |rtl id jj=>simp[iI] at I
   |agg q=>simp[iI] at I
   |tup q=>simp[iI] at I
   |clo f q=>simp[iI] at I
   |undef=>simp[iI] at I
   |np=>simp[iI] at I
   |anyb=>simp[iI] at I
  have one:∀ (S:Ty),S.one=ai->(∀ t,S≠ .sl t)->∀ (n:Nat) (l:List TV) (a:S.den) (m:Nat) (r:List TV),eT PT.leaf n S l=af (a,m,r)->∀ J,cK h l=af J->∃ l2,cK h r=af l2/\J=(bS S a).map .f++l2:=by
   intro S Y hns n l a m r hp J hl;cases n with
   |zero=>simp[eT] at hp
   |succ n=>
    cases l with
    |nil=>
     cases S with
     |int k=>cases hp
     |bool=>cases hp
     |str=>cases hp
     |sl t=>exact cZ rfl (hns t)
     |_=>cases Y
    |cons c q=>
     have hpp:Ps S (c::q)=af (a,m,r):=by
      cases S with
      |int k=>simp only[eT] at hp;simp only[Ps];cases hq:iI PT.leaf (.int k) c with
       |none=>rw[hq] at hp;cases hp
       |some z=>rw[hq] at hp;exact hp
      |bool=>simp only[eT] at hp;simp only[Ps];cases hq:iI PT.leaf .bool c with
       |none=>rw[hq] at hp;cases hp
       |some z=>rw[hq] at hp;exact hp
      |str=>simp only[eT] at hp;simp only[Ps];cases hq:iI PT.leaf .str c with
       |none=>rw[hq] at hp;cases hp
       |some z=>rw[hq] at hp;exact hp
      |sl t=>exact cZ rfl (hns t)
      |_=>cases Y
     simp only[Ps] at hpp;split at hpp
     .rename_i a1 m1 h1;simp only[ak,aD] at hpp;obtain⟨rfl,rfl,rfl⟩:=hpp;obtain⟨y,l2,rfl,g1,Z⟩:=cY hl;have:=plain S Y hns c a1 m1 y h1 g1;subst this;exact⟨l2,Z,by rw[(CS S a1 Y).1];rfl⟩
     .cases hpp
  have two:∀ (S U:Ty),S.one=ai->(∀ t,S≠ .sl t)->qO ds=af U->T= .pr S U->∃ l2,cK h r=af l2/\J=(bS T x).map .f++l2:=by
   intro S U Y hns M e;subst e;cases n with
   |zero=>simp[eT] at hp
   |succ n=>
    simp only[eT] at hp;split at hp
    .rename_i x1 m1 r1 h1;split at hp
     .rename_i x2 m2 r2 h2;simp only[ak,aD] at hp;obtain⟨rfl,rfl,rfl⟩:=hp;obtain⟨l2,g1,Z⟩:=one S Y hns n l x1 m1 r1 h1 J hl;obtain⟨l3,g3,g4⟩:=HO h ds U M n r1 x2 m2 r2 h2 l2 g1;exact⟨l3,g3,by rw[Z,g4,bS,cQ,iw]⟩
     .cases hp
    .cases hp
  cases d with
  |int k=>
   simp only[qO] at hd;split at hd
   .rename_i U M;simp only[ak] at hd;exact two (.int k) U rfl (λt h=>by cases h) M hd.symm
   .cases hd
  |bool=>
   simp only[qO] at hd;split at hd
   .rename_i U M;simp only[ak] at hd;exact two .bool U rfl (λt h=>by cases h) M hd.symm
   .cases hd
  |string=>
   simp only[qO] at hd;split at hd
   .rename_i U M;simp only[ak] at hd;exact two .str U rfl (λt h=>by cases h) M hd.symm
   .cases hd
  |_=>simp[qO] at hd
theorem CQ:∀ (ds:List TypeDesc) (T:Ty),qO ds=af T->∀ a b:T.den,oU ds (bS T a) (bS T b)=af (OU T a b)
 |[],T,hd,a,b=>by simp only[qO,ak] at hd;subst hd;rfl
 |d::ds,T,hd,a,b=>by
  cases d with
  |int k=>
   simp only[qO] at hd;split at hd
   .rename_i U M;simp only[ak] at hd;subst hd;have J:=CQ ds U M a.2 b.2;simp only[bS,gi,lM,oU,xm,cU,bD,OU];cases he:((a.1:Int)==b.1) with
    |true=>have I:(a.1:Int)=b.1:=by simpa using he
           simp only[J,I,cJ,pu]
    |false=>have I:¬(a.1:Int)=b.1:=by simpa using he
            simp only[I,cr,ne]
   .cases hd
  |bool=>
   simp only[qO] at hd;split at hd
   .rename_i U M;simp only[ak] at hd;subst hd;have J:=CQ ds U M a.2 b.2;simp only[bS,gi,lM,oU,xm,OU];cases he:((a.1:Bool)==b.1)<;>simp[he,J]
   .cases hd
  |string=>
   simp only[qO] at hd;split at hd
   .rename_i U M;simp only[ak] at hd;subst hd;have J:=CQ ds U M a.2 b.2;simp only[bS,gi,lM,oU,xm,OU,Dr];cases he:decide ((a.1:List UInt8)=b.1) with
    |true=>simp only[J,pu]
    |false=>simp only[ne]
   .cases hd
  |_=>simp[qO] at hd
theorem ML {u:TV} (hu:u.isC=aj) {lu:List TV} (hl:u.cs=af lu) {ds:List TypeDesc} {T:Ty} (hd:qO ds=af T) {a:T.den} {m:Nat} (hp:eT PT.leaf 40 T lu=af (a,m,[])) {y:AV} (I:co h u=af y):Le y (.f (.agg (bS T a))):=by
 obtain⟨h1,_⟩:=JB hl I;obtain⟨l2,h2,J⟩:=HO h ds T hd 40 lu a m [] hp _ h1;simp only[cK,ak] at h2;subst h2;rw[jT] at J;cases u with
 |agg l=>
  simp only[co] at I;split at I
  .rename_i M _;simp only[ak] at I;subst I;have:M=(bS T a).map .f:=J;rw[this];exact Le.aggOf (nM T a)
  .cases I
 |f S x=>
  simp only[co,ak] at I;subst I;have U:S.one=aj:=hu;rw[zV] at J;have:bS S x=bS T a:=L7 J;rw[qw S x U,this];exact Le.refl _
 |tup l=>simp[TV.cs,TV.isC] at hl
 |undef=>simp[TV.cs,TV.isC] at hl
 |np=>cases hu
 |anyb=>simp[TV.cs,TV.isC] at hl
 |fel T xs j hj off=>cases hu
 |pel id sz j off=>cases hu
 |ptr id off=>cases hu
 |csl id off z=>cases hu
 |row id=>cases hu
 |emp=>cases hu
 |nil=>cases hu
 |mp id=>cases hu
 |rtl id Y=>cases hl
 |clo g l=>cases hu
variable (hinv:l9 h nx) (hi:tm e h)
include hinv hi
theorem am1 {con:FuncId->Option ct} {b9:TypeId->Option Ty} {neg:Bool} {ds:List TypeDesc} {x y:Operand} {st:Bool} (hc:di P o.op=af (.eqs neg ds x y)) (hk:dS con b9 (.op (.eqs neg ds x y)) e h nx K=af r):kL P o st e h nx K r:=by
 obtain⟨H,hH⟩:=jL h;simp only[dS] at hk;split at hk
 .rename_i T u v hd hu hv;split at hk
  .cases hk
  .rename_i hcc;simp only[iS,not_or,Bool.not_eq_true] at hcc;split at hk
   .rename_i lu lv hlu hlv;split at hk
    .rename_i a m1 b m2 hpa hpb;obtain⟨yu,h1,h2⟩:=bM hi hu;obtain⟨yv,h3,h4⟩:=bM hi hv;obtain⟨⟨⟨U,M⟩,hc3⟩,Z⟩:=hcc;have l1:=ML U hlu hd hpa h2;have l2:=ML M hlv hd hpb h4;have tmp:∀ (z:Operand) (q:TV),fE e z=af q->q.isC=aj->Ti z=aj->∃ t,z= .tmp t:=by
      intro z q I hq hg;cases z with
      |tmp t=>exact⟨t,rfl⟩
      |const c=>
       have I:cst c=af q:=by
        simp only[fE,agq] at I;split at I
        .cases hg
        .exact I
       have:=(Jz h I).2.2;rw[hq] at this;cases this
      |func g=>simp only[fE,ak] at I;subst I;cases hq
      |global g=>
       simp only[fE] at I;split at I
       .cases I;cases hq
       .cases I
     obtain⟨t,rfl⟩:=tmp x u hu U hc3;obtain⟨t',rfl⟩:=tmp y v hv M Z;have same:t=t'->bS T a=bS T b:=by
      intro ht;subst ht;rw[hu] at hv;cases hv;rw[hlu] at hlv;cases hlv;rw[hpa] at hpb;cases hpb;rfl
     let J:zA:=((IR e h).set t (af (.f (.agg (bS T a))))).set t' (af (.f (.agg (bS T b))))
     have e1:my J (.tmp t)=af (.f (.agg (bS T a))):=by
      simp only[my,J,PT.get_set];by_cases ht:t=t'
      .rw[aE ht,same ht]
      .rw[aB ht];simp
     have e2:my J (.tmp t')=af (.f (.agg (bS T b))):=by simp only[my,J,PT.get_set,bD]
     have ha:eL (.eqs neg ds (.tmp t) (.tmp t')) J H 0=af ⟨raw (.bool (OU T a b !=neg)),[],[],[],[]⟩:=by
      simp only[eL,e1,e2,CQ ds T hd a b];rfl
     have ht:=HQ hc ha;rw[hH] at ht;have Y:gK P o (fM e h) (bA h) _:=ht.envLe (e2:=fM e h) λs z _ I=>by
      simp only[J,PT.get_set] at I;rw[<- uU];simp only[my] at h1 h3;split at I
      .rename_i es;subst es;cases I;exact⟨yv,h3,l2⟩
      .split at I
       .rename_i es;subst es;cases I;exact⟨yu,h1,l1⟩
       .exact⟨z,I,Le.refl _⟩
     refine ⟨_,0,0,h,nx,hk,⟨⟨_,Y,λy hy=>?_,by simp[BR.eff,tJ],by simp[BR.eff],by simp[BR.eff],by simp[BR.eff]⟩,λ_ _ h=>h,hinv,bT _,λ_=>⟨rfl,rfl⟩⟩⟩;simp only[co,ak] at hy;exact hy
    .cases hk
   .cases hk
 .cases hk
theorem alq {con:FuncId->Option ct} {b9:TypeId->Option Ty} (hc:di P o.op=af .mkm) (hk:dS con b9 (.op .mkm) e h nx K=af r):kL P o aj e h nx K r:=by
 have _:=hi;obtain⟨H,M⟩:=jL h;refine ⟨_,_,_,_,_,hk,jf.new hinv hc M (y0:=.mp (nm nx)) (rdl:=[]) (b0:=⟨0,.mp []⟩) rfl (dQ.zero h) (λ_ _ he=>by cases he) (λY U d g b' I=>?_) (λY U y d g J=>?_) (by simp)⟩
 .cases I;exact jX.refl d _
 .simp only[co,ak] at J;subst J;exact lJ.refl d _
theorem air {con:FuncId->Option ct} {b9:TypeId->Option Ty} {x:Operand} (hc:di P o.op=af (.lenm x)) (hk:dS con b9 (.op (.lenm x)) e h nx K=af r):kL P o aj e h nx K r:=by
 obtain⟨H,J⟩:=jL h;simp only[dS] at hk;split at hk
 .rename_i id hv;split at hk
  .rename_i K' V es hb;obtain⟨y,h1,h2⟩:=bM hi hv;simp only[co,ak] at h2;subst h2;split at hk
   case isFalse=>cases hk
   rename_i hO;have hg:H.get (nm id)=af ⟨0,.mp (es.map λp=>(pD K' p.1,.f (gE V p.2)))⟩:=by rw[J,bJ,hb];show af (wK.mk 0 (Zg K' V es))=_;rw[Bu hO]
   exact⟨_,_,_,_,_,hk,jf.pure (k:=0) hinv hc J (y0:=raw (.int .i64 es.length)) (rdl:=[nm id]) (by simp only[eL,h1,hg,cf]) (λy I=>by simp only[co,ak] at I;subst I;exact Le.refl _) (λn hn=>by simp only[aL] at hn;subst hn;rw[dX];exact bX.2 rfl) (λh=>by cases h)⟩
  .cases hk
 .cases hk
theorem alu {con:FuncId->Option ct} {b9:TypeId->Option Ty} {str ok:Bool} {z:Value} {x k:Operand} (hc:di P o.op=af (.lku str ok z x k)) (hk:dS con b9 (.op (.lku str ok z x k)) e h nx K=af r):kL P o aj e h nx K r:=by
 obtain⟨H,Y⟩:=jL h;simp only[dS] at hk;split at hk
 .rename_i id KT kv hv U;split at hk
  .rename_i K' V es hb;split at hk
   .rename_i J;obtain⟨y,h1,h2⟩:=bM hi hv;obtain⟨y2,h3,h4⟩:=bM hi U;simp only[co,ak] at h2 h4;subst h2;subst h4;simp only[av] at J;have hg:H.get (nm id)=af ⟨0,.mp (es.map λp=>(pD K' p.1,.f (gE V p.2)))⟩:=by rw[Y,bJ,hb];show af (wK.mk 0 (Zg K' V es))=_;rw[Bu J.2]
    obtain⟨_,hok,henc⟩:=Nm J.1 kv kv;rw[henc] at h3;have hrd:∀ n∈[nm id],aM (kK id) (ow n)=ai:=λn hn=>by simp only[aL] at hn;subst hn;rw[dX];exact bX.2 rfl
    split at hk
    .rename_i hE;split at hk
     .rename_i v M;have hzz:=(Jz h M).1;exact⟨_,_,_,_,_,hk,jf.pure (k:=0) hinv hc Y (y0:=pkV ok (raw z) aj) (rdl:=[nm id]) (by simp only[eL,h1,h3,hg,hok,bD,Ta hE,s5]) (λy I=>by rw[af2 hzz] at I;cases I;exact Le.refl _) hrd (λh=>by cases h)⟩
     .cases hk
    .split at hk
     .rename_i kv' Z zv hkv M;split at hk
      .rename_i zv' hzv;obtain⟨e1,e2⟩:=je hkv;cases e1;subst e2;obtain⟨e3,e4⟩:=je hzv;cases e3;subst e4;have hzz:=(Jz h M).1;simp only[co,ak] at hzz;refine ⟨_,_,_,_,_,hk,jf.pure (k:=0) hinv hc Y (y0:=pkV ok (.f (gE _ (vR kv' es zv'))) (agf kv' es)) (rdl:=[nm id]) ?_ (λy I=>by rw[af2 (y:=.f (gE _ (vR kv' es zv'))) rfl] at I;cases I;exact Le.refl _) hrd (λh=>by cases h)⟩;simp only[eL,h1,h3,hg,hok,bD,PA J.1];unfold vR agf;cases hf:vS kv' es with
       |none=>simp only[Option.map_none];rw[hzz]
       |some v=>rfl
      .cases hk
     .cases hk
   .cases hk
  .cases hk
 .cases hk
theorem alp {con:FuncId->Option ct} {b9:TypeId->Option Ty} {str:Bool} {x k v:Operand} (hc:di P o.op=af (.mup str x k v)) (hk:dS con b9 (.op (.mup str x k v)) e h nx K=af r):kL P o aj e h nx K r:=by
 obtain⟨H,hH⟩:=jL h;simp only[dS] at hk;split at hk
 .rename_i id KT U VT vv hv Z Y;split at hk
  .rename_i K' V es hb;split at hk
   .rename_i J;simp only[av] at J;obtain⟨y,h1,h2⟩:=bM hi hv;obtain⟨y2,h3,h4⟩:=bM hi Z;obtain⟨y3,h5,h6⟩:=bM hi Y;simp only[co,ak] at h2 h4 h6;subst h2;subst h4;subst h6;have hg:H.get (nm id)=af ⟨0,.mp (es.map λp=>(pD K' p.1,.f (gE V p.2)))⟩:=by rw[hH,bJ,hb];show af (wK.mk 0 (Zg K' V es))=_;rw[Bu J.2]
    obtain⟨_,hok,henc⟩:=Nm J.1.1 U U;rw[henc] at h3;have hrd:∀ n∈[nm id],aM (kK id) (ow n)=ai:=λn hn=>by simp only[aL] at hn;subst hn;rw[dX];exact bX.2 rfl
    split at hk
    .rename_i hE;exact⟨_,_,_,_,_,hk,jf.wrt (k:=0) (m:=0) (v:=.undef) (rd:=kK id) hinv hc hH (y0:=raw undef) (b0:=⟨0,.mp [(pD KT U,.f (gE VT vv))]⟩) (rdl:=[nm id]) (by simp only[eL,h1,h3,h5,hg,hok,bD,Ta hE,yC]) (B:=.mp KT VT [(U,vv)]) hb (dQ.zero h) (by simp) rfl (λty' l2 he=>by cases he) (λH1 H2 d g b' I=>by simp only[kw,Bu (VG J.1.1),ak] at I;subst I;exact jX.refl d _) (λH1 H2 y d g M=>by simp only[co,ak] at M;subst M;exact lJ.refl d _) hrd⟩
    .split at hk
     .rename_i kv' vv' hkv hvv;obtain⟨e1,e2⟩:=je hkv;cases e1;subst e2;obtain⟨e3,e4⟩:=je hvv;cases e3;subst e4;exact⟨_,_,_,_,_,hk,jf.wrt (k:=0) (m:=0) (v:=.undef) (rd:=kK id) hinv hc hH (y0:=raw undef) (b0:=⟨0,.mp ((DX kv' vv' es).map λp=>(pD _ p.1,.f (gE _ p.2)))⟩) (rdl:=[nm id]) (by simp only[eL,h1,h3,h5,hg,hok,bD,VD J.1.1]) (B:=.mp _ _ (DX kv' vv' es)) hb (dQ.zero h) (by simp) rfl (λty' l2 he=>by cases he) (λH1 H2 d g b' I=>by simp only[kw,Bu (VG J.1.1),ak] at I;subst I;exact jX.refl d _) (λH1 H2 y d g M=>by simp only[co,ak] at M;subst M;exact lJ.refl d _) hrd⟩
     .cases hk
   .cases hk
  .cases hk
 .cases hk
theorem alm {con:FuncId->Option ct} {b9:TypeId->Option Ty} {x:Operand} (hc:di P o.op=af (.rng x)) (hk:dS con b9 (.op (.rng x)) e h nx K=af r):kL P o aj e h nx K r:=by
 obtain⟨H,M⟩:=jL h;simp only[dS] at hk;split at hk
 .rename_i s hv;obtain⟨y,h1,h2⟩:=bM hi hv;simp only[co,ak] at h2;subst h2;refine ⟨_,_,_,_,_,hk,jf.new hinv hc M (y0:=.ptr (nm nx) 0) (rdl:=[]) (b0:=⟨0,.it ⟨kB s⟩ 0⟩) (by simp only[eL,h1];rfl) (dQ.zero h) (λ_ _ he=>by cases he) (λY U d g b' I=>?_) (λY U y d g J=>?_) (by simp)⟩
  .cases I;exact jX.refl d _
  .simp only[co,ak] at J;subst J;exact lJ.refl d _
 .cases hk
theorem aln {con:FuncId->Option ct} {b9:TypeId->Option Ty} {x:Operand} (hc:di P o.op=af (.nxt x)) (hk:dS con b9 (.op (.nxt x)) e h nx K=af r):kL P o aj e h nx K r:=by
 obtain⟨H,M⟩:=jL h;simp only[dS] at hk;split at hk
 .rename_i id hv;split at hk
  .rename_i K' V es hb;split at hk
   .rename_i s p Z;obtain⟨y,h1,h2⟩:=bM hi hv;simp only[co,ak] at h2;subst h2;have hg:H.get (nm id)=af ⟨0,.it ⟨kB s⟩ p⟩:=by rw[M,bJ,hb];show af (wK.mk 0 (Zg K' V es))=_;rw[agj Z]
    have hrd:∀ n∈[nm id],aM (kK id) (ow n)=ai:=λn hn=>by simp only[aL] at hn;subst hn;rw[dX];exact bX.2 rfl
    rcases pn hk with ⟨hp,hk⟩|⟨hp,hk⟩
    .obtain⟨hj,hk⟩:=dU hk;have hp:=a_ hp;have e2:(⟨kB s⟩:ByteArray).data.toList[p]? =af (List.getD s p 0):=by
      show s[p]? =_;rw[ay,aA hp];rfl
     have e3:gf (List.getD s p 0).toNat 128=ai:=by
      have hj:(aO (List.getD s p 0).toNat:Int)<128:=bg hj;exact bC (Int.ofNat_lt.1 hj)
     exact⟨_,_,_,_,_,hk,jf.wrt (k:=0) (m:=0) (rd:=kK id) hinv hc M (y0:=.tup [raw (.bool ai),raw (.int .i64 p),raw (.int .i32 (List.getD s p 0).toNat)]) (b0:=⟨0,.it ⟨kB s⟩ (p+1)⟩) (rdl:=[nm id]) (by simp only[eL,h1,hg,e2,e3,bD]) (B:=.mp itK .un [((s,aO (p+1)),())]) hb (dQ.zero h) (by simp) rfl (λty' l2 he=>by cases he) (λY U d g b' I=>by cases I;exact jX.refl d _) (λY U y d g J=>by cases J;exact lJ.refl d _) hrd⟩
    .have hp:s.length<=p:=Nat.not_lt.1 λq=>by rw[show gf p s.length=ai from bC q] at hp;cases hp
     have e2:(⟨kB s⟩:ByteArray).data.toList[p]? =ah:=by
      show s[p]? =_;exact bQ hp
     exact⟨_,_,_,_,_,hk,jf.wrt (k:=0) (m:=0) (rd:=kK id) hinv hc M (y0:=.tup [raw (.bool aj)]) (b0:=⟨0,.it ⟨kB s⟩ p⟩) (rdl:=[nm id]) (by simp only[eL,h1,hg,e2]) (B:=.mp itK .un [((s,aO p),())]) hb (dQ.zero h) (by simp) rfl (λty' l2 he=>by cases he) (λY U d g b' I=>by cases I;exact jX.refl d _) (λY U y d g J=>by cases J;exact lJ.refl d _) hrd⟩
   .cases hk
  .cases hk
 .cases hk
theorem K_op {con:FuncId->Option ct} {b9:TypeId->Option Ty} {s:X9} (hc:di P o.op=af s) (hk:dS con b9 (.op s) e h nx K=af r):kL P o s.still e h nx K r:=by
 cases s with
 |mv x=>exact K_mv hinv hi hc hk
 |pick c a b=>exact aim hinv hi hc hk
 |alloc ty z=>exact aej hinv hi hc hk
 |box ty x=>exact am5 hinv hi hc hk
 |build z parts=>exact aei hinv hi hc hk
 |bsl ty sz len z parts=>exact am4 hinv hi hc hk
 |load sz ag x=>exact aip hinv hi hc hk
 |store sz x v=>exact aef hinv hi hc hk
 |nilc x=>exact ain hinv hi hc hk
 |bin op x y=>exact am6 hinv hi hc hk
 |eqs neg ds x y=>exact am1 hinv hi hc hk
 |eqb neg x y=>exact am2 hinv hi hc hk
 |isnil neg x=>exact aeh hinv hi hc hk
 |not x=>exact alo hinv hi hc hk
 |conv k x=>exact aiu hinv hi hc hk
 |mksl ty sz bytes z l c=>exact aio hinv hi hc hk
 |slc sz x lo I mx=>exact alk hinv hi hc hk
 |fad off x=>exact alz hinv hi hc hk
 |fld off sz ag x=>exact aly hinv hi hc hk
 |iad sz x i=>exact alx hinv hi hc hk
 |idx n sz ag x i=>exact alw hinv hi hc hk
 |iada n sz x i=>exact ais hinv hi hc hk
 |ext x i=>exact am0 hinv hi hc hk
 |len x=>exact alv hinv hi hc hk
 |lens x=>exact aiq hinv hi hc hk
 |max x y=>exact alt hinv hi hc hk
 |min x y=>exact als hinv hi hc hk
 |sidx x i=>exact ail hinv hi hc hk
 |app ty sz bytes s x=>exact am7 hinv hi hc hk
 |copy sz d x=>exact ait hinv hi hc hk
 |clr sz z x=>exact am3 hinv hi hc hk
 |mkf f caps=>exact alr hinv hi hc hk
 |mkm=>exact alq hinv hi hc hk
 |rng x=>exact alm hinv hi hc hk
 |nxt x=>exact aln hinv hi hc hk
 |lenm x=>exact air hinv hi hc hk
 |lku str ok z x k=>exact alu hinv hi hc hk
 |mup str x k v=>exact alp hinv hi hc hk
 |_=>simp[dS] at hk
end ops
mutual
def AV.ren (g:Nat->Nat):AV->AV
 |.f x=>.f x
 |.ptr id off=>.ptr (g id) off
 |.sl id off n=>.sl (g id) off n
 |.row id sz n=>.row (g id) sz n
 |.mp id=>.mp (g id)
 |.emp=>.emp
 |.anyb=>.anyb
 |.agg l=>.agg (AV.renL g l)
 |.tup l=>.tup (AV.renL g l)
 |.clo q l=>.clo q (AV.renL g l)
def AV.renL (g:Nat->Nat):List AV->List AV
 |[]=>[]
 |x::r=>x.ren g::AV.renL g r
end
theorem om (g:Nat->Nat):∀ l,AV.renL g l=l.map (AV.ren g)
 |[]=>rfl
 |x::r=>by rw[AV.renL,om g r];rfl
theorem Cc (g:Nat->Nat) (x:AV):(x.ren g).isCell=x.isCell:=by cases x<;>rfl
theorem cL.renTo {φ φ':PM} {g:Nat->Nat} {O:Nat->Prop} {w:World} (hk:∀ i k,φ i=af k->φ' (g i)=af k) {x:AV} {v:Value} (h:cL φ O w x v):cL φ' O w (x.ren g) v:=by
 induction h with
 |f h=>exact .f h
 |ptr h=>exact .ptr (hk _ _ h)
 |sl h hn hc=>exact .sl (hk _ _ h) hn hc
 |row h hn hc hsh=>exact .row (hk _ _ h) hn hc hsh
 |emp=>exact .emp
 |anyb=>exact .anyb
 |mp h=>exact .mp (hk _ _ h)
 |agg hl hcl hr M=>
  simp only[AV.ren,om];refine .agg (by simpa using hl) (λx I=>?_) λj x v I hv=>?_
  .obtain⟨y,J,rfl⟩:=dk.1 I;rw[Cc];exact hcl y J
  .rw[bc] at I;obtain⟨y,J,rfl⟩:=jM.1 I;exact M j y v J hv
 |tup hl hr M=>
  simp only[AV.ren,om];refine .tup (by simpa using hl) λj x v I hv=>?_
  rw[bc] at I;obtain⟨y,J,rfl⟩:=jM.1 I;exact M j y v J hv
 |clo hl hr M=>
  simp only[AV.ren,om];refine .clo (by simpa using hl) λj x v I hv=>?_
  rw[bc] at I;obtain⟨y,J,rfl⟩:=jM.1 I;exact M j y v J hv
theorem cL.renFrom {φ φ':PM} {g:Nat->Nat} {O:Nat->Prop} {w:World} {p:Nat->Bool} (hk:∀ i k,p i=ai->φ (g i)=af k->φ' i=af k) {z:AV} {v:Value} (h:cL φ O w z v):∀ x:AV,x.all p=ai->z=x.ren g->cL φ' O w x v:=by
 induction h with
 |f h=>intro x hp e;cases x<;>simp only[AV.ren,reduceCtorEq] at e;cases e;exact .f h
 |ptr h=>intro x hp e;cases x<;>simp only[AV.ren,reduceCtorEq] at e;cases e;exact .ptr (hk _ _ hp h)
 |sl h hn hc=>intro x hp e;cases x<;>simp only[AV.ren,reduceCtorEq] at e;cases e;exact .sl (hk _ _ hp h) hn hc
 |row h hn hc hsh=>intro x hp e;cases x<;>simp only[AV.ren,reduceCtorEq] at e;cases e;exact .row (hk _ _ hp h) hn hc hsh
 |emp=>intro x hp e;cases x<;>simp only[AV.ren,reduceCtorEq] at e;exact .emp
 |anyb=>intro x hp e;cases x<;>simp only[AV.ren,reduceCtorEq] at e;exact .anyb
 |mp h=>intro x hp e;cases x<;>simp only[AV.ren,reduceCtorEq] at e;cases e;exact .mp (hk _ _ hp h)
 |agg hl hcl hr J=>
  intro x hp e;cases x<;>simp only[AV.ren,reduceCtorEq] at e;rename_i l;cases e;rw[om] at hl hcl hr J;refine .agg (by simpa using hl) (λx I=>?_) λj x v I hv=>?_
  .have:=hcl (x.ren g) (dk.2 ⟨x,I,rfl⟩);rwa [Cc] at this
  .exact J j (x.ren g) v (by rw[bc,I];rfl) hv x (l7 hp x (ba I)) rfl
 |tup hl hr J=>
  intro x hp e;cases x<;>simp only[AV.ren,reduceCtorEq] at e;rename_i l;cases e;rw[om] at hl hr J;refine .tup (by simpa using hl) λj x v I hv=>?_
  exact J j (x.ren g) v (by rw[bc,I];rfl) hv x (l7 hp x (ba I)) rfl
 |clo hl hr J=>
  intro x hp e;cases x<;>simp only[AV.ren,reduceCtorEq] at e;rename_i l;cases e;rw[om] at hl hr J;refine .clo (by simpa using hl) λj x v I hv=>?_
  exact J j (x.ren g) v (by rw[bc,I];rfl) hv x (l7 hp x (ba I)) rfl
def BC.ren (g:Nat->Nat):BC->BC
 |.fz l=>.fz l
 |.mx l=>.mx (l.map (AV.ren g))
 |.mp es=>.mp (es.map λp=>(p.1,p.2.ren g))
 |.it s p=>.it s p
def wK.ren (g:Nat->Nat) (b:wK):wK:=⟨b.ty,b.c.ren g⟩
theorem js.renTo {φ φ':PM} {g:Nat->Nat} {O O':Nat->Prop} {w:World} (hk:∀ x v,cL φ O w x v->cL φ' O' w (x.ren g) v) {b:wK} {o:Obj} (h:js φ O w b o):js φ' O' w (b.ren g) o:=by
 obtain⟨ty,c⟩:=b;unfold js at h ⊢;simp only[wK.ren];cases c with
 |fz l=>
  simp only[BC.ren];obtain⟨arr,h1,h2,J⟩:=h;refine ⟨arr,h1,h2,λj x I=>?_⟩;obtain⟨a,v,c,d⟩:=J j x I;simp only[BC.get] at I;obtain⟨q,_,rfl⟩:=jM.1 I;exact⟨a,v,c,hk _ _ d⟩
 |mx l=>
  simp only[BC.ren];obtain⟨arr,h1,h2,J⟩:=h;refine ⟨arr,h1,by simpa[BC.len] using h2,λj x I=>?_⟩;simp only[BC.get,bc] at I;obtain⟨q,hq,rfl⟩:=jM.1 I;obtain⟨a,v,c,d⟩:=J j q hq;exact⟨by rw[Cc];exact a,v,c,hk _ _ d⟩
 |mp es=>
  simp only[BC.ren];obtain⟨e,c,h1,h2,J⟩:=h;refine ⟨e,c,h1,by rw[h2,zF];rfl,λj x I=>?_⟩;rw[bc] at I;obtain⟨q,hq,rfl⟩:=jM.1 I;obtain⟨m,a,b⟩:=J j q hq;exact⟨m,a,hk _ _ b⟩
 |it s p=>exact h
theorem js.renFrom {φ φ':PM} {g:Nat->Nat} {O O':Nat->Prop} {w:World} {p:Nat->Bool} (hk:∀ x v,x.all p=ai->cL φ O w (x.ren g) v->cL φ' O' w x v) {b:wK} (hb:b.c.all p=ai) {o:Obj} (h:js φ O w (b.ren g) o):js φ' O' w b o:=by
 obtain⟨ty,c⟩:=b;unfold js at h ⊢;simp only[wK.ren] at h;cases c with
 |fz l=>
  simp only[BC.ren] at h;obtain⟨arr,h1,h2,J⟩:=h;refine ⟨arr,h1,h2,λj x I=>?_⟩;obtain⟨a,v,c,d⟩:=J j x I;simp only[BC.get] at I;obtain⟨q,_,rfl⟩:=jM.1 I;exact⟨a,v,c,hk _ _ rfl d⟩
 |mx l=>
  simp only[BC.ren] at h;obtain⟨arr,h1,h2,J⟩:=h;refine ⟨arr,h1,by simpa[BC.len] using h2,λj x I=>?_⟩;simp only[BC.get] at I;obtain⟨a,v,c,d⟩:=J j (x.ren g) (by simp only[BC.get,bc,I];rfl);rw[Cc] at a;exact⟨a,v,c,hk _ _ (l7 hb x (ba I)) d⟩
 |mp es=>
  simp only[BC.ren] at h;obtain⟨e,c,h1,h2,J⟩:=h;refine ⟨e,c,h1,by rw[h2,zF];rfl,λj x I=>?_⟩;obtain⟨m,a,b⟩:=J j (x.1,x.2.ren g) (by rw[bc,I];rfl);exact⟨m,a,hk _ _ (l7 hb x.2 (dk.2 ⟨x,ba I,rfl⟩)) b⟩
 |it s p=>exact h
mutual
def Ce (g:Nat->Nat):TV->TV
 |.row i=>.row (g i)
 |.rtl i j=>.rtl (g i) j
 |.agg l=>.agg (ku g l)
 |.tup l=>.tup (ku g l)
 |.clo q l=>.clo q (ku g l)
 |.f T v=>.f T v
 |.fel T xs j h off=>.fel T xs j h off
 |.pel a b c d=>.pel (g a) b c d
 |.ptr a b=>.ptr (g a) b
 |.csl a b c=>.csl (g a) b c
 |.emp=>.emp
 |.nil=>.nil
 |.mp i=>.mp (g i)
 |.undef=>.undef
 |.np=>.np
 |.anyb=>.anyb
def ku (g:Nat->Nat):List TV->List TV
 |[]=>[]
 |x::r=>Ce g x::ku g r
end
theorem zJ (g:Nat->Nat):∀ l,ku g l=l.map (Ce g)
 |[]=>rfl
 |x::r=>by rw[ku,zJ g r];rfl
def lO (g:Nat->Nat):ip->ip
 |.cells ty l=>.cells ty (ku g l)
 |.rows ty p T xs=>.rows ty p T xs
 |.dead p sz n=>.dead p sz n
 |.mp K V es=>.mp K V es
theorem HG (g:Nat->Nat) (b:ip):mA (lO g b)=mA b:=by cases b<;>rfl
def Hf (g:Nat->Nat) (n:Nat):Nat:=nm (g (ow n))
theorem xj (g:Nat->Nat) (i:Nat):Hf g (nm i)=nm (g i):=by unfold Hf;rw[dX]
mutual
theorem ago {g:Nat->Nat} {h1 h2:bh} (hrow:∀ i r,em h1 i=af r->em h2 (g i)=af r):∀ (v:TV) (y:AV),co h1 v=af y->co h2 (Ce g v)=af (y.ren (Hf g))
 |.f _ _,y,he=>by simp only[co,ak] at he;subst he;rfl
 |.fel _ _ _ _ _,y,he=>by simp only[co,ak] at he;subst he;rfl
 |.pel _ _ _ _,y,he=>by simp only[co,ak] at he;subst he;simp only[Ce,co,AV.ren,xj]
 |.ptr _ _,y,he=>by simp only[co,ak] at he;subst he;simp only[Ce,co,AV.ren,xj]
 |.csl _ _ _,y,he=>by simp only[co,ak] at he;subst he;simp only[Ce,co,AV.ren,xj]
 |.row id,y,he=>by
  simp only[co] at he;split at he
  .rename_i p sz n hr;simp only[ak] at he;subst he;simp only[Ce,co,hrow id _ hr];unfold fk;split
   .rfl
   .simp only[AV.ren,xj]
  .cases he
 |.rtl id jj,y,he=>by
  simp only[co] at he;split at he
  .rename_i p sz n hr;simp only[ak] at he;subst he;simp only[Ce,co,hrow id _ hr,AV.ren,xj]
  .cases he
 |.emp,y,he=>by simp only[co,ak] at he;subst he;rfl
 |.nil,y,he=>by simp only[co,ak] at he;subst he;rfl
 |.mp _,y,he=>by simp only[co,ak] at he;subst he;simp only[Ce,co,AV.ren,xj]
 |.agg l,y,he=>by
  simp only[co] at he;split at he
  .rename_i l' hl;simp only[ak] at he;subst he;simp only[Ce,co,qu hrow l l' hl,AV.ren]
  .cases he
 |.tup l,y,he=>by
  simp only[co] at he;split at he
  .rename_i l' hl;simp only[ak] at he;subst he;simp only[Ce,co,qu hrow l l' hl,AV.ren]
  .cases he
 |.clo q l,y,he=>by
  simp only[co] at he;split at he
  .rename_i l' hl;simp only[ak] at he;subst he;simp only[Ce,co,qu hrow l l' hl,AV.ren]
  .cases he
 |.undef,y,he=>by simp only[co,ak] at he;subst he;rfl
 |.np,y,he=>by simp only[co,ak] at he;subst he;rfl
 |.anyb,y,he=>by simp only[co,ak] at he;subst he;rfl
theorem qu {g:Nat->Nat} {h1 h2:bh} (hrow:∀ i r,em h1 i=af r->em h2 (g i)=af r):∀ (l:List TV) (l':List AV),cK h1 l=af l'->cK h2 (ku g l)=af (AV.renL (Hf g) l')
 |[],l',he=>by simp only[cK,ak] at he;subst he;rfl
 |x::r,l',he=>by
  obtain⟨y,l2,rfl,e1,e2⟩:=cY he;exact oS (ago hrow x y e1) (qu hrow r l2 e2)
end
theorem CP {g:Nat->Nat} {h1 h2:bh} (hrow:∀ i r,em h1 i=af r->em h2 (g i)=af r) {b:ip} {y:wK} (he:kw h1 b=af y):kw h2 (lO g b)=af (y.ren (Hf g)):=by
 cases b with
 |rows ty p T xs=>
  simp only[kw] at he;split at he
  .cases he
  .rename_i hc;simp only[ak] at he;subst he;simp only[lO,kw,aB hc];rfl
 |cells ty l=>
  simp only[kw] at he;split at he
  .rename_i I hl;simp only[ak] at he;subst he;simp only[lO,kw,qu hrow l I hl,om];rfl
  .cases he
 |dead p sz n=>cases he
 |mp K V es=>
  simp only[kw,ak] at he;subst he;simp only[lO,kw,wK.ren,ak,wK.mk.injEq,A_];unfold Zg;split
  .rfl
  .simp only[BC.ren,zF];rfl
theorem Cd (g:Nat->Nat) (a b:List TV):ku g (a++b)=ku g a++ku g b:=by
 rw[zJ,zJ,zJ,cQ]
theorem pE (g:Nat->Nat):∀ (n:Nat) (T:Ty) (v:T.den) (l:List TV),cellsOf n T v=af l->ku g l=l
 |0,_,_,_,he=>by simp[cellsOf] at he
 |n+1,.st t,v,l,he=>pE g n t v l he
 |n+1,.pr a b,v,l,he=>by
  simp only[cellsOf] at he;split at he
  .rename_i x y J I;simp only[ak] at he;subst he;rw[Cd,pE g n a v.1 x J,pE g n b v.2 y I]
  .cases he
 |n+1,.un,v,l,he=>by simp only[cellsOf,ak] at he;subst he;rfl
 |n+1,.ex,v,l,he=>pE g n Mj (M0 v) l he
 |n+1,.sm,v,l,he=>pE g n LS (MZ v) l he
 |n+1,.int k,v,l,he=>by simp only[cellsOf,ak] at he;subst he;rfl
 |n+1,.bool,v,l,he=>by simp only[cellsOf,ak] at he;subst he;rfl
 |n+1,.str,v,l,he=>by simp only[cellsOf,ak] at he;subst he;rfl
 |n+1,.sl t,v,l,he=>by simp only[cellsOf,ak] at he;subst he;rfl
abbrev Ha:Nat->Nat:=λi=>i
mutual
theorem Y2 (g:Nat->Nat):∀ (p:PV) (x:p.ty.den),pJ g p x=(pJ Ha p x).map (ku g)
 |.d T,x=>by
  simp only[pJ];cases h:cellsOf 40 T x with
  |none=>rfl
  |some l=>simp only[ca,pE g 40 T x l h]
 |.ptr i o,x=>rfl
 |.csl i o z,x=>rfl
 |.clo q i o,x=>rfl
 |.row i,x=>rfl
 |.mp i,x=>rfl
 |.nil,x=>rfl
 |.emp,x=>rfl
 |.agg ps,x=>zK g ps x
theorem zK (g:Nat->Nat):∀ (ps:List PV) (x:(PV.tyL ps).den),qM g ps x=(qM Ha ps x).map (ku g)
 |[],x=>rfl
 |p::r,x=>by
  simp only[qM];rw[Y2 g p,zK g r];cases pJ Ha p (NR p.ty (PV.tyL r) x) with
  |none=>rfl
  |some a=>
   cases qM Ha r (Kv p.ty (PV.tyL r) x) with
   |none=>rfl
   |some b=>simp only[ca,Cd]
end
def ah2 (o:Option (List TV)):Option TV:=match o with|some l=>af (.agg l)|none=>ah
theorem aaa (g:Nat->Nat) (o:Option (List TV)):ah2 (o.map (ku g))=(ah2 o).map (Ce g):=by cases o<;>rfl
theorem Y0 (g:Nat->Nat) (p:PV) (x:p.ty.den):sX g p x=(sX Ha p x).map (Ce g):=by
 cases p with
 |agg ps=>exact (gG ah2 (zK g ps x)).trans (aaa g _)
 |_=>rfl
theorem tw (g:Nat->Nat):∀ (ps:List PV) (x:(PV.tyL ps).den),pQ g ps x=(pQ Ha ps x).map (ku g)
 |[],x=>rfl
 |p::r,x=>by
  simp only[pQ];rw[Y0 g p,tw g r];cases sX Ha p (NR p.ty (PV.tyL r) x) with
  |none=>rfl
  |some a=>
   cases pQ Ha r (Kv p.ty (PV.tyL r) x) with
   |none=>rfl
   |some b=>rfl
def UO (ty:TypeId) (o:Option (List TV)):Option (Option ip):=match o with|some l=>af (af (.cells ty l))|none=>ah
theorem UN (g:Nat->Nat) (ty:TypeId) (o:Option (List TV)):UO ty (o.map (ku g))=(UO ty o).map (lK (lO g)):=by cases o<;>rfl
theorem Y3 (g:Nat->Nat) (b:PB) (x:b.ty.den):Ci g b x=(Ci Ha b x).map (lK (lO g)):=by
 cases b with
 |cells ty ps=>exact (gG (UO ty) (zK g ps x)).trans (UN g ty _)
 |_=>rfl
theorem vJ (g:Nat->Nat):∀ (bs:List PB) (x:(PB.tyL bs).den),oo g bs x=(oo Ha bs x).map (List.map (lK (lO g)))
 |[],x=>rfl
 |b::r,x=>by
  simp only[oo];rw[Y3 g b,vJ g r];cases Ci Ha b (NR b.ty (PB.tyL r) x) with
  |none=>rfl
  |some a=>
   cases oo Ha r (Kv b.ty (PB.tyL r) x) with
   |none=>rfl
   |some l=>rfl
theorem Ch (g:Nat->Nat):∀ (bs:List PB) (x:(PB.tyL bs).den) (l:List (Option ip)),oo g bs x=af l->l.length=bs.length
 |[],x,l,h=>by simp only[oo,ak] at h;subst h;rfl
 |b::r,x,l,h=>by
  simp only[oo] at h;split at h
  .split at h
   .rename_i q hq;simp only[ak] at h;subst h;simp[Ch g r _ q hq]
   .cases h
  .cases h
theorem ID (h:bh) (i j:Nat):(kill h i).get j=if j=i then (h.get i).map uP else h.get j:=by
 unfold kill;cases hb:h.get i with
 |none=>
  simp only[Option.map_none];split
  .rename_i e;rw[e,hb]
  .rfl
 |some b=>rw[PT.get_set];rfl
theorem uN (g:Nat->Nat):∀ (l:List (Option ip)) (i:Nat) (h:bh) (j:Nat),(∀ k,k<l.length->j≠g (i+k))->(Ad g i l h).get j=h.get j
 |[],i,h,j,_=>rfl
 |some c::r,i,h,j,hj=>by
  rw[Ad,uN g r (i+1) _ j (λk hk=>by have:=hj (k+1) (by simpa using hk);rwa [show i+1+k=i+(k+1) from by omega]),PT.get_set,aB];exact hj 0 (by simp)
 |none::r,i,h,j,hj=>by
  rw[Ad,uN g r (i+1) _ j (λk hk=>by have:=hj (k+1) (by simpa using hk);rwa [show i+1+k=i+(k+1) from by omega]),ID,aB];exact hj 0 (by simp)
theorem uO (g:Nat->Nat):∀ (l:List (Option ip)) (i:Nat) (h:bh),(∀ a b,a<l.length->b<l.length->g (i+a)=g (i+b)->a=b)->∀ (k:Nat) (c:Option ip),l[k]? =af c->(Ad g i l h).get (g (i+k))=(match c with|some b=>af b|none=>(h.get (g (i+k))).map uP)
 |[],i,h,_,k,c,hk=>by simp at hk
 |o::r,i,h,hinj,k,c,hk=>by
  have hinj':∀ a b,a<r.length->b<r.length->g (i+1+a)=g (i+1+b)->a=b:=λa b J hb e=>by
   have:=hinj (a+1) (b+1) (by simpa using J) (by simpa using hb) (by rw[show i+(a+1)=i+1+a from by omega,show i+(b+1)=i+1+b from by omega];exact e);omega
  cases k with
  |zero=>
   simp at hk;subst hk;have hne:∀ k,k<r.length->g (i+0)≠g (i+1+k):=λk hk e=>by
    have:=hinj 0 (k+1) (by simp) (by simpa using hk) (by rw[show i+(k+1)=i+1+k from by omega];exact e);omega
   cases o with
   |some b=>rw[Ad,uN g r (i+1) _ _ hne];simp only[c8];rw[PT.get_set,aE rfl]
   |none=>rw[Ad,uN g r (i+1) _ _ hne];simp only[c8];rw[ID,aE rfl]
  |succ k=>
   have I:r[k]? =af c:=by simpa using hk
   have hkl:k<r.length:=(bk.1 I).1;have hne:g (i+(k+1))≠g i:=λe=>by
    have:=hinj (k+1) 0 (by simpa using hkl) (by simp) (by rw[e];rfl);omega
   rw[show i+(k+1)=i+1+k from by omega] at hne ⊢;cases o with
   |some b=>
    rw[Ad,uO g r (i+1) _ hinj' k c I];cases c with
    |some _=>rfl
    |none=>simp only[PT.get_set,aB hne]
   |none=>
    rw[Ad,uO g r (i+1) _ hinj' k c I];cases c with
    |some _=>rfl
    |none=>simp only[ID,aB hne]
def xy (h' h:bh):Prop:=∀ i r,em h' i=af r->em h i=af r
section get
variable {h h':bh} {H H':HF} {g:Nat->Nat}
theorem lJ.agg {l I:List AV} (hl:ie H H' l I) (hc:∀ x∈I,x.isCell=ai):lJ H H' (.agg l) (.agg I):=by
 intro φ E w v hrep hr;cases hr with
 |@agg _ vs hlen hcl hrr=>
  refine .agg (by rw[hlen,<-hl.length]) hc λj y u J hu=>?_
  obtain⟨x,M,hle⟩:=hl.get j y J;exact hle φ E w u hrep (hrr j x u M hu)
theorem Ph (hr:xy h' h) {i:Nat} {y M:AV} (J:co h (.row i)=af y) (I:co h' (.row i)=af M):M=y:=by
 simp only[co] at J I;cases h1:em h' i with
 |none=>rw[h1] at I;cases I
 |some r=>
  rw[h1] at I;rw[hr i r h1] at J;rw[J] at I;cases I;rfl
mutual
theorem acw (d:vb H H') (hr:xy h' h):∀ (p:PV) (l:List TV) (x:p.ty.den) (m:Nat) (r:List TV) (cs:List TV) (l' cs':List AV),pl g h p l=af (x,m,r)->pJ g p x=af cs->cK h l=af l'->cK h' cs=af cs'->DG h H H' m->∃ l1 l2,l'=l1++l2/\cK h r=af l2/\ie H H' l1 cs'
 |.d T,l,x,m,r,cs,l',cs',hg,hp,hl,hc,gv=>by
  obtain⟨l1,l2,e1,e2,e3⟩:=rX d 40 T l x m r l' hg hl gv;have:=(lH h' 40 T x cs hp).1;rw[hc] at this;cases this;exact⟨l1,l2,e1,e2,e3⟩
 |.ptr i q,l,x,m,r,cs,l',cs',hg,hp,hl,hc,gv=>by
  simp only[pl] at hg;split at hg
  .rename_i i' o' r';split at hg
   .rename_i hb;simp only[av] at hb;have e1:=aw hb.1;have e2:=aw hb.2;subst e1;subst e2;simp only[ak,aD] at hg;obtain⟨_,_,rfl⟩:=hg;simp only[pJ,ak] at hp;subst hp;obtain⟨y,l2,rfl,g1,g2⟩:=cY hl;simp only[co,ak] at g1;subst g1;simp only[cK,co,ak] at hc;subst hc;exact⟨[_],l2,rfl,g2,lJ.refl d _,trivial⟩
   .cases hg
  .cases hg
 |.csl i q z,l,x,m,r,cs,l',cs',hg,hp,hl,hc,gv=>by
  simp only[pl] at hg;split at hg
  .rename_i i' o' z' r';split at hg
   .rename_i hb;simp only[av] at hb;have e1:=aw hb.1.1;have e2:=aw hb.1.2;have e3:=aw hb.2;subst e1;subst e2;subst e3;simp only[ak,aD] at hg;obtain⟨_,_,rfl⟩:=hg;simp only[pJ,ak] at hp;subst hp;obtain⟨y,l2,rfl,g1,g2⟩:=cY hl;simp only[co,ak] at g1;subst g1;simp only[cK,co,ak] at hc;subst hc;exact⟨[_],l2,rfl,g2,lJ.refl d _,trivial⟩
   .cases hg
  .cases hg
 |.clo q i z,l,x,m,r,cs,l',cs',hg,hp,hl,hc,gv=>by
  simp only[pl] at hg;split at hg
  .rename_i q' i' z' r';split at hg
   .rename_i hb;simp only[av] at hb;have e1:=aw hb.1.1;have e2:=aw hb.1.2;have e3:=aw hb.2;subst e1;subst e2;subst e3;simp only[ak,aD] at hg;obtain⟨_,_,rfl⟩:=hg;simp only[pJ,ak] at hp;subst hp;obtain⟨y,l2,rfl,g1,g2⟩:=cY hl;simp only[co,cK,ak] at g1;subst g1;simp only[cK,co,ak] at hc;subst hc;exact⟨[_],l2,rfl,g2,lJ.refl d _,trivial⟩
   .cases hg
  .cases hg
 |.row i,l,x,m,r,cs,l',cs',hg,hp,hl,hc,gv=>by
  simp only[pl] at hg;split at hg
  .rename_i i' r';split at hg
   .rename_i hb;have e1:=aw hb;subst e1;simp only[ak,aD] at hg;obtain⟨_,_,rfl⟩:=hg;simp only[pJ,ak] at hp;subst hp;obtain⟨y,l2,rfl,g1,g2⟩:=cY hl;obtain⟨y',l3,rfl,g3,g4⟩:=cY hc;simp only[cK,ak] at g4;subst g4;rw[Ph hr g1 g3];exact⟨[_],l2,rfl,g2,lJ.refl d _,trivial⟩
   .cases hg
  .cases hg
 |.mp i,l,x,m,r,cs,l',cs',hg,hp,hl,hc,gv=>by
  simp only[pl] at hg;split at hg
  .rename_i i' r';split at hg
   .rename_i hb;have e1:=aw hb;subst e1;simp only[ak,aD] at hg;obtain⟨_,_,rfl⟩:=hg;simp only[pJ,ak] at hp;subst hp;obtain⟨y,l2,rfl,g1,g2⟩:=cY hl;simp only[co,ak] at g1;subst g1;simp only[cK,co,ak] at hc;subst hc;exact⟨[_],l2,rfl,g2,lJ.refl d _,trivial⟩
   .cases hg
  .cases hg
 |.nil,l,x,m,r,cs,l',cs',hg,hp,hl,hc,gv=>by
  simp only[pl] at hg;split at hg
  .simp only[ak,aD] at hg;obtain⟨_,_,rfl⟩:=hg;simp only[pJ,ak] at hp;subst hp;obtain⟨y,l2,rfl,g1,g2⟩:=cY hl;simp only[co,ak] at g1;subst g1;simp only[cK,co,ak] at hc;subst hc;exact⟨[_],l2,rfl,g2,lJ.refl d _,trivial⟩
  .cases hg
 |.emp,l,x,m,r,cs,l',cs',hg,hp,hl,hc,gv=>by
  simp only[pl] at hg;split at hg
  .simp only[ak,aD] at hg;obtain⟨_,_,rfl⟩:=hg;simp only[pJ,ak] at hp;subst hp;obtain⟨y,l2,rfl,g1,g2⟩:=cY hl;simp only[co,ak] at g1;subst g1;simp only[cK,co,ak] at hc;subst hc;exact⟨[_],l2,rfl,g2,Le.nilEmp.toH d,trivial⟩
  .simp only[ak,aD] at hg;obtain⟨_,_,rfl⟩:=hg;simp only[pJ,ak] at hp;subst hp;obtain⟨y,l2,rfl,g1,g2⟩:=cY hl;simp only[co,ak] at g1;subst g1;simp only[cK,co,ak] at hc;subst hc;exact⟨[_],l2,rfl,g2,lJ.refl d _,trivial⟩
  .cases hg
 |.agg ps,l,x,m,r,cs,l',cs',hg,hp,hl,hc,gv=>CK d hr ps l x m r cs l' cs' hg hp hl hc gv
theorem CK (d:vb H H') (hr:xy h' h):∀ (ps:List PV) (l:List TV) (x:(PV.tyL ps).den) (m:Nat) (r:List TV) (cs:List TV) (l' cs':List AV),yN g h ps l=af (x,m,r)->qM g ps x=af cs->cK h l=af l'->cK h' cs=af cs'->DG h H H' m->∃ l1 l2,l'=l1++l2/\cK h r=af l2/\ie H H' l1 cs'
 |[],l,x,m,r,cs,l',cs',hg,hp,hl,hc,gv=>by
  simp only[yN,ak,aD] at hg;obtain⟨_,_,rfl⟩:=hg;simp only[qM,ak] at hp;subst hp;simp only[cK,ak] at hc;subst hc;exact⟨[],l',rfl,hl,trivial⟩
 |p::ps,l,x,m,r,cs,l',cs',hg,hp,hl,hc,gv=>by
  simp only[yN] at hg;split at hg
  .rename_i x1 m1 r1 h1;split at hg
   .rename_i x2 m2 r2 h2;simp only[ak,aD] at hg;obtain⟨rfl,rfl,rfl⟩:=hg;simp only[qM,s_,uJ] at hp;split at hp
    .rename_i a ha;split at hp
     .rename_i b hb;simp only[ak] at hp;subst hp;obtain⟨a',b',rfl,ea,eb⟩:=BH hc;obtain⟨ga,gb⟩:=gv.or;obtain⟨l1,l2,rfl,q1,q2⟩:=acw d hr p l _ _ _ a l' a' h1 ha hl ea ga;obtain⟨l3,l4,rfl,q3,q4⟩:=CK d hr ps _ _ _ _ b l2 b' h2 hb q1 eb gb;exact⟨l1++l3,l4,by simp,q3,q2.append q4⟩
     .cases hp
    .cases hp
   .cases hg
  .cases hg
end
mutual
theorem WH:∀ (p:PV) (x:p.ty.den) (cs:List TV),pJ g p x=af cs->kq cs=ai
 |.d T,x,cs,hp=>(lH PT.leaf 40 T x cs hp).2
 |.ptr i q,x,cs,hp=>by simp only[pJ,ak] at hp;subst hp;rfl
 |.csl i q z,x,cs,hp=>by simp only[pJ,ak] at hp;subst hp;rfl
 |.clo q i z,x,cs,hp=>by simp only[pJ,ak] at hp;subst hp;rfl
 |.row i,x,cs,hp=>by simp only[pJ,ak] at hp;subst hp;rfl
 |.mp i,x,cs,hp=>by simp only[pJ,ak] at hp;subst hp;rfl
 |.nil,x,cs,hp=>by simp only[pJ,ak] at hp;subst hp;rfl
 |.emp,x,cs,hp=>by simp only[pJ,ak] at hp;subst hp;rfl
 |.agg ps,x,cs,hp=>wS ps x cs hp
theorem wS:∀ (ps:List PV) (x:(PV.tyL ps).den) (cs:List TV),qM g ps x=af cs->kq cs=ai
 |[],x,cs,hp=>by simp only[qM,ak] at hp;subst hp;rfl
 |p::ps,x,cs,hp=>by
  simp only[qM] at hp;split at hp
  .rename_i a ha;split at hp
   .rename_i b hb;simp only[ak] at hp;subst hp;exact RJ (WH p _ a ha) (wS ps _ b hb)
   .cases hp
  .cases hp
end
theorem acv (d:vb H H') (hr:xy h' h) {p:PV} {v:TV} {x:p.ty.den} {m:Nat} {u:TV} {y M:AV} (hg:xh g h p v=af (x,m)) (hp:sX g p x=af u) (J:co h v=af y) (I:co h' u=af M) (Z:DG h H H' m):lJ H H' y M:=by
 cases p with
 |d T=>
  simp only[sX,ak] at hp;subst hp;simp only[co,ak] at I;subst I;exact (Oz d hg J Z).1
 |agg ps=>
  simp only[xh] at hg;split at hg
  .cases hg
  .rename_i hc;split at hg
   .rename_i l hl;split at hg
    .rename_i x1 m1 h1;simp only[ak,aD] at hg;obtain⟨rfl,rfl⟩:=hg;simp only[sX] at hp;split at hp
     .rename_i cs hcs;simp only[ak] at hp;subst hp;simp only[co] at I;split at I
      .rename_i cs' hcs';simp only[ak] at I;subst I;obtain⟨e1,e2⟩:=JB hl J;obtain⟨l1,l2,Y,U,q3⟩:=CK d hr ps l _ _ [] cs y.cs cs' h1 hcs e1 hcs' Z;simp only[cK,ak] at U;subst U;rw[jT] at Y;subst Y;have hcell:∀ x∈cs',x.isCell=ai:=lI (rU hcs' (wS ps _ cs hcs));cases v with
       |agg q=>
        simp only[co] at J;split at J
        .simp only[ak] at J;subst J;exact lJ.agg q3 hcell
        .cases J
       |f S z=>
        simp only[co,ak] at J;subst J;have ho:S.one=aj:=by simpa[TV.isC] using hc
        rw[zV] at q3;rw[qw S z ho];intro φ E w v hrep hrel;exact lJ.agg q3 hcell φ E w v hrep (Le.aggF _ _ _ _ hrel)
       |tup q=>simp[TV.cs,TV.isC] at hl
       |undef=>simp[TV.cs,TV.isC] at hl
       |np=>simp[TV.isC] at hc
       |anyb=>simp[TV.cs,TV.isC] at hl
       |fel T xs j hj off=>simp[TV.isC] at hc
       |pel id sz j off=>simp[TV.isC] at hc
       |ptr id off=>simp[TV.isC] at hc
       |csl id off z=>simp[TV.isC] at hc
       |row id=>simp[TV.isC] at hc
       |emp=>simp[TV.isC] at hc
       |nil=>simp[TV.isC] at hc
       |mp id=>simp[TV.isC] at hc
       |rtl id jj=>cases hl
       |clo g l=>simp[TV.isC] at hc
      .cases I
     .cases hp
    .cases hg
   .cases hg
 |ptr i q=>
  simp only[sX,ak] at hp;subst hp;simp only[xh] at hg;split at hg
  .rename_i h1;simp only[pl] at h1;split at h1
   .rename_i e;simp only[iR] at e;obtain⟨rfl,_⟩:=e;split at h1
    .rename_i hb;simp only[av] at hb;have e1:=aw hb.1;have e2:=aw hb.2;subst e1;subst e2;simp only[co,ak] at J I;subst J;subst I;exact lJ.refl d _
    .cases h1
   .cases h1
  .cases hg
 |csl i q z=>
  simp only[sX,ak] at hp;subst hp;simp only[xh] at hg;split at hg
  .rename_i h1;simp only[pl] at h1;split at h1
   .rename_i e;simp only[iR] at e;obtain⟨rfl,_⟩:=e;split at h1
    .rename_i hb;simp only[av] at hb;have e1:=aw hb.1.1;have e2:=aw hb.1.2;have e3:=aw hb.2;subst e1;subst e2;subst e3;simp only[co,ak] at J I;subst J;subst I;exact lJ.refl d _
    .cases h1
   .cases h1
  .cases hg
 |clo q i z=>
  simp only[sX,ak] at hp;subst hp;simp only[xh] at hg;split at hg
  .rename_i h1;simp only[pl] at h1;split at h1
   .rename_i e;simp only[iR] at e;obtain⟨rfl,_⟩:=e;split at h1
    .rename_i hb;simp only[av] at hb;have e1:=aw hb.1.1;have e2:=aw hb.1.2;have e3:=aw hb.2;subst e1;subst e2;subst e3;simp only[co,cK,ak] at J I;subst J;subst I;exact lJ.refl d _
    .cases h1
   .cases h1
  .cases hg
 |row i=>
  simp only[sX,ak] at hp;subst hp;simp only[xh] at hg;split at hg
  .rename_i h1;simp only[pl] at h1;split at h1
   .rename_i e;simp only[iR] at e;obtain⟨rfl,_⟩:=e;split at h1
    .rename_i hb;have e1:=aw hb;subst e1;rw[Ph hr J I];exact lJ.refl d _
    .cases h1
   .cases h1
  .cases hg
 |mp i=>
  simp only[sX,ak] at hp;subst hp;simp only[xh] at hg;split at hg
  .rename_i h1;simp only[pl] at h1;split at h1
   .rename_i e;simp only[iR] at e;obtain⟨rfl,_⟩:=e;split at h1
    .rename_i hb;have e1:=aw hb;subst e1;simp only[co,ak] at J I;subst J;subst I;exact lJ.refl d _
    .cases h1
   .cases h1
  .cases hg
 |nil=>
  simp only[sX,ak] at hp;subst hp;simp only[xh] at hg;split at hg
  .rename_i h1;simp only[pl] at h1;split at h1
   .rename_i e;simp only[iR] at e;obtain⟨rfl,_⟩:=e;simp only[co,ak] at J I;subst J;subst I;exact lJ.refl d _
   .cases h1
  .cases hg
 |emp=>
  simp only[sX,ak] at hp;subst hp;simp only[xh] at hg;split at hg
  .rename_i h1;simp only[pl] at h1;split at h1
   .rename_i e;simp only[iR] at e;obtain⟨rfl,_⟩:=e;simp only[co,ak] at J I;subst J;subst I;exact Le.nilEmp.toH d
   .rename_i e;simp only[iR] at e;obtain⟨rfl,_⟩:=e;simp only[co,ak] at J I;subst J;subst I;exact lJ.refl d _
   .cases h1
  .cases hg
theorem CJ (d:vb H H') (hr:xy h' h):∀ (ps:List PV) (vs:List TV) (x:(PV.tyL ps).den) (m:Nat) (us:List TV) (l J:List AV),xI g h ps vs=af (x,m)->pQ g ps x=af us->cK h vs=af l->cK h' us=af J->DG h H H' m->ie H H' l J
 |[],[],x,m,us,l,J,hg,hp,hl,I,M=>by
  simp only[pQ,ak] at hp;subst hp;simp only[cK,ak] at hl I;subst hl;subst I;trivial
 |[],_::_,x,m,us,l,J,hg,_,_,_,_=>by simp[xI] at hg
 |_::_,[],x,m,us,l,J,hg,_,_,_,_=>by simp[xI] at hg
 |p::ps,v::vs,x,m,us,l,J,hg,hp,hl,I,M=>by
  simp only[xI] at hg;split at hg
  .rename_i x1 m1 h1;split at hg
   .rename_i x2 m2 h2;simp only[ak,aD] at hg;obtain⟨rfl,rfl⟩:=hg;simp only[pQ,s_,uJ] at hp;split at hp
    .rename_i a Y;split at hp
     .rename_i b hb;simp only[ak] at hp;subst hp;obtain⟨y,l2,rfl,e1,e2⟩:=cY hl;obtain⟨y',U,rfl,e3,e4⟩:=cY I;obtain⟨ga,Z⟩:=M.or;exact⟨acv d hr h1 Y e1 e3 ga,CJ d hr ps vs _ _ b l2 U h2 hb e2 e4 Z⟩
     .cases hp
    .cases hp
   .cases hg
  .cases hg
inductive BM (g:Nat->Nat) (h:bh) (m:Nat):ip->ip->Prop
 |rows (ty:TypeId) (p:Bool) (T:Ty) (xs:List T.den):BM g h m (.rows ty p T xs) (.rows ty p T xs)
 |mp (K V:Ty) (es:List (K.den×V.den)):BM g h m (.mp K V es) (.mp K V es)
 |cells (ty:TypeId) (ps:List PV) (x:(PV.tyL ps).den) (l l2:List TV) (m':Nat) (hg:yN g h ps l=af (x,m',[])) (hp:qM g ps x=af l2) (hm:∀ i,aM m' i=ai->aM m i=ai):BM g h m (.cells ty l) (.cells ty l2)
theorem BM.mono {m m2:Nat} (hm:∀ i,aM m i=ai->aM m2 i=ai) {b c:ip} (h1:BM g h m b c):BM g h m2 b c:=by
 cases h1 with
 |rows ty p T xs=>exact .rows ty p T xs
 |mp K V es=>exact .mp K V es
 |cells ty ps x l l2 m' hg hp I=>exact .cells ty ps x l l2 m' hg hp λi hi=>hm i (I i hi)
theorem acx {i:Nat} {b:PB} {x:b.ty.den} {m:Nat} {c:ip} (hg:Ej g h i b=af (x,m)) (hp:Ci g b x=af (af c)):∃ b0,h.get (g i)=af b0/\BM g h m b0 c:=by
 cases b with
 |rows ty p T=>
  simp only[Ej] at hg;split at hg
  .rename_i ty' M S xs hb;split at hg
   .rename_i hc;simp only[av,cV] at hc;obtain⟨rfl,rfl⟩:=hc;split at hg
    .rename_i z I;simp only[ak,aD] at hg;obtain⟨rfl,rfl⟩:=hg;obtain⟨e,rfl⟩:=je I;cases e;simp only[Ci,ak] at hp;subst hp;exact⟨_,hb,.rows _ _ _ _⟩
    .cases hg
   .cases hg
  .cases hg
 |rowsP ty T=>
  simp only[Ej] at hg;split at hg
  .rename_i ty' M S xs hb;split at hg
   .rename_i hc;have hc:ty=ty':=by simpa using hc
    subst hc;split at hg
    .rename_i z I;simp only[ak,aD] at hg;obtain⟨rfl,rfl⟩:=hg;obtain⟨e,rfl⟩:=je I;cases e;simp only[Ci,ak] at hp;subst hp;exact⟨_,hb,.rows _ _ _ _⟩
    .cases hg
   .cases hg
  .cases hg
 |cells ty ps=>
  simp only[Ej] at hg;split at hg
  .rename_i ty' l hb;split at hg
   .rename_i hc;have hc:ty=ty':=by simpa using hc
    subst hc;split at hg
    .rename_i z m1 I;simp only[ak,aD] at hg;obtain⟨rfl,rfl⟩:=hg;simp only[Ci] at hp;split at hp
     .rename_i l2 J;simp only[ak] at hp;subst hp;exact⟨_,hb,.cells ty ps _ l l2 _ I J λ_ h=>h⟩
     .cases hp
    .cases hg
   .cases hg
  .cases hg
 |mp K V=>
  simp only[Ej] at hg;split at hg
  .rename_i K' V' es hb;split at hg
   .rename_i z I;simp only[ak,aD] at hg;obtain⟨rfl,rfl⟩:=hg;obtain⟨e,rfl⟩:=je I;cases e;simp only[Ci,ak] at hp;subst hp;exact⟨_,hb,.mp _ _ _⟩
   .cases hg
  .cases hg
 |gone=>simp[Ci] at hp
theorem IF:∀ (bs:List PB) (i:Nat) (x:(PB.tyL bs).den) (m:Nat) (I:List (Option ip)),Ar g h i bs=af (x,m)->oo g bs x=af I->∀ (k:Nat) c,I[k]? =af (af c)->∃ b0,h.get (g (i+k))=af b0/\BM g h m b0 c
 |[],i,x,m,I,hg,hp,k,c,hk=>by
  simp only[oo,ak] at hp;subst hp;simp at hk
 |b::r,i,x,m,I,hg,hp,k,c,hk=>by
  simp only[Ar] at hg;split at hg
  .rename_i U m1 h1;split at hg
   .rename_i M m2 h2;simp only[ak,aD] at hg;obtain⟨rfl,rfl⟩:=hg;simp only[oo,s_,uJ] at hp;split at hp
    .rename_i a J;split at hp
     .rename_i q hq;simp only[ak] at hp;subst hp;cases k with
      |zero=>
       simp at hk;subst hk;obtain⟨b0,e1,e2⟩:=acx h1 J;exact⟨b0,e1,e2.mono λi hi=>by rw[bu,hi];rfl⟩
      |succ k=>
       obtain⟨b0,e1,e2⟩:=IF r (i+1) _ _ q h2 hq k c (by simpa using hk);rw[show i+1+k=i+(k+1) from by omega] at e1;exact⟨b0,e1,e2.mono λi hi=>by rw[bu,hi];simp⟩
     .cases hp
    .cases hp
   .cases hg
  .cases hg
end get
theorem Qm {σ:PT Nat} {i a:Nat} (h:σ.get i=af a):ic σ i=a:=by unfold ic;rw[h]
theorem Vh {σ:PT Nat}:∀ (n i acc sm:Nat),YS σ n i acc=af sm->
 (∀ k,k<n->aM acc (ic σ (i+k))=aj)/\(∀ a b,a<n->b<n->ic σ (i+a)=ic σ (i+b)->a=b)/\∀ q,aM sm q=ai↔aM acc q=ai\/∃ k,k<n/\ic σ (i+k)=q
 |0,i,acc,sm,h=>by
  simp only[YS,ak] at h;subst h;exact⟨λk hk=>by omega,λa b J=>by omega,λq=>⟨.inl,λhq=>hq.elim id λ⟨k,hk,_⟩=>by omega⟩⟩
 |n+1,i,acc,sm,h=>by
  simp only[YS] at h;split at h
  .rename_i a J;split at h
   .cases h
   .rename_i hna;have hna:aM acc a=aj:=by simpa using hna
    have hga:=Qm J;obtain⟨h1,h2,M⟩:=Vh n (i+1) (acc|||kK a) sm h;have hne:∀ k,k<n->ic σ (i+1+k)≠a/\aM acc (ic σ (i+1+k))=aj:=λk hk=>by
     have:=h1 k hk;rw[bu,Bool.or_eq_false_iff] at this;refine ⟨λe=>?_,this.1⟩;have I:=this.2;rw[e] at I;rw[bX.2 rfl] at I;cases I
    refine ⟨λk hk=>?_,λx y Y U hxy=>?_,λq=>?_⟩
    .cases k with
     |zero=>rw[c8,hga];exact hna
     |succ k=>rw[show i+(k+1)=i+1+k from by omega];exact (hne k (by omega)).2
    .cases x with
     |zero=>
      cases y with
      |zero=>rfl
      |succ y=>
       rw[c8,hga,show i+(y+1)=i+1+y from by omega] at hxy;exact cZ hxy.symm (hne y (by omega)).1
     |succ x=>
      cases y with
      |zero=>
       rw[show i+0=i from rfl,hga,show i+(x+1)=i+1+x from by omega] at hxy;exact cZ hxy (hne x (by omega)).1
      |succ y=>
       rw[show i+(x+1)=i+1+x from by omega,show i+(y+1)=i+1+y from by omega] at hxy;have:=h2 x y (by omega) (by omega) hxy;omega
    .rw[M,bu,iS];constructor
     .rintro ((hq|hq)|⟨k,hk,hq⟩)
      .exact .inl hq
      .exact .inr ⟨0,by omega,by rw[c8,hga];exact bX.1 hq⟩
      .exact .inr ⟨k+1,by omega,by rw[show i+(k+1)=i+1+k from by omega];exact hq⟩
     .rintro (hq|⟨k,hk,hq⟩)
      .exact .inl (.inl hq)
      .cases k with
       |zero=>rw[c8,hga] at hq;exact .inl (.inr (bX.2 hq))
       |succ k=>exact .inr ⟨k,by omega,by rw[show i+1+k=i+(k+1) from by omega];exact hq⟩
  .cases h
theorem Qt {σ:PT Nat}:∀ (n:Nat),VX σ n=ai->∀ i,i<n->ic σ i=i
 |0,_,i,hi=>by omega
 |n+1,h,i,hi=>by
  simp only[VX,av] at h;by_cases e:i=n
  .subst e;cases I:σ.get i with
   |none=>rw[I] at h;exact cZ h.1 (by simp)
   |some a=>rw[I] at h;rw[Qm I];exact aw h.1
  .exact Qt n h.2 i (by omega)
structure Hn (np:Nat) (t:Tm) (vs:List TV) (h:bh) (z:t.ty.den) (m:Nat) (σ:PT Nat) (sm:Nat):Prop where
 ex:∃ x m1 y m2,z=Tb _ _ x y/\m=m1|||m2/\xI (ic σ) h t.vs vs=af (x,m1)/\Ar (ic σ) h 0 t.bs=af (y,m2)
 inj:∀ a b,a<t.bs.length->b<t.bs.length->ic σ a=ic σ b->a=b
 sig:∀ q,aM sm q=ai↔∃ k,k<t.bs.length/\ic σ k=q
 disj:∀ i,aM m i=ai->aM sm i=aj
 fix:∀ i,i<np->ic σ i=i
theorem vT {np:Nat} {t:Tm} {vs:List TV} {h:bh} {z:t.ty.den} {m:Nat} {σ:PT Nat} {sm:Nat} (hm:DY np t vs h=af ⟨z,m,σ,sm⟩):Hn np t vs h z m σ sm:=by
 unfold DY at hm;rw[NS] at hm;split at hm
 .rename_i sm' hs;split at hm
  .rename_i x m1 h1;split at hm
   .rename_i y m2 h2;split at hm
    .rename_i hc;simp only[av] at hc;simp only[ak,afr.mk.injEq] at hm;obtain⟨rfl,rfl,rfl,rfl⟩:=hm;obtain⟨M,J,I⟩:=Vh _ _ _ _ hs;simp only[bN] at M J I;exact⟨⟨x,m1,y,m2,rfl,rfl,h1,h2⟩,J,λq=>by rw[I];simp,λi hi=>xt hc.1 i hi,Qt np hc.2⟩
    .cases hm
   .cases hm
  .cases hm
 .cases hm
mutual
theorem yO {g:Nat->Nat} {h:bh}:∀ (p:PV) (l:List TV) (x:p.ty.den) (m:Nat) (r:List TV),pl g h p l=af (x,m,r)->dQ h m
 |.d T,l,x,m,r,hg=>uK 40 T l x m r hg
 |.ptr i q,l,x,m,r,hg=>by
  simp only[pl] at hg;split at hg
  .split at hg
   .simp only[ak,aD] at hg;obtain⟨_,rfl,_⟩:=hg;exact dQ.zero h
   .cases hg
  .cases hg
 |.csl i q z,l,x,m,r,hg=>by
  simp only[pl] at hg;split at hg
  .split at hg
   .simp only[ak,aD] at hg;obtain⟨_,rfl,_⟩:=hg;exact dQ.zero h
   .cases hg
  .cases hg
 |.clo q i z,l,x,m,r,hg=>by
  simp only[pl] at hg;split at hg
  .split at hg
   .simp only[ak,aD] at hg;obtain⟨_,rfl,_⟩:=hg;exact dQ.zero h
   .cases hg
  .cases hg
 |.row i,l,x,m,r,hg=>by
  simp only[pl] at hg;split at hg
  .split at hg
   .simp only[ak,aD] at hg;obtain⟨_,rfl,_⟩:=hg;exact dQ.zero h
   .cases hg
  .cases hg
 |.mp i,l,x,m,r,hg=>by
  simp only[pl] at hg;split at hg
  .split at hg
   .simp only[ak,aD] at hg;obtain⟨_,rfl,_⟩:=hg;exact dQ.zero h
   .cases hg
  .cases hg
 |.nil,l,x,m,r,hg=>by
  simp only[pl] at hg;split at hg
  .simp only[ak,aD] at hg;obtain⟨_,rfl,_⟩:=hg;exact dQ.zero h
  .cases hg
 |.emp,l,x,m,r,hg=>by
  simp only[pl] at hg;split at hg
  .simp only[ak,aD] at hg;obtain⟨_,rfl,_⟩:=hg;exact dQ.zero h
  .simp only[ak,aD] at hg;obtain⟨_,rfl,_⟩:=hg;exact dQ.zero h
  .cases hg
 |.agg ps,l,x,m,r,hg=>Hd ps l x m r hg
theorem Hd {g:Nat->Nat} {h:bh}:∀ (ps:List PV) (l:List TV) (x:(PV.tyL ps).den) (m:Nat) (r:List TV),yN g h ps l=af (x,m,r)->dQ h m
 |[],l,x,m,r,hg=>by
  simp only[yN,ak,aD] at hg;obtain⟨_,rfl,_⟩:=hg;exact dQ.zero h
 |p::ps,l,x,m,r,hg=>by
  simp only[yN] at hg;split at hg
  .rename_i x1 m1 r1 h1;split at hg
   .rename_i x2 m2 r2 h2;simp only[ak,aD] at hg;obtain⟨_,rfl,_⟩:=hg;exact (yO p l x1 m1 r1 h1).or (Hd ps r1 _ _ _ h2)
   .cases hg
  .cases hg
end
theorem agl {g:Nat->Nat} {h:bh} {p:PV} {v:TV} {x:p.ty.den} {m:Nat} (hg:xh g h p v=af (x,m)):dQ h m:=by
 cases p with
 |d T=>exact Wj hg
 |agg ps=>
  simp only[xh] at hg;split at hg
  .cases hg
  .split at hg
   .split at hg
    .rename_i I m1 h1;simp only[ak,aD] at hg;obtain⟨_,rfl⟩:=hg;exact Hd ps _ _ _ _ h1
    .cases hg
   .cases hg
 |ptr i q=>
  simp only[xh] at hg;split at hg
  .rename_i h1;simp only[ak,aD] at hg;obtain⟨_,rfl⟩:=hg;exact yO _ _ _ _ _ h1
  .cases hg
 |csl i q z=>
  simp only[xh] at hg;split at hg
  .rename_i h1;simp only[ak,aD] at hg;obtain⟨_,rfl⟩:=hg;exact yO _ _ _ _ _ h1
  .cases hg
 |clo q i z=>
  simp only[xh] at hg;split at hg
  .rename_i h1;simp only[ak,aD] at hg;obtain⟨_,rfl⟩:=hg;exact yO _ _ _ _ _ h1
  .cases hg
 |row i=>
  simp only[xh] at hg;split at hg
  .rename_i h1;simp only[ak,aD] at hg;obtain⟨_,rfl⟩:=hg;exact yO _ _ _ _ _ h1
  .cases hg
 |mp i=>
  simp only[xh] at hg;split at hg
  .rename_i h1;simp only[ak,aD] at hg;obtain⟨_,rfl⟩:=hg;exact yO _ _ _ _ _ h1
  .cases hg
 |nil=>
  simp only[xh] at hg;split at hg
  .rename_i h1;simp only[ak,aD] at hg;obtain⟨_,rfl⟩:=hg;exact yO _ _ _ _ _ h1
  .cases hg
 |emp=>
  simp only[xh] at hg;split at hg
  .rename_i h1;simp only[ak,aD] at hg;obtain⟨_,rfl⟩:=hg;exact yO _ _ _ _ _ h1
  .cases hg
theorem Hc {g:Nat->Nat} {h:bh}:∀ (ps:List PV) (vs:List TV) (x:(PV.tyL ps).den) (m:Nat),xI g h ps vs=af (x,m)->dQ h m
 |[],[],x,m,hg=>by simp only[xI,ak,aD] at hg;obtain⟨_,rfl⟩:=hg;exact dQ.zero h
 |[],_::_,x,m,hg=>by simp[xI] at hg
 |_::_,[],x,m,hg=>by simp[xI] at hg
 |p::ps,v::vs,x,m,hg=>by
  simp only[xI] at hg;split at hg
  .rename_i J m1 h1;split at hg
   .rename_i I m2 h2;simp only[ak,aD] at hg;obtain⟨_,rfl⟩:=hg;exact (agl h1).or (Hc ps vs I m2 h2)
   .cases hg
  .cases hg
theorem agm {g:Nat->Nat} {h:bh} {i:Nat} {b:PB} {x:b.ty.den} {m:Nat} (hg:Ej g h i b=af (x,m)):dQ h m:=by
 cases b with
 |rows ty p T=>
  simp only[Ej] at hg;split at hg
  .split at hg
   .split at hg
    .simp only[ak,aD] at hg;obtain⟨_,rfl⟩:=hg;exact dQ.zero h
    .cases hg
   .cases hg
  .cases hg
 |rowsP ty T=>
  simp only[Ej] at hg;split at hg
  .split at hg
   .split at hg
    .simp only[ak,aD] at hg;obtain⟨_,rfl⟩:=hg;exact dQ.zero h
    .cases hg
   .cases hg
  .cases hg
 |cells ty ps=>
  simp only[Ej] at hg;split at hg
  .split at hg
   .split at hg
    .rename_i h1;simp only[ak,aD] at hg;obtain⟨_,rfl⟩:=hg;exact Hd ps _ _ _ _ h1
    .cases hg
   .cases hg
  .cases hg
 |mp K V=>
  simp only[Ej] at hg;split at hg
  .split at hg
   .simp only[ak,aD] at hg;obtain⟨_,rfl⟩:=hg;exact dQ.zero h
   .cases hg
  .cases hg
 |gone=>simp only[Ej,ak,aD] at hg;obtain⟨_,rfl⟩:=hg;exact dQ.zero h
theorem He {g:Nat->Nat} {h:bh}:∀ (bs:List PB) (i:Nat) (x:(PB.tyL bs).den) (m:Nat),Ar g h i bs=af (x,m)->dQ h m
 |[],i,x,m,hg=>by simp only[Ar,ak,aD] at hg;obtain⟨_,rfl⟩:=hg;exact dQ.zero h
 |b::r,i,x,m,hg=>by
  simp only[Ar] at hg;split at hg
  .rename_i J m1 h1;split at hg
   .rename_i I m2 h2;simp only[ak,aD] at hg;obtain⟨_,rfl⟩:=hg;exact (agm h1).or (He r (i+1) I m2 h2)
   .cases hg
  .cases hg
structure qE (t:Tm) (x:t.ty.den) (vs:List TV) (h1:bh) (l1:List (Option ip)):Prop where
 pv:pQ Ha t.vs (NR _ _ x)=af vs
 pb:oo Ha t.bs (Kv _ _ x)=af l1
 len:l1.length=t.bs.length
 at_:∀ i b,h1.get i=af b↔l1[i]? =af (af b)
 ok:kM h1 vs=ai
 lt:rn t.bs.length vs=ai
 cells:∀ i ty l,h1.get i=af (.cells ty l)->kM h1 l=ai/\rn t.bs.length l=ai
theorem Zk (l:List (Option ip)) (i:Nat) (b:ip):(Ad Ha 0 l PT.leaf).get i=af b↔l[i]? =af (af b):=by
 by_cases hi:i<l.length
 .obtain⟨c,hc⟩:∃ c,l[i]? =af c:=⟨l[i],aA hi⟩
  have:=uO Ha l 0 PT.leaf (λa b _ _ e=>by simp only[Ha] at e;omega) i c hc;rw[show Ha (0+i)=i from by simp only[Ha];omega] at this;rw[this,hc];cases c with
  |some b'=>simp
  |none=>simp[PT.get]
 .rw[uN Ha l 0 PT.leaf i (λk hk=>by simp only[Ha];omega),bQ (by omega)];simp[PT.get]
theorem vY {t:Tm} {x:t.ty.den} {vs:List TV} {h1:bh} (hi:Cx t x=af (vs,h1)):∃ l1,qE t x vs h1 l1:=by
 unfold Cx at hi;split at hi
 .rename_i us hus;split at hi
  .rename_i h hh;split at hi
   .rename_i hc;simp only[av] at hc;simp only[ak,aD] at hi;obtain⟨rfl,rfl⟩:=hi;unfold LX at hh;split at hh
    .rename_i l1 I;simp only[ak] at hh;refine ⟨l1,hus,I,Ch _ _ _ _ I,λi b=>?_,hc.1.1,hc.1.2,λi ty l hil=>?_⟩
     .rw[<- hh];exact Zk l1 i b
     .have:=PT.get_all _ h 1 0 i _ hc.2 hil;simpa only[av] using this
    .cases hh
   .cases hi
  .cases hi
 .cases hi
def Vq (nb:Nat) (n:Nat):Bool:=n%2==0&&gf (n/2) nb
theorem Be {nb i:Nat}:Vq nb (nm i)=ai↔i<nb:=by
 unfold Vq nm;rw[show 2*i%2=0 from by omega,show 2*i/2=i from by omega];simp only[cU,pu];exact⟨λh=>a_ h,λh=>bC h⟩
theorem Y4 {nb n:Nat} (h:Vq nb n=ai):∃ i,i<nb/\n=nm i:=by
 unfold Vq at h;simp only[av,cV] at h;exact⟨n/2,a_ h.2,by unfold nm;omega⟩
mutual
theorem agi {nb:Nat} {h:bh}:∀ (v:TV) (y:AV),KF nb v=ai->co h v=af y->y.all (Vq nb)=ai
 |.f _ _,y,_,he=>by simp only[co,ak] at he;subst he;rfl
 |.fel _ _ _ _ _,y,_,he=>by simp only[co,ak] at he;subst he;rfl
 |.pel id _ _ _,y,hl,he=>by simp only[co,ak] at he;subst he;exact Be.2 (a_ hl)
 |.ptr id _,y,hl,he=>by simp only[co,ak] at he;subst he;exact Be.2 (a_ hl)
 |.csl id _ _,y,hl,he=>by simp only[co,ak] at he;subst he;exact Be.2 (a_ hl)
 |.row id,y,hl,he=>by
  simp only[co] at he;split at he
  .simp only[ak] at he;subst he;unfold fk;split
   .rfl
   .exact Be.2 (a_ hl)
  .cases he
 |.rtl id jj,y,hl,he=>by
  simp only[co] at he;split at he
  .simp only[ak] at he;subst he;exact Be.2 (a_ hl)
  .cases he
 |.emp,y,_,he=>by simp only[co,ak] at he;subst he;rfl
 |.nil,y,_,he=>by simp only[co,ak] at he;subst he;rfl
 |.mp id,y,hl,he=>by simp only[co,ak] at he;subst he;exact Be.2 (a_ hl)
 |.agg l,y,hl,he=>by
  simp only[co] at he;split at he
  .rename_i l' hl';simp only[ak] at he;subst he;exact s7 l l' hl hl'
  .cases he
 |.tup l,y,hl,he=>by
  simp only[co] at he;split at he
  .rename_i l' hl';simp only[ak] at he;subst he;exact s7 l l' hl hl'
  .cases he
 |.clo q l,y,hl,he=>by
  simp only[co] at he;split at he
  .rename_i l' hl';simp only[ak] at he;subst he;exact s7 l l' hl hl'
  .cases he
 |.undef,y,_,he=>by simp only[co,ak] at he;subst he;rfl
 |.np,y,_,he=>by simp only[co,ak] at he;subst he;rfl
 |.anyb,y,_,he=>by simp only[co,ak] at he;subst he;rfl
theorem s7 {nb:Nat} {h:bh}:∀ (l:List TV) (l':List AV),rn nb l=ai->cK h l=af l'->AV.allL (Vq nb) l'=ai
 |[],l',_,he=>by simp only[cK,ak] at he;subst he;rfl
 |x::r,l',hl,he=>by
  obtain⟨y,l2,rfl,e1,e2⟩:=cY he;simp only[rn,av] at hl;simp only[AV.allL,av];exact⟨agi x y hl.1 e1,s7 r l2 hl.2 e2⟩
end
theorem qE.blk_all {t:Tm} {x:t.ty.den} {vs:List TV} {h1:bh} {l1:List (Option ip)} (I:qE t x vs h1 l1) {i:Nat} {b:ip} (hb:h1.get i=af b) {y:wK} (J:kw h1 b=af y):y.c.all (Vq t.bs.length)=ai:=by
 cases b with
 |rows ty p T xs=>
  simp only[kw] at J;split at J
  .cases J
  .simp only[ak] at J;subst J;rfl
 |cells ty l=>
  simp only[kw] at J;split at J
  .rename_i M hl;simp only[ak] at J;subst J;exact s7 l M (I.cells i ty l hb).2 hl
  .cases J
 |dead p sz n=>cases J
 |mp K V es=>
  simp only[kw,ak] at J;subst J;show BC.all _ (Zg K V es)=ai;unfold Zg;split
  .rfl
  .simp only[BC.all,zF];have key:∀ l:List (K.den×V.den),AV.allL (Vq t.bs.length) (l.map ((λx=>x.2)∘λp=>(pD K p.1,AV.f (gE V p.2))))=ai:=λl=>by
    induction l with
    |nil=>rfl
    |cons e r U=>simp only[gh,AV.allL,av];exact⟨rfl,U⟩
   exact key es
theorem qE.lt_len {t:Tm} {x:t.ty.den} {vs:List TV} {h1:bh} {l1:List (Option ip)} (I:qE t x vs h1 l1) {i:Nat} {b:ip} (hb:h1.get i=af b):i<t.bs.length:=by
 rw[<- I.len];exact (bk.1 ((I.at_ i b).1 hb)).1
def φ1 (nb:Nat) (g:Nat->Nat) (φ:PM):PM:=λn=>if Vq nb n then φ (Hf g n) else ah
theorem YB {nb:Nat} {g:Nat->Nat} {φ:PM} {i:Nat} (hi:i<nb):φ1 nb g φ (nm i)=φ (nm (g i)):=by
 unfold φ1;rw[aE (Be.2 hi),xj]
theorem wM {nb:Nat} {g:Nat->Nat} {φ:PM} {n k:Nat} (h:φ1 nb g φ n=af k):∃ i,i<nb/\n=nm i/\φ (nm (g i))=af k:=by
 unfold φ1 at h;split at h
 .rename_i hp;obtain⟨i,hi,rfl⟩:=Y4 hp;rw[xj] at h;exact⟨i,hi,rfl,h⟩
 .cases h
structure adx (t:Tm) (x:t.ty.den) (vs:List TV) (h1:bh) (g:Nat->Nat) (φ:PM) (E E':Nat->Prop) (Hv:HF) (w:World):Prop where
 rep:qP (φ1 t.bs.length g φ) E' (bA h1) w
 val:∀ x v,x.all (Vq t.bs.length)=ai->cL φ (tot E φ Hv) w (x.ren (Hf g)) v->cL (φ1 t.bs.length g φ) (tot E' (φ1 t.bs.length g φ) (bA h1)) w x v
 own_:∀ k,own (φ1 t.bs.length g φ) (bA h1) k->own φ Hv k
 tot_:∀ k,tot E' (φ1 t.bs.length g φ) (bA h1) k->tot E φ Hv k
theorem qP.toId {t:Tm} {x:t.ty.den} {vs:List TV} {h1:bh} {l1:List (Option ip)} (I:qE t x vs h1 l1) {g:Nat->Nat} (inj:∀ a b,a<t.bs.length->b<t.bs.length->g a=g b->a=b) {φ:PM} {E E':Nat->Prop} {Hv:HF} {w:World} (r:qP φ E Hv w)
 (hat:∀ i b y,h1.get i=af b->kw h1 b=af y->Hv (nm (g i))=af (y.ren (Hf g)))
 (hE:∀ k,E' k->tot E φ Hv k) (hne:∀ i k b,i<t.bs.length->Hv (nm (g i))=af b->φ (nm (g i))=af k->¬E' k) (hel:∀ k,E' k->k<w.heap.size):adx t x vs h1 g φ E E' Hv w:=by
 have own1:∀ k,own (φ1 t.bs.length g φ) (bA h1) k->own φ Hv k:=by
  rintro k ⟨n,y,h2,h3⟩;obtain⟨i,hi,rfl,Y⟩:=wM h3;obtain⟨j,b,e,U,J⟩:=jw h2;have:=kN e;subst this;exact⟨nm (g i),_,hat i b y U J,Y⟩
 have tot1:∀ k,tot E' (φ1 t.bs.length g φ) (bA h1) k->tot E φ Hv k:=λk hk=>hk.elim (hE k) λh=>.inr (own1 k h)
 have val:∀ x v,x.all (Vq t.bs.length)=ai->cL φ (tot E φ Hv) w (x.ren (Hf g)) v->cL (φ1 t.bs.length g φ) (tot E' (φ1 t.bs.length g φ) (bA h1)) w x v:=λx v hx hr=>by
  have h2:cL (φ1 t.bs.length g φ) (tot E φ Hv) w x v:=cL.renFrom (λi k hp hk=>by unfold φ1;rw[aE hp];exact hk) hr x hx rfl;exact h2.ext (λ_ _ h=>h) (Ki.refl _ w) λk _ hk=>tot1 k hk
 refine ⟨⟨λn n' b b' k Z g2 g3 g4=>?_,λn y Z=>?_,hel,λg' cells hg=>(r.gl g' cells hg).ext (Ki.refl _ w) λk _ hk=>tot1 k hk⟩,val,own1,tot1⟩
 .obtain⟨i,hi,rfl,Y⟩:=wM g3;obtain⟨j,hj,rfl,U⟩:=wM g4;obtain⟨i',c,e,J,M⟩:=jw Z;have:=kN e;subst this;obtain⟨j',c',e,h8,h9⟩:=jw g2;have:=kN e;subst this;have:=r.inj _ _ _ _ k (hat i c _ J M) (hat j c' _ h8 h9) Y U;rw[inj i j hi hj (kN this)]
 .obtain⟨i,c,rfl,J,M⟩:=jw Z;have hi:=I.lt_len J;obtain⟨k,p1,p2,ob,p3,p4⟩:=r.at_ _ _ (hat i c y J M);exact⟨k,by rw[YB hi];exact p1,hne i k _ hi (hat i c y J M) p1,ob,p3,js.renFrom val (I.blk_all J M) p4⟩
theorem BM.view {g:Nat->Nat} {h hv:bh} {H H':HF} {m:Nat} (d:vb H H') (Y:DG h H H' m) (hr:xy hv h) {b0 c:ip} (hb:BM g h m b0 c) {y I:wK} (e0:kw h b0=af y) (e1:kw hv c=af I):jX H H' y I:=by
 cases hb with
 |rows ty p T xs=>
  simp only[kw] at e0 e1;rw[e0] at e1;cases e1;exact jX.refl d y
 |mp K V es=>
  simp only[kw] at e0 e1;rw[e0] at e1;cases e1;exact jX.refl d y
 |cells ty ps x l l2 m' hg hp hm=>
  simp only[kw] at e0 e1;split at e0
  .rename_i U hl;simp only[ak] at e0;subst e0;split at e1
   .rename_i cs' hc;simp only[ak] at e1;subst e1;obtain⟨l1,Z,M,J,q3⟩:=CK d hr ps l x m' [] l2 U cs' hg hp hl hc λi hi=>Y i (hm i hi)
    simp only[cK,ak] at J;subst J;rw[jT] at M;subst M;exact jX.cells rfl rfl q3 (lI (rU hc (wS ps x l2 hp)))
   .cases e1
  .cases e0
theorem BM.erB_some {g:Nat->Nat} {h hv:bh} {nx m:Nat} (hinv:l9 h nx) {i:Nat} {b0 c:ip} (h0:h.get i=af b0) (hb:BM g h m b0 c) {I:wK} (e1:kw hv c=af I):∃ y,kw h b0=af y:=by
 cases hb with
 |rows ty p T xs=>exact⟨I,e1⟩
 |mp K V es=>exact⟨I,e1⟩
 |cells ty ps x l l2 m' hg hp hm=>
  obtain⟨J,hl⟩:=fh h l (hinv.cells i ty l h0);exact⟨_,by simp only[kw,hl];rfl⟩
theorem BM.row {g:Nat->Nat} {h:bh} {m:Nat} {b0 c:ip} (hb:BM g h m b0 c):mA c=mA b0:=by
 cases hb<;>rfl
end
end Go.Proofs.YthehadcddfilhaaGreatDoor.AI
