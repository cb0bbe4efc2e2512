/-
  Texts of the proof, part 4 of 5: what is used to prove the statement. No condition.
-/
import Derived.Test.YtiaemgcbndhkfaaGreatDoorHBRefusesQ2
import Derived.Defers
namespace Go.Proofs.YtiaemgcbndhkfaaGreatDoor.AI
open Go.RowKit
set_option maxRecDepth 100000
set_option maxHeartbeats 4000000
set_option linter.unusedVariables false
set_option linter.unusedSimpArgs false
open Act renaming put→MF
open _root_.Array renaming length_toList→im,range→xA
open _root_.Bool renaming true→M,false→aa,and_false→tZ,eq_iff_iff→Eo
open Builtin renaming zeroCells→lB,firstCells→wX,append_→Em
open Call renaming operands→dO
open Instr renaming findNow→eD,sliceBounds→gz,sliceBound→gY,sliceAt→kH,slice→oJ,findKey→r_,sameBits→J3
open _root_.Int renaming toNat→aP,ofNat→aT
open _root_.Int.ofNat renaming inj→r9
open IntKind renaming wrap→oI
open _root_.List renaming length→ah,replicate→aA,length_cons→ca,take→dh,toArray→eQ,range→fd,cons_append→gX,length_nil→jW,getElem?_cons_zero→lA,nil_append→n7,replicate_succ→pJ,take_succ_cons→uU,flatMap_append→FA,mem_or_eq_of_mem_set→Lm
open _root_.Nat renaming beq→ax,testBit→aO,add_zero→db,ble→dN,blt→eP,min→iM
open Oper renaming wp→Gy
open _root_.Option renaming some→Z,none→U,bind_some→aD,map_some→bU,map→lQ
open Region renaming wanted→iH
open Result renaming andThen_ok→cF
open Sem renaming run_bind→ey,run→j_,run_pure→oE
open Utf8 renaming decode→xy
open Value.bool renaming injEq→Bh
open World renaming shape?→ri,cell?→MC
noncomputable section
section
variable {P:Program} {o:Oper} {e:yO} {h:nR} {nx:Nat} {R:zN}
theorem rY {t el:TypeId} (h:zV P t=Z el):P.underlying t=Z (.slice el):=by
 unfold zV at h;split at h
 .rename_i e hu;simp only[af]at h;subst h;exact hu
 .cases h
theorem mH (z:ξ):∀n,(repl z n).length=n*z.length
 |0=>by simp[repl]
 |n+1=>by simp[repl,mH z n,iL];omega
theorem Bx (z:ξ):∀(n j:Nat),j<n*z.length->(repl z n)[j]? =(z[j%z.length]?).map .raw
 |0,j,h=>by simp at h
 |n+1,j,h=>by
  have d:0<z.length:=by
   rcases rj z.length with h0|h0
   .rw[h0]at h;simp at h
   .exact h0
  rw[repl];rcases bM j z.length with hj|hj
  .rw[bT (by simpa using hj),bf,Nat.mod_eq_of_lt hj]
  .rw[b8 (by simpa using hj),co,Bx z n (j-z.length) (by rw[iL]at h;omega),Nat.mod_eq_sub_mod hj]
theorem VF {v:Value} {z:ξ} (hv:v.cells.toList=z) (n sz:Nat) (hl:z.length=sz) (hsz:sz≠0) (j:Nat) (hj:j<n*sz):
 ((xA (n*sz)).map (λi=>v.cells[i%v.cells.size]!))[j]? =z[j%sz]? :=by
 have hs:v.cells.size=sz:=by rw[<- hl,<-hv];simp
 have hlt:j%sz<v.cells.size:=by rw[hs];exact Nat.mod_lt _ (by omega)
 rw[Array.getElem?_map,Array.getElem?_range];simp only[hj,bE,bU,hs];rw[<- hv,cj,getElem!_pos v.cells _ hlt,hZ hlt]
theorem Cs.repl {φ:PM} {O:Nat->Prop} {w:World} {v:Value} {z:ξ} (hv:v.cells.toList=z) (n sz:Nat) (hl:z.length=sz) (hsz:sz≠0) (hc:mC z=M):
 Cs φ O w ((repl z n).map .f) ((xA (n*sz)).map (λi=>v.cells[i%v.cells.size]!)).toList:=by
 have key:∀(j:Nat) (x:AV),((AI.repl z n).map AV.f)[j]? =Z x->∃u,z[j%sz]? =Z u/\x=raw u/\j<n*sz:=by
  intro j x d;rw[bf]at d;have hj:j<n*z.length:=by
   rcases bM j (n*z.length) with h|h
   .exact h
   .rw[bJ (by rw[mH];exact h)]at d;cases d
  rw[Bx z n j hj,hl]at d;cases hu:z[j%sz]? with
  |none=>rw[hu]at d;cases d
  |some u=>rw[hu]at d;simp at d;exact⟨u,rfl,d.symm,by rw[<- hl];exact hj⟩
 refine ⟨by simp[mH,hl],λx d=>?_,λj x u d hu=>?_⟩
 .obtain⟨j,hj⟩:=eR d;obtain⟨u,h1,rfl,_⟩:=key j x hj;exact gj.1 hc u (bg h1)
 .obtain⟨q,h1,rfl,hj⟩:=key j x d;rw[cj,VF hv n sz hl hsz j hj,h1]at hu;cases hu;exact .f (.raw _)
theorem aio {t el:TypeId} {n sz:Nat} {ps:Array (Nat×Operand)} {z:ξ} {ps':Y (Nat×Nat×Operand)} (A:o.op= .buildSlice t n ps) (hu:P.underlying t=Z (.slice el)) (F:sv P el=Z z) (hs:eY P el=Z sz) (hc:mC z=M) (hl:z.length=sz) (hsz:sz≠0) (hb:n*sz<=65536)
 (hps:v8 P t ps.toList=Z ps') (d:ef (.bsl el sz n z ps') e h nx=Z R):gy P o e.get h.get R.eff:=by
 simp only[ef]at d;split at d
 .rename_i cs hf;simp only[af]at d;subst d;refine gy.makes λφ E h' w a _ hp _=>?_
  obtain⟨v,h1,h2,_⟩:=sV F w;obtain⟨L,I⟩:=De ps.toList ps' hps;have hops:∀p∈ps.toList,p.2∈o.op.operands:=λp hp=>by
   rw[A];simp only[Op.operands,List.mem_toArray,cX];exact⟨p,hp,rfl⟩
  have hmap:(ps.map λx:Nat×Operand=>(x.1,a.eval x.2)).toList=ps.toList.map λp=>(p.1,a.eval p.2):=by simp
  obtain⟨vs',k1,k2⟩:=Np (place:=λi=>Z (i*sz,sz)) hp ps.toList ps' _ cs _ L (λj i x hj=>by
   obtain⟨of,s',q1,q2⟩:=I j i x hj;unfold Ax at q2;rw[hu]at q2;simp[hs]at q2;obtain⟨rfl,rfl⟩:=q2;exact⟨_,_,q1,rfl⟩) hops (Cs.repl h2 n sz hl hsz hc) hf
  have hcells:(xA (n*sz)).map ((if n*sz=0 then #[] else v.cells)[·%(if n*sz=0 then #[] else v.cells).size]!)=((xA (n*sz)).map (λi=>v.cells[i%v.cells.size]!)).toList.toArray:=by
   by_cases h0:n*sz=0
   .simp[h0]
   .rw[Array.toArray_toList];simp only[aL h0]
  have hlen:vs'.length=n*sz:=by
   have e1:=k2.1;have e2:cs.length=((AI.repl z n).map AV.f).length:=by
    have:∀(ps':Y (Nat×Nat×Operand)) (s q:Y AV),yn s e ps'=Z q->q.length=s.length:=by
     intro ps';induction ps' with
     |nil=>intro s q h;simp only[yn,af]at h;rw[h]
     |cons p ps' D=>
      intro s q h;obtain⟨of,s',x⟩:=p;simp only[yn]at h;split at h
      .split at h
       .rename_i hcc;simp only[ak,cO]at hcc;rw[D _ _ h,oc (by rw[hcc.1.1];exact a9 hcc.1.2)]
       .cases h
      .cases h
    exact this ps' _ _ hf
   rw[e1,e2];simp[mH,hl]
  refine ⟨.slice (Z ⟨w.heap.size,0,U⟩) n n,{w with heap:=w.heap.push (.cells vs'.toArray el)},.cells vs'.toArray el (0,0),?_,qJ w _,Hu k2,λφ' O hφ=>?_⟩
  .have h3:=fQ hs w;have hk:Instr.fill (λi=>Z (i*sz,sz)) ((xA (n*sz)).map ((if n*sz=0 then #[] else v.cells)[·%(if n*sz=0 then #[] else v.cells).size]!)) (ps.map λx:Nat×Operand=>(x.1,a.eval x.2)).toList=Z vs'.toArray:=by
    rw[hcells,hmap];exact k1
   unfold execOp;rw[A];simp only[Instr.buildSlice,ey,run_underlying hu,cF,h3];rw[aL (by omega)];by_cases h0:n*sz=0
   .simp only[aU h0]at hk ⊢;simp only[ey,oE,cF,hk,newRow,newObj,j_]
   .simp only[aL h0]at hk ⊢;simp only[ey,oE,cF,h1,hk,newRow,newObj,j_]
  .simp only[];split
   .rename_i h0;subst h0;exact .emp
   refine .row hφ (cB _) ?_ ⟨el,?_⟩
   .have:n<=n*sz:=Nat.le_mul_of_pos_right _ (by omega);unfold maxLen;omega
   .unfold ri;simp[hlen]
 .cases d
end
theorem qG.wren {φ:PM} {E:Nat->Prop} {h:HF} {w w':World} (r:qG φ E h w) {id nx k:Nat} {b b':uT} {ob:Obj} (hb:h id=Z b) (hk:φ id=Z k) (hnx:φ nx=U) (z:Ed w w' k ob) (hob:iS φ (tot E φ h) w b' ob) (nw:HF) (hnw:nw nx=Z b') (hnid:nw id=U):
 ∃φ',φ' nx=Z k/\iT φ φ' h (eE h [nx,id] nw) w w'/\(∀i k,φ' i=Z k->φ i=Z k\/i∈[nx])/\qG φ' E (eE h [nx,id] nw) w':=by
 have hne:nx≠id:=λe=>by rw[e,hk]at hnx;cases hnx
 have hsub:∀i x,eE h [nx,id] nw i=Z x->i≠nx->h i=Z x/\i≠id:=λi x A hi=>by
  unfold eE at A;by_cases hd:i=id
  .subst hd;simp[hnid]at A
  .simp[hi,hd]at A;exact⟨A,hd⟩
 have hφ:∀i,i≠nx->(if i=nx then Z k else φ i)=φ i:=λi hi=>by simp[hi]
 have m:iT φ (λi=>if i=nx then Z k else φ i) h (eE h [nx,id] nw) w w':=by
  refine ⟨λi k' s=>?_,⟨z.os,z.tape,z.output,by rw[z.size];exact cB _,λj hj F=>?_,λj _=>z.shp j⟩,?_⟩
  .have:i≠nx:=λe=>by rw[e,hnx]at s;cases s
   rw[hφ i this];exact s
  .exact z.other j (λe=>F (e▸⟨id,b,hb,hk⟩))
  .rintro j hj ⟨i,x,h1,h2⟩;by_cases hi:i=nx
   .simp[hi]at h2;subst h2;exact⟨id,b,hb,hk⟩
   .have h3:φ i=Z j:=by simpa[hi] using h2
    exact⟨i,x,(hsub i x h1 hi).1,h3⟩
 refine ⟨_,by simp,m,λi k' s=>?_,⟨λi j x y D hi hj h1 h2=>?_,λi x hi=>?_,λk hk=>dx (r.el k hk) m.ext.size,λg cells hg=>m.keepF (r.gl g cells hg)⟩⟩
 .by_cases hi:i=nx
  .right;simp[hi]
  .left;rw[hφ i hi]at s;exact s
 .by_cases d:i=nx
  .by_cases q:j=nx
   .rw[d,q]
   .exfalso;rw[hφ j q]at h2;simp[d]at h1;subst h1;obtain⟨q1,q2⟩:=hsub j y hj q;exact q2 (r.inj j id y b k q1 hb h2 hk)
  .rw[hφ i d]at h1;obtain⟨p1,p2⟩:=hsub i x hi d;by_cases q:j=nx
   .exfalso;simp[q]at h2;subst h2;exact p2 (r.inj i id x b k p1 hb h1 hk)
   .rw[hφ j q]at h2;exact r.inj i j x y D p1 (hsub j y hj q).1 h1 h2
 .by_cases d:i=nx
  .subst d;have:x=b':=by unfold eE at hi;simp[hnw]at hi;exact hi.symm
   subst this;obtain⟨k',h1,h2,_⟩:=r.at_ id b hb;rw[hk]at h1;cases h1;exact⟨k,by simp,h2,ob,z.at_,hob.mono λ_ _ h=>m.keep h⟩
  .obtain⟨p1,p2⟩:=hsub i x hi d;obtain⟨k',h1,h2,ob',h3,h4⟩:=r.at_ i x p1;have hne':k'≠k:=λe=>p2 (r.inj i id x b k p1 hb (e▸h1) hk)
   exact⟨k',by rw[hφ i d];exact h1,h2,ob',by rw[z.other k' hne'];exact h3,h4.mono λ_ _ h=>m.keep h⟩
theorem qG.cs {φ:PM} {E:Nat->Prop} {h':HF} {w:World} (hrep:qG φ E h' w) {id k:Nat} {b:uT} (hb:h' id=Z b) (hk:φ id=Z k) (hc:b.c.isCells=M):
 ∃arr,w.heap[k]? =Z (.cells arr b.ty (0,0))/\Cs φ (tot E φ h') w b.c.toMx (arr.toList.take b.c.toMx.length)/\b.c.toMx.length<=arr.size:=by
 obtain⟨k',h1,_,h2⟩:=hrep.at_ id b hb;rw[hk]at h1;cases h1;obtain⟨arr,h3,h4,q⟩:=h2.cells hc;rw[BC.len_toMx hc]at h4;refine ⟨arr,h3,⟨by simp;omega,λx d=>?_,λj x v d hv=>?_⟩,h4⟩
 .obtain⟨j,hj⟩:=eR d;exact (q j x (by rw[BC.get_toMx hc];exact hj)).1
 .obtain⟨_,u,z,s⟩:=q j x (by rw[BC.get_toMx hc];exact d);rw[cu]at hv;split at hv
  .rw[cj,z]at hv;cases hv;exact s
  .cases hv
section
variable {P:Program} {o:Oper} {e:yO} {h:nR} {nx:Nat} {R:zN}
theorem Mo {t:TypeId} {b:Nat} (hb:D_ P t=Z b):∃i,P.info? t=Z i/\i.bytes=b:=by
 unfold D_ at hb;cases hi:P.info? t with
 |none=>rw[hi]at hb;cases hb
 |some i=>rw[hi]at hb;simp at hb;exact⟨i,rfl,hb⟩
theorem Bw {n b:Nat} (h:be n b=M):n<=1099511627776/\n*b<=1099511627776:=by
 simp only[be,ak]at h;exact⟨a9 h.1,a9 h.2⟩
theorem XU {n:Int} (h1: -9223372036854775808<=n) (h2:n<=9223372036854775807):oI .i64 n=n:=by
 rw[<- xI];have:(cL (-9223372036854775808) n&&cL n 9223372036854775807)=M:=by simp[cL,h1,h2]
 simp only[GC,Ln,this,bE]
theorem afi {t el:TypeId} {sz bytes:Nat} {z:ξ} {l c:Operand} (I:o.op= .makeSlice t l c) (hu:P.underlying t=Z (.slice el)) (hz:sv P el=Z z) (hs:eY P el=Z sz) (hb:D_ P el=Z bytes) (hc:mC z=M) (hl:z.length=sz) (hsz:sz≠0)
 (q:ef (.mksl el sz bytes z l c) e h nx=Z R):gy P o e.get h.get R.eff:=by
 simp only[ef]at q;split at q
 .rename_i k1 n k2 m d hy;split at q
  .rename_i hcd;simp only[cL,ak,bz]at hcd;obtain⟨⟨h0,h1⟩,h2⟩:=hcd;obtain⟨r1,r2⟩:=Bw h2;simp only[af]at q;subst q;refine gy.makes λφ E h' w a _ hp _=>?_
   have e1:=eH (hp l _ (by rw[I];simp[Op.operands]) d);have e2:=eH (hp c _ (by rw[I];simp[Op.operands]) hy);obtain⟨v,z1,z2,_⟩:=sV hz w;obtain⟨i,i1,i2⟩:=Mo hb;have s1:=fQ hs w;have w1:oI .i64 n=n:=XU (by omega) (by omega);have w2:oI .i64 m=m:=XU (by omega) (by omega);have hbm:(bytes:Int)*m=((m.toNat*bytes:Nat):Int):=by
    rw[Int.natCast_mul,pL (by omega),Int.mul_comm]
   have t1:¬(m<0\/(281474976710656:Int)<bytes*m):=by rw[hbm];omega
   have hr:¬(m.toNat*bytes>roomBytes):=by unfold roomBytes;omega
   have L:m.toNat*sz=0->m.toNat=0:=λh=>(Nat.mul_eq_zero.1 h).resolve_right hsz
   let cells:Array Value:=(xA (m.toNat*sz)).map (λi=>v.cells[i%v.cells.size]!)
   refine ⟨.slice (Z ⟨w.heap.size,0,U⟩) n.toNat m.toNat,{w with heap:=w.heap.push (.cells cells el)},.cells cells el (0,0),?_,qJ w _,?_,λφ' O hφ=>?_⟩
   .unfold execOp;rw[I];by_cases A:m.toNat*sz=0
    .obtain rfl:m=0:=by have:=L A;omega
     obtain rfl:n=0:=by omega
     simp[Instr.makeSlice,run_underlying hu,e1,e2,asInt,asIntOf,typeInfo,i1,w1,askRoom,s1,newRow,newObj,j_,cells];rw[show xA 0=#[] from rfl];simp
    .simp[Instr.makeSlice,run_underlying hu,e1,e2,asInt,asIntOf,typeInfo,i1,i2,w1,w2,t1,show ¬n<0 by omega,show ¬m<n by omega,askRoom,hr,s1,A,z1,newRow,newObj,j_,cells]
   .have cs:=Cs.repl (φ:=φ) (O:=tot E φ h') (w:=w) z2 m.toNat sz hl hsz hc;have hle:n.toNat<=m.toNat:=by omega
    have hlen:n.toNat*sz<=m.toNat*sz:=cr _ hle;refine pP rfl (by simp[BC.toMx,mH,hl,cells];exact hlen) λj x d=>?_
    simp only[BC.toMx,bf]at d;have hj:j<n.toNat*z.length:=by
     rcases bM j (n.toNat*z.length) with h|h
     .exact h
     .rw[bJ (by rw[mH];exact h)]at d;cases d
    have F:j<m.toNat*z.length:=by rw[hl]at hj ⊢;omega
    rw[Bx z _ j hj,<-Bx z m.toNat j F]at d;have s:((repl z m.toNat).map AV.f)[j]? =Z x:=by rw[bf];exact d
    have D:j<cells.toList.length:=by simp[cells];rw[<- hl];exact F
    exact⟨cs.2.1 x (bg s),cells.toList[j],by rw[<- cj];exact aw D,cs.2.2 j x _ s (aw D)⟩
   .refine .row hφ (by omega) (by unfold maxLen;omega) ⟨el,?_⟩;unfold ri;simp[cells]
  .cases q
 .cases q
theorem aco {t:TypeId} {x y:Operand} {sz:Nat} (D:o.op= .store t x y) (hs:eY P t=Z sz) (d:ef (.store sz x y) e h nx=Z R):gy P o e.get h.get R.eff:=by
 simp only[ef]at d;split at d
 .rename_i p v hx hy;unfold JB at d;split at d
  .rename_i id off;split at d
   .rename_i b hb;split at d
    .rename_i hl;split at d
     .rename_i c' hput;simp only[af]at d;subst d;unfold BC.put at hput;split at hput
      .rename_i hcc;simp only[ak]at hcc;obtain⟨⟨c1,L⟩,c3⟩:=hcc;have L:=a9 L;have hl:v.cs.length=sz:=by simpa using hl
       have s:c'.toMx=splice b.c.toMx off v.cs/\c'.isCells=M:=by
        split at hput
        .rename_i l ys hbl hys;simp only[af]at hput;subst hput;refine ⟨?_,rfl⟩;have hv:=pC hys;rw[hv,hbl];simp only[BC.toMx];unfold splice;simp[pt,List.map_drop]
        .simp only[af]at hput;subst hput;exact⟨rfl,rfl⟩
       refine gy.writes hb λφ E h' w a hrd F hp hrep=>?_
       have hr:=Tg (hp y _ (by rw[D];simp[Op.operands]) hy) c3;have hpx:=hp x _ (by rw[D];simp[Op.operands]) hx;generalize hz:a.eval x=pv at hpx;cases hpx with
       |@ptr _ _ k hφ=>
        obtain⟨arr,g1,g2,g3⟩:=hrep.cs F hφ c1;have hvl:(a.eval y).cells.toList.length=sz:=by rw[hr.1];exact hl
        rw[BC.len_toMx c1]at L;have hst:=run_storeCells_at (P:=P) k off b.ty (a.eval y).cells.toList 0 arr w g1 (by rw[hvl];omega) hr.one
        let arr':Array Value:=(arr.toList.take off++(a.eval y).cells.toList++arr.toList.drop (off+sz)).toArray
        have hsize:arr'.size=arr.size:=by simp only[arr',sG,bY,b_,kC,im,hvl];omega
        refine ⟨.skip,w.setRow k arr',k,.cells arr' b.ty (0,0),?_,hφ,Ed.setRow g1 hsize,?_,undef,.inr ⟨rfl,rfl⟩,.f (.raw _)⟩
        .have s1:=fQ hs w;have hvs:(a.eval y).cells.size=sz:=by simpa using hvl
         simp only[db,hvl]at hst;unfold execOp;rw[D];simp[Instr.storeAt,hz,Instr.sureAddr,storeVar,s1,hvs,hst,arr']
        .refine pP s.2 (by rw[s.1,oc (by omega),hsize];exact g3) λj q hq=>?_
         rw[s.1,mG (by omega)]at hq;have I:arr'[j]? =if j<off then arr.toList[j]? else if j<off+sz then (a.eval y).cells.toList[j-off]? else arr.toList[j]? :=by
          have:=mG (l:=arr.toList) (vs:=(a.eval y).cells.toList) (off:=off) (by have:=hvl;simp only[im]at this ⊢;omega) j;unfold splice at this;rw[hvl]at this;simp only[arr',kq];exact this
         have old:b.c.toMx[j]? =Z q->q.isCell=M/\∃u,arr.toList[j]? =Z u/\cE φ (tot E φ h') w q u:=λhq=>by
          have hj:j<b.c.toMx.length:=(bm.1 hq).1;have A:j<arr.toList.length:=by simp;omega
          refine ⟨g2.2.1 q (bg hq),arr.toList[j],aw A,g2.2.2 j q _ hq ?_⟩;rw[cu,aU hj,aw A]
         rw[I];by_cases h1:j<off
         .rw[aU h1]at hq ⊢;exact old hq
         .rw[aL h1]at hq ⊢;by_cases h2:j<off+sz
          .rw[aU (by omega)]at hq;rw[aU h2];have z:j-off<(a.eval y).cells.toList.length:=by omega
           exact⟨hr.2.1 q (bg hq),_,aw z,hr.2.2 _ q _ hq (aw z)⟩
          .rw[aL (by omega)]at hq;rw[aL h2];exact old hq
      .cases hput
     .cases d
    .cases d
   .cases d
  .cases d
 .cases d
end
section
variable {P:Program} {o:Oper} {e:yO} {h:nR} {nx:Nat} {R:zN}
theorem afc (A:Addr):A.add 0=A:=by cases A;simp[Addr.add]
theorem ai8 {t el:TypeId} {sz:Nat} {x:Operand} {lo hi mx:J Operand} (D:o.op= .slice t x lo hi mx) (hu:P.underlying t=Z (.slice el)) (hs:eY P el=Z sz) (d:ef (.slc sz x lo hi mx) e h nx=Z R):gy P o e.get h.get R.eff:=by
 simp only[ef]at d;split at d
 .rename_i v I;split at d
  ·
   rename_i k k';split at d
   .rename_i hsl;rw[dt d];refine gy.reads λφ E h' w a _ hp _=>?_
    have hr:=hp x _ (by rw[D];simp[Op.operands]) I;have F:∃A n c,a.eval x= .slice A n c:=by
     generalize a.eval x=z at hr;obtain⟨n,hn⟩:=iI.1 hsl;unfold AV.slen at hn;split at hn
     .cases hr with
      |f hr=>cases hr with
       |nil=>exact⟨_,_,_,rfl⟩
       |sl=>exact⟨_,_,_,rfl⟩
     .cases eH hr;exact⟨_,_,_,rfl⟩
     .cases hr;exact⟨_,_,_,rfl⟩
     .cases hr;exact⟨_,_,_,rfl⟩
     .cases hr;exact⟨_,_,_,rfl⟩
     .cases hn
    obtain⟨A,n,c,F⟩:=F;have s1:=fQ hs w;refine ⟨.slice A 0 0,?_,.emp⟩;unfold execOp;rw[D];have z0:∀k,a.eval (.const (.int k 0))= .int k 0:=λ_=>rfl
    simp[kH,oJ,run_underlying hu,F,gz,gY,asIntOf,s1,z0]
   .cases d
  ·
   rename_i b;split at d
   .rename_i id sz' n k j hb;split at d
    .rename_i hc;simp only[cL,ak,bz,cO]at hc;obtain⟨⟨rfl,h0⟩,h1⟩:=hc;split at d
     .rename_i blk hblk;split at d
      .rename_i hcl;simp only[ak]at hcl;obtain⟨hcells,hlen⟩:=hcl;have hlen:=a9 hlen;rw[BC.len_toMx hcells]at hlen;simp only[af]at d;subst d;intro φ E h' w a g1 g2 g3 hrep g5;have hp:RP φ E h' w a e o:=λx y I s=>rG hrep g3 I s
       have hb':h' id=Z blk:=by rw[g1 id (by simp[zN.eff])];exact hblk
       have hr:=hp x _ (by rw[D];simp[Op.operands]) I;have hbv:=eH (hp b _ (by rw[D];simp[Op.operands]) hb);have hnx:φ nx=U:=g5 nx (by simp[zN.eff]);generalize F:a.eval x=z at hr;cases hr with
       |@row _ _ _ c q hφ hn hcap hsh=>
        obtain⟨arr,a1,a2,a3⟩:=hrep.cs hb' hφ hcells;have s1:=fQ hs w;have hne:nx≠id:=λe=>by rw[e,hφ]at hnx;cases hnx
        have hnw1:jd [(nx,⟨blk.ty,ox (blk.c.toMx.take (j.toNat*sz'))⟩)] nx=Z (⟨blk.ty,ox (blk.c.toMx.take (j.toNat*sz'))⟩:uT):=by simp[jd]
        have hnw2:jd [(nx,⟨blk.ty,ox (blk.c.toMx.take (j.toNat*sz'))⟩)] id=U:=by
         simp only[jd];rw[aL];intro hb;exact hne (au hb)
        have a4:=a2.take (j.toNat*sz');obtain⟨φ',p1,p2,p3,p4⟩:=hrep.wren hb' hφ hnx (w':=w) ⟨rfl,rfl,rfl,rfl,a1,λ_ _=>rfl,λ_=>rfl⟩ (b':=⟨blk.ty,ox (blk.c.toMx.take (j.toNat*sz'))⟩) (by
         obtain⟨q1,q2⟩:=nE (blk.c.toMx.take (j.toNat*sz'));refine pP q2 (by rw[q1,b_];omega) λi x I=>?_
         rw[q1]at I;have hi:i<((arr.toList.take blk.c.toMx.length).take (j.toNat*sz')).length:=by rw[a4.1];exact (bm.1 I).1
         refine ⟨a4.2.1 x (bg I),_,?_,a4.2.2 i x _ I (aw hi)⟩;have hi':i<arr.size:=by simp at hi;omega
         simp[hi']) _ hnw1 hnw2
        have hrun:(execOp a.eval o).run P w= .ok (.value (.slice (Z ⟨q,0,U⟩) j.toNat c)) w:=by
         unfold execOp;rw[D];simp[kH,oJ,run_underlying hu,F,gz,gY,asIntOf,s1,hbv,h0,show j<=c by omega,jM]
        unfold Gy;rw[hrun];exact⟨_,φ',rfl,p2,p3,p4,.row p1 (by omega) hcap hsh⟩
      .cases d
     .cases d
    .cases d
   .rename_i cells n k j hb;split at d
    .rename_i hc;simp only[cL,ak,bz]at hc;obtain⟨⟨h0,h1⟩,h2⟩:=hc;have h2:=a9 h2;rw[dt d];refine gy.reads λφ E h' w a _ hp _=>?_
     have hr:=hp x _ (by rw[D];simp[Op.operands]) I;have hbv:=eH (hp b _ (by rw[D];simp[Op.operands]) hb);generalize F:a.eval x=z at hr;have s1:=fQ hs w;cases hr with
     |f hr=>
      cases hr with
      |nil A c hc=>
       have hj:j=0:=by omega
       subst hj;refine ⟨.slice A 0 c,?_,by simpa using cE.f (.nil A c hc)⟩;unfold execOp;rw[D];cases A<;>simp[kH,oJ,run_underlying hu,F,gz,gY,asIntOf,s1,hbv,afc]
      |sl _ _ c q off us hn hc hO hq hcl L hr=>
       refine ⟨.slice (Z ⟨q,off,U⟩) j.toNat c,?_,.f (.sl _ _ _ _ _ us (by omega) hc hO hq (λy s=>hcl y (fB s)) (λi hi=>L i (by rw[b_]at hi;omega)) λi y s=>?_)⟩
       .unfold execOp;rw[D];simp[kH,oJ,run_underlying hu,F,gz,gY,asIntOf,s1,hbv,h0,show j<=c by omega,jM]
       .rw[cu]at s;split at s
        .exact hr i y s
        .cases s
    .cases d
   .cases d
  ·
   rename_i b;split at d
   .rename_i id sz' n k j hb;split at d
    .rename_i hc;simp only[cL,fI,ak,bz,cO]at hc;obtain⟨⟨rfl,h0⟩,h1⟩:=hc;rw[dt d];refine gy.reads λφ E h' w a _ hp _=>?_
     have hr:=hp x _ (by rw[D];simp[Op.operands]) I;have hbv:=eH (hp b _ (by rw[D];simp[Op.operands]) hb);generalize F:a.eval x=z at hr;cases hr with
     |@row _ _ _ c q hφ hn hc hsh=>
      have s1:=fQ hs w;refine ⟨.slice (Z ⟨q,0+j.toNat*sz',U⟩) (n-j.toNat) (c-j.toNat),?_,?_⟩
      .unfold execOp;rw[D];simp[kH,oJ,run_underlying hu,F,gz,gY,asIntOf,s1,hbv,h0,show j<=n by omega,show ¬c=j.toNat by omega,jM]
      .rw[bL];exact .sl hφ (by omega) (by omega)
    .cases d
   .rename_i cells n k j hb;split at d
    .rename_i hc;simp only[cL,ak,bz]at hc;obtain⟨⟨h0,h1⟩,h2⟩:=hc;have h2:=a9 h2;rw[dt d];refine gy.reads λφ E h' w a _ hp _=>?_
     have hr:=hp x _ (by rw[D];simp[Op.operands]) I;have hbv:=eH (hp b _ (by rw[D];simp[Op.operands]) hb);generalize F:a.eval x=z at hr;have s1:=fQ hs w;cases hr with
     |f hr=>
      cases hr with
      |nil A c hc=>
       have hj:j=0:=by omega
       subst hj;have hex:∃A',(execOp a.eval o).run P w= .ok (.value (.slice A' 0 c)) w:=by
        unfold execOp;rw[D];cases A with
        |none=>exact⟨U,by simp[kH,oJ,run_underlying hu,F,gz,gY,asIntOf,s1,hbv]⟩
        |some A=>exact⟨Z A,by simp[kH,oJ,run_underlying hu,F,gz,gY,asIntOf,s1,hbv,afc]⟩
       obtain⟨A',hex⟩:=hex;exact⟨.slice A' 0 c,hex,by simpa using cE.f (.nil A' c hc)⟩
      |sl _ _ c q off us hn hc hO hq hcl L hr=>
       by_cases hcj:c=j.toNat
       .refine ⟨.slice (Z ⟨q,off,U⟩) 0 0,?_,?_⟩
        .unfold execOp;rw[D];simp[kH,oJ,run_underlying hu,F,gz,gY,asIntOf,s1,hbv,h0,show j<=n by omega,hcj,show n-j.toNat=0 by omega,jM]
        .rw[show n-j.toNat=0 by omega];simpa using cE.f (.nil (Z ⟨q,off,U⟩) 0 (by unfold maxLen;omega))
       .refine ⟨.slice (Z ⟨q,off+j.toNat*sz,U⟩) (n-j.toNat) (c-j.toNat),?_,.f (.sl _ _ _ _ _ (λi=>us (j.toNat*sz+i)) (by omega) (by omega) hO hq (λy s=>hcl y (List.mem_of_mem_drop (fB s))) (λi hi=>?_) λi y s=>?_)⟩
        .unfold execOp;rw[D];simp[kH,oJ,run_underlying hu,F,gz,gY,asIntOf,s1,hbv,h0,show j<=n by omega,hcj,jM]
        .rw[vV];refine L _ ?_;rw[b_,kC]at hi;omega
        .rw[cu]at s;split at s
         .rw[gM]at s;exact hr _ y s
         .cases s
    .cases d
   .cases d
  ·
   rename_i b b' _;split at d
   .rename_i cells n k j k' j' hb hb';split at d
    .rename_i hc;simp only[cL,ak,bz]at hc;obtain⟨⟨⟨hjj,h0⟩,h1⟩,h2⟩:=hc;subst hjj;have h2:=a9 h2;rw[dt d];refine gy.reads λφ E h' w a _ hp _=>?_
     have hr:=hp x _ (by rw[D];simp[Op.operands]) I;have hbv:=eH (hp b _ (by rw[D];simp[Op.operands]) hb);have hbv':=eH (hp b' _ (by rw[D];simp[Op.operands]) hb');generalize F:a.eval x=z at hr;have s1:=fQ hs w;cases hr with
     |f hr=>
      cases hr with
      |nil A c hc=>
       have hj:j=0:=by omega
       subst hj;refine ⟨.slice A 0 0,?_,by simpa using cE.ful (mj.nil A 0 (by unfold maxLen;omega))⟩;unfold execOp;rw[D];cases A<;>simp[kH,oJ,run_underlying hu,F,gz,gY,asIntOf,s1,hbv,hbv',afc]
      |sl _ _ c q off us hn hc hO hq hcl L hr=>
       refine ⟨.slice (Z ⟨q,off,U⟩) j.toNat j.toNat,?_,.ful (.sl _ _ _ _ _ us (cB _) (by omega) hO hq (λy s=>hcl y (fB s)) (λi hi=>L i (by rw[b_]at hi;omega)) λi y s=>?_)⟩
       .unfold execOp;rw[D];simp[kH,oJ,run_underlying hu,F,gz,gY,asIntOf,s1,hbv,hbv',h0,show j<=c by omega,jM];intro hlt;omega
       .rw[cu]at s;split at s
        .exact hr i y s
        .cases s
    .cases d
   .cases d
  .cases d
 .cases d
theorem Yc {sz:Nat} {x:AV} {src:Y AV} {m:Nat} {rd:ι} (hrow:x.row? h sz=Z (src,m,rd)) {φ:PM} {E:Nat->Prop} {h':HF} {w:World} (hrd:∀i∈rd,h' i=h.get i) (hrep:qG φ E h' w) {v:Value} (hr:cE φ (tot E φ h') w x v):
 ∃A c vs,v= .slice A m c/\Cs φ (tot E φ h') w src vs/\vs.length=m*sz/\(A=U->vs=[])/\(∀s,A=Z s->∀(j:Nat) u,vs[j]? =Z u->w.cell? (s.add j)=Z u):=by
 have emp:∀A c,v= .slice A 0 c->src=[]->m=0->∃A c vs,v= .slice A m c/\Cs φ (tot E φ h') w src vs/\vs.length=m*sz/\(A=U->vs=[])/\(∀s,A=Z s->∀(j:Nat) u,vs[j]? =Z u->w.cell? (s.add j)=Z u):=by
  rintro A c rfl rfl rfl;exact⟨A,c,[],rfl,⟨rfl,(by intro x d;cases d),(by intro j x v d;simp at d)⟩,by simp,λ_=>rfl,by intro s _ j u hu;simp at hu⟩
 have own:∀(id off n c k:Nat) (b:uT),φ id=Z k->h' id=Z b->b.c.isCells=M->off+n*sz<=b.c.len->v= .slice (Z ⟨k,off,U⟩) n c->src=(b.c.toMx.drop off).take (n*sz)->m=n->
  ∃A c vs,v= .slice A m c/\Cs φ (tot E φ h') w src vs/\vs.length=m*sz/\(A=U->vs=[])/\(∀s,A=Z s->∀(j:Nat) u,vs[j]? =Z u->w.cell? (s.add j)=Z u):=by
  rintro id off n c k b hφ hb hc hle rfl rfl rfl;obtain⟨arr,L,I,g3⟩:=hrep.cs hb hφ hc;rw[BC.len_toMx hc]at hle;refine ⟨_,c,((arr.toList.take b.c.toMx.length).drop off).take (m*sz),rfl,(I.drop off).take _,?_,(λh=>by cases h),?_⟩
  .simp;omega
  .intro s had j u hu;cases had;rw[jM];rw[cu]at hu;split at hu
   .rw[gM,cu]at hu;split at hu
    .rw[cj]at hu;simp[MC,L,hu]
    .cases hu
   .cases hu
 unfold AV.row? at hrow;split at hrow
 .rename_i cells n;split at hrow
  .rename_i hle;have hle:=a9 hle;simp only[af,aC]at hrow;obtain⟨rfl,rfl,rfl⟩:=hrow;cases hr with
   |f hr=>
    cases hr with
    |nil a c hc=>exact emp a c rfl (by simp) rfl
    |sl _ _ c b off us hn hc hO hb hcl hu hr=>
     refine ⟨_,c,(fd (n*sz)).map us,rfl,⟨by simp;omega,λx d=>?_,λj x u d z=>?_⟩,by simp,(λh=>by cases h),?_⟩
     .obtain⟨y,F,rfl⟩:=cX.1 d;exact hcl y (fB F)
     .obtain⟨rfl,hj⟩:=wA us _ _ _ z;rw[bf,cu,aU hj]at d;cases hq:cells[j]? with
      |none=>rw[hq]at d;cases d
      |some q=>rw[hq]at d;simp at d;subst d;exact .f (hr j q hq)
     .intro s had j u z;cases had;obtain⟨rfl,hj⟩:=wA us _ _ _ z;rw[jM];exact hu j (by omega)
  .cases hrow
 .simp only[af,aC]at hrow;obtain⟨rfl,rfl,rfl⟩:=hrow;exact emp U 0 (eH hr) rfl rfl
 .simp only[af,aC]at hrow;obtain⟨rfl,rfl,rfl⟩:=hrow;cases hr with
  |@emp a=>exact emp a 0 rfl rfl rfl
 .rename_i id sz' n;split at hrow
  .rename_i hsz;split at hrow
   .rename_i b hb;split at hrow
    .rename_i hc;simp only[ak]at hc;simp only[af,aC]at hrow;obtain⟨rfl,rfl,rfl⟩:=hrow;cases hr with
     |@row _ _ _ c k hφ hn D hsh=>
      exact own id 0 n c k b hφ (by rw[hrd id (by simp)];exact hb) hc.1 (by rw[bL];exact a9 hc.2) rfl (by simp) rfl
    .cases hrow
   .cases hrow
  .cases hrow
 .rename_i id off n;split at hrow
  .rename_i b hb;split at hrow
   .rename_i hc;simp only[ak]at hc;simp only[af,aC]at hrow;obtain⟨rfl,rfl,rfl⟩:=hrow;cases hr with
    |@sl _ _ _ c k hφ hn D=>exact own id off n c k b hφ (by rw[hrd id (by simp)];exact hb) hc.1 (a9 hc.2) rfl rfl rfl
   .cases hrow
  .cases hrow
 .cases hrow
theorem aas {sz:Nat} {x:AV} {src:Y AV} {m:Nat} {rd:ι} (hrow:x.row? h sz=Z (src,m,rd)) {φ:PM} {E:Nat->Prop} {h':HF} {w:World} (hrd:∀i∈rd,h' i=h.get i) (hrep:qG φ E h' w) {v:Value} (hr:cE φ (tot E φ h') w x v) {d el:TypeId} (hk:P.underlying d=Z (.slice el)):
 ∃vs,Src P sz d v m vs w/\Cs φ (tot E φ h') w src vs:=by
 obtain⟨A,c,vs,rfl,h1,h2,h3,h4⟩:=Yc hrow hrd hrep hr;refine ⟨vs,?_,h1⟩;cases A with
 |none=>
  have:=h3 rfl;subst this;have hm:m*sz=0:=by simpa using h2.symm
  refine ⟨.inl ⟨el,hk⟩,λ_=>rfl,run_firstCells_none w sz m m c,run_firstCells_none w.drew sz m m c,by simp[hm],λ_ h=>by cases h⟩
 |some q=>exact Src.ofSlice w hk q m c vs h2 (h4 q rfl) h1.one
theorem aes {x:Nat}:∀{l:ι},VY x l=M↔x∈l
 |[]=>by simp[VY]
 |y::r=>by
  simp only[VY,iO,aes (l:=r),bu];constructor
  .rintro (h|h)
   .exact .inl (au h).symm
   .exact .inr h
  .rintro (h|h)
   .subst h;exact .inl (rk x)
   .exact .inr h
theorem afo {t u el el':TypeId} {d x:Operand} {sz:Nat} (L:o.op= .call {callee:=.builtin .copy,args:=#[d,x],argTypes:=#[t,u]}) (hu:P.underlying t=Z (.slice el)) (hu':P.underlying u=Z (.slice el')) (hs:eY P el=Z sz) (s:ef (.copy sz d x) e h nx=Z R):gy P o e.get h.get R.eff:=by
 simp only[ef]at s;split at s
 .rename_i id sz' n y hd hx;split at s
  .rename_i blk src m rd hblk hrow;split at s
   .rename_i hc;simp only[ak,cO,d_]at hc;obtain⟨⟨rfl,hmem⟩,hlen⟩:=hc;split at s
    .rename_i c' hput;simp only[af]at s;subst s;unfold BC.put at hput;split at hput
     .rename_i hcc;simp only[ak]at hcc;obtain⟨⟨c1,I⟩,c3⟩:=hcc;have I:=a9 I;rw[bL]at I;have z:c'.toMx=splice blk.c.toMx 0 (src.take (iM m n*sz'))/\c'.isCells=M:=by
       split at hput
       .rename_i l ys hbl hys;simp only[af]at hput;subst hput;refine ⟨?_,rfl⟩;have hv:=pC hys;rw[hv,hbl];simp only[BC.toMx];unfold splice;simp[pt,List.map_drop]
       .simp only[af]at hput;subst hput;exact⟨rfl,rfl⟩
      refine gy.writes hblk λφ E h' w a hrd hb' hp hrep=>?_
      have hpd:=hp d _ (by rw[L];simp[Op.operands,dO]) hd;have hpx:=hp x _ (by rw[L];simp[Op.operands,dO]) hx;obtain⟨A,c,vs,hv,q1,q2,q3,q4⟩:=Yc hrow (λi hi=>hrd i (by simp[hi])) hrep hpx;generalize hz:a.eval d=pv at hpd;cases hpd with
      |@row _ _ _ cap k hφ hn hcap hsh=>
       obtain⟨arr,g1,g2,g3⟩:=hrep.cs hb' hφ c1;rw[BC.len_toMx c1]at I;have hmn:iM m n<=m:=Nat.min_le_left _ _;have hle:iM m n*sz'<=m*sz':=cr _ hmn
       let ns:=vs.take (iM m n*sz')
       have hnl:ns.length=iM m n*sz':=by simp only[ns,b_,q2];omega
       have hsl:(src.take (iM m n*sz')).length=iM m n*sz':=by rw[b_,<-q1.1,q2];omega
       have csn:=q1.take (iM m n*sz');rw[hsl]at I;have hst:=run_storeCells_at (P:=P) k 0 blk.ty ns 0 arr w g1 (by rw[hnl];omega) csn.one
       let arr':Array Value:=(arr.toList.take 0++ns++arr.toList.drop (0+iM m n*sz')).toArray
       have hsize:arr'.size=arr.size:=by simp only[arr',sG,bY,b_,kC,im,hnl];omega
       have hfc:(wX sz' (iM m n) (.slice A m c)).run P w= .ok ns.toArray w:=by
        cases A with
        |none=>
         have:ns=[]:=by simp[ns,q3 rfl]
         rw[this];exact run_firstCells_none w sz' _ _ _
        |some ad=>exact run_firstCells_some w sz' _ ad m c ns hnl (λj u hu=>q4 ad rfl j u (by
          simp only[ns,cu]at hu;split at hu
          .exact hu
          .cases hu))
       refine ⟨.value (.int .i64 (iM m n)),w.setRow k arr',k,.cells arr' blk.ty (0,0),?_,hφ,Ed.setRow g1 hsize,?_,_,.inl rfl,.f (.raw _)⟩
       .have s1:=fQ hs w;simp only[db,hnl]at hst;unfold execOp;rw[L];simp[resolve,invoke,builtin,Builtin.copy_,run_underlying hu,hz,hv,Builtin.lenOf,s1,hfc,hst,goInt,arr']
       .refine pP z.2 (by rw[z.1,oc (by rw[hsl];omega),hsize];exact g3) λj q hq=>?_
        rw[z.1,mG (by rw[hsl];omega)]at hq;have ha':arr'[j]? =if j<0 then arr.toList[j]? else if j<0+ns.length then ns[j-0]? else arr.toList[j]? :=by
         have:=mG (l:=arr.toList) (vs:=ns) (off:=0) (by simp only[im];omega) j;unfold splice at this;simp only[arr',kq];rw[<- this,hnl]
        rw[ha',aL (by omega)];rw[aL (by omega),hsl]at hq;rw[hnl];by_cases h2:j<0+iM m n*sz'
        .rw[aU h2]at hq ⊢;have D:j-0<ns.length:=by rw[hnl];omega
         exact⟨csn.2.1 q (bg hq),_,aw D,csn.2.2 _ q _ hq (aw D)⟩
        .rw[aL h2]at hq ⊢;have hj:j<blk.c.toMx.length:=(bm.1 hq).1;have F:j<arr.toList.length:=by simp;omega
         refine ⟨g2.2.1 q (bg hq),arr.toList[j],aw F,g2.2.2 j q _ hq ?_⟩;rw[cu,aU hj,aw F]
     .cases hput
    .cases s
   .cases s
  .cases s
 .cases s
theorem ain {t el:TypeId} {sz:Nat} {z:ξ} {x:Operand} (ho:o.op= .call {callee:=.builtin .clear,args:=#[x],argTypes:=#[t]}) (hu:P.underlying t=Z (.slice el)) (hz:sv P el=Z z) (hc:mC z=M) (hl:z.length=sz) (hsz:sz≠0) (s:ef (.clr sz z x) e h nx=Z R):gy P o e.get h.get R.eff:=by
 simp only[ef]at s;split at s
 .rename_i id off n hx;split at s
  .rename_i blk hblk;split at s
   .rename_i hn;have hn:=a9 hn;obtain⟨m,rfl⟩:∃m,n=m+1:=⟨n-1,by omega⟩
    split at s
    .rename_i c' hput;simp only[af]at s;subst s;unfold BC.put at hput;split at hput
     .rename_i hcc;simp only[ak]at hcc;obtain⟨⟨c1,I⟩,c3⟩:=hcc;have I:=a9 I;have hsrc:((repl z (m+1)).map AV.f).length=(m+1)*sz:=by rw[co,mH,hl]
      rw[hsrc]at I;have A:c'.toMx=splice blk.c.toMx off ((repl z (m+1)).map AV.f)/\c'.isCells=M:=by
       split at hput
       .rename_i l ys hbl hys;simp only[af]at hput;subst hput;refine ⟨?_,rfl⟩;have hv:=pC hys;rw[hv,hbl];simp only[BC.toMx];unfold splice;simp[pt,List.map_drop]
       .simp only[af]at hput;subst hput;exact⟨rfl,rfl⟩
      refine gy.writes hblk λφ E h' w a hrd L hp hrep=>?_
      have hpx:=hp x _ (by rw[ho];simp[Op.operands,dO]) hx;generalize hzv:a.eval x=pv at hpx;cases hpx with
      |@sl _ _ _ cap k hφ hn2 hcap=>
       obtain⟨arr,g1,F,g3⟩:=hrep.cs L hφ c1;rw[BC.len_toMx c1]at I;obtain⟨v,z1,z2,_⟩:=sV hz w;have csn:=Cs.repl (φ:=φ) (O:=tot E φ h') (w:=w) z2 (m+1) sz hl hsz hc
       let ns:=(lB v.cells (m+1)).toList
       have hvs:v.cells.size=sz:=by rw[<- hl,<-z2];simp
       have hns:ns=((xA ((m+1)*sz)).map (λi=>v.cells[i%v.cells.size]!)).toList:=by simp only[ns,lB,hvs]
       have hnl:ns.length=(m+1)*sz:=by rw[hns];simp
       rw[<- hns]at csn;have hst:=run_storeCells_at (P:=P) k off blk.ty ns 0 arr w g1 (by rw[hnl];omega) csn.one
       let arr':Array Value:=(arr.toList.take (off+0)++ns++arr.toList.drop (off+0+ns.length)).toArray
       have hsize:arr'.size=arr.size:=by simp only[arr',sG,bY,b_,kC,im,hnl];omega
       refine ⟨.value (.tuple #[]),w.setRow k arr',k,.cells arr' blk.ty (0,0),?_,hφ,Ed.setRow g1 hsize,?_,_,.inl rfl,.tup (vs:=[]) rfl λj y v hy=>by simp at hy⟩
       .unfold execOp;rw[ho];have hst2:(storeCells ⟨k,off,U⟩ (lB v.cells (m+1)).toList).run P w= .ok () (w.setRow k arr'):=hst;simp[resolve,invoke,builtin,Builtin.clear_,run_underlying hu,hzv,z1,hst2]
       .refine pP A.2 (by rw[A.1,oc (by rw[hsrc];omega),hsize];exact g3) λj q hq=>?_
        rw[A.1,mG (by rw[hsrc];omega)]at hq;have ha':arr'[j]? =if j<off then arr.toList[j]? else if j<off+ns.length then ns[j-off]? else arr.toList[j]? :=by
         have:=mG (l:=arr.toList) (vs:=ns) (off:=off) (by simp only[im];omega) j;unfold splice at this;simp only[arr',kq,db];rw[<- this]
        rw[ha'];rw[hsrc]at hq;rw[hnl];by_cases h1:j<off
        .rw[aU h1]at hq ⊢;have hj:j<blk.c.toMx.length:=(bm.1 hq).1;have d:j<arr.toList.length:=by simp;omega
         refine ⟨F.2.1 q (bg hq),arr.toList[j],aw d,F.2.2 j q _ hq ?_⟩;rw[cu,aU hj,aw d]
        rw[aL h1]at hq ⊢;by_cases h2:j<off+(m+1)*sz
        .rw[aU h2]at hq ⊢;have D:j-off<ns.length:=by rw[hnl];omega
         exact⟨csn.2.1 q (bg hq),_,aw D,csn.2.2 _ q _ hq (aw D)⟩
        .rw[aL h2]at hq ⊢;have hj:j<blk.c.toMx.length:=(bm.1 hq).1;have d:j<arr.toList.length:=by simp;omega
         refine ⟨F.2.1 q (bg hq),arr.toList[j],aw d,F.2.2 j q _ hq ?_⟩;rw[cu,aU hj,aw d]
     .cases hput
    .cases s
   .cases s
  .cases s
 .cases s
end
theorem Lo (w:World) (ob:Obj):Ri w (w.drew.alloc ob) ob:=Ri.drawn (w.drawn+1) (qJ {w with drawn:=w.drawn+1} ob)
section
variable {P:Program} {o:Oper} {e:yO} {h:nR} {nx:Nat} {R:zN}
theorem G9 {v:Value} {z:ξ} {sz:Nat} (hv:v.cells.toList=z) (hl:z.length=sz) (n:Nat):(lB v.cells n).size=n*sz:=by
 have:v.cells.size=sz:=by rw[<- hl,<-hv];simp
 simp[lB,this]
theorem JE {t u el:TypeId} {s x:Operand} {i:TypeInfo} {z:ξ} (ho:o.op= .call {callee:=.builtin .append,args:=#[s,x],argTypes:=#[t,u]}) (hu:P.underlying t=Z (.slice el)) (F:P.info? el=Z i) (hz:sv P el=Z z) (hzl:z.length=i.size)
 {φ:PM} {E:Nat->Prop} {h':HF} {w:World} {a:Act} (hrep:qG φ E h' w) (hnx:φ nx=U) {A:J Addr} {n cap m:Nat} {olds vs:ξ} {oldA src:Y AV} (hsl:a.eval s= .slice A n cap)
 (hold:(wX i.size n (.slice A n cap)).run P w.drew= .ok olds.toArray w.drew) (csold:Cs φ (tot E φ h') w oldA olds) (hol:olds.length=n*i.size) (hsrc:Src P i.size u (a.eval x) m vs w) (hcs:Cs φ (tot E φ h') w src vs)
 (hg:cap<n+m) (r1:n+m<=1099511627776) (r2:(n+m)*i.bytes<=1099511627776) (del:ι) (hdel:∀j∈del,j≠nx):
 o.wp P a w (λa' w'=>∃v φ',a'=a.put o.dst v/\iT φ φ' h' (eE h' (nx::del) (jd [(nx,⟨el,ox (oldA++src)⟩)])) w w'/\(∀i k,φ' i=Z k->φ i=Z k\/i∈[nx])/\
  qG φ' E (eE h' (nx::del) (jd [(nx,⟨el,ox (oldA++src)⟩)])) w'/\cE φ' (tot E φ' (eE h' (nx::del) (jd [(nx,⟨el,ox (oldA++src)⟩)]))) w' (.row nx i.size (n+m)) v) (λ_ _ _=>False):=by
 obtain⟨D,z1,L,i',d,I⟩:=sV hz w;rw[F]at d;cases d;have hfb:=growslice_fits (need:=n+m) (old:=cap) (bytes:=i.bytes) hg (by omega);have hrun:=run_append_grow_src w t u o.type el i D hu F I A n cap olds hold (a.eval x) m vs hsrc hg (by omega) hfb;have hgc:=grownCap_ge w (n+m) cap el;have hgm:=grownCap_le_maxLen w (n+m) cap el (by unfold maxLen;omega);generalize grownCap w (n+m) cap el=Gc at hrun hgc hgm;have cs:=csold.append hcs;have hnl:=hsrc.newsLen;obtain⟨φ',p1,p2,p3,p4⟩:=hrep.wnew hnx (Lo w _) (b:=⟨el,ox (oldA++src)⟩) (ob:=.cells ((olds++vs).toArray++lB D.cells (Gc-(n+m))) el (0,0)) (by
  obtain⟨q1,q2⟩:=nE (oldA++src);refine pP q2 (by rw[q1,<-cs.1];simp) λj q hq=>?_
  rw[q1]at hq;have hj:j<(olds++vs).length:=by rw[cs.1];exact (bm.1 hq).1
  refine ⟨cs.2.1 q (bg hq),_,?_,cs.2.2 j q _ hq (aw hj)⟩;rw[Array.getElem?_append_left (by simpa using hj),kq,aw hj]) del (jd [(nx,⟨el,ox (oldA++src)⟩)]) (by simp[jd]) (λj hj hne=>by
   simp only[jd];rw[aL];intro hb;exact hne (au hb).symm)
 have hexec:(execOp a.eval o).run P w= .ok (.value (.slice (Z ⟨w.heap.size,0,U⟩) (n+m) Gc)) (w.drew.alloc (.cells ((olds++vs).toArray++lB D.cells (Gc-(n+m))) el)):=by
  unfold execOp;rw[ho];simp only[resolve,invoke,builtin,ey,oE,cF,List.map_toArray,eW,List.map_nil,hsl,hrun]
 unfold Gy;rw[hexec];refine ⟨_,φ',rfl,p2,p3,p4,.row p1 hgc hgm ⟨el,?_⟩⟩;have:=(Lo w (.cells ((olds++vs).toArray++lB D.cells (Gc-(n+m))) el (0,0))).at_;unfold ri;rw[this];have hzs:=G9 L hzl (Gc-(n+m));have e1:(n+m)*i.size+(Gc-(n+m))*i.size=Gc*i.size:=by rw[<- MD];congr 1;omega
 simp only[Array.size_append,sG,bY,hol,hnl,hzs];congr 2;rw[<- e1,MD]
theorem aiq {t u el el':TypeId} {s x:Operand} {sz bytes:Nat} {z:ξ} (I:o.op= .call {callee:=.builtin .append,args:=#[s,x],argTypes:=#[t,u]}) (hu:P.underlying t=Z (.slice el)) (hu':P.underlying u=Z (.slice el')) (hs:eY P el=Z sz) (hb:D_ P el=Z bytes) (hz:sv P el=Z z) (hzl:z.length=sz) (hsz:sz≠0)
 (D:ef (.app el sz bytes s x) e h nx=Z R):gy P o e.get h.get R.eff:=by
 obtain⟨i,i1,i2⟩:=Mo hb;have i3:i.size=sz:=by unfold eY at hs;rw[i1]at hs;simpa using hs
 subst i2;subst i3;simp only[ef]at D;split at D
 .rename_i bv y hsv d;split at D
  .rename_i src m rd hrow;have common:∀{φ:PM} {E:Nat->Prop} {h':HF} {w:World} {a:Act},(∀i∈rd,h' i=h.get i)->RP φ E h' w a e o->qG φ E h' w->∃vs,Src P i.size u (a.eval x) m vs w/\Cs φ (tot E φ h') w src vs:=
    λhrd hp hrep=>aas hrow hrd hrep (hp x _ (by rw[I];simp[Op.operands,dO]) d) hu'
   have exec:∀{w w':World} {a:Act} {v:Value},(Em #[t,u] o.type #[a.eval s,a.eval x]).run P w= .ok v w'->(execOp a.eval o).run P w= .ok (.value v) w':=by
    intro w w' a v hrun;unfold execOp;rw[I];simp[resolve,invoke,builtin,hrun]
   split at D
   .rename_i id sz' n;split at D
    .rename_i blk hblk;split at D
     .rename_i hc;simp only[ak,cO,d_]at hc;obtain⟨⟨⟨⟨⟨rfl,hmem⟩,hcells⟩,hlen⟩,hty⟩,hroom⟩:=hc;have hlen:=a9 hlen;rw[BC.len_toMx hcells]at hlen;obtain⟨r1,r2⟩:=Bw hroom;simp only[af]at D;subst D;subst hty;intro φ E h' w a h1 h2 h3 hrep h5;have hp:RP φ E h' w a e o:=λx y d hy=>rG hrep h3 d hy
      have hb':h' id=Z blk:=by rw[h1 id (by simp[zN.eff])];exact hblk
      obtain⟨vs,hsrc,hcs⟩:=common (λi hi=>h1 i (by simp[zN.eff,hi])) hp hrep;have hpd:=hp s _ (by rw[I];simp[Op.operands,dO]) hsv;have hnx:φ nx=U:=h5 nx (by simp[zN.eff]);have hwv:=hp s _ (by rw[I];simp[Op.operands,dO]) hsv;generalize hzv:a.eval s=pv at hpd;cases hpd with
      |@row _ _ _ cap k hφ hn hcap hsh=>
       obtain⟨arr,g1,g2,g3⟩:=hrep.cs hb' hφ hcells;have hne:nx≠id:=λe=>by rw[e,hφ]at hnx;cases hnx
       have harr:arr.size=cap*i.size:=by
        obtain⟨ty,hty⟩:=hsh;unfold ri at hty;rw[g1]at hty;simp at hty;exact hty.2
       have hnl:=hsrc.newsLen;have hnn:n*i.size<=arr.size:=by omega
       have csnew:Cs φ (tot E φ h') w (blk.c.toMx.take (n*i.size)++src) (arr.toList.take (n*i.size)++vs):=by
        have:=(g2.take (n*i.size)).append hcs
        rwa [List.take_take,Ei hlen]at this
       have hnw1:jd [(nx,⟨blk.ty,ox (blk.c.toMx.take (n*i.size)++src)⟩)] nx=Z ⟨blk.ty,ox (blk.c.toMx.take (n*i.size)++src)⟩:=by simp[jd]
       have hnw2:jd [(nx,⟨blk.ty,ox (blk.c.toMx.take (n*i.size)++src)⟩)] id=U:=by
        simp only[jd];rw[aL];intro hb;exact hne (au hb)
       by_cases hfit:n+m<=cap
       ·
        have hend:n*i.size+vs.length<=arr.size:=by
         rw[hnl,harr,<-MD];exact cr _ hfit
        have hst:=run_storeCells_at (P:=P) k (n*i.size) blk.ty vs 0 arr w g1 (by omega) hsrc.one;simp only[db]at hst
        let arr':Array Value:=(arr.toList.take (n*i.size)++vs++arr.toList.drop (n*i.size+vs.length)).toArray
        have hsize:arr'.size=arr.size:=by simp only[arr',sG,bY,b_,kC,im];omega
        have hrun:(Em #[t,u] o.type #[a.eval s,a.eval x]).run P w= .ok (.slice (Z ⟨k,0,U⟩) (n+m) cap) (w.setRow k arr'):=by
         rw[hzv];rcases hsrc.kind with ⟨e',hk⟩|hk<;>simp[Em,run_underlying hu,run_underlying hk,sizeOf,typeInfo,i1,hsrc.len,hfit,hsrc.cells,jM,hst,arr']
        obtain⟨φ',p1,p2,p3,p4⟩:=hrep.wren hb' hφ hnx (Ed.setRow g1 hsize) (b':=⟨blk.ty,ox (blk.c.toMx.take (n*i.size)++src)⟩) (by
         obtain⟨q1,q2⟩:=nE (blk.c.toMx.take (n*i.size)++src);refine pP q2 (by rw[q1,<-csnew.1,hsize];simp;omega) λj q hq=>?_
         rw[q1]at hq;have hj:j<(arr.toList.take (n*i.size)++vs).length:=by rw[csnew.1];exact (bm.1 hq).1
         refine ⟨csnew.2.1 q (bg hq),_,?_,csnew.2.2 j q _ hq (aw hj)⟩;simp only[arr',kq];rw[bT hj,aw hj]) _ hnw1 hnw2
        unfold Gy;rw[exec hrun];refine ⟨_,φ',rfl,p2,p3,p4,.row p1 hfit hcap ⟨blk.ty,?_⟩⟩;unfold ri;rw[setRow_heap w k arr arr' blk.ty (0,0) g1];simp[hsize,harr]
       ·
        have hold:(wX i.size n (.slice (Z ⟨k,0,U⟩) n cap)).run P w.drew= .ok (arr.toList.take (n*i.size)).toArray w.drew:=by
         refine run_firstCells_some w.drew i.size n _ n cap _ (by simp;omega) λj v hv=>?_
         rw[cu]at hv;split at hv
         .rw[cj]at hv;rw[jM,bL];have hcl:w.cell? ⟨k,j,U⟩=Z v:=by simp[MC,g1,hv]
          simpa using hcl
         .cases hv
        exact JE I hu i1 hz hzl hrep hnx hzv hold (by
         have:=g2.take (n*i.size)
         rwa [List.take_take,Ei hlen]at this) (by simp;omega) hsrc hcs (by omega) r1 r2 [id] (λj hj=>by simp at hj;subst hj;exact λe=>hne e.symm)
     .cases D
    .cases D
   .rename_i cells n;split at D
    .rename_i hc;simp only[ak]at hc;obtain⟨hlen,hroom⟩:=hc;have hlen:=a9 hlen;obtain⟨r1,r2⟩:=Bw hroom;split at D
     .rename_i hm;have hm:m=0:=by simpa using hm
      subst hm;simp only[af]at D;subst D;refine gy.reads λφ E h' w a hrd hp hrep=>?_
      obtain⟨vs,hsrc,hcs⟩:=common hrd hp hrep;have hr:=hp s _ (by rw[I];simp[Op.operands,dO]) hsv;generalize hz:a.eval s=q at hr;cases hr with
      |@ful _ _ A hr=>
       refine ⟨.slice A n n,exec ?_,.f hr⟩;rw[hz];have hvs:vs=[]:=by have:=hsrc.newsLen;simpa using this
       have L:=hsrc.cells;rw[hvs]at L;rcases hsrc.kind with ⟨e',hk⟩|hk<;>cases A<;>simp[Em,run_underlying hu,run_underlying hk,sizeOf,typeInfo,i1,hsrc.len,L,storeCells]
     .rename_i hm;have hm:m≠0:=by simpa using hm
      simp only[af]at D;subst D;intro φ E h' w a h1 h2 h3 hrep h5;have hp:RP φ E h' w a e o:=λx y d hy=>rG hrep h3 d hy
      obtain⟨vs,hsrc,hcs⟩:=common (λi hi=>h1 i hi) hp hrep;have hr:=hp s _ (by rw[I];simp[Op.operands,dO]) hsv;generalize hz':a.eval s=q at hr;cases hr with
      |@ful _ _ A hr=>
       have key:∃olds:ξ,(wX i.size n (.slice A n n)).run P w.drew= .ok olds.toArray w.drew/\Cs φ (tot E φ h') w ((cells.take (n*i.size)).map .f) olds/\olds.length=n*i.size:=by
        cases hr with
        |nil a c _=>
         refine ⟨[],?_,⟨by simp,(by intro x d;simp at d),(by intro j x v d;simp at d)⟩,by simp⟩;cases A with
         |none=>exact run_firstCells_none w.drew i.size 0 0 0
         |some ad=>exact run_firstCells_some w.drew i.size 0 ad 0 0 [] (by simp) (by intro j v hv;simp at hv)
        |sl _ _ c b off us hn hc hO hb hcl hu2 hrr=>
         refine ⟨(fd (n*i.size)).map us,?_,⟨by simp;omega,?_,?_⟩,by simp⟩
         .refine run_firstCells_some w.drew i.size n _ n n _ (by simp) λj v hv=>?_
          rw[bf]at hv;rcases bM j (n*i.size) with hj|hj
          .rw[pK hj]at hv;simp only[bU,af]at hv;subst hv;rw[jM];exact hu2 j (by omega)
          .rw[bJ (by simpa using hj)]at hv;cases hv
         .intro x d;obtain⟨y,hy,rfl⟩:=cX.1 d;exact hcl y (fB hy)
         .intro j x v d hv;rw[bf,cu]at d;split at d
          .rename_i hj;rw[bf,pK hj]at hv;simp only[bU,af]at hv;subst hv;cases hcj:cells[j]? with
           |none=>rw[hcj]at d;cases d
           |some y=>
            rw[hcj]at d;simp only[bU,af]at d;subst d;exact .f (hrr j y hcj)
          .cases d
       obtain⟨olds,k1,k2,k3⟩:=key;have:=JE (nx:=nx) I hu i1 hz hzl hrep (h5 nx (by simp[zN.eff])) hz' k1 k2 k3 hsrc hcs (by omega) r1 r2 [] (by simp);simpa[zN.eff] using this
    .cases D
   .split at D
    .rename_i hc;simp only[ak]at hc;obtain⟨F,hroom⟩:=hc;obtain⟨r1,r2⟩:=Bw hroom;have hbase:∀{φ:PM} {O:Nat->Prop} {w:World} {v:Value},cE φ O w bv v->∃A,v= .slice A 0 0:=by
      intro φ O w v hr;unfold HV at F;split at F
      .cases hr;exact⟨_,rfl⟩
      .rename_i q;cases eH hr;unfold sO at F;split at F
       .exact⟨_,rfl⟩
       .cases F
      .cases F
     split at D
     .rename_i hm;have hm:m=0:=by simpa using hm
      subst hm;simp only[af]at D;subst D;refine gy.reads λφ E h' w a hrd hp hrep=>?_
      obtain⟨vs,hsrc,hcs⟩:=common hrd hp hrep;have hr:=hp s _ (by rw[I];simp[Op.operands,dO]) hsv;obtain⟨A,hA⟩:=hbase hr;refine ⟨a.eval s,exec ?_,hr⟩;rw[hA];have hvs:vs=[]:=by have:=hsrc.newsLen;simpa using this
      have L:=hsrc.cells;rw[hvs]at L;rcases hsrc.kind with ⟨e',hk⟩|hk<;>cases A<;>simp[Em,run_underlying hu,run_underlying hk,sizeOf,typeInfo,i1,hsrc.len,L,storeCells]
     .rename_i hm;have hm:m≠0:=by simpa using hm
      simp only[af]at D;subst D;intro φ E h' w a h1 h2 h3 hrep h5;have hp:RP φ E h' w a e o:=λx y d hy=>rG hrep h3 d hy
      obtain⟨vs,hsrc,hcs⟩:=common (λi hi=>h1 i hi) hp hrep;obtain⟨A,hA⟩:=hbase (hp s _ (by rw[I];simp[Op.operands,dO]) hsv);have hold:(wX i.size 0 (.slice A 0 0)).run P w.drew= .ok ([]:ξ).toArray w.drew:=by
       cases A with
       |none=>exact run_firstCells_none w.drew i.size 0 0 0
       |some ad=>exact run_firstCells_some w.drew i.size 0 ad 0 0 [] (by simp) (by intro j v hv;simp at hv)
      have:=JE (nx:=nx) (n:=0) (cap:=0) (olds:=[]) (oldA:=[]) I hu i1 hz hzl hrep (h5 nx (by simp[zN.eff])) hA hold ⟨rfl,(by intro x d;cases d),(by intro j x v d;simp at d)⟩ (by simp) hsrc hcs (by omega) (by omega) (by simpa using r2) [] (by simp);simpa[zN.eff] using this
    .cases D
  .cases D
 .cases D
end
section
variable {P:Program} {o:Oper} {e:yO} {h:nR} {nx:Nat} {R:zN}
theorem aie {t:TypeId} (s:o.op= .makeMap t U) (d:ef .mkm e h nx=Z R):gy P o e.get h.get R.eff:=by
 simp only[ef,af]at d;subst d;refine gy.makes λφ E h' w a _ _ _=>?_
 refine ⟨.map (Z w.heap.size),{w with heap:=w.heap.push (.map #[] 0)},.map #[] 0,?_,qJ w _,⟨#[],0,rfl,by unfold Vx;rw[aU rfl];rfl,by intro j x q;simp at q⟩,λφ' O hφ=>.mp hφ⟩;unfold execOp;rw[s];simp[Instr.makeMap,newObj,j_]
theorem ai9 {t:TypeId} {x:Operand} (q:o.op= .range t x) (hu:P.underlying t=Z .string) (d:ef (.rng x) e h nx=Z R):gy P o e.get h.get R.eff:=by
 simp only[ef]at d;split at d
 .rename_i s z;simp only[af]at d;subst d;refine gy.makes λφ E h' w a _ hp _=>?_
  have hr:=eH (hp x _ (by rw[q];simp[Op.operands]) z);refine ⟨.pointer (Z ⟨w.heap.size,0,U⟩),{w with heap:=w.heap.push (.stringIter s 0)},.stringIter s 0,?_,qJ w _,rfl,λφ' O hφ=>.ptr hφ⟩;unfold execOp;rw[q];simp[Instr.range,run_underlying hu,hr,newObj,j_]
 .cases d
theorem xH {w:World} {k:Nat} {ob ob':Obj} (hk:w.heap[k]? =Z ob) (h1:∀c t f,ob≠ .cells c t f) (h2:∀c t f,ob'≠ .cells c t f):Ed w {w with heap:=w.heap.setIfInBounds k ob'} k ob':=by
 have hlt:k<w.heap.size:=(cq.1 hk).1;have hat:(w.heap.setIfInBounds k ob')[k]? =Z ob':=by simp[hlt]
 have hot:∀j,j≠k->(w.heap.setIfInBounds k ob')[j]? =w.heap[j]? :=λj hj=>pE (λe=>hj e.symm)
 refine ⟨rfl,rfl,rfl,by simp,hat,hot,λj=>?_⟩;unfold ri;by_cases hj:j=k
 .subst hj;simp only[hat,hk];cases ob<;>cases ob'<;>first|rfl|exact dP rfl (h1 _ _ _)|exact dP rfl (h2 _ _ _)
 .simp only[hot j hj]
theorem aia {x:Operand} (D:o.op= .next x M) (d:ef (.nxt x) e h nx=Z R):gy P o e.get h.get R.eff:=by
 simp only[ef]at d;split at d
 .rename_i id I;split at d
  .rename_i ty s p hid;split at d
   .rename_i b hb;simp only[af]at d;subst d;refine gy.writes hid λφ E h' w a hrd A hp hrep=>?_
    have hr:=hp x _ (by rw[D];simp[Op.operands]) I;generalize F:a.eval x=z at hr;cases hr with
    |@ptr _ _ k hφ=>
     obtain⟨k',q1,_,ob,q2,q3⟩:=hrep.at_ id _ A;rw[hφ]at q1;cases q1;have q3:ob= .stringIter s p:=q3;subst q3;have hps:p<s.size:=by
      have:=(bm.1 hb).1;simpa using this
     have hget:s.get! p=b:=by
      have:s.data[p]? =Z b:=by rw[<- cj];exact hb
      have hpd:p<s.data.size:=(cq.1 this).1;have h2:s.data[p]! =s.data[p]:=getElem!_pos s.data p hpd;rw[hZ hpd]at this;simp only[ByteArray.get!,h2];exact jV this
     have hdec:∃c:Nat,xy s p=(c,wdA b s p)/\rnA b s p=(c:Int):=by
      unfold wdA rnA;cases hlt:eP b.toNat 128 with
      |true=>
       refine ⟨b.toNat,?_,rfl⟩;have:=a9 hlt;unfold xy;simp only[db,hget];rw[aU (by omega)];rfl
      |false=>exact⟨(xy s p).1,rfl,rfl⟩
     obtain⟨c,hdec,hc⟩:=hdec;refine ⟨.value (.tuple #[.bool M,.int .i64 p,.int .i32 c]),_,k,.stringIter s (p+wdA b s p),?_,hφ,xH q2 (by simp) (by simp),rfl,_,.inl rfl,?_⟩
     .unfold execOp;rw[D];simp[Instr.next,F,getObj,j_,q2,hps,hdec,setObj,goInt]
     .refine cE.tup (vs:=[.bool M,.int .i64 p,.int .i32 c]) rfl λj y v q hv=>?_
      rw[hc]at q;rcases j with _|_|_|j<;>simp at q hv
      .subst q;subst hv;exact .f (.raw _)
      .subst q;subst hv;exact .f (.raw _)
      .subst q;subst hv;exact .f (.raw _)
   .rename_i hb;simp only[af]at d;subst d;refine gy.writes hid λφ E h' w a hrd A hp hrep=>?_
    have hr:=hp x _ (by rw[D];simp[Op.operands]) I;generalize F:a.eval x=z at hr;cases hr with
    |@ptr _ _ k hφ=>
     obtain⟨k',q1,_,ob,q2,q3⟩:=hrep.at_ id _ A;rw[hφ]at q1;cases q1;have q3:ob= .stringIter s p:=q3;subst q3;have hps:¬p<s.size:=by
      have:=List.getElem?_eq_none_iff.1 hb;have e:s.data.toList.length=s.size:=by simp
      omega
     refine ⟨.value (.tuple #[.bool aa]),w,k,.stringIter s p,?_,hφ,⟨rfl,rfl,rfl,rfl,q2,λ_ _=>rfl,λ_=>rfl⟩,rfl,_,.inl rfl,?_⟩
     .unfold execOp;rw[D];simp[Instr.next,F,getObj,j_,q2,hps]
     .refine cE.tup (vs:=[.bool aa]) rfl λj y v q hv=>?_
      rcases j with _|j<;>simp at q hv;subst q;subst hv;exact .f (.raw _)
  .cases d
 .cases d
theorem yL {a b:ByteArray}:rJ a b=M↔a=b:=by
 unfold rJ;constructor
 .intro h;have h1:a.data.toList=b.data.toList:=by simpa using h
  cases a;cases b;congr 1;exact J4 h1
 .rintro rfl;simp
theorem D9 (a b:ByteArray):(a==b)=rJ a b:=by
 have h1:(a==b)=(a.data==b.data):=rfl;rw[h1,Eo,yL,cO];constructor
 .intro h;cases a;cases b;congr 1
 .rintro rfl;rfl
def kd (str:Bool) (d:TypeDesc):Prop:=if str then d= .string else ∃k,d= .int k
theorem xM {str:Bool} {d:TypeDesc} (hd:kd str d) {k k':Value} (hk:x_ str k=M) {b:Bool} (hb:sR .eql k k'=Z (.bool b)):Instr.sameNow d k k'=Z b:=by
 unfold kd at hd;cases str with
 |true=>
  simp only[bE]at hd;subst hd;cases k<;>simp[x_]at hk;cases k'<;>simp only[sR]at hb<;>try (simp at hb;done)
  simp only[af,Bh]at hb;simp[Instr.sameNow,D9,hb]
 |false=>
  simp only[bG,dq]at hd;obtain⟨q,rfl⟩:=hd;cases k<;>simp[x_]at hk;cases k'<;>simp only[sR]at hb<;>try (simp at hb;done)
  split at hb
  .rename_i hkk;have hkk':=eq_of_beq hkk;subst hkk';simp only[af,Bh]at hb;simp[Instr.sameNow,<-hb]
  .cases hb
theorem P1 {str:Bool} {d:TypeDesc} (hd:kd str d) {k:Value} (hk:x_ str k=M):∀(es:Y (Value×AV)) (ents:Y MapEntry) (i:Nat),ents.map (·.key)=es.map (·.1)->∀r,sM k es=Z r->
 (r=U/\eD d k ents i=Z U)\/∃(j:Nat) (v:AV) (m:MapEntry) (k':Value),r=Z v/\es[j]? =Z (k',v)/\ents[j]? =Z m/\eD d k ents i=Z (Z (i+j,m.val))/\sR .eql k k'=Z (.bool M)
 |[],ents,i,he,r,h=>by
  cases ents with
  |nil=>simp only[sM,af]at h;exact .inl ⟨h.symm,rfl⟩
  |cons _ _=>simp at he
 |(k',v)::es,ents,i,he,r,h=>by
  cases ents with
  |nil=>simp at he
  |cons m ents=>
   simp only[eW,iN]at he;obtain⟨q,s⟩:=he;simp only[sM]at h;split at h
   .rename_i hb;simp only[af]at h;refine .inr ⟨0,v,m,k',h.symm,rfl,rfl,?_,hb⟩;simp only[eD];rw[q,xM hd hk hb];rfl
   .rename_i hb;have hs:=xM hd hk hb;rcases P1 hd hk es ents (i+1) s r h with ⟨h1,h2⟩|⟨j,z,m',k'',h1,h2,h3,h4,A⟩
    .refine .inl ⟨h1,?_⟩;simp only[eD];rw[q,hs];exact h2
    .refine .inr ⟨j+1,z,m',k'',h1,by simpa using h2,by simpa using h3,?_,A⟩;simp only[eD];rw[q,hs];show eD d k ents (i+1)=_;rw[h4,show i+1+j=i+(j+1) from by omega]
   .cases h
theorem sH {s:TypeId} {str:Bool} {d:TypeDesc} (hu:P.underlying s=Z d) (hd:kd str d) (b:Bool) (v:Value) (w:World):(Instr.checkKey b 10000 s v).run P w= .ok () w:=by
 have key:∀n,(Instr.checkKey b (n+1) s v).run P w= .ok () w:=λn=>by
  unfold kd at hd;cases str with
  |true=>simp only[bE]at hd;subst hd;simp[Instr.checkKey,run_underlying hu]
  |false=>simp only[bG,dq]at hd;obtain⟨q,rfl⟩:=hd;simp[Instr.checkKey,run_underlying hu]
 exact key 9999
theorem Yk {φ:PM} {O:Nat->Prop} {w:World} {ok b:Bool} {x:AV} {v:Value} (h:cE φ O w x v):cE φ O w (pkV ok x b) (if ok then .tuple #[v,.bool b] else v):=by
 cases ok with
 |false=>exact h
 |true=>
  refine cE.tup (vs:=[v,.bool b]) rfl λj y u d hv=>?_
  rcases j with _|_|j<;>simp at d hv
  .subst d;subst hv;exact h
  .subst d;subst hv;exact .f (.raw _)
theorem Ox {n:Int} {v:AV}:∀{es:Y (Value×AV)},told n es=Z v->∃j:Nat,es[j]? =Z (.int .i64 n,v)
 |(.int .i64 k,d)::r,h=>by
  simp only[told]at h;split at h
  .rename_i e;subst e;cases h;exact⟨0,rfl⟩
  .obtain⟨j,hj⟩:=Ox h;exact⟨j+1,hj⟩
theorem iZ {k:Value} {m:MapEntry} {r:Y MapEntry} (hm:vp m.key) (hk:vp k):(m.key=k->kj k (m::r)=m.val)/\(m.key≠k->kj k (m::r)=kj k r):=by
 obtain⟨a,d⟩:=hm;obtain⟨b,rfl⟩:=hk;have e0:kj (.int .i64 b) (m::r)=if a=b then m.val else kj (.int .i64 b) r:=by simp only[kj,d]
 rw[e0];exact⟨λe=>by rw[d]at e;cases e;rw[aU rfl],λe=>by rw[aL λq=>e (by rw[d,q])]⟩
theorem DO {d:TypeDesc} (hd:kd aa d) (n:Int):∀(ents:Y MapEntry) (i:Nat),(∀m∈ents,vp m.key)->
 (eD d (.int .i64 n) ents i=Z U/\kj (.int .i64 n) ents= .slice U 0 0/\∀(k:Value) (m':MapEntry),m'.key= .int .i64 n->vp k->(k= .int .i64 n->kj k (ents++[m'])=m'.val)/\(k≠ .int .i64 n->kj k (ents++[m'])=kj k ents))\/
 ∃(j:Nat) (m:MapEntry),ents[j]? =Z m/\eD d (.int .i64 n) ents i=Z (Z (i+j,m.val))/\kj (.int .i64 n) ents=m.val/\m.key= .int .i64 n/\∀(k:Value) (m':MapEntry),m'.key= .int .i64 n->vp k->(k= .int .i64 n->kj k (ents.set j m')=m'.val)/\(k≠ .int .i64 n->kj k (ents.set j m')=kj k ents)
 |[],i,_=>by
  refine .inl ⟨rfl,rfl,λk m' hm hk=>⟨λe=>?_,λe=>?_⟩⟩
  .exact (iZ (r:=[]) ⟨n,hm⟩ hk).1 (hm.trans e.symm)
  .exact (iZ (r:=[]) ⟨n,hm⟩ hk).2 (λq=>e (q.symm.trans hm))
 |m::r,i,h=>by
  have hmk:=h m (eo ..);obtain⟨a,s⟩:=hmk;have hb:sR .eql (.int .i64 n) (.int .i64 a)=Z (.bool (n==a)):=by simp[sR]
  have hs:=xM hd (k:=.int .i64 n) rfl hb;by_cases e:n=a
  .subst e;refine .inr ⟨0,m,rfl,?_,(iZ ⟨n,s⟩ ⟨n,rfl⟩).1 s,s,λk m' hm hk=>⟨λe=>?_,λe=>?_⟩⟩
   .simp only[eD];rw[s,hs];simp
   .exact (iZ (r:=r) ⟨n,hm⟩ hk).1 (hm.trans e.symm)
   .show kj k (m'::r)=_;rw[(iZ (r:=r) ⟨n,hm⟩ hk).2 (λq=>e (q.symm.trans hm)),(iZ (r:=r) ⟨n,s⟩ hk).2 (λq=>e (q.symm.trans s))]
  .have A:Instr.sameNow d (.int .i64 n) m.key=Z aa:=by rw[s,hs];simp[e]
   have hne:¬m.key= .int .i64 n:=λq=>by rw[s]at q;cases q;exact e rfl
   have hl:=(iZ (r:=r) ⟨a,s⟩ ⟨n,rfl⟩).2 hne;have step:∀(k:Value) (z:Y MapEntry) (m':MapEntry),vp k->m'.key= .int .i64 n->(k= .int .i64 n->kj k z=m'.val)/\(k≠ .int .i64 n->kj k z=kj k r)->(k= .int .i64 n->kj k (m::z)=m'.val)/\(k≠ .int .i64 n->kj k (m::z)=kj k (m::r)):=λk z m' hk _ g=>by
    refine ⟨λq=>?_,λq=>?_⟩
    .rw[(iZ (r:=z) ⟨a,s⟩ hk).2 (λx=>hne (x.trans q))];exact g.1 q
    .by_cases x:m.key=k
     .rw[(iZ (r:=z) ⟨a,s⟩ hk).1 x,(iZ (r:=r) ⟨a,s⟩ hk).1 x]
     .rw[(iZ (r:=z) ⟨a,s⟩ hk).2 x,(iZ (r:=r) ⟨a,s⟩ hk).2 x];exact g.2 q
   rcases DO hd n r (i+1) (λq hq=>h q (di _ hq)) with ⟨h1,h2,h3⟩|⟨j,q,h1,h2,h3,h4,D⟩
   .refine .inl ⟨?_,by rw[hl];exact h2,λk m' hm hk=>step k _ m' hk hm (h3 k m' hm hk)⟩;simp only[eD];rw[A];exact h1
   .refine .inr ⟨j+1,q,by simpa using h1,?_,by rw[hl];exact h3,h4,λk m' hm hk=>step k _ m' hk hm (D k m' hm hk)⟩;simp only[eD];rw[A];show eD d _ r (i+1)=_;rw[h2,show i+1+j=i+(j+1) from by omega]
theorem Es {n:Int} {y:AV}:∀{es:Y (Value×AV)} {j:Nat} {q:Value×AV},(lD n y es)[j]? =Z q->∃p,es[j]? =Z p/\q.1=p.1/\(p.1= .int .i64 n->q.2=y)/\(p.1≠ .int .i64 n->q.2=p.2)
 |[],j,q,h=>by simp[lD]at h
 |p::r,0,q,h=>by
  simp only[lD,lA,af]at h;subst h;refine ⟨p,rfl,rfl,λe=>?_,λe=>?_⟩
  .show (match p.1 with|.int .i64 k=>if k=n then y else p.2|_=>p.2)=y;rw[e];dsimp only;rw[aU rfl]
  .show (match p.1 with|.int .i64 k=>if k=n then y else p.2|_=>p.2)=p.2;split
   .rename_i k hk;rw[aL λq=>e (by rw[hk,q])]
   .rfl
 |p::r,j+1,q,h=>by
  simp only[lD,List.getElem?_cons_succ]at h;obtain⟨d,h1,h2⟩:=Es h;exact⟨d,by simpa using h1,h2⟩
theorem Bq (n:Int) (y:AV):∀es:Y (Value×AV),(lD n y es).map (·.1)=es.map (·.1)
 |[]=>rfl
 |p::r=>by simp only[lD,eW];rw[Bq n y r]
theorem ae4 {t kt el:TypeId} {x k:Operand} {str ok:Bool} {d:TypeDesc} {z:Value} (F:o.op= .lookup t x k ok) (hu:P.underlying t=Z (.map kt el)) (hk:P.underlying kt=Z d) (hd:kd str d) (A:(P.info? el).bind (·.zero)=Z z) (q:ef (.lku str ok z x k) e h nx=Z R):gy P o e.get h.get R.eff:=by
 simp only[ef]at q;split at q
 .rename_i id key hx hkx;split at q
  .rename_i es hid;split at q
   .rename_i hko;have fin:∀val:AV,(∀(φ:PM) (E:Nat->Prop) (h':HF) (w:World) (a:Act),h' id=Z ⟨0,.mp es⟩->RP φ E h' w a e o->qG φ E h' w->∃v,(execOp a.eval o).run P w= .ok (.value v) w/\cE φ (tot E φ h') w val v)->R=⟨val,[id],[],[],[]⟩->gy P o e.get h.get R.eff:=by
     rintro val hv rfl;exact gy.reads λφ E h' w a hrd hp hrep=>hv φ E h' w a (by rw[hrd id (by simp)];exact hid) hp hrep
    have zrun:∀w:World,(zeroValue el).run P w= .ok z w:=λw=>by
     cases hi:P.info? el with
     |none=>rw[hi]at A;cases A
     |some i=>rw[hi]at A;simp only[aD]at A;simp[zeroValue,typeInfo,hi,A]
    have main:∀r,sM key es=Z r->∀(φ:PM) (E:Nat->Prop) (h':HF) (w:World) (a:Act),h' id=Z ⟨0,.mp es⟩->RP φ E h' w a e o->qG φ E h' w->
     ∃v,(execOp a.eval o).run P w= .ok (.value v) w/\cE φ (tot E φ h') w (match r with|some v=>pkV ok v M|none=>pkV ok (raw z) aa) v:=by
     intro r hr φ E h' w a I hp hrep;have hrx:=hp x _ (by rw[F];simp[Op.operands]) hx;have hrk:=eH (hp k _ (by rw[F];simp[Op.operands]) hkx);generalize s:a.eval x=zz at hrx;cases hrx with
     |@mp _ b hφ=>
      obtain⟨k',q1,_,ob,q2,q3⟩:=hrep.at_ id _ I;rw[hφ]at q1;cases q1;obtain⟨ents,clock,rfl,q4,q5⟩:=q3;have q4:ents.toList.map (·.key)=es.map (·.1):=by unfold Vx at q4;rw[aU rfl]at q4;exact q4
      have hck:=sH (P:=P) hk hd ents.isEmpty key w;rcases P1 hd hko es ents.toList 0 q4 r hr with ⟨h1,h2⟩|⟨j,v,m,k',h1,h2,h3,h4,_⟩
      .subst h1;refine ⟨_,?_,Yk (.f (.raw z))⟩;unfold execOp;rw[F];cases ok<;>simp[Instr.lookup,run_underlying hu,s,hrk,getObj,j_,q2,hck,r_,run_underlying hk,h2,zrun]
      .subst h1;obtain⟨_,D,L⟩:=q5 j _ h2;unfold MpV at D;rw[aU rfl]at D;obtain⟨m',D,rfl⟩:=D;rw[cj]at h3;rw[h3]at D;cases D;refine ⟨_,?_,Yk L⟩;unfold execOp;rw[F];cases ok<;>simp[Instr.lookup,run_underlying hu,s,hrk,getObj,j_,q2,hck,r_,run_underlying hk,h4]
    split at q
    .rename_i v hf;simp only[af]at q;exact fin _ (main _ hf) q.symm
    .rename_i hf;simp only[af]at q;exact fin _ (main _ hf) q.symm
    .cases q
   .cases q
  .rename_i ty es hid;split at q
   .rename_i n;split at q
    .rename_i hc;split at q
     .rename_i v hv;simp only[af]at q;subst q;cases str with
      |true=>simp at hc
      |false=>
      cases ok with
      |true=>simp at hc
      |false=>
      have hz0:z= .slice U 0 0:=by
       simp only[Bool.not_false,kI]at hc;unfold sO at hc;split at hc
       .rfl
       .cases hc
      subst hz0;have zrun:∀w:World,(zeroValue el).run P w= .ok (.slice U 0 0) w:=λw=>by
       cases hi:P.info? el with
       |none=>rw[hi]at A;cases A
       |some i=>rw[hi]at A;simp only[aD]at A;simp[zeroValue,typeInfo,hi,A]
      refine gy.reads λφ E h' w a hrd hp hrep=>?_
      have I:h' id=Z ⟨ty+1,.mp es⟩:=by rw[hrd id (by simp)];exact hid
      have hrx:=hp x _ (by rw[F];simp[Op.operands]) hx;have hrk:=eH (hp k _ (by rw[F];simp[Op.operands]) hkx);generalize s:a.eval x=zz at hrx;cases hrx with
      |@mp _ b hφ=>
       obtain⟨k',q1,_,ob,q2,q3⟩:=hrep.at_ id _ I;rw[hφ]at q1;cases q1;obtain⟨ents,clock,rfl,q4,q5⟩:=q3;unfold Vx at q4;rw[aL (by simp)]at q4;obtain⟨j,hj⟩:=Ox hv;obtain⟨v',D,L⟩:=q5 j _ hj;unfold MpV at D;rw[aL (by simp)]at D;subst D;have hck:=sH (P:=P) hk hd ents.isEmpty (.int .i64 n) w;rcases DO hd n ents.toList 0 q4.1 with ⟨h1,h2,_⟩|⟨i,m,h1,h2,h3,_⟩
       .rw[h2]at L;refine ⟨_,?_,L⟩;unfold execOp;rw[F];simp[Instr.lookup,run_underlying hu,s,hrk,getObj,j_,q2,hck,r_,run_underlying hk,h1,zrun]
       .rw[h3]at L;refine ⟨_,?_,L⟩;unfold execOp;rw[F];simp[Instr.lookup,run_underlying hu,s,hrk,getObj,j_,q2,hck,r_,run_underlying hk,h2]
     .cases q
    .cases q
   .cases q
  .cases q
 .cases q
theorem UN {str:Bool} {d:TypeDesc} (hd:kd str d) {k:Value} (hk:x_ str k=M) {v:AV}:∀(es es':Y (Value×AV)) (ents:Y MapEntry) (i:Nat),ents.map (·.key)=es.map (·.1)->xX k v es=Z es'->
 (eD d k ents i=Z U/\es'=es++[(k,v)])\/∃(j:Nat) (m:MapEntry) (k':Value) (s:AV),es[j]? =Z (k',s)/\ents[j]? =Z m/\eD d k ents i=Z (Z (i+j,m.val))/\sR .eql k k'=Z (.bool M)/\es'=es.set j (k,v)
 |[],es',ents,i,he,h=>by
  cases ents with
  |nil=>simp only[xX,af]at h;exact .inl ⟨rfl,by simp[h]⟩
  |cons _ _=>simp at he
 |(k',s)::es,es',ents,i,he,h=>by
  cases ents with
  |nil=>simp at he
  |cons m ents=>
   simp only[eW,iN]at he;obtain⟨q,z⟩:=he;simp only[xX]at h;split at h
   .rename_i hb;simp only[af]at h;refine .inr ⟨0,m,k',s,rfl,rfl,?_,hb,by simp[h]⟩;simp only[eD];rw[q,xM hd hk hb];rfl
   .rename_i hb;have hs:=xM hd hk hb;split at h
    .rename_i es2 hes2;simp only[af]at h;subst h;rcases UN hd hk es es2 ents (i+1) z hes2 with ⟨h1,h2⟩|⟨j,m',k'',v'',h1,h2,h3,h4,A⟩
     .refine .inl ⟨?_,by simp[h2]⟩;simp only[eD];rw[q,hs];exact h1
     .refine .inr ⟨j+1,m',k'',v'',by simpa using h1,by simpa using h2,?_,h4,by simp[A]⟩;simp only[eD];rw[q,hs];show eD d k ents (i+1)=_;rw[h3,show i+1+j=i+(j+1) from by omega]
    .cases h
   .cases h
theorem Y_ {str:Bool} {k k':Value} (hk:x_ str k=M) (hb:sR .eql k k'=Z (.bool M)):J3 10000 k' k=M/\k'=k:=by
 cases str with
 |true=>
  cases k<;>simp[x_]at hk;cases k'<;>simp only[sR]at hb<;>try (simp at hb;done)
  simp only[af,Bh]at hb;have:=yL.1 hb;subst this;exact⟨by simp[J3,D9,hb],rfl⟩
 |false=>
  cases k<;>simp[x_]at hk;cases k'<;>simp only[sR]at hb<;>try (simp at hb;done)
  split at hb
  .rename_i hkk;have hkk':=eq_of_beq hkk;subst hkk';simp only[af,Bh,cO]at hb;subst hb;exact⟨by simp[J3],rfl⟩
  .cases hb
theorem ae3 {t kt el:TypeId} {x k y:Operand} {str:Bool} {d:TypeDesc} (F:o.op= .mapUpdate t x k y) (hu:P.underlying t=Z (.map kt el)) (hk:P.underlying kt=Z d) (hd:kd str d) (s:ef (.mup str x k y) e h nx=Z R):gy P o e.get h.get R.eff:=by
 simp only[ef]at s;split at s
 .rename_i id key v D hkx hy;split at s
  .rename_i es hid;split at s
   .rename_i hko;split at s
    .rename_i es' hput;simp only[af]at s;subst s;refine gy.writes hid λφ E h' w a hrd L hp hrep=>?_
     have hrx:=hp x _ (by rw[F];simp[Op.operands]) D;have hrk:=eH (hp k _ (by rw[F];simp[Op.operands]) hkx);have hry:=hp y _ (by rw[F];simp[Op.operands]) hy;generalize A:a.eval x=zz at hrx;cases hrx with
     |@mp _ b hφ=>
      obtain⟨k',q1,_,ob,q2,q3⟩:=hrep.at_ id _ L;rw[hφ]at q1;cases q1;obtain⟨ents,clock,rfl,q4,q5⟩:=q3;have q4:ents.toList.map (·.key)=es.map (·.1):=by unfold Vx at q4;rw[aU rfl]at q4;exact q4
      have q5:∀(j:Nat) x,es[j]? =Z x->∃m,ents[j]? =Z m/\cE φ (tot E φ h') w x.2 m.val:=λj x D=>by
       obtain⟨_,z,I⟩:=q5 j x D;unfold MpV at z;rw[aU rfl]at z;obtain⟨m,z,rfl⟩:=z;exact⟨m,z,I⟩
      have LG:∀(es:Y (Value×AV)) (ents:Array MapEntry) (clock:Nat),ents.toList.map (·.key)=es.map (·.1)->(∀(j:Nat) x,es[j]? =Z x->∃m,ents[j]? =Z m/\cE φ (tot E φ h') w x.2 m.val)->iS φ (tot E φ h') w ⟨0,.mp es⟩ (.map ents clock):=λes ents clock z I=>⟨ents,clock,rfl,by unfold Vx;rw[aU rfl];exact z,λj x D=>by
       obtain⟨m,g3,g4⟩:=I j x D;exact⟨_,by unfold MpV;rw[aU rfl];exact⟨m,g3,rfl⟩,g4⟩⟩
      have hck:=sH (P:=P) hk hd aa key w;have hlen:ents.size=es.length:=by have:=iU ah q4;simpa using this
      rcases UN hd hko es es' ents.toList 0 q4 hput with ⟨h1,rfl⟩|⟨j,m,k',v',h1,h2,h3,h4,rfl⟩
      .refine ⟨.skip,_,b,.map (ents.push {key,val:=a.eval y,born:=clock}) (clock+1),?_,hφ,xH q2 (by simp) (by simp),LG _ _ _ (by simp[q4]) λj q hq=>?_,undef,.inr ⟨rfl,rfl⟩,.f (.raw _)⟩
       .unfold execOp;rw[F];simp[Instr.mapUpdate,run_underlying hu,A,hrk,getObj,j_,q2,hck,r_,run_underlying hk,h1,setObj]
       .rcases bM j es.length with hj|hj
        .rw[bT hj]at hq;obtain⟨m,z,I⟩:=q5 j q hq;exact⟨m,by rw[Array.getElem?_push,aL (by omega)];exact z,I⟩
        .rw[b8 hj]at hq;have hj0:j-es.length=0:=by
          rcases rj (j-es.length) with h0|h0
          .exact h0
          .rw[bJ (by simp;omega)]at hq;cases hq
         rw[hj0]at hq;simp at hq;subst hq;exact⟨_,by rw[Array.getElem?_push,aU (by omega)],hry⟩
      .obtain⟨s1,s2⟩:=Y_ hko h4;subst s2;rw[cj]at h2;rw[bL]at h3;have hjl:j<ents.size:=(cq.1 h2).1;have hmk:m.key=k':=by
        have e1:(ents.toList.map (·.key))[j]? =Z m.key:=by rw[bf,cj,h2];rfl
        rw[q4,bf,h1]at e1;simpa using e1.symm
       refine ⟨.skip,_,b,.map (ents.modify j λe=>{e with key:=k',val:=a.eval y}) clock,?_,hφ,xH q2 (by simp) (by simp),LG _ _ _ ?_ λi q hq=>?_,undef,.inr ⟨rfl,rfl⟩,.f (.raw _)⟩
       .unfold execOp;rw[F];simp[Instr.mapUpdate,run_underlying hu,A,hrk,getObj,j_,q2,hck,r_,run_underlying hk,h3,setObj,h2,hmk,Instr.keyThatStays,s1]
       .apply List.ext_getElem?;intro i;simp only[bf,cj,oH,Array.getElem?_modify];have e2:∀i:Nat,(ents[i]?).map (λm:MapEntry=>m.key)=(es[i]?).map (λp:Value×AV=>p.1):=λi=>by
         have:=iU (λl=>l[i]?) q4;simpa[bf,cj] using this
        by_cases hij:j=i
        .subst hij;simp[h2,show j<es.length by omega]
        .simp only[hij,dq];exact e2 i
       .rw[oH]at hq;rw[Array.getElem?_modify];by_cases hij:j=i
        .subst hij;simp[show j<es.length by omega]at hq;subst hq;exact⟨{m with key:=k',val:=a.eval y},by simp[h2],hry⟩
        .simp only[hij,dq]at hq ⊢;exact q5 i q hq
    .cases s
   .cases s
  .rename_i ty es hid;split at s
   .rename_i n;split at s
    .cases s
    .rename_i hstr;have hstr:str=aa:=by simpa using hstr
     subst hstr;simp only[af]at s;subst s;refine gy.writes hid λφ E h' w a hrd L hp hrep=>?_
     have hrx:=hp x _ (by rw[F];simp[Op.operands]) D;have hrk:=eH (hp k _ (by rw[F];simp[Op.operands]) hkx);have hry:=hp y _ (by rw[F];simp[Op.operands]) hy;generalize A:a.eval x=zz at hrx;cases hrx with
     |@mp _ b hφ=>
      obtain⟨k',q1,_,ob,q2,q3⟩:=hrep.at_ id _ L;rw[hφ]at q1;cases q1;obtain⟨ents,clock,rfl,q4,q5⟩:=q3;unfold Vx at q4;rw[aL (by simp)]at q4;have q5:∀(j:Nat) x,es[j]? =Z x->cE φ (tot E φ h') w x.2 (kj x.1 ents.toList):=λj x D=>by
       obtain⟨_,z,I⟩:=q5 j x D;unfold MpV at z;rw[aL (by simp)]at z;subst z;exact I
      have mk1:∀(ents':Array MapEntry) (clock:Nat),(∀m∈ents'.toList,vp m.key)->(∀k,vp k->(k= .int .i64 n->kj k ents'.toList=a.eval y)/\(k≠ .int .i64 n->kj k ents'.toList=kj k ents.toList))->iS φ (tot E φ h') w ⟨ty+1,.mp (lD n v es)⟩ (.map ents' clock):=λents' clock z I=>⟨ents',clock,rfl,by unfold Vx;rw[aL (by simp),Bq];exact⟨z,q4.2⟩,λj x D=>by
       obtain⟨p,g3,g4,g5,g6⟩:=Es D;have hI:=q4.2 p.1 (cX.2 ⟨p,bg g3,rfl⟩);refine ⟨_,by unfold MpV;rw[aL (by simp)],?_⟩;rw[g4];by_cases e:p.1= .int .i64 n
       .rw[(I _ hI).1 e,g5 e];exact hry
       .rw[(I _ hI).2 e,g6 e];exact q5 j p g3⟩
      have hck:=sH (P:=P) hk hd aa (.int .i64 n) w;rcases DO hd n ents.toList 0 q4.1 with ⟨h1,_,h3⟩|⟨j,m,h2,h3,_,h4,h5⟩
      .refine ⟨.skip,_,b,.map (ents.push {key:=.int .i64 n,val:=a.eval y,born:=clock}) (clock+1),?_,hφ,xH q2 (by simp) (by simp),mk1 _ _ (λm hm=>?_) λk hk=>?_,undef,.inr ⟨rfl,rfl⟩,.f (.raw _)⟩
       .unfold execOp;rw[F];simp[Instr.mapUpdate,run_underlying hu,A,hrk,getObj,j_,q2,hck,r_,run_underlying hk,h1,setObj]
       .rw[Array.toList_push]at hm;rcases bN.1 hm with hm|hm
        .exact q4.1 m hm
        .rw[aI.1 hm];exact⟨n,rfl⟩
       .rw[Array.toList_push];exact h3 k _ rfl hk
      .rw[cj]at h2;rw[bL]at h3;obtain⟨hjl,hjm⟩:=cq.1 h2;have s1:J3 10000 (.int .i64 n) (.int .i64 n)=M:=by simp[J3]
       have hl:(ents.modify j λe=>{e with key:=.int .i64 n,val:=a.eval y}).toList=ents.toList.set j {m with key:=.int .i64 n,val:=a.eval y}:=by
        apply List.ext_getElem?;intro i;simp only[cj,oH,Array.getElem?_modify];by_cases hij:j=i
        .subst hij;simp[h2,hjl,hjm]
        .simp[hij]
       refine ⟨.skip,_,b,.map (ents.modify j λe=>{e with key:=.int .i64 n,val:=a.eval y}) clock,?_,hφ,xH q2 (by simp) (by simp),mk1 _ _ (λq hm=>?_) λk hk=>?_,undef,.inr ⟨rfl,rfl⟩,.f (.raw _)⟩
       .unfold execOp;rw[F];simp[Instr.mapUpdate,run_underlying hu,A,hrk,getObj,j_,q2,hck,r_,run_underlying hk,h3,setObj,h2,h4,Instr.keyThatStays,s1]
       .rw[hl]at hm;rcases Lm hm with hm|rfl
        .exact q4.1 q hm
        .exact⟨n,rfl⟩
       .rw[hl];exact h5 k _ rfl hk
   .cases s
  .cases s
 .cases s
end
section
variable {P:Program} {o:Oper} {e:yO} {h:nR} {nx:Nat} {R:zN}
theorem OW {t:TypeId} {d:TypeDesc} (hu:P.underlying t=Z d) (hd:(match d with|.int _=>M|.bool=>M|.string=>M|_=>aa)=M) (cs:Array Value) (j:Nat) (v:Value) (hv:cs[j]? =Z v) (w:World):(part t cs j).run P w= .ok v w:=by
 unfold part;simp only[isAgg,ey,run_underlying hu,cF];cases d<;>simp at hd<;>simp[hv]
theorem Wn {t:TypeId} {d:TypeDesc} (hu:P.underlying t=Z d) (hd:(match d with|.int _=>M|.bool=>M|.string=>M|_=>aa)=M) {x y:FV} {b:Bool} (hxy:wE d x y=Z b) {u v:Value} (z:x= .raw u) (s:y= .raw v) (n:Nat) (w:World):(Op.equalIn (n+1) t u v).run P w= .ok b w:=by
 subst z;subst s;cases d<;>simp at hd<;>cases u<;>cases v<;>simp only[wE]at hxy<;>first|(cases hxy;done)|skip
 .simp only[af]at hxy;subst hxy;simp[Op.equalIn,run_underlying hu]
 .split at hxy
  .rename_i hk;have q:=eq_of_beq hk;subst q;simp only[af]at hxy;subst hxy;simp[Op.equalIn,run_underlying hu]
  .cases hxy
 .simp only[af]at hxy;subst hxy;simp[Op.equalIn,run_underlying hu,D9]
abbrev Iv (n:Nat) (xs d:Array Value) (f:Field) (_:J Bool×Unit):Sem (ForInStep (J Bool×Unit)):=
 if f.name≠ "_" then do
  let a←part f.type xs f.offset
  let b←part f.type d f.offset
  let c←Op.equalIn (n+1) f.type a b
  if (!c)=M then pure (ForInStep.done (Z aa,())) else pure (ForInStep.yield (U,()))
 else pure (ForInStep.yield (U,()))
theorem L1 (n:Nat) (w:World) (xs s:Array Value):∀(fs:Y Field) (ds:Y TypeDesc) (a b:Y FV) (k:Nat) (r:Bool),ru P k fs=Z ds->
 (∀(j:Nat) x u,a[j]? =Z x->xs[k+j]? =Z u->x= .raw u\/∀v,x≠ .raw v)->(∀(j:Nat) x u,b[j]? =Z x->s[k+j]? =Z u->x= .raw u\/∀v,x≠ .raw v)->(∀(j:Nat),j<a.length->k+j<xs.size)->(∀(j:Nat),j<b.length->k+j<s.size)->oV ds a b=Z r->
 (forIn fs (U,()) (Iv n xs s)).run P w= .ok (if r then (U,()) else (Z aa,())) w
 |[],ds,a,b,k,r,hp,_,_,_,_,he=>by
  simp only[ru,af]at hp;subst hp;cases a<;>cases b<;>simp[oV]at he;subst he;simp
 |f::fs,ds,a,b,k,r,hp,L,hb,hla,hlb,he=>by
  simp only[ru]at hp;split at hp
  .rename_i d ds' hu I;split at hp
   .rename_i hc;simp only[ak,bne_iff_ne,ne_eq,cO]at hc;obtain⟨⟨hn,hof⟩,hd⟩:=hc;simp only[af]at hp;subst hp;cases a with
    |nil=>cases b<;>simp[oV]at he
    |cons x a=>
     cases b with
     |nil=>simp[oV]at he
     |cons y b=>
      simp only[oV]at he;have F:k<xs.size:=by have:=hla 0 (by simp);omega
      have D:k<s.size:=by have:=hlb 0 (by simp);omega
      have hraw:∀(z:FV) (q:Value),(z= .raw q\/∀v,z≠ .raw v)->(∃v,z= .raw v)->z= .raw q:=by
       rintro z q (h|h) ⟨v,hv⟩
       .exact h
       .exact dP hv (h v)
      have hxr:∀A,wE d x y=Z A->x= .raw xs[k]/\y= .raw s[k]:=by
       intro A hbb;have hrr:(∃v,x= .raw v)/\∃v,y= .raw v:=by
        unfold wE at hbb;split at hbb
        .exact⟨⟨_,rfl⟩,⟨_,rfl⟩⟩
        .exact⟨⟨_,rfl⟩,⟨_,rfl⟩⟩
        .exact⟨⟨_,rfl⟩,⟨_,rfl⟩⟩
        .cases hbb
       exact⟨hraw x _ (L 0 x _ rfl (by simp[F])) hrr.1,hraw y _ (hb 0 y _ rfl (by simp[D])) hrr.2⟩
      have hstep:∀A,wE d x y=Z A->(Iv n xs s f (U,())).run P w= .ok (if A then ForInStep.yield (U,()) else ForInStep.done (Z aa,())) w:=by
       intro A hbb;obtain⟨h1,h2⟩:=hxr A hbb;have p1:=OW hu (by cases d<;>simp[Hn]at hd<;>rfl) xs k xs[k] (by simp[F]) w;have p2:=OW hu (by cases d<;>simp[Hn]at hd<;>rfl) s k s[k] (by simp[D]) w;have p3:=Wn hu (by cases d<;>simp[Hn]at hd<;>rfl) hbb h1 h2 n w;unfold Iv;rw[aU hn,hof];simp only[ey,p1,p2,p3,cF];cases A<;>simp
      rw[List.forIn_cons];simp only[ey];split at he
      .rename_i hbb;rw[hstep M hbb];simp only[cF,bE];exact L1 n w xs s fs ds' a b (k+1) r I (λj x u h1 h2=>L (j+1) x u (by simpa using h1) (by rw[<- h2];congr 1;omega)) (λj x u h1 h2=>hb (j+1) x u (by simpa using h1) (by rw[<- h2];congr 1;omega))
        (λj hj=>by have:=hla (j+1) (by simpa using hj);omega) (λj hj=>by have:=hlb (j+1) (by simpa using hj);omega) he
      .rename_i hbb;rw[hstep aa hbb];simp only[af]at he;subst he;simp
      .cases he
   .cases hp
  .cases hp
theorem Wm {t:TypeId} {fs:Array Field} (hu:P.underlying t=Z (.struct fs)) (hs:P.stoodInHeld t=aa) {ds:Y TypeDesc} (hp:ru P 0 fs.toList=Z ds) (xs d:Array Value) {a b:Y FV} {r:Bool}
 (q:∀(j:Nat) x u,a[j]? =Z x->xs[j]? =Z u->x= .raw u\/∀v,x≠ .raw v) (hb:∀(j:Nat) x u,b[j]? =Z x->d[j]? =Z u->x= .raw u\/∀v,x≠ .raw v) (hla:a.length=xs.size) (hlb:b.length=d.size) (he:oV ds a b=Z r) (w:World):
 (Op.equal t (.agg xs) (.agg d)).run P w= .ok r w:=by
 have key:∀n,(Op.equalIn (n+2) t (.agg xs) (.agg d)).run P w= .ok r w:=by
  intro n;rw[Op.equalIn];have h1:=L1 (P:=P) n w xs d fs.toList ds a b 0 r hp (λj x u h1 h2=>q j x u h1 (by simpa using h2)) (λj x u h1 h2=>hb j x u h1 (by simpa using h2)) (λj hj=>by omega) (λj hj=>by omega) he;rw[Array.forIn_toList]at h1;simp only[ey,run_underlying hu,cF,program,j_,hs,bG,dq];have h2:(forIn fs (U,()) (λf __s=>Iv n xs d f __s)).run P w= .ok (if r then (U,()) else (Z aa,())) w:=h1;unfold Iv at h2;rw[h2];cases r<;>simp
 exact key 9998
theorem P_ {t:TypeId} {fs:Array Field} (hu:P.underlying t=Z (.struct fs)) {ds:Y TypeDesc} (hp:ru P 0 fs.toList=Z ds):P.eqGuardType P.depth t=aa:=by
 have key:∀(fs:Y Field) (k:Nat) (ds:Y TypeDesc),ru P k fs=Z ds→∀d,(fs.any λf=>f.name != "_" &&P.eqGuardType (d+1) f.type)=aa:=by
  intro fs;induction fs with
  |nil=>intros;rfl
  |cons f fs z=>
   intro k ds hp d;simp only[ru]at hp;split at hp
   .rename_i A ds' q s;split at hp
    .rename_i hc;simp only[ak]at hc;have:P.eqGuardType (d+1) f.type=aa:=by
      unfold Program.eqGuardType;rw[q];have:=hc.2;cases A<;>simp[Hn]at this<;>rfl
     simp only[List.any_cons,this,tZ,Bool.false_or];exact z (k+1) ds' s d
    .cases hp
   .cases hp
 unfold Program.depth Program.eqGuardType;rw[hu];simp only[];rw[← Array.any_toList];exact key fs.toList 0 ds hp _
theorem ae5 {t t':TypeId} {op:BinOp} {neg:Bool} {x y:Operand} {fs:Array Field} {ds:Y TypeDesc} (A:o.op= .binOp op t x y t') (hop:op=if neg then .neq else .eql) (hu:P.underlying t=Z (.struct fs)) (hs:P.stoodInHeld t=aa) (hp:ru P 0 fs.toList=Z ds) (d:ef (.eqs neg ds x y) e h nx=Z R):gy P o e.get h.get R.eff:=by
 simp only[ef]at d;split at d
 .rename_i a b q F;split at d
  .rename_i r hr;rw[dt d];refine gy.reads λφ E h' w ac _ hpp _=>?_
   have h1:=hpp x _ (by rw[A];simp[Op.operands]) q;have h2:=hpp y _ (by rw[A];simp[Op.operands]) F;generalize hzx:ac.eval x=zx at h1;generalize hzy:ac.eval y=zy at h2;have rawOr:∀(l:Y FV) (vs:ξ),(∀(j:Nat) x v,l[j]? =Z x->vs[j]? =Z v->mj (tot E φ h') w x v)->∀(j:Nat) x u,l[j]? =Z x->vs.toArray[j]? =Z u->x= .raw u\/∀v,x≠ .raw v:=by
    intro l vs hr j x u q hu;have:=hr j x u q (by simpa using hu);cases this with
    |raw v=>exact .inl rfl
    |nil=>exact .inr (by simp)
    |sl=>exact .inr (by simp)
    |ptr=>exact .inr (by simp)
    |agg=>exact .inr (by simp)
   cases h1 with
   |f h1=>
    cases h1 with
    |agg _ vs hl hcl z=>
     cases h2 with
     |f h2=>
      cases h2 with
      |agg _ us D hcl' s=>
       have heq:=Wm hu hs hp vs.toArray us.toArray (rawOr a vs z) (rawOr b us s) (by simp[hl]) (by simp[D]) hr w;refine ⟨_,?_,.f (.raw _)⟩;have hg:=P_ hu hp;unfold execOp;rw[A];simp only[hzx,hzy];subst hop;cases neg<;>simp[eqGuard,program,j_,hg,binOp,heq]
  .cases d
 .cases d
end
theorem bind_some {α β:Type} {x:J α} {f:α->J β} {y:β} (h:x.bind f=Z y):∃a,x=Z a/\f a=Z y:=by
 cases x with
 |none=>cases h
 |some a=>exact⟨a,rfl,h⟩
theorem map_some {α β:Type} {x:J α} {f:α->β} {y:β} (h:x.map f=Z y):∃a,x=Z a/\f a=y:=by
 cases x with
 |none=>cases h
 |some a=>exact⟨a,rfl,by simpa using h⟩
theorem l7 {c:Bool} {β:Type} {x:J β} {y:β} (h:(if c then x else U)=Z y):c=M/\x=Z y:=by
 cases c with
 |true=>exact⟨rfl,by simpa using h⟩
 |false=>simp at h
theorem Hq {P:Program} {o:Oper} {e:yO} {h:nR} {nx:Nat} {s:Xh} {R:zN} (hc:dk P o.op=Z s) (D:ef s e h nx=Z R):gy P o e.get h.get R.eff:=by
 unfold dk at hc;split at hc
 .rename_i x A;simp only[af]at hc;subst hc;exact aid (.inl A) D
 .rename_i x A;simp only[af]at hc;subst hc;exact aid (.inr A) D
 .rename_i c a b A;simp only[af]at hc;subst hc;exact afg A D
 .rename_i t A;obtain⟨z,h1,hc⟩:=bind_some hc;obtain⟨h2,hc⟩:=l7 hc;simp only[af]at hc;subst hc;exact acp A h1 h2 D
 .rename_i t x A;simp only[af]at hc;subst hc;exact aip A D
 .rename_i t ps A;split at hc
  .rename_i fs hu;obtain⟨z,h1,hc⟩:=bind_some hc;obtain⟨h2,hc⟩:=l7 hc;obtain⟨ps',h3,rfl⟩:=map_some hc;simp only[ak]at h2;exact Vu A h1 h2.1 h3 (.inl ⟨fs,hu,h2.2⟩) D
  .rename_i n el hu;obtain⟨z,h1,hc⟩:=bind_some hc;obtain⟨h2,hc⟩:=l7 hc;obtain⟨ps',h3,rfl⟩:=map_some hc;simp only[ak]at h2;obtain⟨sz,h4⟩:=iI.1 h2.2;exact Vu A h1 h2.1 h3 (.inr ⟨n,el,sz,hu,h4⟩) D
  .cases hc
 .rename_i t n ps A;obtain⟨el,h1,hc⟩:=bind_some hc;obtain⟨z,h2,hc⟩:=bind_some hc;obtain⟨sz,h3,hc⟩:=bind_some hc;obtain⟨h4,hc⟩:=l7 hc;obtain⟨ps',I,rfl⟩:=map_some hc;simp only[ak,cO,bne_iff_ne]at h4;exact aio A (rY h1) h2 h3 h4.1.1.1 h4.1.1.2 h4.2 (a9 h4.1.2) I D
 .rename_i t x A;obtain⟨sz,h1,hc⟩:=bind_some hc;obtain⟨ag,h2,rfl⟩:=map_some hc;exact afj A h1 h2 D
 .rename_i t x v A;obtain⟨sz,h1,rfl⟩:=map_some hc;exact aco A h1 D
 .rename_i x A;simp only[af]at hc;subst hc;exact afh A D
 .rename_i op t x y t' A;split at hc
  .simp only[af]at hc;subst hc;exact ae7 A D
  .simp only[af]at hc;subst hc;exact ae7 A D
  .rename_i hu;split at hc
   .simp only[af]at hc;subst hc;exact ae6 (neg:=aa) A rfl hu D
   .simp only[af]at hc;subst hc;exact ae6 (neg:=M) A rfl hu D
   .cases hc
  .rename_i el hu;split at hc
   .simp only[af]at hc;subst hc;exact Vt (neg:=aa) A rfl rfl hu D
   .simp only[af]at hc;subst hc;exact Vt (neg:=M) A rfl rfl hu D
   .cases hc
  .rename_i fs hu;obtain⟨ds,h1,hc⟩:=bind_some hc;unfold Yj at h1;rw[hu]at h1;simp only[]at h1;split at h1
   .cases h1
   .rename_i hst;have hst:P.stoodInHeld t=aa:=by simpa using hst
    split at hc
    .simp only[af]at hc;subst hc;exact ae5 (neg:=aa) A rfl hu hst h1 D
    .simp only[af]at hc;subst hc;exact ae5 (neg:=M) A rfl hu hst h1 D
    .cases hc
  .cases hc
 .rename_i t x A;simp only[af]at hc;subst hc;exact aib A D
 .rename_i t x A;split at hc
  .simp only[af]at hc;subst hc;exact aic A D
  .cases hc
 .rename_i s' d x A;split at hc
  .rename_i k k' h1 h2;simp only[af]at hc;subst hc;exact afp A h1 h2 D
  .cases hc
 .rename_i t l c A;obtain⟨el,h1,hc⟩:=bind_some hc;obtain⟨z,h2,hc⟩:=bind_some hc;obtain⟨sz,h3,hc⟩:=bind_some hc;obtain⟨b,I,hc⟩:=bind_some hc;obtain⟨h4,hc⟩:=l7 hc;simp only[ak,cO,bne_iff_ne]at h4;simp only[af]at hc;subst hc;exact afi A (rY h1) h2 h3 I h4.1.1 h4.1.2 h4.2 D
 .rename_i t x lo hi mx A;obtain⟨el,h1,hc⟩:=bind_some hc;obtain⟨sz,h2,rfl⟩:=map_some hc;exact ai8 A (rY h1) h2 D
 .rename_i t x k A;split at hc
  .rename_i fs hu;obtain⟨f,h1,hc⟩:=bind_some hc;obtain⟨sz,h2,hc⟩:=bind_some hc;obtain⟨h3,hc⟩:=l7 hc;simp only[af]at hc;subst hc;exact ail A hu h1 h2 (by simpa using h3) D
  .cases hc
 .rename_i t x k A;split at hc
  .rename_i fs hu;obtain⟨f,h1,hc⟩:=bind_some hc;obtain⟨sz,h2,hc⟩:=bind_some hc;obtain⟨ag,h3,rfl⟩:=map_some hc;exact aik A hu h1 h2 h3 D
  .cases hc
 .rename_i t x i A;split at hc
  .rename_i el hu;obtain⟨sz,h1,rfl⟩:=map_some hc;exact aij A hu h1 D
  .rename_i n el hu;obtain⟨sz,h1,rfl⟩:=map_some hc;exact afn A hu h1 D
  .cases hc
 .rename_i t x i A;split at hc
  .rename_i n el hu;obtain⟨sz,h1,hc⟩:=bind_some hc;obtain⟨ag,h2,rfl⟩:=map_some hc;exact aii A hu h1 h2 D
  .rename_i hu;simp only[af]at hc;subst hc;exact aff A hu D
  .cases hc
 .rename_i x i A;simp only[af]at hc;subst hc;exact aim A D
 .rename_i f first caps A
  obtain⟨h1,hc⟩:=l7 hc;simp only[af]at hc;subst hc;have h2:first=#[]:=by simpa using h1
  subst h2;exact aif A D
 .rename_i t A;split at hc
  .simp only[af]at hc;subst hc;exact aie A D
  .cases hc
 .rename_i t x k ok A;split at hc
  .rename_i L el hu;split at hc
   .rename_i q z h1 h2;obtain⟨h3,hc⟩:=l7 hc;simp only[af]at hc;subst hc;exact ae4 (str:=aa) A hu h1 ⟨q,rfl⟩ h2 D
   .rename_i z h1 h2;obtain⟨h3,hc⟩:=l7 hc;simp only[af]at hc;subst hc;exact ae4 (str:=M) A hu h1 rfl h2 D
   .cases hc
  .cases hc
 .rename_i t m k v A;split at hc
  .rename_i L el hu;split at hc
   .rename_i q h1;simp only[af]at hc;subst hc;exact ae3 (str:=aa) A hu h1 ⟨q,rfl⟩ D
   .rename_i h1;simp only[af]at hc;subst hc;exact ae3 (str:=M) A hu h1 rfl D
   .cases hc
  .cases hc
 .rename_i t x A;split at hc
  .rename_i hu;simp only[af]at hc;subst hc;exact ai9 A hu D
  .cases hc
 .rename_i x A;simp only[af]at hc;subst hc;exact aia A D
 .rename_i c A;obtain⟨callee,args,argTypes⟩:=c;have arr:∀{α:Type} {x:Array α} {l:Y α},x.toList=l->x=l.toArray:=λh=>by rw[<- h]
  unfold Q0 at hc;simp only[]at hc;split at hc
  .split at hc
   .rename_i x t h1 h2;rw[arr h1,arr h2]at A;split at hc
    .rename_i el hu;simp only[af]at hc;subst hc;exact afm A hu D
    .rename_i hu;simp only[af]at hc;subst hc;exact afl A hu D
    .rename_i k v hu;simp only[af]at hc;subst hc;exact afk A hu D
    .cases hc
   .cases hc
  .split at hc
   .rename_i x y h1;rw[arr h1]at A;simp only[af]at hc;subst hc;exact aih A D
   .cases hc
  .split at hc
   .rename_i x y h1;rw[arr h1]at A;simp only[af]at hc;subst hc;exact aig A D
   .cases hc
  .split at hc
   .rename_i d x t u h1 h2;rw[arr h1,arr h2]at A;split at hc
    .rename_i el el' h1 h2;obtain⟨sz,h3,hc⟩:=bind_some hc;obtain⟨h4,hc⟩:=l7 hc;simp only[af]at hc;subst hc;exact afo A (rY h1) (rY h2) h3 D
    .cases hc
   .cases hc
  .split at hc
   .rename_i x t h1 h2;rw[arr h1,arr h2]at A;obtain⟨el,h3,hc⟩:=bind_some hc;obtain⟨z,h4,hc⟩:=bind_some hc;obtain⟨sz,I,hc⟩:=bind_some hc;obtain⟨F,hc⟩:=l7 hc;simp only[ak,cO,bne_iff_ne,ne_eq]at F;simp only[af]at hc;subst hc;exact ain A (rY h3) h4 F.1.1 F.1.2 F.2 D
   .cases hc
  .split at hc
   .rename_i s' x t u h1 h2;rw[arr h1,arr h2]at A;split at hc
    .rename_i el el' h1 h2;obtain⟨sz,h3,hc⟩:=bind_some hc;obtain⟨b,h4,hc⟩:=bind_some hc;obtain⟨z,I,hc⟩:=bind_some hc;obtain⟨F,hc⟩:=l7 hc;simp only[ak,cO,bne_iff_ne]at F;simp only[af]at hc;subst hc;exact aiq A (rY h1) (rY h2) h3 h4 I F.2 F.1 D
    .cases hc
   .cases hc
  .cases hc
 .cases hc
theorem l8 {p:Nat->Bool}:∀{l:Y AV},AV.allL p l=M->∀x∈l,AV.all p x=M
 |[],_,x,d=>by cases d
 |y::l,h,x,d=>by
  simp only[AV.allL,ak]at h;rcases bu.1 d with rfl|d
  .exact h.1
  .exact l8 h.2 x d
theorem cE.restrict {φ φ':PM} {O O':Nat->Prop} {w:World} {p:Nat->Bool} (hs:∀i k,p i=M->φ i=Z k->φ' i=Z k) (s:∀k,O' k->O k) {x:AV} {v:Value} (h:cE φ O w x v):x.all p=M->cE φ' O' w x v:=by
 induction h with
 |f h=>intro _;exact .f (h.ext (O':=O') (Gu.refl O w) λk _ hk=>s k hk)
 |ptr h=>intro hp;exact .ptr (hs _ _ hp h)
 |sl h hn hc=>intro hp;exact .sl (hs _ _ hp h) hn hc
 |row h hn hc hsh=>intro hp;exact .row (hs _ _ hp h) hn hc hsh
 |emp=>intro _;exact .emp
 |anyb=>intro _;exact .anyb
 |ful h=>intro _;exact .ful (h.ext (O':=O') (Gu.refl O w) λk _ hk=>s k hk)
 |mp h=>intro hp;exact .mp (hs _ _ hp h)
 |agg hl hcl hr q=>intro hp;exact .agg hl hcl λj x v d hv=>q j x v d hv (l8 hp x (bg d))
 |tup hl hr q=>intro hp;exact .tup hl λj x v d hv=>q j x v d hv (l8 hp x (bg d))
 |clo hl hr q=>intro hp;exact .clo hl λj x v d hv=>q j x v d hv (l8 hp x (bg d))
theorem iS.restrict {φ φ':PM} {O O':Nat->Prop} {w w':World} {p:Nat->Bool} (hk:∀x v,x.all p=M->cE φ O w x v->cE φ' O' w' x v) {b:uT} {o:Obj} (hb:b.c.all p=M) (h:iS φ O w b o):iS φ' O' w' b o:=by
 unfold iS at h ⊢;cases hc:b.c with
 |fz l=>
  rw[hc]at h;obtain⟨arr,h1,h2,h3⟩:=h;exact⟨arr,h1,h2,λj x z=>by
   obtain⟨a,v,c,d⟩:=h3 j x z;refine ⟨a,v,c,hk _ _ ?_ d⟩;simp only[BC.get]at z;cases hl:l[j]? with
   |none=>rw[hl]at z;cases z
   |some q=>rw[hl]at z;simp at z;subst z;rfl⟩
 |mx l=>
  rw[hc]at h hb;obtain⟨arr,h1,h2,h3⟩:=h;exact⟨arr,h1,h2,λj x z=>by
   obtain⟨a,v,c,d⟩:=h3 j x z;exact⟨a,v,c,hk _ _ (l8 hb x (bg z)) d⟩⟩
 |mp es=>
  rw[hc]at h hb;obtain⟨e,c,h1,h2,h3⟩:=h;exact⟨e,c,h1,h2,λj x z=>by
   obtain⟨m,a,b⟩:=h3 j x z;exact⟨m,a,hk _ _ (l8 hb x.2 (cX.2 ⟨x,bg z,rfl⟩)) b⟩⟩
 |it s q=>rw[hc]at h;exact h
def Zt (m:Nat):ι:=(fd (m+1)).filter λi=>aO m i
theorem LJ {m i:Nat}:i∈Zt m↔aO m i=M:=by
 unfold Zt;rw[Ej,ng];constructor
 .exact λh=>h.2
 .intro h;refine ⟨?_,h⟩;have h1:=Nat.ge_two_pow_of_testBit h;have h2:=Nat.lt_two_pow_self (n:=i);omega
def jZ (φ:PM) (O:Nat->Prop) (w:World):Y AV->ξ->Prop
 |[],[]=>True
 |x::xs,v::vs=>cE φ O w x v/\jZ φ O w xs vs
 |_,_=>False
theorem jZ.length {φ:PM} {O:Nat->Prop} {w:World}:∀{args:Y AV} {vs:ξ},jZ φ O w args vs->vs.length=args.length
 |[],[],_=>rfl
 |[],_::_,h=>h.elim
 |_::_,[],h=>h.elim
 |_::_,_::_,h=>by simp[jZ.length h.2]
theorem jZ.mono {φ φ':PM} {O O':Nat->Prop} {w w':World} {p:Nat->Bool} (hk:∀x v,x.all p=M->cE φ O w x v->cE φ' O' w' x v):∀{args:Y AV} {vs:ξ},AV.allL p args=M->jZ φ O w args vs->jZ φ' O' w' args vs
 |[],[],_,_=>trivial
 |[],_::_,_,h=>h.elim
 |_::_,[],_,h=>h.elim
 |x::xs,_::_,hp,h=>by
  simp only[AV.allL,ak]at hp;exact⟨hk _ _ hp.1 h.1,jZ.mono hk hp.2 h.2⟩
theorem jZ.append {φ:PM} {O:Nat->Prop} {w:World}:∀{xs d:Y AV} {vs us:ξ},jZ φ O w xs vs->jZ φ O w d us->jZ φ O w (xs++d) (vs++us)
 |[],_,[],_,_,h=>h
 |[],_,_::_,_,h,_=>h.elim
 |_::_,_,[],_,h,_=>h.elim
 |_::_,_,_::_,_,h,h'=>⟨h.1,jZ.append h.2 h'⟩
theorem jZ.of {φ:PM} {O:Nat->Prop} {w:World}:∀{xs:Y AV} {vs:ξ},vs.length=xs.length->(∀(j:Nat) x v,xs[j]? =Z x->vs[j]? =Z v->cE φ O w x v)->jZ φ O w xs vs
 |[],[],_,_=>trivial
 |[],_::_,h,_=>by simp at h
 |_::_,[],h,_=>by simp at h
 |x::xs,v::vs,hl,h=>⟨h 0 x v rfl rfl,jZ.of (by simpa using hl) λj x v d hv=>h (j+1) x v (by simpa using d) (by simpa using hv)⟩
def CZ (P:Program) (f:FuncId):Prop:=∃fn,P.funcs[f]? =Z fn∧fn.body.isNone=aa∧(fn.name== "runtime.NumGoroutine")=aa
theorem Nt {φ:PM} {E:Nat->Prop} {h':HF} {w:World} {a:Act} {e:yO} {o:Oper} (hp:RP φ E h' w a e o):∀(xs:Y Operand) (d:Y AV),(∀x∈xs,x∈o.op.operands)->U9 e xs=Z d->jZ φ (tot E φ h') w d (xs.map a.eval)
 |[],d,_,h=>by simp only[U9,af]at h;subst h;trivial
 |x::xs,d,hm,h=>by
  simp only[U9]at h;split at h
  .rename_i y q;split at h
   .rename_i ys' hys;simp only[af]at h;subst h;exact⟨hp x y (hm x (eo ..)) q,Nt hp xs ys' (λx s=>hm x (di _ s)) hys⟩
   .cases h
  .cases h
theorem vY {P:Program} {f:FuncId} (hc:CZ P f) (args:Array Value) (w:World):(callFunc f args).run P w= .ok (.enter f args) w:=by
 obtain⟨fn,h1,h2,h3⟩:=hc;have d:fn.name≠ "runtime.NumGoroutine" :=by simpa using h3
 have q:fn.body≠U:=by intro h;rw[h]at h2;cases h2
 simp[callFunc,program,j_,h1,q,d]
theorem U4:∀(fs:Y Z_) (i:Nat),Wk fs i=fs[i]?
 |[],i=>by simp[Wk]
 |f::fs,0=>rfl
 |f::fs,i+1=>by simp[Wk,U4 fs i]
theorem wK {a b:Nat} (h:CC a b=M) (i:Nat) (d:aO a i=M):aO b i=aa:=by
 unfold CC at h;have h0:a&&&b=0:=au h;have:=Nat.testBit_and a b i;rw[h0,d]at this;simpa using this.symm
structure Ctx where
 n0:Nat
 φ:PM
 E:Nat->Prop
 h:HF
 w:World
def Z7 (P:Program) (d:Deferred):Prop:=∀w:World,∃s cap f args,d.target= .fn s cap/\(invoke d.target d.args).run P w= .ok (.enter f args) w/\
 CallsD P f args .returning w λe q w'=>(∃v,e= .returned v)/\q= .returning/\w'=w
structure Cfg (P:Program) (C:Ctx) (nt:Nat) (s:IS) (a:Act) (w:World):Prop where
 ex:∃φ,iT C.φ φ C.h s.h.get C.w w/\qG φ C.E s.h.get w/\Mx φ (tot C.E φ s.h.get) w s.e.get a/\(∀i k,φ i=Z k->i<s.nx)/\∀i k,φ i=Z k->C.φ i=Z k\/C.n0<=i
 low:C.n0<=s.nx
 inert:∀d∈a.defers,Z7 P d
 size:a.tmps.size=nt
theorem Cfg.bool {P:Program} {C:Ctx} {nt:Nat} {s:IS} {a:Act} {w:World} (c:Cfg P C nt s a w) {t:Nat} {b:Bool} (ht:s.e.get t=Z (.f (.raw (.bool b)))):a.eval (.tmp t)= .bool b:=by
 obtain⟨φ,_,_,en,_,_⟩:=c.ex;exact eH (en t _ ht)
theorem Bn {P:Program} {c:Code} {Q:Exit->Act->World->Prop} (I:Nat->Act->World->Prop) (round:∀n a w,I n a w->c.wp P (Exit.then (λa' w'=>∃m,m<n/\I m a' w') Q) a w) {n:Nat} {a:Act} {w:World} (h0:I n a w):(Code.loop c).wp P Q a w:=by
 have least:∀(n:Nat) (a:Act) (w:World),I n a w->∃m,I m a w/\∀k,I k a w->m<=k:=by
  intro n;induction n using Nat.strongRecOn with
  |_ n s=>
   intro a w hn;by_cases d:∃k,k<n/\I k a w
   .obtain⟨k,hk,q⟩:=d;exact s k hk a w q
   .exact⟨n,hn,λk hk=>Nat.le_of_not_lt λhlt=>d ⟨k,hlt,hk⟩⟩
 have pick:∀a w,∃m,(∃n,I n a w)->I m a w/\∀k,I k a w->m<=k:=λa w=>by
  by_cases d:∃n,I n a w
  .obtain⟨n,hn⟩:=d;obtain⟨m,hm⟩:=least n a w hn;exact⟨m,λ_=>hm⟩
  .exact⟨0,λh=>dP h d⟩
 let μ:Act->World->Nat:=λa w=>Classical.choose (pick a w)
 have hμ:∀a w,(∃n,I n a w)->I (μ a w) a w/\∀k,I k a w->μ a w<=k:=λa w=>Classical.choose_spec (pick a w)
 refine wp_loop (λa w=>∃n,I n a w) μ ⟨n,h0⟩ λa w q=>?_
 refine wp_mono (round (μ a w) a w (hμ a w q).1) λe a' w' he=>?_
 cases e with
 |normal=>
  obtain⟨m,hm,hIm⟩:=he;exact⟨⟨m,hIm⟩,Nat.lt_of_le_of_lt ((hμ a' w' ⟨m,hIm⟩).2 m hIm) hm⟩
 |exit id=>exact he
 |goto l=>exact he
 |ret=>exact he
 |panic c=>exact he
 |outgrown=>exact he
def Ex.to:Ex->Exit
 |.normal=>.normal
 |.exit id=>.exit id
 |.ret=>.ret
def JV (P:Program) (inert:FuncId->Bool):Prop:=∀f,inert f=M->CZ P f/\∀(args:Array Value) (w:World),CallsD P f args .returning w λe d w'=>(∃v,e= .returned v)/\d= .returning/\w'=w
theorem Qi {P:Program} {C:Ctx} {nt:Nat} {inert:FuncId->Bool} (hin:JV P inert) {s:IS} {a:Act} {w:World} (c:Cfg P C nt s a w) {id:Nat} {ops:Array Oper} {dr:Bool} {f:FuncId} {caps:Y Operand} {t:Nat} (hd:(ops.toList.all λo=>match o.dst with|some d=>decide (d<nt)|none=>M)=M) (hdf:CE ops dr=Z (f,caps,t))
 {l:Y AV} (hl:U9 s.e caps=Z l) (hi:inert f=M) {Q:Exit->Act->World->Prop} (hQ:∀a w,Cfg P C nt ⟨s.e.put (Z t) (.clo f l),s.h,s.nx,s.wr⟩ a w->Q .normal a w):(Code.region id ops dr).wp P Q a w:=by
 unfold CE at hdf;split at hdf
 .rename_i p q hops;split at hdf
  .rename_i f' first caps' t1 cl hpo hpg hpd hqo hqg hqd
   split at hdf
   .rename_i t2 hcl hca;split at hdf
    .rename_i hcond;simp only[ak]at hcond;obtain⟨h1,h2⟩:=hcond;have h1:=au h1;have h2:first=#[]:=by simpa using h2
     simp only[af,aC]at hdf;obtain⟨rfl,rfl,rfl⟩:=hdf;subst h1;subst h2;have hops':ops=#[p,q]:=by rw[<- Array.toArray_toList (xs:=ops),hops]
     obtain⟨φ,m,r,en,dm⟩:=c.ex;obtain⟨hcb,hincalls⟩:=hin f' hi;have htn:t1<nt:=by
      have:=gj.1 hd p (by rw[hops];simp);rw[hpd]at this;simpa using this
     have hrelL:jZ φ (tot C.E φ s.h.get) w l (caps'.toList.map a.eval):=by
      have hp':RP φ C.E s.h.get w a s.e p:=λx y F I=>rG r (xs:=p.op.operands) (λt _ y I=>en t y I) F I
      exact Nt hp' caps'.toList l (λx F=>by rw[hpo];simpa[Op.operands] using F) hl
     have hcm:caps'.map a.eval=(caps'.toList.map a.eval).toArray:=by apply J4;simp
     let A:Value:=.func (.func f') #[] (caps'.map a.eval)
     have hrel:cE φ (tot C.E φ s.h.get) w (.clo f' l) A:=by
      simp only[A];rw[hcm];refine .clo (hrelL.length) ?_;have:∀(xs:Y AV) (vs:ξ),jZ φ (tot C.E φ s.h.get) w xs vs->∀(j:Nat) x v,xs[j]? =Z x->vs[j]? =Z v->cE φ (tot C.E φ s.h.get) w x v:=by
       intro xs;induction xs with
       |nil=>intro vs _ j x v F;simp at F
       |cons y xs ih=>
        intro vs h j x v F hv;cases vs with
        |nil=>exact h.elim
        |cons u vs=>
         cases j with
         |zero=>simp at F hv;subst F;subst hv;exact h.1
         |succ j=>exact ih vs h.2 j x v (by simpa using F) (by simpa using hv)
      exact this _ _ hrelL
     refine wp_region ?_;have L:fd ops.size=[0,1]:=by rw[hops'];rfl
     rw[L];have e0:ops[0]? =Z p:=by rw[hops'];rfl
     have e1:ops[1]? =Z q:=by rw[hops'];rfl
     rw[wpOps_cons];have hexec1:(execOp a.eval p).run P w= .ok (.value A) w:=by
      unfold execOp;rw[hpo];simp[Instr.makeFunc,A]
     have w1:iH p (yielded ops a.tmps)=M:=by unfold iH;rw[hpg]
     unfold wpOp;simp only[e0,w1,bE];left;unfold Gy;rw[hexec1];show wpOps P ops Q [1] (a.put p.dst A) w;rw[wpOps_cons];unfold wpOp;have w2:iH q (yielded ops (a.put p.dst A).tmps)=M:=by unfold iH;rw[hqg]
     simp only[e1,w2,bE];left;have heval:(a.put p.dst A).eval (.tmp t1)=A:=by
      show (a.put p.dst A).tmps.getD t1 undef=A;rw[Hj (by intro d z;rw[hpd]at z;cases z;rw[c.size];exact htn),aU hpd]
     have hargs:cl.args=#[]:=by rw[<- Array.toArray_toList (xs:=cl.args),hca]
     have hexec2:(execOp (a.put p.dst A).eval q).run P w= .ok (.defer {target:=.fn (.func f') (caps'.map a.eval),args:=#[]}) w:=by
      unfold execOp;rw[hqo];simp[resolve,hcl,heval,A,Deferred.ofValue,hargs]
     unfold Gy;rw[hexec2];show wpOps P ops Q [] _ w;refine hQ _ _ ⟨⟨φ,m,r,?_,dm⟩,c.low,?_,?_⟩
     .intro u x F;rw[hqd];show cE φ _ w x ((a.put p.dst A).tmps.getD u undef);rw[Hj (by intro d z;rw[hpd]at z;cases z;rw[c.size];exact htn)];have D:(s.e.put (Z t1) (.clo f' l)).get u=Z x:=F;rw[<- Yf]at D;unfold BD at D;rw[hpd];by_cases hu:Z t1=Z u
      .rw[aU hu]at D ⊢;cases D;exact hrel
      .rw[aL hu]at D ⊢;exact en u x D
     .intro d z;rw[hqd]at z;have hd'':d={target:=.fn (.func f') (caps'.map a.eval),args:=#[]}\/d∈(a.put p.dst A).defers:=by
       simpa[MF] using z
      rcases hd'' with rfl|hd''
      .intro w0;refine ⟨_,_,f',caps'.map a.eval,rfl,?_,hincalls _ w0⟩;simp[invoke,vY hcb]
      .rw[Hk]at hd'';exact c.inert d hd''
     .rw[hqd];show (a.put p.dst A).tmps.size=nt;rw[OT];exact c.size
    .cases hdf
   .cases hdf
  .cases hdf
 .cases hdf
def VN (tmps:Array Value):ResultVar->Sem Value
 |.tmp t=>pure (tmps.getD t undef)
 |.cell a t=>do
  let d<-asAddr (tmps.getD a undef)
  loadVar t d
theorem Sc (fn:Func) (tmps:Array Value):results fn tmps=(do let vs<-fn.results.mapM (VN tmps);pure (if h:vs.size=1 then vs[0] else .tuple vs)):=by
 unfold results;congr 2
theorem BO {P:Program} {fn:Func} {tmps:Array Value} {R:Ending->World->Prop} {w:World} {v:Value} (hr:(results fn tmps).run P w= .ok v w) (q:R (.returned v) w):∀(ds:Y Deferred),(∀d∈ds,Z7 P d)->Leaves P fn tmps R ds .returning w
 |[],_=>⟨v,hr,q⟩
 |d::ds,h=>by
  obtain⟨s,cap,f,args,h1,h2,h3⟩:=h d (eo ..) w;refine ⟨by simp,s,cap,f,args,h1,h2,h3.mono ?_⟩;rintro e A w' ⟨⟨z,rfl⟩,rfl,rfl⟩;exact BO hr q ds λd hd=>h d (di _ hd)
theorem jZ.get {φ:PM} {O:Nat->Prop} {w:World}:∀{xs:Y AV} {vs:ξ},jZ φ O w xs vs->∀(j:Nat) x,xs[j]? =Z x->∃v,vs[j]? =Z v/\cE φ O w x v
 |[],_,_,j,x,d=>by simp at d
 |_::_,[],h,_,_,_=>h.elim
 |y::xs,u::vs,h,j,x,d=>by
  cases j with
  |zero=>simp at d;subst d;exact⟨u,rfl,h.1⟩
  |succ j=>exact jZ.get h.2 j x (by simpa using d)
theorem QZ {P:Program} {f:FuncId} {d:SF} (h:yH P f=Z d):∃fn c,P.funcs[f]? =Z fn∧fn.body=Z c∧(fn.name== "runtime.NumGoroutine")=aa∧d.code=ci P fn.ntmps c∧uD P fn.results.toList=Z d.res∧d.nt=fn.ntmps:=by
 unfold yH at h;split at h
 .rename_i fn hf;split at h
  .cases h
  .rename_i hn;split at h
   .rename_i c r hb hr;simp only[af]at h;subst h;exact⟨fn,c,hf,hb,by simpa using hn,rfl,hr,rfl⟩
   .cases h
 .cases h
theorem acg {a b:Value} (h:af8 a b=M):a=b:=by
 unfold af8 at h;split at h
 .simp at h;rw[h]
 .simp at h;rw[h.1,h.2]
 .rw[yL.1 h]
 .simp only[ak]at h;rw[au h.1,au h.2]
 .rfl
 .rename_i x y;simp only[ak,Array.isEmpty_iff]at h;rw[h.1,h.2]
 .cases h
def PT.mapO {α β:Type} (g:α->J β):PT α->PT β
 |.leaf=>.leaf
 |.node v l r=>.node (v.bind g) (PT.mapO g l) (PT.mapO g r)
theorem PT.get_mapO {α β:Type} (g:α->J β):∀(t:PT α) (i:Nat),(PT.mapO g t).get i=(t.get i).bind g
 |.leaf,i=>by simp[PT.mapO,PT.get]
 |.node v l r,0=>by simp[PT.mapO,PT.get]
 |.node v l r,j+1=>by
  simp only[PT.mapO,PT.get];split
  .exact PT.get_mapO g l _
  .exact PT.get_mapO g r _
theorem PT.get_updI {α:Type} (f:Nat->α->α):∀(t:PT α) (a b i:Nat),(PT.updI f a b t).get i=(t.get i).map (f (a*i+b))
 |.leaf,_,_,i=>by simp[PT.updI,PT.get]
 |.node v l r,a,b,0=>by cases v<;>simp[PT.updI,PT.get]
 |.node v l r,a,b,j+1=>by
  simp only[PT.updI,PT.get];split
  .rename_i hj;rw[PT.get_updI f l];have:2*a*(j/2)+(a+b)=a*(j+1)+b:=by
    have h2:j=2*(j/2):=by have:=au hj;omega
    have h3:2*a*(j/2)=a*j:=by rw[Gz 2 a,Nat.mul_assoc,<-h2]
    rw[h3,Nat.mul_add];omega
   rw[this]
  .rename_i hj;rw[PT.get_updI f r];have:2*a*(j/2)+(2*a+b)=a*(j+1)+b:=by
    have h1:j%2≠0:=λh=>hj (by rw[h];rfl)
    have h2:j=2*(j/2)+1:=by omega
    have h3:2*a*(j/2)=a*(2*(j/2)):=by rw[Gz 2 a,Nat.mul_assoc]
    have h4:a*(j+1)=a*(2*(j/2))+2*a:=by
     conv=>lhs;rw[h2]
     rw[Nat.mul_add,Nat.mul_add];omega
    rw[h3,h4];omega
   rw[this]
theorem PT.bound {α:Type}:∀(t:PT α),∃B,∀i,B<=i->t.get i=U
 |.leaf=>⟨0,λi _=>rfl⟩
 |.node v l r=>by
  obtain⟨a,d⟩:=PT.bound l;obtain⟨b,hb⟩:=PT.bound r;refine ⟨2*(a+b)+3,λi hi=>?_⟩;cases i with
  |zero=>omega
  |succ j=>
   simp only[PT.get];split
   .exact d _ (by omega)
   .exact hb _ (by omega)
def PT.ofF {α:Type} (f:Nat->J α):Nat->PT α
 |0=>.leaf
 |n+1=>(PT.ofF f n).set n (f n)
theorem PT.get_ofF {α:Type} (f:Nat->J α):∀(n i:Nat),(PT.ofF f n).get i=if i<n then f i else U
 |0,i=>by simp[PT.ofF,PT.get]
 |n+1,i=>by
  rw[PT.ofF,PT.get_set,PT.get_ofF f n];by_cases h:i=n
  .subst h;simp
  .rw[aL h];by_cases h2:i<n
   .rw[aU h2,aU (by omega)]
   .rw[aL h2,aL (by omega)]
def nm (i:Nat):Nat:=2*i
def ow (n:Nat):Nat:=n/2
theorem dQ (i:Nat):ow (nm i)=i:=by unfold ow nm;omega
theorem kP {i j:Nat} (h:nm i=nm j):i=j:=by unfold nm at h;omega
def eZ (p:Bool) (id sz n:Nat):AV:=if p&&n==0 then .emp else .row (nm id) sz n
mutual
def b9 (h:bl):TV->J AV
 |.f T v=>Z (.f (gg T v))
 |.fel T xs j _ off=>Z (.f (.ptr (xs.flatMap (bO T)) (j.toNat*T.size+off)))
 |.pel id sz j off=>Z (.ptr (nm id) (j.toNat*sz+off))
 |.ptr id off=>Z (.ptr (nm id) off)
 |.csl id sz n=>Z (.row (nm id) sz n)
 |.row id=>match eh h id with|some (p,sz,n)=>Z (eZ p id sz n)|none=>U
 |.rtl id j=>match eh h id with|some (_,sz,n)=>Z (.sl (nm id) (j.toNat*sz) (n-j.toNat))|none=>U
 |.emp=>Z .emp
 |.nil=>Z (.f (.raw (.slice U 0 0)))
 |.mp id=>Z (.mp (nm id))
 |.agg l=>match cz h l with|some l'=>Z (.agg l')|none=>U
 |.tup l=>match cz h l with|some l'=>Z (.tup l')|none=>U
 |.clo g l=>match cz h l with|some l'=>Z (.clo g l')|none=>U
 |.undef=>Z (.f (.raw undef))
 |.np=>Z (.f (.raw (.pointer U)))
 |.anyb=>Z .anyb
 |.ful T xs=>Z (.ful (xs.flatMap (bO T)) (ah xs))
def cz (h:bl):Y TV->J (Y AV)
 |[]=>Z []
 |x::r=>match b9 h x with
  |some y=>(match cz h r with|some l=>Z (y::l)|none=>U)
  |none=>U
end
def pz:(K:Ty)->K.den->Value
 |.int k,n=>.int k n
 |.str,s=>.string ⟨eQ s⟩
 |_,_=>undef
def Yv:(K V:Ty)->Y (K.den×V.den)->BC
 |.st (.pr .str (.int .i64)),.un,es=>.it ⟨eQ (GO es)⟩ (FI es)
 |K,V,es=>.mp (es.map λp=>(pz K p.1,.f (gg V p.2)))
theorem xU {K V:Ty} {es:Y (K.den×V.den)} (h:Sn K=M):Yv K V es= .mp (es.map λp=>(pz K p.1,.f (gg V p.2))):=by
 unfold Yv;split
 .cases h
 .rfl
theorem aeu {K V:Ty} {es:Y (K.den×V.den)} {s:ζ} {p:Nat} (h:itE K V es=Z (s,p)):Yv K V es= .it ⟨eQ s⟩ p:=by
 unfold itE at h;split at h
 .cases h;rfl
 .cases h
def oz:Nat->Y AV->Y (Value×AV)
 |_,[]=>[]
 |i,v::r=>(.int .i64 (aT i),v)::oz (i+1) r
theorem BT:∀(l:Y AV) (i j:Nat),(oz i l)[j]? =(l[j]?).map λv=>(.int .i64 (aT (i+j)),v)
 |[],i,j=>rfl
 |v::r,i,0=>rfl
 |v::r,i,j+1=>by
  rw[oz,List.getElem?_cons_succ,BT r (i+1) j,show i+1+j=i+(j+1) from by omega];rfl
theorem Dr (k:Value):∀(l:Y AV) (i:Nat),k∈(oz i l).map (·.1)->vp k
 |v::r,i,h=>by
  rcases bu.1 h with h|h
  .exact⟨_,h⟩
  .exact Dr k r (i+1) h
theorem LL:∀(l:Y AV) (i:Nat),(oz i l).map (·.2)=l
 |[],_=>rfl
 |v::r,i=>by rw[oz,eW,LL r (i+1)]
theorem O6 (f:AV->AV):∀(l:Y AV) (i:Nat),(oz i l).map (λp=>(p.1,f p.2))=oz i (l.map f)
 |[],_=>rfl
 |v::r,i=>by rw[oz,eW,O6 f r (i+1)];rfl
theorem LM:∀(l:Y AV) (i n:Nat),told (aT (i+n)) (oz i l)=l[n]?
 |[],i,n=>rfl
 |v::r,i,0=>by rw[oz,told,db,aU rfl];rfl
 |v::r,i,n+1=>by
  rw[oz,told,aL (λe=>by have:=r9 e;omega),show i+(n+1)=i+1+n from by omega,LM r (i+1) n];rfl
theorem LN (y:AV) (n:Int):∀(l:Y AV) (i:Nat),n<aT i->lD n y (oz i l)=oz i l
 |[],i,_=>rfl
 |v::r,i,h=>by
  simp only[oz,lD];rw[LN y n r (i+1) (Int.lt_trans h (Int.ofNat_lt.2 (qw i))),aL (λe=>by rw[e]at h;exact Int.lt_irrefl _ h)]
theorem O5 (y:AV):∀(l:Y AV) (i n:Nat),lD (aT (i+n)) y (oz i l)=oz i (l.set n y)
 |[],i,n=>rfl
 |v::r,i,0=>by
  simp only[oz,lD,db,List.set_cons_zero];rw[LN y (aT i) r (i+1) (Int.ofNat_lt.2 (qw i)),aU trivial]
 |v::r,i,n+1=>by
  simp only[oz,lD,List.set_cons_succ];rw[aL (λe=>by have:=r9 e;omega),show i+(n+1)=i+1+n from by omega,O5 y r (i+1) n]
theorem Vw {ty:TypeId} {es:Y (Value×AV)} {ents:Array MapEntry} (f:AV->AV):Vx ty (es.map λp=>(p.1,f p.2)) ents=Vx ty es ents:=by unfold Vx;rw[GA];rfl
theorem R6 {α:Type} {l:Y α} {n:Nat} {x:α} (h:n<l.length):splice l n [x]=l.set n x:=by
 rw[List.set_eq_take_append_cons_drop,aU h];simp[splice]
def jv (h:bl):hX->J uT
 |.rows ty p T xs=>if p&&xs.length==0 then U else Z ⟨ty,.fz (xs.flatMap (bO T))⟩
 |.cells (Z ty) l=>match cz h l with|some d=>Z ⟨ty,.mx d⟩|none=>U
 |.cells U l=>match cz h l with|some d=>Z ⟨1,.mp (oz 0 d)⟩|none=>U
 |.dead _ _ _=>U
 |.mp K V es=>Z ⟨0,Yv K V es⟩
def fh (e:iJ) (h:bl):EF:=λt=>(e.get t).bind (b9 h)
def bB (h:bl):HF:=λn=>if n%2=0 then (h.get (n/2)).bind (jv h) else U
theorem bK (h:bl) (i:Nat):bB h (nm i)=(h.get i).bind (jv h):=by
 unfold bB nm;rw[aU (by omega),show 2*i/2=i from by omega]
theorem ju {h:bl} {n:Nat} {b:uT} (hb:bB h n=Z b):∃i c,n=nm i/\h.get i=Z c/\jv h c=Z b:=by
 unfold bB at hb;split at hb
 .cases hc:h.get (n/2) with
  |none=>rw[hc]at hb;cases hb
  |some c=>rw[hc]at hb;exact⟨n/2,c,by unfold nm;omega,hc,hb⟩
 .cases hb
def It (e:iJ) (h:bl):yO:=PT.mapO (b9 h) e
theorem uy (e:iJ) (h:bl):(It e h).get=fh e h:=by funext t;exact PT.get_mapO _ _ _
theorem jL (h:bl):∃H:nR,H.get=bB h:=by
 obtain⟨B,d⟩:=PT.bound h;refine ⟨PT.ofF (bB h) (2*B),?_⟩;funext n;rw[PT.get_ofF];split
 .rfl
 .unfold bB;split
  .rw[d _ (by omega)];rfl
  .rfl
theorem cU {h:bl} {x:TV} {r:Y TV} {l:Y AV} (he:cz h (x::r)=Z l):∃y d,l=y::d/\b9 h x=Z y/\cz h r=Z d:=by
 simp only[cz]at he;split at he
 .rename_i y q;split at he
  .rename_i d hl;simp only[af]at he;exact⟨y,d,he.symm,q,hl⟩
  .cases he
 .cases he
theorem oU {h:bl} {x:TV} {r:Y TV} {y:AV} {d:Y AV} (h1:b9 h x=Z y) (h2:cz h r=Z d):cz h (x::r)=Z (y::d):=by
 simp only[cz,h1,h2]
theorem gw {h:bl}:∀{l:Y TV} {d:Y AV},cz h l=Z d->d.length=l.length
 |[],d,he=>by simp only[cz,af]at he;subst he;rfl
 |x::r,d,he=>by
  obtain⟨y,l2,rfl,_,h2⟩:=cU he;simp[gw h2]
theorem m_ {h:bl}:∀{a b:Y TV} {a' b':Y AV},cz h a=Z a'->cz h b=Z b'->cz h (a++b)=Z (a'++b')
 |[],b,a',b',d,hb=>by simp only[cz,af]at d;subst d;exact hb
 |x::r,b,a',b',d,hb=>by
  obtain⟨y,l2,rfl,h1,h2⟩:=cU d;exact oU h1 (m_ h2 hb)
theorem AW {h:bl}:∀{a b:Y TV} {l:Y AV},cz h (a++b)=Z l->∃a' b',l=a'++b'/\cz h a=Z a'/\cz h b=Z b'
 |[],b,l,he=>⟨[],l,rfl,rfl,he⟩
 |x::r,b,l,he=>by
  obtain⟨y,l2,rfl,h1,h2⟩:=cU he;obtain⟨a',b',rfl,h3,h4⟩:=AW h2;exact⟨y::a',b',rfl,oU h1 h3,h4⟩
theorem DR {h:bl}:∀{l:Y TV} {d:Y AV} (n:Nat),cz h l=Z d->cz h (l.take n)=Z (d.take n)
 |[],d,n,he=>by simp only[cz,af]at he;subst he;simp[cz]
 |x::r,d,n,he=>by
  obtain⟨y,l2,rfl,h1,h2⟩:=cU he;cases n with
  |zero=>simp[cz]
  |succ n=>exact oU h1 (DR n h2)
theorem DU {h:bl}:∀{l:Y TV} {d:Y AV} (n:Nat),cz h l=Z d->cz h (l.drop n)=Z (d.drop n)
 |[],d,n,he=>by simp only[cz,af]at he;subst he;simp[cz]
 |x::r,d,n,he=>by
  obtain⟨y,l2,rfl,h1,h2⟩:=cU he;cases n with
  |zero=>exact he
  |succ n=>simpa using DU n h2
theorem pA {h:bl} {l vs:Y TV} {d vs':Y AV} (off:Nat) (h1:cz h l=Z d) (h2:cz h vs=Z vs'):cz h (splice l off vs)=Z (splice d off vs'):=by
 unfold splice;rw[gw h2];exact m_ (m_ (DR _ h1) h2) (DU _ h1)
theorem kY {h:bl}:∀{l:Y TV} {d:Y AV},cz h l=Z d->∀(j:Nat) x,l[j]? =Z x->∃y,d[j]? =Z y/\b9 h x=Z y
 |[],d,he,j,x,s=>by simp at s
 |x::r,d,he,j,z,q=>by
  obtain⟨y,l2,rfl,h1,h2⟩:=cU he;cases j with
  |zero=>simp at q;subst q;exact⟨y,rfl,h1⟩
  |succ j=>simpa using kY h2 j z (by simpa using q)
mutual
theorem oX (h:bl):∀(u:TV),Km h u=M->∃y,b9 h u=Z y
 |.f _ _,_=>⟨_,rfl⟩
 |.fel _ _ _ _ _,_=>⟨_,rfl⟩
 |.pel _ _ _ _,_=>⟨_,rfl⟩
 |.ptr _ _,_=>⟨_,rfl⟩
 |.csl _ _ _,_=>⟨_,rfl⟩
 |.row id,he=>by
  simp only[Km]at he;cases hr:eh h id with
  |none=>rw[hr]at he;cases he
  |some r=>obtain⟨p,sz,n⟩:=r;exact⟨_,by simp only[b9,hr];rfl⟩
 |.rtl id jj,he=>by
  simp only[Km]at he;cases hr:eh h id with
  |none=>rw[hr]at he;cases he
  |some r=>obtain⟨p,sz,n⟩:=r;exact⟨_,by simp only[b9,hr];rfl⟩
 |.emp,_=>⟨_,rfl⟩
 |.nil,_=>⟨_,rfl⟩
 |.mp _,_=>⟨_,rfl⟩
 |.agg l,he=>by obtain⟨y,hy⟩:=eT h l he;exact⟨_,by simp only[b9,hy];rfl⟩
 |.tup l,he=>by obtain⟨y,hy⟩:=eT h l he;exact⟨_,by simp only[b9,hy];rfl⟩
 |.clo g l,he=>by obtain⟨y,hy⟩:=eT h l he;exact⟨_,by simp only[b9,hy];rfl⟩
 |.undef,_=>⟨_,rfl⟩
 |.np,_=>⟨_,rfl⟩
 |.anyb,_=>⟨_,rfl⟩
 |.ful _ _,_=>⟨_,rfl⟩
theorem eT (h:bl):∀(l:Y TV),kO h l=M->∃l',cz h l=Z l'
 |[],_=>⟨[],rfl⟩
 |x::r,he=>by
  simp only[kO,ak]at he;obtain⟨y,hy⟩:=oX h x he.1;obtain⟨l',hl⟩:=eT h r he.2;exact⟨_,oU hy hl⟩
end
def b6 (h h':bl):Prop:=∀id r,eh h id=Z r->eh h' id=Z r
mutual
theorem fA {h h':bl} (hk:b6 h h'):∀(u:TV) (y:AV),b9 h u=Z y->b9 h' u=Z y
 |.f _ _,y,he=>he
 |.fel _ _ _ _ _,y,he=>he
 |.pel _ _ _ _,y,he=>he
 |.ptr _ _,y,he=>he
 |.csl _ _ _,y,he=>he
 |.row id,y,he=>by
  simp only[b9]at he ⊢;split at he
  .rename_i p sz n hr;rw[hk _ _ hr];exact he
  .cases he
 |.rtl id jj,y,he=>by
  simp only[b9]at he ⊢;split at he
  .rename_i p sz n hr;rw[hk _ _ hr];exact he
  .cases he
 |.emp,y,he=>he
 |.nil,y,he=>he
 |.mp _,y,he=>he
 |.agg l,y,he=>by
  simp only[b9]at he ⊢;split at he
  .rename_i l' hl;rw[fR hk l l' hl];exact he
  .cases he
 |.tup l,y,he=>by
  simp only[b9]at he ⊢;split at he
  .rename_i l' hl;rw[fR hk l l' hl];exact he
  .cases he
 |.clo g l,y,he=>by
  simp only[b9]at he ⊢;split at he
  .rename_i l' hl;rw[fR hk l l' hl];exact he
  .cases he
 |.undef,y,he=>he
 |.np,y,he=>he
 |.anyb,y,he=>he
 |.ful _ _,y,he=>he
theorem fR {h h':bl} (hk:b6 h h'):∀(l:Y TV) (l':Y AV),cz h l=Z l'->cz h' l=Z l'
 |[],l',he=>he
 |x::r,l',he=>by
  obtain⟨y,l2,rfl,h1,h2⟩:=cU he;exact oU (fA hk x y h1) (fR hk r l2 h2)
end
mutual
theorem mJ {h h':bl} (hk:b6 h h'):∀(u:TV),Km h u=M->Km h' u=M
 |.f _ _,_=>rfl
 |.fel _ _ _ _ _,_=>rfl
 |.pel _ _ _ _,_=>rfl
 |.ptr _ _,_=>rfl
 |.csl _ _ _,_=>rfl
 |.row id,he=>by
  simp only[Km]at he ⊢;cases hr:eh h id with
  |none=>rw[hr]at he;cases he
  |some r=>rw[hk _ _ hr];rfl
 |.rtl id jj,he=>by
  simp only[Km]at he ⊢;cases hr:eh h id with
  |none=>rw[hr]at he;cases he
  |some r=>rw[hk _ _ hr];rfl
 |.emp,_=>rfl
 |.nil,_=>rfl
 |.mp _,_=>rfl
 |.agg l,he=>iP hk l he
 |.tup l,he=>iP hk l he
 |.clo g l,he=>iP hk l he
 |.undef,_=>rfl
 |.np,_=>rfl
 |.anyb,_=>rfl
 |.ful _ _,_=>rfl
theorem iP {h h':bl} (hk:b6 h h'):∀(l:Y TV),kO h l=M->kO h' l=M
 |[],_=>rfl
 |x::r,he=>by
  simp only[kO,ak]at he ⊢;exact⟨mJ hk x he.1,iP hk r he.2⟩
end
mutual
theorem DQ (h:bl):∀(u:TV) (y:AV),b9 h u=Z y->Km h u=M
 |.f _ _,_,_=>rfl
 |.fel _ _ _ _ _,_,_=>rfl
 |.pel _ _ _ _,_,_=>rfl
 |.ptr _ _,_,_=>rfl
 |.csl _ _ _,_,_=>rfl
 |.row id,y,he=>by
  simp only[Km,b9]at he ⊢;cases hr:eh h id with
  |none=>rw[hr]at he;cases he
  |some r=>rfl
 |.rtl id jj,y,he=>by
  simp only[Km,b9]at he ⊢;cases hr:eh h id with
  |none=>rw[hr]at he;cases he
  |some r=>rfl
 |.emp,_,_=>rfl
 |.nil,_,_=>rfl
 |.mp _,_,_=>rfl
 |.agg l,y,he=>by
  simp only[b9]at he;split at he
  .rename_i l' hl;exact jU h l l' hl
  .cases he
 |.tup l,y,he=>by
  simp only[b9]at he;split at he
  .rename_i l' hl;exact jU h l l' hl
  .cases he
 |.clo g l,y,he=>by
  simp only[b9]at he;split at he
  .rename_i l' hl;exact jU h l l' hl
  .cases he
 |.undef,_,_=>rfl
 |.np,_,_=>rfl
 |.anyb,_,_=>rfl
 |.ful _ _,_,_=>rfl
theorem jU (h:bl):∀(l:Y TV) (l':Y AV),cz h l=Z l'->kO h l=M
 |[],_,_=>rfl
 |x::r,l',he=>by
  obtain⟨y,l2,rfl,h1,h2⟩:=cU he;simp only[kO,ak];exact⟨DQ h x y h1,jU h r l2 h2⟩
end
mutual
theorem P4 (h h':bl):∀(u:TV),tG u=M->b9 h u=b9 h' u
 |.f _ _,_=>rfl
 |.fel _ _ _ _ _,_=>rfl
 |.pel _ _ _ _,_=>rfl
 |.ptr _ _,_=>rfl
 |.csl _ _ _,_=>rfl
 |.row id,he=>by cases he
 |.emp,_=>rfl
 |.nil,_=>rfl
 |.mp _,_=>rfl
 |.agg l,he=>by simp only[b9];rw[DS h h' l he]
 |.tup l,he=>by simp only[b9];rw[DS h h' l he]
 |.clo g l,he=>by cases he
 |.undef,_=>rfl
 |.np,_=>rfl
 |.anyb,_=>rfl
 |.ful _ _,_=>rfl
theorem DS (h h':bl):∀(l:Y TV),qd l=M->cz h l=cz h' l
 |[],_=>rfl
 |x::r,he=>by
  simp only[qd,ak]at he;simp only[cz];rw[P4 h h' x he.1,DS h h' r he.2]
end
theorem M4 {h:bl} {u:TV} {y:AV} (he:b9 h u=Z y) (hc:u.isC=M):y.isCell=M:=by
 cases u with
 |f T v=>cases T<;>simp only[b9,af]at he<;>subst he<;>first|rfl|(simp [TV.isC,Ty.one]at hc)
 |fel T xs j hj off=>simp only[b9,af]at he;subst he;rfl
 |pel id sz j off=>simp only[b9,af]at he;subst he;rfl
 |ptr id off=>simp only[b9,af]at he;subst he;rfl
 |csl id off z=>simp only[b9,af]at he;subst he;rfl
 |row id=>
  simp only[b9]at he;split at he
  .simp only[af]at he;subst he;unfold eZ;split<;>rfl
  .cases he
 |rtl id d=>cases hc
 |emp=>simp only[b9,af]at he;subst he;rfl
 |nil=>simp only[b9,af]at he;subst he;rfl
 |mp id=>simp only[b9,af]at he;subst he;rfl
 |agg l=>cases hc
 |tup l=>cases hc
 |clo g l=>
  simp only[b9]at he;split at he
  .simp only[af]at he;subst he;rfl
  .cases he
 |undef=>cases hc
 |np=>simp only[b9,af]at he;subst he;rfl
 |anyb=>cases hc
 |ful T xs=>cases hc
theorem rK {h:bl}:∀{l:Y TV} {d:Y AV},cz h l=Z d->kA l=M->gh d=M
 |[],d,he,_=>by simp only[cz,af]at he;subst he;rfl
 |x::r,d,he,hc=>by
  obtain⟨y,l2,rfl,h1,h2⟩:=cU he;simp only[kA,ak]at hc;simp only[gh,ak];exact⟨M4 h1 hc.1,rK h2 hc.2⟩
def Le (x y:AV):Prop:=∀(φ:PM) (O:Nat->Prop) (w:World) (v:Value),cE φ O w x v->cE φ O w y v
theorem Le.refl (x:AV):Le x x:=λ_ _ _ _ h=>h
def lj (H H':HF) (x y:AV):Prop:=∀(φ:PM) (E:Nat->Prop) (w:World) (v:Value),qG φ E H w->cE φ (tot E φ H) w x v->cE φ (tot E φ H') w y v
def uf (H H':HF):Prop:=∀i b,H' i=Z b->∃b0,H i=Z b0
theorem uf.refl (H:HF):uf H H:=λ_ b h=>⟨b,h⟩
theorem uf.own {H H':HF} (d:uf H H') {φ:PM} {k:Nat} (h:own φ H' k):own φ H k:=by
 obtain⟨i,b,h1,h2⟩:=h;obtain⟨b0,h3⟩:=d i b h1;exact⟨i,b0,h3,h2⟩
theorem uf.tot {H H':HF} (d:uf H H') {E:Nat->Prop} {φ:PM} {k:Nat} (h:tot E φ H' k):tot E φ H k:=h.imp id d.own
theorem cE.dom {H H':HF} (d:uf H H') {φ:PM} {E:Nat->Prop} {w:World} {x:AV} {v:Value} (h:cE φ (tot E φ H) w x v):cE φ (tot E φ H') w x v:=
 h.ext (λ_ _ h=>h) (Gu.refl _ w) λ_ _ hk=>d.tot hk
theorem mj.dom {H H':HF} (d:uf H H') {φ:PM} {E:Nat->Prop} {w:World} {x:FV} {v:Value} (h:mj (tot E φ H) w x v):mj (tot E φ H') w x v:=
 h.ext (Gu.refl _ w) λ_ _ hk=>d.tot hk
theorem Le.toH {H H':HF} (d:uf H H') {x y:AV} (h:Le x y):lj H H' x y:=λφ E w v _ hr=>(h _ _ _ _ hr).dom d
theorem lj.refl {H H':HF} (d:uf H H') (x:AV):lj H H' x x:=(Le.refl x).toH d
def gQ (H H':HF):Y AV->Y AV->Prop
 |[],[]=>True
 |x::xs,y::d=>lj H H' x y/\gQ H H' xs d
 |_,_=>False
theorem gQ.refl {H H':HF} (d:uf H H'):∀l,gQ H H' l l
 |[]=>trivial
 |x::r=>⟨lj.refl d x,gQ.refl d r⟩
theorem gQ.length {H H':HF}:∀{l d:Y AV},gQ H H' l d->d.length=l.length
 |[],[],_=>rfl
 |[],_::_,h=>h.elim
 |_::_,[],h=>h.elim
 |_::_,_::_,h=>by simp[gQ.length h.2]
theorem gQ.get {H H':HF}:∀{l q:Y AV},gQ H H' l q->∀(j:Nat) y,q[j]? =Z y->∃x,l[j]? =Z x/\lj H H' x y
 |[],[],_,j,y,d=>by simp at d
 |[],_::_,h,_,_,_=>h.elim
 |_::_,[],h,_,_,_=>h.elim
 |x::xs,z::ys,h,j,y,d=>by
  cases j with
  |zero=>simp at d;subst d;exact⟨x,rfl,h.1⟩
  |succ j=>simpa using gQ.get h.2 j y (by simpa using d)
theorem gQ.append {H H':HF}:∀{a a' b b':Y AV},gQ H H' a a'->gQ H H' b b'->gQ H H' (a++b) (a'++b')
 |[],[],_,_,_,h=>h
 |[],_::_,_,_,h,_=>h.elim
 |_::_,[],_,_,h,_=>h.elim
 |_::_,_::_,_,_,h,h'=>⟨h.1,gQ.append h.2 h'⟩
theorem gQ.take {H H':HF}:∀{a a':Y AV} (n:Nat),gQ H H' a a'->gQ H H' (a.take n) (a'.take n)
 |[],[],n,_=>by simp[gQ]
 |[],_::_,_,h=>h.elim
 |_::_,[],_,h=>h.elim
 |_::_,_::_,0,_=>trivial
 |_::_,_::_,n+1,h=>⟨h.1,gQ.take n h.2⟩
theorem gQ.drop {H H':HF}:∀{a a':Y AV} (n:Nat),gQ H H' a a'->gQ H H' (a.drop n) (a'.drop n)
 |[],[],n,_=>by simp[gQ]
 |[],_::_,_,h=>h.elim
 |_::_,[],_,h=>h.elim
 |_::_,_::_,0,h=>h
 |_::_,_::_,n+1,h=>gQ.drop n h.2
theorem gQ.splice {H H':HF} {a a' b b':Y AV} (off:Nat) (h1:gQ H H' a a') (h2:gQ H H' b b'):gQ H H' (splice a off b) (splice a' off b'):=by
 unfold AI.splice;rw[h2.length];exact ((h1.take off).append h2).append (h1.drop _)
def il (H H':HF) (b b':uT):Prop:=∀(φ:PM) (E:Nat->Prop) (w:World) (o:Obj),qG φ E H w->iS φ (tot E φ H) w b o->iS φ (tot E φ H') w b' o
theorem il.refl {H H':HF} (d:uf H H') (b:uT):il H H' b b:=λ_ _ _ _ _ h=>h.mono λ_ _ h=>h.dom d
theorem pw {φ:PM} {O:Nat->Prop} {w:World} {ty:TypeId} {c:BC} {o:Obj} (hc:c.isCells=M):iS φ O w ⟨ty,c⟩ o↔∃arr,o= .cells arr ty (0,0)/\uF φ O w c arr:=by
 unfold iS;cases c<;>simp[BC.isCells]at hc<;>rfl
theorem il.cells {H H':HF} {ty:TypeId} {c c':BC} (hc:c.isCells=M) (d:c'.isCells=M) (hl:gQ H H' c.toMx c'.toMx) (hcell:∀x∈c'.toMx,x.isCell=M):il H H' ⟨ty,c⟩ ⟨ty,c'⟩:=by
 intro φ E w o hrep s;rw[pw hc]at s;rw[pw d];obtain⟨arr,h1,h2,h3⟩:=s;refine ⟨arr,h1,by rw[BC.len_toMx d,hl.length,<-BC.len_toMx hc];exact h2,λj x q=>?_⟩;rw[BC.get_toMx d]at q;refine ⟨hcell x (bg q),?_⟩;obtain⟨y,z,hle⟩:=hl.get j x q;obtain⟨_,v,D,A⟩:=h3 j y (by rw[BC.get_toMx hc];exact z);exact⟨v,D,hle _ _ _ _ hrep A⟩
def Vk (ty:J TypeId) (l:Y AV):uT:=match ty with
 |some ty=>⟨ty,.mx l⟩
 |none=>⟨1,.mp (oz 0 l)⟩
theorem aft {es:Y (Value×AV)} {ents:Array MapEntry}:Vx 1 es ents↔(∀m∈ents.toList,vp m.key)/\∀k∈es.map (·.1),vp k:=by
 unfold Vx;rw[aL (by decide)]
theorem MpV1 {ents:Array MapEntry} {j:Nat} {k v:Value}:MpV 1 ents j k v↔v=kj k ents.toList:=by
 unfold MpV;rw[aL (by decide)]
theorem il.told {H H':HF} {l q:Y AV} (hl:gQ H H' l q):il H H' ⟨1,.mp (oz 0 l)⟩ ⟨1,.mp (oz 0 q)⟩:=by
 intro φ E w o hrep A;obtain⟨ents,clock,h1,h2,h3⟩:=A;refine ⟨ents,clock,h1,aft.2 ⟨(aft.1 h2).1,λk hk=>Dr k _ _ hk⟩,λj x d=>?_⟩;rw[BT]at d;cases hj:q[j]? with
 |none=>rw[hj]at d;cases d
 |some y=>
  rw[hj]at d;cases d;obtain⟨z,s,hle⟩:=hl.get j y hj;obtain⟨v,h4,D⟩:=h3 j _ (by rw[BT,s];rfl);exact⟨v,h4,hle _ _ _ _ hrep D⟩
theorem il.lay {H H':HF} (n:Nat):il H H' ⟨0,.mp []⟩ ⟨1,.mp (oz 0 (aA n (.f (.raw (.slice U 0 0)))))⟩:=by
 intro φ E w o hrep q;obtain⟨ents,clock,h1,h2,h3⟩:=q;have h2:ents.toList.map (·.key)=[]:=by unfold Vx at h2;rw[aU rfl]at h2;exact h2
 have h4:ents.toList=[]:=List.map_eq_nil_iff.1 h2;refine ⟨ents,clock,h1,aft.2 ⟨λm hm=>(by rw[h4]at hm;cases hm),λk hk=>Dr k _ _ hk⟩,λj x d=>?_⟩;rw[BT]at d;cases hj:(aA n (AV.f (.raw (.slice U 0 0))))[j]? with
 |none=>rw[hj]at d;cases d
 |some y=>
  rw[hj]at d;cases d;have hm:=bg hj;rw[List.mem_replicate]at hm;obtain⟨_,rfl⟩:=hm;exact⟨_,MpV1.2 rfl,by rw[h4];exact .f (.raw _)⟩
theorem il.eq {H H':HF} (d:uf H H') {ty:TypeId} {c c':BC} (hc:c.isCells=M) (q:c'.isCells=M) (hl:c.toMx=c'.toMx):il H H' ⟨ty,c⟩ ⟨ty,c'⟩:=by
 intro φ E w o hrep z;rw[pw hc]at z;rw[pw q];obtain⟨arr,h1,h2,h3⟩:=z;refine ⟨arr,h1,by rw[BC.len_toMx q,<-hl,<-BC.len_toMx hc];exact h2,λj x s=>?_⟩;rw[BC.get_toMx q,<-hl,<-BC.get_toMx hc]at s;obtain⟨h4,v,D,A⟩:=h3 j x s;exact⟨h4,v,D,A.dom d⟩
structure Gr (H H':HF):Prop where
 dom:uf H H'
 blk:∀i b b',H i=Z b->H' i=Z b'->il H H' b b'
theorem Gr.refl (H:HF):Gr H H:=⟨uf.refl H,λi b b' h h'=>by rw[h]at h';cases h';exact il.refl (uf.refl H) b⟩
theorem Gr.rep {H H':HF} (V:Gr H H') {φ:PM} {E:Nat->Prop} {w:World} (r:qG φ E H w):qG φ E H' w:=by
 refine ⟨λi j b b' k d z s q=>?_,λi b d=>?_,r.el,λg cells hg=>(r.gl g cells hg).dom V.dom⟩
 .obtain⟨b0,q1⟩:=V.dom i b d;obtain⟨b1,q2⟩:=V.dom j b' z;exact r.inj i j b0 b1 k q1 q2 s q
 .obtain⟨b0,q1⟩:=V.dom i b d;obtain⟨k,p1,p2,ob,p3,p4⟩:=r.at_ i b0 q1;exact⟨k,p1,p2,ob,p3,V.blk i b0 b q1 d φ E w ob r p4⟩
theorem gy.view {P:Program} {o:Oper} {e:EF} {h:HF} {val val':AV} {rd wr wr' N:ι} {nw nw':HF} (ht:gy P o e h ⟨val,rd,wr,nw,N⟩) (hsub:∀i∈wr,i∈wr'\/i∈rd)
 (hv:∀h':HF,(∀i∈rd,h' i=h i)->(∀i∈wr',h' i=h i)->Gr (eE h' wr nw) (eE h' wr' nw')/\lj (eE h' wr nw) (eE h' wr' nw') val val'):gy P o e h ⟨val',rd,wr',nw',N⟩:=by
 intro φ E h' w a h1 h2 h3 h4 z;have q:=ht φ E h' w a h1 (λi hi=>(hsub i hi).elim (h2 i) (h1 i)) h3 h4 z;obtain⟨V,hle⟩:=hv h' h1 h2;refine Oq ?_ q;rintro a' w' ⟨v,φ',rfl,mv,nm',d,rel⟩;exact⟨v,φ',rfl,⟨mv.sub,mv.ext,λk hk s=>mv.own_ k hk (V.dom.own s)⟩,nm',V.rep d,hle _ _ _ _ d rel⟩
theorem Le.nil:Le (.f (.raw (.slice U 0 0))) (.f (.sl [] 0)):=by
 intro φ O w v hr;cases hr with
 |f hr=>cases hr;exact .f (.nil U 0 (by unfold maxLen;omega))
theorem Le.emp:Le .emp (.f (.sl [] 0)):=by
 intro φ O w v hr;cases hr with
 |emp=>exact .f (.nil _ 0 (by unfold maxLen;omega))
theorem Le.nilEmp:Le (.f (.raw (.slice U 0 0))) .emp:=by
 intro φ O w v hr;cases hr with
 |f hr=>cases hr;exact .emp
theorem Le.aggF {l:Y FV}:Le (.f (.agg l)) (.agg (l.map .f)):=by
 intro φ O w v hr;cases hr with
 |f hr=>
  cases hr with
  |agg _ vs hl hcl hrr=>
   refine .agg (by simp[hl]) (λx d=>?_) λj x u d hu=>?_
   .obtain⟨y,q,rfl⟩:=cX.1 d;exact hcl y q
   .rw[bf]at d;cases hc:l[j]? with
    |none=>rw[hc]at d;cases d
    |some y=>rw[hc]at d;simp at d;subst d;exact .f (hrr j y u hc hu)
theorem Yw (l:Y AV):Le (LF l) (.agg l):=by
 unfold LF;split
 .rename_i fs h;rw[pC h];exact Le.aggF
 .exact Le.refl _
theorem lj.aggL {H H':HF} {l:Y AV} {d:Y FV} (h:gQ H H' l (d.map .f)) (hc:∀x∈d,x.isCell=M):lj H H' (.agg l) (.f (.agg d)):=by
 intro φ E w v hrep hr;cases hr with
 |@agg _ vs hl hcl hrr=>
  refine .f (.agg d vs (by rw[hl,<-h.length];simp) hc λj y u q hu=>?_);obtain⟨x,s,hle⟩:=h.get j (.f y) (by rw[bf,q];rfl);have:=hle φ E w u hrep (hrr j x u s hu);cases this with
  |f h=>exact h
theorem lj.row {H H':HF} (d:uf H H') {id sz n:Nat} {ty:TypeId} {cells:Y FV} (h1:H id=Z ⟨ty,.fz cells⟩) (h2:H' id=U) (hl:cells.length=n*sz):lj H H' (.row id sz n) (.f (.sl cells n)):=by
 intro φ E w v r hr;cases hr with
 |@row _ _ _ c k hφ hn hcap hsh=>
  obtain⟨k',q1,q2,_⟩:=r.at_ id _ h1;rw[hφ]at q1;cases q1;obtain⟨arr,p1,p2,p3⟩:=r.cs h1 hφ rfl;have hk:k<w.heap.size:=(cq.1 p1).1;have hlen:cells.length<=arr.size:=by simpa[BC.toMx] using p3
  have hnk:¬tot E φ H' k:=by
   rintro (A|⟨j,b,s,z⟩)
   .exact q2 A
   .obtain⟨b0,D⟩:=d j b s;have:=r.inj j id b0 _ k D h1 z hφ;subst this;rw[h2]at s;cases s
  have hget:∀(j:Nat) x,cells[j]? =Z x->∃u,arr[j]? =Z u/\mj (tot E φ H) w x u:=λj x q=>by
   have hj:j<cells.length:=(bm.1 q).1;have hja:j<arr.size:=by omega
   refine ⟨arr[j],by simp[hja],?_⟩;have:=p2.2.2 j (.f x) arr[j] (by simp[BC.toMx,q]) (by
    rw[cu,aU (by simpa[BC.toMx] using hj),cj];simp[hja])
   cases this with
   |f h=>exact h
  refine .f (.sl cells n c k 0 (λj=>(arr[j]?).getD undef) hn hcap hnk hk (λx q=>?_) (λj hj=>?_) (λj x q=>?_))
  .have:=p2.2.1 (.f x) (by simp only[BC.toMx];exact cX.2 ⟨x,q,rfl⟩);exact this
  .have:j<arr.size:=by omega
   simp[MC,p1,this]
  .obtain⟨u,s,z⟩:=hget j x q;rw[s];exact z.dom d
theorem rX:∀l:Y Xp,Iz l=l.flatMap vB
 |[]=>rfl
 |x::r=>by rw[Iz,rX r];rfl
theorem yp:∀l:Y Sx,Iy l=l.flatMap xa
 |[]=>rfl
 |x::r=>by rw[Iy,yp r];rfl
theorem Ix (e:Xp):bO LZ (MH e)=vB e:=by
 cases e with
 |mk op n name l=>simp only[LZ,MH,bO,vB,Xp.op,Xp.n,Xp.name,Xp.l,rX];rfl
theorem Qb (x:LZ.den):vB (d8 x)=bO LZ x:=by
 simp only[LZ,d8,bO,vB,rX];rfl
theorem Iw (e:Sx):bO Lv (MG e)=xa e:=by
 cases e with
 |mk op line name arg index expr body els=>simp only[Lv,MG,bO,xa,Sx.op,Sx.line,Sx.name,Sx.arg,Sx.index,Sx.expr,Sx.body,Sx.els,rX,yp];rfl
theorem Qa (x:Lv.den):xa (ov x)=bO Lv x:=by
 simp only[Lv,ov,bO,xa,rX,yp];rfl
theorem wF (e:Xp):(vB e).length=4:=by cases e;simp[vB]
theorem Ce (e:Sx):(xa e).length=11:=by cases e;simp[xa,wF]
theorem bA:∀(T:Ty) (v:T.den),(bO T v).length=T.size
 |.int _,_=>rfl
 |.bool,_=>rfl
 |.str,_=>rfl
 |.sl _,_=>rfl
 |.st t,v=>bA t v
 |.pr a b,v=>by simp[bO,Ty.size,bA a,bA b]
 |.un,_=>rfl
 |.ex,v=>wF v
 |.sm,v=>Ce v
theorem IA (e:Xp):∀x∈vB e,x.isCell=M:=by
 cases e with
 |mk op n name l=>
  intro x d;simp only[vB,bu,cA,gE]at d;rcases d with rfl|rfl|rfl|rfl<;>rfl
theorem Te (e:Sx):∀x∈xa e,x.isCell=M:=by
 cases e with
 |mk op line name arg index expr body els=>
  intro x d;simp only[xa,bN,bu,cA,gE]at d;rcases d with (d|d)|d
  .rcases d with rfl|rfl|rfl|rfl|rfl<;>rfl
  .exact IA _ _ d
  .rcases d with rfl|rfl<;>rfl
theorem nN:∀(T:Ty) (v:T.den),∀x∈bO T v,x.isCell=M
 |.int _,_,x,d=>by simp only[bO,aI]at d;subst d;rfl
 |.bool,_,x,d=>by simp only[bO,aI]at d;subst d;rfl
 |.str,_,x,d=>by simp only[bO,aI]at d;subst d;rfl
 |.sl _,_,x,d=>by simp only[bO,aI]at d;subst d;rfl
 |.st t,v,x,d=>nN t v x d
 |.pr a b,v,x,d=>by
  simp only[bO,bN]at d;exact d.elim (nN a v.1 x) (nN b v.2 x)
 |.un,_,x,d=>by simp[bO]at d
 |.ex,v,x,d=>IA v x d
 |.sm,v,x,d=>Te v x d
theorem Cf:∀(T:Ty) (v:T.den),T.one=M->bO T v=[gg T v]/\T.size=1
 |.int _,_,_=>⟨rfl,rfl⟩
 |.bool,_,_=>⟨rfl,rfl⟩
 |.str,_,_=>⟨rfl,rfl⟩
 |.sl _,_,_=>⟨rfl,rfl⟩
 |.st _,_,h=>by cases h
 |.pr _ _,_,h=>by cases h
 |.un,_,h=>by cases h
 |.ex,_,h=>by cases h
 |.sm,_,h=>by cases h
theorem qj:∀(T:Ty) (v:T.den),T.one=aa->gg T v= .agg (bO T v)
 |.int _,_,h=>by cases h
 |.bool,_,h=>by cases h
 |.str,_,h=>by cases h
 |.sl _,_,h=>by cases h
 |.st _,_,_=>rfl
 |.pr _ _,_,_=>rfl
 |.un,_,_=>rfl
 |.ex,_,_=>rfl
 |.sm,_,_=>rfl
theorem zn (T:Ty) (v:T.den):(AV.f (gg T v)).cs=(bO T v).map .f:=by
 cases h:T.one with
 |true=>
  rw[(Cf T v h).1];cases T<;>simp only[Ty.one]at h<;>first|rfl|cases h
 |false=>rw[qj T v h];rfl
theorem eF {α:Type} {f:α->Y FV} {n:Nat} (hf:∀x,(f x).length=n):∀(xs:Y α),(xs.flatMap f).length=xs.length*n
 |[]=>by simp
 |x::r=>by rw[fo,bY,hf,eF hf r,ca,iL];omega
theorem DM {α:Type} {f:α->Y FV} {n:Nat} (hf:∀x,(f x).length=n):∀(xs:Y α) (j:Nat) (x:α),xs[j]? =Z x->∃r,(xs.flatMap f).drop (j*n)=f x++r
 |[],j,x,h=>by simp at h
 |y::r,j,x,h=>by
  cases j with
  |zero=>simp at h;subst h;exact⟨r.flatMap f,by simp⟩
  |succ j=>
   obtain⟨q,hq⟩:=DM hf r j x (by simpa using h);refine ⟨q,?_⟩;rw[fo,show (j+1)*n=(f y).length+j*n from by rw[hf,iL];omega,uk];simp[hq]
theorem PZ {α:Type} {f:α->Y FV} {n:Nat} (hf:∀x,(f x).length=n):∀(xs:Y α) (j:Nat) (x z:α),xs[j]? =Z x->∀(off:Nat) (vs:Y FV),off+vs.length<=n->f z=AI.splice (f x) off vs->(xs.set j z).flatMap f=AI.splice (xs.flatMap f) (j*n+off) vs
 |[],j,x,z,h,_,_,_,_=>by simp at h
 |y::r,j,x,z,h,off,vs,hle,d=>by
  cases j with
  |zero=>
   simp at h;subst h;simp only[List.set_cons_zero,fo,d,Nat.zero_mul,bL];unfold AI.splice;have s:=hf y;rw[List.take_append,uk];have e1:off-(f y).length=0:=by omega
   have e2:off+vs.length-(f y).length=0:=by omega
   rw[e1,e2];simp[ir]
  |succ j=>
   have q:=PZ hf r j x z (by simpa using h) off vs hle d;simp only[List.set_cons_succ,fo,q];unfold AI.splice;have s:=hf y;have e0:(j+1)*n=(f y).length+j*n:=by rw[hf,iL];omega
   rw[e0,List.take_append,uk];have e1:(f y).length+j*n+off-(f y).length=j*n+off:=by omega
   have e2:(f y).length+j*n+off+vs.length-(f y).length=j*n+off+vs.length:=by omega
   rw[e1,e2,fJ (by omega:(f y).length<=(f y).length+j*n+off),rn (by omega:(f y).length<=(f y).length+j*n+off+vs.length)];simp[ir]
theorem rc (T:Ty) (xs:Y T.den):∀x∈xs.flatMap (bO T),x.isCell=M:=λx d=>by
 obtain⟨y,_,h⟩:=ui.1 d;exact nN T y x h
theorem gL {S T:Ty} {v:S.den} {x:T.den} (h:sF T v=Z x):∃e:S=T,x=e▸v:=by
 unfold sF at h;split at h
 .rename_i e;simp only[af]at h;exact⟨e,h.symm⟩
 .cases h
theorem lM (h:bl):∀(n:Nat) (T:Ty) (v:T.den) (l:Y TV),cellsOf n T v=Z l->cz h l=Z ((bO T v).map .f)/\kA l=M
 |0,_,_,_,he=>by simp[cellsOf]at he
 |n+1,.st t,v,l,he=>lM h n t v l he
 |n+1,.pr a b,v,l,he=>by
  simp only[cellsOf]at he;split at he
  .rename_i x y q d;simp only[af]at he;subst he;obtain⟨h1,h2⟩:=lM h n a v.1 x q;obtain⟨h3,h4⟩:=lM h n b v.2 y d;refine ⟨by rw[bO,c7];exact m_ h1 h3,?_⟩;clear h1 h3 q d;induction x with
   |nil=>exact h4
   |cons z r s=>simp only[kA,ak,gX]at h2 ⊢;exact⟨h2.1,s h2.2⟩
  .cases he
 |n+1,.un,v,l,he=>by simp only[cellsOf,af]at he;subst he;exact⟨rfl,rfl⟩
 |n+1,.ex,v,l,he=>by rw[bO,<-Ix];exact lM h n LZ (MH v) l he
 |n+1,.sm,v,l,he=>by rw[bO,<-Iw];exact lM h n Lv (MG v) l he
 |n+1,.int k,v,l,he=>by simp only[cellsOf,af]at he;subst he;exact⟨rfl,rfl⟩
 |n+1,.bool,v,l,he=>by simp only[cellsOf,af]at he;subst he;exact⟨rfl,rfl⟩
 |n+1,.str,v,l,he=>by simp only[cellsOf,af]at he;subst he;exact⟨rfl,rfl⟩
 |n+1,.sl t,v,l,he=>by simp only[cellsOf,af]at he;subst he;exact⟨rfl,rfl⟩
theorem MU {y:AV} (h:y.isCell=M):y.cs=[y]:=by
 cases y with
 |f x=>cases x<;>first|rfl|cases h
 |agg l=>cases h
 |_=>rfl
theorem Jg {h:bl} {v:TV} {l:Y TV} {y:AV} (hv:v.cs=Z l) (d:b9 h v=Z y):cz h l=Z y.cs/\kA l=M:=by
 have one:(if v.isC then Z [v] else U)=Z l->cz h l=Z y.cs/\kA l=M:=λhv=>by
  split at hv
  .rename_i hc;simp only[af]at hv;subst hv;exact⟨by rw[MU (M4 d hc)];exact oU d rfl,by simp[kA,hc]⟩
  .cases hv
 cases v with
 |agg q=>
  simp only[TV.cs]at hv;split at hv
  .rename_i hc;simp only[af]at hv;subst hv;simp only[b9]at d;split at d
   .rename_i s hl;simp only[af]at d;subst d;exact⟨hl,hc⟩
   .cases d
  .cases hv
 |f T x=>
  simp only[TV.cs]at hv;simp only[b9,af]at d;subst d;rw[zn];exact lM h 40 T x l hv
 |fel T xs j hj off=>exact one hv
 |pel id sz j off=>exact one hv
 |ptr id off=>exact one hv
 |csl id off z=>exact one hv
 |row id=>exact one hv
 |emp=>exact one hv
 |nil=>exact one hv
 |mp id=>exact one hv
 |rtl id A=>exact one hv
 |tup q=>exact one hv
 |clo g q=>exact one hv
 |undef=>exact one hv
 |np=>exact one hv
 |anyb=>exact one hv
 |ful S q=>exact one hv
def C7 (h:bl) (H H':HF) (m:Nat):Prop:=∀id,aO m id=M->H (nm id)=bB h (nm id)/\H' (nm id)=U
theorem C7.zero {h:bl} {H H':HF}:C7 h H H' 0:=λid hid=>by simp at hid
theorem C7.or {h:bl} {H H':HF} {a b:Nat} (g:C7 h H H' (a|||b)):C7 h H H' a/\C7 h H H' b:=
 ⟨λid hid=>g id (by rw[bw,hid];rfl),λid hid=>g id (by rw[bw,hid];simp)⟩
theorem bV {i j:Nat}:aO (kn i) j=M↔i=j:=by
 unfold kn;rw[Nat.one_shiftLeft,Nat.testBit_two_pow];simp
section pack
variable {h:bl} {H H':HF}
theorem wN (d:uf H H') {T:Ty} {v:TV} {x:T.den} {m:Nat} {y:AV} (s:g_ h T v=Z (x,m)) (A:b9 h v=Z y) (g:C7 h H H' m):lj H H' y (.f (gg T x))/\y.cs.length=T.size/\(T.one=M->y.isCell=M)/\gQ H H' y.cs ((bO T x).map .f):=by
 cases v with
 |f S v=>
  simp only[g_]at s;split at s
  .rename_i z D;simp only[af,aC]at s;obtain⟨rfl,_⟩:=s;obtain⟨e,rfl⟩:=gL D;subst e;simp only[b9,af]at A;subst A;refine ⟨lj.refl d _,by rw[zn,co,bA],λI=>?_,by rw[zn];exact gQ.refl d _⟩;cases S<;>simp only[Ty.one]at I<;>first|rfl|cases I
  .cases s
 |emp=>
  simp only[g_]at s;split at s
  .simp only[af,aC]at s;obtain⟨rfl,_⟩:=s;simp only[b9,af]at A;subst A;exact⟨Le.emp.toH d,rfl,λ_=>rfl,⟨Le.emp.toH d,trivial⟩⟩
  .cases s
 |nil=>
  simp only[g_]at s;split at s
  .simp only[af,aC]at s;obtain⟨rfl,_⟩:=s;simp only[b9,af]at A;subst A;exact⟨Le.nil.toH d,rfl,λ_=>rfl,⟨Le.nil.toH d,trivial⟩⟩
  .cases s
 |row id=>
  simp only[g_]at s;split at s
  .rename_i ty p S xs hb;split at s
   .rename_i z D;simp only[af,aC]at s;obtain⟨rfl,rfl⟩:=s;obtain⟨e,rfl⟩:=gL D;subst e;obtain⟨F,L⟩:=g id (bV.2 rfl);rw[bK,hb]at F;simp only[b9,eh,hb,af]at A;subst A;have key:lj H H' (eZ p id S.size xs.length) (.f (gg (.sl S) xs)):=by
     unfold eZ;split
     .rename_i hp;simp only[ak,cO]at hp;have:xs=[]:=jg.1 hp.2;subst this;exact Le.emp.toH d
     .rename_i hp;simp only[aD,jv,aL hp]at F;exact lj.row d F L (eF (bA S) xs)
    have hc:(eZ p id S.size xs.length).isCell=M:=by unfold eZ;split<;>rfl
    refine ⟨key,by rw[MU hc];rfl,λ_=>hc,?_⟩;rw[MU hc];exact⟨key,trivial⟩
   .cases s
  .cases s
 |fel T xs j hj off=>simp[g_]at s
 |pel id sz j off=>simp[g_]at s
 |ptr id off=>simp[g_]at s
 |csl id off z=>simp[g_]at s
 |mp id=>simp[g_]at s
 |rtl id jj=>simp[g_]at s
 |agg q=>simp[g_]at s
 |tup q=>simp[g_]at s
 |clo f q=>simp[g_]at s
 |undef=>simp[g_]at s
 |np=>simp[g_]at s
 |anyb=>simp[g_]at s
 |ful S q=>simp[g_]at s
theorem rM (d:uf H H'):∀(n:Nat) (T:Ty) (l:Y TV) (x:T.den) (m:Nat) (r:Y TV) (s:Y AV),eK h n T l=Z (x,m,r)->cz h l=Z s->C7 h H H' m->∃l1 l2,s=l1++l2/\cz h r=Z l2/\gQ H H' l1 ((bO T x).map .f)
 |0,_,_,_,_,_,_,hp,_,_=>by simp[eK]at hp
 |n+1,.st t,l,x,m,r,s,hp,hl,g=>rM d n t l x m r s hp hl g
 |n+1,.pr a b,l,x,m,r,s,hp,hl,g=>by
  simp only[eK]at hp;split at hp
  .rename_i x1 m1 r1 h1;split at hp
   .rename_i x2 m2 r2 h2;simp only[af,aC]at hp;obtain⟨rfl,rfl,rfl⟩:=hp;obtain⟨F,D⟩:=g.or;obtain⟨l1,l2,rfl,q1,q2⟩:=rM d n a l x1 m1 r1 s h1 hl F;obtain⟨A,z,rfl,q3,q4⟩:=rM d n b r1 x2 m2 r2 l2 h2 q1 D;refine ⟨l1++A,z,by simp,q3,?_⟩;rw[bO,c7];exact q2.append q4
   .cases hp
  .cases hp
 |n+1,.un,l,x,m,r,s,hp,hl,g=>by
  simp only[eK,af,aC]at hp;obtain⟨_,_,rfl⟩:=hp;exact⟨[],s,rfl,hl,trivial⟩
 |n+1,.ex,l,x,m,r,s,hp,hl,g=>by
  simp only[eK]at hp;split at hp
  .rename_i x1 m1 r1 h1;simp only[af,aC]at hp;obtain⟨rfl,rfl,rfl⟩:=hp;rw[bO,Qb];exact rM d n LZ l x1 m1 r1 s h1 hl g
  .cases hp
 |n+1,.sm,l,x,m,r,s,hp,hl,g=>by
  simp only[eK]at hp;split at hp
  .rename_i x1 m1 r1 h1;simp only[af,aC]at hp;obtain⟨rfl,rfl,rfl⟩:=hp;rw[bO,Qa];exact rM d n Lv l x1 m1 r1 s h1 hl g
  .cases hp
 |n+1,.int k,l,x,m,r,s,hp,hl,g=>by
  simp only[eK]at hp;split at hp
  .rename_i c q;split at hp
   .rename_i x1 m1 h1;simp only[af,aC]at hp;obtain⟨rfl,rfl,rfl⟩:=hp;obtain⟨y,l2,rfl,q1,q2⟩:=cU hl;exact⟨[y],l2,rfl,q2,⟨(wN d h1 q1 g).1,trivial⟩⟩
   .cases hp
  .cases hp
 |n+1,.bool,l,x,m,r,s,hp,hl,g=>by
  simp only[eK]at hp;split at hp
  .rename_i c q;split at hp
   .rename_i x1 m1 h1;simp only[af,aC]at hp;obtain⟨rfl,rfl,rfl⟩:=hp;obtain⟨y,l2,rfl,q1,q2⟩:=cU hl;exact⟨[y],l2,rfl,q2,⟨(wN d h1 q1 g).1,trivial⟩⟩
   .cases hp
  .cases hp
 |n+1,.str,l,x,m,r,s,hp,hl,g=>by
  simp only[eK]at hp;split at hp
  .rename_i c q;split at hp
   .rename_i x1 m1 h1;simp only[af,aC]at hp;obtain⟨rfl,rfl,rfl⟩:=hp;obtain⟨y,l2,rfl,q1,q2⟩:=cU hl;exact⟨[y],l2,rfl,q2,⟨(wN d h1 q1 g).1,trivial⟩⟩
   .cases hp
  .cases hp
 |n+1,.sl t,l,x,m,r,s,hp,hl,g=>by
  simp only[eK]at hp;split at hp
  .rename_i c q;split at hp
   .rename_i x1 m1 h1;simp only[af,aC]at hp;obtain⟨rfl,rfl,rfl⟩:=hp;obtain⟨y,l2,rfl,q1,q2⟩:=cU hl;exact⟨[y],l2,rfl,q2,⟨(wN d h1 q1 g).1,trivial⟩⟩
   .cases hp
  .cases hp
theorem Se (d:uf H H') {n:Nat} {T:Ty} {l:Y TV} {x:T.den} {m:Nat} {q:Y AV} (hp:eK h n T l=Z (x,m,[])) (hl:cz h l=Z q) (g:C7 h H H' m):gQ H H' q ((bO T x).map .f):=by
 obtain⟨l1,l2,rfl,q1,q2⟩:=rM d n T l x m [] q hp hl g;simp only[cz,af]at q1;subst q1;simpa using q2
theorem N8 (d:uf H H') {T:Ty} {v:TV} {x:T.den} {m:Nat} {y:AV} (s:Bj h T v=Z (x,m)) (A:b9 h v=Z y) (g:C7 h H H' m):lj H H' y (.f (gg T x))/\gQ H H' y.cs ((bO T x).map .f):=by
 have other:g_ h T v=Z (x,m)->lj H H' y (.f (gg T x))/\gQ H H' y.cs ((bO T x).map .f):=λs=>by
  obtain⟨h1,_,_,h2⟩:=wN d s A g;exact⟨h1,h2⟩
 cases v with
 |agg l=>
  simp only[Bj]at s;split at s
  .cases s
  .rename_i D;split at s
   .rename_i x1 m1 h1;simp only[af,aC]at s;obtain⟨rfl,rfl⟩:=s;simp only[b9]at A;split at A
    .rename_i F hl;simp only[af]at A;subst A;have:=Se d h1 hl g;refine ⟨?_,this⟩;rw[qj T x1 (by simpa using D)];exact lj.aggL this (nN T x1)
    .cases A
   .cases s
 |f S v=>exact other s
 |fel T xs j hj off=>exact other s
 |pel id sz j off=>exact other s
 |ptr id off=>exact other s
 |csl id off z=>exact other s
 |row id=>exact other s
 |emp=>exact other s
 |nil=>exact other s
 |mp id=>exact other s
 |rtl id I=>exact other s
 |tup q=>exact other s
 |clo g q=>exact other s
 |undef=>exact other s
 |np=>exact other s
 |anyb=>exact other s
 |ful S q=>exact other s
theorem BG (d:uf H H') {T:Ty}:∀(n:Nat) (l:Y TV) (xs:Y T.den) (m:Nat) (q:Y AV),xN h T n l=Z (xs,m)->cz h l=Z q->C7 h H H' m->gQ H H' q ((xs.flatMap (bO T)).map .f)/\xs.length=n
 |0,[],xs,m,q,hp,hl,g=>by
  simp only[xN,af,aC]at hp;obtain⟨rfl,_⟩:=hp;simp only[cz,af]at hl;subst hl;exact⟨trivial,rfl⟩
 |0,_::_,xs,m,q,hp,hl,g=>by simp[xN]at hp
 |n+1,l,xs,m,q,hp,hl,g=>by
  simp only[xN]at hp;split at hp
  .rename_i x1 m1 r1 h1;split at hp
   .rename_i x2 m2 h2;simp only[af,aC]at hp;obtain⟨rfl,rfl⟩:=hp;obtain⟨z,s⟩:=g.or;obtain⟨l1,l2,rfl,q1,q2⟩:=rM d 40 T l x1 m1 r1 q h1 hl z;obtain⟨q3,q4⟩:=BG d n r1 x2 m2 l2 h2 q1 s;refine ⟨?_,by simp[q4]⟩;rw[fo,c7];exact q2.append q3
   .cases hp
  .cases hp
theorem tM (h:bl):∀(n:Nat) (T:Ty) (v:T.den) (off sz:Nat) (ag:Bool) (u:TV),nS n T v off sz ag=Z u->off+sz<=T.size/\∃y,b9 h u=Z (.f y)/\(ag=aa->sz=1/\(bO T v)[off]? =Z y)/\(ag=M->y= .agg (((bO T v).drop off).take sz))
 |0,_,_,_,_,_,_,hg=>by simp[nS]at hg
 |n+1,.st t,v,off,sz,ag,u,hg=>by
  simp only[nS]at hg;split at hg
  .rename_i hc;simp only[ak]at hc;obtain⟨⟨h1,h2⟩,rfl⟩:=hc;have h1:=au h1;have h2:=au h2;subst h1;subst h2;simp only[af]at hg;subst hg;refine ⟨by simp[Ty.size],_,rfl,λh=>(by cases h),λ_=>?_⟩;simp only[gg,bO,List.drop_zero];rw[<- bA t v,bQ]
  .exact tM h n t v off sz ag u hg
 |n+1,.pr a b,v,off,sz,ag,u,hg=>by
  simp only[nS]at hg;have hla:=bA a v.1;have hlb:=bA b v.2;split at hg
  .rename_i hlt;have hlt:off<a.size:=a9 hlt;obtain⟨h1,y,h2,h3,h4⟩:=tM h n a v.1 off sz ag u hg;refine ⟨by simp only[Ty.size];omega,y,h2,λe=>?_,λe=>?_⟩
   .obtain⟨q,d⟩:=h3 e;exact⟨q,by rw[bO,bT (by omega)];exact d⟩
   .rw[h4 e,bO];have:((bO a v.1++bO b v.2).drop off).take sz=((bO a v.1).drop off).take sz:=by
     rw[C1 (by omega),k_ (by simp;omega)]
    rw[this]
  .rename_i hlt;have hlt:¬off<a.size:=λh=>hlt (bt h)
   obtain⟨h1,y,h2,h3,h4⟩:=tM h n b v.2 (off-a.size) sz ag u hg;refine ⟨by simp only[Ty.size];omega,y,h2,λe=>?_,λe=>?_⟩
   .obtain⟨q,d⟩:=h3 e;exact⟨q,by rw[bO,b8 (by omega),hla];exact d⟩
   .rw[h4 e,bO];have:(bO a v.1++bO b v.2).drop off=(bO b v.2).drop (off-a.size):=by
     rw[uk,hla,rn (by omega)];simp
    rw[this]
 |n+1,.un,v,off,sz,ag,u,hg=>by simp[nS]at hg
 |n+1,.ex,v,off,sz,ag,u,hg=>by
  simp only[nS]at hg;split at hg
  .rename_i hc;simp only[ak]at hc;obtain⟨⟨h1,h2⟩,rfl⟩:=hc;have h1:=au h1;have h2:=au h2;subst h1;subst h2;simp only[af]at hg;subst hg;refine ⟨by simp[Ty.size],_,rfl,λh=>(by cases h),λ_=>?_⟩;simp only[gg,bO,List.drop_zero];rw[<- wF v,bQ]
  .obtain⟨h1,y,h2,h3,h4⟩:=tM h n LZ (MH v) off sz ag u hg;rw[Ix]at h3 h4;exact⟨h1,y,h2,h3,h4⟩
 |n+1,.sm,v,off,sz,ag,u,hg=>by
  simp only[nS]at hg;split at hg
  .rename_i hc;simp only[ak]at hc;obtain⟨⟨h1,h2⟩,rfl⟩:=hc;have h1:=au h1;have h2:=au h2;subst h1;subst h2;simp only[af]at hg;subst hg;refine ⟨by simp[Ty.size],_,rfl,λh=>(by cases h),λ_=>?_⟩;simp only[gg,bO,List.drop_zero];rw[<- Ce v,bQ]
  .obtain⟨h1,y,h2,h3,h4⟩:=tM h n Lv (MG v) off sz ag u hg;rw[Iw]at h3 h4;exact⟨h1,y,h2,h3,h4⟩
 |n+1,.int k,v,off,sz,ag,u,hg=>by
  simp only[nS]at hg;split at hg
  .rename_i hc;simp only[ak,d_]at hc;obtain⟨⟨h1,h2⟩,rfl⟩:=hc;have h1:=au h1;have h2:=au h2;subst h1;subst h2;simp only[af]at hg;subst hg;exact⟨by simp[Ty.size],_,rfl,λ_=>⟨rfl,rfl⟩,λh=>by cases h⟩
  .cases hg
 |n+1,.bool,v,off,sz,ag,u,hg=>by
  simp only[nS]at hg;split at hg
  .rename_i hc;simp only[ak,d_]at hc;obtain⟨⟨h1,h2⟩,rfl⟩:=hc;have h1:=au h1;have h2:=au h2;subst h1;subst h2;simp only[af]at hg;subst hg;exact⟨by simp[Ty.size],_,rfl,λ_=>⟨rfl,rfl⟩,λh=>by cases h⟩
  .cases hg
 |n+1,.str,v,off,sz,ag,u,hg=>by
  simp only[nS]at hg;split at hg
  .rename_i hc;simp only[ak,d_]at hc;obtain⟨⟨h1,h2⟩,rfl⟩:=hc;have h1:=au h1;have h2:=au h2;subst h1;subst h2;simp only[af]at hg;subst hg;exact⟨by simp[Ty.size],_,rfl,λ_=>⟨rfl,rfl⟩,λh=>by cases h⟩
  .cases hg
 |n+1,.sl t,v,off,sz,ag,u,hg=>by
  simp only[nS]at hg;split at hg
  .rename_i hc;simp only[ak,d_]at hc;obtain⟨⟨h1,h2⟩,rfl⟩:=hc;have h1:=au h1;have h2:=au h2;subst h1;subst h2;simp only[af]at hg;subst hg;exact⟨by simp[Ty.size],_,rfl,λ_=>⟨rfl,rfl⟩,λh=>by cases h⟩
  .cases hg
theorem R7 {α:Type} (l vs:Y α) (h:vs.length=l.length):AI.splice l 0 vs=vs:=by
 unfold AI.splice;rw[bL,h,List.drop_length];simp
theorem OE {α:Type} (a b vs:Y α) (off:Nat) (h:off+vs.length<=a.length):AI.splice (a++b) off vs=AI.splice a off vs++b:=by
 unfold AI.splice;rw[k_ (by omega),C1 (by omega)];simp[ir]
theorem MN {α:Type} (a b vs:Y α) (off:Nat) (h:a.length<=off):AI.splice (a++b) off vs=a++AI.splice b (off-a.length) vs:=by
 unfold AI.splice;rw[List.take_append,uk,fJ h,rn (by omega),show off+vs.length-a.length=off-a.length+vs.length from by omega];simp[ir]
def Vv (H H':HF) (y:AV) (T:Ty) (v z:T.den) (off sz:Nat):Prop:=∃fs:Y FV,gQ H H' y.cs (fs.map .f)/\fs.length=sz/\off+sz<=T.size/\bO T z=AI.splice (bO T v) off fs/\∀x∈fs,x.isCell=M
theorem Vv.whole {y:AV} {T:Ty} {v z:T.den} {off sz:Nat} (h0:off=0) (hs:sz=T.size) (hl:gQ H H' y.cs ((bO T z).map .f)):Vv H H' y T v z off sz:=by
 subst h0;subst hs;exact⟨bO T z,hl,bA T z,by omega,(R7 _ _ (by rw[bA,bA])).symm,nN T z⟩
theorem uZ (d:uf H H') {u:TV} {y:AV} (s:b9 h u=Z y):∀(n:Nat) (T:Ty) (v:T.den) (off sz:Nat) (z:T.den) (m:Nat),gH h u n T v off sz=Z (z,m)->C7 h H H' m->Vv H H' y T v z off sz
 |0,_,_,_,_,_,_,hg,_=>by simp[gH]at hg
 |n+1,.st t,v,off,sz,z,m,hg,g=>by
  simp only[gH]at hg;split at hg
  .rename_i q hq;split at hq
   .rename_i hc;simp only[ak]at hc;simp only[af]at hg;subst hg;exact .whole (au hc.1) (au hc.2) (N8 d hq s g).2
   .cases hq
  .exact uZ d s n t v off sz z m hg g
 |n+1,.pr a b,v,off,sz,z,m,hg,g=>by
  simp only[gH]at hg;have hla:=bA a v.1;split at hg
  .rename_i hlt;split at hg
   .rename_i A m1 h1;simp only[af,aC]at hg;obtain⟨rfl,rfl⟩:=hg;obtain⟨fs,q1,q2,q3,q4,q5⟩:=uZ d s n a v.1 off sz A m1 h1 g;refine ⟨fs,q1,q2,by simp only[Ty.size];omega,?_,q5⟩;rw[bO,bO,OE _ _ _ _ (by omega),q4]
   .cases hg
  .rename_i hlt;have hlt:¬off<a.size:=λh=>hlt (bt h)
   split at hg
   .rename_i A m1 h1;simp only[af,aC]at hg;obtain⟨rfl,rfl⟩:=hg;obtain⟨fs,q1,q2,q3,q4,q5⟩:=uZ d s n b v.2 (off-a.size) sz A m1 h1 g;refine ⟨fs,q1,q2,by simp only[Ty.size];omega,?_,q5⟩;rw[bO,bO,MN _ _ _ _ (by omega),q4,hla]
   .cases hg
 |n+1,.un,v,off,sz,z,m,hg,g=>by simp[gH]at hg
 |n+1,.ex,v,off,sz,z,m,hg,g=>by
  simp only[gH]at hg;split at hg
  .rename_i q hq;split at hq
   .rename_i hc;simp only[ak]at hc;simp only[af]at hg;subst hg;exact .whole (au hc.1) (au hc.2) (N8 d hq s g).2
   .cases hq
  .split at hg
   .rename_i A m1 h1;simp only[af,aC]at hg;obtain⟨rfl,rfl⟩:=hg;obtain⟨fs,q1,q2,q3,q4,q5⟩:=uZ d s n LZ (MH v) off sz A m1 h1 g;exact⟨fs,q1,q2,q3,by rw[bO,bO,Qb,q4,Ix],q5⟩
   .cases hg
 |n+1,.sm,v,off,sz,z,m,hg,g=>by
  simp only[gH]at hg;split at hg
  .rename_i q hq;split at hq
   .rename_i hc;simp only[ak]at hc;simp only[af]at hg;subst hg;exact .whole (au hc.1) (au hc.2) (N8 d hq s g).2
   .cases hq
  .split at hg
   .rename_i A m1 h1;simp only[af,aC]at hg;obtain⟨rfl,rfl⟩:=hg;obtain⟨fs,q1,q2,q3,q4,q5⟩:=uZ d s n Lv (MG v) off sz A m1 h1 g;exact⟨fs,q1,q2,q3,by rw[bO,bO,Qa,q4,Iw],q5⟩
   .cases hg
 |n+1,.int k,v,off,sz,z,m,hg,g=>by
  simp only[gH]at hg;split at hg
  .rename_i hc;simp only[ak]at hc;exact .whole (au hc.1) (au hc.2) (wN d hg s g).2.2.2
  .cases hg
 |n+1,.bool,v,off,sz,z,m,hg,g=>by
  simp only[gH]at hg;split at hg
  .rename_i hc;simp only[ak]at hc;exact .whole (au hc.1) (au hc.2) (wN d hg s g).2.2.2
  .cases hg
 |n+1,.str,v,off,sz,z,m,hg,g=>by
  simp only[gH]at hg;split at hg
  .rename_i hc;simp only[ak]at hc;exact .whole (au hc.1) (au hc.2) (wN d hg s g).2.2.2
  .cases hg
 |n+1,.sl t,v,off,sz,z,m,hg,g=>by
  simp only[gH]at hg;split at hg
  .rename_i hc;simp only[ak]at hc;exact .whole (au hc.1) (au hc.2) (wN d hg s g).2.2.2
  .cases hg
theorem Jx:∀{a b:ξ},Q_ a b=M->a=b
 |[],[],_=>rfl
 |[],_::_,h=>by cases h
 |_::_,[],h=>by cases h
 |x::xs,y::ys,h=>by
  simp only[Q_,ak]at h;rw[acg h.1,Jx h.2]
theorem zero_ok (d:uf H H'):∀T:Ty,gQ H H' ((su T).map raw) ((bO T T.zero).map .f)
 |.int k=>⟨lj.refl d _,trivial⟩
 |.bool=>⟨lj.refl d _,trivial⟩
 |.str=>⟨lj.refl d _,trivial⟩
 |.sl t=>⟨Le.nil.toH d,trivial⟩
 |.st t=>zero_ok d t
 |.pr a b=>by
  simp only[su,Ty.zero,bO,c7];exact (zero_ok d a).append (zero_ok d b)
 |.un=>trivial
 |.ex=>⟨lj.refl d _,lj.refl d _,lj.refl d _,Le.nil.toH d,trivial⟩
 |.sm=>⟨lj.refl d _,lj.refl d _,lj.refl d _,lj.refl d _,Le.nil.toH d,lj.refl d _,lj.refl d _,lj.refl d _,Le.nil.toH d,Le.nil.toH d,Le.nil.toH d,trivial⟩
theorem GF (d:uf H H') (T:Ty):∀n,gQ H H' ((repl (su T) n).map .f) (((aA n T.zero).flatMap (bO T)).map .f)
 |0=>trivial
 |n+1=>by
  rw[repl,pJ,fo,c7,c7];have h1:=zero_ok (H:=H) (H':=H') d T;have:((su T).map .raw).map AV.f=(su T).map raw:=by rw[GA];rfl
  rw[this];exact h1.append (GF d T n)
end pack
structure l_ (h:bl) (nx:Nat):Prop where
 cells:∀id ty l,h.get id=Z (.cells ty l)->kO h l=M
 low:∀id b,h.get id=Z b->id<nx
def sU (e:iJ) (h:bl):Prop:=∀t v,e.get t=Z v->Km h v=M
structure iz (P:Program) (o:Oper) (still:Bool) (e:iJ) (h:bl) (nx:Nat) (v:TV) (rd wr:Nat) (h':bl) (nx':Nat):Prop where
 ex:∃f:Aq,gy P o (fh e h) (bB h) f/\(∀y,b9 h' v=Z y->f.val=y)/\eE (bB h) f.wr f.nw=bB h'/\(∀n∈f.rd,aO rd (ow n)=M)/\(∀n∈f.wr,aO wr (ow n)=M)/\(∀n∈f.N,nx<=ow n/\ow n<nx')
 rows:b6 h h'
 inv:l_ h' nx'
 grows:nx<=nx'
 st:still=M->rd=0/\wr=0
def kG {R:Type} (P:Program) (o:Oper) (still:Bool) (e:iJ) (h:bl) (nx:Nat) (K:KO R) (r:R):Prop:=
 ∃v rd wr h' nx',K v rd wr h' nx'=Z r/\iz P o still e h nx v rd wr h' nx'
theorem dM {R:Type} {b:Bool} {k:b=M->J R} {r:R} (h:chk b k=Z r):∃hb:b=M,k hb=Z r:=by
 cases b with
 |true=>exact⟨rfl,h⟩
 |false=>cases h
theorem lO {R:Type} {b:Bool} {t f:J R} {r:R} (h:aE b t f=Z r):(b=M/\t=Z r)\/(b=aa/\f=Z r):=by
 cases b with
 |true=>exact .inl ⟨rfl,h⟩
 |false=>exact .inr ⟨rfl,h⟩
theorem dD {α R:Type} {o:J α} {k:α->J R} {r:R} (h:av o k=Z r):∃x,o=Z x/\k x=Z r:=by
 cases o with
 |some x=>exact⟨x,rfl,h⟩
 |none=>cases h
theorem Du {j:Int} {n:Nat} (h:fm j n=M):0<=j/\j<n/\j.toNat<n:=by
 simp only[fm,cL,fI,ak,bz]at h;omega
theorem gy.envLe {P:Program} {o:Oper} {e e2:EF} {h:HF} {f:Aq} (ht:gy P o e h f) (hle:∀t y,.tmp t∈o.op.operands->e t=Z y->∃q,e2 t=Z q/\Le q y):gy P o e2 h f:=by
 intro φ E h' w a h1 h2 h3 h4 z;refine ht φ E h' w a h1 h2 (λt d y s=>?_) h4 z;obtain⟨q,D,A⟩:=hle t y d s;exact A _ _ _ _ (h3 t d q D)
theorem Je (h:bl) {v:Value} {u:TV} (hc:cst v=Z u):b9 h u=Z (raw v)/\v.oneCell'=M/\u.isC=M:=by
 unfold cst at hc;split at hc<;>cases hc<;>exact⟨rfl,rfl,rfl⟩
theorem uC (h:bl):∀{z:ξ} {l:Y TV},Jd z=Z l->cz h l=Z (z.map raw)/\(∀x∈z,x.oneCell'=M)/\kA l=M
 |[],l,hc=>by simp only[Jd,af]at hc;subst hc;exact⟨rfl,by simp,rfl⟩
 |v::r,l,hc=>by
  simp only[Jd]at hc;split at hc
  .rename_i x D q hl;simp only[af]at hc;subst hc;obtain⟨h1,h2,h3⟩:=Je h q;obtain⟨h4,A,s⟩:=uC h hl;refine ⟨oU h1 h4,λy d=>?_,by simp[kA,h3,s]⟩;rcases bu.1 d with rfl|d
   .exact h2
   .exact A y d
  .cases hc
theorem bI {e:iJ} {h:bl} (hi:sU e h) {x:Operand} {v:TV} (d:e9 e x=Z v):∃y,mA (It e h) x=Z y/\b9 h v=Z y:=by
 cases x with
 |tmp t=>
  simp only[e9]at d;obtain⟨y,q⟩:=oX h v (hi t v d);refine ⟨y,?_,q⟩;simp only[mA];rw[uy];simp only[fh,d,aD,q]
 |const c=>
  simp only[e9]at d;unfold af2 at d;split at d
  .rename_i vs;split at d
   .rename_i h1;split at d
    .rename_i l hl;simp only[af]at d;subst d;refine ⟨.agg (vs.toList.map raw),?_,by simp only[b9,(uC h hl).1]⟩;simp only[mA,D5,h1,bE];rfl
    .cases d
   .cases d
  .rename_i hn;refine ⟨raw c,?_,(Je h d).1⟩;simp only[mA];unfold D5;split
   .rename_i vs;exact dP rfl (hn vs)
   .rfl
 |func g=>
  simp only[e9,af]at d;subst d;exact⟨_,rfl,rfl⟩
 |global g=>
  simp only[e9]at d;cases hg:G g with
  |none=>rw[hg]at d;cases d
  |some cells=>
   rw[hg]at d;simp only[af]at d;subst d;have hcells:cells=BP:=by
    unfold G at hg;split at hg
    .cases hg;rfl
    .cases hg
   subst hcells;exact⟨_,by simp only[mA,hg];rfl,rfl⟩
theorem xP {e:iJ} {h:bl} (hi:sU e h):∀{xs:Y Operand} {l:Y TV},Ez e xs=Z l->∃q,U9 (It e h) xs=Z q/\cz h l=Z q
 |[],l,d=>by simp only[Ez,af]at d;subst d;exact⟨[],rfl,rfl⟩
 |x::xs,l,d=>by
  simp only[Ez]at d;split at d
  .rename_i y z;split at d
   .rename_i A hys;simp only[af]at d;subst d;obtain⟨s,h1,h2⟩:=bI hi z;obtain⟨q,h3,h4⟩:=xP hi hys;exact⟨s::q,by simp only[U9,h1,h3],oU h2 h4⟩
   .cases d
  .cases d
section ops
variable {R:Type} {P:Program} {o:Oper} {e:iJ} {h:bl} {nx:Nat} {K:KO R} {r:R}
theorem iz.pure {s:Xh} {st:Bool} (hinv:l_ h nx) (hc:dk P o.op=Z s) {H:nR} (A:H.get=bB h) {k:Nat} {y0:AV} {rdl:ι} (z:ef s (It e h) H k=Z ⟨y0,rdl,[],[],[]⟩) {v:TV} (hv:∀y,b9 h v=Z y->Le y0 y) {rd:Nat} (hrd:∀n∈rdl,aO rd (ow n)=M) (hst:st=M->rd=0):iz P o st e h nx v rd 0 h nx:=by
 have ht:=Hq hc z;rw[uy,A]at ht;refine ⟨?_,λ_ _ h=>h,hinv,cB _,λhs=>⟨hst hs,rfl⟩⟩;have key:∀y,Le y0 y->gy P o (fh e h) (bB h) ⟨y,rdl,[],jd [],[]⟩:=λy hle=>
  gy.view ht (λi hi=>by cases hi) λh' _ _=>⟨Gr.refl _,hle.toH (uf.refl _)⟩
 cases q:b9 h v with
 |none=>exact⟨_,ht,λy d=>by simp at d,by simp[zN.eff,s8],hrd,by simp[zN.eff],by simp[zN.eff]⟩
 |some y=>exact⟨_,key y (hv y q),λD d=>by simpa using d,by simp[s8],hrd,by simp,by simp⟩
theorem kG.q {s:Xh} {st:Bool} (hinv:l_ h nx) (hc:dk P o.op=Z s) {k:Nat} {y0:AV} (z:∀H:nR,H.get=bB h->ef s (It e h) H k=rv y0) {v:TV} (hv:∀y,b9 h v=Z y->Le y0 y) (hk:K v 0 0 h nx=Z r):kG P o st e h nx K r:=by
 obtain⟨H,d⟩:=jL h;exact⟨v,0,0,h,nx,hk,iz.pure hinv hc d (z H d) hv (by simp) λ_=>rfl⟩
theorem dc {y0:AV} {v:TV} (hv:b9 h v=Z y0):∀y,b9 h v=Z y->Le y0 y:=λy d=>by rw[hv]at d;cases d;exact Le.refl _
theorem adl {T:Ty} {xs:Y T.den} {j:Int} (hj:fm j xs.length=M) {off sz:Nat} {ag:Bool} {u:TV} (hg:nS 40 T (aH xs j) off sz ag=Z u):
 ∃y,b9 h u=Z (.f y)/\(BC.fz (xs.flatMap (bO T))).sub? (j.toNat*T.size+off) sz ag=Z (.f y):=by
 obtain⟨h1,y,h2,h3,h4⟩:=tM h 40 T _ off sz ag u hg;refine ⟨y,h2,?_⟩;obtain⟨_,_,hlt⟩:=Du hj;have d:xs[j.toNat]? =Z (aH xs j):=by
  unfold aH;rw[ay,aw hlt];rfl
 obtain⟨q,hq⟩:=DM (bA T) xs j.toNat _ d;have hlen:=eF (bA T) xs;have hle:(j.toNat+1)*T.size<=xs.length*T.size:=cr _ hlt;rw[iL]at hle;have hl:=bA T (aH xs j);cases ag with
 |false=>
  obtain⟨z,s⟩:=h3 rfl;subst z;simp only[BC.sub?,BC.get];have:(xs.flatMap (bO T))[j.toNat*T.size+off]? =Z y:=by
   rw[<- gM,hq,bT (by omega)];exact s
  rw[this];rfl
 |true=>
  simp only[BC.sub?];rw[aU (bt (by omega)),h4 rfl,<-List.drop_drop,hq,C1 (by omega),k_ (by simp;omega)]
theorem adm {T:Ty} {v:T.den} {off sz:Nat} {ag:Bool} {u:TV} (hg:nS 40 T v off sz ag=Z u):
 ∃y,b9 h u=Z (.f y)/\(BC.fz (bO T v)).sub? off sz ag=Z (.f y):=by
 obtain⟨h1,y,h2,h3,h4⟩:=tM h 40 T _ off sz ag u hg;refine ⟨y,h2,?_⟩;have hl:=bA T v;cases ag with
 |false=>
  obtain⟨q,d⟩:=h3 rfl;subst q;simp only[BC.sub?,BC.get,d];rfl
 |true=>
  simp only[BC.sub?];rw[aU (bt (by omega)),h4 rfl]
theorem UF {l:Y TV} {d:Y AV} (hl:cz h l=Z d) {off sz:Nat} {ag:Bool} {u:TV} (hs:R4 l off sz ag=Z u):∃y,b9 h u=Z y/\(BC.mx d).sub? off sz ag=Z y:=by
 cases ag with
 |false=>
  simp only[R4]at hs;split at hs
  .rename_i h1;have h1:=au h1;subst h1;obtain⟨y,h2,h3⟩:=kY hl off u hs;exact⟨y,h3,by simp only[BC.sub?,BC.get,h2]⟩
  .cases hs
 |true=>
  simp only[R4]at hs;split at hs
  .rename_i h1;simp only[af]at hs;subst hs;have h2:=DR sz (DU off hl);exact⟨.agg ((d.drop off).take sz),by simp only[b9,h2],by simp only[BC.sub?,gw hl,h1,bE]⟩
  .cases hs
theorem O4 {v:TV} {n:Nat} {y:AV} (hn:lenOf h v=Z n) (d:b9 h v=Z y):y.slen=Z n:=by
 unfold lenOf at hn;split at hn
 .simp only[af]at hn;subst hn;simp only[b9,af]at d;subst d;rfl
 .simp only[af]at hn;subst hn;simp only[b9,af]at d;subst d;rfl
 .simp only[af]at hn;subst hn;simp only[b9,af]at d;subst d;rfl
 .rename_i id;simp only[b9]at d;cases hr:eh h id with
  |none=>rw[hr]at hn;cases hn
  |some q=>
   obtain⟨p,sz,m⟩:=q;rw[hr]at hn d;simp only[af]at hn d;subst hn;subst d;unfold eZ;split
   .rename_i hp;simp only[ak,cO]at hp;rw[hp.2];rfl
   .rfl
 .simp only[af]at hn;subst hn;simp only[b9,af]at d;subst d;rfl
 .cases hn
theorem CQ (a b:ζ):rJ ⟨a.toArray⟩ ⟨b.toArray⟩=decide (a=b):=by
 unfold rJ;simp only[Bool.beq_eq_decide_eq]
theorem acf {op:BinOp} {u v:TV} {q:TV->J R} (hk:af7 op u v q=Z r):∃a b c t,b9 h u=Z (raw a)/\b9 h v=Z (raw b)/\sR op a b=Z c/\b9 h t=Z (raw c)/\q t=Z r:=by
 unfold af7 at hk;split at hk
 .rename_i k a k' b;split at hk
  .rename_i hkk;have hkk':k=k':=by simpa using hkk
   subst hkk';refine ⟨.int k a,.int k b,?_⟩;cases op<;>simp only[reduceCtorEq]at hk<;>first
    |cases hk
    |exact⟨_,_,rfl,rfl,(by simp only[sR,cN,bE]<;>rfl),rfl,hk⟩
    |(obtain ⟨hb,hk⟩:=dM hk
      have d:(b==(0:Int))=aa:=by simpa using hb
      exact⟨_,_,rfl,rfl,by simp only[sR,cN,bE,d,bG,dq],rfl,hk⟩)
  .cases hk
 .rename_i a b;refine ⟨.string ⟨eQ a⟩,.string ⟨eQ b⟩,?_⟩;split at hk
  .exact⟨.bool (decide ((a:ζ)=b)),_,rfl,rfl,by simp only[sR,CQ],rfl,hk⟩
  .exact⟨.bool (!decide ((a:ζ)=b)),_,rfl,rfl,by simp only[sR,CQ],rfl,hk⟩
  .cases hk
 .cases hk
theorem Vp {T:Ty}:∀{l:Y TV} {xs:Y T.den},wO T l=Z xs->∀k,k<l.length->l[k]? =Z (.f T (xs.getD k T.zero))
 |[],xs,_,k,hk=>by simp at hk
 |.f S v::r,xs,d,k,hk=>by
  simp only[wO]at d;split at d
  .rename_i x q;split at d
   .rename_i l hl;simp only[af]at d;subst d;obtain⟨es,ex⟩:=gL q;cases es;subst ex;cases k with
    |zero=>rfl
    |succ k=>simpa using Vp hl k (by simpa using hk)
   .cases d
  .cases d
 |.fel _ _ _ _ _::r,xs,d,k,hk=>by simp[wO]at d
 |.pel _ _ _ _::r,xs,d,k,hk=>by simp[wO]at d
 |.ptr _ _::r,xs,d,k,hk=>by simp[wO]at d
 |.csl _ _ _::r,xs,d,k,hk=>by simp[wO]at d
 |.row _::r,xs,d,k,hk=>by simp[wO]at d
 |.emp::r,xs,d,k,hk=>by simp[wO]at d
 |.nil::r,xs,d,k,hk=>by simp[wO]at d
 |.mp _::r,xs,d,k,hk=>by simp[wO]at d
 |.agg _::r,xs,d,k,hk=>by simp[wO]at d
 |.tup _::r,xs,d,k,hk=>by simp[wO]at d
 |.clo _ _::r,xs,d,k,hk=>by simp[wO]at d
 |.undef::r,xs,d,k,hk=>by simp[wO]at d
 |.np::r,xs,d,k,hk=>by simp[wO]at d
 |.anyb::r,xs,d,k,hk=>by simp[wO]at d
 |.ful _ _::r,xs,d,k,hk=>by simp[wO]at d
theorem Vo {l:Y TV} {T:Ty} {xs:Y T.den} (d:Zz l=Z ⟨T,xs⟩):∀k,k<l.length->l[k]? =Z (.f T (xs.getD k T.zero)):=by
 unfold Zz at d;split at d
 .split at d
  .rename_i l1 hl;simp only[af]at d;cases d;exact Vp hl
  .cases d
 .cases d
variable (hinv:l_ h nx) (hi:sU e h)
include hinv hi
theorem K_mv {con:FuncId->J ch} {bZ:TypeId->J Ty} {x:Operand} {st:Bool} (hc:dk P o.op=Z (.mv x)) (hk:dS con bZ (.op (.mv x)) e h nx K=Z r):kG P o st e h nx K r:=by
 simp only[dS]at hk;split at hk
 .rename_i v hv;obtain⟨y,h1,h2⟩:=bI hi hv;exact kG.q (k:=0) hinv hc (λH _=>by simp only[ef,h1]) (dc h2) hk
 .cases hk
theorem agt {con:FuncId->J ch} {bZ:TypeId->J Ty} {c a b:Operand} {st:Bool} (hc:dk P o.op=Z (.pick c a b)) (hk:dS con bZ (.op (.pick c a b)) e h nx K=Z r):kG P o st e h nx K r:=by
 simp only[dS]at hk;split at hk
 .rename_i t hv;obtain⟨y,h1,h2⟩:=bI hi hv;simp only[b9,af]at h2;subst h2;rcases lO hk with ⟨rfl,d⟩|⟨rfl,d⟩
  .split at d
   .rename_i v s;obtain⟨z,h3,h4⟩:=bI hi s;exact kG.q (k:=0) hinv hc (λH _=>by simp only[ef,h1,gg,bE,h3]) (dc h4) d
   .cases d
  .split at d
   .rename_i v s;obtain⟨z,h3,h4⟩:=bI hi s;exact kG.q (k:=0) hinv hc (λH _=>by simp only[ef,h1,gg,h3,bG,dq]) (dc h4) d
   .cases d
 .cases hk
theorem agu {con:FuncId->J ch} {bZ:TypeId->J Ty} {x:Operand} {st:Bool} (hc:dk P o.op=Z (.nilc x)) (hk:dS con bZ (.op (.nilc x)) e h nx K=Z r):kG P o st e h nx K r:=by
 simp only[dS]at hk;split at hk;all_goals first
  |(rename_i hv
    obtain⟨y,h1,h2⟩:=bI hi hv;have d:=h2;simp only[b9,af]at h2;subst h2;exact kG.q (k:=0) hinv hc (λH _=>by simp only[ef,h1]) (dc d) hk)
  |skip
 .rename_i g cap hv;obtain⟨y,h1,h2⟩:=bI hi hv;have d:=h2;simp only[b9]at h2;split at h2
  .simp only[af]at h2;subst h2;exact kG.q (k:=0) hinv hc (λH _=>by simp only[ef,h1]) (dc d) hk
  .cases h2
 .cases hk
theorem aji {con:FuncId->J ch} {bZ:TypeId->J Ty} {x:Operand} {st:Bool} (hc:dk P o.op=Z (.not x)) (hk:dS con bZ (.op (.not x)) e h nx K=Z r):kG P o st e h nx K r:=by
 simp only[dS]at hk;split at hk
 .rename_i b hv;obtain⟨y,h1,h2⟩:=bI hi hv;simp only[b9,af]at h2;subst h2;exact kG.q (k:=0) hinv hc (λH _=>by simp only[ef,h1,gg];rfl) (dc rfl) hk
 .cases hk
theorem ah1 {con:FuncId->J ch} {bZ:TypeId->J Ty} {k:IntKind} {x:Operand} {st:Bool} (hc:dk P o.op=Z (.conv k x)) (hk:dS con bZ (.op (.conv k x)) e h nx K=Z r):kG P o st e h nx K r:=by
 simp only[dS]at hk;split at hk
 .rename_i k' n hv;obtain⟨y,h1,h2⟩:=bI hi hv;simp only[b9,af]at h2;subst h2;exact kG.q (k:=0) hinv hc (λH _=>by simp only[ef,h1,gg];rfl) (dc rfl) hk
 .cases hk
theorem ajw {con:FuncId->J ch} {bZ:TypeId->J Ty} {neg:Bool} {x y:Operand} {st:Bool} (hc:dk P o.op=Z (.eqb neg x y)) (hk:dS con bZ (.op (.eqb neg x y)) e h nx K=Z r):kG P o st e h nx K r:=by
 simp only[dS]at hk;split at hk
 .rename_i a b hv d;obtain⟨y,h1,h2⟩:=bI hi hv;obtain⟨s,h3,h4⟩:=bI hi d;simp only[b9,af]at h2 h4;subst h2;subst h4;exact kG.q (k:=0) hinv hc (λH _=>by simp only[ef,h1,h3,gg];rfl) (dc rfl) hk
 .cases hk
theorem ad5 {con:FuncId->J ch} {bZ:TypeId->J Ty} {neg:Bool} {x:Operand} {st:Bool} (hc:dk P o.op=Z (.isnil neg x)) (hk:dS con bZ (.op (.isnil neg x)) e h nx K=Z r):kG P o st e h nx K r:=by
 simp only[dS]at hk;split at hk
 .rename_i hv;obtain⟨y,h1,h2⟩:=bI hi hv;simp only[b9,af]at h2;subst h2;exact kG.q (k:=0) hinv hc (λH _=>by simp only[ef,h1,sO,bE];rfl) (dc rfl) hk
 .rename_i hv;obtain⟨y,h1,h2⟩:=bI hi hv;simp only[b9,af]at h2;subst h2;exact kG.q (k:=0) hinv hc (λH _=>by simp only[ef,h1]) (dc rfl) hk
 .rename_i T xs hv;obtain⟨y,h1,h2⟩:=bI hi hv;simp only[b9,af]at h2;subst h2;rcases lO hk with ⟨h3,d⟩|⟨h3,d⟩
  .have h3:=au h3;exact kG.q (k:=0) (y0:=.anyb) hinv hc (λH _=>by simp only[ef,h1,gg,h3]) (dc rfl) d
  .have h3:=gW h3;obtain⟨n,hn⟩:=Nat.exists_eq_succ_of_ne_zero h3;exact kG.q (k:=0) (y0:=raw (.bool neg)) hinv hc (λH _=>by simp only[ef,h1,gg,hn]) (dc rfl) d
 .rename_i id hv;split at hk
  .rename_i ty T xs hb;obtain⟨y,h1,h2⟩:=bI hi hv;simp only[b9,eh,hb,eZ,jS,bG,dq,af]at h2;subst h2;exact kG.q (k:=0) (y0:=raw (.bool neg)) hinv hc (λH _=>by simp only[ef,h1]) (dc rfl) hk
  .cases hk
 .cases hk
theorem ajn {con:FuncId->J ch} {bZ:TypeId->J Ty} {x y:Operand} {st:Bool} (hc:dk P o.op=Z (.max x y)) (hk:dS con bZ (.op (.max x y)) e h nx K=Z r):kG P o st e h nx K r:=by
 simp only[dS]at hk;split at hk
 .rename_i k a k' b hv d;obtain⟨y,h1,h2⟩:=bI hi hv;obtain⟨s,h3,h4⟩:=bI hi d;simp only[b9,af]at h2 h4;subst h2;subst h4;split at hk
  .exact kG.q (k:=0) hinv hc (λH _=>by simp only[ef,h1,h3,gg];rfl) (dc rfl) hk
  .cases hk
 .cases hk
theorem ajm {con:FuncId->J ch} {bZ:TypeId->J Ty} {x y:Operand} {st:Bool} (hc:dk P o.op=Z (.min x y)) (hk:dS con bZ (.op (.min x y)) e h nx K=Z r):kG P o st e h nx K r:=by
 simp only[dS]at hk;split at hk
 .rename_i k a k' b hv d;obtain⟨y,h1,h2⟩:=bI hi hv;obtain⟨s,h3,h4⟩:=bI hi d;simp only[b9,af]at h2 h4;subst h2;subst h4;split at hk
  .exact kG.q (k:=0) hinv hc (λH _=>by simp only[ef,h1,h3,gg];rfl) (dc rfl) hk
  .cases hk
 .cases hk
theorem ajt {con:FuncId->J ch} {bZ:TypeId->J Ty} {off:Nat} {x:Operand} {st:Bool} (hc:dk P o.op=Z (.fad off x)) (hk:dS con bZ (.op (.fad off x)) e h nx K=Z r):kG P o st e h nx K r:=by
 simp only[dS]at hk;split at hk;all_goals first
  |(rename_i hv
    obtain⟨y,h1,h2⟩:=bI hi hv;simp only[b9,af]at h2;subst h2;exact kG.q (k:=0) hinv hc (λH _=>by simp only[ef,h1,vV]) (dc rfl) hk)
  |cases hk
theorem ajs {con:FuncId->J ch} {bZ:TypeId->J Ty} {off sz:Nat} {ag:Bool} {x:Operand} {st:Bool} (hc:dk P o.op=Z (.fld off sz ag x)) (hk:dS con bZ (.op (.fld off sz ag x)) e h nx K=Z r):kG P o st e h nx K r:=by
 simp only[dS]at hk;split at hk
 .rename_i l hv;split at hk
  .rename_i u hs;obtain⟨y,h1,h2⟩:=bI hi hv;simp only[b9]at h2;split at h2
   .rename_i s hl;simp only[af]at h2;subst h2;obtain⟨y,h3,h4⟩:=UF hl hs;exact kG.q (k:=0) hinv hc (λH _=>by simp only[ef,h1,h4]) (dc h3) hk
   .cases h2
  .cases hk
 .rename_i T v hv;split at hk
  .cases hk
  .rename_i d;split at hk
   .rename_i u hs;obtain⟨y,h1,h2⟩:=bI hi hv;simp only[b9,af]at h2;rw[qj T v (by simpa using d)]at h2;subst h2;obtain⟨y,h3,h4⟩:=adm (h:=h) hs;exact kG.q (k:=0) hinv hc (λH _=>by simp only[ef,h1,h4]) (dc h3) hk
   .cases hk
 .cases hk
theorem ajq {con:FuncId->J ch} {bZ:TypeId->J Ty} {n sz:Nat} {ag:Bool} {x i:Operand} {st:Bool} (hc:dk P o.op=Z (.idx n sz ag x i)) (hk:dS con bZ (.op (.idx n sz ag x i)) e h nx K=Z r):kG P o st e h nx K r:=by
 simp only[dS]at hk;split at hk
 .rename_i v0 k j hv D;split at hk
  .rename_i T xs hA;obtain⟨hb,hk⟩:=dM hk;cases ag with
   |true=>cases hA
   |false=>
   simp only[ahu]at hA;split at hA
   .rename_i hsz;simp only[ak,d_]at hsz;have hsz1:=au hsz.1;subst hsz1;split at hA
    .rename_i l hl;split at hA
     .rename_i hn;have hn:=au hn;obtain⟨y,h1,h2⟩:=bI hi hv;obtain⟨L,F,s⟩:=bI hi D;simp only[b9,af]at s;subst s;have hj:j.toNat<l.length:=by
       simp only[ak,cL,fI,bz]at hb;omega
      have hg:=Vo hA j.toNat hj;obtain⟨he,_⟩:=Jg hl h2;obtain⟨z,d,A⟩:=kY he j.toNat _ hg;have A:b9 h (.f T (aH xs j))=Z z:=A;refine kG.q (k:=0) hinv hc (λH _=>?_) (dc A) hk;cases v0 with
      |agg q=>
       simp only[b9]at h2;split at h2
       .rename_i l' _;simp only[af]at h2;subst h2;have d:l'[j.toNat]? =Z z:=d;simp only[ef,h1,F,gg,hb,bE,BC.sub?,BC.get,Nat.mul_one,d]
       .cases h2
      |f S u=>
       have I:S.one=aa:=by
        have:=hsz.2;simpa[TV.isC] using this
       simp only[b9,af]at h2;rw[qj S u I]at h2;subst h2;have d:((bO S u).map AV.f)[j.toNat]? =Z z:=d;rw[bf]at d;simp only[ef,h1,F,gg,hb,bE,BC.sub?,BC.get,Nat.mul_one,d]
      |_=>simp[TV.cs,TV.isC]at hl hsz
     .cases hA
    .cases hA
   .cases hA
  .split at hk
   .rename_i l;obtain⟨hb,hk⟩:=dM hk;split at hk
    .rename_i u hs;obtain⟨y,h1,h2⟩:=bI hi hv;obtain⟨L,F,s⟩:=bI hi D;simp only[b9,af]at s;subst s;simp only[b9]at h2;split at h2
     .rename_i l' hl;simp only[af]at h2;subst h2;obtain⟨y,h3,h4⟩:=UF hl hs;exact kG.q (k:=0) hinv hc (λH _=>by simp only[ef,h1,F,gg,hb,bE,h4]) (dc h3) hk
     .cases h2
    .cases hk
   .rename_i T v _;split at hk
    .cases hk
    .rename_i I;obtain⟨hb,hk⟩:=dM hk;split at hk
     .rename_i u hs;obtain⟨y,h1,h2⟩:=bI hi hv;obtain⟨L,F,s⟩:=bI hi D;simp only[b9,af]at s h2;subst s;rw[qj T v (by simpa using I)]at h2;subst h2;obtain⟨y,h3,h4⟩:=adm (h:=h) hs;exact kG.q (k:=0) hinv hc (λH _=>by simp only[ef,h1,F,gg,hb,bE,h4]) (dc h3) hk
     .cases hk
   .cases hk
 .cases hk
theorem agz {con:FuncId->J ch} {bZ:TypeId->J Ty} {n sz:Nat} {x i:Operand} {st:Bool} (hc:dk P o.op=Z (.iada n sz x i)) (hk:dS con bZ (.op (.iada n sz x i)) e h nx K=Z r):kG P o st e h nx K r:=by
 simp only[dS]at hk;split at hk
 .rename_i id off k j hv d;obtain⟨y,h1,h2⟩:=bI hi hv;obtain⟨A,z,s⟩:=bI hi d;simp only[b9,af]at s h2;subst s;subst h2;split at hk
  .obtain⟨hb,hk⟩:=dM hk;exact kG.q (k:=0) (y0:=.ptr (nm id) (off+j.toNat*sz)) hinv hc (λH _=>by simp only[ef,h1,z,gg,hb,bE]) (dc (by simp only[b9];rw[Nat.add_comm])) hk
  .obtain⟨hb,hk⟩:=dM hk;exact kG.q (k:=0) hinv hc (λH _=>by simp only[ef,h1,z,gg,hb,bE]) (dc rfl) hk
 .cases hk
theorem aju {con:FuncId->J ch} {bZ:TypeId->J Ty} {i:Nat} {x:Operand} {st:Bool} (hc:dk P o.op=Z (.ext x i)) (hk:dS con bZ (.op (.ext x i)) e h nx K=Z r):kG P o st e h nx K r:=by
 simp only[dS]at hk;split at hk
 .rename_i l hv;split at hk
  .rename_i u hs;obtain⟨y,h1,h2⟩:=bI hi hv;simp only[b9]at h2;split at h2
   .rename_i d hl;simp only[af]at h2;subst h2;obtain⟨y,h3,h4⟩:=kY hl i u hs;exact kG.q (k:=0) hinv hc (λH _=>by simp only[ef,h1,h3]) (dc h4) hk
   .cases h2
  .cases hk
 .cases hk
theorem ajp {con:FuncId->J ch} {bZ:TypeId->J Ty} {x:Operand} {st:Bool} (hc:dk P o.op=Z (.len x)) (hk:dS con bZ (.op (.len x)) e h nx K=Z r):kG P o st e h nx K r:=by
 simp only[dS]at hk;split at hk
 .rename_i v hv;split at hk
  .rename_i n hn;obtain⟨y,h1,h2⟩:=bI hi hv;have h3:=O4 hn h2;exact kG.q (k:=0) hinv hc (λH _=>by simp only[ef,h1,h3];rfl) (dc rfl) hk
  .cases hk
 .cases hk
theorem agx {con:FuncId->J ch} {bZ:TypeId->J Ty} {x:Operand} {st:Bool} (hc:dk P o.op=Z (.lens x)) (hk:dS con bZ (.op (.lens x)) e h nx K=Z r):kG P o st e h nx K r:=by
 simp only[dS]at hk;split at hk
 .rename_i s hv;obtain⟨y,h1,h2⟩:=bI hi hv;simp only[b9,af]at h2;subst h2;exact kG.q (k:=0) hinv hc (λH _=>by simp only[ef,h1,gg];rfl) (dc rfl) hk
 .cases hk
theorem ags {con:FuncId->J ch} {bZ:TypeId->J Ty} {x i:Operand} {st:Bool} (hc:dk P o.op=Z (.sidx x i)) (hk:dS con bZ (.op (.sidx x i)) e h nx K=Z r):kG P o st e h nx K r:=by
 simp only[dS]at hk;split at hk
 .rename_i s k j hv d;obtain⟨hj,hk⟩:=dM hk;obtain⟨y,h1,h2⟩:=bI hi hv;obtain⟨D,h3,h4⟩:=bI hi d;simp only[b9,af]at h2 h4;subst h2;subst h4;obtain⟨A,F,z⟩:=Du hj;have e1:cL 0 j=M:=by simp[cL,A]
  have e2:(⟨eQ s⟩:ByteArray).data.toList[j.toNat]? =Z (List.getD s j.toNat 0):=by
   show s[j.toNat]? =_;rw[ay,aw z];rfl
  exact kG.q (k:=0) (y0:=raw (.int .u8 (aT (List.getD s j.toNat 0).toNat))) hinv hc (λH _=>by simp only[ef,h1,h3,gg,e1,bE,e2];rfl) (dc rfl) hk
 .cases hk
theorem ajr {con:FuncId->J ch} {bZ:TypeId->J Ty} {sz:Nat} {x i:Operand} {st:Bool} (hc:dk P o.op=Z (.iad sz x i)) (hk:dS con bZ (.op (.iad sz x i)) e h nx K=Z r):kG P o st e h nx K r:=by
 simp only[dS]at hk;split at hk
 .rename_i id k j hv d;split at hk
  .rename_i ty p T xs hb;split at hk
   .rename_i hs;have hs:=au hs;obtain⟨hj,hk⟩:=dM hk;obtain⟨y,h1,h2⟩:=bI hi hv;obtain⟨A,h3,h4⟩:=bI hi d;simp only[b9,af]at h4;subst h4;obtain⟨I,F,D⟩:=Du hj;have hne:¬((p&&xs.length==0)=M):=by
     simp only[ak,cO];omega
    simp only[b9,eh,hb,eZ,aL hne,af]at h2;subst h2;have z:(T.size==sz&&cL 0 j&&fI j xs.length)=M:=by
     simp only[fm,ak]at hj;simp[hs,hj.1,hj.2]
    exact kG.q (k:=0) hinv hc (λH _=>by simp only[ef,h1,h3,gg,z,bE,db]) (dc rfl) hk
   .cases hk
  .cases hk
 .rename_i T xs k j hv d;split at hk
  .rename_i hs;have hs:=au hs;obtain⟨hj,hk⟩:=dM hk;obtain⟨y,h1,h2⟩:=bI hi hv;obtain⟨A,h3,h4⟩:=bI hi d;simp only[b9,af]at h4 h2;subst h4;subst h2;have s:(cL 0 j&&fI j (ah xs))=M:=hj;exact kG.q (k:=0) hinv hc (λH _=>by simp only[ef,h1,h3,gg,s,bE,db,hs]) (dc rfl) hk
  .cases hk
 .rename_i id sz' n k j hv d;split at hk
  .rename_i hs;have hs:=au hs;subst hs;obtain⟨hj,hk⟩:=dM hk;obtain⟨y,h1,h2⟩:=bI hi hv;obtain⟨A,h3,h4⟩:=bI hi d;simp only[b9,af]at h4 h2;subst h4;subst h2;have s:(sz'==sz'&&cL 0 j&&fI j n)=M:=by simp only[ak]at hj ⊢;exact⟨⟨cN _,hj.1⟩,hj.2⟩
   exact kG.q (k:=0) hinv hc (λH _=>by simp only[ef,h1,h3,gg,s,bE]) (dc rfl) hk
  .cases hk
 .cases hk
theorem ajl {con:FuncId->J ch} {bZ:TypeId->J Ty} {f:FuncId} {caps:Y Operand} {st:Bool} (hc:dk P o.op=Z (.mkf f caps)) (hk:dS con bZ (.op (.mkf f caps)) e h nx K=Z r):kG P o st e h nx K r:=by
 simp only[dS]at hk;split at hk
 .rename_i l hv;obtain⟨d,h1,h2⟩:=xP hi hv;exact kG.q (k:=0) hinv hc (y0:=.clo f d) (λH _=>by simp only[ef,h1]) (dc (by simp only[b9,h2])) hk
 .cases hk
theorem ak0 {con:FuncId->J ch} {bZ:TypeId->J Ty} {op:BinOp} {x y:Operand} {st:Bool} (hc:dk P o.op=Z (.bin op x y)) (hk:dS con bZ (.op (.bin op x y)) e h nx K=Z r):kG P o st e h nx K r:=by
 simp only[dS]at hk;split at hk
 .rename_i u v hv d;obtain⟨a,b,c,t,h1,h2,h3,h4,F⟩:=acf (h:=h) hk;obtain⟨y,D,A⟩:=bI hi hv;obtain⟨I,z,s⟩:=bI hi d;rw[h1]at A;cases A;rw[h2]at s;cases s;simp only[raw]at D z;exact kG.q (k:=0) hinv hc (λH _=>by simp only[ef,D,z,h3]) (dc h4) F
 .cases hk
end ops
def mE:hX->J (Bool×Nat×Nat)
 |.rows _ p T xs=>Z (p,T.size,xs.length)
 |.dead p sz n=>Z (p,sz,n)
 |_=>U
theorem bP (h:bl) (i:Nat):eh h i=(h.get i).bind mE:=by
 unfold eh;cases h.get i with
 |none=>rfl
 |some b=>cases b<;>rfl
theorem b6.refl (h:bl):b6 h h:=λ_ _ h=>h
theorem b6.trans {a b c:bl} (h1:b6 a b) (h2:b6 b c):b6 a c:=λi r h=>h2 i r (h1 i r h)
theorem b6.set {h:bl} {i:Nat} {b:hX} (hb:∀r,eh h i=Z r->mE b=Z r):b6 h (h.set i (Z b)):=λj r hj=>by
 rw[bP,PT.get_set];by_cases e:j=i
 .subst e;rw[aU rfl];exact hb r hj
 .rw[aL e,<-bP];exact hj
theorem Lx {b:hX} {r:Bool×Nat×Nat} (h:mE b=Z r):mE (ut b)=Z r:=by cases b<;>first|exact h|cases h
theorem iR (m:Nat) (h:bl) (i:Nat):(d9 m h).get i=if aO m i then (h.get i).map ut else h.get i:=by
 unfold d9;split
 .rename_i hm;have:=au hm;subst this;simp
 .rw[PT.get_updI];simp only[Nat.one_mul,db];cases h.get i with
  |none=>simp
  |some b=>simp only[bU];split<;>rfl
theorem b6.kill (m:Nat) (h:bl):b6 h (d9 m h):=λi r hr=>by
 rw[bP]at hr ⊢;rw[iR];split
 .cases hb:h.get i with
  |none=>rw[hb]at hr;cases hr
  |some b=>rw[hb]at hr;exact Lx hr
 .exact hr
theorem l_.set {h:bl} {nx nx' i:Nat} {b:hX} (hi:l_ h nx) (hr:b6 h (h.set i (Z b))) (hlt:i<nx') (hle:nx<=nx') (hb:∀ty l,b= .cells ty l->kO (h.set i (Z b)) l=M):l_ (h.set i (Z b)) nx':=by
 refine ⟨λj ty l hj=>?_,λj c hj=>?_⟩
 .rw[PT.get_set]at hj;split at hj
  .simp only[af]at hj;exact hb ty l hj
  .exact iP hr l (hi.cells j _ l hj)
 .rw[PT.get_set]at hj;split at hj
  .rename_i e;subst e;exact hlt
  .exact dx (hi.low j c hj) hle
theorem l_.kill {h:bl} {nx:Nat} (hi:l_ h nx) (m:Nat):l_ (d9 m h) nx:=by
 refine ⟨λj ty l hj=>?_,λj c hj=>?_⟩
 .rw[iR]at hj;refine iP (b6.kill m h) l (hi.cells j ty l ?_);split at hj
  .cases hb:h.get j with
   |none=>rw[hb]at hj;cases hj
   |some b=>rw[hb]at hj;cases b<;>simp[ut]at hj
  .exact hj
 .rw[iR]at hj;split at hj
  .cases hb:h.get j with
   |none=>rw[hb]at hj;cases hj
   |some b=>exact hi.low j b hb
  .exact hi.low j c hj
theorem Iu {h h':bl} (hr:b6 h h') {b:hX} (hb:∀ty l,b= .cells ty l->kO h l=M):jv h' b=jv h b:=by
 cases b with
 |cells ty l=>
  obtain⟨d,hl⟩:=eT h l (hb ty l rfl);cases ty<;>simp only[jv,hl,fR hr l d hl]
 |_=>rfl
theorem Wl {h h':bl} {nx i:Nat} (hi:l_ h nx) (hr:b6 h h') (hg:h'.get i=h.get i):bB h' (nm i)=bB h (nm i):=by
 rw[bK,bK,hg];cases hb:h.get i with
 |none=>rfl
 |some b=>exact Iu hr λty l e=>hi.cells i _ l (by rw[hb,e])
theorem vA (h:bl) {n:Nat} (hn:¬∃i,n=nm i):bB h n=U:=by
 unfold bB;rw[aL];intro h2;exact hn ⟨n/2,by unfold nm;omega⟩
theorem km {h h':bl} {nx:Nat} (hi:l_ h nx) (hr:b6 h h') {n:Nat} (hg:∀i,n=nm i->h'.get i=h.get i):bB h' n=bB h n:=by
 by_cases hn:∃i,n=nm i
 .obtain⟨i,rfl⟩:=hn;exact Wl hi hr (hg i rfl)
 .rw[vA h hn,vA h' hn]
def EC (m:Nat):ι:=(Zt m).map nm
theorem nF {m n:Nat}:n∈EC m↔∃i,n=nm i/\aO m i=M:=by
 unfold EC;rw[cX];constructor
 .rintro⟨i,h1,rfl⟩;exact⟨i,rfl,LJ.1 h1⟩
 .rintro⟨i,rfl,h1⟩;exact⟨i,LJ.2 h1,rfl⟩
theorem lI {m i:Nat}:nm i∈EC m↔aO m i=M:=by
 rw[nF];constructor
 .rintro⟨j,h1,h2⟩;rw[kP h1];exact h2
 .exact λh=>⟨i,rfl,h⟩
def dK (h:bl) (m:Nat):Prop:=∀i,aO m i=M->∃ty p T xs,h.get i=Z (.rows ty p T xs)
theorem dK.zero (h:bl):dK h 0:=λi hi=>by simp at hi
theorem dK.or {h:bl} {a b:Nat} (d:dK h a) (hb:dK h b):dK h (a|||b):=λi hi=>by
 rw[bw,iO]at hi;exact hi.elim (d i) (hb i)
theorem mD {h:bl} {T:Ty} {v:TV} {x:T.den} {m:Nat} (d:g_ h T v=Z (x,m)):dK h m:=by
 cases v with
 |f S v=>
  simp only[g_]at d;split at d
  .simp only[af,aC]at d;rw[<- d.2];exact dK.zero h
  .cases d
 |emp=>
  simp only[g_]at d;split at d
  .simp only[af,aC]at d;rw[<- d.2];exact dK.zero h
  .cases d
 |nil=>
  simp only[g_]at d;split at d
  .simp only[af,aC]at d;rw[<- d.2];exact dK.zero h
  .cases d
 |row id=>
  simp only[g_]at d;split at d
  .rename_i ty p S xs hb;split at d
   .simp only[af,aC]at d;rw[<- d.2];intro i hi;have:=bV.1 hi;subst this;exact⟨ty,p,S,xs,hb⟩
   .cases d
  .cases d
 |fel T xs j hj off=>simp[g_]at d
 |pel id sz j off=>simp[g_]at d
 |ptr id off=>simp[g_]at d
 |csl id off z=>simp[g_]at d
 |mp id=>simp[g_]at d
 |rtl id s=>simp[g_]at d
 |agg q=>simp[g_]at d
 |tup q=>simp[g_]at d
 |clo f q=>simp[g_]at d
 |undef=>simp[g_]at d
 |np=>simp[g_]at d
 |anyb=>simp[g_]at d
 |ful S q=>simp[g_]at d
theorem uo {h:bl}:∀(n:Nat) (T:Ty) (l:Y TV) (x:T.den) (m:Nat) (r:Y TV),eK h n T l=Z (x,m,r)->dK h m
 |0,_,_,_,_,_,hp=>by simp[eK]at hp
 |n+1,.st t,l,x,m,r,hp=>uo n t l x m r hp
 |n+1,.pr a b,l,x,m,r,hp=>by
  simp only[eK]at hp;split at hp
  .rename_i x1 m1 r1 h1;split at hp
   .rename_i x2 m2 r2 h2;simp only[af,aC]at hp;obtain⟨_,rfl,_⟩:=hp;exact (uo n a l x1 m1 r1 h1).or (uo n b r1 x2 m2 r2 h2)
   .cases hp
  .cases hp
 |n+1,.un,l,x,m,r,hp=>by
  simp only[eK,af,aC]at hp;obtain⟨_,rfl,_⟩:=hp;exact dK.zero h
 |n+1,.ex,l,x,m,r,hp=>by
  simp only[eK]at hp;split at hp
  .rename_i x1 m1 r1 h1;simp only[af,aC]at hp;obtain⟨_,rfl,_⟩:=hp;exact uo n LZ l x1 m1 r1 h1
  .cases hp
 |n+1,.sm,l,x,m,r,hp=>by
  simp only[eK]at hp;split at hp
  .rename_i x1 m1 r1 h1;simp only[af,aC]at hp;obtain⟨_,rfl,_⟩:=hp;exact uo n Lv l x1 m1 r1 h1
  .cases hp
 |n+1,.int k,l,x,m,r,hp=>by
  simp only[eK]at hp;split at hp
  .split at hp
   .rename_i x1 m1 h1;simp only[af,aC]at hp;obtain⟨_,rfl,_⟩:=hp;exact mD h1
   .cases hp
  .cases hp
 |n+1,.bool,l,x,m,r,hp=>by
  simp only[eK]at hp;split at hp
  .split at hp
   .rename_i x1 m1 h1;simp only[af,aC]at hp;obtain⟨_,rfl,_⟩:=hp;exact mD h1
   .cases hp
  .cases hp
 |n+1,.str,l,x,m,r,hp=>by
  simp only[eK]at hp;split at hp
  .split at hp
   .rename_i x1 m1 h1;simp only[af,aC]at hp;obtain⟨_,rfl,_⟩:=hp;exact mD h1
   .cases hp
  .cases hp
 |n+1,.sl t,l,x,m,r,hp=>by
  simp only[eK]at hp;split at hp
  .split at hp
   .rename_i x1 m1 h1;simp only[af,aC]at hp;obtain⟨_,rfl,_⟩:=hp;exact mD h1
   .cases hp
  .cases hp
theorem Vn {h:bl} {T:Ty} {v:TV} {x:T.den} {m:Nat} (d:Bj h T v=Z (x,m)):dK h m:=by
 cases v with
 |agg l=>
  simp only[Bj]at d;split at d
  .cases d
  .split at d
   .rename_i x1 m1 h1;simp only[af,aC]at d;obtain⟨_,rfl⟩:=d;exact uo 40 T l x1 m1 [] h1
   .cases d
 |f S v=>exact mD (v:=.f S v) d
 |fel T xs j hj off=>exact mD (v:=.fel T xs j hj off) d
 |pel id sz j off=>exact mD (v:=.pel id sz j off) d
 |ptr id off=>exact mD (v:=.ptr id off) d
 |csl id off z=>exact mD (v:=.csl id off z) d
 |row id=>exact mD (v:=.row id) d
 |emp=>exact mD (v:=.emp) d
 |nil=>exact mD (v:=.nil) d
 |mp id=>exact mD (v:=.mp id) d
 |rtl id s=>exact mD (v:=.rtl id s) d
 |tup q=>exact mD (v:=.tup q) d
 |clo g q=>exact mD (v:=.clo g q) d
 |undef=>exact mD (v:=.undef) d
 |np=>exact mD (v:=.np) d
 |anyb=>exact mD (v:=.anyb) d
 |ful S q=>exact mD (v:=.ful S q) d
theorem MS {h:bl} {T:Ty}:∀(n:Nat) (l:Y TV) (xs:Y T.den) (m:Nat),xN h T n l=Z (xs,m)->dK h m
 |0,[],xs,m,hp=>by simp only[xN,af,aC]at hp;rw[<- hp.2];exact dK.zero h
 |0,_::_,xs,m,hp=>by simp[xN]at hp
 |n+1,l,xs,m,hp=>by
  simp only[xN]at hp;split at hp
  .rename_i x1 m1 r1 h1;split at hp
   .rename_i x2 m2 h2;simp only[af,aC]at hp;obtain⟨_,rfl⟩:=hp;exact (uo 40 T l x1 m1 r1 h1).or (MS n r1 x2 m2 h2)
   .cases hp
  .cases hp
theorem yX {h:bl} {u:TV}:∀(n:Nat) (T:Ty) (v:T.den) (off sz:Nat) (z:T.den) (m:Nat),gH h u n T v off sz=Z (z,m)->dK h m
 |0,_,_,_,_,_,_,hg=>by simp[gH]at hg
 |n+1,.st t,v,off,sz,z,m,hg=>by
  simp only[gH]at hg;split at hg
  .rename_i q hq;split at hq
   .simp only[af]at hg;subst hg;exact Vn hq
   .cases hq
  .exact yX n t v off sz z m hg
 |n+1,.pr a b,v,off,sz,z,m,hg=>by
  simp only[gH]at hg;split at hg
  .split at hg
   .rename_i d m1 h1;simp only[af,aC]at hg;obtain⟨_,rfl⟩:=hg;exact yX n a v.1 off sz d m1 h1
   .cases hg
  .split at hg
   .rename_i d m1 h1;simp only[af,aC]at hg;obtain⟨_,rfl⟩:=hg;exact yX n b v.2 _ sz d m1 h1
   .cases hg
 |n+1,.un,v,off,sz,z,m,hg=>by simp[gH]at hg
 |n+1,.ex,v,off,sz,z,m,hg=>by
  simp only[gH]at hg;split at hg
  .rename_i q hq;split at hq
   .simp only[af]at hg;subst hg;exact Vn hq
   .cases hq
  .split at hg
   .rename_i d m1 h1;simp only[af,aC]at hg;obtain⟨_,rfl⟩:=hg;exact yX n LZ _ off sz d m1 h1
   .cases hg
 |n+1,.sm,v,off,sz,z,m,hg=>by
  simp only[gH]at hg;split at hg
  .rename_i q hq;split at hq
   .simp only[af]at hg;subst hg;exact Vn hq
   .cases hq
  .split at hg
   .rename_i d m1 h1;simp only[af,aC]at hg;obtain⟨_,rfl⟩:=hg;exact yX n Lv _ off sz d m1 h1
   .cases hg
 |n+1,.int k,v,off,sz,z,m,hg=>by
  simp only[gH]at hg;split at hg
  .exact mD hg
  .cases hg
 |n+1,.bool,v,off,sz,z,m,hg=>by
  simp only[gH]at hg;split at hg
  .exact mD hg
  .cases hg
 |n+1,.str,v,off,sz,z,m,hg=>by
  simp only[gH]at hg;split at hg
  .exact mD hg
  .cases hg
 |n+1,.sl t,v,off,sz,z,m,hg=>by
  simp only[gH]at hg;split at hg
  .exact mD hg
  .cases hg
theorem s6 {h:bl} {m i:Nat} (hm:dK h m) (hb:aO m i=M):∃p sz n,(d9 m h).get i=Z (.dead p sz n):=by
 obtain⟨ty,p,T,xs,h1⟩:=hm i hb;exact⟨p,T.size,xs.length,by rw[iR,aU hb,h1];rfl⟩
section ops
variable {R:Type} {P:Program} {o:Oper} {e:iJ} {h:bl} {nx:Nat} {K:KO R} {r:R}
theorem h_ (n:Nat) (b:uT):jd [(n,b)] n=Z b:=by simp[jd]
theorem iz.mk' {s:Xh} (hc:dk P o.op=Z s) {H:nR} (hH:H.get=bB h) {k:Nat} {y0:AV} {rdl wrl N:ι} {nw:NW} (ha:ef s (It e h) H k=Z ⟨y0,rdl,wrl,nw,N⟩) {v:TV} {h':bl} {nx' rd wr:Nat} (wr':ι)
 (hsub:∀i∈wrl,i∈wr') (hsame:∀n,n∉wr'->bB h' n=bB h n)
 (hdom:∀i∈wr',∀b',bB h' i=Z b'->∃b,(if i∈wrl then jd nw i else bB h i)=Z b)
 (hblk:∀(D I:HF),uf D I->(∀i∈wrl,D i=jd nw i)->(∀i∈wr',i∉wrl->D i=bB h i)->(∀i∈wr',I i=bB h' i)->(∀i∈wr',∀b b',D i=Z b->I i=Z b'->il D I b b')/\∀y,b9 h' v=Z y->lj D I y0 y)
 (hrd:∀n∈rdl,aO rd (ow n)=M) (hwr:∀n∈wr',aO wr (ow n)=M) (L:∀n∈N,nx<=ow n/\ow n<nx') (hrows:b6 h h') (hinv':l_ h' nx') (hg:nx<=nx'):iz P o aa e h nx v rd wr h' nx':=by
 have ht:=Hq hc ha;rw[uy,hH]at ht;refine ⟨?_,hrows,hinv',hg,λhs=>by cases hs⟩;have base:∀(val:AV),(∀y,b9 h' v=Z y->y=val)->(b9 h' v=U->val=y0)->gy P o (fh e h) (bB h) ⟨val,rdl,wr',bB h',N⟩:=by
  intro val hval hnone;refine gy.view ht (λi hi=>.inl (hsub i hi)) λh1 hr1 F=>?_
  have hd:uf (eE h1 wrl (jd nw)) (eE h1 wr' (bB h')):=by
   intro i b hb;unfold eE at hb ⊢;by_cases hi:i∈wr'
   .rw[aU hi]at hb;obtain⟨b0,q⟩:=hdom i hi b hb;refine ⟨b0,?_⟩;by_cases A:i∈wrl
    .rw[aU A]at q ⊢;exact q
    .rw[aL A]at q ⊢;rw[F i hi];exact q
   .rw[aL hi]at hb;rw[aL (λA=>hi (hsub i A))];exact⟨b,hb⟩
  obtain⟨q1,q2⟩:=hblk _ _ hd (λi hi=>by unfold eE;rw[aU hi]) (λi hi A=>by unfold eE;rw[aL A];exact F i hi) (λi hi=>by unfold eE;rw[aU hi]);refine ⟨⟨hd,λi b b' hb z=>?_⟩,?_⟩
  .by_cases hi:i∈wr'
   .exact q1 i hi b b' hb z
   .unfold eE at hb z;rw[aL (λA=>hi (hsub i A))]at hb;rw[aL hi,hb]at z;cases z;exact il.refl hd b
  .cases hv:b9 h' v with
   |none=>rw[hnone hv];exact lj.refl hd _
   |some y=>rw[<- hval y hv];exact q2 y hv
 have hu:eE (bB h) wr' (bB h')=bB h':=by
  funext n;unfold eE;split
  .rfl
  .rename_i hn;exact (hsame n hn).symm
 cases hv:b9 h' v with
 |none=>exact⟨_,base y0 (λy d=>by rw[hv]at d;cases d) (λ_=>rfl),λy d=>(by cases d),hu,hrd,hwr,L⟩
 |some y=>exact⟨_,base y (λy' d=>by rw[hv]at d;cases d;rfl) (λhn=>by rw[hv]at hn;cases hn),λy' d=>by cases d;rfl,hu,hrd,hwr,L⟩
theorem Ca (hi:sU e h):∀(parts:Y (Nat×Nat×Operand)) (cells cs:Y TV) (cells':Y AV),Iq cells e parts=Z cs->cz h cells=Z cells'->∃cs',yn cells' (It e h) parts=Z cs'/\cz h cs=Z cs'/\(kA cells=M->kA cs=M)
 |[],cells,cs,cells',hf,he=>by simp only[Iq,af]at hf;subst hf;exact⟨cells',rfl,he,id⟩
 |(off,sz,x)::rest,cells,cs,cells',hf,he=>by
  simp only[Iq]at hf;split at hf
  .rename_i v hv;split at hf
   .rename_i q hq;split at hf
    .rename_i hc;simp only[ak,cO]at hc;obtain⟨y,h1,h2⟩:=bI hi hv;obtain⟨h3,h4⟩:=Jg hq h2;obtain⟨cs',F,D,A⟩:=Ca hi rest (splice cells off q) cs (splice cells' off y.cs) hf (pA off he h3);refine ⟨cs',?_,D,λd=>A ?_⟩
     .simp only[yn,h1];rw[aU,F];simp only[ak,cO];exact⟨⟨by rw[gw h3];exact hc.1,by rw[gw he];exact hc.2⟩,rK h3 h4⟩
     .clear F D A hf;have app:∀a b:Y TV,kA a=M->kA b=M->kA (a++b)=M:=by
       intro a b d hb;induction a with
       |nil=>exact hb
       |cons z r s=>simp only[kA,ak,gX]at d ⊢;exact⟨d.1,s d.2⟩
      have tk:∀(a:Y TV) n,kA a=M->kA (a.take n)=M:=by
       intro a;induction a with
       |nil=>intro n h;simp[kA]
       |cons z r s=>
        intro n h;cases n with
        |zero=>rfl
        |succ n=>simp only[kA,ak,uU]at h ⊢;exact⟨h.1,s n h.2⟩
      have I:∀(a:Y TV) n,kA a=M->kA (a.drop n)=M:=by
       intro a;induction a with
       |nil=>intro n h;simp[kA]
       |cons z r s=>
        intro n h;cases n with
        |zero=>exact h
        |succ n=>simp only[kA,ak,uW]at h ⊢;exact s n h.2
      unfold splice;exact app _ _ (app _ _ (tk _ _ d) h4) (I _ _ d)
    .cases hf
   .cases hf
  .cases hf
variable (hinv:l_ h nx) (hi:sU e h)
include hinv hi
theorem ad6 {con:FuncId->J ch} {bZ:TypeId->J Ty} {z:ξ} {parts:Y (Nat×Nat×Operand)} {st:Bool} (hc:dk P o.op=Z (.build z parts)) (hk:dS con bZ (.op (.build z parts)) e h nx K=Z r):kG P o st e h nx K r:=by
 simp only[dS]at hk;split at hk
 .rename_i l hl;split at hk
  .rename_i cs hf;obtain⟨h1,_,_⟩:=uC h hl;obtain⟨cs',h2,h3,_⟩:=Ca hi parts l cs _ hf h1;refine kG.q (k:=0) (y0:=LF cs') hinv hc (λH _=>by simp only[ef,h2]) (λy d=>?_) hk;simp only[b9,h3,af]at d;subst d;exact Yw cs'
  .cases hk
 .cases hk
theorem agw {con:FuncId->J ch} {bZ:TypeId->J Ty} {sz:Nat} {ag:Bool} {x:Operand} (hc:dk P o.op=Z (.load sz ag x)) (hk:dS con bZ (.op (.load sz ag x)) e h nx K=Z r):kG P o aa e h nx K r:=by
 obtain⟨H,s⟩:=jL h;simp only[dS]at hk;split at hk
 .rename_i id off hv;obtain⟨y,h1,h2⟩:=bI hi hv;simp only[b9,af]at h2;subst h2;split at hk
  .rename_i ty l hb;split at hk
   .rename_i v hs;obtain⟨A,hl⟩:=eT h l (hinv.cells id _ l hb);obtain⟨y,h3,h4⟩:=UF hl hs;have hg:H.get (nm id)=Z ⟨ty,.mx A⟩:=by rw[s,bK,hb];simp only[aD,jv,hl]
    exact⟨v,kn id,0,h,nx,hk,iz.pure (k:=0) hinv hc s (y0:=y) (rdl:=[nm id]) (by simp only[ef,h1,CR,hg,h4]) (dc h3) (λn hn=>by simp only[aI]at hn;subst hn;rw[dQ];exact bV.2 rfl) (λh=>by cases h)⟩
   .cases hk
  .cases hk
 .rename_i id sz' j off hv;obtain⟨y,h1,h2⟩:=bI hi hv;simp only[b9,af]at h2;subst h2;split at hk
  .rename_i ty p T xs hb;split at hk
   .rename_i hsz;have hsz:=au hsz;obtain⟨hj,hk⟩:=dM hk;split at hk
    .rename_i v hs;obtain⟨y,h3,h4⟩:=adl (h:=h) hj hs;have hne:¬((p&&xs.length==0)=M):=by
      have:=Du hj;simp only[ak,cO];omega
     have hg:H.get (nm id)=Z ⟨ty,.fz (xs.flatMap (bO T))⟩:=by rw[s,bK,hb];simp only[aD,jv,aL hne]
     exact⟨v,kn id,0,h,nx,hk,iz.pure (k:=0) hinv hc s (y0:=.f y) (rdl:=[nm id]) (by simp only[ef,h1,CR,hg,hsz,h4]) (dc h3) (λn hn=>by simp only[aI]at hn;subst hn;rw[dQ];exact bV.2 rfl) (λh=>by cases h)⟩
    .cases hk
   .cases hk
  .rename_i ty l hb;split at hk
   .cases hk
   .split at hk
    .rename_i hsz;simp only[ak]at hsz;have e1:=au hsz.1.1;have e2:=au hsz.1.2;have e3:=au hsz.2;subst e1;subst e2;subst e3;split at hk
     .rename_i T xs hA;obtain⟨hj,hk⟩:=dM hk;obtain⟨A,hl⟩:=eT h l (hinv.cells id _ l hb);have hg:H.get (nm id)=Z ⟨ty,.mx A⟩:=by rw[s,bK,hb];simp only[aD,jv,hl]
      have hlt:j.toNat<l.length:=by
       simp only[fm,ak,cL,fI,bz]at hj;omega
      obtain⟨z,D,d⟩:=kY hl j.toNat _ (Vo hA j.toNat hlt);have d:b9 h (.f T (aH xs j))=Z z:=d;exact⟨_,kn id,0,h,nx,hk,iz.pure (k:=0) hinv hc s (y0:=z) (rdl:=[nm id]) (by simp only[ef,h1,CR,hg,BC.sub?,BC.get,Nat.mul_one,db,D]) (dc d) (λn hn=>by simp only[aI]at hn;subst hn;rw[dQ];exact bV.2 rfl) (λh=>by cases h)⟩
     .cases hk
    .cases hk
  .cases hk
 .rename_i T xs j hj off hv;obtain⟨y,h1,h2⟩:=bI hi hv;simp only[b9,af]at h2;subst h2;split at hk
  .rename_i v hs;obtain⟨y,h3,h4⟩:=adl (h:=h) hj hs;exact kG.q (k:=0) (y0:=.f y) hinv hc (λH _=>by simp only[ef,h1,CR,h4]) (dc h3) hk
  .cases hk
 .cases hk
theorem ad7 {con:FuncId->J ch} {bZ:TypeId->J Ty} {ty:TypeId} {z:ξ} (hc:dk P o.op=Z (.alloc ty z)) (hk:dS con bZ (.op (.alloc ty z)) e h nx K=Z r):kG P o aa e h nx K r:=by
 have _:=hi;obtain⟨H,hH⟩:=jL h;simp only[dS]at hk;split at hk
 .rename_i l hl;obtain⟨_,hz,_⟩:=uC h hl;have hnone:h.get nx=U:=by
   cases hb:h.get nx with
   |none=>rfl
   |some b=>have:=hinv.low nx b hb;omega
  have hr:b6 h (h.set nx (Z (.cells (Z ty) l))):=b6.set λr hr=>by rw[bP,hnone]at hr;cases hr
  obtain⟨h1,_,_⟩:=uC (h.set nx (Z (.cells (Z ty) l))) hl;have F:bB (h.set nx (Z (.cells (Z ty) l))) (nm nx)=Z ⟨ty,.mx (z.map raw)⟩:=by rw[bK,PT.get_set,aU rfl];simp only[aD,jv,h1]
  refine ⟨_,_,_,_,_,hk,iz.mk' hc hH (k:=nm nx) (by simp only[ef];rfl) [nm nx] (λi hi=>hi) (λn hn=>?_) (λi hi b' _=>⟨⟨ty,.fz (z.map .raw)⟩,?_⟩) (λH1 H2 d D _ A=>⟨λi hi b b' hb s=>?_,λy I=>?_⟩) (by simp) ?_ ?_ hr (hinv.set hr (by omega) (by omega) λty' l' he=>?_) (by omega)⟩
  .refine km hinv hr λi e=>?_
   subst e;rw[PT.get_set,aL (λe=>hn (by rw[e];simp))]
  .rw[aU hi];simp only[aI]at hi;subst hi;simp[jd]
  .simp only[aI]at hi;subst hi;rw[D _ (by simp)]at hb;rw[A _ (by simp),F]at s;rw[h_]at hb;simp only[af]at hb s;subst hb;subst s;refine il.cells rfl rfl ?_ λx L=>?_
   .simp only[BC.toMx,GA];exact gQ.refl d _
   .simp only[BC.toMx]at L;obtain⟨q,hq,rfl⟩:=cX.1 L;exact hz q hq
  .simp only[b9,af]at I;subst I;exact lj.refl d _
  .intro n hn;simp only[aI]at hn;subst hn;rw[dQ];exact bV.2 rfl
  .intro n hn;simp only[aI]at hn;subst hn;rw[dQ];omega
  .cases he;exact jU _ _ _ h1
 .cases hk
theorem ajz {con:FuncId->J ch} {bZ:TypeId->J Ty} {ty:TypeId} {x:Operand} (hc:dk P o.op=Z (.box ty x)) (hk:dS con bZ (.op (.box ty x)) e h nx K=Z r):kG P o aa e h nx K r:=by
 obtain⟨H,L⟩:=jL h;simp only[dS]at hk;split at hk
 .rename_i v hv;split at hk
  .rename_i l hl;obtain⟨y,h1,h2⟩:=bI hi hv;obtain⟨h3,h4⟩:=Jg hl h2;have hcell:=rK h3 h4;have hnone:h.get nx=U:=by
    cases hb:h.get nx with
    |none=>rfl
    |some b=>have:=hinv.low nx b hb;omega
   have hr:b6 h (h.set nx (Z (.cells (Z ty) l))):=b6.set λr hr=>by rw[bP,hnone]at hr;cases hr
   have F:=fR hr l _ h3;have A:bB (h.set nx (Z (.cells (Z ty) l))) (nm nx)=Z ⟨ty,.mx y.cs⟩:=by rw[bK,PT.get_set,aU rfl];simp only[aD,jv,F]
   refine ⟨_,_,_,_,_,hk,iz.mk' hc L (k:=nm nx) (by simp only[ef,h1,hcell,bE];rfl) [nm nx] (λi hi=>hi) (λn hn=>?_) (λi hi b' _=>⟨⟨ty,ox y.cs⟩,?_⟩) (λH1 H2 d z _ s=>⟨λi hi b b' hb q=>?_,λy D=>?_⟩) (by simp) ?_ ?_ hr (hinv.set hr (by omega) (by omega) λty' l' he=>?_) (by omega)⟩
   .refine km hinv hr λi e=>?_
    subst e;rw[PT.get_set,aL (λe=>hn (by rw[e];simp))]
   .rw[aU hi];simp only[aI]at hi;subst hi;simp[jd]
   .simp only[aI]at hi;subst hi;rw[z _ (by simp)]at hb;rw[s _ (by simp),A]at q;rw[h_]at hb;simp only[af]at hb q;subst hb;subst q;obtain⟨q1,q2⟩:=nE y.cs;refine il.cells q2 rfl ?_ λx I=>?_
    .rw[q1];exact gQ.refl d _
    .exact lP hcell x I
   .simp only[b9,af]at D;subst D;exact lj.refl d _
   .intro n hn;simp only[aI]at hn;subst hn;rw[dQ];exact bV.2 rfl
   .intro n hn;simp only[aI]at hn;subst hn;rw[dQ];omega
   .cases he;exact jU _ _ _ F
  .cases hk
 .cases hk
theorem ad4 {con:FuncId->J ch} {bZ:TypeId->J Ty} {ty:TypeId} {sz bytes:Nat} {z:ξ} {l c:Operand} (hcm:CJ (bZ ty)=U) (hc:dk P o.op=Z (.mksl ty sz bytes z l c)) (hk:dS con bZ (.op (.mksl ty sz bytes z l c)) e h nx K=Z r):kG P o aa e h nx K r:=by
 obtain⟨H,hH⟩:=jL h;simp only[dS,hcm]at hk;split at hk
 .rename_i T k a k' b hT hv F;split at hk
  .rename_i hsz;simp only[ak]at hsz;have hs:=au hsz.1;have hz:=Jx hsz.2;subst hs;subst hz;obtain⟨hck,hk⟩:=dM hk;obtain⟨y,h1,h2⟩:=bI hi hv;obtain⟨y2,h3,h4⟩:=bI hi F;simp only[b9,af]at h2 h4;subst h2;subst h4;have hnone:h.get nx=U:=by
    cases hb:h.get nx with
    |none=>rfl
    |some b=>have:=hinv.low nx b hb;omega
   generalize L:hX.rows ty aa T (aA (aP a) T.zero)=B at hk;have hr:b6 h (h.set nx (Z B)):=b6.set λr hr=>by rw[bP,hnone]at hr;cases hr
   have I:bB (h.set nx (Z B)) (nm nx)=Z ⟨ty,.fz ((aA (aP a) T.zero).flatMap (bO T))⟩:=by rw[bK,PT.get_set,aU rfl,<-L];simp[jv]
   refine ⟨_,_,_,_,_,hk,iz.mk' hc hH (k:=nm nx) (by simp only[ef,h1,h3,gg,hck,bE];rfl) [nm nx] (λi hi=>hi) (λn hn=>?_) (λi hi b' _=>⟨⟨ty,.fz (repl (su T) (aP a))⟩,?_⟩) (λH1 H2 d D _ A=>⟨λi hi b b' hb s=>?_,λy hy=>?_⟩) (by simp) ?_ ?_ hr (hinv.set hr (by omega) (by omega) λty' l' he=>?_) (by omega)⟩
   .refine km hinv hr λi e=>?_
    subst e;rw[PT.get_set,aL (λe=>hn (by rw[e];simp))]
   .rw[aU hi];simp only[aI]at hi;subst hi;simp[jd]
   .simp only[aI]at hi;subst hi;rw[D _ (by simp)]at hb;rw[A _ (by simp),I]at s;rw[h_]at hb;simp only[af]at hb s;subst hb;subst s;refine il.cells rfl rfl (GF d T _) λx hx=>?_
    simp only[BC.toMx]at hx;obtain⟨q,hq,rfl⟩:=cX.1 hx;exact rc T _ q hq
   .simp only[b9,bP,PT.get_set,bE,<-L,aD,mE,eZ,jS,bG,dq,af,cK]at hy;subst hy;exact lj.refl d _
   .intro n hn;simp only[aI]at hn;subst hn;rw[dQ];exact bV.2 rfl
   .intro n hn;simp only[aI]at hn;subst hn;rw[dQ];omega
   .rw[<- L]at he;cases he
  .cases hk
 .cases hk
end ops
theorem vz {α:Type} {f:α->Y FV} {n:Nat} (hf:∀x,(f x).length=n):∀(xs:Y α) (j:Nat),(xs.take j).flatMap f=(xs.flatMap f).take (j*n)
 |[],j=>by simp
 |x::r,0=>by simp
 |x::r,j+1=>by
  rw[uU,fo,fo,vz hf r j,show (j+1)*n=(f x).length+j*n from by rw[hf,iL];omega,List.take_length_add_append]
theorem Ip {α:Type} {f:α->Y FV} {n:Nat} (hf:∀x,(f x).length=n):∀(xs:Y α) (j:Nat),(xs.drop j).flatMap f=(xs.flatMap f).drop (j*n)
 |[],j=>by simp
 |x::r,0=>by simp
 |x::r,j+1=>by
  rw[uW,fo,Ip hf r j,show (j+1)*n=(f x).length+j*n from by rw[hf,iL];omega,List.drop_length_add_append]
theorem OQ {z:ξ}:∀(n:Nat) (x:FV),x∈repl z n->∃v∈z,x= .raw v
 |0,x,h=>by simp[repl]at h
 |n+1,x,h=>by
  rw[repl,bN]at h;rcases h with h|h
  .obtain⟨v,hv,rfl⟩:=cX.1 h;exact⟨v,hv,rfl⟩
  .exact OQ n x h
theorem Ft:∀l:Y FV,(∀x∈l,x.isCell=M)->gh (l.map .f)=M
 |[],_=>rfl
 |z::r,h=>by simp only[eW,gh,ak];exact⟨h z (by simp),Ft r λx d=>h x (by simp[d])⟩
section ops
variable {R:Type} {P:Program} {o:Oper} {e:iJ} {h:bl} {nx:Nat} {K:KO R} {r:R}
theorem l_.fresh (hinv:l_ h nx):h.get nx=U:=by
 cases hb:h.get nx with
 |none=>rfl
 |some b=>have:=hinv.low nx b hb;omega
theorem dK.lt (hinv:l_ h nx) {m:Nat} (hm:dK h m) {i:Nat} (hi:aO m i=M):i<nx:=by
 obtain⟨_,_,_,_,hb⟩:=hm i hi;exact hinv.low i _ hb
theorem iz.new {s:Xh} (hinv:l_ h nx) (hc:dk P o.op=Z s) {H:nR} (hH:H.get=bB h) {y0:AV} {rdl:ι} {b0:uT} (ha:ef s (It e h) H (nm nx)=Z ⟨y0,rdl,[nm nx],[(nm nx,b0)],[nm nx]⟩) {B:hX} {v:TV} {m rd:Nat} (hm:dK h m)
 (hB:∀ty l,B= .cells ty l->kO ((d9 m h).set nx (Z B)) l=M)
 (hblk:∀z q,uf z q->C7 h z q m->∀b',jv ((d9 m h).set nx (Z B)) B=Z b'->il z q b0 b')
 (hval:∀z q y,uf z q->C7 h z q m->b9 ((d9 m h).set nx (Z B)) v=Z y->lj z q y0 y)
 (hrd:∀n∈rdl,aO rd (ow n)=M):iz P o aa e h nx v rd (m|||kn nx) ((d9 m h).set nx (Z B)) (nx+1):=by
 have hk:=hinv.kill m;have hr0:=b6.kill m h;have F:b6 (d9 m h) ((d9 m h).set nx (Z B)):=b6.set λr hr=>by rw[bP,hk.fresh]at hr;cases hr
 have hr:=hr0.trans F;have hgiv:∀i,aO m i=M->bB ((d9 m h).set nx (Z B)) (nm i)=U:=λi hi=>by
  have hlt:=hm.lt hinv hi;obtain⟨p,sz,n,hd⟩:=s6 hm hi;rw[bK,PT.get_set,aL (by omega),hd];rfl
 refine iz.mk' hc hH ha (nm nx::EC m) (λi hi=>by simp only[aI]at hi;subst hi;simp) (λn hn=>?_) (λi hi b' I=>?_) (λz q d L hw0 D=>?_) hrd ?_ ?_ hr (hk.set F (by omega) (by omega) hB) (by omega)
 .refine km hinv hr λi e=>?_
  subst e;rw[PT.get_set,aL (λe=>hn (by rw[e];simp)),iR,aL];intro hb;exact hn (di _ (lI.2 hb))
 .rcases bu.1 hi with rfl|hi
  .exact⟨b0,by rw[aU (by simp),h_]⟩
  .obtain⟨j,rfl,hj⟩:=nF.1 hi;rw[hgiv j hj]at I;cases I
 .have g:C7 h z q m:=λi hi=>by
   have hlt:=hm.lt hinv hi;have hmem:nm i∈nm nx::EC m:=di _ (lI.2 hi);exact⟨hw0 _ hmem (λhc=>by simp only[aI]at hc;have:=kP hc;omega),by rw[D _ hmem,hgiv i hi]⟩
  refine ⟨λi hi b b' hb A=>?_,λy hy=>hval z q y d g hy⟩;rcases bu.1 hi with rfl|hi'
  .rw[L _ (by simp),h_]at hb;rw[D _ hi,bK,PT.get_set,aU rfl]at A;simp only[af]at hb;subst hb;exact hblk z q d g b' A
  .obtain⟨j,rfl,hj⟩:=nF.1 hi';rw[D _ hi,hgiv j hj]at A;cases A
 .intro n hn;rw[bw];rcases bu.1 hn with rfl|hn
  .rw[dQ,bV.2 rfl];simp
  .obtain⟨j,rfl,hj⟩:=nF.1 hn;rw[dQ,hj];rfl
 .intro n hn;simp only[aI]at hn;subst hn;rw[dQ];omega
theorem iz.wrt {s:Xh} (hinv:l_ h nx) (hc:dk P o.op=Z s) {H:nR} (hH:H.get=bB h) {id:Nat} {y0:AV} {rdl:ι} {b0:uT} {k:Nat} (ha:ef s (It e h) H k=Z ⟨y0,rdl,[nm id],[(nm id,b0)],[]⟩) {B0 B:hX} (I:h.get id=Z B0) {v:TV} {m rd:Nat} (hm:dK h m) (hmid:aO m id=aa)
 (hrow:mE B=mE B0) (hB:∀ty l,B= .cells ty l->kO ((d9 m h).set id (Z B)) l=M)
 (hblk:∀z q,uf z q->C7 h z q m->∀b',jv ((d9 m h).set id (Z B)) B=Z b'->il z q b0 b')
 (hval:∀z q y,uf z q->C7 h z q m->b9 ((d9 m h).set id (Z B)) v=Z y->lj z q y0 y)
 (hrd:∀n∈rdl,aO rd (ow n)=M):iz P o aa e h nx v rd (m|||kn id) ((d9 m h).set id (Z B)) nx:=by
 have hk:=hinv.kill m;have hr0:=b6.kill m h;have hkid:(d9 m h).get id=Z B0:=by rw[iR,hmid];simpa using I
 have F:b6 (d9 m h) ((d9 m h).set id (Z B)):=b6.set λr hr=>by rw[bP,hkid]at hr;rw[hrow];exact hr
 have hr:=hr0.trans F;have hgiv:∀i,aO m i=M->bB ((d9 m h).set id (Z B)) (nm i)=U:=λi hi=>by
  have hne:i≠id:=λe=>by rw[e,hmid]at hi;cases hi
  obtain⟨p,sz,n,hd⟩:=s6 hm hi;rw[bK,PT.get_set,aL hne,hd];rfl
 refine iz.mk' hc hH ha (nm id::EC m) (λi hi=>by simp only[aI]at hi;subst hi;simp) (λn hn=>?_) (λi hi b' L=>?_) (λz q d hw1 hw0 D=>?_) hrd ?_ (by simp) hr (hk.set F (hinv.low id B0 I) (by omega) hB) (by omega)
 .refine km hinv hr λi e=>?_
  subst e;rw[PT.get_set,aL (λe=>hn (by rw[e];simp)),iR,aL];intro hb;exact hn (di _ (lI.2 hb))
 .rcases bu.1 hi with rfl|hi
  .exact⟨b0,by rw[aU (by simp),h_]⟩
  .obtain⟨j,rfl,hj⟩:=nF.1 hi;rw[hgiv j hj]at L;cases L
 .have g:C7 h z q m:=λi hi=>by
   have hne:i≠id:=λe=>by rw[e,hmid]at hi;cases hi
   have hmem:nm i∈nm id::EC m:=di _ (lI.2 hi);exact⟨hw0 _ hmem (λhc=>by simp only[aI]at hc;exact hne (kP hc)),by rw[D _ hmem,hgiv i hi]⟩
  refine ⟨λi hi b b' hb A=>?_,λy hy=>hval z q y d g hy⟩;rcases bu.1 hi with rfl|hi'
  .rw[hw1 _ (by simp),h_]at hb;rw[D _ hi,bK,PT.get_set,aU rfl]at A;simp only[af]at hb;subst hb;exact hblk z q d g b' A
  .obtain⟨j,rfl,hj⟩:=nF.1 hi';rw[D _ hi,hgiv j hj]at A;cases A
 .intro n hn;rw[bw];rcases bu.1 hn with rfl|hn
  .rw[dQ,bV.2 rfl];simp
  .obtain⟨j,rfl,hj⟩:=nF.1 hn;rw[dQ,hj];rfl
theorem Ly (h:bl) {z:ξ} {d:Y TV} (q:Jd z=Z d):∀len,cz h (aA len d).flatten=Z ((repl z len).map .f)
 |0=>rfl
 |n+1=>by
  rw[pJ,List.flatten_cons,repl,c7];refine m_ ?_ (Ly h q n);rw[(uC h q).1];simp only[GA];rfl
theorem UK {H:nR} (I:H.get=bB h) {T:Ty} {v:TV} {D:Y T.den} {m:Nat} {y:AV} (d:Bj h (.sl T) v=Z (D,m)) (s:b9 h v=Z y):∃rd,y.row? H T.size=Z ((D.flatMap (bO T)).map .f,D.length,rd)/\∀n∈rd,∃i,n=nm i/\aO m i=M:=by
 have fl:=λA:Y T.den=>eF (bA T) A
 have tk:∀A:Y T.den,(A.flatMap (bO T)).take (A.length*T.size)=A.flatMap (bO T):=λA=>by rw[<- fl,bQ]
 cases v with
 |f S x=>
  simp only[Bj,g_]at d;split at d
  .rename_i z F;simp only[af,aC]at d;obtain⟨rfl,_⟩:=d;obtain⟨e,rfl⟩:=gL F;subst e;simp only[b9,af]at s;subst s;refine ⟨[],?_,by simp⟩;simp only[gg,AV.row?];rw[aU (bt (by rw[fl x];exact cB _)),tk]
  .cases d
 |emp=>
  simp only[Bj,g_,af,aC]at d;obtain⟨rfl,_⟩:=d;simp only[b9,af]at s;subst s;exact⟨[],rfl,by simp⟩
 |nil=>
  simp only[Bj,g_,af,aC]at d;obtain⟨rfl,_⟩:=d;simp only[b9,af]at s;subst s;exact⟨[],rfl,by simp⟩
 |row id=>
  simp only[Bj,g_]at d;split at d
  .rename_i ty p S xs hb;split at d
   .rename_i z F;simp only[af,aC]at d;obtain⟨rfl,rfl⟩:=d;obtain⟨e,rfl⟩:=gL F;cases e;simp only[b9,eh,hb,af]at s;subst s;unfold eZ;split
    .rename_i hp;simp only[ak,cO]at hp;have:xs=[]:=jg.1 hp.2;subst this;exact⟨[],rfl,by simp⟩
    .rename_i hp;have hg:H.get (nm id)=Z ⟨ty,.fz (xs.flatMap (bO T))⟩:=by rw[I,bK,hb];simp only[aD,jv,aL hp]
     refine ⟨[nm id],?_,λn hn=>?_⟩
     .simp only[AV.row?,hg,cN,bE,BC.isCells,BC.len,kI];rw[aU (bt (by rw[fl xs];exact cB _))];simp only[BC.toMx,<-pt,tk]
     .simp only[aI]at hn;exact⟨id,hn,bV.2 rfl⟩
   .cases d
  .cases d
 |agg l=>simp[Bj,Ty.one]at d
 |fel T xs j hj off=>simp[Bj,g_]at d
 |pel id sz j off=>simp[Bj,g_]at d
 |ptr id off=>simp[Bj,g_]at d
 |csl id off z=>simp[Bj,g_]at d
 |mp id=>simp[Bj,g_]at d
 |rtl id L=>simp[Bj,g_]at d
 |tup q=>simp[Bj,g_]at d
 |clo f q=>simp[Bj,g_]at d
 |undef=>simp[Bj,g_]at d
 |np=>simp[Bj,g_]at d
 |anyb=>simp[Bj,g_]at d
 |ful S q=>simp[Bj,g_]at d
theorem Su {v:TV} {y:AV} (d:b9 h v=Z y) (hc:v.isC=M):gh y.cs=M:=by
 rw[MU (M4 d hc)];simp only[gh,Bool.and_true];exact M4 d hc
theorem Wp (T:Ty) (x:T.den):gh ((bO T x).map .f)=M:=by
 have:∀l:Y FV,(∀x∈l,x.isCell=M)->gh (l.map .f)=M:=by
  intro l hl;induction l with
  |nil=>rfl
  |cons z r d=>simp only[eW,gh,ak];exact⟨hl z (by simp),d λx q=>hl x (by simp[q])⟩
 exact this _ (nN T x)
theorem gx {T:Ty} {v:TV} {x:T.den} {m:Nat} {y:AV} (d:g_ h T v=Z (x,m)) (s:b9 h v=Z y):gh y.cs=M:=by
 cases v with
 |f S v=>simp only[b9,af]at s;subst s;rw[zn];exact Wp S v
 |emp=>exact Su s rfl
 |nil=>exact Su s rfl
 |row id=>exact Su s rfl
 |fel T xs j hj off=>simp[g_]at d
 |pel id sz j off=>simp[g_]at d
 |ptr id off=>simp[g_]at d
 |csl id off z=>simp[g_]at d
 |mp id=>simp[g_]at d
 |rtl id A=>simp[g_]at d
 |agg q=>simp[g_]at d
 |tup q=>simp[g_]at d
 |clo f q=>simp[g_]at d
 |undef=>simp[g_]at d
 |np=>simp[g_]at d
 |anyb=>simp[g_]at d
 |ful S q=>simp[g_]at d
theorem G5 {T:Ty} (A:T.one=M) {v:TV} {x:T.den} {m:Nat} (d:g_ h T v=Z (x,m)):v.isC=M:=by
 cases v with
 |f S v=>
  simp only[g_]at d;split at d
  .rename_i z s;obtain⟨e,_⟩:=gL s;subst e;exact A
  .cases d
 |emp=>rfl
 |nil=>rfl
 |row id=>rfl
 |fel T xs j hj off=>simp[g_]at d
 |pel id sz j off=>simp[g_]at d
 |ptr id off=>simp[g_]at d
 |csl id off z=>simp[g_]at d
 |mp id=>simp[g_]at d
 |rtl id D=>simp[g_]at d
 |agg q=>simp[g_]at d
 |tup q=>simp[g_]at d
 |clo f q=>simp[g_]at d
 |undef=>simp[g_]at d
 |np=>simp[g_]at d
 |anyb=>simp[g_]at d
 |ful S q=>simp[g_]at d
theorem Re {a b:Y TV} (d:kA a=M) (hb:kA b=M):kA (a++b)=M:=by
 induction a with
 |nil=>exact hb
 |cons z r q=>simp only[kA,ak,gX]at d ⊢;exact⟨d.1,q d.2⟩
theorem sX:∀(n:Nat) (T:Ty) (l:Y TV) (x:T.den) (m:Nat) (r:Y TV),eK h n T l=Z (x,m,r)->∃a,l=a++r/\kA a=M
 |0,_,_,_,_,_,hp=>by simp[eK]at hp
 |n+1,.st t,l,x,m,r,hp=>sX n t l x m r hp
 |n+1,.pr a b,l,x,m,r,hp=>by
  simp only[eK]at hp;split at hp
  .rename_i x1 m1 r1 h1;split at hp
   .rename_i x2 m2 r2 h2;simp only[af,aC]at hp;obtain⟨_,_,rfl⟩:=hp;obtain⟨a1,rfl,s⟩:=sX n a l x1 m1 r1 h1;obtain⟨a2,rfl,d⟩:=sX n b r1 x2 m2 r2 h2;exact⟨a1++a2,by simp,Re s d⟩
   .cases hp
  .cases hp
 |n+1,.un,l,x,m,r,hp=>by
  simp only[eK,af,aC]at hp;obtain⟨_,_,rfl⟩:=hp;exact⟨[],rfl,rfl⟩
 |n+1,.ex,l,x,m,r,hp=>by
  simp only[eK]at hp;split at hp
  .rename_i x1 m1 r1 h1;simp only[af,aC]at hp;obtain⟨_,_,rfl⟩:=hp;exact sX n LZ l x1 m1 r1 h1
  .cases hp
 |n+1,.sm,l,x,m,r,hp=>by
  simp only[eK]at hp;split at hp
  .rename_i x1 m1 r1 h1;simp only[af,aC]at hp;obtain⟨_,_,rfl⟩:=hp;exact sX n Lv l x1 m1 r1 h1
  .cases hp
 |n+1,.int k,l,x,m,r,hp=>by
  simp only[eK]at hp;split at hp
  .rename_i c q;split at hp
   .rename_i x1 m1 h1;simp only[af,aC]at hp;obtain⟨_,_,rfl⟩:=hp;exact⟨[c],rfl,by simp[kA,G5 rfl h1]⟩
   .cases hp
  .cases hp
 |n+1,.bool,l,x,m,r,hp=>by
  simp only[eK]at hp;split at hp
  .rename_i c q;split at hp
   .rename_i x1 m1 h1;simp only[af,aC]at hp;obtain⟨_,_,rfl⟩:=hp;exact⟨[c],rfl,by simp[kA,G5 rfl h1]⟩
   .cases hp
  .cases hp
 |n+1,.str,l,x,m,r,hp=>by
  simp only[eK]at hp;split at hp
  .rename_i c q;split at hp
   .rename_i x1 m1 h1;simp only[af,aC]at hp;obtain⟨_,_,rfl⟩:=hp;exact⟨[c],rfl,by simp[kA,G5 rfl h1]⟩
   .cases hp
  .cases hp
 |n+1,.sl t,l,x,m,r,hp=>by
  simp only[eK]at hp;split at hp
  .rename_i c q;split at hp
   .rename_i x1 m1 h1;simp only[af,aC]at hp;obtain⟨_,_,rfl⟩:=hp;exact⟨[c],rfl,by simp[kA,G5 rfl h1]⟩
   .cases hp
  .cases hp
theorem JC {T:Ty} {v:TV} {x:T.den} {m:Nat} {y:AV} (s:Bj h T v=Z (x,m)) (d:b9 h v=Z y):gh y.cs=M:=by
 cases v with
 |agg l=>
  simp only[Bj]at s;split at s
  .cases s
  .split at s
   .rename_i x1 m1 h1;obtain⟨a,e,D⟩:=sX 40 T l x1 m1 [] h1;rw[n_]at e;subst e;simp only[b9]at d;split at d
    .rename_i F hl;simp only[af]at d;subst d;exact rK hl D
    .cases d
   .cases s
 |f S v=>exact gx (v:=.f S v) s d
 |fel T xs j hj off=>exact gx (v:=.fel T xs j hj off) s d
 |pel id sz j off=>exact gx (v:=.pel id sz j off) s d
 |ptr id off=>exact gx (v:=.ptr id off) s d
 |csl id off z=>exact gx (v:=.csl id off z) s d
 |row id=>exact gx (v:=.row id) s d
 |emp=>exact gx (v:=.emp) s d
 |nil=>exact gx (v:=.nil) s d
 |mp id=>exact gx (v:=.mp id) s d
 |rtl id A=>exact gx (v:=.rtl id A) s d
 |tup q=>exact gx (v:=.tup q) s d
 |clo g q=>exact gx (v:=.clo g q) s d
 |undef=>exact gx (v:=.undef) s d
 |np=>exact gx (v:=.np) s d
 |anyb=>exact gx (v:=.anyb) s d
 |ful S q=>exact gx (v:=.ful S q) s d
theorem qK {u:TV} {y:AV} (d:b9 h u=Z y):∀(n:Nat) (T:Ty) (v:T.den) (off sz:Nat) (z:T.den) (m:Nat),gH h u n T v off sz=Z (z,m)->gh y.cs=M
 |0,_,_,_,_,_,_,hg=>by simp[gH]at hg
 |n+1,.st t,v,off,sz,z,m,hg=>by
  simp only[gH]at hg;split at hg
  .rename_i q hq;split at hq
   .exact JC hq d
   .cases hq
  .exact qK d n t v off sz z m hg
 |n+1,.pr a b,v,off,sz,z,m,hg=>by
  simp only[gH]at hg;split at hg
  .split at hg
   .rename_i s m1 h1;exact qK d n a v.1 off sz s m1 h1
   .cases hg
  .split at hg
   .rename_i s m1 h1;exact qK d n b v.2 _ sz s m1 h1
   .cases hg
 |n+1,.un,v,off,sz,z,m,hg=>by simp[gH]at hg
 |n+1,.ex,v,off,sz,z,m,hg=>by
  simp only[gH]at hg;split at hg
  .rename_i q hq;split at hq
   .exact JC hq d
   .cases hq
  .split at hg
   .rename_i s m1 h1;exact qK d n LZ _ off sz s m1 h1
   .cases hg
 |n+1,.sm,v,off,sz,z,m,hg=>by
  simp only[gH]at hg;split at hg
  .rename_i q hq;split at hq
   .exact JC hq d
   .cases hq
  .split at hg
   .rename_i s m1 h1;exact qK d n Lv _ off sz s m1 h1
   .cases hg
 |n+1,.int k,v,off,sz,z,m,hg=>by
  simp only[gH]at hg;split at hg
  .exact gx hg d
  .cases hg
 |n+1,.bool,v,off,sz,z,m,hg=>by
  simp only[gH]at hg;split at hg
  .exact gx hg d
  .cases hg
 |n+1,.str,v,off,sz,z,m,hg=>by
  simp only[gH]at hg;split at hg
  .exact gx hg d
  .cases hg
 |n+1,.sl t,v,off,sz,z,m,hg=>by
  simp only[gH]at hg;split at hg
  .exact gx hg d
  .cases hg
theorem JG (l:Y FV):wP (l.map .f)=Z l:=by
 induction l with
 |nil=>rfl
 |cons x r d=>simp only[eW,wP,d]
theorem xW (l:Y FV):ox (l.map .f)= .fz l:=by unfold ox;rw[JG]
theorem Fu:∀{a b:Y TV},kA a=M->kA b=M->kA (a++b)=M
 |[],_,_,hb=>hb
 |x::r,b,d,hb=>by
  simp only[kA,ak]at d;simp only[gX,kA,ak];exact⟨d.1,Fu d.2 hb⟩
theorem Ec {d:Y TV} (q:kA d=M):∀n,kA (aA n d).flatten=M
 |0=>rfl
 |n+1=>by rw[pJ,List.flatten_cons];exact Fu q (Ec q n)
theorem aby {H:nR} (q:H.get=bB h) {id ty:Nat} {l:Y TV} {d:Y AV} (hb:h.get id=Z (.cells (Z ty) l)) (hl:cz h l=Z d) {n sz:Nat} (hn:l.length=n*sz):AV.row? H sz (.row (nm id) sz n)=Z (d,n,[nm id]):=by
 have hg:H.get (nm id)=Z ⟨ty,.mx d⟩:=by rw[q,bK,hb];simp only[aD,jv,hl]
 have hln:=gw hl;simp only[AV.row?,cN,bE,hg,BC.isCells,kI,BC.len,BC.toMx];rw[aU (bt (by omega)),fJ (by omega)]
variable (hinv:l_ h nx) (hi:sU e h)
include hinv hi
theorem ah2 {con:FuncId->J ch} {bZ:TypeId->J Ty} {ty:TypeId} {sz len:Nat} {z:ξ} {parts:Y (Nat×Nat×Operand)} (hcm:CJ (bZ ty)=U) (hc:dk P o.op=Z (.bsl ty sz len z parts)) (hk:dS con bZ (.op (.bsl ty sz len z parts)) e h nx K=Z r):kG P o aa e h nx K r:=by
 obtain⟨H,I⟩:=jL h;simp only[dS,hcm]at hk;split at hk
 .rename_i T zc hT F;split at hk
  .rename_i hs;have hs:=au hs;subst hs;split at hk
   .rename_i cs hf;split at hk
    .rename_i xs m hp;obtain⟨cs',h1,h2,_⟩:=Ca hi parts _ cs _ hf (Ly h F len);have hm:=MS len cs xs m hp;refine ⟨_,_,_,_,_,hk,iz.new hinv hc I (y0:=if len=0 then .emp else .row (nm nx) T.size len) (rdl:=[]) (b0:=⟨ty,ox cs'⟩) (by simp only[ef,h1]) hm (λ_ _ he=>by cases he) (λH1 L d g b' s=>?_) (λH1 L y d g A=>?_) (by simp)⟩
     .simp only[jv]at s;split at s
      .cases s
      rw[af]at s;subst s;obtain⟨q1,q2⟩:=nE cs';refine il.cells q2 rfl ?_ λx D=>?_
      .rw[q1];exact (BG d len cs xs m cs' hp h2 g).1
      .simp only[BC.toMx]at D;obtain⟨q,hq,rfl⟩:=cX.1 D;exact rc T _ q hq
     .simp only[b9,bP,PT.get_set,bE,aD,mE,eZ,af]at A;rw[(BG d len cs xs m cs' hp h2 g).2]at A;split at A
      .rename_i hq;simp only[ak,cO]at hq;subst A;rw[aU hq.2];exact lj.refl d _
      .rename_i hq;subst A;rw[aL (λh0=>hq (by subst h0;rfl))];exact lj.refl d _
    .cases hk
   .cases hk
  .cases hk
 .cases hk
theorem ah3 {con:FuncId->J ch} {bZ:TypeId->J Ty} {ty:TypeId} {sz bytes:Nat} {s x:Operand} (hcm:CJ (bZ ty)=U) (hc:dk P o.op=Z (.app ty sz bytes s x)) (hk:dS con bZ (.op (.app ty sz bytes s x)) e h nx K=Z r):kG P o aa e h nx K r:=by
 obtain⟨H,hH⟩:=jL h;have hfr:=hinv.fresh;simp only[dS,hcm]at hk;split at hk
 .rename_i T b y hT hv hv2;split at hk
  .rename_i hs;have hs:=au hs;subst hs;split at hk
   .rename_i z m hys;obtain⟨yb,h1,h2⟩:=bI hi hv;obtain⟨yy,h3,h4⟩:=bI hi hv2;obtain⟨rdl,h5,h6⟩:=UK hH hys h4;have onEmp:∀(rd':Nat),(∀n∈rdl,aO rd' (ow n)=M)->HV yb=M->Le yb .emp->be (ah z) bytes=M->iz P o aa e h nx (.row nx) rd' (kn nx) (h.set nx (Z (.rows ty M T z))) (nx+1):=by
     intro rd' hrd' he hle hroom;have hr1:b6 h (h.set nx (Z (.rows ty M T z))):=b6.set λr hr=>by rw[bP,hfr]at hr;cases hr
     have hyb:∀id sz' n,yb≠ .row id sz' n:=by rintro id sz' n rfl;cases he
     have A:ef (.app ty T.size bytes s x) (It e h) H (nm nx)=if ah z==0 then Z ⟨yb,rdl,[],[],[]⟩ else Z ⟨.row (nm nx) T.size (ah z),rdl,[nm nx],[(nm nx,⟨ty,ox ((z.flatMap (bO T)).map .f)⟩)],[nm nx]⟩:=by
      simp only[ef,h1,h3,h5];cases yb with
      |row id sz' n=>exact dP rfl (hyb id sz' n)
      |ful l n=>cases he
      |_=>simp only[he,hroom,jx,bE]
     by_cases hl:ah z=0
     .rw[hl]at A;simp only[cN,bE]at A;have hnil:z=[]:=jg.1 hl;subst hnil;refine iz.mk' hc hH A [] (by simp) (λn _=>?_) (by simp) (λH1 H2 d _ _ _=>⟨by simp,λy D=>?_⟩) hrd' (by simp) (by simp) hr1 (hinv.set hr1 (by omega) (by omega) λ_ _ he=>by cases he) (by omega)
      .by_cases hn:n=nm nx
       .subst hn;rw[bK,bK,PT.get_set,aU rfl,hfr];rfl
       .refine km hinv hr1 λi e=>?_
        subst e;rw[PT.get_set,aL (λe=>hn (by rw[e]))]
      .simp only[b9,bP,PT.get_set,bE,aD,mE,eZ,jW,cN,jx,af]at D;subst D;exact hle.toH d
     .rw[aL (by simpa using hl)]at A;rw[xW]at A;have key:=iz.new (m:=0) (rd:=rd') hinv hc hH A (B:=.rows ty M T z) (v:=.row nx) (dK.zero h) (λ_ _ he=>by cases he) (λH1 H2 d g b' F=>by
       simp only[jv]at F;rw[aL (by simpa using hl)]at F;simp only[af]at F;subst F;exact il.refl d _) (λH1 H2 y d g D=>by
       simp only[b9,bP,PT.get_set,bE,aD,mE,eZ]at D;rw[aL (by simpa using hl)]at D;simp only[af]at D;subst D;exact lj.refl d _) hrd'
      rw[xz]at key;exact key
    split at hk
    .rename_i id;split at hk
     .rename_i ty' p S xs0 hb;split at hk
      .rename_i xs hxs;obtain⟨ee,rfl⟩:=gL hxs;cases ee;split at hk
       .rename_i hcond;simp only[ak,cO,d_]at hcond;obtain⟨rfl,hmid⟩:=hcond;obtain⟨hroom,hk⟩:=dM hk;simp only[b9,eh,hb,af]at h2;have hidlt:=hinv.low id _ hb;have hne:nx≠id:=by omega
        have hrd:∀n∈rdl,aO (kn id|||m) (ow n)=M:=λn hn=>by
         obtain⟨i,rfl,hm⟩:=h6 n hn;rw[dQ,bw,hm];simp
        generalize hh':(h.set id (Z (.dead p T.size (ah xs0)))).set nx (Z (.rows ty' p T (xs0++z)))=h' at hk;have hrA:b6 h (h.set id (Z (.dead p T.size (ah xs0)))):=b6.set λr hr=>by rw[bP,hb]at hr;exact hr
        have hg2:∀i,h'.get i=if i=nx then Z (.rows ty' p T (xs0++z)) else if i=id then Z (.dead p T.size (ah xs0)) else h.get i:=λi=>by rw[<- hh',PT.get_set,PT.get_set]
        have hr:b6 h h':=by
         rw[<- hh'];refine hrA.trans (b6.set λr hr=>?_);rw[bP,PT.get_set,aL hne,hfr]at hr;cases hr
        have hinv':l_ h' (nx+1):=by
         refine ⟨λi ty l hil=>?_,λi c hic=>?_⟩
         .rw[hg2]at hil;split at hil
          .cases hil
          .split at hil
           .cases hil
           .exact iP hr l (hinv.cells i _ l hil)
         .rw[hg2]at hic;split at hic
          .omega
          .split at hic
           .omega
           .have:=hinv.low i c hic;omega
        have hsame:∀n,n≠nm nx->n≠nm id->bB h' n=bB h n:=λn h1 h2=>km hinv hr λi e=>by
         subst e;rw[hg2,aL (λe=>h1 (by rw[e])),aL (λe=>h2 (by rw[e]))]
        have hdead:bB h' (nm id)=U:=by rw[bK,hg2,aL (by omega),aU rfl];rfl
        have hnew:bB h' (nm nx)=if p&&(xs0++z).length==0 then U else Z ⟨ty',.fz ((xs0++z).flatMap (bO T))⟩:=by rw[bK,hg2,aU rfl];rfl
        have hval:b9 h' (.row nx)=Z (eZ p nx T.size (xs0++z).length):=by simp only[b9,bP,hg2,bE,aD,mE]
        have hwm:∀n,n=nm nx\/n=nm id->aO (kn id|||kn nx) (ow n)=M:=λn hn=>by
         rcases hn with rfl|rfl<;>rw[dQ,bw,bV.2 rfl]<;>simp
        refine ⟨_,_,_,_,_,hk,?_⟩;by_cases hp:(p&&xs0.length==0)=M
        ·
         have hyb:yb= .emp:=by rw[<- h2];unfold eZ;rw[aU hp]
         subst hyb;simp only[ak,cO]at hp;obtain⟨rfl,hl0⟩:=hp;have hnil:xs0=[]:=jg.1 hl0;subst hnil;have hroom':be (ah z) bytes=M:=by simpa using hroom
         have A:ef (.app ty' T.size bytes s x) (It e h) H (nm nx)=if ah z==0 then Z ⟨.emp,rdl,[],[],[]⟩ else Z ⟨.row (nm nx) T.size (ah z),rdl,[nm nx],[(nm nx,⟨ty',ox ((z.flatMap (bO T)).map .f)⟩)],[nm nx]⟩:=by
          simp only[ef,h1,h3,h5,HV,hroom',jx,bE]
         have hdead0:bB h (nm id)=U:=by rw[bK,hb];rfl
         by_cases hl:ah z=0
         .rw[hl]at A;simp only[cN,bE]at A;have hnil:z=[]:=jg.1 hl;subst hnil;refine iz.mk' hc hH A [] (by simp) (λn _=>?_) (by simp) (λH1 H2 d _ _ _=>⟨by simp,λy D=>?_⟩) hrd (by simp) (by simp) hr hinv' (by omega)
          .by_cases hn:n=nm nx
           .subst hn;rw[hnew,bK,hfr];rfl
           .by_cases hn2:n=nm id
            .subst hn2;rw[hdead,hdead0]
            .exact hsame n hn hn2
          .rw[hval]at D;simp only[eZ,n_,jW,cN,jx,bE,af]at D;subst D;exact lj.refl d _
         .rw[aL (by simpa using hl),xW]at A;refine iz.mk' hc hH A [nm nx] (λi hi=>hi) (λn hn=>?_) (λi hi b' _=>⟨_,by rw[aU hi];simp only[aI]at hi;subst hi;exact h_ _ _⟩) (λH1 H2 d hw1 _ hw2=>⟨λi hi b b' L I=>?_,λy D=>?_⟩) hrd (λn hn=>hwm n (.inl (by simpa using hn))) (λn hn=>by simp only[aI]at hn;subst hn;rw[dQ];omega) hr hinv' (by omega)
          .have hn1:n≠nm nx:=by simpa using hn
           by_cases hn2:n=nm id
           .subst hn2;rw[hdead,hdead0]
           .exact hsame n hn1 hn2
          .simp only[aI]at hi;subst hi;rw[hw1 _ (by simp),h_]at L;rw[hw2 _ (by simp),hnew,aL (by simpa using hl)]at I;simp only[af,n7]at L I;subst L;subst I;exact il.refl d _
          .rw[hval]at D;simp only[eZ,n7]at D;rw[aL (by simpa using hl)]at D;simp only[af]at D;subst D;exact lj.refl d _
        .have hyb:yb= .row (nm id) T.size xs0.length:=by rw[<- h2];unfold eZ;rw[aL hp]
         subst hyb;have hg:H.get (nm id)=Z ⟨ty',.fz (xs0.flatMap (bO T))⟩:=by rw[hH,bK,hb];simp only[aD,jv,aL hp]
         have fl:=eF (bA T) xs0;have tk:(xs0.flatMap (bO T)).take (xs0.length*T.size)=xs0.flatMap (bO T):=by rw[<- fl,bQ]
         have hmem:VY (nm id) rdl=aa:=by
          cases hx:VY (nm id) rdl with
          |false=>rfl
          |true=>
           obtain⟨i,e,hm⟩:=h6 _ (aes.1 hx);rw[<- kP e,hmid]at hm;cases hm
         have A:ef (.app ty' T.size bytes s x) (It e h) H (nm nx)=Z ⟨.row (nm nx) T.size (xs0.length+z.length),nm id::rdl,[nm nx,nm id],[(nm nx,⟨ty',.fz ((xs0++z).flatMap (bO T))⟩)],[nm nx]⟩:=by
          have hcnd:(T.size==T.size&& !(VY (nm id) rdl)&&(BC.fz (xs0.flatMap (bO T))).isCells&&dN (xs0.length*T.size) (BC.fz (xs0.flatMap (bO T))).len&&ty'==ty'&&be (xs0.length+z.length) bytes)=M:=by
           have:dN (xs0.length*T.size) (BC.fz (xs0.flatMap (bO T))).len=M:=bt (by simp only[BC.len];omega);rw[this,hmem,hroom];simp[BC.isCells]
          simp only[ef,h1,h3,h5,hg,hcnd,bE,BC.toMx,<-pt,tk,<-c7,xW,FA]
         have hne2:¬((p&&(xs0++z).length==0)=M):=by
          simp only[ak,cO,bY]at hp ⊢;intro hh;exact hp ⟨hh.1,by omega⟩
         refine iz.mk' hc hH A [nm nx,nm id] (λi hi=>hi) (λn hn=>?_) (λi hi b' F=>?_) (λH1 H2 d hw1 _ hw2=>⟨λi hi b b' L I=>?_,λy D=>?_⟩) (λn hn=>?_) (λn hn=>hwm n (by simpa using hn)) (λn hn=>by simp only[aI]at hn;subst hn;rw[dQ];omega) hr hinv' (by omega)
         .simp only[bu,cA,gE,not_or]at hn;exact hsame n hn.1 hn.2
         .simp only[bu,cA,gE]at hi;rcases hi with rfl|rfl
          .exact⟨_,by rw[aU (by simp)];exact h_ _ _⟩
          .rw[hdead]at F;cases F
         .simp only[bu,cA,gE]at hi;rcases hi with rfl|rfl
          .rw[hw1 _ (by simp),h_]at L;rw[hw2 _ (by simp),hnew,aL hne2]at I;simp only[af]at L I;subst L;subst I;exact il.refl d _
          .rw[hw2 _ (by simp),hdead]at I;cases I
         .rw[hval]at D;simp only[eZ]at D;rw[aL hne2]at D;simp only[bY,af]at D;subst D;exact lj.refl d _
         .rcases bu.1 hn with rfl|hn
          .rw[dQ,bw,bV.2 rfl];rfl
          .exact hrd n hn
       .cases hk
      .cases hk
     .cases hk
    .rename_i S xs1;split at hk
     .rename_i hm0;have hm0:=au hm0;subst hm0;split at hk
      .rename_i xs hxs;obtain⟨ee,rfl⟩:=gL hxs;cases ee;obtain⟨hroom,hk⟩:=dM hk;simp only[b9,af]at h2;subst h2;have hr0:rdl=[]:=by
        cases rdl with
        |nil=>rfl
        |cons a q=>obtain⟨i,_,hz⟩:=h6 a (by simp);simp at hz
       subst hr0;have fl:=eF (bA T) xs1;have tk:(xs1.flatMap (bO T)).take (xs1.length*T.size)=xs1.flatMap (bO T):=by rw[<- fl,bQ]
       have hcnd:(dN (xs1.length*T.size) (xs1.flatMap (bO T)).length&&be (xs1.length+z.length) bytes)=M:=by
        have hroom:be (xs1.length+z.length) bytes=M:=hroom;rw[hroom,Bool.and_true];exact bt (by omega)
       rcases lO hk with ⟨hl,hk⟩|⟨hl,hk⟩
       .have hl:=au hl;have hl':(ah z==0)=M:=by rw[hl];rfl
        exact⟨_,0,0,h,nx,hk,iz.pure (y0:=.f (.sl (xs1.flatMap (bO T)) xs1.length)) (k:=nm nx) hinv hc hH (by simp only[ef,h1,h3,h5,hcnd,bE,hl'];rfl) (dc rfl) (by simp) λ_=>rfl⟩
       .have hl':¬(ah z==0)=M:=λe=>by
         have e:ah z=0:=by simpa using e
         rw[e]at hl;cases hl
        exact⟨_,_,_,_,_,hk,iz.new hinv hc hH (y0:=.row (nm nx) T.size (xs1.length+z.length)) (rdl:=[]) (b0:=⟨ty,.fz ((xs1++z).flatMap (bO T))⟩) (by
         simp only[ef,h1,h3,h5,hcnd,bE];rw[aL hl',tk,<-c7,xW,<-FA]) (B:=.rows ty aa T (xs1++z)) (v:=.row nx) (dK.zero h) (λ_ _ he=>by cases he) (λH1 H2 d g b' F=>by
         simp only[jv,jS,bG,dq,af]at F;subst F;exact il.refl d _) (λH1 H2 y d g D=>by
         simp only[b9,bP,PT.get_set,bE,aD,mE,eZ,jS,bG,dq,bY,af]at D;subst D;exact lj.refl d _) (by simp)⟩
      .cases hk
     .cases hk
    .obtain⟨hroom,hk⟩:=dM hk;simp only[b9,af]at h2;subst h2;exact⟨_,_,_,_,_,hk,onEmp m (λn hn=>by obtain⟨i,rfl,hm⟩:=h6 n hn;rw[dQ];exact hm) rfl (Le.refl _) hroom⟩
    .obtain⟨hroom,hk⟩:=dM hk;simp only[b9,af]at h2;subst h2;exact⟨_,_,_,_,_,hk,onEmp m (λn hn=>by obtain⟨i,rfl,hm⟩:=h6 n hn;rw[dQ];exact hm) rfl Le.nilEmp hroom⟩
    .cases hk
   .cases hk
  .cases hk
 .cases hk
theorem Zg {T:Ty} (xs d:Y T.den):(RN xs d).flatMap (bO T)=AI.splice (xs.flatMap (bO T)) 0 ((d.flatMap (bO T)).take (iM d.length xs.length*T.size)):=by
 have _:=hinv;have _:=hi;have fl:=λq:Y T.den=>eF (bA T) q
 have tk:∀(q:Y T.den) n,(q.flatMap (bO T)).take (n*T.size)=(q.take n).flatMap (bO T):=by
  intro q;induction q with
  |nil=>intro n;simp
  |cons z r s=>
   intro n;cases n with
   |zero=>simp
   |succ n=>rw[fo,uU,fo,iL,List.take_append,bA,fJ (by rw[bA];omega),show n*T.size+T.size-T.size=n*T.size from by omega,s n]
 have A:∀(q:Y T.den) n,(q.flatMap (bO T)).drop (n*T.size)=(q.drop n).flatMap (bO T):=by
  intro q;induction q with
  |nil=>intro n;simp
  |cons z r s=>
   intro n;cases n with
   |zero=>simp
   |succ n=>rw[fo,uW,iL,uk,bA,rn (by rw[bA];omega),show n*T.size+T.size-T.size=n*T.size from by omega,s n,n7]
 unfold RN AI.splice;rw[tk,FA,fl,b_];have e1:d.take (iM d.length xs.length)=d.take xs.length:=by
  rcases Nat.le_total d.length xs.length with h|h
  .rw[show iM d.length xs.length=d.length from Ei h,bQ,fJ h]
  .rw[show iM d.length xs.length=xs.length from Nat.min_eq_right h]
 rw[e1];have e2:min (iM d.length xs.length) d.length=iM d.length xs.length:=Ei (Nat.min_le_left _ _);rw[e2];simp only[List.take_zero,n7,bL];rw[A];congr 1;rcases Nat.le_total d.length xs.length with h|h
 .rw[show iM d.length xs.length=d.length from Ei h]
 .rw[show iM d.length xs.length=xs.length from Nat.min_eq_right h,List.drop_length,rn h]
theorem ah0 {con:FuncId->J ch} {bZ:TypeId->J Ty} {sz:Nat} {d x:Operand} (hc:dk P o.op=Z (.copy sz d x)) (hk:dS con bZ (.op (.copy sz d x)) e h nx K=Z r):kG P o aa e h nx K r:=by
 obtain⟨H,I⟩:=jL h;simp only[dS]at hk;split at hk
 .rename_i id y hv D;split at hk
  .rename_i ty p T xs hb;split at hk
   .rename_i hs;have hs:=au hs;subst hs;split at hk
    .rename_i q m hys;split at hk
     .rename_i hcond;simp only[ak,d_]at hcond;obtain⟨hmid,rfl⟩:=hcond;obtain⟨yb,h1,h2⟩:=bI hi hv;obtain⟨yy,h3,h4⟩:=bI hi D;obtain⟨rdl,h5,h6⟩:=UK I hys h4;simp only[b9,eh,hb,eZ,jS,bG,dq,af]at h2;subst h2;have fl:=eF (bA T) xs;have fl2:=eF (bA T) q;have hg:H.get (nm id)=Z ⟨ty,.fz (xs.flatMap (bO T))⟩:=by rw[I,bK,hb];simp[jv]
      have hmem:VY (nm id) rdl=aa:=by
       cases s:VY (nm id) rdl with
       |false=>rfl
       |true=>
        obtain⟨i,e,hm⟩:=h6 _ (aes.1 s);rw[<- kP e,hmid]at hm;cases hm
      have hle:iM q.length xs.length*T.size<=xs.length*T.size:=cr _ (Nat.min_le_right _ _);have F:ef (.copy T.size d x) (It e h) H (nm nx)=Z ⟨raw (.int .i64 (iM q.length xs.length)),nm id::rdl,[nm id],[(nm id,⟨ty,.fz ((RN xs q).flatMap (bO T))⟩)],[]⟩:=by
       have hcnd:(T.size==T.size&& !(VY (nm id) rdl)&&dN (xs.length*T.size) (BC.fz (xs.flatMap (bO T))).len)=M:=by
        have:dN (xs.length*T.size) (BC.fz (xs.flatMap (bO T))).len=M:=bt (by simp only[BC.len];omega);rw[this,hmem];simp
       have hput:(BC.fz (xs.flatMap (bO T))).put 0 (((q.flatMap (bO T)).map .f).take (iM q.length xs.length*T.size))=Z (.fz ((RN xs q).flatMap (bO T))):=by
        rw[<- pt];unfold BC.put;rw[aU]
        .simp only[JG];rw[Zg hinv hi]
        .simp only[ak];refine ⟨⟨rfl,bt ?_⟩,?_⟩
         .simp only[BC.len,co,b_];omega
         .have:∀l:Y FV,(∀x∈l,x.isCell=M)->gh (l.map .f)=M:=by
           intro l hl;induction l with
           |nil=>rfl
           |cons z r ih=>simp only[eW,gh,ak];exact⟨hl z (by simp),ih λx s=>hl x (by simp[s])⟩
          exact this _ λx s=>rc T q x (fB s)
       simp only[ef,h1,h3,hg,h5,hcnd,bE,hput]
      have hrow:mE (.rows ty aa T (RN xs q))=mE (.rows ty aa T xs):=by
       have:(RN xs q).length=xs.length:=by unfold RN;rw[bY,b_,kC];omega
       simp only[mE,this]
      have key:=iz.wrt (m:=0) (v:=.f (.int .i64) (aT (iM (ah q) (ah xs)))) (rd:=kn id|||m) hinv hc I F (B:=.rows ty aa T (RN xs q)) hb (dK.zero h) (by simp) hrow (λ_ _ he=>by cases he) (λH1 H2 d g b' A=>by
       simp only[jv,jS,bG,dq,af]at A;subst A;exact il.refl d _) (λH1 H2 y d g L=>by
       simp only[b9,af]at L;subst L;exact lj.refl d _) (λn hn=>by
       rcases bu.1 hn with rfl|hn
       .rw[dQ,bw,bV.2 rfl];rfl
       .obtain⟨i,rfl,hm⟩:=h6 n hn;rw[dQ,bw,hm];simp)
      rw[xz]at key;exact⟨_,_,_,_,_,hk,key⟩
     .cases hk
    .cases hk
   .cases hk
  .cases hk
 .cases hk
theorem ad3 {con:FuncId->J ch} {bZ:TypeId->J Ty} {sz:Nat} {x v:Operand} (hc:dk P o.op=Z (.store sz x v)) (hk:dS con bZ (.op (.store sz x v)) e h nx K=Z r):kG P o aa e h nx K r:=by
 obtain⟨H,hH⟩:=jL h;simp only[dS]at hk;split at hk
 .rename_i id off y hv hv2;obtain⟨yb,h1,h2⟩:=bI hi hv;obtain⟨A,h3,h4⟩:=bI hi hv2;simp only[b9,af]at h2;subst h2;split at hk
  .rename_i ty l hb;split at hk
   .rename_i cs hcs;split at hk
    .rename_i hcond;simp only[ak,cO]at hcond;obtain⟨h5,h6⟩:=Jg hcs h4;obtain⟨D,hl⟩:=eT h l (hinv.cells id _ l hb);have hg:H.get (nm id)=Z ⟨ty,.mx D⟩:=by rw[hH,bK,hb];simp only[aD,jv,hl]
     have hcell:=rK h5 h6;have hlen:A.cs.length=sz:=by rw[gw h5];exact hcond.1
     have hput:(BC.mx D).put off A.cs=Z (.mx (splice D off A.cs)):=by
      unfold BC.put;rw[aU]
      .rfl
      .simp only[ak];exact⟨⟨rfl,by simp only[BC.len];rw[hlen,gw hl];exact hcond.2⟩,hcell⟩
     have L:ef (.store sz x v) (It e h) H (nm nx)=Z ⟨raw undef,[nm id],[nm id],[(nm id,⟨ty,.mx (splice D off A.cs)⟩)],[]⟩:=by
      simp only[ef,h1,h3,JB,hg,hlen,cN,bE,hput]
     have hspl:∀h',b6 h h'->cz h' (splice l off cs)=Z (splice D off A.cs):=λh' hr=>pA off (fR hr l D hl) (fR hr cs _ h5)
     have F:b6 h (h.set id (Z (.cells (Z ty) (splice l off cs)))):=b6.set λr hr=>by rw[bP,hb]at hr;cases hr
     have key:=iz.wrt (m:=0) (v:=.undef) (rd:=kn id) hinv hc hH L (B:=.cells (Z ty) (splice l off cs)) hb (dK.zero h) (by simp) rfl (λty' l2 he=>by cases he;exact jU _ _ _ (hspl _ F)) (λH1 H2 d g b' s=>by
      have:=hspl _ F;simp only[d9,rk,bE,jv,this,af]at s;subst s;exact il.refl d _) (λH1 H2 y d g hy=>by
      simp only[b9,af]at hy;subst hy;exact lj.refl d _) (λn hn=>by simp only[aI]at hn;subst hn;rw[dQ];exact bV.2 rfl)
     rw[xz]at key;exact⟨_,_,_,_,_,hk,key⟩
    .cases hk
   .cases hk
  .cases hk
 .rename_i id sz' j off y hv hv2;obtain⟨yb,h1,h2⟩:=bI hi hv;obtain⟨A,h3,h4⟩:=bI hi hv2;simp only[b9,af]at h2;subst h2;split at hk
  .rename_i ty p T xs hb;split at hk
   .rename_i hsz;have hsz:=au hsz;subst hsz;obtain⟨hj,hk⟩:=dM hk;split at hk
    .rename_i z m hset;split at hk
     .cases hk
     .rename_i hmid;have hmid:aO m id=aa:=by simpa using hmid
      have hm:=yX 40 T _ off sz z m hset;obtain⟨j0,j1,j2⟩:=Du hj;have hne:¬((p&&xs.length==0)=M):=by simp only[ak,cO];omega
      have hne2:¬((p&&(cJ xs j z).length==0)=M):=by unfold cJ;rw[Ek];exact hne
      have hg:H.get (nm id)=Z ⟨ty,.fz (xs.flatMap (bO T))⟩:=by rw[hH,bK,hb];simp only[aD,jv,aL hne]
      have fl:=eF (bA T) xs;have hx:xs[j.toNat]? =Z (aH xs j):=by
       unfold aH;rw[ay,aw j2];rfl
      have hle:(j.toNat+1)*T.size<=xs.length*T.size:=cr _ j2;rw[iL]at hle;have hso:∀H1 H2,uf H1 H2->C7 h H1 H2 m->Vv H1 H2 A T (aH xs j) z off sz:=λH1 H2 d g=>uZ d h4 40 T _ off sz z m hset g
      have hshape:A.cs.length=sz/\off+sz<=T.size/\gh A.cs=M:=by
       have d0:uf (bB h) (bB (d9 m h)):=λi b hb=>by
        obtain⟨i',c,rfl,g1,g2⟩:=ju hb;rw[iR]at g1;by_cases ht:aO m i'=M
        .obtain⟨pp,ss,nn,g3⟩:=s6 hm ht;rw[iR]at g3;rw[g3]at g1;cases g1;cases g2
        .rw[aL ht]at g1;exact⟨b,by rw[bK,g1];simp only[aD];rw[<- Iu (b6.kill m h) (λty l e=>hinv.cells i' _ l (by rw[g1,e]))];exact g2⟩
       obtain⟨fs,q1,q2,q3,q4,q5⟩:=hso _ _ d0 (λi hi=>⟨rfl,by
        obtain⟨pp,ss,nn,g3⟩:=s6 hm hi;rw[bK,g3];rfl⟩)
       refine ⟨by rw[<- q2,<-co (f:=AV.f),q1.length],q3,?_⟩;exact qK h4 40 T _ off sz z m hset
      obtain⟨hlen,hoff,hcell⟩:=hshape;obtain⟨c',hput,I,hc2⟩:∃c',(BC.fz (xs.flatMap (bO T))).put (j.toNat*T.size+off) A.cs=Z c'/\c'.toMx=splice ((xs.flatMap (bO T)).map .f) (j.toNat*T.size+off) A.cs/\c'.isCells=M:=by
       unfold BC.put;rw[aU]
       .split
        .rename_i l ys hl hys;simp only[BC.fz.injEq]at hl;subst hl;refine ⟨_,rfl,?_,rfl⟩;rw[pC hys];simp only[BC.toMx];unfold splice;simp[pt,List.map_drop]
        .exact⟨_,rfl,rfl,rfl⟩
       .simp only[ak];exact⟨⟨rfl,bt (by simp only[BC.len];omega)⟩,hcell⟩
      have L:ef (.store sz x v) (It e h) H (nm nx)=Z ⟨raw undef,[nm id],[nm id],[(nm id,⟨ty,c'⟩)],[]⟩:=by
       simp only[ef,h1,h3,JB,hg,hlen,cN,bE,hput]
      have hrow:mE (.rows ty p T (cJ xs j z))=mE (.rows ty p T xs):=by
       unfold cJ;simp only[mE,Ek]
      refine ⟨_,_,_,_,_,hk,iz.wrt hinv hc hH L (B:=.rows ty p T (cJ xs j z)) hb hm hmid hrow (λ_ _ he=>by cases he) (λH1 H2 d g b' s=>?_) (λH1 H2 y d g hy=>?_) (λn hn=>?_)⟩
      .simp only[jv,aL hne2,af]at s;subst s;obtain⟨fs,q1,q2,q3,q4,q5⟩:=hso H1 H2 d g;have hfl:(cJ xs j z).flatMap (bO T)=AI.splice (xs.flatMap (bO T)) (j.toNat*T.size+off) fs:=PZ (bA T) xs j.toNat _ z hx off fs (by omega) q4;refine il.cells hc2 rfl ?_ λx hx=>?_
       .rw[I];simp only[BC.toMx];rw[hfl];have:(AI.splice (xs.flatMap (bO T)) (j.toNat*T.size+off) fs).map AV.f=AI.splice ((xs.flatMap (bO T)).map .f) (j.toNat*T.size+off) (fs.map .f):=by unfold AI.splice;simp[pt,List.map_drop]
        rw[this];exact (gQ.refl d _).splice _ q1
       .simp only[BC.toMx]at hx;obtain⟨q,hq,rfl⟩:=cX.1 hx;exact rc T _ q hq
      .simp only[b9,af]at hy;subst hy;exact lj.refl d _
      .simp only[aI]at hn;subst hn;rw[dQ,bw,bV.2 rfl];simp
    .cases hk
   .cases hk
  .rename_i ty l hb;split at hk
   .rename_i hsz;simp only[ak]at hsz;obtain⟨s1,s2,s3⟩:=hsz;have s1:=au s1;have s2:=au s2;have s3:=au s3;subst s1;subst s2;subst s3;obtain⟨hj,hk⟩:=dM hk;obtain⟨j0,j1,j2⟩:=Du hj;split at hk
    .rename_i cs hcs;split at hk
     .rename_i I;have I:=au I;obtain⟨h5,h6⟩:=Jg hcs h4;obtain⟨D,hl⟩:=eT h l (hinv.cells id _ l hb);have hg:H.get (nm id)=Z ⟨ty,.mx D⟩:=by rw[hH,bK,hb];simp only[aD,jv,hl]
      have hcell:=rK h5 h6;have hlen:A.cs.length=1:=by rw[gw h5];exact I
      have e0:j.toNat*1+0=j.toNat:=by omega
      rw[e0]at h1;have hput:(BC.mx D).put j.toNat A.cs=Z (.mx (splice D j.toNat A.cs)):=by
       unfold BC.put;rw[aU]
       .rfl
       .simp only[ak];exact⟨⟨rfl,bt (by simp only[BC.len];rw[hlen,gw hl];omega)⟩,hcell⟩
      have L:ef (.store 1 x v) (It e h) H (nm nx)=Z ⟨raw undef,[nm id],[nm id],[(nm id,⟨ty,.mx (splice D j.toNat A.cs)⟩)],[]⟩:=by
       simp only[ef,h1,h3,JB,hg,hlen,cN,bE,hput]
      have hspl:∀h',b6 h h'->cz h' (splice l j.toNat cs)=Z (splice D j.toNat A.cs):=λh' hr=>pA j.toNat (fR hr l D hl) (fR hr cs _ h5)
      have F:b6 h (h.set id (Z (.cells (Z ty) (splice l j.toNat cs)))):=b6.set λr hr=>by rw[bP,hb]at hr;cases hr
      have key:=iz.wrt (m:=0) (v:=.undef) (rd:=kn id) hinv hc hH L (B:=.cells (Z ty) (splice l j.toNat cs)) hb (dK.zero h) (by simp) rfl (λty' l2 he=>by cases he;exact jU _ _ _ (hspl _ F)) (λH1 H2 d g b' s=>by
       have:=hspl _ F;simp only[d9,rk,bE,jv,this,af]at s;subst s;exact il.refl d _) (λH1 H2 y d g hy=>by
       simp only[b9,af]at hy;subst hy;exact lj.refl d _) (λn hn=>by simp only[aI]at hn;subst hn;rw[dQ];exact bV.2 rfl)
      rw[xz]at key;exact⟨_,_,_,_,_,hk,key⟩
     .cases hk
    .cases hk
   .cases hk
  .cases hk
 .cases hk
theorem agv {con:FuncId->J ch} {bZ:TypeId->J Ty} {ty:TypeId} {sz bytes:Nat} {z:ξ} {l c:Operand} (hc:dk P o.op=Z (.mksl ty sz bytes z l c)) (hk:dS con bZ (.op (.mksl ty sz bytes z l c)) e h nx K=Z r):kG P o aa e h nx K r:=by
 cases hcm:CJ (bZ ty) with
 |none=>exact ad4 hinv hi hcm hc hk
 |some n=>
  obtain⟨H,I⟩:=jL h;simp only[dS,hcm]at hk;split at hk
  .rename_i zc k a k' b s hv A;obtain⟨hck,hk⟩:=dM hk;rw[ak]at hck;obtain⟨hcond,hn⟩:=hck;have hn:=ba hn;obtain⟨y,h1,h2⟩:=bI hi hv;obtain⟨y2,h3,h4⟩:=bI hi A;simp only[b9,af]at h2 h4;subst h2;subst h4;have han:aP a=n:=by rw[hn];rfl
   obtain⟨_,_,hzc⟩:=uC h s;refine ⟨_,_,_,_,_,hk,iz.new hinv hc I (y0:=.row (nm nx) sz n) (rdl:=[]) (b0:=⟨ty,.fz (repl z n)⟩) (by simp only[ef,h1,h3,gg,hcond,bE,han]) (dK.zero h) (λty' l' he=>?_) (λH1 L d g b' q=>?_) (λH1 L y d g D=>?_) (by simp)⟩
   .cases he;exact jU _ _ _ (Ly _ s n)
   .simp only[jv,Ly _ s n,af]at q;subst q;refine il.cells rfl rfl (gQ.refl d _) λx F=>?_
    exact lP (rK (Ly h s n) (Ec hzc n)) x F
   .simp only[b9,af]at D;subst D;exact lj.refl d _
  .cases hk
theorem ajy {con:FuncId->J ch} {bZ:TypeId->J Ty} {ty:TypeId} {sz len:Nat} {z:ξ} {parts:Y (Nat×Nat×Operand)} (hc:dk P o.op=Z (.bsl ty sz len z parts)) (hk:dS con bZ (.op (.bsl ty sz len z parts)) e h nx K=Z r):kG P o aa e h nx K r:=by
 cases hcm:CJ (bZ ty) with
 |none=>exact ah2 hinv hi hcm hc hk
 |some n=>
  obtain⟨H,I⟩:=jL h;simp only[dS,hcm]at hk;split at hk
  .rename_i zc A;split at hk
   .rename_i cs hf;split at hk
    .cases hk
    .rename_i hl;have hl:len≠0:=λe=>hl (by rw[e];rfl)
     obtain⟨cs',h1,h2,h3⟩:=Ca hi parts _ cs _ hf (Ly h A len);obtain⟨_,_,hzc⟩:=uC h A;have hcs:=h3 (Ec hzc len);have hr:b6 h ((d9 0 h).set nx (Z (.cells (Z ty) cs))):=(b6.kill 0 h).trans (b6.set λr hr=>by rw[bP,(hinv.kill 0).fresh]at hr;cases hr);have s:=fR hr _ _ h2;refine ⟨_,_,_,_,_,hk,iz.new hinv hc I (y0:=.row (nm nx) sz len) (rdl:=[]) (b0:=⟨ty,ox cs'⟩) (by simp only[ef,h1,aL hl]) (dK.zero h) (λty' l' he=>?_) (λH1 L d g b' q=>?_) (λH1 L y d g D=>?_) (by simp)⟩
     .cases he;exact jU _ _ _ s
     .simp only[jv,s,af]at q;subst q;obtain⟨q1,q2⟩:=nE cs';refine il.cells q2 rfl ?_ λx F=>?_
      .rw[q1];exact gQ.refl d _
      .exact lP (rK h2 hcs) x F
     .simp only[b9,af]at D;subst D;exact lj.refl d _
   .cases hk
  .cases hk
theorem ak1 {con:FuncId->J ch} {bZ:TypeId->J Ty} {ty:TypeId} {sz bytes:Nat} {s x:Operand} (hc:dk P o.op=Z (.app ty sz bytes s x)) (hk:dS con bZ (.op (.app ty sz bytes s x)) e h nx K=Z r):kG P o aa e h nx K r:=by
 cases hcm:CJ (bZ ty) with
 |none=>exact ah3 hinv hi hcm hc hk
 |some n0=>
  obtain⟨H,hH⟩:=jL h;have hfr:=hinv.fresh;simp only[dS,hcm]at hk;split at hk
  .rename_i b y hv hv2;obtain⟨yb,h1,h2⟩:=bI hi hv;obtain⟨yy,h3,h4⟩:=bI hi hv2;unfold ady at hk;split at hk
   .rename_i id2 sz2 m;simp only[b9,af]at h4;subst h4;split at hk
    .rename_i ty2 l2 z;split at hk
     .rename_i hq;simp only[ak,d_]at hq;obtain⟨⟨q1,q2⟩,q3⟩:=hq;have q1:=au q1;have q2:=au q2;have q3:m≠0:=λe=>by rw[e]at q3;cases q3
      subst q1;obtain⟨A,L⟩:=eT h l2 (hinv.cells id2 _ l2 z);have hrow:=aby hH z L q2;split at hk
      .rename_i id sz1 n;simp only[b9,af]at h2;subst h2;split at hk
       .rename_i ty1 l1 F;split at hk
        .rename_i hq;simp only[ak,d_]at hq;obtain⟨⟨⟨p1,p2⟩,p3⟩,p4⟩:=hq;have p1:=au p1;have p2:=eq_of_beq p2;have p3:=au p3;have p4:id≠id2:=λe=>by rw[e,rk]at p4;cases p4
         subst p1;subst p2;obtain⟨hroom,hk⟩:=dM hk;obtain⟨D,hl1⟩:=eT h l1 (hinv.cells id _ l1 F);have hln:=gw hl1;have hg:H.get (nm id)=Z ⟨ty1,.mx D⟩:=by rw[hH,bK,F];simp only[aD,jv,hl1]
         have hidlt:id<nx:=hinv.low id _ F;generalize hB:hX.cells (Z ty1) (l1++l2)=B at hk;have hd1:b6 h (h.set id (Z (.dead M 0 0))):=b6.set λr hr=>by rw[bP,F]at hr;cases hr
         have hd2:b6 (h.set id (Z (.dead M 0 0))) ((h.set id (Z (.dead M 0 0))).set nx (Z B)):=b6.set λr hr=>by
          rw[bP,PT.get_set,aL (by omega),hfr]at hr;cases hr
         have hr:=hd1.trans hd2;have hsp:cz ((h.set id (Z (.dead M 0 0))).set nx (Z B)) (l1++l2)=Z (D++A):=fR hr _ _ (m_ hl1 L);have I:bB ((h.set id (Z (.dead M 0 0))).set nx (Z B)) (nm nx)=Z ⟨ty1,.mx (D++A)⟩:=by rw[bK,PT.get_set,aU rfl,<-hB]at *;simp only[aD,jv,hsp]
         have hbd:bB ((h.set id (Z (.dead M 0 0))).set nx (Z B)) (nm id)=U:=by rw[bK,PT.get_set,aL (by omega),PT.get_set,aU rfl];rfl
         have hinv1:l_ (h.set id (Z (.dead M 0 0))) nx:=hinv.set hd1 hidlt (cB _) (λ_ _ he=>by cases he);have ha:ef (.app ty1 sz1 bytes s x) (It e h) H (nm nx)=Z ⟨.row (nm nx) sz1 (n+m),[nm id,nm id2],[nm nx,nm id],[(nm nx,⟨ty1,ox (D++A)⟩)],[nm nx]⟩:=by
          simp only[ef,h1,h3,hrow,hg];rw[aU (by
           simp only[cN,kI,Bool.and_true,BC.isCells,BC.len,hroom,ak,d_];refine ⟨?_,bt (by omega)⟩;simp only[VY,Bool.or_false];cases hq:ax (nm id2) (nm id) with
           |false=>rfl
           |true=>exact dP (kP (au hq)).symm p4)]
          simp only[BC.toMx,fJ (show D.length<=n*sz1 by omega)]
         refine ⟨_,_,_,_,_,hk,iz.mk' hc hH ha [nm nx,nm id] (λi hi=>hi) (λq hq=>?_) (λi hi b' hbb=>?_) (λH1 H2 d hw1 _ hw2=>⟨λi hi b b' hb z=>?_,λy hy=>?_⟩) (λq hq=>?_) (λq hq=>?_) (λq hq=>?_) hr (hinv1.set hd2 (by omega) (by omega) λty' l' he=>?_) (by omega)⟩
         .simp only[bu,cA,gE,not_or]at hq;refine km hinv hr λi ei=>?_
          subst ei;rw[PT.get_set,aL (λe=>hq.1 (by rw[e])),PT.get_set,aL (λe=>hq.2 (by rw[e]))]
         .simp only[bu,cA,gE]at hi;rcases hi with rfl|rfl
          .rw[aU (by simp)];exact⟨_,h_ _ _⟩
          .rw[hbd]at hbb;cases hbb
         .simp only[bu,cA,gE]at hi;rcases hi with rfl|rfl
          .rw[hw1 _ (by simp),h_]at hb;rw[hw2 _ (by simp),I]at z;simp only[af]at hb z;subst hb;subst z;obtain⟨m1,m2⟩:=nE (D++A);exact il.eq d m2 rfl m1
          .rw[hw2 _ (by simp),hbd]at z;cases z
         .simp only[b9,af]at hy;subst hy;exact lj.refl d _
         .simp only[bu,cA,gE]at hq;rw[bw,iO];rcases hq with rfl|rfl
          .rw[dQ];exact .inl (bV.2 rfl)
          .rw[dQ];exact .inr (bV.2 rfl)
         .simp only[bu,cA,gE]at hq;rw[bw,iO];rcases hq with rfl|rfl
          .rw[dQ];exact .inr (bV.2 rfl)
          .rw[dQ];exact .inl (bV.2 rfl)
         .simp only[aI]at hq;subst hq;rw[dQ];omega
         .rw[<- hB]at he;cases he;exact jU _ _ _ hsp
        .cases hk
       .cases hk
      .simp only[b9,af]at h2;subst h2;obtain⟨hroom,hk⟩:=dM hk;have hr:b6 h ((d9 0 h).set nx (Z (.cells (Z ty) l2))):=(b6.kill 0 h).trans (b6.set λr hr=>by rw[bP,(hinv.kill 0).fresh]at hr;cases hr);have h2':=fR hr _ _ L;refine ⟨_,_,_,_,_,hk,iz.new hinv hc hH (y0:=.row (nm nx) sz2 m) (rdl:=[nm id2]) (b0:=⟨ty,ox A⟩) (by simp only[ef,h1,h3,hrow];simp[HV,sO,hroom,q3]) (dK.zero h) (λty' l' he=>?_) (λH1 H2 d g b' I=>?_) (λH1 H2 y d g hy=>?_) (λn hn=>?_)⟩
       .cases he;exact jU _ _ _ h2'
       .simp only[jv,h2',af]at I;subst I;obtain⟨p1,p2⟩:=nE A;exact il.eq d p2 rfl p1
       .simp only[b9,af]at hy;subst hy;exact lj.refl d _
       .simp only[aI]at hn;subst hn;rw[dQ];exact bV.2 rfl
      .cases hk
     .cases hk
    .cases hk
   .cases hk
  .cases hk
theorem ajf {con:FuncId->J ch} {bZ:TypeId->J Ty} {sz:Nat} {x:Operand} {lo L mx:J Operand} (hc:dk P o.op=Z (.slc sz x lo L mx)) (hk:dS con bZ (.op (.slc sz x lo L mx)) e h nx K=Z r):kG P o aa e h nx K r:=by
 have hfr:=hinv.fresh;simp only[dS]at hk;split at hk
 .rename_i v hv;obtain⟨y,h1,h2⟩:=bI hi hv;split at hk
  .split at hk
   .rename_i hn;obtain⟨n,hn⟩:=iI.1 hn;have h3:=O4 hn h2;exact kG.q (k:=0) hinv hc (λH _=>by simp only[ef,h1,h3,Option.isSome_some,bE]) (dc rfl) hk
   .cases hk
  .rename_i b;split at hk
   .rename_i T xs k j hb;obtain⟨y2,h3,h4⟩:=bI hi hb;simp only[b9,af]at h2 h4;subst h2;subst h4;split at hk
    .rename_i hs;have hs:=au hs;subst hs;obtain⟨hj,hk⟩:=dM hk;have hfl:=eF (bA T) xs;have hcond:(cL 0 j&&cL j (ah xs)&&dN (ah xs*T.size) (xs.flatMap (bO T)).length)=M:=by
      rw[hj,kI];exact bt (by omega)
     simp only[cL,ak,bz]at hj;have hlen:(xs.take j.toNat).length=j.toNat:=by rw[b_];omega
     exact kG.q (k:=0) (y0:=.f (.sl ((xs.flatMap (bO T)).take (j.toNat*T.size)) j.toNat)) hinv hc (λH _=>by simp only[ef,h1,h3,gg,hcond,bE]) (dc (by simp only[b9,gg];rw[vz (bA T),hlen])) hk
    .cases hk
   .rename_i id k j hb;obtain⟨y2,h3,h4⟩:=bI hi hb;simp only[b9,af]at h4;subst h4;split at hk
    .rename_i ty p T xs s;split at hk
     .rename_i hs;have hs:=au hs;subst hs;obtain⟨hj,hk⟩:=dM hk;obtain⟨H,hH⟩:=jL h;have hj0:=hj;simp only[cL,fI,ak,bz]at hj;have hp:¬((p&&xs.length==0)=M):=by
       simp only[ak,cO];omega
      simp only[b9,bP,s,aD,mE,eZ,aL hp,af]at h2;subst h2;have hidlt:=hinv.low id _ s;have hne:nx≠id:=by omega
      have hg:H.get (nm id)=Z ⟨ty,.fz (xs.flatMap (bO T))⟩:=by rw[hH,bK,s];simp only[aD,jv,aL hp]
      have fl:=eF (bA T) xs;have hcond:(T.size==T.size&&cL 0 j&&cL j (ah xs))=M:=by
       simp only[cL,ak,bz,cN,As];omega
      have hlen:(xs.take j.toNat).length=j.toNat:=by rw[b_];omega
      have ha0:ef (.slc T.size x U (Z b) U) (It e h) H (nm nx)=Z ⟨.row (nm nx) T.size j.toNat,[nm id],[nm nx,nm id],[(nm nx,⟨ty,.fz ((xs.take j.toNat).flatMap (bO T))⟩)],[nm nx]⟩:=by
       have hc2:((BC.fz (xs.flatMap (bO T))).isCells&&dN (ah xs*T.size) (BC.fz (xs.flatMap (bO T))).len)=M:=by
        simp only[BC.isCells,kI,BC.len];exact bt (by omega)
       simp only[ef,h1,h3,gg,hcond,bE,hg,hc2,BC.toMx,<-pt,xW,vz (bA T)]
      generalize hh':(h.set id (Z (.dead p T.size (ah xs)))).set nx (Z (.rows ty aa T (dh j.toNat xs)))=h' at hk;have hrA:b6 h (h.set id (Z (.dead p T.size (ah xs)))):=b6.set λr hr=>by rw[bP,s]at hr;exact hr
      have z:∀i,h'.get i=if i=nx then Z (.rows ty aa T (dh j.toNat xs)) else if i=id then Z (.dead p T.size (ah xs)) else h.get i:=λi=>by rw[<- hh',PT.get_set,PT.get_set]
      have hr:b6 h h':=by
       rw[<- hh'];refine hrA.trans (b6.set λr hr=>?_);rw[bP,PT.get_set,aL hne,hfr]at hr;cases hr
      have hinv':l_ h' (nx+1):=by
       refine ⟨λi ty l hil=>?_,λi c hic=>?_⟩
       .rw[z]at hil;split at hil
        .cases hil
        .split at hil
         .cases hil
         .exact iP hr l (hinv.cells i _ l hil)
       .rw[z]at hic;split at hic
        .omega
        .split at hic
         .omega
         .have:=hinv.low i c hic;omega
      have hsame:∀n,n≠nm nx->n≠nm id->bB h' n=bB h n:=λn h1 h2=>km hinv hr λi e=>by
       subst e;rw[z,aL (λe=>h1 (by rw[e])),aL (λe=>h2 (by rw[e]))]
      have hdead:bB h' (nm id)=U:=by rw[bK,z,aL (by omega),aU rfl];rfl
      have hnew:bB h' (nm nx)=Z ⟨ty,.fz ((xs.take j.toNat).flatMap (bO T))⟩:=by rw[bK,z,aU rfl];rfl
      have hval:b9 h' (.row nx)=Z (.row (nm nx) T.size j.toNat):=by simp only[b9,bP,z,bE,aD,mE,eZ,jS,bG,dq,hlen]
      refine ⟨_,_,_,_,_,hk,?_⟩;refine iz.mk' hc hH ha0 [nm nx,nm id] (λi hi=>hi) (λn hn=>?_) (λi hi b' D=>?_) (λH1 H2 d hw1 _ I=>⟨λi hi b b' F A=>?_,λy hy=>?_⟩) (λn hn=>?_) (λn hn=>?_) (λn hn=>by simp only[aI]at hn;subst hn;rw[dQ];omega) hr hinv' (by omega)
      .simp only[bu,cA,gE,not_or]at hn;exact hsame n hn.1 hn.2
      .simp only[bu,cA,gE]at hi;rcases hi with rfl|rfl
       .exact⟨_,by rw[aU (by simp)];exact h_ _ _⟩
       .rw[hdead]at D;cases D
      .simp only[bu,cA,gE]at hi;rcases hi with rfl|rfl
       .rw[hw1 _ (by simp),h_]at F;rw[I _ (by simp),hnew]at A;simp only[af]at F A;subst F;subst A;exact il.refl d _
       .rw[I _ (by simp),hdead]at A;cases A
      .rw[hval]at hy;simp only[af]at hy;subst hy;exact lj.refl d _
      .simp only[aI]at hn;subst hn;rw[dQ];exact bV.2 rfl
      .simp only[bu,cA,gE]at hn;rcases hn with rfl|rfl<;>rw[dQ,bw,bV.2 rfl]<;>simp
     .cases hk
    .cases hk
   .cases hk
  .rename_i b;split at hk
   .rename_i T xs k j hb;obtain⟨y2,h3,h4⟩:=bI hi hb;simp only[b9,af]at h2 h4;subst h2;subst h4;split at hk
    .rename_i hs;have hs:=au hs;subst hs;obtain⟨hj,hk⟩:=dM hk;have hfl:=eF (bA T) xs;have hcond:(cL 0 j&&cL j (ah xs)&&dN (ah xs*T.size) (xs.flatMap (bO T)).length)=M:=by
      rw[hj,kI];exact bt (by omega)
     simp only[cL,ak,bz]at hj;have hlen:(xs.drop j.toNat).length=ah xs-j.toNat:=by rw[kC]
     have htk:((xs.flatMap (bO T)).drop (j.toNat*T.size)).take ((ah xs-j.toNat)*T.size)=(xs.flatMap (bO T)).drop (j.toNat*T.size):=by
      refine fJ ?_;rw[kC,hfl,Nat.sub_mul];exact cB _
     exact kG.q (k:=0) (y0:=.f (.sl ((xs.flatMap (bO T)).drop (j.toNat*T.size)) (ah xs-j.toNat))) hinv hc (λH _=>by simp only[ef,h1,h3,gg,hcond,bE,htk]) (dc (by simp only[b9,gg];rw[Ip (bA T),hlen])) hk
    .cases hk
   .rename_i id k j hb;obtain⟨y2,h3,h4⟩:=bI hi hb;simp only[b9,af]at h4;subst h4;split at hk
    .rename_i ty p T xs s;split at hk
     .rename_i hs;have hs:=au hs;subst hs;obtain⟨hj,hk⟩:=dM hk;have hcond:(T.size==T.size&&cL 0 j&&fI j (ah xs))=M:=by
       simp only[ak]at hj;rw[hj.1,hj.2,cN];rfl
      simp only[cL,fI,ak,bz]at hj;have hp:¬((p&&xs.length==0)=M):=by
       simp only[ak,cO];omega
      simp only[b9,bP,s,aD,mE,eZ,aL hp,af]at h2;subst h2;exact kG.q (k:=0) (y0:=.sl (nm id) (j.toNat*T.size) (ah xs-j.toNat)) hinv hc (λH _=>by simp only[ef,h1,h3,gg,hcond,bE]) (dc (by simp only[b9,bP,s,aD,mE])) hk
     .cases hk
    .cases hk
   .cases hk
  .rename_i b b' hne;split at hk
   .rename_i T xs k j k' j' hb D;obtain⟨y2,h3,h4⟩:=bI hi hb;obtain⟨y3,h5,h6⟩:=bI hi D;simp only[b9,af]at h2 h4 h6;subst h2;subst h4;subst h6;split at hk
    .rename_i hs;have hs:=au hs;subst hs;obtain⟨hj,hk⟩:=dM hk;have hfl:=eF (bA T) xs;have hcond:(decide (j=j')&&cL 0 j&&cL j (ah xs)&&dN (ah xs*T.size) (xs.flatMap (bO T)).length)=M:=by
      rw[hj,kI];exact bt (by omega)
     simp only[cL,ak,bz]at hj;have hlen:(xs.take j.toNat).length=j.toNat:=by rw[b_];omega
     refine kG.q (k:=0) (y0:=.ful ((xs.flatMap (bO T)).take (j.toNat*T.size)) j.toNat) hinv hc (λH _=>?_) (dc (by simp only[b9];rw[vz (bA T),hlen])) hk;simp only[ef,h1,h3,h5,gg,hcond,bE]
    .cases hk
   .cases hk
  .cases hk
 .cases hk
theorem ajx {con:FuncId->J ch} {bZ:TypeId->J Ty} {sz:Nat} {z:ξ} {x:Operand} (hc:dk P o.op=Z (.clr sz z x)) (hk:dS con bZ (.op (.clr sz z x)) e h nx K=Z r):kG P o aa e h nx K r:=by
 obtain⟨H,hH⟩:=jL h;simp only[dS]at hk;split at hk
 .rename_i id j hv;split at hk
  .rename_i ty p T xs hb;split at hk
   .rename_i hs;simp only[ak]at hs;obtain⟨⟨hs,A⟩,hco⟩:=hs;have hs:=au hs;have A:=Jx A;subst hs;subst A;obtain⟨hj,hk⟩:=dM hk;simp only[cL,fI,ak,bz]at hj;obtain⟨j0,j1⟩:=hj;obtain⟨y,h1,h2⟩:=bI hi hv;simp only[b9,bP,hb,aD,mE,af]at h2;subst h2;have hp:¬((p&&xs.length==0)=M):=by
     simp only[ak,cO];omega
    have fl:=eF (bA T) xs;have hg:H.get (nm id)=Z ⟨ty,.fz (xs.flatMap (bO T))⟩:=by rw[hH,bK,hb];simp only[aD,jv,aL hp]
    have hrl:(repl (su T) (xs.length-j.toNat)).length=(xs.length-j.toNat)*T.size:=by
     have h9:=(GF (H:=λ_=>U) (H':=λ_=>U) (λn b hb=>by cases hb) T (xs.length-j.toNat)).length;rw[co,co,eF (bA T),cK]at h9;exact h9.symm
    have hoff:j.toNat*T.size+(xs.length-j.toNat)*T.size=xs.length*T.size:=by rw[<- MD];congr 1;omega
    have hput:(BC.fz (xs.flatMap (bO T))).put (j.toNat*T.size) ((repl (su T) (xs.length-j.toNat)).map .f)=Z (.fz (splice (xs.flatMap (bO T)) (j.toNat*T.size) (repl (su T) (xs.length-j.toNat)))):=by
     unfold BC.put;rw[aU]
     .simp only[JG]
     .simp only[ak];refine ⟨⟨rfl,bt ?_⟩,Ft _ λq hq=>?_⟩
      .simp only[BC.len,co];omega
      .obtain⟨v,hv,rfl⟩:=OQ _ q hq;exact gj.1 hco v hv
    have hblt:eP 0 (xs.length-j.toNat)=M:=bt (by omega);have I:ef (.clr T.size (su T) x) (It e h) H (nm nx)=Z ⟨.tup [],[nm id],[nm id],[(nm id,⟨ty,.fz (splice (xs.flatMap (bO T)) (j.toNat*T.size) (repl (su T) (xs.length-j.toNat)))⟩)],[]⟩:=by
     simp only[ef,h1,hg,hblt,bE,hput]
    have hlen:(dh j.toNat xs++aA (ah xs-j.toNat) T.zero).length=xs.length:=by
     rw[bY,b_,cK];omega
    have hrow:mE (.rows ty p T (dh j.toNat xs++aA (ah xs-j.toNat) T.zero))=mE (.rows ty p T xs):=by simp only[mE,hlen]
    refine ⟨_,_,_,_,_,hk,iz.wrt (m:=0) (v:=.tup []) (rd:=kn id) hinv hc hH I hb (dK.zero h) (by simp) hrow (λ_ _ he=>by cases he) (λH1 H2 d g b' s=>?_) (λH1 H2 y d g L=>?_) (λn hn=>?_)⟩
    .have F:¬((p&&(dh j.toNat xs++aA (ah xs-j.toNat) T.zero).length==0)=M):=by rw[hlen];exact hp
     simp only[jv,aL F,af]at s;subst s;refine il.cells rfl rfl ?_ λq hq=>?_
     .simp only[BC.toMx];unfold splice;rw[hrl,hoff,<-fl,List.drop_length,n_,FA,vz (bA T),c7,c7];exact (gQ.refl d _).append (GF d T _)
     .simp only[BC.toMx]at hq;obtain⟨q',D,rfl⟩:=cX.1 hq;exact rc T _ q' D
    .simp only[b9,cz,af]at L;subst L;exact lj.refl d _
    .simp only[aI]at hn;subst hn;rw[dQ];exact bV.2 rfl
   .cases hk
  .cases hk
 .cases hk
end ops
theorem M0 {K V:Ty} {es:Y (K.den×V.den)} (d:mpE K V es=M):es.map (λp=>(pz K p.1,AV.f (gg V p.2)))=[]:=by
 unfold mpE at d;split at d
 .rfl
 .cases d
theorem Yu {K V:Ty} {es:Y (K.den×V.den)} (d:mpE K V es=M):Sn K=M:=by
 unfold mpE at d;split at d
 .rfl
 .cases d
theorem UV {str:Bool} {K:Ty} (d:V0 str K=M):Sn K=M:=by
 cases K<;>cases str<;>first|rfl|cases d
theorem M2 {str:Bool} {K:Ty} (d:V0 str K=M) (k k':K.den):sR .eql (pz K k) (pz K k')=Z (.bool (L2 K k k'))/\x_ str (pz K k)=M/\gg K k= .raw (pz K k):=by
 cases K<;>cases str<;>first|cases d|skip
 .exact⟨by simp only[sR,pz,L2,cN,bE,af,Bh];exact Bool.beq_eq_decide_eq _ _,rfl,rfl⟩
 .exact⟨by simp only[sR,pz,L2,CQ],rfl,rfl⟩
theorem O3 {str:Bool} {K V:Ty} (d:V0 str K=M) (k:K.den):∀es:Y (K.den×V.den),sM (pz K k) (es.map λp=>(pz K p.1,AV.f (gg V p.2)))=Z ((oy k es).map λv=>AV.f (gg V v))
 |[]=>rfl
 |(k',v)::r=>by
  simp only[eW,sM,(M2 d k k').1,oy];cases hb:L2 K k k' with
  |true=>rfl
  |false=>simp only[bG,dq];exact O3 d k r
theorem US {str:Bool} {K V:Ty} (d:V0 str K=M) (k:K.den) (v:V.den):∀es:Y (K.den×V.den),xX (pz K k) (.f (gg V v)) (es.map λp=>(pz K p.1,AV.f (gg V p.2)))=Z ((xT k v es).map λp=>(pz K p.1,AV.f (gg V p.2)))
 |[]=>rfl
 |(k',q)::r=>by
  simp only[eW,xX,(M2 d k k').1,xT];cases hb:L2 K k k' with
  |true=>rfl
  |false=>simp only[US d k v r,bG,dq,eW]
theorem adr {h:bl} {ok b:Bool} {v:TV} {y:AV} (hv:b9 h v=Z y):b9 h (pkT ok v (.f .bool b))=Z (pkV ok y b):=by
 cases ok with
 |false=>exact hv
 |true=>simp only[pkT,pkV,b9,cz,hv];rfl
section ops
variable {R:Type} {P:Program} {o:Oper} {e:iJ} {h:bl} {nx:Nat} {K:KO R} {r:R}
theorem Le.aggOf {l:Y FV} (hc:∀x∈l,x.isCell=M):Le (.agg (l.map .f)) (.f (.agg l)):=by
 intro φ O w v hr;cases hr with
 |@agg _ vs hl hcl hrr=>
  refine .f (.agg l vs (by simpa using hl) hc λj y u d hu=>?_);have:=hrr j (.f y) u (by rw[bf,d];rfl) hu;cases this with
  |f h=>exact h
def OX (S:Ty) (l:Y TV):J (S.den×Nat×Y TV):=match l with
 |c::r=>(match g_ PT.leaf S c with|some (x,m)=>Z (x,m,r)|none=>U)
 |[]=>U
theorem LK:∀{l d:Y FV},l.map AV.f=d.map AV.f->l=d
 |[],[],_=>rfl
 |[],_::_,h=>by simp at h
 |_::_,[],h=>by simp at h
 |x::r,y::r',h=>by
  simp only[eW,iN,AV.f.injEq]at h;rw[h.1,LK h.2]
theorem Ho (h:bl):∀(ds:Y TypeDesc) (T:Ty),qF ds=Z T->∀(n:Nat) (l:Y TV) (x:T.den) (m:Nat) (r:Y TV),eK PT.leaf n T l=Z (x,m,r)->∀A,cz h l=Z A->∃l2,cz h r=Z l2/\A=(bO T x).map .f++l2
 |[],T,hd,n,l,x,m,r,hp,A,hl=>by
  simp only[qF,af]at hd;subst hd;cases n with
  |zero=>simp[eK]at hp
  |succ n=>
   simp only[eK,af,aC]at hp;obtain⟨_,_,rfl⟩:=hp;exact⟨A,hl,rfl⟩
 |d::ds,T,hd,n,l,x,m,r,hp,A,hl=>by
  have plain:∀(S:Ty),S.one=M->(∀t,S≠ .sl t)->∀(v:TV) (a:S.den) (m:Nat) (y:AV),g_ PT.leaf S v=Z (a,m)->b9 h v=Z y->y= .f (gg S a):=by
   intro S F hns v a m y s hy;cases v with
   |f Q q=>
    simp only[g_]at s;split at s
    .rename_i z hz;simp only[af,aC]at s;obtain⟨rfl,_⟩:=s;obtain⟨e,rfl⟩:=gL hz;subst e;simp only[b9,af]at hy;exact hy.symm
    .cases s
   |emp=>
    cases S with
    |sl t=>exact dP rfl (hns t)
    |_=>simp[g_]at s
   |nil=>
    cases S with
    |sl t=>exact dP rfl (hns t)
    |_=>simp[g_]at s
   |row id=>simp[g_,PT.get]at s
   |fel T xs j hj off=>simp[g_]at s
   |pel id sz j off=>simp[g_]at s
   |ptr id off=>simp[g_]at s
   |csl id off z=>simp[g_]at s
   |mp id=>simp[g_]at s
   |rtl id jj=>simp[g_]at s
   |agg q=>simp[g_]at s
   |tup q=>simp[g_]at s
   |clo f q=>simp[g_]at s
   |undef=>simp[g_]at s
   |np=>simp[g_]at s
   |anyb=>simp[g_]at s
   |ful S q=>simp[g_]at s
  have one:∀(S:Ty),S.one=M->(∀t,S≠ .sl t)->∀(n:Nat) (l:Y TV) (a:S.den) (m:Nat) (r:Y TV),eK PT.leaf n S l=Z (a,m,r)->∀A,cz h l=Z A->∃l2,cz h r=Z l2/\A=(bO S a).map .f++l2:=by
   intro S F hns n l a m r hp A hl;cases n with
   |zero=>simp[eK]at hp
   |succ n=>
    cases l with
    |nil=>
     cases S with
     |int k=>cases hp
     |bool=>cases hp
     |str=>cases hp
     |sl t=>exact dP rfl (hns t)
     |_=>cases F
    |cons c q=>
     have hpp:OX S (c::q)=Z (a,m,r):=by
      cases S with
      |int k=>simp only[eK]at hp;simp only[OX];cases hq:g_ PT.leaf (.int k) c with
       |none=>rw[hq]at hp;cases hp
       |some z=>rw[hq]at hp;exact hp
      |bool=>simp only[eK]at hp;simp only[OX];cases hq:g_ PT.leaf .bool c with
       |none=>rw[hq]at hp;cases hp
       |some z=>rw[hq]at hp;exact hp
      |str=>simp only[eK]at hp;simp only[OX];cases hq:g_ PT.leaf .str c with
       |none=>rw[hq]at hp;cases hp
       |some z=>rw[hq]at hp;exact hp
      |sl t=>exact dP rfl (hns t)
      |_=>cases F
     simp only[OX]at hpp;split at hpp
     .rename_i a1 m1 h1;simp only[af,aC]at hpp;obtain⟨rfl,rfl,rfl⟩:=hpp;obtain⟨y,l2,rfl,L,I⟩:=cU hl;have:=plain S F hns c a1 m1 y h1 L;subst this;exact⟨l2,I,by rw[(Cf S a1 F).1];rfl⟩
     .cases hpp
  have two:∀(S g:Ty),S.one=M->(∀t,S≠ .sl t)->qF ds=Z g->T= .pr S g->∃l2,cz h r=Z l2/\A=(bO T x).map .f++l2:=by
   intro S g F hns D e;subst e;cases n with
   |zero=>simp[eK]at hp
   |succ n=>
    simp only[eK]at hp;split at hp
    .rename_i x1 m1 r1 h1;split at hp
     .rename_i x2 m2 r2 h2;simp only[af,aC]at hp;obtain⟨rfl,rfl,rfl⟩:=hp;obtain⟨l2,L,I⟩:=one S F hns n l x1 m1 r1 h1 A hl;obtain⟨l3,g3,g4⟩:=Ho h ds g D n r1 x2 m2 r2 h2 l2 L;exact⟨l3,g3,by rw[I,g4,bO,c7,ir]⟩
     .cases hp
    .cases hp
  cases d with
  |int k=>
   simp only[qF]at hd;split at hd
   .rename_i g D;simp only[af]at hd;exact two (.int k) g rfl (λt h=>by cases h) D hd.symm
   .cases hd
  |bool=>
   simp only[qF]at hd;split at hd
   .rename_i g D;simp only[af]at hd;exact two .bool g rfl (λt h=>by cases h) D hd.symm
   .cases hd
  |string=>
   simp only[qF]at hd;split at hd
   .rename_i g D;simp only[af]at hd;exact two .str g rfl (λt h=>by cases h) D hd.symm
   .cases hd
  |_=>simp[qF]at hd
theorem Cd:∀(ds:Y TypeDesc) (T:Ty),qF ds=Z T->∀a b:T.den,oV ds (bO T a) (bO T b)=Z (L2 T a b)
 |[],T,hd,a,b=>by simp only[qF,af]at hd;subst hd;rfl
 |d::ds,T,hd,a,b=>by
  cases d with
  |int k=>
   simp only[qF]at hd;split at hd
   .rename_i g z;simp only[af]at hd;subst hd;have s:=Cd ds g z a.2 b.2;simp only[bO,gX,n7,oV,wE,cN,bE,L2];cases he:((a.1:Int)==b.1) with
    |true=>have q:(a.1:Int)=b.1:=by simpa using he
           simp only[s,q,dH,kI]
    |false=>have q:¬(a.1:Int)=b.1:=by simpa using he
            simp only[q,cZ,jS]
   .cases hd
  |bool=>
   simp only[qF]at hd;split at hd
   .rename_i g z;simp only[af]at hd;subst hd;have s:=Cd ds g z a.2 b.2;simp only[bO,gX,n7,oV,wE,L2];cases he:((a.1:Bool)==b.1)<;>simp[he,s]
   .cases hd
  |string=>
   simp only[qF]at hd;split at hd
   .rename_i g z;simp only[af]at hd;subst hd;have s:=Cd ds g z a.2 b.2;simp only[bO,gX,n7,oV,wE,L2,CQ];cases he:decide ((a.1:ζ)=b.1) with
    |true=>simp only[s,kI]
    |false=>simp only[jS]
   .cases hd
  |_=>simp[qF]at hd
theorem Mr {u:TV} (hu:u.isC=aa) {lu:Y TV} (hl:u.cs=Z lu) {ds:Y TypeDesc} {T:Ty} (hd:qF ds=Z T) {a:T.den} {m:Nat} (hp:eK PT.leaf 40 T lu=Z (a,m,[])) {y:AV} (d:b9 h u=Z y):Le y (.f (.agg (bO T a))):=by
 obtain⟨h1,_⟩:=Jg hl d;obtain⟨l2,h2,h3⟩:=Ho h ds T hd 40 lu a m [] hp _ h1;simp only[cz,af]at h2;subst h2;rw[n_]at h3;cases u with
 |agg l=>
  simp only[b9]at d;split at d
  .rename_i s _;simp only[af]at d;subst d;have:s=(bO T a).map .f:=h3;rw[this];exact Le.aggOf (nN T a)
  .cases d
 |f S x=>
  simp only[b9,af]at d;subst d;have A:S.one=aa:=hu;rw[zn]at h3;have:bO S x=bO T a:=LK h3;rw[qj S x A,this];exact Le.refl _
 |tup l=>simp[TV.cs,TV.isC]at hl
 |undef=>simp[TV.cs,TV.isC]at hl
 |np=>cases hu
 |anyb=>simp[TV.cs,TV.isC]at hl
 |ful S q=>simp[TV.cs,TV.isC]at hl
 |fel T xs j hj off=>cases hu
 |pel id sz j off=>cases hu
 |ptr id off=>cases hu
 |csl id off z=>cases hu
 |row id=>cases hu
 |emp=>cases hu
 |nil=>cases hu
 |mp id=>cases hu
 |rtl id D=>cases hl
 |clo g l=>cases hu
variable (hinv:l_ h nx) (hi:sU e h)
include hinv hi
theorem ajv {con:FuncId->J ch} {bZ:TypeId->J Ty} {neg:Bool} {ds:Y TypeDesc} {x y:Operand} {st:Bool} (hc:dk P o.op=Z (.eqs neg ds x y)) (hk:dS con bZ (.op (.eqs neg ds x y)) e h nx K=Z r):kG P o st e h nx K r:=by
 obtain⟨H,hH⟩:=jL h;simp only[dS]at hk;split at hk
 .rename_i T u v hd hu hv;split at hk
  .cases hk
  .rename_i hcc;simp only[iO,not_or,Bool.not_eq_true]at hcc;split at hk
   .rename_i lu lv hlu hlv;split at hk
    .rename_i a m1 b m2 hpa hpb;obtain⟨yu,h1,h2⟩:=bI hi hu;obtain⟨yv,h3,h4⟩:=bI hi hv;obtain⟨⟨⟨F,D⟩,hc3⟩,L⟩:=hcc;have l1:=Mr F hlu hd hpa h2;have l2:=Mr D hlv hd hpb h4;have tmp:∀(z:Operand) (q:TV),e9 e z=Z q->q.isC=aa->Sv z=aa->∃t,z= .tmp t:=by
      intro z q d hq hg;cases z with
      |tmp t=>exact⟨t,rfl⟩
      |const c=>
       have d:cst c=Z q:=by
        simp only[e9,af2]at d;split at d
        .cases hg
        .exact d
       have:=(Je h d).2.2;rw[hq]at this;cases this
      |func g=>simp only[e9,af]at d;subst d;cases hq
      |global g=>
       simp only[e9]at d;split at d
       .cases d;cases hq
       .cases d
     obtain⟨t,rfl⟩:=tmp x u hu F hc3;obtain⟨t',rfl⟩:=tmp y v hv D L;have same:t=t'->bO T a=bO T b:=by
      intro ht;subst ht;rw[hu]at hv;cases hv;rw[hlu]at hlv;cases hlv;rw[hpa]at hpb;cases hpb;rfl
     let A:yO:=((It e h).set t (Z (.f (.agg (bO T a))))).set t' (Z (.f (.agg (bO T b))))
     have e1:mA A (.tmp t)=Z (.f (.agg (bO T a))):=by
      simp only[mA,A,PT.get_set];by_cases ht:t=t'
      .rw[aU ht,same ht]
      .rw[aL ht];simp
     have e2:mA A (.tmp t')=Z (.f (.agg (bO T b))):=by simp only[mA,A,PT.get_set,bE]
     have ha:ef (.eqs neg ds (.tmp t) (.tmp t')) A H 0=Z ⟨raw (.bool (L2 T a b !=neg)),[],[],[],[]⟩:=by
      simp only[ef,e1,e2,Cd ds T hd a b];rfl
     have ht:=Hq hc ha;rw[hH]at ht;have I:gy P o (fh e h) (bB h) _:=ht.envLe (e2:=fh e h) λs z _ d=>by
      simp only[A,PT.get_set]at d;rw[<- uy];simp only[mA]at h1 h3;split at d
      .rename_i es;subst es;cases d;exact⟨yv,h3,l2⟩
      .split at d
       .rename_i es;subst es;cases d;exact⟨yu,h1,l1⟩
       .exact⟨z,d,Le.refl _⟩
     refine ⟨_,0,0,h,nx,hk,⟨⟨_,I,λy hy=>?_,by simp[zN.eff,s8],by simp[zN.eff],by simp[zN.eff],by simp[zN.eff]⟩,λ_ _ h=>h,hinv,cB _,λ_=>⟨rfl,rfl⟩⟩⟩;simp only[b9,af]at hy;exact hy
    .cases hk
   .cases hk
 .cases hk
theorem ajk {con:FuncId->J ch} {bZ:TypeId->J Ty} (hc:dk P o.op=Z .mkm) (hk:dS con bZ (.op .mkm) e h nx K=Z r):kG P o aa e h nx K r:=by
 have _:=hi;obtain⟨H,z⟩:=jL h;refine ⟨_,_,_,_,_,hk,iz.new hinv hc z (y0:=.mp (nm nx)) (rdl:=[]) (b0:=⟨0,.mp []⟩) rfl (dK.zero h) (λ_ _ he=>by cases he) (λD A d g b' q=>?_) (λD A y d g s=>?_) (by simp)⟩
 .cases q;exact il.refl d _
 .simp only[b9,af]at s;subst s;exact lj.refl d _
theorem agy {con:FuncId->J ch} {bZ:TypeId->J Ty} {x:Operand} (hc:dk P o.op=Z (.lenm x)) (hk:dS con bZ (.op (.lenm x)) e h nx K=Z r):kG P o aa e h nx K r:=by
 obtain⟨H,q⟩:=jL h;simp only[dS]at hk;split at hk
 .rename_i id hv;split at hk
  .rename_i K' V es hb;obtain⟨y,h1,h2⟩:=bI hi hv;simp only[b9,af]at h2;subst h2;split at hk
   case isFalse=>cases hk
   rename_i hO;have hg:H.get (nm id)=Z ⟨0,.mp (es.map λp=>(pz K' p.1,.f (gg V p.2)))⟩:=by rw[q,bK,hb];show Z (uT.mk 0 (Yv K' V es))=_;rw[xU hO]
   exact⟨_,_,_,_,_,hk,iz.pure (k:=0) hinv hc q (y0:=raw (.int .i64 es.length)) (rdl:=[nm id]) (by simp only[ef,h1,hg,co]) (λy d=>by simp only[b9,af]at d;subst d;exact Le.refl _) (λn hn=>by simp only[aI]at hn;subst hn;rw[dQ];exact bV.2 rfl) (λh=>by cases h)⟩
  .cases hk
 .cases hk
theorem ajo {con:FuncId->J ch} {bZ:TypeId->J Ty} {str ok:Bool} {z:Value} {x k:Operand} (hc:dk P o.op=Z (.lku str ok z x k)) (hk:dS con bZ (.op (.lku str ok z x k)) e h nx K=Z r):kG P o aa e h nx K r:=by
 obtain⟨H,F⟩:=jL h;simp only[dS]at hk;split at hk
 .rename_i id KT s hv D;split at hk
  .rename_i K' V es hb;split at hk
   .rename_i d;obtain⟨y,h1,h2⟩:=bI hi hv;obtain⟨y2,h3,h4⟩:=bI hi D;simp only[b9,af]at h2 h4;subst h2;subst h4;simp only[ak]at d;have hg:H.get (nm id)=Z ⟨0,.mp (es.map λp=>(pz K' p.1,.f (gg V p.2)))⟩:=by rw[F,bK,hb];show Z (uT.mk 0 (Yv K' V es))=_;rw[xU d.2]
    obtain⟨_,hok,henc⟩:=M2 d.1 s s;rw[henc]at h3;have hrd:∀n∈[nm id],aO (kn id) (ow n)=M:=λn hn=>by simp only[aI]at hn;subst hn;rw[dQ];exact bV.2 rfl
    split at hk
    .rename_i hE;split at hk
     .rename_i v I;have hzz:=(Je h I).1;exact⟨_,_,_,_,_,hk,iz.pure (k:=0) hinv hc F (y0:=pkV ok (raw z) aa) (rdl:=[nm id]) (by simp only[ef,h1,h3,hg,hok,bE,M0 hE,sM]) (λy A=>by rw[adr hzz]at A;cases A;exact Le.refl _) hrd (λh=>by cases h)⟩
     .cases hk
    .split at hk
     .rename_i kv' g zv hkv I;split at hk
      .rename_i zv' hzv;obtain⟨e1,e2⟩:=gL hkv;cases e1;subst e2;obtain⟨e3,e4⟩:=gL hzv;cases e3;subst e4;have hzz:=(Je h I).1;simp only[b9,af]at hzz;refine ⟨_,_,_,_,_,hk,iz.pure (k:=0) hinv hc F (y0:=pkV ok (.f (gg _ (sw kv' es zv'))) (aer kv' es)) (rdl:=[nm id]) ?_ (λy A=>by rw[adr (y:=.f (gg _ (sw kv' es zv'))) rfl]at A;cases A;exact Le.refl _) hrd (λh=>by cases h)⟩;simp only[ef,h1,h3,hg,hok,bE,O3 d.1];unfold sw aer;cases hf:oy kv' es with
       |none=>simp only[Option.map_none];rw[hzz]
       |some v=>rfl
      .cases hk
     .cases hk
   .cases hk
  .rename_i l hb;split at hk
   .rename_i n hkv;split at hk
    case isFalse=>cases hk
    rename_i d;simp only[ak]at d;split at hk
    .rename_i v hlv;obtain⟨e1,e2⟩:=gL hkv;cases e1
     replace e2:n=s:=e2
     subst n;obtain⟨y,h1,h2⟩:=bI hi hv;obtain⟨y2,h3,h4⟩:=bI hi D;simp only[b9,af]at h2 h4;subst h2;subst h4;obtain⟨L,hl⟩:=eT h l (hinv.cells id _ l hb);obtain⟨y,A,hey⟩:=kY hl _ _ hlv;have hg:H.get (nm id)=Z ⟨1,.mp (oz 0 L)⟩:=by rw[F,bK,hb];simp only[aD,jv,hl]
     have ht:told s (oz 0 L)=Z y:=by
      have h0:(0:Int)<=s:=ba d.2.1;have hn:(s:Int)=aT (0+aP s):=by rw[bL];exact (pL h0).symm
      rw[hn,LM];exact A
     have henc:gg (.int .i64) s= .raw (.int .i64 s):=rfl;rw[henc]at h3;exact⟨_,_,_,_,_,hk,iz.pure (k:=0) hinv hc F (y0:=y) (rdl:=[nm id]) (by simp only[ef,h1,h3,hg,d.1.1,d.1.2.1,d.1.2.2,jx,bE,ht]) (λq hq=>by rw[hey]at hq;cases hq;exact Le.refl _) (λn hn=>by simp only[aI]at hn;subst hn;rw[dQ];exact bV.2 rfl) (λh=>by cases h)⟩
    .cases hk
   .cases hk
  .cases hk
 .cases hk
theorem ajj {con:FuncId->J ch} {bZ:TypeId->J Ty} {str:Bool} {x k v:Operand} (hc:dk P o.op=Z (.mup str x k v)) (hk:dS con bZ (.op (.mup str x k v)) e h nx K=Z r):kG P o aa e h nx K r:=by
 obtain⟨H,hH⟩:=jL h;simp only[dS]at hk;split at hk
 .rename_i id KT q VT vv hv F D;split at hk
  .rename_i K' V es hb;split at hk
   .rename_i z;simp only[ak]at z;obtain⟨y,h1,h2⟩:=bI hi hv;obtain⟨y2,h3,h4⟩:=bI hi F;obtain⟨I,h5,h6⟩:=bI hi D;simp only[b9,af]at h2 h4 h6;subst h2;subst h4;subst h6;have hg:H.get (nm id)=Z ⟨0,.mp (es.map λp=>(pz K' p.1,.f (gg V p.2)))⟩:=by rw[hH,bK,hb];show Z (uT.mk 0 (Yv K' V es))=_;rw[xU z.2]
    obtain⟨_,hok,henc⟩:=M2 z.1.1 q q;rw[henc]at h3;have hrd:∀n∈[nm id],aO (kn id) (ow n)=M:=λn hn=>by simp only[aI]at hn;subst hn;rw[dQ];exact bV.2 rfl
    split at hk
    .rename_i hE;exact⟨_,_,_,_,_,hk,iz.wrt (k:=0) (m:=0) (v:=.undef) (rd:=kn id) hinv hc hH (y0:=raw undef) (b0:=⟨0,.mp [(pz KT q,.f (gg VT vv))]⟩) (rdl:=[nm id]) (by simp only[ef,h1,h3,h5,hg,hok,bE,M0 hE,xX]) (B:=.mp KT VT [(q,vv)]) hb (dK.zero h) (by simp) rfl (λty' l2 he=>by cases he) (λH1 H2 d g b' s=>by simp only[jv,xU (UV z.1.1),af]at s;subst s;exact il.refl d _) (λH1 H2 y d g A=>by simp only[b9,af]at A;subst A;exact lj.refl d _) hrd⟩
    .split at hk
     .rename_i kv' vv' hkv hvv;obtain⟨e1,e2⟩:=gL hkv;cases e1;subst e2;obtain⟨e3,e4⟩:=gL hvv;cases e3;subst e4;exact⟨_,_,_,_,_,hk,iz.wrt (k:=0) (m:=0) (v:=.undef) (rd:=kn id) hinv hc hH (y0:=raw undef) (b0:=⟨0,.mp ((xT kv' vv' es).map λp=>(pz _ p.1,.f (gg _ p.2)))⟩) (rdl:=[nm id]) (by simp only[ef,h1,h3,h5,hg,hok,bE,US z.1.1]) (B:=.mp _ _ (xT kv' vv' es)) hb (dK.zero h) (by simp) rfl (λty' l2 he=>by cases he) (λH1 H2 d g b' s=>by simp only[jv,xU (UV z.1.1),af]at s;subst s;exact il.refl d _) (λH1 H2 y d g A=>by simp only[b9,af]at A;subst A;exact lj.refl d _) hrd⟩
     .cases hk
   .cases hk
  .cases hk
 .rename_i id KT q i hv F D;split at hk
  .rename_i l hb;split at hk
   .rename_i n hkv;split at hk
    case isFalse=>cases hk
    rename_i z;simp only[ak]at z;obtain⟨e1,e2⟩:=gL hkv;cases e1
    replace e2:n=q:=e2
    subst n;obtain⟨y,h1,h2⟩:=bI hi hv;obtain⟨y2,h3,h4⟩:=bI hi F;obtain⟨I,h5,h6⟩:=bI hi D;simp only[b9,af]at h2 h4;subst h2;subst h4;obtain⟨L,hl⟩:=eT h l (hinv.cells id _ l hb);have hg:H.get (nm id)=Z ⟨1,.mp (oz 0 L)⟩:=by rw[hH,bK,hb];simp only[aD,jv,hl]
    have h0:(0:Int)<=q:=ba z.2.1;have h9:(q:Int)<(l.length:Int):=ba z.2.2;have hlen:=gw hl;have hn:(q:Int)=aT (0+aP q):=by rw[bL];exact (pL h0).symm
    have ht:lD q I (oz 0 L)=oz 0 (splice L (aP q) [I]):=by
     rw[R6 (by rw[hlen];exact (Int.toNat_lt h0).2 h9)]
     conv=>lhs;rw[hn]
     exact O5 I L 0 _
    have hs:cz h (splice l (aP q) [.row i])=Z (splice L (aP q) [I]):=pA _ hl (by simp only[cz,h6]);have hr:b6 h (h.set id (Z (.cells U (splice l (aP q) [.row i])))):=b6.set λr hr=>by rw[bP,hb]at hr;cases hr
    have henc:gg (.int .i64) q= .raw (.int .i64 q):=rfl;rw[henc]at h3;have hstr:str=aa:=by cases str with
     |false=>rfl
     |true=>cases z.1
    subst hstr;exact⟨_,_,_,_,_,hk,iz.wrt (k:=0) (m:=0) (v:=.undef) (rd:=kn id) hinv hc hH (y0:=raw undef) (b0:=⟨1,.mp (oz 0 (splice L (aP q) [I]))⟩) (rdl:=[nm id]) (by simp only[ef,h1,h3,h5,hg,ht,bG,dq]) (B:=.cells U (splice l (aP q) [.row i])) hb (dK.zero h) (by simp) rfl (λty' l2 he=>by cases he;exact jU _ _ _ (fR hr _ _ hs)) (λH1 H2 d g b' s=>by
     have s:jv (h.set id (Z (.cells U (splice l (aP q) [.row i])))) (.cells U (splice l (aP q) [.row i]))=Z b':=s;simp only[jv,fR hr _ _ hs,af]at s;subst s;exact il.refl d _) (λH1 H2 y d g A=>by simp only[b9,af]at A;subst A;exact lj.refl d _) (λn hn=>by simp only[aI]at hn;subst hn;rw[dQ];exact bV.2 rfl)⟩
   .cases hk
  .cases hk
 .cases hk
theorem ajg {con:FuncId->J ch} {bZ:TypeId->J Ty} {x:Operand} (hc:dk P o.op=Z (.rng x)) (hk:dS con bZ (.op (.rng x)) e h nx K=Z r):kG P o aa e h nx K r:=by
 obtain⟨H,A⟩:=jL h;simp only[dS]at hk;split at hk
 .rename_i s hv;obtain⟨y,h1,h2⟩:=bI hi hv;simp only[b9,af]at h2;subst h2;refine ⟨_,_,_,_,_,hk,iz.new hinv hc A (y0:=.ptr (nm nx) 0) (rdl:=[]) (b0:=⟨0,.it ⟨eQ s⟩ 0⟩) (by simp only[ef,h1];rfl) (dK.zero h) (λ_ _ he=>by cases he) (λF D d g b' q=>?_) (λF D y d g z=>?_) (by simp)⟩
  .cases q;exact il.refl d _
  .simp only[b9,af]at z;subst z;exact lj.refl d _
 .cases hk
theorem ajh {con:FuncId->J ch} {bZ:TypeId->J Ty} {x:Operand} (hc:dk P o.op=Z (.nxt x)) (hk:dS con bZ (.op (.nxt x)) e h nx K=Z r):kG P o aa e h nx K r:=by
 obtain⟨H,D⟩:=jL h;simp only[dS]at hk;split at hk
 .rename_i id hv;split at hk
  .rename_i K' V es hb;split at hk
   .rename_i s p L;obtain⟨y,h1,h2⟩:=bI hi hv;simp only[b9,af]at h2;subst h2;have hg:H.get (nm id)=Z ⟨0,.it ⟨eQ s⟩ p⟩:=by rw[D,bK,hb];show Z (uT.mk 0 (Yv K' V es))=_;rw[aeu L]
    have hrd:∀n∈[nm id],aO (kn id) (ow n)=M:=λn hn=>by simp only[aI]at hn;subst hn;rw[dQ];exact bV.2 rfl
    rcases lO hk with ⟨hp,hk⟩|⟨hp,hk⟩
    .have hp:=a9 hp;have e2:(⟨eQ s⟩:ByteArray).data.toList[p]? =Z (List.getD s p 0):=by
      show s[p]? =_;rw[ay,aw hp];rfl
     exact⟨_,_,_,_,_,hk,iz.wrt (k:=0) (m:=0) (rd:=kn id) hinv hc D (y0:=.tup [raw (.bool M),raw (.int .i64 p),raw (.int .i32 (MR s p))]) (b0:=⟨0,.it ⟨eQ s⟩ (p+RU s p)⟩) (rdl:=[nm id]) (by simp only[ef,h1,hg,e2];rfl) (B:=.mp itK .un [((s,aT (p+RU s p)),())]) hb (dK.zero h) (by simp) rfl (λty' l2 he=>by cases he) (λI F d g b' z=>by cases z;exact il.refl d _) (λI F y d g A=>by cases A;exact lj.refl d _) hrd⟩
    .have hp:s.length<=p:=Nat.not_lt.1 λq=>by rw[show eP p s.length=M from bt q]at hp;cases hp
     have e2:(⟨eQ s⟩:ByteArray).data.toList[p]? =U:=by
      show s[p]? =_;exact bJ hp
     exact⟨_,_,_,_,_,hk,iz.wrt (k:=0) (m:=0) (rd:=kn id) hinv hc D (y0:=.tup [raw (.bool aa)]) (b0:=⟨0,.it ⟨eQ s⟩ p⟩) (rdl:=[nm id]) (by simp only[ef,h1,hg,e2]) (B:=.mp itK .un [((s,aT p),())]) hb (dK.zero h) (by simp) rfl (λty' l2 he=>by cases he) (λI F d g b' z=>by cases z;exact il.refl d _) (λI F y d g A=>by cases A;exact lj.refl d _) hrd⟩
   .cases hk
  .cases hk
 .cases hk
theorem K_op {con:FuncId->J ch} {bZ:TypeId->J Ty} {s:Xh} (hc:dk P o.op=Z s) (hk:dS con bZ (.op s) e h nx K=Z r):kG P o s.still e h nx K r:=by
 cases s with
 |mv x=>exact K_mv hinv hi hc hk
 |pick c a b=>exact agt hinv hi hc hk
 |alloc ty z=>exact ad7 hinv hi hc hk
 |box ty x=>exact ajz hinv hi hc hk
 |build z parts=>exact ad6 hinv hi hc hk
 |bsl ty sz len z parts=>exact ajy hinv hi hc hk
 |load sz ag x=>exact agw hinv hi hc hk
 |store sz x v=>exact ad3 hinv hi hc hk
 |nilc x=>exact agu hinv hi hc hk
 |bin op x y=>exact ak0 hinv hi hc hk
 |eqs neg ds x y=>exact ajv hinv hi hc hk
 |eqb neg x y=>exact ajw hinv hi hc hk
 |isnil neg x=>exact ad5 hinv hi hc hk
 |not x=>exact aji hinv hi hc hk
 |conv k x=>exact ah1 hinv hi hc hk
 |mksl ty sz bytes z l c=>exact agv hinv hi hc hk
 |slc sz x lo q mx=>exact ajf hinv hi hc hk
 |fad off x=>exact ajt hinv hi hc hk
 |fld off sz ag x=>exact ajs hinv hi hc hk
 |iad sz x i=>exact ajr hinv hi hc hk
 |idx n sz ag x i=>exact ajq hinv hi hc hk
 |iada n sz x i=>exact agz hinv hi hc hk
 |ext x i=>exact aju hinv hi hc hk
 |len x=>exact ajp hinv hi hc hk
 |lens x=>exact agx hinv hi hc hk
 |max x y=>exact ajn hinv hi hc hk
 |min x y=>exact ajm hinv hi hc hk
 |sidx x i=>exact ags hinv hi hc hk
 |app ty sz bytes s x=>exact ak1 hinv hi hc hk
 |copy sz d x=>exact ah0 hinv hi hc hk
 |clr sz z x=>exact ajx hinv hi hc hk
 |mkf f caps=>exact ajl hinv hi hc hk
 |mkm=>exact ajk hinv hi hc hk
 |rng x=>exact ajg hinv hi hc hk
 |nxt x=>exact ajh hinv hi hc hk
 |lenm x=>exact agy hinv hi hc hk
 |lku str ok z x k=>exact ajo hinv hi hc hk
 |mup str x k v=>exact ajj hinv hi hc hk
 |_=>simp[dS]at hk
end ops
mutual
def AV.ren (g:Nat->Nat):AV->AV
 |.f x=>.f x
 |.ptr id off=>.ptr (g id) off
 |.sl id off n=>.sl (g id) off n
 |.row id sz n=>.row (g id) sz n
 |.mp id=>.mp (g id)
 |.emp=>.emp
 |.anyb=>.anyb
 |.ful l n=>.ful l n
 |.agg l=>.agg (AV.renL g l)
 |.tup l=>.tup (AV.renL g l)
 |.clo q l=>.clo q (AV.renL g l)
def AV.renL (g:Nat->Nat):Y AV->Y AV
 |[]=>[]
 |x::r=>x.ren g::AV.renL g r
end
theorem mI (g:Nat->Nat):∀l,AV.renL g l=l.map (AV.ren g)
 |[]=>rfl
 |x::r=>by rw[AV.renL,mI g r];rfl
theorem By (g:Nat->Nat) (x:AV):(x.ren g).isCell=x.isCell:=by cases x<;>rfl
theorem cE.renTo {φ φ':PM} {g:Nat->Nat} {O:Nat->Prop} {w:World} (hk:∀i k,φ i=Z k->φ' (g i)=Z k) {x:AV} {v:Value} (h:cE φ O w x v):cE φ' O w (x.ren g) v:=by
 induction h with
 |f h=>exact .f h
 |ptr h=>exact .ptr (hk _ _ h)
 |sl h hn hc=>exact .sl (hk _ _ h) hn hc
 |row h hn hc hsh=>exact .row (hk _ _ h) hn hc hsh
 |emp=>exact .emp
 |anyb=>exact .anyb
 |ful h=>exact .ful h
 |mp h=>exact .mp (hk _ _ h)
 |agg hl hcl hr s=>
  simp only[AV.ren,mI];refine .agg (by simpa using hl) (λx d=>?_) λj x v d hv=>?_
  .obtain⟨y,q,rfl⟩:=cX.1 d;rw[By];exact hcl y q
  .rw[bf]at d;obtain⟨y,q,rfl⟩:=jO.1 d;exact s j y v q hv
 |tup hl hr s=>
  simp only[AV.ren,mI];refine .tup (by simpa using hl) λj x v d hv=>?_
  rw[bf]at d;obtain⟨y,q,rfl⟩:=jO.1 d;exact s j y v q hv
 |clo hl hr s=>
  simp only[AV.ren,mI];refine .clo (by simpa using hl) λj x v d hv=>?_
  rw[bf]at d;obtain⟨y,q,rfl⟩:=jO.1 d;exact s j y v q hv
theorem cE.renFrom {φ φ':PM} {g:Nat->Nat} {O:Nat->Prop} {w:World} {p:Nat->Bool} (hk:∀i k,p i=M->φ (g i)=Z k->φ' i=Z k) {z:AV} {v:Value} (h:cE φ O w z v):∀x:AV,x.all p=M->z=x.ren g->cE φ' O w x v:=by
 induction h with
 |f h=>intro x hp e;cases x<;>simp only[AV.ren,reduceCtorEq]at e;cases e;exact .f h
 |ptr h=>intro x hp e;cases x<;>simp only[AV.ren,reduceCtorEq]at e;cases e;exact .ptr (hk _ _ hp h)
 |sl h hn hc=>intro x hp e;cases x<;>simp only[AV.ren,reduceCtorEq]at e;cases e;exact .sl (hk _ _ hp h) hn hc
 |row h hn hc hsh=>intro x hp e;cases x<;>simp only[AV.ren,reduceCtorEq]at e;cases e;exact .row (hk _ _ hp h) hn hc hsh
 |emp=>intro x hp e;cases x<;>simp only[AV.ren,reduceCtorEq]at e;exact .emp
 |anyb=>intro x hp e;cases x<;>simp only[AV.ren,reduceCtorEq]at e;exact .anyb
 |ful h=>intro x hp e;cases x<;>simp only[AV.ren,reduceCtorEq]at e;cases e;exact .ful h
 |mp h=>intro x hp e;cases x<;>simp only[AV.ren,reduceCtorEq]at e;cases e;exact .mp (hk _ _ hp h)
 |agg hl hcl hr q=>
  intro x hp e;cases x<;>simp only[AV.ren,reduceCtorEq]at e;rename_i l;cases e;rw[mI]at hl hcl hr q;refine .agg (by simpa using hl) (λx d=>?_) λj x v d hv=>?_
  .have:=hcl (x.ren g) (cX.2 ⟨x,d,rfl⟩);rwa [By]at this
  .exact q j (x.ren g) v (by rw[bf,d];rfl) hv x (l8 hp x (bg d)) rfl
 |tup hl hr q=>
  intro x hp e;cases x<;>simp only[AV.ren,reduceCtorEq]at e;rename_i l;cases e;rw[mI]at hl hr q;refine .tup (by simpa using hl) λj x v d hv=>?_
  exact q j (x.ren g) v (by rw[bf,d];rfl) hv x (l8 hp x (bg d)) rfl
 |clo hl hr q=>
  intro x hp e;cases x<;>simp only[AV.ren,reduceCtorEq]at e;rename_i l;cases e;rw[mI]at hl hr q;refine .clo (by simpa using hl) λj x v d hv=>?_
  exact q j (x.ren g) v (by rw[bf,d];rfl) hv x (l8 hp x (bg d)) rfl
def BC.ren (g:Nat->Nat):BC->BC
 |.fz l=>.fz l
 |.mx l=>.mx (l.map (AV.ren g))
 |.mp es=>.mp (es.map λp=>(p.1,p.2.ren g))
 |.it s p=>.it s p
def uT.ren (g:Nat->Nat) (b:uT):uT:=⟨b.ty,b.c.ren g⟩
theorem iS.renTo {φ φ':PM} {g:Nat->Nat} {O O':Nat->Prop} {w:World} (hk:∀x v,cE φ O w x v->cE φ' O' w (x.ren g) v) {b:uT} {o:Obj} (h:iS φ O w b o):iS φ' O' w (b.ren g) o:=by
 obtain⟨ty,c⟩:=b;unfold iS at h ⊢;simp only[uT.ren];cases c with
 |fz l=>
  simp only[BC.ren];obtain⟨arr,h1,h2,h3⟩:=h;refine ⟨arr,h1,h2,λj x z=>?_⟩;obtain⟨a,v,c,d⟩:=h3 j x z;simp only[BC.get]at z;obtain⟨q,_,rfl⟩:=jO.1 z;exact⟨a,v,c,hk _ _ d⟩
 |mx l=>
  simp only[BC.ren];obtain⟨arr,h1,h2,h3⟩:=h;refine ⟨arr,h1,by simpa[BC.len] using h2,λj x z=>?_⟩;simp only[BC.get,bf]at z;obtain⟨q,hq,rfl⟩:=jO.1 z;obtain⟨a,v,c,d⟩:=h3 j q hq;exact⟨by rw[By];exact a,v,c,hk _ _ d⟩
 |mp es=>
  simp only[BC.ren];obtain⟨e,c,h1,h2,h3⟩:=h;refine ⟨e,c,h1,by rw[Vw];exact h2,λj x z=>?_⟩;rw[bf]at z;obtain⟨q,hq,rfl⟩:=jO.1 z;obtain⟨m,a,b⟩:=h3 j q hq;exact⟨m,a,hk _ _ b⟩
 |it s p=>exact h
theorem iS.renFrom {φ φ':PM} {g:Nat->Nat} {O O':Nat->Prop} {w:World} {p:Nat->Bool} (hk:∀x v,x.all p=M->cE φ O w (x.ren g) v->cE φ' O' w x v) {b:uT} (hb:b.c.all p=M) {o:Obj} (h:iS φ O w (b.ren g) o):iS φ' O' w b o:=by
 obtain⟨ty,c⟩:=b;unfold iS at h ⊢;simp only[uT.ren]at h;cases c with
 |fz l=>
  simp only[BC.ren]at h;obtain⟨arr,h1,h2,h3⟩:=h;refine ⟨arr,h1,h2,λj x z=>?_⟩;obtain⟨a,v,c,d⟩:=h3 j x z;simp only[BC.get]at z;obtain⟨q,_,rfl⟩:=jO.1 z;exact⟨a,v,c,hk _ _ rfl d⟩
 |mx l=>
  simp only[BC.ren]at h;obtain⟨arr,h1,h2,h3⟩:=h;refine ⟨arr,h1,by simpa[BC.len] using h2,λj x z=>?_⟩;simp only[BC.get]at z;obtain⟨a,v,c,d⟩:=h3 j (x.ren g) (by simp only[BC.get,bf,z];rfl);rw[By]at a;exact⟨a,v,c,hk _ _ (l8 hb x (bg z)) d⟩
 |mp es=>
  simp only[BC.ren]at h;obtain⟨e,c,h1,h2,h3⟩:=h;refine ⟨e,c,h1,by rw[Vw]at h2;exact h2,λj x z=>?_⟩;obtain⟨m,a,b⟩:=h3 j (x.1,x.2.ren g) (by rw[bf,z];rfl);exact⟨m,a,hk _ _ (l8 hb x.2 (cX.2 ⟨x,bg z,rfl⟩)) b⟩
 |it s p=>exact h
mutual
def BA (g:Nat->Nat):TV->TV
 |.row i=>.row (g i)
 |.rtl i j=>.rtl (g i) j
 |.agg l=>.agg (kE g l)
 |.tup l=>.tup (kE g l)
 |.clo q l=>.clo q (kE g l)
 |.f T v=>.f T v
 |.fel T xs j h off=>.fel T xs j h off
 |.pel a b c d=>.pel (g a) b c d
 |.ptr a b=>.ptr (g a) b
 |.csl a b c=>.csl (g a) b c
 |.emp=>.emp
 |.nil=>.nil
 |.mp i=>.mp (g i)
 |.undef=>.undef
 |.np=>.np
 |.anyb=>.anyb
 |.ful T xs=>.ful T xs
def kE (g:Nat->Nat):Y TV->Y TV
 |[]=>[]
 |x::r=>BA g x::kE g r
end
theorem yZ (g:Nat->Nat):∀l,kE g l=l.map (BA g)
 |[]=>rfl
 |x::r=>by rw[kE,yZ g r];rfl
def lE (g:Nat->Nat):hX->hX
 |.cells ty l=>.cells ty (kE g l)
 |.rows ty p T xs=>.rows ty p T xs
 |.dead p sz n=>.dead p sz n
 |.mp K V es=>.mp K V es
theorem Hg (g:Nat->Nat) (b:hX):mE (lE g b)=mE b:=by cases b<;>rfl
def GZ (g:Nat->Nat) (n:Nat):Nat:=nm (g (ow n))
theorem wB (g:Nat->Nat) (i:Nat):GZ g (nm i)=nm (g i):=by unfold GZ;rw[dQ]
mutual
theorem aez {g:Nat->Nat} {h1 h2:bl} (hrow:∀i r,eh h1 i=Z r->eh h2 (g i)=Z r):∀(v:TV) (y:AV),b9 h1 v=Z y->b9 h2 (BA g v)=Z (y.ren (GZ g))
 |.f _ _,y,he=>by simp only[b9,af]at he;subst he;rfl
 |.fel _ _ _ _ _,y,he=>by simp only[b9,af]at he;subst he;rfl
 |.pel _ _ _ _,y,he=>by simp only[b9,af]at he;subst he;simp only[BA,b9,AV.ren,wB]
 |.ptr _ _,y,he=>by simp only[b9,af]at he;subst he;simp only[BA,b9,AV.ren,wB]
 |.csl _ _ _,y,he=>by simp only[b9,af]at he;subst he;simp only[BA,b9,AV.ren,wB]
 |.row id,y,he=>by
  simp only[b9]at he;split at he
  .rename_i p sz n hr;simp only[af]at he;subst he;simp only[BA,b9,hrow id _ hr];unfold eZ;split
   .rfl
   .simp only[AV.ren,wB]
  .cases he
 |.rtl id jj,y,he=>by
  simp only[b9]at he;split at he
  .rename_i p sz n hr;simp only[af]at he;subst he;simp only[BA,b9,hrow id _ hr,AV.ren,wB]
  .cases he
 |.emp,y,he=>by simp only[b9,af]at he;subst he;rfl
 |.nil,y,he=>by simp only[b9,af]at he;subst he;rfl
 |.mp _,y,he=>by simp only[b9,af]at he;subst he;simp only[BA,b9,AV.ren,wB]
 |.agg l,y,he=>by
  simp only[b9]at he;split at he
  .rename_i l' hl;simp only[af]at he;subst he;simp only[BA,b9,oS hrow l l' hl,AV.ren]
  .cases he
 |.tup l,y,he=>by
  simp only[b9]at he;split at he
  .rename_i l' hl;simp only[af]at he;subst he;simp only[BA,b9,oS hrow l l' hl,AV.ren]
  .cases he
 |.clo q l,y,he=>by
  simp only[b9]at he;split at he
  .rename_i l' hl;simp only[af]at he;subst he;simp only[BA,b9,oS hrow l l' hl,AV.ren]
  .cases he
 |.undef,y,he=>by simp only[b9,af]at he;subst he;rfl
 |.np,y,he=>by simp only[b9,af]at he;subst he;rfl
 |.anyb,y,he=>by simp only[b9,af]at he;subst he;rfl
 |.ful _ _,y,he=>by simp only[b9,af]at he;subst he;rfl
theorem oS {g:Nat->Nat} {h1 h2:bl} (hrow:∀i r,eh h1 i=Z r->eh h2 (g i)=Z r):∀(l:Y TV) (l':Y AV),cz h1 l=Z l'->cz h2 (kE g l)=Z (AV.renL (GZ g) l')
 |[],l',he=>by simp only[cz,af]at he;subst he;rfl
 |x::r,l',he=>by
  obtain⟨y,l2,rfl,e1,e2⟩:=cU he;exact oU (aez hrow x y e1) (oS hrow r l2 e2)
end
theorem Cc {g:Nat->Nat} {h1 h2:bl} (hrow:∀i r,eh h1 i=Z r->eh h2 (g i)=Z r) {b:hX} {y:uT} (he:jv h1 b=Z y):jv h2 (lE g b)=Z (y.ren (GZ g)):=by
 cases b with
 |rows ty p T xs=>
  simp only[jv]at he;split at he
  .cases he
  .rename_i hc;simp only[af]at he;subst he;simp only[lE,jv,aL hc];rfl
 |cells ty l=>
  cases ty with
  |some ty=>
   simp only[jv]at he;split at he
   .rename_i d hl;simp only[af]at he;subst he;simp only[lE,jv,oS hrow l d hl,mI];rfl
   .cases he
  |none=>
   simp only[jv]at he;split at he
   .rename_i d hl;simp only[af]at he;subst he;simp only[lE,jv,oS hrow l d hl,mI,uT.ren,BC.ren,<-O6]
   .cases he
 |dead p sz n=>cases he
 |mp K V es=>
  simp only[jv,af]at he;subst he;simp only[lE,jv,uT.ren,af,uT.mk.injEq,As];unfold Yv;split
  .rfl
  .simp only[BC.ren,GA];rfl
theorem Bz (g:Nat->Nat) (a b:Y TV):kE g (a++b)=kE g a++kE g b:=by
 rw[yZ,yZ,yZ,c7]
theorem pB (g:Nat->Nat):∀(n:Nat) (T:Ty) (v:T.den) (l:Y TV),cellsOf n T v=Z l->kE g l=l
 |0,_,_,_,he=>by simp[cellsOf]at he
 |n+1,.st t,v,l,he=>pB g n t v l he
 |n+1,.pr a b,v,l,he=>by
  simp only[cellsOf]at he;split at he
  .rename_i x y q d;simp only[af]at he;subst he;rw[Bz,pB g n a v.1 x q,pB g n b v.2 y d]
  .cases he
 |n+1,.un,v,l,he=>by simp only[cellsOf,af]at he;subst he;rfl
 |n+1,.ex,v,l,he=>pB g n LZ (MH v) l he
 |n+1,.sm,v,l,he=>pB g n Lv (MG v) l he
 |n+1,.int k,v,l,he=>by simp only[cellsOf,af]at he;subst he;rfl
 |n+1,.bool,v,l,he=>by simp only[cellsOf,af]at he;subst he;rfl
 |n+1,.str,v,l,he=>by simp only[cellsOf,af]at he;subst he;rfl
 |n+1,.sl t,v,l,he=>by simp only[cellsOf,af]at he;subst he;rfl
abbrev GP:Nat->Nat:=λi=>i
mutual
theorem Yg (g:Nat->Nat):∀(p:PV) (x:p.ty.den),pF g p x=(pF GP p x).map (kE g)
 |.d T,x=>by
  simp only[pF];cases h:cellsOf 40 T x with
  |none=>rfl
  |some l=>simp only[bU,pB g 40 T x l h]
 |.ptr i o,x=>rfl
 |.csl i o z,x=>rfl
 |.clo q i o,x=>rfl
 |.row i,x=>rfl
 |.mp i,x=>rfl
 |.nil,x=>rfl
 |.emp,x=>rfl
 |.agg ps,x=>y_ g ps x
theorem y_ (g:Nat->Nat):∀(ps:Y PV) (x:(PV.tyL ps).den),qD g ps x=(qD GP ps x).map (kE g)
 |[],x=>rfl
 |p::r,x=>by
  simp only[qD];rw[Yg g p,y_ g r];cases pF GP p (Nn p.ty (PV.tyL r) x) with
  |none=>rfl
  |some a=>
   cases qD GP r (Ke p.ty (PV.tyL r) x) with
   |none=>rfl
   |some b=>simp only[bU,Bz]
end
def af9 (o:J (Y TV)):J TV:=match o with|some l=>Z (.agg l)|none=>U
theorem ZD (g:Nat->Nat) (o:J (Y TV)):af9 (o.map (kE g))=(af9 o).map (BA g):=by cases o<;>rfl
theorem Ye (g:Nat->Nat) (p:PV) (x:p.ty.den):sK g p x=(sK GP p x).map (BA g):=by
 cases p with
 |agg ps=>exact (iU af9 (y_ g ps x)).trans (ZD g _)
 |_=>rfl
theorem sW (g:Nat->Nat):∀(ps:Y PV) (x:(PV.tyL ps).den),pO g ps x=(pO GP ps x).map (kE g)
 |[],x=>rfl
 |p::r,x=>by
  simp only[pO];rw[Ye g p,sW g r];cases sK GP p (Nn p.ty (PV.tyL r) x) with
  |none=>rfl
  |some a=>
   cases pO GP r (Ke p.ty (PV.tyL r) x) with
   |none=>rfl
   |some b=>rfl
def T_ (ty:J TypeId) (o:J (Y TV)):J (J hX):=match o with|some l=>Z (Z (.cells ty l))|none=>U
theorem T9 (g:Nat->Nat) (ty:J TypeId) (o:J (Y TV)):T_ ty (o.map (kE g))=(T_ ty o).map (lQ (lE g)):=by cases o<;>rfl
theorem Yh (g:Nat->Nat) (b:PB) (x:b.ty.den):BF g b x=(BF GP b x).map (lQ (lE g)):=by
 cases b with
 |cells ty ps=>exact (iU (T_ ty) (y_ g ps x)).trans (T9 g ty _)
 |_=>rfl
theorem u0 (g:Nat->Nat):∀(bs:Y PB) (x:(PB.tyL bs).den),oe g bs x=(oe GP bs x).map (List.map (lQ (lE g)))
 |[],x=>rfl
 |b::r,x=>by
  simp only[oe];rw[Yh g b,u0 g r];cases BF GP b (Nn b.ty (PB.tyL r) x) with
  |none=>rfl
  |some a=>
   cases oe GP r (Ke b.ty (PB.tyL r) x) with
   |none=>rfl
   |some l=>rfl
theorem BE (g:Nat->Nat):∀(bs:Y PB) (x:(PB.tyL bs).den) (l:Y (J hX)),oe g bs x=Z l->l.length=bs.length
 |[],x,l,h=>by simp only[oe,af]at h;subst h;rfl
 |b::r,x,l,h=>by
  simp only[oe]at h;split at h
  .split at h
   .rename_i q hq;simp only[af]at h;subst h;simp[BE g r _ q hq]
   .cases h
  .cases h
theorem Ii (h:bl) (i j:Nat):(kill h i).get j=if j=i then (h.get i).map ut else h.get j:=by
 unfold kill;cases hb:h.get i with
 |none=>
  simp only[Option.map_none];split
  .rename_i e;rw[e,hb]
  .rfl
 |some b=>rw[PT.get_set];rfl
theorem uq (g:Nat->Nat):∀(l:Y (J hX)) (i:Nat) (h:bl) (j:Nat),(∀k,k<l.length->j≠g (i+k))->(zC g i l h).get j=h.get j
 |[],i,h,j,_=>rfl
 |some c::r,i,h,j,hj=>by
  rw[zC,uq g r (i+1) _ j (λk hk=>by have:=hj (k+1) (by simpa using hk);rwa [show i+1+k=i+(k+1) from by omega]),PT.get_set,aL];exact hj 0 (by simp)
 |none::r,i,h,j,hj=>by
  rw[zC,uq g r (i+1) _ j (λk hk=>by have:=hj (k+1) (by simpa using hk);rwa [show i+1+k=i+(k+1) from by omega]),Ii,aL];exact hj 0 (by simp)
theorem ur (g:Nat->Nat):∀(l:Y (J hX)) (i:Nat) (h:bl),(∀a b,a<l.length->b<l.length->g (i+a)=g (i+b)->a=b)->∀(k:Nat) (c:J hX),l[k]? =Z c->(zC g i l h).get (g (i+k))=(match c with|some b=>Z b|none=>(h.get (g (i+k))).map ut)
 |[],i,h,_,k,c,hk=>by simp at hk
 |o::r,i,h,hinj,k,c,hk=>by
  have hinj':∀a b,a<r.length->b<r.length->g (i+1+a)=g (i+1+b)->a=b:=λa b q hb e=>by
   have:=hinj (a+1) (b+1) (by simpa using q) (by simpa using hb) (by rw[show i+(a+1)=i+1+a from by omega,show i+(b+1)=i+1+b from by omega];exact e);omega
  cases k with
  |zero=>
   simp at hk;subst hk;have hne:∀k,k<r.length->g (i+0)≠g (i+1+k):=λk hk e=>by
    have:=hinj 0 (k+1) (by simp) (by simpa using hk) (by rw[show i+(k+1)=i+1+k from by omega];exact e);omega
   cases o with
   |some b=>rw[zC,uq g r (i+1) _ _ hne];simp only[db];rw[PT.get_set,aU rfl]
   |none=>rw[zC,uq g r (i+1) _ _ hne];simp only[db];rw[Ii,aU rfl]
  |succ k=>
   have d:r[k]? =Z c:=by simpa using hk
   have hkl:k<r.length:=(bm.1 d).1;have hne:g (i+(k+1))≠g i:=λe=>by
    have:=hinj (k+1) 0 (by simpa using hkl) (by simp) (by rw[e];rfl);omega
   rw[show i+(k+1)=i+1+k from by omega]at hne ⊢;cases o with
   |some b=>
    rw[zC,ur g r (i+1) _ hinj' k c d];cases c with
    |some _=>rfl
    |none=>simp only[PT.get_set,aL hne]
   |none=>
    rw[zC,ur g r (i+1) _ hinj' k c d];cases c with
    |some _=>rfl
    |none=>simp only[Ii,aL hne]
def wT (h' h:bl):Prop:=∀i r,eh h' i=Z r->eh h i=Z r
section get
variable {h h':bl} {H H':HF} {g:Nat->Nat}
theorem lj.agg {l d:Y AV} (hl:gQ H H' l d) (hc:∀x∈d,x.isCell=M):lj H H' (.agg l) (.agg d):=by
 intro φ E w v hrep hr;cases hr with
 |@agg _ vs hlen hcl hrr=>
  refine .agg (by rw[hlen,<-hl.length]) hc λj y u q hu=>?_
  obtain⟨x,s,hle⟩:=hl.get j y q;exact hle φ E w u hrep (hrr j x u s hu)
theorem OO (hr:wT h' h) {i:Nat} {y s:AV} (q:b9 h (.row i)=Z y) (d:b9 h' (.row i)=Z s):s=y:=by
 simp only[b9]at q d;cases h1:eh h' i with
 |none=>rw[h1]at d;cases d
 |some r=>
  rw[h1]at d;rw[hr i r h1]at q;rw[q]at d;cases d;rfl
mutual
theorem abo (d:uf H H') (hr:wT h' h):∀(p:PV) (l:Y TV) (x:p.ty.den) (m:Nat) (r:Y TV) (cs:Y TV) (l' cs':Y AV),pl g h p l=Z (x,m,r)->pF g p x=Z cs->cz h l=Z l'->cz h' cs=Z cs'->C7 h H H' m->∃l1 l2,l'=l1++l2/\cz h r=Z l2/\gQ H H' l1 cs'
 |.d T,l,x,m,r,cs,l',cs',hg,hp,hl,hc,gv=>by
  obtain⟨l1,l2,e1,e2,e3⟩:=rM d 40 T l x m r l' hg hl gv;have:=(lM h' 40 T x cs hp).1;rw[hc]at this;cases this;exact⟨l1,l2,e1,e2,e3⟩
 |.ptr i q,l,x,m,r,cs,l',cs',hg,hp,hl,hc,gv=>by
  simp only[pl]at hg;split at hg
  .rename_i i' o' r';split at hg
   .rename_i hb;simp only[ak]at hb;have e1:=au hb.1;have e2:=au hb.2;subst e1;subst e2;simp only[af,aC]at hg;obtain⟨_,_,rfl⟩:=hg;simp only[pF,af]at hp;subst hp;obtain⟨y,l2,rfl,g1,g2⟩:=cU hl;simp only[b9,af]at g1;subst g1;simp only[cz,b9,af]at hc;subst hc;exact⟨[_],l2,rfl,g2,lj.refl d _,trivial⟩
   .cases hg
  .cases hg
 |.csl i q z,l,x,m,r,cs,l',cs',hg,hp,hl,hc,gv=>by
  simp only[pl]at hg;split at hg
  .rename_i i' o' z' r';split at hg
   .rename_i hb;simp only[ak]at hb;have e1:=au hb.1.1;have e2:=au hb.1.2;have e3:=au hb.2;subst e1;subst e2;subst e3;simp only[af,aC]at hg;obtain⟨_,_,rfl⟩:=hg;simp only[pF,af]at hp;subst hp;obtain⟨y,l2,rfl,g1,g2⟩:=cU hl;simp only[b9,af]at g1;subst g1;simp only[cz,b9,af]at hc;subst hc;exact⟨[_],l2,rfl,g2,lj.refl d _,trivial⟩
   .cases hg
  .cases hg
 |.clo q i z,l,x,m,r,cs,l',cs',hg,hp,hl,hc,gv=>by
  simp only[pl]at hg;split at hg
  .rename_i q' i' z' r';split at hg
   .rename_i hb;simp only[ak]at hb;have e1:=au hb.1.1;have e2:=au hb.1.2;have e3:=au hb.2;subst e1;subst e2;subst e3;simp only[af,aC]at hg;obtain⟨_,_,rfl⟩:=hg;simp only[pF,af]at hp;subst hp;obtain⟨y,l2,rfl,g1,g2⟩:=cU hl;simp only[b9,cz,af]at g1;subst g1;simp only[cz,b9,af]at hc;subst hc;exact⟨[_],l2,rfl,g2,lj.refl d _,trivial⟩
   .cases hg
  .cases hg
 |.row i,l,x,m,r,cs,l',cs',hg,hp,hl,hc,gv=>by
  simp only[pl]at hg;split at hg
  .rename_i i' r';split at hg
   .rename_i hb;have e1:=au hb;subst e1;simp only[af,aC]at hg;obtain⟨_,_,rfl⟩:=hg;simp only[pF,af]at hp;subst hp;obtain⟨y,l2,rfl,g1,g2⟩:=cU hl;obtain⟨y',l3,rfl,g3,g4⟩:=cU hc;simp only[cz,af]at g4;subst g4;rw[OO hr g1 g3];exact⟨[_],l2,rfl,g2,lj.refl d _,trivial⟩
   .cases hg
  .cases hg
 |.mp i,l,x,m,r,cs,l',cs',hg,hp,hl,hc,gv=>by
  simp only[pl]at hg;split at hg
  .rename_i i' r';split at hg
   .rename_i hb;have e1:=au hb;subst e1;simp only[af,aC]at hg;obtain⟨_,_,rfl⟩:=hg;simp only[pF,af]at hp;subst hp;obtain⟨y,l2,rfl,g1,g2⟩:=cU hl;simp only[b9,af]at g1;subst g1;simp only[cz,b9,af]at hc;subst hc;exact⟨[_],l2,rfl,g2,lj.refl d _,trivial⟩
   .cases hg
  .cases hg
 |.nil,l,x,m,r,cs,l',cs',hg,hp,hl,hc,gv=>by
  simp only[pl]at hg;split at hg
  .simp only[af,aC]at hg;obtain⟨_,_,rfl⟩:=hg;simp only[pF,af]at hp;subst hp;obtain⟨y,l2,rfl,g1,g2⟩:=cU hl;simp only[b9,af]at g1;subst g1;simp only[cz,b9,af]at hc;subst hc;exact⟨[_],l2,rfl,g2,lj.refl d _,trivial⟩
  .cases hg
 |.emp,l,x,m,r,cs,l',cs',hg,hp,hl,hc,gv=>by
  simp only[pl]at hg;split at hg
  .simp only[af,aC]at hg;obtain⟨_,_,rfl⟩:=hg;simp only[pF,af]at hp;subst hp;obtain⟨y,l2,rfl,g1,g2⟩:=cU hl;simp only[b9,af]at g1;subst g1;simp only[cz,b9,af]at hc;subst hc;exact⟨[_],l2,rfl,g2,Le.nilEmp.toH d,trivial⟩
  .simp only[af,aC]at hg;obtain⟨_,_,rfl⟩:=hg;simp only[pF,af]at hp;subst hp;obtain⟨y,l2,rfl,g1,g2⟩:=cU hl;simp only[b9,af]at g1;subst g1;simp only[cz,b9,af]at hc;subst hc;exact⟨[_],l2,rfl,g2,lj.refl d _,trivial⟩
  .cases hg
 |.agg ps,l,x,m,r,cs,l',cs',hg,hp,hl,hc,gv=>B9 d hr ps l x m r cs l' cs' hg hp hl hc gv
theorem B9 (d:uf H H') (hr:wT h' h):∀(ps:Y PV) (l:Y TV) (x:(PV.tyL ps).den) (m:Nat) (r:Y TV) (cs:Y TV) (l' cs':Y AV),yh g h ps l=Z (x,m,r)->qD g ps x=Z cs->cz h l=Z l'->cz h' cs=Z cs'->C7 h H H' m->∃l1 l2,l'=l1++l2/\cz h r=Z l2/\gQ H H' l1 cs'
 |[],l,x,m,r,cs,l',cs',hg,hp,hl,hc,gv=>by
  simp only[yh,af,aC]at hg;obtain⟨_,_,rfl⟩:=hg;simp only[qD,af]at hp;subst hp;simp only[cz,af]at hc;subst hc;exact⟨[],l',rfl,hl,trivial⟩
 |p::ps,l,x,m,r,cs,l',cs',hg,hp,hl,hc,gv=>by
  simp only[yh]at hg;split at hg
  .rename_i x1 m1 r1 h1;split at hg
   .rename_i x2 m2 r2 h2;simp only[af,aC]at hg;obtain⟨rfl,rfl,rfl⟩:=hg;simp only[qD,sQ,ul]at hp;split at hp
    .rename_i a ha;split at hp
     .rename_i b hb;simp only[af]at hp;subst hp;obtain⟨a',b',rfl,ea,eb⟩:=AW hc;obtain⟨ga,gb⟩:=gv.or;obtain⟨l1,l2,rfl,q1,q2⟩:=abo d hr p l _ _ _ a l' a' h1 ha hl ea ga;obtain⟨l3,l4,rfl,q3,q4⟩:=B9 d hr ps _ _ _ _ b l2 b' h2 hb q1 eb gb;exact⟨l1++l3,l4,by simp,q3,q2.append q4⟩
     .cases hp
    .cases hp
   .cases hg
  .cases hg
end
mutual
theorem VR:∀(p:PV) (x:p.ty.den) (cs:Y TV),pF g p x=Z cs->kA cs=M
 |.d T,x,cs,hp=>(lM PT.leaf 40 T x cs hp).2
 |.ptr i q,x,cs,hp=>by simp only[pF,af]at hp;subst hp;rfl
 |.csl i q z,x,cs,hp=>by simp only[pF,af]at hp;subst hp;rfl
 |.clo q i z,x,cs,hp=>by simp only[pF,af]at hp;subst hp;rfl
 |.row i,x,cs,hp=>by simp only[pF,af]at hp;subst hp;rfl
 |.mp i,x,cs,hp=>by simp only[pF,af]at hp;subst hp;rfl
 |.nil,x,cs,hp=>by simp only[pF,af]at hp;subst hp;rfl
 |.emp,x,cs,hp=>by simp only[pF,af]at hp;subst hp;rfl
 |.agg ps,x,cs,hp=>v7 ps x cs hp
theorem v7:∀(ps:Y PV) (x:(PV.tyL ps).den) (cs:Y TV),qD g ps x=Z cs->kA cs=M
 |[],x,cs,hp=>by simp only[qD,af]at hp;subst hp;rfl
 |p::ps,x,cs,hp=>by
  simp only[qD]at hp;split at hp
  .rename_i a ha;split at hp
   .rename_i b hb;simp only[af]at hp;subst hp;exact Re (VR p _ a ha) (v7 ps _ b hb)
   .cases hp
  .cases hp
end
theorem abn (d:uf H H') (hr:wT h' h) {p:PV} {v:TV} {x:p.ty.den} {m:Nat} {u:TV} {y D:AV} (hg:wz g h p v=Z (x,m)) (hp:sK g p x=Z u) (A:b9 h v=Z y) (s:b9 h' u=Z D) (F:C7 h H H' m):lj H H' y D:=by
 cases p with
 |d T=>
  simp only[sK,af]at hp;subst hp;simp only[b9,af]at s;subst s;exact (N8 d hg A F).1
 |agg ps=>
  simp only[wz]at hg;split at hg
  .cases hg
  .rename_i hc;split at hg
   .rename_i l hl;split at hg
    .rename_i x1 m1 h1;simp only[af,aC]at hg;obtain⟨rfl,rfl⟩:=hg;simp only[sK]at hp;split at hp
     .rename_i cs hcs;simp only[af]at hp;subst hp;simp only[b9]at s;split at s
      .rename_i cs' hcs';simp only[af]at s;subst s;obtain⟨e1,e2⟩:=Jg hl A;obtain⟨l1,l2,q1,q2,q3⟩:=B9 d hr ps l _ _ [] cs y.cs cs' h1 hcs e1 hcs' F;simp only[cz,af]at q2;subst q2;rw[n_]at q1;subst q1;have hcell:∀x∈cs',x.isCell=M:=lP (rK hcs' (v7 ps _ cs hcs));cases v with
       |agg q=>
        simp only[b9]at A;split at A
        .simp only[af]at A;subst A;exact lj.agg q3 hcell
        .cases A
       |f S z=>
        simp only[b9,af]at A;subst A;have I:S.one=aa:=by simpa[TV.isC] using hc
        rw[zn]at q3;rw[qj S z I];intro φ E w v hrep hrel;exact lj.agg q3 hcell φ E w v hrep (Le.aggF _ _ _ _ hrel)
       |tup q=>simp[TV.cs,TV.isC]at hl
       |undef=>simp[TV.cs,TV.isC]at hl
       |np=>simp[TV.isC]at hc
       |anyb=>simp[TV.cs,TV.isC]at hl
       |ful S q=>simp[TV.cs,TV.isC]at hl
       |fel T xs j hj off=>simp[TV.isC]at hc
       |pel id sz j off=>simp[TV.isC]at hc
       |ptr id off=>simp[TV.isC]at hc
       |csl id off z=>simp[TV.isC]at hc
       |row id=>simp[TV.isC]at hc
       |emp=>simp[TV.isC]at hc
       |nil=>simp[TV.isC]at hc
       |mp id=>simp[TV.isC]at hc
       |rtl id L=>cases hl
       |clo g l=>simp[TV.isC]at hc
      .cases s
     .cases hp
    .cases hg
   .cases hg
 |ptr i q=>
  simp only[sK,af]at hp;subst hp;simp only[wz]at hg;split at hg
  .rename_i h1;simp only[pl]at h1;split at h1
   .rename_i e;simp only[iN]at e;obtain⟨rfl,_⟩:=e;split at h1
    .rename_i hb;simp only[ak]at hb;have e1:=au hb.1;have e2:=au hb.2;subst e1;subst e2;simp only[b9,af]at A s;subst A;subst s;exact lj.refl d _
    .cases h1
   .cases h1
  .cases hg
 |csl i q z=>
  simp only[sK,af]at hp;subst hp;simp only[wz]at hg;split at hg
  .rename_i h1;simp only[pl]at h1;split at h1
   .rename_i e;simp only[iN]at e;obtain⟨rfl,_⟩:=e;split at h1
    .rename_i hb;simp only[ak]at hb;have e1:=au hb.1.1;have e2:=au hb.1.2;have e3:=au hb.2;subst e1;subst e2;subst e3;simp only[b9,af]at A s;subst A;subst s;exact lj.refl d _
    .cases h1
   .cases h1
  .cases hg
 |clo q i z=>
  simp only[sK,af]at hp;subst hp;simp only[wz]at hg;split at hg
  .rename_i h1;simp only[pl]at h1;split at h1
   .rename_i e;simp only[iN]at e;obtain⟨rfl,_⟩:=e;split at h1
    .rename_i hb;simp only[ak]at hb;have e1:=au hb.1.1;have e2:=au hb.1.2;have e3:=au hb.2;subst e1;subst e2;subst e3;simp only[b9,cz,af]at A s;subst A;subst s;exact lj.refl d _
    .cases h1
   .cases h1
  .cases hg
 |row i=>
  simp only[sK,af]at hp;subst hp;simp only[wz]at hg;split at hg
  .rename_i h1;simp only[pl]at h1;split at h1
   .rename_i e;simp only[iN]at e;obtain⟨rfl,_⟩:=e;split at h1
    .rename_i hb;have e1:=au hb;subst e1;rw[OO hr A s];exact lj.refl d _
    .cases h1
   .cases h1
  .cases hg
 |mp i=>
  simp only[sK,af]at hp;subst hp;simp only[wz]at hg;split at hg
  .rename_i h1;simp only[pl]at h1;split at h1
   .rename_i e;simp only[iN]at e;obtain⟨rfl,_⟩:=e;split at h1
    .rename_i hb;have e1:=au hb;subst e1;simp only[b9,af]at A s;subst A;subst s;exact lj.refl d _
    .cases h1
   .cases h1
  .cases hg
 |nil=>
  simp only[sK,af]at hp;subst hp;simp only[wz]at hg;split at hg
  .rename_i h1;simp only[pl]at h1;split at h1
   .rename_i e;simp only[iN]at e;obtain⟨rfl,_⟩:=e;simp only[b9,af]at A s;subst A;subst s;exact lj.refl d _
   .cases h1
  .cases hg
 |emp=>
  simp only[sK,af]at hp;subst hp;simp only[wz]at hg;split at hg
  .rename_i h1;simp only[pl]at h1;split at h1
   .rename_i e;simp only[iN]at e;obtain⟨rfl,_⟩:=e;simp only[b9,af]at A s;subst A;subst s;exact Le.nilEmp.toH d
   .rename_i e;simp only[iN]at e;obtain⟨rfl,_⟩:=e;simp only[b9,af]at A s;subst A;subst s;exact lj.refl d _
   .cases h1
  .cases hg
theorem B8 (d:uf H H') (hr:wT h' h):∀(ps:Y PV) (vs:Y TV) (x:(PV.tyL ps).den) (m:Nat) (us:Y TV) (l s:Y AV),w_ g h ps vs=Z (x,m)->pO g ps x=Z us->cz h vs=Z l->cz h' us=Z s->C7 h H H' m->gQ H H' l s
 |[],[],x,m,us,l,s,hg,hp,hl,q,z=>by
  simp only[pO,af]at hp;subst hp;simp only[cz,af]at hl q;subst hl;subst q;trivial
 |[],_::_,x,m,us,l,s,hg,_,_,_,_=>by simp[w_]at hg
 |_::_,[],x,m,us,l,s,hg,_,_,_,_=>by simp[w_]at hg
 |p::ps,v::vs,x,m,us,l,s,hg,hp,hl,q,z=>by
  simp only[w_]at hg;split at hg
  .rename_i x1 m1 h1;split at hg
   .rename_i x2 m2 h2;simp only[af,aC]at hg;obtain⟨rfl,rfl⟩:=hg;simp only[pO,sQ,ul]at hp;split at hp
    .rename_i a D;split at hp
     .rename_i b hb;simp only[af]at hp;subst hp;obtain⟨y,l2,rfl,e1,e2⟩:=cU hl;obtain⟨L,A,rfl,e3,e4⟩:=cU q;obtain⟨I,F⟩:=z.or;exact⟨abn d hr h1 D e1 e3 I,B8 d hr ps vs _ _ b l2 A h2 hb e2 e4 F⟩
     .cases hp
    .cases hp
   .cases hg
  .cases hg
inductive BM (g:Nat->Nat) (h:bl) (m:Nat):hX->hX->Prop
 |rows (ty:TypeId) (p:Bool) (T:Ty) (xs:List T.den):BM g h m (.rows ty p T xs) (.rows ty p T xs)
 |mp (K V:Ty) (es:List (K.den×V.den)):BM g h m (.mp K V es) (.mp K V es)
 |cells (ty:Option TypeId) (ps:List PV) (x:(PV.tyL ps).den) (l l2:List TV) (m':Nat) (hg:yh g h ps l=Z (x,m',[])) (hp:qD g ps x=Z l2) (hm:∀i,aO m' i=M->aO m i=M):BM g h m (.cells ty l) (.cells ty l2)
theorem BM.mono {m m2:Nat} (hm:∀i,aO m i=M->aO m2 i=M) {b c:hX} (h1:BM g h m b c):BM g h m2 b c:=by
 cases h1 with
 |rows ty p T xs=>exact .rows ty p T xs
 |mp K V es=>exact .mp K V es
 |cells ty ps x l l2 m' hg hp d=>exact .cells ty ps x l l2 m' hg hp λi hi=>hm i (d i hi)
theorem abp {i:Nat} {b:PB} {x:b.ty.den} {m:Nat} {c:hX} (hg:DJ g h i b=Z (x,m)) (hp:BF g b x=Z (Z c)):∃b0,h.get (g i)=Z b0/\BM g h m b0 c:=by
 cases b with
 |rows ty p T=>
  simp only[DJ]at hg;split at hg
  .rename_i ty' s S xs hb;split at hg
   .rename_i hc;simp only[ak,cO]at hc;obtain⟨rfl,rfl⟩:=hc;split at hg
    .rename_i z d;simp only[af,aC]at hg;obtain⟨rfl,rfl⟩:=hg;obtain⟨e,rfl⟩:=gL d;cases e;simp only[BF,af]at hp;subst hp;exact⟨_,hb,.rows _ _ _ _⟩
    .cases hg
   .cases hg
  .cases hg
 |rowsP ty T=>
  simp only[DJ]at hg;split at hg
  .rename_i ty' s S xs hb;split at hg
   .rename_i hc;have hc:ty=ty':=by simpa using hc
    subst hc;split at hg
    .rename_i z d;simp only[af,aC]at hg;obtain⟨rfl,rfl⟩:=hg;obtain⟨e,rfl⟩:=gL d;cases e;simp only[BF,af]at hp;subst hp;exact⟨_,hb,.rows _ _ _ _⟩
    .cases hg
   .cases hg
  .cases hg
 |cells ty ps=>
  simp only[DJ]at hg;split at hg
  .rename_i ty' l hb;split at hg
   .rename_i hc;have hc:ty=ty':=by simpa using hc
    subst hc;split at hg
    .rename_i z m1 d;simp only[af,aC]at hg;obtain⟨rfl,rfl⟩:=hg;simp only[BF]at hp;split at hp
     .rename_i l2 q;simp only[af]at hp;subst hp;exact⟨_,hb,.cells ty ps _ l l2 _ d q λ_ h=>h⟩
     .cases hp
    .cases hg
   .cases hg
  .cases hg
 |mp K V=>
  simp only[DJ]at hg;split at hg
  .rename_i K' V' es hb;split at hg
   .rename_i z d;simp only[af,aC]at hg;obtain⟨rfl,rfl⟩:=hg;obtain⟨e,rfl⟩:=gL d;cases e;simp only[BF,af]at hp;subst hp;exact⟨_,hb,.mp _ _ _⟩
   .cases hg
  .cases hg
 |gone=>simp[BF]at hp
theorem Ik:∀(bs:Y PB) (i:Nat) (x:(PB.tyL bs).den) (m:Nat) (d:Y (J hX)),zU g h i bs=Z (x,m)->oe g bs x=Z d->∀(k:Nat) c,d[k]? =Z (Z c)->∃b0,h.get (g (i+k))=Z b0/\BM g h m b0 c
 |[],i,x,m,d,hg,hp,k,c,hk=>by
  simp only[oe,af]at hp;subst hp;simp at hk
 |b::r,i,x,m,d,hg,hp,k,c,hk=>by
  simp only[zU]at hg;split at hg
  .rename_i x1 m1 h1;split at hg
   .rename_i x2 m2 h2;simp only[af,aC]at hg;obtain⟨rfl,rfl⟩:=hg;simp only[oe,sQ,ul]at hp;split at hp
    .rename_i a s;split at hp
     .rename_i q hq;simp only[af]at hp;subst hp;cases k with
      |zero=>
       simp at hk;subst hk;obtain⟨b0,e1,e2⟩:=abp h1 s;exact⟨b0,e1,e2.mono λi hi=>by rw[bw,hi];rfl⟩
      |succ k=>
       obtain⟨b0,e1,e2⟩:=Ik r (i+1) _ _ q h2 hq k c (by simpa using hk);rw[show i+1+k=i+(k+1) from by omega]at e1;exact⟨b0,e1,e2.mono λi hi=>by rw[bw,hi];simp⟩
     .cases hp
    .cases hp
   .cases hg
  .cases hg
end get
end
end Go.Proofs.YtiaemgcbndhkfaaGreatDoor.AI
