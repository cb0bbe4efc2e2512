/-
  Texts of the proof, part 4 of 6: what is used to prove the statement. No condition.
-/
import Derived.Test.YtiaemgcbndhkfaaGreatDoorEpochRefusesQ2
import Derived.Defers
namespace Go.Proofs.YtiaemgcbndhkfaaGreatDoor.AI
open Go.RowKit
set_option maxRecDepth 100000
set_option maxHeartbeats 4000000
set_option linter.unusedVariables false
set_option linter.unusedSimpArgs false
open Act renaming put→MY
open _root_.Array renaming length_toList→iw,range→xL
open _root_.Bool renaming true→M,false→aa,and_false→ub,eq_iff_iff→ED
open Builtin renaming zeroCells→lE,firstCells→xh,append_→EC
open Call renaming operands→dQ
open Instr renaming findNow→eF,sliceBounds→gE,sliceBound→ib,sliceAt→kK,slice→oM,findKey→sd,sameBits→Kl
open _root_.Int renaming toNat→aO,ofNat→aT
open _root_.Int.ofNat renaming inj→sa
open IntKind renaming wrap→oL
open _root_.List renaming length→ah,replicate→aA,length_cons→ch,take→dj,toArray→eR,range→gx,cons_append→ia,length_nil→j6,getElem?_cons_zero→lD,nil_append→od,replicate_succ→pN,take_succ_cons→vb,flatMap_append→FP,mem_or_eq_of_mem_set→LJ
open _root_.Nat renaming beq→ax,testBit→aP,add_zero→dc,ble→dP,blt→eQ,min→iQ
open Oper renaming wp→GY
open _root_.Option renaming some→Z,none→U,bind_some→aD,map_some→bW,map→l7
open Region renaming wanted→iL
open Result renaming andThen_ok→cL
open Sem renaming run_bind→eA,run→kf,run_pure→oI
open Utf8 renaming decode→xJ
open Value.bool renaming injEq→Bx
open World renaming shape?→rk,cell?→MW
noncomputable section
theorem qI.wren {φ:PM} {E:Nat->Prop} {h:HF} {w w':World} (r:qI φ E h w) {id nx k:Nat} {b b':u_} {ob:Obj} (hb:h id=Z b) (hk:φ id=Z k) (hnx:φ nx=U) (z:Et w w' k ob) (hob:iY φ (tot E φ h) w b' ob) (nw:HF) (hnw:nw nx=Z b') (hnid:nw id=U):
 ∃φ',φ' nx=Z k/\iZ φ φ' h (eG h [nx,id] nw) w w'/\(∀i k,φ' i=Z k->φ i=Z k\/i∈[nx])/\qI φ' E (eG h [nx,id] nw) w':=by
 have hne:nx≠id:=λe=>by rw[e,hk]at hnx;cases hnx
 have hsub:∀i x,eG h [nx,id] nw i=Z x->i≠nx->h i=Z x/\i≠id:=λi x A hi=>by
  unfold eG at A;by_cases hd:i=id
  .subst hd;simp[hnid]at A
  .simp[hi,hd]at A;exact⟨A,hd⟩
 have hφ:∀i,i≠nx->(if i=nx then Z k else φ i)=φ i:=λi hi=>by simp[hi]
 have m:iZ φ (λi=>if i=nx then Z k else φ i) h (eG h [nx,id] nw) w w':=by
  refine ⟨λi k' s=>?_,⟨z.os,z.tape,z.output,by rw[z.size];exact cN _,λj hj I=>?_,λj _=>z.shp j⟩,?_⟩
  .have:i≠nx:=λe=>by rw[e,hnx]at s;cases s
   rw[hφ i this];exact s
  .exact z.other j (λe=>I (e▸⟨id,b,hb,hk⟩))
  .rintro j hj ⟨i,x,h1,h2⟩;by_cases hi:i=nx
   .simp[hi]at h2;subst h2;exact⟨id,b,hb,hk⟩
   .have D:φ i=Z j:=by simpa[hi] using h2
    exact⟨i,x,(hsub i x h1 hi).1,D⟩
 refine ⟨_,by simp,m,λi k' s=>?_,⟨λi j x y F hi hj h1 h2=>?_,λi x hi=>?_,λk hk=>dz (r.el k hk) m.ext.size,λg cells hg=>m.keepF (r.gl g cells hg)⟩⟩
 .by_cases hi:i=nx
  .right;simp[hi]
  .left;rw[hφ i hi]at s;exact s
 .by_cases d:i=nx
  .by_cases q:j=nx
   .rw[d,q]
   .exfalso;rw[hφ j q]at h2;simp[d]at h1;subst h1;obtain⟨q1,q2⟩:=hsub j y hj q;exact q2 (r.inj j id y b k q1 hb h2 hk)
  .rw[hφ i d]at h1;obtain⟨p1,p2⟩:=hsub i x hi d;by_cases q:j=nx
   .exfalso;simp[q]at h2;subst h2;exact p2 (r.inj i id x b k p1 hb h1 hk)
   .rw[hφ j q]at h2;exact r.inj i j x y F p1 (hsub j y hj q).1 h1 h2
 .by_cases d:i=nx
  .subst d;have:x=b':=by unfold eG at hi;simp[hnw]at hi;exact hi.symm
   subst this;obtain⟨k',h1,h2,_⟩:=r.at_ id b hb;rw[hk]at h1;cases h1;exact⟨k,by simp,h2,ob,z.at_,hob.mono λ_ _ h=>m.keep h⟩
  .obtain⟨p1,p2⟩:=hsub i x hi d;obtain⟨k',h1,h2,ob',D,L⟩:=r.at_ i x p1;have hne':k'≠k:=λe=>p2 (r.inj i id x b k p1 hb (e▸h1) hk)
   exact⟨k',by rw[hφ i d];exact h1,h2,ob',by rw[z.other k' hne'];exact D,L.mono λ_ _ h=>m.keep h⟩
theorem qI.cs {φ:PM} {E:Nat->Prop} {h':HF} {w:World} (hrep:qI φ E h' w) {id k:Nat} {b:u_} (hb:h' id=Z b) (hk:φ id=Z k) (hc:b.c.isCells=M):
 ∃arr,w.heap[k]? =Z (.cells arr b.ty (0,0))/\Cs φ (tot E φ h') w b.c.toMx (arr.toList.take b.c.toMx.length)/\b.c.toMx.length<=arr.size:=by
 obtain⟨k',h1,_,h2⟩:=hrep.at_ id b hb;rw[hk]at h1;cases h1;obtain⟨arr,D,s,q⟩:=h2.cells hc;rw[BC.len_toMx hc]at s;refine ⟨arr,D,⟨by simp;omega,λx d=>?_,λj x v d hv=>?_⟩,s⟩
 .obtain⟨j,hj⟩:=eS d;exact (q j x (by rw[BC.get_toMx hc];exact hj)).1
 .obtain⟨_,u,A,z⟩:=q j x (by rw[BC.get_toMx hc];exact d);rw[cC]at hv;split at hv
  .rw[cq,A]at hv;cases hv;exact z
  .cases hv
section
variable {P:Program} {o:Oper} {e:yW} {h:mh} {nx:Nat} {R:zZ}
theorem MI {t:TypeId} {b:Nat} (hb:El P t=Z b):∃i,P.info? t=Z i/\i.bytes=b:=by
 unfold El at hb;cases hi:P.info? t with
 |none=>rw[hi]at hb;cases hb
 |some i=>rw[hi]at hb;simp at hb;exact⟨i,rfl,hb⟩
theorem BN {n b:Nat} (h:be n b=M):n<=1099511627776/\n*b<=1099511627776:=by
 simp only[be,ak]at h;exact⟨bc h.1,bc h.2⟩
theorem Ya {n:Int} (h1: -9223372036854775808<=n) (h2:n<=9223372036854775807):oL .i64 n=n:=by
 rw[<- xT];have:(cO (-9223372036854775808) n&&cO n 9223372036854775807)=M:=by simp[cO,h1,h2]
 simp only[G1,LK,this,bH]
theorem ag0 {t el:TypeId} {sz bytes:Nat} {z:ξ} {l c:Operand} (I:o.op= .makeSlice t l c) (hu:P.underlying t=Z (.slice el)) (hz:sA P el=Z z) (hs:e9 P el=Z sz) (hb:El P el=Z bytes) (hc:mK z=M) (hl:z.length=sz) (hsz:sz≠0)
 (q:eg (.mksl el sz bytes z l c) e h nx=Z R):gD P o e.get h.get R.eff:=by
 simp only[eg]at q;split at q
 .rename_i k1 n k2 m d hy;split at q
  .rename_i hcd;simp only[cO,ak,bB]at hcd;obtain⟨⟨h0,h1⟩,h2⟩:=hcd;obtain⟨r1,r2⟩:=BN h2;simp only[af]at q;subst q;refine gD.makes λφ E h' w a _ hp _=>?_
   have e1:=eJ (hp l _ (by rw[I];simp[Op.operands]) d);have e2:=eJ (hp c _ (by rw[I];simp[Op.operands]) hy);obtain⟨v,z1,z2,_⟩:=sY hz w;obtain⟨i,i1,i2⟩:=MI hb;have s1:=fX hs w;have w1:oL .i64 n=n:=Ya (by omega) (by omega);have w2:oL .i64 m=m:=Ya (by omega) (by omega);have hbm:(bytes:Int)*m=((m.toNat*bytes:Nat):Int):=by
    rw[Int.natCast_mul,mi (by omega),Int.mul_comm]
   have t1:¬(m<0\/(281474976710656:Int)<bytes*m):=by rw[hbm];omega
   have hr:¬(m.toNat*bytes>roomBytes):=by unfold roomBytes;omega
   have L:m.toNat*sz=0->m.toNat=0:=λh=>(Nat.mul_eq_zero.1 h).resolve_right hsz
   let cells:Array Value:=(xL (m.toNat*sz)).map (λi=>v.cells[i%v.cells.size]!)
   refine ⟨.slice (Z ⟨w.heap.size,0,U⟩) n.toNat m.toNat,{w with heap:=w.heap.push (.cells cells el)},.cells cells el (0,0),?_,qL w _,?_,λφ' O hφ=>?_⟩
   .unfold execOp;rw[I];by_cases A:m.toNat*sz=0
    .obtain rfl:m=0:=by have:=L A;omega
     obtain rfl:n=0:=by omega
     simp[Instr.makeSlice,run_underlying hu,e1,e2,asInt,asIntOf,typeInfo,i1,w1,askRoom,s1,newRow,newObj,kf,cells];rw[show xL 0=#[] from rfl];simp
    .simp[Instr.makeSlice,run_underlying hu,e1,e2,asInt,asIntOf,typeInfo,i1,i2,w1,w2,t1,show ¬n<0 by omega,show ¬m<n by omega,askRoom,hr,s1,A,z1,newRow,newObj,kf,cells]
   .have cs:=Cs.repl (φ:=φ) (O:=tot E φ h') (w:=w) z2 m.toNat sz hl hsz hc;have hle:n.toNat<=m.toNat:=by omega
    have hlen:n.toNat*sz<=m.toNat*sz:=cA _ hle;refine pR rfl (by simp[BC.toMx,mP,hl,cells];exact hlen) λj x d=>?_
    simp only[BC.toMx,bk]at d;have hj:j<n.toNat*z.length:=by
     rcases bN j (n.toNat*z.length) with h|h
     .exact h
     .rw[bK (by rw[mP];exact h)]at d;cases d
    have F:j<m.toNat*z.length:=by rw[hl]at hj ⊢;omega
    rw[BO z _ j hj,<-BO z m.toNat j F]at d;have s:((repl z m.toNat).map AV.f)[j]? =Z x:=by rw[bk];exact d
    have D:j<cells.toList.length:=by simp[cells];rw[<- hl];exact F
    exact⟨cs.2.1 x (bi s),cells.toList[j],by rw[<- cq];exact aw D,cs.2.2 j x _ s (aw D)⟩
   .refine .row hφ (by omega) (by unfold maxLen;omega) ⟨el,?_⟩;unfold rk;simp[cells]
  .cases q
 .cases q
theorem ad6 {t:TypeId} {x y:Operand} {sz:Nat} (D:o.op= .store t x y) (hs:e9 P t=Z sz) (d:eg (.store sz x y) e h nx=Z R):gD P o e.get h.get R.eff:=by
 simp only[eg]at d;split at d
 .rename_i p v hx hy;unfold JS at d;split at d
  .rename_i id off;split at d
   .rename_i b hb;split at d
    .rename_i hl;split at d
     .rename_i c' hput;simp only[af]at d;subst d;unfold BC.put at hput;split at hput
      .rename_i hcc;simp only[ak]at hcc;obtain⟨⟨c1,L⟩,c3⟩:=hcc;have L:=bc L;have hl:v.cs.length=sz:=by simpa using hl
       have s:c'.toMx=splice b.c.toMx off v.cs/\c'.isCells=M:=by
        split at hput
        .rename_i l ys hbl hys;simp only[af]at hput;subst hput;refine ⟨?_,rfl⟩;have hv:=pF hys;rw[hv,hbl];simp only[BC.toMx];unfold splice;simp[py,List.map_drop]
        .simp only[af]at hput;subst hput;exact⟨rfl,rfl⟩
       refine gD.writes hb λφ E h' w a hrd F hp hrep=>?_
       have hr:=Tw (hp y _ (by rw[D];simp[Op.operands]) hy) c3;have hpx:=hp x _ (by rw[D];simp[Op.operands]) hx;generalize hz:a.eval x=pv at hpx;cases hpx with
       |@ptr _ _ k hφ=>
        obtain⟨arr,g1,g2,g3⟩:=hrep.cs F hφ c1;have hvl:(a.eval y).cells.toList.length=sz:=by rw[hr.1];exact hl
        rw[BC.len_toMx c1]at L;have hst:=run_storeCells_at (P:=P) k off b.ty (a.eval y).cells.toList 0 arr w g1 (by rw[hvl];omega) hr.one
        let arr':Array Value:=(arr.toList.take off++(a.eval y).cells.toList++arr.toList.drop (off+sz)).toArray
        have hsize:arr'.size=arr.size:=by simp only[arr',sJ,b7,cg,kF,iw,hvl];omega
        refine ⟨.skip,w.setRow k arr',k,.cells arr' b.ty (0,0),?_,hφ,Et.setRow g1 hsize,?_,undef,.inr ⟨rfl,rfl⟩,.f (.raw _)⟩
        .have s1:=fX hs w;have hvs:(a.eval y).cells.size=sz:=by simpa using hvl
         simp only[dc,hvl]at hst;unfold execOp;rw[D];simp[Instr.storeAt,hz,Instr.sureAddr,storeVar,s1,hvs,hst,arr']
        .refine pR s.2 (by rw[s.1,oh (by omega),hsize];exact g3) λj q hq=>?_
         rw[s.1,mO (by omega)]at hq;have I:arr'[j]? =if j<off then arr.toList[j]? else if j<off+sz then (a.eval y).cells.toList[j-off]? else arr.toList[j]? :=by
          have:=mO (l:=arr.toList) (vs:=(a.eval y).cells.toList) (off:=off) (by have:=hvl;simp only[iw]at this ⊢;omega) j;unfold splice at this;rw[hvl]at this;simp only[arr',ky];exact this
         have old:b.c.toMx[j]? =Z q->q.isCell=M/\∃u,arr.toList[j]? =Z u/\cK φ (tot E φ h') w q u:=λhq=>by
          have hj:j<b.c.toMx.length:=(bo.1 hq).1;have A:j<arr.toList.length:=by simp;omega
          refine ⟨g2.2.1 q (bi hq),arr.toList[j],aw A,g2.2.2 j q _ hq ?_⟩;rw[cC,aW hj,aw A]
         rw[I];by_cases h1:j<off
         .rw[aW h1]at hq ⊢;exact old hq
         .rw[aM h1]at hq ⊢;by_cases h2:j<off+sz
          .rw[aW (by omega)]at hq;rw[aW h2];have z:j-off<(a.eval y).cells.toList.length:=by omega
           exact⟨hr.2.1 q (bi hq),_,aw z,hr.2.2 _ q _ hq (aw z)⟩
          .rw[aM (by omega)]at hq;rw[aM h2];exact old hq
      .cases hput
     .cases d
    .cases d
   .cases d
  .cases d
 .cases d
end
section
variable {P:Program} {o:Oper} {e:yW} {h:mh} {nx:Nat} {R:zZ}
theorem afv (A:Addr):A.add 0=A:=by cases A;simp[Addr.add]
theorem air {t el:TypeId} {sz:Nat} {x:Operand} {lo hi mx:J Operand} (D:o.op= .slice t x lo hi mx) (hu:P.underlying t=Z (.slice el)) (hs:e9 P el=Z sz) (d:eg (.slc sz x lo hi mx) e h nx=Z R):gD P o e.get h.get R.eff:=by
 simp only[eg]at d;split at d
 .rename_i v I;split at d
  ·
   rename_i k k';split at d
   .rename_i hsl;rw[du d];refine gD.reads λφ E h' w a _ hp _=>?_
    have hr:=hp x _ (by rw[D];simp[Op.operands]) I;have F:∃A n c,a.eval x= .slice A n c:=by
     generalize a.eval x=z at hr;obtain⟨n,hn⟩:=iM.1 hsl;unfold AV.slen at hn;split at hn
     .cases hr with
      |f hr=>cases hr with
       |nil=>exact⟨_,_,_,rfl⟩
       |sl=>exact⟨_,_,_,rfl⟩
     .cases eJ hr;exact⟨_,_,_,rfl⟩
     .cases hr;exact⟨_,_,_,rfl⟩
     .cases hr;exact⟨_,_,_,rfl⟩
     .cases hr;exact⟨_,_,_,rfl⟩
     .cases hn
    obtain⟨A,n,c,F⟩:=F;have s1:=fX hs w;refine ⟨.slice A 0 0,?_,.emp⟩;unfold execOp;rw[D];have z0:∀k,a.eval (.const (.int k 0))= .int k 0:=λ_=>rfl
    simp[kK,oM,run_underlying hu,F,gE,ib,asIntOf,s1,z0]
   .cases d
  ·
   rename_i b;split at d
   .rename_i id sz' n k j hb;split at d
    .rename_i hc;simp only[cO,ak,bB,cQ]at hc;obtain⟨⟨rfl,h0⟩,h1⟩:=hc;split at d
     .rename_i blk hblk;split at d
      .rename_i hcl;simp only[ak]at hcl;obtain⟨hcells,hlen⟩:=hcl;have hlen:=bc hlen;rw[BC.len_toMx hcells]at hlen;simp only[af]at d;subst d;intro φ E h' w a g1 g2 g3 hrep g5;have hp:R9 φ E h' w a e o:=λx y I s=>rJ hrep g3 I s
       have hb':h' id=Z blk:=by rw[g1 id (by simp[zZ.eff])];exact hblk
       have hr:=hp x _ (by rw[D];simp[Op.operands]) I;have hbv:=eJ (hp b _ (by rw[D];simp[Op.operands]) hb);have hnx:φ nx=U:=g5 nx (by simp[zZ.eff]);generalize F:a.eval x=z at hr;cases hr with
       |@row _ _ _ c q hφ hn hcap hsh=>
        obtain⟨arr,a1,a2,a3⟩:=hrep.cs hb' hφ hcells;have s1:=fX hs w;have hne:nx≠id:=λe=>by rw[e,hφ]at hnx;cases hnx
        have hnw1:iV [(nx,⟨blk.ty,oB (blk.c.toMx.take (j.toNat*sz'))⟩)] nx=Z (⟨blk.ty,oB (blk.c.toMx.take (j.toNat*sz'))⟩:u_):=by simp[iV]
        have hnw2:iV [(nx,⟨blk.ty,oB (blk.c.toMx.take (j.toNat*sz'))⟩)] id=U:=by
         simp only[iV];rw[aM];intro hb;exact hne (au hb)
        have a4:=a2.take (j.toNat*sz');obtain⟨φ',p1,p2,p3,p4⟩:=hrep.wren hb' hφ hnx (w':=w) ⟨rfl,rfl,rfl,rfl,a1,λ_ _=>rfl,λ_=>rfl⟩ (b':=⟨blk.ty,oB (blk.c.toMx.take (j.toNat*sz'))⟩) (by
         obtain⟨q1,q2⟩:=nJ (blk.c.toMx.take (j.toNat*sz'));refine pR q2 (by rw[q1,cg];omega) λi x I=>?_
         rw[q1]at I;have hi:i<((arr.toList.take blk.c.toMx.length).take (j.toNat*sz')).length:=by rw[a4.1];exact (bo.1 I).1
         refine ⟨a4.2.1 x (bi I),_,?_,a4.2.2 i x _ I (aw hi)⟩;have hi':i<arr.size:=by simp at hi;omega
         simp[hi']) _ hnw1 hnw2
        have hrun:(execOp a.eval o).run P w= .ok (.value (.slice (Z ⟨q,0,U⟩) j.toNat c)) w:=by
         unfold execOp;rw[D];simp[kK,oM,run_underlying hu,F,gE,ib,asIntOf,s1,hbv,h0,show j<=c by omega,jR]
        unfold GY;rw[hrun];exact⟨_,φ',rfl,p2,p3,p4,.row p1 (by omega) hcap hsh⟩
      .cases d
     .cases d
    .cases d
   .rename_i cells n k j hb;split at d
    .rename_i hc;simp only[cO,ak,bB]at hc;obtain⟨⟨h0,h1⟩,h2⟩:=hc;have h2:=bc h2;rw[du d];refine gD.reads λφ E h' w a _ hp _=>?_
     have hr:=hp x _ (by rw[D];simp[Op.operands]) I;have hbv:=eJ (hp b _ (by rw[D];simp[Op.operands]) hb);generalize F:a.eval x=z at hr;have s1:=fX hs w;cases hr with
     |f hr=>
      cases hr with
      |nil A c hc=>
       have hj:j=0:=by omega
       subst hj;refine ⟨.slice A 0 c,?_,by simpa using cK.f (.nil A c hc)⟩;unfold execOp;rw[D];cases A<;>simp[kK,oM,run_underlying hu,F,gE,ib,asIntOf,s1,hbv,afv]
      |sl _ _ c q off us hn hc hO hq hcl L hr=>
       refine ⟨.slice (Z ⟨q,off,U⟩) j.toNat c,?_,.f (.sl _ _ _ _ _ us (by omega) hc hO hq (λy s=>hcl y (fH s)) (λi hi=>L i (by rw[cg]at hi;omega)) λi y s=>?_)⟩
       .unfold execOp;rw[D];simp[kK,oM,run_underlying hu,F,gE,ib,asIntOf,s1,hbv,h0,show j<=c by omega,jR]
       .rw[cC]at s;split at s
        .exact hr i y s
        .cases s
    .cases d
   .cases d
  ·
   rename_i b;split at d
   .rename_i id sz' n k j hb;split at d
    .rename_i hc;simp only[cO,fE,ak,bB,cQ]at hc;obtain⟨⟨rfl,h0⟩,h1⟩:=hc;rw[du d];refine gD.reads λφ E h' w a _ hp _=>?_
     have hr:=hp x _ (by rw[D];simp[Op.operands]) I;have hbv:=eJ (hp b _ (by rw[D];simp[Op.operands]) hb);generalize F:a.eval x=z at hr;cases hr with
     |@row _ _ _ c q hφ hn hc hsh=>
      have s1:=fX hs w;refine ⟨.slice (Z ⟨q,0+j.toNat*sz',U⟩) (n-j.toNat) (c-j.toNat),?_,?_⟩
      .unfold execOp;rw[D];simp[kK,oM,run_underlying hu,F,gE,ib,asIntOf,s1,hbv,h0,show j<=n by omega,show ¬c=j.toNat by omega,jR]
      .rw[bM];exact .sl hφ (by omega) (by omega)
    .cases d
   .rename_i cells n k j hb;split at d
    .rename_i hc;simp only[cO,ak,bB]at hc;obtain⟨⟨h0,h1⟩,h2⟩:=hc;have h2:=bc h2;rw[du d];refine gD.reads λφ E h' w a _ hp _=>?_
     have hr:=hp x _ (by rw[D];simp[Op.operands]) I;have hbv:=eJ (hp b _ (by rw[D];simp[Op.operands]) hb);generalize F:a.eval x=z at hr;have s1:=fX hs w;cases hr with
     |f hr=>
      cases hr with
      |nil A c hc=>
       have hj:j=0:=by omega
       subst hj;have hex:∃A',(execOp a.eval o).run P w= .ok (.value (.slice A' 0 c)) w:=by
        unfold execOp;rw[D];cases A with
        |none=>exact⟨U,by simp[kK,oM,run_underlying hu,F,gE,ib,asIntOf,s1,hbv]⟩
        |some A=>exact⟨Z A,by simp[kK,oM,run_underlying hu,F,gE,ib,asIntOf,s1,hbv,afv]⟩
       obtain⟨A',hex⟩:=hex;exact⟨.slice A' 0 c,hex,by simpa using cK.f (.nil A' c hc)⟩
      |sl _ _ c q off us hn hc hO hq hcl L hr=>
       by_cases hcj:c=j.toNat
       .refine ⟨.slice (Z ⟨q,off,U⟩) 0 0,?_,?_⟩
        .unfold execOp;rw[D];simp[kK,oM,run_underlying hu,F,gE,ib,asIntOf,s1,hbv,h0,show j<=n by omega,hcj,show n-j.toNat=0 by omega,jR]
        .rw[show n-j.toNat=0 by omega];simpa using cK.f (.nil (Z ⟨q,off,U⟩) 0 (by unfold maxLen;omega))
       .refine ⟨.slice (Z ⟨q,off+j.toNat*sz,U⟩) (n-j.toNat) (c-j.toNat),?_,.f (.sl _ _ _ _ _ (λi=>us (j.toNat*sz+i)) (by omega) (by omega) hO hq (λy s=>hcl y (List.mem_of_mem_drop (fH s))) (λi hi=>?_) λi y s=>?_)⟩
        .unfold execOp;rw[D];simp[kK,oM,run_underlying hu,F,gE,ib,asIntOf,s1,hbv,h0,show j<=n by omega,hcj,jR]
        .rw[wg];refine L _ ?_;rw[cg,kF]at hi;omega
        .rw[cC]at s;split at s
         .rw[gW]at s;exact hr _ y s
         .cases s
    .cases d
   .cases d
  ·
   rename_i b b' _;split at d
   .rename_i cells n k j k' j' hb hb';split at d
    .rename_i hc;simp only[cO,ak,bB]at hc;obtain⟨⟨⟨hjj,h0⟩,h1⟩,h2⟩:=hc;subst hjj;have h2:=bc h2;rw[du d];refine gD.reads λφ E h' w a _ hp _=>?_
     have hr:=hp x _ (by rw[D];simp[Op.operands]) I;have hbv:=eJ (hp b _ (by rw[D];simp[Op.operands]) hb);have hbv':=eJ (hp b' _ (by rw[D];simp[Op.operands]) hb');generalize F:a.eval x=z at hr;have s1:=fX hs w;cases hr with
     |f hr=>
      cases hr with
      |nil A c hc=>
       have hj:j=0:=by omega
       subst hj;refine ⟨.slice A 0 0,?_,by simpa using cK.ful (mA.nil A 0 (by unfold maxLen;omega))⟩;unfold execOp;rw[D];cases A<;>simp[kK,oM,run_underlying hu,F,gE,ib,asIntOf,s1,hbv,hbv',afv]
      |sl _ _ c q off us hn hc hO hq hcl L hr=>
       refine ⟨.slice (Z ⟨q,off,U⟩) j.toNat j.toNat,?_,.ful (.sl _ _ _ _ _ us (cN _) (by omega) hO hq (λy s=>hcl y (fH s)) (λi hi=>L i (by rw[cg]at hi;omega)) λi y s=>?_)⟩
       .unfold execOp;rw[D];simp[kK,oM,run_underlying hu,F,gE,ib,asIntOf,s1,hbv,hbv',h0,show j<=c by omega,jR];intro hlt;omega
       .rw[cC]at s;split at s
        .exact hr i y s
        .cases s
    .cases d
   .cases d
  .cases d
 .cases d
theorem Yt {sz:Nat} {x:AV} {src:Y AV} {m:Nat} {rd:ι} (hrow:x.row? h sz=Z (src,m,rd)) {φ:PM} {E:Nat->Prop} {h':HF} {w:World} (hrd:∀i∈rd,h' i=h.get i) (hrep:qI φ E h' w) {v:Value} (hr:cK φ (tot E φ h') w x v):
 ∃A c vs,v= .slice A m c/\Cs φ (tot E φ h') w src vs/\vs.length=m*sz/\(A=U->vs=[])/\(∀s,A=Z s->∀(j:Nat) u,vs[j]? =Z u->w.cell? (s.add j)=Z u):=by
 have emp:∀A c,v= .slice A 0 c->src=[]->m=0->∃A c vs,v= .slice A m c/\Cs φ (tot E φ h') w src vs/\vs.length=m*sz/\(A=U->vs=[])/\(∀s,A=Z s->∀(j:Nat) u,vs[j]? =Z u->w.cell? (s.add j)=Z u):=by
  rintro A c rfl rfl rfl;exact⟨A,c,[],rfl,⟨rfl,(by intro x d;cases d),(by intro j x v d;simp at d)⟩,by simp,λ_=>rfl,by intro s _ j u hu;simp at hu⟩
 have own:∀(id off n c k:Nat) (b:u_),φ id=Z k->h' id=Z b->b.c.isCells=M->off+n*sz<=b.c.len->v= .slice (Z ⟨k,off,U⟩) n c->src=(b.c.toMx.drop off).take (n*sz)->m=n->
  ∃A c vs,v= .slice A m c/\Cs φ (tot E φ h') w src vs/\vs.length=m*sz/\(A=U->vs=[])/\(∀s,A=Z s->∀(j:Nat) u,vs[j]? =Z u->w.cell? (s.add j)=Z u):=by
  rintro id off n c k b hφ hb hc hle rfl rfl rfl;obtain⟨arr,L,I,g3⟩:=hrep.cs hb hφ hc;rw[BC.len_toMx hc]at hle;refine ⟨_,c,((arr.toList.take b.c.toMx.length).drop off).take (m*sz),rfl,(I.drop off).take _,?_,(λh=>by cases h),?_⟩
  .simp;omega
  .intro s had j u hu;cases had;rw[jR];rw[cC]at hu;split at hu
   .rw[gW,cC]at hu;split at hu
    .rw[cq]at hu;simp[MW,L,hu]
    .cases hu
   .cases hu
 unfold AV.row? at hrow;split at hrow
 .rename_i cells n;split at hrow
  .rename_i hle;have hle:=bc hle;simp only[af,aC]at hrow;obtain⟨rfl,rfl,rfl⟩:=hrow;cases hr with
   |f hr=>
    cases hr with
    |nil a c hc=>exact emp a c rfl (by simp) rfl
    |sl _ _ c b off us hn hc hO hb hcl hu hr=>
     refine ⟨_,c,(gx (n*sz)).map us,rfl,⟨by simp;omega,λx d=>?_,λj x u d z=>?_⟩,by simp,(λh=>by cases h),?_⟩
     .obtain⟨y,F,rfl⟩:=cZ.1 d;exact hcl y (fH F)
     .obtain⟨rfl,hj⟩:=wK us _ _ _ z;rw[bk,cC,aW hj]at d;cases hq:cells[j]? with
      |none=>rw[hq]at d;cases d
      |some q=>rw[hq]at d;simp at d;subst d;exact .f (hr j q hq)
     .intro s had j u z;cases had;obtain⟨rfl,hj⟩:=wK us _ _ _ z;rw[jR];exact hu j (by omega)
  .cases hrow
 .simp only[af,aC]at hrow;obtain⟨rfl,rfl,rfl⟩:=hrow;exact emp U 0 (eJ hr) rfl rfl
 .simp only[af,aC]at hrow;obtain⟨rfl,rfl,rfl⟩:=hrow;cases hr with
  |@emp a=>exact emp a 0 rfl rfl rfl
 .rename_i id sz' n;split at hrow
  .rename_i hsz;split at hrow
   .rename_i b hb;split at hrow
    .rename_i hc;simp only[ak]at hc;simp only[af,aC]at hrow;obtain⟨rfl,rfl,rfl⟩:=hrow;cases hr with
     |@row _ _ _ c k hφ hn D hsh=>
      exact own id 0 n c k b hφ (by rw[hrd id (by simp)];exact hb) hc.1 (by rw[bM];exact bc hc.2) rfl (by simp) rfl
    .cases hrow
   .cases hrow
  .cases hrow
 .rename_i id off n;split at hrow
  .rename_i b hb;split at hrow
   .rename_i hc;simp only[ak]at hc;simp only[af,aC]at hrow;obtain⟨rfl,rfl,rfl⟩:=hrow;cases hr with
    |@sl _ _ _ c k hφ hn D=>exact own id off n c k b hφ (by rw[hrd id (by simp)];exact hb) hc.1 (bc hc.2) rfl rfl rfl
   .cases hrow
  .cases hrow
 .cases hrow
theorem aba {sz:Nat} {x:AV} {src:Y AV} {m:Nat} {rd:ι} (hrow:x.row? h sz=Z (src,m,rd)) {φ:PM} {E:Nat->Prop} {h':HF} {w:World} (hrd:∀i∈rd,h' i=h.get i) (hrep:qI φ E h' w) {v:Value} (hr:cK φ (tot E φ h') w x v) {d el:TypeId} (hk:P.underlying d=Z (.slice el)):
 ∃vs,Src P sz d v m vs w/\Cs φ (tot E φ h') w src vs:=by
 obtain⟨A,c,vs,rfl,h1,h2,z,s⟩:=Yt hrow hrd hrep hr;refine ⟨vs,?_,h1⟩;cases A with
 |none=>
  have:=z rfl;subst this;have hm:m*sz=0:=by simpa using h2.symm
  refine ⟨.inl ⟨el,hk⟩,λ_=>rfl,run_firstCells_none w sz m m c,run_firstCells_none w.drew sz m m c,by simp[hm],λ_ h=>by cases h⟩
 |some q=>exact Src.ofSlice w hk q m c vs h2 (s q rfl) h1.one
theorem afa {x:Nat}:∀{l:ι},Wa x l=M↔x∈l
 |[]=>by simp[Wa]
 |y::r=>by
  simp only[Wa,iS,afa (l:=r),bx];constructor
  .rintro (h|h)
   .exact .inl (au h).symm
   .exact .inr h
  .rintro (h|h)
   .subst h;exact .inl (ru x)
   .exact .inr h
theorem ag6 {t u el el':TypeId} {d x:Operand} {sz:Nat} (L:o.op= .call {callee:=.builtin .copy,args:=#[d,x],argTypes:=#[t,u]}) (hu:P.underlying t=Z (.slice el)) (hu':P.underlying u=Z (.slice el')) (hs:e9 P el=Z sz) (s:eg (.copy sz d x) e h nx=Z R):gD P o e.get h.get R.eff:=by
 simp only[eg]at s;split at s
 .rename_i id sz' n y hd hx;split at s
  .rename_i blk src m rd hblk hrow;split at s
   .rename_i hc;simp only[ak,cQ,ec]at hc;obtain⟨⟨rfl,hmem⟩,hlen⟩:=hc;split at s
    .rename_i c' hput;simp only[af]at s;subst s;unfold BC.put at hput;split at hput
     .rename_i hcc;simp only[ak]at hcc;obtain⟨⟨c1,I⟩,c3⟩:=hcc;have I:=bc I;rw[bM]at I;have z:c'.toMx=splice blk.c.toMx 0 (src.take (iQ m n*sz'))/\c'.isCells=M:=by
       split at hput
       .rename_i l ys hbl hys;simp only[af]at hput;subst hput;refine ⟨?_,rfl⟩;have hv:=pF hys;rw[hv,hbl];simp only[BC.toMx];unfold splice;simp[py,List.map_drop]
       .simp only[af]at hput;subst hput;exact⟨rfl,rfl⟩
      refine gD.writes hblk λφ E h' w a hrd hb' hp hrep=>?_
      have hpd:=hp d _ (by rw[L];simp[Op.operands,dQ]) hd;have hpx:=hp x _ (by rw[L];simp[Op.operands,dQ]) hx;obtain⟨A,c,vs,hv,q1,q2,q3,q4⟩:=Yt hrow (λi hi=>hrd i (by simp[hi])) hrep hpx;generalize hz:a.eval d=pv at hpd;cases hpd with
      |@row _ _ _ cap k hφ hn hcap hsh=>
       obtain⟨arr,g1,g2,g3⟩:=hrep.cs hb' hφ c1;rw[BC.len_toMx c1]at I;have hmn:iQ m n<=m:=Nat.min_le_left _ _;have hle:iQ m n*sz'<=m*sz':=cA _ hmn
       let ns:=vs.take (iQ m n*sz')
       have hnl:ns.length=iQ m n*sz':=by simp only[ns,cg,q2];omega
       have hsl:(src.take (iQ m n*sz')).length=iQ m n*sz':=by rw[cg,<-q1.1,q2];omega
       have csn:=q1.take (iQ m n*sz');rw[hsl]at I;have hst:=run_storeCells_at (P:=P) k 0 blk.ty ns 0 arr w g1 (by rw[hnl];omega) csn.one
       let arr':Array Value:=(arr.toList.take 0++ns++arr.toList.drop (0+iQ m n*sz')).toArray
       have hsize:arr'.size=arr.size:=by simp only[arr',sJ,b7,cg,kF,iw,hnl];omega
       have hfc:(xh sz' (iQ m n) (.slice A m c)).run P w= .ok ns.toArray w:=by
        cases A with
        |none=>
         have:ns=[]:=by simp[ns,q3 rfl]
         rw[this];exact run_firstCells_none w sz' _ _ _
        |some ad=>exact run_firstCells_some w sz' _ ad m c ns hnl (λj u hu=>q4 ad rfl j u (by
          simp only[ns,cC]at hu;split at hu
          .exact hu
          .cases hu))
       refine ⟨.value (.int .i64 (iQ m n)),w.setRow k arr',k,.cells arr' blk.ty (0,0),?_,hφ,Et.setRow g1 hsize,?_,_,.inl rfl,.f (.raw _)⟩
       .have s1:=fX hs w;simp only[dc,hnl]at hst;unfold execOp;rw[L];simp[resolve,invoke,builtin,Builtin.copy_,run_underlying hu,hz,hv,Builtin.lenOf,s1,hfc,hst,goInt,arr']
       .refine pR z.2 (by rw[z.1,oh (by rw[hsl];omega),hsize];exact g3) λj q hq=>?_
        rw[z.1,mO (by rw[hsl];omega)]at hq;have ha':arr'[j]? =if j<0 then arr.toList[j]? else if j<0+ns.length then ns[j-0]? else arr.toList[j]? :=by
         have:=mO (l:=arr.toList) (vs:=ns) (off:=0) (by simp only[iw];omega) j;unfold splice at this;simp only[arr',ky];rw[<- this,hnl]
        rw[ha',aM (by omega)];rw[aM (by omega),hsl]at hq;rw[hnl];by_cases h2:j<0+iQ m n*sz'
        .rw[aW h2]at hq ⊢;have D:j-0<ns.length:=by rw[hnl];omega
         exact⟨csn.2.1 q (bi hq),_,aw D,csn.2.2 _ q _ hq (aw D)⟩
        .rw[aM h2]at hq ⊢;have hj:j<blk.c.toMx.length:=(bo.1 hq).1;have F:j<arr.toList.length:=by simp;omega
         refine ⟨g2.2.1 q (bi hq),arr.toList[j],aw F,g2.2.2 j q _ hq ?_⟩;rw[cC,aW hj,aw F]
     .cases hput
    .cases s
   .cases s
  .cases s
 .cases s
theorem aj7 {t el:TypeId} {sz:Nat} {z:ξ} {x:Operand} (ho:o.op= .call {callee:=.builtin .clear,args:=#[x],argTypes:=#[t]}) (hu:P.underlying t=Z (.slice el)) (hz:sA P el=Z z) (hc:mK z=M) (hl:z.length=sz) (hsz:sz≠0) (s:eg (.clr sz z x) e h nx=Z R):gD P o e.get h.get R.eff:=by
 simp only[eg]at s;split at s
 .rename_i id off n hx;split at s
  .rename_i blk hblk;split at s
   .rename_i hn;have hn:=bc hn;obtain⟨m,rfl⟩:∃m,n=m+1:=⟨n-1,by omega⟩
    split at s
    .rename_i c' hput;simp only[af]at s;subst s;unfold BC.put at hput;split at hput
     .rename_i hcc;simp only[ak]at hcc;obtain⟨⟨c1,I⟩,c3⟩:=hcc;have I:=bc I;have hsrc:((repl z (m+1)).map AV.f).length=(m+1)*sz:=by rw[cz,mP,hl]
      rw[hsrc]at I;have A:c'.toMx=splice blk.c.toMx off ((repl z (m+1)).map AV.f)/\c'.isCells=M:=by
       split at hput
       .rename_i l ys hbl hys;simp only[af]at hput;subst hput;refine ⟨?_,rfl⟩;have hv:=pF hys;rw[hv,hbl];simp only[BC.toMx];unfold splice;simp[py,List.map_drop]
       .simp only[af]at hput;subst hput;exact⟨rfl,rfl⟩
      refine gD.writes hblk λφ E h' w a hrd L hp hrep=>?_
      have hpx:=hp x _ (by rw[ho];simp[Op.operands,dQ]) hx;generalize hzv:a.eval x=pv at hpx;cases hpx with
      |@sl _ _ _ cap k hφ hn2 hcap=>
       obtain⟨arr,g1,F,g3⟩:=hrep.cs L hφ c1;rw[BC.len_toMx c1]at I;obtain⟨v,z1,z2,_⟩:=sY hz w;have csn:=Cs.repl (φ:=φ) (O:=tot E φ h') (w:=w) z2 (m+1) sz hl hsz hc
       let ns:=(lE v.cells (m+1)).toList
       have hvs:v.cells.size=sz:=by rw[<- hl,<-z2];simp
       have hns:ns=((xL ((m+1)*sz)).map (λi=>v.cells[i%v.cells.size]!)).toList:=by simp only[ns,lE,hvs]
       have hnl:ns.length=(m+1)*sz:=by rw[hns];simp
       rw[<- hns]at csn;have hst:=run_storeCells_at (P:=P) k off blk.ty ns 0 arr w g1 (by rw[hnl];omega) csn.one
       let arr':Array Value:=(arr.toList.take (off+0)++ns++arr.toList.drop (off+0+ns.length)).toArray
       have hsize:arr'.size=arr.size:=by simp only[arr',sJ,b7,cg,kF,iw,hnl];omega
       refine ⟨.value (.tuple #[]),w.setRow k arr',k,.cells arr' blk.ty (0,0),?_,hφ,Et.setRow g1 hsize,?_,_,.inl rfl,.tup (vs:=[]) rfl λj y v hy=>by simp at hy⟩
       .unfold execOp;rw[ho];have hst2:(storeCells ⟨k,off,U⟩ (lE v.cells (m+1)).toList).run P w= .ok () (w.setRow k arr'):=hst;simp[resolve,invoke,builtin,Builtin.clear_,run_underlying hu,hzv,z1,hst2]
       .refine pR A.2 (by rw[A.1,oh (by rw[hsrc];omega),hsize];exact g3) λj q hq=>?_
        rw[A.1,mO (by rw[hsrc];omega)]at hq;have ha':arr'[j]? =if j<off then arr.toList[j]? else if j<off+ns.length then ns[j-off]? else arr.toList[j]? :=by
         have:=mO (l:=arr.toList) (vs:=ns) (off:=off) (by simp only[iw];omega) j;unfold splice at this;simp only[arr',ky,dc];rw[<- this]
        rw[ha'];rw[hsrc]at hq;rw[hnl];by_cases h1:j<off
        .rw[aW h1]at hq ⊢;have hj:j<blk.c.toMx.length:=(bo.1 hq).1;have d:j<arr.toList.length:=by simp;omega
         refine ⟨F.2.1 q (bi hq),arr.toList[j],aw d,F.2.2 j q _ hq ?_⟩;rw[cC,aW hj,aw d]
        rw[aM h1]at hq ⊢;by_cases h2:j<off+(m+1)*sz
        .rw[aW h2]at hq ⊢;have D:j-off<ns.length:=by rw[hnl];omega
         exact⟨csn.2.1 q (bi hq),_,aw D,csn.2.2 _ q _ hq (aw D)⟩
        .rw[aM h2]at hq ⊢;have hj:j<blk.c.toMx.length:=(bo.1 hq).1;have d:j<arr.toList.length:=by simp;omega
         refine ⟨F.2.1 q (bi hq),arr.toList[j],aw d,F.2.2 j q _ hq ?_⟩;rw[cC,aW hj,aw d]
     .cases hput
    .cases s
   .cases s
  .cases s
 .cases s
end
theorem LL (w:World) (ob:Obj):Rz w (w.drew.alloc ob) ob:=Rz.drawn (w.drawn+1) (qL {w with drawn:=w.drawn+1} ob)
section
variable {P:Program} {o:Oper} {e:yW} {h:mh} {nx:Nat} {R:zZ}
theorem Ho {v:Value} {z:ξ} {sz:Nat} (hv:v.cells.toList=z) (hl:z.length=sz) (n:Nat):(lE v.cells n).size=n*sz:=by
 have:v.cells.size=sz:=by rw[<- hl,<-hv];simp
 simp[lE,this]
theorem JV {t u el:TypeId} {s x:Operand} {i:TypeInfo} {z:ξ} (ho:o.op= .call {callee:=.builtin .append,args:=#[s,x],argTypes:=#[t,u]}) (hu:P.underlying t=Z (.slice el)) (F:P.info? el=Z i) (hz:sA P el=Z z) (hzl:z.length=i.size)
 {φ:PM} {E:Nat->Prop} {h':HF} {w:World} {a:Act} (hrep:qI φ E h' w) (hnx:φ nx=U) {A:J Addr} {n cap m:Nat} {olds vs:ξ} {oldA src:Y AV} (hsl:a.eval s= .slice A n cap)
 (hold:(xh i.size n (.slice A n cap)).run P w.drew= .ok olds.toArray w.drew) (csold:Cs φ (tot E φ h') w oldA olds) (hol:olds.length=n*i.size) (hsrc:Src P i.size u (a.eval x) m vs w) (hcs:Cs φ (tot E φ h') w src vs)
 (hg:cap<n+m) (r1:n+m<=1099511627776) (r2:(n+m)*i.bytes<=1099511627776) (del:ι) (hdel:∀j∈del,j≠nx):
 o.wp P a w (λa' w'=>∃v φ',a'=a.put o.dst v/\iZ φ φ' h' (eG h' (nx::del) (iV [(nx,⟨el,oB (oldA++src)⟩)])) w w'/\(∀i k,φ' i=Z k->φ i=Z k\/i∈[nx])/\
  qI φ' E (eG h' (nx::del) (iV [(nx,⟨el,oB (oldA++src)⟩)])) w'/\cK φ' (tot E φ' (eG h' (nx::del) (iV [(nx,⟨el,oB (oldA++src)⟩)]))) w' (.row nx i.size (n+m)) v) (λ_ _ _=>False):=by
 obtain⟨D,z1,L,i',d,I⟩:=sY hz w;rw[F]at d;cases d;have hfb:=growslice_fits (need:=n+m) (old:=cap) (bytes:=i.bytes) hg (by omega);have hrun:=run_append_grow_src w t u o.type el i D hu F I A n cap olds hold (a.eval x) m vs hsrc hg (by omega) hfb;have hgc:=grownCap_ge w (n+m) cap el;have hgm:=grownCap_le_maxLen w (n+m) cap el (by unfold maxLen;omega);generalize grownCap w (n+m) cap el=Gc at hrun hgc hgm;have cs:=csold.append hcs;have hnl:=hsrc.newsLen;obtain⟨φ',p1,p2,p3,p4⟩:=hrep.wnew hnx (LL w _) (b:=⟨el,oB (oldA++src)⟩) (ob:=.cells ((olds++vs).toArray++lE D.cells (Gc-(n+m))) el (0,0)) (by
  obtain⟨q1,q2⟩:=nJ (oldA++src);refine pR q2 (by rw[q1,<-cs.1];simp) λj q hq=>?_
  rw[q1]at hq;have hj:j<(olds++vs).length:=by rw[cs.1];exact (bo.1 hq).1
  refine ⟨cs.2.1 q (bi hq),_,?_,cs.2.2 j q _ hq (aw hj)⟩;rw[Array.getElem?_append_left (by simpa using hj),ky,aw hj]) del (iV [(nx,⟨el,oB (oldA++src)⟩)]) (by simp[iV]) (λj hj hne=>by
   simp only[iV];rw[aM];intro hb;exact hne (au hb).symm)
 have hexec:(execOp a.eval o).run P w= .ok (.value (.slice (Z ⟨w.heap.size,0,U⟩) (n+m) Gc)) (w.drew.alloc (.cells ((olds++vs).toArray++lE D.cells (Gc-(n+m))) el)):=by
  unfold execOp;rw[ho];simp only[resolve,invoke,builtin,eA,oI,cL,List.map_toArray,eY,List.map_nil,hsl,hrun]
 unfold GY;rw[hexec];refine ⟨_,φ',rfl,p2,p3,p4,.row p1 hgc hgm ⟨el,?_⟩⟩;have:=(LL w (.cells ((olds++vs).toArray++lE D.cells (Gc-(n+m))) el (0,0))).at_;unfold rk;rw[this];have hzs:=Ho L hzl (Gc-(n+m));have e1:(n+m)*i.size+(Gc-(n+m))*i.size=Gc*i.size:=by rw[<- MX];congr 1;omega
 simp only[Array.size_append,sJ,b7,hol,hnl,hzs];congr 2;rw[<- e1,MX]
theorem aja {t u el el':TypeId} {s x:Operand} {sz bytes:Nat} {z:ξ} (I:o.op= .call {callee:=.builtin .append,args:=#[s,x],argTypes:=#[t,u]}) (hu:P.underlying t=Z (.slice el)) (hu':P.underlying u=Z (.slice el')) (hs:e9 P el=Z sz) (hb:El P el=Z bytes) (hz:sA P el=Z z) (hzl:z.length=sz) (hsz:sz≠0)
 (D:eg (.app el sz bytes s x) e h nx=Z R):gD P o e.get h.get R.eff:=by
 obtain⟨i,i1,i2⟩:=MI hb;have i3:i.size=sz:=by unfold e9 at hs;rw[i1]at hs;simpa using hs
 subst i2;subst i3;simp only[eg]at D;split at D
 .rename_i bv y hsv d;split at D
  .rename_i src m rd hrow;have common:∀{φ:PM} {E:Nat->Prop} {h':HF} {w:World} {a:Act},(∀i∈rd,h' i=h.get i)->R9 φ E h' w a e o->qI φ E h' w->∃vs,Src P i.size u (a.eval x) m vs w/\Cs φ (tot E φ h') w src vs:=
    λhrd hp hrep=>aba hrow hrd hrep (hp x _ (by rw[I];simp[Op.operands,dQ]) d) hu'
   have exec:∀{w w':World} {a:Act} {v:Value},(EC #[t,u] o.type #[a.eval s,a.eval x]).run P w= .ok v w'->(execOp a.eval o).run P w= .ok (.value v) w':=by
    intro w w' a v hrun;unfold execOp;rw[I];simp[resolve,invoke,builtin,hrun]
   split at D
   .rename_i id sz' n;split at D
    .rename_i blk hblk;split at D
     .rename_i hc;simp only[ak,cQ,ec]at hc;obtain⟨⟨⟨⟨⟨rfl,hmem⟩,hcells⟩,hlen⟩,hty⟩,hroom⟩:=hc;have hlen:=bc hlen;rw[BC.len_toMx hcells]at hlen;obtain⟨r1,r2⟩:=BN hroom;simp only[af]at D;subst D;subst hty;intro φ E h' w a h1 h2 h3 hrep h5;have hp:R9 φ E h' w a e o:=λx y d hy=>rJ hrep h3 d hy
      have hb':h' id=Z blk:=by rw[h1 id (by simp[zZ.eff])];exact hblk
      obtain⟨vs,hsrc,hcs⟩:=common (λi hi=>h1 i (by simp[zZ.eff,hi])) hp hrep;have hpd:=hp s _ (by rw[I];simp[Op.operands,dQ]) hsv;have hnx:φ nx=U:=h5 nx (by simp[zZ.eff]);have hwv:=hp s _ (by rw[I];simp[Op.operands,dQ]) hsv;generalize hzv:a.eval s=pv at hpd;cases hpd with
      |@row _ _ _ cap k hφ hn hcap hsh=>
       obtain⟨arr,g1,g2,g3⟩:=hrep.cs hb' hφ hcells;have hne:nx≠id:=λe=>by rw[e,hφ]at hnx;cases hnx
       have harr:arr.size=cap*i.size:=by
        obtain⟨ty,hty⟩:=hsh;unfold rk at hty;rw[g1]at hty;simp at hty;exact hty.2
       have hnl:=hsrc.newsLen;have hnn:n*i.size<=arr.size:=by omega
       have csnew:Cs φ (tot E φ h') w (blk.c.toMx.take (n*i.size)++src) (arr.toList.take (n*i.size)++vs):=by
        have:=(g2.take (n*i.size)).append hcs
        rwa [List.take_take,Ey hlen]at this
       have hnw1:iV [(nx,⟨blk.ty,oB (blk.c.toMx.take (n*i.size)++src)⟩)] nx=Z ⟨blk.ty,oB (blk.c.toMx.take (n*i.size)++src)⟩:=by simp[iV]
       have hnw2:iV [(nx,⟨blk.ty,oB (blk.c.toMx.take (n*i.size)++src)⟩)] id=U:=by
        simp only[iV];rw[aM];intro hb;exact hne (au hb)
       by_cases hfit:n+m<=cap
       ·
        have hend:n*i.size+vs.length<=arr.size:=by
         rw[hnl,harr,<-MX];exact cA _ hfit
        have hst:=run_storeCells_at (P:=P) k (n*i.size) blk.ty vs 0 arr w g1 (by omega) hsrc.one;simp only[dc]at hst
        let arr':Array Value:=(arr.toList.take (n*i.size)++vs++arr.toList.drop (n*i.size+vs.length)).toArray
        have hsize:arr'.size=arr.size:=by simp only[arr',sJ,b7,cg,kF,iw];omega
        have hrun:(EC #[t,u] o.type #[a.eval s,a.eval x]).run P w= .ok (.slice (Z ⟨k,0,U⟩) (n+m) cap) (w.setRow k arr'):=by
         rw[hzv];rcases hsrc.kind with ⟨e',hk⟩|hk<;>simp[EC,run_underlying hu,run_underlying hk,sizeOf,typeInfo,i1,hsrc.len,hfit,hsrc.cells,jR,hst,arr']
        obtain⟨φ',p1,p2,p3,p4⟩:=hrep.wren hb' hφ hnx (Et.setRow g1 hsize) (b':=⟨blk.ty,oB (blk.c.toMx.take (n*i.size)++src)⟩) (by
         obtain⟨q1,q2⟩:=nJ (blk.c.toMx.take (n*i.size)++src);refine pR q2 (by rw[q1,<-csnew.1,hsize];simp;omega) λj q hq=>?_
         rw[q1]at hq;have hj:j<(arr.toList.take (n*i.size)++vs).length:=by rw[csnew.1];exact (bo.1 hq).1
         refine ⟨csnew.2.1 q (bi hq),_,?_,csnew.2.2 j q _ hq (aw hj)⟩;simp only[arr',ky];rw[bV hj,aw hj]) _ hnw1 hnw2
        unfold GY;rw[exec hrun];refine ⟨_,φ',rfl,p2,p3,p4,.row p1 hfit hcap ⟨blk.ty,?_⟩⟩;unfold rk;rw[setRow_heap w k arr arr' blk.ty (0,0) g1];simp[hsize,harr]
       ·
        have hold:(xh i.size n (.slice (Z ⟨k,0,U⟩) n cap)).run P w.drew= .ok (arr.toList.take (n*i.size)).toArray w.drew:=by
         refine run_firstCells_some w.drew i.size n _ n cap _ (by simp;omega) λj v hv=>?_
         rw[cC]at hv;split at hv
         .rw[cq]at hv;rw[jR,bM];have hcl:w.cell? ⟨k,j,U⟩=Z v:=by simp[MW,g1,hv]
          simpa using hcl
         .cases hv
        exact JV I hu i1 hz hzl hrep hnx hzv hold (by
         have:=g2.take (n*i.size)
         rwa [List.take_take,Ey hlen]at this) (by simp;omega) hsrc hcs (by omega) r1 r2 [id] (λj hj=>by simp at hj;subst hj;exact λe=>hne e.symm)
     .cases D
    .cases D
   .rename_i cells n;split at D
    .rename_i hc;simp only[ak]at hc;obtain⟨hlen,hroom⟩:=hc;have hlen:=bc hlen;obtain⟨r1,r2⟩:=BN hroom;split at D
     .rename_i hm;have hm:m=0:=by simpa using hm
      subst hm;simp only[af]at D;subst D;refine gD.reads λφ E h' w a hrd hp hrep=>?_
      obtain⟨vs,hsrc,hcs⟩:=common hrd hp hrep;have hr:=hp s _ (by rw[I];simp[Op.operands,dQ]) hsv;generalize hz:a.eval s=q at hr;cases hr with
      |@ful _ _ A hr=>
       refine ⟨.slice A n n,exec ?_,.f hr⟩;rw[hz];have hvs:vs=[]:=by have:=hsrc.newsLen;simpa using this
       have L:=hsrc.cells;rw[hvs]at L;rcases hsrc.kind with ⟨e',hk⟩|hk<;>cases A<;>simp[EC,run_underlying hu,run_underlying hk,sizeOf,typeInfo,i1,hsrc.len,L,storeCells]
     .rename_i hm;have hm:m≠0:=by simpa using hm
      simp only[af]at D;subst D;intro φ E h' w a h1 h2 h3 hrep h5;have hp:R9 φ E h' w a e o:=λx y d hy=>rJ hrep h3 d hy
      obtain⟨vs,hsrc,hcs⟩:=common (λi hi=>h1 i hi) hp hrep;have hr:=hp s _ (by rw[I];simp[Op.operands,dQ]) hsv;generalize hz':a.eval s=q at hr;cases hr with
      |@ful _ _ A hr=>
       have key:∃olds:ξ,(xh i.size n (.slice A n n)).run P w.drew= .ok olds.toArray w.drew/\Cs φ (tot E φ h') w ((cells.take (n*i.size)).map .f) olds/\olds.length=n*i.size:=by
        cases hr with
        |nil a c _=>
         refine ⟨[],?_,⟨by simp,(by intro x d;simp at d),(by intro j x v d;simp at d)⟩,by simp⟩;cases A with
         |none=>exact run_firstCells_none w.drew i.size 0 0 0
         |some ad=>exact run_firstCells_some w.drew i.size 0 ad 0 0 [] (by simp) (by intro j v hv;simp at hv)
        |sl _ _ c b off us hn hc hO hb hcl hu2 hrr=>
         refine ⟨(gx (n*i.size)).map us,?_,⟨by simp;omega,?_,?_⟩,by simp⟩
         .refine run_firstCells_some w.drew i.size n _ n n _ (by simp) λj v hv=>?_
          rw[bk]at hv;rcases bN j (n*i.size) with hj|hj
          .rw[vg hj]at hv;simp only[bW,af]at hv;subst hv;rw[jR];exact hu2 j (by omega)
          .rw[bK (by simpa using hj)]at hv;cases hv
         .intro x d;obtain⟨y,hy,rfl⟩:=cZ.1 d;exact hcl y (fH hy)
         .intro j x v d hv;rw[bk,cC]at d;split at d
          .rename_i hj;rw[bk,vg hj]at hv;simp only[bW,af]at hv;subst hv;cases hcj:cells[j]? with
           |none=>rw[hcj]at d;cases d
           |some y=>
            rw[hcj]at d;simp only[bW,af]at d;subst d;exact .f (hrr j y hcj)
          .cases d
       obtain⟨olds,k1,k2,k3⟩:=key;have:=JV (nx:=nx) I hu i1 hz hzl hrep (h5 nx (by simp[zZ.eff])) hz' k1 k2 k3 hsrc hcs (by omega) r1 r2 [] (by simp);simpa[zZ.eff] using this
    .cases D
   .split at D
    .rename_i hc;simp only[ak]at hc;obtain⟨F,hroom⟩:=hc;obtain⟨r1,r2⟩:=BN hroom;have hbase:∀{φ:PM} {O:Nat->Prop} {w:World} {v:Value},cK φ O w bv v->∃A,v= .slice A 0 0:=by
      intro φ O w v hr;unfold Ig at F;split at F
      .cases hr;exact⟨_,rfl⟩
      .rename_i q;cases eJ hr;unfold sS at F;split at F
       .exact⟨_,rfl⟩
       .cases F
      .cases F
     split at D
     .rename_i hm;have hm:m=0:=by simpa using hm
      subst hm;simp only[af]at D;subst D;refine gD.reads λφ E h' w a hrd hp hrep=>?_
      obtain⟨vs,hsrc,hcs⟩:=common hrd hp hrep;have hr:=hp s _ (by rw[I];simp[Op.operands,dQ]) hsv;obtain⟨A,hA⟩:=hbase hr;refine ⟨a.eval s,exec ?_,hr⟩;rw[hA];have hvs:vs=[]:=by have:=hsrc.newsLen;simpa using this
      have L:=hsrc.cells;rw[hvs]at L;rcases hsrc.kind with ⟨e',hk⟩|hk<;>cases A<;>simp[EC,run_underlying hu,run_underlying hk,sizeOf,typeInfo,i1,hsrc.len,L,storeCells]
     .rename_i hm;have hm:m≠0:=by simpa using hm
      simp only[af]at D;subst D;intro φ E h' w a h1 h2 h3 hrep h5;have hp:R9 φ E h' w a e o:=λx y d hy=>rJ hrep h3 d hy
      obtain⟨vs,hsrc,hcs⟩:=common (λi hi=>h1 i hi) hp hrep;obtain⟨A,hA⟩:=hbase (hp s _ (by rw[I];simp[Op.operands,dQ]) hsv);have hold:(xh i.size 0 (.slice A 0 0)).run P w.drew= .ok ([]:ξ).toArray w.drew:=by
       cases A with
       |none=>exact run_firstCells_none w.drew i.size 0 0 0
       |some ad=>exact run_firstCells_some w.drew i.size 0 ad 0 0 [] (by simp) (by intro j v hv;simp at hv)
      have:=JV (nx:=nx) (n:=0) (cap:=0) (olds:=[]) (oldA:=[]) I hu i1 hz hzl hrep (h5 nx (by simp[zZ.eff])) hA hold ⟨rfl,(by intro x d;cases d),(by intro j x v d;simp at d)⟩ (by simp) hsrc hcs (by omega) (by omega) (by simpa using r2) [] (by simp);simpa[zZ.eff] using this
    .cases D
  .cases D
 .cases D
end
section
variable {P:Program} {o:Oper} {e:yW} {h:mh} {nx:Nat} {R:zZ}
theorem aiy {t:TypeId} (s:o.op= .makeMap t U) (d:eg .mkm e h nx=Z R):gD P o e.get h.get R.eff:=by
 simp only[eg,af]at d;subst d;refine gD.makes λφ E h' w a _ _ _=>?_
 refine ⟨.map (Z w.heap.size),{w with heap:=w.heap.push (.map #[] 0)},.map #[] 0,?_,qL w _,⟨#[],0,rfl,by unfold VO;rw[aW rfl];rfl,by intro j x q;simp at q⟩,λφ' O hφ=>.mp hφ⟩;unfold execOp;rw[s];simp[Instr.makeMap,newObj,kf]
theorem ais {t:TypeId} {x:Operand} (q:o.op= .range t x) (hu:P.underlying t=Z .string) (d:eg (.rng x) e h nx=Z R):gD P o e.get h.get R.eff:=by
 simp only[eg]at d;split at d
 .rename_i s z;simp only[af]at d;subst d;refine gD.makes λφ E h' w a _ hp _=>?_
  have hr:=eJ (hp x _ (by rw[q];simp[Op.operands]) z);refine ⟨.pointer (Z ⟨w.heap.size,0,U⟩),{w with heap:=w.heap.push (.stringIter s 0)},.stringIter s 0,?_,qL w _,rfl,λφ' O hφ=>.ptr hφ⟩;unfold execOp;rw[q];simp[Instr.range,run_underlying hu,hr,newObj,kf]
 .cases d
theorem xS {w:World} {k:Nat} {ob ob':Obj} (hk:w.heap[k]? =Z ob) (h1:∀c t f,ob≠ .cells c t f) (h2:∀c t f,ob'≠ .cells c t f):Et w {w with heap:=w.heap.setIfInBounds k ob'} k ob':=by
 have hlt:k<w.heap.size:=(cr.1 hk).1;have hat:(w.heap.setIfInBounds k ob')[k]? =Z ob':=by simp[hlt]
 have hot:∀j,j≠k->(w.heap.setIfInBounds k ob')[j]? =w.heap[j]? :=λj hj=>pH (λe=>hj e.symm)
 refine ⟨rfl,rfl,rfl,by simp,hat,hot,λj=>?_⟩;unfold rk;by_cases hj:j=k
 .subst hj;simp only[hat,hk];cases ob<;>cases ob'<;>first|rfl|exact dR rfl (h1 _ _ _)|exact dR rfl (h2 _ _ _)
 .simp only[hot j hj]
theorem ait {x:Operand} (D:o.op= .next x M) (d:eg (.nxt x) e h nx=Z R):gD P o e.get h.get R.eff:=by
 simp only[eg]at d;split at d
 .rename_i id I;split at d
  .rename_i ty s p hid;split at d
   .rename_i b hb;simp only[af]at d;subst d;refine gD.writes hid λφ E h' w a hrd A hp hrep=>?_
    have hr:=hp x _ (by rw[D];simp[Op.operands]) I;generalize F:a.eval x=z at hr;cases hr with
    |@ptr _ _ k hφ=>
     obtain⟨k',q1,_,ob,q2,q3⟩:=hrep.at_ id _ A;rw[hφ]at q1;cases q1;have q3:ob= .stringIter s p:=q3;subst q3;have hps:p<s.size:=by
      have:=(bo.1 hb).1;simpa using this
     have hget:s.get! p=b:=by
      have:s.data[p]? =Z b:=by rw[<- cq];exact hb
      have hpd:p<s.data.size:=(cr.1 this).1;have h2:s.data[p]! =s.data[p]:=getElem!_pos s.data p hpd;rw[ij hpd]at this;simp only[ByteArray.get!,h2];exact jZ this
     have hdec:∃c:Nat,xJ s p=(c,wdA b s p)/\rnA b s p=(c:Int):=by
      unfold wdA rnA;cases hlt:eQ b.toNat 128 with
      |true=>
       refine ⟨b.toNat,?_,rfl⟩;have:=bc hlt;unfold xJ;simp only[dc,hget];rw[aW (by omega)];rfl
      |false=>exact⟨(xJ s p).1,rfl,rfl⟩
     obtain⟨c,hdec,hc⟩:=hdec;refine ⟨.value (.tuple #[.bool M,.int .i64 p,.int .i32 c]),_,k,.stringIter s (p+wdA b s p),?_,hφ,xS q2 (by simp) (by simp),rfl,_,.inl rfl,?_⟩
     .unfold execOp;rw[D];simp[Instr.next,F,getObj,kf,q2,hps,hdec,setObj,goInt]
     .refine cK.tup (vs:=[.bool M,.int .i64 p,.int .i32 c]) rfl λj y v q hv=>?_
      rw[hc]at q;rcases j with _|_|_|j<;>simp at q hv
      .subst q;subst hv;exact .f (.raw _)
      .subst q;subst hv;exact .f (.raw _)
      .subst q;subst hv;exact .f (.raw _)
   .rename_i hb;simp only[af]at d;subst d;refine gD.writes hid λφ E h' w a hrd A hp hrep=>?_
    have hr:=hp x _ (by rw[D];simp[Op.operands]) I;generalize F:a.eval x=z at hr;cases hr with
    |@ptr _ _ k hφ=>
     obtain⟨k',q1,_,ob,q2,q3⟩:=hrep.at_ id _ A;rw[hφ]at q1;cases q1;have q3:ob= .stringIter s p:=q3;subst q3;have hps:¬p<s.size:=by
      have:=List.getElem?_eq_none_iff.1 hb;have e:s.data.toList.length=s.size:=by simp
      omega
     refine ⟨.value (.tuple #[.bool aa]),w,k,.stringIter s p,?_,hφ,⟨rfl,rfl,rfl,rfl,q2,λ_ _=>rfl,λ_=>rfl⟩,rfl,_,.inl rfl,?_⟩
     .unfold execOp;rw[D];simp[Instr.next,F,getObj,kf,q2,hps]
     .refine cK.tup (vs:=[.bool aa]) rfl λj y v q hv=>?_
      rcases j with _|j<;>simp at q hv;subst q;subst hv;exact .f (.raw _)
  .cases d
 .cases d
theorem yU {a b:ByteArray}:rM a b=M↔a=b:=by
 unfold rM;constructor
 .intro h;have h1:a.data.toList=b.data.toList:=by simpa using h
  cases a;cases b;congr 1;exact Km h1
 .rintro rfl;simp
theorem Ek (a b:ByteArray):(a==b)=rM a b:=by
 have h1:(a==b)=(a.data==b.data):=rfl;rw[h1,ED,yU,cQ];constructor
 .intro h;cases a;cases b;congr 1
 .rintro rfl;rfl
def kd (str:Bool) (d:TypeDesc):Prop:=if str then d= .string else ∃k,d= .int k
theorem xY {str:Bool} {d:TypeDesc} (hd:kd str d) {k k':Value} (hk:yl str k=M) {b:Bool} (hb:sV .eql k k'=Z (.bool b)):Instr.sameNow d k k'=Z b:=by
 unfold kd at hd;cases str with
 |true=>
  simp only[bH]at hd;subst hd;cases k<;>simp[yl]at hk;cases k'<;>simp only[sV]at hb<;>try (simp at hb;done)
  simp only[af,Bx]at hb;simp[Instr.sameNow,Ek,hb]
 |false=>
  simp only[bO,dx]at hd;obtain⟨q,rfl⟩:=hd;cases k<;>simp[yl]at hk;cases k'<;>simp only[sV]at hb<;>try (simp at hb;done)
  split at hb
  .rename_i hkk;have hkk':=eq_of_beq hkk;subst hkk';simp only[af,Bx]at hb;simp[Instr.sameNow,<-hb]
  .cases hb
theorem Qj {str:Bool} {d:TypeDesc} (hd:kd str d) {k:Value} (hk:yl str k=M):∀(es:Y (Value×AV)) (ents:Y MapEntry) (i:Nat),ents.map (·.key)=es.map (·.1)->∀r,sQ k es=Z r->
 (r=U/\eF d k ents i=Z U)\/∃(j:Nat) (v:AV) (m:MapEntry) (k':Value),r=Z v/\es[j]? =Z (k',v)/\ents[j]? =Z m/\eF d k ents i=Z (Z (i+j,m.val))/\sV .eql k k'=Z (.bool M)
 |[],ents,i,he,r,h=>by
  cases ents with
  |nil=>simp only[sQ,af]at h;exact .inl ⟨h.symm,rfl⟩
  |cons _ _=>simp at he
 |(k',v)::es,ents,i,he,r,h=>by
  cases ents with
  |nil=>simp at he
  |cons m ents=>
   simp only[eY,iR]at he;obtain⟨q,s⟩:=he;simp only[sQ]at h;split at h
   .rename_i hb;simp only[af]at h;refine .inr ⟨0,v,m,k',h.symm,rfl,rfl,?_,hb⟩;simp only[eF];rw[q,xY hd hk hb];rfl
   .rename_i hb;have hs:=xY hd hk hb;rcases Qj hd hk es ents (i+1) s r h with ⟨h1,h2⟩|⟨j,z,m',k'',h1,h2,F,D,A⟩
    .refine .inl ⟨h1,?_⟩;simp only[eF];rw[q,hs];exact h2
    .refine .inr ⟨j+1,z,m',k'',h1,by simpa using h2,by simpa using F,?_,A⟩;simp only[eF];rw[q,hs];show eF d k ents (i+1)=_;rw[D,show i+1+j=i+(j+1) from by omega]
   .cases h
theorem sK {s:TypeId} {str:Bool} {d:TypeDesc} (hu:P.underlying s=Z d) (hd:kd str d) (b:Bool) (v:Value) (w:World):(Instr.checkKey b 10000 s v).run P w= .ok () w:=by
 have key:∀n,(Instr.checkKey b (n+1) s v).run P w= .ok () w:=λn=>by
  unfold kd at hd;cases str with
  |true=>simp only[bH]at hd;subst hd;simp[Instr.checkKey,run_underlying hu]
  |false=>simp only[bO,dx]at hd;obtain⟨q,rfl⟩:=hd;simp[Instr.checkKey,run_underlying hu]
 exact key 9999
theorem YB {φ:PM} {O:Nat->Prop} {w:World} {ok b:Bool} {x:AV} {v:Value} (h:cK φ O w x v):cK φ O w (pkV ok x b) (if ok then .tuple #[v,.bool b] else v):=by
 cases ok with
 |false=>exact h
 |true=>
  refine cK.tup (vs:=[v,.bool b]) rfl λj y u d hv=>?_
  rcases j with _|_|j<;>simp at d hv
  .subst d;subst hv;exact h
  .subst d;subst hv;exact .f (.raw _)
theorem ON {n:Int} {v:AV}:∀{es:Y (Value×AV)},told n es=Z v->∃j:Nat,es[j]? =Z (.int .i64 n,v)
 |(.int .i64 k,d)::r,h=>by
  simp only[told]at h;split at h
  .rename_i e;subst e;cases h;exact⟨0,rfl⟩
  .obtain⟨j,hj⟩:=ON h;exact⟨j+1,hj⟩
theorem jg {k:Value} {m:MapEntry} {r:Y MapEntry} (hm:vE m.key) (hk:vE k):(m.key=k->kn k (m::r)=m.val)/\(m.key≠k->kn k (m::r)=kn k r):=by
 obtain⟨a,d⟩:=hm;obtain⟨b,rfl⟩:=hk;have e0:kn (.int .i64 b) (m::r)=if a=b then m.val else kn (.int .i64 b) r:=by simp only[kn,d]
 rw[e0];exact⟨λe=>by rw[d]at e;cases e;rw[aW rfl],λe=>by rw[aM λq=>e (by rw[d,q])]⟩
theorem D6 {d:TypeDesc} (hd:kd aa d) (n:Int):∀(ents:Y MapEntry) (i:Nat),(∀m∈ents,vE m.key)->
 (eF d (.int .i64 n) ents i=Z U/\kn (.int .i64 n) ents= .slice U 0 0/\∀(k:Value) (m':MapEntry),m'.key= .int .i64 n->vE k->(k= .int .i64 n->kn k (ents++[m'])=m'.val)/\(k≠ .int .i64 n->kn k (ents++[m'])=kn k ents))\/
 ∃(j:Nat) (m:MapEntry),ents[j]? =Z m/\eF d (.int .i64 n) ents i=Z (Z (i+j,m.val))/\kn (.int .i64 n) ents=m.val/\m.key= .int .i64 n/\∀(k:Value) (m':MapEntry),m'.key= .int .i64 n->vE k->(k= .int .i64 n->kn k (ents.set j m')=m'.val)/\(k≠ .int .i64 n->kn k (ents.set j m')=kn k ents)
 |[],i,_=>by
  refine .inl ⟨rfl,rfl,λk m' hm hk=>⟨λe=>?_,λe=>?_⟩⟩
  .exact (jg (r:=[]) ⟨n,hm⟩ hk).1 (hm.trans e.symm)
  .exact (jg (r:=[]) ⟨n,hm⟩ hk).2 (λq=>e (q.symm.trans hm))
 |m::r,i,h=>by
  have hmk:=h m (ep ..);obtain⟨a,s⟩:=hmk;have hb:sV .eql (.int .i64 n) (.int .i64 a)=Z (.bool (n==a)):=by simp[sV]
  have hs:=xY hd (k:=.int .i64 n) rfl hb;by_cases e:n=a
  .subst e;refine .inr ⟨0,m,rfl,?_,(jg ⟨n,s⟩ ⟨n,rfl⟩).1 s,s,λk m' hm hk=>⟨λe=>?_,λe=>?_⟩⟩
   .simp only[eF];rw[s,hs];simp
   .exact (jg (r:=r) ⟨n,hm⟩ hk).1 (hm.trans e.symm)
   .show kn k (m'::r)=_;rw[(jg (r:=r) ⟨n,hm⟩ hk).2 (λq=>e (q.symm.trans hm)),(jg (r:=r) ⟨n,s⟩ hk).2 (λq=>e (q.symm.trans s))]
  .have A:Instr.sameNow d (.int .i64 n) m.key=Z aa:=by rw[s,hs];simp[e]
   have hne:¬m.key= .int .i64 n:=λq=>by rw[s]at q;cases q;exact e rfl
   have hl:=(jg (r:=r) ⟨a,s⟩ ⟨n,rfl⟩).2 hne;have step:∀(k:Value) (z:Y MapEntry) (m':MapEntry),vE k->m'.key= .int .i64 n->(k= .int .i64 n->kn k z=m'.val)/\(k≠ .int .i64 n->kn k z=kn k r)->(k= .int .i64 n->kn k (m::z)=m'.val)/\(k≠ .int .i64 n->kn k (m::z)=kn k (m::r)):=λk z m' hk _ g=>by
    refine ⟨λq=>?_,λq=>?_⟩
    .rw[(jg (r:=z) ⟨a,s⟩ hk).2 (λx=>hne (x.trans q))];exact g.1 q
    .by_cases x:m.key=k
     .rw[(jg (r:=z) ⟨a,s⟩ hk).1 x,(jg (r:=r) ⟨a,s⟩ hk).1 x]
     .rw[(jg (r:=z) ⟨a,s⟩ hk).2 x,(jg (r:=r) ⟨a,s⟩ hk).2 x];exact g.2 q
   rcases D6 hd n r (i+1) (λq hq=>h q (dk _ hq)) with ⟨h1,h2,D⟩|⟨j,q,h1,h2,D,I,F⟩
   .refine .inl ⟨?_,by rw[hl];exact h2,λk m' hm hk=>step k _ m' hk hm (D k m' hm hk)⟩;simp only[eF];rw[A];exact h1
   .refine .inr ⟨j+1,q,by simpa using h1,?_,by rw[hl];exact D,I,λk m' hm hk=>step k _ m' hk hm (F k m' hm hk)⟩;simp only[eF];rw[A];show eF d _ r (i+1)=_;rw[h2,show i+1+j=i+(j+1) from by omega]
theorem EG {n:Int} {y:AV}:∀{es:Y (Value×AV)} {j:Nat} {q:Value×AV},(lG n y es)[j]? =Z q->∃p,es[j]? =Z p/\q.1=p.1/\(p.1= .int .i64 n->q.2=y)/\(p.1≠ .int .i64 n->q.2=p.2)
 |[],j,q,h=>by simp[lG]at h
 |p::r,0,q,h=>by
  simp only[lG,lD,af]at h;subst h;refine ⟨p,rfl,rfl,λe=>?_,λe=>?_⟩
  .show (match p.1 with|.int .i64 k=>if k=n then y else p.2|_=>p.2)=y;rw[e];dsimp only;rw[aW rfl]
  .show (match p.1 with|.int .i64 k=>if k=n then y else p.2|_=>p.2)=p.2;split
   .rename_i k hk;rw[aM λq=>e (by rw[hk,q])]
   .rfl
 |p::r,j+1,q,h=>by
  simp only[lG,List.getElem?_cons_succ]at h;obtain⟨d,h1,h2⟩:=EG h;exact⟨d,by simpa using h1,h2⟩
theorem BH (n:Int) (y:AV):∀es:Y (Value×AV),(lG n y es).map (·.1)=es.map (·.1)
 |[]=>rfl
 |p::r=>by simp only[lG,eY];rw[BH n y r]
theorem aek {t kt el:TypeId} {x k:Operand} {str ok:Bool} {d:TypeDesc} {z:Value} (F:o.op= .lookup t x k ok) (hu:P.underlying t=Z (.map kt el)) (hk:P.underlying kt=Z d) (hd:kd str d) (A:(P.info? el).bind (·.zero)=Z z) (q:eg (.lku str ok z x k) e h nx=Z R):gD P o e.get h.get R.eff:=by
 simp only[eg]at q;split at q
 .rename_i id key hx hkx;split at q
  .rename_i es hid;split at q
   .rename_i hko;have fin:∀val:AV,(∀(φ:PM) (E:Nat->Prop) (h':HF) (w:World) (a:Act),h' id=Z ⟨0,.mp es⟩->R9 φ E h' w a e o->qI φ E h' w->∃v,(execOp a.eval o).run P w= .ok (.value v) w/\cK φ (tot E φ h') w val v)->R=⟨val,[id],[],[],[]⟩->gD P o e.get h.get R.eff:=by
     rintro val hv rfl;exact gD.reads λφ E h' w a hrd hp hrep=>hv φ E h' w a (by rw[hrd id (by simp)];exact hid) hp hrep
    have zrun:∀w:World,(zeroValue el).run P w= .ok z w:=λw=>by
     cases hi:P.info? el with
     |none=>rw[hi]at A;cases A
     |some i=>rw[hi]at A;simp only[aD]at A;simp[zeroValue,typeInfo,hi,A]
    have main:∀r,sQ key es=Z r->∀(φ:PM) (E:Nat->Prop) (h':HF) (w:World) (a:Act),h' id=Z ⟨0,.mp es⟩->R9 φ E h' w a e o->qI φ E h' w->
     ∃v,(execOp a.eval o).run P w= .ok (.value v) w/\cK φ (tot E φ h') w (match r with|some v=>pkV ok v M|none=>pkV ok (raw z) aa) v:=by
     intro r hr φ E h' w a I hp hrep;have hrx:=hp x _ (by rw[F];simp[Op.operands]) hx;have hrk:=eJ (hp k _ (by rw[F];simp[Op.operands]) hkx);generalize s:a.eval x=zz at hrx;cases hrx with
     |@mp _ b hφ=>
      obtain⟨k',q1,_,ob,q2,q3⟩:=hrep.at_ id _ I;rw[hφ]at q1;cases q1;obtain⟨ents,clock,rfl,q4,q5⟩:=q3;have q4:ents.toList.map (·.key)=es.map (·.1):=by unfold VO at q4;rw[aW rfl]at q4;exact q4
      have hck:=sK (P:=P) hk hd ents.isEmpty key w;rcases Qj hd hko es ents.toList 0 q4 r hr with ⟨h1,h2⟩|⟨j,v,m,k',h1,h2,h3,h4,_⟩
      .subst h1;refine ⟨_,?_,YB (.f (.raw z))⟩;unfold execOp;rw[F];cases ok<;>simp[Instr.lookup,run_underlying hu,s,hrk,getObj,kf,q2,hck,sd,run_underlying hk,h2,zrun]
      .subst h1;obtain⟨_,D,L⟩:=q5 j _ h2;unfold MpV at D;rw[aW rfl]at D;obtain⟨m',D,rfl⟩:=D;rw[cq]at h3;rw[h3]at D;cases D;refine ⟨_,?_,YB L⟩;unfold execOp;rw[F];cases ok<;>simp[Instr.lookup,run_underlying hu,s,hrk,getObj,kf,q2,hck,sd,run_underlying hk,h4]
    split at q
    .rename_i v hf;simp only[af]at q;exact fin _ (main _ hf) q.symm
    .rename_i hf;simp only[af]at q;exact fin _ (main _ hf) q.symm
    .cases q
   .cases q
  .rename_i ty es hid;split at q
   .rename_i n;split at q
    .rename_i hc;split at q
     .rename_i v hv;simp only[af]at q;subst q;cases str with
      |true=>simp at hc
      |false=>
      cases ok with
      |true=>simp at hc
      |false=>
      have hz0:z= .slice U 0 0:=by
       simp only[Bool.not_false,kL]at hc;unfold sS at hc;split at hc
       .rfl
       .cases hc
      subst hz0;have zrun:∀w:World,(zeroValue el).run P w= .ok (.slice U 0 0) w:=λw=>by
       cases hi:P.info? el with
       |none=>rw[hi]at A;cases A
       |some i=>rw[hi]at A;simp only[aD]at A;simp[zeroValue,typeInfo,hi,A]
      refine gD.reads λφ E h' w a hrd hp hrep=>?_
      have I:h' id=Z ⟨ty+1,.mp es⟩:=by rw[hrd id (by simp)];exact hid
      have hrx:=hp x _ (by rw[F];simp[Op.operands]) hx;have hrk:=eJ (hp k _ (by rw[F];simp[Op.operands]) hkx);generalize s:a.eval x=zz at hrx;cases hrx with
      |@mp _ b hφ=>
       obtain⟨k',q1,_,ob,q2,q3⟩:=hrep.at_ id _ I;rw[hφ]at q1;cases q1;obtain⟨ents,clock,rfl,q4,q5⟩:=q3;unfold VO at q4;rw[aM (by simp)]at q4;obtain⟨j,hj⟩:=ON hv;obtain⟨v',D,L⟩:=q5 j _ hj;unfold MpV at D;rw[aM (by simp)]at D;subst D;have hck:=sK (P:=P) hk hd ents.isEmpty (.int .i64 n) w;rcases D6 hd n ents.toList 0 q4.1 with ⟨h1,h2,_⟩|⟨i,m,h1,h2,h3,_⟩
       .rw[h2]at L;refine ⟨_,?_,L⟩;unfold execOp;rw[F];simp[Instr.lookup,run_underlying hu,s,hrk,getObj,kf,q2,hck,sd,run_underlying hk,h1,zrun]
       .rw[h3]at L;refine ⟨_,?_,L⟩;unfold execOp;rw[F];simp[Instr.lookup,run_underlying hu,s,hrk,getObj,kf,q2,hck,sd,run_underlying hk,h2]
     .cases q
    .cases q
   .cases q
  .cases q
 .cases q
theorem UY {str:Bool} {d:TypeDesc} (hd:kd str d) {k:Value} (hk:yl str k=M) {v:AV}:∀(es es':Y (Value×AV)) (ents:Y MapEntry) (i:Nat),ents.map (·.key)=es.map (·.1)->yh k v es=Z es'->
 (eF d k ents i=Z U/\es'=es++[(k,v)])\/∃(j:Nat) (m:MapEntry) (k':Value) (s:AV),es[j]? =Z (k',s)/\ents[j]? =Z m/\eF d k ents i=Z (Z (i+j,m.val))/\sV .eql k k'=Z (.bool M)/\es'=es.set j (k,v)
 |[],es',ents,i,he,h=>by
  cases ents with
  |nil=>simp only[yh,af]at h;exact .inl ⟨rfl,by simp[h]⟩
  |cons _ _=>simp at he
 |(k',s)::es,es',ents,i,he,h=>by
  cases ents with
  |nil=>simp at he
  |cons m ents=>
   simp only[eY,iR]at he;obtain⟨q,z⟩:=he;simp only[yh]at h;split at h
   .rename_i hb;simp only[af]at h;refine .inr ⟨0,m,k',s,rfl,rfl,?_,hb,by simp[h]⟩;simp only[eF];rw[q,xY hd hk hb];rfl
   .rename_i hb;have hs:=xY hd hk hb;split at h
    .rename_i es2 hes2;simp only[af]at h;subst h;rcases UY hd hk es es2 ents (i+1) z hes2 with ⟨h1,h2⟩|⟨j,m',k'',v'',h1,h2,F,D,A⟩
     .refine .inl ⟨?_,by simp[h2]⟩;simp only[eF];rw[q,hs];exact h1
     .refine .inr ⟨j+1,m',k'',v'',by simpa using h1,by simpa using h2,?_,D,by simp[A]⟩;simp only[eF];rw[q,hs];show eF d k ents (i+1)=_;rw[F,show i+1+j=i+(j+1) from by omega]
    .cases h
   .cases h
theorem Zq {str:Bool} {k k':Value} (hk:yl str k=M) (hb:sV .eql k k'=Z (.bool M)):Kl 10000 k' k=M/\k'=k:=by
 cases str with
 |true=>
  cases k<;>simp[yl]at hk;cases k'<;>simp only[sV]at hb<;>try (simp at hb;done)
  simp only[af,Bx]at hb;have:=yU.1 hb;subst this;exact⟨by simp[Kl,Ek,hb],rfl⟩
 |false=>
  cases k<;>simp[yl]at hk;cases k'<;>simp only[sV]at hb<;>try (simp at hb;done)
  split at hb
  .rename_i hkk;have hkk':=eq_of_beq hkk;subst hkk';simp only[af,Bx,cQ]at hb;subst hb;exact⟨by simp[Kl],rfl⟩
  .cases hb
theorem aej {t kt el:TypeId} {x k y:Operand} {str:Bool} {d:TypeDesc} (F:o.op= .mapUpdate t x k y) (hu:P.underlying t=Z (.map kt el)) (hk:P.underlying kt=Z d) (hd:kd str d) (s:eg (.mup str x k y) e h nx=Z R):gD P o e.get h.get R.eff:=by
 simp only[eg]at s;split at s
 .rename_i id key v D hkx hy;split at s
  .rename_i es hid;split at s
   .rename_i hko;split at s
    .rename_i es' hput;simp only[af]at s;subst s;refine gD.writes hid λφ E h' w a hrd L hp hrep=>?_
     have hrx:=hp x _ (by rw[F];simp[Op.operands]) D;have hrk:=eJ (hp k _ (by rw[F];simp[Op.operands]) hkx);have hry:=hp y _ (by rw[F];simp[Op.operands]) hy;generalize A:a.eval x=zz at hrx;cases hrx with
     |@mp _ b hφ=>
      obtain⟨k',q1,_,ob,q2,q3⟩:=hrep.at_ id _ L;rw[hφ]at q1;cases q1;obtain⟨ents,clock,rfl,q4,q5⟩:=q3;have q4:ents.toList.map (·.key)=es.map (·.1):=by unfold VO at q4;rw[aW rfl]at q4;exact q4
      have q5:∀(j:Nat) x,es[j]? =Z x->∃m,ents[j]? =Z m/\cK φ (tot E φ h') w x.2 m.val:=λj x D=>by
       obtain⟨_,z,I⟩:=q5 j x D;unfold MpV at z;rw[aW rfl]at z;obtain⟨m,z,rfl⟩:=z;exact⟨m,z,I⟩
      have L5:∀(es:Y (Value×AV)) (ents:Array MapEntry) (clock:Nat),ents.toList.map (·.key)=es.map (·.1)->(∀(j:Nat) x,es[j]? =Z x->∃m,ents[j]? =Z m/\cK φ (tot E φ h') w x.2 m.val)->iY φ (tot E φ h') w ⟨0,.mp es⟩ (.map ents clock):=λes ents clock z I=>⟨ents,clock,rfl,by unfold VO;rw[aW rfl];exact z,λj x D=>by
       obtain⟨m,g3,g4⟩:=I j x D;exact⟨_,by unfold MpV;rw[aW rfl];exact⟨m,g3,rfl⟩,g4⟩⟩
      have hck:=sK (P:=P) hk hd aa key w;have hlen:ents.size=es.length:=by have:=i_ ah q4;simpa using this
      rcases UY hd hko es es' ents.toList 0 q4 hput with ⟨h1,rfl⟩|⟨j,m,k',v',h1,h2,h3,h4,rfl⟩
      .refine ⟨.skip,_,b,.map (ents.push {key,val:=a.eval y,born:=clock}) (clock+1),?_,hφ,xS q2 (by simp) (by simp),L5 _ _ _ (by simp[q4]) λj q hq=>?_,undef,.inr ⟨rfl,rfl⟩,.f (.raw _)⟩
       .unfold execOp;rw[F];simp[Instr.mapUpdate,run_underlying hu,A,hrk,getObj,kf,q2,hck,sd,run_underlying hk,h1,setObj]
       .rcases bN j es.length with hj|hj
        .rw[bV hj]at hq;obtain⟨m,z,I⟩:=q5 j q hq;exact⟨m,by rw[Array.getElem?_push,aM (by omega)];exact z,I⟩
        .rw[ca hj]at hq;have hj0:j-es.length=0:=by
          rcases rq (j-es.length) with h0|h0
          .exact h0
          .rw[bK (by simp;omega)]at hq;cases hq
         rw[hj0]at hq;simp at hq;subst hq;exact⟨_,by rw[Array.getElem?_push,aW (by omega)],hry⟩
      .obtain⟨s1,s2⟩:=Zq hko h4;subst s2;rw[cq]at h2;rw[bM]at h3;have hjl:j<ents.size:=(cr.1 h2).1;have hmk:m.key=k':=by
        have e1:(ents.toList.map (·.key))[j]? =Z m.key:=by rw[bk,cq,h2];rfl
        rw[q4,bk,h1]at e1;simpa using e1.symm
       refine ⟨.skip,_,b,.map (ents.modify j λe=>{e with key:=k',val:=a.eval y}) clock,?_,hφ,xS q2 (by simp) (by simp),L5 _ _ _ ?_ λi q hq=>?_,undef,.inr ⟨rfl,rfl⟩,.f (.raw _)⟩
       .unfold execOp;rw[F];simp[Instr.mapUpdate,run_underlying hu,A,hrk,getObj,kf,q2,hck,sd,run_underlying hk,h3,setObj,h2,hmk,Instr.keyThatStays,s1]
       .apply List.ext_getElem?;intro i;simp only[bk,cq,oK,Array.getElem?_modify];have e2:∀i:Nat,(ents[i]?).map (λm:MapEntry=>m.key)=(es[i]?).map (λp:Value×AV=>p.1):=λi=>by
         have:=i_ (λl=>l[i]?) q4;simpa[bk,cq] using this
        by_cases hij:j=i
        .subst hij;simp[h2,show j<es.length by omega]
        .simp only[hij,dx];exact e2 i
       .rw[oK]at hq;rw[Array.getElem?_modify];by_cases hij:j=i
        .subst hij;simp[show j<es.length by omega]at hq;subst hq;exact⟨{m with key:=k',val:=a.eval y},by simp[h2],hry⟩
        .simp only[hij,dx]at hq ⊢;exact q5 i q hq
    .cases s
   .cases s
  .rename_i ty es hid;split at s
   .rename_i n;split at s
    .cases s
    .rename_i hstr;have hstr:str=aa:=by simpa using hstr
     subst hstr;simp only[af]at s;subst s;refine gD.writes hid λφ E h' w a hrd L hp hrep=>?_
     have hrx:=hp x _ (by rw[F];simp[Op.operands]) D;have hrk:=eJ (hp k _ (by rw[F];simp[Op.operands]) hkx);have hry:=hp y _ (by rw[F];simp[Op.operands]) hy;generalize A:a.eval x=zz at hrx;cases hrx with
     |@mp _ b hφ=>
      obtain⟨k',q1,_,ob,q2,q3⟩:=hrep.at_ id _ L;rw[hφ]at q1;cases q1;obtain⟨ents,clock,rfl,q4,q5⟩:=q3;unfold VO at q4;rw[aM (by simp)]at q4;have q5:∀(j:Nat) x,es[j]? =Z x->cK φ (tot E φ h') w x.2 (kn x.1 ents.toList):=λj x D=>by
       obtain⟨_,z,I⟩:=q5 j x D;unfold MpV at z;rw[aM (by simp)]at z;subst z;exact I
      have mk1:∀(ents':Array MapEntry) (clock:Nat),(∀m∈ents'.toList,vE m.key)->(∀k,vE k->(k= .int .i64 n->kn k ents'.toList=a.eval y)/\(k≠ .int .i64 n->kn k ents'.toList=kn k ents.toList))->iY φ (tot E φ h') w ⟨ty+1,.mp (lG n v es)⟩ (.map ents' clock):=λents' clock z I=>⟨ents',clock,rfl,by unfold VO;rw[aM (by simp),BH];exact⟨z,q4.2⟩,λj x D=>by
       obtain⟨p,g3,g4,g5,g6⟩:=EG D;have hI:=q4.2 p.1 (cZ.2 ⟨p,bi g3,rfl⟩);refine ⟨_,by unfold MpV;rw[aM (by simp)],?_⟩;rw[g4];by_cases e:p.1= .int .i64 n
       .rw[(I _ hI).1 e,g5 e];exact hry
       .rw[(I _ hI).2 e,g6 e];exact q5 j p g3⟩
      have hck:=sK (P:=P) hk hd aa (.int .i64 n) w;rcases D6 hd n ents.toList 0 q4.1 with ⟨h1,_,h3⟩|⟨j,m,h2,h3,_,h4,h5⟩
      .refine ⟨.skip,_,b,.map (ents.push {key:=.int .i64 n,val:=a.eval y,born:=clock}) (clock+1),?_,hφ,xS q2 (by simp) (by simp),mk1 _ _ (λm hm=>?_) λk hk=>?_,undef,.inr ⟨rfl,rfl⟩,.f (.raw _)⟩
       .unfold execOp;rw[F];simp[Instr.mapUpdate,run_underlying hu,A,hrk,getObj,kf,q2,hck,sd,run_underlying hk,h1,setObj]
       .rw[Array.toList_push]at hm;rcases bP.1 hm with hm|hm
        .exact q4.1 m hm
        .rw[aI.1 hm];exact⟨n,rfl⟩
       .rw[Array.toList_push];exact h3 k _ rfl hk
      .rw[cq]at h2;rw[bM]at h3;obtain⟨hjl,hjm⟩:=cr.1 h2;have s1:Kl 10000 (.int .i64 n) (.int .i64 n)=M:=by simp[Kl]
       have hl:(ents.modify j λe=>{e with key:=.int .i64 n,val:=a.eval y}).toList=ents.toList.set j {m with key:=.int .i64 n,val:=a.eval y}:=by
        apply List.ext_getElem?;intro i;simp only[cq,oK,Array.getElem?_modify];by_cases hij:j=i
        .subst hij;simp[h2,hjl,hjm]
        .simp[hij]
       refine ⟨.skip,_,b,.map (ents.modify j λe=>{e with key:=.int .i64 n,val:=a.eval y}) clock,?_,hφ,xS q2 (by simp) (by simp),mk1 _ _ (λq hm=>?_) λk hk=>?_,undef,.inr ⟨rfl,rfl⟩,.f (.raw _)⟩
       .unfold execOp;rw[F];simp[Instr.mapUpdate,run_underlying hu,A,hrk,getObj,kf,q2,hck,sd,run_underlying hk,h3,setObj,h2,h4,Instr.keyThatStays,s1]
       .rw[hl]at hm;rcases LJ hm with hm|rfl
        .exact q4.1 q hm
        .exact⟨n,rfl⟩
       .rw[hl];exact h5 k _ rfl hk
   .cases s
  .cases s
 .cases s
end
section
variable {P:Program} {o:Oper} {e:yW} {h:mh} {nx:Nat} {R:zZ}
theorem Pa {t:TypeId} {d:TypeDesc} (hu:P.underlying t=Z d) (hd:(match d with|.int _=>M|.bool=>M|.string=>M|_=>aa)=M) (cs:Array Value) (j:Nat) (v:Value) (hv:cs[j]? =Z v) (w:World):(part t cs j).run P w= .ok v w:=by
 unfold part;simp only[isAgg,eA,run_underlying hu,cL];cases d<;>simp at hd<;>simp[hv]
theorem WC {t:TypeId} {d:TypeDesc} (hu:P.underlying t=Z d) (hd:(match d with|.int _=>M|.bool=>M|.string=>M|_=>aa)=M) {x y:FV} {b:Bool} (hxy:wP d x y=Z b) {u v:Value} (z:x= .raw u) (s:y= .raw v) (n:Nat) (w:World):(Op.equalIn (n+1) t u v).run P w= .ok b w:=by
 subst z;subst s;cases d<;>simp at hd<;>cases u<;>cases v<;>simp only[wP]at hxy<;>first|(cases hxy;done)|skip
 .simp only[af]at hxy;subst hxy;simp[Op.equalIn,run_underlying hu]
 .split at hxy
  .rename_i hk;have q:=eq_of_beq hk;subst q;simp only[af]at hxy;subst hxy;simp[Op.equalIn,run_underlying hu]
  .cases hxy
 .simp only[af]at hxy;subst hxy;simp[Op.equalIn,run_underlying hu,Ek]
abbrev IR (n:Nat) (xs d:Array Value) (f:Field) (_:J Bool×Unit):Sem (ForInStep (J Bool×Unit)):=
 if f.name≠ "_" then do
  let a←part f.type xs f.offset
  let b←part f.type d f.offset
  let c←Op.equalIn (n+1) f.type a b
  if (!c)=M then pure (ForInStep.done (Z aa,())) else pure (ForInStep.yield (U,()))
 else pure (ForInStep.yield (U,()))
theorem Mk (n:Nat) (w:World) (xs s:Array Value):∀(fs:Y Field) (ds:Y TypeDesc) (a b:Y FV) (k:Nat) (r:Bool),rz P k fs=Z ds->
 (∀(j:Nat) x u,a[j]? =Z x->xs[k+j]? =Z u->x= .raw u\/∀v,x≠ .raw v)->(∀(j:Nat) x u,b[j]? =Z x->s[k+j]? =Z u->x= .raw u\/∀v,x≠ .raw v)->(∀(j:Nat),j<a.length->k+j<xs.size)->(∀(j:Nat),j<b.length->k+j<s.size)->oY ds a b=Z r->
 (forIn fs (U,()) (IR n xs s)).run P w= .ok (if r then (U,()) else (Z aa,())) w
 |[],ds,a,b,k,r,hp,_,_,_,_,he=>by
  simp only[rz,af]at hp;subst hp;cases a<;>cases b<;>simp[oY]at he;subst he;simp
 |f::fs,ds,a,b,k,r,hp,L,hb,hla,hlb,he=>by
  simp only[rz]at hp;split at hp
  .rename_i d ds' hu I;split at hp
   .rename_i hc;simp only[ak,bne_iff_ne,ne_eq,cQ]at hc;obtain⟨⟨hn,hof⟩,hd⟩:=hc;simp only[af]at hp;subst hp;cases a with
    |nil=>cases b<;>simp[oY]at he
    |cons x a=>
     cases b with
     |nil=>simp[oY]at he
     |cons y b=>
      simp only[oY]at he;have F:k<xs.size:=by have:=hla 0 (by simp);omega
      have D:k<s.size:=by have:=hlb 0 (by simp);omega
      have hraw:∀(z:FV) (q:Value),(z= .raw q\/∀v,z≠ .raw v)->(∃v,z= .raw v)->z= .raw q:=by
       rintro z q (h|h) ⟨v,hv⟩
       .exact h
       .exact dR hv (h v)
      have hxr:∀A,wP d x y=Z A->x= .raw xs[k]/\y= .raw s[k]:=by
       intro A hbb;have hrr:(∃v,x= .raw v)/\∃v,y= .raw v:=by
        unfold wP at hbb;split at hbb
        .exact⟨⟨_,rfl⟩,⟨_,rfl⟩⟩
        .exact⟨⟨_,rfl⟩,⟨_,rfl⟩⟩
        .exact⟨⟨_,rfl⟩,⟨_,rfl⟩⟩
        .cases hbb
       exact⟨hraw x _ (L 0 x _ rfl (by simp[F])) hrr.1,hraw y _ (hb 0 y _ rfl (by simp[D])) hrr.2⟩
      have hstep:∀A,wP d x y=Z A->(IR n xs s f (U,())).run P w= .ok (if A then ForInStep.yield (U,()) else ForInStep.done (Z aa,())) w:=by
       intro A hbb;obtain⟨h1,h2⟩:=hxr A hbb;have p1:=Pa hu (by cases d<;>simp[HH]at hd<;>rfl) xs k xs[k] (by simp[F]) w;have p2:=Pa hu (by cases d<;>simp[HH]at hd<;>rfl) s k s[k] (by simp[D]) w;have p3:=WC hu (by cases d<;>simp[HH]at hd<;>rfl) hbb h1 h2 n w;unfold IR;rw[aW hn,hof];simp only[eA,p1,p2,p3,cL];cases A<;>simp
      rw[List.forIn_cons];simp only[eA];split at he
      .rename_i hbb;rw[hstep M hbb];simp only[cL,bH];exact Mk n w xs s fs ds' a b (k+1) r I (λj x u h1 h2=>L (j+1) x u (by simpa using h1) (by rw[<- h2];congr 1;omega)) (λj x u h1 h2=>hb (j+1) x u (by simpa using h1) (by rw[<- h2];congr 1;omega))
        (λj hj=>by have:=hla (j+1) (by simpa using hj);omega) (λj hj=>by have:=hlb (j+1) (by simpa using hj);omega) he
      .rename_i hbb;rw[hstep aa hbb];simp only[af]at he;subst he;simp
      .cases he
   .cases hp
  .cases hp
theorem WA {t:TypeId} {fs:Array Field} (hu:P.underlying t=Z (.struct fs)) (hs:P.stoodInHeld t=aa) {ds:Y TypeDesc} (hp:rz P 0 fs.toList=Z ds) (xs d:Array Value) {a b:Y FV} {r:Bool}
 (q:∀(j:Nat) x u,a[j]? =Z x->xs[j]? =Z u->x= .raw u\/∀v,x≠ .raw v) (hb:∀(j:Nat) x u,b[j]? =Z x->d[j]? =Z u->x= .raw u\/∀v,x≠ .raw v) (hla:a.length=xs.size) (hlb:b.length=d.size) (he:oY ds a b=Z r) (w:World):
 (Op.equal t (.agg xs) (.agg d)).run P w= .ok r w:=by
 have key:∀n,(Op.equalIn (n+2) t (.agg xs) (.agg d)).run P w= .ok r w:=by
  intro n;rw[Op.equalIn];have h1:=Mk (P:=P) n w xs d fs.toList ds a b 0 r hp (λj x u h1 h2=>q j x u h1 (by simpa using h2)) (λj x u h1 h2=>hb j x u h1 (by simpa using h2)) (λj hj=>by omega) (λj hj=>by omega) he;rw[Array.forIn_toList]at h1;simp only[eA,run_underlying hu,cL,program,kf,hs,bO,dx];have h2:(forIn fs (U,()) (λf __s=>IR n xs d f __s)).run P w= .ok (if r then (U,()) else (Z aa,())) w:=h1;unfold IR at h2;rw[h2];cases r<;>simp
 exact key 9998
theorem Qo {t:TypeId} {fs:Array Field} (hu:P.underlying t=Z (.struct fs)) {ds:Y TypeDesc} (hp:rz P 0 fs.toList=Z ds):P.eqGuardType P.depth t=aa:=by
 have key:∀(fs:Y Field) (k:Nat) (ds:Y TypeDesc),rz P k fs=Z ds→∀d,(fs.any λf=>f.name != "_" &&P.eqGuardType (d+1) f.type)=aa:=by
  intro fs;induction fs with
  |nil=>intros;rfl
  |cons f fs z=>
   intro k ds hp d;simp only[rz]at hp;split at hp
   .rename_i A ds' q s;split at hp
    .rename_i hc;simp only[ak]at hc;have:P.eqGuardType (d+1) f.type=aa:=by
      unfold Program.eqGuardType;rw[q];have:=hc.2;cases A<;>simp[HH]at this<;>rfl
     simp only[List.any_cons,this,ub,Bool.false_or];exact z (k+1) ds' s d
    .cases hp
   .cases hp
 unfold Program.depth Program.eqGuardType;rw[hu];simp only[];rw[← Array.any_toList];exact key fs.toList 0 ds hp _
theorem ael {t t':TypeId} {op:BinOp} {neg:Bool} {x y:Operand} {fs:Array Field} {ds:Y TypeDesc} (A:o.op= .binOp op t x y t') (hop:op=if neg then .neq else .eql) (hu:P.underlying t=Z (.struct fs)) (hs:P.stoodInHeld t=aa) (hp:rz P 0 fs.toList=Z ds) (d:eg (.eqs neg ds x y) e h nx=Z R):gD P o e.get h.get R.eff:=by
 simp only[eg]at d;split at d
 .rename_i a b q F;split at d
  .rename_i r hr;rw[du d];refine gD.reads λφ E h' w ac _ hpp _=>?_
   have h1:=hpp x _ (by rw[A];simp[Op.operands]) q;have h2:=hpp y _ (by rw[A];simp[Op.operands]) F;generalize hzx:ac.eval x=zx at h1;generalize hzy:ac.eval y=zy at h2;have rawOr:∀(l:Y FV) (vs:ξ),(∀(j:Nat) x v,l[j]? =Z x->vs[j]? =Z v->mA (tot E φ h') w x v)->∀(j:Nat) x u,l[j]? =Z x->vs.toArray[j]? =Z u->x= .raw u\/∀v,x≠ .raw v:=by
    intro l vs hr j x u q hu;have:=hr j x u q (by simpa using hu);cases this with
    |raw v=>exact .inl rfl
    |nil=>exact .inr (by simp)
    |sl=>exact .inr (by simp)
    |ptr=>exact .inr (by simp)
    |agg=>exact .inr (by simp)
   cases h1 with
   |f h1=>
    cases h1 with
    |agg _ vs hl hcl z=>
     cases h2 with
     |f h2=>
      cases h2 with
      |agg _ us D hcl' s=>
       have heq:=WA hu hs hp vs.toArray us.toArray (rawOr a vs z) (rawOr b us s) (by simp[hl]) (by simp[D]) hr w;refine ⟨_,?_,.f (.raw _)⟩;have hg:=Qo hu hp;unfold execOp;rw[A];simp only[hzx,hzy];subst hop;cases neg<;>simp[eqGuard,program,kf,hg,binOp,heq]
  .cases d
 .cases d
end
theorem bind_some {α β:Type} {x:J α} {f:α->J β} {y:β} (h:x.bind f=Z y):∃a,x=Z a/\f a=Z y:=by
 cases x with
 |none=>cases h
 |some a=>exact⟨a,rfl,h⟩
theorem map_some {α β:Type} {x:J α} {f:α->β} {y:β} (h:x.map f=Z y):∃a,x=Z a/\f a=y:=by
 cases x with
 |none=>cases h
 |some a=>exact⟨a,rfl,by simpa using h⟩
theorem md {c:Bool} {β:Type} {x:J β} {y:β} (h:(if c then x else U)=Z y):c=M/\x=Z y:=by
 cases c with
 |true=>exact⟨rfl,by simpa using h⟩
 |false=>simp at h
theorem HK {P:Program} {o:Oper} {e:yW} {h:mh} {nx:Nat} {s:Xx} {R:zZ} (hc:dq P o.op=Z s) (D:eg s e h nx=Z R):gD P o e.get h.get R.eff:=by
 unfold dq at hc;split at hc
 .rename_i x A;simp only[af]at hc;subst hc;exact aiw (.inl A) D
 .rename_i x A;simp only[af]at hc;subst hc;exact aiw (.inr A) D
 .rename_i c a b A;simp only[af]at hc;subst hc;exact afy A D
 .rename_i t A;obtain⟨z,h1,hc⟩:=bind_some hc;obtain⟨h2,hc⟩:=md hc;simp only[af]at hc;subst hc;exact ad7 A h1 h2 D
 .rename_i t x A;simp only[af]at hc;subst hc;exact aj9 A D
 .rename_i t ps A;split at hc
  .rename_i fs hu;obtain⟨z,h1,hc⟩:=bind_some hc;obtain⟨h2,hc⟩:=md hc;obtain⟨ps',F,rfl⟩:=map_some hc;simp only[ak]at h2;exact VK A h1 h2.1 F (.inl ⟨fs,hu,h2.2⟩) D
  .rename_i n el hu;obtain⟨z,h1,hc⟩:=bind_some hc;obtain⟨h2,hc⟩:=md hc;obtain⟨ps',F,rfl⟩:=map_some hc;simp only[ak]at h2;obtain⟨sz,I⟩:=iM.1 h2.2;exact VK A h1 h2.1 F (.inr ⟨n,el,sz,hu,I⟩) D
  .cases hc
 .rename_i t n ps A;obtain⟨el,h1,hc⟩:=bind_some hc;obtain⟨z,h2,hc⟩:=bind_some hc;obtain⟨sz,F,hc⟩:=bind_some hc;obtain⟨I,hc⟩:=md hc;obtain⟨ps',h5,rfl⟩:=map_some hc;simp only[ak,cQ,bne_iff_ne]at I;exact aj8 A (r7 h1) h2 F I.1.1.1 I.1.1.2 I.2 (bc I.1.2) h5 D
 .rename_i t x A;obtain⟨sz,h1,hc⟩:=bind_some hc;obtain⟨ag,h2,rfl⟩:=map_some hc;exact ag1 A h1 h2 D
 .rename_i t x v A;obtain⟨sz,h1,rfl⟩:=map_some hc;exact ad6 A h1 D
 .rename_i x A;simp only[af]at hc;subst hc;exact afz A D
 .rename_i op t x y t' A;split at hc
  .simp only[af]at hc;subst hc;exact aen A D
  .simp only[af]at hc;subst hc;exact aen A D
  .rename_i hu;split at hc
   .simp only[af]at hc;subst hc;exact aem (neg:=aa) A rfl hu D
   .simp only[af]at hc;subst hc;exact aem (neg:=M) A rfl hu D
   .cases hc
  .rename_i el hu;split at hc
   .simp only[af]at hc;subst hc;exact VJ (neg:=aa) A rfl rfl hu D
   .simp only[af]at hc;subst hc;exact VJ (neg:=M) A rfl rfl hu D
   .cases hc
  .rename_i fs hu;obtain⟨ds,h1,hc⟩:=bind_some hc;unfold YA at h1;rw[hu]at h1;simp only[]at h1;split at h1
   .cases h1
   .rename_i hst;have hst:P.stoodInHeld t=aa:=by simpa using hst
    split at hc
    .simp only[af]at hc;subst hc;exact ael (neg:=aa) A rfl hu hst h1 D
    .simp only[af]at hc;subst hc;exact ael (neg:=M) A rfl hu hst h1 D
    .cases hc
  .cases hc
 .rename_i t x A;simp only[af]at hc;subst hc;exact aiu A D
 .rename_i t x A;split at hc
  .simp only[af]at hc;subst hc;exact aiv A D
  .cases hc
 .rename_i s' d x A;split at hc
  .rename_i k k' h1 h2;simp only[af]at hc;subst hc;exact ag7 A h1 h2 D
  .cases hc
 .rename_i t l c A;obtain⟨el,h1,hc⟩:=bind_some hc;obtain⟨z,h2,hc⟩:=bind_some hc;obtain⟨sz,F,hc⟩:=bind_some hc;obtain⟨b,h5,hc⟩:=bind_some hc;obtain⟨I,hc⟩:=md hc;simp only[ak,cQ,bne_iff_ne]at I;simp only[af]at hc;subst hc;exact ag0 A (r7 h1) h2 F h5 I.1.1 I.1.2 I.2 D
 .rename_i t x lo hi mx A;obtain⟨el,h1,hc⟩:=bind_some hc;obtain⟨sz,h2,rfl⟩:=map_some hc;exact air A (r7 h1) h2 D
 .rename_i t x k A;split at hc
  .rename_i fs hu;obtain⟨f,h1,hc⟩:=bind_some hc;obtain⟨sz,h2,hc⟩:=bind_some hc;obtain⟨F,hc⟩:=md hc;simp only[af]at hc;subst hc;exact aj5 A hu h1 h2 (by simpa using F) D
  .cases hc
 .rename_i t x k A;split at hc
  .rename_i fs hu;obtain⟨f,h1,hc⟩:=bind_some hc;obtain⟨sz,h2,hc⟩:=bind_some hc;obtain⟨ag,F,rfl⟩:=map_some hc;exact aj4 A hu h1 h2 F D
  .cases hc
 .rename_i t x i A;split at hc
  .rename_i el hu;obtain⟨sz,h1,rfl⟩:=map_some hc;exact aj3 A hu h1 D
  .rename_i n el hu;obtain⟨sz,h1,rfl⟩:=map_some hc;exact ag5 A hu h1 D
  .cases hc
 .rename_i t x i A;split at hc
  .rename_i n el hu;obtain⟨sz,h1,hc⟩:=bind_some hc;obtain⟨ag,h2,rfl⟩:=map_some hc;exact aj2 A hu h1 h2 D
  .rename_i hu;simp only[af]at hc;subst hc;exact afx A hu D
  .cases hc
 .rename_i x i A;simp only[af]at hc;subst hc;exact aj6 A D
 .rename_i f first caps A
  obtain⟨h1,hc⟩:=md hc;simp only[af]at hc;subst hc;have h2:first=#[]:=by simpa using h1
  subst h2;exact aiz A D
 .rename_i t A;split at hc
  .simp only[af]at hc;subst hc;exact aiy A D
  .cases hc
 .rename_i t x k ok A;split at hc
  .rename_i kt el hu;split at hc
   .rename_i q z h1 h2;obtain⟨F,hc⟩:=md hc;simp only[af]at hc;subst hc;exact aek (str:=aa) A hu h1 ⟨q,rfl⟩ h2 D
   .rename_i z h1 h2;obtain⟨F,hc⟩:=md hc;simp only[af]at hc;subst hc;exact aek (str:=M) A hu h1 rfl h2 D
   .cases hc
  .cases hc
 .rename_i t m k v A;split at hc
  .rename_i kt el hu;split at hc
   .rename_i q h1;simp only[af]at hc;subst hc;exact aej (str:=aa) A hu h1 ⟨q,rfl⟩ D
   .rename_i h1;simp only[af]at hc;subst hc;exact aej (str:=M) A hu h1 rfl D
   .cases hc
  .cases hc
 .rename_i t x A;split at hc
  .rename_i hu;simp only[af]at hc;subst hc;exact ais A hu D
  .cases hc
 .rename_i x A;simp only[af]at hc;subst hc;exact ait A D
 .rename_i c A;obtain⟨callee,args,argTypes⟩:=c;have arr:∀{α:Type} {x:Array α} {l:Y α},x.toList=l->x=l.toArray:=λh=>by rw[<- h]
  unfold Rh at hc;simp only[]at hc;split at hc
  .split at hc
   .rename_i x t h1 h2;rw[arr h1,arr h2]at A;split at hc
    .rename_i el hu;simp only[af]at hc;subst hc;exact ag4 A hu D
    .rename_i hu;simp only[af]at hc;subst hc;exact ag3 A hu D
    .rename_i k v hu;simp only[af]at hc;subst hc;exact ag2 A hu D
    .cases hc
   .cases hc
  .split at hc
   .rename_i x y h1;rw[arr h1]at A;simp only[af]at hc;subst hc;exact aj1 A D
   .cases hc
  .split at hc
   .rename_i x y h1;rw[arr h1]at A;simp only[af]at hc;subst hc;exact aj0 A D
   .cases hc
  .split at hc
   .rename_i d x t u h1 h2;rw[arr h1,arr h2]at A;split at hc
    .rename_i el el' h1 h2;obtain⟨sz,F,hc⟩:=bind_some hc;obtain⟨I,hc⟩:=md hc;simp only[af]at hc;subst hc;exact ag6 A (r7 h1) (r7 h2) F D
    .cases hc
   .cases hc
  .split at hc
   .rename_i x t h1 h2;rw[arr h1,arr h2]at A;obtain⟨el,F,hc⟩:=bind_some hc;obtain⟨z,I,hc⟩:=bind_some hc;obtain⟨sz,h5,hc⟩:=bind_some hc;obtain⟨L,hc⟩:=md hc;simp only[ak,cQ,bne_iff_ne,ne_eq]at L;simp only[af]at hc;subst hc;exact aj7 A (r7 F) I L.1.1 L.1.2 L.2 D
   .cases hc
  .split at hc
   .rename_i s' x t u h1 h2;rw[arr h1,arr h2]at A;split at hc
    .rename_i el el' h1 h2;obtain⟨sz,F,hc⟩:=bind_some hc;obtain⟨b,I,hc⟩:=bind_some hc;obtain⟨z,h5,hc⟩:=bind_some hc;obtain⟨L,hc⟩:=md hc;simp only[ak,cQ,bne_iff_ne]at L;simp only[af]at hc;subst hc;exact aja A (r7 h1) (r7 h2) F I h5 L.2 L.1 D
    .cases hc
   .cases hc
  .cases hc
 .cases hc
theorem me {p:Nat->Bool}:∀{l:Y AV},AV.allL p l=M->∀x∈l,AV.all p x=M
 |[],_,x,d=>by cases d
 |y::l,h,x,d=>by
  simp only[AV.allL,ak]at h;rcases bx.1 d with rfl|d
  .exact h.1
  .exact me h.2 x d
theorem cK.restrict {φ φ':PM} {O O':Nat->Prop} {w:World} {p:Nat->Bool} (hs:∀i k,p i=M->φ i=Z k->φ' i=Z k) (s:∀k,O' k->O k) {x:AV} {v:Value} (h:cK φ O w x v):x.all p=M->cK φ' O' w x v:=by
 induction h with
 |f h=>intro _;exact .f (h.ext (O':=O') (GP.refl O w) λk _ hk=>s k hk)
 |ptr h=>intro hp;exact .ptr (hs _ _ hp h)
 |sl h hn hc=>intro hp;exact .sl (hs _ _ hp h) hn hc
 |row h hn hc hsh=>intro hp;exact .row (hs _ _ hp h) hn hc hsh
 |emp=>intro _;exact .emp
 |anyb=>intro _;exact .anyb
 |ful h=>intro _;exact .ful (h.ext (O':=O') (GP.refl O w) λk _ hk=>s k hk)
 |mp h=>intro hp;exact .mp (hs _ _ hp h)
 |agg hl hcl hr q=>intro hp;exact .agg hl hcl λj x v d hv=>q j x v d hv (me hp x (bi d))
 |tup hl hr q=>intro hp;exact .tup hl λj x v d hv=>q j x v d hv (me hp x (bi d))
 |clo hl hr q=>intro hp;exact .clo hl λj x v d hv=>q j x v d hv (me hp x (bi d))
theorem iY.restrict {φ φ':PM} {O O':Nat->Prop} {w w':World} {p:Nat->Bool} (hk:∀x v,x.all p=M->cK φ O w x v->cK φ' O' w' x v) {b:u_} {o:Obj} (hb:b.c.all p=M) (h:iY φ O w b o):iY φ' O' w' b o:=by
 unfold iY at h ⊢;cases hc:b.c with
 |fz l=>
  rw[hc]at h;obtain⟨arr,h1,h2,A⟩:=h;exact⟨arr,h1,h2,λj x z=>by
   obtain⟨a,v,c,d⟩:=A j x z;refine ⟨a,v,c,hk _ _ ?_ d⟩;simp only[BC.get]at z;cases hl:l[j]? with
   |none=>rw[hl]at z;cases z
   |some q=>rw[hl]at z;simp at z;subst z;rfl⟩
 |mx l=>
  rw[hc]at h hb;obtain⟨arr,h1,h2,A⟩:=h;exact⟨arr,h1,h2,λj x z=>by
   obtain⟨a,v,c,d⟩:=A j x z;exact⟨a,v,c,hk _ _ (me hb x (bi z)) d⟩⟩
 |mp es=>
  rw[hc]at h hb;obtain⟨e,c,h1,h2,A⟩:=h;exact⟨e,c,h1,h2,λj x z=>by
   obtain⟨m,a,b⟩:=A j x z;exact⟨m,a,hk _ _ (me hb x.2 (cZ.2 ⟨x,bi z,rfl⟩)) b⟩⟩
 |it s q=>rw[hc]at h;exact h
def ZL (m:Nat):ι:=(gx (m+1)).filter λi=>aP m i
theorem L6 {m i:Nat}:i∈ZL m↔aP m i=M:=by
 unfold ZL;rw[Ez,nz];constructor
 .exact λh=>h.2
 .intro h;refine ⟨?_,h⟩;have h1:=Nat.ge_two_pow_of_testBit h;have h2:=Nat.lt_two_pow_self (n:=i);omega
def j9 (φ:PM) (O:Nat->Prop) (w:World):Y AV->ξ->Prop
 |[],[]=>True
 |x::xs,v::vs=>cK φ O w x v/\j9 φ O w xs vs
 |_,_=>False
theorem j9.length {φ:PM} {O:Nat->Prop} {w:World}:∀{args:Y AV} {vs:ξ},j9 φ O w args vs->vs.length=args.length
 |[],[],_=>rfl
 |[],_::_,h=>h.elim
 |_::_,[],h=>h.elim
 |_::_,_::_,h=>by simp[j9.length h.2]
theorem j9.mono {φ φ':PM} {O O':Nat->Prop} {w w':World} {p:Nat->Bool} (hk:∀x v,x.all p=M->cK φ O w x v->cK φ' O' w' x v):∀{args:Y AV} {vs:ξ},AV.allL p args=M->j9 φ O w args vs->j9 φ' O' w' args vs
 |[],[],_,_=>trivial
 |[],_::_,_,h=>h.elim
 |_::_,[],_,h=>h.elim
 |x::xs,_::_,hp,h=>by
  simp only[AV.allL,ak]at hp;exact⟨hk _ _ hp.1 h.1,j9.mono hk hp.2 h.2⟩
theorem j9.append {φ:PM} {O:Nat->Prop} {w:World}:∀{xs d:Y AV} {vs us:ξ},j9 φ O w xs vs->j9 φ O w d us->j9 φ O w (xs++d) (vs++us)
 |[],_,[],_,_,h=>h
 |[],_,_::_,_,h,_=>h.elim
 |_::_,_,[],_,h,_=>h.elim
 |_::_,_,_::_,_,h,h'=>⟨h.1,j9.append h.2 h'⟩
theorem j9.of {φ:PM} {O:Nat->Prop} {w:World}:∀{xs:Y AV} {vs:ξ},vs.length=xs.length->(∀(j:Nat) x v,xs[j]? =Z x->vs[j]? =Z v->cK φ O w x v)->j9 φ O w xs vs
 |[],[],_,_=>trivial
 |[],_::_,h,_=>by simp at h
 |_::_,[],h,_=>by simp at h
 |x::xs,v::vs,hl,h=>⟨h 0 x v rfl rfl,j9.of (by simpa using hl) λj x v d hv=>h (j+1) x v (by simpa using d) (by simpa using hv)⟩
def Dd (P:Program) (f:FuncId):Prop:=∃fn,P.funcs[f]? =Z fn∧fn.body.isNone=aa∧(fn.name== "runtime.NumGoroutine")=aa
theorem NK {φ:PM} {E:Nat->Prop} {h':HF} {w:World} {a:Act} {e:yW} {o:Oper} (hp:R9 φ E h' w a e o):∀(xs:Y Operand) (d:Y AV),(∀x∈xs,x∈o.op.operands)->Vi e xs=Z d->j9 φ (tot E φ h') w d (xs.map a.eval)
 |[],d,_,h=>by simp only[Vi,af]at h;subst h;trivial
 |x::xs,d,hm,h=>by
  simp only[Vi]at h;split at h
  .rename_i y q;split at h
   .rename_i ys' hys;simp only[af]at h;subst h;exact⟨hp x y (hm x (ep ..)) q,NK hp xs ys' (λx s=>hm x (dk _ s)) hys⟩
   .cases h
  .cases h
theorem wq {P:Program} {f:FuncId} (hc:Dd P f) (args:Array Value) (w:World):(callFunc f args).run P w= .ok (.enter f args) w:=by
 obtain⟨fn,h1,h2,s⟩:=hc;have d:fn.name≠ "runtime.NumGoroutine" :=by simpa using s
 have q:fn.body≠U:=by intro h;rw[h]at h2;cases h2
 simp[callFunc,program,kf,h1,q,d]
theorem Vd:∀(fs:Y FPm) (i:Nat),Wx fs i=fs[i]?
 |[],i=>by simp[Wx]
 |f::fs,0=>rfl
 |f::fs,i+1=>by simp[Wx,Vd fs i]
theorem wV {a b:Nat} (h:CS a b=M) (i:Nat) (d:aP a i=M):aP b i=aa:=by
 unfold CS at h;have h0:a&&&b=0:=au h;have:=Nat.testBit_and a b i;rw[h0,d]at this;simpa using this.symm
structure Ctx where
 n0:Nat
 φ:PM
 E:Nat->Prop
 h:HF
 w:World
def aac (P:Program) (d:Deferred):Prop:=∀w:World,∃s cap f args,d.target= .fn s cap/\(invoke d.target d.args).run P w= .ok (.enter f args) w/\
 CallsD P f args .returning w λe q w'=>(∃v,e= .returned v)/\q= .returning/\w'=w
structure Cfg (P:Program) (C:Ctx) (nt:Nat) (s:IS) (a:Act) (w:World):Prop where
 ex:∃φ,iZ C.φ φ C.h s.h.get C.w w/\qI φ C.E s.h.get w/\MS φ (tot C.E φ s.h.get) w s.e.get a/\(∀i k,φ i=Z k->i<s.nx)/\∀i k,φ i=Z k->C.φ i=Z k\/C.n0<=i
 low:C.n0<=s.nx
 inert:∀d∈a.defers,aac P d
 size:a.tmps.size=nt
theorem Cfg.bool {P:Program} {C:Ctx} {nt:Nat} {s:IS} {a:Act} {w:World} (c:Cfg P C nt s a w) {t:Nat} {b:Bool} (ht:s.e.get t=Z (.f (.raw (.bool b)))):a.eval (.tmp t)= .bool b:=by
 obtain⟨φ,_,_,en,_,_⟩:=c.ex;exact eJ (en t _ ht)
theorem BE {P:Program} {c:Code} {Q:Exit->Act->World->Prop} (I:Nat->Act->World->Prop) (round:∀n a w,I n a w->c.wp P (Exit.then (λa' w'=>∃m,m<n/\I m a' w') Q) a w) {n:Nat} {a:Act} {w:World} (h0:I n a w):(Code.loop c).wp P Q a w:=by
 have least:∀(n:Nat) (a:Act) (w:World),I n a w->∃m,I m a w/\∀k,I k a w->m<=k:=by
  intro n;induction n using Nat.strongRecOn with
  |_ n s=>
   intro a w hn;by_cases d:∃k,k<n/\I k a w
   .obtain⟨k,hk,q⟩:=d;exact s k hk a w q
   .exact⟨n,hn,λk hk=>Nat.le_of_not_lt λhlt=>d ⟨k,hlt,hk⟩⟩
 have pick:∀a w,∃m,(∃n,I n a w)->I m a w/\∀k,I k a w->m<=k:=λa w=>by
  by_cases d:∃n,I n a w
  .obtain⟨n,hn⟩:=d;obtain⟨m,hm⟩:=least n a w hn;exact⟨m,λ_=>hm⟩
  .exact⟨0,λh=>dR h d⟩
 let μ:Act->World->Nat:=λa w=>Classical.choose (pick a w)
 have hμ:∀a w,(∃n,I n a w)->I (μ a w) a w/\∀k,I k a w->μ a w<=k:=λa w=>Classical.choose_spec (pick a w)
 refine wp_loop (λa w=>∃n,I n a w) μ ⟨n,h0⟩ λa w q=>?_
 refine wp_mono (round (μ a w) a w (hμ a w q).1) λe a' w' he=>?_
 cases e with
 |normal=>
  obtain⟨m,hm,hIm⟩:=he;exact⟨⟨m,hIm⟩,Nat.lt_of_le_of_lt ((hμ a' w' ⟨m,hIm⟩).2 m hIm) hm⟩
 |exit id=>exact he
 |goto l=>exact he
 |ret=>exact he
 |panic c=>exact he
 |outgrown=>exact he
def Ex.to:Ex->Exit
 |.normal=>.normal
 |.exit id=>.exit id
 |.ret=>.ret
def Kb (P:Program) (inert:FuncId->Bool):Prop:=∀f,inert f=M->Dd P f/\∀(args:Array Value) (w:World),CallsD P f args .returning w λe d w'=>(∃v,e= .returned v)/\d= .returning/\w'=w
theorem Qz {P:Program} {C:Ctx} {nt:Nat} {inert:FuncId->Bool} (hin:Kb P inert) {s:IS} {a:Act} {w:World} (c:Cfg P C nt s a w) {id:Nat} {ops:Array Oper} {dr:Bool} {f:FuncId} {caps:Y Operand} {t:Nat} (hd:(ops.toList.all λo=>match o.dst with|some d=>decide (d<nt)|none=>M)=M) (hdf:CW ops dr=Z (f,caps,t))
 {l:Y AV} (hl:Vi s.e caps=Z l) (hi:inert f=M) {Q:Exit->Act->World->Prop} (hQ:∀a w,Cfg P C nt ⟨s.e.put (Z t) (.clo f l),s.h,s.nx,s.wr⟩ a w->Q .normal a w):(Code.region id ops dr).wp P Q a w:=by
 unfold CW at hdf;split at hdf
 .rename_i p q hops;split at hdf
  .rename_i f' first caps' t1 cl hpo hpg hpd hqo hqg hqd
   split at hdf
   .rename_i t2 hcl hca;split at hdf
    .rename_i hcond;simp only[ak]at hcond;obtain⟨h1,h2⟩:=hcond;have h1:=au h1;have h2:first=#[]:=by simpa using h2
     simp only[af,aC]at hdf;obtain⟨rfl,rfl,rfl⟩:=hdf;subst h1;subst h2;have hops':ops=#[p,q]:=by rw[<- Array.toArray_toList (xs:=ops),hops]
     obtain⟨φ,m,r,en,dm⟩:=c.ex;obtain⟨hcb,hincalls⟩:=hin f' hi;have htn:t1<nt:=by
      have:=gm.1 hd p (by rw[hops];simp);rw[hpd]at this;simpa using this
     have hrelL:j9 φ (tot C.E φ s.h.get) w l (caps'.toList.map a.eval):=by
      have hp':R9 φ C.E s.h.get w a s.e p:=λx y F I=>rJ r (xs:=p.op.operands) (λt _ y I=>en t y I) F I
      exact NK hp' caps'.toList l (λx F=>by rw[hpo];simpa[Op.operands] using F) hl
     have hcm:caps'.map a.eval=(caps'.toList.map a.eval).toArray:=by apply Km;simp
     let A:Value:=.func (.func f') #[] (caps'.map a.eval)
     have hrel:cK φ (tot C.E φ s.h.get) w (.clo f' l) A:=by
      simp only[A];rw[hcm];refine .clo (hrelL.length) ?_;have:∀(xs:Y AV) (vs:ξ),j9 φ (tot C.E φ s.h.get) w xs vs->∀(j:Nat) x v,xs[j]? =Z x->vs[j]? =Z v->cK φ (tot C.E φ s.h.get) w x v:=by
       intro xs;induction xs with
       |nil=>intro vs _ j x v F;simp at F
       |cons y xs ih=>
        intro vs h j x v F hv;cases vs with
        |nil=>exact h.elim
        |cons u vs=>
         cases j with
         |zero=>simp at F hv;subst F;subst hv;exact h.1
         |succ j=>exact ih vs h.2 j x v (by simpa using F) (by simpa using hv)
      exact this _ _ hrelL
     refine wp_region ?_;have L:gx ops.size=[0,1]:=by rw[hops'];rfl
     rw[L];have e0:ops[0]? =Z p:=by rw[hops'];rfl
     have e1:ops[1]? =Z q:=by rw[hops'];rfl
     rw[wpOps_cons];have hexec1:(execOp a.eval p).run P w= .ok (.value A) w:=by
      unfold execOp;rw[hpo];simp[Instr.makeFunc,A]
     have w1:iL p (yielded ops a.tmps)=M:=by unfold iL;rw[hpg]
     unfold wpOp;simp only[e0,w1,bH];left;unfold GY;rw[hexec1];show wpOps P ops Q [1] (a.put p.dst A) w;rw[wpOps_cons];unfold wpOp;have w2:iL q (yielded ops (a.put p.dst A).tmps)=M:=by unfold iL;rw[hqg]
     simp only[e1,w2,bH];left;have heval:(a.put p.dst A).eval (.tmp t1)=A:=by
      show (a.put p.dst A).tmps.getD t1 undef=A;rw[HB (by intro d z;rw[hpd]at z;cases z;rw[c.size];exact htn),aW hpd]
     have hargs:cl.args=#[]:=by rw[<- Array.toArray_toList (xs:=cl.args),hca]
     have hexec2:(execOp (a.put p.dst A).eval q).run P w= .ok (.defer {target:=.fn (.func f') (caps'.map a.eval),args:=#[]}) w:=by
      unfold execOp;rw[hqo];simp[resolve,hcl,heval,A,Deferred.ofValue,hargs]
     unfold GY;rw[hexec2];show wpOps P ops Q [] _ w;refine hQ _ _ ⟨⟨φ,m,r,?_,dm⟩,c.low,?_,?_⟩
     .intro u x F;rw[hqd];show cK φ _ w x ((a.put p.dst A).tmps.getD u undef);rw[HB (by intro d z;rw[hpd]at z;cases z;rw[c.size];exact htn)];have D:(s.e.put (Z t1) (.clo f' l)).get u=Z x:=F;rw[<- Yw]at D;unfold BT at D;rw[hpd];by_cases hu:Z t1=Z u
      .rw[aW hu]at D ⊢;cases D;exact hrel
      .rw[aM hu]at D ⊢;exact en u x D
     .intro d z;rw[hqd]at z;have hd'':d={target:=.fn (.func f') (caps'.map a.eval),args:=#[]}\/d∈(a.put p.dst A).defers:=by
       simpa[MY] using z
      rcases hd'' with rfl|hd''
      .intro w0;refine ⟨_,_,f',caps'.map a.eval,rfl,?_,hincalls _ w0⟩;simp[invoke,wq hcb]
      .rw[HC]at hd'';exact c.inert d hd''
     .rw[hqd];show (a.put p.dst A).tmps.size=nt;rw[O8];exact c.size
    .cases hdf
   .cases hdf
  .cases hdf
 .cases hdf
def V2 (tmps:Array Value):ResultVar->Sem Value
 |.tmp t=>pure (tmps.getD t undef)
 |.cell a t=>do
  let d<-asAddr (tmps.getD a undef)
  loadVar t d
theorem Sr (fn:Func) (tmps:Array Value):results fn tmps=(do let vs<-fn.results.mapM (V2 tmps);pure (if h:vs.size=1 then vs[0] else .tuple vs)):=by
 unfold results;congr 2
theorem B3 {P:Program} {fn:Func} {tmps:Array Value} {R:Ending->World->Prop} {w:World} {v:Value} (hr:(results fn tmps).run P w= .ok v w) (q:R (.returned v) w):∀(ds:Y Deferred),(∀d∈ds,aac P d)->Leaves P fn tmps R ds .returning w
 |[],_=>⟨v,hr,q⟩
 |d::ds,h=>by
  obtain⟨z,cap,f,args,h1,h2,s⟩:=h d (ep ..) w;refine ⟨by simp,z,cap,f,args,h1,h2,s.mono ?_⟩;rintro e D w' ⟨⟨A,rfl⟩,rfl,rfl⟩;exact B3 hr q ds λd hd=>h d (dk _ hd)
theorem j9.get {φ:PM} {O:Nat->Prop} {w:World}:∀{xs:Y AV} {vs:ξ},j9 φ O w xs vs->∀(j:Nat) x,xs[j]? =Z x->∃v,vs[j]? =Z v/\cK φ O w x v
 |[],_,_,j,x,d=>by simp at d
 |_::_,[],h,_,_,_=>h.elim
 |y::xs,u::vs,h,j,x,d=>by
  cases j with
  |zero=>simp at d;subst d;exact⟨u,rfl,h.1⟩
  |succ j=>exact j9.get h.2 j x (by simpa using d)
theorem Rg {P:Program} {f:FuncId} {d:SF} (h:yQ P f=Z d):∃fn c,P.funcs[f]? =Z fn∧fn.body=Z c∧(fn.name== "runtime.NumGoroutine")=aa∧d.code=co P fn.ntmps c∧uM P fn.results.toList=Z d.res∧d.nt=fn.ntmps:=by
 unfold yQ at h;split at h
 .rename_i fn hf;split at h
  .cases h
  .rename_i hn;split at h
   .rename_i c r hb hr;simp only[af]at h;subst h;exact⟨fn,c,hf,hb,by simpa using hn,rfl,hr,rfl⟩
   .cases h
 .cases h
theorem acy {a b:Value} (h:afr a b=M):a=b:=by
 unfold afr at h;split at h
 .simp at h;rw[h]
 .simp at h;rw[h.1,h.2]
 .rw[yU.1 h]
 .simp only[ak]at h;rw[au h.1,au h.2]
 .rfl
 .rename_i x y;simp only[ak,Array.isEmpty_iff]at h;rw[h.1,h.2]
 .cases h
def PT.mapO {α β:Type} (g:α->J β):PT α->PT β
 |.leaf=>.leaf
 |.node v l r=>.node (v.bind g) (PT.mapO g l) (PT.mapO g r)
theorem PT.get_mapO {α β:Type} (g:α->J β):∀(t:PT α) (i:Nat),(PT.mapO g t).get i=(t.get i).bind g
 |.leaf,i=>by simp[PT.mapO,PT.get]
 |.node v l r,0=>by simp[PT.mapO,PT.get]
 |.node v l r,j+1=>by
  simp only[PT.mapO,PT.get];split
  .exact PT.get_mapO g l _
  .exact PT.get_mapO g r _
theorem PT.get_updI {α:Type} (f:Nat->α->α):∀(t:PT α) (a b i:Nat),(PT.updI f a b t).get i=(t.get i).map (f (a*i+b))
 |.leaf,_,_,i=>by simp[PT.updI,PT.get]
 |.node v l r,a,b,0=>by cases v<;>simp[PT.updI,PT.get]
 |.node v l r,a,b,j+1=>by
  simp only[PT.updI,PT.get];split
  .rename_i hj;rw[PT.get_updI f l];have:2*a*(j/2)+(a+b)=a*(j+1)+b:=by
    have h2:j=2*(j/2):=by have:=au hj;omega
    have d:2*a*(j/2)=a*j:=by rw[GZ 2 a,Nat.mul_assoc,<-h2]
    rw[d,Nat.mul_add];omega
   rw[this]
  .rename_i hj;rw[PT.get_updI f r];have:2*a*(j/2)+(2*a+b)=a*(j+1)+b:=by
    have h1:j%2≠0:=λh=>hj (by rw[h];rfl)
    have h2:j=2*(j/2)+1:=by omega
    have d:2*a*(j/2)=a*(2*(j/2)):=by rw[GZ 2 a,Nat.mul_assoc]
    have q:a*(j+1)=a*(2*(j/2))+2*a:=by
     conv=>lhs;rw[h2]
     rw[Nat.mul_add,Nat.mul_add];omega
    rw[d,q];omega
   rw[this]
theorem PT.bound {α:Type}:∀(t:PT α),∃B,∀i,B<=i->t.get i=U
 |.leaf=>⟨0,λi _=>rfl⟩
 |.node v l r=>by
  obtain⟨a,d⟩:=PT.bound l;obtain⟨b,hb⟩:=PT.bound r;refine ⟨2*(a+b)+3,λi hi=>?_⟩;cases i with
  |zero=>omega
  |succ j=>
   simp only[PT.get];split
   .exact d _ (by omega)
   .exact hb _ (by omega)
def PT.ofF {α:Type} (f:Nat->J α):Nat->PT α
 |0=>.leaf
 |n+1=>(PT.ofF f n).set n (f n)
theorem PT.get_ofF {α:Type} (f:Nat->J α):∀(n i:Nat),(PT.ofF f n).get i=if i<n then f i else U
 |0,i=>by simp[PT.ofF,PT.get]
 |n+1,i=>by
  rw[PT.ofF,PT.get_set,PT.get_ofF f n];by_cases h:i=n
  .subst h;simp
  .rw[aM h];by_cases h2:i<n
   .rw[aW h2,aW (by omega)]
   .rw[aM h2,aM (by omega)]
def nm (i:Nat):Nat:=2*i
def ow (n:Nat):Nat:=n/2
theorem dS (i:Nat):ow (nm i)=i:=by unfold ow nm;omega
theorem kT {i j:Nat} (h:nm i=nm j):i=j:=by unfold nm at h;omega
def e_ (p:Bool) (id sz n:Nat):AV:=if p&&n==0 then .emp else .row (nm id) sz n
mutual
def cf (h:bn):TV->J AV
 |.f T v=>Z (.f (gi T v))
 |.fel T xs j _ off=>Z (.f (.ptr (xs.flatMap (bQ T)) (j.toNat*T.size+off)))
 |.pel id sz j off=>Z (.ptr (nm id) (j.toNat*sz+off))
 |.ptr id off=>Z (.ptr (nm id) off)
 |.csl id sz n=>Z (.row (nm id) sz n)
 |.row id=>match ej h id with|some (p,sz,n)=>Z (e_ p id sz n)|none=>U
 |.rtl id j=>match ej h id with|some (_,sz,n)=>Z (.sl (nm id) (j.toNat*sz) (n-j.toNat))|none=>U
 |.emp=>Z .emp
 |.nil=>Z (.f (.raw (.slice U 0 0)))
 |.mp id=>Z (.mp (nm id))
 |.agg l=>match cF h l with|some l'=>Z (.agg l')|none=>U
 |.tup l=>match cF h l with|some l'=>Z (.tup l')|none=>U
 |.clo g l=>match cF h l with|some l'=>Z (.clo g l')|none=>U
 |.undef=>Z (.f (.raw undef))
 |.np=>Z (.f (.raw (.pointer U)))
 |.anyb=>Z .anyb
 |.ful T xs=>Z (.ful (xs.flatMap (bQ T)) (ah xs))
def cF (h:bn):Y TV->J (Y AV)
 |[]=>Z []
 |x::r=>match cf h x with
  |some y=>(match cF h r with|some l=>Z (y::l)|none=>U)
  |none=>U
end
def pC:(K:Ty)->K.den->Value
 |.int k,n=>.int k n
 |.str,s=>.string ⟨eR s⟩
 |_,_=>undef
def YN:(K V:Ty)->Y (K.den×V.den)->BC
 |.st (.pr .str (.int .i64)),.un,es=>.it ⟨eR (G9 es)⟩ (F0 es)
 |K,V,es=>.mp (es.map λp=>(pC K p.1,.f (gi V p.2)))
theorem yf {K V:Ty} {es:Y (K.den×V.den)} (h:SH K=M):YN K V es= .mp (es.map λp=>(pC K p.1,.f (gi V p.2))):=by
 unfold YN;split
 .cases h
 .rfl
theorem afc {K V:Ty} {es:Y (K.den×V.den)} {s:ζ} {p:Nat} (h:itE K V es=Z (s,p)):YN K V es= .it ⟨eR s⟩ p:=by
 unfold itE at h;split at h
 .cases h;rfl
 .cases h
def oC:Nat->Y AV->Y (Value×AV)
 |_,[]=>[]
 |i,v::r=>(.int .i64 (aT i),v)::oC (i+1) r
theorem B8:∀(l:Y AV) (i j:Nat),(oC i l)[j]? =(l[j]?).map λv=>(.int .i64 (aT (i+j)),v)
 |[],i,j=>rfl
 |v::r,i,0=>rfl
 |v::r,i,j+1=>by
  rw[oC,List.getElem?_cons_succ,B8 r (i+1) j,show i+1+j=i+(j+1) from by omega];rfl
theorem DH (k:Value):∀(l:Y AV) (i:Nat),k∈(oC i l).map (·.1)->vE k
 |v::r,i,h=>by
  rcases bx.1 h with h|h
  .exact⟨_,h⟩
  .exact DH k r (i+1) h
theorem L8:∀(l:Y AV) (i:Nat),(oC i l).map (·.2)=l
 |[],_=>rfl
 |v::r,i=>by rw[oC,eY,L8 r (i+1)]
theorem Pn (f:AV->AV):∀(l:Y AV) (i:Nat),(oC i l).map (λp=>(p.1,f p.2))=oC i (l.map f)
 |[],_=>rfl
 |v::r,i=>by rw[oC,eY,Pn f r (i+1)];rfl
theorem L9:∀(l:Y AV) (i n:Nat),told (aT (i+n)) (oC i l)=l[n]?
 |[],i,n=>rfl
 |v::r,i,0=>by rw[oC,told,dc,aW rfl];rfl
 |v::r,i,n+1=>by
  rw[oC,told,aM (λe=>by have:=sa e;omega),show i+(n+1)=i+1+n from by omega,L9 r (i+1) n];rfl
theorem L_ (y:AV) (n:Int):∀(l:Y AV) (i:Nat),n<aT i->lG n y (oC i l)=oC i l
 |[],i,_=>rfl
 |v::r,i,h=>by
  simp only[oC,lG];rw[L_ y n r (i+1) (Int.lt_trans h (Int.ofNat_lt.2 (qy i))),aM (λe=>by rw[e]at h;exact Int.lt_irrefl _ h)]
theorem Pm (y:AV):∀(l:Y AV) (i n:Nat),lG (aT (i+n)) y (oC i l)=oC i (l.set n y)
 |[],i,n=>rfl
 |v::r,i,0=>by
  simp only[oC,lG,dc,List.set_cons_zero];rw[L_ y (aT i) r (i+1) (Int.ofNat_lt.2 (qy i)),aW trivial]
 |v::r,i,n+1=>by
  simp only[oC,lG,List.set_cons_succ];rw[aM (λe=>by have:=sa e;omega),show i+(n+1)=i+1+n from by omega,Pm y r (i+1) n]
theorem VN {ty:TypeId} {es:Y (Value×AV)} {ents:Array MapEntry} (f:AV->AV):VO ty (es.map λp=>(p.1,f p.2)) ents=VO ty es ents:=by unfold VO;rw[G0];rfl
theorem Sk {α:Type} {l:Y α} {n:Nat} {x:α} (h:n<l.length):splice l n [x]=l.set n x:=by
 rw[List.set_eq_take_append_cons_drop,aW h];simp[splice]
def jC (h:bn):ii->J u_
 |.rows ty p T xs=>if p&&xs.length==0 then U else Z ⟨ty,.fz (xs.flatMap (bQ T))⟩
 |.cells (Z ty) l=>match cF h l with|some d=>Z ⟨ty,.mx d⟩|none=>U
 |.cells U l=>match cF h l with|some d=>Z ⟨1,.mp (oC 0 d)⟩|none=>U
 |.dead _ _ _=>U
 |.mp K V es=>Z ⟨0,YN K V es⟩
def fq (e:iN) (h:bn):EF:=λt=>(e.get t).bind (cf h)
def bD (h:bn):HF:=λn=>if n%2=0 then (h.get (n/2)).bind (jC h) else U
theorem bL (h:bn) (i:Nat):bD h (nm i)=(h.get i).bind (jC h):=by
 unfold bD nm;rw[aW (by omega),show 2*i/2=i from by omega]
theorem jB {h:bn} {n:Nat} {b:u_} (hb:bD h n=Z b):∃i c,n=nm i/\h.get i=Z c/\jC h c=Z b:=by
 unfold bD at hb;split at hb
 .cases hc:h.get (n/2) with
  |none=>rw[hc]at hb;cases hb
  |some c=>rw[hc]at hb;exact⟨n/2,c,by unfold nm;omega,hc,hb⟩
 .cases hb
def IP (e:iN) (h:bn):yW:=PT.mapO (cf h) e
theorem uH (e:iN) (h:bn):(IP e h).get=fq e h:=by funext t;exact PT.get_mapO _ _ _
theorem jQ (h:bn):∃H:mh,H.get=bD h:=by
 obtain⟨B,d⟩:=PT.bound h;refine ⟨PT.ofF (bD h) (2*B),?_⟩;funext n;rw[PT.get_ofF];split
 .rfl
 .unfold bD;split
  .rw[d _ (by omega)];rfl
  .rfl
theorem cU {h:bn} {x:TV} {r:Y TV} {l:Y AV} (he:cF h (x::r)=Z l):∃y d,l=y::d/\cf h x=Z y/\cF h r=Z d:=by
 simp only[cF]at he;split at he
 .rename_i y q;split at he
  .rename_i d hl;simp only[af]at he;exact⟨y,d,he.symm,q,hl⟩
  .cases he
 .cases he
theorem oX {h:bn} {x:TV} {r:Y TV} {y:AV} {d:Y AV} (h1:cf h x=Z y) (h2:cF h r=Z d):cF h (x::r)=Z (y::d):=by
 simp only[cF,h1,h2]
theorem gB {h:bn}:∀{l:Y TV} {d:Y AV},cF h l=Z d->d.length=l.length
 |[],d,he=>by simp only[cF,af]at he;subst he;rfl
 |x::r,d,he=>by
  obtain⟨y,l2,rfl,_,h2⟩:=cU he;simp[gB h2]
theorem nv {h:bn}:∀{a b:Y TV} {a' b':Y AV},cF h a=Z a'->cF h b=Z b'->cF h (a++b)=Z (a'++b')
 |[],b,a',b',d,hb=>by simp only[cF,af]at d;subst d;exact hb
 |x::r,b,a',b',d,hb=>by
  obtain⟨y,l2,rfl,h1,h2⟩:=cU d;exact oX h1 (nv h2 hb)
theorem Bk {h:bn}:∀{a b:Y TV} {l:Y AV},cF h (a++b)=Z l->∃a' b',l=a'++b'/\cF h a=Z a'/\cF h b=Z b'
 |[],b,l,he=>⟨[],l,rfl,rfl,he⟩
 |x::r,b,l,he=>by
  obtain⟨y,l2,rfl,h1,h2⟩:=cU he;obtain⟨a',b',rfl,q,d⟩:=Bk h2;exact⟨y::a',b',rfl,oX h1 q,d⟩
theorem D9 {h:bn}:∀{l:Y TV} {d:Y AV} (n:Nat),cF h l=Z d->cF h (l.take n)=Z (d.take n)
 |[],d,n,he=>by simp only[cF,af]at he;subst he;simp[cF]
 |x::r,d,n,he=>by
  obtain⟨y,l2,rfl,h1,h2⟩:=cU he;cases n with
  |zero=>simp[cF]
  |succ n=>exact oX h1 (D9 n h2)
theorem D' {h:bn}:∀{l:Y TV} {d:Y AV} (n:Nat),cF h l=Z d->cF h (l.drop n)=Z (d.drop n)
 |[],d,n,he=>by simp only[cF,af]at he;subst he;simp[cF]
 |x::r,d,n,he=>by
  obtain⟨y,l2,rfl,h1,h2⟩:=cU he;cases n with
  |zero=>exact he
  |succ n=>simpa using D' n h2
theorem pD {h:bn} {l vs:Y TV} {d vs':Y AV} (off:Nat) (h1:cF h l=Z d) (h2:cF h vs=Z vs'):cF h (splice l off vs)=Z (splice d off vs'):=by
 unfold splice;rw[gB h2];exact nv (nv (D9 _ h1) h2) (D' _ h1)
theorem k9 {h:bn}:∀{l:Y TV} {d:Y AV},cF h l=Z d->∀(j:Nat) x,l[j]? =Z x->∃y,d[j]? =Z y/\cf h x=Z y
 |[],d,he,j,x,s=>by simp at s
 |x::r,d,he,j,z,q=>by
  obtain⟨y,l2,rfl,h1,h2⟩:=cU he;cases j with
  |zero=>simp at q;subst q;exact⟨y,rfl,h1⟩
  |succ j=>simpa using k9 h2 j z (by simpa using q)
mutual
theorem o6 (h:bn):∀(u:TV),KH h u=M->∃y,cf h u=Z y
 |.f _ _,_=>⟨_,rfl⟩
 |.fel _ _ _ _ _,_=>⟨_,rfl⟩
 |.pel _ _ _ _,_=>⟨_,rfl⟩
 |.ptr _ _,_=>⟨_,rfl⟩
 |.csl _ _ _,_=>⟨_,rfl⟩
 |.row id,he=>by
  simp only[KH]at he;cases hr:ej h id with
  |none=>rw[hr]at he;cases he
  |some r=>obtain⟨p,sz,n⟩:=r;exact⟨_,by simp only[cf,hr];rfl⟩
 |.rtl id jj,he=>by
  simp only[KH]at he;cases hr:ej h id with
  |none=>rw[hr]at he;cases he
  |some r=>obtain⟨p,sz,n⟩:=r;exact⟨_,by simp only[cf,hr];rfl⟩
 |.emp,_=>⟨_,rfl⟩
 |.nil,_=>⟨_,rfl⟩
 |.mp _,_=>⟨_,rfl⟩
 |.agg l,he=>by obtain⟨y,hy⟩:=eU h l he;exact⟨_,by simp only[cf,hy];rfl⟩
 |.tup l,he=>by obtain⟨y,hy⟩:=eU h l he;exact⟨_,by simp only[cf,hy];rfl⟩
 |.clo g l,he=>by obtain⟨y,hy⟩:=eU h l he;exact⟨_,by simp only[cf,hy];rfl⟩
 |.undef,_=>⟨_,rfl⟩
 |.np,_=>⟨_,rfl⟩
 |.anyb,_=>⟨_,rfl⟩
 |.ful _ _,_=>⟨_,rfl⟩
theorem eU (h:bn):∀(l:Y TV),kS h l=M->∃l',cF h l=Z l'
 |[],_=>⟨[],rfl⟩
 |x::r,he=>by
  simp only[kS,ak]at he;obtain⟨y,hy⟩:=o6 h x he.1;obtain⟨l',hl⟩:=eU h r he.2;exact⟨_,oX hy hl⟩
end
def b_ (h h':bn):Prop:=∀id r,ej h id=Z r->ej h' id=Z r
mutual
theorem fG {h h':bn} (hk:b_ h h'):∀(u:TV) (y:AV),cf h u=Z y->cf h' u=Z y
 |.f _ _,y,he=>he
 |.fel _ _ _ _ _,y,he=>he
 |.pel _ _ _ _,y,he=>he
 |.ptr _ _,y,he=>he
 |.csl _ _ _,y,he=>he
 |.row id,y,he=>by
  simp only[cf]at he ⊢;split at he
  .rename_i p sz n hr;rw[hk _ _ hr];exact he
  .cases he
 |.rtl id jj,y,he=>by
  simp only[cf]at he ⊢;split at he
  .rename_i p sz n hr;rw[hk _ _ hr];exact he
  .cases he
 |.emp,y,he=>he
 |.nil,y,he=>he
 |.mp _,y,he=>he
 |.agg l,y,he=>by
  simp only[cf]at he ⊢;split at he
  .rename_i l' hl;rw[fY hk l l' hl];exact he
  .cases he
 |.tup l,y,he=>by
  simp only[cf]at he ⊢;split at he
  .rename_i l' hl;rw[fY hk l l' hl];exact he
  .cases he
 |.clo g l,y,he=>by
  simp only[cf]at he ⊢;split at he
  .rename_i l' hl;rw[fY hk l l' hl];exact he
  .cases he
 |.undef,y,he=>he
 |.np,y,he=>he
 |.anyb,y,he=>he
 |.ful _ _,y,he=>he
theorem fY {h h':bn} (hk:b_ h h'):∀(l:Y TV) (l':Y AV),cF h l=Z l'->cF h' l=Z l'
 |[],l',he=>he
 |x::r,l',he=>by
  obtain⟨y,l2,rfl,h1,h2⟩:=cU he;exact oX (fG hk x y h1) (fY hk r l2 h2)
end
mutual
theorem mR {h h':bn} (hk:b_ h h'):∀(u:TV),KH h u=M->KH h' u=M
 |.f _ _,_=>rfl
 |.fel _ _ _ _ _,_=>rfl
 |.pel _ _ _ _,_=>rfl
 |.ptr _ _,_=>rfl
 |.csl _ _ _,_=>rfl
 |.row id,he=>by
  simp only[KH]at he ⊢;cases hr:ej h id with
  |none=>rw[hr]at he;cases he
  |some r=>rw[hk _ _ hr];rfl
 |.rtl id jj,he=>by
  simp only[KH]at he ⊢;cases hr:ej h id with
  |none=>rw[hr]at he;cases he
  |some r=>rw[hk _ _ hr];rfl
 |.emp,_=>rfl
 |.nil,_=>rfl
 |.mp _,_=>rfl
 |.agg l,he=>iU hk l he
 |.tup l,he=>iU hk l he
 |.clo g l,he=>iU hk l he
 |.undef,_=>rfl
 |.np,_=>rfl
 |.anyb,_=>rfl
 |.ful _ _,_=>rfl
theorem iU {h h':bn} (hk:b_ h h'):∀(l:Y TV),kS h l=M->kS h' l=M
 |[],_=>rfl
 |x::r,he=>by
  simp only[kS,ak]at he ⊢;exact⟨mR hk x he.1,iU hk r he.2⟩
end
mutual
theorem D8 (h:bn):∀(u:TV) (y:AV),cf h u=Z y->KH h u=M
 |.f _ _,_,_=>rfl
 |.fel _ _ _ _ _,_,_=>rfl
 |.pel _ _ _ _,_,_=>rfl
 |.ptr _ _,_,_=>rfl
 |.csl _ _ _,_,_=>rfl
 |.row id,y,he=>by
  simp only[KH,cf]at he ⊢;cases hr:ej h id with
  |none=>rw[hr]at he;cases he
  |some r=>rfl
 |.rtl id jj,y,he=>by
  simp only[KH,cf]at he ⊢;cases hr:ej h id with
  |none=>rw[hr]at he;cases he
  |some r=>rfl
 |.emp,_,_=>rfl
 |.nil,_,_=>rfl
 |.mp _,_,_=>rfl
 |.agg l,y,he=>by
  simp only[cf]at he;split at he
  .rename_i l' hl;exact jX h l l' hl
  .cases he
 |.tup l,y,he=>by
  simp only[cf]at he;split at he
  .rename_i l' hl;exact jX h l l' hl
  .cases he
 |.clo g l,y,he=>by
  simp only[cf]at he;split at he
  .rename_i l' hl;exact jX h l l' hl
  .cases he
 |.undef,_,_=>rfl
 |.np,_,_=>rfl
 |.anyb,_,_=>rfl
 |.ful _ _,_,_=>rfl
theorem jX (h:bn):∀(l:Y TV) (l':Y AV),cF h l=Z l'->kS h l=M
 |[],_,_=>rfl
 |x::r,l',he=>by
  obtain⟨y,l2,rfl,h1,h2⟩:=cU he;simp only[kS,ak];exact⟨D8 h x y h1,jX h r l2 h2⟩
end
mutual
theorem Ql (h h':bn):∀(u:TV),tL u=M->cf h u=cf h' u
 |.f _ _,_=>rfl
 |.fel _ _ _ _ _,_=>rfl
 |.pel _ _ _ _,_=>rfl
 |.ptr _ _,_=>rfl
 |.csl _ _ _,_=>rfl
 |.row id,he=>by cases he
 |.emp,_=>rfl
 |.nil,_=>rfl
 |.mp _,_=>rfl
 |.agg l,he=>by simp only[cf];rw[D_ h h' l he]
 |.tup l,he=>by simp only[cf];rw[D_ h h' l he]
 |.clo g l,he=>by cases he
 |.undef,_=>rfl
 |.np,_=>rfl
 |.anyb,_=>rfl
 |.ful _ _,_=>rfl
theorem D_ (h h':bn):∀(l:Y TV),qf l=M->cF h l=cF h' l
 |[],_=>rfl
 |x::r,he=>by
  simp only[qf,ak]at he;simp only[cF];rw[Ql h h' x he.1,D_ h h' r he.2]
end
theorem Nj {h:bn} {u:TV} {y:AV} (he:cf h u=Z y) (hc:u.isC=M):y.isCell=M:=by
 cases u with
 |f T v=>cases T<;>simp only[cf,af]at he<;>subst he<;>first|rfl|(simp [TV.isC,Ty.one]at hc)
 |fel T xs j hj off=>simp only[cf,af]at he;subst he;rfl
 |pel id sz j off=>simp only[cf,af]at he;subst he;rfl
 |ptr id off=>simp only[cf,af]at he;subst he;rfl
 |csl id off z=>simp only[cf,af]at he;subst he;rfl
 |row id=>
  simp only[cf]at he;split at he
  .simp only[af]at he;subst he;unfold e_;split<;>rfl
  .cases he
 |rtl id d=>cases hc
 |emp=>simp only[cf,af]at he;subst he;rfl
 |nil=>simp only[cf,af]at he;subst he;rfl
 |mp id=>simp only[cf,af]at he;subst he;rfl
 |agg l=>cases hc
 |tup l=>cases hc
 |clo g l=>
  simp only[cf]at he;split at he
  .simp only[af]at he;subst he;rfl
  .cases he
 |undef=>cases hc
 |np=>simp only[cf,af]at he;subst he;rfl
 |anyb=>cases hc
 |ful T xs=>cases hc
theorem rN {h:bn}:∀{l:Y TV} {d:Y AV},cF h l=Z d->kE l=M->gj d=M
 |[],d,he,_=>by simp only[cF,af]at he;subst he;rfl
 |x::r,d,he,hc=>by
  obtain⟨y,l2,rfl,h1,h2⟩:=cU he;simp only[kE,ak]at hc;simp only[gj,ak];exact⟨Nj h1 hc.1,rN h2 hc.2⟩
def Le (x y:AV):Prop:=∀(φ:PM) (O:Nat->Prop) (w:World) (v:Value),cK φ O w x v->cK φ O w y v
theorem Le.refl (x:AV):Le x x:=λ_ _ _ _ h=>h
def lj (H H':HF) (x y:AV):Prop:=∀(φ:PM) (E:Nat->Prop) (w:World) (v:Value),qI φ E H w->cK φ (tot E φ H) w x v->cK φ (tot E φ H') w y v
def ul (H H':HF):Prop:=∀i b,H' i=Z b->∃b0,H i=Z b0
theorem ul.refl (H:HF):ul H H:=λ_ b h=>⟨b,h⟩
theorem ul.own {H H':HF} (d:ul H H') {φ:PM} {k:Nat} (h:own φ H' k):own φ H k:=by
 obtain⟨i,b,h1,h2⟩:=h;obtain⟨b0,q⟩:=d i b h1;exact⟨i,b0,q,h2⟩
theorem ul.tot {H H':HF} (d:ul H H') {E:Nat->Prop} {φ:PM} {k:Nat} (h:tot E φ H' k):tot E φ H k:=h.imp id d.own
theorem cK.dom {H H':HF} (d:ul H H') {φ:PM} {E:Nat->Prop} {w:World} {x:AV} {v:Value} (h:cK φ (tot E φ H) w x v):cK φ (tot E φ H') w x v:=
 h.ext (λ_ _ h=>h) (GP.refl _ w) λ_ _ hk=>d.tot hk
theorem mA.dom {H H':HF} (d:ul H H') {φ:PM} {E:Nat->Prop} {w:World} {x:FV} {v:Value} (h:mA (tot E φ H) w x v):mA (tot E φ H') w x v:=
 h.ext (GP.refl _ w) λ_ _ hk=>d.tot hk
theorem Le.toH {H H':HF} (d:ul H H') {x y:AV} (h:Le x y):lj H H' x y:=λφ E w v _ hr=>(h _ _ _ _ hr).dom d
theorem lj.refl {H H':HF} (d:ul H H') (x:AV):lj H H' x x:=(Le.refl x).toH d
def gY (H H':HF):Y AV->Y AV->Prop
 |[],[]=>True
 |x::xs,y::d=>lj H H' x y/\gY H H' xs d
 |_,_=>False
theorem gY.refl {H H':HF} (d:ul H H'):∀l,gY H H' l l
 |[]=>trivial
 |x::r=>⟨lj.refl d x,gY.refl d r⟩
theorem gY.length {H H':HF}:∀{l d:Y AV},gY H H' l d->d.length=l.length
 |[],[],_=>rfl
 |[],_::_,h=>h.elim
 |_::_,[],h=>h.elim
 |_::_,_::_,h=>by simp[gY.length h.2]
theorem gY.get {H H':HF}:∀{l q:Y AV},gY H H' l q->∀(j:Nat) y,q[j]? =Z y->∃x,l[j]? =Z x/\lj H H' x y
 |[],[],_,j,y,d=>by simp at d
 |[],_::_,h,_,_,_=>h.elim
 |_::_,[],h,_,_,_=>h.elim
 |x::xs,z::ys,h,j,y,d=>by
  cases j with
  |zero=>simp at d;subst d;exact⟨x,rfl,h.1⟩
  |succ j=>simpa using gY.get h.2 j y (by simpa using d)
theorem gY.append {H H':HF}:∀{a a' b b':Y AV},gY H H' a a'->gY H H' b b'->gY H H' (a++b) (a'++b')
 |[],[],_,_,_,h=>h
 |[],_::_,_,_,h,_=>h.elim
 |_::_,[],_,_,h,_=>h.elim
 |_::_,_::_,_,_,h,h'=>⟨h.1,gY.append h.2 h'⟩
theorem gY.take {H H':HF}:∀{a a':Y AV} (n:Nat),gY H H' a a'->gY H H' (a.take n) (a'.take n)
 |[],[],n,_=>by simp[gY]
 |[],_::_,_,h=>h.elim
 |_::_,[],_,h=>h.elim
 |_::_,_::_,0,_=>trivial
 |_::_,_::_,n+1,h=>⟨h.1,gY.take n h.2⟩
theorem gY.drop {H H':HF}:∀{a a':Y AV} (n:Nat),gY H H' a a'->gY H H' (a.drop n) (a'.drop n)
 |[],[],n,_=>by simp[gY]
 |[],_::_,_,h=>h.elim
 |_::_,[],_,h=>h.elim
 |_::_,_::_,0,h=>h
 |_::_,_::_,n+1,h=>gY.drop n h.2
theorem gY.splice {H H':HF} {a a' b b':Y AV} (off:Nat) (h1:gY H H' a a') (h2:gY H H' b b'):gY H H' (splice a off b) (splice a' off b'):=by
 unfold AI.splice;rw[h2.length];exact ((h1.take off).append h2).append (h1.drop _)
def iv (H H':HF) (b b':u_):Prop:=∀(φ:PM) (E:Nat->Prop) (w:World) (o:Obj),qI φ E H w->iY φ (tot E φ H) w b o->iY φ (tot E φ H') w b' o
theorem iv.refl {H H':HF} (d:ul H H') (b:u_):iv H H' b b:=λ_ _ _ _ _ h=>h.mono λ_ _ h=>h.dom d
theorem pz {φ:PM} {O:Nat->Prop} {w:World} {ty:TypeId} {c:BC} {o:Obj} (hc:c.isCells=M):iY φ O w ⟨ty,c⟩ o↔∃arr,o= .cells arr ty (0,0)/\uN φ O w c arr:=by
 unfold iY;cases c<;>simp[BC.isCells]at hc<;>rfl
theorem iv.cells {H H':HF} {ty:TypeId} {c c':BC} (hc:c.isCells=M) (d:c'.isCells=M) (hl:gY H H' c.toMx c'.toMx) (hcell:∀x∈c'.toMx,x.isCell=M):iv H H' ⟨ty,c⟩ ⟨ty,c'⟩:=by
 intro φ E w o hrep s;rw[pz hc]at s;rw[pz d];obtain⟨arr,h1,h2,F⟩:=s;refine ⟨arr,h1,by rw[BC.len_toMx d,hl.length,<-BC.len_toMx hc];exact h2,λj x q=>?_⟩;rw[BC.get_toMx d]at q;refine ⟨hcell x (bi q),?_⟩;obtain⟨y,z,hle⟩:=hl.get j x q;obtain⟨_,v,D,A⟩:=F j y (by rw[BC.get_toMx hc];exact z);exact⟨v,D,hle _ _ _ _ hrep A⟩
def Vv (ty:J TypeId) (l:Y AV):u_:=match ty with
 |some ty=>⟨ty,.mx l⟩
 |none=>⟨1,.mp (oC 0 l)⟩
theorem agb {es:Y (Value×AV)} {ents:Array MapEntry}:VO 1 es ents↔(∀m∈ents.toList,vE m.key)/\∀k∈es.map (·.1),vE k:=by
 unfold VO;rw[aM (by decide)]
theorem MpV1 {ents:Array MapEntry} {j:Nat} {k v:Value}:MpV 1 ents j k v↔v=kn k ents.toList:=by
 unfold MpV;rw[aM (by decide)]
theorem iv.told {H H':HF} {l q:Y AV} (hl:gY H H' l q):iv H H' ⟨1,.mp (oC 0 l)⟩ ⟨1,.mp (oC 0 q)⟩:=by
 intro φ E w o hrep A;obtain⟨ents,clock,h1,h2,I⟩:=A;refine ⟨ents,clock,h1,agb.2 ⟨(agb.1 h2).1,λk hk=>DH k _ _ hk⟩,λj x d=>?_⟩;rw[B8]at d;cases hj:q[j]? with
 |none=>rw[hj]at d;cases d
 |some y=>
  rw[hj]at d;cases d;obtain⟨z,s,hle⟩:=hl.get j y hj;obtain⟨v,F,D⟩:=I j _ (by rw[B8,s];rfl);exact⟨v,F,hle _ _ _ _ hrep D⟩
theorem iv.lay {H H':HF} (n:Nat):iv H H' ⟨0,.mp []⟩ ⟨1,.mp (oC 0 (aA n (.f (.raw (.slice U 0 0)))))⟩:=by
 intro φ E w o hrep s;obtain⟨ents,clock,h1,h2,z⟩:=s;have h2:ents.toList.map (·.key)=[]:=by unfold VO at h2;rw[aW rfl]at h2;exact h2
 have q:ents.toList=[]:=List.map_eq_nil_iff.1 h2;refine ⟨ents,clock,h1,agb.2 ⟨λm hm=>(by rw[q]at hm;cases hm),λk hk=>DH k _ _ hk⟩,λj x d=>?_⟩;rw[B8]at d;cases hj:(aA n (AV.f (.raw (.slice U 0 0))))[j]? with
 |none=>rw[hj]at d;cases d
 |some y=>
  rw[hj]at d;cases d;have hm:=bi hj;rw[List.mem_replicate]at hm;obtain⟨_,rfl⟩:=hm;exact⟨_,MpV1.2 rfl,by rw[q];exact .f (.raw _)⟩
theorem iv.eq {H H':HF} (d:ul H H') {ty:TypeId} {c c':BC} (hc:c.isCells=M) (q:c'.isCells=M) (hl:c.toMx=c'.toMx):iv H H' ⟨ty,c⟩ ⟨ty,c'⟩:=by
 intro φ E w o hrep z;rw[pz hc]at z;rw[pz q];obtain⟨arr,h1,h2,I⟩:=z;refine ⟨arr,h1,by rw[BC.len_toMx q,<-hl,<-BC.len_toMx hc];exact h2,λj x s=>?_⟩;rw[BC.get_toMx q,<-hl,<-BC.get_toMx hc]at s;obtain⟨F,v,D,A⟩:=I j x s;exact⟨F,v,D,A.dom d⟩
structure GJ (H H':HF):Prop where
 dom:ul H H'
 blk:∀i b b',H i=Z b->H' i=Z b'->iv H H' b b'
theorem GJ.refl (H:HF):GJ H H:=⟨ul.refl H,λi b b' h h'=>by rw[h]at h';cases h';exact iv.refl (ul.refl H) b⟩
theorem GJ.rep {H H':HF} (V:GJ H H') {φ:PM} {E:Nat->Prop} {w:World} (r:qI φ E H w):qI φ E H' w:=by
 refine ⟨λi j b b' k d z s q=>?_,λi b d=>?_,r.el,λg cells hg=>(r.gl g cells hg).dom V.dom⟩
 .obtain⟨b0,q1⟩:=V.dom i b d;obtain⟨b1,q2⟩:=V.dom j b' z;exact r.inj i j b0 b1 k q1 q2 s q
 .obtain⟨b0,q1⟩:=V.dom i b d;obtain⟨k,p1,p2,ob,p3,p4⟩:=r.at_ i b0 q1;exact⟨k,p1,p2,ob,p3,V.blk i b0 b q1 d φ E w ob r p4⟩
theorem gD.view {P:Program} {o:Oper} {e:EF} {h:HF} {val val':AV} {rd wr wr' N:ι} {nw nw':HF} (ht:gD P o e h ⟨val,rd,wr,nw,N⟩) (hsub:∀i∈wr,i∈wr'\/i∈rd)
 (hv:∀h':HF,(∀i∈rd,h' i=h i)->(∀i∈wr',h' i=h i)->GJ (eG h' wr nw) (eG h' wr' nw')/\lj (eG h' wr nw) (eG h' wr' nw') val val'):gD P o e h ⟨val',rd,wr',nw',N⟩:=by
 intro φ E h' w a h1 h2 D A z;have q:=ht φ E h' w a h1 (λi hi=>(hsub i hi).elim (h2 i) (h1 i)) D A z;obtain⟨V,hle⟩:=hv h' h1 h2;refine OH ?_ q;rintro a' w' ⟨v,φ',rfl,mv,nm',d,rel⟩;exact⟨v,φ',rfl,⟨mv.sub,mv.ext,λk hk s=>mv.own_ k hk (V.dom.own s)⟩,nm',V.rep d,hle _ _ _ _ d rel⟩
theorem Le.nil:Le (.f (.raw (.slice U 0 0))) (.f (.sl [] 0)):=by
 intro φ O w v hr;cases hr with
 |f hr=>cases hr;exact .f (.nil U 0 (by unfold maxLen;omega))
theorem Le.emp:Le .emp (.f (.sl [] 0)):=by
 intro φ O w v hr;cases hr with
 |emp=>exact .f (.nil _ 0 (by unfold maxLen;omega))
theorem Le.nilEmp:Le (.f (.raw (.slice U 0 0))) .emp:=by
 intro φ O w v hr;cases hr with
 |f hr=>cases hr;exact .emp
theorem Le.aggF {l:Y FV}:Le (.f (.agg l)) (.agg (l.map .f)):=by
 intro φ O w v hr;cases hr with
 |f hr=>
  cases hr with
  |agg _ vs hl hcl hrr=>
   refine .agg (by simp[hl]) (λx d=>?_) λj x u d hu=>?_
   .obtain⟨y,q,rfl⟩:=cZ.1 d;exact hcl y q
   .rw[bk]at d;cases hc:l[j]? with
    |none=>rw[hc]at d;cases d
    |some y=>rw[hc]at d;simp at d;subst d;exact .f (hrr j y u hc hu)
theorem YO (l:Y AV):Le (L4 l) (.agg l):=by
 unfold L4;split
 .rename_i fs h;rw[pF h];exact Le.aggF
 .exact Le.refl _
theorem lj.aggL {H H':HF} {l:Y AV} {d:Y FV} (h:gY H H' l (d.map .f)) (hc:∀x∈d,x.isCell=M):lj H H' (.agg l) (.f (.agg d)):=by
 intro φ E w v hrep hr;cases hr with
 |@agg _ vs hl hcl hrr=>
  refine .f (.agg d vs (by rw[hl,<-h.length];simp) hc λj y u q hu=>?_);obtain⟨x,s,hle⟩:=h.get j (.f y) (by rw[bk,q];rfl);have:=hle φ E w u hrep (hrr j x u s hu);cases this with
  |f h=>exact h
theorem lj.row {H H':HF} (d:ul H H') {id sz n:Nat} {ty:TypeId} {cells:Y FV} (h1:H id=Z ⟨ty,.fz cells⟩) (h2:H' id=U) (hl:cells.length=n*sz):lj H H' (.row id sz n) (.f (.sl cells n)):=by
 intro φ E w v r hr;cases hr with
 |@row _ _ _ c k hφ hn hcap hsh=>
  obtain⟨k',q1,q2,_⟩:=r.at_ id _ h1;rw[hφ]at q1;cases q1;obtain⟨arr,p1,p2,p3⟩:=r.cs h1 hφ rfl;have hk:k<w.heap.size:=(cr.1 p1).1;have hlen:cells.length<=arr.size:=by simpa[BC.toMx] using p3
  have hnk:¬tot E φ H' k:=by
   rintro (A|⟨j,b,s,z⟩)
   .exact q2 A
   .obtain⟨b0,D⟩:=d j b s;have:=r.inj j id b0 _ k D h1 z hφ;subst this;rw[h2]at s;cases s
  have hget:∀(j:Nat) x,cells[j]? =Z x->∃u,arr[j]? =Z u/\mA (tot E φ H) w x u:=λj x q=>by
   have hj:j<cells.length:=(bo.1 q).1;have hja:j<arr.size:=by omega
   refine ⟨arr[j],by simp[hja],?_⟩;have:=p2.2.2 j (.f x) arr[j] (by simp[BC.toMx,q]) (by
    rw[cC,aW (by simpa[BC.toMx] using hj),cq];simp[hja])
   cases this with
   |f h=>exact h
  refine .f (.sl cells n c k 0 (λj=>(arr[j]?).getD undef) hn hcap hnk hk (λx q=>?_) (λj hj=>?_) (λj x q=>?_))
  .have:=p2.2.1 (.f x) (by simp only[BC.toMx];exact cZ.2 ⟨x,q,rfl⟩);exact this
  .have:j<arr.size:=by omega
   simp[MW,p1,this]
  .obtain⟨u,s,z⟩:=hget j x q;rw[s];exact z.dom d
theorem r4:∀l:Y Xp,IX l=l.flatMap vM
 |[]=>rfl
 |x::r=>by rw[IX,r4 r];rfl
theorem yD:∀l:Y Sx,IW l=l.flatMap xn
 |[]=>rfl
 |x::r=>by rw[IW,yD r];rfl
theorem IV (e:Xp):bQ Mj (M0 e)=vM e:=by
 cases e with
 |mk op n name l=>simp only[Mj,M0,bQ,vM,Xp.op,Xp.n,Xp.name,Xp.l,r4];rfl
theorem Qr (x:Mj.den):vM (d9 x)=bQ Mj x:=by
 simp only[Mj,d9,bQ,vM,r4];rfl
theorem IU (e:Sx):bQ LS (MZ e)=xn e:=by
 cases e with
 |mk op line name arg index expr body els=>simp only[LS,MZ,bQ,xn,Sx.op,Sx.line,Sx.name,Sx.arg,Sx.index,Sx.expr,Sx.body,Sx.els,r4,yD];rfl
theorem Qq (x:LS.den):xn (oA x)=bQ LS x:=by
 simp only[LS,oA,bQ,xn,r4,yD];rfl
theorem wQ (e:Xp):(vM e).length=4:=by cases e;simp[vM]
theorem Cu (e:Sx):(xn e).length=11:=by cases e;simp[xn,wQ]
theorem bC:∀(T:Ty) (v:T.den),(bQ T v).length=T.size
 |.int _,_=>rfl
 |.bool,_=>rfl
 |.str,_=>rfl
 |.sl _,_=>rfl
 |.st t,v=>bC t v
 |.pr a b,v=>by simp[bQ,Ty.size,bC a,bC b]
 |.un,_=>rfl
 |.ex,v=>wQ v
 |.sm,v=>Cu v
theorem IY (e:Xp):∀x∈vM e,x.isCell=M:=by
 cases e with
 |mk op n name l=>
  intro x d;simp only[vM,bx,cH,gK]at d;rcases d with rfl|rfl|rfl|rfl<;>rfl
theorem Tu (e:Sx):∀x∈xn e,x.isCell=M:=by
 cases e with
 |mk op line name arg index expr body els=>
  intro x d;simp only[xn,bP,bx,cH,gK]at d;rcases d with (d|d)|d
  .rcases d with rfl|rfl|rfl|rfl|rfl<;>rfl
  .exact IY _ _ d
  .rcases d with rfl|rfl<;>rfl
theorem nS:∀(T:Ty) (v:T.den),∀x∈bQ T v,x.isCell=M
 |.int _,_,x,d=>by simp only[bQ,aI]at d;subst d;rfl
 |.bool,_,x,d=>by simp only[bQ,aI]at d;subst d;rfl
 |.str,_,x,d=>by simp only[bQ,aI]at d;subst d;rfl
 |.sl _,_,x,d=>by simp only[bQ,aI]at d;subst d;rfl
 |.st t,v,x,d=>nS t v x d
 |.pr a b,v,x,d=>by
  simp only[bQ,bP]at d;exact d.elim (nS a v.1 x) (nS b v.2 x)
 |.un,_,x,d=>by simp[bQ]at d
 |.ex,v,x,d=>IY v x d
 |.sm,v,x,d=>Tu v x d
theorem Cv:∀(T:Ty) (v:T.den),T.one=M->bQ T v=[gi T v]/\T.size=1
 |.int _,_,_=>⟨rfl,rfl⟩
 |.bool,_,_=>⟨rfl,rfl⟩
 |.str,_,_=>⟨rfl,rfl⟩
 |.sl _,_,_=>⟨rfl,rfl⟩
 |.st _,_,h=>by cases h
 |.pr _ _,_,h=>by cases h
 |.un,_,h=>by cases h
 |.ex,_,h=>by cases h
 |.sm,_,h=>by cases h
theorem ql:∀(T:Ty) (v:T.den),T.one=aa->gi T v= .agg (bQ T v)
 |.int _,_,h=>by cases h
 |.bool,_,h=>by cases h
 |.str,_,h=>by cases h
 |.sl _,_,h=>by cases h
 |.st _,_,_=>rfl
 |.pr _ _,_,_=>rfl
 |.un,_,_=>rfl
 |.ex,_,_=>rfl
 |.sm,_,_=>rfl
theorem zB (T:Ty) (v:T.den):(AV.f (gi T v)).cs=(bQ T v).map .f:=by
 cases h:T.one with
 |true=>
  rw[(Cv T v h).1];cases T<;>simp only[Ty.one]at h<;>first|rfl|cases h
 |false=>rw[ql T v h];rfl
theorem eH {α:Type} {f:α->Y FV} {n:Nat} (hf:∀x,(f x).length=n):∀(xs:Y α),(xs.flatMap f).length=xs.length*n
 |[]=>by simp
 |x::r=>by rw[fx,b7,hf,eH hf r,ch,iP];omega
theorem D3 {α:Type} {f:α->Y FV} {n:Nat} (hf:∀x,(f x).length=n):∀(xs:Y α) (j:Nat) (x:α),xs[j]? =Z x->∃r,(xs.flatMap f).drop (j*n)=f x++r
 |[],j,x,h=>by simp at h
 |y::r,j,x,h=>by
  cases j with
  |zero=>simp at h;subst h;exact⟨r.flatMap f,by simp⟩
  |succ j=>
   obtain⟨q,hq⟩:=D3 hf r j x (by simpa using h);refine ⟨q,?_⟩;rw[fx,show (j+1)*n=(f y).length+j*n from by rw[hf,iP];omega,ut];simp[hq]
theorem Qh {α:Type} {f:α->Y FV} {n:Nat} (hf:∀x,(f x).length=n):∀(xs:Y α) (j:Nat) (x z:α),xs[j]? =Z x->∀(off:Nat) (vs:Y FV),off+vs.length<=n->f z=AI.splice (f x) off vs->(xs.set j z).flatMap f=AI.splice (xs.flatMap f) (j*n+off) vs
 |[],j,x,z,h,_,_,_,_=>by simp at h
 |y::r,j,x,z,h,off,vs,hle,d=>by
  cases j with
  |zero=>
   simp at h;subst h;simp only[List.set_cons_zero,fx,d,Nat.zero_mul,bM];unfold AI.splice;have s:=hf y;rw[List.take_append,ut];have e1:off-(f y).length=0:=by omega
   have e2:off+vs.length-(f y).length=0:=by omega
   rw[e1,e2];simp[iz]
  |succ j=>
   have q:=Qh hf r j x z (by simpa using h) off vs hle d;simp only[List.set_cons_succ,fx,q];unfold AI.splice;have s:=hf y;have e0:(j+1)*n=(f y).length+j*n:=by rw[hf,iP];omega
   rw[e0,List.take_append,ut];have e1:(f y).length+j*n+off-(f y).length=j*n+off:=by omega
   have e2:(f y).length+j*n+off+vs.length-(f y).length=j*n+off+vs.length:=by omega
   rw[e1,e2,fO (by omega:(f y).length<=(f y).length+j*n+off),rx (by omega:(f y).length<=(f y).length+j*n+off+vs.length)];simp[iz]
theorem rf (T:Ty) (xs:Y T.den):∀x∈xs.flatMap (bQ T),x.isCell=M:=λx d=>by
 obtain⟨y,_,h⟩:=uq.1 d;exact nS T y x h
theorem gT {S T:Ty} {v:S.den} {x:T.den} (h:sI T v=Z x):∃e:S=T,x=e▸v:=by
 unfold sI at h;split at h
 .rename_i e;simp only[af]at h;exact⟨e,h.symm⟩
 .cases h
theorem lV (h:bn):∀(n:Nat) (T:Ty) (v:T.den) (l:Y TV),cellsOf n T v=Z l->cF h l=Z ((bQ T v).map .f)/\kE l=M
 |0,_,_,_,he=>by simp[cellsOf]at he
 |n+1,.st t,v,l,he=>lV h n t v l he
 |n+1,.pr a b,v,l,he=>by
  simp only[cellsOf]at he;split at he
  .rename_i x y q d;simp only[af]at he;subst he;obtain⟨h1,h2⟩:=lV h n a v.1 x q;obtain⟨s,D⟩:=lV h n b v.2 y d;refine ⟨by rw[bQ,c8];exact nv h1 s,?_⟩;clear h1 s q d;induction x with
   |nil=>exact D
   |cons z r A=>simp only[kE,ak,ia]at h2 ⊢;exact⟨h2.1,A h2.2⟩
  .cases he
 |n+1,.un,v,l,he=>by simp only[cellsOf,af]at he;subst he;exact⟨rfl,rfl⟩
 |n+1,.ex,v,l,he=>by rw[bQ,<-IV];exact lV h n Mj (M0 v) l he
 |n+1,.sm,v,l,he=>by rw[bQ,<-IU];exact lV h n LS (MZ v) l he
 |n+1,.int k,v,l,he=>by simp only[cellsOf,af]at he;subst he;exact⟨rfl,rfl⟩
 |n+1,.bool,v,l,he=>by simp only[cellsOf,af]at he;subst he;exact⟨rfl,rfl⟩
 |n+1,.str,v,l,he=>by simp only[cellsOf,af]at he;subst he;exact⟨rfl,rfl⟩
 |n+1,.sl t,v,l,he=>by simp only[cellsOf,af]at he;subst he;exact⟨rfl,rfl⟩
theorem M' {y:AV} (h:y.isCell=M):y.cs=[y]:=by
 cases y with
 |f x=>cases x<;>first|rfl|cases h
 |agg l=>cases h
 |_=>rfl
theorem Jx {h:bn} {v:TV} {l:Y TV} {y:AV} (hv:v.cs=Z l) (d:cf h v=Z y):cF h l=Z y.cs/\kE l=M:=by
 have one:(if v.isC then Z [v] else U)=Z l->cF h l=Z y.cs/\kE l=M:=λhv=>by
  split at hv
  .rename_i hc;simp only[af]at hv;subst hv;exact⟨by rw[M' (Nj d hc)];exact oX d rfl,by simp[kE,hc]⟩
  .cases hv
 cases v with
 |agg q=>
  simp only[TV.cs]at hv;split at hv
  .rename_i hc;simp only[af]at hv;subst hv;simp only[cf]at d;split at d
   .rename_i s hl;simp only[af]at d;subst d;exact⟨hl,hc⟩
   .cases d
  .cases hv
 |f T x=>
  simp only[TV.cs]at hv;simp only[cf,af]at d;subst d;rw[zB];exact lV h 40 T x l hv
 |fel T xs j hj off=>exact one hv
 |pel id sz j off=>exact one hv
 |ptr id off=>exact one hv
 |csl id off z=>exact one hv
 |row id=>exact one hv
 |emp=>exact one hv
 |nil=>exact one hv
 |mp id=>exact one hv
 |rtl id A=>exact one hv
 |tup q=>exact one hv
 |clo g q=>exact one hv
 |undef=>exact one hv
 |np=>exact one hv
 |anyb=>exact one hv
 |ful S q=>exact one hv
def Dl (h:bn) (H H':HF) (m:Nat):Prop:=∀id,aP m id=M->H (nm id)=bD h (nm id)/\H' (nm id)=U
theorem Dl.zero {h:bn} {H H':HF}:Dl h H H' 0:=λid hid=>by simp at hid
theorem Dl.or {h:bn} {H H':HF} {a b:Nat} (g:Dl h H H' (a|||b)):Dl h H H' a/\Dl h H H' b:=
 ⟨λid hid=>g id (by rw[bz,hid];rfl),λid hid=>g id (by rw[bz,hid];simp)⟩
theorem bX {i j:Nat}:aP (ku i) j=M↔i=j:=by
 unfold ku;rw[Nat.one_shiftLeft,Nat.testBit_two_pow];simp
section pack
variable {h:bn} {H H':HF}
theorem wY (d:ul H H') {T:Ty} {v:TV} {x:T.den} {m:Nat} {y:AV} (s:ig h T v=Z (x,m)) (A:cf h v=Z y) (g:Dl h H H' m):lj H H' y (.f (gi T x))/\y.cs.length=T.size/\(T.one=M->y.isCell=M)/\gY H H' y.cs ((bQ T x).map .f):=by
 cases v with
 |f S v=>
  simp only[ig]at s;split at s
  .rename_i z D;simp only[af,aC]at s;obtain⟨rfl,_⟩:=s;obtain⟨e,rfl⟩:=gT D;subst e;simp only[cf,af]at A;subst A;refine ⟨lj.refl d _,by rw[zB,cz,bC],λI=>?_,by rw[zB];exact gY.refl d _⟩;cases S<;>simp only[Ty.one]at I<;>first|rfl|cases I
  .cases s
 |emp=>
  simp only[ig]at s;split at s
  .simp only[af,aC]at s;obtain⟨rfl,_⟩:=s;simp only[cf,af]at A;subst A;exact⟨Le.emp.toH d,rfl,λ_=>rfl,⟨Le.emp.toH d,trivial⟩⟩
  .cases s
 |nil=>
  simp only[ig]at s;split at s
  .simp only[af,aC]at s;obtain⟨rfl,_⟩:=s;simp only[cf,af]at A;subst A;exact⟨Le.nil.toH d,rfl,λ_=>rfl,⟨Le.nil.toH d,trivial⟩⟩
  .cases s
 |row id=>
  simp only[ig]at s;split at s
  .rename_i ty p S xs hb;split at s
   .rename_i z D;simp only[af,aC]at s;obtain⟨rfl,rfl⟩:=s;obtain⟨e,rfl⟩:=gT D;subst e;obtain⟨F,L⟩:=g id (bX.2 rfl);rw[bL,hb]at F;simp only[cf,ej,hb,af]at A;subst A;have key:lj H H' (e_ p id S.size xs.length) (.f (gi (.sl S) xs)):=by
     unfold e_;split
     .rename_i hp;simp only[ak,cQ]at hp;have:xs=[]:=jq.1 hp.2;subst this;exact Le.emp.toH d
     .rename_i hp;simp only[aD,jC,aM hp]at F;exact lj.row d F L (eH (bC S) xs)
    have hc:(e_ p id S.size xs.length).isCell=M:=by unfold e_;split<;>rfl
    refine ⟨key,by rw[M' hc];rfl,λ_=>hc,?_⟩;rw[M' hc];exact⟨key,trivial⟩
   .cases s
  .cases s
 |fel T xs j hj off=>simp[ig]at s
 |pel id sz j off=>simp[ig]at s
 |ptr id off=>simp[ig]at s
 |csl id off z=>simp[ig]at s
 |mp id=>simp[ig]at s
 |rtl id jj=>simp[ig]at s
 |agg q=>simp[ig]at s
 |tup q=>simp[ig]at s
 |clo f q=>simp[ig]at s
 |undef=>simp[ig]at s
 |np=>simp[ig]at s
 |anyb=>simp[ig]at s
 |ful S q=>simp[ig]at s
theorem rP (d:ul H H'):∀(n:Nat) (T:Ty) (l:Y TV) (x:T.den) (m:Nat) (r:Y TV) (s:Y AV),eM h n T l=Z (x,m,r)->cF h l=Z s->Dl h H H' m->∃l1 l2,s=l1++l2/\cF h r=Z l2/\gY H H' l1 ((bQ T x).map .f)
 |0,_,_,_,_,_,_,hp,_,_=>by simp[eM]at hp
 |n+1,.st t,l,x,m,r,s,hp,hl,g=>rP d n t l x m r s hp hl g
 |n+1,.pr a b,l,x,m,r,s,hp,hl,g=>by
  simp only[eM]at hp;split at hp
  .rename_i x1 m1 r1 h1;split at hp
   .rename_i x2 m2 r2 h2;simp only[af,aC]at hp;obtain⟨rfl,rfl,rfl⟩:=hp;obtain⟨F,D⟩:=g.or;obtain⟨l1,l2,rfl,q1,q2⟩:=rP d n a l x1 m1 r1 s h1 hl F;obtain⟨A,z,rfl,q3,q4⟩:=rP d n b r1 x2 m2 r2 l2 h2 q1 D;refine ⟨l1++A,z,by simp,q3,?_⟩;rw[bQ,c8];exact q2.append q4
   .cases hp
  .cases hp
 |n+1,.un,l,x,m,r,s,hp,hl,g=>by
  simp only[eM,af,aC]at hp;obtain⟨_,_,rfl⟩:=hp;exact⟨[],s,rfl,hl,trivial⟩
 |n+1,.ex,l,x,m,r,s,hp,hl,g=>by
  simp only[eM]at hp;split at hp
  .rename_i x1 m1 r1 h1;simp only[af,aC]at hp;obtain⟨rfl,rfl,rfl⟩:=hp;rw[bQ,Qr];exact rP d n Mj l x1 m1 r1 s h1 hl g
  .cases hp
 |n+1,.sm,l,x,m,r,s,hp,hl,g=>by
  simp only[eM]at hp;split at hp
  .rename_i x1 m1 r1 h1;simp only[af,aC]at hp;obtain⟨rfl,rfl,rfl⟩:=hp;rw[bQ,Qq];exact rP d n LS l x1 m1 r1 s h1 hl g
  .cases hp
 |n+1,.int k,l,x,m,r,s,hp,hl,g=>by
  simp only[eM]at hp;split at hp
  .rename_i c q;split at hp
   .rename_i x1 m1 h1;simp only[af,aC]at hp;obtain⟨rfl,rfl,rfl⟩:=hp;obtain⟨y,l2,rfl,q1,q2⟩:=cU hl;exact⟨[y],l2,rfl,q2,⟨(wY d h1 q1 g).1,trivial⟩⟩
   .cases hp
  .cases hp
 |n+1,.bool,l,x,m,r,s,hp,hl,g=>by
  simp only[eM]at hp;split at hp
  .rename_i c q;split at hp
   .rename_i x1 m1 h1;simp only[af,aC]at hp;obtain⟨rfl,rfl,rfl⟩:=hp;obtain⟨y,l2,rfl,q1,q2⟩:=cU hl;exact⟨[y],l2,rfl,q2,⟨(wY d h1 q1 g).1,trivial⟩⟩
   .cases hp
  .cases hp
 |n+1,.str,l,x,m,r,s,hp,hl,g=>by
  simp only[eM]at hp;split at hp
  .rename_i c q;split at hp
   .rename_i x1 m1 h1;simp only[af,aC]at hp;obtain⟨rfl,rfl,rfl⟩:=hp;obtain⟨y,l2,rfl,q1,q2⟩:=cU hl;exact⟨[y],l2,rfl,q2,⟨(wY d h1 q1 g).1,trivial⟩⟩
   .cases hp
  .cases hp
 |n+1,.sl t,l,x,m,r,s,hp,hl,g=>by
  simp only[eM]at hp;split at hp
  .rename_i c q;split at hp
   .rename_i x1 m1 h1;simp only[af,aC]at hp;obtain⟨rfl,rfl,rfl⟩:=hp;obtain⟨y,l2,rfl,q1,q2⟩:=cU hl;exact⟨[y],l2,rfl,q2,⟨(wY d h1 q1 g).1,trivial⟩⟩
   .cases hp
  .cases hp
theorem St (d:ul H H') {n:Nat} {T:Ty} {l:Y TV} {x:T.den} {m:Nat} {q:Y AV} (hp:eM h n T l=Z (x,m,[])) (hl:cF h l=Z q) (g:Dl h H H' m):gY H H' q ((bQ T x).map .f):=by
 obtain⟨l1,l2,rfl,q1,q2⟩:=rP d n T l x m [] q hp hl g;simp only[cF,af]at q1;subst q1;simpa using q2
theorem Om (d:ul H H') {T:Ty} {v:TV} {x:T.den} {m:Nat} {y:AV} (s:Bz h T v=Z (x,m)) (A:cf h v=Z y) (g:Dl h H H' m):lj H H' y (.f (gi T x))/\gY H H' y.cs ((bQ T x).map .f):=by
 have other:ig h T v=Z (x,m)->lj H H' y (.f (gi T x))/\gY H H' y.cs ((bQ T x).map .f):=λs=>by
  obtain⟨h1,_,_,h2⟩:=wY d s A g;exact⟨h1,h2⟩
 cases v with
 |agg l=>
  simp only[Bz]at s;split at s
  .cases s
  .rename_i D;split at s
   .rename_i x1 m1 h1;simp only[af,aC]at s;obtain⟨rfl,rfl⟩:=s;simp only[cf]at A;split at A
    .rename_i F hl;simp only[af]at A;subst A;have:=St d h1 hl g;refine ⟨?_,this⟩;rw[ql T x1 (by simpa using D)];exact lj.aggL this (nS T x1)
    .cases A
   .cases s
 |f S v=>exact other s
 |fel T xs j hj off=>exact other s
 |pel id sz j off=>exact other s
 |ptr id off=>exact other s
 |csl id off z=>exact other s
 |row id=>exact other s
 |emp=>exact other s
 |nil=>exact other s
 |mp id=>exact other s
 |rtl id I=>exact other s
 |tup q=>exact other s
 |clo g q=>exact other s
 |undef=>exact other s
 |np=>exact other s
 |anyb=>exact other s
 |ful S q=>exact other s
theorem BW (d:ul H H') {T:Ty}:∀(n:Nat) (l:Y TV) (xs:Y T.den) (m:Nat) (q:Y AV),xZ h T n l=Z (xs,m)->cF h l=Z q->Dl h H H' m->gY H H' q ((xs.flatMap (bQ T)).map .f)/\xs.length=n
 |0,[],xs,m,q,hp,hl,g=>by
  simp only[xZ,af,aC]at hp;obtain⟨rfl,_⟩:=hp;simp only[cF,af]at hl;subst hl;exact⟨trivial,rfl⟩
 |0,_::_,xs,m,q,hp,hl,g=>by simp[xZ]at hp
 |n+1,l,xs,m,q,hp,hl,g=>by
  simp only[xZ]at hp;split at hp
  .rename_i x1 m1 r1 h1;split at hp
   .rename_i x2 m2 h2;simp only[af,aC]at hp;obtain⟨rfl,rfl⟩:=hp;obtain⟨z,s⟩:=g.or;obtain⟨l1,l2,rfl,q1,q2⟩:=rP d 40 T l x1 m1 r1 q h1 hl z;obtain⟨q3,q4⟩:=BW d n r1 x2 m2 l2 h2 q1 s;refine ⟨?_,by simp[q4]⟩;rw[fx,c8];exact q2.append q3
   .cases hp
  .cases hp
theorem tR (h:bn):∀(n:Nat) (T:Ty) (v:T.den) (off sz:Nat) (ag:Bool) (u:TV),nW n T v off sz ag=Z u->off+sz<=T.size/\∃y,cf h u=Z (.f y)/\(ag=aa->sz=1/\(bQ T v)[off]? =Z y)/\(ag=M->y= .agg (((bQ T v).drop off).take sz))
 |0,_,_,_,_,_,_,hg=>by simp[nW]at hg
 |n+1,.st t,v,off,sz,ag,u,hg=>by
  simp only[nW]at hg;split at hg
  .rename_i hc;simp only[ak]at hc;obtain⟨⟨h1,h2⟩,rfl⟩:=hc;have h1:=au h1;have h2:=au h2;subst h1;subst h2;simp only[af]at hg;subst hg;refine ⟨by simp[Ty.size],_,rfl,λh=>(by cases h),λ_=>?_⟩;simp only[gi,bQ,List.drop_zero];rw[<- bC t v,bS]
  .exact tR h n t v off sz ag u hg
 |n+1,.pr a b,v,off,sz,ag,u,hg=>by
  simp only[nW]at hg;have hla:=bC a v.1;have hlb:=bC b v.2;split at hg
  .rename_i hlt;have hlt:off<a.size:=bc hlt;obtain⟨h1,y,h2,q,d⟩:=tR h n a v.1 off sz ag u hg;refine ⟨by simp only[Ty.size];omega,y,h2,λe=>?_,λe=>?_⟩
   .obtain⟨z,s⟩:=q e;exact⟨z,by rw[bQ,bV (by omega)];exact s⟩
   .rw[d e,bQ];have:((bQ a v.1++bQ b v.2).drop off).take sz=((bQ a v.1).drop off).take sz:=by
     rw[Dg (by omega),li (by simp;omega)]
    rw[this]
  .rename_i hlt;have hlt:¬off<a.size:=λh=>hlt (bw h)
   obtain⟨h1,y,h2,q,d⟩:=tR h n b v.2 (off-a.size) sz ag u hg;refine ⟨by simp only[Ty.size];omega,y,h2,λe=>?_,λe=>?_⟩
   .obtain⟨z,s⟩:=q e;exact⟨z,by rw[bQ,ca (by omega),hla];exact s⟩
   .rw[d e,bQ];have:(bQ a v.1++bQ b v.2).drop off=(bQ b v.2).drop (off-a.size):=by
     rw[ut,hla,rx (by omega)];simp
    rw[this]
 |n+1,.un,v,off,sz,ag,u,hg=>by simp[nW]at hg
 |n+1,.ex,v,off,sz,ag,u,hg=>by
  simp only[nW]at hg;split at hg
  .rename_i hc;simp only[ak]at hc;obtain⟨⟨h1,h2⟩,rfl⟩:=hc;have h1:=au h1;have h2:=au h2;subst h1;subst h2;simp only[af]at hg;subst hg;refine ⟨by simp[Ty.size],_,rfl,λh=>(by cases h),λ_=>?_⟩;simp only[gi,bQ,List.drop_zero];rw[<- wQ v,bS]
  .obtain⟨h1,y,h2,q,d⟩:=tR h n Mj (M0 v) off sz ag u hg;rw[IV]at q d;exact⟨h1,y,h2,q,d⟩
 |n+1,.sm,v,off,sz,ag,u,hg=>by
  simp only[nW]at hg;split at hg
  .rename_i hc;simp only[ak]at hc;obtain⟨⟨h1,h2⟩,rfl⟩:=hc;have h1:=au h1;have h2:=au h2;subst h1;subst h2;simp only[af]at hg;subst hg;refine ⟨by simp[Ty.size],_,rfl,λh=>(by cases h),λ_=>?_⟩;simp only[gi,bQ,List.drop_zero];rw[<- Cu v,bS]
  .obtain⟨h1,y,h2,q,d⟩:=tR h n LS (MZ v) off sz ag u hg;rw[IU]at q d;exact⟨h1,y,h2,q,d⟩
 |n+1,.int k,v,off,sz,ag,u,hg=>by
  simp only[nW]at hg;split at hg
  .rename_i hc;simp only[ak,ec]at hc;obtain⟨⟨h1,h2⟩,rfl⟩:=hc;have h1:=au h1;have h2:=au h2;subst h1;subst h2;simp only[af]at hg;subst hg;exact⟨by simp[Ty.size],_,rfl,λ_=>⟨rfl,rfl⟩,λh=>by cases h⟩
  .cases hg
 |n+1,.bool,v,off,sz,ag,u,hg=>by
  simp only[nW]at hg;split at hg
  .rename_i hc;simp only[ak,ec]at hc;obtain⟨⟨h1,h2⟩,rfl⟩:=hc;have h1:=au h1;have h2:=au h2;subst h1;subst h2;simp only[af]at hg;subst hg;exact⟨by simp[Ty.size],_,rfl,λ_=>⟨rfl,rfl⟩,λh=>by cases h⟩
  .cases hg
 |n+1,.str,v,off,sz,ag,u,hg=>by
  simp only[nW]at hg;split at hg
  .rename_i hc;simp only[ak,ec]at hc;obtain⟨⟨h1,h2⟩,rfl⟩:=hc;have h1:=au h1;have h2:=au h2;subst h1;subst h2;simp only[af]at hg;subst hg;exact⟨by simp[Ty.size],_,rfl,λ_=>⟨rfl,rfl⟩,λh=>by cases h⟩
  .cases hg
 |n+1,.sl t,v,off,sz,ag,u,hg=>by
  simp only[nW]at hg;split at hg
  .rename_i hc;simp only[ak,ec]at hc;obtain⟨⟨h1,h2⟩,rfl⟩:=hc;have h1:=au h1;have h2:=au h2;subst h1;subst h2;simp only[af]at hg;subst hg;exact⟨by simp[Ty.size],_,rfl,λ_=>⟨rfl,rfl⟩,λh=>by cases h⟩
  .cases hg
theorem Sl {α:Type} (l vs:Y α) (h:vs.length=l.length):AI.splice l 0 vs=vs:=by
 unfold AI.splice;rw[bM,h,List.drop_length];simp
theorem OV {α:Type} (a b vs:Y α) (off:Nat) (h:off+vs.length<=a.length):AI.splice (a++b) off vs=AI.splice a off vs++b:=by
 unfold AI.splice;rw[li (by omega),Dg (by omega)];simp[iz]
theorem M4 {α:Type} (a b vs:Y α) (off:Nat) (h:a.length<=off):AI.splice (a++b) off vs=a++AI.splice b (off-a.length) vs:=by
 unfold AI.splice;rw[List.take_append,ut,fO h,rx (by omega),show off+vs.length-a.length=off-a.length+vs.length from by omega];simp[iz]
def VM (H H':HF) (y:AV) (T:Ty) (v z:T.den) (off sz:Nat):Prop:=∃fs:Y FV,gY H H' y.cs (fs.map .f)/\fs.length=sz/\off+sz<=T.size/\bQ T z=AI.splice (bQ T v) off fs/\∀x∈fs,x.isCell=M
theorem VM.whole {y:AV} {T:Ty} {v z:T.den} {off sz:Nat} (h0:off=0) (hs:sz=T.size) (hl:gY H H' y.cs ((bQ T z).map .f)):VM H H' y T v z off sz:=by
 subst h0;subst hs;exact⟨bQ T z,hl,bC T z,by omega,(Sl _ _ (by rw[bC,bC])).symm,nS T z⟩
theorem vm (d:ul H H') {u:TV} {y:AV} (s:cf h u=Z y):∀(n:Nat) (T:Ty) (v:T.den) (off sz:Nat) (z:T.den) (m:Nat),gO h u n T v off sz=Z (z,m)->Dl h H H' m->VM H H' y T v z off sz
 |0,_,_,_,_,_,_,hg,_=>by simp[gO]at hg
 |n+1,.st t,v,off,sz,z,m,hg,g=>by
  simp only[gO]at hg;split at hg
  .rename_i q hq;split at hq
   .rename_i hc;simp only[ak]at hc;simp only[af]at hg;subst hg;exact .whole (au hc.1) (au hc.2) (Om d hq s g).2
   .cases hq
  .exact vm d s n t v off sz z m hg g
 |n+1,.pr a b,v,off,sz,z,m,hg,g=>by
  simp only[gO]at hg;have hla:=bC a v.1;split at hg
  .rename_i hlt;split at hg
   .rename_i A m1 h1;simp only[af,aC]at hg;obtain⟨rfl,rfl⟩:=hg;obtain⟨fs,q1,q2,q3,q4,q5⟩:=vm d s n a v.1 off sz A m1 h1 g;refine ⟨fs,q1,q2,by simp only[Ty.size];omega,?_,q5⟩;rw[bQ,bQ,OV _ _ _ _ (by omega),q4]
   .cases hg
  .rename_i hlt;have hlt:¬off<a.size:=λh=>hlt (bw h)
   split at hg
   .rename_i A m1 h1;simp only[af,aC]at hg;obtain⟨rfl,rfl⟩:=hg;obtain⟨fs,q1,q2,q3,q4,q5⟩:=vm d s n b v.2 (off-a.size) sz A m1 h1 g;refine ⟨fs,q1,q2,by simp only[Ty.size];omega,?_,q5⟩;rw[bQ,bQ,M4 _ _ _ _ (by omega),q4,hla]
   .cases hg
 |n+1,.un,v,off,sz,z,m,hg,g=>by simp[gO]at hg
 |n+1,.ex,v,off,sz,z,m,hg,g=>by
  simp only[gO]at hg;split at hg
  .rename_i q hq;split at hq
   .rename_i hc;simp only[ak]at hc;simp only[af]at hg;subst hg;exact .whole (au hc.1) (au hc.2) (Om d hq s g).2
   .cases hq
  .split at hg
   .rename_i A m1 h1;simp only[af,aC]at hg;obtain⟨rfl,rfl⟩:=hg;obtain⟨fs,q1,q2,q3,q4,q5⟩:=vm d s n Mj (M0 v) off sz A m1 h1 g;exact⟨fs,q1,q2,q3,by rw[bQ,bQ,Qr,q4,IV],q5⟩
   .cases hg
 |n+1,.sm,v,off,sz,z,m,hg,g=>by
  simp only[gO]at hg;split at hg
  .rename_i q hq;split at hq
   .rename_i hc;simp only[ak]at hc;simp only[af]at hg;subst hg;exact .whole (au hc.1) (au hc.2) (Om d hq s g).2
   .cases hq
  .split at hg
   .rename_i A m1 h1;simp only[af,aC]at hg;obtain⟨rfl,rfl⟩:=hg;obtain⟨fs,q1,q2,q3,q4,q5⟩:=vm d s n LS (MZ v) off sz A m1 h1 g;exact⟨fs,q1,q2,q3,by rw[bQ,bQ,Qq,q4,IU],q5⟩
   .cases hg
 |n+1,.int k,v,off,sz,z,m,hg,g=>by
  simp only[gO]at hg;split at hg
  .rename_i hc;simp only[ak]at hc;exact .whole (au hc.1) (au hc.2) (wY d hg s g).2.2.2
  .cases hg
 |n+1,.bool,v,off,sz,z,m,hg,g=>by
  simp only[gO]at hg;split at hg
  .rename_i hc;simp only[ak]at hc;exact .whole (au hc.1) (au hc.2) (wY d hg s g).2.2.2
  .cases hg
 |n+1,.str,v,off,sz,z,m,hg,g=>by
  simp only[gO]at hg;split at hg
  .rename_i hc;simp only[ak]at hc;exact .whole (au hc.1) (au hc.2) (wY d hg s g).2.2.2
  .cases hg
 |n+1,.sl t,v,off,sz,z,m,hg,g=>by
  simp only[gO]at hg;split at hg
  .rename_i hc;simp only[ak]at hc;exact .whole (au hc.1) (au hc.2) (wY d hg s g).2.2.2
  .cases hg
theorem JP:∀{a b:ξ},Rq a b=M->a=b
 |[],[],_=>rfl
 |[],_::_,h=>by cases h
 |_::_,[],h=>by cases h
 |x::xs,y::ys,h=>by
  simp only[Rq,ak]at h;rw[acy h.1,JP h.2]
theorem zero_ok (d:ul H H'):∀T:Ty,gY H H' ((sx T).map raw) ((bQ T T.zero).map .f)
 |.int k=>⟨lj.refl d _,trivial⟩
 |.bool=>⟨lj.refl d _,trivial⟩
 |.str=>⟨lj.refl d _,trivial⟩
 |.sl t=>⟨Le.nil.toH d,trivial⟩
 |.st t=>zero_ok d t
 |.pr a b=>by
  simp only[sx,Ty.zero,bQ,c8];exact (zero_ok d a).append (zero_ok d b)
 |.un=>trivial
 |.ex=>⟨lj.refl d _,lj.refl d _,lj.refl d _,Le.nil.toH d,trivial⟩
 |.sm=>⟨lj.refl d _,lj.refl d _,lj.refl d _,lj.refl d _,Le.nil.toH d,lj.refl d _,lj.refl d _,lj.refl d _,Le.nil.toH d,Le.nil.toH d,Le.nil.toH d,trivial⟩
theorem G3 (d:ul H H') (T:Ty):∀n,gY H H' ((repl (sx T) n).map .f) (((aA n T.zero).flatMap (bQ T)).map .f)
 |0=>trivial
 |n+1=>by
  rw[repl,pN,fx,c8,c8];have h1:=zero_ok (H:=H) (H':=H') d T;have:((sx T).map .raw).map AV.f=(sx T).map raw:=by rw[G0];rfl
  rw[this];exact h1.append (G3 d T n)
end pack
structure mg (h:bn) (nx:Nat):Prop where
 cells:∀id ty l,h.get id=Z (.cells ty l)->kS h l=M
 low:∀id b,h.get id=Z b->id<nx
def sX (e:iN) (h:bn):Prop:=∀t v,e.get t=Z v->KH h v=M
structure iE (P:Program) (o:Oper) (still:Bool) (e:iN) (h:bn) (nx:Nat) (v:TV) (rd wr:Nat) (h':bn) (nx':Nat):Prop where
 ex:∃f:AF,gD P o (fq e h) (bD h) f/\(∀y,cf h' v=Z y->f.val=y)/\eG (bD h) f.wr f.nw=bD h'/\(∀n∈f.rd,aP rd (ow n)=M)/\(∀n∈f.wr,aP wr (ow n)=M)/\(∀n∈f.N,nx<=ow n/\ow n<nx')
 rows:b_ h h'
 inv:mg h' nx'
 grows:nx<=nx'
 st:still=M->rd=0/\wr=0
def kI {R:Type} (P:Program) (o:Oper) (still:Bool) (e:iN) (h:bn) (nx:Nat) (K:KO R) (r:R):Prop:=
 ∃v rd wr h' nx',K v rd wr h' nx'=Z r/\iE P o still e h nx v rd wr h' nx'
theorem dO {R:Type} {b:Bool} {k:b=M->J R} {r:R} (h:chk b k=Z r):∃hb:b=M,k hb=Z r:=by
 cases b with
 |true=>exact⟨rfl,h⟩
 |false=>cases h
theorem lX {R:Type} {b:Bool} {t f:J R} {r:R} (h:aF b t f=Z r):(b=M/\t=Z r)\/(b=aa/\f=Z r):=by
 cases b with
 |true=>exact .inl ⟨rfl,h⟩
 |false=>exact .inr ⟨rfl,h⟩
theorem dG {α R:Type} {o:J α} {k:α->J R} {r:R} (h:av o k=Z r):∃x,o=Z x/\k x=Z r:=by
 cases o with
 |some x=>exact⟨x,rfl,h⟩
 |none=>cases h
theorem DK {j:Int} {n:Nat} (h:eZ j n=M):0<=j/\j<n/\j.toNat<n:=by
 simp only[eZ,cO,fE,ak,bB]at h;omega
theorem gD.envLe {P:Program} {o:Oper} {e e2:EF} {h:HF} {f:AF} (ht:gD P o e h f) (hle:∀t y,.tmp t∈o.op.operands->e t=Z y->∃q,e2 t=Z q/\Le q y):gD P o e2 h f:=by
 intro φ E h' w a h1 h2 D A z;refine ht φ E h' w a h1 h2 (λt d y s=>?_) A z;obtain⟨q,I,F⟩:=hle t y d s;exact F _ _ _ _ (D t d q I)
theorem Jv (h:bn) {v:Value} {u:TV} (hc:cst v=Z u):cf h u=Z (raw v)/\v.oneCell'=M/\u.isC=M:=by
 unfold cst at hc;split at hc<;>cases hc<;>exact⟨rfl,rfl,rfl⟩
theorem uL (h:bn):∀{z:ξ} {l:Y TV},Ju z=Z l->cF h l=Z (z.map raw)/\(∀x∈z,x.oneCell'=M)/\kE l=M
 |[],l,hc=>by simp only[Ju,af]at hc;subst hc;exact⟨rfl,by simp,rfl⟩
 |v::r,l,hc=>by
  simp only[Ju]at hc;split at hc
  .rename_i x I q hl;simp only[af]at hc;subst hc;obtain⟨h1,h2,F⟩:=Jv h q;obtain⟨D,A,s⟩:=uL h hl;refine ⟨oX h1 D,λy d=>?_,by simp[kE,F,s]⟩;rcases bx.1 d with rfl|d
   .exact h2
   .exact A y d
  .cases hc
theorem bI {e:iN} {h:bn} (hi:sX e h) {x:Operand} {v:TV} (d:fd e x=Z v):∃y,mI (IP e h) x=Z y/\cf h v=Z y:=by
 cases x with
 |tmp t=>
  simp only[fd]at d;obtain⟨y,q⟩:=o6 h v (hi t v d);refine ⟨y,?_,q⟩;simp only[mI];rw[uH];simp only[fq,d,aD,q]
 |const c=>
  simp only[fd]at d;unfold afk at d;split at d
  .rename_i vs;split at d
   .rename_i h1;split at d
    .rename_i l hl;simp only[af]at d;subst d;refine ⟨.agg (vs.toList.map raw),?_,by simp only[cf,(uL h hl).1]⟩;simp only[mI,Eh,h1,bH];rfl
    .cases d
   .cases d
  .rename_i hn;refine ⟨raw c,?_,(Jv h d).1⟩;simp only[mI];unfold Eh;split
   .rename_i vs;exact dR rfl (hn vs)
   .rfl
 |func g=>
  simp only[fd,af]at d;subst d;exact⟨_,rfl,rfl⟩
 |global g=>
  simp only[fd]at d;cases hg:G g with
  |none=>rw[hg]at d;cases d
  |some cells=>
   rw[hg]at d;simp only[af]at d;subst d;have hcells:cells=B4:=by
    unfold G at hg;split at hg
    .cases hg;rfl
    .cases hg
   subst hcells;exact⟨_,by simp only[mI,hg];rfl,rfl⟩
theorem ya {e:iN} {h:bn} (hi:sX e h):∀{xs:Y Operand} {l:Y TV},EM e xs=Z l->∃q,Vi (IP e h) xs=Z q/\cF h l=Z q
 |[],l,d=>by simp only[EM,af]at d;subst d;exact⟨[],rfl,rfl⟩
 |x::xs,l,d=>by
  simp only[EM]at d;split at d
  .rename_i y z;split at d
   .rename_i F hys;simp only[af]at d;subst d;obtain⟨s,h1,h2⟩:=bI hi z;obtain⟨q,D,A⟩:=ya hi hys;exact⟨s::q,by simp only[Vi,h1,D],oX h2 A⟩
   .cases d
  .cases d
section ops
variable {R:Type} {P:Program} {o:Oper} {e:iN} {h:bn} {nx:Nat} {K:KO R} {r:R}
theorem iE.pure {s:Xx} {st:Bool} (hinv:mg h nx) (hc:dq P o.op=Z s) {H:mh} (A:H.get=bD h) {k:Nat} {y0:AV} {rdl:ι} (z:eg s (IP e h) H k=Z ⟨y0,rdl,[],[],[]⟩) {v:TV} (hv:∀y,cf h v=Z y->Le y0 y) {rd:Nat} (hrd:∀n∈rdl,aP rd (ow n)=M) (hst:st=M->rd=0):iE P o st e h nx v rd 0 h nx:=by
 have ht:=HK hc z;rw[uH,A]at ht;refine ⟨?_,λ_ _ h=>h,hinv,cN _,λhs=>⟨hst hs,rfl⟩⟩;have key:∀y,Le y0 y->gD P o (fq e h) (bD h) ⟨y,rdl,[],iV [],[]⟩:=λy hle=>
  gD.view ht (λi hi=>by cases hi) λh' _ _=>⟨GJ.refl _,hle.toH (ul.refl _)⟩
 cases q:cf h v with
 |none=>exact⟨_,ht,λy d=>by simp at d,by simp[zZ.eff,te],hrd,by simp[zZ.eff],by simp[zZ.eff]⟩
 |some y=>exact⟨_,key y (hv y q),λD d=>by simpa using d,by simp[te],hrd,by simp,by simp⟩
theorem kI.q {s:Xx} {st:Bool} (hinv:mg h nx) (hc:dq P o.op=Z s) {k:Nat} {y0:AV} (z:∀H:mh,H.get=bD h->eg s (IP e h) H k=rv y0) {v:TV} (hv:∀y,cf h v=Z y->Le y0 y) (hk:K v 0 0 h nx=Z r):kI P o st e h nx K r:=by
 obtain⟨H,d⟩:=jQ h;exact⟨v,0,0,h,nx,hk,iE.pure hinv hc d (z H d) hv (by simp) λ_=>rfl⟩
theorem dg {y0:AV} {v:TV} (hv:cf h v=Z y0):∀y,cf h v=Z y->Le y0 y:=λy d=>by rw[hv]at d;cases d;exact Le.refl _
theorem ae2 {T:Ty} {xs:Y T.den} {j:Int} (hj:eZ j xs.length=M) {off sz:Nat} {ag:Bool} {u:TV} (hg:nW 40 T (aH xs j) off sz ag=Z u):
 ∃y,cf h u=Z (.f y)/\(BC.fz (xs.flatMap (bQ T))).sub? (j.toNat*T.size+off) sz ag=Z (.f y):=by
 obtain⟨h1,y,h2,D,A⟩:=tR h 40 T _ off sz ag u hg;refine ⟨y,h2,?_⟩;obtain⟨_,_,hlt⟩:=DK hj;have d:xs[j.toNat]? =Z (aH xs j):=by
  unfold aH;rw[ay,aw hlt];rfl
 obtain⟨q,hq⟩:=D3 (bC T) xs j.toNat _ d;have hlen:=eH (bC T) xs;have hle:(j.toNat+1)*T.size<=xs.length*T.size:=cA _ hlt;rw[iP]at hle;have hl:=bC T (aH xs j);cases ag with
 |false=>
  obtain⟨z,s⟩:=D rfl;subst z;simp only[BC.sub?,BC.get];have:(xs.flatMap (bQ T))[j.toNat*T.size+off]? =Z y:=by
   rw[<- gW,hq,bV (by omega)];exact s
  rw[this];rfl
 |true=>
  simp only[BC.sub?];rw[aW (bw (by omega)),A rfl,<-List.drop_drop,hq,Dg (by omega),li (by simp;omega)]
theorem ae3 {T:Ty} {v:T.den} {off sz:Nat} {ag:Bool} {u:TV} (hg:nW 40 T v off sz ag=Z u):
 ∃y,cf h u=Z (.f y)/\(BC.fz (bQ T v)).sub? off sz ag=Z (.f y):=by
 obtain⟨h1,y,h2,z,s⟩:=tR h 40 T _ off sz ag u hg;refine ⟨y,h2,?_⟩;have hl:=bC T v;cases ag with
 |false=>
  obtain⟨q,d⟩:=z rfl;subst q;simp only[BC.sub?,BC.get,d];rfl
 |true=>
  simp only[BC.sub?];rw[aW (bw (by omega)),s rfl]
theorem UQ {l:Y TV} {d:Y AV} (hl:cF h l=Z d) {off sz:Nat} {ag:Bool} {u:TV} (hs:Si l off sz ag=Z u):∃y,cf h u=Z y/\(BC.mx d).sub? off sz ag=Z y:=by
 cases ag with
 |false=>
  simp only[Si]at hs;split at hs
  .rename_i h1;have h1:=au h1;subst h1;obtain⟨y,h2,q⟩:=k9 hl off u hs;exact⟨y,q,by simp only[BC.sub?,BC.get,h2]⟩
  .cases hs
 |true=>
  simp only[Si]at hs;split at hs
  .rename_i h1;simp only[af]at hs;subst hs;have h2:=D9 sz (D' off hl);exact⟨.agg ((d.drop off).take sz),by simp only[cf,h2],by simp only[BC.sub?,gB hl,h1,bH]⟩
  .cases hs
theorem Pk {v:TV} {n:Nat} {y:AV} (hn:lenOf h v=Z n) (d:cf h v=Z y):y.slen=Z n:=by
 unfold lenOf at hn;split at hn
 .simp only[af]at hn;subst hn;simp only[cf,af]at d;subst d;rfl
 .simp only[af]at hn;subst hn;simp only[cf,af]at d;subst d;rfl
 .simp only[af]at hn;subst hn;simp only[cf,af]at d;subst d;rfl
 .rename_i id;simp only[cf]at d;cases hr:ej h id with
  |none=>rw[hr]at hn;cases hn
  |some q=>
   obtain⟨p,sz,m⟩:=q;rw[hr]at hn d;simp only[af]at hn d;subst hn;subst d;unfold e_;split
   .rename_i hp;simp only[ak,cQ]at hp;rw[hp.2];rfl
   .rfl
 .simp only[af]at hn;subst hn;simp only[cf,af]at d;subst d;rfl
 .cases hn
theorem C7 (a b:ζ):rM ⟨a.toArray⟩ ⟨b.toArray⟩=decide (a=b):=by
 unfold rM;simp only[Bool.beq_eq_decide_eq]
theorem acx {op:BinOp} {u v:TV} {q:TV->J R} (hk:afq op u v q=Z r):∃a b c t,cf h u=Z (raw a)/\cf h v=Z (raw b)/\sV op a b=Z c/\cf h t=Z (raw c)/\q t=Z r:=by
 unfold afq at hk;split at hk
 .rename_i k a k' b;split at hk
  .rename_i hkk;have hkk':k=k':=by simpa using hkk
   subst hkk';refine ⟨.int k a,.int k b,?_⟩;cases op<;>simp only[reduceCtorEq]at hk<;>first
    |cases hk
    |exact⟨_,_,rfl,rfl,(by simp only[sV,cP,bH]<;>rfl),rfl,hk⟩
    |(obtain ⟨hb,hk⟩:=dO hk
      have d:(b==(0:Int))=aa:=by simpa using hb
      exact⟨_,_,rfl,rfl,by simp only[sV,cP,bH,d,bO,dx],rfl,hk⟩)
  .cases hk
 .rename_i a b;refine ⟨.string ⟨eR a⟩,.string ⟨eR b⟩,?_⟩;split at hk
  .exact⟨.bool (decide ((a:ζ)=b)),_,rfl,rfl,by simp only[sV,C7],rfl,hk⟩
  .exact⟨.bool (!decide ((a:ζ)=b)),_,rfl,rfl,by simp only[sV,C7],rfl,hk⟩
  .cases hk
 .cases hk
theorem VD {T:Ty}:∀{l:Y TV} {xs:Y T.den},wZ T l=Z xs->∀k,k<l.length->l[k]? =Z (.f T (xs.getD k T.zero))
 |[],xs,_,k,hk=>by simp at hk
 |.f S v::r,xs,d,k,hk=>by
  simp only[wZ]at d;split at d
  .rename_i x q;split at d
   .rename_i l hl;simp only[af]at d;subst d;obtain⟨es,ex⟩:=gT q;cases es;subst ex;cases k with
    |zero=>rfl
    |succ k=>simpa using VD hl k (by simpa using hk)
   .cases d
  .cases d
 |.fel _ _ _ _ _::r,xs,d,k,hk=>by simp[wZ]at d
 |.pel _ _ _ _::r,xs,d,k,hk=>by simp[wZ]at d
 |.ptr _ _::r,xs,d,k,hk=>by simp[wZ]at d
 |.csl _ _ _::r,xs,d,k,hk=>by simp[wZ]at d
 |.row _::r,xs,d,k,hk=>by simp[wZ]at d
 |.emp::r,xs,d,k,hk=>by simp[wZ]at d
 |.nil::r,xs,d,k,hk=>by simp[wZ]at d
 |.mp _::r,xs,d,k,hk=>by simp[wZ]at d
 |.agg _::r,xs,d,k,hk=>by simp[wZ]at d
 |.tup _::r,xs,d,k,hk=>by simp[wZ]at d
 |.clo _ _::r,xs,d,k,hk=>by simp[wZ]at d
 |.undef::r,xs,d,k,hk=>by simp[wZ]at d
 |.np::r,xs,d,k,hk=>by simp[wZ]at d
 |.anyb::r,xs,d,k,hk=>by simp[wZ]at d
 |.ful _ _::r,xs,d,k,hk=>by simp[wZ]at d
theorem VB {l:Y TV} {T:Ty} {xs:Y T.den} (d:ZR l=Z ⟨T,xs⟩):∀k,k<l.length->l[k]? =Z (.f T (xs.getD k T.zero)):=by
 unfold ZR at d;split at d
 .split at d
  .rename_i l1 hl;simp only[af]at d;cases d;exact VD hl
  .cases d
 .cases d
variable (hinv:mg h nx) (hi:sX e h)
include hinv hi
theorem K_mv {con:FuncId->J cj} {b8:TypeId->J Ty} {x:Operand} {st:Bool} (hc:dq P o.op=Z (.mv x)) (hk:dU con b8 (.op (.mv x)) e h nx K=Z r):kI P o st e h nx K r:=by
 simp only[dU]at hk;split at hk
 .rename_i v hv;obtain⟨y,h1,h2⟩:=bI hi hv;exact kI.q (k:=0) hinv hc (λH _=>by simp only[eg,h1]) (dg h2) hk
 .cases hk
theorem ahc {con:FuncId->J cj} {b8:TypeId->J Ty} {c a b:Operand} {st:Bool} (hc:dq P o.op=Z (.pick c a b)) (hk:dU con b8 (.op (.pick c a b)) e h nx K=Z r):kI P o st e h nx K r:=by
 simp only[dU]at hk;split at hk
 .rename_i t hv;obtain⟨y,h1,h2⟩:=bI hi hv;simp only[cf,af]at h2;subst h2;rcases lX hk with ⟨rfl,d⟩|⟨rfl,d⟩
  .split at d
   .rename_i v s;obtain⟨D,A,z⟩:=bI hi s;exact kI.q (k:=0) hinv hc (λH _=>by simp only[eg,h1,gi,bH,A]) (dg z) d
   .cases d
  .split at d
   .rename_i v s;obtain⟨D,A,z⟩:=bI hi s;exact kI.q (k:=0) hinv hc (λH _=>by simp only[eg,h1,gi,A,bO,dx]) (dg z) d
   .cases d
 .cases hk
theorem ahd {con:FuncId->J cj} {b8:TypeId->J Ty} {x:Operand} {st:Bool} (hc:dq P o.op=Z (.nilc x)) (hk:dU con b8 (.op (.nilc x)) e h nx K=Z r):kI P o st e h nx K r:=by
 simp only[dU]at hk;split at hk;all_goals first
  |(rename_i hv
    obtain⟨y,h1,h2⟩:=bI hi hv;have d:=h2;simp only[cf,af]at h2;subst h2;exact kI.q (k:=0) hinv hc (λH _=>by simp only[eg,h1]) (dg d) hk)
  |skip
 .rename_i g cap hv;obtain⟨y,h1,h2⟩:=bI hi hv;have d:=h2;simp only[cf]at h2;split at h2
  .simp only[af]at h2;subst h2;exact kI.q (k:=0) hinv hc (λH _=>by simp only[eg,h1]) (dg d) hk
  .cases h2
 .cases hk
theorem ak3 {con:FuncId->J cj} {b8:TypeId->J Ty} {x:Operand} {st:Bool} (hc:dq P o.op=Z (.not x)) (hk:dU con b8 (.op (.not x)) e h nx K=Z r):kI P o st e h nx K r:=by
 simp only[dU]at hk;split at hk
 .rename_i b hv;obtain⟨y,h1,h2⟩:=bI hi hv;simp only[cf,af]at h2;subst h2;exact kI.q (k:=0) hinv hc (λH _=>by simp only[eg,h1,gi];rfl) (dg rfl) hk
 .cases hk
theorem ahk {con:FuncId->J cj} {b8:TypeId->J Ty} {k:IntKind} {x:Operand} {st:Bool} (hc:dq P o.op=Z (.conv k x)) (hk:dU con b8 (.op (.conv k x)) e h nx K=Z r):kI P o st e h nx K r:=by
 simp only[dU]at hk;split at hk
 .rename_i k' n hv;obtain⟨y,h1,h2⟩:=bI hi hv;simp only[cf,af]at h2;subst h2;exact kI.q (k:=0) hinv hc (λH _=>by simp only[eg,h1,gi];rfl) (dg rfl) hk
 .cases hk
theorem akh {con:FuncId->J cj} {b8:TypeId->J Ty} {neg:Bool} {x y:Operand} {st:Bool} (hc:dq P o.op=Z (.eqb neg x y)) (hk:dU con b8 (.op (.eqb neg x y)) e h nx K=Z r):kI P o st e h nx K r:=by
 simp only[dU]at hk;split at hk
 .rename_i a b hv d;obtain⟨y,h1,h2⟩:=bI hi hv;obtain⟨A,z,s⟩:=bI hi d;simp only[cf,af]at h2 s;subst h2;subst s;exact kI.q (k:=0) hinv hc (λH _=>by simp only[eg,h1,z,gi];rfl) (dg rfl) hk
 .cases hk
theorem ado {con:FuncId->J cj} {b8:TypeId->J Ty} {neg:Bool} {x:Operand} {st:Bool} (hc:dq P o.op=Z (.isnil neg x)) (hk:dU con b8 (.op (.isnil neg x)) e h nx K=Z r):kI P o st e h nx K r:=by
 simp only[dU]at hk;split at hk
 .rename_i hv;obtain⟨y,h1,h2⟩:=bI hi hv;simp only[cf,af]at h2;subst h2;exact kI.q (k:=0) hinv hc (λH _=>by simp only[eg,h1,sS,bH];rfl) (dg rfl) hk
 .rename_i hv;obtain⟨y,h1,h2⟩:=bI hi hv;simp only[cf,af]at h2;subst h2;exact kI.q (k:=0) hinv hc (λH _=>by simp only[eg,h1]) (dg rfl) hk
 .rename_i T xs hv;obtain⟨y,h1,h2⟩:=bI hi hv;simp only[cf,af]at h2;subst h2;rcases lX hk with ⟨s,d⟩|⟨s,d⟩
  .have s:=au s;exact kI.q (k:=0) (y0:=.anyb) hinv hc (λH _=>by simp only[eg,h1,gi,s]) (dg rfl) d
  .have s:=h_ s;obtain⟨n,hn⟩:=Nat.exists_eq_succ_of_ne_zero s;exact kI.q (k:=0) (y0:=raw (.bool neg)) hinv hc (λH _=>by simp only[eg,h1,gi,hn]) (dg rfl) d
 .rename_i id hv;split at hk
  .rename_i ty T xs hb;obtain⟨y,h1,h2⟩:=bI hi hv;simp only[cf,ej,hb,e_,jV,bO,dx,af]at h2;subst h2;exact kI.q (k:=0) (y0:=raw (.bool neg)) hinv hc (λH _=>by simp only[eg,h1]) (dg rfl) hk
  .cases hk
 .cases hk
theorem ak8 {con:FuncId->J cj} {b8:TypeId->J Ty} {x y:Operand} {st:Bool} (hc:dq P o.op=Z (.max x y)) (hk:dU con b8 (.op (.max x y)) e h nx K=Z r):kI P o st e h nx K r:=by
 simp only[dU]at hk;split at hk
 .rename_i k a k' b hv d;obtain⟨y,h1,h2⟩:=bI hi hv;obtain⟨A,z,s⟩:=bI hi d;simp only[cf,af]at h2 s;subst h2;subst s;split at hk
  .exact kI.q (k:=0) hinv hc (λH _=>by simp only[eg,h1,z,gi];rfl) (dg rfl) hk
  .cases hk
 .cases hk
theorem ak7 {con:FuncId->J cj} {b8:TypeId->J Ty} {x y:Operand} {st:Bool} (hc:dq P o.op=Z (.min x y)) (hk:dU con b8 (.op (.min x y)) e h nx K=Z r):kI P o st e h nx K r:=by
 simp only[dU]at hk;split at hk
 .rename_i k a k' b hv d;obtain⟨y,h1,h2⟩:=bI hi hv;obtain⟨A,z,s⟩:=bI hi d;simp only[cf,af]at h2 s;subst h2;subst s;split at hk
  .exact kI.q (k:=0) hinv hc (λH _=>by simp only[eg,h1,z,gi];rfl) (dg rfl) hk
  .cases hk
 .cases hk
theorem ake {con:FuncId->J cj} {b8:TypeId->J Ty} {off:Nat} {x:Operand} {st:Bool} (hc:dq P o.op=Z (.fad off x)) (hk:dU con b8 (.op (.fad off x)) e h nx K=Z r):kI P o st e h nx K r:=by
 simp only[dU]at hk;split at hk;all_goals first
  |(rename_i hv
    obtain⟨y,h1,h2⟩:=bI hi hv;simp only[cf,af]at h2;subst h2;exact kI.q (k:=0) hinv hc (λH _=>by simp only[eg,h1,wg]) (dg rfl) hk)
  |cases hk
theorem akd {con:FuncId->J cj} {b8:TypeId->J Ty} {off sz:Nat} {ag:Bool} {x:Operand} {st:Bool} (hc:dq P o.op=Z (.fld off sz ag x)) (hk:dU con b8 (.op (.fld off sz ag x)) e h nx K=Z r):kI P o st e h nx K r:=by
 simp only[dU]at hk;split at hk
 .rename_i l hv;split at hk
  .rename_i u hs;obtain⟨y,h1,h2⟩:=bI hi hv;simp only[cf]at h2;split at h2
   .rename_i A hl;simp only[af]at h2;subst h2;obtain⟨y,s,d⟩:=UQ hl hs;exact kI.q (k:=0) hinv hc (λH _=>by simp only[eg,h1,d]) (dg s) hk
   .cases h2
  .cases hk
 .rename_i T v hv;split at hk
  .cases hk
  .rename_i z;split at hk
   .rename_i u hs;obtain⟨y,h1,h2⟩:=bI hi hv;simp only[cf,af]at h2;rw[ql T v (by simpa using z)]at h2;subst h2;obtain⟨y,s,d⟩:=ae3 (h:=h) hs;exact kI.q (k:=0) hinv hc (λH _=>by simp only[eg,h1,d]) (dg s) hk
   .cases hk
 .cases hk
theorem akb {con:FuncId->J cj} {b8:TypeId->J Ty} {n sz:Nat} {ag:Bool} {x i:Operand} {st:Bool} (hc:dq P o.op=Z (.idx n sz ag x i)) (hk:dU con b8 (.op (.idx n sz ag x i)) e h nx K=Z r):kI P o st e h nx K r:=by
 simp only[dU]at hk;split at hk
 .rename_i v0 k j hv D;split at hk
  .rename_i T xs hA;obtain⟨hb,hk⟩:=dO hk;cases ag with
   |true=>cases hA
   |false=>
   simp only[aid]at hA;split at hA
   .rename_i hsz;simp only[ak,ec]at hsz;have hsz1:=au hsz.1;subst hsz1;split at hA
    .rename_i l hl;split at hA
     .rename_i hn;have hn:=au hn;obtain⟨y,h1,h2⟩:=bI hi hv;obtain⟨y2,F,s⟩:=bI hi D;simp only[cf,af]at s;subst s;have hj:j.toNat<l.length:=by
       simp only[ak,cO,fE,bB]at hb;omega
      have hg:=VB hA j.toNat hj;obtain⟨he,_⟩:=Jx hl h2;obtain⟨z,d,A⟩:=k9 he j.toNat _ hg;have A:cf h (.f T (aH xs j))=Z z:=A;refine kI.q (k:=0) hinv hc (λH _=>?_) (dg A) hk;cases v0 with
      |agg q=>
       simp only[cf]at h2;split at h2
       .rename_i l' _;simp only[af]at h2;subst h2;have d:l'[j.toNat]? =Z z:=d;simp only[eg,h1,F,gi,hb,bH,BC.sub?,BC.get,Nat.mul_one,d]
       .cases h2
      |f S u=>
       have I:S.one=aa:=by
        have:=hsz.2;simpa[TV.isC] using this
       simp only[cf,af]at h2;rw[ql S u I]at h2;subst h2;have d:((bQ S u).map AV.f)[j.toNat]? =Z z:=d;rw[bk]at d;simp only[eg,h1,F,gi,hb,bH,BC.sub?,BC.get,Nat.mul_one,d]
      |_=>simp[TV.cs,TV.isC]at hl hsz
     .cases hA
    .cases hA
   .cases hA
  .split at hk
   .rename_i l;obtain⟨hb,hk⟩:=dO hk;split at hk
    .rename_i u hs;obtain⟨y,h1,h2⟩:=bI hi hv;obtain⟨y2,F,s⟩:=bI hi D;simp only[cf,af]at s;subst s;simp only[cf]at h2;split at h2
     .rename_i l' hl;simp only[af]at h2;subst h2;obtain⟨y,h3,L⟩:=UQ hl hs;exact kI.q (k:=0) hinv hc (λH _=>by simp only[eg,h1,F,gi,hb,bH,L]) (dg h3) hk
     .cases h2
    .cases hk
   .rename_i T v _;split at hk
    .cases hk
    .rename_i I;obtain⟨hb,hk⟩:=dO hk;split at hk
     .rename_i u hs;obtain⟨y,h1,h2⟩:=bI hi hv;obtain⟨y2,F,s⟩:=bI hi D;simp only[cf,af]at s h2;subst s;rw[ql T v (by simpa using I)]at h2;subst h2;obtain⟨y,h3,L⟩:=ae3 (h:=h) hs;exact kI.q (k:=0) hinv hc (λH _=>by simp only[eg,h1,F,gi,hb,bH,L]) (dg h3) hk
     .cases hk
   .cases hk
 .cases hk
theorem ahi {con:FuncId->J cj} {b8:TypeId->J Ty} {n sz:Nat} {x i:Operand} {st:Bool} (hc:dq P o.op=Z (.iada n sz x i)) (hk:dU con b8 (.op (.iada n sz x i)) e h nx K=Z r):kI P o st e h nx K r:=by
 simp only[dU]at hk;split at hk
 .rename_i id off k j hv d;obtain⟨y,h1,h2⟩:=bI hi hv;obtain⟨A,z,s⟩:=bI hi d;simp only[cf,af]at s h2;subst s;subst h2;split at hk
  .obtain⟨hb,hk⟩:=dO hk;exact kI.q (k:=0) (y0:=.ptr (nm id) (off+j.toNat*sz)) hinv hc (λH _=>by simp only[eg,h1,z,gi,hb,bH]) (dg (by simp only[cf];rw[Nat.add_comm])) hk
  .obtain⟨hb,hk⟩:=dO hk;exact kI.q (k:=0) hinv hc (λH _=>by simp only[eg,h1,z,gi,hb,bH]) (dg rfl) hk
 .cases hk
theorem akf {con:FuncId->J cj} {b8:TypeId->J Ty} {i:Nat} {x:Operand} {st:Bool} (hc:dq P o.op=Z (.ext x i)) (hk:dU con b8 (.op (.ext x i)) e h nx K=Z r):kI P o st e h nx K r:=by
 simp only[dU]at hk;split at hk
 .rename_i l hv;split at hk
  .rename_i u hs;obtain⟨y,h1,h2⟩:=bI hi hv;simp only[cf]at h2;split at h2
   .rename_i z hl;simp only[af]at h2;subst h2;obtain⟨y,s,d⟩:=k9 hl i u hs;exact kI.q (k:=0) hinv hc (λH _=>by simp only[eg,h1,s]) (dg d) hk
   .cases h2
  .cases hk
 .cases hk
theorem aka {con:FuncId->J cj} {b8:TypeId->J Ty} {x:Operand} {st:Bool} (hc:dq P o.op=Z (.len x)) (hk:dU con b8 (.op (.len x)) e h nx K=Z r):kI P o st e h nx K r:=by
 simp only[dU]at hk;split at hk
 .rename_i v hv;split at hk
  .rename_i n hn;obtain⟨y,h1,h2⟩:=bI hi hv;have d:=Pk hn h2;exact kI.q (k:=0) hinv hc (λH _=>by simp only[eg,h1,d];rfl) (dg rfl) hk
  .cases hk
 .cases hk
theorem ahg {con:FuncId->J cj} {b8:TypeId->J Ty} {x:Operand} {st:Bool} (hc:dq P o.op=Z (.lens x)) (hk:dU con b8 (.op (.lens x)) e h nx K=Z r):kI P o st e h nx K r:=by
 simp only[dU]at hk;split at hk
 .rename_i s hv;obtain⟨y,h1,h2⟩:=bI hi hv;simp only[cf,af]at h2;subst h2;exact kI.q (k:=0) hinv hc (λH _=>by simp only[eg,h1,gi];rfl) (dg rfl) hk
 .cases hk
theorem ahb {con:FuncId->J cj} {b8:TypeId->J Ty} {x i:Operand} {st:Bool} (hc:dq P o.op=Z (.sidx x i)) (hk:dU con b8 (.op (.sidx x i)) e h nx K=Z r):kI P o st e h nx K r:=by
 simp only[dU]at hk;split at hk
 .rename_i s k j hv d;obtain⟨hj,hk⟩:=dO hk;obtain⟨y,h1,h2⟩:=bI hi hv;obtain⟨I,F,z⟩:=bI hi d;simp only[cf,af]at h2 z;subst h2;subst z;obtain⟨D,L,A⟩:=DK hj;have e1:cO 0 j=M:=by simp[cO,D]
  have e2:(⟨eR s⟩:ByteArray).data.toList[j.toNat]? =Z (List.getD s j.toNat 0):=by
   show s[j.toNat]? =_;rw[ay,aw A];rfl
  exact kI.q (k:=0) (y0:=raw (.int .u8 (aT (List.getD s j.toNat 0).toNat))) hinv hc (λH _=>by simp only[eg,h1,F,gi,e1,bH,e2];rfl) (dg rfl) hk
 .cases hk
theorem akc {con:FuncId->J cj} {b8:TypeId->J Ty} {sz:Nat} {x i:Operand} {st:Bool} (hc:dq P o.op=Z (.iad sz x i)) (hk:dU con b8 (.op (.iad sz x i)) e h nx K=Z r):kI P o st e h nx K r:=by
 simp only[dU]at hk;split at hk
 .rename_i id k j hv d;split at hk
  .rename_i ty p T xs hb;split at hk
   .rename_i hs;have hs:=au hs;obtain⟨hj,hk⟩:=dO hk;obtain⟨y,h1,h2⟩:=bI hi hv;obtain⟨F,A,s⟩:=bI hi d;simp only[cf,af]at s;subst s;obtain⟨j0,L,I⟩:=DK hj;have hne:¬((p&&xs.length==0)=M):=by
     simp only[ak,cQ];omega
    simp only[cf,ej,hb,e_,aM hne,af]at h2;subst h2;have D:(T.size==sz&&cO 0 j&&fE j xs.length)=M:=by
     simp only[eZ,ak]at hj;simp[hs,hj.1,hj.2]
    exact kI.q (k:=0) hinv hc (λH _=>by simp only[eg,h1,A,gi,D,bH,dc]) (dg rfl) hk
   .cases hk
  .cases hk
 .rename_i T xs k j hv d;split at hk
  .rename_i hs;have hs:=au hs;obtain⟨hj,hk⟩:=dO hk;obtain⟨y,h1,h2⟩:=bI hi hv;obtain⟨F,A,s⟩:=bI hi d;simp only[cf,af]at s h2;subst s;subst h2;have z:(cO 0 j&&fE j (ah xs))=M:=hj;exact kI.q (k:=0) hinv hc (λH _=>by simp only[eg,h1,A,gi,z,bH,dc,hs]) (dg rfl) hk
  .cases hk
 .rename_i id sz' n k j hv d;split at hk
  .rename_i hs;have hs:=au hs;subst hs;obtain⟨hj,hk⟩:=dO hk;obtain⟨y,h1,h2⟩:=bI hi hv;obtain⟨F,A,s⟩:=bI hi d;simp only[cf,af]at s h2;subst s;subst h2;have z:(sz'==sz'&&cO 0 j&&fE j n)=M:=by simp only[ak]at hj ⊢;exact⟨⟨cP _,hj.1⟩,hj.2⟩
   exact kI.q (k:=0) hinv hc (λH _=>by simp only[eg,h1,A,gi,z,bH]) (dg rfl) hk
  .cases hk
 .cases hk
theorem ak6 {con:FuncId->J cj} {b8:TypeId->J Ty} {f:FuncId} {caps:Y Operand} {st:Bool} (hc:dq P o.op=Z (.mkf f caps)) (hk:dU con b8 (.op (.mkf f caps)) e h nx K=Z r):kI P o st e h nx K r:=by
 simp only[dU]at hk;split at hk
 .rename_i l hv;obtain⟨d,h1,h2⟩:=ya hi hv;exact kI.q (k:=0) hinv hc (y0:=.clo f d) (λH _=>by simp only[eg,h1]) (dg (by simp only[cf,h2])) hk
 .cases hk
theorem akl {con:FuncId->J cj} {b8:TypeId->J Ty} {op:BinOp} {x y:Operand} {st:Bool} (hc:dq P o.op=Z (.bin op x y)) (hk:dU con b8 (.op (.bin op x y)) e h nx K=Z r):kI P o st e h nx K r:=by
 simp only[dU]at hk;split at hk
 .rename_i u v hv d;obtain⟨a,b,c,t,h1,h2,L,I,F⟩:=acx (h:=h) hk;obtain⟨y,D,A⟩:=bI hi hv;obtain⟨y2,z,s⟩:=bI hi d;rw[h1]at A;cases A;rw[h2]at s;cases s;simp only[raw]at D z;exact kI.q (k:=0) hinv hc (λH _=>by simp only[eg,D,z,L]) (dg I) F
 .cases hk
end ops
def mN:ii->J (Bool×Nat×Nat)
 |.rows _ p T xs=>Z (p,T.size,xs.length)
 |.dead p sz n=>Z (p,sz,n)
 |_=>U
theorem bR (h:bn) (i:Nat):ej h i=(h.get i).bind mN:=by
 unfold ej;cases h.get i with
 |none=>rfl
 |some b=>cases b<;>rfl
theorem b_.refl (h:bn):b_ h h:=λ_ _ h=>h
theorem b_.trans {a b c:bn} (h1:b_ a b) (h2:b_ b c):b_ a c:=λi r h=>h2 i r (h1 i r h)
theorem b_.set {h:bn} {i:Nat} {b:ii} (hb:∀r,ej h i=Z r->mN b=Z r):b_ h (h.set i (Z b)):=λj r hj=>by
 rw[bR,PT.get_set];by_cases e:j=i
 .subst e;rw[aW rfl];exact hb r hj
 .rw[aM e,<-bR];exact hj
theorem LV {b:ii} {r:Bool×Nat×Nat} (h:mN b=Z r):mN (uC b)=Z r:=by cases b<;>first|exact h|cases h
theorem iX (m:Nat) (h:bn) (i:Nat):(d_ m h).get i=if aP m i then (h.get i).map uC else h.get i:=by
 unfold d_;split
 .rename_i hm;have:=au hm;subst this;simp
 .rw[PT.get_updI];simp only[Nat.one_mul,dc];cases h.get i with
  |none=>simp
  |some b=>simp only[bW];split<;>rfl
theorem b_.kill (m:Nat) (h:bn):b_ h (d_ m h):=λi r hr=>by
 rw[bR]at hr ⊢;rw[iX];split
 .cases hb:h.get i with
  |none=>rw[hb]at hr;cases hr
  |some b=>rw[hb]at hr;exact LV hr
 .exact hr
theorem mg.set {h:bn} {nx nx' i:Nat} {b:ii} (hi:mg h nx) (hr:b_ h (h.set i (Z b))) (hlt:i<nx') (hle:nx<=nx') (hb:∀ty l,b= .cells ty l->kS (h.set i (Z b)) l=M):mg (h.set i (Z b)) nx':=by
 refine ⟨λj ty l hj=>?_,λj c hj=>?_⟩
 .rw[PT.get_set]at hj;split at hj
  .simp only[af]at hj;exact hb ty l hj
  .exact iU hr l (hi.cells j _ l hj)
 .rw[PT.get_set]at hj;split at hj
  .rename_i e;subst e;exact hlt
  .exact dz (hi.low j c hj) hle
theorem mg.kill {h:bn} {nx:Nat} (hi:mg h nx) (m:Nat):mg (d_ m h) nx:=by
 refine ⟨λj ty l hj=>?_,λj c hj=>?_⟩
 .rw[iX]at hj;refine iU (b_.kill m h) l (hi.cells j ty l ?_);split at hj
  .cases hb:h.get j with
   |none=>rw[hb]at hj;cases hj
   |some b=>rw[hb]at hj;cases b<;>simp[uC]at hj
  .exact hj
 .rw[iX]at hj;split at hj
  .cases hb:h.get j with
   |none=>rw[hb]at hj;cases hj
   |some b=>exact hi.low j b hb
  .exact hi.low j c hj
theorem IQ {h h':bn} (hr:b_ h h') {b:ii} (hb:∀ty l,b= .cells ty l->kS h l=M):jC h' b=jC h b:=by
 cases b with
 |cells ty l=>
  obtain⟨d,hl⟩:=eU h l (hb ty l rfl);cases ty<;>simp only[jC,hl,fY hr l d hl]
 |_=>rfl
theorem Wz {h h':bn} {nx i:Nat} (hi:mg h nx) (hr:b_ h h') (hg:h'.get i=h.get i):bD h' (nm i)=bD h (nm i):=by
 rw[bL,bL,hg];cases hb:h.get i with
 |none=>rfl
 |some b=>exact IQ hr λty l e=>hi.cells i _ l (by rw[hb,e])
theorem vL (h:bn) {n:Nat} (hn:¬∃i,n=nm i):bD h n=U:=by
 unfold bD;rw[aM];intro h2;exact hn ⟨n/2,by unfold nm;omega⟩
theorem kr {h h':bn} {nx:Nat} (hi:mg h nx) (hr:b_ h h') {n:Nat} (hg:∀i,n=nm i->h'.get i=h.get i):bD h' n=bD h n:=by
 by_cases hn:∃i,n=nm i
 .obtain⟨i,rfl⟩:=hn;exact Wz hi hr (hg i rfl)
 .rw[vL h hn,vL h' hn]
def EQ (m:Nat):ι:=(ZL m).map nm
theorem nK {m n:Nat}:n∈EQ m↔∃i,n=nm i/\aP m i=M:=by
 unfold EQ;rw[cZ];constructor
 .rintro⟨i,h1,rfl⟩;exact⟨i,rfl,L6.1 h1⟩
 .rintro⟨i,rfl,h1⟩;exact⟨i,L6.2 h1,rfl⟩
theorem lK {m i:Nat}:nm i∈EQ m↔aP m i=M:=by
 rw[nK];constructor
 .rintro⟨j,h1,h2⟩;rw[kT h1];exact h2
 .exact λh=>⟨i,rfl,h⟩
def dN (h:bn) (m:Nat):Prop:=∀i,aP m i=M->∃ty p T xs,h.get i=Z (.rows ty p T xs)
theorem dN.zero (h:bn):dN h 0:=λi hi=>by simp at hi
theorem dN.or {h:bn} {a b:Nat} (d:dN h a) (hb:dN h b):dN h (a|||b):=λi hi=>by
 rw[bz,iS]at hi;exact hi.elim (d i) (hb i)
theorem mL {h:bn} {T:Ty} {v:TV} {x:T.den} {m:Nat} (d:ig h T v=Z (x,m)):dN h m:=by
 cases v with
 |f S v=>
  simp only[ig]at d;split at d
  .simp only[af,aC]at d;rw[<- d.2];exact dN.zero h
  .cases d
 |emp=>
  simp only[ig]at d;split at d
  .simp only[af,aC]at d;rw[<- d.2];exact dN.zero h
  .cases d
 |nil=>
  simp only[ig]at d;split at d
  .simp only[af,aC]at d;rw[<- d.2];exact dN.zero h
  .cases d
 |row id=>
  simp only[ig]at d;split at d
  .rename_i ty p S xs hb;split at d
   .simp only[af,aC]at d;rw[<- d.2];intro i hi;have:=bX.1 hi;subst this;exact⟨ty,p,S,xs,hb⟩
   .cases d
  .cases d
 |fel T xs j hj off=>simp[ig]at d
 |pel id sz j off=>simp[ig]at d
 |ptr id off=>simp[ig]at d
 |csl id off z=>simp[ig]at d
 |mp id=>simp[ig]at d
 |rtl id s=>simp[ig]at d
 |agg q=>simp[ig]at d
 |tup q=>simp[ig]at d
 |clo f q=>simp[ig]at d
 |undef=>simp[ig]at d
 |np=>simp[ig]at d
 |anyb=>simp[ig]at d
 |ful S q=>simp[ig]at d
theorem uw {h:bn}:∀(n:Nat) (T:Ty) (l:Y TV) (x:T.den) (m:Nat) (r:Y TV),eM h n T l=Z (x,m,r)->dN h m
 |0,_,_,_,_,_,hp=>by simp[eM]at hp
 |n+1,.st t,l,x,m,r,hp=>uw n t l x m r hp
 |n+1,.pr a b,l,x,m,r,hp=>by
  simp only[eM]at hp;split at hp
  .rename_i x1 m1 r1 h1;split at hp
   .rename_i x2 m2 r2 h2;simp only[af,aC]at hp;obtain⟨_,rfl,_⟩:=hp;exact (uw n a l x1 m1 r1 h1).or (uw n b r1 x2 m2 r2 h2)
   .cases hp
  .cases hp
 |n+1,.un,l,x,m,r,hp=>by
  simp only[eM,af,aC]at hp;obtain⟨_,rfl,_⟩:=hp;exact dN.zero h
 |n+1,.ex,l,x,m,r,hp=>by
  simp only[eM]at hp;split at hp
  .rename_i x1 m1 r1 h1;simp only[af,aC]at hp;obtain⟨_,rfl,_⟩:=hp;exact uw n Mj l x1 m1 r1 h1
  .cases hp
 |n+1,.sm,l,x,m,r,hp=>by
  simp only[eM]at hp;split at hp
  .rename_i x1 m1 r1 h1;simp only[af,aC]at hp;obtain⟨_,rfl,_⟩:=hp;exact uw n LS l x1 m1 r1 h1
  .cases hp
 |n+1,.int k,l,x,m,r,hp=>by
  simp only[eM]at hp;split at hp
  .split at hp
   .rename_i x1 m1 h1;simp only[af,aC]at hp;obtain⟨_,rfl,_⟩:=hp;exact mL h1
   .cases hp
  .cases hp
 |n+1,.bool,l,x,m,r,hp=>by
  simp only[eM]at hp;split at hp
  .split at hp
   .rename_i x1 m1 h1;simp only[af,aC]at hp;obtain⟨_,rfl,_⟩:=hp;exact mL h1
   .cases hp
  .cases hp
 |n+1,.str,l,x,m,r,hp=>by
  simp only[eM]at hp;split at hp
  .split at hp
   .rename_i x1 m1 h1;simp only[af,aC]at hp;obtain⟨_,rfl,_⟩:=hp;exact mL h1
   .cases hp
  .cases hp
 |n+1,.sl t,l,x,m,r,hp=>by
  simp only[eM]at hp;split at hp
  .split at hp
   .rename_i x1 m1 h1;simp only[af,aC]at hp;obtain⟨_,rfl,_⟩:=hp;exact mL h1
   .cases hp
  .cases hp
theorem Vz {h:bn} {T:Ty} {v:TV} {x:T.den} {m:Nat} (d:Bz h T v=Z (x,m)):dN h m:=by
 cases v with
 |agg l=>
  simp only[Bz]at d;split at d
  .cases d
  .split at d
   .rename_i x1 m1 h1;simp only[af,aC]at d;obtain⟨_,rfl⟩:=d;exact uw 40 T l x1 m1 [] h1
   .cases d
 |f S v=>exact mL (v:=.f S v) d
 |fel T xs j hj off=>exact mL (v:=.fel T xs j hj off) d
 |pel id sz j off=>exact mL (v:=.pel id sz j off) d
 |ptr id off=>exact mL (v:=.ptr id off) d
 |csl id off z=>exact mL (v:=.csl id off z) d
 |row id=>exact mL (v:=.row id) d
 |emp=>exact mL (v:=.emp) d
 |nil=>exact mL (v:=.nil) d
 |mp id=>exact mL (v:=.mp id) d
 |rtl id s=>exact mL (v:=.rtl id s) d
 |tup q=>exact mL (v:=.tup q) d
 |clo g q=>exact mL (v:=.clo g q) d
 |undef=>exact mL (v:=.undef) d
 |np=>exact mL (v:=.np) d
 |anyb=>exact mL (v:=.anyb) d
 |ful S q=>exact mL (v:=.ful S q) d
theorem M9 {h:bn} {T:Ty}:∀(n:Nat) (l:Y TV) (xs:Y T.den) (m:Nat),xZ h T n l=Z (xs,m)->dN h m
 |0,[],xs,m,hp=>by simp only[xZ,af,aC]at hp;rw[<- hp.2];exact dN.zero h
 |0,_::_,xs,m,hp=>by simp[xZ]at hp
 |n+1,l,xs,m,hp=>by
  simp only[xZ]at hp;split at hp
  .rename_i x1 m1 r1 h1;split at hp
   .rename_i x2 m2 h2;simp only[af,aC]at hp;obtain⟨_,rfl⟩:=hp;exact (uw 40 T l x1 m1 r1 h1).or (M9 n r1 x2 m2 h2)
   .cases hp
  .cases hp
theorem zf {h:bn} {u:TV}:∀(n:Nat) (T:Ty) (v:T.den) (off sz:Nat) (z:T.den) (m:Nat),gO h u n T v off sz=Z (z,m)->dN h m
 |0,_,_,_,_,_,_,hg=>by simp[gO]at hg
 |n+1,.st t,v,off,sz,z,m,hg=>by
  simp only[gO]at hg;split at hg
  .rename_i q hq;split at hq
   .simp only[af]at hg;subst hg;exact Vz hq
   .cases hq
  .exact zf n t v off sz z m hg
 |n+1,.pr a b,v,off,sz,z,m,hg=>by
  simp only[gO]at hg;split at hg
  .split at hg
   .rename_i d m1 h1;simp only[af,aC]at hg;obtain⟨_,rfl⟩:=hg;exact zf n a v.1 off sz d m1 h1
   .cases hg
  .split at hg
   .rename_i d m1 h1;simp only[af,aC]at hg;obtain⟨_,rfl⟩:=hg;exact zf n b v.2 _ sz d m1 h1
   .cases hg
 |n+1,.un,v,off,sz,z,m,hg=>by simp[gO]at hg
 |n+1,.ex,v,off,sz,z,m,hg=>by
  simp only[gO]at hg;split at hg
  .rename_i q hq;split at hq
   .simp only[af]at hg;subst hg;exact Vz hq
   .cases hq
  .split at hg
   .rename_i d m1 h1;simp only[af,aC]at hg;obtain⟨_,rfl⟩:=hg;exact zf n Mj _ off sz d m1 h1
   .cases hg
 |n+1,.sm,v,off,sz,z,m,hg=>by
  simp only[gO]at hg;split at hg
  .rename_i q hq;split at hq
   .simp only[af]at hg;subst hg;exact Vz hq
   .cases hq
  .split at hg
   .rename_i d m1 h1;simp only[af,aC]at hg;obtain⟨_,rfl⟩:=hg;exact zf n LS _ off sz d m1 h1
   .cases hg
 |n+1,.int k,v,off,sz,z,m,hg=>by
  simp only[gO]at hg;split at hg
  .exact mL hg
  .cases hg
 |n+1,.bool,v,off,sz,z,m,hg=>by
  simp only[gO]at hg;split at hg
  .exact mL hg
  .cases hg
 |n+1,.str,v,off,sz,z,m,hg=>by
  simp only[gO]at hg;split at hg
  .exact mL hg
  .cases hg
 |n+1,.sl t,v,off,sz,z,m,hg=>by
  simp only[gO]at hg;split at hg
  .exact mL hg
  .cases hg
theorem tb {h:bn} {m i:Nat} (hm:dN h m) (hb:aP m i=M):∃p sz n,(d_ m h).get i=Z (.dead p sz n):=by
 obtain⟨ty,p,T,xs,h1⟩:=hm i hb;exact⟨p,T.size,xs.length,by rw[iX,aW hb,h1];rfl⟩
section ops
variable {R:Type} {P:Program} {o:Oper} {e:iN} {h:bn} {nx:Nat} {K:KO R} {r:R}
theorem ik (n:Nat) (b:u_):iV [(n,b)] n=Z b:=by simp[iV]
theorem iE.mk' {s:Xx} (hc:dq P o.op=Z s) {H:mh} (hH:H.get=bD h) {k:Nat} {y0:AV} {rdl wrl N:ι} {nw:NW} (ha:eg s (IP e h) H k=Z ⟨y0,rdl,wrl,nw,N⟩) {v:TV} {h':bn} {nx' rd wr:Nat} (wr':ι)
 (hsub:∀i∈wrl,i∈wr') (hsame:∀n,n∉wr'->bD h' n=bD h n)
 (hdom:∀i∈wr',∀b',bD h' i=Z b'->∃b,(if i∈wrl then iV nw i else bD h i)=Z b)
 (hblk:∀(D I:HF),ul D I->(∀i∈wrl,D i=iV nw i)->(∀i∈wr',i∉wrl->D i=bD h i)->(∀i∈wr',I i=bD h' i)->(∀i∈wr',∀b b',D i=Z b->I i=Z b'->iv D I b b')/\∀y,cf h' v=Z y->lj D I y0 y)
 (hrd:∀n∈rdl,aP rd (ow n)=M) (hwr:∀n∈wr',aP wr (ow n)=M) (L:∀n∈N,nx<=ow n/\ow n<nx') (hrows:b_ h h') (hinv':mg h' nx') (hg:nx<=nx'):iE P o aa e h nx v rd wr h' nx':=by
 have ht:=HK hc ha;rw[uH,hH]at ht;refine ⟨?_,hrows,hinv',hg,λhs=>by cases hs⟩;have base:∀(val:AV),(∀y,cf h' v=Z y->y=val)->(cf h' v=U->val=y0)->gD P o (fq e h) (bD h) ⟨val,rdl,wr',bD h',N⟩:=by
  intro val hval hnone;refine gD.view ht (λi hi=>.inl (hsub i hi)) λh1 hr1 F=>?_
  have hd:ul (eG h1 wrl (iV nw)) (eG h1 wr' (bD h')):=by
   intro i b hb;unfold eG at hb ⊢;by_cases hi:i∈wr'
   .rw[aW hi]at hb;obtain⟨b0,q⟩:=hdom i hi b hb;refine ⟨b0,?_⟩;by_cases A:i∈wrl
    .rw[aW A]at q ⊢;exact q
    .rw[aM A]at q ⊢;rw[F i hi];exact q
   .rw[aM hi]at hb;rw[aM (λA=>hi (hsub i A))];exact⟨b,hb⟩
  obtain⟨q1,q2⟩:=hblk _ _ hd (λi hi=>by unfold eG;rw[aW hi]) (λi hi A=>by unfold eG;rw[aM A];exact F i hi) (λi hi=>by unfold eG;rw[aW hi]);refine ⟨⟨hd,λi b b' hb z=>?_⟩,?_⟩
  .by_cases hi:i∈wr'
   .exact q1 i hi b b' hb z
   .unfold eG at hb z;rw[aM (λA=>hi (hsub i A))]at hb;rw[aM hi,hb]at z;cases z;exact iv.refl hd b
  .cases hv:cf h' v with
   |none=>rw[hnone hv];exact lj.refl hd _
   |some y=>rw[<- hval y hv];exact q2 y hv
 have hu:eG (bD h) wr' (bD h')=bD h':=by
  funext n;unfold eG;split
  .rfl
  .rename_i hn;exact (hsame n hn).symm
 cases hv:cf h' v with
 |none=>exact⟨_,base y0 (λy d=>by rw[hv]at d;cases d) (λ_=>rfl),λy d=>(by cases d),hu,hrd,hwr,L⟩
 |some y=>exact⟨_,base y (λy' d=>by rw[hv]at d;cases d;rfl) (λhn=>by rw[hv]at hn;cases hn),λy' d=>by cases d;rfl,hu,hrd,hwr,L⟩
theorem Cp (hi:sX e h):∀(parts:Y (Nat×Nat×Operand)) (cells cs:Y TV) (cells':Y AV),IK cells e parts=Z cs->cF h cells=Z cells'->∃cs',yB cells' (IP e h) parts=Z cs'/\cF h cs=Z cs'/\(kE cells=M->kE cs=M)
 |[],cells,cs,cells',hf,he=>by simp only[IK,af]at hf;subst hf;exact⟨cells',rfl,he,id⟩
 |(off,sz,x)::rest,cells,cs,cells',hf,he=>by
  simp only[IK]at hf;split at hf
  .rename_i v hv;split at hf
   .rename_i q hq;split at hf
    .rename_i hc;simp only[ak,cQ]at hc;obtain⟨y,h1,h2⟩:=bI hi hv;obtain⟨A,L⟩:=Jx hq h2;obtain⟨cs',I,F,D⟩:=Cp hi rest (splice cells off q) cs (splice cells' off y.cs) hf (pD off he A);refine ⟨cs',?_,F,λd=>D ?_⟩
     .simp only[yB,h1];rw[aW,I];simp only[ak,cQ];exact⟨⟨by rw[gB A];exact hc.1,by rw[gB he];exact hc.2⟩,rN A L⟩
     .clear I F D hf;have app:∀a b:Y TV,kE a=M->kE b=M->kE (a++b)=M:=by
       intro a b d hb;induction a with
       |nil=>exact hb
       |cons z r s=>simp only[kE,ak,ia]at d ⊢;exact⟨d.1,s d.2⟩
      have tk:∀(a:Y TV) n,kE a=M->kE (a.take n)=M:=by
       intro a;induction a with
       |nil=>intro n h;simp[kE]
       |cons z r s=>
        intro n h;cases n with
        |zero=>rfl
        |succ n=>simp only[kE,ak,vb]at h ⊢;exact⟨h.1,s n h.2⟩
      have dr:∀(a:Y TV) n,kE a=M->kE (a.drop n)=M:=by
       intro a;induction a with
       |nil=>intro n h;simp[kE]
       |cons z r s=>
        intro n h;cases n with
        |zero=>exact h
        |succ n=>simp only[kE,ak,vh]at h ⊢;exact s n h.2
      unfold splice;exact app _ _ (app _ _ (tk _ _ d) L) (dr _ _ d)
    .cases hf
   .cases hf
  .cases hf
variable (hinv:mg h nx) (hi:sX e h)
include hinv hi
theorem adp {con:FuncId->J cj} {b8:TypeId->J Ty} {z:ξ} {parts:Y (Nat×Nat×Operand)} {st:Bool} (hc:dq P o.op=Z (.build z parts)) (hk:dU con b8 (.op (.build z parts)) e h nx K=Z r):kI P o st e h nx K r:=by
 simp only[dU]at hk;split at hk
 .rename_i l hl;split at hk
  .rename_i cs hf;obtain⟨h1,_,_⟩:=uL h hl;obtain⟨cs',h2,s,_⟩:=Cp hi parts l cs _ hf h1;refine kI.q (k:=0) (y0:=L4 cs') hinv hc (λH _=>by simp only[eg,h2]) (λy d=>?_) hk;simp only[cf,s,af]at d;subst d;exact YO cs'
  .cases hk
 .cases hk
theorem ahf {con:FuncId->J cj} {b8:TypeId->J Ty} {sz:Nat} {ag:Bool} {x:Operand} (hc:dq P o.op=Z (.load sz ag x)) (hk:dU con b8 (.op (.load sz ag x)) e h nx K=Z r):kI P o aa e h nx K r:=by
 obtain⟨H,s⟩:=jQ h;simp only[dU]at hk;split at hk
 .rename_i id off hv;obtain⟨y,h1,h2⟩:=bI hi hv;simp only[cf,af]at h2;subst h2;split at hk
  .rename_i ty l hb;split at hk
   .rename_i v hs;obtain⟨F,hl⟩:=eU h l (hinv.cells id _ l hb);obtain⟨y,D,A⟩:=UQ hl hs;have hg:H.get (nm id)=Z ⟨ty,.mx F⟩:=by rw[s,bL,hb];simp only[aD,jC,hl]
    exact⟨v,ku id,0,h,nx,hk,iE.pure (k:=0) hinv hc s (y0:=y) (rdl:=[nm id]) (by simp only[eg,h1,C8,hg,A]) (dg D) (λn hn=>by simp only[aI]at hn;subst hn;rw[dS];exact bX.2 rfl) (λh=>by cases h)⟩
   .cases hk
  .cases hk
 .rename_i id sz' j off hv;obtain⟨y,h1,h2⟩:=bI hi hv;simp only[cf,af]at h2;subst h2;split at hk
  .rename_i ty p T xs hb;split at hk
   .rename_i hsz;have hsz:=au hsz;obtain⟨hj,hk⟩:=dO hk;split at hk
    .rename_i v hs;obtain⟨y,D,A⟩:=ae2 (h:=h) hj hs;have hne:¬((p&&xs.length==0)=M):=by
      have:=DK hj;simp only[ak,cQ];omega
     have hg:H.get (nm id)=Z ⟨ty,.fz (xs.flatMap (bQ T))⟩:=by rw[s,bL,hb];simp only[aD,jC,aM hne]
     exact⟨v,ku id,0,h,nx,hk,iE.pure (k:=0) hinv hc s (y0:=.f y) (rdl:=[nm id]) (by simp only[eg,h1,C8,hg,hsz,A]) (dg D) (λn hn=>by simp only[aI]at hn;subst hn;rw[dS];exact bX.2 rfl) (λh=>by cases h)⟩
    .cases hk
   .cases hk
  .rename_i ty l hb;split at hk
   .cases hk
   .split at hk
    .rename_i hsz;simp only[ak]at hsz;have e1:=au hsz.1.1;have e2:=au hsz.1.2;have e3:=au hsz.2;subst e1;subst e2;subst e3;split at hk
     .rename_i T xs hA;obtain⟨hj,hk⟩:=dO hk;obtain⟨F,hl⟩:=eU h l (hinv.cells id _ l hb);have hg:H.get (nm id)=Z ⟨ty,.mx F⟩:=by rw[s,bL,hb];simp only[aD,jC,hl]
      have hlt:j.toNat<l.length:=by
       simp only[eZ,ak,cO,fE,bB]at hj;omega
      obtain⟨z,I,d⟩:=k9 hl j.toNat _ (VB hA j.toNat hlt);have d:cf h (.f T (aH xs j))=Z z:=d;exact⟨_,ku id,0,h,nx,hk,iE.pure (k:=0) hinv hc s (y0:=z) (rdl:=[nm id]) (by simp only[eg,h1,C8,hg,BC.sub?,BC.get,Nat.mul_one,dc,I]) (dg d) (λn hn=>by simp only[aI]at hn;subst hn;rw[dS];exact bX.2 rfl) (λh=>by cases h)⟩
     .cases hk
    .cases hk
  .cases hk
 .rename_i T xs j hj off hv;obtain⟨y,h1,h2⟩:=bI hi hv;simp only[cf,af]at h2;subst h2;split at hk
  .rename_i v hs;obtain⟨y,D,A⟩:=ae2 (h:=h) hj hs;exact kI.q (k:=0) (y0:=.f y) hinv hc (λH _=>by simp only[eg,h1,C8,A]) (dg D) hk
  .cases hk
 .cases hk
theorem adq {con:FuncId->J cj} {b8:TypeId->J Ty} {ty:TypeId} {z:ξ} (hc:dq P o.op=Z (.alloc ty z)) (hk:dU con b8 (.op (.alloc ty z)) e h nx K=Z r):kI P o aa e h nx K r:=by
 have _:=hi;obtain⟨H,hH⟩:=jQ h;simp only[dU]at hk;split at hk
 .rename_i l hl;obtain⟨_,hz,_⟩:=uL h hl;have hnone:h.get nx=U:=by
   cases hb:h.get nx with
   |none=>rfl
   |some b=>have:=hinv.low nx b hb;omega
  have hr:b_ h (h.set nx (Z (.cells (Z ty) l))):=b_.set λr hr=>by rw[bR,hnone]at hr;cases hr
  obtain⟨h1,_,_⟩:=uL (h.set nx (Z (.cells (Z ty) l))) hl;have F:bD (h.set nx (Z (.cells (Z ty) l))) (nm nx)=Z ⟨ty,.mx (z.map raw)⟩:=by rw[bL,PT.get_set,aW rfl];simp only[aD,jC,h1]
  refine ⟨_,_,_,_,_,hk,iE.mk' hc hH (k:=nm nx) (by simp only[eg];rfl) [nm nx] (λi hi=>hi) (λn hn=>?_) (λi hi b' _=>⟨⟨ty,.fz (z.map .raw)⟩,?_⟩) (λH1 H2 d D _ A=>⟨λi hi b b' hb s=>?_,λy I=>?_⟩) (by simp) ?_ ?_ hr (hinv.set hr (by omega) (by omega) λty' l' he=>?_) (by omega)⟩
  .refine kr hinv hr λi e=>?_
   subst e;rw[PT.get_set,aM (λe=>hn (by rw[e];simp))]
  .rw[aW hi];simp only[aI]at hi;subst hi;simp[iV]
  .simp only[aI]at hi;subst hi;rw[D _ (by simp)]at hb;rw[A _ (by simp),F]at s;rw[ik]at hb;simp only[af]at hb s;subst hb;subst s;refine iv.cells rfl rfl ?_ λx L=>?_
   .simp only[BC.toMx,G0];exact gY.refl d _
   .simp only[BC.toMx]at L;obtain⟨q,hq,rfl⟩:=cZ.1 L;exact hz q hq
  .simp only[cf,af]at I;subst I;exact lj.refl d _
  .intro n hn;simp only[aI]at hn;subst hn;rw[dS];exact bX.2 rfl
  .intro n hn;simp only[aI]at hn;subst hn;rw[dS];omega
  .cases he;exact jX _ _ _ h1
 .cases hk
theorem akk {con:FuncId->J cj} {b8:TypeId->J Ty} {ty:TypeId} {x:Operand} (hc:dq P o.op=Z (.box ty x)) (hk:dU con b8 (.op (.box ty x)) e h nx K=Z r):kI P o aa e h nx K r:=by
 obtain⟨H,hH⟩:=jQ h;simp only[dU]at hk;split at hk
 .rename_i v hv;split at hk
  .rename_i l hl;obtain⟨y,h1,h2⟩:=bI hi hv;obtain⟨I,h4⟩:=Jx hl h2;have hcell:=rN I h4;have hnone:h.get nx=U:=by
    cases hb:h.get nx with
    |none=>rfl
    |some b=>have:=hinv.low nx b hb;omega
   have hr:b_ h (h.set nx (Z (.cells (Z ty) l))):=b_.set λr hr=>by rw[bR,hnone]at hr;cases hr
   have F:=fY hr l _ I;have A:bD (h.set nx (Z (.cells (Z ty) l))) (nm nx)=Z ⟨ty,.mx y.cs⟩:=by rw[bL,PT.get_set,aW rfl];simp only[aD,jC,F]
   refine ⟨_,_,_,_,_,hk,iE.mk' hc hH (k:=nm nx) (by simp only[eg,h1,hcell,bH];rfl) [nm nx] (λi hi=>hi) (λn hn=>?_) (λi hi b' _=>⟨⟨ty,oB y.cs⟩,?_⟩) (λH1 H2 d z _ s=>⟨λi hi b b' hb q=>?_,λy D=>?_⟩) (by simp) ?_ ?_ hr (hinv.set hr (by omega) (by omega) λty' l' he=>?_) (by omega)⟩
   .refine kr hinv hr λi e=>?_
    subst e;rw[PT.get_set,aM (λe=>hn (by rw[e];simp))]
   .rw[aW hi];simp only[aI]at hi;subst hi;simp[iV]
   .simp only[aI]at hi;subst hi;rw[z _ (by simp)]at hb;rw[s _ (by simp),A]at q;rw[ik]at hb;simp only[af]at hb q;subst hb;subst q;obtain⟨q1,q2⟩:=nJ y.cs;refine iv.cells q2 rfl ?_ λx L=>?_
    .rw[q1];exact gY.refl d _
    .exact lY hcell x L
   .simp only[cf,af]at D;subst D;exact lj.refl d _
   .intro n hn;simp only[aI]at hn;subst hn;rw[dS];exact bX.2 rfl
   .intro n hn;simp only[aI]at hn;subst hn;rw[dS];omega
   .cases he;exact jX _ _ _ F
  .cases hk
 .cases hk
theorem adn {con:FuncId->J cj} {b8:TypeId->J Ty} {ty:TypeId} {sz bytes:Nat} {z:ξ} {l c:Operand} (hcm:C1 (b8 ty)=U) (hc:dq P o.op=Z (.mksl ty sz bytes z l c)) (hk:dU con b8 (.op (.mksl ty sz bytes z l c)) e h nx K=Z r):kI P o aa e h nx K r:=by
 obtain⟨H,hH⟩:=jQ h;simp only[dU,hcm]at hk;split at hk
 .rename_i T k a k' b hT hv F;split at hk
  .rename_i hsz;simp only[ak]at hsz;have hs:=au hsz.1;have hz:=JP hsz.2;subst hs;subst hz;obtain⟨hck,hk⟩:=dO hk;obtain⟨y,h1,h2⟩:=bI hi hv;obtain⟨y2,h3,h4⟩:=bI hi F;simp only[cf,af]at h2 h4;subst h2;subst h4;have hnone:h.get nx=U:=by
    cases hb:h.get nx with
    |none=>rfl
    |some b=>have:=hinv.low nx b hb;omega
   generalize L:ii.rows ty aa T (aA (aO a) T.zero)=B at hk;have hr:b_ h (h.set nx (Z B)):=b_.set λr hr=>by rw[bR,hnone]at hr;cases hr
   have I:bD (h.set nx (Z B)) (nm nx)=Z ⟨ty,.fz ((aA (aO a) T.zero).flatMap (bQ T))⟩:=by rw[bL,PT.get_set,aW rfl,<-L];simp[jC]
   refine ⟨_,_,_,_,_,hk,iE.mk' hc hH (k:=nm nx) (by simp only[eg,h1,h3,gi,hck,bH];rfl) [nm nx] (λi hi=>hi) (λn hn=>?_) (λi hi b' _=>⟨⟨ty,.fz (repl (sx T) (aO a))⟩,?_⟩) (λH1 H2 d D _ A=>⟨λi hi b b' hb s=>?_,λy hy=>?_⟩) (by simp) ?_ ?_ hr (hinv.set hr (by omega) (by omega) λty' l' he=>?_) (by omega)⟩
   .refine kr hinv hr λi e=>?_
    subst e;rw[PT.get_set,aM (λe=>hn (by rw[e];simp))]
   .rw[aW hi];simp only[aI]at hi;subst hi;simp[iV]
   .simp only[aI]at hi;subst hi;rw[D _ (by simp)]at hb;rw[A _ (by simp),I]at s;rw[ik]at hb;simp only[af]at hb s;subst hb;subst s;refine iv.cells rfl rfl (G3 d T _) λx hx=>?_
    simp only[BC.toMx]at hx;obtain⟨q,hq,rfl⟩:=cZ.1 hx;exact rf T _ q hq
   .simp only[cf,bR,PT.get_set,bH,<-L,aD,mN,e_,jV,bO,dx,af,cB]at hy;subst hy;exact lj.refl d _
   .intro n hn;simp only[aI]at hn;subst hn;rw[dS];exact bX.2 rfl
   .intro n hn;simp only[aI]at hn;subst hn;rw[dS];omega
   .rw[<- L]at he;cases he
  .cases hk
 .cases hk
end ops
theorem vK {α:Type} {f:α->Y FV} {n:Nat} (hf:∀x,(f x).length=n):∀(xs:Y α) (j:Nat),(xs.take j).flatMap f=(xs.flatMap f).take (j*n)
 |[],j=>by simp
 |x::r,0=>by simp
 |x::r,j+1=>by
  rw[vb,fx,fx,vK hf r j,show (j+1)*n=(f x).length+j*n from by rw[hf,iP];omega,List.take_length_add_append]
theorem IJ {α:Type} {f:α->Y FV} {n:Nat} (hf:∀x,(f x).length=n):∀(xs:Y α) (j:Nat),(xs.drop j).flatMap f=(xs.flatMap f).drop (j*n)
 |[],j=>by simp
 |x::r,0=>by simp
 |x::r,j+1=>by
  rw[vh,fx,IJ hf r j,show (j+1)*n=(f x).length+j*n from by rw[hf,iP];omega,List.drop_length_add_append]
theorem O6 {z:ξ}:∀(n:Nat) (x:FV),x∈repl z n->∃v∈z,x= .raw v
 |0,x,h=>by simp[repl]at h
 |n+1,x,h=>by
  rw[repl,bP]at h;rcases h with h|h
  .obtain⟨v,hv,rfl⟩:=cZ.1 h;exact⟨v,hv,rfl⟩
  .exact O6 n x h
theorem FI:∀l:Y FV,(∀x∈l,x.isCell=M)->gj (l.map .f)=M
 |[],_=>rfl
 |z::r,h=>by simp only[eY,gj,ak];exact⟨h z (by simp),FI r λx d=>h x (by simp[d])⟩
section ops
variable {R:Type} {P:Program} {o:Oper} {e:iN} {h:bn} {nx:Nat} {K:KO R} {r:R}
theorem mg.fresh (hinv:mg h nx):h.get nx=U:=by
 cases hb:h.get nx with
 |none=>rfl
 |some b=>have:=hinv.low nx b hb;omega
theorem dN.lt (hinv:mg h nx) {m:Nat} (hm:dN h m) {i:Nat} (hi:aP m i=M):i<nx:=by
 obtain⟨_,_,_,_,hb⟩:=hm i hi;exact hinv.low i _ hb
theorem iE.new {s:Xx} (hinv:mg h nx) (hc:dq P o.op=Z s) {H:mh} (hH:H.get=bD h) {y0:AV} {rdl:ι} {b0:u_} (ha:eg s (IP e h) H (nm nx)=Z ⟨y0,rdl,[nm nx],[(nm nx,b0)],[nm nx]⟩) {B:ii} {v:TV} {m rd:Nat} (hm:dN h m)
 (hB:∀ty l,B= .cells ty l->kS ((d_ m h).set nx (Z B)) l=M)
 (hblk:∀z q,ul z q->Dl h z q m->∀b',jC ((d_ m h).set nx (Z B)) B=Z b'->iv z q b0 b')
 (hval:∀z q y,ul z q->Dl h z q m->cf ((d_ m h).set nx (Z B)) v=Z y->lj z q y0 y)
 (hrd:∀n∈rdl,aP rd (ow n)=M):iE P o aa e h nx v rd (m|||ku nx) ((d_ m h).set nx (Z B)) (nx+1):=by
 have hk:=hinv.kill m;have hr0:=b_.kill m h;have F:b_ (d_ m h) ((d_ m h).set nx (Z B)):=b_.set λr hr=>by rw[bR,hk.fresh]at hr;cases hr
 have hr:=hr0.trans F;have hgiv:∀i,aP m i=M->bD ((d_ m h).set nx (Z B)) (nm i)=U:=λi hi=>by
  have hlt:=hm.lt hinv hi;obtain⟨p,sz,n,hd⟩:=tb hm hi;rw[bL,PT.get_set,aM (by omega),hd];rfl
 refine iE.mk' hc hH ha (nm nx::EQ m) (λi hi=>by simp only[aI]at hi;subst hi;simp) (λn hn=>?_) (λi hi b' I=>?_) (λz q d L hw0 D=>?_) hrd ?_ ?_ hr (hk.set F (by omega) (by omega) hB) (by omega)
 .refine kr hinv hr λi e=>?_
  subst e;rw[PT.get_set,aM (λe=>hn (by rw[e];simp)),iX,aM];intro hb;exact hn (dk _ (lK.2 hb))
 .rcases bx.1 hi with rfl|hi
  .exact⟨b0,by rw[aW (by simp),ik]⟩
  .obtain⟨j,rfl,hj⟩:=nK.1 hi;rw[hgiv j hj]at I;cases I
 .have g:Dl h z q m:=λi hi=>by
   have hlt:=hm.lt hinv hi;have hmem:nm i∈nm nx::EQ m:=dk _ (lK.2 hi);exact⟨hw0 _ hmem (λhc=>by simp only[aI]at hc;have:=kT hc;omega),by rw[D _ hmem,hgiv i hi]⟩
  refine ⟨λi hi b b' hb A=>?_,λy hy=>hval z q y d g hy⟩;rcases bx.1 hi with rfl|hi'
  .rw[L _ (by simp),ik]at hb;rw[D _ hi,bL,PT.get_set,aW rfl]at A;simp only[af]at hb;subst hb;exact hblk z q d g b' A
  .obtain⟨j,rfl,hj⟩:=nK.1 hi';rw[D _ hi,hgiv j hj]at A;cases A
 .intro n hn;rw[bz];rcases bx.1 hn with rfl|hn
  .rw[dS,bX.2 rfl];simp
  .obtain⟨j,rfl,hj⟩:=nK.1 hn;rw[dS,hj];rfl
 .intro n hn;simp only[aI]at hn;subst hn;rw[dS];omega
theorem iE.wrt {s:Xx} (hinv:mg h nx) (hc:dq P o.op=Z s) {H:mh} (hH:H.get=bD h) {id:Nat} {y0:AV} {rdl:ι} {b0:u_} {k:Nat} (ha:eg s (IP e h) H k=Z ⟨y0,rdl,[nm id],[(nm id,b0)],[]⟩) {B0 B:ii} (I:h.get id=Z B0) {v:TV} {m rd:Nat} (hm:dN h m) (hmid:aP m id=aa)
 (hrow:mN B=mN B0) (hB:∀ty l,B= .cells ty l->kS ((d_ m h).set id (Z B)) l=M)
 (hblk:∀z q,ul z q->Dl h z q m->∀b',jC ((d_ m h).set id (Z B)) B=Z b'->iv z q b0 b')
 (hval:∀z q y,ul z q->Dl h z q m->cf ((d_ m h).set id (Z B)) v=Z y->lj z q y0 y)
 (hrd:∀n∈rdl,aP rd (ow n)=M):iE P o aa e h nx v rd (m|||ku id) ((d_ m h).set id (Z B)) nx:=by
 have hk:=hinv.kill m;have hr0:=b_.kill m h;have hkid:(d_ m h).get id=Z B0:=by rw[iX,hmid];simpa using I
 have F:b_ (d_ m h) ((d_ m h).set id (Z B)):=b_.set λr hr=>by rw[bR,hkid]at hr;rw[hrow];exact hr
 have hr:=hr0.trans F;have hgiv:∀i,aP m i=M->bD ((d_ m h).set id (Z B)) (nm i)=U:=λi hi=>by
  have hne:i≠id:=λe=>by rw[e,hmid]at hi;cases hi
  obtain⟨p,sz,n,hd⟩:=tb hm hi;rw[bL,PT.get_set,aM hne,hd];rfl
 refine iE.mk' hc hH ha (nm id::EQ m) (λi hi=>by simp only[aI]at hi;subst hi;simp) (λn hn=>?_) (λi hi b' L=>?_) (λz q d hw1 hw0 D=>?_) hrd ?_ (by simp) hr (hk.set F (hinv.low id B0 I) (by omega) hB) (by omega)
 .refine kr hinv hr λi e=>?_
  subst e;rw[PT.get_set,aM (λe=>hn (by rw[e];simp)),iX,aM];intro hb;exact hn (dk _ (lK.2 hb))
 .rcases bx.1 hi with rfl|hi
  .exact⟨b0,by rw[aW (by simp),ik]⟩
  .obtain⟨j,rfl,hj⟩:=nK.1 hi;rw[hgiv j hj]at L;cases L
 .have g:Dl h z q m:=λi hi=>by
   have hne:i≠id:=λe=>by rw[e,hmid]at hi;cases hi
   have hmem:nm i∈nm id::EQ m:=dk _ (lK.2 hi);exact⟨hw0 _ hmem (λhc=>by simp only[aI]at hc;exact hne (kT hc)),by rw[D _ hmem,hgiv i hi]⟩
  refine ⟨λi hi b b' hb A=>?_,λy hy=>hval z q y d g hy⟩;rcases bx.1 hi with rfl|hi'
  .rw[hw1 _ (by simp),ik]at hb;rw[D _ hi,bL,PT.get_set,aW rfl]at A;simp only[af]at hb;subst hb;exact hblk z q d g b' A
  .obtain⟨j,rfl,hj⟩:=nK.1 hi';rw[D _ hi,hgiv j hj]at A;cases A
 .intro n hn;rw[bz];rcases bx.1 hn with rfl|hn
  .rw[dS,bX.2 rfl];simp
  .obtain⟨j,rfl,hj⟩:=nK.1 hn;rw[dS,hj];rfl
theorem LW (h:bn) {z:ξ} {d:Y TV} (q:Ju z=Z d):∀len,cF h (aA len d).flatten=Z ((repl z len).map .f)
 |0=>rfl
 |n+1=>by
  rw[pN,List.flatten_cons,repl,c8];refine nv ?_ (LW h q n);rw[(uL h q).1];simp only[G0];rfl
theorem UV {H:mh} (I:H.get=bD h) {T:Ty} {v:TV} {D:Y T.den} {m:Nat} {y:AV} (d:Bz h (.sl T) v=Z (D,m)) (s:cf h v=Z y):∃rd,y.row? H T.size=Z ((D.flatMap (bQ T)).map .f,D.length,rd)/\∀n∈rd,∃i,n=nm i/\aP m i=M:=by
 have fl:=λA:Y T.den=>eH (bC T) A
 have tk:∀A:Y T.den,(A.flatMap (bQ T)).take (A.length*T.size)=A.flatMap (bQ T):=λA=>by rw[<- fl,bS]
 cases v with
 |f S x=>
  simp only[Bz,ig]at d;split at d
  .rename_i z F;simp only[af,aC]at d;obtain⟨rfl,_⟩:=d;obtain⟨e,rfl⟩:=gT F;subst e;simp only[cf,af]at s;subst s;refine ⟨[],?_,by simp⟩;simp only[gi,AV.row?];rw[aW (bw (by rw[fl x];exact cN _)),tk]
  .cases d
 |emp=>
  simp only[Bz,ig,af,aC]at d;obtain⟨rfl,_⟩:=d;simp only[cf,af]at s;subst s;exact⟨[],rfl,by simp⟩
 |nil=>
  simp only[Bz,ig,af,aC]at d;obtain⟨rfl,_⟩:=d;simp only[cf,af]at s;subst s;exact⟨[],rfl,by simp⟩
 |row id=>
  simp only[Bz,ig]at d;split at d
  .rename_i ty p S xs hb;split at d
   .rename_i z F;simp only[af,aC]at d;obtain⟨rfl,rfl⟩:=d;obtain⟨e,rfl⟩:=gT F;cases e;simp only[cf,ej,hb,af]at s;subst s;unfold e_;split
    .rename_i hp;simp only[ak,cQ]at hp;have:xs=[]:=jq.1 hp.2;subst this;exact⟨[],rfl,by simp⟩
    .rename_i hp;have hg:H.get (nm id)=Z ⟨ty,.fz (xs.flatMap (bQ T))⟩:=by rw[I,bL,hb];simp only[aD,jC,aM hp]
     refine ⟨[nm id],?_,λn hn=>?_⟩
     .simp only[AV.row?,hg,cP,bH,BC.isCells,BC.len,kL];rw[aW (bw (by rw[fl xs];exact cN _))];simp only[BC.toMx,<-py,tk]
     .simp only[aI]at hn;exact⟨id,hn,bX.2 rfl⟩
   .cases d
  .cases d
 |agg l=>simp[Bz,Ty.one]at d
 |fel T xs j hj off=>simp[Bz,ig]at d
 |pel id sz j off=>simp[Bz,ig]at d
 |ptr id off=>simp[Bz,ig]at d
 |csl id off z=>simp[Bz,ig]at d
 |mp id=>simp[Bz,ig]at d
 |rtl id L=>simp[Bz,ig]at d
 |tup q=>simp[Bz,ig]at d
 |clo f q=>simp[Bz,ig]at d
 |undef=>simp[Bz,ig]at d
 |np=>simp[Bz,ig]at d
 |anyb=>simp[Bz,ig]at d
 |ful S q=>simp[Bz,ig]at d
theorem SS {v:TV} {y:AV} (d:cf h v=Z y) (hc:v.isC=M):gj y.cs=M:=by
 rw[M' (Nj d hc)];simp only[gj,Bool.and_true];exact Nj d hc
theorem WD (T:Ty) (x:T.den):gj ((bQ T x).map .f)=M:=by
 have:∀l:Y FV,(∀x∈l,x.isCell=M)->gj (l.map .f)=M:=by
  intro l hl;induction l with
  |nil=>rfl
  |cons z r d=>simp only[eY,gj,ak];exact⟨hl z (by simp),d λx q=>hl x (by simp[q])⟩
 exact this _ (nS T x)
theorem gC {T:Ty} {v:TV} {x:T.den} {m:Nat} {y:AV} (d:ig h T v=Z (x,m)) (s:cf h v=Z y):gj y.cs=M:=by
 cases v with
 |f S v=>simp only[cf,af]at s;subst s;rw[zB];exact WD S v
 |emp=>exact SS s rfl
 |nil=>exact SS s rfl
 |row id=>exact SS s rfl
 |fel T xs j hj off=>simp[ig]at d
 |pel id sz j off=>simp[ig]at d
 |ptr id off=>simp[ig]at d
 |csl id off z=>simp[ig]at d
 |mp id=>simp[ig]at d
 |rtl id A=>simp[ig]at d
 |agg q=>simp[ig]at d
 |tup q=>simp[ig]at d
 |clo f q=>simp[ig]at d
 |undef=>simp[ig]at d
 |np=>simp[ig]at d
 |anyb=>simp[ig]at d
 |ful S q=>simp[ig]at d
theorem Hk {T:Ty} (A:T.one=M) {v:TV} {x:T.den} {m:Nat} (d:ig h T v=Z (x,m)):v.isC=M:=by
 cases v with
 |f S v=>
  simp only[ig]at d;split at d
  .rename_i z s;obtain⟨e,_⟩:=gT s;subst e;exact A
  .cases d
 |emp=>rfl
 |nil=>rfl
 |row id=>rfl
 |fel T xs j hj off=>simp[ig]at d
 |pel id sz j off=>simp[ig]at d
 |ptr id off=>simp[ig]at d
 |csl id off z=>simp[ig]at d
 |mp id=>simp[ig]at d
 |rtl id D=>simp[ig]at d
 |agg q=>simp[ig]at d
 |tup q=>simp[ig]at d
 |clo f q=>simp[ig]at d
 |undef=>simp[ig]at d
 |np=>simp[ig]at d
 |anyb=>simp[ig]at d
 |ful S q=>simp[ig]at d
theorem Rv {a b:Y TV} (d:kE a=M) (hb:kE b=M):kE (a++b)=M:=by
 induction a with
 |nil=>exact hb
 |cons z r q=>simp only[kE,ak,ia]at d ⊢;exact⟨d.1,q d.2⟩
theorem s6:∀(n:Nat) (T:Ty) (l:Y TV) (x:T.den) (m:Nat) (r:Y TV),eM h n T l=Z (x,m,r)->∃a,l=a++r/\kE a=M
 |0,_,_,_,_,_,hp=>by simp[eM]at hp
 |n+1,.st t,l,x,m,r,hp=>s6 n t l x m r hp
 |n+1,.pr a b,l,x,m,r,hp=>by
  simp only[eM]at hp;split at hp
  .rename_i x1 m1 r1 h1;split at hp
   .rename_i x2 m2 r2 h2;simp only[af,aC]at hp;obtain⟨_,_,rfl⟩:=hp;obtain⟨a1,rfl,s⟩:=s6 n a l x1 m1 r1 h1;obtain⟨a2,rfl,d⟩:=s6 n b r1 x2 m2 r2 h2;exact⟨a1++a2,by simp,Rv s d⟩
   .cases hp
  .cases hp
 |n+1,.un,l,x,m,r,hp=>by
  simp only[eM,af,aC]at hp;obtain⟨_,_,rfl⟩:=hp;exact⟨[],rfl,rfl⟩
 |n+1,.ex,l,x,m,r,hp=>by
  simp only[eM]at hp;split at hp
  .rename_i x1 m1 r1 h1;simp only[af,aC]at hp;obtain⟨_,_,rfl⟩:=hp;exact s6 n Mj l x1 m1 r1 h1
  .cases hp
 |n+1,.sm,l,x,m,r,hp=>by
  simp only[eM]at hp;split at hp
  .rename_i x1 m1 r1 h1;simp only[af,aC]at hp;obtain⟨_,_,rfl⟩:=hp;exact s6 n LS l x1 m1 r1 h1
  .cases hp
 |n+1,.int k,l,x,m,r,hp=>by
  simp only[eM]at hp;split at hp
  .rename_i c q;split at hp
   .rename_i x1 m1 h1;simp only[af,aC]at hp;obtain⟨_,_,rfl⟩:=hp;exact⟨[c],rfl,by simp[kE,Hk rfl h1]⟩
   .cases hp
  .cases hp
 |n+1,.bool,l,x,m,r,hp=>by
  simp only[eM]at hp;split at hp
  .rename_i c q;split at hp
   .rename_i x1 m1 h1;simp only[af,aC]at hp;obtain⟨_,_,rfl⟩:=hp;exact⟨[c],rfl,by simp[kE,Hk rfl h1]⟩
   .cases hp
  .cases hp
 |n+1,.str,l,x,m,r,hp=>by
  simp only[eM]at hp;split at hp
  .rename_i c q;split at hp
   .rename_i x1 m1 h1;simp only[af,aC]at hp;obtain⟨_,_,rfl⟩:=hp;exact⟨[c],rfl,by simp[kE,Hk rfl h1]⟩
   .cases hp
  .cases hp
 |n+1,.sl t,l,x,m,r,hp=>by
  simp only[eM]at hp;split at hp
  .rename_i c q;split at hp
   .rename_i x1 m1 h1;simp only[af,aC]at hp;obtain⟨_,_,rfl⟩:=hp;exact⟨[c],rfl,by simp[kE,Hk rfl h1]⟩
   .cases hp
  .cases hp
theorem JT {T:Ty} {v:TV} {x:T.den} {m:Nat} {y:AV} (s:Bz h T v=Z (x,m)) (d:cf h v=Z y):gj y.cs=M:=by
 cases v with
 |agg l=>
  simp only[Bz]at s;split at s
  .cases s
  .split at s
   .rename_i x1 m1 h1;obtain⟨a,e,D⟩:=s6 40 T l x1 m1 [] h1;rw[oe]at e;subst e;simp only[cf]at d;split at d
    .rename_i F hl;simp only[af]at d;subst d;exact rN hl D
    .cases d
   .cases s
 |f S v=>exact gC (v:=.f S v) s d
 |fel T xs j hj off=>exact gC (v:=.fel T xs j hj off) s d
 |pel id sz j off=>exact gC (v:=.pel id sz j off) s d
 |ptr id off=>exact gC (v:=.ptr id off) s d
 |csl id off z=>exact gC (v:=.csl id off z) s d
 |row id=>exact gC (v:=.row id) s d
 |emp=>exact gC (v:=.emp) s d
 |nil=>exact gC (v:=.nil) s d
 |mp id=>exact gC (v:=.mp id) s d
 |rtl id A=>exact gC (v:=.rtl id A) s d
 |tup q=>exact gC (v:=.tup q) s d
 |clo g q=>exact gC (v:=.clo g q) s d
 |undef=>exact gC (v:=.undef) s d
 |np=>exact gC (v:=.np) s d
 |anyb=>exact gC (v:=.anyb) s d
 |ful S q=>exact gC (v:=.ful S q) s d
theorem qN {u:TV} {y:AV} (d:cf h u=Z y):∀(n:Nat) (T:Ty) (v:T.den) (off sz:Nat) (z:T.den) (m:Nat),gO h u n T v off sz=Z (z,m)->gj y.cs=M
 |0,_,_,_,_,_,_,hg=>by simp[gO]at hg
 |n+1,.st t,v,off,sz,z,m,hg=>by
  simp only[gO]at hg;split at hg
  .rename_i q hq;split at hq
   .exact JT hq d
   .cases hq
  .exact qN d n t v off sz z m hg
 |n+1,.pr a b,v,off,sz,z,m,hg=>by
  simp only[gO]at hg;split at hg
  .split at hg
   .rename_i s m1 h1;exact qN d n a v.1 off sz s m1 h1
   .cases hg
  .split at hg
   .rename_i s m1 h1;exact qN d n b v.2 _ sz s m1 h1
   .cases hg
 |n+1,.un,v,off,sz,z,m,hg=>by simp[gO]at hg
 |n+1,.ex,v,off,sz,z,m,hg=>by
  simp only[gO]at hg;split at hg
  .rename_i q hq;split at hq
   .exact JT hq d
   .cases hq
  .split at hg
   .rename_i s m1 h1;exact qN d n Mj _ off sz s m1 h1
   .cases hg
 |n+1,.sm,v,off,sz,z,m,hg=>by
  simp only[gO]at hg;split at hg
  .rename_i q hq;split at hq
   .exact JT hq d
   .cases hq
  .split at hg
   .rename_i s m1 h1;exact qN d n LS _ off sz s m1 h1
   .cases hg
 |n+1,.int k,v,off,sz,z,m,hg=>by
  simp only[gO]at hg;split at hg
  .exact gC hg d
  .cases hg
 |n+1,.bool,v,off,sz,z,m,hg=>by
  simp only[gO]at hg;split at hg
  .exact gC hg d
  .cases hg
 |n+1,.str,v,off,sz,z,m,hg=>by
  simp only[gO]at hg;split at hg
  .exact gC hg d
  .cases hg
 |n+1,.sl t,v,off,sz,z,m,hg=>by
  simp only[gO]at hg;split at hg
  .exact gC hg d
  .cases hg
theorem JX (l:Y FV):w7 (l.map .f)=Z l:=by
 induction l with
 |nil=>rfl
 |cons x r d=>simp only[eY,w7,d]
theorem yg (l:Y FV):oB (l.map .f)= .fz l:=by unfold oB;rw[JX]
theorem FJ:∀{a b:Y TV},kE a=M->kE b=M->kE (a++b)=M
 |[],_,_,hb=>hb
 |x::r,b,d,hb=>by
  simp only[kE,ak]at d;simp only[ia,kE,ak];exact⟨d.1,FJ d.2 hb⟩
theorem Es {d:Y TV} (q:kE d=M):∀n,kE (aA n d).flatten=M
 |0=>rfl
 |n+1=>by rw[pN,List.flatten_cons];exact FJ q (Es q n)
theorem acg {H:mh} (q:H.get=bD h) {id ty:Nat} {l:Y TV} {d:Y AV} (hb:h.get id=Z (.cells (Z ty) l)) (hl:cF h l=Z d) {n sz:Nat} (hn:l.length=n*sz):AV.row? H sz (.row (nm id) sz n)=Z (d,n,[nm id]):=by
 have hg:H.get (nm id)=Z ⟨ty,.mx d⟩:=by rw[q,bL,hb];simp only[aD,jC,hl]
 have hln:=gB hl;simp only[AV.row?,cP,bH,hg,BC.isCells,kL,BC.len,BC.toMx];rw[aW (bw (by omega)),fO (by omega)]
variable (hinv:mg h nx) (hi:sX e h)
include hinv hi
theorem ahl {con:FuncId->J cj} {b8:TypeId->J Ty} {ty:TypeId} {sz len:Nat} {z:ξ} {parts:Y (Nat×Nat×Operand)} (hcm:C1 (b8 ty)=U) (hc:dq P o.op=Z (.bsl ty sz len z parts)) (hk:dU con b8 (.op (.bsl ty sz len z parts)) e h nx K=Z r):kI P o aa e h nx K r:=by
 obtain⟨H,I⟩:=jQ h;simp only[dU,hcm]at hk;split at hk
 .rename_i T zc hT F;split at hk
  .rename_i hs;have hs:=au hs;subst hs;split at hk
   .rename_i cs hf;split at hk
    .rename_i xs m hp;obtain⟨cs',h1,h2,_⟩:=Cp hi parts _ cs _ hf (LW h F len);have hm:=M9 len cs xs m hp;refine ⟨_,_,_,_,_,hk,iE.new hinv hc I (y0:=if len=0 then .emp else .row (nm nx) T.size len) (rdl:=[]) (b0:=⟨ty,oB cs'⟩) (by simp only[eg,h1]) hm (λ_ _ he=>by cases he) (λH1 L d g b' s=>?_) (λH1 L y d g A=>?_) (by simp)⟩
     .simp only[jC]at s;split at s
      .cases s
      rw[af]at s;subst s;obtain⟨q1,q2⟩:=nJ cs';refine iv.cells q2 rfl ?_ λx D=>?_
      .rw[q1];exact (BW d len cs xs m cs' hp h2 g).1
      .simp only[BC.toMx]at D;obtain⟨q,hq,rfl⟩:=cZ.1 D;exact rf T _ q hq
     .simp only[cf,bR,PT.get_set,bH,aD,mN,e_,af]at A;rw[(BW d len cs xs m cs' hp h2 g).2]at A;split at A
      .rename_i hq;simp only[ak,cQ]at hq;subst A;rw[aW hq.2];exact lj.refl d _
      .rename_i hq;subst A;rw[aM (λh0=>hq (by subst h0;rfl))];exact lj.refl d _
    .cases hk
   .cases hk
  .cases hk
 .cases hk
theorem ahm {con:FuncId->J cj} {b8:TypeId->J Ty} {ty:TypeId} {sz bytes:Nat} {s x:Operand} (hcm:C1 (b8 ty)=U) (hc:dq P o.op=Z (.app ty sz bytes s x)) (hk:dU con b8 (.op (.app ty sz bytes s x)) e h nx K=Z r):kI P o aa e h nx K r:=by
 obtain⟨H,hH⟩:=jQ h;have hfr:=hinv.fresh;simp only[dU,hcm]at hk;split at hk
 .rename_i T b y hT hv hv2;split at hk
  .rename_i hs;have hs:=au hs;subst hs;split at hk
   .rename_i z m hys;obtain⟨yb,h1,h2⟩:=bI hi hv;obtain⟨yy,h3,h4⟩:=bI hi hv2;obtain⟨rdl,h5,h6⟩:=UV hH hys h4;have onEmp:∀(rd':Nat),(∀n∈rdl,aP rd' (ow n)=M)->Ig yb=M->Le yb .emp->be (ah z) bytes=M->iE P o aa e h nx (.row nx) rd' (ku nx) (h.set nx (Z (.rows ty M T z))) (nx+1):=by
     intro rd' hrd' he hle hroom;have hr1:b_ h (h.set nx (Z (.rows ty M T z))):=b_.set λr hr=>by rw[bR,hfr]at hr;cases hr
     have hyb:∀id sz' n,yb≠ .row id sz' n:=by rintro id sz' n rfl;cases he
     have A:eg (.app ty T.size bytes s x) (IP e h) H (nm nx)=if ah z==0 then Z ⟨yb,rdl,[],[],[]⟩ else Z ⟨.row (nm nx) T.size (ah z),rdl,[nm nx],[(nm nx,⟨ty,oB ((z.flatMap (bQ T)).map .f)⟩)],[nm nx]⟩:=by
      simp only[eg,h1,h3,h5];cases yb with
      |row id sz' n=>exact dR rfl (hyb id sz' n)
      |ful l n=>cases he
      |_=>simp only[he,hroom,jE,bH]
     by_cases hl:ah z=0
     .rw[hl]at A;simp only[cP,bH]at A;have hnil:z=[]:=jq.1 hl;subst hnil;refine iE.mk' hc hH A [] (by simp) (λn _=>?_) (by simp) (λH1 H2 d _ _ _=>⟨by simp,λy D=>?_⟩) hrd' (by simp) (by simp) hr1 (hinv.set hr1 (by omega) (by omega) λ_ _ he=>by cases he) (by omega)
      .by_cases hn:n=nm nx
       .subst hn;rw[bL,bL,PT.get_set,aW rfl,hfr];rfl
       .refine kr hinv hr1 λi e=>?_
        subst e;rw[PT.get_set,aM (λe=>hn (by rw[e]))]
      .simp only[cf,bR,PT.get_set,bH,aD,mN,e_,j6,cP,jE,af]at D;subst D;exact hle.toH d
     .rw[aM (by simpa using hl)]at A;rw[yg]at A;have key:=iE.new (m:=0) (rd:=rd') hinv hc hH A (B:=.rows ty M T z) (v:=.row nx) (dN.zero h) (λ_ _ he=>by cases he) (λH1 H2 d g b' F=>by
       simp only[jC]at F;rw[aM (by simpa using hl)]at F;simp only[af]at F;subst F;exact iv.refl d _) (λH1 H2 y d g D=>by
       simp only[cf,bR,PT.get_set,bH,aD,mN,e_]at D;rw[aM (by simpa using hl)]at D;simp only[af]at D;subst D;exact lj.refl d _) hrd'
      rw[xK]at key;exact key
    split at hk
    .rename_i id;split at hk
     .rename_i ty' p S xs0 hb;split at hk
      .rename_i xs hxs;obtain⟨ee,rfl⟩:=gT hxs;cases ee;split at hk
       .rename_i hcond;simp only[ak,cQ,ec]at hcond;obtain⟨rfl,hmid⟩:=hcond;obtain⟨hroom,hk⟩:=dO hk;simp only[cf,ej,hb,af]at h2;have hidlt:=hinv.low id _ hb;have hne:nx≠id:=by omega
        have hrd:∀n∈rdl,aP (ku id|||m) (ow n)=M:=λn hn=>by
         obtain⟨i,rfl,hm⟩:=h6 n hn;rw[dS,bz,hm];simp
        generalize hh':(h.set id (Z (.dead p T.size (ah xs0)))).set nx (Z (.rows ty' p T (xs0++z)))=h' at hk;have hrA:b_ h (h.set id (Z (.dead p T.size (ah xs0)))):=b_.set λr hr=>by rw[bR,hb]at hr;exact hr
        have hg2:∀i,h'.get i=if i=nx then Z (.rows ty' p T (xs0++z)) else if i=id then Z (.dead p T.size (ah xs0)) else h.get i:=λi=>by rw[<- hh',PT.get_set,PT.get_set]
        have hr:b_ h h':=by
         rw[<- hh'];refine hrA.trans (b_.set λr hr=>?_);rw[bR,PT.get_set,aM hne,hfr]at hr;cases hr
        have hinv':mg h' (nx+1):=by
         refine ⟨λi ty l hil=>?_,λi c hic=>?_⟩
         .rw[hg2]at hil;split at hil
          .cases hil
          .split at hil
           .cases hil
           .exact iU hr l (hinv.cells i _ l hil)
         .rw[hg2]at hic;split at hic
          .omega
          .split at hic
           .omega
           .have:=hinv.low i c hic;omega
        have hsame:∀n,n≠nm nx->n≠nm id->bD h' n=bD h n:=λn h1 h2=>kr hinv hr λi e=>by
         subst e;rw[hg2,aM (λe=>h1 (by rw[e])),aM (λe=>h2 (by rw[e]))]
        have hdead:bD h' (nm id)=U:=by rw[bL,hg2,aM (by omega),aW rfl];rfl
        have hnew:bD h' (nm nx)=if p&&(xs0++z).length==0 then U else Z ⟨ty',.fz ((xs0++z).flatMap (bQ T))⟩:=by rw[bL,hg2,aW rfl];rfl
        have hval:cf h' (.row nx)=Z (e_ p nx T.size (xs0++z).length):=by simp only[cf,bR,hg2,bH,aD,mN]
        have hwm:∀n,n=nm nx\/n=nm id->aP (ku id|||ku nx) (ow n)=M:=λn hn=>by
         rcases hn with rfl|rfl<;>rw[dS,bz,bX.2 rfl]<;>simp
        refine ⟨_,_,_,_,_,hk,?_⟩;by_cases hp:(p&&xs0.length==0)=M
        ·
         have hyb:yb= .emp:=by rw[<- h2];unfold e_;rw[aW hp]
         subst hyb;simp only[ak,cQ]at hp;obtain⟨rfl,hl0⟩:=hp;have hnil:xs0=[]:=jq.1 hl0;subst hnil;have hroom':be (ah z) bytes=M:=by simpa using hroom
         have A:eg (.app ty' T.size bytes s x) (IP e h) H (nm nx)=if ah z==0 then Z ⟨.emp,rdl,[],[],[]⟩ else Z ⟨.row (nm nx) T.size (ah z),rdl,[nm nx],[(nm nx,⟨ty',oB ((z.flatMap (bQ T)).map .f)⟩)],[nm nx]⟩:=by
          simp only[eg,h1,h3,h5,Ig,hroom',jE,bH]
         have hdead0:bD h (nm id)=U:=by rw[bL,hb];rfl
         by_cases hl:ah z=0
         .rw[hl]at A;simp only[cP,bH]at A;have hnil:z=[]:=jq.1 hl;subst hnil;refine iE.mk' hc hH A [] (by simp) (λn _=>?_) (by simp) (λH1 H2 d _ _ _=>⟨by simp,λy D=>?_⟩) hrd (by simp) (by simp) hr hinv' (by omega)
          .by_cases hn:n=nm nx
           .subst hn;rw[hnew,bL,hfr];rfl
           .by_cases hn2:n=nm id
            .subst hn2;rw[hdead,hdead0]
            .exact hsame n hn hn2
          .rw[hval]at D;simp only[e_,oe,j6,cP,jE,bH,af]at D;subst D;exact lj.refl d _
         .rw[aM (by simpa using hl),yg]at A;refine iE.mk' hc hH A [nm nx] (λi hi=>hi) (λn hn=>?_) (λi hi b' _=>⟨_,by rw[aW hi];simp only[aI]at hi;subst hi;exact ik _ _⟩) (λH1 H2 d hw1 _ hw2=>⟨λi hi b b' L I=>?_,λy D=>?_⟩) hrd (λn hn=>hwm n (.inl (by simpa using hn))) (λn hn=>by simp only[aI]at hn;subst hn;rw[dS];omega) hr hinv' (by omega)
          .have hn1:n≠nm nx:=by simpa using hn
           by_cases hn2:n=nm id
           .subst hn2;rw[hdead,hdead0]
           .exact hsame n hn1 hn2
          .simp only[aI]at hi;subst hi;rw[hw1 _ (by simp),ik]at L;rw[hw2 _ (by simp),hnew,aM (by simpa using hl)]at I;simp only[af,od]at L I;subst L;subst I;exact iv.refl d _
          .rw[hval]at D;simp only[e_,od]at D;rw[aM (by simpa using hl)]at D;simp only[af]at D;subst D;exact lj.refl d _
        .have hyb:yb= .row (nm id) T.size xs0.length:=by rw[<- h2];unfold e_;rw[aM hp]
         subst hyb;have hg:H.get (nm id)=Z ⟨ty',.fz (xs0.flatMap (bQ T))⟩:=by rw[hH,bL,hb];simp only[aD,jC,aM hp]
         have fl:=eH (bC T) xs0;have tk:(xs0.flatMap (bQ T)).take (xs0.length*T.size)=xs0.flatMap (bQ T):=by rw[<- fl,bS]
         have hmem:Wa (nm id) rdl=aa:=by
          cases hx:Wa (nm id) rdl with
          |false=>rfl
          |true=>
           obtain⟨i,e,hm⟩:=h6 _ (afa.1 hx);rw[<- kT e,hmid]at hm;cases hm
         have A:eg (.app ty' T.size bytes s x) (IP e h) H (nm nx)=Z ⟨.row (nm nx) T.size (xs0.length+z.length),nm id::rdl,[nm nx,nm id],[(nm nx,⟨ty',.fz ((xs0++z).flatMap (bQ T))⟩)],[nm nx]⟩:=by
          have hcnd:(T.size==T.size&& !(Wa (nm id) rdl)&&(BC.fz (xs0.flatMap (bQ T))).isCells&&dP (xs0.length*T.size) (BC.fz (xs0.flatMap (bQ T))).len&&ty'==ty'&&be (xs0.length+z.length) bytes)=M:=by
           have:dP (xs0.length*T.size) (BC.fz (xs0.flatMap (bQ T))).len=M:=bw (by simp only[BC.len];omega);rw[this,hmem,hroom];simp[BC.isCells]
          simp only[eg,h1,h3,h5,hg,hcnd,bH,BC.toMx,<-py,tk,<-c8,yg,FP]
         have hne2:¬((p&&(xs0++z).length==0)=M):=by
          simp only[ak,cQ,b7]at hp ⊢;intro hh;exact hp ⟨hh.1,by omega⟩
         refine iE.mk' hc hH A [nm nx,nm id] (λi hi=>hi) (λn hn=>?_) (λi hi b' F=>?_) (λH1 H2 d hw1 _ hw2=>⟨λi hi b b' L I=>?_,λy D=>?_⟩) (λn hn=>?_) (λn hn=>hwm n (by simpa using hn)) (λn hn=>by simp only[aI]at hn;subst hn;rw[dS];omega) hr hinv' (by omega)
         .simp only[bx,cH,gK,not_or]at hn;exact hsame n hn.1 hn.2
         .simp only[bx,cH,gK]at hi;rcases hi with rfl|rfl
          .exact⟨_,by rw[aW (by simp)];exact ik _ _⟩
          .rw[hdead]at F;cases F
         .simp only[bx,cH,gK]at hi;rcases hi with rfl|rfl
          .rw[hw1 _ (by simp),ik]at L;rw[hw2 _ (by simp),hnew,aM hne2]at I;simp only[af]at L I;subst L;subst I;exact iv.refl d _
          .rw[hw2 _ (by simp),hdead]at I;cases I
         .rw[hval]at D;simp only[e_]at D;rw[aM hne2]at D;simp only[b7,af]at D;subst D;exact lj.refl d _
         .rcases bx.1 hn with rfl|hn
          .rw[dS,bz,bX.2 rfl];rfl
          .exact hrd n hn
       .cases hk
      .cases hk
     .cases hk
    .rename_i S xs1;split at hk
     .rename_i hm0;have hm0:=au hm0;subst hm0;split at hk
      .rename_i xs hxs;obtain⟨ee,rfl⟩:=gT hxs;cases ee;obtain⟨hroom,hk⟩:=dO hk;simp only[cf,af]at h2;subst h2;have hr0:rdl=[]:=by
        cases rdl with
        |nil=>rfl
        |cons a q=>obtain⟨i,_,hz⟩:=h6 a (by simp);simp at hz
       subst hr0;have fl:=eH (bC T) xs1;have tk:(xs1.flatMap (bQ T)).take (xs1.length*T.size)=xs1.flatMap (bQ T):=by rw[<- fl,bS]
       have hcnd:(dP (xs1.length*T.size) (xs1.flatMap (bQ T)).length&&be (xs1.length+z.length) bytes)=M:=by
        have hroom:be (xs1.length+z.length) bytes=M:=hroom;rw[hroom,Bool.and_true];exact bw (by omega)
       rcases lX hk with ⟨hl,hk⟩|⟨hl,hk⟩
       .have hl:=au hl;have hl':(ah z==0)=M:=by rw[hl];rfl
        exact⟨_,0,0,h,nx,hk,iE.pure (y0:=.f (.sl (xs1.flatMap (bQ T)) xs1.length)) (k:=nm nx) hinv hc hH (by simp only[eg,h1,h3,h5,hcnd,bH,hl'];rfl) (dg rfl) (by simp) λ_=>rfl⟩
       .have hl':¬(ah z==0)=M:=λe=>by
         have e:ah z=0:=by simpa using e
         rw[e]at hl;cases hl
        exact⟨_,_,_,_,_,hk,iE.new hinv hc hH (y0:=.row (nm nx) T.size (xs1.length+z.length)) (rdl:=[]) (b0:=⟨ty,.fz ((xs1++z).flatMap (bQ T))⟩) (by
         simp only[eg,h1,h3,h5,hcnd,bH];rw[aM hl',tk,<-c8,yg,<-FP]) (B:=.rows ty aa T (xs1++z)) (v:=.row nx) (dN.zero h) (λ_ _ he=>by cases he) (λH1 H2 d g b' F=>by
         simp only[jC,jV,bO,dx,af]at F;subst F;exact iv.refl d _) (λH1 H2 y d g D=>by
         simp only[cf,bR,PT.get_set,bH,aD,mN,e_,jV,bO,dx,b7,af]at D;subst D;exact lj.refl d _) (by simp)⟩
      .cases hk
     .cases hk
    .obtain⟨hroom,hk⟩:=dO hk;simp only[cf,af]at h2;subst h2;exact⟨_,_,_,_,_,hk,onEmp m (λn hn=>by obtain⟨i,rfl,hm⟩:=h6 n hn;rw[dS];exact hm) rfl (Le.refl _) hroom⟩
    .obtain⟨hroom,hk⟩:=dO hk;simp only[cf,af]at h2;subst h2;exact⟨_,_,_,_,_,hk,onEmp m (λn hn=>by obtain⟨i,rfl,hm⟩:=h6 n hn;rw[dS];exact hm) rfl Le.nilEmp hroom⟩
    .cases hk
   .cases hk
  .cases hk
 .cases hk
theorem Zy {T:Ty} (xs d:Y T.den):(Lm xs d).flatMap (bQ T)=AI.splice (xs.flatMap (bQ T)) 0 ((d.flatMap (bQ T)).take (iQ d.length xs.length*T.size)):=by
 have _:=hinv;have _:=hi;have fl:=λq:Y T.den=>eH (bC T) q
 have tk:∀(q:Y T.den) n,(q.flatMap (bQ T)).take (n*T.size)=(q.take n).flatMap (bQ T):=by
  intro q;induction q with
  |nil=>intro n;simp
  |cons z r s=>
   intro n;cases n with
   |zero=>simp
   |succ n=>rw[fx,vb,fx,iP,List.take_append,bC,fO (by rw[bC];omega),show n*T.size+T.size-T.size=n*T.size from by omega,s n]
 have A:∀(q:Y T.den) n,(q.flatMap (bQ T)).drop (n*T.size)=(q.drop n).flatMap (bQ T):=by
  intro q;induction q with
  |nil=>intro n;simp
  |cons z r s=>
   intro n;cases n with
   |zero=>simp
   |succ n=>rw[fx,vh,iP,ut,bC,rx (by rw[bC];omega),show n*T.size+T.size-T.size=n*T.size from by omega,s n,od]
 unfold Lm AI.splice;rw[tk,FP,fl,cg];have e1:d.take (iQ d.length xs.length)=d.take xs.length:=by
  rcases Nat.le_total d.length xs.length with h|h
  .rw[show iQ d.length xs.length=d.length from Ey h,bS,fO h]
  .rw[show iQ d.length xs.length=xs.length from Nat.min_eq_right h]
 rw[e1];have e2:min (iQ d.length xs.length) d.length=iQ d.length xs.length:=Ey (Nat.min_le_left _ _);rw[e2];simp only[List.take_zero,od,bM];rw[A];congr 1;rcases Nat.le_total d.length xs.length with h|h
 .rw[show iQ d.length xs.length=d.length from Ey h]
 .rw[show iQ d.length xs.length=xs.length from Nat.min_eq_right h,List.drop_length,rx h]
theorem ahj {con:FuncId->J cj} {b8:TypeId->J Ty} {sz:Nat} {d x:Operand} (hc:dq P o.op=Z (.copy sz d x)) (hk:dU con b8 (.op (.copy sz d x)) e h nx K=Z r):kI P o aa e h nx K r:=by
 obtain⟨H,I⟩:=jQ h;simp only[dU]at hk;split at hk
 .rename_i id y hv D;split at hk
  .rename_i ty p T xs hb;split at hk
   .rename_i hs;have hs:=au hs;subst hs;split at hk
    .rename_i q m hys;split at hk
     .rename_i hcond;simp only[ak,ec]at hcond;obtain⟨hmid,rfl⟩:=hcond;obtain⟨yb,h1,h2⟩:=bI hi hv;obtain⟨yy,h3,h4⟩:=bI hi D;obtain⟨rdl,h5,h6⟩:=UV I hys h4;simp only[cf,ej,hb,e_,jV,bO,dx,af]at h2;subst h2;have fl:=eH (bC T) xs;have fl2:=eH (bC T) q;have hg:H.get (nm id)=Z ⟨ty,.fz (xs.flatMap (bQ T))⟩:=by rw[I,bL,hb];simp[jC]
      have hmem:Wa (nm id) rdl=aa:=by
       cases s:Wa (nm id) rdl with
       |false=>rfl
       |true=>
        obtain⟨i,e,hm⟩:=h6 _ (afa.1 s);rw[<- kT e,hmid]at hm;cases hm
      have hle:iQ q.length xs.length*T.size<=xs.length*T.size:=cA _ (Nat.min_le_right _ _);have F:eg (.copy T.size d x) (IP e h) H (nm nx)=Z ⟨raw (.int .i64 (iQ q.length xs.length)),nm id::rdl,[nm id],[(nm id,⟨ty,.fz ((Lm xs q).flatMap (bQ T))⟩)],[]⟩:=by
       have hcnd:(T.size==T.size&& !(Wa (nm id) rdl)&&dP (xs.length*T.size) (BC.fz (xs.flatMap (bQ T))).len)=M:=by
        have:dP (xs.length*T.size) (BC.fz (xs.flatMap (bQ T))).len=M:=bw (by simp only[BC.len];omega);rw[this,hmem];simp
       have hput:(BC.fz (xs.flatMap (bQ T))).put 0 (((q.flatMap (bQ T)).map .f).take (iQ q.length xs.length*T.size))=Z (.fz ((Lm xs q).flatMap (bQ T))):=by
        rw[<- py];unfold BC.put;rw[aW]
        .simp only[JX];rw[Zy hinv hi]
        .simp only[ak];refine ⟨⟨rfl,bw ?_⟩,?_⟩
         .simp only[BC.len,cz,cg];omega
         .have:∀l:Y FV,(∀x∈l,x.isCell=M)->gj (l.map .f)=M:=by
           intro l hl;induction l with
           |nil=>rfl
           |cons z r ih=>simp only[eY,gj,ak];exact⟨hl z (by simp),ih λx s=>hl x (by simp[s])⟩
          exact this _ λx s=>rf T q x (fH s)
       simp only[eg,h1,h3,hg,h5,hcnd,bH,hput]
      have hrow:mN (.rows ty aa T (Lm xs q))=mN (.rows ty aa T xs):=by
       have:(Lm xs q).length=xs.length:=by unfold Lm;rw[b7,cg,kF];omega
       simp only[mN,this]
      have key:=iE.wrt (m:=0) (v:=.f (.int .i64) (aT (iQ (ah q) (ah xs)))) (rd:=ku id|||m) hinv hc I F (B:=.rows ty aa T (Lm xs q)) hb (dN.zero h) (by simp) hrow (λ_ _ he=>by cases he) (λH1 H2 d g b' A=>by
       simp only[jC,jV,bO,dx,af]at A;subst A;exact iv.refl d _) (λH1 H2 y d g L=>by
       simp only[cf,af]at L;subst L;exact lj.refl d _) (λn hn=>by
       rcases bx.1 hn with rfl|hn
       .rw[dS,bz,bX.2 rfl];rfl
       .obtain⟨i,rfl,hm⟩:=h6 n hn;rw[dS,bz,hm];simp)
      rw[xK]at key;exact⟨_,_,_,_,_,hk,key⟩
     .cases hk
    .cases hk
   .cases hk
  .cases hk
 .cases hk
theorem adm {con:FuncId->J cj} {b8:TypeId->J Ty} {sz:Nat} {x v:Operand} (hc:dq P o.op=Z (.store sz x v)) (hk:dU con b8 (.op (.store sz x v)) e h nx K=Z r):kI P o aa e h nx K r:=by
 obtain⟨H,hH⟩:=jQ h;simp only[dU]at hk;split at hk
 .rename_i id off y hv hv2;obtain⟨yb,h1,h2⟩:=bI hi hv;obtain⟨A,h3,h4⟩:=bI hi hv2;simp only[cf,af]at h2;subst h2;split at hk
  .rename_i ty l hb;split at hk
   .rename_i cs hcs;split at hk
    .rename_i hcond;simp only[ak,cQ]at hcond;obtain⟨h5,h6⟩:=Jx hcs h4;obtain⟨D,hl⟩:=eU h l (hinv.cells id _ l hb);have hg:H.get (nm id)=Z ⟨ty,.mx D⟩:=by rw[hH,bL,hb];simp only[aD,jC,hl]
     have hcell:=rN h5 h6;have hlen:A.cs.length=sz:=by rw[gB h5];exact hcond.1
     have hput:(BC.mx D).put off A.cs=Z (.mx (splice D off A.cs)):=by
      unfold BC.put;rw[aW]
      .rfl
      .simp only[ak];exact⟨⟨rfl,by simp only[BC.len];rw[hlen,gB hl];exact hcond.2⟩,hcell⟩
     have L:eg (.store sz x v) (IP e h) H (nm nx)=Z ⟨raw undef,[nm id],[nm id],[(nm id,⟨ty,.mx (splice D off A.cs)⟩)],[]⟩:=by
      simp only[eg,h1,h3,JS,hg,hlen,cP,bH,hput]
     have hspl:∀h',b_ h h'->cF h' (splice l off cs)=Z (splice D off A.cs):=λh' hr=>pD off (fY hr l D hl) (fY hr cs _ h5)
     have F:b_ h (h.set id (Z (.cells (Z ty) (splice l off cs)))):=b_.set λr hr=>by rw[bR,hb]at hr;cases hr
     have key:=iE.wrt (m:=0) (v:=.undef) (rd:=ku id) hinv hc hH L (B:=.cells (Z ty) (splice l off cs)) hb (dN.zero h) (by simp) rfl (λty' l2 he=>by cases he;exact jX _ _ _ (hspl _ F)) (λH1 H2 d g b' s=>by
      have:=hspl _ F;simp only[d_,ru,bH,jC,this,af]at s;subst s;exact iv.refl d _) (λH1 H2 y d g hy=>by
      simp only[cf,af]at hy;subst hy;exact lj.refl d _) (λn hn=>by simp only[aI]at hn;subst hn;rw[dS];exact bX.2 rfl)
     rw[xK]at key;exact⟨_,_,_,_,_,hk,key⟩
    .cases hk
   .cases hk
  .cases hk
 .rename_i id sz' j off y hv hv2;obtain⟨yb,h1,h2⟩:=bI hi hv;obtain⟨A,h3,h4⟩:=bI hi hv2;simp only[cf,af]at h2;subst h2;split at hk
  .rename_i ty p T xs hb;split at hk
   .rename_i hsz;have hsz:=au hsz;subst hsz;obtain⟨hj,hk⟩:=dO hk;split at hk
    .rename_i z m hset;split at hk
     .cases hk
     .rename_i hmid;have hmid:aP m id=aa:=by simpa using hmid
      have hm:=zf 40 T _ off sz z m hset;obtain⟨j0,j1,j2⟩:=DK hj;have hne:¬((p&&xs.length==0)=M):=by simp only[ak,cQ];omega
      have hne2:¬((p&&(ct xs j z).length==0)=M):=by unfold ct;rw[EA];exact hne
      have hg:H.get (nm id)=Z ⟨ty,.fz (xs.flatMap (bQ T))⟩:=by rw[hH,bL,hb];simp only[aD,jC,aM hne]
      have fl:=eH (bC T) xs;have hx:xs[j.toNat]? =Z (aH xs j):=by
       unfold aH;rw[ay,aw j2];rfl
      have hle:(j.toNat+1)*T.size<=xs.length*T.size:=cA _ j2;rw[iP]at hle;have hso:∀H1 H2,ul H1 H2->Dl h H1 H2 m->VM H1 H2 A T (aH xs j) z off sz:=λH1 H2 d g=>vm d h4 40 T _ off sz z m hset g
      have hshape:A.cs.length=sz/\off+sz<=T.size/\gj A.cs=M:=by
       have d0:ul (bD h) (bD (d_ m h)):=λi b hb=>by
        obtain⟨i',c,rfl,g1,g2⟩:=jB hb;rw[iX]at g1;by_cases ht:aP m i'=M
        .obtain⟨pp,ss,nn,g3⟩:=tb hm ht;rw[iX]at g3;rw[g3]at g1;cases g1;cases g2
        .rw[aM ht]at g1;exact⟨b,by rw[bL,g1];simp only[aD];rw[<- IQ (b_.kill m h) (λty l e=>hinv.cells i' _ l (by rw[g1,e]))];exact g2⟩
       obtain⟨fs,q1,q2,q3,q4,q5⟩:=hso _ _ d0 (λi hi=>⟨rfl,by
        obtain⟨pp,ss,nn,g3⟩:=tb hm hi;rw[bL,g3];rfl⟩)
       refine ⟨by rw[<- q2,<-cz (f:=AV.f),q1.length],q3,?_⟩;exact qN h4 40 T _ off sz z m hset
      obtain⟨hlen,hoff,hcell⟩:=hshape;obtain⟨c',hput,I,hc2⟩:∃c',(BC.fz (xs.flatMap (bQ T))).put (j.toNat*T.size+off) A.cs=Z c'/\c'.toMx=splice ((xs.flatMap (bQ T)).map .f) (j.toNat*T.size+off) A.cs/\c'.isCells=M:=by
       unfold BC.put;rw[aW]
       .split
        .rename_i l ys hl hys;simp only[BC.fz.injEq]at hl;subst hl;refine ⟨_,rfl,?_,rfl⟩;rw[pF hys];simp only[BC.toMx];unfold splice;simp[py,List.map_drop]
        .exact⟨_,rfl,rfl,rfl⟩
       .simp only[ak];exact⟨⟨rfl,bw (by simp only[BC.len];omega)⟩,hcell⟩
      have L:eg (.store sz x v) (IP e h) H (nm nx)=Z ⟨raw undef,[nm id],[nm id],[(nm id,⟨ty,c'⟩)],[]⟩:=by
       simp only[eg,h1,h3,JS,hg,hlen,cP,bH,hput]
      have hrow:mN (.rows ty p T (ct xs j z))=mN (.rows ty p T xs):=by
       unfold ct;simp only[mN,EA]
      refine ⟨_,_,_,_,_,hk,iE.wrt hinv hc hH L (B:=.rows ty p T (ct xs j z)) hb hm hmid hrow (λ_ _ he=>by cases he) (λH1 H2 d g b' s=>?_) (λH1 H2 y d g hy=>?_) (λn hn=>?_)⟩
      .simp only[jC,aM hne2,af]at s;subst s;obtain⟨fs,q1,q2,q3,q4,q5⟩:=hso H1 H2 d g;have hfl:(ct xs j z).flatMap (bQ T)=AI.splice (xs.flatMap (bQ T)) (j.toNat*T.size+off) fs:=Qh (bC T) xs j.toNat _ z hx off fs (by omega) q4;refine iv.cells hc2 rfl ?_ λx hx=>?_
       .rw[I];simp only[BC.toMx];rw[hfl];have:(AI.splice (xs.flatMap (bQ T)) (j.toNat*T.size+off) fs).map AV.f=AI.splice ((xs.flatMap (bQ T)).map .f) (j.toNat*T.size+off) (fs.map .f):=by unfold AI.splice;simp[py,List.map_drop]
        rw[this];exact (gY.refl d _).splice _ q1
       .simp only[BC.toMx]at hx;obtain⟨q,hq,rfl⟩:=cZ.1 hx;exact rf T _ q hq
      .simp only[cf,af]at hy;subst hy;exact lj.refl d _
      .simp only[aI]at hn;subst hn;rw[dS,bz,bX.2 rfl];simp
    .cases hk
   .cases hk
  .rename_i ty l hb;split at hk
   .rename_i hsz;simp only[ak]at hsz;obtain⟨s1,s2,s3⟩:=hsz;have s1:=au s1;have s2:=au s2;have s3:=au s3;subst s1;subst s2;subst s3;obtain⟨hj,hk⟩:=dO hk;obtain⟨j0,j1,j2⟩:=DK hj;split at hk
    .rename_i cs hcs;split at hk
     .rename_i I;have I:=au I;obtain⟨h5,h6⟩:=Jx hcs h4;obtain⟨D,hl⟩:=eU h l (hinv.cells id _ l hb);have hg:H.get (nm id)=Z ⟨ty,.mx D⟩:=by rw[hH,bL,hb];simp only[aD,jC,hl]
      have hcell:=rN h5 h6;have hlen:A.cs.length=1:=by rw[gB h5];exact I
      have e0:j.toNat*1+0=j.toNat:=by omega
      rw[e0]at h1;have hput:(BC.mx D).put j.toNat A.cs=Z (.mx (splice D j.toNat A.cs)):=by
       unfold BC.put;rw[aW]
       .rfl
       .simp only[ak];exact⟨⟨rfl,bw (by simp only[BC.len];rw[hlen,gB hl];omega)⟩,hcell⟩
      have L:eg (.store 1 x v) (IP e h) H (nm nx)=Z ⟨raw undef,[nm id],[nm id],[(nm id,⟨ty,.mx (splice D j.toNat A.cs)⟩)],[]⟩:=by
       simp only[eg,h1,h3,JS,hg,hlen,cP,bH,hput]
      have hspl:∀h',b_ h h'->cF h' (splice l j.toNat cs)=Z (splice D j.toNat A.cs):=λh' hr=>pD j.toNat (fY hr l D hl) (fY hr cs _ h5)
      have F:b_ h (h.set id (Z (.cells (Z ty) (splice l j.toNat cs)))):=b_.set λr hr=>by rw[bR,hb]at hr;cases hr
      have key:=iE.wrt (m:=0) (v:=.undef) (rd:=ku id) hinv hc hH L (B:=.cells (Z ty) (splice l j.toNat cs)) hb (dN.zero h) (by simp) rfl (λty' l2 he=>by cases he;exact jX _ _ _ (hspl _ F)) (λH1 H2 d g b' s=>by
       have:=hspl _ F;simp only[d_,ru,bH,jC,this,af]at s;subst s;exact iv.refl d _) (λH1 H2 y d g hy=>by
       simp only[cf,af]at hy;subst hy;exact lj.refl d _) (λn hn=>by simp only[aI]at hn;subst hn;rw[dS];exact bX.2 rfl)
      rw[xK]at key;exact⟨_,_,_,_,_,hk,key⟩
     .cases hk
    .cases hk
   .cases hk
  .cases hk
 .cases hk
theorem ahe {con:FuncId->J cj} {b8:TypeId->J Ty} {ty:TypeId} {sz bytes:Nat} {z:ξ} {l c:Operand} (hc:dq P o.op=Z (.mksl ty sz bytes z l c)) (hk:dU con b8 (.op (.mksl ty sz bytes z l c)) e h nx K=Z r):kI P o aa e h nx K r:=by
 cases hcm:C1 (b8 ty) with
 |none=>exact adn hinv hi hcm hc hk
 |some n=>
  obtain⟨H,L⟩:=jQ h;simp only[dU,hcm]at hk;split at hk
  .rename_i zc k a k' b s hv A;obtain⟨hck,hk⟩:=dO hk;rw[ak]at hck;obtain⟨hcond,hn⟩:=hck;have hn:=bf hn;obtain⟨y,h1,h2⟩:=bI hi hv;obtain⟨y2,h3,F⟩:=bI hi A;simp only[cf,af]at h2 F;subst h2;subst F;have han:aO a=n:=by rw[hn];rfl
   obtain⟨_,_,hzc⟩:=uL h s;refine ⟨_,_,_,_,_,hk,iE.new hinv hc L (y0:=.row (nm nx) sz n) (rdl:=[]) (b0:=⟨ty,.fz (repl z n)⟩) (by simp only[eg,h1,h3,gi,hcond,bH,han]) (dN.zero h) (λty' l' he=>?_) (λH1 H2 d g b' q=>?_) (λH1 H2 y d g D=>?_) (by simp)⟩
   .cases he;exact jX _ _ _ (LW _ s n)
   .simp only[jC,LW _ s n,af]at q;subst q;refine iv.cells rfl rfl (gY.refl d _) λx I=>?_
    exact lY (rN (LW h s n) (Es hzc n)) x I
   .simp only[cf,af]at D;subst D;exact lj.refl d _
  .cases hk
theorem akj {con:FuncId->J cj} {b8:TypeId->J Ty} {ty:TypeId} {sz len:Nat} {z:ξ} {parts:Y (Nat×Nat×Operand)} (hc:dq P o.op=Z (.bsl ty sz len z parts)) (hk:dU con b8 (.op (.bsl ty sz len z parts)) e h nx K=Z r):kI P o aa e h nx K r:=by
 cases hcm:C1 (b8 ty) with
 |none=>exact ahl hinv hi hcm hc hk
 |some n=>
  obtain⟨H,I⟩:=jQ h;simp only[dU,hcm]at hk;split at hk
  .rename_i zc A;split at hk
   .rename_i cs hf;split at hk
    .cases hk
    .rename_i hl;have hl:len≠0:=λe=>hl (by rw[e];rfl)
     obtain⟨cs',h1,h2,L⟩:=Cp hi parts _ cs _ hf (LW h A len);obtain⟨_,_,hzc⟩:=uL h A;have hcs:=L (Es hzc len);have hr:b_ h ((d_ 0 h).set nx (Z (.cells (Z ty) cs))):=(b_.kill 0 h).trans (b_.set λr hr=>by rw[bR,(hinv.kill 0).fresh]at hr;cases hr);have s:=fY hr _ _ h2;refine ⟨_,_,_,_,_,hk,iE.new hinv hc I (y0:=.row (nm nx) sz len) (rdl:=[]) (b0:=⟨ty,oB cs'⟩) (by simp only[eg,h1,aM hl]) (dN.zero h) (λty' l' he=>?_) (λH1 H2 d g b' q=>?_) (λH1 H2 y d g D=>?_) (by simp)⟩
     .cases he;exact jX _ _ _ s
     .simp only[jC,s,af]at q;subst q;obtain⟨q1,q2⟩:=nJ cs';refine iv.cells q2 rfl ?_ λx F=>?_
      .rw[q1];exact gY.refl d _
      .exact lY (rN h2 hcs) x F
     .simp only[cf,af]at D;subst D;exact lj.refl d _
   .cases hk
  .cases hk
theorem akm {con:FuncId->J cj} {b8:TypeId->J Ty} {ty:TypeId} {sz bytes:Nat} {s x:Operand} (hc:dq P o.op=Z (.app ty sz bytes s x)) (hk:dU con b8 (.op (.app ty sz bytes s x)) e h nx K=Z r):kI P o aa e h nx K r:=by
 cases hcm:C1 (b8 ty) with
 |none=>exact ahm hinv hi hcm hc hk
 |some n0=>
  obtain⟨H,hH⟩:=jQ h;have hfr:=hinv.fresh;simp only[dU,hcm]at hk;split at hk
  .rename_i b y hv hv2;obtain⟨yb,h1,h2⟩:=bI hi hv;obtain⟨yy,h3,h4⟩:=bI hi hv2;unfold aee at hk;split at hk
   .rename_i id2 sz2 m;simp only[cf,af]at h4;subst h4;split at hk
    .rename_i ty2 l2 z;split at hk
     .rename_i hq;simp only[ak,ec]at hq;obtain⟨⟨q1,q2⟩,q3⟩:=hq;have q1:=au q1;have q2:=au q2;have q3:m≠0:=λe=>by rw[e]at q3;cases q3
      subst q1;obtain⟨A,L⟩:=eU h l2 (hinv.cells id2 _ l2 z);have hrow:=acg hH z L q2;split at hk
      .rename_i id sz1 n;simp only[cf,af]at h2;subst h2;split at hk
       .rename_i ty1 l1 F;split at hk
        .rename_i hq;simp only[ak,ec]at hq;obtain⟨⟨⟨p1,p2⟩,p3⟩,p4⟩:=hq;have p1:=au p1;have p2:=eq_of_beq p2;have p3:=au p3;have p4:id≠id2:=λe=>by rw[e,ru]at p4;cases p4
         subst p1;subst p2;obtain⟨hroom,hk⟩:=dO hk;obtain⟨D,hl1⟩:=eU h l1 (hinv.cells id _ l1 F);have hln:=gB hl1;have hg:H.get (nm id)=Z ⟨ty1,.mx D⟩:=by rw[hH,bL,F];simp only[aD,jC,hl1]
         have hidlt:id<nx:=hinv.low id _ F;generalize hB:ii.cells (Z ty1) (l1++l2)=B at hk;have hd1:b_ h (h.set id (Z (.dead M 0 0))):=b_.set λr hr=>by rw[bR,F]at hr;cases hr
         have hd2:b_ (h.set id (Z (.dead M 0 0))) ((h.set id (Z (.dead M 0 0))).set nx (Z B)):=b_.set λr hr=>by
          rw[bR,PT.get_set,aM (by omega),hfr]at hr;cases hr
         have hr:=hd1.trans hd2;have hsp:cF ((h.set id (Z (.dead M 0 0))).set nx (Z B)) (l1++l2)=Z (D++A):=fY hr _ _ (nv hl1 L);have I:bD ((h.set id (Z (.dead M 0 0))).set nx (Z B)) (nm nx)=Z ⟨ty1,.mx (D++A)⟩:=by rw[bL,PT.get_set,aW rfl,<-hB]at *;simp only[aD,jC,hsp]
         have hbd:bD ((h.set id (Z (.dead M 0 0))).set nx (Z B)) (nm id)=U:=by rw[bL,PT.get_set,aM (by omega),PT.get_set,aW rfl];rfl
         have hinv1:mg (h.set id (Z (.dead M 0 0))) nx:=hinv.set hd1 hidlt (cN _) (λ_ _ he=>by cases he);have ha:eg (.app ty1 sz1 bytes s x) (IP e h) H (nm nx)=Z ⟨.row (nm nx) sz1 (n+m),[nm id,nm id2],[nm nx,nm id],[(nm nx,⟨ty1,oB (D++A)⟩)],[nm nx]⟩:=by
          simp only[eg,h1,h3,hrow,hg];rw[aW (by
           simp only[cP,kL,Bool.and_true,BC.isCells,BC.len,hroom,ak,ec];refine ⟨?_,bw (by omega)⟩;simp only[Wa,Bool.or_false];cases hq:ax (nm id2) (nm id) with
           |false=>rfl
           |true=>exact dR (kT (au hq)).symm p4)]
          simp only[BC.toMx,fO (show D.length<=n*sz1 by omega)]
         refine ⟨_,_,_,_,_,hk,iE.mk' hc hH ha [nm nx,nm id] (λi hi=>hi) (λq hq=>?_) (λi hi b' hbb=>?_) (λH1 H2 d hw1 _ hw2=>⟨λi hi b b' hb z=>?_,λy hy=>?_⟩) (λq hq=>?_) (λq hq=>?_) (λq hq=>?_) hr (hinv1.set hd2 (by omega) (by omega) λty' l' he=>?_) (by omega)⟩
         .simp only[bx,cH,gK,not_or]at hq;refine kr hinv hr λi ei=>?_
          subst ei;rw[PT.get_set,aM (λe=>hq.1 (by rw[e])),PT.get_set,aM (λe=>hq.2 (by rw[e]))]
         .simp only[bx,cH,gK]at hi;rcases hi with rfl|rfl
          .rw[aW (by simp)];exact⟨_,ik _ _⟩
          .rw[hbd]at hbb;cases hbb
         .simp only[bx,cH,gK]at hi;rcases hi with rfl|rfl
          .rw[hw1 _ (by simp),ik]at hb;rw[hw2 _ (by simp),I]at z;simp only[af]at hb z;subst hb;subst z;obtain⟨m1,m2⟩:=nJ (D++A);exact iv.eq d m2 rfl m1
          .rw[hw2 _ (by simp),hbd]at z;cases z
         .simp only[cf,af]at hy;subst hy;exact lj.refl d _
         .simp only[bx,cH,gK]at hq;rw[bz,iS];rcases hq with rfl|rfl
          .rw[dS];exact .inl (bX.2 rfl)
          .rw[dS];exact .inr (bX.2 rfl)
         .simp only[bx,cH,gK]at hq;rw[bz,iS];rcases hq with rfl|rfl
          .rw[dS];exact .inr (bX.2 rfl)
          .rw[dS];exact .inl (bX.2 rfl)
         .simp only[aI]at hq;subst hq;rw[dS];omega
         .rw[<- hB]at he;cases he;exact jX _ _ _ hsp
        .cases hk
       .cases hk
      .simp only[cf,af]at h2;subst h2;obtain⟨hroom,hk⟩:=dO hk;have hr:b_ h ((d_ 0 h).set nx (Z (.cells (Z ty) l2))):=(b_.kill 0 h).trans (b_.set λr hr=>by rw[bR,(hinv.kill 0).fresh]at hr;cases hr);have h2':=fY hr _ _ L;refine ⟨_,_,_,_,_,hk,iE.new hinv hc hH (y0:=.row (nm nx) sz2 m) (rdl:=[nm id2]) (b0:=⟨ty,oB A⟩) (by simp only[eg,h1,h3,hrow];simp[Ig,sS,hroom,q3]) (dN.zero h) (λty' l' he=>?_) (λH1 H2 d g b' I=>?_) (λH1 H2 y d g hy=>?_) (λn hn=>?_)⟩
       .cases he;exact jX _ _ _ h2'
       .simp only[jC,h2',af]at I;subst I;obtain⟨p1,p2⟩:=nJ A;exact iv.eq d p2 rfl p1
       .simp only[cf,af]at hy;subst hy;exact lj.refl d _
       .simp only[aI]at hn;subst hn;rw[dS];exact bX.2 rfl
      .cases hk
     .cases hk
    .cases hk
   .cases hk
  .cases hk
theorem ak0 {con:FuncId->J cj} {b8:TypeId->J Ty} {sz:Nat} {x:Operand} {lo hi' mx:J Operand} (hc:dq P o.op=Z (.slc sz x lo hi' mx)) (hk:dU con b8 (.op (.slc sz x lo hi' mx)) e h nx K=Z r):kI P o aa e h nx K r:=by
 have hfr:=hinv.fresh;simp only[dU]at hk;split at hk
 .rename_i v hv;obtain⟨y,h1,h2⟩:=bI hi hv;split at hk
  .split at hk
   .rename_i hn;obtain⟨n,hn⟩:=iM.1 hn;have F:=Pk hn h2;exact kI.q (k:=0) hinv hc (λH _=>by simp only[eg,h1,F,Option.isSome_some,bH]) (dg rfl) hk
   .cases hk
  .rename_i b;split at hk
   .rename_i T xs k j hb;obtain⟨y2,F,z⟩:=bI hi hb;simp only[cf,af]at h2 z;subst h2;subst z;split at hk
    .rename_i hs;have hs:=au hs;subst hs;obtain⟨hj,hk⟩:=dO hk;have hfl:=eH (bC T) xs;have hcond:(cO 0 j&&cO j (ah xs)&&dP (ah xs*T.size) (xs.flatMap (bQ T)).length)=M:=by
      rw[hj,kL];exact bw (by omega)
     simp only[cO,ak,bB]at hj;have hlen:(xs.take j.toNat).length=j.toNat:=by rw[cg];omega
     exact kI.q (k:=0) (y0:=.f (.sl ((xs.flatMap (bQ T)).take (j.toNat*T.size)) j.toNat)) hinv hc (λH _=>by simp only[eg,h1,F,gi,hcond,bH]) (dg (by simp only[cf,gi];rw[vK (bC T),hlen])) hk
    .cases hk
   .rename_i id k j hb;obtain⟨y2,F,z⟩:=bI hi hb;simp only[cf,af]at z;subst z;split at hk
    .rename_i ty p T xs s;split at hk
     .rename_i hs;have hs:=au hs;subst hs;obtain⟨hj,hk⟩:=dO hk;obtain⟨H,hH⟩:=jQ h;have hj0:=hj;simp only[cO,fE,ak,bB]at hj;have hp:¬((p&&xs.length==0)=M):=by
       simp only[ak,cQ];omega
      simp only[cf,bR,s,aD,mN,e_,aM hp,af]at h2;subst h2;have hidlt:=hinv.low id _ s;have hne:nx≠id:=by omega
      have hg:H.get (nm id)=Z ⟨ty,.fz (xs.flatMap (bQ T))⟩:=by rw[hH,bL,s];simp only[aD,jC,aM hp]
      have fl:=eH (bC T) xs;have hcond:(T.size==T.size&&cO 0 j&&cO j (ah xs))=M:=by
       simp only[cO,ak,bB,cP,AH];omega
      have hlen:(xs.take j.toNat).length=j.toNat:=by rw[cg];omega
      have ha0:eg (.slc T.size x U (Z b) U) (IP e h) H (nm nx)=Z ⟨.row (nm nx) T.size j.toNat,[nm id],[nm nx,nm id],[(nm nx,⟨ty,.fz ((xs.take j.toNat).flatMap (bQ T))⟩)],[nm nx]⟩:=by
       have hc2:((BC.fz (xs.flatMap (bQ T))).isCells&&dP (ah xs*T.size) (BC.fz (xs.flatMap (bQ T))).len)=M:=by
        simp only[BC.isCells,kL,BC.len];exact bw (by omega)
       simp only[eg,h1,F,gi,hcond,bH,hg,hc2,BC.toMx,<-py,yg,vK (bC T)]
      generalize hh':(h.set id (Z (.dead p T.size (ah xs)))).set nx (Z (.rows ty aa T (dj j.toNat xs)))=h' at hk;have hrA:b_ h (h.set id (Z (.dead p T.size (ah xs)))):=b_.set λr hr=>by rw[bR,s]at hr;exact hr
      have A:∀i,h'.get i=if i=nx then Z (.rows ty aa T (dj j.toNat xs)) else if i=id then Z (.dead p T.size (ah xs)) else h.get i:=λi=>by rw[<- hh',PT.get_set,PT.get_set]
      have hr:b_ h h':=by
       rw[<- hh'];refine hrA.trans (b_.set λr hr=>?_);rw[bR,PT.get_set,aM hne,hfr]at hr;cases hr
      have hinv':mg h' (nx+1):=by
       refine ⟨λi ty l hil=>?_,λi c hic=>?_⟩
       .rw[A]at hil;split at hil
        .cases hil
        .split at hil
         .cases hil
         .exact iU hr l (hinv.cells i _ l hil)
       .rw[A]at hic;split at hic
        .omega
        .split at hic
         .omega
         .have:=hinv.low i c hic;omega
      have hsame:∀n,n≠nm nx->n≠nm id->bD h' n=bD h n:=λn h1 h2=>kr hinv hr λi e=>by
       subst e;rw[A,aM (λe=>h1 (by rw[e])),aM (λe=>h2 (by rw[e]))]
      have hdead:bD h' (nm id)=U:=by rw[bL,A,aM (by omega),aW rfl];rfl
      have hnew:bD h' (nm nx)=Z ⟨ty,.fz ((xs.take j.toNat).flatMap (bQ T))⟩:=by rw[bL,A,aW rfl];rfl
      have hval:cf h' (.row nx)=Z (.row (nm nx) T.size j.toNat):=by simp only[cf,bR,A,bH,aD,mN,e_,jV,bO,dx,hlen]
      refine ⟨_,_,_,_,_,hk,?_⟩;refine iE.mk' hc hH ha0 [nm nx,nm id] (λi hi=>hi) (λn hn=>?_) (λi hi b' I=>?_) (λH1 H2 d hw1 _ hw2=>⟨λi hi b b' L D=>?_,λy hy=>?_⟩) (λn hn=>?_) (λn hn=>?_) (λn hn=>by simp only[aI]at hn;subst hn;rw[dS];omega) hr hinv' (by omega)
      .simp only[bx,cH,gK,not_or]at hn;exact hsame n hn.1 hn.2
      .simp only[bx,cH,gK]at hi;rcases hi with rfl|rfl
       .exact⟨_,by rw[aW (by simp)];exact ik _ _⟩
       .rw[hdead]at I;cases I
      .simp only[bx,cH,gK]at hi;rcases hi with rfl|rfl
       .rw[hw1 _ (by simp),ik]at L;rw[hw2 _ (by simp),hnew]at D;simp only[af]at L D;subst L;subst D;exact iv.refl d _
       .rw[hw2 _ (by simp),hdead]at D;cases D
      .rw[hval]at hy;simp only[af]at hy;subst hy;exact lj.refl d _
      .simp only[aI]at hn;subst hn;rw[dS];exact bX.2 rfl
      .simp only[bx,cH,gK]at hn;rcases hn with rfl|rfl<;>rw[dS,bz,bX.2 rfl]<;>simp
     .cases hk
    .cases hk
   .cases hk
  .rename_i b;split at hk
   .rename_i T xs k j hb;obtain⟨y2,F,z⟩:=bI hi hb;simp only[cf,af]at h2 z;subst h2;subst z;split at hk
    .rename_i hs;have hs:=au hs;subst hs;obtain⟨hj,hk⟩:=dO hk;have hfl:=eH (bC T) xs;have hcond:(cO 0 j&&cO j (ah xs)&&dP (ah xs*T.size) (xs.flatMap (bQ T)).length)=M:=by
      rw[hj,kL];exact bw (by omega)
     simp only[cO,ak,bB]at hj;have hlen:(xs.drop j.toNat).length=ah xs-j.toNat:=by rw[kF]
     have htk:((xs.flatMap (bQ T)).drop (j.toNat*T.size)).take ((ah xs-j.toNat)*T.size)=(xs.flatMap (bQ T)).drop (j.toNat*T.size):=by
      refine fO ?_;rw[kF,hfl,Nat.sub_mul];exact cN _
     exact kI.q (k:=0) (y0:=.f (.sl ((xs.flatMap (bQ T)).drop (j.toNat*T.size)) (ah xs-j.toNat))) hinv hc (λH _=>by simp only[eg,h1,F,gi,hcond,bH,htk]) (dg (by simp only[cf,gi];rw[IJ (bC T),hlen])) hk
    .cases hk
   .rename_i id k j hb;obtain⟨y2,F,z⟩:=bI hi hb;simp only[cf,af]at z;subst z;split at hk
    .rename_i ty p T xs s;split at hk
     .rename_i hs;have hs:=au hs;subst hs;obtain⟨hj,hk⟩:=dO hk;have hcond:(T.size==T.size&&cO 0 j&&fE j (ah xs))=M:=by
       simp only[ak]at hj;rw[hj.1,hj.2,cP];rfl
      simp only[cO,fE,ak,bB]at hj;have hp:¬((p&&xs.length==0)=M):=by
       simp only[ak,cQ];omega
      simp only[cf,bR,s,aD,mN,e_,aM hp,af]at h2;subst h2;exact kI.q (k:=0) (y0:=.sl (nm id) (j.toNat*T.size) (ah xs-j.toNat)) hinv hc (λH _=>by simp only[eg,h1,F,gi,hcond,bH]) (dg (by simp only[cf,bR,s,aD,mN])) hk
     .cases hk
    .cases hk
   .cases hk
  .rename_i b b' hne;split at hk
   .rename_i T xs k j k' j' hb I;obtain⟨y2,F,z⟩:=bI hi hb;obtain⟨y3,h5,h6⟩:=bI hi I;simp only[cf,af]at h2 z h6;subst h2;subst z;subst h6;split at hk
    .rename_i hs;have hs:=au hs;subst hs;obtain⟨hj,hk⟩:=dO hk;have hfl:=eH (bC T) xs;have hcond:(decide (j=j')&&cO 0 j&&cO j (ah xs)&&dP (ah xs*T.size) (xs.flatMap (bQ T)).length)=M:=by
      rw[hj,kL];exact bw (by omega)
     simp only[cO,ak,bB]at hj;have hlen:(xs.take j.toNat).length=j.toNat:=by rw[cg];omega
     refine kI.q (k:=0) (y0:=.ful ((xs.flatMap (bQ T)).take (j.toNat*T.size)) j.toNat) hinv hc (λH _=>?_) (dg (by simp only[cf];rw[vK (bC T),hlen])) hk;simp only[eg,h1,F,h5,gi,hcond,bH]
    .cases hk
   .cases hk
  .cases hk
 .cases hk
theorem aki {con:FuncId->J cj} {b8:TypeId->J Ty} {sz:Nat} {z:ξ} {x:Operand} (hc:dq P o.op=Z (.clr sz z x)) (hk:dU con b8 (.op (.clr sz z x)) e h nx K=Z r):kI P o aa e h nx K r:=by
 obtain⟨H,hH⟩:=jQ h;simp only[dU]at hk;split at hk
 .rename_i id j hv;split at hk
  .rename_i ty p T xs hb;split at hk
   .rename_i hs;simp only[ak]at hs;obtain⟨⟨hs,A⟩,hco⟩:=hs;have hs:=au hs;have A:=JP A;subst hs;subst A;obtain⟨hj,hk⟩:=dO hk;simp only[cO,fE,ak,bB]at hj;obtain⟨j0,j1⟩:=hj;obtain⟨y,h1,h2⟩:=bI hi hv;simp only[cf,bR,hb,aD,mN,af]at h2;subst h2;have hp:¬((p&&xs.length==0)=M):=by
     simp only[ak,cQ];omega
    have fl:=eH (bC T) xs;have hg:H.get (nm id)=Z ⟨ty,.fz (xs.flatMap (bQ T))⟩:=by rw[hH,bL,hb];simp only[aD,jC,aM hp]
    have hrl:(repl (sx T) (xs.length-j.toNat)).length=(xs.length-j.toNat)*T.size:=by
     have h9:=(G3 (H:=λ_=>U) (H':=λ_=>U) (λn b hb=>by cases hb) T (xs.length-j.toNat)).length;rw[cz,cz,eH (bC T),cB]at h9;exact h9.symm
    have hoff:j.toNat*T.size+(xs.length-j.toNat)*T.size=xs.length*T.size:=by rw[<- MX];congr 1;omega
    have hput:(BC.fz (xs.flatMap (bQ T))).put (j.toNat*T.size) ((repl (sx T) (xs.length-j.toNat)).map .f)=Z (.fz (splice (xs.flatMap (bQ T)) (j.toNat*T.size) (repl (sx T) (xs.length-j.toNat)))):=by
     unfold BC.put;rw[aW]
     .simp only[JX]
     .simp only[ak];refine ⟨⟨rfl,bw ?_⟩,FI _ λq hq=>?_⟩
      .simp only[BC.len,cz];omega
      .obtain⟨v,hv,rfl⟩:=O6 _ q hq;exact gm.1 hco v hv
    have hblt:eQ 0 (xs.length-j.toNat)=M:=bw (by omega);have I:eg (.clr T.size (sx T) x) (IP e h) H (nm nx)=Z ⟨.tup [],[nm id],[nm id],[(nm id,⟨ty,.fz (splice (xs.flatMap (bQ T)) (j.toNat*T.size) (repl (sx T) (xs.length-j.toNat)))⟩)],[]⟩:=by
     simp only[eg,h1,hg,hblt,bH,hput]
    have hlen:(dj j.toNat xs++aA (ah xs-j.toNat) T.zero).length=xs.length:=by
     rw[b7,cg,cB];omega
    have hrow:mN (.rows ty p T (dj j.toNat xs++aA (ah xs-j.toNat) T.zero))=mN (.rows ty p T xs):=by simp only[mN,hlen]
    refine ⟨_,_,_,_,_,hk,iE.wrt (m:=0) (v:=.tup []) (rd:=ku id) hinv hc hH I hb (dN.zero h) (by simp) hrow (λ_ _ he=>by cases he) (λH1 H2 d g b' s=>?_) (λH1 H2 y d g L=>?_) (λn hn=>?_)⟩
    .have F:¬((p&&(dj j.toNat xs++aA (ah xs-j.toNat) T.zero).length==0)=M):=by rw[hlen];exact hp
     simp only[jC,aM F,af]at s;subst s;refine iv.cells rfl rfl ?_ λq hq=>?_
     .simp only[BC.toMx];unfold splice;rw[hrl,hoff,<-fl,List.drop_length,oe,FP,vK (bC T),c8,c8];exact (gY.refl d _).append (G3 d T _)
     .simp only[BC.toMx]at hq;obtain⟨q',D,rfl⟩:=cZ.1 hq;exact rf T _ q' D
    .simp only[cf,cF,af]at L;subst L;exact lj.refl d _
    .simp only[aI]at hn;subst hn;rw[dS];exact bX.2 rfl
   .cases hk
  .cases hk
 .cases hk
end ops
theorem Nf {K V:Ty} {es:Y (K.den×V.den)} (d:mpE K V es=M):es.map (λp=>(pC K p.1,AV.f (gi V p.2)))=[]:=by
 unfold mpE at d;split at d
 .rfl
 .cases d
theorem YM {K V:Ty} {es:Y (K.den×V.den)} (d:mpE K V es=M):SH K=M:=by
 unfold mpE at d;split at d
 .rfl
 .cases d
theorem U6 {str:Bool} {K:Ty} (d:Wc str K=M):SH K=M:=by
 cases K<;>cases str<;>first|rfl|cases d
theorem Nh {str:Bool} {K:Ty} (d:Wc str K=M) (k k':K.den):sV .eql (pC K k) (pC K k')=Z (.bool (Ml K k k'))/\yl str (pC K k)=M/\gi K k= .raw (pC K k):=by
 cases K<;>cases str<;>first|cases d|skip
 .exact⟨by simp only[sV,pC,Ml,cP,bH,af,Bx];exact Bool.beq_eq_decide_eq _ _,rfl,rfl⟩
 .exact⟨by simp only[sV,pC,Ml,C7],rfl,rfl⟩
theorem Pj {str:Bool} {K V:Ty} (d:Wc str K=M) (k:K.den):∀es:Y (K.den×V.den),sQ (pC K k) (es.map λp=>(pC K p.1,AV.f (gi V p.2)))=Z ((uy k es).map λv=>AV.f (gi V v))
 |[]=>rfl
 |(k',v)::r=>by
  simp only[eY,sQ,(Nh d k k').1,uy];cases hb:Ml K k k' with
  |true=>rfl
  |false=>simp only[bO,dx];exact Pj d k r
theorem U3 {str:Bool} {K V:Ty} (d:Wc str K=M) (k:K.den) (v:V.den):∀es:Y (K.den×V.den),yh (pC K k) (.f (gi V v)) (es.map λp=>(pC K p.1,AV.f (gi V p.2)))=Z ((H0 k v es).map λp=>(pC K p.1,AV.f (gi V p.2)))
 |[]=>rfl
 |(k',q)::r=>by
  simp only[eY,yh,(Nh d k k').1,H0];cases hb:Ml K k k' with
  |true=>rfl
  |false=>simp only[U3 d k v r,bO,dx,eY]
theorem ae8 {h:bn} {ok b:Bool} {v:TV} {y:AV} (hv:cf h v=Z y):cf h (pkT ok v (.f .bool b))=Z (pkV ok y b):=by
 cases ok with
 |false=>exact hv
 |true=>simp only[pkT,pkV,cf,cF,hv];rfl
section ops
variable {R:Type} {P:Program} {o:Oper} {e:iN} {h:bn} {nx:Nat} {K:KO R} {r:R}
theorem Le.aggOf {l:Y FV} (hc:∀x∈l,x.isCell=M):Le (.agg (l.map .f)) (.f (.agg l)):=by
 intro φ O w v hr;cases hr with
 |@agg _ vs hl hcl hrr=>
  refine .f (.agg l vs (by simpa using hl) hc λj y u d hu=>?_);have:=hrr j (.f y) u (by rw[bk,d];rfl) hu;cases this with
  |f h=>exact h
def Pb (S:Ty) (l:Y TV):J (S.den×Nat×Y TV):=match l with
 |c::r=>(match ig PT.leaf S c with|some (x,m)=>Z (x,m,r)|none=>U)
 |[]=>U
theorem L7:∀{l d:Y FV},l.map AV.f=d.map AV.f->l=d
 |[],[],_=>rfl
 |[],_::_,h=>by simp at h
 |_::_,[],h=>by simp at h
 |x::r,y::r',h=>by
  simp only[eY,iR,AV.f.injEq]at h;rw[h.1,L7 h.2]
theorem HI (h:bn):∀(ds:Y TypeDesc) (T:Ty),qH ds=Z T->∀(n:Nat) (l:Y TV) (x:T.den) (m:Nat) (r:Y TV),eM PT.leaf n T l=Z (x,m,r)->∀A,cF h l=Z A->∃l2,cF h r=Z l2/\A=(bQ T x).map .f++l2
 |[],T,hd,n,l,x,m,r,hp,A,hl=>by
  simp only[qH,af]at hd;subst hd;cases n with
  |zero=>simp[eM]at hp
  |succ n=>
   simp only[eM,af,aC]at hp;obtain⟨_,_,rfl⟩:=hp;exact⟨A,hl,rfl⟩
 |d::ds,T,hd,n,l,x,m,r,hp,A,hl=>by
  have plain:∀(S:Ty),S.one=M->(∀t,S≠ .sl t)->∀(v:TV) (a:S.den) (m:Nat) (y:AV),ig PT.leaf S v=Z (a,m)->cf h v=Z y->y= .f (gi S a):=by
   intro S F hns v a m y s hy;cases v with
   |f Q q=>
    simp only[ig]at s;split at s
    .rename_i z hz;simp only[af,aC]at s;obtain⟨rfl,_⟩:=s;obtain⟨e,rfl⟩:=gT hz;subst e;simp only[cf,af]at hy;exact hy.symm
    .cases s
   |emp=>
    cases S with
    |sl t=>exact dR rfl (hns t)
    |_=>simp[ig]at s
   |nil=>
    cases S with
    |sl t=>exact dR rfl (hns t)
    |_=>simp[ig]at s
   |row id=>simp[ig,PT.get]at s
   |fel T xs j hj off=>simp[ig]at s
   |pel id sz j off=>simp[ig]at s
   |ptr id off=>simp[ig]at s
   |csl id off z=>simp[ig]at s
   |mp id=>simp[ig]at s
   |rtl id jj=>simp[ig]at s
   |agg q=>simp[ig]at s
   |tup q=>simp[ig]at s
   |clo f q=>simp[ig]at s
   |undef=>simp[ig]at s
   |np=>simp[ig]at s
   |anyb=>simp[ig]at s
   |ful S q=>simp[ig]at s
  have one:∀(S:Ty),S.one=M->(∀t,S≠ .sl t)->∀(n:Nat) (l:Y TV) (a:S.den) (m:Nat) (r:Y TV),eM PT.leaf n S l=Z (a,m,r)->∀A,cF h l=Z A->∃l2,cF h r=Z l2/\A=(bQ S a).map .f++l2:=by
   intro S F hns n l a m r hp A hl;cases n with
   |zero=>simp[eM]at hp
   |succ n=>
    cases l with
    |nil=>
     cases S with
     |int k=>cases hp
     |bool=>cases hp
     |str=>cases hp
     |sl t=>exact dR rfl (hns t)
     |_=>cases F
    |cons c q=>
     have hpp:Pb S (c::q)=Z (a,m,r):=by
      cases S with
      |int k=>simp only[eM]at hp;simp only[Pb];cases hq:ig PT.leaf (.int k) c with
       |none=>rw[hq]at hp;cases hp
       |some z=>rw[hq]at hp;exact hp
      |bool=>simp only[eM]at hp;simp only[Pb];cases hq:ig PT.leaf .bool c with
       |none=>rw[hq]at hp;cases hp
       |some z=>rw[hq]at hp;exact hp
      |str=>simp only[eM]at hp;simp only[Pb];cases hq:ig PT.leaf .str c with
       |none=>rw[hq]at hp;cases hp
       |some z=>rw[hq]at hp;exact hp
      |sl t=>exact dR rfl (hns t)
      |_=>cases F
     simp only[Pb]at hpp;split at hpp
     .rename_i a1 m1 h1;simp only[af,aC]at hpp;obtain⟨rfl,rfl,rfl⟩:=hpp;obtain⟨y,l2,rfl,L,I⟩:=cU hl;have:=plain S F hns c a1 m1 y h1 L;subst this;exact⟨l2,I,by rw[(Cv S a1 F).1];rfl⟩
     .cases hpp
  have two:∀(S g:Ty),S.one=M->(∀t,S≠ .sl t)->qH ds=Z g->T= .pr S g->∃l2,cF h r=Z l2/\A=(bQ T x).map .f++l2:=by
   intro S g F hns D e;subst e;cases n with
   |zero=>simp[eM]at hp
   |succ n=>
    simp only[eM]at hp;split at hp
    .rename_i x1 m1 r1 h1;split at hp
     .rename_i x2 m2 r2 h2;simp only[af,aC]at hp;obtain⟨rfl,rfl,rfl⟩:=hp;obtain⟨l2,L,I⟩:=one S F hns n l x1 m1 r1 h1 A hl;obtain⟨l3,g3,g4⟩:=HI h ds g D n r1 x2 m2 r2 h2 l2 L;exact⟨l3,g3,by rw[I,g4,bQ,c8,iz]⟩
     .cases hp
    .cases hp
  cases d with
  |int k=>
   simp only[qH]at hd;split at hd
   .rename_i g D;simp only[af]at hd;exact two (.int k) g rfl (λt h=>by cases h) D hd.symm
   .cases hd
  |bool=>
   simp only[qH]at hd;split at hd
   .rename_i g D;simp only[af]at hd;exact two .bool g rfl (λt h=>by cases h) D hd.symm
   .cases hd
  |string=>
   simp only[qH]at hd;split at hd
   .rename_i g D;simp only[af]at hd;exact two .str g rfl (λt h=>by cases h) D hd.symm
   .cases hd
  |_=>simp[qH]at hd
theorem Ct:∀(ds:Y TypeDesc) (T:Ty),qH ds=Z T->∀a b:T.den,oY ds (bQ T a) (bQ T b)=Z (Ml T a b)
 |[],T,hd,a,b=>by simp only[qH,af]at hd;subst hd;rfl
 |d::ds,T,hd,a,b=>by
  cases d with
  |int k=>
   simp only[qH]at hd;split at hd
   .rename_i g z;simp only[af]at hd;subst hd;have s:=Ct ds g z a.2 b.2;simp only[bQ,ia,od,oY,wP,cP,bH,Ml];cases he:((a.1:Int)==b.1) with
    |true=>have q:(a.1:Int)=b.1:=by simpa using he
           simp only[s,q,dK,kL]
    |false=>have q:¬(a.1:Int)=b.1:=by simpa using he
            simp only[q,dh,jV]
   .cases hd
  |bool=>
   simp only[qH]at hd;split at hd
   .rename_i g z;simp only[af]at hd;subst hd;have s:=Ct ds g z a.2 b.2;simp only[bQ,ia,od,oY,wP,Ml];cases he:((a.1:Bool)==b.1)<;>simp[he,s]
   .cases hd
  |string=>
   simp only[qH]at hd;split at hd
   .rename_i g z;simp only[af]at hd;subst hd;have s:=Ct ds g z a.2 b.2;simp only[bQ,ia,od,oY,wP,Ml,C7];cases he:decide ((a.1:ζ)=b.1) with
    |true=>simp only[s,kL]
    |false=>simp only[jV]
   .cases hd
  |_=>simp[qH]at hd
theorem MM {u:TV} (hu:u.isC=aa) {lu:Y TV} (hl:u.cs=Z lu) {ds:Y TypeDesc} {T:Ty} (hd:qH ds=Z T) {a:T.den} {m:Nat} (hp:eM PT.leaf 40 T lu=Z (a,m,[])) {y:AV} (d:cf h u=Z y):Le y (.f (.agg (bQ T a))):=by
 obtain⟨h1,_⟩:=Jx hl d;obtain⟨l2,h2,s⟩:=HI h ds T hd 40 lu a m [] hp _ h1;simp only[cF,af]at h2;subst h2;rw[oe]at s;cases u with
 |agg l=>
  simp only[cf]at d;split at d
  .rename_i A _;simp only[af]at d;subst d;have:A=(bQ T a).map .f:=s;rw[this];exact Le.aggOf (nS T a)
  .cases d
 |f S x=>
  simp only[cf,af]at d;subst d;have D:S.one=aa:=hu;rw[zB]at s;have:bQ S x=bQ T a:=L7 s;rw[ql S x D,this];exact Le.refl _
 |tup l=>simp[TV.cs,TV.isC]at hl
 |undef=>simp[TV.cs,TV.isC]at hl
 |np=>cases hu
 |anyb=>simp[TV.cs,TV.isC]at hl
 |ful S q=>simp[TV.cs,TV.isC]at hl
 |fel T xs j hj off=>cases hu
 |pel id sz j off=>cases hu
 |ptr id off=>cases hu
 |csl id off z=>cases hu
 |row id=>cases hu
 |emp=>cases hu
 |nil=>cases hu
 |mp id=>cases hu
 |rtl id F=>cases hl
 |clo g l=>cases hu
variable (hinv:mg h nx) (hi:sX e h)
include hinv hi
theorem akg {con:FuncId->J cj} {b8:TypeId->J Ty} {neg:Bool} {ds:Y TypeDesc} {x y:Operand} {st:Bool} (hc:dq P o.op=Z (.eqs neg ds x y)) (hk:dU con b8 (.op (.eqs neg ds x y)) e h nx K=Z r):kI P o st e h nx K r:=by
 obtain⟨H,hH⟩:=jQ h;simp only[dU]at hk;split at hk
 .rename_i T u v hd hu hv;split at hk
  .cases hk
  .rename_i hcc;simp only[iS,not_or,Bool.not_eq_true]at hcc;split at hk
   .rename_i lu lv hlu hlv;split at hk
    .rename_i a m1 b m2 hpa hpb;obtain⟨yu,h1,h2⟩:=bI hi hu;obtain⟨yv,h3,h4⟩:=bI hi hv;obtain⟨⟨⟨F,D⟩,hc3⟩,L⟩:=hcc;have l1:=MM F hlu hd hpa h2;have l2:=MM D hlv hd hpb h4;have tmp:∀(z:Operand) (q:TV),fd e z=Z q->q.isC=aa->SU z=aa->∃t,z= .tmp t:=by
      intro z q d hq hg;cases z with
      |tmp t=>exact⟨t,rfl⟩
      |const c=>
       have d:cst c=Z q:=by
        simp only[fd,afk]at d;split at d
        .cases hg
        .exact d
       have:=(Jv h d).2.2;rw[hq]at this;cases this
      |func g=>simp only[fd,af]at d;subst d;cases hq
      |global g=>
       simp only[fd]at d;split at d
       .cases d;cases hq
       .cases d
     obtain⟨t,rfl⟩:=tmp x u hu F hc3;obtain⟨t',rfl⟩:=tmp y v hv D L;have same:t=t'->bQ T a=bQ T b:=by
      intro ht;subst ht;rw[hu]at hv;cases hv;rw[hlu]at hlv;cases hlv;rw[hpa]at hpb;cases hpb;rfl
     let A:yW:=((IP e h).set t (Z (.f (.agg (bQ T a))))).set t' (Z (.f (.agg (bQ T b))))
     have e1:mI A (.tmp t)=Z (.f (.agg (bQ T a))):=by
      simp only[mI,A,PT.get_set];by_cases ht:t=t'
      .rw[aW ht,same ht]
      .rw[aM ht];simp
     have e2:mI A (.tmp t')=Z (.f (.agg (bQ T b))):=by simp only[mI,A,PT.get_set,bH]
     have ha:eg (.eqs neg ds (.tmp t) (.tmp t')) A H 0=Z ⟨raw (.bool (Ml T a b !=neg)),[],[],[],[]⟩:=by
      simp only[eg,e1,e2,Ct ds T hd a b];rfl
     have ht:=HK hc ha;rw[hH]at ht;have I:gD P o (fq e h) (bD h) _:=ht.envLe (e2:=fq e h) λs z _ d=>by
      simp only[A,PT.get_set]at d;rw[<- uH];simp only[mI]at h1 h3;split at d
      .rename_i es;subst es;cases d;exact⟨yv,h3,l2⟩
      .split at d
       .rename_i es;subst es;cases d;exact⟨yu,h1,l1⟩
       .exact⟨z,d,Le.refl _⟩
     refine ⟨_,0,0,h,nx,hk,⟨⟨_,I,λy hy=>?_,by simp[zZ.eff,te],by simp[zZ.eff],by simp[zZ.eff],by simp[zZ.eff]⟩,λ_ _ h=>h,hinv,cN _,λ_=>⟨rfl,rfl⟩⟩⟩;simp only[cf,af]at hy;exact hy
    .cases hk
   .cases hk
 .cases hk
theorem ak5 {con:FuncId->J cj} {b8:TypeId->J Ty} (hc:dq P o.op=Z .mkm) (hk:dU con b8 (.op .mkm) e h nx K=Z r):kI P o aa e h nx K r:=by
 have _:=hi;obtain⟨H,z⟩:=jQ h;refine ⟨_,_,_,_,_,hk,iE.new hinv hc z (y0:=.mp (nm nx)) (rdl:=[]) (b0:=⟨0,.mp []⟩) rfl (dN.zero h) (λ_ _ he=>by cases he) (λD A d g b' q=>?_) (λD A y d g s=>?_) (by simp)⟩
 .cases q;exact iv.refl d _
 .simp only[cf,af]at s;subst s;exact lj.refl d _
theorem ahh {con:FuncId->J cj} {b8:TypeId->J Ty} {x:Operand} (hc:dq P o.op=Z (.lenm x)) (hk:dU con b8 (.op (.lenm x)) e h nx K=Z r):kI P o aa e h nx K r:=by
 obtain⟨H,q⟩:=jQ h;simp only[dU]at hk;split at hk
 .rename_i id hv;split at hk
  .rename_i K' V es hb;obtain⟨y,h1,h2⟩:=bI hi hv;simp only[cf,af]at h2;subst h2;split at hk
   case isFalse=>cases hk
   rename_i hO;have hg:H.get (nm id)=Z ⟨0,.mp (es.map λp=>(pC K' p.1,.f (gi V p.2)))⟩:=by rw[q,bL,hb];show Z (u_.mk 0 (YN K' V es))=_;rw[yf hO]
   exact⟨_,_,_,_,_,hk,iE.pure (k:=0) hinv hc q (y0:=raw (.int .i64 es.length)) (rdl:=[nm id]) (by simp only[eg,h1,hg,cz]) (λy d=>by simp only[cf,af]at d;subst d;exact Le.refl _) (λn hn=>by simp only[aI]at hn;subst hn;rw[dS];exact bX.2 rfl) (λh=>by cases h)⟩
  .cases hk
 .cases hk
theorem ak9 {con:FuncId->J cj} {b8:TypeId->J Ty} {str ok:Bool} {z:Value} {x k:Operand} (hc:dq P o.op=Z (.lku str ok z x k)) (hk:dU con b8 (.op (.lku str ok z x k)) e h nx K=Z r):kI P o aa e h nx K r:=by
 obtain⟨H,I⟩:=jQ h;simp only[dU]at hk;split at hk
 .rename_i id KT s hv F;split at hk
  .rename_i K' V es hb;split at hk
   .rename_i d;obtain⟨y,h1,h2⟩:=bI hi hv;obtain⟨y2,D,L⟩:=bI hi F;simp only[cf,af]at h2 L;subst h2;subst L;simp only[ak]at d;have hg:H.get (nm id)=Z ⟨0,.mp (es.map λp=>(pC K' p.1,.f (gi V p.2)))⟩:=by rw[I,bL,hb];show Z (u_.mk 0 (YN K' V es))=_;rw[yf d.2]
    obtain⟨_,hok,henc⟩:=Nh d.1 s s;rw[henc]at D;have hrd:∀n∈[nm id],aP (ku id) (ow n)=M:=λn hn=>by simp only[aI]at hn;subst hn;rw[dS];exact bX.2 rfl
    split at hk
    .rename_i hE;split at hk
     .rename_i v hz;have hzz:=(Jv h hz).1;exact⟨_,_,_,_,_,hk,iE.pure (k:=0) hinv hc I (y0:=pkV ok (raw z) aa) (rdl:=[nm id]) (by simp only[eg,h1,D,hg,hok,bH,Nf hE,sQ]) (λy A=>by rw[ae8 hzz]at A;cases A;exact Le.refl _) hrd (λh=>by cases h)⟩
     .cases hk
    .split at hk
     .rename_i kv' g zv hkv hz;split at hk
      .rename_i zv' hzv;obtain⟨e1,e2⟩:=gT hkv;cases e1;subst e2;obtain⟨e3,e4⟩:=gT hzv;cases e3;subst e4;have hzz:=(Jv h hz).1;simp only[cf,af]at hzz;refine ⟨_,_,_,_,_,hk,iE.pure (k:=0) hinv hc I (y0:=pkV ok (.f (gi _ (ER kv' es zv'))) (af9 kv' es)) (rdl:=[nm id]) ?_ (λy A=>by rw[ae8 (y:=.f (gi _ (ER kv' es zv'))) rfl]at A;cases A;exact Le.refl _) hrd (λh=>by cases h)⟩;simp only[eg,h1,D,hg,hok,bH,Pj d.1];unfold ER af9;cases hf:uy kv' es with
       |none=>simp only[Option.map_none];rw[hzz]
       |some v=>rfl
      .cases hk
     .cases hk
   .cases hk
  .rename_i l hb;split at hk
   .rename_i n hkv;split at hk
    case isFalse=>cases hk
    rename_i d;simp only[ak]at d;split at hk
    .rename_i v hlv;obtain⟨e1,e2⟩:=gT hkv;cases e1
     replace e2:n=s:=e2
     subst n;obtain⟨y,h1,h2⟩:=bI hi hv;obtain⟨y2,D,L⟩:=bI hi F;simp only[cf,af]at h2 L;subst h2;subst L;obtain⟨l',hl⟩:=eU h l (hinv.cells id _ l hb);obtain⟨y,A,hey⟩:=k9 hl _ _ hlv;have hg:H.get (nm id)=Z ⟨1,.mp (oC 0 l')⟩:=by rw[I,bL,hb];simp only[aD,jC,hl]
     have ht:told s (oC 0 l')=Z y:=by
      have h0:(0:Int)<=s:=bf d.2.1;have hn:(s:Int)=aT (0+aO s):=by rw[bM];exact (mi h0).symm
      rw[hn,L9];exact A
     have henc:gi (.int .i64) s= .raw (.int .i64 s):=rfl;rw[henc]at D;exact⟨_,_,_,_,_,hk,iE.pure (k:=0) hinv hc I (y0:=y) (rdl:=[nm id]) (by simp only[eg,h1,D,hg,d.1.1,d.1.2.1,d.1.2.2,jE,bH,ht]) (λq hq=>by rw[hey]at hq;cases hq;exact Le.refl _) (λn hn=>by simp only[aI]at hn;subst hn;rw[dS];exact bX.2 rfl) (λh=>by cases h)⟩
    .cases hk
   .cases hk
  .cases hk
 .cases hk
theorem ak4 {con:FuncId->J cj} {b8:TypeId->J Ty} {str:Bool} {x k v:Operand} (hc:dq P o.op=Z (.mup str x k v)) (hk:dU con b8 (.op (.mup str x k v)) e h nx K=Z r):kI P o aa e h nx K r:=by
 obtain⟨H,hH⟩:=jQ h;simp only[dU]at hk;split at hk
 .rename_i id KT q VT vv hv F D;split at hk
  .rename_i K' V es hb;split at hk
   .rename_i z;simp only[ak]at z;obtain⟨y,h1,h2⟩:=bI hi hv;obtain⟨y2,h3,h4⟩:=bI hi F;obtain⟨I,h5,h6⟩:=bI hi D;simp only[cf,af]at h2 h4 h6;subst h2;subst h4;subst h6;have hg:H.get (nm id)=Z ⟨0,.mp (es.map λp=>(pC K' p.1,.f (gi V p.2)))⟩:=by rw[hH,bL,hb];show Z (u_.mk 0 (YN K' V es))=_;rw[yf z.2]
    obtain⟨_,hok,henc⟩:=Nh z.1.1 q q;rw[henc]at h3;have hrd:∀n∈[nm id],aP (ku id) (ow n)=M:=λn hn=>by simp only[aI]at hn;subst hn;rw[dS];exact bX.2 rfl
    split at hk
    .rename_i hE;exact⟨_,_,_,_,_,hk,iE.wrt (k:=0) (m:=0) (v:=.undef) (rd:=ku id) hinv hc hH (y0:=raw undef) (b0:=⟨0,.mp [(pC KT q,.f (gi VT vv))]⟩) (rdl:=[nm id]) (by simp only[eg,h1,h3,h5,hg,hok,bH,Nf hE,yh]) (B:=.mp KT VT [(q,vv)]) hb (dN.zero h) (by simp) rfl (λty' l2 he=>by cases he) (λH1 H2 d g b' s=>by simp only[jC,yf (U6 z.1.1),af]at s;subst s;exact iv.refl d _) (λH1 H2 y d g A=>by simp only[cf,af]at A;subst A;exact lj.refl d _) hrd⟩
    .split at hk
     .rename_i kv' vv' hkv hvv;obtain⟨e1,e2⟩:=gT hkv;cases e1;subst e2;obtain⟨e3,e4⟩:=gT hvv;cases e3;subst e4;exact⟨_,_,_,_,_,hk,iE.wrt (k:=0) (m:=0) (v:=.undef) (rd:=ku id) hinv hc hH (y0:=raw undef) (b0:=⟨0,.mp ((H0 kv' vv' es).map λp=>(pC _ p.1,.f (gi _ p.2)))⟩) (rdl:=[nm id]) (by simp only[eg,h1,h3,h5,hg,hok,bH,U3 z.1.1]) (B:=.mp _ _ (H0 kv' vv' es)) hb (dN.zero h) (by simp) rfl (λty' l2 he=>by cases he) (λH1 H2 d g b' s=>by simp only[jC,yf (U6 z.1.1),af]at s;subst s;exact iv.refl d _) (λH1 H2 y d g A=>by simp only[cf,af]at A;subst A;exact lj.refl d _) hrd⟩
     .cases hk
   .cases hk
  .cases hk
 .rename_i id KT q i hv F D;split at hk
  .rename_i l hb;split at hk
   .rename_i n hkv;split at hk
    case isFalse=>cases hk
    rename_i z;simp only[ak]at z;obtain⟨e1,e2⟩:=gT hkv;cases e1
    replace e2:n=q:=e2
    subst n;obtain⟨y,h1,h2⟩:=bI hi hv;obtain⟨y2,h3,h4⟩:=bI hi F;obtain⟨I,h5,h6⟩:=bI hi D;simp only[cf,af]at h2 h4;subst h2;subst h4;obtain⟨L,hl⟩:=eU h l (hinv.cells id _ l hb);have hg:H.get (nm id)=Z ⟨1,.mp (oC 0 L)⟩:=by rw[hH,bL,hb];simp only[aD,jC,hl]
    have h0:(0:Int)<=q:=bf z.2.1;have h9:(q:Int)<(l.length:Int):=bf z.2.2;have hlen:=gB hl;have hn:(q:Int)=aT (0+aO q):=by rw[bM];exact (mi h0).symm
    have ht:lG q I (oC 0 L)=oC 0 (splice L (aO q) [I]):=by
     rw[Sk (by rw[hlen];exact (Int.toNat_lt h0).2 h9)]
     conv=>lhs;rw[hn]
     exact Pm I L 0 _
    have hs:cF h (splice l (aO q) [.row i])=Z (splice L (aO q) [I]):=pD _ hl (by simp only[cF,h6]);have hr:b_ h (h.set id (Z (.cells U (splice l (aO q) [.row i])))):=b_.set λr hr=>by rw[bR,hb]at hr;cases hr
    have henc:gi (.int .i64) q= .raw (.int .i64 q):=rfl;rw[henc]at h3;have hstr:str=aa:=by cases str with
     |false=>rfl
     |true=>cases z.1
    subst hstr;exact⟨_,_,_,_,_,hk,iE.wrt (k:=0) (m:=0) (v:=.undef) (rd:=ku id) hinv hc hH (y0:=raw undef) (b0:=⟨1,.mp (oC 0 (splice L (aO q) [I]))⟩) (rdl:=[nm id]) (by simp only[eg,h1,h3,h5,hg,ht,bO,dx]) (B:=.cells U (splice l (aO q) [.row i])) hb (dN.zero h) (by simp) rfl (λty' l2 he=>by cases he;exact jX _ _ _ (fY hr _ _ hs)) (λH1 H2 d g b' s=>by
     have s:jC (h.set id (Z (.cells U (splice l (aO q) [.row i])))) (.cells U (splice l (aO q) [.row i]))=Z b':=s;simp only[jC,fY hr _ _ hs,af]at s;subst s;exact iv.refl d _) (λH1 H2 y d g A=>by simp only[cf,af]at A;subst A;exact lj.refl d _) (λn hn=>by simp only[aI]at hn;subst hn;rw[dS];exact bX.2 rfl)⟩
   .cases hk
  .cases hk
 .cases hk
theorem ak1 {con:FuncId->J cj} {b8:TypeId->J Ty} {x:Operand} (hc:dq P o.op=Z (.rng x)) (hk:dU con b8 (.op (.rng x)) e h nx K=Z r):kI P o aa e h nx K r:=by
 obtain⟨H,A⟩:=jQ h;simp only[dU]at hk;split at hk
 .rename_i s hv;obtain⟨y,h1,h2⟩:=bI hi hv;simp only[cf,af]at h2;subst h2;refine ⟨_,_,_,_,_,hk,iE.new hinv hc A (y0:=.ptr (nm nx) 0) (rdl:=[]) (b0:=⟨0,.it ⟨eR s⟩ 0⟩) (by simp only[eg,h1];rfl) (dN.zero h) (λ_ _ he=>by cases he) (λF D d g b' q=>?_) (λF D y d g z=>?_) (by simp)⟩
  .cases q;exact iv.refl d _
  .simp only[cf,af]at z;subst z;exact lj.refl d _
 .cases hk
theorem ak2 {con:FuncId->J cj} {b8:TypeId->J Ty} {x:Operand} (hc:dq P o.op=Z (.nxt x)) (hk:dU con b8 (.op (.nxt x)) e h nx K=Z r):kI P o aa e h nx K r:=by
 obtain⟨H,D⟩:=jQ h;simp only[dU]at hk;split at hk
 .rename_i id hv;split at hk
  .rename_i K' V es hb;split at hk
   .rename_i s p L;obtain⟨y,h1,h2⟩:=bI hi hv;simp only[cf,af]at h2;subst h2;have hg:H.get (nm id)=Z ⟨0,.it ⟨eR s⟩ p⟩:=by rw[D,bL,hb];show Z (u_.mk 0 (YN K' V es))=_;rw[afc L]
    have hrd:∀n∈[nm id],aP (ku id) (ow n)=M:=λn hn=>by simp only[aI]at hn;subst hn;rw[dS];exact bX.2 rfl
    rcases lX hk with ⟨hp,hk⟩|⟨hp,hk⟩
    .have hp:=bc hp;have e2:(⟨eR s⟩:ByteArray).data.toList[p]? =Z (List.getD s p 0):=by
      show s[p]? =_;rw[ay,aw hp];rfl
     exact⟨_,_,_,_,_,hk,iE.wrt (k:=0) (m:=0) (rd:=ku id) hinv hc D (y0:=.tup [raw (.bool M),raw (.int .i64 p),raw (.int .i32 (M8 s p))]) (b0:=⟨0,.it ⟨eR s⟩ (p+Sa s p)⟩) (rdl:=[nm id]) (by simp only[eg,h1,hg,e2];rfl) (B:=.mp itK .un [((s,aT (p+Sa s p)),())]) hb (dN.zero h) (by simp) rfl (λty' l2 he=>by cases he) (λI F d g b' z=>by cases z;exact iv.refl d _) (λI F y d g A=>by cases A;exact lj.refl d _) hrd⟩
    .have hp:s.length<=p:=Nat.not_lt.1 λq=>by rw[show eQ p s.length=M from bw q]at hp;cases hp
     have e2:(⟨eR s⟩:ByteArray).data.toList[p]? =U:=by
      show s[p]? =_;exact bK hp
     exact⟨_,_,_,_,_,hk,iE.wrt (k:=0) (m:=0) (rd:=ku id) hinv hc D (y0:=.tup [raw (.bool aa)]) (b0:=⟨0,.it ⟨eR s⟩ p⟩) (rdl:=[nm id]) (by simp only[eg,h1,hg,e2]) (B:=.mp itK .un [((s,aT p),())]) hb (dN.zero h) (by simp) rfl (λty' l2 he=>by cases he) (λI F d g b' z=>by cases z;exact iv.refl d _) (λI F y d g A=>by cases A;exact lj.refl d _) hrd⟩
   .cases hk
  .cases hk
 .cases hk
theorem K_op {con:FuncId->J cj} {b8:TypeId->J Ty} {s:Xx} (hc:dq P o.op=Z s) (hk:dU con b8 (.op s) e h nx K=Z r):kI P o s.still e h nx K r:=by
 cases s with
 |mv x=>exact K_mv hinv hi hc hk
 |pick c a b=>exact ahc hinv hi hc hk
 |alloc ty z=>exact adq hinv hi hc hk
 |box ty x=>exact akk hinv hi hc hk
 |build z parts=>exact adp hinv hi hc hk
 |bsl ty sz len z parts=>exact akj hinv hi hc hk
 |load sz ag x=>exact ahf hinv hi hc hk
 |store sz x v=>exact adm hinv hi hc hk
 |nilc x=>exact ahd hinv hi hc hk
 |bin op x y=>exact akl hinv hi hc hk
 |eqs neg ds x y=>exact akg hinv hi hc hk
 |eqb neg x y=>exact akh hinv hi hc hk
 |isnil neg x=>exact ado hinv hi hc hk
 |not x=>exact ak3 hinv hi hc hk
 |conv k x=>exact ahk hinv hi hc hk
 |mksl ty sz bytes z l c=>exact ahe hinv hi hc hk
 |slc sz x lo q mx=>exact ak0 hinv hi hc hk
 |fad off x=>exact ake hinv hi hc hk
 |fld off sz ag x=>exact akd hinv hi hc hk
 |iad sz x i=>exact akc hinv hi hc hk
 |idx n sz ag x i=>exact akb hinv hi hc hk
 |iada n sz x i=>exact ahi hinv hi hc hk
 |ext x i=>exact akf hinv hi hc hk
 |len x=>exact aka hinv hi hc hk
 |lens x=>exact ahg hinv hi hc hk
 |max x y=>exact ak8 hinv hi hc hk
 |min x y=>exact ak7 hinv hi hc hk
 |sidx x i=>exact ahb hinv hi hc hk
 |app ty sz bytes s x=>exact akm hinv hi hc hk
 |copy sz d x=>exact ahj hinv hi hc hk
 |clr sz z x=>exact aki hinv hi hc hk
 |mkf f caps=>exact ak6 hinv hi hc hk
 |mkm=>exact ak5 hinv hi hc hk
 |rng x=>exact ak1 hinv hi hc hk
 |nxt x=>exact ak2 hinv hi hc hk
 |lenm x=>exact ahh hinv hi hc hk
 |lku str ok z x k=>exact ak9 hinv hi hc hk
 |mup str x k v=>exact ak4 hinv hi hc hk
 |_=>simp[dU]at hk
end ops
mutual
def AV.ren (g:Nat->Nat):AV->AV
 |.f x=>.f x
 |.ptr id off=>.ptr (g id) off
 |.sl id off n=>.sl (g id) off n
 |.row id sz n=>.row (g id) sz n
 |.mp id=>.mp (g id)
 |.emp=>.emp
 |.anyb=>.anyb
 |.ful l n=>.ful l n
 |.agg l=>.agg (AV.renL g l)
 |.tup l=>.tup (AV.renL g l)
 |.clo q l=>.clo q (AV.renL g l)
def AV.renL (g:Nat->Nat):Y AV->Y AV
 |[]=>[]
 |x::r=>x.ren g::AV.renL g r
end
theorem mQ (g:Nat->Nat):∀l,AV.renL g l=l.map (AV.ren g)
 |[]=>rfl
 |x::r=>by rw[AV.renL,mQ g r];rfl
theorem BP (g:Nat->Nat) (x:AV):(x.ren g).isCell=x.isCell:=by cases x<;>rfl
theorem cK.renTo {φ φ':PM} {g:Nat->Nat} {O:Nat->Prop} {w:World} (hk:∀i k,φ i=Z k->φ' (g i)=Z k) {x:AV} {v:Value} (h:cK φ O w x v):cK φ' O w (x.ren g) v:=by
 induction h with
 |f h=>exact .f h
 |ptr h=>exact .ptr (hk _ _ h)
 |sl h hn hc=>exact .sl (hk _ _ h) hn hc
 |row h hn hc hsh=>exact .row (hk _ _ h) hn hc hsh
 |emp=>exact .emp
 |anyb=>exact .anyb
 |ful h=>exact .ful h
 |mp h=>exact .mp (hk _ _ h)
 |agg hl hcl hr s=>
  simp only[AV.ren,mQ];refine .agg (by simpa using hl) (λx d=>?_) λj x v d hv=>?_
  .obtain⟨y,q,rfl⟩:=cZ.1 d;rw[BP];exact hcl y q
  .rw[bk]at d;obtain⟨y,q,rfl⟩:=jS.1 d;exact s j y v q hv
 |tup hl hr s=>
  simp only[AV.ren,mQ];refine .tup (by simpa using hl) λj x v d hv=>?_
  rw[bk]at d;obtain⟨y,q,rfl⟩:=jS.1 d;exact s j y v q hv
 |clo hl hr s=>
  simp only[AV.ren,mQ];refine .clo (by simpa using hl) λj x v d hv=>?_
  rw[bk]at d;obtain⟨y,q,rfl⟩:=jS.1 d;exact s j y v q hv
theorem cK.renFrom {φ φ':PM} {g:Nat->Nat} {O:Nat->Prop} {w:World} {p:Nat->Bool} (hk:∀i k,p i=M->φ (g i)=Z k->φ' i=Z k) {z:AV} {v:Value} (h:cK φ O w z v):∀x:AV,x.all p=M->z=x.ren g->cK φ' O w x v:=by
 induction h with
 |f h=>intro x hp e;cases x<;>simp only[AV.ren,reduceCtorEq]at e;cases e;exact .f h
 |ptr h=>intro x hp e;cases x<;>simp only[AV.ren,reduceCtorEq]at e;cases e;exact .ptr (hk _ _ hp h)
 |sl h hn hc=>intro x hp e;cases x<;>simp only[AV.ren,reduceCtorEq]at e;cases e;exact .sl (hk _ _ hp h) hn hc
 |row h hn hc hsh=>intro x hp e;cases x<;>simp only[AV.ren,reduceCtorEq]at e;cases e;exact .row (hk _ _ hp h) hn hc hsh
 |emp=>intro x hp e;cases x<;>simp only[AV.ren,reduceCtorEq]at e;exact .emp
 |anyb=>intro x hp e;cases x<;>simp only[AV.ren,reduceCtorEq]at e;exact .anyb
 |ful h=>intro x hp e;cases x<;>simp only[AV.ren,reduceCtorEq]at e;cases e;exact .ful h
 |mp h=>intro x hp e;cases x<;>simp only[AV.ren,reduceCtorEq]at e;cases e;exact .mp (hk _ _ hp h)
 |agg hl hcl hr q=>
  intro x hp e;cases x<;>simp only[AV.ren,reduceCtorEq]at e;rename_i l;cases e;rw[mQ]at hl hcl hr q;refine .agg (by simpa using hl) (λx d=>?_) λj x v d hv=>?_
  .have:=hcl (x.ren g) (cZ.2 ⟨x,d,rfl⟩);rwa [BP]at this
  .exact q j (x.ren g) v (by rw[bk,d];rfl) hv x (me hp x (bi d)) rfl
 |tup hl hr q=>
  intro x hp e;cases x<;>simp only[AV.ren,reduceCtorEq]at e;rename_i l;cases e;rw[mQ]at hl hr q;refine .tup (by simpa using hl) λj x v d hv=>?_
  exact q j (x.ren g) v (by rw[bk,d];rfl) hv x (me hp x (bi d)) rfl
 |clo hl hr q=>
  intro x hp e;cases x<;>simp only[AV.ren,reduceCtorEq]at e;rename_i l;cases e;rw[mQ]at hl hr q;refine .clo (by simpa using hl) λj x v d hv=>?_
  exact q j (x.ren g) v (by rw[bk,d];rfl) hv x (me hp x (bi d)) rfl
def BC.ren (g:Nat->Nat):BC->BC
 |.fz l=>.fz l
 |.mx l=>.mx (l.map (AV.ren g))
 |.mp es=>.mp (es.map λp=>(p.1,p.2.ren g))
 |.it s p=>.it s p
def u_.ren (g:Nat->Nat) (b:u_):u_:=⟨b.ty,b.c.ren g⟩
theorem iY.renTo {φ φ':PM} {g:Nat->Nat} {O O':Nat->Prop} {w:World} (hk:∀x v,cK φ O w x v->cK φ' O' w (x.ren g) v) {b:u_} {o:Obj} (h:iY φ O w b o):iY φ' O' w (b.ren g) o:=by
 obtain⟨ty,c⟩:=b;unfold iY at h ⊢;simp only[u_.ren];cases c with
 |fz l=>
  simp only[BC.ren];obtain⟨arr,h1,h2,A⟩:=h;refine ⟨arr,h1,h2,λj x z=>?_⟩;obtain⟨a,v,c,d⟩:=A j x z;simp only[BC.get]at z;obtain⟨q,_,rfl⟩:=jS.1 z;exact⟨a,v,c,hk _ _ d⟩
 |mx l=>
  simp only[BC.ren];obtain⟨arr,h1,h2,A⟩:=h;refine ⟨arr,h1,by simpa[BC.len] using h2,λj x z=>?_⟩;simp only[BC.get,bk]at z;obtain⟨q,hq,rfl⟩:=jS.1 z;obtain⟨a,v,c,d⟩:=A j q hq;exact⟨by rw[BP];exact a,v,c,hk _ _ d⟩
 |mp es=>
  simp only[BC.ren];obtain⟨e,c,h1,h2,A⟩:=h;refine ⟨e,c,h1,by rw[VN];exact h2,λj x z=>?_⟩;rw[bk]at z;obtain⟨q,hq,rfl⟩:=jS.1 z;obtain⟨m,a,b⟩:=A j q hq;exact⟨m,a,hk _ _ b⟩
 |it s p=>exact h
theorem iY.renFrom {φ φ':PM} {g:Nat->Nat} {O O':Nat->Prop} {w:World} {p:Nat->Bool} (hk:∀x v,x.all p=M->cK φ O w (x.ren g) v->cK φ' O' w x v) {b:u_} (hb:b.c.all p=M) {o:Obj} (h:iY φ O w (b.ren g) o):iY φ' O' w b o:=by
 obtain⟨ty,c⟩:=b;unfold iY at h ⊢;simp only[u_.ren]at h;cases c with
 |fz l=>
  simp only[BC.ren]at h;obtain⟨arr,h1,h2,A⟩:=h;refine ⟨arr,h1,h2,λj x z=>?_⟩;obtain⟨a,v,c,d⟩:=A j x z;simp only[BC.get]at z;obtain⟨q,_,rfl⟩:=jS.1 z;exact⟨a,v,c,hk _ _ rfl d⟩
 |mx l=>
  simp only[BC.ren]at h;obtain⟨arr,h1,h2,A⟩:=h;refine ⟨arr,h1,by simpa[BC.len] using h2,λj x z=>?_⟩;simp only[BC.get]at z;obtain⟨a,v,c,d⟩:=A j (x.ren g) (by simp only[BC.get,bk,z];rfl);rw[BP]at a;exact⟨a,v,c,hk _ _ (me hb x (bi z)) d⟩
 |mp es=>
  simp only[BC.ren]at h;obtain⟨e,c,h1,h2,A⟩:=h;refine ⟨e,c,h1,by rw[VN]at h2;exact h2,λj x z=>?_⟩;obtain⟨m,a,b⟩:=A j (x.1,x.2.ren g) (by rw[bk,z];rfl);exact⟨m,a,hk _ _ (me hb x.2 (cZ.2 ⟨x,bi z,rfl⟩)) b⟩
 |it s p=>exact h
mutual
def BR (g:Nat->Nat):TV->TV
 |.row i=>.row (g i)
 |.rtl i j=>.rtl (g i) j
 |.agg l=>.agg (kH g l)
 |.tup l=>.tup (kH g l)
 |.clo q l=>.clo q (kH g l)
 |.f T v=>.f T v
 |.fel T xs j h off=>.fel T xs j h off
 |.pel a b c d=>.pel (g a) b c d
 |.ptr a b=>.ptr (g a) b
 |.csl a b c=>.csl (g a) b c
 |.emp=>.emp
 |.nil=>.nil
 |.mp i=>.mp (g i)
 |.undef=>.undef
 |.np=>.np
 |.anyb=>.anyb
 |.ful T xs=>.ful T xs
def kH (g:Nat->Nat):Y TV->Y TV
 |[]=>[]
 |x::r=>BR g x::kH g r
end
theorem zh (g:Nat->Nat):∀l,kH g l=l.map (BR g)
 |[]=>rfl
 |x::r=>by rw[kH,zh g r];rfl
def lH (g:Nat->Nat):ii->ii
 |.cells ty l=>.cells ty (kH g l)
 |.rows ty p T xs=>.rows ty p T xs
 |.dead p sz n=>.dead p sz n
 |.mp K V es=>.mp K V es
theorem Hy (g:Nat->Nat) (b:ii):mN (lH g b)=mN b:=by cases b<;>rfl
def He (g:Nat->Nat) (n:Nat):Nat:=nm (g (ow n))
theorem wM (g:Nat->Nat) (i:Nat):He g (nm i)=nm (g i):=by unfold He;rw[dS]
mutual
theorem afh {g:Nat->Nat} {h1 h2:bn} (hrow:∀i r,ej h1 i=Z r->ej h2 (g i)=Z r):∀(v:TV) (y:AV),cf h1 v=Z y->cf h2 (BR g v)=Z (y.ren (He g))
 |.f _ _,y,he=>by simp only[cf,af]at he;subst he;rfl
 |.fel _ _ _ _ _,y,he=>by simp only[cf,af]at he;subst he;rfl
 |.pel _ _ _ _,y,he=>by simp only[cf,af]at he;subst he;simp only[BR,cf,AV.ren,wM]
 |.ptr _ _,y,he=>by simp only[cf,af]at he;subst he;simp only[BR,cf,AV.ren,wM]
 |.csl _ _ _,y,he=>by simp only[cf,af]at he;subst he;simp only[BR,cf,AV.ren,wM]
 |.row id,y,he=>by
  simp only[cf]at he;split at he
  .rename_i p sz n hr;simp only[af]at he;subst he;simp only[BR,cf,hrow id _ hr];unfold e_;split
   .rfl
   .simp only[AV.ren,wM]
  .cases he
 |.rtl id jj,y,he=>by
  simp only[cf]at he;split at he
  .rename_i p sz n hr;simp only[af]at he;subst he;simp only[BR,cf,hrow id _ hr,AV.ren,wM]
  .cases he
 |.emp,y,he=>by simp only[cf,af]at he;subst he;rfl
 |.nil,y,he=>by simp only[cf,af]at he;subst he;rfl
 |.mp _,y,he=>by simp only[cf,af]at he;subst he;simp only[BR,cf,AV.ren,wM]
 |.agg l,y,he=>by
  simp only[cf]at he;split at he
  .rename_i l' hl;simp only[af]at he;subst he;simp only[BR,cf,oW hrow l l' hl,AV.ren]
  .cases he
 |.tup l,y,he=>by
  simp only[cf]at he;split at he
  .rename_i l' hl;simp only[af]at he;subst he;simp only[BR,cf,oW hrow l l' hl,AV.ren]
  .cases he
 |.clo q l,y,he=>by
  simp only[cf]at he;split at he
  .rename_i l' hl;simp only[af]at he;subst he;simp only[BR,cf,oW hrow l l' hl,AV.ren]
  .cases he
 |.undef,y,he=>by simp only[cf,af]at he;subst he;rfl
 |.np,y,he=>by simp only[cf,af]at he;subst he;rfl
 |.anyb,y,he=>by simp only[cf,af]at he;subst he;rfl
 |.ful _ _,y,he=>by simp only[cf,af]at he;subst he;rfl
theorem oW {g:Nat->Nat} {h1 h2:bn} (hrow:∀i r,ej h1 i=Z r->ej h2 (g i)=Z r):∀(l:Y TV) (l':Y AV),cF h1 l=Z l'->cF h2 (kH g l)=Z (AV.renL (He g) l')
 |[],l',he=>by simp only[cF,af]at he;subst he;rfl
 |x::r,l',he=>by
  obtain⟨y,l2,rfl,e1,e2⟩:=cU he;exact oX (afh hrow x y e1) (oW hrow r l2 e2)
end
theorem Cr {g:Nat->Nat} {h1 h2:bn} (hrow:∀i r,ej h1 i=Z r->ej h2 (g i)=Z r) {b:ii} {y:u_} (he:jC h1 b=Z y):jC h2 (lH g b)=Z (y.ren (He g)):=by
 cases b with
 |rows ty p T xs=>
  simp only[jC]at he;split at he
  .cases he
  .rename_i hc;simp only[af]at he;subst he;simp only[lH,jC,aM hc];rfl
 |cells ty l=>
  cases ty with
  |some ty=>
   simp only[jC]at he;split at he
   .rename_i d hl;simp only[af]at he;subst he;simp only[lH,jC,oW hrow l d hl,mQ];rfl
   .cases he
  |none=>
   simp only[jC]at he;split at he
   .rename_i d hl;simp only[af]at he;subst he;simp only[lH,jC,oW hrow l d hl,mQ,u_.ren,BC.ren,<-Pn]
   .cases he
 |dead p sz n=>cases he
 |mp K V es=>
  simp only[jC,af]at he;subst he;simp only[lH,jC,u_.ren,af,u_.mk.injEq,AH];unfold YN;split
  .rfl
  .simp only[BC.ren,G0];rfl
theorem BQ (g:Nat->Nat) (a b:Y TV):kH g (a++b)=kH g a++kH g b:=by
 rw[zh,zh,zh,c8]
theorem pE (g:Nat->Nat):∀(n:Nat) (T:Ty) (v:T.den) (l:Y TV),cellsOf n T v=Z l->kH g l=l
 |0,_,_,_,he=>by simp[cellsOf]at he
 |n+1,.st t,v,l,he=>pE g n t v l he
 |n+1,.pr a b,v,l,he=>by
  simp only[cellsOf]at he;split at he
  .rename_i x y q d;simp only[af]at he;subst he;rw[BQ,pE g n a v.1 x q,pE g n b v.2 y d]
  .cases he
 |n+1,.un,v,l,he=>by simp only[cellsOf,af]at he;subst he;rfl
 |n+1,.ex,v,l,he=>pE g n Mj (M0 v) l he
 |n+1,.sm,v,l,he=>pE g n LS (MZ v) l he
 |n+1,.int k,v,l,he=>by simp only[cellsOf,af]at he;subst he;rfl
 |n+1,.bool,v,l,he=>by simp only[cellsOf,af]at he;subst he;rfl
 |n+1,.str,v,l,he=>by simp only[cellsOf,af]at he;subst he;rfl
 |n+1,.sl t,v,l,he=>by simp only[cellsOf,af]at he;subst he;rfl
abbrev G_:Nat->Nat:=λi=>i
mutual
theorem Yx (g:Nat->Nat):∀(p:PV) (x:p.ty.den),pI g p x=(pI G_ p x).map (kH g)
 |.d T,x=>by
  simp only[pI];cases h:cellsOf 40 T x with
  |none=>rfl
  |some l=>simp only[bW,pE g 40 T x l h]
 |.ptr i o,x=>rfl
 |.csl i o z,x=>rfl
 |.clo q i o,x=>rfl
 |.row i,x=>rfl
 |.mp i,x=>rfl
 |.nil,x=>rfl
 |.emp,x=>rfl
 |.agg ps,x=>zi g ps x
theorem zi (g:Nat->Nat):∀(ps:Y PV) (x:(PV.tyL ps).den),qF g ps x=(qF G_ ps x).map (kH g)
 |[],x=>rfl
 |p::r,x=>by
  simp only[qF];rw[Yx g p,zi g r];cases pI G_ p (ND p.ty (PV.tyL r) x) with
  |none=>rfl
  |some a=>
   cases qF G_ r (Kx p.ty (PV.tyL r) x) with
   |none=>rfl
   |some b=>simp only[bW,BQ]
end
def afs (o:J (Y TV)):J TV:=match o with|some l=>Z (.agg l)|none=>U
theorem ZV (g:Nat->Nat) (o:J (Y TV)):afs (o.map (kH g))=(afs o).map (BR g):=by cases o<;>rfl
theorem Yv (g:Nat->Nat) (p:PV) (x:p.ty.den):sN g p x=(sN G_ p x).map (BR g):=by
 cases p with
 |agg ps=>exact (i_ afs (zi g ps x)).trans (ZV g _)
 |_=>rfl
theorem sZ (g:Nat->Nat):∀(ps:Y PV) (x:(PV.tyL ps).den),pQ g ps x=(pQ G_ ps x).map (kH g)
 |[],x=>rfl
 |p::r,x=>by
  simp only[pQ];rw[Yv g p,sZ g r];cases sN G_ p (ND p.ty (PV.tyL r) x) with
  |none=>rfl
  |some a=>
   cases pQ G_ r (Kx p.ty (PV.tyL r) x) with
   |none=>rfl
   |some b=>rfl
def Ul (ty:J TypeId) (o:J (Y TV)):J (J ii):=match o with|some l=>Z (Z (.cells ty l))|none=>U
theorem Uk (g:Nat->Nat) (ty:J TypeId) (o:J (Y TV)):Ul ty (o.map (kH g))=(Ul ty o).map (l7 (lH g)):=by cases o<;>rfl
theorem Yy (g:Nat->Nat) (b:PB) (x:b.ty.den):BV g b x=(BV G_ b x).map (l7 (lH g)):=by
 cases b with
 |cells ty ps=>exact (i_ (Ul ty) (zi g ps x)).trans (Uk g ty _)
 |_=>rfl
theorem vn (g:Nat->Nat):∀(bs:Y PB) (x:(PB.tyL bs).den),om g bs x=(om G_ bs x).map (List.map (l7 (lH g)))
 |[],x=>rfl
 |b::r,x=>by
  simp only[om];rw[Yy g b,vn g r];cases BV G_ b (ND b.ty (PB.tyL r) x) with
  |none=>rfl
  |some a=>
   cases om G_ r (Kx b.ty (PB.tyL r) x) with
   |none=>rfl
   |some l=>rfl
theorem BU (g:Nat->Nat):∀(bs:Y PB) (x:(PB.tyL bs).den) (l:Y (J ii)),om g bs x=Z l->l.length=bs.length
 |[],x,l,h=>by simp only[om,af]at h;subst h;rfl
 |b::r,x,l,h=>by
  simp only[om]at h;split at h
  .split at h
   .rename_i q hq;simp only[af]at h;subst h;simp[BU g r _ q hq]
   .cases h
  .cases h
theorem IC (h:bn) (i j:Nat):(kill h i).get j=if j=i then (h.get i).map uC else h.get j:=by
 unfold kill;cases hb:h.get i with
 |none=>
  simp only[Option.map_none];split
  .rename_i e;rw[e,hb]
  .rfl
 |some b=>rw[PT.get_set];rfl
theorem uA (g:Nat->Nat):∀(l:Y (J ii)) (i:Nat) (h:bn) (j:Nat),(∀k,k<l.length->j≠g (i+k))->(zM g i l h).get j=h.get j
 |[],i,h,j,_=>rfl
 |some c::r,i,h,j,hj=>by
  rw[zM,uA g r (i+1) _ j (λk hk=>by have:=hj (k+1) (by simpa using hk);rwa [show i+1+k=i+(k+1) from by omega]),PT.get_set,aM];exact hj 0 (by simp)
 |none::r,i,h,j,hj=>by
  rw[zM,uA g r (i+1) _ j (λk hk=>by have:=hj (k+1) (by simpa using hk);rwa [show i+1+k=i+(k+1) from by omega]),IC,aM];exact hj 0 (by simp)
theorem uB (g:Nat->Nat):∀(l:Y (J ii)) (i:Nat) (h:bn),(∀a b,a<l.length->b<l.length->g (i+a)=g (i+b)->a=b)->∀(k:Nat) (c:J ii),l[k]? =Z c->(zM g i l h).get (g (i+k))=(match c with|some b=>Z b|none=>(h.get (g (i+k))).map uC)
 |[],i,h,_,k,c,hk=>by simp at hk
 |o::r,i,h,hinj,k,c,hk=>by
  have hinj':∀a b,a<r.length->b<r.length->g (i+1+a)=g (i+1+b)->a=b:=λa b q hb e=>by
   have:=hinj (a+1) (b+1) (by simpa using q) (by simpa using hb) (by rw[show i+(a+1)=i+1+a from by omega,show i+(b+1)=i+1+b from by omega];exact e);omega
  cases k with
  |zero=>
   simp at hk;subst hk;have hne:∀k,k<r.length->g (i+0)≠g (i+1+k):=λk hk e=>by
    have:=hinj 0 (k+1) (by simp) (by simpa using hk) (by rw[show i+(k+1)=i+1+k from by omega];exact e);omega
   cases o with
   |some b=>rw[zM,uA g r (i+1) _ _ hne];simp only[dc];rw[PT.get_set,aW rfl]
   |none=>rw[zM,uA g r (i+1) _ _ hne];simp only[dc];rw[IC,aW rfl]
  |succ k=>
   have d:r[k]? =Z c:=by simpa using hk
   have hkl:k<r.length:=(bo.1 d).1;have hne:g (i+(k+1))≠g i:=λe=>by
    have:=hinj (k+1) 0 (by simpa using hkl) (by simp) (by rw[e];rfl);omega
   rw[show i+(k+1)=i+1+k from by omega]at hne ⊢;cases o with
   |some b=>
    rw[zM,uB g r (i+1) _ hinj' k c d];cases c with
    |some _=>rfl
    |none=>simp only[PT.get_set,aM hne]
   |none=>
    rw[zM,uB g r (i+1) _ hinj' k c d];cases c with
    |some _=>rfl
    |none=>simp only[IC,aM hne]
def xc (h' h:bn):Prop:=∀i r,ej h' i=Z r->ej h i=Z r
section get
variable {h h':bn} {H H':HF} {g:Nat->Nat}
theorem lj.agg {l d:Y AV} (hl:gY H H' l d) (hc:∀x∈d,x.isCell=M):lj H H' (.agg l) (.agg d):=by
 intro φ E w v hrep hr;cases hr with
 |@agg _ vs hlen hcl hrr=>
  refine .agg (by rw[hlen,<-hl.length]) hc λj y u q hu=>?_
  obtain⟨x,s,hle⟩:=hl.get j y q;exact hle φ E w u hrep (hrr j x u s hu)
theorem O4 (hr:xc h' h) {i:Nat} {y s:AV} (q:cf h (.row i)=Z y) (d:cf h' (.row i)=Z s):s=y:=by
 simp only[cf]at q d;cases h1:ej h' i with
 |none=>rw[h1]at d;cases d
 |some r=>
  rw[h1]at d;rw[hr i r h1]at q;rw[q]at d;cases d;rfl
mutual
theorem ac5 (d:ul H H') (hr:xc h' h):∀(p:PV) (l:Y TV) (x:p.ty.den) (m:Nat) (r:Y TV) (cs:Y TV) (l' cs':Y AV),pq g h p l=Z (x,m,r)->pI g p x=Z cs->cF h l=Z l'->cF h' cs=Z cs'->Dl h H H' m->∃l1 l2,l'=l1++l2/\cF h r=Z l2/\gY H H' l1 cs'
 |.d T,l,x,m,r,cs,l',cs',hg,hp,hl,hc,gv=>by
  obtain⟨l1,l2,e1,e2,e3⟩:=rP d 40 T l x m r l' hg hl gv;have:=(lV h' 40 T x cs hp).1;rw[hc]at this;cases this;exact⟨l1,l2,e1,e2,e3⟩
 |.ptr i q,l,x,m,r,cs,l',cs',hg,hp,hl,hc,gv=>by
  simp only[pq]at hg;split at hg
  .rename_i i' o' r';split at hg
   .rename_i hb;simp only[ak]at hb;have e1:=au hb.1;have e2:=au hb.2;subst e1;subst e2;simp only[af,aC]at hg;obtain⟨_,_,rfl⟩:=hg;simp only[pI,af]at hp;subst hp;obtain⟨y,l2,rfl,g1,g2⟩:=cU hl;simp only[cf,af]at g1;subst g1;simp only[cF,cf,af]at hc;subst hc;exact⟨[_],l2,rfl,g2,lj.refl d _,trivial⟩
   .cases hg
  .cases hg
 |.csl i q z,l,x,m,r,cs,l',cs',hg,hp,hl,hc,gv=>by
  simp only[pq]at hg;split at hg
  .rename_i i' o' z' r';split at hg
   .rename_i hb;simp only[ak]at hb;have e1:=au hb.1.1;have e2:=au hb.1.2;have e3:=au hb.2;subst e1;subst e2;subst e3;simp only[af,aC]at hg;obtain⟨_,_,rfl⟩:=hg;simp only[pI,af]at hp;subst hp;obtain⟨y,l2,rfl,g1,g2⟩:=cU hl;simp only[cf,af]at g1;subst g1;simp only[cF,cf,af]at hc;subst hc;exact⟨[_],l2,rfl,g2,lj.refl d _,trivial⟩
   .cases hg
  .cases hg
 |.clo q i z,l,x,m,r,cs,l',cs',hg,hp,hl,hc,gv=>by
  simp only[pq]at hg;split at hg
  .rename_i q' i' z' r';split at hg
   .rename_i hb;simp only[ak]at hb;have e1:=au hb.1.1;have e2:=au hb.1.2;have e3:=au hb.2;subst e1;subst e2;subst e3;simp only[af,aC]at hg;obtain⟨_,_,rfl⟩:=hg;simp only[pI,af]at hp;subst hp;obtain⟨y,l2,rfl,g1,g2⟩:=cU hl;simp only[cf,cF,af]at g1;subst g1;simp only[cF,cf,af]at hc;subst hc;exact⟨[_],l2,rfl,g2,lj.refl d _,trivial⟩
   .cases hg
  .cases hg
 |.row i,l,x,m,r,cs,l',cs',hg,hp,hl,hc,gv=>by
  simp only[pq]at hg;split at hg
  .rename_i i' r';split at hg
   .rename_i hb;have e1:=au hb;subst e1;simp only[af,aC]at hg;obtain⟨_,_,rfl⟩:=hg;simp only[pI,af]at hp;subst hp;obtain⟨y,l2,rfl,g1,g2⟩:=cU hl;obtain⟨y',l3,rfl,g3,g4⟩:=cU hc;simp only[cF,af]at g4;subst g4;rw[O4 hr g1 g3];exact⟨[_],l2,rfl,g2,lj.refl d _,trivial⟩
   .cases hg
  .cases hg
 |.mp i,l,x,m,r,cs,l',cs',hg,hp,hl,hc,gv=>by
  simp only[pq]at hg;split at hg
  .rename_i i' r';split at hg
   .rename_i hb;have e1:=au hb;subst e1;simp only[af,aC]at hg;obtain⟨_,_,rfl⟩:=hg;simp only[pI,af]at hp;subst hp;obtain⟨y,l2,rfl,g1,g2⟩:=cU hl;simp only[cf,af]at g1;subst g1;simp only[cF,cf,af]at hc;subst hc;exact⟨[_],l2,rfl,g2,lj.refl d _,trivial⟩
   .cases hg
  .cases hg
 |.nil,l,x,m,r,cs,l',cs',hg,hp,hl,hc,gv=>by
  simp only[pq]at hg;split at hg
  .simp only[af,aC]at hg;obtain⟨_,_,rfl⟩:=hg;simp only[pI,af]at hp;subst hp;obtain⟨y,l2,rfl,g1,g2⟩:=cU hl;simp only[cf,af]at g1;subst g1;simp only[cF,cf,af]at hc;subst hc;exact⟨[_],l2,rfl,g2,lj.refl d _,trivial⟩
  .cases hg
 |.emp,l,x,m,r,cs,l',cs',hg,hp,hl,hc,gv=>by
  simp only[pq]at hg;split at hg
  .simp only[af,aC]at hg;obtain⟨_,_,rfl⟩:=hg;simp only[pI,af]at hp;subst hp;obtain⟨y,l2,rfl,g1,g2⟩:=cU hl;simp only[cf,af]at g1;subst g1;simp only[cF,cf,af]at hc;subst hc;exact⟨[_],l2,rfl,g2,Le.nilEmp.toH d,trivial⟩
  .simp only[af,aC]at hg;obtain⟨_,_,rfl⟩:=hg;simp only[pI,af]at hp;subst hp;obtain⟨y,l2,rfl,g1,g2⟩:=cU hl;simp only[cf,af]at g1;subst g1;simp only[cF,cf,af]at hc;subst hc;exact⟨[_],l2,rfl,g2,lj.refl d _,trivial⟩
  .cases hg
 |.agg ps,l,x,m,r,cs,l',cs',hg,hp,hl,hc,gv=>Cm d hr ps l x m r cs l' cs' hg hp hl hc gv
theorem Cm (d:ul H H') (hr:xc h' h):∀(ps:Y PV) (l:Y TV) (x:(PV.tyL ps).den) (m:Nat) (r:Y TV) (cs:Y TV) (l' cs':Y AV),yq g h ps l=Z (x,m,r)->qF g ps x=Z cs->cF h l=Z l'->cF h' cs=Z cs'->Dl h H H' m->∃l1 l2,l'=l1++l2/\cF h r=Z l2/\gY H H' l1 cs'
 |[],l,x,m,r,cs,l',cs',hg,hp,hl,hc,gv=>by
  simp only[yq,af,aC]at hg;obtain⟨_,_,rfl⟩:=hg;simp only[qF,af]at hp;subst hp;simp only[cF,af]at hc;subst hc;exact⟨[],l',rfl,hl,trivial⟩
 |p::ps,l,x,m,r,cs,l',cs',hg,hp,hl,hc,gv=>by
  simp only[yq]at hg;split at hg
  .rename_i x1 m1 r1 h1;split at hg
   .rename_i x2 m2 r2 h2;simp only[af,aC]at hg;obtain⟨rfl,rfl,rfl⟩:=hg;simp only[qF,sU,uu]at hp;split at hp
    .rename_i a ha;split at hp
     .rename_i b hb;simp only[af]at hp;subst hp;obtain⟨a',b',rfl,ea,eb⟩:=Bk hc;obtain⟨ga,gb⟩:=gv.or;obtain⟨l1,l2,rfl,q1,q2⟩:=ac5 d hr p l _ _ _ a l' a' h1 ha hl ea ga;obtain⟨l3,l4,rfl,q3,q4⟩:=Cm d hr ps _ _ _ _ b l2 b' h2 hb q1 eb gb;exact⟨l1++l3,l4,by simp,q3,q2.append q4⟩
     .cases hp
    .cases hp
   .cases hg
  .cases hg
end
mutual
theorem V6:∀(p:PV) (x:p.ty.den) (cs:Y TV),pI g p x=Z cs->kE cs=M
 |.d T,x,cs,hp=>(lV PT.leaf 40 T x cs hp).2
 |.ptr i q,x,cs,hp=>by simp only[pI,af]at hp;subst hp;rfl
 |.csl i q z,x,cs,hp=>by simp only[pI,af]at hp;subst hp;rfl
 |.clo q i z,x,cs,hp=>by simp only[pI,af]at hp;subst hp;rfl
 |.row i,x,cs,hp=>by simp only[pI,af]at hp;subst hp;rfl
 |.mp i,x,cs,hp=>by simp only[pI,af]at hp;subst hp;rfl
 |.nil,x,cs,hp=>by simp only[pI,af]at hp;subst hp;rfl
 |.emp,x,cs,hp=>by simp only[pI,af]at hp;subst hp;rfl
 |.agg ps,x,cs,hp=>wv ps x cs hp
theorem wv:∀(ps:Y PV) (x:(PV.tyL ps).den) (cs:Y TV),qF g ps x=Z cs->kE cs=M
 |[],x,cs,hp=>by simp only[qF,af]at hp;subst hp;rfl
 |p::ps,x,cs,hp=>by
  simp only[qF]at hp;split at hp
  .rename_i a ha;split at hp
   .rename_i b hb;simp only[af]at hp;subst hp;exact Rv (V6 p _ a ha) (wv ps _ b hb)
   .cases hp
  .cases hp
end
theorem ac4 (d:ul H H') (hr:xc h' h) {p:PV} {v:TV} {x:p.ty.den} {m:Nat} {u:TV} {y D:AV} (hg:wJ g h p v=Z (x,m)) (hp:sN g p x=Z u) (A:cf h v=Z y) (s:cf h' u=Z D) (F:Dl h H H' m):lj H H' y D:=by
 cases p with
 |d T=>
  simp only[sN,af]at hp;subst hp;simp only[cf,af]at s;subst s;exact (Om d hg A F).1
 |agg ps=>
  simp only[wJ]at hg;split at hg
  .cases hg
  .rename_i hc;split at hg
   .rename_i l hl;split at hg
    .rename_i x1 m1 h1;simp only[af,aC]at hg;obtain⟨rfl,rfl⟩:=hg;simp only[sN]at hp;split at hp
     .rename_i cs hcs;simp only[af]at hp;subst hp;simp only[cf]at s;split at s
      .rename_i cs' hcs';simp only[af]at s;subst s;obtain⟨e1,e2⟩:=Jx hl A;obtain⟨l1,l2,q1,q2,q3⟩:=Cm d hr ps l _ _ [] cs y.cs cs' h1 hcs e1 hcs' F;simp only[cF,af]at q2;subst q2;rw[oe]at q1;subst q1;have hcell:∀x∈cs',x.isCell=M:=lY (rN hcs' (wv ps _ cs hcs));cases v with
       |agg q=>
        simp only[cf]at A;split at A
        .simp only[af]at A;subst A;exact lj.agg q3 hcell
        .cases A
       |f S z=>
        simp only[cf,af]at A;subst A;have I:S.one=aa:=by simpa[TV.isC] using hc
        rw[zB]at q3;rw[ql S z I];intro φ E w v hrep hrel;exact lj.agg q3 hcell φ E w v hrep (Le.aggF _ _ _ _ hrel)
       |tup q=>simp[TV.cs,TV.isC]at hl
       |undef=>simp[TV.cs,TV.isC]at hl
       |np=>simp[TV.isC]at hc
       |anyb=>simp[TV.cs,TV.isC]at hl
       |ful S q=>simp[TV.cs,TV.isC]at hl
       |fel T xs j hj off=>simp[TV.isC]at hc
       |pel id sz j off=>simp[TV.isC]at hc
       |ptr id off=>simp[TV.isC]at hc
       |csl id off z=>simp[TV.isC]at hc
       |row id=>simp[TV.isC]at hc
       |emp=>simp[TV.isC]at hc
       |nil=>simp[TV.isC]at hc
       |mp id=>simp[TV.isC]at hc
       |rtl id L=>cases hl
       |clo g l=>simp[TV.isC]at hc
      .cases s
     .cases hp
    .cases hg
   .cases hg
 |ptr i q=>
  simp only[sN,af]at hp;subst hp;simp only[wJ]at hg;split at hg
  .rename_i h1;simp only[pq]at h1;split at h1
   .rename_i e;simp only[iR]at e;obtain⟨rfl,_⟩:=e;split at h1
    .rename_i hb;simp only[ak]at hb;have e1:=au hb.1;have e2:=au hb.2;subst e1;subst e2;simp only[cf,af]at A s;subst A;subst s;exact lj.refl d _
    .cases h1
   .cases h1
  .cases hg
 |csl i q z=>
  simp only[sN,af]at hp;subst hp;simp only[wJ]at hg;split at hg
  .rename_i h1;simp only[pq]at h1;split at h1
   .rename_i e;simp only[iR]at e;obtain⟨rfl,_⟩:=e;split at h1
    .rename_i hb;simp only[ak]at hb;have e1:=au hb.1.1;have e2:=au hb.1.2;have e3:=au hb.2;subst e1;subst e2;subst e3;simp only[cf,af]at A s;subst A;subst s;exact lj.refl d _
    .cases h1
   .cases h1
  .cases hg
 |clo q i z=>
  simp only[sN,af]at hp;subst hp;simp only[wJ]at hg;split at hg
  .rename_i h1;simp only[pq]at h1;split at h1
   .rename_i e;simp only[iR]at e;obtain⟨rfl,_⟩:=e;split at h1
    .rename_i hb;simp only[ak]at hb;have e1:=au hb.1.1;have e2:=au hb.1.2;have e3:=au hb.2;subst e1;subst e2;subst e3;simp only[cf,cF,af]at A s;subst A;subst s;exact lj.refl d _
    .cases h1
   .cases h1
  .cases hg
 |row i=>
  simp only[sN,af]at hp;subst hp;simp only[wJ]at hg;split at hg
  .rename_i h1;simp only[pq]at h1;split at h1
   .rename_i e;simp only[iR]at e;obtain⟨rfl,_⟩:=e;split at h1
    .rename_i hb;have e1:=au hb;subst e1;rw[O4 hr A s];exact lj.refl d _
    .cases h1
   .cases h1
  .cases hg
 |mp i=>
  simp only[sN,af]at hp;subst hp;simp only[wJ]at hg;split at hg
  .rename_i h1;simp only[pq]at h1;split at h1
   .rename_i e;simp only[iR]at e;obtain⟨rfl,_⟩:=e;split at h1
    .rename_i hb;have e1:=au hb;subst e1;simp only[cf,af]at A s;subst A;subst s;exact lj.refl d _
    .cases h1
   .cases h1
  .cases hg
 |nil=>
  simp only[sN,af]at hp;subst hp;simp only[wJ]at hg;split at hg
  .rename_i h1;simp only[pq]at h1;split at h1
   .rename_i e;simp only[iR]at e;obtain⟨rfl,_⟩:=e;simp only[cf,af]at A s;subst A;subst s;exact lj.refl d _
   .cases h1
  .cases hg
 |emp=>
  simp only[sN,af]at hp;subst hp;simp only[wJ]at hg;split at hg
  .rename_i h1;simp only[pq]at h1;split at h1
   .rename_i e;simp only[iR]at e;obtain⟨rfl,_⟩:=e;simp only[cf,af]at A s;subst A;subst s;exact Le.nilEmp.toH d
   .rename_i e;simp only[iR]at e;obtain⟨rfl,_⟩:=e;simp only[cf,af]at A s;subst A;subst s;exact lj.refl d _
   .cases h1
  .cases hg
theorem Cl (d:ul H H') (hr:xc h' h):∀(ps:Y PV) (vs:Y TV) (x:(PV.tyL ps).den) (m:Nat) (us:Y TV) (l s:Y AV),xm g h ps vs=Z (x,m)->pQ g ps x=Z us->cF h vs=Z l->cF h' us=Z s->Dl h H H' m->gY H H' l s
 |[],[],x,m,us,l,s,hg,hp,hl,q,z=>by
  simp only[pQ,af]at hp;subst hp;simp only[cF,af]at hl q;subst hl;subst q;trivial
 |[],_::_,x,m,us,l,s,hg,_,_,_,_=>by simp[xm]at hg
 |_::_,[],x,m,us,l,s,hg,_,_,_,_=>by simp[xm]at hg
 |p::ps,v::vs,x,m,us,l,s,hg,hp,hl,q,z=>by
  simp only[xm]at hg;split at hg
  .rename_i x1 m1 h1;split at hg
   .rename_i x2 m2 h2;simp only[af,aC]at hg;obtain⟨rfl,rfl⟩:=hg;simp only[pQ,sU,uu]at hp;split at hp
    .rename_i a D;split at hp
     .rename_i b hb;simp only[af]at hp;subst hp;obtain⟨y,l2,rfl,e1,e2⟩:=cU hl;obtain⟨y',A,rfl,e3,L⟩:=cU q;obtain⟨I,F⟩:=z.or;exact⟨ac4 d hr h1 D e1 e3 I,Cl d hr ps vs _ _ b l2 A h2 hb e2 L F⟩
     .cases hp
    .cases hp
   .cases hg
  .cases hg
inductive BM (g:Nat->Nat) (h:bn) (m:Nat):ii->ii->Prop
 |rows (ty:TypeId) (p:Bool) (T:Ty) (xs:List T.den):BM g h m (.rows ty p T xs) (.rows ty p T xs)
 |mp (K V:Ty) (es:List (K.den×V.den)):BM g h m (.mp K V es) (.mp K V es)
 |cells (ty:Option TypeId) (ps:List PV) (x:(PV.tyL ps).den) (l l2:List TV) (m':Nat) (hg:yq g h ps l=Z (x,m',[])) (hp:qF g ps x=Z l2) (hm:∀i,aP m' i=M->aP m i=M):BM g h m (.cells ty l) (.cells ty l2)
theorem BM.mono {m m2:Nat} (hm:∀i,aP m i=M->aP m2 i=M) {b c:ii} (h1:BM g h m b c):BM g h m2 b c:=by
 cases h1 with
 |rows ty p T xs=>exact .rows ty p T xs
 |mp K V es=>exact .mp K V es
 |cells ty ps x l l2 m' hg hp d=>exact .cells ty ps x l l2 m' hg hp λi hi=>hm i (d i hi)
theorem ac6 {i:Nat} {b:PB} {x:b.ty.den} {m:Nat} {c:ii} (hg:DY g h i b=Z (x,m)) (hp:BV g b x=Z (Z c)):∃b0,h.get (g i)=Z b0/\BM g h m b0 c:=by
 cases b with
 |rows ty p T=>
  simp only[DY]at hg;split at hg
  .rename_i ty' s S xs hb;split at hg
   .rename_i hc;simp only[ak,cQ]at hc;obtain⟨rfl,rfl⟩:=hc;split at hg
    .rename_i z d;simp only[af,aC]at hg;obtain⟨rfl,rfl⟩:=hg;obtain⟨e,rfl⟩:=gT d;cases e;simp only[BV,af]at hp;subst hp;exact⟨_,hb,.rows _ _ _ _⟩
    .cases hg
   .cases hg
  .cases hg
 |rowsP ty T=>
  simp only[DY]at hg;split at hg
  .rename_i ty' s S xs hb;split at hg
   .rename_i hc;have hc:ty=ty':=by simpa using hc
    subst hc;split at hg
    .rename_i z d;simp only[af,aC]at hg;obtain⟨rfl,rfl⟩:=hg;obtain⟨e,rfl⟩:=gT d;cases e;simp only[BV,af]at hp;subst hp;exact⟨_,hb,.rows _ _ _ _⟩
    .cases hg
   .cases hg
  .cases hg
 |cells ty ps=>
  simp only[DY]at hg;split at hg
  .rename_i ty' l hb;split at hg
   .rename_i hc;have hc:ty=ty':=by simpa using hc
    subst hc;split at hg
    .rename_i z m1 d;simp only[af,aC]at hg;obtain⟨rfl,rfl⟩:=hg;simp only[BV]at hp;split at hp
     .rename_i l2 q;simp only[af]at hp;subst hp;exact⟨_,hb,.cells ty ps _ l l2 _ d q λ_ h=>h⟩
     .cases hp
    .cases hg
   .cases hg
  .cases hg
 |mp K V=>
  simp only[DY]at hg;split at hg
  .rename_i K' V' es hb;split at hg
   .rename_i z d;simp only[af,aC]at hg;obtain⟨rfl,rfl⟩:=hg;obtain⟨e,rfl⟩:=gT d;cases e;simp only[BV,af]at hp;subst hp;exact⟨_,hb,.mp _ _ _⟩
   .cases hg
  .cases hg
 |gone=>simp[BV]at hp
theorem IE:∀(bs:Y PB) (i:Nat) (x:(PB.tyL bs).den) (m:Nat) (d:Y (J ii)),Ag g h i bs=Z (x,m)->om g bs x=Z d->∀(k:Nat) c,d[k]? =Z (Z c)->∃b0,h.get (g (i+k))=Z b0/\BM g h m b0 c
 |[],i,x,m,d,hg,hp,k,c,hk=>by
  simp only[om,af]at hp;subst hp;simp at hk
 |b::r,i,x,m,d,hg,hp,k,c,hk=>by
  simp only[Ag]at hg;split at hg
  .rename_i x1 m1 h1;split at hg
   .rename_i x2 m2 h2;simp only[af,aC]at hg;obtain⟨rfl,rfl⟩:=hg;simp only[om,sU,uu]at hp;split at hp
    .rename_i a s;split at hp
     .rename_i q hq;simp only[af]at hp;subst hp;cases k with
      |zero=>
       simp at hk;subst hk;obtain⟨b0,e1,e2⟩:=ac6 h1 s;exact⟨b0,e1,e2.mono λi hi=>by rw[bz,hi];rfl⟩
      |succ k=>
       obtain⟨b0,e1,e2⟩:=IE r (i+1) _ _ q h2 hq k c (by simpa using hk);rw[show i+1+k=i+(k+1) from by omega]at e1;exact⟨b0,e1,e2.mono λi hi=>by rw[bz,hi];simp⟩
     .cases hp
    .cases hp
   .cases hg
  .cases hg
end get
end
end Go.Proofs.YtiaemgcbndhkfaaGreatDoor.AI
