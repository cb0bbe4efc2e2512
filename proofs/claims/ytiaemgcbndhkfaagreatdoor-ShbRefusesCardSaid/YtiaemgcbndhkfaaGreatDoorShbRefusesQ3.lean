/-
  Texts of the proof, part 4 of 6: what is used to prove the statement. No condition.
-/
import Derived.Test.YtiaemgcbndhkfaaGreatDoorShbRefusesQ2
import Derived.Defers
namespace Go.Proofs.YtiaemgcbndhkfaaGreatDoor.AI
open Go.RowKit
set_option maxRecDepth 100000
set_option maxHeartbeats 4000000
set_option linter.unusedVariables false
set_option linter.unusedSimpArgs false
open Act renaming put→M2
open _root_.Array renaming length_toList→iq,range→xL
open _root_.Bool renaming true→M,false→aa,and_false→uc,eq_iff_iff→ED
open Builtin renaming zeroCells→lH,firstCells→xf,append_→EC
open Call renaming operands→dO
open Instr renaming findNow→eE,sliceBounds→gC,sliceBound→g_,sliceAt→kN,slice→oR,findKey→sn,sameBits→Kk
open _root_.Int renaming toNat→aP,ofNat→aU
open _root_.Int.ofNat renaming inj→sk
open IntKind renaming wrap→oQ
open _root_.List renaming length→ah,replicate→aA,length_cons→cf,take→cM,toArray→eT,range→fm,cons_append→gZ,length_nil→jX,getElem?_cons_zero→lG,nil_append→oh,replicate_succ→pU,take_succ_cons→vb,flatMap_append→FU,mem_or_eq_of_mem_set→LI
open _root_.Nat renaming beq→aw,testBit→aO,add_zero→dh,ble→dN,blt→eS,min→iO
open Oper renaming wp→G0
open _root_.Option renaming some→Z,none→U,bind_some→aD,map_some→bU,map→l7
open Region renaming wanted→iJ
open Result renaming andThen_ok→cJ
open Sem renaming run_bind→eA,run→ka,run_pure→oM
open Utf8 renaming decode→xJ
open Value.bool renaming injEq→Bq
open World renaming shape?→rx,cell?→M0
noncomputable section
theorem qO.wren {φ:PM} {E:Nat->Prop} {h:HF} {w w':World} (r:qO φ E h w) {id nx k:Nat} {b b':u_} {ob:Obj} (hb:h id=Z b) (hk:φ id=Z k) (hnx:φ nx=U) (z:Es w w' k ob) (hob:iV φ (tot E φ h) w b' ob) (nw:HF) (hnw:nw nx=Z b') (hnid:nw id=U):
 ∃φ',φ' nx=Z k/\iW φ φ' h (eF h [nx,id] nw) w w'/\(∀i k,φ' i=Z k->φ i=Z k\/i∈[nx])/\qO φ' E (eF h [nx,id] nw) w':=by
 have hne:nx≠id:=λe=>by rw[e,hk]at hnx;cases hnx
 have hsub:∀i x,eF h [nx,id] nw i=Z x->i≠nx->h i=Z x/\i≠id:=λi x A hi=>by
  unfold eF at A;by_cases hd:i=id
  .subst hd;simp[hnid]at A
  .simp[hi,hd]at A;exact⟨A,hd⟩
 have hφ:∀i,i≠nx->(if i=nx then Z k else φ i)=φ i:=λi hi=>by simp[hi]
 have m:iW φ (λi=>if i=nx then Z k else φ i) h (eF h [nx,id] nw) w w':=by
  refine ⟨λi k' s=>?_,⟨z.os,z.tape,z.output,by rw[z.size];exact cF _,λj hj I=>?_,λj _=>z.shp j⟩,?_⟩
  .have:i≠nx:=λe=>by rw[e,hnx]at s;cases s
   rw[hφ i this];exact s
  .exact z.other j (λe=>I (e▸⟨id,b,hb,hk⟩))
  .rintro j hj ⟨i,x,h1,h2⟩;by_cases hi:i=nx
   .simp[hi]at h2;subst h2;exact⟨id,b,hb,hk⟩
   .have D:φ i=Z j:=by simpa[hi] using h2
    exact⟨i,x,(hsub i x h1 hi).1,D⟩
 refine ⟨_,by simp,m,λi k' s=>?_,⟨λi j x y F hi hj h1 h2=>?_,λi x hi=>?_,λk hk=>dz (r.el k hk) m.ext.size,λg cells hg=>m.keepF (r.gl g cells hg)⟩⟩
 .by_cases hi:i=nx
  .right;simp[hi]
  .left;rw[hφ i hi]at s;exact s
 .by_cases d:i=nx
  .by_cases q:j=nx
   .rw[d,q]
   .exfalso;rw[hφ j q]at h2;simp[d]at h1;subst h1;obtain⟨q1,q2⟩:=hsub j y hj q;exact q2 (r.inj j id y b k q1 hb h2 hk)
  .rw[hφ i d]at h1;obtain⟨p1,p2⟩:=hsub i x hi d;by_cases q:j=nx
   .exfalso;simp[q]at h2;subst h2;exact p2 (r.inj i id x b k p1 hb h1 hk)
   .rw[hφ j q]at h2;exact r.inj i j x y F p1 (hsub j y hj q).1 h1 h2
 .by_cases d:i=nx
  .subst d;have:x=b':=by unfold eF at hi;simp[hnw]at hi;exact hi.symm
   subst this;obtain⟨k',h1,h2,_⟩:=r.at_ id b hb;rw[hk]at h1;cases h1;exact⟨k,by simp,h2,ob,z.at_,hob.mono λ_ _ h=>m.keep h⟩
  .obtain⟨p1,p2⟩:=hsub i x hi d;obtain⟨k',h1,h2,ob',D,L⟩:=r.at_ i x p1;have hne':k'≠k:=λe=>p2 (r.inj i id x b k p1 hb (e▸h1) hk)
   exact⟨k',by rw[hφ i d];exact h1,h2,ob',by rw[z.other k' hne'];exact D,L.mono λ_ _ h=>m.keep h⟩
theorem qO.cs {φ:PM} {E:Nat->Prop} {h':HF} {w:World} (hrep:qO φ E h' w) {id k:Nat} {b:u_} (hb:h' id=Z b) (hk:φ id=Z k) (hc:b.c.isCells=M):
 ∃arr,w.heap[k]? =Z (.cells arr b.ty (0,0))/\Cs φ (tot E φ h') w b.c.toMx (arr.toList.take b.c.toMx.length)/\b.c.toMx.length<=arr.size:=by
 obtain⟨k',h1,_,h2⟩:=hrep.at_ id b hb;rw[hk]at h1;cases h1;obtain⟨arr,D,s,q⟩:=h2.cells hc;rw[BC.len_toMx hc]at s;refine ⟨arr,D,⟨by simp;omega,λx d=>?_,λj x v d hv=>?_⟩,s⟩
 .obtain⟨j,hj⟩:=eW d;exact (q j x (by rw[BC.get_toMx hc];exact hj)).1
 .obtain⟨_,u,A,z⟩:=q j x (by rw[BC.get_toMx hc];exact d);rw[cA]at hv;split at hv
  .rw[cq,A]at hv;cases hv;exact z
  .cases hv
section
variable {P:Program} {o:Oper} {e:y_} {h:nX} {nx:Nat} {R:zZ}
theorem MN {t:TypeId} {b:Nat} (hb:Ek P t=Z b):∃i,P.info? t=Z i/\i.bytes=b:=by
 unfold Ek at hb;cases hi:P.info? t with
 |none=>rw[hi]at hb;cases hb
 |some i=>rw[hi]at hb;simp at hb;exact⟨i,rfl,hb⟩
theorem BH {n b:Nat} (h:bc n b=M):n<=1099511627776/\n*b<=1099511627776:=by
 simp only[bc,ak]at h;exact⟨a_ h.1,a_ h.2⟩
theorem Yp {n:Int} (h1: -9223372036854775808<=n) (h2:n<=9223372036854775807):oQ .i64 n=n:=by
 rw[<- xV];have:(cP (-9223372036854775808) n&&cP n 9223372036854775807)=M:=by simp[cP,h1,h2]
 simp only[G3,LJ,this,bE]
theorem ag6 {t el:TypeId} {sz bytes:Nat} {z:ξ} {l c:Operand} (I:o.op= .makeSlice t l c) (hu:P.underlying t=Z (.slice el)) (hz:sF P el=Z z) (hs:fc P el=Z sz) (hb:Ek P el=Z bytes) (hc:mK z=M) (hl:z.length=sz) (hsz:sz≠0)
 (q:ef (.mksl el sz bytes z l c) e h nx=Z R):gB P o e.get h.get R.eff:=by
 simp only[ef]at q;split at q
 .rename_i k1 n k2 m d hy;split at q
  .rename_i hcd;simp only[cP,ak,bz]at hcd;obtain⟨⟨h0,h1⟩,h2⟩:=hcd;obtain⟨r1,r2⟩:=BH h2;simp only[af]at q;subst q;refine gB.makes λφ E h' w a _ hp _=>?_
   have e1:=eJ (hp l _ (by rw[I];simp[Op.operands]) d);have e2:=eJ (hp c _ (by rw[I];simp[Op.operands]) hy);obtain⟨v,z1,z2,_⟩:=s7 hz w;obtain⟨i,i1,i2⟩:=MN hb;have s1:=fX hs w;have w1:oQ .i64 n=n:=Yp (by omega) (by omega);have w2:oQ .i64 m=m:=Yp (by omega) (by omega);have hbm:(bytes:Int)*m=((m.toNat*bytes:Nat):Int):=by
    rw[Int.natCast_mul,pV (by omega),Int.mul_comm]
   have t1:¬(m<0\/(281474976710656:Int)<bytes*m):=by rw[hbm];omega
   have hr:¬(m.toNat*bytes>roomBytes):=by unfold roomBytes;omega
   have L:m.toNat*sz=0->m.toNat=0:=λh=>(Nat.mul_eq_zero.1 h).resolve_right hsz
   let cells:Array Value:=(xL (m.toNat*sz)).map (λi=>v.cells[i%v.cells.size]!)
   refine ⟨.slice (Z ⟨w.heap.size,0,U⟩) n.toNat m.toNat,{w with heap:=w.heap.push (.cells cells el)},.cells cells el (0,0),?_,qP w _,?_,λφ' O hφ=>?_⟩
   .unfold execOp;rw[I];by_cases A:m.toNat*sz=0
    .obtain rfl:m=0:=by have:=L A;omega
     obtain rfl:n=0:=by omega
     simp[Instr.makeSlice,run_underlying hu,e1,e2,asInt,asIntOf,typeInfo,i1,w1,askRoom,s1,newRow,newObj,ka,cells];rw[show xL 0=#[] from rfl];simp
    .simp[Instr.makeSlice,run_underlying hu,e1,e2,asInt,asIntOf,typeInfo,i1,i2,w1,w2,t1,show ¬n<0 by omega,show ¬m<n by omega,askRoom,hr,s1,A,z1,newRow,newObj,ka,cells]
   .have cs:=Cs.repl (φ:=φ) (O:=tot E φ h') (w:=w) z2 m.toNat sz hl hsz hc;have hle:n.toNat<=m.toNat:=by omega
    have hlen:n.toNat*sz<=m.toNat*sz:=cz _ hle;refine pZ rfl (by simp[BC.toMx,mQ,hl,cells];exact hlen) λj x d=>?_
    simp only[BC.toMx,bi]at d;have hj:j<n.toNat*z.length:=by
     rcases bM j (n.toNat*z.length) with h|h
     .exact h
     .rw[bJ (by rw[mQ];exact h)]at d;cases d
    have F:j<m.toNat*z.length:=by rw[hl]at hj ⊢;omega
    rw[BI z _ j hj,<-BI z m.toNat j F]at d;have s:((repl z m.toNat).map AV.f)[j]? =Z x:=by rw[bi];exact d
    have D:j<cells.toList.length:=by simp[cells];rw[<- hl];exact F
    exact⟨cs.2.1 x (bh s),cells.toList[j],by rw[<- cq];exact ax D,cs.2.2 j x _ s (ax D)⟩
   .refine .row hφ (by omega) (by unfold maxLen;omega) ⟨el,?_⟩;unfold rx;simp[cells]
  .cases q
 .cases q
theorem adf {t:TypeId} {x y:Operand} {sz:Nat} (D:o.op= .store t x y) (hs:fc P t=Z sz) (d:ef (.store sz x y) e h nx=Z R):gB P o e.get h.get R.eff:=by
 simp only[ef]at d;split at d
 .rename_i p v hx hy;unfold JU at d;split at d
  .rename_i id off;split at d
   .rename_i b hb;split at d
    .rename_i hl;split at d
     .rename_i c' hput;simp only[af]at d;subst d;unfold BC.put at hput;split at hput
      .rename_i hcc;simp only[ak]at hcc;obtain⟨⟨c1,L⟩,c3⟩:=hcc;have L:=a_ L;have hl:v.cs.length=sz:=by simpa using hl
       have s:c'.toMx=splice b.c.toMx off v.cs/\c'.isCells=M:=by
        split at hput
        .rename_i l ys hbl hys;simp only[af]at hput;subst hput;refine ⟨?_,rfl⟩;have hv:=pN hys;rw[hv,hbl];simp only[BC.toMx];unfold splice;simp[pD,List.map_drop]
        .simp only[af]at hput;subst hput;exact⟨rfl,rfl⟩
       refine gB.writes hb λφ E h' w a hrd F hp hrep=>?_
       have hr:=TU (hp y _ (by rw[D];simp[Op.operands]) hy) c3;have hpx:=hp x _ (by rw[D];simp[Op.operands]) hx;generalize hz:a.eval x=pv at hpx;cases hpx with
       |@ptr _ _ k hφ=>
        obtain⟨arr,g1,g2,g3⟩:=hrep.cs F hφ c1;have hvl:(a.eval y).cells.toList.length=sz:=by rw[hr.1];exact hl
        rw[BC.len_toMx c1]at L;have hst:=run_storeCells_at (P:=P) k off b.ty (a.eval y).cells.toList 0 arr w g1 (by rw[hvl];omega) hr.one
        let arr':Array Value:=(arr.toList.take off++(a.eval y).cells.toList++arr.toList.drop (off+sz)).toArray
        have hsize:arr'.size=arr.size:=by simp only[arr',sN,b6,b7,kI,iq,hvl];omega
        refine ⟨.skip,w.setRow k arr',k,.cells arr' b.ty (0,0),?_,hφ,Es.setRow g1 hsize,?_,undef,.inr ⟨rfl,rfl⟩,.f (.raw _)⟩
        .have s1:=fX hs w;have hvs:(a.eval y).cells.size=sz:=by simpa using hvl
         simp only[dh,hvl]at hst;unfold execOp;rw[D];simp[Instr.storeAt,hz,Instr.sureAddr,storeVar,s1,hvs,hst,arr']
        .refine pZ s.2 (by rw[s.1,oo (by omega),hsize];exact g3) λj q hq=>?_
         rw[s.1,mP (by omega)]at hq;have I:arr'[j]? =if j<off then arr.toList[j]? else if j<off+sz then (a.eval y).cells.toList[j-off]? else arr.toList[j]? :=by
          have:=mP (l:=arr.toList) (vs:=(a.eval y).cells.toList) (off:=off) (by have:=hvl;simp only[iq]at this ⊢;omega) j;unfold splice at this;rw[hvl]at this;simp only[arr',ky];exact this
         have old:b.c.toMx[j]? =Z q->q.isCell=M/\∃u,arr.toList[j]? =Z u/\cH φ (tot E φ h') w q u:=λhq=>by
          have hj:j<b.c.toMx.length:=(bm.1 hq).1;have A:j<arr.toList.length:=by simp;omega
          refine ⟨g2.2.1 q (bh hq),arr.toList[j],ax A,g2.2.2 j q _ hq ?_⟩;rw[cA,aT hj,ax A]
         rw[I];by_cases h1:j<off
         .rw[aT h1]at hq ⊢;exact old hq
         .rw[aL h1]at hq ⊢;by_cases h2:j<off+sz
          .rw[aT (by omega)]at hq;rw[aT h2];have z:j-off<(a.eval y).cells.toList.length:=by omega
           exact⟨hr.2.1 q (bh hq),_,ax z,hr.2.2 _ q _ hq (ax z)⟩
          .rw[aL (by omega)]at hq;rw[aL h2];exact old hq
      .cases hput
     .cases d
    .cases d
   .cases d
  .cases d
 .cases d
end
section
variable {P:Program} {o:Oper} {e:y_} {h:nX} {nx:Nat} {R:zZ}
theorem ag1 (A:Addr):A.add 0=A:=by cases A;simp[Addr.add]
theorem aj2 {t el:TypeId} {sz:Nat} {x:Operand} {lo hi mx:J Operand} (D:o.op= .slice t x lo hi mx) (hu:P.underlying t=Z (.slice el)) (hs:fc P el=Z sz) (d:ef (.slc sz x lo hi mx) e h nx=Z R):gB P o e.get h.get R.eff:=by
 simp only[ef]at d;split at d
 .rename_i v I;split at d
  ·
   rename_i k k';split at d
   .rename_i hsl;rw[dv d];refine gB.reads λφ E h' w a _ hp _=>?_
    have hr:=hp x _ (by rw[D];simp[Op.operands]) I;have F:∃A n c,a.eval x= .slice A n c:=by
     generalize a.eval x=z at hr;obtain⟨n,hn⟩:=iK.1 hsl;unfold AV.slen at hn;split at hn
     .cases hr with
      |f hr=>cases hr with
       |nil=>exact⟨_,_,_,rfl⟩
       |sl=>exact⟨_,_,_,rfl⟩
     .cases eJ hr;exact⟨_,_,_,rfl⟩
     .cases hr;exact⟨_,_,_,rfl⟩
     .cases hr;exact⟨_,_,_,rfl⟩
     .cases hr;exact⟨_,_,_,rfl⟩
     .cases hn
    obtain⟨A,n,c,F⟩:=F;have s1:=fX hs w;refine ⟨.slice A 0 0,?_,.emp⟩;unfold execOp;rw[D];have z0:∀k,a.eval (.const (.int k 0))= .int k 0:=λ_=>rfl
    simp[kN,oR,run_underlying hu,F,gC,g_,asIntOf,s1,z0]
   .cases d
  ·
   rename_i b;split at d
   .rename_i id sz' n k j hb;split at d
    .rename_i hc;simp only[cP,ak,bz,cR]at hc;obtain⟨⟨rfl,h0⟩,h1⟩:=hc;split at d
     .rename_i blk hblk;split at d
      .rename_i hcl;simp only[ak]at hcl;obtain⟨hcells,hlen⟩:=hcl;have hlen:=a_ hlen;rw[BC.len_toMx hcells]at hlen;simp only[af]at d;subst d;intro φ E h' w a g1 g2 g3 hrep g5;have hp:Sm φ E h' w a e o:=λx y I s=>rN hrep g3 I s
       have hb':h' id=Z blk:=by rw[g1 id (by simp[zZ.eff])];exact hblk
       have hr:=hp x _ (by rw[D];simp[Op.operands]) I;have hbv:=eJ (hp b _ (by rw[D];simp[Op.operands]) hb);have hnx:φ nx=U:=g5 nx (by simp[zZ.eff]);generalize F:a.eval x=z at hr;cases hr with
       |@row _ _ _ c q hφ hn hcap hsh=>
        obtain⟨arr,a1,a2,a3⟩:=hrep.cs hb' hφ hcells;have s1:=fX hs w;have hne:nx≠id:=λe=>by rw[e,hφ]at hnx;cases hnx
        have hnw1:jf [(nx,⟨blk.ty,oE (blk.c.toMx.take (j.toNat*sz'))⟩)] nx=Z (⟨blk.ty,oE (blk.c.toMx.take (j.toNat*sz'))⟩:u_):=by simp[jf]
        have hnw2:jf [(nx,⟨blk.ty,oE (blk.c.toMx.take (j.toNat*sz'))⟩)] id=U:=by
         simp only[jf];rw[aL];intro hb;exact hne (au hb)
        have a4:=a2.take (j.toNat*sz');obtain⟨φ',p1,p2,p3,p4⟩:=hrep.wren hb' hφ hnx (w':=w) ⟨rfl,rfl,rfl,rfl,a1,λ_ _=>rfl,λ_=>rfl⟩ (b':=⟨blk.ty,oE (blk.c.toMx.take (j.toNat*sz'))⟩) (by
         obtain⟨q1,q2⟩:=nK (blk.c.toMx.take (j.toNat*sz'));refine pZ q2 (by rw[q1,b7];omega) λi x I=>?_
         rw[q1]at I;have hi:i<((arr.toList.take blk.c.toMx.length).take (j.toNat*sz')).length:=by rw[a4.1];exact (bm.1 I).1
         refine ⟨a4.2.1 x (bh I),_,?_,a4.2.2 i x _ I (ax hi)⟩;have hi':i<arr.size:=by simp at hi;omega
         simp[hi']) _ hnw1 hnw2
        have hrun:(execOp a.eval o).run P w= .ok (.value (.slice (Z ⟨q,0,U⟩) j.toNat c)) w:=by
         unfold execOp;rw[D];simp[kN,oR,run_underlying hu,F,gC,g_,asIntOf,s1,hbv,h0,show j<=c by omega,jP]
        unfold G0;rw[hrun];exact⟨_,φ',rfl,p2,p3,p4,.row p1 (by omega) hcap hsh⟩
      .cases d
     .cases d
    .cases d
   .rename_i cells n k j hb;split at d
    .rename_i hc;simp only[cP,ak,bz]at hc;obtain⟨⟨h0,h1⟩,h2⟩:=hc;have h2:=a_ h2;rw[dv d];refine gB.reads λφ E h' w a _ hp _=>?_
     have hr:=hp x _ (by rw[D];simp[Op.operands]) I;have hbv:=eJ (hp b _ (by rw[D];simp[Op.operands]) hb);generalize F:a.eval x=z at hr;have s1:=fX hs w;cases hr with
     |f hr=>
      cases hr with
      |nil A c hc=>
       have hj:j=0:=by omega
       subst hj;refine ⟨.slice A 0 c,?_,by simpa using cH.f (.nil A c hc)⟩;unfold execOp;rw[D];cases A<;>simp[kN,oR,run_underlying hu,F,gC,g_,asIntOf,s1,hbv,ag1]
      |sl _ _ c q off us hn hc hO hq hcl L hr=>
       refine ⟨.slice (Z ⟨q,off,U⟩) j.toNat c,?_,.f (.sl _ _ _ _ _ us (by omega) hc hO hq (λy s=>hcl y (eV s)) (λi hi=>L i (by rw[b7]at hi;omega)) λi y s=>?_)⟩
       .unfold execOp;rw[D];simp[kN,oR,run_underlying hu,F,gC,g_,asIntOf,s1,hbv,h0,show j<=c by omega,jP]
       .rw[cA]at s;split at s
        .exact hr i y s
        .cases s
    .cases d
   .cases d
  ·
   rename_i b;split at d
   .rename_i id sz' n k j hb;split at d
    .rename_i hc;simp only[cP,fK,ak,bz,cR]at hc;obtain⟨⟨rfl,h0⟩,h1⟩:=hc;rw[dv d];refine gB.reads λφ E h' w a _ hp _=>?_
     have hr:=hp x _ (by rw[D];simp[Op.operands]) I;have hbv:=eJ (hp b _ (by rw[D];simp[Op.operands]) hb);generalize F:a.eval x=z at hr;cases hr with
     |@row _ _ _ c q hφ hn hc hsh=>
      have s1:=fX hs w;refine ⟨.slice (Z ⟨q,0+j.toNat*sz',U⟩) (n-j.toNat) (c-j.toNat),?_,?_⟩
      .unfold execOp;rw[D];simp[kN,oR,run_underlying hu,F,gC,g_,asIntOf,s1,hbv,h0,show j<=n by omega,show ¬c=j.toNat by omega,jP]
      .rw[bL];exact .sl hφ (by omega) (by omega)
    .cases d
   .rename_i cells n k j hb;split at d
    .rename_i hc;simp only[cP,ak,bz]at hc;obtain⟨⟨h0,h1⟩,h2⟩:=hc;have h2:=a_ h2;rw[dv d];refine gB.reads λφ E h' w a _ hp _=>?_
     have hr:=hp x _ (by rw[D];simp[Op.operands]) I;have hbv:=eJ (hp b _ (by rw[D];simp[Op.operands]) hb);generalize F:a.eval x=z at hr;have s1:=fX hs w;cases hr with
     |f hr=>
      cases hr with
      |nil A c hc=>
       have hj:j=0:=by omega
       subst hj;have hex:∃A',(execOp a.eval o).run P w= .ok (.value (.slice A' 0 c)) w:=by
        unfold execOp;rw[D];cases A with
        |none=>exact⟨U,by simp[kN,oR,run_underlying hu,F,gC,g_,asIntOf,s1,hbv]⟩
        |some A=>exact⟨Z A,by simp[kN,oR,run_underlying hu,F,gC,g_,asIntOf,s1,hbv,ag1]⟩
       obtain⟨A',hex⟩:=hex;exact⟨.slice A' 0 c,hex,by simpa using cH.f (.nil A' c hc)⟩
      |sl _ _ c q off us hn hc hO hq hcl L hr=>
       by_cases hcj:c=j.toNat
       .refine ⟨.slice (Z ⟨q,off,U⟩) 0 0,?_,?_⟩
        .unfold execOp;rw[D];simp[kN,oR,run_underlying hu,F,gC,g_,asIntOf,s1,hbv,h0,show j<=n by omega,hcj,show n-j.toNat=0 by omega,jP]
        .rw[show n-j.toNat=0 by omega];simpa using cH.f (.nil (Z ⟨q,off,U⟩) 0 (by unfold maxLen;omega))
       .refine ⟨.slice (Z ⟨q,off+j.toNat*sz,U⟩) (n-j.toNat) (c-j.toNat),?_,.f (.sl _ _ _ _ _ (λi=>us (j.toNat*sz+i)) (by omega) (by omega) hO hq (λy s=>hcl y (List.mem_of_mem_drop (eV s))) (λi hi=>?_) λi y s=>?_)⟩
        .unfold execOp;rw[D];simp[kN,oR,run_underlying hu,F,gC,g_,asIntOf,s1,hbv,h0,show j<=n by omega,hcj,jP]
        .rw[v_];refine L _ ?_;rw[b7,kI]at hi;omega
        .rw[cA]at s;split at s
         .rw[gP]at s;exact hr _ y s
         .cases s
    .cases d
   .cases d
  ·
   rename_i b b' _;split at d
   .rename_i cells n k j k' j' hb hb';split at d
    .rename_i hc;simp only[cP,ak,bz]at hc;obtain⟨⟨⟨hjj,h0⟩,h1⟩,h2⟩:=hc;subst hjj;have h2:=a_ h2;rw[dv d];refine gB.reads λφ E h' w a _ hp _=>?_
     have hr:=hp x _ (by rw[D];simp[Op.operands]) I;have hbv:=eJ (hp b _ (by rw[D];simp[Op.operands]) hb);have hbv':=eJ (hp b' _ (by rw[D];simp[Op.operands]) hb');generalize F:a.eval x=z at hr;have s1:=fX hs w;cases hr with
     |f hr=>
      cases hr with
      |nil A c hc=>
       have hj:j=0:=by omega
       subst hj;refine ⟨.slice A 0 0,?_,by simpa using cH.ful (mw.nil A 0 (by unfold maxLen;omega))⟩;unfold execOp;rw[D];cases A<;>simp[kN,oR,run_underlying hu,F,gC,g_,asIntOf,s1,hbv,hbv',ag1]
      |sl _ _ c q off us hn hc hO hq hcl L hr=>
       refine ⟨.slice (Z ⟨q,off,U⟩) j.toNat j.toNat,?_,.ful (.sl _ _ _ _ _ us (cF _) (by omega) hO hq (λy s=>hcl y (eV s)) (λi hi=>L i (by rw[b7]at hi;omega)) λi y s=>?_)⟩
       .unfold execOp;rw[D];simp[kN,oR,run_underlying hu,F,gC,g_,asIntOf,s1,hbv,hbv',h0,show j<=c by omega,jP];intro hlt;omega
       .rw[cA]at s;split at s
        .exact hr i y s
        .cases s
    .cases d
   .cases d
  .cases d
 .cases d
theorem YI {sz:Nat} {x:AV} {src:Y AV} {m:Nat} {rd:ι} (hrow:x.row? h sz=Z (src,m,rd)) {φ:PM} {E:Nat->Prop} {h':HF} {w:World} (hrd:∀i∈rd,h' i=h.get i) (hrep:qO φ E h' w) {v:Value} (hr:cH φ (tot E φ h') w x v):
 ∃A c vs,v= .slice A m c/\Cs φ (tot E φ h') w src vs/\vs.length=m*sz/\(A=U->vs=[])/\(∀s,A=Z s->∀(j:Nat) u,vs[j]? =Z u->w.cell? (s.add j)=Z u):=by
 have emp:∀A c,v= .slice A 0 c->src=[]->m=0->∃A c vs,v= .slice A m c/\Cs φ (tot E φ h') w src vs/\vs.length=m*sz/\(A=U->vs=[])/\(∀s,A=Z s->∀(j:Nat) u,vs[j]? =Z u->w.cell? (s.add j)=Z u):=by
  rintro A c rfl rfl rfl;exact⟨A,c,[],rfl,⟨rfl,(by intro x d;cases d),(by intro j x v d;simp at d)⟩,by simp,λ_=>rfl,by intro s _ j u hu;simp at hu⟩
 have own:∀(id off n c k:Nat) (b:u_),φ id=Z k->h' id=Z b->b.c.isCells=M->off+n*sz<=b.c.len->v= .slice (Z ⟨k,off,U⟩) n c->src=(b.c.toMx.drop off).take (n*sz)->m=n->
  ∃A c vs,v= .slice A m c/\Cs φ (tot E φ h') w src vs/\vs.length=m*sz/\(A=U->vs=[])/\(∀s,A=Z s->∀(j:Nat) u,vs[j]? =Z u->w.cell? (s.add j)=Z u):=by
  rintro id off n c k b hφ hb hc hle rfl rfl rfl;obtain⟨arr,L,I,g3⟩:=hrep.cs hb hφ hc;rw[BC.len_toMx hc]at hle;refine ⟨_,c,((arr.toList.take b.c.toMx.length).drop off).take (m*sz),rfl,(I.drop off).take _,?_,(λh=>by cases h),?_⟩
  .simp;omega
  .intro s had j u hu;cases had;rw[jP];rw[cA]at hu;split at hu
   .rw[gP,cA]at hu;split at hu
    .rw[cq]at hu;simp[M0,L,hu]
    .cases hu
   .cases hu
 unfold AV.row? at hrow;split at hrow
 .rename_i cells n;split at hrow
  .rename_i hle;have hle:=a_ hle;simp only[af,aC]at hrow;obtain⟨rfl,rfl,rfl⟩:=hrow;cases hr with
   |f hr=>
    cases hr with
    |nil a c hc=>exact emp a c rfl (by simp) rfl
    |sl _ _ c b off us hn hc hO hb hcl hu hr=>
     refine ⟨_,c,(fm (n*sz)).map us,rfl,⟨by simp;omega,λx d=>?_,λj x u d z=>?_⟩,by simp,(λh=>by cases h),?_⟩
     .obtain⟨y,F,rfl⟩:=c7.1 d;exact hcl y (eV F)
     .obtain⟨rfl,hj⟩:=wH us _ _ _ z;rw[bi,cA,aT hj]at d;cases hq:cells[j]? with
      |none=>rw[hq]at d;cases d
      |some q=>rw[hq]at d;simp at d;subst d;exact .f (hr j q hq)
     .intro s had j u z;cases had;obtain⟨rfl,hj⟩:=wH us _ _ _ z;rw[jP];exact hu j (by omega)
  .cases hrow
 .simp only[af,aC]at hrow;obtain⟨rfl,rfl,rfl⟩:=hrow;exact emp U 0 (eJ hr) rfl rfl
 .simp only[af,aC]at hrow;obtain⟨rfl,rfl,rfl⟩:=hrow;cases hr with
  |@emp a=>exact emp a 0 rfl rfl rfl
 .rename_i id sz' n;split at hrow
  .rename_i hsz;split at hrow
   .rename_i b hb;split at hrow
    .rename_i hc;simp only[ak]at hc;simp only[af,aC]at hrow;obtain⟨rfl,rfl,rfl⟩:=hrow;cases hr with
     |@row _ _ _ c k hφ hn D hsh=>
      exact own id 0 n c k b hφ (by rw[hrd id (by simp)];exact hb) hc.1 (by rw[bL];exact a_ hc.2) rfl (by simp) rfl
    .cases hrow
   .cases hrow
  .cases hrow
 .rename_i id off n;split at hrow
  .rename_i b hb;split at hrow
   .rename_i hc;simp only[ak]at hc;simp only[af,aC]at hrow;obtain⟨rfl,rfl,rfl⟩:=hrow;cases hr with
    |@sl _ _ _ c k hφ hn D=>exact own id off n c k b hφ (by rw[hrd id (by simp)];exact hb) hc.1 (a_ hc.2) rfl rfl rfl
   .cases hrow
  .cases hrow
 .cases hrow
theorem abk {sz:Nat} {x:AV} {src:Y AV} {m:Nat} {rd:ι} (hrow:x.row? h sz=Z (src,m,rd)) {φ:PM} {E:Nat->Prop} {h':HF} {w:World} (hrd:∀i∈rd,h' i=h.get i) (hrep:qO φ E h' w) {v:Value} (hr:cH φ (tot E φ h') w x v) {d el:TypeId} (hk:P.underlying d=Z (.slice el)):
 ∃vs,Src P sz d v m vs w/\Cs φ (tot E φ h') w src vs:=by
 obtain⟨A,c,vs,rfl,h1,h2,z,s⟩:=YI hrow hrd hrep hr;refine ⟨vs,?_,h1⟩;cases A with
 |none=>
  have:=z rfl;subst this;have hm:m*sz=0:=by simpa using h2.symm
  refine ⟨.inl ⟨el,hk⟩,λ_=>rfl,run_firstCells_none w sz m m c,run_firstCells_none w.drew sz m m c,by simp[hm],λ_ h=>by cases h⟩
 |some q=>exact Src.ofSlice w hk q m c vs h2 (s q rfl) h1.one
theorem afg {x:Nat}:∀{l:ι},Wt x l=M↔x∈l
 |[]=>by simp[Wt]
 |y::r=>by
  simp only[Wt,iQ,afg (l:=r),bu];constructor
  .rintro (h|h)
   .exact .inl (au h).symm
   .exact .inr h
  .rintro (h|h)
   .subst h;exact .inl (rA x)
   .exact .inr h
theorem agc {t u el el':TypeId} {d x:Operand} {sz:Nat} (L:o.op= .call {callee:=.builtin .copy,args:=#[d,x],argTypes:=#[t,u]}) (hu:P.underlying t=Z (.slice el)) (hu':P.underlying u=Z (.slice el')) (hs:fc P el=Z sz) (s:ef (.copy sz d x) e h nx=Z R):gB P o e.get h.get R.eff:=by
 simp only[ef]at s;split at s
 .rename_i id sz' n y hd hx;split at s
  .rename_i blk src m rd hblk hrow;split at s
   .rename_i hc;simp only[ak,cR,d_]at hc;obtain⟨⟨rfl,hmem⟩,hlen⟩:=hc;split at s
    .rename_i c' hput;simp only[af]at s;subst s;unfold BC.put at hput;split at hput
     .rename_i hcc;simp only[ak]at hcc;obtain⟨⟨c1,I⟩,c3⟩:=hcc;have I:=a_ I;rw[bL]at I;have z:c'.toMx=splice blk.c.toMx 0 (src.take (iO m n*sz'))/\c'.isCells=M:=by
       split at hput
       .rename_i l ys hbl hys;simp only[af]at hput;subst hput;refine ⟨?_,rfl⟩;have hv:=pN hys;rw[hv,hbl];simp only[BC.toMx];unfold splice;simp[pD,List.map_drop]
       .simp only[af]at hput;subst hput;exact⟨rfl,rfl⟩
      refine gB.writes hblk λφ E h' w a hrd hb' hp hrep=>?_
      have hpd:=hp d _ (by rw[L];simp[Op.operands,dO]) hd;have hpx:=hp x _ (by rw[L];simp[Op.operands,dO]) hx;obtain⟨A,c,vs,hv,q1,q2,q3,q4⟩:=YI hrow (λi hi=>hrd i (by simp[hi])) hrep hpx;generalize hz:a.eval d=pv at hpd;cases hpd with
      |@row _ _ _ cap k hφ hn hcap hsh=>
       obtain⟨arr,g1,g2,g3⟩:=hrep.cs hb' hφ c1;rw[BC.len_toMx c1]at I;have hmn:iO m n<=m:=Nat.min_le_left _ _;have hle:iO m n*sz'<=m*sz':=cz _ hmn
       let ns:=vs.take (iO m n*sz')
       have hnl:ns.length=iO m n*sz':=by simp only[ns,b7,q2];omega
       have hsl:(src.take (iO m n*sz')).length=iO m n*sz':=by rw[b7,<-q1.1,q2];omega
       have csn:=q1.take (iO m n*sz');rw[hsl]at I;have hst:=run_storeCells_at (P:=P) k 0 blk.ty ns 0 arr w g1 (by rw[hnl];omega) csn.one
       let arr':Array Value:=(arr.toList.take 0++ns++arr.toList.drop (0+iO m n*sz')).toArray
       have hsize:arr'.size=arr.size:=by simp only[arr',sN,b6,b7,kI,iq,hnl];omega
       have hfc:(xf sz' (iO m n) (.slice A m c)).run P w= .ok ns.toArray w:=by
        cases A with
        |none=>
         have:ns=[]:=by simp[ns,q3 rfl]
         rw[this];exact run_firstCells_none w sz' _ _ _
        |some ad=>exact run_firstCells_some w sz' _ ad m c ns hnl (λj u hu=>q4 ad rfl j u (by
          simp only[ns,cA]at hu;split at hu
          .exact hu
          .cases hu))
       refine ⟨.value (.int .i64 (iO m n)),w.setRow k arr',k,.cells arr' blk.ty (0,0),?_,hφ,Es.setRow g1 hsize,?_,_,.inl rfl,.f (.raw _)⟩
       .have s1:=fX hs w;simp only[dh,hnl]at hst;unfold execOp;rw[L];simp[resolve,invoke,builtin,Builtin.copy_,run_underlying hu,hz,hv,Builtin.lenOf,s1,hfc,hst,goInt,arr']
       .refine pZ z.2 (by rw[z.1,oo (by rw[hsl];omega),hsize];exact g3) λj q hq=>?_
        rw[z.1,mP (by rw[hsl];omega)]at hq;have ha':arr'[j]? =if j<0 then arr.toList[j]? else if j<0+ns.length then ns[j-0]? else arr.toList[j]? :=by
         have:=mP (l:=arr.toList) (vs:=ns) (off:=0) (by simp only[iq];omega) j;unfold splice at this;simp only[arr',ky];rw[<- this,hnl]
        rw[ha',aL (by omega)];rw[aL (by omega),hsl]at hq;rw[hnl];by_cases h2:j<0+iO m n*sz'
        .rw[aT h2]at hq ⊢;have D:j-0<ns.length:=by rw[hnl];omega
         exact⟨csn.2.1 q (bh hq),_,ax D,csn.2.2 _ q _ hq (ax D)⟩
        .rw[aL h2]at hq ⊢;have hj:j<blk.c.toMx.length:=(bm.1 hq).1;have F:j<arr.toList.length:=by simp;omega
         refine ⟨g2.2.1 q (bh hq),arr.toList[j],ax F,g2.2.2 j q _ hq ?_⟩;rw[cA,aT hj,ax F]
     .cases hput
    .cases s
   .cases s
  .cases s
 .cases s
theorem ajh {t el:TypeId} {sz:Nat} {z:ξ} {x:Operand} (ho:o.op= .call {callee:=.builtin .clear,args:=#[x],argTypes:=#[t]}) (hu:P.underlying t=Z (.slice el)) (hz:sF P el=Z z) (hc:mK z=M) (hl:z.length=sz) (hsz:sz≠0) (s:ef (.clr sz z x) e h nx=Z R):gB P o e.get h.get R.eff:=by
 simp only[ef]at s;split at s
 .rename_i id off n hx;split at s
  .rename_i blk hblk;split at s
   .rename_i hn;have hn:=a_ hn;obtain⟨m,rfl⟩:∃m,n=m+1:=⟨n-1,by omega⟩
    split at s
    .rename_i c' hput;simp only[af]at s;subst s;unfold BC.put at hput;split at hput
     .rename_i hcc;simp only[ak]at hcc;obtain⟨⟨c1,I⟩,c3⟩:=hcc;have I:=a_ I;have hsrc:((repl z (m+1)).map AV.f).length=(m+1)*sz:=by rw[ca,mQ,hl]
      rw[hsrc]at I;have A:c'.toMx=splice blk.c.toMx off ((repl z (m+1)).map AV.f)/\c'.isCells=M:=by
       split at hput
       .rename_i l ys hbl hys;simp only[af]at hput;subst hput;refine ⟨?_,rfl⟩;have hv:=pN hys;rw[hv,hbl];simp only[BC.toMx];unfold splice;simp[pD,List.map_drop]
       .simp only[af]at hput;subst hput;exact⟨rfl,rfl⟩
      refine gB.writes hblk λφ E h' w a hrd L hp hrep=>?_
      have hpx:=hp x _ (by rw[ho];simp[Op.operands,dO]) hx;generalize hzv:a.eval x=pv at hpx;cases hpx with
      |@sl _ _ _ cap k hφ hn2 hcap=>
       obtain⟨arr,g1,F,g3⟩:=hrep.cs L hφ c1;rw[BC.len_toMx c1]at I;obtain⟨v,z1,z2,_⟩:=s7 hz w;have csn:=Cs.repl (φ:=φ) (O:=tot E φ h') (w:=w) z2 (m+1) sz hl hsz hc
       let ns:=(lH v.cells (m+1)).toList
       have hvs:v.cells.size=sz:=by rw[<- hl,<-z2];simp
       have hns:ns=((xL ((m+1)*sz)).map (λi=>v.cells[i%v.cells.size]!)).toList:=by simp only[ns,lH,hvs]
       have hnl:ns.length=(m+1)*sz:=by rw[hns];simp
       rw[<- hns]at csn;have hst:=run_storeCells_at (P:=P) k off blk.ty ns 0 arr w g1 (by rw[hnl];omega) csn.one
       let arr':Array Value:=(arr.toList.take (off+0)++ns++arr.toList.drop (off+0+ns.length)).toArray
       have hsize:arr'.size=arr.size:=by simp only[arr',sN,b6,b7,kI,iq,hnl];omega
       refine ⟨.value (.tuple #[]),w.setRow k arr',k,.cells arr' blk.ty (0,0),?_,hφ,Es.setRow g1 hsize,?_,_,.inl rfl,.tup (vs:=[]) rfl λj y v hy=>by simp at hy⟩
       .unfold execOp;rw[ho];have hst2:(storeCells ⟨k,off,U⟩ (lH v.cells (m+1)).toList).run P w= .ok () (w.setRow k arr'):=hst;simp[resolve,invoke,builtin,Builtin.clear_,run_underlying hu,hzv,z1,hst2]
       .refine pZ A.2 (by rw[A.1,oo (by rw[hsrc];omega),hsize];exact g3) λj q hq=>?_
        rw[A.1,mP (by rw[hsrc];omega)]at hq;have ha':arr'[j]? =if j<off then arr.toList[j]? else if j<off+ns.length then ns[j-off]? else arr.toList[j]? :=by
         have:=mP (l:=arr.toList) (vs:=ns) (off:=off) (by simp only[iq];omega) j;unfold splice at this;simp only[arr',ky,dh];rw[<- this]
        rw[ha'];rw[hsrc]at hq;rw[hnl];by_cases h1:j<off
        .rw[aT h1]at hq ⊢;have hj:j<blk.c.toMx.length:=(bm.1 hq).1;have d:j<arr.toList.length:=by simp;omega
         refine ⟨F.2.1 q (bh hq),arr.toList[j],ax d,F.2.2 j q _ hq ?_⟩;rw[cA,aT hj,ax d]
        rw[aL h1]at hq ⊢;by_cases h2:j<off+(m+1)*sz
        .rw[aT h2]at hq ⊢;have D:j-off<ns.length:=by rw[hnl];omega
         exact⟨csn.2.1 q (bh hq),_,ax D,csn.2.2 _ q _ hq (ax D)⟩
        .rw[aL h2]at hq ⊢;have hj:j<blk.c.toMx.length:=(bm.1 hq).1;have d:j<arr.toList.length:=by simp;omega
         refine ⟨F.2.1 q (bh hq),arr.toList[j],ax d,F.2.2 j q _ hq ?_⟩;rw[cA,aT hj,ax d]
     .cases hput
    .cases s
   .cases s
  .cases s
 .cases s
end
theorem LK (w:World) (ob:Obj):RM w (w.drew.alloc ob) ob:=RM.drawn (w.drawn+1) (qP {w with drawn:=w.drawn+1} ob)
section
variable {P:Program} {o:Oper} {e:y_} {h:nX} {nx:Nat} {R:zZ}
theorem Hr {v:Value} {z:ξ} {sz:Nat} (hv:v.cells.toList=z) (hl:z.length=sz) (n:Nat):(lH v.cells n).size=n*sz:=by
 have:v.cells.size=sz:=by rw[<- hl,<-hv];simp
 simp[lH,this]
theorem JX {t u el:TypeId} {s x:Operand} {i:TypeInfo} {z:ξ} (ho:o.op= .call {callee:=.builtin .append,args:=#[s,x],argTypes:=#[t,u]}) (hu:P.underlying t=Z (.slice el)) (F:P.info? el=Z i) (hz:sF P el=Z z) (hzl:z.length=i.size)
 {φ:PM} {E:Nat->Prop} {h':HF} {w:World} {a:Act} (hrep:qO φ E h' w) (hnx:φ nx=U) {A:J Addr} {n cap m:Nat} {olds vs:ξ} {oldA src:Y AV} (hsl:a.eval s= .slice A n cap)
 (hold:(xf i.size n (.slice A n cap)).run P w.drew= .ok olds.toArray w.drew) (csold:Cs φ (tot E φ h') w oldA olds) (hol:olds.length=n*i.size) (hsrc:Src P i.size u (a.eval x) m vs w) (hcs:Cs φ (tot E φ h') w src vs)
 (hg:cap<n+m) (r1:n+m<=1099511627776) (r2:(n+m)*i.bytes<=1099511627776) (del:ι) (hdel:∀j∈del,j≠nx):
 o.wp P a w (λa' w'=>∃v φ',a'=a.put o.dst v/\iW φ φ' h' (eF h' (nx::del) (jf [(nx,⟨el,oE (oldA++src)⟩)])) w w'/\(∀i k,φ' i=Z k->φ i=Z k\/i∈[nx])/\
  qO φ' E (eF h' (nx::del) (jf [(nx,⟨el,oE (oldA++src)⟩)])) w'/\cH φ' (tot E φ' (eF h' (nx::del) (jf [(nx,⟨el,oE (oldA++src)⟩)]))) w' (.row nx i.size (n+m)) v) (λ_ _ _=>False):=by
 obtain⟨D,z1,L,i',d,I⟩:=s7 hz w;rw[F]at d;cases d;have hfb:=growslice_fits (need:=n+m) (old:=cap) (bytes:=i.bytes) hg (by omega);have hrun:=run_append_grow_src w t u o.type el i D hu F I A n cap olds hold (a.eval x) m vs hsrc hg (by omega) hfb;have hgc:=grownCap_ge w (n+m) cap el;have hgm:=grownCap_le_maxLen w (n+m) cap el (by unfold maxLen;omega);generalize grownCap w (n+m) cap el=Gc at hrun hgc hgm;have cs:=csold.append hcs;have hnl:=hsrc.newsLen;obtain⟨φ',p1,p2,p3,p4⟩:=hrep.wnew hnx (LK w _) (b:=⟨el,oE (oldA++src)⟩) (ob:=.cells ((olds++vs).toArray++lH D.cells (Gc-(n+m))) el (0,0)) (by
  obtain⟨q1,q2⟩:=nK (oldA++src);refine pZ q2 (by rw[q1,<-cs.1];simp) λj q hq=>?_
  rw[q1]at hq;have hj:j<(olds++vs).length:=by rw[cs.1];exact (bm.1 hq).1
  refine ⟨cs.2.1 q (bh hq),_,?_,cs.2.2 j q _ hq (ax hj)⟩;rw[Array.getElem?_append_left (by simpa using hj),ky,ax hj]) del (jf [(nx,⟨el,oE (oldA++src)⟩)]) (by simp[jf]) (λj hj hne=>by
   simp only[jf];rw[aL];intro hb;exact hne (au hb).symm)
 have hexec:(execOp a.eval o).run P w= .ok (.value (.slice (Z ⟨w.heap.size,0,U⟩) (n+m) Gc)) (w.drew.alloc (.cells ((olds++vs).toArray++lH D.cells (Gc-(n+m))) el)):=by
  unfold execOp;rw[ho];simp only[resolve,invoke,builtin,eA,oM,cJ,List.map_toArray,fb,List.map_nil,hsl,hrun]
 unfold G0;rw[hexec];refine ⟨_,φ',rfl,p2,p3,p4,.row p1 hgc hgm ⟨el,?_⟩⟩;have:=(LK w (.cells ((olds++vs).toArray++lH D.cells (Gc-(n+m))) el (0,0))).at_;unfold rx;rw[this];have hzs:=Hr L hzl (Gc-(n+m));have e1:(n+m)*i.size+(Gc-(n+m))*i.size=Gc*i.size:=by rw[<- M1];congr 1;omega
 simp only[Array.size_append,sN,b6,hol,hnl,hzs];congr 2;rw[<- e1,M1]
theorem ajk {t u el el':TypeId} {s x:Operand} {sz bytes:Nat} {z:ξ} (I:o.op= .call {callee:=.builtin .append,args:=#[s,x],argTypes:=#[t,u]}) (hu:P.underlying t=Z (.slice el)) (hu':P.underlying u=Z (.slice el')) (hs:fc P el=Z sz) (hb:Ek P el=Z bytes) (hz:sF P el=Z z) (hzl:z.length=sz) (hsz:sz≠0)
 (D:ef (.app el sz bytes s x) e h nx=Z R):gB P o e.get h.get R.eff:=by
 obtain⟨i,i1,i2⟩:=MN hb;have i3:i.size=sz:=by unfold fc at hs;rw[i1]at hs;simpa using hs
 subst i2;subst i3;simp only[ef]at D;split at D
 .rename_i bv y hsv d;split at D
  .rename_i src m rd hrow;have common:∀{φ:PM} {E:Nat->Prop} {h':HF} {w:World} {a:Act},(∀i∈rd,h' i=h.get i)->Sm φ E h' w a e o->qO φ E h' w->∃vs,Src P i.size u (a.eval x) m vs w/\Cs φ (tot E φ h') w src vs:=
    λhrd hp hrep=>abk hrow hrd hrep (hp x _ (by rw[I];simp[Op.operands,dO]) d) hu'
   have exec:∀{w w':World} {a:Act} {v:Value},(EC #[t,u] o.type #[a.eval s,a.eval x]).run P w= .ok v w'->(execOp a.eval o).run P w= .ok (.value v) w':=by
    intro w w' a v hrun;unfold execOp;rw[I];simp[resolve,invoke,builtin,hrun]
   split at D
   .rename_i id sz' n;split at D
    .rename_i blk hblk;split at D
     .rename_i hc;simp only[ak,cR,d_]at hc;obtain⟨⟨⟨⟨⟨rfl,hmem⟩,hcells⟩,hlen⟩,hty⟩,hroom⟩:=hc;have hlen:=a_ hlen;rw[BC.len_toMx hcells]at hlen;obtain⟨r1,r2⟩:=BH hroom;simp only[af]at D;subst D;subst hty;intro φ E h' w a h1 h2 h3 hrep h5;have hp:Sm φ E h' w a e o:=λx y d hy=>rN hrep h3 d hy
      have hb':h' id=Z blk:=by rw[h1 id (by simp[zZ.eff])];exact hblk
      obtain⟨vs,hsrc,hcs⟩:=common (λi hi=>h1 i (by simp[zZ.eff,hi])) hp hrep;have hpd:=hp s _ (by rw[I];simp[Op.operands,dO]) hsv;have hnx:φ nx=U:=h5 nx (by simp[zZ.eff]);have hwv:=hp s _ (by rw[I];simp[Op.operands,dO]) hsv;generalize hzv:a.eval s=pv at hpd;cases hpd with
      |@row _ _ _ cap k hφ hn hcap hsh=>
       obtain⟨arr,g1,g2,g3⟩:=hrep.cs hb' hφ hcells;have hne:nx≠id:=λe=>by rw[e,hφ]at hnx;cases hnx
       have harr:arr.size=cap*i.size:=by
        obtain⟨ty,hty⟩:=hsh;unfold rx at hty;rw[g1]at hty;simp at hty;exact hty.2
       have hnl:=hsrc.newsLen;have hnn:n*i.size<=arr.size:=by omega
       have csnew:Cs φ (tot E φ h') w (blk.c.toMx.take (n*i.size)++src) (arr.toList.take (n*i.size)++vs):=by
        have:=(g2.take (n*i.size)).append hcs
        rwa [List.take_take,Ey hlen]at this
       have hnw1:jf [(nx,⟨blk.ty,oE (blk.c.toMx.take (n*i.size)++src)⟩)] nx=Z ⟨blk.ty,oE (blk.c.toMx.take (n*i.size)++src)⟩:=by simp[jf]
       have hnw2:jf [(nx,⟨blk.ty,oE (blk.c.toMx.take (n*i.size)++src)⟩)] id=U:=by
        simp only[jf];rw[aL];intro hb;exact hne (au hb)
       by_cases hfit:n+m<=cap
       ·
        have hend:n*i.size+vs.length<=arr.size:=by
         rw[hnl,harr,<-M1];exact cz _ hfit
        have hst:=run_storeCells_at (P:=P) k (n*i.size) blk.ty vs 0 arr w g1 (by omega) hsrc.one;simp only[dh]at hst
        let arr':Array Value:=(arr.toList.take (n*i.size)++vs++arr.toList.drop (n*i.size+vs.length)).toArray
        have hsize:arr'.size=arr.size:=by simp only[arr',sN,b6,b7,kI,iq];omega
        have hrun:(EC #[t,u] o.type #[a.eval s,a.eval x]).run P w= .ok (.slice (Z ⟨k,0,U⟩) (n+m) cap) (w.setRow k arr'):=by
         rw[hzv];rcases hsrc.kind with ⟨e',hk⟩|hk<;>simp[EC,run_underlying hu,run_underlying hk,sizeOf,typeInfo,i1,hsrc.len,hfit,hsrc.cells,jP,hst,arr']
        obtain⟨φ',p1,p2,p3,p4⟩:=hrep.wren hb' hφ hnx (Es.setRow g1 hsize) (b':=⟨blk.ty,oE (blk.c.toMx.take (n*i.size)++src)⟩) (by
         obtain⟨q1,q2⟩:=nK (blk.c.toMx.take (n*i.size)++src);refine pZ q2 (by rw[q1,<-csnew.1,hsize];simp;omega) λj q hq=>?_
         rw[q1]at hq;have hj:j<(arr.toList.take (n*i.size)++vs).length:=by rw[csnew.1];exact (bm.1 hq).1
         refine ⟨csnew.2.1 q (bh hq),_,?_,csnew.2.2 j q _ hq (ax hj)⟩;simp only[arr',ky];rw[bQ hj,ax hj]) _ hnw1 hnw2
        unfold G0;rw[exec hrun];refine ⟨_,φ',rfl,p2,p3,p4,.row p1 hfit hcap ⟨blk.ty,?_⟩⟩;unfold rx;rw[setRow_heap w k arr arr' blk.ty (0,0) g1];simp[hsize,harr]
       ·
        have hold:(xf i.size n (.slice (Z ⟨k,0,U⟩) n cap)).run P w.drew= .ok (arr.toList.take (n*i.size)).toArray w.drew:=by
         refine run_firstCells_some w.drew i.size n _ n cap _ (by simp;omega) λj v hv=>?_
         rw[cA]at hv;split at hv
         .rw[cq]at hv;rw[jP,bL];have hcl:w.cell? ⟨k,j,U⟩=Z v:=by simp[M0,g1,hv]
          simpa using hcl
         .cases hv
        exact JX I hu i1 hz hzl hrep hnx hzv hold (by
         have:=g2.take (n*i.size)
         rwa [List.take_take,Ey hlen]at this) (by simp;omega) hsrc hcs (by omega) r1 r2 [id] (λj hj=>by simp at hj;subst hj;exact λe=>hne e.symm)
     .cases D
    .cases D
   .rename_i cells n;split at D
    .rename_i hc;simp only[ak]at hc;obtain⟨hlen,hroom⟩:=hc;have hlen:=a_ hlen;obtain⟨r1,r2⟩:=BH hroom;split at D
     .rename_i hm;have hm:m=0:=by simpa using hm
      subst hm;simp only[af]at D;subst D;refine gB.reads λφ E h' w a hrd hp hrep=>?_
      obtain⟨vs,hsrc,hcs⟩:=common hrd hp hrep;have hr:=hp s _ (by rw[I];simp[Op.operands,dO]) hsv;generalize hz:a.eval s=q at hr;cases hr with
      |@ful _ _ A hr=>
       refine ⟨.slice A n n,exec ?_,.f hr⟩;rw[hz];have hvs:vs=[]:=by have:=hsrc.newsLen;simpa using this
       have L:=hsrc.cells;rw[hvs]at L;rcases hsrc.kind with ⟨e',hk⟩|hk<;>cases A<;>simp[EC,run_underlying hu,run_underlying hk,sizeOf,typeInfo,i1,hsrc.len,L,storeCells]
     .rename_i hm;have hm:m≠0:=by simpa using hm
      simp only[af]at D;subst D;intro φ E h' w a h1 h2 h3 hrep h5;have hp:Sm φ E h' w a e o:=λx y d hy=>rN hrep h3 d hy
      obtain⟨vs,hsrc,hcs⟩:=common (λi hi=>h1 i hi) hp hrep;have hr:=hp s _ (by rw[I];simp[Op.operands,dO]) hsv;generalize hz':a.eval s=q at hr;cases hr with
      |@ful _ _ A hr=>
       have key:∃olds:ξ,(xf i.size n (.slice A n n)).run P w.drew= .ok olds.toArray w.drew/\Cs φ (tot E φ h') w ((cells.take (n*i.size)).map .f) olds/\olds.length=n*i.size:=by
        cases hr with
        |nil a c _=>
         refine ⟨[],?_,⟨by simp,(by intro x d;simp at d),(by intro j x v d;simp at d)⟩,by simp⟩;cases A with
         |none=>exact run_firstCells_none w.drew i.size 0 0 0
         |some ad=>exact run_firstCells_some w.drew i.size 0 ad 0 0 [] (by simp) (by intro j v hv;simp at hv)
        |sl _ _ c b off us hn hc hO hb hcl hu2 hrr=>
         refine ⟨(fm (n*i.size)).map us,?_,⟨by simp;omega,?_,?_⟩,by simp⟩
         .refine run_firstCells_some w.drew i.size n _ n n _ (by simp) λj v hv=>?_
          rw[bi]at hv;rcases bM j (n*i.size) with hj|hj
          .rw[vg hj]at hv;simp only[bU,af]at hv;subst hv;rw[jP];exact hu2 j (by omega)
          .rw[bJ (by simpa using hj)]at hv;cases hv
         .intro x d;obtain⟨y,hy,rfl⟩:=c7.1 d;exact hcl y (eV hy)
         .intro j x v d hv;rw[bi,cA]at d;split at d
          .rename_i hj;rw[bi,vg hj]at hv;simp only[bU,af]at hv;subst hv;cases hcj:cells[j]? with
           |none=>rw[hcj]at d;cases d
           |some y=>
            rw[hcj]at d;simp only[bU,af]at d;subst d;exact .f (hrr j y hcj)
          .cases d
       obtain⟨olds,k1,k2,k3⟩:=key;have:=JX (nx:=nx) I hu i1 hz hzl hrep (h5 nx (by simp[zZ.eff])) hz' k1 k2 k3 hsrc hcs (by omega) r1 r2 [] (by simp);simpa[zZ.eff] using this
    .cases D
   .split at D
    .rename_i hc;simp only[ak]at hc;obtain⟨F,hroom⟩:=hc;obtain⟨r1,r2⟩:=BH hroom;have hbase:∀{φ:PM} {O:Nat->Prop} {w:World} {v:Value},cH φ O w bv v->∃A,v= .slice A 0 0:=by
      intro φ O w v hr;unfold Ih at F;split at F
      .cases hr;exact⟨_,rfl⟩
      .rename_i q;cases eJ hr;unfold sV at F;split at F
       .exact⟨_,rfl⟩
       .cases F
      .cases F
     split at D
     .rename_i hm;have hm:m=0:=by simpa using hm
      subst hm;simp only[af]at D;subst D;refine gB.reads λφ E h' w a hrd hp hrep=>?_
      obtain⟨vs,hsrc,hcs⟩:=common hrd hp hrep;have hr:=hp s _ (by rw[I];simp[Op.operands,dO]) hsv;obtain⟨A,hA⟩:=hbase hr;refine ⟨a.eval s,exec ?_,hr⟩;rw[hA];have hvs:vs=[]:=by have:=hsrc.newsLen;simpa using this
      have L:=hsrc.cells;rw[hvs]at L;rcases hsrc.kind with ⟨e',hk⟩|hk<;>cases A<;>simp[EC,run_underlying hu,run_underlying hk,sizeOf,typeInfo,i1,hsrc.len,L,storeCells]
     .rename_i hm;have hm:m≠0:=by simpa using hm
      simp only[af]at D;subst D;intro φ E h' w a h1 h2 h3 hrep h5;have hp:Sm φ E h' w a e o:=λx y d hy=>rN hrep h3 d hy
      obtain⟨vs,hsrc,hcs⟩:=common (λi hi=>h1 i hi) hp hrep;obtain⟨A,hA⟩:=hbase (hp s _ (by rw[I];simp[Op.operands,dO]) hsv);have hold:(xf i.size 0 (.slice A 0 0)).run P w.drew= .ok ([]:ξ).toArray w.drew:=by
       cases A with
       |none=>exact run_firstCells_none w.drew i.size 0 0 0
       |some ad=>exact run_firstCells_some w.drew i.size 0 ad 0 0 [] (by simp) (by intro j v hv;simp at hv)
      have:=JX (nx:=nx) (n:=0) (cap:=0) (olds:=[]) (oldA:=[]) I hu i1 hz hzl hrep (h5 nx (by simp[zZ.eff])) hA hold ⟨rfl,(by intro x d;cases d),(by intro j x v d;simp at d)⟩ (by simp) hsrc hcs (by omega) (by omega) (by simpa using r2) [] (by simp);simpa[zZ.eff] using this
    .cases D
  .cases D
 .cases D
end
section
variable {P:Program} {o:Oper} {e:y_} {h:nX} {nx:Nat} {R:zZ}
theorem aj8 {t:TypeId} (s:o.op= .makeMap t U) (d:ef .mkm e h nx=Z R):gB P o e.get h.get R.eff:=by
 simp only[ef,af]at d;subst d;refine gB.makes λφ E h' w a _ _ _=>?_
 refine ⟨.map (Z w.heap.size),{w with heap:=w.heap.push (.map #[] 0)},.map #[] 0,?_,qP w _,⟨#[],0,rfl,by unfold V7;rw[aT rfl];rfl,by intro j x q;simp at q⟩,λφ' O hφ=>.mp hφ⟩;unfold execOp;rw[s];simp[Instr.makeMap,newObj,ka]
theorem aj3 {t:TypeId} {x:Operand} (q:o.op= .range t x) (hu:P.underlying t=Z .string) (d:ef (.rng x) e h nx=Z R):gB P o e.get h.get R.eff:=by
 simp only[ef]at d;split at d
 .rename_i s z;simp only[af]at d;subst d;refine gB.makes λφ E h' w a _ hp _=>?_
  have hr:=eJ (hp x _ (by rw[q];simp[Op.operands]) z);refine ⟨.pointer (Z ⟨w.heap.size,0,U⟩),{w with heap:=w.heap.push (.stringIter s 0)},.stringIter s 0,?_,qP w _,rfl,λφ' O hφ=>.ptr hφ⟩;unfold execOp;rw[q];simp[Instr.range,run_underlying hu,hr,newObj,ka]
 .cases d
theorem xU {w:World} {k:Nat} {ob ob':Obj} (hk:w.heap[k]? =Z ob) (h1:∀c t f,ob≠ .cells c t f) (h2:∀c t f,ob'≠ .cells c t f):Es w {w with heap:=w.heap.setIfInBounds k ob'} k ob':=by
 have hlt:k<w.heap.size:=(ct.1 hk).1;have hat:(w.heap.setIfInBounds k ob')[k]? =Z ob':=by simp[hlt]
 have hot:∀j,j≠k->(w.heap.setIfInBounds k ob')[j]? =w.heap[j]? :=λj hj=>pP (λe=>hj e.symm)
 refine ⟨rfl,rfl,rfl,by simp,hat,hot,λj=>?_⟩;unfold rx;by_cases hj:j=k
 .subst hj;simp only[hat,hk];cases ob<;>cases ob'<;>first|rfl|exact dP rfl (h1 _ _ _)|exact dP rfl (h2 _ _ _)
 .simp only[hot j hj]
theorem aj4 {x:Operand} (D:o.op= .next x M) (d:ef (.nxt x) e h nx=Z R):gB P o e.get h.get R.eff:=by
 simp only[ef]at d;split at d
 .rename_i id I;split at d
  .rename_i ty s p hid;split at d
   .rename_i b hb;simp only[af]at d;subst d;refine gB.writes hid λφ E h' w a hrd A hp hrep=>?_
    have hr:=hp x _ (by rw[D];simp[Op.operands]) I;generalize F:a.eval x=z at hr;cases hr with
    |@ptr _ _ k hφ=>
     obtain⟨k',q1,_,ob,q2,q3⟩:=hrep.at_ id _ A;rw[hφ]at q1;cases q1;have q3:ob= .stringIter s p:=q3;subst q3;have hps:p<s.size:=by
      have:=(bm.1 hb).1;simpa using this
     have hget:s.get! p=b:=by
      have:s.data[p]? =Z b:=by rw[<- cq];exact hb
      have hpd:p<s.data.size:=(ct.1 this).1;have h2:s.data[p]! =s.data[p]:=getElem!_pos s.data p hpd;rw[ib hpd]at this;simp only[ByteArray.get!,h2];exact jW this
     have hdec:∃c:Nat,xJ s p=(c,wdA b s p)/\rnA b s p=(c:Int):=by
      unfold wdA rnA;cases hlt:eS b.toNat 128 with
      |true=>
       refine ⟨b.toNat,?_,rfl⟩;have:=a_ hlt;unfold xJ;simp only[dh,hget];rw[aT (by omega)];rfl
      |false=>exact⟨(xJ s p).1,rfl,rfl⟩
     obtain⟨c,hdec,hc⟩:=hdec;refine ⟨.value (.tuple #[.bool M,.int .i64 p,.int .i32 c]),_,k,.stringIter s (p+wdA b s p),?_,hφ,xU q2 (by simp) (by simp),rfl,_,.inl rfl,?_⟩
     .unfold execOp;rw[D];simp[Instr.next,F,getObj,ka,q2,hps,hdec,setObj,goInt]
     .refine cH.tup (vs:=[.bool M,.int .i64 p,.int .i32 c]) rfl λj y v q hv=>?_
      rw[hc]at q;rcases j with _|_|_|j<;>simp at q hv
      .subst q;subst hv;exact .f (.raw _)
      .subst q;subst hv;exact .f (.raw _)
      .subst q;subst hv;exact .f (.raw _)
   .rename_i hb;simp only[af]at d;subst d;refine gB.writes hid λφ E h' w a hrd A hp hrep=>?_
    have hr:=hp x _ (by rw[D];simp[Op.operands]) I;generalize F:a.eval x=z at hr;cases hr with
    |@ptr _ _ k hφ=>
     obtain⟨k',q1,_,ob,q2,q3⟩:=hrep.at_ id _ A;rw[hφ]at q1;cases q1;have q3:ob= .stringIter s p:=q3;subst q3;have hps:¬p<s.size:=by
      have:=List.getElem?_eq_none_iff.1 hb;have e:s.data.toList.length=s.size:=by simp
      omega
     refine ⟨.value (.tuple #[.bool aa]),w,k,.stringIter s p,?_,hφ,⟨rfl,rfl,rfl,rfl,q2,λ_ _=>rfl,λ_=>rfl⟩,rfl,_,.inl rfl,?_⟩
     .unfold execOp;rw[D];simp[Instr.next,F,getObj,ka,q2,hps]
     .refine cH.tup (vs:=[.bool aa]) rfl λj y v q hv=>?_
      rcases j with _|j<;>simp at q hv;subst q;subst hv;exact .f (.raw _)
  .cases d
 .cases d
theorem yY {a b:ByteArray}:rQ a b=M↔a=b:=by
 unfold rQ;constructor
 .intro h;have h1:a.data.toList=b.data.toList:=by simpa using h
  cases a;cases b;congr 1;exact Kl h1
 .rintro rfl;simp
theorem Ej (a b:ByteArray):(a==b)=rQ a b:=by
 have h1:(a==b)=(a.data==b.data):=rfl;rw[h1,ED,yY,cR];constructor
 .intro h;cases a;cases b;congr 1
 .rintro rfl;rfl
def kd (str:Bool) (d:TypeDesc):Prop:=if str then d= .string else ∃k,d= .int k
theorem x_ {str:Bool} {d:TypeDesc} (hd:kd str d) {k k':Value} (hk:yp str k=M) {b:Bool} (hb:sY .eql k k'=Z (.bool b)):Instr.sameNow d k k'=Z b:=by
 unfold kd at hd;cases str with
 |true=>
  simp only[bE]at hd;subst hd;cases k<;>simp[yp]at hk;cases k'<;>simp only[sY]at hb<;>try (simp at hb;done)
  simp only[af,Bq]at hb;simp[Instr.sameNow,Ej,hb]
 |false=>
  simp only[bF,du]at hd;obtain⟨q,rfl⟩:=hd;cases k<;>simp[yp]at hk;cases k'<;>simp only[sY]at hb<;>try (simp at hb;done)
  split at hb
  .rename_i hkk;have hkk':=eq_of_beq hkk;subst hkk';simp only[af,Bq]at hb;simp[Instr.sameNow,<-hb]
  .cases hb
theorem Qv {str:Bool} {d:TypeDesc} (hd:kd str d) {k:Value} (hk:yp str k=M):∀(es:Y (Value×AV)) (ents:Y MapEntry) (i:Nat),ents.map (·.key)=es.map (·.1)->∀r,sT k es=Z r->
 (r=U/\eE d k ents i=Z U)\/∃(j:Nat) (v:AV) (m:MapEntry) (k':Value),r=Z v/\es[j]? =Z (k',v)/\ents[j]? =Z m/\eE d k ents i=Z (Z (i+j,m.val))/\sY .eql k k'=Z (.bool M)
 |[],ents,i,he,r,h=>by
  cases ents with
  |nil=>simp only[sT,af]at h;exact .inl ⟨h.symm,rfl⟩
  |cons _ _=>simp at he
 |(k',v)::es,ents,i,he,r,h=>by
  cases ents with
  |nil=>simp at he
  |cons m ents=>
   simp only[fb,iP]at he;obtain⟨q,s⟩:=he;simp only[sT]at h;split at h
   .rename_i hb;simp only[af]at h;refine .inr ⟨0,v,m,k',h.symm,rfl,rfl,?_,hb⟩;simp only[eE];rw[q,x_ hd hk hb];rfl
   .rename_i hb;have hs:=x_ hd hk hb;rcases Qv hd hk es ents (i+1) s r h with ⟨h1,h2⟩|⟨j,z,m',k'',h1,h2,F,D,A⟩
    .refine .inl ⟨h1,?_⟩;simp only[eE];rw[q,hs];exact h2
    .refine .inr ⟨j+1,z,m',k'',h1,by simpa using h2,by simpa using F,?_,A⟩;simp only[eE];rw[q,hs];show eE d k ents (i+1)=_;rw[D,show i+1+j=i+(j+1) from by omega]
   .cases h
theorem sO {s:TypeId} {str:Bool} {d:TypeDesc} (hu:P.underlying s=Z d) (hd:kd str d) (b:Bool) (v:Value) (w:World):(Instr.checkKey b 10000 s v).run P w= .ok () w:=by
 have key:∀n,(Instr.checkKey b (n+1) s v).run P w= .ok () w:=λn=>by
  unfold kd at hd;cases str with
  |true=>simp only[bE]at hd;subst hd;simp[Instr.checkKey,run_underlying hu]
  |false=>simp only[bF,du]at hd;obtain⟨q,rfl⟩:=hd;simp[Instr.checkKey,run_underlying hu]
 exact key 9999
theorem YQ {φ:PM} {O:Nat->Prop} {w:World} {ok b:Bool} {x:AV} {v:Value} (h:cH φ O w x v):cH φ O w (pkV ok x b) (if ok then .tuple #[v,.bool b] else v):=by
 cases ok with
 |false=>exact h
 |true=>
  refine cH.tup (vs:=[v,.bool b]) rfl λj y u d hv=>?_
  rcases j with _|_|j<;>simp at d hv
  .subst d;subst hv;exact h
  .subst d;subst hv;exact .f (.raw _)
theorem O3 {n:Int} {v:AV}:∀{es:Y (Value×AV)},told n es=Z v->∃j:Nat,es[j]? =Z (.int .i64 n,v)
 |(.int .i64 k,d)::r,h=>by
  simp only[told]at h;split at h
  .rename_i e;subst e;cases h;exact⟨0,rfl⟩
  .obtain⟨j,hj⟩:=O3 h;exact⟨j+1,hj⟩
theorem jd {k:Value} {m:MapEntry} {r:Y MapEntry} (hm:vC m.key) (hk:vC k):(m.key=k->kn k (m::r)=m.val)/\(m.key≠k->kn k (m::r)=kn k r):=by
 obtain⟨a,d⟩:=hm;obtain⟨b,rfl⟩:=hk;have e0:kn (.int .i64 b) (m::r)=if a=b then m.val else kn (.int .i64 b) r:=by simp only[kn,d]
 rw[e0];exact⟨λe=>by rw[d]at e;cases e;rw[aT rfl],λe=>by rw[aL λq=>e (by rw[d,q])]⟩
theorem D3 {d:TypeDesc} (hd:kd aa d) (n:Int):∀(ents:Y MapEntry) (i:Nat),(∀m∈ents,vC m.key)->
 (eE d (.int .i64 n) ents i=Z U/\kn (.int .i64 n) ents= .slice U 0 0/\∀(k:Value) (m':MapEntry),m'.key= .int .i64 n->vC k->(k= .int .i64 n->kn k (ents++[m'])=m'.val)/\(k≠ .int .i64 n->kn k (ents++[m'])=kn k ents))\/
 ∃(j:Nat) (m:MapEntry),ents[j]? =Z m/\eE d (.int .i64 n) ents i=Z (Z (i+j,m.val))/\kn (.int .i64 n) ents=m.val/\m.key= .int .i64 n/\∀(k:Value) (m':MapEntry),m'.key= .int .i64 n->vC k->(k= .int .i64 n->kn k (ents.set j m')=m'.val)/\(k≠ .int .i64 n->kn k (ents.set j m')=kn k ents)
 |[],i,_=>by
  refine .inl ⟨rfl,rfl,λk m' hm hk=>⟨λe=>?_,λe=>?_⟩⟩
  .exact (jd (r:=[]) ⟨n,hm⟩ hk).1 (hm.trans e.symm)
  .exact (jd (r:=[]) ⟨n,hm⟩ hk).2 (λq=>e (q.symm.trans hm))
 |m::r,i,h=>by
  have hmk:=h m (eo ..);obtain⟨a,s⟩:=hmk;have hb:sY .eql (.int .i64 n) (.int .i64 a)=Z (.bool (n==a)):=by simp[sY]
  have hs:=x_ hd (k:=.int .i64 n) rfl hb;by_cases e:n=a
  .subst e;refine .inr ⟨0,m,rfl,?_,(jd ⟨n,s⟩ ⟨n,rfl⟩).1 s,s,λk m' hm hk=>⟨λe=>?_,λe=>?_⟩⟩
   .simp only[eE];rw[s,hs];simp
   .exact (jd (r:=r) ⟨n,hm⟩ hk).1 (hm.trans e.symm)
   .show kn k (m'::r)=_;rw[(jd (r:=r) ⟨n,hm⟩ hk).2 (λq=>e (q.symm.trans hm)),(jd (r:=r) ⟨n,s⟩ hk).2 (λq=>e (q.symm.trans s))]
  .have A:Instr.sameNow d (.int .i64 n) m.key=Z aa:=by rw[s,hs];simp[e]
   have hne:¬m.key= .int .i64 n:=λq=>by rw[s]at q;cases q;exact e rfl
   have hl:=(jd (r:=r) ⟨a,s⟩ ⟨n,rfl⟩).2 hne;have step:∀(k:Value) (z:Y MapEntry) (m':MapEntry),vC k->m'.key= .int .i64 n->(k= .int .i64 n->kn k z=m'.val)/\(k≠ .int .i64 n->kn k z=kn k r)->(k= .int .i64 n->kn k (m::z)=m'.val)/\(k≠ .int .i64 n->kn k (m::z)=kn k (m::r)):=λk z m' hk _ g=>by
    refine ⟨λq=>?_,λq=>?_⟩
    .rw[(jd (r:=z) ⟨a,s⟩ hk).2 (λx=>hne (x.trans q))];exact g.1 q
    .by_cases x:m.key=k
     .rw[(jd (r:=z) ⟨a,s⟩ hk).1 x,(jd (r:=r) ⟨a,s⟩ hk).1 x]
     .rw[(jd (r:=z) ⟨a,s⟩ hk).2 x,(jd (r:=r) ⟨a,s⟩ hk).2 x];exact g.2 q
   rcases D3 hd n r (i+1) (λq hq=>h q (dk _ hq)) with ⟨h1,h2,D⟩|⟨j,q,h1,h2,D,I,F⟩
   .refine .inl ⟨?_,by rw[hl];exact h2,λk m' hm hk=>step k _ m' hk hm (D k m' hm hk)⟩;simp only[eE];rw[A];exact h1
   .refine .inr ⟨j+1,q,by simpa using h1,?_,by rw[hl];exact D,I,λk m' hm hk=>step k _ m' hk hm (F k m' hm hk)⟩;simp only[eE];rw[A];show eE d _ r (i+1)=_;rw[h2,show i+1+j=i+(j+1) from by omega]
theorem EG {n:Int} {y:AV}:∀{es:Y (Value×AV)} {j:Nat} {q:Value×AV},(lI n y es)[j]? =Z q->∃p,es[j]? =Z p/\q.1=p.1/\(p.1= .int .i64 n->q.2=y)/\(p.1≠ .int .i64 n->q.2=p.2)
 |[],j,q,h=>by simp[lI]at h
 |p::r,0,q,h=>by
  simp only[lI,lG,af]at h;subst h;refine ⟨p,rfl,rfl,λe=>?_,λe=>?_⟩
  .show (match p.1 with|.int .i64 k=>if k=n then y else p.2|_=>p.2)=y;rw[e];dsimp only;rw[aT rfl]
  .show (match p.1 with|.int .i64 k=>if k=n then y else p.2|_=>p.2)=p.2;split
   .rename_i k hk;rw[aL λq=>e (by rw[hk,q])]
   .rfl
 |p::r,j+1,q,h=>by
  simp only[lI,List.getElem?_cons_succ]at h;obtain⟨d,h1,h2⟩:=EG h;exact⟨d,by simpa using h1,h2⟩
theorem BA (n:Int) (y:AV):∀es:Y (Value×AV),(lI n y es).map (·.1)=es.map (·.1)
 |[]=>rfl
 |p::r=>by simp only[lI,fb];rw[BA n y r]
theorem aet {t kt el:TypeId} {x k:Operand} {str ok:Bool} {d:TypeDesc} {z:Value} (F:o.op= .lookup t x k ok) (hu:P.underlying t=Z (.map kt el)) (hk:P.underlying kt=Z d) (hd:kd str d) (A:(P.info? el).bind (·.zero)=Z z) (q:ef (.lku str ok z x k) e h nx=Z R):gB P o e.get h.get R.eff:=by
 simp only[ef]at q;split at q
 .rename_i id key hx hkx;split at q
  .rename_i es hid;split at q
   .rename_i hko;have fin:∀val:AV,(∀(φ:PM) (E:Nat->Prop) (h':HF) (w:World) (a:Act),h' id=Z ⟨0,.mp es⟩->Sm φ E h' w a e o->qO φ E h' w->∃v,(execOp a.eval o).run P w= .ok (.value v) w/\cH φ (tot E φ h') w val v)->R=⟨val,[id],[],[],[]⟩->gB P o e.get h.get R.eff:=by
     rintro val hv rfl;exact gB.reads λφ E h' w a hrd hp hrep=>hv φ E h' w a (by rw[hrd id (by simp)];exact hid) hp hrep
    have zrun:∀w:World,(zeroValue el).run P w= .ok z w:=λw=>by
     cases hi:P.info? el with
     |none=>rw[hi]at A;cases A
     |some i=>rw[hi]at A;simp only[aD]at A;simp[zeroValue,typeInfo,hi,A]
    have main:∀r,sT key es=Z r->∀(φ:PM) (E:Nat->Prop) (h':HF) (w:World) (a:Act),h' id=Z ⟨0,.mp es⟩->Sm φ E h' w a e o->qO φ E h' w->
     ∃v,(execOp a.eval o).run P w= .ok (.value v) w/\cH φ (tot E φ h') w (match r with|some v=>pkV ok v M|none=>pkV ok (raw z) aa) v:=by
     intro r hr φ E h' w a I hp hrep;have hrx:=hp x _ (by rw[F];simp[Op.operands]) hx;have hrk:=eJ (hp k _ (by rw[F];simp[Op.operands]) hkx);generalize s:a.eval x=zz at hrx;cases hrx with
     |@mp _ b hφ=>
      obtain⟨k',q1,_,ob,q2,q3⟩:=hrep.at_ id _ I;rw[hφ]at q1;cases q1;obtain⟨ents,clock,rfl,q4,q5⟩:=q3;have q4:ents.toList.map (·.key)=es.map (·.1):=by unfold V7 at q4;rw[aT rfl]at q4;exact q4
      have hck:=sO (P:=P) hk hd ents.isEmpty key w;rcases Qv hd hko es ents.toList 0 q4 r hr with ⟨h1,h2⟩|⟨j,v,m,k',h1,h2,h3,h4,_⟩
      .subst h1;refine ⟨_,?_,YQ (.f (.raw z))⟩;unfold execOp;rw[F];cases ok<;>simp[Instr.lookup,run_underlying hu,s,hrk,getObj,ka,q2,hck,sn,run_underlying hk,h2,zrun]
      .subst h1;obtain⟨_,D,L⟩:=q5 j _ h2;unfold MpV at D;rw[aT rfl]at D;obtain⟨m',D,rfl⟩:=D;rw[cq]at h3;rw[h3]at D;cases D;refine ⟨_,?_,YQ L⟩;unfold execOp;rw[F];cases ok<;>simp[Instr.lookup,run_underlying hu,s,hrk,getObj,ka,q2,hck,sn,run_underlying hk,h4]
    split at q
    .rename_i v hf;simp only[af]at q;exact fin _ (main _ hf) q.symm
    .rename_i hf;simp only[af]at q;exact fin _ (main _ hf) q.symm
    .cases q
   .cases q
  .rename_i ty es hid;split at q
   .rename_i n;split at q
    .rename_i hc;split at q
     .rename_i v hv;simp only[af]at q;subst q;cases str with
      |true=>simp at hc
      |false=>
      cases ok with
      |true=>simp at hc
      |false=>
      have hz0:z= .slice U 0 0:=by
       simp only[Bool.not_false,kO]at hc;unfold sV at hc;split at hc
       .rfl
       .cases hc
      subst hz0;have zrun:∀w:World,(zeroValue el).run P w= .ok (.slice U 0 0) w:=λw=>by
       cases hi:P.info? el with
       |none=>rw[hi]at A;cases A
       |some i=>rw[hi]at A;simp only[aD]at A;simp[zeroValue,typeInfo,hi,A]
      refine gB.reads λφ E h' w a hrd hp hrep=>?_
      have I:h' id=Z ⟨ty+1,.mp es⟩:=by rw[hrd id (by simp)];exact hid
      have hrx:=hp x _ (by rw[F];simp[Op.operands]) hx;have hrk:=eJ (hp k _ (by rw[F];simp[Op.operands]) hkx);generalize s:a.eval x=zz at hrx;cases hrx with
      |@mp _ b hφ=>
       obtain⟨k',q1,_,ob,q2,q3⟩:=hrep.at_ id _ I;rw[hφ]at q1;cases q1;obtain⟨ents,clock,rfl,q4,q5⟩:=q3;unfold V7 at q4;rw[aL (by simp)]at q4;obtain⟨j,hj⟩:=O3 hv;obtain⟨v',D,L⟩:=q5 j _ hj;unfold MpV at D;rw[aL (by simp)]at D;subst D;have hck:=sO (P:=P) hk hd ents.isEmpty (.int .i64 n) w;rcases D3 hd n ents.toList 0 q4.1 with ⟨h1,h2,_⟩|⟨i,m,h1,h2,h3,_⟩
       .rw[h2]at L;refine ⟨_,?_,L⟩;unfold execOp;rw[F];simp[Instr.lookup,run_underlying hu,s,hrk,getObj,ka,q2,hck,sn,run_underlying hk,h1,zrun]
       .rw[h3]at L;refine ⟨_,?_,L⟩;unfold execOp;rw[F];simp[Instr.lookup,run_underlying hu,s,hrk,getObj,ka,q2,hck,sn,run_underlying hk,h2]
     .cases q
    .cases q
   .cases q
  .cases q
 .cases q
theorem U' {str:Bool} {d:TypeDesc} (hd:kd str d) {k:Value} (hk:yp str k=M) {v:AV}:∀(es es':Y (Value×AV)) (ents:Y MapEntry) (i:Nat),ents.map (·.key)=es.map (·.1)->ym k v es=Z es'->
 (eE d k ents i=Z U/\es'=es++[(k,v)])\/∃(j:Nat) (m:MapEntry) (k':Value) (s:AV),es[j]? =Z (k',s)/\ents[j]? =Z m/\eE d k ents i=Z (Z (i+j,m.val))/\sY .eql k k'=Z (.bool M)/\es'=es.set j (k,v)
 |[],es',ents,i,he,h=>by
  cases ents with
  |nil=>simp only[ym,af]at h;exact .inl ⟨rfl,by simp[h]⟩
  |cons _ _=>simp at he
 |(k',s)::es,es',ents,i,he,h=>by
  cases ents with
  |nil=>simp at he
  |cons m ents=>
   simp only[fb,iP]at he;obtain⟨q,z⟩:=he;simp only[ym]at h;split at h
   .rename_i hb;simp only[af]at h;refine .inr ⟨0,m,k',s,rfl,rfl,?_,hb,by simp[h]⟩;simp only[eE];rw[q,x_ hd hk hb];rfl
   .rename_i hb;have hs:=x_ hd hk hb;split at h
    .rename_i es2 hes2;simp only[af]at h;subst h;rcases U' hd hk es es2 ents (i+1) z hes2 with ⟨h1,h2⟩|⟨j,m',k'',v'',h1,h2,F,D,A⟩
     .refine .inl ⟨?_,by simp[h2]⟩;simp only[eE];rw[q,hs];exact h1
     .refine .inr ⟨j+1,m',k'',v'',by simpa using h1,by simpa using h2,?_,D,by simp[A]⟩;simp only[eE];rw[q,hs];show eE d k ents (i+1)=_;rw[F,show i+1+j=i+(j+1) from by omega]
    .cases h
   .cases h
theorem ZG {str:Bool} {k k':Value} (hk:yp str k=M) (hb:sY .eql k k'=Z (.bool M)):Kk 10000 k' k=M/\k'=k:=by
 cases str with
 |true=>
  cases k<;>simp[yp]at hk;cases k'<;>simp only[sY]at hb<;>try (simp at hb;done)
  simp only[af,Bq]at hb;have:=yY.1 hb;subst this;exact⟨by simp[Kk,Ej,hb],rfl⟩
 |false=>
  cases k<;>simp[yp]at hk;cases k'<;>simp only[sY]at hb<;>try (simp at hb;done)
  split at hb
  .rename_i hkk;have hkk':=eq_of_beq hkk;subst hkk';simp only[af,Bq,cR]at hb;subst hb;exact⟨by simp[Kk],rfl⟩
  .cases hb
theorem aes {t kt el:TypeId} {x k y:Operand} {str:Bool} {d:TypeDesc} (F:o.op= .mapUpdate t x k y) (hu:P.underlying t=Z (.map kt el)) (hk:P.underlying kt=Z d) (hd:kd str d) (s:ef (.mup str x k y) e h nx=Z R):gB P o e.get h.get R.eff:=by
 simp only[ef]at s;split at s
 .rename_i id key v D hkx hy;split at s
  .rename_i es hid;split at s
   .rename_i hko;split at s
    .rename_i es' hput;simp only[af]at s;subst s;refine gB.writes hid λφ E h' w a hrd L hp hrep=>?_
     have hrx:=hp x _ (by rw[F];simp[Op.operands]) D;have hrk:=eJ (hp k _ (by rw[F];simp[Op.operands]) hkx);have hry:=hp y _ (by rw[F];simp[Op.operands]) hy;generalize A:a.eval x=zz at hrx;cases hrx with
     |@mp _ b hφ=>
      obtain⟨k',q1,_,ob,q2,q3⟩:=hrep.at_ id _ L;rw[hφ]at q1;cases q1;obtain⟨ents,clock,rfl,q4,q5⟩:=q3;have q4:ents.toList.map (·.key)=es.map (·.1):=by unfold V7 at q4;rw[aT rfl]at q4;exact q4
      have q5:∀(j:Nat) x,es[j]? =Z x->∃m,ents[j]? =Z m/\cH φ (tot E φ h') w x.2 m.val:=λj x D=>by
       obtain⟨_,z,I⟩:=q5 j x D;unfold MpV at z;rw[aT rfl]at z;obtain⟨m,z,rfl⟩:=z;exact⟨m,z,I⟩
      have L5:∀(es:Y (Value×AV)) (ents:Array MapEntry) (clock:Nat),ents.toList.map (·.key)=es.map (·.1)->(∀(j:Nat) x,es[j]? =Z x->∃m,ents[j]? =Z m/\cH φ (tot E φ h') w x.2 m.val)->iV φ (tot E φ h') w ⟨0,.mp es⟩ (.map ents clock):=λes ents clock z I=>⟨ents,clock,rfl,by unfold V7;rw[aT rfl];exact z,λj x D=>by
       obtain⟨m,g3,g4⟩:=I j x D;exact⟨_,by unfold MpV;rw[aT rfl];exact⟨m,g3,rfl⟩,g4⟩⟩
      have hck:=sO (P:=P) hk hd aa key w;have hlen:ents.size=es.length:=by have:=iX ah q4;simpa using this
      rcases U' hd hko es es' ents.toList 0 q4 hput with ⟨h1,rfl⟩|⟨j,m,k',v',h1,h2,h3,h4,rfl⟩
      .refine ⟨.skip,_,b,.map (ents.push {key,val:=a.eval y,born:=clock}) (clock+1),?_,hφ,xU q2 (by simp) (by simp),L5 _ _ _ (by simp[q4]) λj q hq=>?_,undef,.inr ⟨rfl,rfl⟩,.f (.raw _)⟩
       .unfold execOp;rw[F];simp[Instr.mapUpdate,run_underlying hu,A,hrk,getObj,ka,q2,hck,sn,run_underlying hk,h1,setObj]
       .rcases bM j es.length with hj|hj
        .rw[bQ hj]at hq;obtain⟨m,z,I⟩:=q5 j q hq;exact⟨m,by rw[Array.getElem?_push,aL (by omega)];exact z,I⟩
        .rw[bX hj]at hq;have hj0:j-es.length=0:=by
          rcases rz (j-es.length) with h0|h0
          .exact h0
          .rw[bJ (by simp;omega)]at hq;cases hq
         rw[hj0]at hq;simp at hq;subst hq;exact⟨_,by rw[Array.getElem?_push,aT (by omega)],hry⟩
      .obtain⟨s1,s2⟩:=ZG hko h4;subst s2;rw[cq]at h2;rw[bL]at h3;have hjl:j<ents.size:=(ct.1 h2).1;have hmk:m.key=k':=by
        have e1:(ents.toList.map (·.key))[j]? =Z m.key:=by rw[bi,cq,h2];rfl
        rw[q4,bi,h1]at e1;simpa using e1.symm
       refine ⟨.skip,_,b,.map (ents.modify j λe=>{e with key:=k',val:=a.eval y}) clock,?_,hφ,xU q2 (by simp) (by simp),L5 _ _ _ ?_ λi q hq=>?_,undef,.inr ⟨rfl,rfl⟩,.f (.raw _)⟩
       .unfold execOp;rw[F];simp[Instr.mapUpdate,run_underlying hu,A,hrk,getObj,ka,q2,hck,sn,run_underlying hk,h3,setObj,h2,hmk,Instr.keyThatStays,s1]
       .apply List.ext_getElem?;intro i;simp only[bi,cq,oP,Array.getElem?_modify];have e2:∀i:Nat,(ents[i]?).map (λm:MapEntry=>m.key)=(es[i]?).map (λp:Value×AV=>p.1):=λi=>by
         have:=iX (λl=>l[i]?) q4;simpa[bi,cq] using this
        by_cases hij:j=i
        .subst hij;simp[h2,show j<es.length by omega]
        .simp only[hij,du];exact e2 i
       .rw[oP]at hq;rw[Array.getElem?_modify];by_cases hij:j=i
        .subst hij;simp[show j<es.length by omega]at hq;subst hq;exact⟨{m with key:=k',val:=a.eval y},by simp[h2],hry⟩
        .simp only[hij,du]at hq ⊢;exact q5 i q hq
    .cases s
   .cases s
  .rename_i ty es hid;split at s
   .rename_i n;split at s
    .cases s
    .rename_i hstr;have hstr:str=aa:=by simpa using hstr
     subst hstr;simp only[af]at s;subst s;refine gB.writes hid λφ E h' w a hrd L hp hrep=>?_
     have hrx:=hp x _ (by rw[F];simp[Op.operands]) D;have hrk:=eJ (hp k _ (by rw[F];simp[Op.operands]) hkx);have hry:=hp y _ (by rw[F];simp[Op.operands]) hy;generalize A:a.eval x=zz at hrx;cases hrx with
     |@mp _ b hφ=>
      obtain⟨k',q1,_,ob,q2,q3⟩:=hrep.at_ id _ L;rw[hφ]at q1;cases q1;obtain⟨ents,clock,rfl,q4,q5⟩:=q3;unfold V7 at q4;rw[aL (by simp)]at q4;have q5:∀(j:Nat) x,es[j]? =Z x->cH φ (tot E φ h') w x.2 (kn x.1 ents.toList):=λj x D=>by
       obtain⟨_,z,I⟩:=q5 j x D;unfold MpV at z;rw[aL (by simp)]at z;subst z;exact I
      have mk1:∀(ents':Array MapEntry) (clock:Nat),(∀m∈ents'.toList,vC m.key)->(∀k,vC k->(k= .int .i64 n->kn k ents'.toList=a.eval y)/\(k≠ .int .i64 n->kn k ents'.toList=kn k ents.toList))->iV φ (tot E φ h') w ⟨ty+1,.mp (lI n v es)⟩ (.map ents' clock):=λents' clock z I=>⟨ents',clock,rfl,by unfold V7;rw[aL (by simp),BA];exact⟨z,q4.2⟩,λj x D=>by
       obtain⟨p,g3,g4,g5,g6⟩:=EG D;have hI:=q4.2 p.1 (c7.2 ⟨p,bh g3,rfl⟩);refine ⟨_,by unfold MpV;rw[aL (by simp)],?_⟩;rw[g4];by_cases e:p.1= .int .i64 n
       .rw[(I _ hI).1 e,g5 e];exact hry
       .rw[(I _ hI).2 e,g6 e];exact q5 j p g3⟩
      have hck:=sO (P:=P) hk hd aa (.int .i64 n) w;rcases D3 hd n ents.toList 0 q4.1 with ⟨h1,_,h3⟩|⟨j,m,h2,h3,_,h4,h5⟩
      .refine ⟨.skip,_,b,.map (ents.push {key:=.int .i64 n,val:=a.eval y,born:=clock}) (clock+1),?_,hφ,xU q2 (by simp) (by simp),mk1 _ _ (λm hm=>?_) λk hk=>?_,undef,.inr ⟨rfl,rfl⟩,.f (.raw _)⟩
       .unfold execOp;rw[F];simp[Instr.mapUpdate,run_underlying hu,A,hrk,getObj,ka,q2,hck,sn,run_underlying hk,h1,setObj]
       .rw[Array.toList_push]at hm;rcases bN.1 hm with hm|hm
        .exact q4.1 m hm
        .rw[aJ.1 hm];exact⟨n,rfl⟩
       .rw[Array.toList_push];exact h3 k _ rfl hk
      .rw[cq]at h2;rw[bL]at h3;obtain⟨hjl,hjm⟩:=ct.1 h2;have s1:Kk 10000 (.int .i64 n) (.int .i64 n)=M:=by simp[Kk]
       have hl:(ents.modify j λe=>{e with key:=.int .i64 n,val:=a.eval y}).toList=ents.toList.set j {m with key:=.int .i64 n,val:=a.eval y}:=by
        apply List.ext_getElem?;intro i;simp only[cq,oP,Array.getElem?_modify];by_cases hij:j=i
        .subst hij;simp[h2,hjl,hjm]
        .simp[hij]
       refine ⟨.skip,_,b,.map (ents.modify j λe=>{e with key:=.int .i64 n,val:=a.eval y}) clock,?_,hφ,xU q2 (by simp) (by simp),mk1 _ _ (λq hm=>?_) λk hk=>?_,undef,.inr ⟨rfl,rfl⟩,.f (.raw _)⟩
       .unfold execOp;rw[F];simp[Instr.mapUpdate,run_underlying hu,A,hrk,getObj,ka,q2,hck,sn,run_underlying hk,h3,setObj,h2,h4,Instr.keyThatStays,s1]
       .rw[hl]at hm;rcases LI hm with hm|rfl
        .exact q4.1 q hm
        .exact⟨n,rfl⟩
       .rw[hl];exact h5 k _ rfl hk
   .cases s
  .cases s
 .cases s
end
section
variable {P:Program} {o:Oper} {e:y_} {h:nX} {nx:Nat} {R:zZ}
theorem Ps {t:TypeId} {d:TypeDesc} (hu:P.underlying t=Z d) (hd:(match d with|.int _=>M|.bool=>M|.string=>M|_=>aa)=M) (cs:Array Value) (j:Nat) (v:Value) (hv:cs[j]? =Z v) (w:World):(part t cs j).run P w= .ok v w:=by
 unfold part;simp only[isAgg,eA,run_underlying hu,cJ];cases d<;>simp at hd<;>simp[hv]
theorem WV {t:TypeId} {d:TypeDesc} (hu:P.underlying t=Z d) (hd:(match d with|.int _=>M|.bool=>M|.string=>M|_=>aa)=M) {x y:FV} {b:Bool} (hxy:wM d x y=Z b) {u v:Value} (z:x= .raw u) (s:y= .raw v) (n:Nat) (w:World):(Op.equalIn (n+1) t u v).run P w= .ok b w:=by
 subst z;subst s;cases d<;>simp at hd<;>cases u<;>cases v<;>simp only[wM]at hxy<;>first|(cases hxy;done)|skip
 .simp only[af]at hxy;subst hxy;simp[Op.equalIn,run_underlying hu]
 .split at hxy
  .rename_i hk;have q:=eq_of_beq hk;subst q;simp only[af]at hxy;subst hxy;simp[Op.equalIn,run_underlying hu]
  .cases hxy
 .simp only[af]at hxy;subst hxy;simp[Op.equalIn,run_underlying hu,Ej]
abbrev IW (n:Nat) (xs d:Array Value) (f:Field) (_:J Bool×Unit):Sem (ForInStep (J Bool×Unit)):=
 if f.name≠ "_" then do
  let a←part f.type xs f.offset
  let b←part f.type d f.offset
  let c←Op.equalIn (n+1) f.type a b
  if (!c)=M then pure (ForInStep.done (Z aa,())) else pure (ForInStep.yield (U,()))
 else pure (ForInStep.yield (U,()))
theorem Mn (n:Nat) (w:World) (xs s:Array Value):∀(fs:Y Field) (ds:Y TypeDesc) (a b:Y FV) (k:Nat) (r:Bool),rD P k fs=Z ds->
 (∀(j:Nat) x u,a[j]? =Z x->xs[k+j]? =Z u->x= .raw u\/∀v,x≠ .raw v)->(∀(j:Nat) x u,b[j]? =Z x->s[k+j]? =Z u->x= .raw u\/∀v,x≠ .raw v)->(∀(j:Nat),j<a.length->k+j<xs.size)->(∀(j:Nat),j<b.length->k+j<s.size)->o9 ds a b=Z r->
 (forIn fs (U,()) (IW n xs s)).run P w= .ok (if r then (U,()) else (Z aa,())) w
 |[],ds,a,b,k,r,hp,_,_,_,_,he=>by
  simp only[rD,af]at hp;subst hp;cases a<;>cases b<;>simp[o9]at he;subst he;simp
 |f::fs,ds,a,b,k,r,hp,L,hb,hla,hlb,he=>by
  simp only[rD]at hp;split at hp
  .rename_i d ds' hu I;split at hp
   .rename_i hc;simp only[ak,bne_iff_ne,ne_eq,cR]at hc;obtain⟨⟨hn,hof⟩,hd⟩:=hc;simp only[af]at hp;subst hp;cases a with
    |nil=>cases b<;>simp[o9]at he
    |cons x a=>
     cases b with
     |nil=>simp[o9]at he
     |cons y b=>
      simp only[o9]at he;have F:k<xs.size:=by have:=hla 0 (by simp);omega
      have D:k<s.size:=by have:=hlb 0 (by simp);omega
      have hraw:∀(z:FV) (q:Value),(z= .raw q\/∀v,z≠ .raw v)->(∃v,z= .raw v)->z= .raw q:=by
       rintro z q (h|h) ⟨v,hv⟩
       .exact h
       .exact dP hv (h v)
      have hxr:∀A,wM d x y=Z A->x= .raw xs[k]/\y= .raw s[k]:=by
       intro A hbb;have hrr:(∃v,x= .raw v)/\∃v,y= .raw v:=by
        unfold wM at hbb;split at hbb
        .exact⟨⟨_,rfl⟩,⟨_,rfl⟩⟩
        .exact⟨⟨_,rfl⟩,⟨_,rfl⟩⟩
        .exact⟨⟨_,rfl⟩,⟨_,rfl⟩⟩
        .cases hbb
       exact⟨hraw x _ (L 0 x _ rfl (by simp[F])) hrr.1,hraw y _ (hb 0 y _ rfl (by simp[D])) hrr.2⟩
      have hstep:∀A,wM d x y=Z A->(IW n xs s f (U,())).run P w= .ok (if A then ForInStep.yield (U,()) else ForInStep.done (Z aa,())) w:=by
       intro A hbb;obtain⟨h1,h2⟩:=hxr A hbb;have p1:=Ps hu (by cases d<;>simp[HK]at hd<;>rfl) xs k xs[k] (by simp[F]) w;have p2:=Ps hu (by cases d<;>simp[HK]at hd<;>rfl) s k s[k] (by simp[D]) w;have p3:=WV hu (by cases d<;>simp[HK]at hd<;>rfl) hbb h1 h2 n w;unfold IW;rw[aT hn,hof];simp only[eA,p1,p2,p3,cJ];cases A<;>simp
      rw[List.forIn_cons];simp only[eA];split at he
      .rename_i hbb;rw[hstep M hbb];simp only[cJ,bE];exact Mn n w xs s fs ds' a b (k+1) r I (λj x u h1 h2=>L (j+1) x u (by simpa using h1) (by rw[<- h2];congr 1;omega)) (λj x u h1 h2=>hb (j+1) x u (by simpa using h1) (by rw[<- h2];congr 1;omega))
        (λj hj=>by have:=hla (j+1) (by simpa using hj);omega) (λj hj=>by have:=hlb (j+1) (by simpa using hj);omega) he
      .rename_i hbb;rw[hstep aa hbb];simp only[af]at he;subst he;simp
      .cases he
   .cases hp
  .cases hp
theorem WU {t:TypeId} {fs:Array Field} (hu:P.underlying t=Z (.struct fs)) (hs:P.stoodInHeld t=aa) {ds:Y TypeDesc} (hp:rD P 0 fs.toList=Z ds) (xs d:Array Value) {a b:Y FV} {r:Bool}
 (q:∀(j:Nat) x u,a[j]? =Z x->xs[j]? =Z u->x= .raw u\/∀v,x≠ .raw v) (hb:∀(j:Nat) x u,b[j]? =Z x->d[j]? =Z u->x= .raw u\/∀v,x≠ .raw v) (hla:a.length=xs.size) (hlb:b.length=d.size) (he:o9 ds a b=Z r) (w:World):
 (Op.equal t (.agg xs) (.agg d)).run P w= .ok r w:=by
 have key:∀n,(Op.equalIn (n+2) t (.agg xs) (.agg d)).run P w= .ok r w:=by
  intro n;rw[Op.equalIn];have h1:=Mn (P:=P) n w xs d fs.toList ds a b 0 r hp (λj x u h1 h2=>q j x u h1 (by simpa using h2)) (λj x u h1 h2=>hb j x u h1 (by simpa using h2)) (λj hj=>by omega) (λj hj=>by omega) he;rw[Array.forIn_toList]at h1;simp only[eA,run_underlying hu,cJ,program,ka,hs,bF,du];have h2:(forIn fs (U,()) (λf __s=>IW n xs d f __s)).run P w= .ok (if r then (U,()) else (Z aa,())) w:=h1;unfold IW at h2;rw[h2];cases r<;>simp
 exact key 9998
theorem QC {t:TypeId} {fs:Array Field} (hu:P.underlying t=Z (.struct fs)) {ds:Y TypeDesc} (hp:rD P 0 fs.toList=Z ds):P.eqGuardType P.depth t=aa:=by
 have key:∀(fs:Y Field) (k:Nat) (ds:Y TypeDesc),rD P k fs=Z ds→∀d,(fs.any λf=>f.name != "_" &&P.eqGuardType (d+1) f.type)=aa:=by
  intro fs;induction fs with
  |nil=>intros;rfl
  |cons f fs z=>
   intro k ds hp d;simp only[rD]at hp;split at hp
   .rename_i A ds' q s;split at hp
    .rename_i hc;simp only[ak]at hc;have:P.eqGuardType (d+1) f.type=aa:=by
      unfold Program.eqGuardType;rw[q];have:=hc.2;cases A<;>simp[HK]at this<;>rfl
     simp only[List.any_cons,this,uc,Bool.false_or];exact z (k+1) ds' s d
    .cases hp
   .cases hp
 unfold Program.depth Program.eqGuardType;rw[hu];simp only[];rw[← Array.any_toList];exact key fs.toList 0 ds hp _
theorem aeu {t t':TypeId} {op:BinOp} {neg:Bool} {x y:Operand} {fs:Array Field} {ds:Y TypeDesc} (A:o.op= .binOp op t x y t') (hop:op=if neg then .neq else .eql) (hu:P.underlying t=Z (.struct fs)) (hs:P.stoodInHeld t=aa) (hp:rD P 0 fs.toList=Z ds) (d:ef (.eqs neg ds x y) e h nx=Z R):gB P o e.get h.get R.eff:=by
 simp only[ef]at d;split at d
 .rename_i a b q F;split at d
  .rename_i r hr;rw[dv d];refine gB.reads λφ E h' w ac _ hpp _=>?_
   have h1:=hpp x _ (by rw[A];simp[Op.operands]) q;have h2:=hpp y _ (by rw[A];simp[Op.operands]) F;generalize hzx:ac.eval x=zx at h1;generalize hzy:ac.eval y=zy at h2;have rawOr:∀(l:Y FV) (vs:ξ),(∀(j:Nat) x v,l[j]? =Z x->vs[j]? =Z v->mw (tot E φ h') w x v)->∀(j:Nat) x u,l[j]? =Z x->vs.toArray[j]? =Z u->x= .raw u\/∀v,x≠ .raw v:=by
    intro l vs hr j x u q hu;have:=hr j x u q (by simpa using hu);cases this with
    |raw v=>exact .inl rfl
    |nil=>exact .inr (by simp)
    |sl=>exact .inr (by simp)
    |ptr=>exact .inr (by simp)
    |agg=>exact .inr (by simp)
   cases h1 with
   |f h1=>
    cases h1 with
    |agg _ vs hl hcl z=>
     cases h2 with
     |f h2=>
      cases h2 with
      |agg _ us D hcl' s=>
       have heq:=WU hu hs hp vs.toArray us.toArray (rawOr a vs z) (rawOr b us s) (by simp[hl]) (by simp[D]) hr w;refine ⟨_,?_,.f (.raw _)⟩;have hg:=QC hu hp;unfold execOp;rw[A];simp only[hzx,hzy];subst hop;cases neg<;>simp[eqGuard,program,ka,hg,binOp,heq]
  .cases d
 .cases d
end
theorem bind_some {α β:Type} {x:J α} {f:α->J β} {y:β} (h:x.bind f=Z y):∃a,x=Z a/\f a=Z y:=by
 cases x with
 |none=>cases h
 |some a=>exact⟨a,rfl,h⟩
theorem map_some {α β:Type} {x:J α} {f:α->β} {y:β} (h:x.map f=Z y):∃a,x=Z a/\f a=y:=by
 cases x with
 |none=>cases h
 |some a=>exact⟨a,rfl,by simpa using h⟩
theorem me {c:Bool} {β:Type} {x:J β} {y:β} (h:(if c then x else U)=Z y):c=M/\x=Z y:=by
 cases c with
 |true=>exact⟨rfl,by simpa using h⟩
 |false=>simp at h
theorem HN {P:Program} {o:Oper} {e:y_} {h:nX} {nx:Nat} {s:XL} {R:zZ} (hc:dq P o.op=Z s) (D:ef s e h nx=Z R):gB P o e.get h.get R.eff:=by
 unfold dq at hc;split at hc
 .rename_i x A;simp only[af]at hc;subst hc;exact aj7 (.inl A) D
 .rename_i x A;simp only[af]at hc;subst hc;exact aj7 (.inr A) D
 .rename_i c a b A;simp only[af]at hc;subst hc;exact ag4 A D
 .rename_i t A;obtain⟨z,h1,hc⟩:=bind_some hc;obtain⟨h2,hc⟩:=me hc;simp only[af]at hc;subst hc;exact adg A h1 h2 D
 .rename_i t x A;simp only[af]at hc;subst hc;exact ajj A D
 .rename_i t ps A;split at hc
  .rename_i fs hu;obtain⟨z,h1,hc⟩:=bind_some hc;obtain⟨h2,hc⟩:=me hc;obtain⟨ps',F,rfl⟩:=map_some hc;simp only[ak]at h2;exact V4 A h1 h2.1 F (.inl ⟨fs,hu,h2.2⟩) D
  .rename_i n el hu;obtain⟨z,h1,hc⟩:=bind_some hc;obtain⟨h2,hc⟩:=me hc;obtain⟨ps',F,rfl⟩:=map_some hc;simp only[ak]at h2;obtain⟨sz,I⟩:=iK.1 h2.2;exact V4 A h1 h2.1 F (.inr ⟨n,el,sz,hu,I⟩) D
  .cases hc
 .rename_i t n ps A;obtain⟨el,h1,hc⟩:=bind_some hc;obtain⟨z,h2,hc⟩:=bind_some hc;obtain⟨sz,F,hc⟩:=bind_some hc;obtain⟨I,hc⟩:=me hc;obtain⟨ps',h5,rfl⟩:=map_some hc;simp only[ak,cR,bne_iff_ne]at I;exact aji A (sd h1) h2 F I.1.1.1 I.1.1.2 I.2 (a_ I.1.2) h5 D
 .rename_i t x A;obtain⟨sz,h1,hc⟩:=bind_some hc;obtain⟨ag,h2,rfl⟩:=map_some hc;exact ag7 A h1 h2 D
 .rename_i t x v A;obtain⟨sz,h1,rfl⟩:=map_some hc;exact adf A h1 D
 .rename_i x A;simp only[af]at hc;subst hc;exact ag5 A D
 .rename_i op t x y t' A;split at hc
  .simp only[af]at hc;subst hc;exact aew A D
  .simp only[af]at hc;subst hc;exact aew A D
  .rename_i hu;split at hc
   .simp only[af]at hc;subst hc;exact aev (neg:=aa) A rfl hu D
   .simp only[af]at hc;subst hc;exact aev (neg:=M) A rfl hu D
   .cases hc
  .rename_i el hu;split at hc
   .simp only[af]at hc;subst hc;exact V3 (neg:=aa) A rfl rfl hu D
   .simp only[af]at hc;subst hc;exact V3 (neg:=M) A rfl rfl hu D
   .cases hc
  .rename_i fs hu;obtain⟨ds,h1,hc⟩:=bind_some hc;unfold YP at h1;rw[hu]at h1;simp only[]at h1;split at h1
   .cases h1
   .rename_i hst;have hst:P.stoodInHeld t=aa:=by simpa using hst
    split at hc
    .simp only[af]at hc;subst hc;exact aeu (neg:=aa) A rfl hu hst h1 D
    .simp only[af]at hc;subst hc;exact aeu (neg:=M) A rfl hu hst h1 D
    .cases hc
  .cases hc
 .rename_i t x A;simp only[af]at hc;subst hc;exact aj5 A D
 .rename_i t x A;split at hc
  .simp only[af]at hc;subst hc;exact aj6 A D
  .cases hc
 .rename_i s' d x A;split at hc
  .rename_i k k' h1 h2;simp only[af]at hc;subst hc;exact agd A h1 h2 D
  .cases hc
 .rename_i t l c A;obtain⟨el,h1,hc⟩:=bind_some hc;obtain⟨z,h2,hc⟩:=bind_some hc;obtain⟨sz,F,hc⟩:=bind_some hc;obtain⟨b,h5,hc⟩:=bind_some hc;obtain⟨I,hc⟩:=me hc;simp only[ak,cR,bne_iff_ne]at I;simp only[af]at hc;subst hc;exact ag6 A (sd h1) h2 F h5 I.1.1 I.1.2 I.2 D
 .rename_i t x lo hi mx A;obtain⟨el,h1,hc⟩:=bind_some hc;obtain⟨sz,h2,rfl⟩:=map_some hc;exact aj2 A (sd h1) h2 D
 .rename_i t x k A;split at hc
  .rename_i fs hu;obtain⟨f,h1,hc⟩:=bind_some hc;obtain⟨sz,h2,hc⟩:=bind_some hc;obtain⟨F,hc⟩:=me hc;simp only[af]at hc;subst hc;exact ajf A hu h1 h2 (by simpa using F) D
  .cases hc
 .rename_i t x k A;split at hc
  .rename_i fs hu;obtain⟨f,h1,hc⟩:=bind_some hc;obtain⟨sz,h2,hc⟩:=bind_some hc;obtain⟨ag,F,rfl⟩:=map_some hc;exact aje A hu h1 h2 F D
  .cases hc
 .rename_i t x i A;split at hc
  .rename_i el hu;obtain⟨sz,h1,rfl⟩:=map_some hc;exact ajd A hu h1 D
  .rename_i n el hu;obtain⟨sz,h1,rfl⟩:=map_some hc;exact agb A hu h1 D
  .cases hc
 .rename_i t x i A;split at hc
  .rename_i n el hu;obtain⟨sz,h1,hc⟩:=bind_some hc;obtain⟨ag,h2,rfl⟩:=map_some hc;exact ajc A hu h1 h2 D
  .rename_i hu;simp only[af]at hc;subst hc;exact ag3 A hu D
  .cases hc
 .rename_i x i A;simp only[af]at hc;subst hc;exact ajg A D
 .rename_i f first caps A
  obtain⟨h1,hc⟩:=me hc;simp only[af]at hc;subst hc;have h2:first=#[]:=by simpa using h1
  subst h2;exact aj9 A D
 .rename_i t A;split at hc
  .simp only[af]at hc;subst hc;exact aj8 A D
  .cases hc
 .rename_i t x k ok A;split at hc
  .rename_i kt el hu;split at hc
   .rename_i q z h1 h2;obtain⟨F,hc⟩:=me hc;simp only[af]at hc;subst hc;exact aet (str:=aa) A hu h1 ⟨q,rfl⟩ h2 D
   .rename_i z h1 h2;obtain⟨F,hc⟩:=me hc;simp only[af]at hc;subst hc;exact aet (str:=M) A hu h1 rfl h2 D
   .cases hc
  .cases hc
 .rename_i t m k v A;split at hc
  .rename_i kt el hu;split at hc
   .rename_i q h1;simp only[af]at hc;subst hc;exact aes (str:=aa) A hu h1 ⟨q,rfl⟩ D
   .rename_i h1;simp only[af]at hc;subst hc;exact aes (str:=M) A hu h1 rfl D
   .cases hc
  .cases hc
 .rename_i t x A;split at hc
  .rename_i hu;simp only[af]at hc;subst hc;exact aj3 A hu D
  .cases hc
 .rename_i x A;simp only[af]at hc;subst hc;exact aj4 A D
 .rename_i c A;obtain⟨callee,args,argTypes⟩:=c;have arr:∀{α:Type} {x:Array α} {l:Y α},x.toList=l->x=l.toArray:=λh=>by rw[<- h]
  unfold Rv at hc;simp only[]at hc;split at hc
  .split at hc
   .rename_i x t h1 h2;rw[arr h1,arr h2]at A;split at hc
    .rename_i el hu;simp only[af]at hc;subst hc;exact aga A hu D
    .rename_i hu;simp only[af]at hc;subst hc;exact ag9 A hu D
    .rename_i k v hu;simp only[af]at hc;subst hc;exact ag8 A hu D
    .cases hc
   .cases hc
  .split at hc
   .rename_i x y h1;rw[arr h1]at A;simp only[af]at hc;subst hc;exact ajb A D
   .cases hc
  .split at hc
   .rename_i x y h1;rw[arr h1]at A;simp only[af]at hc;subst hc;exact aja A D
   .cases hc
  .split at hc
   .rename_i d x t u h1 h2;rw[arr h1,arr h2]at A;split at hc
    .rename_i el el' h1 h2;obtain⟨sz,F,hc⟩:=bind_some hc;obtain⟨I,hc⟩:=me hc;simp only[af]at hc;subst hc;exact agc A (sd h1) (sd h2) F D
    .cases hc
   .cases hc
  .split at hc
   .rename_i x t h1 h2;rw[arr h1,arr h2]at A;obtain⟨el,F,hc⟩:=bind_some hc;obtain⟨z,I,hc⟩:=bind_some hc;obtain⟨sz,h5,hc⟩:=bind_some hc;obtain⟨L,hc⟩:=me hc;simp only[ak,cR,bne_iff_ne,ne_eq]at L;simp only[af]at hc;subst hc;exact ajh A (sd F) I L.1.1 L.1.2 L.2 D
   .cases hc
  .split at hc
   .rename_i s' x t u h1 h2;rw[arr h1,arr h2]at A;split at hc
    .rename_i el el' h1 h2;obtain⟨sz,F,hc⟩:=bind_some hc;obtain⟨b,I,hc⟩:=bind_some hc;obtain⟨z,h5,hc⟩:=bind_some hc;obtain⟨L,hc⟩:=me hc;simp only[ak,cR,bne_iff_ne]at L;simp only[af]at hc;subst hc;exact ajk A (sd h1) (sd h2) F I h5 L.2 L.1 D
    .cases hc
   .cases hc
  .cases hc
 .cases hc
theorem mf {p:Nat->Bool}:∀{l:Y AV},AV.allL p l=M->∀x∈l,AV.all p x=M
 |[],_,x,d=>by cases d
 |y::l,h,x,d=>by
  simp only[AV.allL,ak]at h;rcases bu.1 d with rfl|d
  .exact h.1
  .exact mf h.2 x d
theorem cH.restrict {φ φ':PM} {O O':Nat->Prop} {w:World} {p:Nat->Bool} (hs:∀i k,p i=M->φ i=Z k->φ' i=Z k) (s:∀k,O' k->O k) {x:AV} {v:Value} (h:cH φ O w x v):x.all p=M->cH φ' O' w x v:=by
 induction h with
 |f h=>intro _;exact .f (h.ext (O':=O') (GU.refl O w) λk _ hk=>s k hk)
 |ptr h=>intro hp;exact .ptr (hs _ _ hp h)
 |sl h hn hc=>intro hp;exact .sl (hs _ _ hp h) hn hc
 |row h hn hc hsh=>intro hp;exact .row (hs _ _ hp h) hn hc hsh
 |emp=>intro _;exact .emp
 |anyb=>intro _;exact .anyb
 |ful h=>intro _;exact .ful (h.ext (O':=O') (GU.refl O w) λk _ hk=>s k hk)
 |mp h=>intro hp;exact .mp (hs _ _ hp h)
 |agg hl hcl hr q=>intro hp;exact .agg hl hcl λj x v d hv=>q j x v d hv (mf hp x (bh d))
 |tup hl hr q=>intro hp;exact .tup hl λj x v d hv=>q j x v d hv (mf hp x (bh d))
 |clo hl hr q=>intro hp;exact .clo hl λj x v d hv=>q j x v d hv (mf hp x (bh d))
theorem iV.restrict {φ φ':PM} {O O':Nat->Prop} {w w':World} {p:Nat->Bool} (hk:∀x v,x.all p=M->cH φ O w x v->cH φ' O' w' x v) {b:u_} {o:Obj} (hb:b.c.all p=M) (h:iV φ O w b o):iV φ' O' w' b o:=by
 unfold iV at h ⊢;cases hc:b.c with
 |fz l=>
  rw[hc]at h;obtain⟨arr,h1,h2,A⟩:=h;exact⟨arr,h1,h2,λj x z=>by
   obtain⟨a,v,c,d⟩:=A j x z;refine ⟨a,v,c,hk _ _ ?_ d⟩;simp only[BC.get]at z;cases hl:l[j]? with
   |none=>rw[hl]at z;cases z
   |some q=>rw[hl]at z;simp at z;subst z;rfl⟩
 |mx l=>
  rw[hc]at h hb;obtain⟨arr,h1,h2,A⟩:=h;exact⟨arr,h1,h2,λj x z=>by
   obtain⟨a,v,c,d⟩:=A j x z;exact⟨a,v,c,hk _ _ (mf hb x (bh z)) d⟩⟩
 |mp es=>
  rw[hc]at h hb;obtain⟨e,c,h1,h2,A⟩:=h;exact⟨e,c,h1,h2,λj x z=>by
   obtain⟨m,a,b⟩:=A j x z;exact⟨m,a,hk _ _ (mf hb x.2 (c7.2 ⟨x,bh z,rfl⟩)) b⟩⟩
 |it s q=>rw[hc]at h;exact h
def ZZ (m:Nat):ι:=(fm (m+1)).filter λi=>aO m i
theorem L7 {m i:Nat}:i∈ZZ m↔aO m i=M:=by
 unfold ZZ;rw[Ez,nA];constructor
 .exact λh=>h.2
 .intro h;refine ⟨?_,h⟩;have h1:=Nat.ge_two_pow_of_testBit h;have h2:=Nat.lt_two_pow_self (n:=i);omega
def j6 (φ:PM) (O:Nat->Prop) (w:World):Y AV->ξ->Prop
 |[],[]=>True
 |x::xs,v::vs=>cH φ O w x v/\j6 φ O w xs vs
 |_,_=>False
theorem j6.length {φ:PM} {O:Nat->Prop} {w:World}:∀{args:Y AV} {vs:ξ},j6 φ O w args vs->vs.length=args.length
 |[],[],_=>rfl
 |[],_::_,h=>h.elim
 |_::_,[],h=>h.elim
 |_::_,_::_,h=>by simp[j6.length h.2]
theorem j6.mono {φ φ':PM} {O O':Nat->Prop} {w w':World} {p:Nat->Bool} (hk:∀x v,x.all p=M->cH φ O w x v->cH φ' O' w' x v):∀{args:Y AV} {vs:ξ},AV.allL p args=M->j6 φ O w args vs->j6 φ' O' w' args vs
 |[],[],_,_=>trivial
 |[],_::_,_,h=>h.elim
 |_::_,[],_,h=>h.elim
 |x::xs,_::_,hp,h=>by
  simp only[AV.allL,ak]at hp;exact⟨hk _ _ hp.1 h.1,j6.mono hk hp.2 h.2⟩
theorem j6.append {φ:PM} {O:Nat->Prop} {w:World}:∀{xs d:Y AV} {vs us:ξ},j6 φ O w xs vs->j6 φ O w d us->j6 φ O w (xs++d) (vs++us)
 |[],_,[],_,_,h=>h
 |[],_,_::_,_,h,_=>h.elim
 |_::_,_,[],_,h,_=>h.elim
 |_::_,_,_::_,_,h,h'=>⟨h.1,j6.append h.2 h'⟩
theorem j6.of {φ:PM} {O:Nat->Prop} {w:World}:∀{xs:Y AV} {vs:ξ},vs.length=xs.length->(∀(j:Nat) x v,xs[j]? =Z x->vs[j]? =Z v->cH φ O w x v)->j6 φ O w xs vs
 |[],[],_,_=>trivial
 |[],_::_,h,_=>by simp at h
 |_::_,[],h,_=>by simp at h
 |x::xs,v::vs,hl,h=>⟨h 0 x v rfl rfl,j6.of (by simpa using hl) λj x v d hv=>h (j+1) x v (by simpa using d) (by simpa using hv)⟩
def Db (P:Program) (f:FuncId):Prop:=∃fn,P.funcs[f]? =Z fn∧fn.body.isNone=aa∧(fn.name== "runtime.NumGoroutine")=aa
theorem N0 {φ:PM} {E:Nat->Prop} {h':HF} {w:World} {a:Act} {e:y_} {o:Oper} (hp:Sm φ E h' w a e o):∀(xs:Y Operand) (d:Y AV),(∀x∈xs,x∈o.op.operands)->Vw e xs=Z d->j6 φ (tot E φ h') w d (xs.map a.eval)
 |[],d,_,h=>by simp only[Vw,af]at h;subst h;trivial
 |x::xs,d,hm,h=>by
  simp only[Vw]at h;split at h
  .rename_i y q;split at h
   .rename_i ys' hys;simp only[af]at h;subst h;exact⟨hp x y (hm x (eo ..)) q,N0 hp xs ys' (λx s=>hm x (dk _ s)) hys⟩
   .cases h
  .cases h
theorem wh {P:Program} {f:FuncId} (hc:Db P f) (args:Array Value) (w:World):(callFunc f args).run P w= .ok (.enter f args) w:=by
 obtain⟨fn,h1,h2,s⟩:=hc;have d:fn.name≠ "runtime.NumGoroutine" :=by simpa using s
 have q:fn.body≠U:=by intro h;rw[h]at h2;cases h2
 simp[callFunc,program,ka,h1,q,d]
theorem Vr:∀(fs:Y FPm) (i:Nat),WR fs i=fs[i]?
 |[],i=>by simp[WR]
 |f::fs,0=>rfl
 |f::fs,i+1=>by simp[WR,Vr fs i]
theorem wS {a b:Nat} (h:CP a b=M) (i:Nat) (d:aO a i=M):aO b i=aa:=by
 unfold CP at h;have h0:a&&&b=0:=au h;have:=Nat.testBit_and a b i;rw[h0,d]at this;simpa using this.symm
structure Ctx where
 n0:Nat
 φ:PM
 E:Nat->Prop
 h:HF
 w:World
def aao (P:Program) (d:Deferred):Prop:=∀w:World,∃s cap f args,d.target= .fn s cap/\(invoke d.target d.args).run P w= .ok (.enter f args) w/\
 CallsD P f args .returning w λe q w'=>(∃v,e= .returned v)/\q= .returning/\w'=w
structure Cfg (P:Program) (C:Ctx) (nt:Nat) (s:IS) (a:Act) (w:World):Prop where
 ex:∃φ,iW C.φ φ C.h s.h.get C.w w/\qO φ C.E s.h.get w/\MW φ (tot C.E φ s.h.get) w s.e.get a/\(∀i k,φ i=Z k->i<s.nx)/\∀i k,φ i=Z k->C.φ i=Z k\/C.n0<=i
 low:C.n0<=s.nx
 inert:∀d∈a.defers,aao P d
 size:a.tmps.size=nt
theorem Cfg.bool {P:Program} {C:Ctx} {nt:Nat} {s:IS} {a:Act} {w:World} (c:Cfg P C nt s a w) {t:Nat} {b:Bool} (ht:s.e.get t=Z (.f (.raw (.bool b)))):a.eval (.tmp t)= .bool b:=by
 obtain⟨φ,_,_,en,_,_⟩:=c.ex;exact eJ (en t _ ht)
theorem Bx {P:Program} {c:Code} {Q:Exit->Act->World->Prop} (I:Nat->Act->World->Prop) (round:∀n a w,I n a w->c.wp P (Exit.then (λa' w'=>∃m,m<n/\I m a' w') Q) a w) {n:Nat} {a:Act} {w:World} (h0:I n a w):(Code.loop c).wp P Q a w:=by
 have least:∀(n:Nat) (a:Act) (w:World),I n a w->∃m,I m a w/\∀k,I k a w->m<=k:=by
  intro n;induction n using Nat.strongRecOn with
  |_ n s=>
   intro a w hn;by_cases d:∃k,k<n/\I k a w
   .obtain⟨k,hk,q⟩:=d;exact s k hk a w q
   .exact⟨n,hn,λk hk=>Nat.le_of_not_lt λhlt=>d ⟨k,hlt,hk⟩⟩
 have pick:∀a w,∃m,(∃n,I n a w)->I m a w/\∀k,I k a w->m<=k:=λa w=>by
  by_cases d:∃n,I n a w
  .obtain⟨n,hn⟩:=d;obtain⟨m,hm⟩:=least n a w hn;exact⟨m,λ_=>hm⟩
  .exact⟨0,λh=>dP h d⟩
 let μ:Act->World->Nat:=λa w=>Classical.choose (pick a w)
 have hμ:∀a w,(∃n,I n a w)->I (μ a w) a w/\∀k,I k a w->μ a w<=k:=λa w=>Classical.choose_spec (pick a w)
 refine wp_loop (λa w=>∃n,I n a w) μ ⟨n,h0⟩ λa w q=>?_
 refine wp_mono (round (μ a w) a w (hμ a w q).1) λe a' w' he=>?_
 cases e with
 |normal=>
  obtain⟨m,hm,hIm⟩:=he;exact⟨⟨m,hIm⟩,Nat.lt_of_le_of_lt ((hμ a' w' ⟨m,hIm⟩).2 m hIm) hm⟩
 |exit id=>exact he
 |goto l=>exact he
 |ret=>exact he
 |panic c=>exact he
 |outgrown=>exact he
def Ex.to:Ex->Exit
 |.normal=>.normal
 |.exit id=>.exit id
 |.ret=>.ret
def Kd (P:Program) (inert:FuncId->Bool):Prop:=∀f,inert f=M->Db P f/\∀(args:Array Value) (w:World),CallsD P f args .returning w λe d w'=>(∃v,e= .returned v)/\d= .returning/\w'=w
theorem QP {P:Program} {C:Ctx} {nt:Nat} {inert:FuncId->Bool} (hin:Kd P inert) {s:IS} {a:Act} {w:World} (c:Cfg P C nt s a w) {id:Nat} {ops:Array Oper} {dr:Bool} {f:FuncId} {caps:Y Operand} {t:Nat} (hd:(ops.toList.all λo=>match o.dst with|some d=>decide (d<nt)|none=>M)=M) (hdf:CQ ops dr=Z (f,caps,t))
 {l:Y AV} (hl:Vw s.e caps=Z l) (hi:inert f=M) {Q:Exit->Act->World->Prop} (hQ:∀a w,Cfg P C nt ⟨s.e.put (Z t) (.clo f l),s.h,s.nx,s.wr⟩ a w->Q .normal a w):(Code.region id ops dr).wp P Q a w:=by
 unfold CQ at hdf;split at hdf
 .rename_i p q hops;split at hdf
  .rename_i f' first caps' t1 cl hpo hpg hpd hqo hqg hqd
   split at hdf
   .rename_i t2 hcl hca;split at hdf
    .rename_i hcond;simp only[ak]at hcond;obtain⟨h1,h2⟩:=hcond;have h1:=au h1;have h2:first=#[]:=by simpa using h2
     simp only[af,aC]at hdf;obtain⟨rfl,rfl,rfl⟩:=hdf;subst h1;subst h2;have hops':ops=#[p,q]:=by rw[<- Array.toArray_toList (xs:=ops),hops]
     obtain⟨φ,m,r,en,dm⟩:=c.ex;obtain⟨hcb,hincalls⟩:=hin f' hi;have htn:t1<nt:=by
      have:=gk.1 hd p (by rw[hops];simp);rw[hpd]at this;simpa using this
     have hrelL:j6 φ (tot C.E φ s.h.get) w l (caps'.toList.map a.eval):=by
      have hp':Sm φ C.E s.h.get w a s.e p:=λx y F I=>rN r (xs:=p.op.operands) (λt _ y I=>en t y I) F I
      exact N0 hp' caps'.toList l (λx F=>by rw[hpo];simpa[Op.operands] using F) hl
     have hcm:caps'.map a.eval=(caps'.toList.map a.eval).toArray:=by apply Kl;simp
     let A:Value:=.func (.func f') #[] (caps'.map a.eval)
     have hrel:cH φ (tot C.E φ s.h.get) w (.clo f' l) A:=by
      simp only[A];rw[hcm];refine .clo (hrelL.length) ?_;have:∀(xs:Y AV) (vs:ξ),j6 φ (tot C.E φ s.h.get) w xs vs->∀(j:Nat) x v,xs[j]? =Z x->vs[j]? =Z v->cH φ (tot C.E φ s.h.get) w x v:=by
       intro xs;induction xs with
       |nil=>intro vs _ j x v F;simp at F
       |cons y xs ih=>
        intro vs h j x v F hv;cases vs with
        |nil=>exact h.elim
        |cons u vs=>
         cases j with
         |zero=>simp at F hv;subst F;subst hv;exact h.1
         |succ j=>exact ih vs h.2 j x v (by simpa using F) (by simpa using hv)
      exact this _ _ hrelL
     refine wp_region ?_;have L:fm ops.size=[0,1]:=by rw[hops'];rfl
     rw[L];have e0:ops[0]? =Z p:=by rw[hops'];rfl
     have e1:ops[1]? =Z q:=by rw[hops'];rfl
     rw[wpOps_cons];have hexec1:(execOp a.eval p).run P w= .ok (.value A) w:=by
      unfold execOp;rw[hpo];simp[Instr.makeFunc,A]
     have w1:iJ p (yielded ops a.tmps)=M:=by unfold iJ;rw[hpg]
     unfold wpOp;simp only[e0,w1,bE];left;unfold G0;rw[hexec1];show wpOps P ops Q [1] (a.put p.dst A) w;rw[wpOps_cons];unfold wpOp;have w2:iJ q (yielded ops (a.put p.dst A).tmps)=M:=by unfold iJ;rw[hqg]
     simp only[e1,w2,bE];left;have heval:(a.put p.dst A).eval (.tmp t1)=A:=by
      show (a.put p.dst A).tmps.getD t1 undef=A;rw[HG (by intro d z;rw[hpd]at z;cases z;rw[c.size];exact htn),aT hpd]
     have hargs:cl.args=#[]:=by rw[<- Array.toArray_toList (xs:=cl.args),hca]
     have hexec2:(execOp (a.put p.dst A).eval q).run P w= .ok (.defer {target:=.fn (.func f') (caps'.map a.eval),args:=#[]}) w:=by
      unfold execOp;rw[hqo];simp[resolve,hcl,heval,A,Deferred.ofValue,hargs]
     unfold G0;rw[hexec2];show wpOps P ops Q [] _ w;refine hQ _ _ ⟨⟨φ,m,r,?_,dm⟩,c.low,?_,?_⟩
     .intro u x F;rw[hqd];show cH φ _ w x ((a.put p.dst A).tmps.getD u undef);rw[HG (by intro d z;rw[hpd]at z;cases z;rw[c.size];exact htn)];have D:(s.e.put (Z t1) (.clo f' l)).get u=Z x:=F;rw[<- YL]at D;unfold BO at D;rw[hpd];by_cases hu:Z t1=Z u
      .rw[aT hu]at D ⊢;cases D;exact hrel
      .rw[aL hu]at D ⊢;exact en u x D
     .intro d z;rw[hqd]at z;have hd'':d={target:=.fn (.func f') (caps'.map a.eval),args:=#[]}\/d∈(a.put p.dst A).defers:=by
       simpa[M2] using z
      rcases hd'' with rfl|hd''
      .intro w0;refine ⟨_,_,f',caps'.map a.eval,rfl,?_,hincalls _ w0⟩;simp[invoke,wh hcb]
      .rw[HH]at hd'';exact c.inert d hd''
     .rw[hqd];show (a.put p.dst A).tmps.size=nt;rw[Pp];exact c.size
    .cases hdf
   .cases hdf
  .cases hdf
 .cases hdf
def Wj (tmps:Array Value):ResultVar->Sem Value
 |.tmp t=>pure (tmps.getD t undef)
 |.cell a t=>do
  let d<-asAddr (tmps.getD a undef)
  loadVar t d
theorem SO (fn:Func) (tmps:Array Value):results fn tmps=(do let vs<-fn.results.mapM (Wj tmps);pure (if h:vs.size=1 then vs[0] else .tuple vs)):=by
 unfold results;congr 2
theorem BY {P:Program} {fn:Func} {tmps:Array Value} {R:Ending->World->Prop} {w:World} {v:Value} (hr:(results fn tmps).run P w= .ok v w) (q:R (.returned v) w):∀(ds:Y Deferred),(∀d∈ds,aao P d)->Leaves P fn tmps R ds .returning w
 |[],_=>⟨v,hr,q⟩
 |d::ds,h=>by
  obtain⟨z,cap,f,args,h1,h2,s⟩:=h d (eo ..) w;refine ⟨by simp,z,cap,f,args,h1,h2,s.mono ?_⟩;rintro e D w' ⟨⟨A,rfl⟩,rfl,rfl⟩;exact BY hr q ds λd hd=>h d (dk _ hd)
theorem j6.get {φ:PM} {O:Nat->Prop} {w:World}:∀{xs:Y AV} {vs:ξ},j6 φ O w xs vs->∀(j:Nat) x,xs[j]? =Z x->∃v,vs[j]? =Z v/\cH φ O w x v
 |[],_,_,j,x,d=>by simp at d
 |_::_,[],h,_,_,_=>h.elim
 |y::xs,u::vs,h,j,x,d=>by
  cases j with
  |zero=>simp at d;subst d;exact⟨u,rfl,h.1⟩
  |succ j=>exact j6.get h.2 j x (by simpa using d)
theorem Ru {P:Program} {f:FuncId} {d:SF} (h:yU P f=Z d):∃fn c,P.funcs[f]? =Z fn∧fn.body=Z c∧(fn.name== "runtime.NumGoroutine")=aa∧d.code=co P fn.ntmps c∧uN P fn.results.toList=Z d.res∧d.nt=fn.ntmps:=by
 unfold yU at h;split at h
 .rename_i fn hf;split at h
  .cases h
  .rename_i hn;split at h
   .rename_i c r hb hr;simp only[af]at h;subst h;exact⟨fn,c,hf,hb,by simpa using hn,rfl,hr,rfl⟩
   .cases h
 .cases h
theorem ad7 {a b:Value} (h:afx a b=M):a=b:=by
 unfold afx at h;split at h
 .simp at h;rw[h]
 .simp at h;rw[h.1,h.2]
 .rw[yY.1 h]
 .simp only[ak]at h;rw[au h.1,au h.2]
 .rfl
 .rename_i x y;simp only[ak,Array.isEmpty_iff]at h;rw[h.1,h.2]
 .cases h
def PT.mapO {α β:Type} (g:α->J β):PT α->PT β
 |.leaf=>.leaf
 |.node v l r=>.node (v.bind g) (PT.mapO g l) (PT.mapO g r)
theorem PT.get_mapO {α β:Type} (g:α->J β):∀(t:PT α) (i:Nat),(PT.mapO g t).get i=(t.get i).bind g
 |.leaf,i=>by simp[PT.mapO,PT.get]
 |.node v l r,0=>by simp[PT.mapO,PT.get]
 |.node v l r,j+1=>by
  simp only[PT.mapO,PT.get];split
  .exact PT.get_mapO g l _
  .exact PT.get_mapO g r _
theorem PT.get_updI {α:Type} (f:Nat->α->α):∀(t:PT α) (a b i:Nat),(PT.updI f a b t).get i=(t.get i).map (f (a*i+b))
 |.leaf,_,_,i=>by simp[PT.updI,PT.get]
 |.node v l r,a,b,0=>by cases v<;>simp[PT.updI,PT.get]
 |.node v l r,a,b,j+1=>by
  simp only[PT.updI,PT.get];split
  .rename_i hj;rw[PT.get_updI f l];have:2*a*(j/2)+(a+b)=a*(j+1)+b:=by
    have h2:j=2*(j/2):=by have:=au hj;omega
    have d:2*a*(j/2)=a*j:=by rw[G1 2 a,Nat.mul_assoc,<-h2]
    rw[d,Nat.mul_add];omega
   rw[this]
  .rename_i hj;rw[PT.get_updI f r];have:2*a*(j/2)+(2*a+b)=a*(j+1)+b:=by
    have h1:j%2≠0:=λh=>hj (by rw[h];rfl)
    have h2:j=2*(j/2)+1:=by omega
    have d:2*a*(j/2)=a*(2*(j/2)):=by rw[G1 2 a,Nat.mul_assoc]
    have q:a*(j+1)=a*(2*(j/2))+2*a:=by
     conv=>lhs;rw[h2]
     rw[Nat.mul_add,Nat.mul_add];omega
    rw[d,q];omega
   rw[this]
theorem PT.bound {α:Type}:∀(t:PT α),∃B,∀i,B<=i->t.get i=U
 |.leaf=>⟨0,λi _=>rfl⟩
 |.node v l r=>by
  obtain⟨a,d⟩:=PT.bound l;obtain⟨b,hb⟩:=PT.bound r;refine ⟨2*(a+b)+3,λi hi=>?_⟩;cases i with
  |zero=>omega
  |succ j=>
   simp only[PT.get];split
   .exact d _ (by omega)
   .exact hb _ (by omega)
def PT.ofF {α:Type} (f:Nat->J α):Nat->PT α
 |0=>.leaf
 |n+1=>(PT.ofF f n).set n (f n)
theorem PT.get_ofF {α:Type} (f:Nat->J α):∀(n i:Nat),(PT.ofF f n).get i=if i<n then f i else U
 |0,i=>by simp[PT.ofF,PT.get]
 |n+1,i=>by
  rw[PT.ofF,PT.get_set,PT.get_ofF f n];by_cases h:i=n
  .subst h;simp
  .rw[aL h];by_cases h2:i<n
   .rw[aT h2,aT (by omega)]
   .rw[aL h2,aL (by omega)]
def nm (i:Nat):Nat:=2*i
def ow (n:Nat):Nat:=n/2
theorem dQ (i:Nat):ow (nm i)=i:=by unfold ow nm;omega
theorem kV {i j:Nat} (h:nm i=nm j):i=j:=by unfold nm at h;omega
def fd (p:Bool) (id sz n:Nat):AV:=if p&&n==0 then .emp else .row (nm id) sz n
mutual
def b_ (h:bl):TV->J AV
 |.f T v=>Z (.f (gh T v))
 |.fel T xs j _ off=>Z (.f (.ptr (xs.flatMap (bP T)) (j.toNat*T.size+off)))
 |.pel id sz j off=>Z (.ptr (nm id) (j.toNat*sz+off))
 |.ptr id off=>Z (.ptr (nm id) off)
 |.csl id sz n=>Z (.row (nm id) sz n)
 |.row id=>match eh h id with|some (p,sz,n)=>Z (fd p id sz n)|none=>U
 |.rtl id j=>match eh h id with|some (_,sz,n)=>Z (.sl (nm id) (j.toNat*sz) (n-j.toNat))|none=>U
 |.emp=>Z .emp
 |.nil=>Z (.f (.raw (.slice U 0 0)))
 |.mp id=>Z (.mp (nm id))
 |.agg l=>match cD h l with|some l'=>Z (.agg l')|none=>U
 |.tup l=>match cD h l with|some l'=>Z (.tup l')|none=>U
 |.clo g l=>match cD h l with|some l'=>Z (.clo g l')|none=>U
 |.undef=>Z (.f (.raw undef))
 |.np=>Z (.f (.raw (.pointer U)))
 |.anyb=>Z .anyb
 |.ful T xs=>Z (.ful (xs.flatMap (bP T)) (ah xs))
def cD (h:bl):Y TV->J (Y AV)
 |[]=>Z []
 |x::r=>match b_ h x with
  |some y=>(match cD h r with|some l=>Z (y::l)|none=>U)
  |none=>U
end
def pK:(K:Ty)->K.den->Value
 |.int k,n=>.int k n
 |.str,s=>.string ⟨eT s⟩
 |_,_=>undef
def Y1:(K V:Ty)->Y (K.den×V.den)->BC
 |.st (.pr .str (.int .i64)),.un,es=>.it ⟨eT (G' es)⟩ (F3 es)
 |K,V,es=>.mp (es.map λp=>(pK K p.1,.f (gh V p.2)))
theorem yi {K V:Ty} {es:Y (K.den×V.den)} (h:S5 K=M):Y1 K V es= .mp (es.map λp=>(pK K p.1,.f (gh V p.2))):=by
 unfold Y1;split
 .cases h
 .rfl
theorem afi {K V:Ty} {es:Y (K.den×V.den)} {s:ζ} {p:Nat} (h:itE K V es=Z (s,p)):Y1 K V es= .it ⟨eT s⟩ p:=by
 unfold itE at h;split at h
 .cases h;rfl
 .cases h
def oG:Nat->Y AV->Y (Value×AV)
 |_,[]=>[]
 |i,v::r=>(.int .i64 (aU i),v)::oG (i+1) r
theorem B4:∀(l:Y AV) (i j:Nat),(oG i l)[j]? =(l[j]?).map λv=>(.int .i64 (aU (i+j)),v)
 |[],i,j=>rfl
 |v::r,i,0=>rfl
 |v::r,i,j+1=>by
  rw[oG,List.getElem?_cons_succ,B4 r (i+1) j,show i+1+j=i+(j+1) from by omega];rfl
theorem DC (k:Value):∀(l:Y AV) (i:Nat),k∈(oG i l).map (·.1)->vC k
 |v::r,i,h=>by
  rcases bu.1 h with h|h
  .exact⟨_,h⟩
  .exact DC k r (i+1) h
theorem L_:∀(l:Y AV) (i:Nat),(oG i l).map (·.2)=l
 |[],_=>rfl
 |v::r,i=>by rw[oG,fb,L_ r (i+1)]
theorem PF (f:AV->AV):∀(l:Y AV) (i:Nat),(oG i l).map (λp=>(p.1,f p.2))=oG i (l.map f)
 |[],_=>rfl
 |v::r,i=>by rw[oG,fb,PF f r (i+1)];rfl
theorem Ma:∀(l:Y AV) (i n:Nat),told (aU (i+n)) (oG i l)=l[n]?
 |[],i,n=>rfl
 |v::r,i,0=>by rw[oG,told,dh,aT rfl];rfl
 |v::r,i,n+1=>by
  rw[oG,told,aL (λe=>by have:=sk e;omega),show i+(n+1)=i+1+n from by omega,Ma r (i+1) n];rfl
theorem Mb (y:AV) (n:Int):∀(l:Y AV) (i:Nat),n<aU i->lI n y (oG i l)=oG i l
 |[],i,_=>rfl
 |v::r,i,h=>by
  simp only[oG,lI];rw[Mb y n r (i+1) (Int.lt_trans h (Int.ofNat_lt.2 (kH i))),aL (λe=>by rw[e]at h;exact Int.lt_irrefl _ h)]
theorem PD (y:AV):∀(l:Y AV) (i n:Nat),lI (aU (i+n)) y (oG i l)=oG i (l.set n y)
 |[],i,n=>rfl
 |v::r,i,0=>by
  simp only[oG,lI,dh,List.set_cons_zero];rw[Mb y (aU i) r (i+1) (Int.ofNat_lt.2 (kH i)),aT trivial]
 |v::r,i,n+1=>by
  simp only[oG,lI,List.set_cons_succ];rw[aL (λe=>by have:=sk e;omega),show i+(n+1)=i+1+n from by omega,PD y r (i+1) n]
theorem V6 {ty:TypeId} {es:Y (Value×AV)} {ents:Array MapEntry} (f:AV->AV):V7 ty (es.map λp=>(p.1,f p.2)) ents=V7 ty es ents:=by unfold V7;rw[G2];rfl
theorem Sz {α:Type} {l:Y α} {n:Nat} {x:α} (h:n<l.length):splice l n [x]=l.set n x:=by
 rw[List.set_eq_take_append_cons_drop,aT h];simp[splice]
def jB (h:bl):ia->J u_
 |.rows ty p T xs=>if p&&xs.length==0 then U else Z ⟨ty,.fz (xs.flatMap (bP T))⟩
 |.cells (Z ty) l=>match cD h l with|some d=>Z ⟨ty,.mx d⟩|none=>U
 |.cells U l=>match cD h l with|some d=>Z ⟨1,.mp (oG 0 d)⟩|none=>U
 |.dead _ _ _=>U
 |.mp K V es=>Z ⟨0,Y1 K V es⟩
def fw (e:iL) (h:bl):EF:=λt=>(e.get t).bind (b_ h)
def bB (h:bl):HF:=λn=>if n%2=0 then (h.get (n/2)).bind (jB h) else U
theorem bK (h:bl) (i:Nat):bB h (nm i)=(h.get i).bind (jB h):=by
 unfold bB nm;rw[aT (by omega),show 2*i/2=i from by omega]
theorem jA {h:bl} {n:Nat} {b:u_} (hb:bB h n=Z b):∃i c,n=nm i/\h.get i=Z c/\jB h c=Z b:=by
 unfold bB at hb;split at hb
 .cases hc:h.get (n/2) with
  |none=>rw[hc]at hb;cases hb
  |some c=>rw[hc]at hb;exact⟨n/2,c,by unfold nm;omega,hc,hb⟩
 .cases hb
def IU (e:iL) (h:bl):y_:=PT.mapO (b_ h) e
theorem uG (e:iL) (h:bl):(IU e h).get=fw e h:=by funext t;exact PT.get_mapO _ _ _
theorem jO (h:bl):∃H:nX,H.get=bB h:=by
 obtain⟨B,d⟩:=PT.bound h;refine ⟨PT.ofF (bB h) (2*B),?_⟩;funext n;rw[PT.get_ofF];split
 .rfl
 .unfold bB;split
  .rw[d _ (by omega)];rfl
  .rfl
theorem cW {h:bl} {x:TV} {r:Y TV} {l:Y AV} (he:cD h (x::r)=Z l):∃y d,l=y::d/\b_ h x=Z y/\cD h r=Z d:=by
 simp only[cD]at he;split at he
 .rename_i y q;split at he
  .rename_i d hl;simp only[af]at he;exact⟨y,d,he.symm,q,hl⟩
  .cases he
 .cases he
theorem o8 {h:bl} {x:TV} {r:Y TV} {y:AV} {d:Y AV} (h1:b_ h x=Z y) (h2:cD h r=Z d):cD h (x::r)=Z (y::d):=by
 simp only[cD,h1,h2]
theorem gz {h:bl}:∀{l:Y TV} {d:Y AV},cD h l=Z d->d.length=l.length
 |[],d,he=>by simp only[cD,af]at he;subst he;rfl
 |x::r,d,he=>by
  obtain⟨y,l2,rfl,_,h2⟩:=cW he;simp[gz h2]
theorem ny {h:bl}:∀{a b:Y TV} {a' b':Y AV},cD h a=Z a'->cD h b=Z b'->cD h (a++b)=Z (a'++b')
 |[],b,a',b',d,hb=>by simp only[cD,af]at d;subst d;exact hb
 |x::r,b,a',b',d,hb=>by
  obtain⟨y,l2,rfl,h1,h2⟩:=cW d;exact o8 h1 (ny h2 hb)
theorem Be {h:bl}:∀{a b:Y TV} {l:Y AV},cD h (a++b)=Z l->∃a' b',l=a'++b'/\cD h a=Z a'/\cD h b=Z b'
 |[],b,l,he=>⟨[],l,rfl,rfl,he⟩
 |x::r,b,l,he=>by
  obtain⟨y,l2,rfl,h1,h2⟩:=cW he;obtain⟨a',b',rfl,q,d⟩:=Be h2;exact⟨y::a',b',rfl,o8 h1 q,d⟩
theorem D7 {h:bl}:∀{l:Y TV} {d:Y AV} (n:Nat),cD h l=Z d->cD h (l.take n)=Z (d.take n)
 |[],d,n,he=>by simp only[cD,af]at he;subst he;simp[cD]
 |x::r,d,n,he=>by
  obtain⟨y,l2,rfl,h1,h2⟩:=cW he;cases n with
  |zero=>simp[cD]
  |succ n=>exact o8 h1 (D7 n h2)
theorem D9 {h:bl}:∀{l:Y TV} {d:Y AV} (n:Nat),cD h l=Z d->cD h (l.drop n)=Z (d.drop n)
 |[],d,n,he=>by simp only[cD,af]at he;subst he;simp[cD]
 |x::r,d,n,he=>by
  obtain⟨y,l2,rfl,h1,h2⟩:=cW he;cases n with
  |zero=>exact he
  |succ n=>simpa using D9 n h2
theorem pL {h:bl} {l vs:Y TV} {d vs':Y AV} (off:Nat) (h1:cD h l=Z d) (h2:cD h vs=Z vs'):cD h (splice l off vs)=Z (splice d off vs'):=by
 unfold splice;rw[gz h2];exact ny (ny (D7 _ h1) h2) (D9 _ h1)
theorem lh {h:bl}:∀{l:Y TV} {d:Y AV},cD h l=Z d->∀(j:Nat) x,l[j]? =Z x->∃y,d[j]? =Z y/\b_ h x=Z y
 |[],d,he,j,x,s=>by simp at s
 |x::r,d,he,j,z,q=>by
  obtain⟨y,l2,rfl,h1,h2⟩:=cW he;cases j with
  |zero=>simp at q;subst q;exact⟨y,rfl,h1⟩
  |succ j=>simpa using lh h2 j z (by simpa using q)
mutual
theorem pd (h:bl):∀(u:TV),KH h u=M->∃y,b_ h u=Z y
 |.f _ _,_=>⟨_,rfl⟩
 |.fel _ _ _ _ _,_=>⟨_,rfl⟩
 |.pel _ _ _ _,_=>⟨_,rfl⟩
 |.ptr _ _,_=>⟨_,rfl⟩
 |.csl _ _ _,_=>⟨_,rfl⟩
 |.row id,he=>by
  simp only[KH]at he;cases hr:eh h id with
  |none=>rw[hr]at he;cases he
  |some r=>obtain⟨p,sz,n⟩:=r;exact⟨_,by simp only[b_,hr];rfl⟩
 |.rtl id jj,he=>by
  simp only[KH]at he;cases hr:eh h id with
  |none=>rw[hr]at he;cases he
  |some r=>obtain⟨p,sz,n⟩:=r;exact⟨_,by simp only[b_,hr];rfl⟩
 |.emp,_=>⟨_,rfl⟩
 |.nil,_=>⟨_,rfl⟩
 |.mp _,_=>⟨_,rfl⟩
 |.agg l,he=>by obtain⟨y,hy⟩:=eY h l he;exact⟨_,by simp only[b_,hy];rfl⟩
 |.tup l,he=>by obtain⟨y,hy⟩:=eY h l he;exact⟨_,by simp only[b_,hy];rfl⟩
 |.clo g l,he=>by obtain⟨y,hy⟩:=eY h l he;exact⟨_,by simp only[b_,hy];rfl⟩
 |.undef,_=>⟨_,rfl⟩
 |.np,_=>⟨_,rfl⟩
 |.anyb,_=>⟨_,rfl⟩
 |.ful _ _,_=>⟨_,rfl⟩
theorem eY (h:bl):∀(l:Y TV),kU h l=M->∃l',cD h l=Z l'
 |[],_=>⟨[],rfl⟩
 |x::r,he=>by
  simp only[kU,ak]at he;obtain⟨y,hy⟩:=pd h x he.1;obtain⟨l',hl⟩:=eY h r he.2;exact⟨_,o8 hy hl⟩
end
def b8 (h h':bl):Prop:=∀id r,eh h id=Z r->eh h' id=Z r
mutual
theorem fE {h h':bl} (hk:b8 h h'):∀(u:TV) (y:AV),b_ h u=Z y->b_ h' u=Z y
 |.f _ _,y,he=>he
 |.fel _ _ _ _ _,y,he=>he
 |.pel _ _ _ _,y,he=>he
 |.ptr _ _,y,he=>he
 |.csl _ _ _,y,he=>he
 |.row id,y,he=>by
  simp only[b_]at he ⊢;split at he
  .rename_i p sz n hr;rw[hk _ _ hr];exact he
  .cases he
 |.rtl id jj,y,he=>by
  simp only[b_]at he ⊢;split at he
  .rename_i p sz n hr;rw[hk _ _ hr];exact he
  .cases he
 |.emp,y,he=>he
 |.nil,y,he=>he
 |.mp _,y,he=>he
 |.agg l,y,he=>by
  simp only[b_]at he ⊢;split at he
  .rename_i l' hl;rw[fY hk l l' hl];exact he
  .cases he
 |.tup l,y,he=>by
  simp only[b_]at he ⊢;split at he
  .rename_i l' hl;rw[fY hk l l' hl];exact he
  .cases he
 |.clo g l,y,he=>by
  simp only[b_]at he ⊢;split at he
  .rename_i l' hl;rw[fY hk l l' hl];exact he
  .cases he
 |.undef,y,he=>he
 |.np,y,he=>he
 |.anyb,y,he=>he
 |.ful _ _,y,he=>he
theorem fY {h h':bl} (hk:b8 h h'):∀(l:Y TV) (l':Y AV),cD h l=Z l'->cD h' l=Z l'
 |[],l',he=>he
 |x::r,l',he=>by
  obtain⟨y,l2,rfl,h1,h2⟩:=cW he;exact o8 (fE hk x y h1) (fY hk r l2 h2)
end
mutual
theorem mS {h h':bl} (hk:b8 h h'):∀(u:TV),KH h u=M->KH h' u=M
 |.f _ _,_=>rfl
 |.fel _ _ _ _ _,_=>rfl
 |.pel _ _ _ _,_=>rfl
 |.ptr _ _,_=>rfl
 |.csl _ _ _,_=>rfl
 |.row id,he=>by
  simp only[KH]at he ⊢;cases hr:eh h id with
  |none=>rw[hr]at he;cases he
  |some r=>rw[hk _ _ hr];rfl
 |.rtl id jj,he=>by
  simp only[KH]at he ⊢;cases hr:eh h id with
  |none=>rw[hr]at he;cases he
  |some r=>rw[hk _ _ hr];rfl
 |.emp,_=>rfl
 |.nil,_=>rfl
 |.mp _,_=>rfl
 |.agg l,he=>iR hk l he
 |.tup l,he=>iR hk l he
 |.clo g l,he=>iR hk l he
 |.undef,_=>rfl
 |.np,_=>rfl
 |.anyb,_=>rfl
 |.ful _ _,_=>rfl
theorem iR {h h':bl} (hk:b8 h h'):∀(l:Y TV),kU h l=M->kU h' l=M
 |[],_=>rfl
 |x::r,he=>by
  simp only[kU,ak]at he ⊢;exact⟨mS hk x he.1,iR hk r he.2⟩
end
mutual
theorem D6 (h:bl):∀(u:TV) (y:AV),b_ h u=Z y->KH h u=M
 |.f _ _,_,_=>rfl
 |.fel _ _ _ _ _,_,_=>rfl
 |.pel _ _ _ _,_,_=>rfl
 |.ptr _ _,_,_=>rfl
 |.csl _ _ _,_,_=>rfl
 |.row id,y,he=>by
  simp only[KH,b_]at he ⊢;cases hr:eh h id with
  |none=>rw[hr]at he;cases he
  |some r=>rfl
 |.rtl id jj,y,he=>by
  simp only[KH,b_]at he ⊢;cases hr:eh h id with
  |none=>rw[hr]at he;cases he
  |some r=>rfl
 |.emp,_,_=>rfl
 |.nil,_,_=>rfl
 |.mp _,_,_=>rfl
 |.agg l,y,he=>by
  simp only[b_]at he;split at he
  .rename_i l' hl;exact jV h l l' hl
  .cases he
 |.tup l,y,he=>by
  simp only[b_]at he;split at he
  .rename_i l' hl;exact jV h l l' hl
  .cases he
 |.clo g l,y,he=>by
  simp only[b_]at he;split at he
  .rename_i l' hl;exact jV h l l' hl
  .cases he
 |.undef,_,_=>rfl
 |.np,_,_=>rfl
 |.anyb,_,_=>rfl
 |.ful _ _,_,_=>rfl
theorem jV (h:bl):∀(l:Y TV) (l':Y AV),cD h l=Z l'->kU h l=M
 |[],_,_=>rfl
 |x::r,l',he=>by
  obtain⟨y,l2,rfl,h1,h2⟩:=cW he;simp only[kU,ak];exact⟨D6 h x y h1,jV h r l2 h2⟩
end
mutual
theorem Qx (h h':bl):∀(u:TV),tK u=M->b_ h u=b_ h' u
 |.f _ _,_=>rfl
 |.fel _ _ _ _ _,_=>rfl
 |.pel _ _ _ _,_=>rfl
 |.ptr _ _,_=>rfl
 |.csl _ _ _,_=>rfl
 |.row id,he=>by cases he
 |.emp,_=>rfl
 |.nil,_=>rfl
 |.mp _,_=>rfl
 |.agg l,he=>by simp only[b_];rw[D8 h h' l he]
 |.tup l,he=>by simp only[b_];rw[D8 h h' l he]
 |.clo g l,he=>by cases he
 |.undef,_=>rfl
 |.np,_=>rfl
 |.anyb,_=>rfl
 |.ful _ _,_=>rfl
theorem D8 (h h':bl):∀(l:Y TV),qm l=M->cD h l=cD h' l
 |[],_=>rfl
 |x::r,he=>by
  simp only[qm,ak]at he;simp only[cD];rw[Qx h h' x he.1,D8 h h' r he.2]
end
theorem Nx {h:bl} {u:TV} {y:AV} (he:b_ h u=Z y) (hc:u.isC=M):y.isCell=M:=by
 cases u with
 |f T v=>cases T<;>simp only[b_,af]at he<;>subst he<;>first|rfl|(simp [TV.isC,Ty.one]at hc)
 |fel T xs j hj off=>simp only[b_,af]at he;subst he;rfl
 |pel id sz j off=>simp only[b_,af]at he;subst he;rfl
 |ptr id off=>simp only[b_,af]at he;subst he;rfl
 |csl id off z=>simp only[b_,af]at he;subst he;rfl
 |row id=>
  simp only[b_]at he;split at he
  .simp only[af]at he;subst he;unfold fd;split<;>rfl
  .cases he
 |rtl id d=>cases hc
 |emp=>simp only[b_,af]at he;subst he;rfl
 |nil=>simp only[b_,af]at he;subst he;rfl
 |mp id=>simp only[b_,af]at he;subst he;rfl
 |agg l=>cases hc
 |tup l=>cases hc
 |clo g l=>
  simp only[b_]at he;split at he
  .simp only[af]at he;subst he;rfl
  .cases he
 |undef=>cases hc
 |np=>simp only[b_,af]at he;subst he;rfl
 |anyb=>cases hc
 |ful T xs=>cases hc
theorem rR {h:bl}:∀{l:Y TV} {d:Y AV},cD h l=Z d->kF l=M->gi d=M
 |[],d,he,_=>by simp only[cD,af]at he;subst he;rfl
 |x::r,d,he,hc=>by
  obtain⟨y,l2,rfl,h1,h2⟩:=cW he;simp only[kF,ak]at hc;simp only[gi,ak];exact⟨Nx h1 hc.1,rR h2 hc.2⟩
def Le (x y:AV):Prop:=∀(φ:PM) (O:Nat->Prop) (w:World) (v:Value),cH φ O w x v->cH φ O w y v
theorem Le.refl (x:AV):Le x x:=λ_ _ _ _ h=>h
def lw (H H':HF) (x y:AV):Prop:=∀(φ:PM) (E:Nat->Prop) (w:World) (v:Value),qO φ E H w->cH φ (tot E φ H) w x v->cH φ (tot E φ H') w y v
def ul (H H':HF):Prop:=∀i b,H' i=Z b->∃b0,H i=Z b0
theorem ul.refl (H:HF):ul H H:=λ_ b h=>⟨b,h⟩
theorem ul.own {H H':HF} (d:ul H H') {φ:PM} {k:Nat} (h:own φ H' k):own φ H k:=by
 obtain⟨i,b,h1,h2⟩:=h;obtain⟨b0,q⟩:=d i b h1;exact⟨i,b0,q,h2⟩
theorem ul.tot {H H':HF} (d:ul H H') {E:Nat->Prop} {φ:PM} {k:Nat} (h:tot E φ H' k):tot E φ H k:=h.imp id d.own
theorem cH.dom {H H':HF} (d:ul H H') {φ:PM} {E:Nat->Prop} {w:World} {x:AV} {v:Value} (h:cH φ (tot E φ H) w x v):cH φ (tot E φ H') w x v:=
 h.ext (λ_ _ h=>h) (GU.refl _ w) λ_ _ hk=>d.tot hk
theorem mw.dom {H H':HF} (d:ul H H') {φ:PM} {E:Nat->Prop} {w:World} {x:FV} {v:Value} (h:mw (tot E φ H) w x v):mw (tot E φ H') w x v:=
 h.ext (GU.refl _ w) λ_ _ hk=>d.tot hk
theorem Le.toH {H H':HF} (d:ul H H') {x y:AV} (h:Le x y):lw H H' x y:=λφ E w v _ hr=>(h _ _ _ _ hr).dom d
theorem lw.refl {H H':HF} (d:ul H H') (x:AV):lw H H' x x:=(Le.refl x).toH d
def gT (H H':HF):Y AV->Y AV->Prop
 |[],[]=>True
 |x::xs,y::d=>lw H H' x y/\gT H H' xs d
 |_,_=>False
theorem gT.refl {H H':HF} (d:ul H H'):∀l,gT H H' l l
 |[]=>trivial
 |x::r=>⟨lw.refl d x,gT.refl d r⟩
theorem gT.length {H H':HF}:∀{l d:Y AV},gT H H' l d->d.length=l.length
 |[],[],_=>rfl
 |[],_::_,h=>h.elim
 |_::_,[],h=>h.elim
 |_::_,_::_,h=>by simp[gT.length h.2]
theorem gT.get {H H':HF}:∀{l q:Y AV},gT H H' l q->∀(j:Nat) y,q[j]? =Z y->∃x,l[j]? =Z x/\lw H H' x y
 |[],[],_,j,y,d=>by simp at d
 |[],_::_,h,_,_,_=>h.elim
 |_::_,[],h,_,_,_=>h.elim
 |x::xs,z::ys,h,j,y,d=>by
  cases j with
  |zero=>simp at d;subst d;exact⟨x,rfl,h.1⟩
  |succ j=>simpa using gT.get h.2 j y (by simpa using d)
theorem gT.append {H H':HF}:∀{a a' b b':Y AV},gT H H' a a'->gT H H' b b'->gT H H' (a++b) (a'++b')
 |[],[],_,_,_,h=>h
 |[],_::_,_,_,h,_=>h.elim
 |_::_,[],_,_,h,_=>h.elim
 |_::_,_::_,_,_,h,h'=>⟨h.1,gT.append h.2 h'⟩
theorem gT.take {H H':HF}:∀{a a':Y AV} (n:Nat),gT H H' a a'->gT H H' (a.take n) (a'.take n)
 |[],[],n,_=>by simp[gT]
 |[],_::_,_,h=>h.elim
 |_::_,[],_,h=>h.elim
 |_::_,_::_,0,_=>trivial
 |_::_,_::_,n+1,h=>⟨h.1,gT.take n h.2⟩
theorem gT.drop {H H':HF}:∀{a a':Y AV} (n:Nat),gT H H' a a'->gT H H' (a.drop n) (a'.drop n)
 |[],[],n,_=>by simp[gT]
 |[],_::_,_,h=>h.elim
 |_::_,[],_,h=>h.elim
 |_::_,_::_,0,h=>h
 |_::_,_::_,n+1,h=>gT.drop n h.2
theorem gT.splice {H H':HF} {a a' b b':Y AV} (off:Nat) (h1:gT H H' a a') (h2:gT H H' b b'):gT H H' (splice a off b) (splice a' off b'):=by
 unfold AI.splice;rw[h2.length];exact ((h1.take off).append h2).append (h1.drop _)
def ip (H H':HF) (b b':u_):Prop:=∀(φ:PM) (E:Nat->Prop) (w:World) (o:Obj),qO φ E H w->iV φ (tot E φ H) w b o->iV φ (tot E φ H') w b' o
theorem ip.refl {H H':HF} (d:ul H H') (b:u_):ip H H' b b:=λ_ _ _ _ _ h=>h.mono λ_ _ h=>h.dom d
theorem pF {φ:PM} {O:Nat->Prop} {w:World} {ty:TypeId} {c:BC} {o:Obj} (hc:c.isCells=M):iV φ O w ⟨ty,c⟩ o↔∃arr,o= .cells arr ty (0,0)/\uO φ O w c arr:=by
 unfold iV;cases c<;>simp[BC.isCells]at hc<;>rfl
theorem ip.cells {H H':HF} {ty:TypeId} {c c':BC} (hc:c.isCells=M) (d:c'.isCells=M) (hl:gT H H' c.toMx c'.toMx) (hcell:∀x∈c'.toMx,x.isCell=M):ip H H' ⟨ty,c⟩ ⟨ty,c'⟩:=by
 intro φ E w o hrep s;rw[pF hc]at s;rw[pF d];obtain⟨arr,h1,h2,F⟩:=s;refine ⟨arr,h1,by rw[BC.len_toMx d,hl.length,<-BC.len_toMx hc];exact h2,λj x q=>?_⟩;rw[BC.get_toMx d]at q;refine ⟨hcell x (bh q),?_⟩;obtain⟨y,z,hle⟩:=hl.get j x q;obtain⟨_,v,D,A⟩:=F j y (by rw[BC.get_toMx hc];exact z);exact⟨v,D,hle _ _ _ _ hrep A⟩
def VP (ty:J TypeId) (l:Y AV):u_:=match ty with
 |some ty=>⟨ty,.mx l⟩
 |none=>⟨1,.mp (oG 0 l)⟩
theorem agi {es:Y (Value×AV)} {ents:Array MapEntry}:V7 1 es ents↔(∀m∈ents.toList,vC m.key)/\∀k∈es.map (·.1),vC k:=by
 unfold V7;rw[aL (by decide)]
theorem MpV1 {ents:Array MapEntry} {j:Nat} {k v:Value}:MpV 1 ents j k v↔v=kn k ents.toList:=by
 unfold MpV;rw[aL (by decide)]
theorem ip.told {H H':HF} {l q:Y AV} (hl:gT H H' l q):ip H H' ⟨1,.mp (oG 0 l)⟩ ⟨1,.mp (oG 0 q)⟩:=by
 intro φ E w o hrep A;obtain⟨ents,clock,h1,h2,I⟩:=A;refine ⟨ents,clock,h1,agi.2 ⟨(agi.1 h2).1,λk hk=>DC k _ _ hk⟩,λj x d=>?_⟩;rw[B4]at d;cases hj:q[j]? with
 |none=>rw[hj]at d;cases d
 |some y=>
  rw[hj]at d;cases d;obtain⟨z,s,hle⟩:=hl.get j y hj;obtain⟨v,F,D⟩:=I j _ (by rw[B4,s];rfl);exact⟨v,F,hle _ _ _ _ hrep D⟩
theorem ip.lay {H H':HF} (n:Nat):ip H H' ⟨0,.mp []⟩ ⟨1,.mp (oG 0 (aA n (.f (.raw (.slice U 0 0)))))⟩:=by
 intro φ E w o hrep s;obtain⟨ents,clock,h1,h2,z⟩:=s;have h2:ents.toList.map (·.key)=[]:=by unfold V7 at h2;rw[aT rfl]at h2;exact h2
 have q:ents.toList=[]:=List.map_eq_nil_iff.1 h2;refine ⟨ents,clock,h1,agi.2 ⟨λm hm=>(by rw[q]at hm;cases hm),λk hk=>DC k _ _ hk⟩,λj x d=>?_⟩;rw[B4]at d;cases hj:(aA n (AV.f (.raw (.slice U 0 0))))[j]? with
 |none=>rw[hj]at d;cases d
 |some y=>
  rw[hj]at d;cases d;have hm:=bh hj;rw[List.mem_replicate]at hm;obtain⟨_,rfl⟩:=hm;exact⟨_,MpV1.2 rfl,by rw[q];exact .f (.raw _)⟩
theorem ip.eq {H H':HF} (d:ul H H') {ty:TypeId} {c c':BC} (hc:c.isCells=M) (q:c'.isCells=M) (hl:c.toMx=c'.toMx):ip H H' ⟨ty,c⟩ ⟨ty,c'⟩:=by
 intro φ E w o hrep z;rw[pF hc]at z;rw[pF q];obtain⟨arr,h1,h2,I⟩:=z;refine ⟨arr,h1,by rw[BC.len_toMx q,<-hl,<-BC.len_toMx hc];exact h2,λj x s=>?_⟩;rw[BC.get_toMx q,<-hl,<-BC.get_toMx hc]at s;obtain⟨F,v,D,A⟩:=I j x s;exact⟨F,v,D,A.dom d⟩
structure GP (H H':HF):Prop where
 dom:ul H H'
 blk:∀i b b',H i=Z b->H' i=Z b'->ip H H' b b'
theorem GP.refl (H:HF):GP H H:=⟨ul.refl H,λi b b' h h'=>by rw[h]at h';cases h';exact ip.refl (ul.refl H) b⟩
theorem GP.rep {H H':HF} (V:GP H H') {φ:PM} {E:Nat->Prop} {w:World} (r:qO φ E H w):qO φ E H' w:=by
 refine ⟨λi j b b' k d z s q=>?_,λi b d=>?_,r.el,λg cells hg=>(r.gl g cells hg).dom V.dom⟩
 .obtain⟨b0,q1⟩:=V.dom i b d;obtain⟨b1,q2⟩:=V.dom j b' z;exact r.inj i j b0 b1 k q1 q2 s q
 .obtain⟨b0,q1⟩:=V.dom i b d;obtain⟨k,p1,p2,ob,p3,p4⟩:=r.at_ i b0 q1;exact⟨k,p1,p2,ob,p3,V.blk i b0 b q1 d φ E w ob r p4⟩
theorem gB.view {P:Program} {o:Oper} {e:EF} {h:HF} {val val':AV} {rd wr wr' N:ι} {nw nw':HF} (ht:gB P o e h ⟨val,rd,wr,nw,N⟩) (hsub:∀i∈wr,i∈wr'\/i∈rd)
 (hv:∀h':HF,(∀i∈rd,h' i=h i)->(∀i∈wr',h' i=h i)->GP (eF h' wr nw) (eF h' wr' nw')/\lw (eF h' wr nw) (eF h' wr' nw') val val'):gB P o e h ⟨val',rd,wr',nw',N⟩:=by
 intro φ E h' w a h1 h2 D A z;have q:=ht φ E h' w a h1 (λi hi=>(hsub i hi).elim (h2 i) (h1 i)) D A z;obtain⟨V,hle⟩:=hv h' h1 h2;refine OY ?_ q;rintro a' w' ⟨v,φ',rfl,mv,nm',d,rel⟩;exact⟨v,φ',rfl,⟨mv.sub,mv.ext,λk hk s=>mv.own_ k hk (V.dom.own s)⟩,nm',V.rep d,hle _ _ _ _ d rel⟩
theorem Le.nil:Le (.f (.raw (.slice U 0 0))) (.f (.sl [] 0)):=by
 intro φ O w v hr;cases hr with
 |f hr=>cases hr;exact .f (.nil U 0 (by unfold maxLen;omega))
theorem Le.emp:Le .emp (.f (.sl [] 0)):=by
 intro φ O w v hr;cases hr with
 |emp=>exact .f (.nil _ 0 (by unfold maxLen;omega))
theorem Le.nilEmp:Le (.f (.raw (.slice U 0 0))) .emp:=by
 intro φ O w v hr;cases hr with
 |f hr=>cases hr;exact .emp
theorem Le.aggF {l:Y FV}:Le (.f (.agg l)) (.agg (l.map .f)):=by
 intro φ O w v hr;cases hr with
 |f hr=>
  cases hr with
  |agg _ vs hl hcl hrr=>
   refine .agg (by simp[hl]) (λx d=>?_) λj x u d hu=>?_
   .obtain⟨y,q,rfl⟩:=c7.1 d;exact hcl y q
   .rw[bi]at d;cases hc:l[j]? with
    |none=>rw[hc]at d;cases d
    |some y=>rw[hc]at d;simp at d;subst d;exact .f (hrr j y u hc hu)
theorem Y2 (l:Y AV):Le (L4 l) (.agg l):=by
 unfold L4;split
 .rename_i fs h;rw[pN h];exact Le.aggF
 .exact Le.refl _
theorem lw.aggL {H H':HF} {l:Y AV} {d:Y FV} (h:gT H H' l (d.map .f)) (hc:∀x∈d,x.isCell=M):lw H H' (.agg l) (.f (.agg d)):=by
 intro φ E w v hrep hr;cases hr with
 |@agg _ vs hl hcl hrr=>
  refine .f (.agg d vs (by rw[hl,<-h.length];simp) hc λj y u q hu=>?_);obtain⟨x,s,hle⟩:=h.get j (.f y) (by rw[bi,q];rfl);have:=hle φ E w u hrep (hrr j x u s hu);cases this with
  |f h=>exact h
theorem lw.row {H H':HF} (d:ul H H') {id sz n:Nat} {ty:TypeId} {cells:Y FV} (h1:H id=Z ⟨ty,.fz cells⟩) (h2:H' id=U) (hl:cells.length=n*sz):lw H H' (.row id sz n) (.f (.sl cells n)):=by
 intro φ E w v r hr;cases hr with
 |@row _ _ _ c k hφ hn hcap hsh=>
  obtain⟨k',q1,q2,_⟩:=r.at_ id _ h1;rw[hφ]at q1;cases q1;obtain⟨arr,p1,p2,p3⟩:=r.cs h1 hφ rfl;have hk:k<w.heap.size:=(ct.1 p1).1;have hlen:cells.length<=arr.size:=by simpa[BC.toMx] using p3
  have hnk:¬tot E φ H' k:=by
   rintro (A|⟨j,b,s,z⟩)
   .exact q2 A
   .obtain⟨b0,D⟩:=d j b s;have:=r.inj j id b0 _ k D h1 z hφ;subst this;rw[h2]at s;cases s
  have hget:∀(j:Nat) x,cells[j]? =Z x->∃u,arr[j]? =Z u/\mw (tot E φ H) w x u:=λj x q=>by
   have hj:j<cells.length:=(bm.1 q).1;have hja:j<arr.size:=by omega
   refine ⟨arr[j],by simp[hja],?_⟩;have:=p2.2.2 j (.f x) arr[j] (by simp[BC.toMx,q]) (by
    rw[cA,aT (by simpa[BC.toMx] using hj),cq];simp[hja])
   cases this with
   |f h=>exact h
  refine .f (.sl cells n c k 0 (λj=>(arr[j]?).getD undef) hn hcap hnk hk (λx q=>?_) (λj hj=>?_) (λj x q=>?_))
  .have:=p2.2.1 (.f x) (by simp only[BC.toMx];exact c7.2 ⟨x,q,rfl⟩);exact this
  .have:j<arr.size:=by omega
   simp[M0,p1,this]
  .obtain⟨u,s,z⟩:=hget j x q;rw[s];exact z.dom d
theorem sa:∀l:Y Xp,I0 l=l.flatMap vJ
 |[]=>rfl
 |x::r=>by rw[I0,sa r];rfl
theorem yI:∀l:Y Sx,IZ l=l.flatMap xn
 |[]=>rfl
 |x::r=>by rw[IZ,yI r];rfl
theorem IY (e:Xp):bP Mm (M4 e)=vJ e:=by
 cases e with
 |mk op n name l=>simp only[Mm,M4,bP,vJ,Xp.op,Xp.n,Xp.name,Xp.l,sa];rfl
theorem QI (x:Mm.den):vJ (d8 x)=bP Mm x:=by
 simp only[Mm,d8,bP,vJ,sa];rfl
theorem IX (e:Sx):bP LR (M3 e)=xn e:=by
 cases e with
 |mk op line name arg index expr body els=>simp only[LR,M3,bP,xn,Sx.op,Sx.line,Sx.name,Sx.arg,Sx.index,Sx.expr,Sx.body,Sx.els,sa,yI];rfl
theorem QH (x:LR.den):xn (oD x)=bP LR x:=by
 simp only[LR,oD,bP,xn,sa,yI];rfl
theorem wN (e:Xp):(vJ e).length=4:=by cases e;simp[vJ]
theorem Cp (e:Sx):(xn e).length=11:=by cases e;simp[xn,wN]
theorem bA:∀(T:Ty) (v:T.den),(bP T v).length=T.size
 |.int _,_=>rfl
 |.bool,_=>rfl
 |.str,_=>rfl
 |.sl _,_=>rfl
 |.st t,v=>bA t v
 |.pr a b,v=>by simp[bP,Ty.size,bA a,bA b]
 |.un,_=>rfl
 |.ex,v=>wN v
 |.sm,v=>Cp v
theorem I1 (e:Xp):∀x∈vJ e,x.isCell=M:=by
 cases e with
 |mk op n name l=>
  intro x d;simp only[vJ,bu,cE,gH]at d;rcases d with rfl|rfl|rfl|rfl<;>rfl
theorem TN (e:Sx):∀x∈xn e,x.isCell=M:=by
 cases e with
 |mk op line name arg index expr body els=>
  intro x d;simp only[xn,bN,bu,cE,gH]at d;rcases d with (d|d)|d
  .rcases d with rfl|rfl|rfl|rfl|rfl<;>rfl
  .exact I1 _ _ d
  .rcases d with rfl|rfl<;>rfl
theorem nU:∀(T:Ty) (v:T.den),∀x∈bP T v,x.isCell=M
 |.int _,_,x,d=>by simp only[bP,aJ]at d;subst d;rfl
 |.bool,_,x,d=>by simp only[bP,aJ]at d;subst d;rfl
 |.str,_,x,d=>by simp only[bP,aJ]at d;subst d;rfl
 |.sl _,_,x,d=>by simp only[bP,aJ]at d;subst d;rfl
 |.st t,v,x,d=>nU t v x d
 |.pr a b,v,x,d=>by
  simp only[bP,bN]at d;exact d.elim (nU a v.1 x) (nU b v.2 x)
 |.un,_,x,d=>by simp[bP]at d
 |.ex,v,x,d=>I1 v x d
 |.sm,v,x,d=>TN v x d
theorem Cq:∀(T:Ty) (v:T.den),T.one=M->bP T v=[gh T v]/\T.size=1
 |.int _,_,_=>⟨rfl,rfl⟩
 |.bool,_,_=>⟨rfl,rfl⟩
 |.str,_,_=>⟨rfl,rfl⟩
 |.sl _,_,_=>⟨rfl,rfl⟩
 |.st _,_,h=>by cases h
 |.pr _ _,_,h=>by cases h
 |.un,_,h=>by cases h
 |.ex,_,h=>by cases h
 |.sm,_,h=>by cases h
theorem qv:∀(T:Ty) (v:T.den),T.one=aa->gh T v= .agg (bP T v)
 |.int _,_,h=>by cases h
 |.bool,_,h=>by cases h
 |.str,_,h=>by cases h
 |.sl _,_,h=>by cases h
 |.st _,_,_=>rfl
 |.pr _ _,_,_=>rfl
 |.un,_,_=>rfl
 |.ex,_,_=>rfl
 |.sm,_,_=>rfl
theorem zE (T:Ty) (v:T.den):(AV.f (gh T v)).cs=(bP T v).map .f:=by
 cases h:T.one with
 |true=>
  rw[(Cq T v h).1];cases T<;>simp only[Ty.one]at h<;>first|rfl|cases h
 |false=>rw[qv T v h];rfl
theorem eH {α:Type} {f:α->Y FV} {n:Nat} (hf:∀x,(f x).length=n):∀(xs:Y α),(xs.flatMap f).length=xs.length*n
 |[]=>by simp
 |x::r=>by rw[fy,b6,hf,eH hf r,cf,iN];omega
theorem DZ {α:Type} {f:α->Y FV} {n:Nat} (hf:∀x,(f x).length=n):∀(xs:Y α) (j:Nat) (x:α),xs[j]? =Z x->∃r,(xs.flatMap f).drop (j*n)=f x++r
 |[],j,x,h=>by simp at h
 |y::r,j,x,h=>by
  cases j with
  |zero=>simp at h;subst h;exact⟨r.flatMap f,by simp⟩
  |succ j=>
   obtain⟨q,hq⟩:=DZ hf r j x (by simpa using h);refine ⟨q,?_⟩;rw[fy,show (j+1)*n=(f y).length+j*n from by rw[hf,iN];omega,ut];simp[hq]
theorem Qt {α:Type} {f:α->Y FV} {n:Nat} (hf:∀x,(f x).length=n):∀(xs:Y α) (j:Nat) (x z:α),xs[j]? =Z x->∀(off:Nat) (vs:Y FV),off+vs.length<=n->f z=AI.splice (f x) off vs->(xs.set j z).flatMap f=AI.splice (xs.flatMap f) (j*n+off) vs
 |[],j,x,z,h,_,_,_,_=>by simp at h
 |y::r,j,x,z,h,off,vs,hle,d=>by
  cases j with
  |zero=>
   simp at h;subst h;simp only[List.set_cons_zero,fy,d,Nat.zero_mul,bL];unfold AI.splice;have s:=hf y;rw[List.take_append,ut];have e1:off-(f y).length=0:=by omega
   have e2:off+vs.length-(f y).length=0:=by omega
   rw[e1,e2];simp[iv]
  |succ j=>
   have q:=Qt hf r j x z (by simpa using h) off vs hle d;simp only[List.set_cons_succ,fy,q];unfold AI.splice;have s:=hf y;have e0:(j+1)*n=(f y).length+j*n:=by rw[hf,iN];omega
   rw[e0,List.take_append,ut];have e1:(f y).length+j*n+off-(f y).length=j*n+off:=by omega
   have e2:(f y).length+j*n+off+vs.length-(f y).length=j*n+off+vs.length:=by omega
   rw[e1,e2,eU (by omega:(f y).length<=(f y).length+j*n+off),rB (by omega:(f y).length<=(f y).length+j*n+off+vs.length)];simp[iv]
theorem rj (T:Ty) (xs:Y T.den):∀x∈xs.flatMap (bP T),x.isCell=M:=λx d=>by
 obtain⟨y,_,h⟩:=uq.1 d;exact nU T y x h
theorem gO {S T:Ty} {v:S.den} {x:T.den} (h:sM T v=Z x):∃e:S=T,x=e▸v:=by
 unfold sM at h;split at h
 .rename_i e;simp only[af]at h;exact⟨e,h.symm⟩
 .cases h
theorem lV (h:bl):∀(n:Nat) (T:Ty) (v:T.den) (l:Y TV),cellsOf n T v=Z l->cD h l=Z ((bP T v).map .f)/\kF l=M
 |0,_,_,_,he=>by simp[cellsOf]at he
 |n+1,.st t,v,l,he=>lV h n t v l he
 |n+1,.pr a b,v,l,he=>by
  simp only[cellsOf]at he;split at he
  .rename_i x y q d;simp only[af]at he;subst he;obtain⟨h1,h2⟩:=lV h n a v.1 x q;obtain⟨s,D⟩:=lV h n b v.2 y d;refine ⟨by rw[bP,da];exact ny h1 s,?_⟩;clear h1 s q d;induction x with
   |nil=>exact D
   |cons z r A=>simp only[kF,ak,gZ]at h2 ⊢;exact⟨h2.1,A h2.2⟩
  .cases he
 |n+1,.un,v,l,he=>by simp only[cellsOf,af]at he;subst he;exact⟨rfl,rfl⟩
 |n+1,.ex,v,l,he=>by rw[bP,<-IY];exact lV h n Mm (M4 v) l he
 |n+1,.sm,v,l,he=>by rw[bP,<-IX];exact lV h n LR (M3 v) l he
 |n+1,.int k,v,l,he=>by simp only[cellsOf,af]at he;subst he;exact⟨rfl,rfl⟩
 |n+1,.bool,v,l,he=>by simp only[cellsOf,af]at he;subst he;exact⟨rfl,rfl⟩
 |n+1,.str,v,l,he=>by simp only[cellsOf,af]at he;subst he;exact⟨rfl,rfl⟩
 |n+1,.sl t,v,l,he=>by simp only[cellsOf,af]at he;subst he;exact⟨rfl,rfl⟩
theorem Nm {y:AV} (h:y.isCell=M):y.cs=[y]:=by
 cases y with
 |f x=>cases x<;>first|rfl|cases h
 |agg l=>cases h
 |_=>rfl
theorem Jz {h:bl} {v:TV} {l:Y TV} {y:AV} (hv:v.cs=Z l) (d:b_ h v=Z y):cD h l=Z y.cs/\kF l=M:=by
 have one:(if v.isC then Z [v] else U)=Z l->cD h l=Z y.cs/\kF l=M:=λhv=>by
  split at hv
  .rename_i hc;simp only[af]at hv;subst hv;exact⟨by rw[Nm (Nx d hc)];exact o8 d rfl,by simp[kF,hc]⟩
  .cases hv
 cases v with
 |agg q=>
  simp only[TV.cs]at hv;split at hv
  .rename_i hc;simp only[af]at hv;subst hv;simp only[b_]at d;split at d
   .rename_i s hl;simp only[af]at d;subst d;exact⟨hl,hc⟩
   .cases d
  .cases hv
 |f T x=>
  simp only[TV.cs]at hv;simp only[b_,af]at d;subst d;rw[zE];exact lV h 40 T x l hv
 |fel T xs j hj off=>exact one hv
 |pel id sz j off=>exact one hv
 |ptr id off=>exact one hv
 |csl id off z=>exact one hv
 |row id=>exact one hv
 |emp=>exact one hv
 |nil=>exact one hv
 |mp id=>exact one hv
 |rtl id A=>exact one hv
 |tup q=>exact one hv
 |clo g q=>exact one hv
 |undef=>exact one hv
 |np=>exact one hv
 |anyb=>exact one hv
 |ful S q=>exact one hv
def Dh (h:bl) (H H':HF) (m:Nat):Prop:=∀id,aO m id=M->H (nm id)=bB h (nm id)/\H' (nm id)=U
theorem Dh.zero {h:bl} {H H':HF}:Dh h H H' 0:=λid hid=>by simp at hid
theorem Dh.or {h:bl} {H H':HF} {a b:Nat} (g:Dh h H H' (a|||b)):Dh h H H' a/\Dh h H H' b:=
 ⟨λid hid=>g id (by rw[bw,hid];rfl),λid hid=>g id (by rw[bw,hid];simp)⟩
theorem bW {i j:Nat}:aO (ku i) j=M↔i=j:=by
 unfold ku;rw[Nat.one_shiftLeft,Nat.testBit_two_pow];simp
section pack
variable {h:bl} {H H':HF}
theorem wW (d:ul H H') {T:Ty} {v:TV} {x:T.den} {m:Nat} {y:AV} (s:h_ h T v=Z (x,m)) (A:b_ h v=Z y) (g:Dh h H H' m):lw H H' y (.f (gh T x))/\y.cs.length=T.size/\(T.one=M->y.isCell=M)/\gT H H' y.cs ((bP T x).map .f):=by
 cases v with
 |f S v=>
  simp only[h_]at s;split at s
  .rename_i z D;simp only[af,aC]at s;obtain⟨rfl,_⟩:=s;obtain⟨e,rfl⟩:=gO D;subst e;simp only[b_,af]at A;subst A;refine ⟨lw.refl d _,by rw[zE,ca,bA],λI=>?_,by rw[zE];exact gT.refl d _⟩;cases S<;>simp only[Ty.one]at I<;>first|rfl|cases I
  .cases s
 |emp=>
  simp only[h_]at s;split at s
  .simp only[af,aC]at s;obtain⟨rfl,_⟩:=s;simp only[b_,af]at A;subst A;exact⟨Le.emp.toH d,rfl,λ_=>rfl,⟨Le.emp.toH d,trivial⟩⟩
  .cases s
 |nil=>
  simp only[h_]at s;split at s
  .simp only[af,aC]at s;obtain⟨rfl,_⟩:=s;simp only[b_,af]at A;subst A;exact⟨Le.nil.toH d,rfl,λ_=>rfl,⟨Le.nil.toH d,trivial⟩⟩
  .cases s
 |row id=>
  simp only[h_]at s;split at s
  .rename_i ty p S xs hb;split at s
   .rename_i z D;simp only[af,aC]at s;obtain⟨rfl,rfl⟩:=s;obtain⟨e,rfl⟩:=gO D;subst e;obtain⟨F,L⟩:=g id (bW.2 rfl);rw[bK,hb]at F;simp only[b_,eh,hb,af]at A;subst A;have key:lw H H' (fd p id S.size xs.length) (.f (gh (.sl S) xs)):=by
     unfold fd;split
     .rename_i hp;simp only[ak,cR]at hp;have:xs=[]:=ji.1 hp.2;subst this;exact Le.emp.toH d
     .rename_i hp;simp only[aD,jB,aL hp]at F;exact lw.row d F L (eH (bA S) xs)
    have hc:(fd p id S.size xs.length).isCell=M:=by unfold fd;split<;>rfl
    refine ⟨key,by rw[Nm hc];rfl,λ_=>hc,?_⟩;rw[Nm hc];exact⟨key,trivial⟩
   .cases s
  .cases s
 |fel T xs j hj off=>simp[h_]at s
 |pel id sz j off=>simp[h_]at s
 |ptr id off=>simp[h_]at s
 |csl id off z=>simp[h_]at s
 |mp id=>simp[h_]at s
 |rtl id jj=>simp[h_]at s
 |agg q=>simp[h_]at s
 |tup q=>simp[h_]at s
 |clo f q=>simp[h_]at s
 |undef=>simp[h_]at s
 |np=>simp[h_]at s
 |anyb=>simp[h_]at s
 |ful S q=>simp[h_]at s
theorem rT (d:ul H H'):∀(n:Nat) (T:Ty) (l:Y TV) (x:T.den) (m:Nat) (r:Y TV) (s:Y AV),eM h n T l=Z (x,m,r)->cD h l=Z s->Dh h H H' m->∃l1 l2,s=l1++l2/\cD h r=Z l2/\gT H H' l1 ((bP T x).map .f)
 |0,_,_,_,_,_,_,hp,_,_=>by simp[eM]at hp
 |n+1,.st t,l,x,m,r,s,hp,hl,g=>rT d n t l x m r s hp hl g
 |n+1,.pr a b,l,x,m,r,s,hp,hl,g=>by
  simp only[eM]at hp;split at hp
  .rename_i x1 m1 r1 h1;split at hp
   .rename_i x2 m2 r2 h2;simp only[af,aC]at hp;obtain⟨rfl,rfl,rfl⟩:=hp;obtain⟨F,D⟩:=g.or;obtain⟨l1,l2,rfl,q1,q2⟩:=rT d n a l x1 m1 r1 s h1 hl F;obtain⟨A,z,rfl,q3,q4⟩:=rT d n b r1 x2 m2 r2 l2 h2 q1 D;refine ⟨l1++A,z,by simp,q3,?_⟩;rw[bP,da];exact q2.append q4
   .cases hp
  .cases hp
 |n+1,.un,l,x,m,r,s,hp,hl,g=>by
  simp only[eM,af,aC]at hp;obtain⟨_,_,rfl⟩:=hp;exact⟨[],s,rfl,hl,trivial⟩
 |n+1,.ex,l,x,m,r,s,hp,hl,g=>by
  simp only[eM]at hp;split at hp
  .rename_i x1 m1 r1 h1;simp only[af,aC]at hp;obtain⟨rfl,rfl,rfl⟩:=hp;rw[bP,QI];exact rT d n Mm l x1 m1 r1 s h1 hl g
  .cases hp
 |n+1,.sm,l,x,m,r,s,hp,hl,g=>by
  simp only[eM]at hp;split at hp
  .rename_i x1 m1 r1 h1;simp only[af,aC]at hp;obtain⟨rfl,rfl,rfl⟩:=hp;rw[bP,QH];exact rT d n LR l x1 m1 r1 s h1 hl g
  .cases hp
 |n+1,.int k,l,x,m,r,s,hp,hl,g=>by
  simp only[eM]at hp;split at hp
  .rename_i c q;split at hp
   .rename_i x1 m1 h1;simp only[af,aC]at hp;obtain⟨rfl,rfl,rfl⟩:=hp;obtain⟨y,l2,rfl,q1,q2⟩:=cW hl;exact⟨[y],l2,rfl,q2,⟨(wW d h1 q1 g).1,trivial⟩⟩
   .cases hp
  .cases hp
 |n+1,.bool,l,x,m,r,s,hp,hl,g=>by
  simp only[eM]at hp;split at hp
  .rename_i c q;split at hp
   .rename_i x1 m1 h1;simp only[af,aC]at hp;obtain⟨rfl,rfl,rfl⟩:=hp;obtain⟨y,l2,rfl,q1,q2⟩:=cW hl;exact⟨[y],l2,rfl,q2,⟨(wW d h1 q1 g).1,trivial⟩⟩
   .cases hp
  .cases hp
 |n+1,.str,l,x,m,r,s,hp,hl,g=>by
  simp only[eM]at hp;split at hp
  .rename_i c q;split at hp
   .rename_i x1 m1 h1;simp only[af,aC]at hp;obtain⟨rfl,rfl,rfl⟩:=hp;obtain⟨y,l2,rfl,q1,q2⟩:=cW hl;exact⟨[y],l2,rfl,q2,⟨(wW d h1 q1 g).1,trivial⟩⟩
   .cases hp
  .cases hp
 |n+1,.sl t,l,x,m,r,s,hp,hl,g=>by
  simp only[eM]at hp;split at hp
  .rename_i c q;split at hp
   .rename_i x1 m1 h1;simp only[af,aC]at hp;obtain⟨rfl,rfl,rfl⟩:=hp;obtain⟨y,l2,rfl,q1,q2⟩:=cW hl;exact⟨[y],l2,rfl,q2,⟨(wW d h1 q1 g).1,trivial⟩⟩
   .cases hp
  .cases hp
theorem SS (d:ul H H') {n:Nat} {T:Ty} {l:Y TV} {x:T.den} {m:Nat} {q:Y AV} (hp:eM h n T l=Z (x,m,[])) (hl:cD h l=Z q) (g:Dh h H H' m):gT H H' q ((bP T x).map .f):=by
 obtain⟨l1,l2,rfl,q1,q2⟩:=rT d n T l x m [] q hp hl g;simp only[cD,af]at q1;subst q1;simpa using q2
theorem OC (d:ul H H') {T:Ty} {v:TV} {x:T.den} {m:Nat} {y:AV} (s:Bs h T v=Z (x,m)) (A:b_ h v=Z y) (g:Dh h H H' m):lw H H' y (.f (gh T x))/\gT H H' y.cs ((bP T x).map .f):=by
 have other:h_ h T v=Z (x,m)->lw H H' y (.f (gh T x))/\gT H H' y.cs ((bP T x).map .f):=λs=>by
  obtain⟨h1,_,_,h2⟩:=wW d s A g;exact⟨h1,h2⟩
 cases v with
 |agg l=>
  simp only[Bs]at s;split at s
  .cases s
  .rename_i D;split at s
   .rename_i x1 m1 h1;simp only[af,aC]at s;obtain⟨rfl,rfl⟩:=s;simp only[b_]at A;split at A
    .rename_i F hl;simp only[af]at A;subst A;have:=SS d h1 hl g;refine ⟨?_,this⟩;rw[qv T x1 (by simpa using D)];exact lw.aggL this (nU T x1)
    .cases A
   .cases s
 |f S v=>exact other s
 |fel T xs j hj off=>exact other s
 |pel id sz j off=>exact other s
 |ptr id off=>exact other s
 |csl id off z=>exact other s
 |row id=>exact other s
 |emp=>exact other s
 |nil=>exact other s
 |mp id=>exact other s
 |rtl id I=>exact other s
 |tup q=>exact other s
 |clo g q=>exact other s
 |undef=>exact other s
 |np=>exact other s
 |anyb=>exact other s
 |ful S q=>exact other s
theorem BR (d:ul H H') {T:Ty}:∀(n:Nat) (l:Y TV) (xs:Y T.den) (m:Nat) (q:Y AV),ya h T n l=Z (xs,m)->cD h l=Z q->Dh h H H' m->gT H H' q ((xs.flatMap (bP T)).map .f)/\xs.length=n
 |0,[],xs,m,q,hp,hl,g=>by
  simp only[ya,af,aC]at hp;obtain⟨rfl,_⟩:=hp;simp only[cD,af]at hl;subst hl;exact⟨trivial,rfl⟩
 |0,_::_,xs,m,q,hp,hl,g=>by simp[ya]at hp
 |n+1,l,xs,m,q,hp,hl,g=>by
  simp only[ya]at hp;split at hp
  .rename_i x1 m1 r1 h1;split at hp
   .rename_i x2 m2 h2;simp only[af,aC]at hp;obtain⟨rfl,rfl⟩:=hp;obtain⟨z,s⟩:=g.or;obtain⟨l1,l2,rfl,q1,q2⟩:=rT d 40 T l x1 m1 r1 q h1 hl z;obtain⟨q3,q4⟩:=BR d n r1 x2 m2 l2 h2 q1 s;refine ⟨?_,by simp[q4]⟩;rw[fy,da];exact q2.append q3
   .cases hp
  .cases hp
theorem tR (h:bl):∀(n:Nat) (T:Ty) (v:T.den) (off sz:Nat) (ag:Bool) (u:TV),nY n T v off sz ag=Z u->off+sz<=T.size/\∃y,b_ h u=Z (.f y)/\(ag=aa->sz=1/\(bP T v)[off]? =Z y)/\(ag=M->y= .agg (((bP T v).drop off).take sz))
 |0,_,_,_,_,_,_,hg=>by simp[nY]at hg
 |n+1,.st t,v,off,sz,ag,u,hg=>by
  simp only[nY]at hg;split at hg
  .rename_i hc;simp only[ak]at hc;obtain⟨⟨h1,h2⟩,rfl⟩:=hc;have h1:=au h1;have h2:=au h2;subst h1;subst h2;simp only[af]at hg;subst hg;refine ⟨by simp[Ty.size],_,rfl,λh=>(by cases h),λ_=>?_⟩;simp only[gh,bP,List.drop_zero];rw[<- bA t v,bS]
  .exact tR h n t v off sz ag u hg
 |n+1,.pr a b,v,off,sz,ag,u,hg=>by
  simp only[nY]at hg;have hla:=bA a v.1;have hlb:=bA b v.2;split at hg
  .rename_i hlt;have hlt:off<a.size:=a_ hlt;obtain⟨h1,y,h2,q,d⟩:=tR h n a v.1 off sz ag u hg;refine ⟨by simp only[Ty.size];omega,y,h2,λe=>?_,λe=>?_⟩
   .obtain⟨z,s⟩:=q e;exact⟨z,by rw[bP,bQ (by omega)];exact s⟩
   .rw[d e,bP];have:((bP a v.1++bP b v.2).drop off).take sz=((bP a v.1).drop off).take sz:=by
     rw[Dd (by omega),ll (by simp;omega)]
    rw[this]
  .rename_i hlt;have hlt:¬off<a.size:=λh=>hlt (bt h)
   obtain⟨h1,y,h2,q,d⟩:=tR h n b v.2 (off-a.size) sz ag u hg;refine ⟨by simp only[Ty.size];omega,y,h2,λe=>?_,λe=>?_⟩
   .obtain⟨z,s⟩:=q e;exact⟨z,by rw[bP,bX (by omega),hla];exact s⟩
   .rw[d e,bP];have:(bP a v.1++bP b v.2).drop off=(bP b v.2).drop (off-a.size):=by
     rw[ut,hla,rB (by omega)];simp
    rw[this]
 |n+1,.un,v,off,sz,ag,u,hg=>by simp[nY]at hg
 |n+1,.ex,v,off,sz,ag,u,hg=>by
  simp only[nY]at hg;split at hg
  .rename_i hc;simp only[ak]at hc;obtain⟨⟨h1,h2⟩,rfl⟩:=hc;have h1:=au h1;have h2:=au h2;subst h1;subst h2;simp only[af]at hg;subst hg;refine ⟨by simp[Ty.size],_,rfl,λh=>(by cases h),λ_=>?_⟩;simp only[gh,bP,List.drop_zero];rw[<- wN v,bS]
  .obtain⟨h1,y,h2,q,d⟩:=tR h n Mm (M4 v) off sz ag u hg;rw[IY]at q d;exact⟨h1,y,h2,q,d⟩
 |n+1,.sm,v,off,sz,ag,u,hg=>by
  simp only[nY]at hg;split at hg
  .rename_i hc;simp only[ak]at hc;obtain⟨⟨h1,h2⟩,rfl⟩:=hc;have h1:=au h1;have h2:=au h2;subst h1;subst h2;simp only[af]at hg;subst hg;refine ⟨by simp[Ty.size],_,rfl,λh=>(by cases h),λ_=>?_⟩;simp only[gh,bP,List.drop_zero];rw[<- Cp v,bS]
  .obtain⟨h1,y,h2,q,d⟩:=tR h n LR (M3 v) off sz ag u hg;rw[IX]at q d;exact⟨h1,y,h2,q,d⟩
 |n+1,.int k,v,off,sz,ag,u,hg=>by
  simp only[nY]at hg;split at hg
  .rename_i hc;simp only[ak,d_]at hc;obtain⟨⟨h1,h2⟩,rfl⟩:=hc;have h1:=au h1;have h2:=au h2;subst h1;subst h2;simp only[af]at hg;subst hg;exact⟨by simp[Ty.size],_,rfl,λ_=>⟨rfl,rfl⟩,λh=>by cases h⟩
  .cases hg
 |n+1,.bool,v,off,sz,ag,u,hg=>by
  simp only[nY]at hg;split at hg
  .rename_i hc;simp only[ak,d_]at hc;obtain⟨⟨h1,h2⟩,rfl⟩:=hc;have h1:=au h1;have h2:=au h2;subst h1;subst h2;simp only[af]at hg;subst hg;exact⟨by simp[Ty.size],_,rfl,λ_=>⟨rfl,rfl⟩,λh=>by cases h⟩
  .cases hg
 |n+1,.str,v,off,sz,ag,u,hg=>by
  simp only[nY]at hg;split at hg
  .rename_i hc;simp only[ak,d_]at hc;obtain⟨⟨h1,h2⟩,rfl⟩:=hc;have h1:=au h1;have h2:=au h2;subst h1;subst h2;simp only[af]at hg;subst hg;exact⟨by simp[Ty.size],_,rfl,λ_=>⟨rfl,rfl⟩,λh=>by cases h⟩
  .cases hg
 |n+1,.sl t,v,off,sz,ag,u,hg=>by
  simp only[nY]at hg;split at hg
  .rename_i hc;simp only[ak,d_]at hc;obtain⟨⟨h1,h2⟩,rfl⟩:=hc;have h1:=au h1;have h2:=au h2;subst h1;subst h2;simp only[af]at hg;subst hg;exact⟨by simp[Ty.size],_,rfl,λ_=>⟨rfl,rfl⟩,λh=>by cases h⟩
  .cases hg
theorem SA {α:Type} (l vs:Y α) (h:vs.length=l.length):AI.splice l 0 vs=vs:=by
 unfold AI.splice;rw[bL,h,List.drop_length];simp
theorem O9 {α:Type} (a b vs:Y α) (off:Nat) (h:off+vs.length<=a.length):AI.splice (a++b) off vs=AI.splice a off vs++b:=by
 unfold AI.splice;rw[ll (by omega),Dd (by omega)];simp[iv]
theorem Nb {α:Type} (a b vs:Y α) (off:Nat) (h:a.length<=off):AI.splice (a++b) off vs=a++AI.splice b (off-a.length) vs:=by
 unfold AI.splice;rw[List.take_append,ut,eU h,rB (by omega),show off+vs.length-a.length=off-a.length+vs.length from by omega];simp[iv]
def V5 (H H':HF) (y:AV) (T:Ty) (v z:T.den) (off sz:Nat):Prop:=∃fs:Y FV,gT H H' y.cs (fs.map .f)/\fs.length=sz/\off+sz<=T.size/\bP T z=AI.splice (bP T v) off fs/\∀x∈fs,x.isCell=M
theorem V5.whole {y:AV} {T:Ty} {v z:T.den} {off sz:Nat} (h0:off=0) (hs:sz=T.size) (hl:gT H H' y.cs ((bP T z).map .f)):V5 H H' y T v z off sz:=by
 subst h0;subst hs;exact⟨bP T z,hl,bA T z,by omega,(SA _ _ (by rw[bA,bA])).symm,nU T z⟩
theorem vk (d:ul H H') {u:TV} {y:AV} (s:b_ h u=Z y):∀(n:Nat) (T:Ty) (v:T.den) (off sz:Nat) (z:T.den) (m:Nat),gK h u n T v off sz=Z (z,m)->Dh h H H' m->V5 H H' y T v z off sz
 |0,_,_,_,_,_,_,hg,_=>by simp[gK]at hg
 |n+1,.st t,v,off,sz,z,m,hg,g=>by
  simp only[gK]at hg;split at hg
  .rename_i q hq;split at hq
   .rename_i hc;simp only[ak]at hc;simp only[af]at hg;subst hg;exact .whole (au hc.1) (au hc.2) (OC d hq s g).2
   .cases hq
  .exact vk d s n t v off sz z m hg g
 |n+1,.pr a b,v,off,sz,z,m,hg,g=>by
  simp only[gK]at hg;have hla:=bA a v.1;split at hg
  .rename_i hlt;split at hg
   .rename_i A m1 h1;simp only[af,aC]at hg;obtain⟨rfl,rfl⟩:=hg;obtain⟨fs,q1,q2,q3,q4,q5⟩:=vk d s n a v.1 off sz A m1 h1 g;refine ⟨fs,q1,q2,by simp only[Ty.size];omega,?_,q5⟩;rw[bP,bP,O9 _ _ _ _ (by omega),q4]
   .cases hg
  .rename_i hlt;have hlt:¬off<a.size:=λh=>hlt (bt h)
   split at hg
   .rename_i A m1 h1;simp only[af,aC]at hg;obtain⟨rfl,rfl⟩:=hg;obtain⟨fs,q1,q2,q3,q4,q5⟩:=vk d s n b v.2 (off-a.size) sz A m1 h1 g;refine ⟨fs,q1,q2,by simp only[Ty.size];omega,?_,q5⟩;rw[bP,bP,Nb _ _ _ _ (by omega),q4,hla]
   .cases hg
 |n+1,.un,v,off,sz,z,m,hg,g=>by simp[gK]at hg
 |n+1,.ex,v,off,sz,z,m,hg,g=>by
  simp only[gK]at hg;split at hg
  .rename_i q hq;split at hq
   .rename_i hc;simp only[ak]at hc;simp only[af]at hg;subst hg;exact .whole (au hc.1) (au hc.2) (OC d hq s g).2
   .cases hq
  .split at hg
   .rename_i A m1 h1;simp only[af,aC]at hg;obtain⟨rfl,rfl⟩:=hg;obtain⟨fs,q1,q2,q3,q4,q5⟩:=vk d s n Mm (M4 v) off sz A m1 h1 g;exact⟨fs,q1,q2,q3,by rw[bP,bP,QI,q4,IY],q5⟩
   .cases hg
 |n+1,.sm,v,off,sz,z,m,hg,g=>by
  simp only[gK]at hg;split at hg
  .rename_i q hq;split at hq
   .rename_i hc;simp only[ak]at hc;simp only[af]at hg;subst hg;exact .whole (au hc.1) (au hc.2) (OC d hq s g).2
   .cases hq
  .split at hg
   .rename_i A m1 h1;simp only[af,aC]at hg;obtain⟨rfl,rfl⟩:=hg;obtain⟨fs,q1,q2,q3,q4,q5⟩:=vk d s n LR (M3 v) off sz A m1 h1 g;exact⟨fs,q1,q2,q3,by rw[bP,bP,QH,q4,IX],q5⟩
   .cases hg
 |n+1,.int k,v,off,sz,z,m,hg,g=>by
  simp only[gK]at hg;split at hg
  .rename_i hc;simp only[ak]at hc;exact .whole (au hc.1) (au hc.2) (wW d hg s g).2.2.2
  .cases hg
 |n+1,.bool,v,off,sz,z,m,hg,g=>by
  simp only[gK]at hg;split at hg
  .rename_i hc;simp only[ak]at hc;exact .whole (au hc.1) (au hc.2) (wW d hg s g).2.2.2
  .cases hg
 |n+1,.str,v,off,sz,z,m,hg,g=>by
  simp only[gK]at hg;split at hg
  .rename_i hc;simp only[ak]at hc;exact .whole (au hc.1) (au hc.2) (wW d hg s g).2.2.2
  .cases hg
 |n+1,.sl t,v,off,sz,z,m,hg,g=>by
  simp only[gK]at hg;split at hg
  .rename_i hc;simp only[ak]at hc;exact .whole (au hc.1) (au hc.2) (wW d hg s g).2.2.2
  .cases hg
theorem JR:∀{a b:ξ},RD a b=M->a=b
 |[],[],_=>rfl
 |[],_::_,h=>by cases h
 |_::_,[],h=>by cases h
 |x::xs,y::ys,h=>by
  simp only[RD,ak]at h;rw[ad7 h.1,JR h.2]
theorem zero_ok (d:ul H H'):∀T:Ty,gT H H' ((sD T).map raw) ((bP T T.zero).map .f)
 |.int k=>⟨lw.refl d _,trivial⟩
 |.bool=>⟨lw.refl d _,trivial⟩
 |.str=>⟨lw.refl d _,trivial⟩
 |.sl t=>⟨Le.nil.toH d,trivial⟩
 |.st t=>zero_ok d t
 |.pr a b=>by
  simp only[sD,Ty.zero,bP,da];exact (zero_ok d a).append (zero_ok d b)
 |.un=>trivial
 |.ex=>⟨lw.refl d _,lw.refl d _,lw.refl d _,Le.nil.toH d,trivial⟩
 |.sm=>⟨lw.refl d _,lw.refl d _,lw.refl d _,lw.refl d _,Le.nil.toH d,lw.refl d _,lw.refl d _,lw.refl d _,Le.nil.toH d,Le.nil.toH d,Le.nil.toH d,trivial⟩
theorem G6 (d:ul H H') (T:Ty):∀n,gT H H' ((repl (sD T) n).map .f) (((aA n T.zero).flatMap (bP T)).map .f)
 |0=>trivial
 |n+1=>by
  rw[repl,pU,fy,da,da];have h1:=zero_ok (H:=H) (H':=H') d T;have:((sD T).map .raw).map AV.f=(sD T).map raw:=by rw[G2];rfl
  rw[this];exact h1.append (G6 d T n)
end pack
structure mh (h:bl) (nx:Nat):Prop where
 cells:∀id ty l,h.get id=Z (.cells ty l)->kU h l=M
 low:∀id b,h.get id=Z b->id<nx
def s6 (e:iL) (h:bl):Prop:=∀t v,e.get t=Z v->KH h v=M
structure iB (P:Program) (o:Oper) (still:Bool) (e:iL) (h:bl) (nx:Nat) (v:TV) (rd wr:Nat) (h':bl) (nx':Nat):Prop where
 ex:∃f:AA,gB P o (fw e h) (bB h) f/\(∀y,b_ h' v=Z y->f.val=y)/\eF (bB h) f.wr f.nw=bB h'/\(∀n∈f.rd,aO rd (ow n)=M)/\(∀n∈f.wr,aO wr (ow n)=M)/\(∀n∈f.N,nx<=ow n/\ow n<nx')
 rows:b8 h h'
 inv:mh h' nx'
 grows:nx<=nx'
 st:still=M->rd=0/\wr=0
def kL {R:Type} (P:Program) (o:Oper) (still:Bool) (e:iL) (h:bl) (nx:Nat) (K:KO R) (r:R):Prop:=
 ∃v rd wr h' nx',K v rd wr h' nx'=Z r/\iB P o still e h nx v rd wr h' nx'
theorem dM {R:Type} {b:Bool} {k:b=M->J R} {r:R} (h:chk b k=Z r):∃hb:b=M,k hb=Z r:=by
 cases b with
 |true=>exact⟨rfl,h⟩
 |false=>cases h
theorem lX {R:Type} {b:Bool} {t f:J R} {r:R} (h:aF b t f=Z r):(b=M/\t=Z r)\/(b=aa/\f=Z r):=by
 cases b with
 |true=>exact .inl ⟨rfl,h⟩
 |false=>exact .inr ⟨rfl,h⟩
theorem dF {α R:Type} {o:J α} {k:α->J R} {r:R} (h:av o k=Z r):∃x,o=Z x/\k x=Z r:=by
 cases o with
 |some x=>exact⟨x,rfl,h⟩
 |none=>cases h
theorem DG {j:Int} {n:Nat} (h:e9 j n=M):0<=j/\j<n/\j.toNat<n:=by
 simp only[e9,cP,fK,ak,bz]at h;omega
theorem gB.envLe {P:Program} {o:Oper} {e e2:EF} {h:HF} {f:AA} (ht:gB P o e h f) (hle:∀t y,.tmp t∈o.op.operands->e t=Z y->∃q,e2 t=Z q/\Le q y):gB P o e2 h f:=by
 intro φ E h' w a h1 h2 D A z;refine ht φ E h' w a h1 h2 (λt d y s=>?_) A z;obtain⟨q,I,F⟩:=hle t y d s;exact F _ _ _ _ (D t d q I)
theorem Jx (h:bl) {v:Value} {u:TV} (hc:cst v=Z u):b_ h u=Z (raw v)/\v.oneCell'=M/\u.isC=M:=by
 unfold cst at hc;split at hc<;>cases hc<;>exact⟨rfl,rfl,rfl⟩
theorem uM (h:bl):∀{z:ξ} {l:Y TV},Jw z=Z l->cD h l=Z (z.map raw)/\(∀x∈z,x.oneCell'=M)/\kF l=M
 |[],l,hc=>by simp only[Jw,af]at hc;subst hc;exact⟨rfl,by simp,rfl⟩
 |v::r,l,hc=>by
  simp only[Jw]at hc;split at hc
  .rename_i x I q hl;simp only[af]at hc;subst hc;obtain⟨h1,h2,F⟩:=Jx h q;obtain⟨D,A,s⟩:=uM h hl;refine ⟨o8 h1 D,λy d=>?_,by simp[kF,F,s]⟩;rcases bu.1 d with rfl|d
   .exact h2
   .exact A y d
  .cases hc
theorem bI {e:iL} {h:bl} (hi:s6 e h) {x:Operand} {v:TV} (d:fe e x=Z v):∃y,mI (IU e h) x=Z y/\b_ h v=Z y:=by
 cases x with
 |tmp t=>
  simp only[fe]at d;obtain⟨y,q⟩:=pd h v (hi t v d);refine ⟨y,?_,q⟩;simp only[mI];rw[uG];simp only[fw,d,aD,q]
 |const c=>
  simp only[fe]at d;unfold afr at d;split at d
  .rename_i vs;split at d
   .rename_i h1;split at d
    .rename_i l hl;simp only[af]at d;subst d;refine ⟨.agg (vs.toList.map raw),?_,by simp only[b_,(uM h hl).1]⟩;simp only[mI,Eg,h1,bE];rfl
    .cases d
   .cases d
  .rename_i hn;refine ⟨raw c,?_,(Jx h d).1⟩;simp only[mI];unfold Eg;split
   .rename_i vs;exact dP rfl (hn vs)
   .rfl
 |func g=>
  simp only[fe,af]at d;subst d;exact⟨_,rfl,rfl⟩
 |global g=>
  simp only[fe]at d;cases hg:G g with
  |none=>rw[hg]at d;cases d
  |some cells=>
   rw[hg]at d;simp only[af]at d;subst d;have hcells:cells=BZ:=by
    unfold G at hg;split at hg
    .cases hg;rfl
    .cases hg
   subst hcells;exact⟨_,by simp only[mI,hg];rfl,rfl⟩
theorem yd {e:iL} {h:bl} (hi:s6 e h):∀{xs:Y Operand} {l:Y TV},ER e xs=Z l->∃q,Vw (IU e h) xs=Z q/\cD h l=Z q
 |[],l,d=>by simp only[ER,af]at d;subst d;exact⟨[],rfl,rfl⟩
 |x::xs,l,d=>by
  simp only[ER]at d;split at d
  .rename_i y z;split at d
   .rename_i F hys;simp only[af]at d;subst d;obtain⟨s,h1,h2⟩:=bI hi z;obtain⟨q,D,A⟩:=yd hi hys;exact⟨s::q,by simp only[Vw,h1,D],o8 h2 A⟩
   .cases d
  .cases d
section ops
variable {R:Type} {P:Program} {o:Oper} {e:iL} {h:bl} {nx:Nat} {K:KO R} {r:R}
theorem iB.pure {s:XL} {st:Bool} (hinv:mh h nx) (hc:dq P o.op=Z s) {H:nX} (A:H.get=bB h) {k:Nat} {y0:AV} {rdl:ι} (z:ef s (IU e h) H k=Z ⟨y0,rdl,[],[],[]⟩) {v:TV} (hv:∀y,b_ h v=Z y->Le y0 y) {rd:Nat} (hrd:∀n∈rdl,aO rd (ow n)=M) (hst:st=M->rd=0):iB P o st e h nx v rd 0 h nx:=by
 have ht:=HN hc z;rw[uG,A]at ht;refine ⟨?_,λ_ _ h=>h,hinv,cF _,λhs=>⟨hst hs,rfl⟩⟩;have key:∀y,Le y0 y->gB P o (fw e h) (bB h) ⟨y,rdl,[],jf [],[]⟩:=λy hle=>
  gB.view ht (λi hi=>by cases hi) λh' _ _=>⟨GP.refl _,hle.toH (ul.refl _)⟩
 cases q:b_ h v with
 |none=>exact⟨_,ht,λy d=>by simp at d,by simp[zZ.eff,tg],hrd,by simp[zZ.eff],by simp[zZ.eff]⟩
 |some y=>exact⟨_,key y (hv y q),λD d=>by simpa using d,by simp[tg],hrd,by simp,by simp⟩
theorem kL.q {s:XL} {st:Bool} (hinv:mh h nx) (hc:dq P o.op=Z s) {k:Nat} {y0:AV} (z:∀H:nX,H.get=bB h->ef s (IU e h) H k=rv y0) {v:TV} (hv:∀y,b_ h v=Z y->Le y0 y) (hk:K v 0 0 h nx=Z r):kL P o st e h nx K r:=by
 obtain⟨H,d⟩:=jO h;exact⟨v,0,0,h,nx,hk,iB.pure hinv hc d (z H d) hv (by simp) λ_=>rfl⟩
theorem di {y0:AV} {v:TV} (hv:b_ h v=Z y0):∀y,b_ h v=Z y->Le y0 y:=λy d=>by rw[hv]at d;cases d;exact Le.refl _
theorem aea {T:Ty} {xs:Y T.den} {j:Int} (hj:e9 j xs.length=M) {off sz:Nat} {ag:Bool} {u:TV} (hg:nY 40 T (aG xs j) off sz ag=Z u):
 ∃y,b_ h u=Z (.f y)/\(BC.fz (xs.flatMap (bP T))).sub? (j.toNat*T.size+off) sz ag=Z (.f y):=by
 obtain⟨h1,y,h2,D,A⟩:=tR h 40 T _ off sz ag u hg;refine ⟨y,h2,?_⟩;obtain⟨_,_,hlt⟩:=DG hj;have d:xs[j.toNat]? =Z (aG xs j):=by
  unfold aG;rw[ay,ax hlt];rfl
 obtain⟨q,hq⟩:=DZ (bA T) xs j.toNat _ d;have hlen:=eH (bA T) xs;have hle:(j.toNat+1)*T.size<=xs.length*T.size:=cz _ hlt;rw[iN]at hle;have hl:=bA T (aG xs j);cases ag with
 |false=>
  obtain⟨z,s⟩:=D rfl;subst z;simp only[BC.sub?,BC.get];have:(xs.flatMap (bP T))[j.toNat*T.size+off]? =Z y:=by
   rw[<- gP,hq,bQ (by omega)];exact s
  rw[this];rfl
 |true=>
  simp only[BC.sub?];rw[aT (bt (by omega)),A rfl,<-List.drop_drop,hq,Dd (by omega),ll (by simp;omega)]
theorem aeb {T:Ty} {v:T.den} {off sz:Nat} {ag:Bool} {u:TV} (hg:nY 40 T v off sz ag=Z u):
 ∃y,b_ h u=Z (.f y)/\(BC.fz (bP T v)).sub? off sz ag=Z (.f y):=by
 obtain⟨h1,y,h2,z,s⟩:=tR h 40 T _ off sz ag u hg;refine ⟨y,h2,?_⟩;have hl:=bA T v;cases ag with
 |false=>
  obtain⟨q,d⟩:=z rfl;subst q;simp only[BC.sub?,BC.get,d];rfl
 |true=>
  simp only[BC.sub?];rw[aT (bt (by omega)),s rfl]
theorem U2 {l:Y TV} {d:Y AV} (hl:cD h l=Z d) {off sz:Nat} {ag:Bool} {u:TV} (hs:Sy l off sz ag=Z u):∃y,b_ h u=Z y/\(BC.mx d).sub? off sz ag=Z y:=by
 cases ag with
 |false=>
  simp only[Sy]at hs;split at hs
  .rename_i h1;have h1:=au h1;subst h1;obtain⟨y,h2,q⟩:=lh hl off u hs;exact⟨y,q,by simp only[BC.sub?,BC.get,h2]⟩
  .cases hs
 |true=>
  simp only[Sy]at hs;split at hs
  .rename_i h1;simp only[af]at hs;subst hs;have h2:=D7 sz (D9 off hl);exact⟨.agg ((d.drop off).take sz),by simp only[b_,h2],by simp only[BC.sub?,gz hl,h1,bE]⟩
  .cases hs
theorem PC {v:TV} {n:Nat} {y:AV} (hn:lenOf h v=Z n) (d:b_ h v=Z y):y.slen=Z n:=by
 unfold lenOf at hn;split at hn
 .simp only[af]at hn;subst hn;simp only[b_,af]at d;subst d;rfl
 .simp only[af]at hn;subst hn;simp only[b_,af]at d;subst d;rfl
 .simp only[af]at hn;subst hn;simp only[b_,af]at d;subst d;rfl
 .rename_i id;simp only[b_]at d;cases hr:eh h id with
  |none=>rw[hr]at hn;cases hn
  |some q=>
   obtain⟨p,sz,m⟩:=q;rw[hr]at hn d;simp only[af]at hn d;subst hn;subst d;unfold fd;split
   .rename_i hp;simp only[ak,cR]at hp;rw[hp.2];rfl
   .rfl
 .simp only[af]at hn;subst hn;simp only[b_,af]at d;subst d;rfl
 .cases hn
theorem C3 (a b:ζ):rQ ⟨a.toArray⟩ ⟨b.toArray⟩=decide (a=b):=by
 unfold rQ;simp only[Bool.beq_eq_decide_eq]
theorem ad6 {op:BinOp} {u v:TV} {q:TV->J R} (hk:afw op u v q=Z r):∃a b c t,b_ h u=Z (raw a)/\b_ h v=Z (raw b)/\sY op a b=Z c/\b_ h t=Z (raw c)/\q t=Z r:=by
 unfold afw at hk;split at hk
 .rename_i k a k' b;split at hk
  .rename_i hkk;have hkk':k=k':=by simpa using hkk
   subst hkk';refine ⟨.int k a,.int k b,?_⟩;cases op<;>simp only[reduceCtorEq]at hk<;>first
    |cases hk
    |exact⟨_,_,rfl,rfl,(by simp only[sY,cQ,bE]<;>rfl),rfl,hk⟩
    |(obtain ⟨hb,hk⟩:=dM hk
      have d:(b==(0:Int))=aa:=by simpa using hb
      exact⟨_,_,rfl,rfl,by simp only[sY,cQ,bE,d,bF,du],rfl,hk⟩)
  .cases hk
 .rename_i a b;refine ⟨.string ⟨eT a⟩,.string ⟨eT b⟩,?_⟩;split at hk
  .exact⟨.bool (decide ((a:ζ)=b)),_,rfl,rfl,by simp only[sY,C3],rfl,hk⟩
  .exact⟨.bool (!decide ((a:ζ)=b)),_,rfl,rfl,by simp only[sY,C3],rfl,hk⟩
  .cases hk
 .cases hk
theorem VW {T:Ty}:∀{l:Y TV} {xs:Y T.den},wX T l=Z xs->∀k,k<l.length->l[k]? =Z (.f T (xs.getD k T.zero))
 |[],xs,_,k,hk=>by simp at hk
 |.f S v::r,xs,d,k,hk=>by
  simp only[wX]at d;split at d
  .rename_i x q;split at d
   .rename_i l hl;simp only[af]at d;subst d;obtain⟨es,ex⟩:=gO q;cases es;subst ex;cases k with
    |zero=>rfl
    |succ k=>simpa using VW hl k (by simpa using hk)
   .cases d
  .cases d
 |.fel _ _ _ _ _::r,xs,d,k,hk=>by simp[wX]at d
 |.pel _ _ _ _::r,xs,d,k,hk=>by simp[wX]at d
 |.ptr _ _::r,xs,d,k,hk=>by simp[wX]at d
 |.csl _ _ _::r,xs,d,k,hk=>by simp[wX]at d
 |.row _::r,xs,d,k,hk=>by simp[wX]at d
 |.emp::r,xs,d,k,hk=>by simp[wX]at d
 |.nil::r,xs,d,k,hk=>by simp[wX]at d
 |.mp _::r,xs,d,k,hk=>by simp[wX]at d
 |.agg _::r,xs,d,k,hk=>by simp[wX]at d
 |.tup _::r,xs,d,k,hk=>by simp[wX]at d
 |.clo _ _::r,xs,d,k,hk=>by simp[wX]at d
 |.undef::r,xs,d,k,hk=>by simp[wX]at d
 |.np::r,xs,d,k,hk=>by simp[wX]at d
 |.anyb::r,xs,d,k,hk=>by simp[wX]at d
 |.ful _ _::r,xs,d,k,hk=>by simp[wX]at d
theorem VV {l:Y TV} {T:Ty} {xs:Y T.den} (d:Z4 l=Z ⟨T,xs⟩):∀k,k<l.length->l[k]? =Z (.f T (xs.getD k T.zero)):=by
 unfold Z4 at d;split at d
 .split at d
  .rename_i l1 hl;simp only[af]at d;cases d;exact VW hl
  .cases d
 .cases d
variable (hinv:mh h nx) (hi:s6 e h)
include hinv hi
theorem K_mv {con:FuncId->J cr} {b9:TypeId->J Ty} {x:Operand} {st:Bool} (hc:dq P o.op=Z (.mv x)) (hk:dS con b9 (.op (.mv x)) e h nx K=Z r):kL P o st e h nx K r:=by
 simp only[dS]at hk;split at hk
 .rename_i v hv;obtain⟨y,h1,h2⟩:=bI hi hv;exact kL.q (k:=0) hinv hc (λH _=>by simp only[ef,h1]) (di h2) hk
 .cases hk
theorem ahh {con:FuncId->J cr} {b9:TypeId->J Ty} {c a b:Operand} {st:Bool} (hc:dq P o.op=Z (.pick c a b)) (hk:dS con b9 (.op (.pick c a b)) e h nx K=Z r):kL P o st e h nx K r:=by
 simp only[dS]at hk;split at hk
 .rename_i t hv;obtain⟨y,h1,h2⟩:=bI hi hv;simp only[b_,af]at h2;subst h2;rcases lX hk with ⟨rfl,d⟩|⟨rfl,d⟩
  .split at d
   .rename_i v s;obtain⟨D,A,z⟩:=bI hi s;exact kL.q (k:=0) hinv hc (λH _=>by simp only[ef,h1,gh,bE,A]) (di z) d
   .cases d
  .split at d
   .rename_i v s;obtain⟨D,A,z⟩:=bI hi s;exact kL.q (k:=0) hinv hc (λH _=>by simp only[ef,h1,gh,A,bF,du]) (di z) d
   .cases d
 .cases hk
theorem ahi {con:FuncId->J cr} {b9:TypeId->J Ty} {x:Operand} {st:Bool} (hc:dq P o.op=Z (.nilc x)) (hk:dS con b9 (.op (.nilc x)) e h nx K=Z r):kL P o st e h nx K r:=by
 simp only[dS]at hk;split at hk;all_goals first
  |(rename_i hv
    obtain⟨y,h1,h2⟩:=bI hi hv;have d:=h2;simp only[b_,af]at h2;subst h2;exact kL.q (k:=0) hinv hc (λH _=>by simp only[ef,h1]) (di d) hk)
  |skip
 .rename_i g cap hv;obtain⟨y,h1,h2⟩:=bI hi hv;have d:=h2;simp only[b_]at h2;split at h2
  .simp only[af]at h2;subst h2;exact kL.q (k:=0) hinv hc (λH _=>by simp only[ef,h1]) (di d) hk
  .cases h2
 .cases hk
theorem aka {con:FuncId->J cr} {b9:TypeId->J Ty} {x:Operand} {st:Bool} (hc:dq P o.op=Z (.not x)) (hk:dS con b9 (.op (.not x)) e h nx K=Z r):kL P o st e h nx K r:=by
 simp only[dS]at hk;split at hk
 .rename_i b hv;obtain⟨y,h1,h2⟩:=bI hi hv;simp only[b_,af]at h2;subst h2;exact kL.q (k:=0) hinv hc (λH _=>by simp only[ef,h1,gh];rfl) (di rfl) hk
 .cases hk
theorem ahp {con:FuncId->J cr} {b9:TypeId->J Ty} {k:IntKind} {x:Operand} {st:Bool} (hc:dq P o.op=Z (.conv k x)) (hk:dS con b9 (.op (.conv k x)) e h nx K=Z r):kL P o st e h nx K r:=by
 simp only[dS]at hk;split at hk
 .rename_i k' n hv;obtain⟨y,h1,h2⟩:=bI hi hv;simp only[b_,af]at h2;subst h2;exact kL.q (k:=0) hinv hc (λH _=>by simp only[ef,h1,gh];rfl) (di rfl) hk
 .cases hk
theorem ako {con:FuncId->J cr} {b9:TypeId->J Ty} {neg:Bool} {x y:Operand} {st:Bool} (hc:dq P o.op=Z (.eqb neg x y)) (hk:dS con b9 (.op (.eqb neg x y)) e h nx K=Z r):kL P o st e h nx K r:=by
 simp only[dS]at hk;split at hk
 .rename_i a b hv d;obtain⟨y,h1,h2⟩:=bI hi hv;obtain⟨A,z,s⟩:=bI hi d;simp only[b_,af]at h2 s;subst h2;subst s;exact kL.q (k:=0) hinv hc (λH _=>by simp only[ef,h1,z,gh];rfl) (di rfl) hk
 .cases hk
theorem adx {con:FuncId->J cr} {b9:TypeId->J Ty} {neg:Bool} {x:Operand} {st:Bool} (hc:dq P o.op=Z (.isnil neg x)) (hk:dS con b9 (.op (.isnil neg x)) e h nx K=Z r):kL P o st e h nx K r:=by
 simp only[dS]at hk;split at hk
 .rename_i hv;obtain⟨y,h1,h2⟩:=bI hi hv;simp only[b_,af]at h2;subst h2;exact kL.q (k:=0) hinv hc (λH _=>by simp only[ef,h1,sV,bE];rfl) (di rfl) hk
 .rename_i hv;obtain⟨y,h1,h2⟩:=bI hi hv;simp only[b_,af]at h2;subst h2;exact kL.q (k:=0) hinv hc (λH _=>by simp only[ef,h1]) (di rfl) hk
 .rename_i T xs hv;obtain⟨y,h1,h2⟩:=bI hi hv;simp only[b_,af]at h2;subst h2;rcases lX hk with ⟨s,d⟩|⟨s,d⟩
  .have s:=au s;exact kL.q (k:=0) (y0:=.anyb) hinv hc (λH _=>by simp only[ef,h1,gh,s]) (di rfl) d
  .have s:=gY s;obtain⟨n,hn⟩:=Nat.exists_eq_succ_of_ne_zero s;exact kL.q (k:=0) (y0:=raw (.bool neg)) hinv hc (λH _=>by simp only[ef,h1,gh,hn]) (di rfl) d
 .rename_i id hv;split at hk
  .rename_i ty T xs hb;obtain⟨y,h1,h2⟩:=bI hi hv;simp only[b_,eh,hb,fd,jT,bF,du,af]at h2;subst h2;exact kL.q (k:=0) (y0:=raw (.bool neg)) hinv hc (λH _=>by simp only[ef,h1]) (di rfl) hk
  .cases hk
 .cases hk
theorem akf {con:FuncId->J cr} {b9:TypeId->J Ty} {x y:Operand} {st:Bool} (hc:dq P o.op=Z (.max x y)) (hk:dS con b9 (.op (.max x y)) e h nx K=Z r):kL P o st e h nx K r:=by
 simp only[dS]at hk;split at hk
 .rename_i k a k' b hv d;obtain⟨y,h1,h2⟩:=bI hi hv;obtain⟨A,z,s⟩:=bI hi d;simp only[b_,af]at h2 s;subst h2;subst s;split at hk
  .exact kL.q (k:=0) hinv hc (λH _=>by simp only[ef,h1,z,gh];rfl) (di rfl) hk
  .cases hk
 .cases hk
theorem ake {con:FuncId->J cr} {b9:TypeId->J Ty} {x y:Operand} {st:Bool} (hc:dq P o.op=Z (.min x y)) (hk:dS con b9 (.op (.min x y)) e h nx K=Z r):kL P o st e h nx K r:=by
 simp only[dS]at hk;split at hk
 .rename_i k a k' b hv d;obtain⟨y,h1,h2⟩:=bI hi hv;obtain⟨A,z,s⟩:=bI hi d;simp only[b_,af]at h2 s;subst h2;subst s;split at hk
  .exact kL.q (k:=0) hinv hc (λH _=>by simp only[ef,h1,z,gh];rfl) (di rfl) hk
  .cases hk
 .cases hk
theorem akl {con:FuncId->J cr} {b9:TypeId->J Ty} {off:Nat} {x:Operand} {st:Bool} (hc:dq P o.op=Z (.fad off x)) (hk:dS con b9 (.op (.fad off x)) e h nx K=Z r):kL P o st e h nx K r:=by
 simp only[dS]at hk;split at hk;all_goals first
  |(rename_i hv
    obtain⟨y,h1,h2⟩:=bI hi hv;simp only[b_,af]at h2;subst h2;exact kL.q (k:=0) hinv hc (λH _=>by simp only[ef,h1,v_]) (di rfl) hk)
  |cases hk
theorem akk {con:FuncId->J cr} {b9:TypeId->J Ty} {off sz:Nat} {ag:Bool} {x:Operand} {st:Bool} (hc:dq P o.op=Z (.fld off sz ag x)) (hk:dS con b9 (.op (.fld off sz ag x)) e h nx K=Z r):kL P o st e h nx K r:=by
 simp only[dS]at hk;split at hk
 .rename_i l hv;split at hk
  .rename_i u hs;obtain⟨y,h1,h2⟩:=bI hi hv;simp only[b_]at h2;split at h2
   .rename_i A hl;simp only[af]at h2;subst h2;obtain⟨y,s,d⟩:=U2 hl hs;exact kL.q (k:=0) hinv hc (λH _=>by simp only[ef,h1,d]) (di s) hk
   .cases h2
  .cases hk
 .rename_i T v hv;split at hk
  .cases hk
  .rename_i z;split at hk
   .rename_i u hs;obtain⟨y,h1,h2⟩:=bI hi hv;simp only[b_,af]at h2;rw[qv T v (by simpa using z)]at h2;subst h2;obtain⟨y,s,d⟩:=aeb (h:=h) hs;exact kL.q (k:=0) hinv hc (λH _=>by simp only[ef,h1,d]) (di s) hk
   .cases hk
 .cases hk
theorem aki {con:FuncId->J cr} {b9:TypeId->J Ty} {n sz:Nat} {ag:Bool} {x i:Operand} {st:Bool} (hc:dq P o.op=Z (.idx n sz ag x i)) (hk:dS con b9 (.op (.idx n sz ag x i)) e h nx K=Z r):kL P o st e h nx K r:=by
 simp only[dS]at hk;split at hk
 .rename_i v0 k j hv D;split at hk
  .rename_i T xs hA;obtain⟨hb,hk⟩:=dM hk;cases ag with
   |true=>cases hA
   |false=>
   simp only[aio]at hA;split at hA
   .rename_i hsz;simp only[ak,d_]at hsz;have hsz1:=au hsz.1;subst hsz1;split at hA
    .rename_i l hl;split at hA
     .rename_i hn;have hn:=au hn;obtain⟨y,h1,h2⟩:=bI hi hv;obtain⟨y2,F,s⟩:=bI hi D;simp only[b_,af]at s;subst s;have hj:j.toNat<l.length:=by
       simp only[ak,cP,fK,bz]at hb;omega
      have hg:=VV hA j.toNat hj;obtain⟨he,_⟩:=Jz hl h2;obtain⟨z,d,A⟩:=lh he j.toNat _ hg;have A:b_ h (.f T (aG xs j))=Z z:=A;refine kL.q (k:=0) hinv hc (λH _=>?_) (di A) hk;cases v0 with
      |agg q=>
       simp only[b_]at h2;split at h2
       .rename_i l' _;simp only[af]at h2;subst h2;have d:l'[j.toNat]? =Z z:=d;simp only[ef,h1,F,gh,hb,bE,BC.sub?,BC.get,Nat.mul_one,d]
       .cases h2
      |f S u=>
       have I:S.one=aa:=by
        have:=hsz.2;simpa[TV.isC] using this
       simp only[b_,af]at h2;rw[qv S u I]at h2;subst h2;have d:((bP S u).map AV.f)[j.toNat]? =Z z:=d;rw[bi]at d;simp only[ef,h1,F,gh,hb,bE,BC.sub?,BC.get,Nat.mul_one,d]
      |_=>simp[TV.cs,TV.isC]at hl hsz
     .cases hA
    .cases hA
   .cases hA
  .split at hk
   .rename_i l;obtain⟨hb,hk⟩:=dM hk;split at hk
    .rename_i u hs;obtain⟨y,h1,h2⟩:=bI hi hv;obtain⟨y2,F,s⟩:=bI hi D;simp only[b_,af]at s;subst s;simp only[b_]at h2;split at h2
     .rename_i l' hl;simp only[af]at h2;subst h2;obtain⟨y,h3,L⟩:=U2 hl hs;exact kL.q (k:=0) hinv hc (λH _=>by simp only[ef,h1,F,gh,hb,bE,L]) (di h3) hk
     .cases h2
    .cases hk
   .rename_i T v _;split at hk
    .cases hk
    .rename_i I;obtain⟨hb,hk⟩:=dM hk;split at hk
     .rename_i u hs;obtain⟨y,h1,h2⟩:=bI hi hv;obtain⟨y2,F,s⟩:=bI hi D;simp only[b_,af]at s h2;subst s;rw[qv T v (by simpa using I)]at h2;subst h2;obtain⟨y,h3,L⟩:=aeb (h:=h) hs;exact kL.q (k:=0) hinv hc (λH _=>by simp only[ef,h1,F,gh,hb,bE,L]) (di h3) hk
     .cases hk
   .cases hk
 .cases hk
theorem ahn {con:FuncId->J cr} {b9:TypeId->J Ty} {n sz:Nat} {x i:Operand} {st:Bool} (hc:dq P o.op=Z (.iada n sz x i)) (hk:dS con b9 (.op (.iada n sz x i)) e h nx K=Z r):kL P o st e h nx K r:=by
 simp only[dS]at hk;split at hk
 .rename_i id off k j hv d;obtain⟨y,h1,h2⟩:=bI hi hv;obtain⟨A,z,s⟩:=bI hi d;simp only[b_,af]at s h2;subst s;subst h2;split at hk
  .obtain⟨hb,hk⟩:=dM hk;exact kL.q (k:=0) (y0:=.ptr (nm id) (off+j.toNat*sz)) hinv hc (λH _=>by simp only[ef,h1,z,gh,hb,bE]) (di (by simp only[b_];rw[Nat.add_comm])) hk
  .obtain⟨hb,hk⟩:=dM hk;exact kL.q (k:=0) hinv hc (λH _=>by simp only[ef,h1,z,gh,hb,bE]) (di rfl) hk
 .cases hk
theorem akm {con:FuncId->J cr} {b9:TypeId->J Ty} {i:Nat} {x:Operand} {st:Bool} (hc:dq P o.op=Z (.ext x i)) (hk:dS con b9 (.op (.ext x i)) e h nx K=Z r):kL P o st e h nx K r:=by
 simp only[dS]at hk;split at hk
 .rename_i l hv;split at hk
  .rename_i u hs;obtain⟨y,h1,h2⟩:=bI hi hv;simp only[b_]at h2;split at h2
   .rename_i z hl;simp only[af]at h2;subst h2;obtain⟨y,s,d⟩:=lh hl i u hs;exact kL.q (k:=0) hinv hc (λH _=>by simp only[ef,h1,s]) (di d) hk
   .cases h2
  .cases hk
 .cases hk
theorem akh {con:FuncId->J cr} {b9:TypeId->J Ty} {x:Operand} {st:Bool} (hc:dq P o.op=Z (.len x)) (hk:dS con b9 (.op (.len x)) e h nx K=Z r):kL P o st e h nx K r:=by
 simp only[dS]at hk;split at hk
 .rename_i v hv;split at hk
  .rename_i n hn;obtain⟨y,h1,h2⟩:=bI hi hv;have d:=PC hn h2;exact kL.q (k:=0) hinv hc (λH _=>by simp only[ef,h1,d];rfl) (di rfl) hk
  .cases hk
 .cases hk
theorem ahl {con:FuncId->J cr} {b9:TypeId->J Ty} {x:Operand} {st:Bool} (hc:dq P o.op=Z (.lens x)) (hk:dS con b9 (.op (.lens x)) e h nx K=Z r):kL P o st e h nx K r:=by
 simp only[dS]at hk;split at hk
 .rename_i s hv;obtain⟨y,h1,h2⟩:=bI hi hv;simp only[b_,af]at h2;subst h2;exact kL.q (k:=0) hinv hc (λH _=>by simp only[ef,h1,gh];rfl) (di rfl) hk
 .cases hk
theorem ahg {con:FuncId->J cr} {b9:TypeId->J Ty} {x i:Operand} {st:Bool} (hc:dq P o.op=Z (.sidx x i)) (hk:dS con b9 (.op (.sidx x i)) e h nx K=Z r):kL P o st e h nx K r:=by
 simp only[dS]at hk;split at hk
 .rename_i s k j hv d;obtain⟨hj,hk⟩:=dM hk;obtain⟨y,h1,h2⟩:=bI hi hv;obtain⟨I,F,z⟩:=bI hi d;simp only[b_,af]at h2 z;subst h2;subst z;obtain⟨D,L,A⟩:=DG hj;have e1:cP 0 j=M:=by simp[cP,D]
  have e2:(⟨eT s⟩:ByteArray).data.toList[j.toNat]? =Z (List.getD s j.toNat 0):=by
   show s[j.toNat]? =_;rw[ay,ax A];rfl
  exact kL.q (k:=0) (y0:=raw (.int .u8 (aU (List.getD s j.toNat 0).toNat))) hinv hc (λH _=>by simp only[ef,h1,F,gh,e1,bE,e2];rfl) (di rfl) hk
 .cases hk
theorem akj {con:FuncId->J cr} {b9:TypeId->J Ty} {sz:Nat} {x i:Operand} {st:Bool} (hc:dq P o.op=Z (.iad sz x i)) (hk:dS con b9 (.op (.iad sz x i)) e h nx K=Z r):kL P o st e h nx K r:=by
 simp only[dS]at hk;split at hk
 .rename_i id k j hv d;split at hk
  .rename_i ty p T xs hb;split at hk
   .rename_i hs;have hs:=au hs;obtain⟨hj,hk⟩:=dM hk;obtain⟨y,h1,h2⟩:=bI hi hv;obtain⟨F,A,s⟩:=bI hi d;simp only[b_,af]at s;subst s;obtain⟨j0,L,I⟩:=DG hj;have hne:¬((p&&xs.length==0)=M):=by
     simp only[ak,cR];omega
    simp only[b_,eh,hb,fd,aL hne,af]at h2;subst h2;have D:(T.size==sz&&cP 0 j&&fK j xs.length)=M:=by
     simp only[e9,ak]at hj;simp[hs,hj.1,hj.2]
    exact kL.q (k:=0) hinv hc (λH _=>by simp only[ef,h1,A,gh,D,bE,dh]) (di rfl) hk
   .cases hk
  .cases hk
 .rename_i T xs k j hv d;split at hk
  .rename_i hs;have hs:=au hs;obtain⟨hj,hk⟩:=dM hk;obtain⟨y,h1,h2⟩:=bI hi hv;obtain⟨F,A,s⟩:=bI hi d;simp only[b_,af]at s h2;subst s;subst h2;have z:(cP 0 j&&fK j (ah xs))=M:=hj;exact kL.q (k:=0) hinv hc (λH _=>by simp only[ef,h1,A,gh,z,bE,dh,hs]) (di rfl) hk
  .cases hk
 .rename_i id sz' n k j hv d;split at hk
  .rename_i hs;have hs:=au hs;subst hs;obtain⟨hj,hk⟩:=dM hk;obtain⟨y,h1,h2⟩:=bI hi hv;obtain⟨F,A,s⟩:=bI hi d;simp only[b_,af]at s h2;subst s;subst h2;have z:(sz'==sz'&&cP 0 j&&fK j n)=M:=by simp only[ak]at hj ⊢;exact⟨⟨cQ _,hj.1⟩,hj.2⟩
   exact kL.q (k:=0) hinv hc (λH _=>by simp only[ef,h1,A,gh,z,bE]) (di rfl) hk
  .cases hk
 .cases hk
theorem akd {con:FuncId->J cr} {b9:TypeId->J Ty} {f:FuncId} {caps:Y Operand} {st:Bool} (hc:dq P o.op=Z (.mkf f caps)) (hk:dS con b9 (.op (.mkf f caps)) e h nx K=Z r):kL P o st e h nx K r:=by
 simp only[dS]at hk;split at hk
 .rename_i l hv;obtain⟨d,h1,h2⟩:=yd hi hv;exact kL.q (k:=0) hinv hc (y0:=.clo f d) (λH _=>by simp only[ef,h1]) (di (by simp only[b_,h2])) hk
 .cases hk
theorem aks {con:FuncId->J cr} {b9:TypeId->J Ty} {op:BinOp} {x y:Operand} {st:Bool} (hc:dq P o.op=Z (.bin op x y)) (hk:dS con b9 (.op (.bin op x y)) e h nx K=Z r):kL P o st e h nx K r:=by
 simp only[dS]at hk;split at hk
 .rename_i u v hv d;obtain⟨a,b,c,t,h1,h2,L,I,F⟩:=ad6 (h:=h) hk;obtain⟨y,D,A⟩:=bI hi hv;obtain⟨y2,z,s⟩:=bI hi d;rw[h1]at A;cases A;rw[h2]at s;cases s;simp only[raw]at D z;exact kL.q (k:=0) hinv hc (λH _=>by simp only[ef,D,z,L]) (di I) F
 .cases hk
end ops
def mM:ia->J (Bool×Nat×Nat)
 |.rows _ p T xs=>Z (p,T.size,xs.length)
 |.dead p sz n=>Z (p,sz,n)
 |_=>U
theorem bR (h:bl) (i:Nat):eh h i=(h.get i).bind mM:=by
 unfold eh;cases h.get i with
 |none=>rfl
 |some b=>cases b<;>rfl
theorem b8.refl (h:bl):b8 h h:=λ_ _ h=>h
theorem b8.trans {a b c:bl} (h1:b8 a b) (h2:b8 b c):b8 a c:=λi r h=>h2 i r (h1 i r h)
theorem b8.set {h:bl} {i:Nat} {b:ia} (hb:∀r,eh h i=Z r->mM b=Z r):b8 h (h.set i (Z b)):=λj r hj=>by
 rw[bR,PT.get_set];by_cases e:j=i
 .subst e;rw[aT rfl];exact hb r hj
 .rw[aL e,<-bR];exact hj
theorem LU {b:ia} {r:Bool×Nat×Nat} (h:mM b=Z r):mM (uA b)=Z r:=by cases b<;>first|exact h|cases h
theorem iU (m:Nat) (h:bl) (i:Nat):(d9 m h).get i=if aO m i then (h.get i).map uA else h.get i:=by
 unfold d9;split
 .rename_i hm;have:=au hm;subst this;simp
 .rw[PT.get_updI];simp only[Nat.one_mul,dh];cases h.get i with
  |none=>simp
  |some b=>simp only[bU];split<;>rfl
theorem b8.kill (m:Nat) (h:bl):b8 h (d9 m h):=λi r hr=>by
 rw[bR]at hr ⊢;rw[iU];split
 .cases hb:h.get i with
  |none=>rw[hb]at hr;cases hr
  |some b=>rw[hb]at hr;exact LU hr
 .exact hr
theorem mh.set {h:bl} {nx nx' i:Nat} {b:ia} (hi:mh h nx) (hr:b8 h (h.set i (Z b))) (hlt:i<nx') (hle:nx<=nx') (hb:∀ty l,b= .cells ty l->kU (h.set i (Z b)) l=M):mh (h.set i (Z b)) nx':=by
 refine ⟨λj ty l hj=>?_,λj c hj=>?_⟩
 .rw[PT.get_set]at hj;split at hj
  .simp only[af]at hj;exact hb ty l hj
  .exact iR hr l (hi.cells j _ l hj)
 .rw[PT.get_set]at hj;split at hj
  .rename_i e;subst e;exact hlt
  .exact dz (hi.low j c hj) hle
theorem mh.kill {h:bl} {nx:Nat} (hi:mh h nx) (m:Nat):mh (d9 m h) nx:=by
 refine ⟨λj ty l hj=>?_,λj c hj=>?_⟩
 .rw[iU]at hj;refine iR (b8.kill m h) l (hi.cells j ty l ?_);split at hj
  .cases hb:h.get j with
   |none=>rw[hb]at hj;cases hj
   |some b=>rw[hb]at hj;cases b<;>simp[uA]at hj
  .exact hj
 .rw[iU]at hj;split at hj
  .cases hb:h.get j with
   |none=>rw[hb]at hj;cases hj
   |some b=>exact hi.low j b hb
  .exact hi.low j c hj
theorem IV {h h':bl} (hr:b8 h h') {b:ia} (hb:∀ty l,b= .cells ty l->kU h l=M):jB h' b=jB h b:=by
 cases b with
 |cells ty l=>
  obtain⟨d,hl⟩:=eY h l (hb ty l rfl);cases ty<;>simp only[jB,hl,fY hr l d hl]
 |_=>rfl
theorem WS {h h':bl} {nx i:Nat} (hi:mh h nx) (hr:b8 h h') (hg:h'.get i=h.get i):bB h' (nm i)=bB h (nm i):=by
 rw[bK,bK,hg];cases hb:h.get i with
 |none=>rfl
 |some b=>exact IV hr λty l e=>hi.cells i _ l (by rw[hb,e])
theorem vI (h:bl) {n:Nat} (hn:¬∃i,n=nm i):bB h n=U:=by
 unfold bB;rw[aL];intro h2;exact hn ⟨n/2,by unfold nm;omega⟩
theorem kr {h h':bl} {nx:Nat} (hi:mh h nx) (hr:b8 h h') {n:Nat} (hg:∀i,n=nm i->h'.get i=h.get i):bB h' n=bB h n:=by
 by_cases hn:∃i,n=nm i
 .obtain⟨i,rfl⟩:=hn;exact WS hi hr (hg i rfl)
 .rw[vI h hn,vI h' hn]
def EW (m:Nat):ι:=(ZZ m).map nm
theorem nM {m n:Nat}:n∈EW m↔∃i,n=nm i/\aO m i=M:=by
 unfold EW;rw[c7];constructor
 .rintro⟨i,h1,rfl⟩;exact⟨i,rfl,L7.1 h1⟩
 .rintro⟨i,rfl,h1⟩;exact⟨i,L7.2 h1,rfl⟩
theorem lO {m i:Nat}:nm i∈EW m↔aO m i=M:=by
 rw[nM];constructor
 .rintro⟨j,h1,h2⟩;rw[kV h1];exact h2
 .exact λh=>⟨i,rfl,h⟩
def dK (h:bl) (m:Nat):Prop:=∀i,aO m i=M->∃ty p T xs,h.get i=Z (.rows ty p T xs)
theorem dK.zero (h:bl):dK h 0:=λi hi=>by simp at hi
theorem dK.or {h:bl} {a b:Nat} (d:dK h a) (hb:dK h b):dK h (a|||b):=λi hi=>by
 rw[bw,iQ]at hi;exact hi.elim (d i) (hb i)
theorem mL {h:bl} {T:Ty} {v:TV} {x:T.den} {m:Nat} (d:h_ h T v=Z (x,m)):dK h m:=by
 cases v with
 |f S v=>
  simp only[h_]at d;split at d
  .simp only[af,aC]at d;rw[<- d.2];exact dK.zero h
  .cases d
 |emp=>
  simp only[h_]at d;split at d
  .simp only[af,aC]at d;rw[<- d.2];exact dK.zero h
  .cases d
 |nil=>
  simp only[h_]at d;split at d
  .simp only[af,aC]at d;rw[<- d.2];exact dK.zero h
  .cases d
 |row id=>
  simp only[h_]at d;split at d
  .rename_i ty p S xs hb;split at d
   .simp only[af,aC]at d;rw[<- d.2];intro i hi;have:=bW.1 hi;subst this;exact⟨ty,p,S,xs,hb⟩
   .cases d
  .cases d
 |fel T xs j hj off=>simp[h_]at d
 |pel id sz j off=>simp[h_]at d
 |ptr id off=>simp[h_]at d
 |csl id off z=>simp[h_]at d
 |mp id=>simp[h_]at d
 |rtl id s=>simp[h_]at d
 |agg q=>simp[h_]at d
 |tup q=>simp[h_]at d
 |clo f q=>simp[h_]at d
 |undef=>simp[h_]at d
 |np=>simp[h_]at d
 |anyb=>simp[h_]at d
 |ful S q=>simp[h_]at d
theorem uw {h:bl}:∀(n:Nat) (T:Ty) (l:Y TV) (x:T.den) (m:Nat) (r:Y TV),eM h n T l=Z (x,m,r)->dK h m
 |0,_,_,_,_,_,hp=>by simp[eM]at hp
 |n+1,.st t,l,x,m,r,hp=>uw n t l x m r hp
 |n+1,.pr a b,l,x,m,r,hp=>by
  simp only[eM]at hp;split at hp
  .rename_i x1 m1 r1 h1;split at hp
   .rename_i x2 m2 r2 h2;simp only[af,aC]at hp;obtain⟨_,rfl,_⟩:=hp;exact (uw n a l x1 m1 r1 h1).or (uw n b r1 x2 m2 r2 h2)
   .cases hp
  .cases hp
 |n+1,.un,l,x,m,r,hp=>by
  simp only[eM,af,aC]at hp;obtain⟨_,rfl,_⟩:=hp;exact dK.zero h
 |n+1,.ex,l,x,m,r,hp=>by
  simp only[eM]at hp;split at hp
  .rename_i x1 m1 r1 h1;simp only[af,aC]at hp;obtain⟨_,rfl,_⟩:=hp;exact uw n Mm l x1 m1 r1 h1
  .cases hp
 |n+1,.sm,l,x,m,r,hp=>by
  simp only[eM]at hp;split at hp
  .rename_i x1 m1 r1 h1;simp only[af,aC]at hp;obtain⟨_,rfl,_⟩:=hp;exact uw n LR l x1 m1 r1 h1
  .cases hp
 |n+1,.int k,l,x,m,r,hp=>by
  simp only[eM]at hp;split at hp
  .split at hp
   .rename_i x1 m1 h1;simp only[af,aC]at hp;obtain⟨_,rfl,_⟩:=hp;exact mL h1
   .cases hp
  .cases hp
 |n+1,.bool,l,x,m,r,hp=>by
  simp only[eM]at hp;split at hp
  .split at hp
   .rename_i x1 m1 h1;simp only[af,aC]at hp;obtain⟨_,rfl,_⟩:=hp;exact mL h1
   .cases hp
  .cases hp
 |n+1,.str,l,x,m,r,hp=>by
  simp only[eM]at hp;split at hp
  .split at hp
   .rename_i x1 m1 h1;simp only[af,aC]at hp;obtain⟨_,rfl,_⟩:=hp;exact mL h1
   .cases hp
  .cases hp
 |n+1,.sl t,l,x,m,r,hp=>by
  simp only[eM]at hp;split at hp
  .split at hp
   .rename_i x1 m1 h1;simp only[af,aC]at hp;obtain⟨_,rfl,_⟩:=hp;exact mL h1
   .cases hp
  .cases hp
theorem VU {h:bl} {T:Ty} {v:TV} {x:T.den} {m:Nat} (d:Bs h T v=Z (x,m)):dK h m:=by
 cases v with
 |agg l=>
  simp only[Bs]at d;split at d
  .cases d
  .split at d
   .rename_i x1 m1 h1;simp only[af,aC]at d;obtain⟨_,rfl⟩:=d;exact uw 40 T l x1 m1 [] h1
   .cases d
 |f S v=>exact mL (v:=.f S v) d
 |fel T xs j hj off=>exact mL (v:=.fel T xs j hj off) d
 |pel id sz j off=>exact mL (v:=.pel id sz j off) d
 |ptr id off=>exact mL (v:=.ptr id off) d
 |csl id off z=>exact mL (v:=.csl id off z) d
 |row id=>exact mL (v:=.row id) d
 |emp=>exact mL (v:=.emp) d
 |nil=>exact mL (v:=.nil) d
 |mp id=>exact mL (v:=.mp id) d
 |rtl id s=>exact mL (v:=.rtl id s) d
 |tup q=>exact mL (v:=.tup q) d
 |clo g q=>exact mL (v:=.clo g q) d
 |undef=>exact mL (v:=.undef) d
 |np=>exact mL (v:=.np) d
 |anyb=>exact mL (v:=.anyb) d
 |ful S q=>exact mL (v:=.ful S q) d
theorem Nk {h:bl} {T:Ty}:∀(n:Nat) (l:Y TV) (xs:Y T.den) (m:Nat),ya h T n l=Z (xs,m)->dK h m
 |0,[],xs,m,hp=>by simp only[ya,af,aC]at hp;rw[<- hp.2];exact dK.zero h
 |0,_::_,xs,m,hp=>by simp[ya]at hp
 |n+1,l,xs,m,hp=>by
  simp only[ya]at hp;split at hp
  .rename_i x1 m1 r1 h1;split at hp
   .rename_i x2 m2 h2;simp only[af,aC]at hp;obtain⟨_,rfl⟩:=hp;exact (uw 40 T l x1 m1 r1 h1).or (Nk n r1 x2 m2 h2)
   .cases hp
  .cases hp
theorem zi {h:bl} {u:TV}:∀(n:Nat) (T:Ty) (v:T.den) (off sz:Nat) (z:T.den) (m:Nat),gK h u n T v off sz=Z (z,m)->dK h m
 |0,_,_,_,_,_,_,hg=>by simp[gK]at hg
 |n+1,.st t,v,off,sz,z,m,hg=>by
  simp only[gK]at hg;split at hg
  .rename_i q hq;split at hq
   .simp only[af]at hg;subst hg;exact VU hq
   .cases hq
  .exact zi n t v off sz z m hg
 |n+1,.pr a b,v,off,sz,z,m,hg=>by
  simp only[gK]at hg;split at hg
  .split at hg
   .rename_i d m1 h1;simp only[af,aC]at hg;obtain⟨_,rfl⟩:=hg;exact zi n a v.1 off sz d m1 h1
   .cases hg
  .split at hg
   .rename_i d m1 h1;simp only[af,aC]at hg;obtain⟨_,rfl⟩:=hg;exact zi n b v.2 _ sz d m1 h1
   .cases hg
 |n+1,.un,v,off,sz,z,m,hg=>by simp[gK]at hg
 |n+1,.ex,v,off,sz,z,m,hg=>by
  simp only[gK]at hg;split at hg
  .rename_i q hq;split at hq
   .simp only[af]at hg;subst hg;exact VU hq
   .cases hq
  .split at hg
   .rename_i d m1 h1;simp only[af,aC]at hg;obtain⟨_,rfl⟩:=hg;exact zi n Mm _ off sz d m1 h1
   .cases hg
 |n+1,.sm,v,off,sz,z,m,hg=>by
  simp only[gK]at hg;split at hg
  .rename_i q hq;split at hq
   .simp only[af]at hg;subst hg;exact VU hq
   .cases hq
  .split at hg
   .rename_i d m1 h1;simp only[af,aC]at hg;obtain⟨_,rfl⟩:=hg;exact zi n LR _ off sz d m1 h1
   .cases hg
 |n+1,.int k,v,off,sz,z,m,hg=>by
  simp only[gK]at hg;split at hg
  .exact mL hg
  .cases hg
 |n+1,.bool,v,off,sz,z,m,hg=>by
  simp only[gK]at hg;split at hg
  .exact mL hg
  .cases hg
 |n+1,.str,v,off,sz,z,m,hg=>by
  simp only[gK]at hg;split at hg
  .exact mL hg
  .cases hg
 |n+1,.sl t,v,off,sz,z,m,hg=>by
  simp only[gK]at hg;split at hg
  .exact mL hg
  .cases hg
theorem te {h:bl} {m i:Nat} (hm:dK h m) (hb:aO m i=M):∃p sz n,(d9 m h).get i=Z (.dead p sz n):=by
 obtain⟨ty,p,T,xs,h1⟩:=hm i hb;exact⟨p,T.size,xs.length,by rw[iU,aT hb,h1];rfl⟩
section ops
variable {R:Type} {P:Program} {o:Oper} {e:iL} {h:bl} {nx:Nat} {K:KO R} {r:R}
theorem ic (n:Nat) (b:u_):jf [(n,b)] n=Z b:=by simp[jf]
theorem iB.mk' {s:XL} (hc:dq P o.op=Z s) {H:nX} (hH:H.get=bB h) {k:Nat} {y0:AV} {rdl wrl N:ι} {nw:NW} (ha:ef s (IU e h) H k=Z ⟨y0,rdl,wrl,nw,N⟩) {v:TV} {h':bl} {nx' rd wr:Nat} (wr':ι)
 (hsub:∀i∈wrl,i∈wr') (hsame:∀n,n∉wr'->bB h' n=bB h n)
 (hdom:∀i∈wr',∀b',bB h' i=Z b'->∃b,(if i∈wrl then jf nw i else bB h i)=Z b)
 (hblk:∀(D I:HF),ul D I->(∀i∈wrl,D i=jf nw i)->(∀i∈wr',i∉wrl->D i=bB h i)->(∀i∈wr',I i=bB h' i)->(∀i∈wr',∀b b',D i=Z b->I i=Z b'->ip D I b b')/\∀y,b_ h' v=Z y->lw D I y0 y)
 (hrd:∀n∈rdl,aO rd (ow n)=M) (hwr:∀n∈wr',aO wr (ow n)=M) (L:∀n∈N,nx<=ow n/\ow n<nx') (hrows:b8 h h') (hinv':mh h' nx') (hg:nx<=nx'):iB P o aa e h nx v rd wr h' nx':=by
 have ht:=HN hc ha;rw[uG,hH]at ht;refine ⟨?_,hrows,hinv',hg,λhs=>by cases hs⟩;have base:∀(val:AV),(∀y,b_ h' v=Z y->y=val)->(b_ h' v=U->val=y0)->gB P o (fw e h) (bB h) ⟨val,rdl,wr',bB h',N⟩:=by
  intro val hval hnone;refine gB.view ht (λi hi=>.inl (hsub i hi)) λh1 hr1 F=>?_
  have hd:ul (eF h1 wrl (jf nw)) (eF h1 wr' (bB h')):=by
   intro i b hb;unfold eF at hb ⊢;by_cases hi:i∈wr'
   .rw[aT hi]at hb;obtain⟨b0,q⟩:=hdom i hi b hb;refine ⟨b0,?_⟩;by_cases A:i∈wrl
    .rw[aT A]at q ⊢;exact q
    .rw[aL A]at q ⊢;rw[F i hi];exact q
   .rw[aL hi]at hb;rw[aL (λA=>hi (hsub i A))];exact⟨b,hb⟩
  obtain⟨q1,q2⟩:=hblk _ _ hd (λi hi=>by unfold eF;rw[aT hi]) (λi hi A=>by unfold eF;rw[aL A];exact F i hi) (λi hi=>by unfold eF;rw[aT hi]);refine ⟨⟨hd,λi b b' hb z=>?_⟩,?_⟩
  .by_cases hi:i∈wr'
   .exact q1 i hi b b' hb z
   .unfold eF at hb z;rw[aL (λA=>hi (hsub i A))]at hb;rw[aL hi,hb]at z;cases z;exact ip.refl hd b
  .cases hv:b_ h' v with
   |none=>rw[hnone hv];exact lw.refl hd _
   |some y=>rw[<- hval y hv];exact q2 y hv
 have hu:eF (bB h) wr' (bB h')=bB h':=by
  funext n;unfold eF;split
  .rfl
  .rename_i hn;exact (hsame n hn).symm
 cases hv:b_ h' v with
 |none=>exact⟨_,base y0 (λy d=>by rw[hv]at d;cases d) (λ_=>rfl),λy d=>(by cases d),hu,hrd,hwr,L⟩
 |some y=>exact⟨_,base y (λy' d=>by rw[hv]at d;cases d;rfl) (λhn=>by rw[hv]at hn;cases hn),λy' d=>by cases d;rfl,hu,hrd,hwr,L⟩
theorem Ck (hi:s6 e h):∀(parts:Y (Nat×Nat×Operand)) (cells cs:Y TV) (cells':Y AV),IP cells e parts=Z cs->cD h cells=Z cells'->∃cs',yG cells' (IU e h) parts=Z cs'/\cD h cs=Z cs'/\(kF cells=M->kF cs=M)
 |[],cells,cs,cells',hf,he=>by simp only[IP,af]at hf;subst hf;exact⟨cells',rfl,he,id⟩
 |(off,sz,x)::rest,cells,cs,cells',hf,he=>by
  simp only[IP]at hf;split at hf
  .rename_i v hv;split at hf
   .rename_i q hq;split at hf
    .rename_i hc;simp only[ak,cR]at hc;obtain⟨y,h1,h2⟩:=bI hi hv;obtain⟨A,L⟩:=Jz hq h2;obtain⟨cs',I,F,D⟩:=Ck hi rest (splice cells off q) cs (splice cells' off y.cs) hf (pL off he A);refine ⟨cs',?_,F,λd=>D ?_⟩
     .simp only[yG,h1];rw[aT,I];simp only[ak,cR];exact⟨⟨by rw[gz A];exact hc.1,by rw[gz he];exact hc.2⟩,rR A L⟩
     .clear I F D hf;have app:∀a b:Y TV,kF a=M->kF b=M->kF (a++b)=M:=by
       intro a b d hb;induction a with
       |nil=>exact hb
       |cons z r s=>simp only[kF,ak,gZ]at d ⊢;exact⟨d.1,s d.2⟩
      have tk:∀(a:Y TV) n,kF a=M->kF (a.take n)=M:=by
       intro a;induction a with
       |nil=>intro n h;simp[kF]
       |cons z r s=>
        intro n h;cases n with
        |zero=>rfl
        |succ n=>simp only[kF,ak,vb]at h ⊢;exact⟨h.1,s n h.2⟩
      have dr:∀(a:Y TV) n,kF a=M->kF (a.drop n)=M:=by
       intro a;induction a with
       |nil=>intro n h;simp[kF]
       |cons z r s=>
        intro n h;cases n with
        |zero=>exact h
        |succ n=>simp only[kF,ak,vh]at h ⊢;exact s n h.2
      unfold splice;exact app _ _ (app _ _ (tk _ _ d) L) (dr _ _ d)
    .cases hf
   .cases hf
  .cases hf
variable (hinv:mh h nx) (hi:s6 e h)
include hinv hi
theorem ady {con:FuncId->J cr} {b9:TypeId->J Ty} {z:ξ} {parts:Y (Nat×Nat×Operand)} {st:Bool} (hc:dq P o.op=Z (.build z parts)) (hk:dS con b9 (.op (.build z parts)) e h nx K=Z r):kL P o st e h nx K r:=by
 simp only[dS]at hk;split at hk
 .rename_i l hl;split at hk
  .rename_i cs hf;obtain⟨h1,_,_⟩:=uM h hl;obtain⟨cs',h2,s,_⟩:=Ck hi parts l cs _ hf h1;refine kL.q (k:=0) (y0:=L4 cs') hinv hc (λH _=>by simp only[ef,h2]) (λy d=>?_) hk;simp only[b_,s,af]at d;subst d;exact Y2 cs'
  .cases hk
 .cases hk
theorem ahk {con:FuncId->J cr} {b9:TypeId->J Ty} {sz:Nat} {ag:Bool} {x:Operand} (hc:dq P o.op=Z (.load sz ag x)) (hk:dS con b9 (.op (.load sz ag x)) e h nx K=Z r):kL P o aa e h nx K r:=by
 obtain⟨H,s⟩:=jO h;simp only[dS]at hk;split at hk
 .rename_i id off hv;obtain⟨y,h1,h2⟩:=bI hi hv;simp only[b_,af]at h2;subst h2;split at hk
  .rename_i ty l hb;split at hk
   .rename_i v hs;obtain⟨F,hl⟩:=eY h l (hinv.cells id _ l hb);obtain⟨y,D,A⟩:=U2 hl hs;have hg:H.get (nm id)=Z ⟨ty,.mx F⟩:=by rw[s,bK,hb];simp only[aD,jB,hl]
    exact⟨v,ku id,0,h,nx,hk,iB.pure (k:=0) hinv hc s (y0:=y) (rdl:=[nm id]) (by simp only[ef,h1,C4,hg,A]) (di D) (λn hn=>by simp only[aJ]at hn;subst hn;rw[dQ];exact bW.2 rfl) (λh=>by cases h)⟩
   .cases hk
  .cases hk
 .rename_i id sz' j off hv;obtain⟨y,h1,h2⟩:=bI hi hv;simp only[b_,af]at h2;subst h2;split at hk
  .rename_i ty p T xs hb;split at hk
   .rename_i hsz;have hsz:=au hsz;obtain⟨hj,hk⟩:=dM hk;split at hk
    .rename_i v hs;obtain⟨y,D,A⟩:=aea (h:=h) hj hs;have hne:¬((p&&xs.length==0)=M):=by
      have:=DG hj;simp only[ak,cR];omega
     have hg:H.get (nm id)=Z ⟨ty,.fz (xs.flatMap (bP T))⟩:=by rw[s,bK,hb];simp only[aD,jB,aL hne]
     exact⟨v,ku id,0,h,nx,hk,iB.pure (k:=0) hinv hc s (y0:=.f y) (rdl:=[nm id]) (by simp only[ef,h1,C4,hg,hsz,A]) (di D) (λn hn=>by simp only[aJ]at hn;subst hn;rw[dQ];exact bW.2 rfl) (λh=>by cases h)⟩
    .cases hk
   .cases hk
  .rename_i ty l hb;split at hk
   .cases hk
   .split at hk
    .rename_i hsz;simp only[ak]at hsz;have e1:=au hsz.1.1;have e2:=au hsz.1.2;have e3:=au hsz.2;subst e1;subst e2;subst e3;split at hk
     .rename_i T xs hA;obtain⟨hj,hk⟩:=dM hk;obtain⟨F,hl⟩:=eY h l (hinv.cells id _ l hb);have hg:H.get (nm id)=Z ⟨ty,.mx F⟩:=by rw[s,bK,hb];simp only[aD,jB,hl]
      have hlt:j.toNat<l.length:=by
       simp only[e9,ak,cP,fK,bz]at hj;omega
      obtain⟨z,I,d⟩:=lh hl j.toNat _ (VV hA j.toNat hlt);have d:b_ h (.f T (aG xs j))=Z z:=d;exact⟨_,ku id,0,h,nx,hk,iB.pure (k:=0) hinv hc s (y0:=z) (rdl:=[nm id]) (by simp only[ef,h1,C4,hg,BC.sub?,BC.get,Nat.mul_one,dh,I]) (di d) (λn hn=>by simp only[aJ]at hn;subst hn;rw[dQ];exact bW.2 rfl) (λh=>by cases h)⟩
     .cases hk
    .cases hk
  .cases hk
 .rename_i T xs j hj off hv;obtain⟨y,h1,h2⟩:=bI hi hv;simp only[b_,af]at h2;subst h2;split at hk
  .rename_i v hs;obtain⟨y,D,A⟩:=aea (h:=h) hj hs;exact kL.q (k:=0) (y0:=.f y) hinv hc (λH _=>by simp only[ef,h1,C4,A]) (di D) hk
  .cases hk
 .cases hk
theorem adz {con:FuncId->J cr} {b9:TypeId->J Ty} {ty:TypeId} {z:ξ} (hc:dq P o.op=Z (.alloc ty z)) (hk:dS con b9 (.op (.alloc ty z)) e h nx K=Z r):kL P o aa e h nx K r:=by
 have _:=hi;obtain⟨H,hH⟩:=jO h;simp only[dS]at hk;split at hk
 .rename_i l hl;obtain⟨_,hz,_⟩:=uM h hl;have hnone:h.get nx=U:=by
   cases hb:h.get nx with
   |none=>rfl
   |some b=>have:=hinv.low nx b hb;omega
  have hr:b8 h (h.set nx (Z (.cells (Z ty) l))):=b8.set λr hr=>by rw[bR,hnone]at hr;cases hr
  obtain⟨h1,_,_⟩:=uM (h.set nx (Z (.cells (Z ty) l))) hl;have F:bB (h.set nx (Z (.cells (Z ty) l))) (nm nx)=Z ⟨ty,.mx (z.map raw)⟩:=by rw[bK,PT.get_set,aT rfl];simp only[aD,jB,h1]
  refine ⟨_,_,_,_,_,hk,iB.mk' hc hH (k:=nm nx) (by simp only[ef];rfl) [nm nx] (λi hi=>hi) (λn hn=>?_) (λi hi b' _=>⟨⟨ty,.fz (z.map .raw)⟩,?_⟩) (λH1 H2 d D _ A=>⟨λi hi b b' hb s=>?_,λy I=>?_⟩) (by simp) ?_ ?_ hr (hinv.set hr (by omega) (by omega) λty' l' he=>?_) (by omega)⟩
  .refine kr hinv hr λi e=>?_
   subst e;rw[PT.get_set,aL (λe=>hn (by rw[e];simp))]
  .rw[aT hi];simp only[aJ]at hi;subst hi;simp[jf]
  .simp only[aJ]at hi;subst hi;rw[D _ (by simp)]at hb;rw[A _ (by simp),F]at s;rw[ic]at hb;simp only[af]at hb s;subst hb;subst s;refine ip.cells rfl rfl ?_ λx L=>?_
   .simp only[BC.toMx,G2];exact gT.refl d _
   .simp only[BC.toMx]at L;obtain⟨q,hq,rfl⟩:=c7.1 L;exact hz q hq
  .simp only[b_,af]at I;subst I;exact lw.refl d _
  .intro n hn;simp only[aJ]at hn;subst hn;rw[dQ];exact bW.2 rfl
  .intro n hn;simp only[aJ]at hn;subst hn;rw[dQ];omega
  .cases he;exact jV _ _ _ h1
 .cases hk
theorem akr {con:FuncId->J cr} {b9:TypeId->J Ty} {ty:TypeId} {x:Operand} (hc:dq P o.op=Z (.box ty x)) (hk:dS con b9 (.op (.box ty x)) e h nx K=Z r):kL P o aa e h nx K r:=by
 obtain⟨H,hH⟩:=jO h;simp only[dS]at hk;split at hk
 .rename_i v hv;split at hk
  .rename_i l hl;obtain⟨y,h1,h2⟩:=bI hi hv;obtain⟨I,h4⟩:=Jz hl h2;have hcell:=rR I h4;have hnone:h.get nx=U:=by
    cases hb:h.get nx with
    |none=>rfl
    |some b=>have:=hinv.low nx b hb;omega
   have hr:b8 h (h.set nx (Z (.cells (Z ty) l))):=b8.set λr hr=>by rw[bR,hnone]at hr;cases hr
   have F:=fY hr l _ I;have A:bB (h.set nx (Z (.cells (Z ty) l))) (nm nx)=Z ⟨ty,.mx y.cs⟩:=by rw[bK,PT.get_set,aT rfl];simp only[aD,jB,F]
   refine ⟨_,_,_,_,_,hk,iB.mk' hc hH (k:=nm nx) (by simp only[ef,h1,hcell,bE];rfl) [nm nx] (λi hi=>hi) (λn hn=>?_) (λi hi b' _=>⟨⟨ty,oE y.cs⟩,?_⟩) (λH1 H2 d z _ s=>⟨λi hi b b' hb q=>?_,λy D=>?_⟩) (by simp) ?_ ?_ hr (hinv.set hr (by omega) (by omega) λty' l' he=>?_) (by omega)⟩
   .refine kr hinv hr λi e=>?_
    subst e;rw[PT.get_set,aL (λe=>hn (by rw[e];simp))]
   .rw[aT hi];simp only[aJ]at hi;subst hi;simp[jf]
   .simp only[aJ]at hi;subst hi;rw[z _ (by simp)]at hb;rw[s _ (by simp),A]at q;rw[ic]at hb;simp only[af]at hb q;subst hb;subst q;obtain⟨q1,q2⟩:=nK y.cs;refine ip.cells q2 rfl ?_ λx L=>?_
    .rw[q1];exact gT.refl d _
    .exact lY hcell x L
   .simp only[b_,af]at D;subst D;exact lw.refl d _
   .intro n hn;simp only[aJ]at hn;subst hn;rw[dQ];exact bW.2 rfl
   .intro n hn;simp only[aJ]at hn;subst hn;rw[dQ];omega
   .cases he;exact jV _ _ _ F
  .cases hk
 .cases hk
theorem adw {con:FuncId->J cr} {b9:TypeId->J Ty} {ty:TypeId} {sz bytes:Nat} {z:ξ} {l c:Operand} (hcm:CW (b9 ty)=U) (hc:dq P o.op=Z (.mksl ty sz bytes z l c)) (hk:dS con b9 (.op (.mksl ty sz bytes z l c)) e h nx K=Z r):kL P o aa e h nx K r:=by
 obtain⟨H,hH⟩:=jO h;simp only[dS,hcm]at hk;split at hk
 .rename_i T k a k' b hT hv F;split at hk
  .rename_i hsz;simp only[ak]at hsz;have hs:=au hsz.1;have hz:=JR hsz.2;subst hs;subst hz;obtain⟨hck,hk⟩:=dM hk;obtain⟨y,h1,h2⟩:=bI hi hv;obtain⟨y2,h3,h4⟩:=bI hi F;simp only[b_,af]at h2 h4;subst h2;subst h4;have hnone:h.get nx=U:=by
    cases hb:h.get nx with
    |none=>rfl
    |some b=>have:=hinv.low nx b hb;omega
   generalize L:ia.rows ty aa T (aA (aP a) T.zero)=B at hk;have hr:b8 h (h.set nx (Z B)):=b8.set λr hr=>by rw[bR,hnone]at hr;cases hr
   have I:bB (h.set nx (Z B)) (nm nx)=Z ⟨ty,.fz ((aA (aP a) T.zero).flatMap (bP T))⟩:=by rw[bK,PT.get_set,aT rfl,<-L];simp[jB]
   refine ⟨_,_,_,_,_,hk,iB.mk' hc hH (k:=nm nx) (by simp only[ef,h1,h3,gh,hck,bE];rfl) [nm nx] (λi hi=>hi) (λn hn=>?_) (λi hi b' _=>⟨⟨ty,.fz (repl (sD T) (aP a))⟩,?_⟩) (λH1 H2 d D _ A=>⟨λi hi b b' hb s=>?_,λy hy=>?_⟩) (by simp) ?_ ?_ hr (hinv.set hr (by omega) (by omega) λty' l' he=>?_) (by omega)⟩
   .refine kr hinv hr λi e=>?_
    subst e;rw[PT.get_set,aL (λe=>hn (by rw[e];simp))]
   .rw[aT hi];simp only[aJ]at hi;subst hi;simp[jf]
   .simp only[aJ]at hi;subst hi;rw[D _ (by simp)]at hb;rw[A _ (by simp),I]at s;rw[ic]at hb;simp only[af]at hb s;subst hb;subst s;refine ip.cells rfl rfl (G6 d T _) λx hx=>?_
    simp only[BC.toMx]at hx;obtain⟨q,hq,rfl⟩:=c7.1 hx;exact rj T _ q hq
   .simp only[b_,bR,PT.get_set,bE,<-L,aD,mM,fd,jT,bF,du,af,cN]at hy;subst hy;exact lw.refl d _
   .intro n hn;simp only[aJ]at hn;subst hn;rw[dQ];exact bW.2 rfl
   .intro n hn;simp only[aJ]at hn;subst hn;rw[dQ];omega
   .rw[<- L]at he;cases he
  .cases hk
 .cases hk
end ops
theorem vH {α:Type} {f:α->Y FV} {n:Nat} (hf:∀x,(f x).length=n):∀(xs:Y α) (j:Nat),(xs.take j).flatMap f=(xs.flatMap f).take (j*n)
 |[],j=>by simp
 |x::r,0=>by simp
 |x::r,j+1=>by
  rw[vb,fy,fy,vH hf r j,show (j+1)*n=(f x).length+j*n from by rw[hf,iN];omega,List.take_length_add_append]
theorem IN {α:Type} {f:α->Y FV} {n:Nat} (hf:∀x,(f x).length=n):∀(xs:Y α) (j:Nat),(xs.drop j).flatMap f=(xs.flatMap f).drop (j*n)
 |[],j=>by simp
 |x::r,0=>by simp
 |x::r,j+1=>by
  rw[vh,fy,IN hf r j,show (j+1)*n=(f x).length+j*n from by rw[hf,iN];omega,List.drop_length_add_append]
theorem Pn {z:ξ}:∀(n:Nat) (x:FV),x∈repl z n->∃v∈z,x= .raw v
 |0,x,h=>by simp[repl]at h
 |n+1,x,h=>by
  rw[repl,bN]at h;rcases h with h|h
  .obtain⟨v,hv,rfl⟩:=c7.1 h;exact⟨v,hv,rfl⟩
  .exact Pn n x h
theorem FL:∀l:Y FV,(∀x∈l,x.isCell=M)->gi (l.map .f)=M
 |[],_=>rfl
 |z::r,h=>by simp only[fb,gi,ak];exact⟨h z (by simp),FL r λx d=>h x (by simp[d])⟩
section ops
variable {R:Type} {P:Program} {o:Oper} {e:iL} {h:bl} {nx:Nat} {K:KO R} {r:R}
theorem mh.fresh (hinv:mh h nx):h.get nx=U:=by
 cases hb:h.get nx with
 |none=>rfl
 |some b=>have:=hinv.low nx b hb;omega
theorem dK.lt (hinv:mh h nx) {m:Nat} (hm:dK h m) {i:Nat} (hi:aO m i=M):i<nx:=by
 obtain⟨_,_,_,_,hb⟩:=hm i hi;exact hinv.low i _ hb
theorem iB.new {s:XL} (hinv:mh h nx) (hc:dq P o.op=Z s) {H:nX} (hH:H.get=bB h) {y0:AV} {rdl:ι} {b0:u_} (ha:ef s (IU e h) H (nm nx)=Z ⟨y0,rdl,[nm nx],[(nm nx,b0)],[nm nx]⟩) {B:ia} {v:TV} {m rd:Nat} (hm:dK h m)
 (hB:∀ty l,B= .cells ty l->kU ((d9 m h).set nx (Z B)) l=M)
 (hblk:∀z q,ul z q->Dh h z q m->∀b',jB ((d9 m h).set nx (Z B)) B=Z b'->ip z q b0 b')
 (hval:∀z q y,ul z q->Dh h z q m->b_ ((d9 m h).set nx (Z B)) v=Z y->lw z q y0 y)
 (hrd:∀n∈rdl,aO rd (ow n)=M):iB P o aa e h nx v rd (m|||ku nx) ((d9 m h).set nx (Z B)) (nx+1):=by
 have hk:=hinv.kill m;have hr0:=b8.kill m h;have F:b8 (d9 m h) ((d9 m h).set nx (Z B)):=b8.set λr hr=>by rw[bR,hk.fresh]at hr;cases hr
 have hr:=hr0.trans F;have hgiv:∀i,aO m i=M->bB ((d9 m h).set nx (Z B)) (nm i)=U:=λi hi=>by
  have hlt:=hm.lt hinv hi;obtain⟨p,sz,n,hd⟩:=te hm hi;rw[bK,PT.get_set,aL (by omega),hd];rfl
 refine iB.mk' hc hH ha (nm nx::EW m) (λi hi=>by simp only[aJ]at hi;subst hi;simp) (λn hn=>?_) (λi hi b' I=>?_) (λz q d L hw0 D=>?_) hrd ?_ ?_ hr (hk.set F (by omega) (by omega) hB) (by omega)
 .refine kr hinv hr λi e=>?_
  subst e;rw[PT.get_set,aL (λe=>hn (by rw[e];simp)),iU,aL];intro hb;exact hn (dk _ (lO.2 hb))
 .rcases bu.1 hi with rfl|hi
  .exact⟨b0,by rw[aT (by simp),ic]⟩
  .obtain⟨j,rfl,hj⟩:=nM.1 hi;rw[hgiv j hj]at I;cases I
 .have g:Dh h z q m:=λi hi=>by
   have hlt:=hm.lt hinv hi;have hmem:nm i∈nm nx::EW m:=dk _ (lO.2 hi);exact⟨hw0 _ hmem (λhc=>by simp only[aJ]at hc;have:=kV hc;omega),by rw[D _ hmem,hgiv i hi]⟩
  refine ⟨λi hi b b' hb A=>?_,λy hy=>hval z q y d g hy⟩;rcases bu.1 hi with rfl|hi'
  .rw[L _ (by simp),ic]at hb;rw[D _ hi,bK,PT.get_set,aT rfl]at A;simp only[af]at hb;subst hb;exact hblk z q d g b' A
  .obtain⟨j,rfl,hj⟩:=nM.1 hi';rw[D _ hi,hgiv j hj]at A;cases A
 .intro n hn;rw[bw];rcases bu.1 hn with rfl|hn
  .rw[dQ,bW.2 rfl];simp
  .obtain⟨j,rfl,hj⟩:=nM.1 hn;rw[dQ,hj];rfl
 .intro n hn;simp only[aJ]at hn;subst hn;rw[dQ];omega
theorem iB.wrt {s:XL} (hinv:mh h nx) (hc:dq P o.op=Z s) {H:nX} (hH:H.get=bB h) {id:Nat} {y0:AV} {rdl:ι} {b0:u_} {k:Nat} (ha:ef s (IU e h) H k=Z ⟨y0,rdl,[nm id],[(nm id,b0)],[]⟩) {B0 B:ia} (I:h.get id=Z B0) {v:TV} {m rd:Nat} (hm:dK h m) (hmid:aO m id=aa)
 (hrow:mM B=mM B0) (hB:∀ty l,B= .cells ty l->kU ((d9 m h).set id (Z B)) l=M)
 (hblk:∀z q,ul z q->Dh h z q m->∀b',jB ((d9 m h).set id (Z B)) B=Z b'->ip z q b0 b')
 (hval:∀z q y,ul z q->Dh h z q m->b_ ((d9 m h).set id (Z B)) v=Z y->lw z q y0 y)
 (hrd:∀n∈rdl,aO rd (ow n)=M):iB P o aa e h nx v rd (m|||ku id) ((d9 m h).set id (Z B)) nx:=by
 have hk:=hinv.kill m;have hr0:=b8.kill m h;have hkid:(d9 m h).get id=Z B0:=by rw[iU,hmid];simpa using I
 have F:b8 (d9 m h) ((d9 m h).set id (Z B)):=b8.set λr hr=>by rw[bR,hkid]at hr;rw[hrow];exact hr
 have hr:=hr0.trans F;have hgiv:∀i,aO m i=M->bB ((d9 m h).set id (Z B)) (nm i)=U:=λi hi=>by
  have hne:i≠id:=λe=>by rw[e,hmid]at hi;cases hi
  obtain⟨p,sz,n,hd⟩:=te hm hi;rw[bK,PT.get_set,aL hne,hd];rfl
 refine iB.mk' hc hH ha (nm id::EW m) (λi hi=>by simp only[aJ]at hi;subst hi;simp) (λn hn=>?_) (λi hi b' L=>?_) (λz q d hw1 hw0 D=>?_) hrd ?_ (by simp) hr (hk.set F (hinv.low id B0 I) (by omega) hB) (by omega)
 .refine kr hinv hr λi e=>?_
  subst e;rw[PT.get_set,aL (λe=>hn (by rw[e];simp)),iU,aL];intro hb;exact hn (dk _ (lO.2 hb))
 .rcases bu.1 hi with rfl|hi
  .exact⟨b0,by rw[aT (by simp),ic]⟩
  .obtain⟨j,rfl,hj⟩:=nM.1 hi;rw[hgiv j hj]at L;cases L
 .have g:Dh h z q m:=λi hi=>by
   have hne:i≠id:=λe=>by rw[e,hmid]at hi;cases hi
   have hmem:nm i∈nm id::EW m:=dk _ (lO.2 hi);exact⟨hw0 _ hmem (λhc=>by simp only[aJ]at hc;exact hne (kV hc)),by rw[D _ hmem,hgiv i hi]⟩
  refine ⟨λi hi b b' hb A=>?_,λy hy=>hval z q y d g hy⟩;rcases bu.1 hi with rfl|hi'
  .rw[hw1 _ (by simp),ic]at hb;rw[D _ hi,bK,PT.get_set,aT rfl]at A;simp only[af]at hb;subst hb;exact hblk z q d g b' A
  .obtain⟨j,rfl,hj⟩:=nM.1 hi';rw[D _ hi,hgiv j hj]at A;cases A
 .intro n hn;rw[bw];rcases bu.1 hn with rfl|hn
  .rw[dQ,bW.2 rfl];simp
  .obtain⟨j,rfl,hj⟩:=nM.1 hn;rw[dQ,hj];rfl
theorem LV (h:bl) {z:ξ} {d:Y TV} (q:Jw z=Z d):∀len,cD h (aA len d).flatten=Z ((repl z len).map .f)
 |0=>rfl
 |n+1=>by
  rw[pU,List.flatten_cons,repl,da];refine ny ?_ (LV h q n);rw[(uM h q).1];simp only[G2];rfl
theorem U8 {H:nX} (I:H.get=bB h) {T:Ty} {v:TV} {D:Y T.den} {m:Nat} {y:AV} (d:Bs h (.sl T) v=Z (D,m)) (s:b_ h v=Z y):∃rd,y.row? H T.size=Z ((D.flatMap (bP T)).map .f,D.length,rd)/\∀n∈rd,∃i,n=nm i/\aO m i=M:=by
 have fl:=λA:Y T.den=>eH (bA T) A
 have tk:∀A:Y T.den,(A.flatMap (bP T)).take (A.length*T.size)=A.flatMap (bP T):=λA=>by rw[<- fl,bS]
 cases v with
 |f S x=>
  simp only[Bs,h_]at d;split at d
  .rename_i z F;simp only[af,aC]at d;obtain⟨rfl,_⟩:=d;obtain⟨e,rfl⟩:=gO F;subst e;simp only[b_,af]at s;subst s;refine ⟨[],?_,by simp⟩;simp only[gh,AV.row?];rw[aT (bt (by rw[fl x];exact cF _)),tk]
  .cases d
 |emp=>
  simp only[Bs,h_,af,aC]at d;obtain⟨rfl,_⟩:=d;simp only[b_,af]at s;subst s;exact⟨[],rfl,by simp⟩
 |nil=>
  simp only[Bs,h_,af,aC]at d;obtain⟨rfl,_⟩:=d;simp only[b_,af]at s;subst s;exact⟨[],rfl,by simp⟩
 |row id=>
  simp only[Bs,h_]at d;split at d
  .rename_i ty p S xs hb;split at d
   .rename_i z F;simp only[af,aC]at d;obtain⟨rfl,rfl⟩:=d;obtain⟨e,rfl⟩:=gO F;cases e;simp only[b_,eh,hb,af]at s;subst s;unfold fd;split
    .rename_i hp;simp only[ak,cR]at hp;have:xs=[]:=ji.1 hp.2;subst this;exact⟨[],rfl,by simp⟩
    .rename_i hp;have hg:H.get (nm id)=Z ⟨ty,.fz (xs.flatMap (bP T))⟩:=by rw[I,bK,hb];simp only[aD,jB,aL hp]
     refine ⟨[nm id],?_,λn hn=>?_⟩
     .simp only[AV.row?,hg,cQ,bE,BC.isCells,BC.len,kO];rw[aT (bt (by rw[fl xs];exact cF _))];simp only[BC.toMx,<-pD,tk]
     .simp only[aJ]at hn;exact⟨id,hn,bW.2 rfl⟩
   .cases d
  .cases d
 |agg l=>simp[Bs,Ty.one]at d
 |fel T xs j hj off=>simp[Bs,h_]at d
 |pel id sz j off=>simp[Bs,h_]at d
 |ptr id off=>simp[Bs,h_]at d
 |csl id off z=>simp[Bs,h_]at d
 |mp id=>simp[Bs,h_]at d
 |rtl id L=>simp[Bs,h_]at d
 |tup q=>simp[Bs,h_]at d
 |clo f q=>simp[Bs,h_]at d
 |undef=>simp[Bs,h_]at d
 |np=>simp[Bs,h_]at d
 |anyb=>simp[Bs,h_]at d
 |ful S q=>simp[Bs,h_]at d
theorem Tb {v:TV} {y:AV} (d:b_ h v=Z y) (hc:v.isC=M):gi y.cs=M:=by
 rw[Nm (Nx d hc)];simp only[gi,Bool.and_true];exact Nx d hc
theorem WX (T:Ty) (x:T.den):gi ((bP T x).map .f)=M:=by
 have:∀l:Y FV,(∀x∈l,x.isCell=M)->gi (l.map .f)=M:=by
  intro l hl;induction l with
  |nil=>rfl
  |cons z r d=>simp only[fb,gi,ak];exact⟨hl z (by simp),d λx q=>hl x (by simp[q])⟩
 exact this _ (nU T x)
theorem gA {T:Ty} {v:TV} {x:T.den} {m:Nat} {y:AV} (d:h_ h T v=Z (x,m)) (s:b_ h v=Z y):gi y.cs=M:=by
 cases v with
 |f S v=>simp only[b_,af]at s;subst s;rw[zE];exact WX S v
 |emp=>exact Tb s rfl
 |nil=>exact Tb s rfl
 |row id=>exact Tb s rfl
 |fel T xs j hj off=>simp[h_]at d
 |pel id sz j off=>simp[h_]at d
 |ptr id off=>simp[h_]at d
 |csl id off z=>simp[h_]at d
 |mp id=>simp[h_]at d
 |rtl id A=>simp[h_]at d
 |agg q=>simp[h_]at d
 |tup q=>simp[h_]at d
 |clo f q=>simp[h_]at d
 |undef=>simp[h_]at d
 |np=>simp[h_]at d
 |anyb=>simp[h_]at d
 |ful S q=>simp[h_]at d
theorem Hn {T:Ty} (A:T.one=M) {v:TV} {x:T.den} {m:Nat} (d:h_ h T v=Z (x,m)):v.isC=M:=by
 cases v with
 |f S v=>
  simp only[h_]at d;split at d
  .rename_i z s;obtain⟨e,_⟩:=gO s;subst e;exact A
  .cases d
 |emp=>rfl
 |nil=>rfl
 |row id=>rfl
 |fel T xs j hj off=>simp[h_]at d
 |pel id sz j off=>simp[h_]at d
 |ptr id off=>simp[h_]at d
 |csl id off z=>simp[h_]at d
 |mp id=>simp[h_]at d
 |rtl id D=>simp[h_]at d
 |agg q=>simp[h_]at d
 |tup q=>simp[h_]at d
 |clo f q=>simp[h_]at d
 |undef=>simp[h_]at d
 |np=>simp[h_]at d
 |anyb=>simp[h_]at d
 |ful S q=>simp[h_]at d
theorem RI {a b:Y TV} (d:kF a=M) (hb:kF b=M):kF (a++b)=M:=by
 induction a with
 |nil=>exact hb
 |cons z r q=>simp only[kF,ak,gZ]at d ⊢;exact⟨d.1,q d.2⟩
theorem s9:∀(n:Nat) (T:Ty) (l:Y TV) (x:T.den) (m:Nat) (r:Y TV),eM h n T l=Z (x,m,r)->∃a,l=a++r/\kF a=M
 |0,_,_,_,_,_,hp=>by simp[eM]at hp
 |n+1,.st t,l,x,m,r,hp=>s9 n t l x m r hp
 |n+1,.pr a b,l,x,m,r,hp=>by
  simp only[eM]at hp;split at hp
  .rename_i x1 m1 r1 h1;split at hp
   .rename_i x2 m2 r2 h2;simp only[af,aC]at hp;obtain⟨_,_,rfl⟩:=hp;obtain⟨a1,rfl,s⟩:=s9 n a l x1 m1 r1 h1;obtain⟨a2,rfl,d⟩:=s9 n b r1 x2 m2 r2 h2;exact⟨a1++a2,by simp,RI s d⟩
   .cases hp
  .cases hp
 |n+1,.un,l,x,m,r,hp=>by
  simp only[eM,af,aC]at hp;obtain⟨_,_,rfl⟩:=hp;exact⟨[],rfl,rfl⟩
 |n+1,.ex,l,x,m,r,hp=>by
  simp only[eM]at hp;split at hp
  .rename_i x1 m1 r1 h1;simp only[af,aC]at hp;obtain⟨_,_,rfl⟩:=hp;exact s9 n Mm l x1 m1 r1 h1
  .cases hp
 |n+1,.sm,l,x,m,r,hp=>by
  simp only[eM]at hp;split at hp
  .rename_i x1 m1 r1 h1;simp only[af,aC]at hp;obtain⟨_,_,rfl⟩:=hp;exact s9 n LR l x1 m1 r1 h1
  .cases hp
 |n+1,.int k,l,x,m,r,hp=>by
  simp only[eM]at hp;split at hp
  .rename_i c q;split at hp
   .rename_i x1 m1 h1;simp only[af,aC]at hp;obtain⟨_,_,rfl⟩:=hp;exact⟨[c],rfl,by simp[kF,Hn rfl h1]⟩
   .cases hp
  .cases hp
 |n+1,.bool,l,x,m,r,hp=>by
  simp only[eM]at hp;split at hp
  .rename_i c q;split at hp
   .rename_i x1 m1 h1;simp only[af,aC]at hp;obtain⟨_,_,rfl⟩:=hp;exact⟨[c],rfl,by simp[kF,Hn rfl h1]⟩
   .cases hp
  .cases hp
 |n+1,.str,l,x,m,r,hp=>by
  simp only[eM]at hp;split at hp
  .rename_i c q;split at hp
   .rename_i x1 m1 h1;simp only[af,aC]at hp;obtain⟨_,_,rfl⟩:=hp;exact⟨[c],rfl,by simp[kF,Hn rfl h1]⟩
   .cases hp
  .cases hp
 |n+1,.sl t,l,x,m,r,hp=>by
  simp only[eM]at hp;split at hp
  .rename_i c q;split at hp
   .rename_i x1 m1 h1;simp only[af,aC]at hp;obtain⟨_,_,rfl⟩:=hp;exact⟨[c],rfl,by simp[kF,Hn rfl h1]⟩
   .cases hp
  .cases hp
theorem JV {T:Ty} {v:TV} {x:T.den} {m:Nat} {y:AV} (s:Bs h T v=Z (x,m)) (d:b_ h v=Z y):gi y.cs=M:=by
 cases v with
 |agg l=>
  simp only[Bs]at s;split at s
  .cases s
  .split at s
   .rename_i x1 m1 h1;obtain⟨a,e,D⟩:=s9 40 T l x1 m1 [] h1;rw[ol]at e;subst e;simp only[b_]at d;split at d
    .rename_i F hl;simp only[af]at d;subst d;exact rR hl D
    .cases d
   .cases s
 |f S v=>exact gA (v:=.f S v) s d
 |fel T xs j hj off=>exact gA (v:=.fel T xs j hj off) s d
 |pel id sz j off=>exact gA (v:=.pel id sz j off) s d
 |ptr id off=>exact gA (v:=.ptr id off) s d
 |csl id off z=>exact gA (v:=.csl id off z) s d
 |row id=>exact gA (v:=.row id) s d
 |emp=>exact gA (v:=.emp) s d
 |nil=>exact gA (v:=.nil) s d
 |mp id=>exact gA (v:=.mp id) s d
 |rtl id A=>exact gA (v:=.rtl id A) s d
 |tup q=>exact gA (v:=.tup q) s d
 |clo g q=>exact gA (v:=.clo g q) s d
 |undef=>exact gA (v:=.undef) s d
 |np=>exact gA (v:=.np) s d
 |anyb=>exact gA (v:=.anyb) s d
 |ful S q=>exact gA (v:=.ful S q) s d
theorem qQ {u:TV} {y:AV} (d:b_ h u=Z y):∀(n:Nat) (T:Ty) (v:T.den) (off sz:Nat) (z:T.den) (m:Nat),gK h u n T v off sz=Z (z,m)->gi y.cs=M
 |0,_,_,_,_,_,_,hg=>by simp[gK]at hg
 |n+1,.st t,v,off,sz,z,m,hg=>by
  simp only[gK]at hg;split at hg
  .rename_i q hq;split at hq
   .exact JV hq d
   .cases hq
  .exact qQ d n t v off sz z m hg
 |n+1,.pr a b,v,off,sz,z,m,hg=>by
  simp only[gK]at hg;split at hg
  .split at hg
   .rename_i s m1 h1;exact qQ d n a v.1 off sz s m1 h1
   .cases hg
  .split at hg
   .rename_i s m1 h1;exact qQ d n b v.2 _ sz s m1 h1
   .cases hg
 |n+1,.un,v,off,sz,z,m,hg=>by simp[gK]at hg
 |n+1,.ex,v,off,sz,z,m,hg=>by
  simp only[gK]at hg;split at hg
  .rename_i q hq;split at hq
   .exact JV hq d
   .cases hq
  .split at hg
   .rename_i s m1 h1;exact qQ d n Mm _ off sz s m1 h1
   .cases hg
 |n+1,.sm,v,off,sz,z,m,hg=>by
  simp only[gK]at hg;split at hg
  .rename_i q hq;split at hq
   .exact JV hq d
   .cases hq
  .split at hg
   .rename_i s m1 h1;exact qQ d n LR _ off sz s m1 h1
   .cases hg
 |n+1,.int k,v,off,sz,z,m,hg=>by
  simp only[gK]at hg;split at hg
  .exact gA hg d
  .cases hg
 |n+1,.bool,v,off,sz,z,m,hg=>by
  simp only[gK]at hg;split at hg
  .exact gA hg d
  .cases hg
 |n+1,.str,v,off,sz,z,m,hg=>by
  simp only[gK]at hg;split at hg
  .exact gA hg d
  .cases hg
 |n+1,.sl t,v,off,sz,z,m,hg=>by
  simp only[gK]at hg;split at hg
  .exact gA hg d
  .cases hg
theorem JZ (l:Y FV):wY (l.map .f)=Z l:=by
 induction l with
 |nil=>rfl
 |cons x r d=>simp only[fb,wY,d]
theorem yk (l:Y FV):oE (l.map .f)= .fz l:=by unfold oE;rw[JZ]
theorem FM:∀{a b:Y TV},kF a=M->kF b=M->kF (a++b)=M
 |[],_,_,hb=>hb
 |x::r,b,d,hb=>by
  simp only[kF,ak]at d;simp only[gZ,kF,ak];exact⟨d.1,FM d.2 hb⟩
theorem Ep {d:Y TV} (q:kF d=M):∀n,kF (aA n d).flatten=M
 |0=>rfl
 |n+1=>by rw[pU,List.flatten_cons];exact FM q (Ep q n)
theorem acr {H:nX} (q:H.get=bB h) {id ty:Nat} {l:Y TV} {d:Y AV} (hb:h.get id=Z (.cells (Z ty) l)) (hl:cD h l=Z d) {n sz:Nat} (hn:l.length=n*sz):AV.row? H sz (.row (nm id) sz n)=Z (d,n,[nm id]):=by
 have hg:H.get (nm id)=Z ⟨ty,.mx d⟩:=by rw[q,bK,hb];simp only[aD,jB,hl]
 have hln:=gz hl;simp only[AV.row?,cQ,bE,hg,BC.isCells,kO,BC.len,BC.toMx];rw[aT (bt (by omega)),eU (by omega)]
variable (hinv:mh h nx) (hi:s6 e h)
include hinv hi
theorem ahq {con:FuncId->J cr} {b9:TypeId->J Ty} {ty:TypeId} {sz len:Nat} {z:ξ} {parts:Y (Nat×Nat×Operand)} (hcm:CW (b9 ty)=U) (hc:dq P o.op=Z (.bsl ty sz len z parts)) (hk:dS con b9 (.op (.bsl ty sz len z parts)) e h nx K=Z r):kL P o aa e h nx K r:=by
 obtain⟨H,I⟩:=jO h;simp only[dS,hcm]at hk;split at hk
 .rename_i T zc hT F;split at hk
  .rename_i hs;have hs:=au hs;subst hs;split at hk
   .rename_i cs hf;split at hk
    .rename_i xs m hp;obtain⟨cs',h1,h2,_⟩:=Ck hi parts _ cs _ hf (LV h F len);have hm:=Nk len cs xs m hp;refine ⟨_,_,_,_,_,hk,iB.new hinv hc I (y0:=if len=0 then .emp else .row (nm nx) T.size len) (rdl:=[]) (b0:=⟨ty,oE cs'⟩) (by simp only[ef,h1]) hm (λ_ _ he=>by cases he) (λH1 L d g b' s=>?_) (λH1 L y d g A=>?_) (by simp)⟩
     .simp only[jB]at s;split at s
      .cases s
      rw[af]at s;subst s;obtain⟨q1,q2⟩:=nK cs';refine ip.cells q2 rfl ?_ λx D=>?_
      .rw[q1];exact (BR d len cs xs m cs' hp h2 g).1
      .simp only[BC.toMx]at D;obtain⟨q,hq,rfl⟩:=c7.1 D;exact rj T _ q hq
     .simp only[b_,bR,PT.get_set,bE,aD,mM,fd,af]at A;rw[(BR d len cs xs m cs' hp h2 g).2]at A;split at A
      .rename_i hq;simp only[ak,cR]at hq;subst A;rw[aT hq.2];exact lw.refl d _
      .rename_i hq;subst A;rw[aL (λh0=>hq (by subst h0;rfl))];exact lw.refl d _
    .cases hk
   .cases hk
  .cases hk
 .cases hk
theorem ahr {con:FuncId->J cr} {b9:TypeId->J Ty} {ty:TypeId} {sz bytes:Nat} {s x:Operand} (hcm:CW (b9 ty)=U) (hc:dq P o.op=Z (.app ty sz bytes s x)) (hk:dS con b9 (.op (.app ty sz bytes s x)) e h nx K=Z r):kL P o aa e h nx K r:=by
 obtain⟨H,hH⟩:=jO h;have hfr:=hinv.fresh;simp only[dS,hcm]at hk;split at hk
 .rename_i T b y hT hv hv2;split at hk
  .rename_i hs;have hs:=au hs;subst hs;split at hk
   .rename_i z m hys;obtain⟨yb,h1,h2⟩:=bI hi hv;obtain⟨yy,h3,h4⟩:=bI hi hv2;obtain⟨rdl,h5,h6⟩:=U8 hH hys h4;have onEmp:∀(rd':Nat),(∀n∈rdl,aO rd' (ow n)=M)->Ih yb=M->Le yb .emp->bc (ah z) bytes=M->iB P o aa e h nx (.row nx) rd' (ku nx) (h.set nx (Z (.rows ty M T z))) (nx+1):=by
     intro rd' hrd' he hle hroom;have hr1:b8 h (h.set nx (Z (.rows ty M T z))):=b8.set λr hr=>by rw[bR,hfr]at hr;cases hr
     have hyb:∀id sz' n,yb≠ .row id sz' n:=by rintro id sz' n rfl;cases he
     have A:ef (.app ty T.size bytes s x) (IU e h) H (nm nx)=if ah z==0 then Z ⟨yb,rdl,[],[],[]⟩ else Z ⟨.row (nm nx) T.size (ah z),rdl,[nm nx],[(nm nx,⟨ty,oE ((z.flatMap (bP T)).map .f)⟩)],[nm nx]⟩:=by
      simp only[ef,h1,h3,h5];cases yb with
      |row id sz' n=>exact dP rfl (hyb id sz' n)
      |ful l n=>cases he
      |_=>simp only[he,hroom,gR,bE]
     by_cases hl:ah z=0
     .rw[hl]at A;simp only[cQ,bE]at A;have hnil:z=[]:=ji.1 hl;subst hnil;refine iB.mk' hc hH A [] (by simp) (λn _=>?_) (by simp) (λH1 H2 d _ _ _=>⟨by simp,λy D=>?_⟩) hrd' (by simp) (by simp) hr1 (hinv.set hr1 (by omega) (by omega) λ_ _ he=>by cases he) (by omega)
      .by_cases hn:n=nm nx
       .subst hn;rw[bK,bK,PT.get_set,aT rfl,hfr];rfl
       .refine kr hinv hr1 λi e=>?_
        subst e;rw[PT.get_set,aL (λe=>hn (by rw[e]))]
      .simp only[b_,bR,PT.get_set,bE,aD,mM,fd,jX,cQ,gR,af]at D;subst D;exact hle.toH d
     .rw[aL (by simpa using hl)]at A;rw[yk]at A;have key:=iB.new (m:=0) (rd:=rd') hinv hc hH A (B:=.rows ty M T z) (v:=.row nx) (dK.zero h) (λ_ _ he=>by cases he) (λH1 H2 d g b' F=>by
       simp only[jB]at F;rw[aL (by simpa using hl)]at F;simp only[af]at F;subst F;exact ip.refl d _) (λH1 H2 y d g D=>by
       simp only[b_,bR,PT.get_set,bE,aD,mM,fd]at D;rw[aL (by simpa using hl)]at D;simp only[af]at D;subst D;exact lw.refl d _) hrd'
      rw[xK]at key;exact key
    split at hk
    .rename_i id;split at hk
     .rename_i ty' p S xs0 hb;split at hk
      .rename_i xs hxs;obtain⟨ee,rfl⟩:=gO hxs;cases ee;split at hk
       .rename_i hcond;simp only[ak,cR,d_]at hcond;obtain⟨rfl,hmid⟩:=hcond;obtain⟨hroom,hk⟩:=dM hk;simp only[b_,eh,hb,af]at h2;have hidlt:=hinv.low id _ hb;have hne:nx≠id:=by omega
        have hrd:∀n∈rdl,aO (ku id|||m) (ow n)=M:=λn hn=>by
         obtain⟨i,rfl,hm⟩:=h6 n hn;rw[dQ,bw,hm];simp
        generalize hh':(h.set id (Z (.dead p T.size (ah xs0)))).set nx (Z (.rows ty' p T (xs0++z)))=h' at hk;have hrA:b8 h (h.set id (Z (.dead p T.size (ah xs0)))):=b8.set λr hr=>by rw[bR,hb]at hr;exact hr
        have hg2:∀i,h'.get i=if i=nx then Z (.rows ty' p T (xs0++z)) else if i=id then Z (.dead p T.size (ah xs0)) else h.get i:=λi=>by rw[<- hh',PT.get_set,PT.get_set]
        have hr:b8 h h':=by
         rw[<- hh'];refine hrA.trans (b8.set λr hr=>?_);rw[bR,PT.get_set,aL hne,hfr]at hr;cases hr
        have hinv':mh h' (nx+1):=by
         refine ⟨λi ty l hil=>?_,λi c hic=>?_⟩
         .rw[hg2]at hil;split at hil
          .cases hil
          .split at hil
           .cases hil
           .exact iR hr l (hinv.cells i _ l hil)
         .rw[hg2]at hic;split at hic
          .omega
          .split at hic
           .omega
           .have:=hinv.low i c hic;omega
        have hsame:∀n,n≠nm nx->n≠nm id->bB h' n=bB h n:=λn h1 h2=>kr hinv hr λi e=>by
         subst e;rw[hg2,aL (λe=>h1 (by rw[e])),aL (λe=>h2 (by rw[e]))]
        have hdead:bB h' (nm id)=U:=by rw[bK,hg2,aL (by omega),aT rfl];rfl
        have hnew:bB h' (nm nx)=if p&&(xs0++z).length==0 then U else Z ⟨ty',.fz ((xs0++z).flatMap (bP T))⟩:=by rw[bK,hg2,aT rfl];rfl
        have hval:b_ h' (.row nx)=Z (fd p nx T.size (xs0++z).length):=by simp only[b_,bR,hg2,bE,aD,mM]
        have hwm:∀n,n=nm nx\/n=nm id->aO (ku id|||ku nx) (ow n)=M:=λn hn=>by
         rcases hn with rfl|rfl<;>rw[dQ,bw,bW.2 rfl]<;>simp
        refine ⟨_,_,_,_,_,hk,?_⟩;by_cases hp:(p&&xs0.length==0)=M
        ·
         have hyb:yb= .emp:=by rw[<- h2];unfold fd;rw[aT hp]
         subst hyb;simp only[ak,cR]at hp;obtain⟨rfl,hl0⟩:=hp;have hnil:xs0=[]:=ji.1 hl0;subst hnil;have hroom':bc (ah z) bytes=M:=by simpa using hroom
         have A:ef (.app ty' T.size bytes s x) (IU e h) H (nm nx)=if ah z==0 then Z ⟨.emp,rdl,[],[],[]⟩ else Z ⟨.row (nm nx) T.size (ah z),rdl,[nm nx],[(nm nx,⟨ty',oE ((z.flatMap (bP T)).map .f)⟩)],[nm nx]⟩:=by
          simp only[ef,h1,h3,h5,Ih,hroom',gR,bE]
         have hdead0:bB h (nm id)=U:=by rw[bK,hb];rfl
         by_cases hl:ah z=0
         .rw[hl]at A;simp only[cQ,bE]at A;have hnil:z=[]:=ji.1 hl;subst hnil;refine iB.mk' hc hH A [] (by simp) (λn _=>?_) (by simp) (λH1 H2 d _ _ _=>⟨by simp,λy D=>?_⟩) hrd (by simp) (by simp) hr hinv' (by omega)
          .by_cases hn:n=nm nx
           .subst hn;rw[hnew,bK,hfr];rfl
           .by_cases hn2:n=nm id
            .subst hn2;rw[hdead,hdead0]
            .exact hsame n hn hn2
          .rw[hval]at D;simp only[fd,ol,jX,cQ,gR,bE,af]at D;subst D;exact lw.refl d _
         .rw[aL (by simpa using hl),yk]at A;refine iB.mk' hc hH A [nm nx] (λi hi=>hi) (λn hn=>?_) (λi hi b' _=>⟨_,by rw[aT hi];simp only[aJ]at hi;subst hi;exact ic _ _⟩) (λH1 H2 d hw1 _ hw2=>⟨λi hi b b' L I=>?_,λy D=>?_⟩) hrd (λn hn=>hwm n (.inl (by simpa using hn))) (λn hn=>by simp only[aJ]at hn;subst hn;rw[dQ];omega) hr hinv' (by omega)
          .have hn1:n≠nm nx:=by simpa using hn
           by_cases hn2:n=nm id
           .subst hn2;rw[hdead,hdead0]
           .exact hsame n hn1 hn2
          .simp only[aJ]at hi;subst hi;rw[hw1 _ (by simp),ic]at L;rw[hw2 _ (by simp),hnew,aL (by simpa using hl)]at I;simp only[af,oh]at L I;subst L;subst I;exact ip.refl d _
          .rw[hval]at D;simp only[fd,oh]at D;rw[aL (by simpa using hl)]at D;simp only[af]at D;subst D;exact lw.refl d _
        .have hyb:yb= .row (nm id) T.size xs0.length:=by rw[<- h2];unfold fd;rw[aL hp]
         subst hyb;have hg:H.get (nm id)=Z ⟨ty',.fz (xs0.flatMap (bP T))⟩:=by rw[hH,bK,hb];simp only[aD,jB,aL hp]
         have fl:=eH (bA T) xs0;have tk:(xs0.flatMap (bP T)).take (xs0.length*T.size)=xs0.flatMap (bP T):=by rw[<- fl,bS]
         have hmem:Wt (nm id) rdl=aa:=by
          cases hx:Wt (nm id) rdl with
          |false=>rfl
          |true=>
           obtain⟨i,e,hm⟩:=h6 _ (afg.1 hx);rw[<- kV e,hmid]at hm;cases hm
         have A:ef (.app ty' T.size bytes s x) (IU e h) H (nm nx)=Z ⟨.row (nm nx) T.size (xs0.length+z.length),nm id::rdl,[nm nx,nm id],[(nm nx,⟨ty',.fz ((xs0++z).flatMap (bP T))⟩)],[nm nx]⟩:=by
          have hcnd:(T.size==T.size&& !(Wt (nm id) rdl)&&(BC.fz (xs0.flatMap (bP T))).isCells&&dN (xs0.length*T.size) (BC.fz (xs0.flatMap (bP T))).len&&ty'==ty'&&bc (xs0.length+z.length) bytes)=M:=by
           have:dN (xs0.length*T.size) (BC.fz (xs0.flatMap (bP T))).len=M:=bt (by simp only[BC.len];omega);rw[this,hmem,hroom];simp[BC.isCells]
          simp only[ef,h1,h3,h5,hg,hcnd,bE,BC.toMx,<-pD,tk,<-da,yk,FU]
         have hne2:¬((p&&(xs0++z).length==0)=M):=by
          simp only[ak,cR,b6]at hp ⊢;intro hh;exact hp ⟨hh.1,by omega⟩
         refine iB.mk' hc hH A [nm nx,nm id] (λi hi=>hi) (λn hn=>?_) (λi hi b' F=>?_) (λH1 H2 d hw1 _ hw2=>⟨λi hi b b' L I=>?_,λy D=>?_⟩) (λn hn=>?_) (λn hn=>hwm n (by simpa using hn)) (λn hn=>by simp only[aJ]at hn;subst hn;rw[dQ];omega) hr hinv' (by omega)
         .simp only[bu,cE,gH,not_or]at hn;exact hsame n hn.1 hn.2
         .simp only[bu,cE,gH]at hi;rcases hi with rfl|rfl
          .exact⟨_,by rw[aT (by simp)];exact ic _ _⟩
          .rw[hdead]at F;cases F
         .simp only[bu,cE,gH]at hi;rcases hi with rfl|rfl
          .rw[hw1 _ (by simp),ic]at L;rw[hw2 _ (by simp),hnew,aL hne2]at I;simp only[af]at L I;subst L;subst I;exact ip.refl d _
          .rw[hw2 _ (by simp),hdead]at I;cases I
         .rw[hval]at D;simp only[fd]at D;rw[aL hne2]at D;simp only[b6,af]at D;subst D;exact lw.refl d _
         .rcases bu.1 hn with rfl|hn
          .rw[dQ,bw,bW.2 rfl];rfl
          .exact hrd n hn
       .cases hk
      .cases hk
     .cases hk
    .rename_i S xs1;split at hk
     .rename_i hm0;have hm0:=au hm0;subst hm0;split at hk
      .rename_i xs hxs;obtain⟨ee,rfl⟩:=gO hxs;cases ee;obtain⟨hroom,hk⟩:=dM hk;simp only[b_,af]at h2;subst h2;have hr0:rdl=[]:=by
        cases rdl with
        |nil=>rfl
        |cons a q=>obtain⟨i,_,hz⟩:=h6 a (by simp);simp at hz
       subst hr0;have fl:=eH (bA T) xs1;have tk:(xs1.flatMap (bP T)).take (xs1.length*T.size)=xs1.flatMap (bP T):=by rw[<- fl,bS]
       have hcnd:(dN (xs1.length*T.size) (xs1.flatMap (bP T)).length&&bc (xs1.length+z.length) bytes)=M:=by
        have hroom:bc (xs1.length+z.length) bytes=M:=hroom;rw[hroom,Bool.and_true];exact bt (by omega)
       rcases lX hk with ⟨hl,hk⟩|⟨hl,hk⟩
       .have hl:=au hl;have hl':(ah z==0)=M:=by rw[hl];rfl
        exact⟨_,0,0,h,nx,hk,iB.pure (y0:=.f (.sl (xs1.flatMap (bP T)) xs1.length)) (k:=nm nx) hinv hc hH (by simp only[ef,h1,h3,h5,hcnd,bE,hl'];rfl) (di rfl) (by simp) λ_=>rfl⟩
       .have hl':¬(ah z==0)=M:=λe=>by
         have e:ah z=0:=by simpa using e
         rw[e]at hl;cases hl
        exact⟨_,_,_,_,_,hk,iB.new hinv hc hH (y0:=.row (nm nx) T.size (xs1.length+z.length)) (rdl:=[]) (b0:=⟨ty,.fz ((xs1++z).flatMap (bP T))⟩) (by
         simp only[ef,h1,h3,h5,hcnd,bE];rw[aL hl',tk,<-da,yk,<-FU]) (B:=.rows ty aa T (xs1++z)) (v:=.row nx) (dK.zero h) (λ_ _ he=>by cases he) (λH1 H2 d g b' F=>by
         simp only[jB,jT,bF,du,af]at F;subst F;exact ip.refl d _) (λH1 H2 y d g D=>by
         simp only[b_,bR,PT.get_set,bE,aD,mM,fd,jT,bF,du,b6,af]at D;subst D;exact lw.refl d _) (by simp)⟩
      .cases hk
     .cases hk
    .obtain⟨hroom,hk⟩:=dM hk;simp only[b_,af]at h2;subst h2;exact⟨_,_,_,_,_,hk,onEmp m (λn hn=>by obtain⟨i,rfl,hm⟩:=h6 n hn;rw[dQ];exact hm) rfl (Le.refl _) hroom⟩
    .obtain⟨hroom,hk⟩:=dM hk;simp only[b_,af]at h2;subst h2;exact⟨_,_,_,_,_,hk,onEmp m (λn hn=>by obtain⟨i,rfl,hm⟩:=h6 n hn;rw[dQ];exact hm) rfl Le.nilEmp hroom⟩
    .cases hk
   .cases hk
  .cases hk
 .cases hk
theorem ZL {T:Ty} (xs d:Y T.den):(Sk xs d).flatMap (bP T)=AI.splice (xs.flatMap (bP T)) 0 ((d.flatMap (bP T)).take (iO d.length xs.length*T.size)):=by
 have _:=hinv;have _:=hi;have fl:=λq:Y T.den=>eH (bA T) q
 have tk:∀(q:Y T.den) n,(q.flatMap (bP T)).take (n*T.size)=(q.take n).flatMap (bP T):=by
  intro q;induction q with
  |nil=>intro n;simp
  |cons z r s=>
   intro n;cases n with
   |zero=>simp
   |succ n=>rw[fy,vb,fy,iN,List.take_append,bA,eU (by rw[bA];omega),show n*T.size+T.size-T.size=n*T.size from by omega,s n]
 have A:∀(q:Y T.den) n,(q.flatMap (bP T)).drop (n*T.size)=(q.drop n).flatMap (bP T):=by
  intro q;induction q with
  |nil=>intro n;simp
  |cons z r s=>
   intro n;cases n with
   |zero=>simp
   |succ n=>rw[fy,vh,iN,ut,bA,rB (by rw[bA];omega),show n*T.size+T.size-T.size=n*T.size from by omega,s n,oh]
 unfold Sk AI.splice;rw[tk,FU,fl,b7];have e1:d.take (iO d.length xs.length)=d.take xs.length:=by
  rcases Nat.le_total d.length xs.length with h|h
  .rw[show iO d.length xs.length=d.length from Ey h,bS,eU h]
  .rw[show iO d.length xs.length=xs.length from Nat.min_eq_right h]
 rw[e1];have e2:min (iO d.length xs.length) d.length=iO d.length xs.length:=Ey (Nat.min_le_left _ _);rw[e2];simp only[List.take_zero,oh,bL];rw[A];congr 1;rcases Nat.le_total d.length xs.length with h|h
 .rw[show iO d.length xs.length=d.length from Ey h]
 .rw[show iO d.length xs.length=xs.length from Nat.min_eq_right h,List.drop_length,rB h]
theorem aho {con:FuncId->J cr} {b9:TypeId->J Ty} {sz:Nat} {d x:Operand} (hc:dq P o.op=Z (.copy sz d x)) (hk:dS con b9 (.op (.copy sz d x)) e h nx K=Z r):kL P o aa e h nx K r:=by
 obtain⟨H,I⟩:=jO h;simp only[dS]at hk;split at hk
 .rename_i id y hv D;split at hk
  .rename_i ty p T xs hb;split at hk
   .rename_i hs;have hs:=au hs;subst hs;split at hk
    .rename_i q m hys;split at hk
     .rename_i hcond;simp only[ak,d_]at hcond;obtain⟨hmid,rfl⟩:=hcond;obtain⟨yb,h1,h2⟩:=bI hi hv;obtain⟨yy,h3,h4⟩:=bI hi D;obtain⟨rdl,h5,h6⟩:=U8 I hys h4;simp only[b_,eh,hb,fd,jT,bF,du,af]at h2;subst h2;have fl:=eH (bA T) xs;have fl2:=eH (bA T) q;have hg:H.get (nm id)=Z ⟨ty,.fz (xs.flatMap (bP T))⟩:=by rw[I,bK,hb];simp[jB]
      have hmem:Wt (nm id) rdl=aa:=by
       cases s:Wt (nm id) rdl with
       |false=>rfl
       |true=>
        obtain⟨i,e,hm⟩:=h6 _ (afg.1 s);rw[<- kV e,hmid]at hm;cases hm
      have hle:iO q.length xs.length*T.size<=xs.length*T.size:=cz _ (Nat.min_le_right _ _);have F:ef (.copy T.size d x) (IU e h) H (nm nx)=Z ⟨raw (.int .i64 (iO q.length xs.length)),nm id::rdl,[nm id],[(nm id,⟨ty,.fz ((Sk xs q).flatMap (bP T))⟩)],[]⟩:=by
       have hcnd:(T.size==T.size&& !(Wt (nm id) rdl)&&dN (xs.length*T.size) (BC.fz (xs.flatMap (bP T))).len)=M:=by
        have:dN (xs.length*T.size) (BC.fz (xs.flatMap (bP T))).len=M:=bt (by simp only[BC.len];omega);rw[this,hmem];simp
       have hput:(BC.fz (xs.flatMap (bP T))).put 0 (((q.flatMap (bP T)).map .f).take (iO q.length xs.length*T.size))=Z (.fz ((Sk xs q).flatMap (bP T))):=by
        rw[<- pD];unfold BC.put;rw[aT]
        .simp only[JZ];rw[ZL hinv hi]
        .simp only[ak];refine ⟨⟨rfl,bt ?_⟩,?_⟩
         .simp only[BC.len,ca,b7];omega
         .have:∀l:Y FV,(∀x∈l,x.isCell=M)->gi (l.map .f)=M:=by
           intro l hl;induction l with
           |nil=>rfl
           |cons z r ih=>simp only[fb,gi,ak];exact⟨hl z (by simp),ih λx s=>hl x (by simp[s])⟩
          exact this _ λx s=>rj T q x (eV s)
       simp only[ef,h1,h3,hg,h5,hcnd,bE,hput]
      have hrow:mM (.rows ty aa T (Sk xs q))=mM (.rows ty aa T xs):=by
       have:(Sk xs q).length=xs.length:=by unfold Sk;rw[b6,b7,kI];omega
       simp only[mM,this]
      have key:=iB.wrt (m:=0) (v:=.f (.int .i64) (aU (iO (ah q) (ah xs)))) (rd:=ku id|||m) hinv hc I F (B:=.rows ty aa T (Sk xs q)) hb (dK.zero h) (by simp) hrow (λ_ _ he=>by cases he) (λH1 H2 d g b' A=>by
       simp only[jB,jT,bF,du,af]at A;subst A;exact ip.refl d _) (λH1 H2 y d g L=>by
       simp only[b_,af]at L;subst L;exact lw.refl d _) (λn hn=>by
       rcases bu.1 hn with rfl|hn
       .rw[dQ,bw,bW.2 rfl];rfl
       .obtain⟨i,rfl,hm⟩:=h6 n hn;rw[dQ,bw,hm];simp)
      rw[xK]at key;exact⟨_,_,_,_,_,hk,key⟩
     .cases hk
    .cases hk
   .cases hk
  .cases hk
 .cases hk
theorem adv {con:FuncId->J cr} {b9:TypeId->J Ty} {sz:Nat} {x v:Operand} (hc:dq P o.op=Z (.store sz x v)) (hk:dS con b9 (.op (.store sz x v)) e h nx K=Z r):kL P o aa e h nx K r:=by
 obtain⟨H,hH⟩:=jO h;simp only[dS]at hk;split at hk
 .rename_i id off y hv hv2;obtain⟨yb,h1,h2⟩:=bI hi hv;obtain⟨A,h3,h4⟩:=bI hi hv2;simp only[b_,af]at h2;subst h2;split at hk
  .rename_i ty l hb;split at hk
   .rename_i cs hcs;split at hk
    .rename_i hcond;simp only[ak,cR]at hcond;obtain⟨h5,h6⟩:=Jz hcs h4;obtain⟨D,hl⟩:=eY h l (hinv.cells id _ l hb);have hg:H.get (nm id)=Z ⟨ty,.mx D⟩:=by rw[hH,bK,hb];simp only[aD,jB,hl]
     have hcell:=rR h5 h6;have hlen:A.cs.length=sz:=by rw[gz h5];exact hcond.1
     have hput:(BC.mx D).put off A.cs=Z (.mx (splice D off A.cs)):=by
      unfold BC.put;rw[aT]
      .rfl
      .simp only[ak];exact⟨⟨rfl,by simp only[BC.len];rw[hlen,gz hl];exact hcond.2⟩,hcell⟩
     have L:ef (.store sz x v) (IU e h) H (nm nx)=Z ⟨raw undef,[nm id],[nm id],[(nm id,⟨ty,.mx (splice D off A.cs)⟩)],[]⟩:=by
      simp only[ef,h1,h3,JU,hg,hlen,cQ,bE,hput]
     have hspl:∀h',b8 h h'->cD h' (splice l off cs)=Z (splice D off A.cs):=λh' hr=>pL off (fY hr l D hl) (fY hr cs _ h5)
     have F:b8 h (h.set id (Z (.cells (Z ty) (splice l off cs)))):=b8.set λr hr=>by rw[bR,hb]at hr;cases hr
     have key:=iB.wrt (m:=0) (v:=.undef) (rd:=ku id) hinv hc hH L (B:=.cells (Z ty) (splice l off cs)) hb (dK.zero h) (by simp) rfl (λty' l2 he=>by cases he;exact jV _ _ _ (hspl _ F)) (λH1 H2 d g b' s=>by
      have:=hspl _ F;simp only[d9,rA,bE,jB,this,af]at s;subst s;exact ip.refl d _) (λH1 H2 y d g hy=>by
      simp only[b_,af]at hy;subst hy;exact lw.refl d _) (λn hn=>by simp only[aJ]at hn;subst hn;rw[dQ];exact bW.2 rfl)
     rw[xK]at key;exact⟨_,_,_,_,_,hk,key⟩
    .cases hk
   .cases hk
  .cases hk
 .rename_i id sz' j off y hv hv2;obtain⟨yb,h1,h2⟩:=bI hi hv;obtain⟨A,h3,h4⟩:=bI hi hv2;simp only[b_,af]at h2;subst h2;split at hk
  .rename_i ty p T xs hb;split at hk
   .rename_i hsz;have hsz:=au hsz;subst hsz;obtain⟨hj,hk⟩:=dM hk;split at hk
    .rename_i z m hset;split at hk
     .cases hk
     .rename_i hmid;have hmid:aO m id=aa:=by simpa using hmid
      have hm:=zi 40 T _ off sz z m hset;obtain⟨j0,j1,j2⟩:=DG hj;have hne:¬((p&&xs.length==0)=M):=by simp only[ak,cR];omega
      have hne2:¬((p&&(cj xs j z).length==0)=M):=by unfold cj;rw[EA];exact hne
      have hg:H.get (nm id)=Z ⟨ty,.fz (xs.flatMap (bP T))⟩:=by rw[hH,bK,hb];simp only[aD,jB,aL hne]
      have fl:=eH (bA T) xs;have hx:xs[j.toNat]? =Z (aG xs j):=by
       unfold aG;rw[ay,ax j2];rfl
      have hle:(j.toNat+1)*T.size<=xs.length*T.size:=cz _ j2;rw[iN]at hle;have hso:∀H1 H2,ul H1 H2->Dh h H1 H2 m->V5 H1 H2 A T (aG xs j) z off sz:=λH1 H2 d g=>vk d h4 40 T _ off sz z m hset g
      have hshape:A.cs.length=sz/\off+sz<=T.size/\gi A.cs=M:=by
       have d0:ul (bB h) (bB (d9 m h)):=λi b hb=>by
        obtain⟨i',c,rfl,g1,g2⟩:=jA hb;rw[iU]at g1;by_cases ht:aO m i'=M
        .obtain⟨pp,ss,nn,g3⟩:=te hm ht;rw[iU]at g3;rw[g3]at g1;cases g1;cases g2
        .rw[aL ht]at g1;exact⟨b,by rw[bK,g1];simp only[aD];rw[<- IV (b8.kill m h) (λty l e=>hinv.cells i' _ l (by rw[g1,e]))];exact g2⟩
       obtain⟨fs,q1,q2,q3,q4,q5⟩:=hso _ _ d0 (λi hi=>⟨rfl,by
        obtain⟨pp,ss,nn,g3⟩:=te hm hi;rw[bK,g3];rfl⟩)
       refine ⟨by rw[<- q2,<-ca (f:=AV.f),q1.length],q3,?_⟩;exact qQ h4 40 T _ off sz z m hset
      obtain⟨hlen,hoff,hcell⟩:=hshape;obtain⟨c',hput,I,hc2⟩:∃c',(BC.fz (xs.flatMap (bP T))).put (j.toNat*T.size+off) A.cs=Z c'/\c'.toMx=splice ((xs.flatMap (bP T)).map .f) (j.toNat*T.size+off) A.cs/\c'.isCells=M:=by
       unfold BC.put;rw[aT]
       .split
        .rename_i l ys hl hys;simp only[BC.fz.injEq]at hl;subst hl;refine ⟨_,rfl,?_,rfl⟩;rw[pN hys];simp only[BC.toMx];unfold splice;simp[pD,List.map_drop]
        .exact⟨_,rfl,rfl,rfl⟩
       .simp only[ak];exact⟨⟨rfl,bt (by simp only[BC.len];omega)⟩,hcell⟩
      have L:ef (.store sz x v) (IU e h) H (nm nx)=Z ⟨raw undef,[nm id],[nm id],[(nm id,⟨ty,c'⟩)],[]⟩:=by
       simp only[ef,h1,h3,JU,hg,hlen,cQ,bE,hput]
      have hrow:mM (.rows ty p T (cj xs j z))=mM (.rows ty p T xs):=by
       unfold cj;simp only[mM,EA]
      refine ⟨_,_,_,_,_,hk,iB.wrt hinv hc hH L (B:=.rows ty p T (cj xs j z)) hb hm hmid hrow (λ_ _ he=>by cases he) (λH1 H2 d g b' s=>?_) (λH1 H2 y d g hy=>?_) (λn hn=>?_)⟩
      .simp only[jB,aL hne2,af]at s;subst s;obtain⟨fs,q1,q2,q3,q4,q5⟩:=hso H1 H2 d g;have hfl:(cj xs j z).flatMap (bP T)=AI.splice (xs.flatMap (bP T)) (j.toNat*T.size+off) fs:=Qt (bA T) xs j.toNat _ z hx off fs (by omega) q4;refine ip.cells hc2 rfl ?_ λx hx=>?_
       .rw[I];simp only[BC.toMx];rw[hfl];have:(AI.splice (xs.flatMap (bP T)) (j.toNat*T.size+off) fs).map AV.f=AI.splice ((xs.flatMap (bP T)).map .f) (j.toNat*T.size+off) (fs.map .f):=by unfold AI.splice;simp[pD,List.map_drop]
        rw[this];exact (gT.refl d _).splice _ q1
       .simp only[BC.toMx]at hx;obtain⟨q,hq,rfl⟩:=c7.1 hx;exact rj T _ q hq
      .simp only[b_,af]at hy;subst hy;exact lw.refl d _
      .simp only[aJ]at hn;subst hn;rw[dQ,bw,bW.2 rfl];simp
    .cases hk
   .cases hk
  .rename_i ty l hb;split at hk
   .rename_i hsz;simp only[ak]at hsz;obtain⟨s1,s2,s3⟩:=hsz;have s1:=au s1;have s2:=au s2;have s3:=au s3;subst s1;subst s2;subst s3;obtain⟨hj,hk⟩:=dM hk;obtain⟨j0,j1,j2⟩:=DG hj;split at hk
    .rename_i cs hcs;split at hk
     .rename_i I;have I:=au I;obtain⟨h5,h6⟩:=Jz hcs h4;obtain⟨D,hl⟩:=eY h l (hinv.cells id _ l hb);have hg:H.get (nm id)=Z ⟨ty,.mx D⟩:=by rw[hH,bK,hb];simp only[aD,jB,hl]
      have hcell:=rR h5 h6;have hlen:A.cs.length=1:=by rw[gz h5];exact I
      have e0:j.toNat*1+0=j.toNat:=by omega
      rw[e0]at h1;have hput:(BC.mx D).put j.toNat A.cs=Z (.mx (splice D j.toNat A.cs)):=by
       unfold BC.put;rw[aT]
       .rfl
       .simp only[ak];exact⟨⟨rfl,bt (by simp only[BC.len];rw[hlen,gz hl];omega)⟩,hcell⟩
      have L:ef (.store 1 x v) (IU e h) H (nm nx)=Z ⟨raw undef,[nm id],[nm id],[(nm id,⟨ty,.mx (splice D j.toNat A.cs)⟩)],[]⟩:=by
       simp only[ef,h1,h3,JU,hg,hlen,cQ,bE,hput]
      have hspl:∀h',b8 h h'->cD h' (splice l j.toNat cs)=Z (splice D j.toNat A.cs):=λh' hr=>pL j.toNat (fY hr l D hl) (fY hr cs _ h5)
      have F:b8 h (h.set id (Z (.cells (Z ty) (splice l j.toNat cs)))):=b8.set λr hr=>by rw[bR,hb]at hr;cases hr
      have key:=iB.wrt (m:=0) (v:=.undef) (rd:=ku id) hinv hc hH L (B:=.cells (Z ty) (splice l j.toNat cs)) hb (dK.zero h) (by simp) rfl (λty' l2 he=>by cases he;exact jV _ _ _ (hspl _ F)) (λH1 H2 d g b' s=>by
       have:=hspl _ F;simp only[d9,rA,bE,jB,this,af]at s;subst s;exact ip.refl d _) (λH1 H2 y d g hy=>by
       simp only[b_,af]at hy;subst hy;exact lw.refl d _) (λn hn=>by simp only[aJ]at hn;subst hn;rw[dQ];exact bW.2 rfl)
      rw[xK]at key;exact⟨_,_,_,_,_,hk,key⟩
     .cases hk
    .cases hk
   .cases hk
  .cases hk
 .cases hk
theorem ahj {con:FuncId->J cr} {b9:TypeId->J Ty} {ty:TypeId} {sz bytes:Nat} {z:ξ} {l c:Operand} (hc:dq P o.op=Z (.mksl ty sz bytes z l c)) (hk:dS con b9 (.op (.mksl ty sz bytes z l c)) e h nx K=Z r):kL P o aa e h nx K r:=by
 cases hcm:CW (b9 ty) with
 |none=>exact adw hinv hi hcm hc hk
 |some n=>
  obtain⟨H,L⟩:=jO h;simp only[dS,hcm]at hk;split at hk
  .rename_i zc k a k' b s hv A;obtain⟨hck,hk⟩:=dM hk;rw[ak]at hck;obtain⟨hcond,hn⟩:=hck;have hn:=bg hn;obtain⟨y,h1,h2⟩:=bI hi hv;obtain⟨y2,h3,F⟩:=bI hi A;simp only[b_,af]at h2 F;subst h2;subst F;have han:aP a=n:=by rw[hn];rfl
   obtain⟨_,_,hzc⟩:=uM h s;refine ⟨_,_,_,_,_,hk,iB.new hinv hc L (y0:=.row (nm nx) sz n) (rdl:=[]) (b0:=⟨ty,.fz (repl z n)⟩) (by simp only[ef,h1,h3,gh,hcond,bE,han]) (dK.zero h) (λty' l' he=>?_) (λH1 H2 d g b' q=>?_) (λH1 H2 y d g D=>?_) (by simp)⟩
   .cases he;exact jV _ _ _ (LV _ s n)
   .simp only[jB,LV _ s n,af]at q;subst q;refine ip.cells rfl rfl (gT.refl d _) λx I=>?_
    exact lY (rR (LV h s n) (Ep hzc n)) x I
   .simp only[b_,af]at D;subst D;exact lw.refl d _
  .cases hk
theorem akq {con:FuncId->J cr} {b9:TypeId->J Ty} {ty:TypeId} {sz len:Nat} {z:ξ} {parts:Y (Nat×Nat×Operand)} (hc:dq P o.op=Z (.bsl ty sz len z parts)) (hk:dS con b9 (.op (.bsl ty sz len z parts)) e h nx K=Z r):kL P o aa e h nx K r:=by
 cases hcm:CW (b9 ty) with
 |none=>exact ahq hinv hi hcm hc hk
 |some n=>
  obtain⟨H,I⟩:=jO h;simp only[dS,hcm]at hk;split at hk
  .rename_i zc A;split at hk
   .rename_i cs hf;split at hk
    .cases hk
    .rename_i hl;have hl:len≠0:=λe=>hl (by rw[e];rfl)
     obtain⟨cs',h1,h2,L⟩:=Ck hi parts _ cs _ hf (LV h A len);obtain⟨_,_,hzc⟩:=uM h A;have hcs:=L (Ep hzc len);have hr:b8 h ((d9 0 h).set nx (Z (.cells (Z ty) cs))):=(b8.kill 0 h).trans (b8.set λr hr=>by rw[bR,(hinv.kill 0).fresh]at hr;cases hr);have s:=fY hr _ _ h2;refine ⟨_,_,_,_,_,hk,iB.new hinv hc I (y0:=.row (nm nx) sz len) (rdl:=[]) (b0:=⟨ty,oE cs'⟩) (by simp only[ef,h1,aL hl]) (dK.zero h) (λty' l' he=>?_) (λH1 H2 d g b' q=>?_) (λH1 H2 y d g D=>?_) (by simp)⟩
     .cases he;exact jV _ _ _ s
     .simp only[jB,s,af]at q;subst q;obtain⟨q1,q2⟩:=nK cs';refine ip.cells q2 rfl ?_ λx F=>?_
      .rw[q1];exact gT.refl d _
      .exact lY (rR h2 hcs) x F
     .simp only[b_,af]at D;subst D;exact lw.refl d _
   .cases hk
  .cases hk
theorem akt {con:FuncId->J cr} {b9:TypeId->J Ty} {ty:TypeId} {sz bytes:Nat} {s x:Operand} (hc:dq P o.op=Z (.app ty sz bytes s x)) (hk:dS con b9 (.op (.app ty sz bytes s x)) e h nx K=Z r):kL P o aa e h nx K r:=by
 cases hcm:CW (b9 ty) with
 |none=>exact ahr hinv hi hcm hc hk
 |some n0=>
  obtain⟨H,hH⟩:=jO h;have hfr:=hinv.fresh;simp only[dS,hcm]at hk;split at hk
  .rename_i b y hv hv2;obtain⟨yb,h1,h2⟩:=bI hi hv;obtain⟨yy,h3,h4⟩:=bI hi hv2;unfold aen at hk;split at hk
   .rename_i id2 sz2 m;simp only[b_,af]at h4;subst h4;split at hk
    .rename_i ty2 l2 z;split at hk
     .rename_i hq;simp only[ak,d_]at hq;obtain⟨⟨q1,q2⟩,q3⟩:=hq;have q1:=au q1;have q2:=au q2;have q3:m≠0:=λe=>by rw[e]at q3;cases q3
      subst q1;obtain⟨A,L⟩:=eY h l2 (hinv.cells id2 _ l2 z);have hrow:=acr hH z L q2;split at hk
      .rename_i id sz1 n;simp only[b_,af]at h2;subst h2;split at hk
       .rename_i ty1 l1 F;split at hk
        .rename_i hq;simp only[ak,d_]at hq;obtain⟨⟨⟨p1,p2⟩,p3⟩,p4⟩:=hq;have p1:=au p1;have p2:=eq_of_beq p2;have p3:=au p3;have p4:id≠id2:=λe=>by rw[e,rA]at p4;cases p4
         subst p1;subst p2;obtain⟨hroom,hk⟩:=dM hk;obtain⟨D,hl1⟩:=eY h l1 (hinv.cells id _ l1 F);have hln:=gz hl1;have hg:H.get (nm id)=Z ⟨ty1,.mx D⟩:=by rw[hH,bK,F];simp only[aD,jB,hl1]
         have hidlt:id<nx:=hinv.low id _ F;generalize hB:ia.cells (Z ty1) (l1++l2)=B at hk;have hd1:b8 h (h.set id (Z (.dead M 0 0))):=b8.set λr hr=>by rw[bR,F]at hr;cases hr
         have hd2:b8 (h.set id (Z (.dead M 0 0))) ((h.set id (Z (.dead M 0 0))).set nx (Z B)):=b8.set λr hr=>by
          rw[bR,PT.get_set,aL (by omega),hfr]at hr;cases hr
         have hr:=hd1.trans hd2;have hsp:cD ((h.set id (Z (.dead M 0 0))).set nx (Z B)) (l1++l2)=Z (D++A):=fY hr _ _ (ny hl1 L);have I:bB ((h.set id (Z (.dead M 0 0))).set nx (Z B)) (nm nx)=Z ⟨ty1,.mx (D++A)⟩:=by rw[bK,PT.get_set,aT rfl,<-hB]at *;simp only[aD,jB,hsp]
         have hbd:bB ((h.set id (Z (.dead M 0 0))).set nx (Z B)) (nm id)=U:=by rw[bK,PT.get_set,aL (by omega),PT.get_set,aT rfl];rfl
         have hinv1:mh (h.set id (Z (.dead M 0 0))) nx:=hinv.set hd1 hidlt (cF _) (λ_ _ he=>by cases he);have ha:ef (.app ty1 sz1 bytes s x) (IU e h) H (nm nx)=Z ⟨.row (nm nx) sz1 (n+m),[nm id,nm id2],[nm nx,nm id],[(nm nx,⟨ty1,oE (D++A)⟩)],[nm nx]⟩:=by
          simp only[ef,h1,h3,hrow,hg];rw[aT (by
           simp only[cQ,kO,Bool.and_true,BC.isCells,BC.len,hroom,ak,d_];refine ⟨?_,bt (by omega)⟩;simp only[Wt,Bool.or_false];cases hq:aw (nm id2) (nm id) with
           |false=>rfl
           |true=>exact dP (kV (au hq)).symm p4)]
          simp only[BC.toMx,eU (show D.length<=n*sz1 by omega)]
         refine ⟨_,_,_,_,_,hk,iB.mk' hc hH ha [nm nx,nm id] (λi hi=>hi) (λq hq=>?_) (λi hi b' hbb=>?_) (λH1 H2 d hw1 _ hw2=>⟨λi hi b b' hb z=>?_,λy hy=>?_⟩) (λq hq=>?_) (λq hq=>?_) (λq hq=>?_) hr (hinv1.set hd2 (by omega) (by omega) λty' l' he=>?_) (by omega)⟩
         .simp only[bu,cE,gH,not_or]at hq;refine kr hinv hr λi ei=>?_
          subst ei;rw[PT.get_set,aL (λe=>hq.1 (by rw[e])),PT.get_set,aL (λe=>hq.2 (by rw[e]))]
         .simp only[bu,cE,gH]at hi;rcases hi with rfl|rfl
          .rw[aT (by simp)];exact⟨_,ic _ _⟩
          .rw[hbd]at hbb;cases hbb
         .simp only[bu,cE,gH]at hi;rcases hi with rfl|rfl
          .rw[hw1 _ (by simp),ic]at hb;rw[hw2 _ (by simp),I]at z;simp only[af]at hb z;subst hb;subst z;obtain⟨m1,m2⟩:=nK (D++A);exact ip.eq d m2 rfl m1
          .rw[hw2 _ (by simp),hbd]at z;cases z
         .simp only[b_,af]at hy;subst hy;exact lw.refl d _
         .simp only[bu,cE,gH]at hq;rw[bw,iQ];rcases hq with rfl|rfl
          .rw[dQ];exact .inl (bW.2 rfl)
          .rw[dQ];exact .inr (bW.2 rfl)
         .simp only[bu,cE,gH]at hq;rw[bw,iQ];rcases hq with rfl|rfl
          .rw[dQ];exact .inr (bW.2 rfl)
          .rw[dQ];exact .inl (bW.2 rfl)
         .simp only[aJ]at hq;subst hq;rw[dQ];omega
         .rw[<- hB]at he;cases he;exact jV _ _ _ hsp
        .cases hk
       .cases hk
      .simp only[b_,af]at h2;subst h2;obtain⟨hroom,hk⟩:=dM hk;have hr:b8 h ((d9 0 h).set nx (Z (.cells (Z ty) l2))):=(b8.kill 0 h).trans (b8.set λr hr=>by rw[bR,(hinv.kill 0).fresh]at hr;cases hr);have h2':=fY hr _ _ L;refine ⟨_,_,_,_,_,hk,iB.new hinv hc hH (y0:=.row (nm nx) sz2 m) (rdl:=[nm id2]) (b0:=⟨ty,oE A⟩) (by simp only[ef,h1,h3,hrow];simp[Ih,sV,hroom,q3]) (dK.zero h) (λty' l' he=>?_) (λH1 H2 d g b' I=>?_) (λH1 H2 y d g hy=>?_) (λn hn=>?_)⟩
       .cases he;exact jV _ _ _ h2'
       .simp only[jB,h2',af]at I;subst I;obtain⟨p1,p2⟩:=nK A;exact ip.eq d p2 rfl p1
       .simp only[b_,af]at hy;subst hy;exact lw.refl d _
       .simp only[aJ]at hn;subst hn;rw[dQ];exact bW.2 rfl
      .cases hk
     .cases hk
    .cases hk
   .cases hk
  .cases hk
theorem ak7 {con:FuncId->J cr} {b9:TypeId->J Ty} {sz:Nat} {x:Operand} {lo hi' mx:J Operand} (hc:dq P o.op=Z (.slc sz x lo hi' mx)) (hk:dS con b9 (.op (.slc sz x lo hi' mx)) e h nx K=Z r):kL P o aa e h nx K r:=by
 have hfr:=hinv.fresh;simp only[dS]at hk;split at hk
 .rename_i v hv;obtain⟨y,h1,h2⟩:=bI hi hv;split at hk
  .split at hk
   .rename_i hn;obtain⟨n,hn⟩:=iK.1 hn;have F:=PC hn h2;exact kL.q (k:=0) hinv hc (λH _=>by simp only[ef,h1,F,Option.isSome_some,bE]) (di rfl) hk
   .cases hk
  .rename_i b;split at hk
   .rename_i T xs k j hb;obtain⟨y2,F,z⟩:=bI hi hb;simp only[b_,af]at h2 z;subst h2;subst z;split at hk
    .rename_i hs;have hs:=au hs;subst hs;obtain⟨hj,hk⟩:=dM hk;have hfl:=eH (bA T) xs;have hcond:(cP 0 j&&cP j (ah xs)&&dN (ah xs*T.size) (xs.flatMap (bP T)).length)=M:=by
      rw[hj,kO];exact bt (by omega)
     simp only[cP,ak,bz]at hj;have hlen:(xs.take j.toNat).length=j.toNat:=by rw[b7];omega
     exact kL.q (k:=0) (y0:=.f (.sl ((xs.flatMap (bP T)).take (j.toNat*T.size)) j.toNat)) hinv hc (λH _=>by simp only[ef,h1,F,gh,hcond,bE]) (di (by simp only[b_,gh];rw[vH (bA T),hlen])) hk
    .cases hk
   .rename_i id k j hb;obtain⟨y2,F,z⟩:=bI hi hb;simp only[b_,af]at z;subst z;split at hk
    .rename_i ty p T xs s;split at hk
     .rename_i hs;have hs:=au hs;subst hs;obtain⟨hj,hk⟩:=dM hk;obtain⟨H,hH⟩:=jO h;have hj0:=hj;simp only[cP,fK,ak,bz]at hj;have hp:¬((p&&xs.length==0)=M):=by
       simp only[ak,cR];omega
      simp only[b_,bR,s,aD,mM,fd,aL hp,af]at h2;subst h2;have hidlt:=hinv.low id _ s;have hne:nx≠id:=by omega
      have hg:H.get (nm id)=Z ⟨ty,.fz (xs.flatMap (bP T))⟩:=by rw[hH,bK,s];simp only[aD,jB,aL hp]
      have fl:=eH (bA T) xs;have hcond:(T.size==T.size&&cP 0 j&&cP j (ah xs))=M:=by
       simp only[cP,ak,bz,cQ,AC];omega
      have hlen:(xs.take j.toNat).length=j.toNat:=by rw[b7];omega
      have ha0:ef (.slc T.size x U (Z b) U) (IU e h) H (nm nx)=Z ⟨.row (nm nx) T.size j.toNat,[nm id],[nm nx,nm id],[(nm nx,⟨ty,.fz ((xs.take j.toNat).flatMap (bP T))⟩)],[nm nx]⟩:=by
       have hc2:((BC.fz (xs.flatMap (bP T))).isCells&&dN (ah xs*T.size) (BC.fz (xs.flatMap (bP T))).len)=M:=by
        simp only[BC.isCells,kO,BC.len];exact bt (by omega)
       simp only[ef,h1,F,gh,hcond,bE,hg,hc2,BC.toMx,<-pD,yk,vH (bA T)]
      generalize hh':(h.set id (Z (.dead p T.size (ah xs)))).set nx (Z (.rows ty aa T (cM j.toNat xs)))=h' at hk;have hrA:b8 h (h.set id (Z (.dead p T.size (ah xs)))):=b8.set λr hr=>by rw[bR,s]at hr;exact hr
      have A:∀i,h'.get i=if i=nx then Z (.rows ty aa T (cM j.toNat xs)) else if i=id then Z (.dead p T.size (ah xs)) else h.get i:=λi=>by rw[<- hh',PT.get_set,PT.get_set]
      have hr:b8 h h':=by
       rw[<- hh'];refine hrA.trans (b8.set λr hr=>?_);rw[bR,PT.get_set,aL hne,hfr]at hr;cases hr
      have hinv':mh h' (nx+1):=by
       refine ⟨λi ty l hil=>?_,λi c hic=>?_⟩
       .rw[A]at hil;split at hil
        .cases hil
        .split at hil
         .cases hil
         .exact iR hr l (hinv.cells i _ l hil)
       .rw[A]at hic;split at hic
        .omega
        .split at hic
         .omega
         .have:=hinv.low i c hic;omega
      have hsame:∀n,n≠nm nx->n≠nm id->bB h' n=bB h n:=λn h1 h2=>kr hinv hr λi e=>by
       subst e;rw[A,aL (λe=>h1 (by rw[e])),aL (λe=>h2 (by rw[e]))]
      have hdead:bB h' (nm id)=U:=by rw[bK,A,aL (by omega),aT rfl];rfl
      have hnew:bB h' (nm nx)=Z ⟨ty,.fz ((xs.take j.toNat).flatMap (bP T))⟩:=by rw[bK,A,aT rfl];rfl
      have hval:b_ h' (.row nx)=Z (.row (nm nx) T.size j.toNat):=by simp only[b_,bR,A,bE,aD,mM,fd,jT,bF,du,hlen]
      refine ⟨_,_,_,_,_,hk,?_⟩;refine iB.mk' hc hH ha0 [nm nx,nm id] (λi hi=>hi) (λn hn=>?_) (λi hi b' I=>?_) (λH1 H2 d hw1 _ hw2=>⟨λi hi b b' L D=>?_,λy hy=>?_⟩) (λn hn=>?_) (λn hn=>?_) (λn hn=>by simp only[aJ]at hn;subst hn;rw[dQ];omega) hr hinv' (by omega)
      .simp only[bu,cE,gH,not_or]at hn;exact hsame n hn.1 hn.2
      .simp only[bu,cE,gH]at hi;rcases hi with rfl|rfl
       .exact⟨_,by rw[aT (by simp)];exact ic _ _⟩
       .rw[hdead]at I;cases I
      .simp only[bu,cE,gH]at hi;rcases hi with rfl|rfl
       .rw[hw1 _ (by simp),ic]at L;rw[hw2 _ (by simp),hnew]at D;simp only[af]at L D;subst L;subst D;exact ip.refl d _
       .rw[hw2 _ (by simp),hdead]at D;cases D
      .rw[hval]at hy;simp only[af]at hy;subst hy;exact lw.refl d _
      .simp only[aJ]at hn;subst hn;rw[dQ];exact bW.2 rfl
      .simp only[bu,cE,gH]at hn;rcases hn with rfl|rfl<;>rw[dQ,bw,bW.2 rfl]<;>simp
     .cases hk
    .cases hk
   .cases hk
  .rename_i b;split at hk
   .rename_i T xs k j hb;obtain⟨y2,F,z⟩:=bI hi hb;simp only[b_,af]at h2 z;subst h2;subst z;split at hk
    .rename_i hs;have hs:=au hs;subst hs;obtain⟨hj,hk⟩:=dM hk;have hfl:=eH (bA T) xs;have hcond:(cP 0 j&&cP j (ah xs)&&dN (ah xs*T.size) (xs.flatMap (bP T)).length)=M:=by
      rw[hj,kO];exact bt (by omega)
     simp only[cP,ak,bz]at hj;have hlen:(xs.drop j.toNat).length=ah xs-j.toNat:=by rw[kI]
     have htk:((xs.flatMap (bP T)).drop (j.toNat*T.size)).take ((ah xs-j.toNat)*T.size)=(xs.flatMap (bP T)).drop (j.toNat*T.size):=by
      refine eU ?_;rw[kI,hfl,Nat.sub_mul];exact cF _
     exact kL.q (k:=0) (y0:=.f (.sl ((xs.flatMap (bP T)).drop (j.toNat*T.size)) (ah xs-j.toNat))) hinv hc (λH _=>by simp only[ef,h1,F,gh,hcond,bE,htk]) (di (by simp only[b_,gh];rw[IN (bA T),hlen])) hk
    .cases hk
   .rename_i id k j hb;obtain⟨y2,F,z⟩:=bI hi hb;simp only[b_,af]at z;subst z;split at hk
    .rename_i ty p T xs s;split at hk
     .rename_i hs;have hs:=au hs;subst hs;obtain⟨hj,hk⟩:=dM hk;have hcond:(T.size==T.size&&cP 0 j&&fK j (ah xs))=M:=by
       simp only[ak]at hj;rw[hj.1,hj.2,cQ];rfl
      simp only[cP,fK,ak,bz]at hj;have hp:¬((p&&xs.length==0)=M):=by
       simp only[ak,cR];omega
      simp only[b_,bR,s,aD,mM,fd,aL hp,af]at h2;subst h2;exact kL.q (k:=0) (y0:=.sl (nm id) (j.toNat*T.size) (ah xs-j.toNat)) hinv hc (λH _=>by simp only[ef,h1,F,gh,hcond,bE]) (di (by simp only[b_,bR,s,aD,mM])) hk
     .cases hk
    .cases hk
   .cases hk
  .rename_i b b' hne;split at hk
   .rename_i T xs k j k' j' hb I;obtain⟨y2,F,z⟩:=bI hi hb;obtain⟨y3,h5,h6⟩:=bI hi I;simp only[b_,af]at h2 z h6;subst h2;subst z;subst h6;split at hk
    .rename_i hs;have hs:=au hs;subst hs;obtain⟨hj,hk⟩:=dM hk;have hfl:=eH (bA T) xs;have hcond:(decide (j=j')&&cP 0 j&&cP j (ah xs)&&dN (ah xs*T.size) (xs.flatMap (bP T)).length)=M:=by
      rw[hj,kO];exact bt (by omega)
     simp only[cP,ak,bz]at hj;have hlen:(xs.take j.toNat).length=j.toNat:=by rw[b7];omega
     refine kL.q (k:=0) (y0:=.ful ((xs.flatMap (bP T)).take (j.toNat*T.size)) j.toNat) hinv hc (λH _=>?_) (di (by simp only[b_];rw[vH (bA T),hlen])) hk;simp only[ef,h1,F,h5,gh,hcond,bE]
    .cases hk
   .cases hk
  .cases hk
 .cases hk
theorem akp {con:FuncId->J cr} {b9:TypeId->J Ty} {sz:Nat} {z:ξ} {x:Operand} (hc:dq P o.op=Z (.clr sz z x)) (hk:dS con b9 (.op (.clr sz z x)) e h nx K=Z r):kL P o aa e h nx K r:=by
 obtain⟨H,hH⟩:=jO h;simp only[dS]at hk;split at hk
 .rename_i id j hv;split at hk
  .rename_i ty p T xs hb;split at hk
   .rename_i hs;simp only[ak]at hs;obtain⟨⟨hs,A⟩,hco⟩:=hs;have hs:=au hs;have A:=JR A;subst hs;subst A;obtain⟨hj,hk⟩:=dM hk;simp only[cP,fK,ak,bz]at hj;obtain⟨j0,j1⟩:=hj;obtain⟨y,h1,h2⟩:=bI hi hv;simp only[b_,bR,hb,aD,mM,af]at h2;subst h2;have hp:¬((p&&xs.length==0)=M):=by
     simp only[ak,cR];omega
    have fl:=eH (bA T) xs;have hg:H.get (nm id)=Z ⟨ty,.fz (xs.flatMap (bP T))⟩:=by rw[hH,bK,hb];simp only[aD,jB,aL hp]
    have hrl:(repl (sD T) (xs.length-j.toNat)).length=(xs.length-j.toNat)*T.size:=by
     have h9:=(G6 (H:=λ_=>U) (H':=λ_=>U) (λn b hb=>by cases hb) T (xs.length-j.toNat)).length;rw[ca,ca,eH (bA T),cN]at h9;exact h9.symm
    have hoff:j.toNat*T.size+(xs.length-j.toNat)*T.size=xs.length*T.size:=by rw[<- M1];congr 1;omega
    have hput:(BC.fz (xs.flatMap (bP T))).put (j.toNat*T.size) ((repl (sD T) (xs.length-j.toNat)).map .f)=Z (.fz (splice (xs.flatMap (bP T)) (j.toNat*T.size) (repl (sD T) (xs.length-j.toNat)))):=by
     unfold BC.put;rw[aT]
     .simp only[JZ]
     .simp only[ak];refine ⟨⟨rfl,bt ?_⟩,FL _ λq hq=>?_⟩
      .simp only[BC.len,ca];omega
      .obtain⟨v,hv,rfl⟩:=Pn _ q hq;exact gk.1 hco v hv
    have hblt:eS 0 (xs.length-j.toNat)=M:=bt (by omega);have I:ef (.clr T.size (sD T) x) (IU e h) H (nm nx)=Z ⟨.tup [],[nm id],[nm id],[(nm id,⟨ty,.fz (splice (xs.flatMap (bP T)) (j.toNat*T.size) (repl (sD T) (xs.length-j.toNat)))⟩)],[]⟩:=by
     simp only[ef,h1,hg,hblt,bE,hput]
    have hlen:(cM j.toNat xs++aA (ah xs-j.toNat) T.zero).length=xs.length:=by
     rw[b6,b7,cN];omega
    have hrow:mM (.rows ty p T (cM j.toNat xs++aA (ah xs-j.toNat) T.zero))=mM (.rows ty p T xs):=by simp only[mM,hlen]
    refine ⟨_,_,_,_,_,hk,iB.wrt (m:=0) (v:=.tup []) (rd:=ku id) hinv hc hH I hb (dK.zero h) (by simp) hrow (λ_ _ he=>by cases he) (λH1 H2 d g b' s=>?_) (λH1 H2 y d g L=>?_) (λn hn=>?_)⟩
    .have F:¬((p&&(cM j.toNat xs++aA (ah xs-j.toNat) T.zero).length==0)=M):=by rw[hlen];exact hp
     simp only[jB,aL F,af]at s;subst s;refine ip.cells rfl rfl ?_ λq hq=>?_
     .simp only[BC.toMx];unfold splice;rw[hrl,hoff,<-fl,List.drop_length,ol,FU,vH (bA T),da,da];exact (gT.refl d _).append (G6 d T _)
     .simp only[BC.toMx]at hq;obtain⟨q',D,rfl⟩:=c7.1 hq;exact rj T _ q' D
    .simp only[b_,cD,af]at L;subst L;exact lw.refl d _
    .simp only[aJ]at hn;subst hn;rw[dQ];exact bW.2 rfl
   .cases hk
  .cases hk
 .cases hk
end ops
theorem Ns {K V:Ty} {es:Y (K.den×V.den)} (d:mpE K V es=M):es.map (λp=>(pK K p.1,AV.f (gh V p.2)))=[]:=by
 unfold mpE at d;split at d
 .rfl
 .cases d
theorem Y0 {K V:Ty} {es:Y (K.den×V.den)} (d:mpE K V es=M):S5 K=M:=by
 unfold mpE at d;split at d
 .rfl
 .cases d
theorem Vi {str:Bool} {K:Ty} (d:Wv str K=M):S5 K=M:=by
 cases K<;>cases str<;>first|rfl|cases d
theorem Nv {str:Bool} {K:Ty} (d:Wv str K=M) (k k':K.den):sY .eql (pK K k) (pK K k')=Z (.bool (Mo K k k'))/\yp str (pK K k)=M/\gh K k= .raw (pK K k):=by
 cases K<;>cases str<;>first|cases d|skip
 .exact⟨by simp only[sY,pK,Mo,cQ,bE,af,Bq];exact Bool.beq_eq_decide_eq _ _,rfl,rfl⟩
 .exact⟨by simp only[sY,pK,Mo,C3],rfl,rfl⟩
theorem PA {str:Bool} {K V:Ty} (d:Wv str K=M) (k:K.den):∀es:Y (K.den×V.den),sT (pK K k) (es.map λp=>(pK K p.1,AV.f (gh V p.2)))=Z ((mA k es).map λv=>AV.f (gh V v))
 |[]=>rfl
 |(k',v)::r=>by
  simp only[fb,sT,(Nv d k k').1,mA];cases hb:Mo K k k' with
  |true=>rfl
  |false=>simp only[bF,du];exact PA d k r
theorem Ve {str:Bool} {K V:Ty} (d:Wv str K=M) (k:K.den) (v:V.den):∀es:Y (K.den×V.den),ym (pK K k) (.f (gh V v)) (es.map λp=>(pK K p.1,AV.f (gh V p.2)))=Z ((AU k v es).map λp=>(pK K p.1,AV.f (gh V p.2)))
 |[]=>rfl
 |(k',q)::r=>by
  simp only[fb,ym,(Nv d k k').1,AU];cases hb:Mo K k k' with
  |true=>rfl
  |false=>simp only[Ve d k v r,bF,du,fb]
theorem aeh {h:bl} {ok b:Bool} {v:TV} {y:AV} (hv:b_ h v=Z y):b_ h (pkT ok v (.f .bool b))=Z (pkV ok y b):=by
 cases ok with
 |false=>exact hv
 |true=>simp only[pkT,pkV,b_,cD,hv];rfl
section ops
variable {R:Type} {P:Program} {o:Oper} {e:iL} {h:bl} {nx:Nat} {K:KO R} {r:R}
theorem Le.aggOf {l:Y FV} (hc:∀x∈l,x.isCell=M):Le (.agg (l.map .f)) (.f (.agg l)):=by
 intro φ O w v hr;cases hr with
 |@agg _ vs hl hcl hrr=>
  refine .f (.agg l vs (by simpa using hl) hc λj y u d hu=>?_);have:=hrr j (.f y) u (by rw[bi,d];rfl) hu;cases this with
  |f h=>exact h
def Pt (S:Ty) (l:Y TV):J (S.den×Nat×Y TV):=match l with
 |c::r=>(match h_ PT.leaf S c with|some (x,m)=>Z (x,m,r)|none=>U)
 |[]=>U
theorem L8:∀{l d:Y FV},l.map AV.f=d.map AV.f->l=d
 |[],[],_=>rfl
 |[],_::_,h=>by simp at h
 |_::_,[],h=>by simp at h
 |x::r,y::r',h=>by
  simp only[fb,iP,AV.f.injEq]at h;rw[h.1,L8 h.2]
theorem HL (h:bl):∀(ds:Y TypeDesc) (T:Ty),qN ds=Z T->∀(n:Nat) (l:Y TV) (x:T.den) (m:Nat) (r:Y TV),eM PT.leaf n T l=Z (x,m,r)->∀A,cD h l=Z A->∃l2,cD h r=Z l2/\A=(bP T x).map .f++l2
 |[],T,hd,n,l,x,m,r,hp,A,hl=>by
  simp only[qN,af]at hd;subst hd;cases n with
  |zero=>simp[eM]at hp
  |succ n=>
   simp only[eM,af,aC]at hp;obtain⟨_,_,rfl⟩:=hp;exact⟨A,hl,rfl⟩
 |d::ds,T,hd,n,l,x,m,r,hp,A,hl=>by
  have plain:∀(S:Ty),S.one=M->(∀t,S≠ .sl t)->∀(v:TV) (a:S.den) (m:Nat) (y:AV),h_ PT.leaf S v=Z (a,m)->b_ h v=Z y->y= .f (gh S a):=by
   intro S F hns v a m y s hy;cases v with
   |f Q q=>
    simp only[h_]at s;split at s
    .rename_i z hz;simp only[af,aC]at s;obtain⟨rfl,_⟩:=s;obtain⟨e,rfl⟩:=gO hz;subst e;simp only[b_,af]at hy;exact hy.symm
    .cases s
   |emp=>
    cases S with
    |sl t=>exact dP rfl (hns t)
    |_=>simp[h_]at s
   |nil=>
    cases S with
    |sl t=>exact dP rfl (hns t)
    |_=>simp[h_]at s
   |row id=>simp[h_,PT.get]at s
   |fel T xs j hj off=>simp[h_]at s
   |pel id sz j off=>simp[h_]at s
   |ptr id off=>simp[h_]at s
   |csl id off z=>simp[h_]at s
   |mp id=>simp[h_]at s
   |rtl id jj=>simp[h_]at s
   |agg q=>simp[h_]at s
   |tup q=>simp[h_]at s
   |clo f q=>simp[h_]at s
   |undef=>simp[h_]at s
   |np=>simp[h_]at s
   |anyb=>simp[h_]at s
   |ful S q=>simp[h_]at s
  have one:∀(S:Ty),S.one=M->(∀t,S≠ .sl t)->∀(n:Nat) (l:Y TV) (a:S.den) (m:Nat) (r:Y TV),eM PT.leaf n S l=Z (a,m,r)->∀A,cD h l=Z A->∃l2,cD h r=Z l2/\A=(bP S a).map .f++l2:=by
   intro S F hns n l a m r hp A hl;cases n with
   |zero=>simp[eM]at hp
   |succ n=>
    cases l with
    |nil=>
     cases S with
     |int k=>cases hp
     |bool=>cases hp
     |str=>cases hp
     |sl t=>exact dP rfl (hns t)
     |_=>cases F
    |cons c q=>
     have hpp:Pt S (c::q)=Z (a,m,r):=by
      cases S with
      |int k=>simp only[eM]at hp;simp only[Pt];cases hq:h_ PT.leaf (.int k) c with
       |none=>rw[hq]at hp;cases hp
       |some z=>rw[hq]at hp;exact hp
      |bool=>simp only[eM]at hp;simp only[Pt];cases hq:h_ PT.leaf .bool c with
       |none=>rw[hq]at hp;cases hp
       |some z=>rw[hq]at hp;exact hp
      |str=>simp only[eM]at hp;simp only[Pt];cases hq:h_ PT.leaf .str c with
       |none=>rw[hq]at hp;cases hp
       |some z=>rw[hq]at hp;exact hp
      |sl t=>exact dP rfl (hns t)
      |_=>cases F
     simp only[Pt]at hpp;split at hpp
     .rename_i a1 m1 h1;simp only[af,aC]at hpp;obtain⟨rfl,rfl,rfl⟩:=hpp;obtain⟨y,l2,rfl,L,I⟩:=cW hl;have:=plain S F hns c a1 m1 y h1 L;subst this;exact⟨l2,I,by rw[(Cq S a1 F).1];rfl⟩
     .cases hpp
  have two:∀(S g:Ty),S.one=M->(∀t,S≠ .sl t)->qN ds=Z g->T= .pr S g->∃l2,cD h r=Z l2/\A=(bP T x).map .f++l2:=by
   intro S g F hns D e;subst e;cases n with
   |zero=>simp[eM]at hp
   |succ n=>
    simp only[eM]at hp;split at hp
    .rename_i x1 m1 r1 h1;split at hp
     .rename_i x2 m2 r2 h2;simp only[af,aC]at hp;obtain⟨rfl,rfl,rfl⟩:=hp;obtain⟨l2,L,I⟩:=one S F hns n l x1 m1 r1 h1 A hl;obtain⟨l3,g3,g4⟩:=HL h ds g D n r1 x2 m2 r2 h2 l2 L;exact⟨l3,g3,by rw[I,g4,bP,da,iv]⟩
     .cases hp
    .cases hp
  cases d with
  |int k=>
   simp only[qN]at hd;split at hd
   .rename_i g D;simp only[af]at hd;exact two (.int k) g rfl (λt h=>by cases h) D hd.symm
   .cases hd
  |bool=>
   simp only[qN]at hd;split at hd
   .rename_i g D;simp only[af]at hd;exact two .bool g rfl (λt h=>by cases h) D hd.symm
   .cases hd
  |string=>
   simp only[qN]at hd;split at hd
   .rename_i g D;simp only[af]at hd;exact two .str g rfl (λt h=>by cases h) D hd.symm
   .cases hd
  |_=>simp[qN]at hd
theorem Co:∀(ds:Y TypeDesc) (T:Ty),qN ds=Z T->∀a b:T.den,o9 ds (bP T a) (bP T b)=Z (Mo T a b)
 |[],T,hd,a,b=>by simp only[qN,af]at hd;subst hd;rfl
 |d::ds,T,hd,a,b=>by
  cases d with
  |int k=>
   simp only[qN]at hd;split at hd
   .rename_i g z;simp only[af]at hd;subst hd;have s:=Co ds g z a.2 b.2;simp only[bP,gZ,oh,o9,wM,cQ,bE,Mo];cases he:((a.1:Int)==b.1) with
    |true=>have q:(a.1:Int)=b.1:=by simpa using he
           simp only[s,q,dJ,kO]
    |false=>have q:¬(a.1:Int)=b.1:=by simpa using he
            simp only[q,c9,jT]
   .cases hd
  |bool=>
   simp only[qN]at hd;split at hd
   .rename_i g z;simp only[af]at hd;subst hd;have s:=Co ds g z a.2 b.2;simp only[bP,gZ,oh,o9,wM,Mo];cases he:((a.1:Bool)==b.1)<;>simp[he,s]
   .cases hd
  |string=>
   simp only[qN]at hd;split at hd
   .rename_i g z;simp only[af]at hd;subst hd;have s:=Co ds g z a.2 b.2;simp only[bP,gZ,oh,o9,wM,Mo,C3];cases he:decide ((a.1:ζ)=b.1) with
    |true=>simp only[s,kO]
    |false=>simp only[jT]
   .cases hd
  |_=>simp[qN]at hd
theorem MQ {u:TV} (hu:u.isC=aa) {lu:Y TV} (hl:u.cs=Z lu) {ds:Y TypeDesc} {T:Ty} (hd:qN ds=Z T) {a:T.den} {m:Nat} (hp:eM PT.leaf 40 T lu=Z (a,m,[])) {y:AV} (d:b_ h u=Z y):Le y (.f (.agg (bP T a))):=by
 obtain⟨h1,_⟩:=Jz hl d;obtain⟨l2,h2,s⟩:=HL h ds T hd 40 lu a m [] hp _ h1;simp only[cD,af]at h2;subst h2;rw[ol]at s;cases u with
 |agg l=>
  simp only[b_]at d;split at d
  .rename_i A _;simp only[af]at d;subst d;have:A=(bP T a).map .f:=s;rw[this];exact Le.aggOf (nU T a)
  .cases d
 |f S x=>
  simp only[b_,af]at d;subst d;have D:S.one=aa:=hu;rw[zE]at s;have:bP S x=bP T a:=L8 s;rw[qv S x D,this];exact Le.refl _
 |tup l=>simp[TV.cs,TV.isC]at hl
 |undef=>simp[TV.cs,TV.isC]at hl
 |np=>cases hu
 |anyb=>simp[TV.cs,TV.isC]at hl
 |ful S q=>simp[TV.cs,TV.isC]at hl
 |fel T xs j hj off=>cases hu
 |pel id sz j off=>cases hu
 |ptr id off=>cases hu
 |csl id off z=>cases hu
 |row id=>cases hu
 |emp=>cases hu
 |nil=>cases hu
 |mp id=>cases hu
 |rtl id F=>cases hl
 |clo g l=>cases hu
variable (hinv:mh h nx) (hi:s6 e h)
include hinv hi
theorem akn {con:FuncId->J cr} {b9:TypeId->J Ty} {neg:Bool} {ds:Y TypeDesc} {x y:Operand} {st:Bool} (hc:dq P o.op=Z (.eqs neg ds x y)) (hk:dS con b9 (.op (.eqs neg ds x y)) e h nx K=Z r):kL P o st e h nx K r:=by
 obtain⟨H,hH⟩:=jO h;simp only[dS]at hk;split at hk
 .rename_i T u v hd hu hv;split at hk
  .cases hk
  .rename_i hcc;simp only[iQ,not_or,Bool.not_eq_true]at hcc;split at hk
   .rename_i lu lv hlu hlv;split at hk
    .rename_i a m1 b m2 hpa hpb;obtain⟨yu,h1,h2⟩:=bI hi hu;obtain⟨yv,h3,h4⟩:=bI hi hv;obtain⟨⟨⟨F,D⟩,hc3⟩,L⟩:=hcc;have l1:=MQ F hlu hd hpa h2;have l2:=MQ D hlv hd hpb h4;have tmp:∀(z:Operand) (q:TV),fe e z=Z q->q.isC=aa->Tc z=aa->∃t,z= .tmp t:=by
      intro z q d hq hg;cases z with
      |tmp t=>exact⟨t,rfl⟩
      |const c=>
       have d:cst c=Z q:=by
        simp only[fe,afr]at d;split at d
        .cases hg
        .exact d
       have:=(Jx h d).2.2;rw[hq]at this;cases this
      |func g=>simp only[fe,af]at d;subst d;cases hq
      |global g=>
       simp only[fe]at d;split at d
       .cases d;cases hq
       .cases d
     obtain⟨t,rfl⟩:=tmp x u hu F hc3;obtain⟨t',rfl⟩:=tmp y v hv D L;have same:t=t'->bP T a=bP T b:=by
      intro ht;subst ht;rw[hu]at hv;cases hv;rw[hlu]at hlv;cases hlv;rw[hpa]at hpb;cases hpb;rfl
     let A:y_:=((IU e h).set t (Z (.f (.agg (bP T a))))).set t' (Z (.f (.agg (bP T b))))
     have e1:mI A (.tmp t)=Z (.f (.agg (bP T a))):=by
      simp only[mI,A,PT.get_set];by_cases ht:t=t'
      .rw[aT ht,same ht]
      .rw[aL ht];simp
     have e2:mI A (.tmp t')=Z (.f (.agg (bP T b))):=by simp only[mI,A,PT.get_set,bE]
     have ha:ef (.eqs neg ds (.tmp t) (.tmp t')) A H 0=Z ⟨raw (.bool (Mo T a b !=neg)),[],[],[],[]⟩:=by
      simp only[ef,e1,e2,Co ds T hd a b];rfl
     have ht:=HN hc ha;rw[hH]at ht;have I:gB P o (fw e h) (bB h) _:=ht.envLe (e2:=fw e h) λs z _ d=>by
      simp only[A,PT.get_set]at d;rw[<- uG];simp only[mI]at h1 h3;split at d
      .rename_i es;subst es;cases d;exact⟨yv,h3,l2⟩
      .split at d
       .rename_i es;subst es;cases d;exact⟨yu,h1,l1⟩
       .exact⟨z,d,Le.refl _⟩
     refine ⟨_,0,0,h,nx,hk,⟨⟨_,I,λy hy=>?_,by simp[zZ.eff,tg],by simp[zZ.eff],by simp[zZ.eff],by simp[zZ.eff]⟩,λ_ _ h=>h,hinv,cF _,λ_=>⟨rfl,rfl⟩⟩⟩;simp only[b_,af]at hy;exact hy
    .cases hk
   .cases hk
 .cases hk
theorem akc {con:FuncId->J cr} {b9:TypeId->J Ty} (hc:dq P o.op=Z .mkm) (hk:dS con b9 (.op .mkm) e h nx K=Z r):kL P o aa e h nx K r:=by
 have _:=hi;obtain⟨H,z⟩:=jO h;refine ⟨_,_,_,_,_,hk,iB.new hinv hc z (y0:=.mp (nm nx)) (rdl:=[]) (b0:=⟨0,.mp []⟩) rfl (dK.zero h) (λ_ _ he=>by cases he) (λD A d g b' q=>?_) (λD A y d g s=>?_) (by simp)⟩
 .cases q;exact ip.refl d _
 .simp only[b_,af]at s;subst s;exact lw.refl d _
theorem ahm {con:FuncId->J cr} {b9:TypeId->J Ty} {x:Operand} (hc:dq P o.op=Z (.lenm x)) (hk:dS con b9 (.op (.lenm x)) e h nx K=Z r):kL P o aa e h nx K r:=by
 obtain⟨H,q⟩:=jO h;simp only[dS]at hk;split at hk
 .rename_i id hv;split at hk
  .rename_i K' V es hb;obtain⟨y,h1,h2⟩:=bI hi hv;simp only[b_,af]at h2;subst h2;split at hk
   case isFalse=>cases hk
   rename_i hO;have hg:H.get (nm id)=Z ⟨0,.mp (es.map λp=>(pK K' p.1,.f (gh V p.2)))⟩:=by rw[q,bK,hb];show Z (u_.mk 0 (Y1 K' V es))=_;rw[yi hO]
   exact⟨_,_,_,_,_,hk,iB.pure (k:=0) hinv hc q (y0:=raw (.int .i64 es.length)) (rdl:=[nm id]) (by simp only[ef,h1,hg,ca]) (λy d=>by simp only[b_,af]at d;subst d;exact Le.refl _) (λn hn=>by simp only[aJ]at hn;subst hn;rw[dQ];exact bW.2 rfl) (λh=>by cases h)⟩
  .cases hk
 .cases hk
theorem akg {con:FuncId->J cr} {b9:TypeId->J Ty} {str ok:Bool} {z:Value} {x k:Operand} (hc:dq P o.op=Z (.lku str ok z x k)) (hk:dS con b9 (.op (.lku str ok z x k)) e h nx K=Z r):kL P o aa e h nx K r:=by
 obtain⟨H,I⟩:=jO h;simp only[dS]at hk;split at hk
 .rename_i id KT s hv F;split at hk
  .rename_i K' V es hb;split at hk
   .rename_i d;obtain⟨y,h1,h2⟩:=bI hi hv;obtain⟨y2,D,L⟩:=bI hi F;simp only[b_,af]at h2 L;subst h2;subst L;simp only[ak]at d;have hg:H.get (nm id)=Z ⟨0,.mp (es.map λp=>(pK K' p.1,.f (gh V p.2)))⟩:=by rw[I,bK,hb];show Z (u_.mk 0 (Y1 K' V es))=_;rw[yi d.2]
    obtain⟨_,hok,henc⟩:=Nv d.1 s s;rw[henc]at D;have hrd:∀n∈[nm id],aO (ku id) (ow n)=M:=λn hn=>by simp only[aJ]at hn;subst hn;rw[dQ];exact bW.2 rfl
    split at hk
    .rename_i hE;split at hk
     .rename_i v hz;have hzz:=(Jx h hz).1;exact⟨_,_,_,_,_,hk,iB.pure (k:=0) hinv hc I (y0:=pkV ok (raw z) aa) (rdl:=[nm id]) (by simp only[ef,h1,D,hg,hok,bE,Ns hE,sT]) (λy A=>by rw[aeh hzz]at A;cases A;exact Le.refl _) hrd (λh=>by cases h)⟩
     .cases hk
    .split at hk
     .rename_i kv' g zv hkv hz;split at hk
      .rename_i zv' hzv;obtain⟨e1,e2⟩:=gO hkv;cases e1;subst e2;obtain⟨e3,e4⟩:=gO hzv;cases e3;subst e4;have hzz:=(Jx h hz).1;simp only[b_,af]at hzz;refine ⟨_,_,_,_,_,hk,iB.pure (k:=0) hinv hc I (y0:=pkV ok (.f (gh _ (yl kv' es zv'))) (Nt kv' es)) (rdl:=[nm id]) ?_ (λy A=>by rw[aeh (y:=.f (gh _ (yl kv' es zv'))) rfl]at A;cases A;exact Le.refl _) hrd (λh=>by cases h)⟩;simp only[ef,h1,D,hg,hok,bE,PA d.1];unfold yl Nt;cases hf:mA kv' es with
       |none=>simp only[Option.map_none];rw[hzz]
       |some v=>rfl
      .cases hk
     .cases hk
   .cases hk
  .rename_i l hb;split at hk
   .rename_i n hkv;split at hk
    case isFalse=>cases hk
    rename_i d;simp only[ak]at d;split at hk
    .rename_i v hlv;obtain⟨e1,e2⟩:=gO hkv;cases e1
     replace e2:n=s:=e2
     subst n;obtain⟨y,h1,h2⟩:=bI hi hv;obtain⟨y2,D,L⟩:=bI hi F;simp only[b_,af]at h2 L;subst h2;subst L;obtain⟨l',hl⟩:=eY h l (hinv.cells id _ l hb);obtain⟨y,A,hey⟩:=lh hl _ _ hlv;have hg:H.get (nm id)=Z ⟨1,.mp (oG 0 l')⟩:=by rw[I,bK,hb];simp only[aD,jB,hl]
     have ht:told s (oG 0 l')=Z y:=by
      have h0:(0:Int)<=s:=bg d.2.1;have hn:(s:Int)=aU (0+aP s):=by rw[bL];exact (pV h0).symm
      rw[hn,Ma];exact A
     have henc:gh (.int .i64) s= .raw (.int .i64 s):=rfl;rw[henc]at D;exact⟨_,_,_,_,_,hk,iB.pure (k:=0) hinv hc I (y0:=y) (rdl:=[nm id]) (by simp only[ef,h1,D,hg,d.1.1,d.1.2.1,d.1.2.2,gR,bE,ht]) (λq hq=>by rw[hey]at hq;cases hq;exact Le.refl _) (λn hn=>by simp only[aJ]at hn;subst hn;rw[dQ];exact bW.2 rfl) (λh=>by cases h)⟩
    .cases hk
   .cases hk
  .cases hk
 .cases hk
theorem akb {con:FuncId->J cr} {b9:TypeId->J Ty} {str:Bool} {x k v:Operand} (hc:dq P o.op=Z (.mup str x k v)) (hk:dS con b9 (.op (.mup str x k v)) e h nx K=Z r):kL P o aa e h nx K r:=by
 obtain⟨H,hH⟩:=jO h;simp only[dS]at hk;split at hk
 .rename_i id KT q VT vv hv F D;split at hk
  .rename_i K' V es hb;split at hk
   .rename_i z;simp only[ak]at z;obtain⟨y,h1,h2⟩:=bI hi hv;obtain⟨y2,h3,h4⟩:=bI hi F;obtain⟨I,h5,h6⟩:=bI hi D;simp only[b_,af]at h2 h4 h6;subst h2;subst h4;subst h6;have hg:H.get (nm id)=Z ⟨0,.mp (es.map λp=>(pK K' p.1,.f (gh V p.2)))⟩:=by rw[hH,bK,hb];show Z (u_.mk 0 (Y1 K' V es))=_;rw[yi z.2]
    obtain⟨_,hok,henc⟩:=Nv z.1.1 q q;rw[henc]at h3;have hrd:∀n∈[nm id],aO (ku id) (ow n)=M:=λn hn=>by simp only[aJ]at hn;subst hn;rw[dQ];exact bW.2 rfl
    split at hk
    .rename_i hE;exact⟨_,_,_,_,_,hk,iB.wrt (k:=0) (m:=0) (v:=.undef) (rd:=ku id) hinv hc hH (y0:=raw undef) (b0:=⟨0,.mp [(pK KT q,.f (gh VT vv))]⟩) (rdl:=[nm id]) (by simp only[ef,h1,h3,h5,hg,hok,bE,Ns hE,ym]) (B:=.mp KT VT [(q,vv)]) hb (dK.zero h) (by simp) rfl (λty' l2 he=>by cases he) (λH1 H2 d g b' s=>by simp only[jB,yi (Vi z.1.1),af]at s;subst s;exact ip.refl d _) (λH1 H2 y d g A=>by simp only[b_,af]at A;subst A;exact lw.refl d _) hrd⟩
    .split at hk
     .rename_i kv' vv' hkv hvv;obtain⟨e1,e2⟩:=gO hkv;cases e1;subst e2;obtain⟨e3,e4⟩:=gO hvv;cases e3;subst e4;exact⟨_,_,_,_,_,hk,iB.wrt (k:=0) (m:=0) (v:=.undef) (rd:=ku id) hinv hc hH (y0:=raw undef) (b0:=⟨0,.mp ((AU kv' vv' es).map λp=>(pK _ p.1,.f (gh _ p.2)))⟩) (rdl:=[nm id]) (by simp only[ef,h1,h3,h5,hg,hok,bE,Ve z.1.1]) (B:=.mp _ _ (AU kv' vv' es)) hb (dK.zero h) (by simp) rfl (λty' l2 he=>by cases he) (λH1 H2 d g b' s=>by simp only[jB,yi (Vi z.1.1),af]at s;subst s;exact ip.refl d _) (λH1 H2 y d g A=>by simp only[b_,af]at A;subst A;exact lw.refl d _) hrd⟩
     .cases hk
   .cases hk
  .cases hk
 .rename_i id KT q i hv F D;split at hk
  .rename_i l hb;split at hk
   .rename_i n hkv;split at hk
    case isFalse=>cases hk
    rename_i z;simp only[ak]at z;obtain⟨e1,e2⟩:=gO hkv;cases e1
    replace e2:n=q:=e2
    subst n;obtain⟨y,h1,h2⟩:=bI hi hv;obtain⟨y2,h3,h4⟩:=bI hi F;obtain⟨I,h5,h6⟩:=bI hi D;simp only[b_,af]at h2 h4;subst h2;subst h4;obtain⟨L,hl⟩:=eY h l (hinv.cells id _ l hb);have hg:H.get (nm id)=Z ⟨1,.mp (oG 0 L)⟩:=by rw[hH,bK,hb];simp only[aD,jB,hl]
    have h0:(0:Int)<=q:=bg z.2.1;have h9:(q:Int)<(l.length:Int):=bg z.2.2;have hlen:=gz hl;have hn:(q:Int)=aU (0+aP q):=by rw[bL];exact (pV h0).symm
    have ht:lI q I (oG 0 L)=oG 0 (splice L (aP q) [I]):=by
     rw[Sz (by rw[hlen];exact (Int.toNat_lt h0).2 h9)]
     conv=>lhs;rw[hn]
     exact PD I L 0 _
    have hs:cD h (splice l (aP q) [.row i])=Z (splice L (aP q) [I]):=pL _ hl (by simp only[cD,h6]);have hr:b8 h (h.set id (Z (.cells U (splice l (aP q) [.row i])))):=b8.set λr hr=>by rw[bR,hb]at hr;cases hr
    have henc:gh (.int .i64) q= .raw (.int .i64 q):=rfl;rw[henc]at h3;have hstr:str=aa:=by cases str with
     |false=>rfl
     |true=>cases z.1
    subst hstr;exact⟨_,_,_,_,_,hk,iB.wrt (k:=0) (m:=0) (v:=.undef) (rd:=ku id) hinv hc hH (y0:=raw undef) (b0:=⟨1,.mp (oG 0 (splice L (aP q) [I]))⟩) (rdl:=[nm id]) (by simp only[ef,h1,h3,h5,hg,ht,bF,du]) (B:=.cells U (splice l (aP q) [.row i])) hb (dK.zero h) (by simp) rfl (λty' l2 he=>by cases he;exact jV _ _ _ (fY hr _ _ hs)) (λH1 H2 d g b' s=>by
     have s:jB (h.set id (Z (.cells U (splice l (aP q) [.row i])))) (.cells U (splice l (aP q) [.row i]))=Z b':=s;simp only[jB,fY hr _ _ hs,af]at s;subst s;exact ip.refl d _) (λH1 H2 y d g A=>by simp only[b_,af]at A;subst A;exact lw.refl d _) (λn hn=>by simp only[aJ]at hn;subst hn;rw[dQ];exact bW.2 rfl)⟩
   .cases hk
  .cases hk
 .cases hk
theorem ak8 {con:FuncId->J cr} {b9:TypeId->J Ty} {x:Operand} (hc:dq P o.op=Z (.rng x)) (hk:dS con b9 (.op (.rng x)) e h nx K=Z r):kL P o aa e h nx K r:=by
 obtain⟨H,A⟩:=jO h;simp only[dS]at hk;split at hk
 .rename_i s hv;obtain⟨y,h1,h2⟩:=bI hi hv;simp only[b_,af]at h2;subst h2;refine ⟨_,_,_,_,_,hk,iB.new hinv hc A (y0:=.ptr (nm nx) 0) (rdl:=[]) (b0:=⟨0,.it ⟨eT s⟩ 0⟩) (by simp only[ef,h1];rfl) (dK.zero h) (λ_ _ he=>by cases he) (λF D d g b' q=>?_) (λF D y d g z=>?_) (by simp)⟩
  .cases q;exact ip.refl d _
  .simp only[b_,af]at z;subst z;exact lw.refl d _
 .cases hk
theorem ak9 {con:FuncId->J cr} {b9:TypeId->J Ty} {x:Operand} (hc:dq P o.op=Z (.nxt x)) (hk:dS con b9 (.op (.nxt x)) e h nx K=Z r):kL P o aa e h nx K r:=by
 obtain⟨H,D⟩:=jO h;simp only[dS]at hk;split at hk
 .rename_i id hv;split at hk
  .rename_i K' V es hb;split at hk
   .rename_i s p L;obtain⟨y,h1,h2⟩:=bI hi hv;simp only[b_,af]at h2;subst h2;have hg:H.get (nm id)=Z ⟨0,.it ⟨eT s⟩ p⟩:=by rw[D,bK,hb];show Z (u_.mk 0 (Y1 K' V es))=_;rw[afi L]
    have hrd:∀n∈[nm id],aO (ku id) (ow n)=M:=λn hn=>by simp only[aJ]at hn;subst hn;rw[dQ];exact bW.2 rfl
    rcases lX hk with ⟨hp,hk⟩|⟨hp,hk⟩
    .have hp:=a_ hp;have e2:(⟨eT s⟩:ByteArray).data.toList[p]? =Z (List.getD s p 0):=by
      show s[p]? =_;rw[ay,ax hp];rfl
     exact⟨_,_,_,_,_,hk,iB.wrt (k:=0) (m:=0) (rd:=ku id) hinv hc D (y0:=.tup [raw (.bool M),raw (.int .i64 p),raw (.int .i32 (Nj s p))]) (b0:=⟨0,.it ⟨eT s⟩ (p+So s p)⟩) (rdl:=[nm id]) (by simp only[ef,h1,hg,e2];rfl) (B:=.mp itK .un [((s,aU (p+So s p)),())]) hb (dK.zero h) (by simp) rfl (λty' l2 he=>by cases he) (λI F d g b' z=>by cases z;exact ip.refl d _) (λI F y d g A=>by cases A;exact lw.refl d _) hrd⟩
    .have hp:s.length<=p:=Nat.not_lt.1 λq=>by rw[show eS p s.length=M from bt q]at hp;cases hp
     have e2:(⟨eT s⟩:ByteArray).data.toList[p]? =U:=by
      show s[p]? =_;exact bJ hp
     exact⟨_,_,_,_,_,hk,iB.wrt (k:=0) (m:=0) (rd:=ku id) hinv hc D (y0:=.tup [raw (.bool aa)]) (b0:=⟨0,.it ⟨eT s⟩ p⟩) (rdl:=[nm id]) (by simp only[ef,h1,hg,e2]) (B:=.mp itK .un [((s,aU p),())]) hb (dK.zero h) (by simp) rfl (λty' l2 he=>by cases he) (λI F d g b' z=>by cases z;exact ip.refl d _) (λI F y d g A=>by cases A;exact lw.refl d _) hrd⟩
   .cases hk
  .cases hk
 .cases hk
theorem K_op {con:FuncId->J cr} {b9:TypeId->J Ty} {s:XL} (hc:dq P o.op=Z s) (hk:dS con b9 (.op s) e h nx K=Z r):kL P o s.still e h nx K r:=by
 cases s with
 |mv x=>exact K_mv hinv hi hc hk
 |pick c a b=>exact ahh hinv hi hc hk
 |alloc ty z=>exact adz hinv hi hc hk
 |box ty x=>exact akr hinv hi hc hk
 |build z parts=>exact ady hinv hi hc hk
 |bsl ty sz len z parts=>exact akq hinv hi hc hk
 |load sz ag x=>exact ahk hinv hi hc hk
 |store sz x v=>exact adv hinv hi hc hk
 |nilc x=>exact ahi hinv hi hc hk
 |bin op x y=>exact aks hinv hi hc hk
 |eqs neg ds x y=>exact akn hinv hi hc hk
 |eqb neg x y=>exact ako hinv hi hc hk
 |isnil neg x=>exact adx hinv hi hc hk
 |not x=>exact aka hinv hi hc hk
 |conv k x=>exact ahp hinv hi hc hk
 |mksl ty sz bytes z l c=>exact ahj hinv hi hc hk
 |slc sz x lo q mx=>exact ak7 hinv hi hc hk
 |fad off x=>exact akl hinv hi hc hk
 |fld off sz ag x=>exact akk hinv hi hc hk
 |iad sz x i=>exact akj hinv hi hc hk
 |idx n sz ag x i=>exact aki hinv hi hc hk
 |iada n sz x i=>exact ahn hinv hi hc hk
 |ext x i=>exact akm hinv hi hc hk
 |len x=>exact akh hinv hi hc hk
 |lens x=>exact ahl hinv hi hc hk
 |max x y=>exact akf hinv hi hc hk
 |min x y=>exact ake hinv hi hc hk
 |sidx x i=>exact ahg hinv hi hc hk
 |app ty sz bytes s x=>exact akt hinv hi hc hk
 |copy sz d x=>exact aho hinv hi hc hk
 |clr sz z x=>exact akp hinv hi hc hk
 |mkf f caps=>exact akd hinv hi hc hk
 |mkm=>exact akc hinv hi hc hk
 |rng x=>exact ak8 hinv hi hc hk
 |nxt x=>exact ak9 hinv hi hc hk
 |lenm x=>exact ahm hinv hi hc hk
 |lku str ok z x k=>exact akg hinv hi hc hk
 |mup str x k v=>exact akb hinv hi hc hk
 |_=>simp[dS]at hk
end ops
mutual
def AV.ren (g:Nat->Nat):AV->AV
 |.f x=>.f x
 |.ptr id off=>.ptr (g id) off
 |.sl id off n=>.sl (g id) off n
 |.row id sz n=>.row (g id) sz n
 |.mp id=>.mp (g id)
 |.emp=>.emp
 |.anyb=>.anyb
 |.ful l n=>.ful l n
 |.agg l=>.agg (AV.renL g l)
 |.tup l=>.tup (AV.renL g l)
 |.clo q l=>.clo q (AV.renL g l)
def AV.renL (g:Nat->Nat):Y AV->Y AV
 |[]=>[]
 |x::r=>x.ren g::AV.renL g r
end
theorem mR (g:Nat->Nat):∀l,AV.renL g l=l.map (AV.ren g)
 |[]=>rfl
 |x::r=>by rw[AV.renL,mR g r];rfl
theorem BJ (g:Nat->Nat) (x:AV):(x.ren g).isCell=x.isCell:=by cases x<;>rfl
theorem cH.renTo {φ φ':PM} {g:Nat->Nat} {O:Nat->Prop} {w:World} (hk:∀i k,φ i=Z k->φ' (g i)=Z k) {x:AV} {v:Value} (h:cH φ O w x v):cH φ' O w (x.ren g) v:=by
 induction h with
 |f h=>exact .f h
 |ptr h=>exact .ptr (hk _ _ h)
 |sl h hn hc=>exact .sl (hk _ _ h) hn hc
 |row h hn hc hsh=>exact .row (hk _ _ h) hn hc hsh
 |emp=>exact .emp
 |anyb=>exact .anyb
 |ful h=>exact .ful h
 |mp h=>exact .mp (hk _ _ h)
 |agg hl hcl hr s=>
  simp only[AV.ren,mR];refine .agg (by simpa using hl) (λx d=>?_) λj x v d hv=>?_
  .obtain⟨y,q,rfl⟩:=c7.1 d;rw[BJ];exact hcl y q
  .rw[bi]at d;obtain⟨y,q,rfl⟩:=jQ.1 d;exact s j y v q hv
 |tup hl hr s=>
  simp only[AV.ren,mR];refine .tup (by simpa using hl) λj x v d hv=>?_
  rw[bi]at d;obtain⟨y,q,rfl⟩:=jQ.1 d;exact s j y v q hv
 |clo hl hr s=>
  simp only[AV.ren,mR];refine .clo (by simpa using hl) λj x v d hv=>?_
  rw[bi]at d;obtain⟨y,q,rfl⟩:=jQ.1 d;exact s j y v q hv
theorem cH.renFrom {φ φ':PM} {g:Nat->Nat} {O:Nat->Prop} {w:World} {p:Nat->Bool} (hk:∀i k,p i=M->φ (g i)=Z k->φ' i=Z k) {z:AV} {v:Value} (h:cH φ O w z v):∀x:AV,x.all p=M->z=x.ren g->cH φ' O w x v:=by
 induction h with
 |f h=>intro x hp e;cases x<;>simp only[AV.ren,reduceCtorEq]at e;cases e;exact .f h
 |ptr h=>intro x hp e;cases x<;>simp only[AV.ren,reduceCtorEq]at e;cases e;exact .ptr (hk _ _ hp h)
 |sl h hn hc=>intro x hp e;cases x<;>simp only[AV.ren,reduceCtorEq]at e;cases e;exact .sl (hk _ _ hp h) hn hc
 |row h hn hc hsh=>intro x hp e;cases x<;>simp only[AV.ren,reduceCtorEq]at e;cases e;exact .row (hk _ _ hp h) hn hc hsh
 |emp=>intro x hp e;cases x<;>simp only[AV.ren,reduceCtorEq]at e;exact .emp
 |anyb=>intro x hp e;cases x<;>simp only[AV.ren,reduceCtorEq]at e;exact .anyb
 |ful h=>intro x hp e;cases x<;>simp only[AV.ren,reduceCtorEq]at e;cases e;exact .ful h
 |mp h=>intro x hp e;cases x<;>simp only[AV.ren,reduceCtorEq]at e;cases e;exact .mp (hk _ _ hp h)
 |agg hl hcl hr q=>
  intro x hp e;cases x<;>simp only[AV.ren,reduceCtorEq]at e;rename_i l;cases e;rw[mR]at hl hcl hr q;refine .agg (by simpa using hl) (λx d=>?_) λj x v d hv=>?_
  .have:=hcl (x.ren g) (c7.2 ⟨x,d,rfl⟩);rwa [BJ]at this
  .exact q j (x.ren g) v (by rw[bi,d];rfl) hv x (mf hp x (bh d)) rfl
 |tup hl hr q=>
  intro x hp e;cases x<;>simp only[AV.ren,reduceCtorEq]at e;rename_i l;cases e;rw[mR]at hl hr q;refine .tup (by simpa using hl) λj x v d hv=>?_
  exact q j (x.ren g) v (by rw[bi,d];rfl) hv x (mf hp x (bh d)) rfl
 |clo hl hr q=>
  intro x hp e;cases x<;>simp only[AV.ren,reduceCtorEq]at e;rename_i l;cases e;rw[mR]at hl hr q;refine .clo (by simpa using hl) λj x v d hv=>?_
  exact q j (x.ren g) v (by rw[bi,d];rfl) hv x (mf hp x (bh d)) rfl
def BC.ren (g:Nat->Nat):BC->BC
 |.fz l=>.fz l
 |.mx l=>.mx (l.map (AV.ren g))
 |.mp es=>.mp (es.map λp=>(p.1,p.2.ren g))
 |.it s p=>.it s p
def u_.ren (g:Nat->Nat) (b:u_):u_:=⟨b.ty,b.c.ren g⟩
theorem iV.renTo {φ φ':PM} {g:Nat->Nat} {O O':Nat->Prop} {w:World} (hk:∀x v,cH φ O w x v->cH φ' O' w (x.ren g) v) {b:u_} {o:Obj} (h:iV φ O w b o):iV φ' O' w (b.ren g) o:=by
 obtain⟨ty,c⟩:=b;unfold iV at h ⊢;simp only[u_.ren];cases c with
 |fz l=>
  simp only[BC.ren];obtain⟨arr,h1,h2,A⟩:=h;refine ⟨arr,h1,h2,λj x z=>?_⟩;obtain⟨a,v,c,d⟩:=A j x z;simp only[BC.get]at z;obtain⟨q,_,rfl⟩:=jQ.1 z;exact⟨a,v,c,hk _ _ d⟩
 |mx l=>
  simp only[BC.ren];obtain⟨arr,h1,h2,A⟩:=h;refine ⟨arr,h1,by simpa[BC.len] using h2,λj x z=>?_⟩;simp only[BC.get,bi]at z;obtain⟨q,hq,rfl⟩:=jQ.1 z;obtain⟨a,v,c,d⟩:=A j q hq;exact⟨by rw[BJ];exact a,v,c,hk _ _ d⟩
 |mp es=>
  simp only[BC.ren];obtain⟨e,c,h1,h2,A⟩:=h;refine ⟨e,c,h1,by rw[V6];exact h2,λj x z=>?_⟩;rw[bi]at z;obtain⟨q,hq,rfl⟩:=jQ.1 z;obtain⟨m,a,b⟩:=A j q hq;exact⟨m,a,hk _ _ b⟩
 |it s p=>exact h
theorem iV.renFrom {φ φ':PM} {g:Nat->Nat} {O O':Nat->Prop} {w:World} {p:Nat->Bool} (hk:∀x v,x.all p=M->cH φ O w (x.ren g) v->cH φ' O' w x v) {b:u_} (hb:b.c.all p=M) {o:Obj} (h:iV φ O w (b.ren g) o):iV φ' O' w b o:=by
 obtain⟨ty,c⟩:=b;unfold iV at h ⊢;simp only[u_.ren]at h;cases c with
 |fz l=>
  simp only[BC.ren]at h;obtain⟨arr,h1,h2,A⟩:=h;refine ⟨arr,h1,h2,λj x z=>?_⟩;obtain⟨a,v,c,d⟩:=A j x z;simp only[BC.get]at z;obtain⟨q,_,rfl⟩:=jQ.1 z;exact⟨a,v,c,hk _ _ rfl d⟩
 |mx l=>
  simp only[BC.ren]at h;obtain⟨arr,h1,h2,A⟩:=h;refine ⟨arr,h1,by simpa[BC.len] using h2,λj x z=>?_⟩;simp only[BC.get]at z;obtain⟨a,v,c,d⟩:=A j (x.ren g) (by simp only[BC.get,bi,z];rfl);rw[BJ]at a;exact⟨a,v,c,hk _ _ (mf hb x (bh z)) d⟩
 |mp es=>
  simp only[BC.ren]at h;obtain⟨e,c,h1,h2,A⟩:=h;refine ⟨e,c,h1,by rw[V6]at h2;exact h2,λj x z=>?_⟩;obtain⟨m,a,b⟩:=A j (x.1,x.2.ren g) (by rw[bi,z];rfl);exact⟨m,a,hk _ _ (mf hb x.2 (c7.2 ⟨x,bh z,rfl⟩)) b⟩
 |it s p=>exact h
mutual
def BL (g:Nat->Nat):TV->TV
 |.row i=>.row (g i)
 |.rtl i j=>.rtl (g i) j
 |.agg l=>.agg (kK g l)
 |.tup l=>.tup (kK g l)
 |.clo q l=>.clo q (kK g l)
 |.f T v=>.f T v
 |.fel T xs j h off=>.fel T xs j h off
 |.pel a b c d=>.pel (g a) b c d
 |.ptr a b=>.ptr (g a) b
 |.csl a b c=>.csl (g a) b c
 |.emp=>.emp
 |.nil=>.nil
 |.mp i=>.mp (g i)
 |.undef=>.undef
 |.np=>.np
 |.anyb=>.anyb
 |.ful T xs=>.ful T xs
def kK (g:Nat->Nat):Y TV->Y TV
 |[]=>[]
 |x::r=>BL g x::kK g r
end
theorem zk (g:Nat->Nat):∀l,kK g l=l.map (BL g)
 |[]=>rfl
 |x::r=>by rw[kK,zk g r];rfl
def lJ (g:Nat->Nat):ia->ia
 |.cells ty l=>.cells ty (kK g l)
 |.rows ty p T xs=>.rows ty p T xs
 |.dead p sz n=>.dead p sz n
 |.mp K V es=>.mp K V es
theorem HB (g:Nat->Nat) (b:ia):mM (lJ g b)=mM b:=by cases b<;>rfl
def Hh (g:Nat->Nat) (n:Nat):Nat:=nm (g (ow n))
theorem wI (g:Nat->Nat) (i:Nat):Hh g (nm i)=nm (g i):=by unfold Hh;rw[dQ]
mutual
theorem afo {g:Nat->Nat} {h1 h2:bl} (hrow:∀i r,eh h1 i=Z r->eh h2 (g i)=Z r):∀(v:TV) (y:AV),b_ h1 v=Z y->b_ h2 (BL g v)=Z (y.ren (Hh g))
 |.f _ _,y,he=>by simp only[b_,af]at he;subst he;rfl
 |.fel _ _ _ _ _,y,he=>by simp only[b_,af]at he;subst he;rfl
 |.pel _ _ _ _,y,he=>by simp only[b_,af]at he;subst he;simp only[BL,b_,AV.ren,wI]
 |.ptr _ _,y,he=>by simp only[b_,af]at he;subst he;simp only[BL,b_,AV.ren,wI]
 |.csl _ _ _,y,he=>by simp only[b_,af]at he;subst he;simp only[BL,b_,AV.ren,wI]
 |.row id,y,he=>by
  simp only[b_]at he;split at he
  .rename_i p sz n hr;simp only[af]at he;subst he;simp only[BL,b_,hrow id _ hr];unfold fd;split
   .rfl
   .simp only[AV.ren,wI]
  .cases he
 |.rtl id jj,y,he=>by
  simp only[b_]at he;split at he
  .rename_i p sz n hr;simp only[af]at he;subst he;simp only[BL,b_,hrow id _ hr,AV.ren,wI]
  .cases he
 |.emp,y,he=>by simp only[b_,af]at he;subst he;rfl
 |.nil,y,he=>by simp only[b_,af]at he;subst he;rfl
 |.mp _,y,he=>by simp only[b_,af]at he;subst he;simp only[BL,b_,AV.ren,wI]
 |.agg l,y,he=>by
  simp only[b_]at he;split at he
  .rename_i l' hl;simp only[af]at he;subst he;simp only[BL,b_,o7 hrow l l' hl,AV.ren]
  .cases he
 |.tup l,y,he=>by
  simp only[b_]at he;split at he
  .rename_i l' hl;simp only[af]at he;subst he;simp only[BL,b_,o7 hrow l l' hl,AV.ren]
  .cases he
 |.clo q l,y,he=>by
  simp only[b_]at he;split at he
  .rename_i l' hl;simp only[af]at he;subst he;simp only[BL,b_,o7 hrow l l' hl,AV.ren]
  .cases he
 |.undef,y,he=>by simp only[b_,af]at he;subst he;rfl
 |.np,y,he=>by simp only[b_,af]at he;subst he;rfl
 |.anyb,y,he=>by simp only[b_,af]at he;subst he;rfl
 |.ful _ _,y,he=>by simp only[b_,af]at he;subst he;rfl
theorem o7 {g:Nat->Nat} {h1 h2:bl} (hrow:∀i r,eh h1 i=Z r->eh h2 (g i)=Z r):∀(l:Y TV) (l':Y AV),cD h1 l=Z l'->cD h2 (kK g l)=Z (AV.renL (Hh g) l')
 |[],l',he=>by simp only[cD,af]at he;subst he;rfl
 |x::r,l',he=>by
  obtain⟨y,l2,rfl,e1,e2⟩:=cW he;exact o8 (afo hrow x y e1) (o7 hrow r l2 e2)
end
theorem Cm {g:Nat->Nat} {h1 h2:bl} (hrow:∀i r,eh h1 i=Z r->eh h2 (g i)=Z r) {b:ia} {y:u_} (he:jB h1 b=Z y):jB h2 (lJ g b)=Z (y.ren (Hh g)):=by
 cases b with
 |rows ty p T xs=>
  simp only[jB]at he;split at he
  .cases he
  .rename_i hc;simp only[af]at he;subst he;simp only[lJ,jB,aL hc];rfl
 |cells ty l=>
  cases ty with
  |some ty=>
   simp only[jB]at he;split at he
   .rename_i d hl;simp only[af]at he;subst he;simp only[lJ,jB,o7 hrow l d hl,mR];rfl
   .cases he
  |none=>
   simp only[jB]at he;split at he
   .rename_i d hl;simp only[af]at he;subst he;simp only[lJ,jB,o7 hrow l d hl,mR,u_.ren,BC.ren,<-PF]
   .cases he
 |dead p sz n=>cases he
 |mp K V es=>
  simp only[jB,af]at he;subst he;simp only[lJ,jB,u_.ren,af,u_.mk.injEq,AC];unfold Y1;split
  .rfl
  .simp only[BC.ren,G2];rfl
theorem BK (g:Nat->Nat) (a b:Y TV):kK g (a++b)=kK g a++kK g b:=by
 rw[zk,zk,zk,da]
theorem pM (g:Nat->Nat):∀(n:Nat) (T:Ty) (v:T.den) (l:Y TV),cellsOf n T v=Z l->kK g l=l
 |0,_,_,_,he=>by simp[cellsOf]at he
 |n+1,.st t,v,l,he=>pM g n t v l he
 |n+1,.pr a b,v,l,he=>by
  simp only[cellsOf]at he;split at he
  .rename_i x y q d;simp only[af]at he;subst he;rw[BK,pM g n a v.1 x q,pM g n b v.2 y d]
  .cases he
 |n+1,.un,v,l,he=>by simp only[cellsOf,af]at he;subst he;rfl
 |n+1,.ex,v,l,he=>pM g n Mm (M4 v) l he
 |n+1,.sm,v,l,he=>pM g n LR (M3 v) l he
 |n+1,.int k,v,l,he=>by simp only[cellsOf,af]at he;subst he;rfl
 |n+1,.bool,v,l,he=>by simp only[cellsOf,af]at he;subst he;rfl
 |n+1,.str,v,l,he=>by simp only[cellsOf,af]at he;subst he;rfl
 |n+1,.sl t,v,l,he=>by simp only[cellsOf,af]at he;subst he;rfl
abbrev Ha:Nat->Nat:=λi=>i
mutual
theorem YM (g:Nat->Nat):∀(p:PV) (x:p.ty.den),pQ g p x=(pQ Ha p x).map (kK g)
 |.d T,x=>by
  simp only[pQ];cases h:cellsOf 40 T x with
  |none=>rfl
  |some l=>simp only[bU,pM g 40 T x l h]
 |.ptr i o,x=>rfl
 |.csl i o z,x=>rfl
 |.clo q i o,x=>rfl
 |.row i,x=>rfl
 |.mp i,x=>rfl
 |.nil,x=>rfl
 |.emp,x=>rfl
 |.agg ps,x=>zl g ps x
theorem zl (g:Nat->Nat):∀(ps:Y PV) (x:(PV.tyL ps).den),qL g ps x=(qL Ha ps x).map (kK g)
 |[],x=>rfl
 |p::r,x=>by
  simp only[qL];rw[YM g p,zl g r];cases pQ Ha p (NT p.ty (PV.tyL r) x) with
  |none=>rfl
  |some a=>
   cases qL Ha r (Kx p.ty (PV.tyL r) x) with
   |none=>rfl
   |some b=>simp only[bU,BK]
end
def afy (o:J (Y TV)):J TV:=match o with|some l=>Z (.agg l)|none=>U
theorem Z8 (g:Nat->Nat) (o:J (Y TV)):afy (o.map (kK g))=(afy o).map (BL g):=by cases o<;>rfl
theorem YK (g:Nat->Nat) (p:PV) (x:p.ty.den):sR g p x=(sR Ha p x).map (BL g):=by
 cases p with
 |agg ps=>exact (iX afy (zl g ps x)).trans (Z8 g _)
 |_=>rfl
theorem s8 (g:Nat->Nat):∀(ps:Y PV) (x:(PV.tyL ps).den),pY g ps x=(pY Ha ps x).map (kK g)
 |[],x=>rfl
 |p::r,x=>by
  simp only[pY];rw[YK g p,s8 g r];cases sR Ha p (NT p.ty (PV.tyL r) x) with
  |none=>rfl
  |some a=>
   cases pY Ha r (Kx p.ty (PV.tyL r) x) with
   |none=>rfl
   |some b=>rfl
def Ux (ty:J TypeId) (o:J (Y TV)):J (J ia):=match o with|some l=>Z (Z (.cells ty l))|none=>U
theorem Uw (g:Nat->Nat) (ty:J TypeId) (o:J (Y TV)):Ux ty (o.map (kK g))=(Ux ty o).map (l7 (lJ g)):=by cases o<;>rfl
theorem YN (g:Nat->Nat) (b:PB) (x:b.ty.den):BQ g b x=(BQ Ha b x).map (l7 (lJ g)):=by
 cases b with
 |cells ty ps=>exact (iX (Ux ty) (zl g ps x)).trans (Uw g ty _)
 |_=>rfl
theorem vm (g:Nat->Nat):∀(bs:Y PB) (x:(PB.tyL bs).den),ou g bs x=(ou Ha bs x).map (List.map (l7 (lJ g)))
 |[],x=>rfl
 |b::r,x=>by
  simp only[ou];rw[YN g b,vm g r];cases BQ Ha b (NT b.ty (PB.tyL r) x) with
  |none=>rfl
  |some a=>
   cases ou Ha r (Kx b.ty (PB.tyL r) x) with
   |none=>rfl
   |some l=>rfl
theorem BP (g:Nat->Nat):∀(bs:Y PB) (x:(PB.tyL bs).den) (l:Y (J ia)),ou g bs x=Z l->l.length=bs.length
 |[],x,l,h=>by simp only[ou,af]at h;subst h;rfl
 |b::r,x,l,h=>by
  simp only[ou]at h;split at h
  .split at h
   .rename_i q hq;simp only[af]at h;subst h;simp[BP g r _ q hq]
   .cases h
  .cases h
theorem IE (h:bl) (i j:Nat):(kill h i).get j=if j=i then (h.get i).map uA else h.get j:=by
 unfold kill;cases hb:h.get i with
 |none=>
  simp only[Option.map_none];split
  .rename_i e;rw[e,hb]
  .rfl
 |some b=>rw[PT.get_set];rfl
theorem uy (g:Nat->Nat):∀(l:Y (J ia)) (i:Nat) (h:bl) (j:Nat),(∀k,k<l.length->j≠g (i+k))->(zN g i l h).get j=h.get j
 |[],i,h,j,_=>rfl
 |some c::r,i,h,j,hj=>by
  rw[zN,uy g r (i+1) _ j (λk hk=>by have:=hj (k+1) (by simpa using hk);rwa [show i+1+k=i+(k+1) from by omega]),PT.get_set,aL];exact hj 0 (by simp)
 |none::r,i,h,j,hj=>by
  rw[zN,uy g r (i+1) _ j (λk hk=>by have:=hj (k+1) (by simpa using hk);rwa [show i+1+k=i+(k+1) from by omega]),IE,aL];exact hj 0 (by simp)
theorem uz (g:Nat->Nat):∀(l:Y (J ia)) (i:Nat) (h:bl),(∀a b,a<l.length->b<l.length->g (i+a)=g (i+b)->a=b)->∀(k:Nat) (c:J ia),l[k]? =Z c->(zN g i l h).get (g (i+k))=(match c with|some b=>Z b|none=>(h.get (g (i+k))).map uA)
 |[],i,h,_,k,c,hk=>by simp at hk
 |o::r,i,h,hinj,k,c,hk=>by
  have hinj':∀a b,a<r.length->b<r.length->g (i+1+a)=g (i+1+b)->a=b:=λa b q hb e=>by
   have:=hinj (a+1) (b+1) (by simpa using q) (by simpa using hb) (by rw[show i+(a+1)=i+1+a from by omega,show i+(b+1)=i+1+b from by omega];exact e);omega
  cases k with
  |zero=>
   simp at hk;subst hk;have hne:∀k,k<r.length->g (i+0)≠g (i+1+k):=λk hk e=>by
    have:=hinj 0 (k+1) (by simp) (by simpa using hk) (by rw[show i+(k+1)=i+1+k from by omega];exact e);omega
   cases o with
   |some b=>rw[zN,uy g r (i+1) _ _ hne];simp only[dh];rw[PT.get_set,aT rfl]
   |none=>rw[zN,uy g r (i+1) _ _ hne];simp only[dh];rw[IE,aT rfl]
  |succ k=>
   have d:r[k]? =Z c:=by simpa using hk
   have hkl:k<r.length:=(bm.1 d).1;have hne:g (i+(k+1))≠g i:=λe=>by
    have:=hinj (k+1) 0 (by simpa using hkl) (by simp) (by rw[e];rfl);omega
   rw[show i+(k+1)=i+1+k from by omega]at hne ⊢;cases o with
   |some b=>
    rw[zN,uz g r (i+1) _ hinj' k c d];cases c with
    |some _=>rfl
    |none=>simp only[PT.get_set,aL hne]
   |none=>
    rw[zN,uz g r (i+1) _ hinj' k c d];cases c with
    |some _=>rfl
    |none=>simp only[IE,aL hne]
def w_ (h' h:bl):Prop:=∀i r,eh h' i=Z r->eh h i=Z r
section get
variable {h h':bl} {H H':HF} {g:Nat->Nat}
theorem lw.agg {l d:Y AV} (hl:gT H H' l d) (hc:∀x∈d,x.isCell=M):lw H H' (.agg l) (.agg d):=by
 intro φ E w v hrep hr;cases hr with
 |@agg _ vs hlen hcl hrr=>
  refine .agg (by rw[hlen,<-hl.length]) hc λj y u q hu=>?_
  obtain⟨x,s,hle⟩:=hl.get j y q;exact hle φ E w u hrep (hrr j x u s hu)
theorem Pk (hr:w_ h' h) {i:Nat} {y s:AV} (q:b_ h (.row i)=Z y) (d:b_ h' (.row i)=Z s):s=y:=by
 simp only[b_]at q d;cases h1:eh h' i with
 |none=>rw[h1]at d;cases d
 |some r=>
  rw[h1]at d;rw[hr i r h1]at q;rw[q]at d;cases d;rfl
mutual
theorem aci (d:ul H H') (hr:w_ h' h):∀(p:PV) (l:Y TV) (x:p.ty.den) (m:Nat) (r:Y TV) (cs:Y TV) (l' cs':Y AV),px g h p l=Z (x,m,r)->pQ g p x=Z cs->cD h l=Z l'->cD h' cs=Z cs'->Dh h H H' m->∃l1 l2,l'=l1++l2/\cD h r=Z l2/\gT H H' l1 cs'
 |.d T,l,x,m,r,cs,l',cs',hg,hp,hl,hc,gv=>by
  obtain⟨l1,l2,e1,e2,e3⟩:=rT d 40 T l x m r l' hg hl gv;have:=(lV h' 40 T x cs hp).1;rw[hc]at this;cases this;exact⟨l1,l2,e1,e2,e3⟩
 |.ptr i q,l,x,m,r,cs,l',cs',hg,hp,hl,hc,gv=>by
  simp only[px]at hg;split at hg
  .rename_i i' o' r';split at hg
   .rename_i hb;simp only[ak]at hb;have e1:=au hb.1;have e2:=au hb.2;subst e1;subst e2;simp only[af,aC]at hg;obtain⟨_,_,rfl⟩:=hg;simp only[pQ,af]at hp;subst hp;obtain⟨y,l2,rfl,g1,g2⟩:=cW hl;simp only[b_,af]at g1;subst g1;simp only[cD,b_,af]at hc;subst hc;exact⟨[_],l2,rfl,g2,lw.refl d _,trivial⟩
   .cases hg
  .cases hg
 |.csl i q z,l,x,m,r,cs,l',cs',hg,hp,hl,hc,gv=>by
  simp only[px]at hg;split at hg
  .rename_i i' o' z' r';split at hg
   .rename_i hb;simp only[ak]at hb;have e1:=au hb.1.1;have e2:=au hb.1.2;have e3:=au hb.2;subst e1;subst e2;subst e3;simp only[af,aC]at hg;obtain⟨_,_,rfl⟩:=hg;simp only[pQ,af]at hp;subst hp;obtain⟨y,l2,rfl,g1,g2⟩:=cW hl;simp only[b_,af]at g1;subst g1;simp only[cD,b_,af]at hc;subst hc;exact⟨[_],l2,rfl,g2,lw.refl d _,trivial⟩
   .cases hg
  .cases hg
 |.clo q i z,l,x,m,r,cs,l',cs',hg,hp,hl,hc,gv=>by
  simp only[px]at hg;split at hg
  .rename_i q' i' z' r';split at hg
   .rename_i hb;simp only[ak]at hb;have e1:=au hb.1.1;have e2:=au hb.1.2;have e3:=au hb.2;subst e1;subst e2;subst e3;simp only[af,aC]at hg;obtain⟨_,_,rfl⟩:=hg;simp only[pQ,af]at hp;subst hp;obtain⟨y,l2,rfl,g1,g2⟩:=cW hl;simp only[b_,cD,af]at g1;subst g1;simp only[cD,b_,af]at hc;subst hc;exact⟨[_],l2,rfl,g2,lw.refl d _,trivial⟩
   .cases hg
  .cases hg
 |.row i,l,x,m,r,cs,l',cs',hg,hp,hl,hc,gv=>by
  simp only[px]at hg;split at hg
  .rename_i i' r';split at hg
   .rename_i hb;have e1:=au hb;subst e1;simp only[af,aC]at hg;obtain⟨_,_,rfl⟩:=hg;simp only[pQ,af]at hp;subst hp;obtain⟨y,l2,rfl,g1,g2⟩:=cW hl;obtain⟨y',l3,rfl,g3,g4⟩:=cW hc;simp only[cD,af]at g4;subst g4;rw[Pk hr g1 g3];exact⟨[_],l2,rfl,g2,lw.refl d _,trivial⟩
   .cases hg
  .cases hg
 |.mp i,l,x,m,r,cs,l',cs',hg,hp,hl,hc,gv=>by
  simp only[px]at hg;split at hg
  .rename_i i' r';split at hg
   .rename_i hb;have e1:=au hb;subst e1;simp only[af,aC]at hg;obtain⟨_,_,rfl⟩:=hg;simp only[pQ,af]at hp;subst hp;obtain⟨y,l2,rfl,g1,g2⟩:=cW hl;simp only[b_,af]at g1;subst g1;simp only[cD,b_,af]at hc;subst hc;exact⟨[_],l2,rfl,g2,lw.refl d _,trivial⟩
   .cases hg
  .cases hg
 |.nil,l,x,m,r,cs,l',cs',hg,hp,hl,hc,gv=>by
  simp only[px]at hg;split at hg
  .simp only[af,aC]at hg;obtain⟨_,_,rfl⟩:=hg;simp only[pQ,af]at hp;subst hp;obtain⟨y,l2,rfl,g1,g2⟩:=cW hl;simp only[b_,af]at g1;subst g1;simp only[cD,b_,af]at hc;subst hc;exact⟨[_],l2,rfl,g2,lw.refl d _,trivial⟩
  .cases hg
 |.emp,l,x,m,r,cs,l',cs',hg,hp,hl,hc,gv=>by
  simp only[px]at hg;split at hg
  .simp only[af,aC]at hg;obtain⟨_,_,rfl⟩:=hg;simp only[pQ,af]at hp;subst hp;obtain⟨y,l2,rfl,g1,g2⟩:=cW hl;simp only[b_,af]at g1;subst g1;simp only[cD,b_,af]at hc;subst hc;exact⟨[_],l2,rfl,g2,Le.nilEmp.toH d,trivial⟩
  .simp only[af,aC]at hg;obtain⟨_,_,rfl⟩:=hg;simp only[pQ,af]at hp;subst hp;obtain⟨y,l2,rfl,g1,g2⟩:=cW hl;simp only[b_,af]at g1;subst g1;simp only[cD,b_,af]at hc;subst hc;exact⟨[_],l2,rfl,g2,lw.refl d _,trivial⟩
  .cases hg
 |.agg ps,l,x,m,r,cs,l',cs',hg,hp,hl,hc,gv=>Ci d hr ps l x m r cs l' cs' hg hp hl hc gv
theorem Ci (d:ul H H') (hr:w_ h' h):∀(ps:Y PV) (l:Y TV) (x:(PV.tyL ps).den) (m:Nat) (r:Y TV) (cs:Y TV) (l' cs':Y AV),yB g h ps l=Z (x,m,r)->qL g ps x=Z cs->cD h l=Z l'->cD h' cs=Z cs'->Dh h H H' m->∃l1 l2,l'=l1++l2/\cD h r=Z l2/\gT H H' l1 cs'
 |[],l,x,m,r,cs,l',cs',hg,hp,hl,hc,gv=>by
  simp only[yB,af,aC]at hg;obtain⟨_,_,rfl⟩:=hg;simp only[qL,af]at hp;subst hp;simp only[cD,af]at hc;subst hc;exact⟨[],l',rfl,hl,trivial⟩
 |p::ps,l,x,m,r,cs,l',cs',hg,hp,hl,hc,gv=>by
  simp only[yB]at hg;split at hg
  .rename_i x1 m1 r1 h1;split at hg
   .rename_i x2 m2 r2 h2;simp only[af,aC]at hg;obtain⟨rfl,rfl,rfl⟩:=hg;simp only[qL,sX,uu]at hp;split at hp
    .rename_i a ha;split at hp
     .rename_i b hb;simp only[af]at hp;subst hp;obtain⟨a',b',rfl,ea,eb⟩:=Be hc;obtain⟨ga,gb⟩:=gv.or;obtain⟨l1,l2,rfl,q1,q2⟩:=aci d hr p l _ _ _ a l' a' h1 ha hl ea ga;obtain⟨l3,l4,rfl,q3,q4⟩:=Ci d hr ps _ _ _ _ b l2 b' h2 hb q1 eb gb;exact⟨l1++l3,l4,by simp,q3,q2.append q4⟩
     .cases hp
    .cases hp
   .cases hg
  .cases hg
end
mutual
theorem Wn:∀(p:PV) (x:p.ty.den) (cs:Y TV),pQ g p x=Z cs->kF cs=M
 |.d T,x,cs,hp=>(lV PT.leaf 40 T x cs hp).2
 |.ptr i q,x,cs,hp=>by simp only[pQ,af]at hp;subst hp;rfl
 |.csl i q z,x,cs,hp=>by simp only[pQ,af]at hp;subst hp;rfl
 |.clo q i z,x,cs,hp=>by simp only[pQ,af]at hp;subst hp;rfl
 |.row i,x,cs,hp=>by simp only[pQ,af]at hp;subst hp;rfl
 |.mp i,x,cs,hp=>by simp only[pQ,af]at hp;subst hp;rfl
 |.nil,x,cs,hp=>by simp only[pQ,af]at hp;subst hp;rfl
 |.emp,x,cs,hp=>by simp only[pQ,af]at hp;subst hp;rfl
 |.agg ps,x,cs,hp=>wj ps x cs hp
theorem wj:∀(ps:Y PV) (x:(PV.tyL ps).den) (cs:Y TV),qL g ps x=Z cs->kF cs=M
 |[],x,cs,hp=>by simp only[qL,af]at hp;subst hp;rfl
 |p::ps,x,cs,hp=>by
  simp only[qL]at hp;split at hp
  .rename_i a ha;split at hp
   .rename_i b hb;simp only[af]at hp;subst hp;exact RI (Wn p _ a ha) (wj ps _ b hb)
   .cases hp
  .cases hp
end
theorem ach (d:ul H H') (hr:w_ h' h) {p:PV} {v:TV} {x:p.ty.den} {m:Nat} {u:TV} {y D:AV} (hg:wG g h p v=Z (x,m)) (hp:sR g p x=Z u) (A:b_ h v=Z y) (s:b_ h' u=Z D) (F:Dh h H H' m):lw H H' y D:=by
 cases p with
 |d T=>
  simp only[sR,af]at hp;subst hp;simp only[b_,af]at s;subst s;exact (OC d hg A F).1
 |agg ps=>
  simp only[wG]at hg;split at hg
  .cases hg
  .rename_i hc;split at hg
   .rename_i l hl;split at hg
    .rename_i x1 m1 h1;simp only[af,aC]at hg;obtain⟨rfl,rfl⟩:=hg;simp only[sR]at hp;split at hp
     .rename_i cs hcs;simp only[af]at hp;subst hp;simp only[b_]at s;split at s
      .rename_i cs' hcs';simp only[af]at s;subst s;obtain⟨e1,e2⟩:=Jz hl A;obtain⟨l1,l2,q1,q2,q3⟩:=Ci d hr ps l _ _ [] cs y.cs cs' h1 hcs e1 hcs' F;simp only[cD,af]at q2;subst q2;rw[ol]at q1;subst q1;have hcell:∀x∈cs',x.isCell=M:=lY (rR hcs' (wj ps _ cs hcs));cases v with
       |agg q=>
        simp only[b_]at A;split at A
        .simp only[af]at A;subst A;exact lw.agg q3 hcell
        .cases A
       |f S z=>
        simp only[b_,af]at A;subst A;have I:S.one=aa:=by simpa[TV.isC] using hc
        rw[zE]at q3;rw[qv S z I];intro φ E w v hrep hrel;exact lw.agg q3 hcell φ E w v hrep (Le.aggF _ _ _ _ hrel)
       |tup q=>simp[TV.cs,TV.isC]at hl
       |undef=>simp[TV.cs,TV.isC]at hl
       |np=>simp[TV.isC]at hc
       |anyb=>simp[TV.cs,TV.isC]at hl
       |ful S q=>simp[TV.cs,TV.isC]at hl
       |fel T xs j hj off=>simp[TV.isC]at hc
       |pel id sz j off=>simp[TV.isC]at hc
       |ptr id off=>simp[TV.isC]at hc
       |csl id off z=>simp[TV.isC]at hc
       |row id=>simp[TV.isC]at hc
       |emp=>simp[TV.isC]at hc
       |nil=>simp[TV.isC]at hc
       |mp id=>simp[TV.isC]at hc
       |rtl id L=>cases hl
       |clo g l=>simp[TV.isC]at hc
      .cases s
     .cases hp
    .cases hg
   .cases hg
 |ptr i q=>
  simp only[sR,af]at hp;subst hp;simp only[wG]at hg;split at hg
  .rename_i h1;simp only[px]at h1;split at h1
   .rename_i e;simp only[iP]at e;obtain⟨rfl,_⟩:=e;split at h1
    .rename_i hb;simp only[ak]at hb;have e1:=au hb.1;have e2:=au hb.2;subst e1;subst e2;simp only[b_,af]at A s;subst A;subst s;exact lw.refl d _
    .cases h1
   .cases h1
  .cases hg
 |csl i q z=>
  simp only[sR,af]at hp;subst hp;simp only[wG]at hg;split at hg
  .rename_i h1;simp only[px]at h1;split at h1
   .rename_i e;simp only[iP]at e;obtain⟨rfl,_⟩:=e;split at h1
    .rename_i hb;simp only[ak]at hb;have e1:=au hb.1.1;have e2:=au hb.1.2;have e3:=au hb.2;subst e1;subst e2;subst e3;simp only[b_,af]at A s;subst A;subst s;exact lw.refl d _
    .cases h1
   .cases h1
  .cases hg
 |clo q i z=>
  simp only[sR,af]at hp;subst hp;simp only[wG]at hg;split at hg
  .rename_i h1;simp only[px]at h1;split at h1
   .rename_i e;simp only[iP]at e;obtain⟨rfl,_⟩:=e;split at h1
    .rename_i hb;simp only[ak]at hb;have e1:=au hb.1.1;have e2:=au hb.1.2;have e3:=au hb.2;subst e1;subst e2;subst e3;simp only[b_,cD,af]at A s;subst A;subst s;exact lw.refl d _
    .cases h1
   .cases h1
  .cases hg
 |row i=>
  simp only[sR,af]at hp;subst hp;simp only[wG]at hg;split at hg
  .rename_i h1;simp only[px]at h1;split at h1
   .rename_i e;simp only[iP]at e;obtain⟨rfl,_⟩:=e;split at h1
    .rename_i hb;have e1:=au hb;subst e1;rw[Pk hr A s];exact lw.refl d _
    .cases h1
   .cases h1
  .cases hg
 |mp i=>
  simp only[sR,af]at hp;subst hp;simp only[wG]at hg;split at hg
  .rename_i h1;simp only[px]at h1;split at h1
   .rename_i e;simp only[iP]at e;obtain⟨rfl,_⟩:=e;split at h1
    .rename_i hb;have e1:=au hb;subst e1;simp only[b_,af]at A s;subst A;subst s;exact lw.refl d _
    .cases h1
   .cases h1
  .cases hg
 |nil=>
  simp only[sR,af]at hp;subst hp;simp only[wG]at hg;split at hg
  .rename_i h1;simp only[px]at h1;split at h1
   .rename_i e;simp only[iP]at e;obtain⟨rfl,_⟩:=e;simp only[b_,af]at A s;subst A;subst s;exact lw.refl d _
   .cases h1
  .cases hg
 |emp=>
  simp only[sR,af]at hp;subst hp;simp only[wG]at hg;split at hg
  .rename_i h1;simp only[px]at h1;split at h1
   .rename_i e;simp only[iP]at e;obtain⟨rfl,_⟩:=e;simp only[b_,af]at A s;subst A;subst s;exact Le.nilEmp.toH d
   .rename_i e;simp only[iP]at e;obtain⟨rfl,_⟩:=e;simp only[b_,af]at A s;subst A;subst s;exact lw.refl d _
   .cases h1
  .cases hg
theorem Cg (d:ul H H') (hr:w_ h' h):∀(ps:Y PV) (vs:Y TV) (x:(PV.tyL ps).den) (m:Nat) (us:Y TV) (l s:Y AV),xm g h ps vs=Z (x,m)->pY g ps x=Z us->cD h vs=Z l->cD h' us=Z s->Dh h H H' m->gT H H' l s
 |[],[],x,m,us,l,s,hg,hp,hl,q,z=>by
  simp only[pY,af]at hp;subst hp;simp only[cD,af]at hl q;subst hl;subst q;trivial
 |[],_::_,x,m,us,l,s,hg,_,_,_,_=>by simp[xm]at hg
 |_::_,[],x,m,us,l,s,hg,_,_,_,_=>by simp[xm]at hg
 |p::ps,v::vs,x,m,us,l,s,hg,hp,hl,q,z=>by
  simp only[xm]at hg;split at hg
  .rename_i x1 m1 h1;split at hg
   .rename_i x2 m2 h2;simp only[af,aC]at hg;obtain⟨rfl,rfl⟩:=hg;simp only[pY,sX,uu]at hp;split at hp
    .rename_i a D;split at hp
     .rename_i b hb;simp only[af]at hp;subst hp;obtain⟨y,l2,rfl,e1,e2⟩:=cW hl;obtain⟨y',A,rfl,e3,L⟩:=cW q;obtain⟨I,F⟩:=z.or;exact⟨ach d hr h1 D e1 e3 I,Cg d hr ps vs _ _ b l2 A h2 hb e2 L F⟩
     .cases hp
    .cases hp
   .cases hg
  .cases hg
inductive BM (g:Nat->Nat) (h:bl) (m:Nat):ia->ia->Prop
 |rows (ty:TypeId) (p:Bool) (T:Ty) (xs:List T.den):BM g h m (.rows ty p T xs) (.rows ty p T xs)
 |mp (K V:Ty) (es:List (K.den×V.den)):BM g h m (.mp K V es) (.mp K V es)
 |cells (ty:Option TypeId) (ps:List PV) (x:(PV.tyL ps).den) (l l2:List TV) (m':Nat) (hg:yB g h ps l=Z (x,m',[])) (hp:qL g ps x=Z l2) (hm:∀i,aO m' i=M->aO m i=M):BM g h m (.cells ty l) (.cells ty l2)
theorem BM.mono {m m2:Nat} (hm:∀i,aO m i=M->aO m2 i=M) {b c:ia} (h1:BM g h m b c):BM g h m2 b c:=by
 cases h1 with
 |rows ty p T xs=>exact .rows ty p T xs
 |mp K V es=>exact .mp K V es
 |cells ty ps x l l2 m' hg hp d=>exact .cells ty ps x l l2 m' hg hp λi hi=>hm i (d i hi)
theorem acj {i:Nat} {b:PB} {x:b.ty.den} {m:Nat} {c:ia} (hg:DW g h i b=Z (x,m)) (hp:BQ g b x=Z (Z c)):∃b0,h.get (g i)=Z b0/\BM g h m b0 c:=by
 cases b with
 |rows ty p T=>
  simp only[DW]at hg;split at hg
  .rename_i ty' s S xs hb;split at hg
   .rename_i hc;simp only[ak,cR]at hc;obtain⟨rfl,rfl⟩:=hc;split at hg
    .rename_i z d;simp only[af,aC]at hg;obtain⟨rfl,rfl⟩:=hg;obtain⟨e,rfl⟩:=gO d;cases e;simp only[BQ,af]at hp;subst hp;exact⟨_,hb,.rows _ _ _ _⟩
    .cases hg
   .cases hg
  .cases hg
 |rowsP ty T=>
  simp only[DW]at hg;split at hg
  .rename_i ty' s S xs hb;split at hg
   .rename_i hc;have hc:ty=ty':=by simpa using hc
    subst hc;split at hg
    .rename_i z d;simp only[af,aC]at hg;obtain⟨rfl,rfl⟩:=hg;obtain⟨e,rfl⟩:=gO d;cases e;simp only[BQ,af]at hp;subst hp;exact⟨_,hb,.rows _ _ _ _⟩
    .cases hg
   .cases hg
  .cases hg
 |cells ty ps=>
  simp only[DW]at hg;split at hg
  .rename_i ty' l hb;split at hg
   .rename_i hc;have hc:ty=ty':=by simpa using hc
    subst hc;split at hg
    .rename_i z m1 d;simp only[af,aC]at hg;obtain⟨rfl,rfl⟩:=hg;simp only[BQ]at hp;split at hp
     .rename_i l2 q;simp only[af]at hp;subst hp;exact⟨_,hb,.cells ty ps _ l l2 _ d q λ_ h=>h⟩
     .cases hp
    .cases hg
   .cases hg
  .cases hg
 |mp K V=>
  simp only[DW]at hg;split at hg
  .rename_i K' V' es hb;split at hg
   .rename_i z d;simp only[af,aC]at hg;obtain⟨rfl,rfl⟩:=hg;obtain⟨e,rfl⟩:=gO d;cases e;simp only[BQ,af]at hp;subst hp;exact⟨_,hb,.mp _ _ _⟩
   .cases hg
  .cases hg
 |gone=>simp[BQ]at hp
theorem IG:∀(bs:Y PB) (i:Nat) (x:(PB.tyL bs).den) (m:Nat) (d:Y (J ia)),Ad g h i bs=Z (x,m)->ou g bs x=Z d->∀(k:Nat) c,d[k]? =Z (Z c)->∃b0,h.get (g (i+k))=Z b0/\BM g h m b0 c
 |[],i,x,m,d,hg,hp,k,c,hk=>by
  simp only[ou,af]at hp;subst hp;simp at hk
 |b::r,i,x,m,d,hg,hp,k,c,hk=>by
  simp only[Ad]at hg;split at hg
  .rename_i x1 m1 h1;split at hg
   .rename_i x2 m2 h2;simp only[af,aC]at hg;obtain⟨rfl,rfl⟩:=hg;simp only[ou,sX,uu]at hp;split at hp
    .rename_i a s;split at hp
     .rename_i q hq;simp only[af]at hp;subst hp;cases k with
      |zero=>
       simp at hk;subst hk;obtain⟨b0,e1,e2⟩:=acj h1 s;exact⟨b0,e1,e2.mono λi hi=>by rw[bw,hi];rfl⟩
      |succ k=>
       obtain⟨b0,e1,e2⟩:=IG r (i+1) _ _ q h2 hq k c (by simpa using hk);rw[show i+1+k=i+(k+1) from by omega]at e1;exact⟨b0,e1,e2.mono λi hi=>by rw[bw,hi];simp⟩
     .cases hp
    .cases hp
   .cases hg
  .cases hg
end get
end
end Go.Proofs.YtiaemgcbndhkfaaGreatDoor.AI
