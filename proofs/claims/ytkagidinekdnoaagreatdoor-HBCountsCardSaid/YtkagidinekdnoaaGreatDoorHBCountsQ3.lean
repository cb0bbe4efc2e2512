/-
  Texts of the proof, part 4 of 5: what is used to prove the statement. No condition.
-/
import Derived.Test.YtkagidinekdnoaaGreatDoorHBCountsQ2
import Derived.Defers
namespace Go.Proofs.YtkagidinekdnoaaGreatDoor.AI
open Go.RowKit
set_option maxRecDepth 100000
set_option maxHeartbeats 4000000
set_option linter.unusedVariables false
set_option linter.unusedSimpArgs false
open Act renaming put→LY
open _root_.Array renaming length_toList→ia,range→xp
open _root_.Bool renaming true→ah,false→ai
open Builtin renaming zeroCells→kQ,firstCells→Jw
open Call renaming operands→eH
open Instr renaming findNow→jg,sliceBounds→jz,sliceBound→j9,sliceAt→oV,slice→tD
open _root_.Int renaming ofNat→aN,toNat→aR
open IntKind renaming wrap→oo
open _root_.List renaming length→ak,replicate→aE,length_cons→bU,take→dF,range→eg,cons_append→fZ,length_nil→jF,toArray→kg,nil_append→ll,take_succ_cons→uJ
open _root_.Nat renaming beq→aA,testBit→aL,add_zero→db,ble→ep,blt→fV,min→iB
open Oper renaming wp→F0
open _root_.Option renaming some→aa,none→af,bind_some→aF,map_some→b8,map→lj
open Region renaming wanted→ir
open Result renaming andThen_ok→cD
open Sem renaming run_bind→em,run→mV,run_pure→ol
open Value.bool renaming injEq→A_
open World renaming shape?→qM,cell?→LV
noncomputable section
theorem qh.wren {φ:PM} {E:Nat->Prop} {h:HF} {w w':World} (r:qh φ E h w) {id nx k:Nat} {b b':vN} {ob:Obj} (hb:h id=aa b) (hk:φ id=aa k) (hnx:φ nx=af) (U:D3 w w' k ob) (hob:jd φ (tot E φ h) w b' ob) (nw:HF) (hnw:nw nx=aa b') (hnid:nw id=af):
 ∃ φ',φ' nx=aa k/\iK φ φ' h (eJ h [nx,id] nw) w w'/\(∀ i k,φ' i=aa k->φ i=aa k\/i∈[nx])/\qh φ' E (eJ h [nx,id] nw) w':=by
 have hne:nx≠id:=λe=>by rw[e,hk] at hnx;cases hnx
 have hsub:∀ i x,eJ h [nx,id] nw i=aa x->i≠nx->h i=aa x/\i≠id:=λi x Y hi=>by
  unfold eJ at Y;by_cases hd:i=id
  .subst hd;simp[hnid] at Y
  .simp[hi,hd] at Y;exact⟨Y,hd⟩
 have hφ:∀ i,i≠nx->(if i=nx then aa k else φ i)=φ i:=λi hi=>by simp[hi]
 have m:iK φ (λi=>if i=nx then aa k else φ i) h (eJ h [nx,id] nw) w w':=by
  refine ⟨λi k' M=>?_,⟨U.os,U.tape,U.output,by rw[U.size];exact bO _,λj hj ho=>?_,λj _=>U.shp j⟩,?_⟩
  .have:i≠nx:=λe=>by rw[e,hnx] at M;cases M
   rw[hφ i this];exact M
  .exact U.other j (λe=>ho (e▸⟨id,b,hb,hk⟩))
  .rintro j hj ⟨i,x,h1,h2⟩;by_cases hi:i=nx
   .simp[hi] at h2;subst h2;exact⟨id,b,hb,hk⟩
   .have Z:φ i=aa j:=by simpa[hi] using h2
    exact⟨i,x,(hsub i x h1 hi).1,Z⟩
 refine ⟨_,by simp,m,λi k' M=>?_,⟨λi j x y kk hi hj h1 h2=>?_,λi x hi=>?_,λk hk=>dl (r.el k hk) m.ext.size,λg cells hg=>m.keepF (r.gl g cells hg)⟩⟩
 .by_cases hi:i=nx
  .right;simp[hi]
  .left;rw[hφ i hi] at M;exact M
 .by_cases I:i=nx
  .by_cases J:j=nx
   .rw[I,J]
   .exfalso;rw[hφ j J] at h2;simp[I] at h1;subst h1;obtain⟨q1,q2⟩:=hsub j y hj J;exact q2 (r.inj j id y b k q1 hb h2 hk)
  .rw[hφ i I] at h1;obtain⟨p1,p2⟩:=hsub i x hi I;by_cases J:j=nx
   .exfalso;simp[J] at h2;subst h2;exact p2 (r.inj i id x b k p1 hb h1 hk)
   .rw[hφ j J] at h2;exact r.inj i j x y kk p1 (hsub j y hj J).1 h1 h2
 .by_cases I:i=nx
  .subst I;have:x=b':=by unfold eJ at hi;simp[hnw] at hi;exact hi.symm
   subst this;obtain⟨k',h1,h2,_⟩:=r.at_ id b hb;rw[hk] at h1;cases h1;exact⟨k,by simp,h2,ob,U.at_,hob.mono λ_ _ h=>m.keep h⟩
  .obtain⟨p1,p2⟩:=hsub i x hi I;obtain⟨k',h1,h2,ob',Z,h4⟩:=r.at_ i x p1;have hne':k'≠k:=λe=>p2 (r.inj i id x b k p1 hb (e▸h1) hk)
   exact⟨k',by rw[hφ i I];exact h1,h2,ob',by rw[U.other k' hne'];exact Z,h4.mono λ_ _ h=>m.keep h⟩
theorem qh.cs {φ:PM} {E:Nat->Prop} {h':HF} {w:World} (hrep:qh φ E h' w) {id k:Nat} {b:vN} (hb:h' id=aa b) (hk:φ id=aa k) (hc:b.c.isCells=ah):
 ∃ arr,w.heap[k]? =aa (.cells arr b.ty (0,0))/\Cs φ (tot E φ h') w b.c.toMx (arr.toList.take b.c.toMx.length)/\b.c.toMx.length<=arr.size:=by
 obtain⟨k',h1,_,h2⟩:=hrep.at_ id b hb;rw[hk] at h1;cases h1;obtain⟨arr,Z,M,J⟩:=h2.cells hc;rw[BC.len_toMx hc] at M;refine ⟨arr,Z,⟨by simp;omega,λx I=>?_,λj x v I hv=>?_⟩,M⟩
 .obtain⟨j,hj⟩:=eQ I;exact (J j x (by rw[BC.get_toMx hc];exact hj)).1
 .obtain⟨_,u,Y,U⟩:=J j x (by rw[BC.get_toMx hc];exact I);rw[cH] at hv;split at hv
  .rw[cB,Y] at hv;cases hv;exact U
  .cases hv
section
variable {P:Program} {o:Oper} {e:yA} {h:nB} {nx:Nat} {R:AX}
theorem LI {t:TypeId} {b:Nat} (hb:DW P t=aa b):∃ i,P.info? t=aa i/\i.bytes=b:=by
 unfold DW at hb;cases hi:P.info? t with
 |none=>rw[hi] at hb;cases hb
 |some i=>rw[hi] at hb;simp at hb;exact⟨i,rfl,hb⟩
theorem GG {n b:Nat} (h:a_ n b=ah):n<=1099511627776/\n*b<=1099511627776:=by
 simp only[a_,au] at h;exact⟨aY h.1,aY h.2⟩
theorem Xx {n:Int} (h1: -9223372036854775808<=n) (h2:n<=9223372036854775807):oo .i64 n=n:=by
 rw[<- xz];have:(cR (-9223372036854775808) n&&cR n 9223372036854775807)=ah:=by simp[cR,h1,h2]
 simp only[F3,KH,this,bC]
theorem aey {t el:TypeId} {sz bytes:Nat} {z:List Value} {l c:Operand} (ho:o.op= .makeSlice t l c) (hu:P.underlying t=aa (.slice el)) (hz:rQ P el=aa z) (hs:eX P el=aa sz) (hb:DW P el=aa bytes) (hc:me z=ah) (hl:z.length=sz) (hsz:sz≠0)
 (J:eE (.mksl el sz bytes z l c) e h nx=aa R):gz P o e.get h.get R.eff:=by
 simp only[eE] at J;split at J
 .rename_i k1 n k2 m I hy;split at J
  .rename_i hcd;simp only[cR,au,bQ] at hcd;obtain⟨⟨h0,h1⟩,h2⟩:=hcd;obtain⟨r1,r2⟩:=GG h2;simp only[aj] at J;subst J;refine gz.makes λφ E h' w a _ hp _=>?_
   have e1:=eZ (hp l _ (by rw[ho];simp[Op.operands]) I);have e2:=eZ (hp c _ (by rw[ho];simp[Op.operands]) hy);obtain⟨v,z1,z2,_⟩:=su hz w;obtain⟨i,i1,i2⟩:=LI hb;have s1:=gh hs w;have w1:oo .i64 n=n:=Xx (by omega) (by omega);have w2:oo .i64 m=m:=Xx (by omega) (by omega);have hbm:(bytes:Int)*m=((m.toNat*bytes:Nat):Int):=by
    rw[Int.natCast_mul,Fk (by omega),Int.mul_comm]
   have t1:¬(m<0\/(281474976710656:Int)<bytes*m):=by rw[hbm];omega
   have hr:¬(m.toNat*bytes>roomBytes):=by unfold roomBytes;omega
   have hn0:m.toNat*sz=0->m.toNat=0:=λh=>(Nat.mul_eq_zero.1 h).resolve_right hsz
   let cells:Array Value:=(xp (m.toNat*sz)).map (λi=>v.cells[i%v.cells.size]!)
   refine ⟨.slice (aa ⟨w.heap.size,0,af⟩) n.toNat m.toNat,{w with heap:=w.heap.push (.cells cells el)},.cells cells el (0,0),?_,qj w _,?_,λφ' O hφ=>?_⟩
   .unfold execOp;rw[ho];by_cases U:m.toNat*sz=0
    .obtain rfl:m=0:=by have:=hn0 U;omega
     obtain rfl:n=0:=by omega
     simp[Instr.makeSlice,run_underlying hu,e1,e2,asInt,asIntOf,typeInfo,i1,w1,askRoom,s1,newRow,newObj,mV,cells];rw[show xp 0=#[] from rfl];simp
    .simp[Instr.makeSlice,run_underlying hu,e1,e2,asInt,asIntOf,typeInfo,i1,i2,w1,w2,t1,show ¬n<0 by omega,show ¬m<n by omega,askRoom,hr,s1,U,z1,newRow,newObj,mV,cells]
   .have cs:=Cs.repl (φ:=φ) (O:=tot E φ h') (w:=w) z2 m.toNat sz hl hsz hc;have hle:n.toNat<=m.toNat:=by omega
    have hlen:n.toNat*sz<=m.toNat*sz:=cz _ hle;refine pq rfl (by simp[BC.toMx,ml,hl,cells];exact hlen) λj x I=>?_
    simp only[BC.toMx,aZ] at I;have hj:j<n.toNat*z.length:=by
     rcases bV j (n.toNat*z.length) with h|h
     .exact h
     .rw[bK (by rw[ml];exact h)] at I;cases I
    have Z:j<m.toNat*z.length:=by rw[hl] at hj ⊢;omega
    rw[Bs z _ j hj,<-Bs z m.toNat j Z] at I;have M:((repl z m.toNat).map AV.f)[j]? =aa x:=by rw[aZ];exact I
    have Y:j<cells.toList.length:=by simp[cells];rw[<- hl];exact Z
    exact⟨cs.2.1 x (a8 M),cells.toList[j],by rw[<- cB];exact ay Y,cs.2.2 j x _ M (ay Y)⟩
   .refine .row hφ (by omega) (by unfold maxLen;omega) ⟨el,?_⟩;unfold qM;simp[cells]
  .cases J
 .cases J
theorem abv {t:TypeId} {x y:Operand} {sz:Nat} (Y:o.op= .store t x y) (hs:eX P t=aa sz) (I:eE (.store sz x y) e h nx=aa R):gz P o e.get h.get R.eff:=by
 simp only[eE] at I;split at I
 .rename_i p v hx hy;unfold Nq at I;split at I
  .rename_i id off;split at I
   .rename_i b hb;split at I
    .rename_i hl;split at I
     .rename_i c' hput;simp only[aj] at I;subst I;unfold BC.put at hput;split at hput
      .rename_i hcc;simp only[au] at hcc;obtain⟨⟨c1,c2⟩,c3⟩:=hcc;have c2:=aY c2;have hl:v.cs.length=sz:=by simpa using hl
       have J:c'.toMx=splice b.c.toMx off v.cs/\c'.isCells=ah:=by
        split at hput
        .rename_i l ys hbl hys;simp only[aj] at hput;subst hput;refine ⟨?_,rfl⟩;have hv:=pa hys;rw[hv,hbl];simp only[BC.toMx];unfold splice;simp[kh,List.map_drop]
        .simp only[aj] at hput;subst hput;exact⟨rfl,rfl⟩
       refine gz.writes hb λφ E h' w a hrd Z hp hrep=>?_
       have hr:=Sy (hp y _ (by rw[Y];simp[Op.operands]) hy) c3;have hpx:=hp x _ (by rw[Y];simp[Op.operands]) hx;generalize hz:a.eval x=pv at hpx;cases hpx with
       |@ptr _ _ k hφ=>
        obtain⟨arr,g1,g2,g3⟩:=hrep.cs Z hφ c1;have hvl:(a.eval y).cells.toList.length=sz:=by rw[hr.1];exact hl
        rw[BC.len_toMx c1] at c2;have hst:=run_storeCells_at (P:=P) k off b.ty (a.eval y).cells.toList 0 arr w g1 (by rw[hvl];omega) hr.one
        let arr':Array Value:=(arr.toList.take off++(a.eval y).cells.toList++arr.toList.drop (off+sz)).toArray
        have hsize:arr'.size=arr.size:=by simp only[arr',rX,bn,bz,mf,ia,hvl];omega
        refine ⟨.skip,w.setRow k arr',k,.cells arr' b.ty (0,0),?_,hφ,D3.setRow g1 hsize,?_,undef,.inr ⟨rfl,rfl⟩,.f (.raw _)⟩
        .have s1:=gh hs w;have hvs:(a.eval y).cells.size=sz:=by simpa using hvl
         simp only[db,hvl] at hst;unfold execOp;rw[Y];simp[Instr.storeAt,hz,Instr.sureAddr,storeVar,s1,hvs,hst,arr']
        .refine pq J.2 (by rw[J.1,nS (by omega),hsize];exact g3) λj q hq=>?_
         rw[J.1,mi (by omega)] at hq;have ha':arr'[j]? =if j<off then arr.toList[j]? else if j<off+sz then (a.eval y).cells.toList[j-off]? else arr.toList[j]? :=by
          have:=mi (l:=arr.toList) (vs:=(a.eval y).cells.toList) (off:=off) (by have:=hvl;simp only[ia] at this ⊢;omega) j;unfold splice at this;rw[hvl] at this;simp only[arr',jW];exact this
         have old:b.c.toMx[j]? =aa q->q.isCell=ah/\∃ u,arr.toList[j]? =aa u/\cG φ (tot E φ h') w q u:=λhq=>by
          have hj:j<b.c.toMx.length:=(bf.1 hq).1;have U:j<arr.toList.length:=by simp;omega
          refine ⟨g2.2.1 q (a8 hq),arr.toList[j],ay U,g2.2.2 j q _ hq ?_⟩;rw[cH,aI hj,ay U]
         rw[ha'];by_cases h1:j<off
         .rw[aI h1] at hq ⊢;exact old hq
         .rw[aC h1] at hq ⊢;by_cases h2:j<off+sz
          .rw[aI (by omega)] at hq;rw[aI h2];have M:j-off<(a.eval y).cells.toList.length:=by omega
           exact⟨hr.2.1 q (a8 hq),_,ay M,hr.2.2 _ q _ hq (ay M)⟩
          .rw[aC (by omega)] at hq;rw[aC h2];exact old hq
      .cases hput
     .cases I
    .cases I
   .cases I
  .cases I
 .cases I
end
section
variable {P:Program} {o:Oper} {e:yA} {h:nB} {nx:Nat} {R:AX}
theorem ahp (A:Addr):A.add 0=A:=by cases A;simp[Addr.add]
theorem ahr {t el:TypeId} {sz:Nat} {x:Operand} {lo hi mx:Option Operand} (J:o.op= .slice t x lo hi mx) (hu:P.underlying t=aa (.slice el)) (hs:eX P el=aa sz) (I:eE (.slc sz x lo hi mx) e h nx=aa R):gz P o e.get h.get R.eff:=by
 simp only[eE] at I;split at I
 .rename_i v Y;split at I
  ·
   rename_i k k';split at I
   .rename_i hsl;rw[dj I];refine gz.reads λφ E h' w a _ hp _=>?_
    have hr:=hp x _ (by rw[J];simp[Op.operands]) Y;have U:∃ A n c,a.eval x= .slice A n c:=by
     generalize a.eval x=z at hr;obtain⟨n,hn⟩:=iu.1 hsl;unfold AV.slen at hn;split at hn
     .cases hr with
      |f hr=>cases hr with
       |nil=>exact⟨_,_,_,rfl⟩
       |sl=>exact⟨_,_,_,rfl⟩
     .cases eZ hr;exact⟨_,_,_,rfl⟩
     .cases hr;exact⟨_,_,_,rfl⟩
     .cases hr;exact⟨_,_,_,rfl⟩
     .cases hr;exact⟨_,_,_,rfl⟩
     .cases hn
    obtain⟨A,n,c,U⟩:=U;have s1:=gh hs w;refine ⟨.slice A 0 0,?_,.emp⟩;unfold execOp;rw[J];have z0:∀ k,a.eval (.const (.int k 0))= .int k 0:=λ_=>rfl
    simp[oV,tD,run_underlying hu,U,jz,j9,asIntOf,s1,z0]
   .cases I
  ·
   rename_i b;split at I
   .rename_i id sz' n k j hb;split at I
    .rename_i hc;simp only[cR,au,bQ,cM] at hc;obtain⟨⟨rfl,h0⟩,h1⟩:=hc;split at I
     .rename_i blk hblk;split at I
      .rename_i hcl;simp only[au] at hcl;obtain⟨hcells,hlen⟩:=hcl;have hlen:=aY hlen;rw[BC.len_toMx hcells] at hlen;simp only[aj] at I;subst I;intro φ E h' w a g1 g2 g3 hrep g5;have hp:TZ φ E h' w a e o:=λx y Y M=>sj hrep g3 Y M
       have hb':h' id=aa blk:=by rw[g1 id (by simp[AX.eff])];exact hblk
       have hr:=hp x _ (by rw[J];simp[Op.operands]) Y;have hbv:=eZ (hp b _ (by rw[J];simp[Op.operands]) hb);have hnx:φ nx=af:=g5 nx (by simp[AX.eff]);generalize U:a.eval x=z at hr;cases hr with
       |@row _ _ _ c q hφ hn hcap hsh=>
        obtain⟨arr,a1,a2,a3⟩:=hrep.cs hb' hφ hcells;have s1:=gh hs w;have hne:nx≠id:=λe=>by rw[e,hφ] at hnx;cases hnx
        have hnw1:iP [(nx,⟨blk.ty,oP (blk.c.toMx.take (j.toNat*sz'))⟩)] nx=aa (⟨blk.ty,oP (blk.c.toMx.take (j.toNat*sz'))⟩:vN):=by simp[iP]
        have hnw2:iP [(nx,⟨blk.ty,oP (blk.c.toMx.take (j.toNat*sz'))⟩)] id=af:=by
         simp only[iP];rw[aC];intro hb;exact hne (av hb)
        have a4:=a2.take (j.toNat*sz');obtain⟨φ',p1,p2,p3,p4⟩:=hrep.wren hb' hφ hnx (w':=w) ⟨rfl,rfl,rfl,rfl,a1,λ_ _=>rfl,λ_=>rfl⟩ (b':=⟨blk.ty,oP (blk.c.toMx.take (j.toNat*sz'))⟩) (by
         obtain⟨q1,q2⟩:=ng (blk.c.toMx.take (j.toNat*sz'));refine pq q2 (by rw[q1,bz];omega) λi x Y=>?_
         rw[q1] at Y;have hi:i<((arr.toList.take blk.c.toMx.length).take (j.toNat*sz')).length:=by rw[a4.1];exact (bf.1 Y).1
         refine ⟨a4.2.1 x (a8 Y),_,?_,a4.2.2 i x _ Y (ay hi)⟩;have hi':i<arr.size:=by simp at hi;omega
         simp[hi']) _ hnw1 hnw2
        have hrun:(execOp a.eval o).run P w= .ok (.value (.slice (aa ⟨q,0,af⟩) j.toNat c)) w:=by
         unfold execOp;rw[J];simp[oV,tD,run_underlying hu,U,jz,j9,asIntOf,s1,hbv,h0,show j<=c by omega,kF]
        unfold F0;rw[hrun];exact⟨_,φ',rfl,p2,p3,p4,.row p1 (by omega) hcap hsh⟩
      .cases I
     .cases I
    .cases I
   .rename_i cells n k j hb;split at I
    .rename_i hc;simp only[cR,au,bQ] at hc;obtain⟨⟨h0,h1⟩,h2⟩:=hc;have h2:=aY h2;rw[dj I];refine gz.reads λφ E h' w a _ hp _=>?_
     have hr:=hp x _ (by rw[J];simp[Op.operands]) Y;have hbv:=eZ (hp b _ (by rw[J];simp[Op.operands]) hb);generalize U:a.eval x=z at hr;have s1:=gh hs w;cases hr with
     |f hr=>
      cases hr with
      |nil A c hc=>
       have hj:j=0:=by omega
       subst hj;refine ⟨.slice A 0 c,?_,by simpa using cG.f (.nil A c hc)⟩;unfold execOp;rw[J];cases A<;>simp[oV,tD,run_underlying hu,U,jz,j9,asIntOf,s1,hbv,ahp]
      |sl _ _ c q off us hn hc hO hq hcl Z hr=>
       refine ⟨.slice (aa ⟨q,off,af⟩) j.toNat c,?_,.f (.sl _ _ _ _ _ us (by omega) hc hO hq (λy M=>hcl y (iT M)) (λi hi=>Z i (by rw[bz] at hi;omega)) λi y M=>?_)⟩
       .unfold execOp;rw[J];simp[oV,tD,run_underlying hu,U,jz,j9,asIntOf,s1,hbv,h0,show j<=c by omega,kF]
       .rw[cH] at M;split at M
        .exact hr i y M
        .cases M
    .cases I
   .cases I
  ·
   rename_i b;split at I
   .rename_i id sz' n k j hb;split at I
    .rename_i hc;simp only[cR,fG,au,bQ,cM] at hc;obtain⟨⟨rfl,h0⟩,h1⟩:=hc;rw[dj I];refine gz.reads λφ E h' w a _ hp _=>?_
     have hr:=hp x _ (by rw[J];simp[Op.operands]) Y;have hbv:=eZ (hp b _ (by rw[J];simp[Op.operands]) hb);generalize U:a.eval x=z at hr;cases hr with
     |@row _ _ _ c q hφ hn hc hsh=>
      have s1:=gh hs w;refine ⟨.slice (aa ⟨q,0+j.toNat*sz',af⟩) (n-j.toNat) (c-j.toNat),?_,?_⟩
      .unfold execOp;rw[J];simp[oV,tD,run_underlying hu,U,jz,j9,asIntOf,s1,hbv,h0,show j<=n by omega,show ¬c=j.toNat by omega,kF]
      .rw[bJ];exact .sl hφ (by omega) (by omega)
    .cases I
   .rename_i cells n k j hb;split at I
    .rename_i hc;simp only[cR,au,bQ] at hc;obtain⟨⟨h0,h1⟩,h2⟩:=hc;have h2:=aY h2;rw[dj I];refine gz.reads λφ E h' w a _ hp _=>?_
     have hr:=hp x _ (by rw[J];simp[Op.operands]) Y;have hbv:=eZ (hp b _ (by rw[J];simp[Op.operands]) hb);generalize U:a.eval x=z at hr;have s1:=gh hs w;cases hr with
     |f hr=>
      cases hr with
      |nil A c hc=>
       have hj:j=0:=by omega
       subst hj;have hex:∃ A',(execOp a.eval o).run P w= .ok (.value (.slice A' 0 c)) w:=by
        unfold execOp;rw[J];cases A with
        |none=>exact⟨af,by simp[oV,tD,run_underlying hu,U,jz,j9,asIntOf,s1,hbv]⟩
        |some A=>exact⟨aa A,by simp[oV,tD,run_underlying hu,U,jz,j9,asIntOf,s1,hbv,ahp]⟩
       obtain⟨A',hex⟩:=hex;exact⟨.slice A' 0 c,hex,by simpa using cG.f (.nil A' c hc)⟩
      |sl _ _ c q off us hn hc hO hq hcl Z hr=>
       by_cases hcj:c=j.toNat
       .refine ⟨.slice (aa ⟨q,off,af⟩) 0 0,?_,?_⟩
        .unfold execOp;rw[J];simp[oV,tD,run_underlying hu,U,jz,j9,asIntOf,s1,hbv,h0,show j<=n by omega,hcj,show n-j.toNat=0 by omega,kF]
        .rw[show n-j.toNat=0 by omega];simpa using cG.f (.nil (aa ⟨q,off,af⟩) 0 (by unfold maxLen;omega))
       .refine ⟨.slice (aa ⟨q,off+j.toNat*sz,af⟩) (n-j.toNat) (c-j.toNat),?_,.f (.sl _ _ _ _ _ (λi=>us (j.toNat*sz+i)) (by omega) (by omega) hO hq (λy M=>hcl y (List.mem_of_mem_drop (iT M))) (λi hi=>?_) λi y M=>?_)⟩
        .unfold execOp;rw[J];simp[oV,tD,run_underlying hu,U,jz,j9,asIntOf,s1,hbv,h0,show j<=n by omega,hcj,kF]
        .rw[rD];refine Z _ ?_;rw[bz,mf] at hi;omega
        .rw[cH] at M;split at M
         .rw[gJ] at M;exact hr _ y M
         .cases M
    .cases I
   .cases I
  .cases I
 .cases I
theorem XT {sz:Nat} {x:AV} {src:List AV} {m:Nat} {rd:List Nat} (hrow:x.row? h sz=aa (src,m,rd)) {φ:PM} {E:Nat->Prop} {h':HF} {w:World} (hrd:∀ i∈rd,h' i=h.get i) (hrep:qh φ E h' w) {v:Value} (hr:cG φ (tot E φ h') w x v):
 ∃ A c vs,v= .slice A m c/\Cs φ (tot E φ h') w src vs/\vs.length=m*sz/\(A=af->vs=[])/\(∀ J,A=aa J->∀ (j:Nat) u,vs[j]? =aa u->w.cell? (J.add j)=aa u):=by
 have emp:∀ A c,v= .slice A 0 c->src=[]->m=0->∃ A c vs,v= .slice A m c/\Cs φ (tot E φ h') w src vs/\vs.length=m*sz/\(A=af->vs=[])/\(∀ J,A=aa J->∀ (j:Nat) u,vs[j]? =aa u->w.cell? (J.add j)=aa u):=by
  rintro A c rfl rfl rfl;exact⟨A,c,[],rfl,⟨rfl,(by intro x I;cases I),(by intro j x v I;simp at I)⟩,by simp,λ_=>rfl,by intro J _ j u hu;simp at hu⟩
 have own:∀ (id off n c k:Nat) (b:vN),φ id=aa k->h' id=aa b->b.c.isCells=ah->off+n*sz<=b.c.len->v= .slice (aa ⟨k,off,af⟩) n c->src=(b.c.toMx.drop off).take (n*sz)->m=n->
  ∃ A c vs,v= .slice A m c/\Cs φ (tot E φ h') w src vs/\vs.length=m*sz/\(A=af->vs=[])/\(∀ J,A=aa J->∀ (j:Nat) u,vs[j]? =aa u->w.cell? (J.add j)=aa u):=by
  rintro id off n c k b hφ hb hc hle rfl rfl rfl;obtain⟨arr,g1,Z,g3⟩:=hrep.cs hb hφ hc;rw[BC.len_toMx hc] at hle;refine ⟨_,c,((arr.toList.take b.c.toMx.length).drop off).take (m*sz),rfl,(Z.drop off).take _,?_,(λh=>by cases h),?_⟩
  .simp;omega
  .intro J had j u hu;cases had;rw[kF];rw[cH] at hu;split at hu
   .rw[gJ,cH] at hu;split at hu
    .rw[cB] at hu;simp[LV,g1,hu]
    .cases hu
   .cases hu
 unfold AV.row? at hrow;split at hrow
 .rename_i cells n;split at hrow
  .rename_i hle;have hle:=aY hle;simp only[aj,aB] at hrow;obtain⟨rfl,rfl,rfl⟩:=hrow;cases hr with
   |f hr=>
    cases hr with
    |nil a c hc=>exact emp a c rfl (by simp) rfl
    |sl _ _ c b off us hn hc hO hb hcl hu hr=>
     refine ⟨_,c,(eg (n*sz)).map us,rfl,⟨by simp;omega,λx I=>?_,λj x u I M=>?_⟩,by simp,(λh=>by cases h),?_⟩
     .obtain⟨y,Y,rfl⟩:=dc.1 I;exact hcl y (iT Y)
     .obtain⟨rfl,hj⟩:=wz us _ _ _ M;rw[aZ,cH,aI hj] at I;cases hq:cells[j]? with
      |none=>rw[hq] at I;cases I
      |some q=>rw[hq] at I;simp at I;subst I;exact .f (hr j q hq)
     .intro J had j u M;cases had;obtain⟨rfl,hj⟩:=wz us _ _ _ M;rw[kF];exact hu j (by omega)
  .cases hrow
 .simp only[aj,aB] at hrow;obtain⟨rfl,rfl,rfl⟩:=hrow;exact emp af 0 (eZ hr) rfl rfl
 .simp only[aj,aB] at hrow;obtain⟨rfl,rfl,rfl⟩:=hrow;cases hr with
  |@emp a=>exact emp a 0 rfl rfl rfl
 .rename_i id sz' n;split at hrow
  .rename_i hsz;split at hrow
   .rename_i b hb;split at hrow
    .rename_i hc;simp only[au] at hc;simp only[aj,aB] at hrow;obtain⟨rfl,rfl,rfl⟩:=hrow;cases hr with
     |@row _ _ _ c k hφ hn U hsh=>
      exact own id 0 n c k b hφ (by rw[hrd id (by simp)];exact hb) hc.1 (by rw[bJ];exact aY hc.2) rfl (by simp) rfl
    .cases hrow
   .cases hrow
  .cases hrow
 .rename_i id off n;split at hrow
  .rename_i b hb;split at hrow
   .rename_i hc;simp only[au] at hc;simp only[aj,aB] at hrow;obtain⟨rfl,rfl,rfl⟩:=hrow;cases hr with
    |@sl _ _ _ c k hφ hn U=>exact own id off n c k b hφ (by rw[hrd id (by simp)];exact hb) hc.1 (aY hc.2) rfl rfl rfl
   .cases hrow
  .cases hrow
 .cases hrow
theorem Z9 {sz:Nat} {x:AV} {src:List AV} {m:Nat} {rd:List Nat} (hrow:x.row? h sz=aa (src,m,rd)) {φ:PM} {E:Nat->Prop} {h':HF} {w:World} (hrd:∀ i∈rd,h' i=h.get i) (hrep:qh φ E h' w) {v:Value} (hr:cG φ (tot E φ h') w x v) {I el:TypeId} (hk:P.underlying I=aa (.slice el)):
 ∃ vs,Src P sz I v m vs w/\Cs φ (tot E φ h') w src vs:=by
 obtain⟨A,c,vs,rfl,h1,h2,U,M⟩:=XT hrow hrd hrep hr;refine ⟨vs,?_,h1⟩;cases A with
 |none=>
  have:=U rfl;subst this;have hm:m*sz=0:=by simpa using h2.symm
  refine ⟨.inl ⟨el,hk⟩,λ_=>rfl,run_firstCells_none w sz m m c,run_firstCells_none w.drew sz m m c,by simp[hm],λ_ h=>by cases h⟩
 |some J=>exact Src.ofSlice w hk J m c vs h2 (M J rfl) h1.one
theorem ae7 {x:Nat}:∀ {l:List Nat},Vz x l=ah↔x∈l
 |[]=>by simp[Vz]
 |y::r=>by
  simp only[Vz,iD,ae7 (l:=r),bh];constructor
  .rintro (h|h)
   .exact .inl (av h).symm
   .exact .inr h
  .rintro (h|h)
   .subst h;exact .inl (tP x)
   .exact .inr h
theorem af4 {t u el el':TypeId} {d x:Operand} {sz:Nat} (ho:o.op= .call {callee:=.builtin .copy,args:=#[d,x],argTypes:=#[t,u]}) (hu:P.underlying t=aa (.slice el)) (hu':P.underlying u=aa (.slice el')) (hs:eX P el=aa sz) (J:eE (.copy sz d x) e h nx=aa R):gz P o e.get h.get R.eff:=by
 simp only[eE] at J;split at J
 .rename_i id sz' n y hd hx;split at J
  .rename_i blk src m rd hblk hrow;split at J
   .rename_i hc;simp only[au,cM,dZ] at hc;obtain⟨⟨rfl,hmem⟩,hlen⟩:=hc;split at J
    .rename_i c' hput;simp only[aj] at J;subst J;unfold BC.put at hput;split at hput
     .rename_i hcc;simp only[au] at hcc;obtain⟨⟨c1,Z⟩,c3⟩:=hcc;have Z:=aY Z;rw[bJ] at Z;have M:c'.toMx=splice blk.c.toMx 0 (src.take (iB m n*sz'))/\c'.isCells=ah:=by
       split at hput
       .rename_i l ys hbl hys;simp only[aj] at hput;subst hput;refine ⟨?_,rfl⟩;have hv:=pa hys;rw[hv,hbl];simp only[BC.toMx];unfold splice;simp[kh,List.map_drop]
       .simp only[aj] at hput;subst hput;exact⟨rfl,rfl⟩
      refine gz.writes hblk λφ E h' w a hrd hb' hp hrep=>?_
      have hpd:=hp d _ (by rw[ho];simp[Op.operands,eH]) hd;have hpx:=hp x _ (by rw[ho];simp[Op.operands,eH]) hx;obtain⟨A,c,vs,hv,q1,q2,q3,q4⟩:=XT hrow (λi hi=>hrd i (by simp[hi])) hrep hpx;generalize hz:a.eval d=pv at hpd;cases hpd with
      |@row _ _ _ cap k hφ hn hcap hsh=>
       obtain⟨arr,g1,g2,g3⟩:=hrep.cs hb' hφ c1;rw[BC.len_toMx c1] at Z;have hmn:iB m n<=m:=Nat.min_le_left _ _;have hle:iB m n*sz'<=m*sz':=cz _ hmn
       let I:=vs.take (iB m n*sz')
       have hnl:I.length=iB m n*sz':=by simp only[I,bz,q2];omega
       have hsl:(src.take (iB m n*sz')).length=iB m n*sz':=by rw[bz,<-q1.1,q2];omega
       have csn:=q1.take (iB m n*sz');rw[hsl] at Z;have hst:=run_storeCells_at (P:=P) k 0 blk.ty I 0 arr w g1 (by rw[hnl];omega) csn.one
       let arr':Array Value:=(arr.toList.take 0++I++arr.toList.drop (0+iB m n*sz')).toArray
       have hsize:arr'.size=arr.size:=by simp only[arr',rX,bn,bz,mf,ia,hnl];omega
       have hfc:(Jw sz' (iB m n) (.slice A m c)).run P w= .ok I.toArray w:=by
        cases A with
        |none=>
         have:I=[]:=by simp[I,q3 rfl]
         rw[this];exact run_firstCells_none w sz' _ _ _
        |some ad=>exact run_firstCells_some w sz' _ ad m c I hnl (λj u hu=>q4 ad rfl j u (by
          simp only[I,cH] at hu;split at hu
          .exact hu
          .cases hu))
       refine ⟨.value (.int .i64 (iB m n)),w.setRow k arr',k,.cells arr' blk.ty (0,0),?_,hφ,D3.setRow g1 hsize,?_,_,.inl rfl,.f (.raw _)⟩
       .have s1:=gh hs w;simp only[db,hnl] at hst;unfold execOp;rw[ho];simp[resolve,invoke,builtin,Builtin.copy_,run_underlying hu,hz,hv,Builtin.lenOf,s1,hfc,hst,goInt,arr']
       .refine pq M.2 (by rw[M.1,nS (by rw[hsl];omega),hsize];exact g3) λj q hq=>?_
        rw[M.1,mi (by rw[hsl];omega)] at hq;have ha':arr'[j]? =if j<0 then arr.toList[j]? else if j<0+I.length then I[j-0]? else arr.toList[j]? :=by
         have:=mi (l:=arr.toList) (vs:=I) (off:=0) (by simp only[ia];omega) j;unfold splice at this;simp only[arr',jW];rw[<- this,hnl]
        rw[ha',aC (by omega)];rw[aC (by omega),hsl] at hq;rw[hnl];by_cases h2:j<0+iB m n*sz'
        .rw[aI h2] at hq ⊢;have U:j-0<I.length:=by rw[hnl];omega
         exact⟨csn.2.1 q (a8 hq),_,ay U,csn.2.2 _ q _ hq (ay U)⟩
        .rw[aC h2] at hq ⊢;have hj:j<blk.c.toMx.length:=(bf.1 hq).1;have Y:j<arr.toList.length:=by simp;omega
         refine ⟨g2.2.1 q (a8 hq),arr.toList[j],ay Y,g2.2.2 j q _ hq ?_⟩;rw[cH,aI hj,ay Y]
     .cases hput
    .cases J
   .cases J
  .cases J
 .cases J
theorem ai6 {t el:TypeId} {sz:Nat} {z:List Value} {x:Operand} (ho:o.op= .call {callee:=.builtin .clear,args:=#[x],argTypes:=#[t]}) (hu:P.underlying t=aa (.slice el)) (hz:rQ P el=aa z) (hc:me z=ah) (hl:z.length=sz) (hsz:sz≠0) (J:eE (.clr sz z x) e h nx=aa R):gz P o e.get h.get R.eff:=by
 simp only[eE] at J;split at J
 .rename_i id off n hx;split at J
  .rename_i blk hblk;split at J
   .rename_i hn;have hn:=aY hn;obtain⟨m,rfl⟩:∃ m,n=m+1:=⟨n-1,by omega⟩
    split at J
    .rename_i c' hput;simp only[aj] at J;subst J;unfold BC.put at hput;split at hput
     .rename_i hcc;simp only[au] at hcc;obtain⟨⟨c1,c2⟩,c3⟩:=hcc;have c2:=aY c2;have hsrc:((repl z (m+1)).map AV.f).length=(m+1)*sz:=by rw[bS,ml,hl]
      rw[hsrc] at c2;have U:c'.toMx=splice blk.c.toMx off ((repl z (m+1)).map AV.f)/\c'.isCells=ah:=by
       split at hput
       .rename_i l ys hbl hys;simp only[aj] at hput;subst hput;refine ⟨?_,rfl⟩;have hv:=pa hys;rw[hv,hbl];simp only[BC.toMx];unfold splice;simp[kh,List.map_drop]
       .simp only[aj] at hput;subst hput;exact⟨rfl,rfl⟩
      refine gz.writes hblk λφ E h' w a hrd hb' hp hrep=>?_
      have hpx:=hp x _ (by rw[ho];simp[Op.operands,eH]) hx;generalize hzv:a.eval x=pv at hpx;cases hpx with
      |@sl _ _ _ cap k hφ hn2 hcap=>
       obtain⟨arr,g1,Z,g3⟩:=hrep.cs hb' hφ c1;rw[BC.len_toMx c1] at c2;obtain⟨v,z1,z2,_⟩:=su hz w;have csn:=Cs.repl (φ:=φ) (O:=tot E φ h') (w:=w) z2 (m+1) sz hl hsz hc
       let M:=(kQ v.cells (m+1)).toList
       have hvs:v.cells.size=sz:=by rw[<- hl,<-z2];simp
       have hns:M=((xp ((m+1)*sz)).map (λi=>v.cells[i%v.cells.size]!)).toList:=by simp only[M,kQ,hvs]
       have hnl:M.length=(m+1)*sz:=by rw[hns];simp
       rw[<- hns] at csn;have hst:=run_storeCells_at (P:=P) k off blk.ty M 0 arr w g1 (by rw[hnl];omega) csn.one
       let arr':Array Value:=(arr.toList.take (off+0)++M++arr.toList.drop (off+0+M.length)).toArray
       have hsize:arr'.size=arr.size:=by simp only[arr',rX,bn,bz,mf,ia,hnl];omega
       refine ⟨.value (.tuple #[]),w.setRow k arr',k,.cells arr' blk.ty (0,0),?_,hφ,D3.setRow g1 hsize,?_,_,.inl rfl,.tup (vs:=[]) rfl λj y v hy=>by simp at hy⟩
       .unfold execOp;rw[ho];have hst2:(storeCells ⟨k,off,af⟩ (kQ v.cells (m+1)).toList).run P w= .ok () (w.setRow k arr'):=hst;simp[resolve,invoke,builtin,Builtin.clear_,run_underlying hu,hzv,z1,hst2]
       .refine pq U.2 (by rw[U.1,nS (by rw[hsrc];omega),hsize];exact g3) λj q hq=>?_
        rw[U.1,mi (by rw[hsrc];omega)] at hq;have ha':arr'[j]? =if j<off then arr.toList[j]? else if j<off+M.length then M[j-off]? else arr.toList[j]? :=by
         have:=mi (l:=arr.toList) (vs:=M) (off:=off) (by simp only[ia];omega) j;unfold splice at this;simp only[arr',jW,db];rw[<- this]
        rw[ha'];rw[hsrc] at hq;rw[hnl];by_cases h1:j<off
        .rw[aI h1] at hq ⊢;have hj:j<blk.c.toMx.length:=(bf.1 hq).1;have I:j<arr.toList.length:=by simp;omega
         refine ⟨Z.2.1 q (a8 hq),arr.toList[j],ay I,Z.2.2 j q _ hq ?_⟩;rw[cH,aI hj,ay I]
        rw[aC h1] at hq ⊢;by_cases h2:j<off+(m+1)*sz
        .rw[aI h2] at hq ⊢;have Y:j-off<M.length:=by rw[hnl];omega
         exact⟨csn.2.1 q (a8 hq),_,ay Y,csn.2.2 _ q _ hq (ay Y)⟩
        .rw[aC h2] at hq ⊢;have hj:j<blk.c.toMx.length:=(bf.1 hq).1;have I:j<arr.toList.length:=by simp;omega
         refine ⟨Z.2.1 q (a8 hq),arr.toList[j],ay I,Z.2.2 j q _ hq ?_⟩;rw[cH,aI hj,ay I]
     .cases hput
    .cases J
   .cases J
  .cases J
 .cases J
end
theorem KI (w:World) (ob:Obj):QP w (w.drew.alloc ob) ob:=QP.drawn (w.drawn+1) (qj {w with drawn:=w.drawn+1} ob)
section
variable {P:Program} {o:Oper} {e:yA} {h:nB} {nx:Nat} {R:AX}
theorem Gq {v:Value} {z:List Value} {sz:Nat} (hv:v.cells.toList=z) (hl:z.length=sz) (n:Nat):(kQ v.cells n).size=n*sz:=by
 have:v.cells.size=sz:=by rw[<- hl,<-hv];simp
 simp[kQ,this]
theorem QI {t u el:TypeId} {s x:Operand} {i:TypeInfo} {z:List Value} (ho:o.op= .call {callee:=.builtin .append,args:=#[s,x],argTypes:=#[t,u]}) (hu:P.underlying t=aa (.slice el)) (M:P.info? el=aa i) (hz:rQ P el=aa z) (hzl:z.length=i.size)
 {φ:PM} {E:Nat->Prop} {h':HF} {w:World} {a:Act} (hrep:qh φ E h' w) (hnx:φ nx=af) {A:Option Addr} {n cap m:Nat} {olds vs:List Value} {oldA src:List AV} (hsl:a.eval s= .slice A n cap)
 (hold:(Jw i.size n (.slice A n cap)).run P w.drew= .ok olds.toArray w.drew) (csold:Cs φ (tot E φ h') w oldA olds) (hol:olds.length=n*i.size) (hsrc:Src P i.size u (a.eval x) m vs w) (hcs:Cs φ (tot E φ h') w src vs)
 (hg:cap<n+m) (r1:n+m<=1099511627776) (r2:(n+m)*i.bytes<=1099511627776) (del:List Nat) (hdel:∀ j∈del,j≠nx):
 o.wp P a w (λa' w'=>∃ v φ',a'=a.put o.dst v/\iK φ φ' h' (eJ h' (nx::del) (iP [(nx,⟨el,oP (oldA++src)⟩)])) w w'/\(∀ i k,φ' i=aa k->φ i=aa k\/i∈[nx])/\
  qh φ' E (eJ h' (nx::del) (iP [(nx,⟨el,oP (oldA++src)⟩)])) w'/\cG φ' (tot E φ' (eJ h' (nx::del) (iP [(nx,⟨el,oP (oldA++src)⟩)]))) w' (.row nx i.size (n+m)) v) (λ_ _ _=>False):=by
 obtain⟨J,z1,Y,i',I,U⟩:=su hz w;rw[M] at I;cases I;have hfb:=growslice_fits (need:=n+m) (old:=cap) (bytes:=i.bytes) hg (by omega);have hrun:=run_append_grow_src w t u o.type el i J hu M U A n cap olds hold (a.eval x) m vs hsrc hg (by omega) hfb;have hgc:=grownCap_ge w (n+m) cap el;have hgm:=grownCap_le_maxLen w (n+m) cap el (by unfold maxLen;omega);generalize grownCap w (n+m) cap el=Gc at hrun hgc hgm;have cs:=csold.append hcs;have hnl:=hsrc.newsLen;obtain⟨φ',p1,p2,p3,p4⟩:=hrep.wnew hnx (KI w _) (b:=⟨el,oP (oldA++src)⟩) (ob:=.cells ((olds++vs).toArray++kQ J.cells (Gc-(n+m))) el (0,0)) (by
  obtain⟨q1,Z⟩:=ng (oldA++src);refine pq Z (by rw[q1,<-cs.1];simp) λj q hq=>?_
  rw[q1] at hq;have hj:j<(olds++vs).length:=by rw[cs.1];exact (bf.1 hq).1
  refine ⟨cs.2.1 q (a8 hq),_,?_,cs.2.2 j q _ hq (ay hj)⟩;rw[Array.getElem?_append_left (by simpa using hj),jW,ay hj]) del (iP [(nx,⟨el,oP (oldA++src)⟩)]) (by simp[iP]) (λj hj hne=>by
   simp only[iP];rw[aC];intro hb;exact hne (av hb).symm)
 have hexec:(execOp a.eval o).run P w= .ok (.value (.slice (aa ⟨w.heap.size,0,af⟩) (n+m) Gc)) (w.drew.alloc (.cells ((olds++vs).toArray++kQ J.cells (Gc-(n+m))) el)):=by
  unfold execOp;rw[ho];simp only[resolve,invoke,builtin,em,ol,cD,List.map_toArray,fY,List.map_nil,hsl,hrun]
 unfold F0;rw[hexec];refine ⟨_,φ',rfl,p2,p3,p4,.row p1 hgc hgm ⟨el,?_⟩⟩;have:=(KI w (.cells ((olds++vs).toArray++kQ J.cells (Gc-(n+m))) el (0,0))).at_;unfold qM;rw[this];have hzs:=Gq Y hzl (Gc-(n+m));have e1:(n+m)*i.size+(Gc-(n+m))*i.size=Gc*i.size:=by rw[<- LX];congr 1;omega
 simp only[Array.size_append,rX,bn,hol,hnl,hzs];congr 2;rw[<- e1,LX]
theorem ai9 {t u el el':TypeId} {s x:Operand} {sz bytes:Nat} {z:List Value} (U:o.op= .call {callee:=.builtin .append,args:=#[s,x],argTypes:=#[t,u]}) (hu:P.underlying t=aa (.slice el)) (hu':P.underlying u=aa (.slice el')) (hs:eX P el=aa sz) (hb:DW P el=aa bytes) (hz:rQ P el=aa z) (hzl:z.length=sz) (hsz:sz≠0)
 (I:eE (.app el sz bytes s x) e h nx=aa R):gz P o e.get h.get R.eff:=by
 obtain⟨i,Y,i2⟩:=LI hb;have i3:i.size=sz:=by unfold eX at hs;rw[Y] at hs;simpa using hs
 subst i2;subst i3;simp only[eE] at I;split at I
 .rename_i bv y hsv M;split at I
  .rename_i src m rd hrow;have common:∀ {φ:PM} {E:Nat->Prop} {h':HF} {w:World} {a:Act},(∀ i∈rd,h' i=h.get i)->TZ φ E h' w a e o->qh φ E h' w->∃ vs,Src P i.size u (a.eval x) m vs w/\Cs φ (tot E φ h') w src vs:=
    λhrd hp hrep=>Z9 hrow hrd hrep (hp x _ (by rw[U];simp[Op.operands,eH]) M) hu'
   have exec:∀ {w w':World} {a:Act} {v:Value},(Builtin.append_ #[t,u] o.type #[a.eval s,a.eval x]).run P w= .ok v w'->(execOp a.eval o).run P w= .ok (.value v) w':=by
    intro w w' a v hrun;unfold execOp;rw[U];simp[resolve,invoke,builtin,hrun]
   split at I
   .rename_i id sz' n;split at I
    .rename_i blk hblk;split at I
     .rename_i hc;simp only[au,cM,dZ] at hc;obtain⟨⟨⟨⟨⟨rfl,hmem⟩,hcells⟩,hlen⟩,hty⟩,hroom⟩:=hc;have hlen:=aY hlen;rw[BC.len_toMx hcells] at hlen;obtain⟨r1,r2⟩:=GG hroom;simp only[aj] at I;subst I;subst hty;intro φ E h' w a h1 h2 h3 hrep h5;have hp:TZ φ E h' w a e o:=λx y M hy=>sj hrep h3 M hy
      have hb':h' id=aa blk:=by rw[h1 id (by simp[AX.eff])];exact hblk
      obtain⟨vs,hsrc,hcs⟩:=common (λi hi=>h1 i (by simp[AX.eff,hi])) hp hrep;have hpd:=hp s _ (by rw[U];simp[Op.operands,eH]) hsv;have hnx:φ nx=af:=h5 nx (by simp[AX.eff]);have hwv:=hp s _ (by rw[U];simp[Op.operands,eH]) hsv;generalize hzv:a.eval s=pv at hpd;cases hpd with
      |@row _ _ _ cap k hφ hn hcap hsh=>
       obtain⟨arr,g1,g2,g3⟩:=hrep.cs hb' hφ hcells;have hne:nx≠id:=λe=>by rw[e,hφ] at hnx;cases hnx
       have harr:arr.size=cap*i.size:=by
        obtain⟨ty,hty⟩:=hsh;unfold qM at hty;rw[g1] at hty;simp at hty;exact hty.2
       have hnl:=hsrc.newsLen;have hnn:n*i.size<=arr.size:=by omega
       have csnew:Cs φ (tot E φ h') w (blk.c.toMx.take (n*i.size)++src) (arr.toList.take (n*i.size)++vs):=by
        have:=(g2.take (n*i.size)).append hcs
        rwa [List.take_take,rB hlen] at this
       have hnw1:iP [(nx,⟨blk.ty,oP (blk.c.toMx.take (n*i.size)++src)⟩)] nx=aa ⟨blk.ty,oP (blk.c.toMx.take (n*i.size)++src)⟩:=by simp[iP]
       have hnw2:iP [(nx,⟨blk.ty,oP (blk.c.toMx.take (n*i.size)++src)⟩)] id=af:=by
        simp only[iP];rw[aC];intro hb;exact hne (av hb)
       by_cases hfit:n+m<=cap
       ·
        have hend:n*i.size+vs.length<=arr.size:=by
         rw[hnl,harr,<-LX];exact cz _ hfit
        have hst:=run_storeCells_at (P:=P) k (n*i.size) blk.ty vs 0 arr w g1 (by omega) hsrc.one;simp only[db] at hst
        let arr':Array Value:=(arr.toList.take (n*i.size)++vs++arr.toList.drop (n*i.size+vs.length)).toArray
        have hsize:arr'.size=arr.size:=by simp only[arr',rX,bn,bz,mf,ia];omega
        have hrun:(Builtin.append_ #[t,u] o.type #[a.eval s,a.eval x]).run P w= .ok (.slice (aa ⟨k,0,af⟩) (n+m) cap) (w.setRow k arr'):=by
         rw[hzv];rcases hsrc.kind with ⟨e',hk⟩|hk<;>simp[Builtin.append_,run_underlying hu,run_underlying hk,sizeOf,typeInfo,Y,hsrc.len,hfit,hsrc.cells,kF,hst,arr']
        obtain⟨φ',p1,p2,p3,p4⟩:=hrep.wren hb' hφ hnx (D3.setRow g1 hsize) (b':=⟨blk.ty,oP (blk.c.toMx.take (n*i.size)++src)⟩) (by
         obtain⟨q1,q2⟩:=ng (blk.c.toMx.take (n*i.size)++src);refine pq q2 (by rw[q1,<-csnew.1,hsize];simp;omega) λj q hq=>?_
         rw[q1] at hq;have hj:j<(arr.toList.take (n*i.size)++vs).length:=by rw[csnew.1];exact (bf.1 hq).1
         refine ⟨csnew.2.1 q (a8 hq),_,?_,csnew.2.2 j q _ hq (ay hj)⟩;simp only[arr',jW];rw[bL hj,ay hj]) _ hnw1 hnw2
        unfold F0;rw[exec hrun];refine ⟨_,φ',rfl,p2,p3,p4,.row p1 hfit hcap ⟨blk.ty,?_⟩⟩;unfold qM;rw[setRow_heap w k arr arr' blk.ty (0,0) g1];simp[hsize,harr]
       ·
        have hold:(Jw i.size n (.slice (aa ⟨k,0,af⟩) n cap)).run P w.drew= .ok (arr.toList.take (n*i.size)).toArray w.drew:=by
         refine run_firstCells_some w.drew i.size n _ n cap _ (by simp;omega) λj v hv=>?_
         rw[cH] at hv;split at hv
         .rw[cB] at hv;rw[kF,bJ];have hcl:w.cell? ⟨k,j,af⟩=aa v:=by simp[LV,g1,hv]
          simpa using hcl
         .cases hv
        exact QI U hu Y hz hzl hrep hnx hzv hold (by
         have:=g2.take (n*i.size)
         rwa [List.take_take,rB hlen] at this) (by simp;omega) hsrc hcs (by omega) r1 r2 [id] (λj hj=>by simp at hj;subst hj;exact λe=>hne e.symm)
     .cases I
    .cases I
   .split at I
    .rename_i hc;simp only[au] at hc;obtain⟨J,hroom⟩:=hc;obtain⟨r1,r2⟩:=GG hroom;have hbase:∀ {φ:PM} {O:Nat->Prop} {w:World} {v:Value},cG φ O w bv v->∃ A,v= .slice A 0 0:=by
      intro φ O w v hr;unfold Hj at J;split at J
      .cases hr;exact⟨_,rfl⟩
      .rename_i q;cases eZ hr;unfold yN at J;split at J
       .exact⟨_,rfl⟩
       .cases J
      .cases J
     split at I
     .rename_i hm;have hm:m=0:=by simpa using hm
      subst hm;simp only[aj] at I;subst I;refine gz.reads λφ E h' w a hrd hp hrep=>?_
      obtain⟨vs,hsrc,hcs⟩:=common hrd hp hrep;have hr:=hp s _ (by rw[U];simp[Op.operands,eH]) hsv;obtain⟨A,hA⟩:=hbase hr;refine ⟨a.eval s,exec ?_,hr⟩;rw[hA];have hvs:vs=[]:=by have:=hsrc.newsLen;simpa using this
      have Z:=hsrc.cells;rw[hvs] at Z;rcases hsrc.kind with ⟨e',hk⟩|hk<;>cases A<;>simp[Builtin.append_,run_underlying hu,run_underlying hk,sizeOf,typeInfo,Y,hsrc.len,Z,storeCells]
     .rename_i hm;have hm:m≠0:=by simpa using hm
      simp only[aj] at I;subst I;intro φ E h' w a h1 h2 h3 hrep h5;have hp:TZ φ E h' w a e o:=λx y M hy=>sj hrep h3 M hy
      obtain⟨vs,hsrc,hcs⟩:=common (λi hi=>h1 i hi) hp hrep;obtain⟨A,hA⟩:=hbase (hp s _ (by rw[U];simp[Op.operands,eH]) hsv);have hold:(Jw i.size 0 (.slice A 0 0)).run P w.drew= .ok ([]:List Value).toArray w.drew:=by
       cases A with
       |none=>exact run_firstCells_none w.drew i.size 0 0 0
       |some ad=>exact run_firstCells_some w.drew i.size 0 ad 0 0 [] (by simp) (by intro j v hv;simp at hv)
      have:=QI (nx:=nx) (n:=0) (cap:=0) (olds:=[]) (oldA:=[]) U hu Y hz hzl hrep (h5 nx (by simp[AX.eff])) hA hold ⟨rfl,(by intro x M;cases M),(by intro j x v M;simp at M)⟩ (by simp) hsrc hcs (by omega) (by omega) (by simpa using r2) [] (by simp);simpa[AX.eff] using this
    .cases I
  .cases I
 .cases I
end
section
variable {P:Program} {o:Oper} {e:yA} {h:nB} {nx:Nat} {R:AX}
theorem ahx {t:TypeId} (M:o.op= .makeMap t af) (I:eE .mkm e h nx=aa R):gz P o e.get h.get R.eff:=by
 simp only[eE,aj] at I;subst I;refine gz.makes λφ E h' w a _ _ _=>?_
 refine ⟨.map (aa w.heap.size),{w with heap:=w.heap.push (.map #[] 0)},.map #[] 0,?_,qj w _,⟨#[],0,rfl,rfl,by intro j x J;simp at J⟩,λφ' O hφ=>.mp hφ⟩;unfold execOp;rw[M];simp[Instr.makeMap,newObj,mV]
theorem ahs {t:TypeId} {x:Operand} (J:o.op= .range t x) (hu:P.underlying t=aa .string) (I:eE (.rng x) e h nx=aa R):gz P o e.get h.get R.eff:=by
 simp only[eE] at I;split at I
 .rename_i s M;simp only[aj] at I;subst I;refine gz.makes λφ E h' w a _ hp _=>?_
  have hr:=eZ (hp x _ (by rw[J];simp[Op.operands]) M);refine ⟨.pointer (aa ⟨w.heap.size,0,af⟩),{w with heap:=w.heap.push (.stringIter s 0)},.stringIter s 0,?_,qj w _,rfl,λφ' O hφ=>.ptr hφ⟩;unfold execOp;rw[J];simp[Instr.range,run_underlying hu,hr,newObj,mV]
 .cases I
theorem Gr {w:World} {k:Nat} {ob ob':Obj} (hk:w.heap[k]? =aa ob) (h1:∀ c t f,ob≠ .cells c t f) (h2:∀ c t f,ob'≠ .cells c t f):D3 w {w with heap:=w.heap.setIfInBounds k ob'} k ob':=by
 have hlt:k<w.heap.size:=(cu.1 hk).1;have hat:(w.heap.setIfInBounds k ob')[k]? =aa ob':=by simp[hlt]
 have hot:∀ j,j≠k->(w.heap.setIfInBounds k ob')[j]? =w.heap[j]? :=λj hj=>pe (λe=>hj e.symm)
 refine ⟨rfl,rfl,rfl,by simp,hat,hot,λj=>?_⟩;unfold qM;by_cases hj:j=k
 .subst hj;simp only[hat,hk];cases ob<;>cases ob'<;>first|rfl|exact cW rfl (h1 _ _ _)|exact cW rfl (h2 _ _ _)
 .simp only[hot j hj]
theorem aht {x:Operand} (Y:o.op= .next x ah) (I:eE (.nxt x) e h nx=aa R):gz P o e.get h.get R.eff:=by
 simp only[eE] at I;split at I
 .rename_i id hx;split at I
  .rename_i ty s p hid;split at I
   .rename_i b hb;split at I
    .rename_i hlt;have hlt:=aY hlt;simp only[aj] at I;subst I;refine gz.writes hid λφ E h' w a hrd M hp hrep=>?_
     have hr:=hp x _ (by rw[Y];simp[Op.operands]) hx;generalize Z:a.eval x=z at hr;cases hr with
     |@ptr _ _ k hφ=>
      obtain⟨k',q1,_,ob,U,q3⟩:=hrep.at_ id _ M;rw[hφ] at q1;cases q1;have q3:ob= .stringIter s p:=q3;subst q3;have hps:p<s.size:=by
       have:=(bf.1 hb).1;simpa using this
      have hget:s.get! p=b:=by
       have:s.data[p]? =aa b:=by rw[<- cB];exact hb
       have hpd:p<s.data.size:=(cu.1 this).1;have h2:s.data[p]! =s.data[p]:=getElem!_pos s.data p hpd;rw[gX hpd] at this;simp only[ByteArray.get!,h2];exact jE this
      have hdec:Utf8.decode s p=(b.toNat,1):=by
       unfold Utf8.decode;simp only[db,hget];rw[aI (by omega)]
      refine ⟨.value (.tuple #[.bool ah,.int .i64 p,.int .i32 b.toNat]),_,k,.stringIter s (p+1),?_,hφ,Gr U (by simp) (by simp),rfl,_,.inl rfl,?_⟩
      .unfold execOp;rw[Y];simp[Instr.next,Z,getObj,mV,U,hps,hdec,setObj,goInt]
      .refine cG.tup (vs:=[.bool ah,.int .i64 p,.int .i32 b.toNat]) rfl λj y v J hv=>?_
       rcases j with _|_|_|j<;>simp at J hv
       .subst J;subst hv;exact .f (.raw _)
       .subst J;subst hv;exact .f (.raw _)
       .subst J;subst hv;exact .f (.raw _)
    .cases I
   .rename_i hb;simp only[aj] at I;subst I;refine gz.writes hid λφ E h' w a hrd M hp hrep=>?_
    have hr:=hp x _ (by rw[Y];simp[Op.operands]) hx;generalize Z:a.eval x=z at hr;cases hr with
    |@ptr _ _ k hφ=>
     obtain⟨k',q1,_,ob,U,q3⟩:=hrep.at_ id _ M;rw[hφ] at q1;cases q1;have q3:ob= .stringIter s p:=q3;subst q3;have hps:¬p<s.size:=by
      have:=List.getElem?_eq_none_iff.1 hb;have e:s.data.toList.length=s.size:=by simp
      omega
     refine ⟨.value (.tuple #[.bool ai]),w,k,.stringIter s p,?_,hφ,⟨rfl,rfl,rfl,rfl,U,λ_ _=>rfl,λ_=>rfl⟩,rfl,_,.inl rfl,?_⟩
     .unfold execOp;rw[Y];simp[Instr.next,Z,getObj,mV,U,hps]
     .refine cG.tup (vs:=[.bool ai]) rfl λj y v J hv=>?_
      rcases j with _|j<;>simp at J hv;subst J;subst hv;exact .f (.raw _)
  .cases I
 .cases I
theorem yq {a b:ByteArray}:qX a b=ah↔a=b:=by
 unfold qX;constructor
 .intro h;have h1:a.data.toList=b.data.toList:=by simpa using h
  cases a;cases b;congr 1;exact Jx h1
 .rintro rfl;simp
theorem DV (a b:ByteArray):(a==b)=qX a b:=by
 have h1:(a==b)=(a.data==b.data):=rfl;rw[h1,Bool.eq_iff_iff,yq,cM];constructor
 .intro h;cases a;cases b;congr 1
 .rintro rfl;rfl
def kd (str:Bool) (d:TypeDesc):Prop:=if str then d= .string else ∃ k,d= .int k
theorem Bq {str:Bool} {d:TypeDesc} (hd:kd str d) {k k':Value} (hk:xL str k=ah) {b:Bool} (hb:tL .eql k k'=aa (.bool b)):Instr.sameNow d k k'=aa b:=by
 unfold kd at hd;cases str with
 |true=>
  simp only[bC] at hd;subst hd;cases k<;>simp[xL] at hk;cases k'<;>simp only[tL] at hb<;>try (simp at hb;done)
  simp only[aj,A_] at hb;simp[Instr.sameNow,DV,hb]
 |false=>
  simp only[co,dR] at hd;obtain⟨q,rfl⟩:=hd;cases k<;>simp[xL] at hk;cases k'<;>simp only[tL] at hb<;>try (simp at hb;done)
  split at hb
  .rename_i hkk;have hkk':=eq_of_beq hkk;subst hkk';simp only[aj,A_] at hb;simp[Instr.sameNow,<-hb]
  .cases hb
theorem Pk {str:Bool} {d:TypeDesc} (hd:kd str d) {k:Value} (hk:xL str k=ah):∀ (es:List (Value×AV)) (ents:List MapEntry) (i:Nat),ents.map (·.key)=es.map (·.1)->∀ r,r9 k es=aa r->
 (r=af/\jg d k ents i=aa af)\/∃ (j:Nat) (v:AV) (m:MapEntry) (k':Value),r=aa v/\es[j]? =aa (k',v)/\ents[j]? =aa m/\jg d k ents i=aa (aa (i+j,m.val))/\tL .eql k k'=aa (.bool ah)
 |[],ents,i,he,r,h=>by
  cases ents with
  |nil=>simp only[r9,aj] at h;exact .inl ⟨h.symm,rfl⟩
  |cons _ _=>simp at he
 |(k',v)::es,ents,i,he,r,h=>by
  cases ents with
  |nil=>simp at he
  |cons m ents=>
   simp only[fY,iC] at he;obtain⟨I,J⟩:=he;simp only[r9] at h;split at h
   .rename_i hb;simp only[aj] at h;refine .inr ⟨0,v,m,k',h.symm,rfl,rfl,?_,hb⟩;simp only[jg];rw[I,Bq hd hk hb];rfl
   .rename_i hb;have hs:=Bq hd hk hb;rcases Pk hd hk es ents (i+1) J r h with ⟨h1,h2⟩|⟨j,M,m',k'',h1,h2,Z,Y,U⟩
    .refine .inl ⟨h1,?_⟩;simp only[jg];rw[I,hs];exact h2
    .refine .inr ⟨j+1,M,m',k'',h1,by simpa using h2,by simpa using Z,?_,U⟩;simp only[jg];rw[I,hs];show jg d k ents (i+1)=_;rw[Y,show i+1+j=i+(j+1) from by omega]
   .cases h
theorem Br {I:TypeId} {str:Bool} {d:TypeDesc} (hu:P.underlying I=aa d) (hd:kd str d) (b:Bool) (v:Value) (w:World):(Instr.checkKey b 10000 I v).run P w= .ok () w:=by
 have key:∀ n,(Instr.checkKey b (n+1) I v).run P w= .ok () w:=λn=>by
  unfold kd at hd;cases str with
  |true=>simp only[bC] at hd;subst hd;simp[Instr.checkKey,run_underlying hu]
  |false=>simp only[co,dR] at hd;obtain⟨q,rfl⟩:=hd;simp[Instr.checkKey,run_underlying hu]
 exact key 9999
theorem adf {t kt el:TypeId} {x k:Operand} {str:Bool} {d:TypeDesc} {z:Value} (U:o.op= .lookup t x k ai) (hu:P.underlying t=aa (.map kt el)) (hk:P.underlying kt=aa d) (hd:kd str d) (M:(P.info? el).bind (·.zero)=aa z) (I:eE (.lku str z x k) e h nx=aa R):gz P o e.get h.get R.eff:=by
 simp only[eE] at I;split at I
 .rename_i id key hx hkx;split at I
  .rename_i ty es hid;split at I
   .rename_i hko;have fin:∀ val:AV,(∀ (φ:PM) (E:Nat->Prop) (h':HF) (w:World) (a:Act),h' id=aa ⟨ty,.mp es⟩->TZ φ E h' w a e o->qh φ E h' w->∃ v,(execOp a.eval o).run P w= .ok (.value v) w/\cG φ (tot E φ h') w val v)->R=⟨val,[id],[],[],[]⟩->gz P o e.get h.get R.eff:=by
     rintro val hv rfl;exact gz.reads λφ E h' w a hrd hp hrep=>hv φ E h' w a (by rw[hrd id (by simp)];exact hid) hp hrep
    have zrun:∀ w:World,(zeroValue el).run P w= .ok z w:=λw=>by
     cases hi:P.info? el with
     |none=>rw[hi] at M;cases M
     |some i=>rw[hi] at M;simp only[aF] at M;simp[zeroValue,typeInfo,hi,M]
    have main:∀ r,r9 key es=aa r->∀ (φ:PM) (E:Nat->Prop) (h':HF) (w:World) (a:Act),h' id=aa ⟨ty,.mp es⟩->TZ φ E h' w a e o->qh φ E h' w->
     ∃ v,(execOp a.eval o).run P w= .ok (.value v) w/\cG φ (tot E φ h') w (match r with|some v=>v|none=>raw z) v:=by
     intro r hr φ E h' w a Y hp hrep;have hrx:=hp x _ (by rw[U];simp[Op.operands]) hx;have hrk:=eZ (hp k _ (by rw[U];simp[Op.operands]) hkx);generalize J:a.eval x=zz at hrx;cases hrx with
     |@mp _ b hφ=>
      obtain⟨k',q1,_,ob,Z,q3⟩:=hrep.at_ id _ Y;rw[hφ] at q1;cases q1;obtain⟨ents,clock,rfl,q4,q5⟩:=q3;have hck:=Br (P:=P) hk hd ents.isEmpty key w;rcases Pk hd hko es ents.toList 0 q4 r hr with ⟨h1,h2⟩|⟨j,v,m,k',h1,h2,h3,h4,_⟩
      .subst h1;refine ⟨z,?_,.f (.raw z)⟩;unfold execOp;rw[U];simp[Instr.lookup,run_underlying hu,J,hrk,getObj,mV,Z,hck,Instr.findKey,run_underlying hk,h2,zrun]
      .subst h1;obtain⟨m',h6,h7⟩:=q5 j _ h2;rw[cB] at h3;rw[h3] at h6;cases h6;refine ⟨m.val,?_,h7⟩;unfold execOp;rw[U];simp[Instr.lookup,run_underlying hu,J,hrk,getObj,mV,Z,hck,Instr.findKey,run_underlying hk,h4]
    split at I
    .rename_i v hf;simp only[aj] at I;exact fin v (main _ hf) I.symm
    .rename_i hf;simp only[aj] at I;exact fin (raw z) (main _ hf) I.symm
    .cases I
   .cases I
  .cases I
 .cases I
theorem Um {str:Bool} {d:TypeDesc} (hd:kd str d) {k:Value} (hk:xL str k=ah) {v:AV}:∀ (es es':List (Value×AV)) (ents:List MapEntry) (i:Nat),ents.map (·.key)=es.map (·.1)->xJ k v es=aa es'->
 (jg d k ents i=aa af/\es'=es++[(k,v)])\/∃ (j:Nat) (m:MapEntry) (k':Value) (J:AV),es[j]? =aa (k',J)/\ents[j]? =aa m/\jg d k ents i=aa (aa (i+j,m.val))/\tL .eql k k'=aa (.bool ah)/\es'=es.set j (k,v)
 |[],es',ents,i,he,h=>by
  cases ents with
  |nil=>simp only[xJ,aj] at h;exact .inl ⟨rfl,by simp[h]⟩
  |cons _ _=>simp at he
 |(k',J)::es,es',ents,i,he,h=>by
  cases ents with
  |nil=>simp at he
  |cons m ents=>
   simp only[fY,iC] at he;obtain⟨I,M⟩:=he;simp only[xJ] at h;split at h
   .rename_i hb;simp only[aj] at h;refine .inr ⟨0,m,k',J,rfl,rfl,?_,hb,by simp[h]⟩;simp only[jg];rw[I,Bq hd hk hb];rfl
   .rename_i hb;have hs:=Bq hd hk hb;split at h
    .rename_i es2 hes2;simp only[aj] at h;subst h;rcases Um hd hk es es2 ents (i+1) M hes2 with ⟨h1,h2⟩|⟨j,m',k'',v'',h1,h2,Z,Y,U⟩
     .refine .inl ⟨?_,by simp[h2]⟩;simp only[jg];rw[I,hs];exact h1
     .refine .inr ⟨j+1,m',k'',v'',by simpa using h1,by simpa using h2,?_,Y,by simp[U]⟩;simp only[jg];rw[I,hs];show jg d k ents (i+1)=_;rw[Z,show i+1+j=i+(j+1) from by omega]
    .cases h
   .cases h
theorem YM {str:Bool} {k k':Value} (hk:xL str k=ah) (hb:tL .eql k k'=aa (.bool ah)):Instr.sameBits 10000 k' k=ah/\k'=k:=by
 cases str with
 |true=>
  cases k<;>simp[xL] at hk;cases k'<;>simp only[tL] at hb<;>try (simp at hb;done)
  simp only[aj,A_] at hb;have:=yq.1 hb;subst this;exact⟨by simp[Instr.sameBits,DV,hb],rfl⟩
 |false=>
  cases k<;>simp[xL] at hk;cases k'<;>simp only[tL] at hb<;>try (simp at hb;done)
  split at hb
  .rename_i hkk;have hkk':=eq_of_beq hkk;subst hkk';simp only[aj,A_,cM] at hb;subst hb;exact⟨by simp[Instr.sameBits],rfl⟩
  .cases hb
theorem ade {t kt el:TypeId} {x k y:Operand} {str:Bool} {d:TypeDesc} (M:o.op= .mapUpdate t x k y) (hu:P.underlying t=aa (.map kt el)) (hk:P.underlying kt=aa d) (hd:kd str d) (I:eE (.mup str x k y) e h nx=aa R):gz P o e.get h.get R.eff:=by
 simp only[eE] at I;split at I
 .rename_i id key v hx hkx hy;split at I
  .rename_i ty es hid;split at I
   .rename_i hko;split at I
    .rename_i es' hput;simp only[aj] at I;subst I;refine gz.writes hid λφ E h' w a hrd Z hp hrep=>?_
     have hrx:=hp x _ (by rw[M];simp[Op.operands]) hx;have hrk:=eZ (hp k _ (by rw[M];simp[Op.operands]) hkx);have hry:=hp y _ (by rw[M];simp[Op.operands]) hy;generalize J:a.eval x=zz at hrx;cases hrx with
     |@mp _ b hφ=>
      obtain⟨k',q1,_,ob,U,q3⟩:=hrep.at_ id _ Z;rw[hφ] at q1;cases q1;obtain⟨ents,clock,rfl,q4,q5⟩:=q3;have hck:=Br (P:=P) hk hd ai key w;have hlen:ents.size=es.length:=by have:=gx ak q4;simpa using this
      rcases Um hd hko es es' ents.toList 0 q4 hput with ⟨h1,rfl⟩|⟨j,m,k',v',h1,h2,h3,h4,rfl⟩
      .refine ⟨.skip,_,b,.map (ents.push {key,val:=a.eval y,born:=clock}) (clock+1),?_,hφ,Gr U (by simp) (by simp),⟨_,_,rfl,by simp[q4],λj q hq=>?_⟩,undef,.inr ⟨rfl,rfl⟩,.f (.raw _)⟩
       .unfold execOp;rw[M];simp[Instr.mapUpdate,run_underlying hu,J,hrk,getObj,mV,U,hck,Instr.findKey,run_underlying hk,h1,setObj]
       .rcases bV j es.length with hj|hj
        .rw[bL hj] at hq;obtain⟨m,g1,g2⟩:=q5 j q hq;exact⟨m,by rw[Array.getElem?_push,aC (by omega)];exact g1,g2⟩
        .rw[bW hj] at hq;have Y:j-es.length=0:=by
          rcases Jv (j-es.length) with h0|h0
          .exact h0
          .rw[bK (by simp;omega)] at hq;cases hq
         rw[Y] at hq;simp at hq;subst hq;exact⟨_,by rw[Array.getElem?_push,aI (by omega)],hry⟩
      .obtain⟨s1,s2⟩:=YM hko h4;subst s2;rw[cB] at h2;rw[bJ] at h3;have hjl:j<ents.size:=(cu.1 h2).1;have hmk:m.key=k':=by
        have e1:(ents.toList.map (·.key))[j]? =aa m.key:=by rw[aZ,cB,h2];rfl
        rw[q4,aZ,h1] at e1;simpa using e1.symm
       refine ⟨.skip,_,b,.map (ents.modify j λe=>{e with key:=k',val:=a.eval y}) clock,?_,hφ,Gr U (by simp) (by simp),⟨_,_,rfl,?_,λi q hq=>?_⟩,undef,.inr ⟨rfl,rfl⟩,.f (.raw _)⟩
       .unfold execOp;rw[M];simp[Instr.mapUpdate,run_underlying hu,J,hrk,getObj,mV,U,hck,Instr.findKey,run_underlying hk,h3,setObj,h2,hmk,Instr.keyThatStays,s1]
       .apply List.ext_getElem?;intro i;simp only[aZ,cB,rY,Array.getElem?_modify];have e2:∀ i:Nat,(ents[i]?).map (λm:MapEntry=>m.key)=(es[i]?).map (λp:Value×AV=>p.1):=λi=>by
         have:=gx (λl=>l[i]?) q4;simpa[aZ,cB] using this
        by_cases hij:j=i
        .subst hij;simp[h2,show j<es.length by omega]
        .simp only[hij,dR];exact e2 i
       .rw[rY] at hq;rw[Array.getElem?_modify];by_cases hij:j=i
        .subst hij;simp[show j<es.length by omega] at hq;subst hq;exact⟨{m with key:=k',val:=a.eval y},by simp[h2],hry⟩
        .simp only[hij,dR] at hq ⊢;exact q5 i q hq
    .cases I
   .cases I
  .cases I
 .cases I
end
section
variable {P:Program} {o:Oper} {e:yA} {h:nB} {nx:Nat} {R:AX}
theorem Oh {t:TypeId} {d:TypeDesc} (hu:P.underlying t=aa d) (hd:(match d with|.int _=>ah|.bool=>ah|.string=>ah|_=>ai)=ah) (cs:Array Value) (j:Nat) (v:Value) (hv:cs[j]? =aa v) (w:World):(part t cs j).run P w= .ok v w:=by
 unfold part;simp only[isAgg,em,run_underlying hu,cD];cases d<;>simp at hd<;>simp[hv]
theorem V_ {t:TypeId} {d:TypeDesc} (hu:P.underlying t=aa d) (hd:(match d with|.int _=>ah|.bool=>ah|.string=>ah|_=>ai)=ah) {x y:FV} {b:Bool} (hxy:wD d x y=aa b) {u v:Value} (M:x= .raw u) (J:y= .raw v) (n:Nat) (w:World):(Op.equalIn (n+1) t u v).run P w= .ok b w:=by
 subst M;subst J;cases d<;>simp at hd<;>cases u<;>cases v<;>simp only[wD] at hxy<;>first|(cases hxy;done)|skip
 .simp only[aj] at hxy;subst hxy;simp[Op.equalIn,run_underlying hu]
 .split at hxy
  .rename_i hk;have I:=eq_of_beq hk;subst I;simp only[aj] at hxy;subst hxy;simp[Op.equalIn,run_underlying hu]
  .cases hxy
 .simp only[aj] at hxy;subst hxy;simp[Op.equalIn,run_underlying hu,DV]
abbrev H3 (n:Nat) (xs I:Array Value) (f:Field) (_:Option Bool×Unit):Sem (ForInStep (Option Bool×Unit)):=
 if f.name≠ "_" then do
  let a←part f.type xs f.offset
  let b←part f.type I f.offset
  let c←Op.equalIn (n+1) f.type a b
  if (!c)=ah then pure (ForInStep.done (aa ai,())) else pure (ForInStep.yield (af,()))
 else pure (ForInStep.yield (af,()))
theorem Lj (n:Nat) (w:World) (xs I:Array Value):∀ (fs:List Field) (ds:List TypeDesc) (a b:List FV) (k:Nat) (r:Bool),qP P k fs=aa ds->
 (∀ (j:Nat) x u,a[j]? =aa x->xs[k+j]? =aa u->x= .raw u\/∀ v,x≠ .raw v)->(∀ (j:Nat) x u,b[j]? =aa x->I[k+j]? =aa u->x= .raw u\/∀ v,x≠ .raw v)->(∀ (j:Nat),j<a.length->k+j<xs.size)->(∀ (j:Nat),j<b.length->k+j<I.size)->oz ds a b=aa r->
 (forIn fs (af,()) (H3 n xs I)).run P w= .ok (if r then (af,()) else (aa ai,())) w
 |[],ds,a,b,k,r,hp,_,_,_,_,he=>by
  simp only[qP,aj] at hp;subst hp;cases a<;>cases b<;>simp[oz] at he;subst he;simp
 |f::fs,ds,a,b,k,r,hp,Z,hb,hla,hlb,he=>by
  simp only[qP] at hp;split at hp
  .rename_i d ds' hu Y;split at hp
   .rename_i hc;simp only[au,bne_iff_ne,ne_eq,cM] at hc;obtain⟨⟨hn,hof⟩,hd⟩:=hc;simp only[aj] at hp;subst hp;cases a with
    |nil=>cases b<;>simp[oz] at he
    |cons x a=>
     cases b with
     |nil=>simp[oz] at he
     |cons y b=>
      simp only[oz] at he;have U:k<xs.size:=by have:=hla 0 (by simp);omega
      have M:k<I.size:=by have:=hlb 0 (by simp);omega
      have hraw:∀ (z:FV) (q:Value),(z= .raw q\/∀ v,z≠ .raw v)->(∃ v,z= .raw v)->z= .raw q:=by
       rintro z q (h|h) ⟨v,hv⟩
       .exact h
       .exact cW hv (h v)
      have hxr:∀ J,wD d x y=aa J->x= .raw xs[k]/\y= .raw I[k]:=by
       intro J hbb;have hrr:(∃ v,x= .raw v)/\∃ v,y= .raw v:=by
        unfold wD at hbb;split at hbb
        .exact⟨⟨_,rfl⟩,⟨_,rfl⟩⟩
        .exact⟨⟨_,rfl⟩,⟨_,rfl⟩⟩
        .exact⟨⟨_,rfl⟩,⟨_,rfl⟩⟩
        .cases hbb
       exact⟨hraw x _ (Z 0 x _ rfl (by simp[U])) hrr.1,hraw y _ (hb 0 y _ rfl (by simp[M])) hrr.2⟩
      have hstep:∀ J,wD d x y=aa J->(H3 n xs I f (af,())).run P w= .ok (if J then ForInStep.yield (af,()) else ForInStep.done (aa ai,())) w:=by
       intro J hbb;obtain⟨h1,h2⟩:=hxr J hbb;have p1:=Oh hu (by cases d<;>simp[GV] at hd<;>rfl) xs k xs[k] (by simp[U]) w;have p2:=Oh hu (by cases d<;>simp[GV] at hd<;>rfl) I k I[k] (by simp[M]) w;have p3:=V_ hu (by cases d<;>simp[GV] at hd<;>rfl) hbb h1 h2 n w;unfold H3;rw[aI hn,hof];simp only[em,p1,p2,p3,cD];cases J<;>simp
      rw[List.forIn_cons];simp only[em];split at he
      .rename_i hbb;rw[hstep ah hbb];simp only[cD,bC];exact Lj n w xs I fs ds' a b (k+1) r Y (λj x u h1 h2=>Z (j+1) x u (by simpa using h1) (by rw[<- h2];congr 1;omega)) (λj x u h1 h2=>hb (j+1) x u (by simpa using h1) (by rw[<- h2];congr 1;omega))
        (λj hj=>by have:=hla (j+1) (by simpa using hj);omega) (λj hj=>by have:=hlb (j+1) (by simpa using hj);omega) he
      .rename_i hbb;rw[hstep ai hbb];simp only[aj] at he;subst he;simp
      .cases he
   .cases hp
  .cases hp
theorem V9 {t:TypeId} {fs:Array Field} (hu:P.underlying t=aa (.struct fs)) (hs:P.stoodInHeld t=ai) {ds:List TypeDesc} (hp:qP P 0 fs.toList=aa ds) (xs I:Array Value) {a b:List FV} {r:Bool}
 (J:∀ (j:Nat) x u,a[j]? =aa x->xs[j]? =aa u->x= .raw u\/∀ v,x≠ .raw v) (hb:∀ (j:Nat) x u,b[j]? =aa x->I[j]? =aa u->x= .raw u\/∀ v,x≠ .raw v) (hla:a.length=xs.size) (hlb:b.length=I.size) (he:oz ds a b=aa r) (w:World):
 (Op.equal t (.agg xs) (.agg I)).run P w= .ok r w:=by
 have key:∀ n,(Op.equalIn (n+2) t (.agg xs) (.agg I)).run P w= .ok r w:=by
  intro n;rw[Op.equalIn];have h1:=Lj (P:=P) n w xs I fs.toList ds a b 0 r hp (λj x u h1 h2=>J j x u h1 (by simpa using h2)) (λj x u h1 h2=>hb j x u h1 (by simpa using h2)) (λj hj=>by omega) (λj hj=>by omega) he;rw[Array.forIn_toList] at h1;simp only[em,run_underlying hu,cD,program,mV,hs,co,dR];have h2:(forIn fs (af,()) (λf __s=>H3 n xs I f __s)).run P w= .ok (if r then (af,()) else (aa ai,())) w:=h1;unfold H3 at h2;rw[h2];cases r<;>simp
 exact key 9998
theorem Pq {t:TypeId} {fs:Array Field} (hu:P.underlying t=aa (.struct fs)) {ds:List TypeDesc} (hp:qP P 0 fs.toList=aa ds):P.eqGuardType P.depth t=ai:=by
 have key:∀ (fs:List Field) (k:Nat) (ds:List TypeDesc),qP P k fs=aa ds→∀ d,(fs.any λf=>f.name != "_" &&P.eqGuardType (d+1) f.type)=ai:=by
  intro fs;induction fs with
  |nil=>intros;rfl
  |cons f fs M=>
   intro k ds hp d;simp only[qP] at hp;split at hp
   .rename_i U ds' I J;split at hp
    .rename_i hc;simp only[au] at hc;have:P.eqGuardType (d+1) f.type=ai:=by
      unfold Program.eqGuardType;rw[I];have:=hc.2;cases U<;>simp[GV] at this<;>rfl
     simp only[List.any_cons,this,Bool.and_false,Bool.false_or];exact M (k+1) ds' J d
    .cases hp
   .cases hp
 unfold Program.depth Program.eqGuardType;rw[hu];simp only[];rw[← Array.any_toList];exact key fs.toList 0 ds hp _
theorem adg {t t':TypeId} {op:BinOp} {neg:Bool} {x y:Operand} {fs:Array Field} {ds:List TypeDesc} (Y:o.op= .binOp op t x y t') (hop:op=if neg then .neq else .eql) (hu:P.underlying t=aa (.struct fs)) (hs:P.stoodInHeld t=ai) (hp:qP P 0 fs.toList=aa ds) (I:eE (.eqs neg ds x y) e h nx=aa R):gz P o e.get h.get R.eff:=by
 simp only[eE] at I;split at I
 .rename_i a b J hy;split at I
  .rename_i r hr;rw[dj I];refine gz.reads λφ E h' w ac _ hpp _=>?_
   have h1:=hpp x _ (by rw[Y];simp[Op.operands]) J;have h2:=hpp y _ (by rw[Y];simp[Op.operands]) hy;generalize hzx:ac.eval x=zx at h1;generalize hzy:ac.eval y=zy at h2;have rawOr:∀ (l:List FV) (vs:List Value),(∀ (j:Nat) x v,l[j]? =aa x->vs[j]? =aa v->mR (tot E φ h') w x v)->∀ (j:Nat) x u,l[j]? =aa x->vs.toArray[j]? =aa u->x= .raw u\/∀ v,x≠ .raw v:=by
    intro l vs hr j x u J hu;have:=hr j x u J (by simpa using hu);cases this with
    |raw v=>exact .inl rfl
    |nil=>exact .inr (by simp)
    |sl=>exact .inr (by simp)
    |ptr=>exact .inr (by simp)
    |agg=>exact .inr (by simp)
   cases h1 with
   |f h1=>
    cases h1 with
    |agg _ vs hl hcl U=>
     cases h2 with
     |f h2=>
      cases h2 with
      |agg _ us Z hcl' M=>
       have heq:=V9 hu hs hp vs.toArray us.toArray (rawOr a vs U) (rawOr b us M) (by simp[hl]) (by simp[Z]) hr w;refine ⟨_,?_,.f (.raw _)⟩;have hg:=Pq hu hp;unfold execOp;rw[Y];simp only[hzx,hzy];subst hop;cases neg<;>simp[eqGuard,program,mV,hg,binOp,heq]
  .cases I
 .cases I
end
theorem bind_some {α β:Type} {x:Option α} {f:α->Option β} {y:β} (h:x.bind f=aa y):∃ a,x=aa a/\f a=aa y:=by
 cases x with
 |none=>cases h
 |some a=>exact⟨a,rfl,h⟩
theorem map_some {α β:Type} {x:Option α} {f:α->β} {y:β} (h:x.map f=aa y):∃ a,x=aa a/\f a=y:=by
 cases x with
 |none=>cases h
 |some a=>exact⟨a,rfl,by simpa using h⟩
theorem lD {c:Bool} {β:Type} {x:Option β} {y:β} (h:(if c then x else af)=aa y):c=ah/\x=aa y:=by
 cases c with
 |true=>exact⟨rfl,by simpa using h⟩
 |false=>simp at h
theorem GZ {P:Program} {o:Oper} {e:yA} {h:nB} {nx:Nat} {s:WZ} {R:AX} (hc:c9 P o.op=aa s) (J:eE s e h nx=aa R):gz P o e.get h.get R.eff:=by
 unfold c9 at hc;split at hc
 .rename_i x I;simp only[aj] at hc;subst hc;exact ahw (.inl I) J
 .rename_i x I;simp only[aj] at hc;subst hc;exact ahw (.inr I) J
 .rename_i c a b I;simp only[aj] at hc;subst hc;exact aew I J
 .rename_i t I;obtain⟨z,h1,hc⟩:=bind_some hc;obtain⟨h2,hc⟩:=lD hc;simp only[aj] at hc;subst hc;exact abw I h1 h2 J
 .rename_i t x I;simp only[aj] at hc;subst hc;exact ai8 I J
 .rename_i t ps I;split at hc
  .rename_i fs hu;obtain⟨z,h1,hc⟩:=bind_some hc;obtain⟨h2,hc⟩:=lD hc;obtain⟨ps',M,rfl⟩:=map_some hc;simp only[au] at h2;exact Vd I h1 h2.1 M (.inl ⟨fs,hu,h2.2⟩) J
  .rename_i n el hu;obtain⟨z,h1,hc⟩:=bind_some hc;obtain⟨h2,hc⟩:=lD hc;obtain⟨ps',M,rfl⟩:=map_some hc;simp only[au] at h2;obtain⟨sz,U⟩:=iu.1 h2.2;exact Vd I h1 h2.1 M (.inr ⟨n,el,sz,hu,U⟩) J
  .cases hc
 .rename_i t n ps I;obtain⟨el,h1,hc⟩:=bind_some hc;obtain⟨z,h2,hc⟩:=bind_some hc;obtain⟨sz,M,hc⟩:=bind_some hc;obtain⟨U,hc⟩:=lD hc;obtain⟨ps',Z,rfl⟩:=map_some hc;simp only[au,cM,bne_iff_ne] at U;exact ai7 I (rx h1) h2 M U.1.1.1 U.1.1.2 U.2 (aY U.1.2) Z J
 .rename_i t x I;obtain⟨sz,h1,hc⟩:=bind_some hc;obtain⟨ag,h2,rfl⟩:=map_some hc;exact aez I h1 h2 J
 .rename_i t x v I;obtain⟨sz,h1,rfl⟩:=map_some hc;exact abv I h1 J
 .rename_i x I;simp only[aj] at hc;subst hc;exact aex I J
 .rename_i op t x y t' I;split at hc
  .simp only[aj] at hc;subst hc;exact adi I J
  .simp only[aj] at hc;subst hc;exact adi I J
  .rename_i hu;split at hc
   .simp only[aj] at hc;subst hc;exact adh (neg:=ai) I rfl hu J
   .simp only[aj] at hc;subst hc;exact adh (neg:=ah) I rfl hu J
   .cases hc
  .rename_i el hu;split at hc
   .simp only[aj] at hc;subst hc;exact Vc (neg:=ai) I rfl rfl hu J
   .simp only[aj] at hc;subst hc;exact Vc (neg:=ah) I rfl rfl hu J
   .cases hc
  .rename_i fs hu;obtain⟨ds,h1,hc⟩:=bind_some hc;unfold X0 at h1;rw[hu] at h1;simp only[] at h1;split at h1
   .cases h1
   .rename_i hst;have hst:P.stoodInHeld t=ai:=by simpa using hst
    split at hc
    .simp only[aj] at hc;subst hc;exact adg (neg:=ai) I rfl hu hst h1 J
    .simp only[aj] at hc;subst hc;exact adg (neg:=ah) I rfl hu hst h1 J
    .cases hc
  .cases hc
 .rename_i t x I;simp only[aj] at hc;subst hc;exact ahu I J
 .rename_i t x I;split at hc
  .simp only[aj] at hc;subst hc;exact ahv I J
  .cases hc
 .rename_i s' d x I;split at hc
  .rename_i k k' h1 h2;simp only[aj] at hc;subst hc;exact af5 I h1 h2 J
  .cases hc
 .rename_i t l c I;obtain⟨el,h1,hc⟩:=bind_some hc;obtain⟨z,h2,hc⟩:=bind_some hc;obtain⟨sz,M,hc⟩:=bind_some hc;obtain⟨b,Z,hc⟩:=bind_some hc;obtain⟨U,hc⟩:=lD hc;simp only[au,cM,bne_iff_ne] at U;simp only[aj] at hc;subst hc;exact aey I (rx h1) h2 M Z U.1.1 U.1.2 U.2 J
 .rename_i t x lo hi mx I;obtain⟨el,h1,hc⟩:=bind_some hc;obtain⟨sz,h2,rfl⟩:=map_some hc;exact ahr I (rx h1) h2 J
 .rename_i t x k I;split at hc
  .rename_i fs hu;obtain⟨f,h1,hc⟩:=bind_some hc;obtain⟨sz,h2,hc⟩:=bind_some hc;obtain⟨M,hc⟩:=lD hc;simp only[aj] at hc;subst hc;exact ai4 I hu h1 h2 (by simpa using M) J
  .cases hc
 .rename_i t x k I;split at hc
  .rename_i fs hu;obtain⟨f,h1,hc⟩:=bind_some hc;obtain⟨sz,h2,hc⟩:=bind_some hc;obtain⟨ag,M,rfl⟩:=map_some hc;exact ai3 I hu h1 h2 M J
  .cases hc
 .rename_i t x i I;split at hc
  .rename_i el hu;obtain⟨sz,h1,rfl⟩:=map_some hc;exact ai2 I hu h1 J
  .rename_i n el hu;obtain⟨sz,h1,rfl⟩:=map_some hc;exact af3 I hu h1 J
  .cases hc
 .rename_i t x i I;split at hc
  .rename_i n el hu;obtain⟨sz,h1,hc⟩:=bind_some hc;obtain⟨ag,h2,rfl⟩:=map_some hc;exact ai1 I hu h1 h2 J
  .rename_i hu;simp only[aj] at hc;subst hc;exact aev I hu J
  .cases hc
 .rename_i x i I;simp only[aj] at hc;subst hc;exact ai5 I J
 .rename_i f first caps I
  obtain⟨h1,hc⟩:=lD hc;simp only[aj] at hc;subst hc;have h2:first=#[]:=by simpa using h1
  subst h2;exact ahy I J
 .rename_i t I;split at hc
  .simp only[aj] at hc;subst hc;exact ahx I J
  .cases hc
 .rename_i t x k I;split at hc
  .rename_i kt el hu;split at hc
   .rename_i q z h1 h2;obtain⟨M,hc⟩:=lD hc;simp only[aj] at hc;subst hc;exact adf (str:=ai) I hu h1 ⟨q,rfl⟩ h2 J
   .rename_i z h1 h2;obtain⟨M,hc⟩:=lD hc;simp only[aj] at hc;subst hc;exact adf (str:=ah) I hu h1 rfl h2 J
   .cases hc
  .cases hc
 .rename_i t m k v I;split at hc
  .rename_i kt el hu;split at hc
   .rename_i q h1;simp only[aj] at hc;subst hc;exact ade (str:=ai) I hu h1 ⟨q,rfl⟩ J
   .rename_i h1;simp only[aj] at hc;subst hc;exact ade (str:=ah) I hu h1 rfl J
   .cases hc
  .cases hc
 .rename_i t x I;split at hc
  .rename_i hu;simp only[aj] at hc;subst hc;exact ahs I hu J
  .cases hc
 .rename_i x I;simp only[aj] at hc;subst hc;exact aht I J
 .rename_i c I;obtain⟨callee,args,argTypes⟩:=c;have arr:∀ {α:Type} {x:Array α} {l:List α},x.toList=l->x=l.toArray:=λh=>by rw[<- h]
  unfold Qq at hc;simp only[] at hc;split at hc
  .split at hc
   .rename_i x t h1 h2;rw[arr h1,arr h2] at I;split at hc
    .rename_i el hu;simp only[aj] at hc;subst hc;exact af2 I hu J
    .rename_i hu;simp only[aj] at hc;subst hc;exact af1 I hu J
    .rename_i k v hu;simp only[aj] at hc;subst hc;exact af0 I hu J
    .cases hc
   .cases hc
  .split at hc
   .rename_i x y h1;rw[arr h1] at I;simp only[aj] at hc;subst hc;exact ai0 I J
   .cases hc
  .split at hc
   .rename_i x y h1;rw[arr h1] at I;simp only[aj] at hc;subst hc;exact ahz I J
   .cases hc
  .split at hc
   .rename_i d x t u h1 h2;rw[arr h1,arr h2] at I;split at hc
    .rename_i el el' h1 h2;obtain⟨sz,M,hc⟩:=bind_some hc;obtain⟨U,hc⟩:=lD hc;simp only[aj] at hc;subst hc;exact af4 I (rx h1) (rx h2) M J
    .cases hc
   .cases hc
  .split at hc
   .rename_i x t h1 h2;rw[arr h1,arr h2] at I;obtain⟨el,M,hc⟩:=bind_some hc;obtain⟨z,U,hc⟩:=bind_some hc;obtain⟨sz,Z,hc⟩:=bind_some hc;obtain⟨Y,hc⟩:=lD hc;simp only[au,cM,bne_iff_ne,ne_eq] at Y;simp only[aj] at hc;subst hc;exact ai6 I (rx M) U Y.1.1 Y.1.2 Y.2 J
   .cases hc
  .split at hc
   .rename_i s' x t u h1 h2;rw[arr h1,arr h2] at I;split at hc
    .rename_i el el' h1 h2;obtain⟨sz,M,hc⟩:=bind_some hc;obtain⟨b,U,hc⟩:=bind_some hc;obtain⟨z,Z,hc⟩:=bind_some hc;obtain⟨Y,hc⟩:=lD hc;simp only[au,cM,bne_iff_ne] at Y;simp only[aj] at hc;subst hc;exact ai9 I (rx h1) (rx h2) M U Z Y.2 Y.1 J
    .cases hc
   .cases hc
  .cases hc
 .cases hc
theorem lH {p:Nat->Bool}:∀ {l:List AV},AV.allL p l=ah->∀ x∈l,AV.all p x=ah
 |[],_,x,I=>by cases I
 |y::l,h,x,I=>by
  simp only[AV.allL,au] at h;rcases bh.1 I with rfl|I
  .exact h.1
  .exact lH h.2 x I
theorem cG.restrict {φ φ':PM} {O O':Nat->Prop} {w:World} {p:Nat->Bool} (hs:∀ i k,p i=ah->φ i=aa k->φ' i=aa k) (M:∀ k,O' k->O k) {x:AV} {v:Value} (h:cG φ O w x v):x.all p=ah->cG φ' O' w x v:=by
 induction h with
 |f h=>intro _;exact .f (h.ext (O':=O') (Js.refl O w) λk _ hk=>M k hk)
 |ptr h=>intro hp;exact .ptr (hs _ _ hp h)
 |sl h hn hc=>intro hp;exact .sl (hs _ _ hp h) hn hc
 |row h hn hc hsh=>intro hp;exact .row (hs _ _ hp h) hn hc hsh
 |emp=>intro _;exact .emp
 |anyb=>intro _;exact .anyb
 |mp h=>intro hp;exact .mp (hs _ _ hp h)
 |agg hl hcl hr J=>intro hp;exact .agg hl hcl λj x v I hv=>J j x v I hv (lH hp x (a8 I))
 |tup hl hr J=>intro hp;exact .tup hl λj x v I hv=>J j x v I hv (lH hp x (a8 I))
 |clo hl hr J=>intro hp;exact .clo hl λj x v I hv=>J j x v I hv (lH hp x (a8 I))
theorem jd.restrict {φ φ':PM} {O O':Nat->Prop} {w w':World} {p:Nat->Bool} (hk:∀ x v,x.all p=ah->cG φ O w x v->cG φ' O' w' x v) {b:vN} {o:Obj} (hb:b.c.all p=ah) (h:jd φ O w b o):jd φ' O' w' b o:=by
 unfold jd at h ⊢;cases hc:b.c with
 |fz l=>
  rw[hc] at h;obtain⟨arr,h1,h2,J⟩:=h;exact⟨arr,h1,h2,λj x I=>by
   obtain⟨a,v,c,d⟩:=J j x I;refine ⟨a,v,c,hk _ _ ?_ d⟩;simp only[BC.get] at I;cases hl:l[j]? with
   |none=>rw[hl] at I;cases I
   |some q=>rw[hl] at I;simp at I;subst I;rfl⟩
 |mx l=>
  rw[hc] at h hb;obtain⟨arr,h1,h2,J⟩:=h;exact⟨arr,h1,h2,λj x I=>by
   obtain⟨a,v,c,d⟩:=J j x I;exact⟨a,v,c,hk _ _ (lH hb x (a8 I)) d⟩⟩
 |mp es=>
  rw[hc] at h hb;obtain⟨e,c,h1,h2,J⟩:=h;exact⟨e,c,h1,h2,λj x I=>by
   obtain⟨m,a,b⟩:=J j x I;exact⟨m,a,hk _ _ (lH hb x.2 (dc.2 ⟨x,a8 I,rfl⟩)) b⟩⟩
 |it s q=>rw[hc] at h;exact h
def Y_ (m:Nat):List Nat:=(eg (m+1)).filter λi=>aL m i
theorem K6 {m i:Nat}:i∈Y_ m↔aL m i=ah:=by
 unfold Y_;rw[D',mS];constructor
 .exact λh=>h.2
 .intro h;refine ⟨?_,h⟩;have h1:=Nat.ge_two_pow_of_testBit h;have h2:=Nat.lt_two_pow_self (n:=i);omega
def jI (φ:PM) (O:Nat->Prop) (w:World):List AV->List Value->Prop
 |[],[]=>True
 |x::xs,v::vs=>cG φ O w x v/\jI φ O w xs vs
 |_,_=>False
theorem jI.length {φ:PM} {O:Nat->Prop} {w:World}:∀ {args:List AV} {vs:List Value},jI φ O w args vs->vs.length=args.length
 |[],[],_=>rfl
 |[],_::_,h=>h.elim
 |_::_,[],h=>h.elim
 |_::_,_::_,h=>by simp[jI.length h.2]
theorem jI.mono {φ φ':PM} {O O':Nat->Prop} {w w':World} {p:Nat->Bool} (hk:∀ x v,x.all p=ah->cG φ O w x v->cG φ' O' w' x v):∀ {args:List AV} {vs:List Value},AV.allL p args=ah->jI φ O w args vs->jI φ' O' w' args vs
 |[],[],_,_=>trivial
 |[],_::_,_,h=>h.elim
 |_::_,[],_,h=>h.elim
 |x::xs,_::_,hp,h=>by
  simp only[AV.allL,au] at hp;exact⟨hk _ _ hp.1 h.1,jI.mono hk hp.2 h.2⟩
theorem jI.append {φ:PM} {O:Nat->Prop} {w:World}:∀ {xs I:List AV} {vs us:List Value},jI φ O w xs vs->jI φ O w I us->jI φ O w (xs++I) (vs++us)
 |[],_,[],_,_,h=>h
 |[],_,_::_,_,h,_=>h.elim
 |_::_,_,[],_,h,_=>h.elim
 |_::_,_,_::_,_,h,h'=>⟨h.1,jI.append h.2 h'⟩
theorem jI.of {φ:PM} {O:Nat->Prop} {w:World}:∀ {xs:List AV} {vs:List Value},vs.length=xs.length->(∀ (j:Nat) x v,xs[j]? =aa x->vs[j]? =aa v->cG φ O w x v)->jI φ O w xs vs
 |[],[],_,_=>trivial
 |[],_::_,h,_=>by simp at h
 |_::_,[],h,_=>by simp at h
 |x::xs,v::vs,hl,h=>⟨h 0 x v rfl rfl,jI.of (by simpa using hl) λj x v I hv=>h (j+1) x v (by simpa using I) (by simpa using hv)⟩
def CU (P:Program) (f:FuncId):Prop:=∃ fn,P.funcs[f]? =aa fn∧fn.body.isNone=ai∧(fn.name== "runtime.NumGoroutine")=ai
theorem MS {φ:PM} {E:Nat->Prop} {h':HF} {w:World} {a:Act} {e:yA} {o:Oper} (hp:TZ φ E h' w a e o):∀ (xs:List Operand) (I:List AV),(∀ x∈xs,x∈o.op.operands)->UQ e xs=aa I->jI φ (tot E φ h') w I (xs.map a.eval)
 |[],I,_,h=>by simp only[UQ,aj] at h;subst h;trivial
 |x::xs,I,hm,h=>by
  simp only[UQ] at h;split at h
  .rename_i y J;split at h
   .rename_i ys' hys;simp only[aj] at h;subst h;exact⟨hp x y (hm x (dH ..)) J,MS hp xs ys' (λx M=>hm x (cN _ M)) hys⟩
   .cases h
  .cases h
theorem vT {P:Program} {f:FuncId} (hc:CU P f) (args:Array Value) (w:World):(callFunc f args).run P w= .ok (.enter f args) w:=by
 obtain⟨fn,h1,h2,M⟩:=hc;have I:fn.name≠ "runtime.NumGoroutine" :=by simpa using M
 have J:fn.body≠af:=by intro h;rw[h] at h2;cases h2
 simp[callFunc,program,mV,h1,J,I]
theorem UK:∀ (fs:List ZJ) (i:Nat),V7 fs i=fs[i]?
 |[],i=>by simp[V7]
 |f::fs,0=>rfl
 |f::fs,i+1=>by simp[V7,UK fs i]
theorem wJ {a b:Nat} (h:Cu a b=ah) (i:Nat) (I:aL a i=ah):aL b i=ai:=by
 unfold Cu at h;have h0:a&&&b=0:=av h;have:=Nat.testBit_and a b i;rw[h0,I] at this;simpa using this.symm
structure Ctx where
 n0:Nat
 φ:PM
 E:Nat->Prop
 h:HF
 w:World
def ZH (P:Program) (d:Deferred):Prop:=∀ w:World,∃ J cap f args,d.target= .fn J cap/\(invoke d.target d.args).run P w= .ok (.enter f args) w/\
 CallsD P f args .returning w λe I w'=>(∃ v,e= .returned v)/\I= .returning/\w'=w
structure Cfg (P:Program) (C:Ctx) (nt:Nat) (s:IS) (a:Act) (w:World):Prop where
 ex:∃ φ,iK C.φ φ C.h s.h.get C.w w/\qh φ C.E s.h.get w/\LP φ (tot C.E φ s.h.get) w s.e.get a/\(∀ i k,φ i=aa k->i<s.nx)/\∀ i k,φ i=aa k->C.φ i=aa k\/C.n0<=i
 low:C.n0<=s.nx
 inert:∀ d∈a.defers,ZH P d
 size:a.tmps.size=nt
theorem Cfg.bool {P:Program} {C:Ctx} {nt:Nat} {s:IS} {a:Act} {w:World} (c:Cfg P C nt s a w) {t:Nat} {b:Bool} (ht:s.e.get t=aa (.f (.raw (.bool b)))):a.eval (.tmp t)= .bool b:=by
 obtain⟨φ,_,_,en,_,_⟩:=c.ex;exact eZ (en t _ ht)
theorem Bi {P:Program} {c:Code} {Q:Exit->Act->World->Prop} (I:Nat->Act->World->Prop) (round:∀ n a w,I n a w->c.wp P (Exit.then (λa' w'=>∃ m,m<n/\I m a' w') Q) a w) {n:Nat} {a:Act} {w:World} (h0:I n a w):(Code.loop c).wp P Q a w:=by
 have least:∀ (n:Nat) (a:Act) (w:World),I n a w->∃ m,I m a w/\∀ k,I k a w->m<=k:=by
  intro n;induction n using Nat.strongRecOn with
  |_ n U=>
   intro a w hn;by_cases J:∃ k,k<n/\I k a w
   .obtain⟨k,hk,M⟩:=J;exact U k hk a w M
   .exact⟨n,hn,λk hk=>Nat.le_of_not_lt λhlt=>J ⟨k,hlt,hk⟩⟩
 have pick:∀ a w,∃ m,(∃ n,I n a w)->I m a w/\∀ k,I k a w->m<=k:=λa w=>by
  by_cases J:∃ n,I n a w
  .obtain⟨n,hn⟩:=J;obtain⟨m,hm⟩:=least n a w hn;exact⟨m,λ_=>hm⟩
  .exact⟨0,λh=>cW h J⟩
 let μ:Act->World->Nat:=λa w=>Classical.choose (pick a w)
 have hμ:∀ a w,(∃ n,I n a w)->I (μ a w) a w/\∀ k,I k a w->μ a w<=k:=λa w=>Classical.choose_spec (pick a w)
 refine wp_loop (λa w=>∃ n,I n a w) μ ⟨n,h0⟩ λa w M=>?_
 refine wp_mono (round (μ a w) a w (hμ a w M).1) λe a' w' he=>?_
 cases e with
 |normal=>
  obtain⟨m,hm,hIm⟩:=he;exact⟨⟨m,hIm⟩,Nat.lt_of_le_of_lt ((hμ a' w' ⟨m,hIm⟩).2 m hIm) hm⟩
 |exit id=>exact he
 |goto l=>exact he
 |ret=>exact he
 |panic c=>exact he
 |outgrown=>exact he
def Ex.to:Ex->Exit
 |.normal=>.normal
 |.exit id=>.exit id
 |.ret=>.ret
def Jp (P:Program) (inert:FuncId->Bool):Prop:=∀ f,inert f=ah->CU P f/\∀ (args:Array Value) (w:World),CallsD P f args .returning w λe I w'=>(∃ v,e= .returned v)/\I= .returning/\w'=w
theorem PC {P:Program} {C:Ctx} {nt:Nat} {inert:FuncId->Bool} (hin:Jp P inert) {s:IS} {a:Act} {w:World} (c:Cfg P C nt s a w) {id:Nat} {ops:Array Oper} {dr:Bool} {f:FuncId} {caps:List Operand} {t:Nat} (hd:(ops.toList.all λo=>match o.dst with|some d=>decide (d<nt)|none=>ah)=ah) (hdf:Cw ops dr=aa (f,caps,t))
 {l:List AV} (hl:UQ s.e caps=aa l) (hi:inert f=ah) {Q:Exit->Act->World->Prop} (hQ:∀ a w,Cfg P C nt ⟨s.e.put (aa t) (.clo f l),s.h,s.nx,s.wr⟩ a w->Q .normal a w):(Code.region id ops dr).wp P Q a w:=by
 unfold Cw at hdf;split at hdf
 .rename_i p q hops;split at hdf
  .rename_i f' first caps' t1 cl hpo hpg hpd hqo hqg hqd
   split at hdf
   .rename_i t2 hcl hca;split at hdf
    .rename_i hcond;simp only[au] at hcond;obtain⟨h1,h2⟩:=hcond;have h1:=av h1;have h2:first=#[]:=by simpa using h2
     simp only[aj,aB] at hdf;obtain⟨rfl,rfl,rfl⟩:=hdf;subst h1;subst h2;have hops':ops=#[p,q]:=by rw[<- Array.toArray_toList (xs:=ops),hops]
     obtain⟨φ,m,r,en,dm⟩:=c.ex;obtain⟨hcb,hincalls⟩:=hin f' hi;have htn:t1<nt:=by
      have:=f_.1 hd p (by rw[hops];simp);rw[hpd] at this;simpa using this
     have hrelL:jI φ (tot C.E φ s.h.get) w l (caps'.toList.map a.eval):=by
      have hp':TZ φ C.E s.h.get w a s.e p:=λx y U Y=>sj r (xs:=p.op.operands) (λt _ y Y=>en t y Y) U Y
      exact MS hp' caps'.toList l (λx U=>by rw[hpo];simpa[Op.operands] using U) hl
     have hcm:caps'.map a.eval=(caps'.toList.map a.eval).toArray:=by apply Jx;simp
     let J:Value:=.func (.func f') #[] (caps'.map a.eval)
     have hrel:cG φ (tot C.E φ s.h.get) w (.clo f' l) J:=by
      simp only[J];rw[hcm];refine .clo (hrelL.length) ?_;have:∀ (xs:List AV) (vs:List Value),jI φ (tot C.E φ s.h.get) w xs vs->∀ (j:Nat) x v,xs[j]? =aa x->vs[j]? =aa v->cG φ (tot C.E φ s.h.get) w x v:=by
       intro xs;induction xs with
       |nil=>intro vs _ j x v U;simp at U
       |cons y xs ih=>
        intro vs h j x v U hv;cases vs with
        |nil=>exact h.elim
        |cons u vs=>
         cases j with
         |zero=>simp at U hv;subst U;subst hv;exact h.1
         |succ j=>exact ih vs h.2 j x v (by simpa using U) (by simpa using hv)
      exact this _ _ hrelL
     refine wp_region ?_;have Z:eg ops.size=[0,1]:=by rw[hops'];rfl
     rw[Z];have e0:ops[0]? =aa p:=by rw[hops'];rfl
     have e1:ops[1]? =aa q:=by rw[hops'];rfl
     rw[wpOps_cons];have hexec1:(execOp a.eval p).run P w= .ok (.value J) w:=by
      unfold execOp;rw[hpo];simp[Instr.makeFunc,J]
     have w1:ir p (yielded ops a.tmps)=ah:=by unfold ir;rw[hpg]
     unfold wpOp;simp only[e0,w1,bC];left;unfold F0;rw[hexec1];show wpOps P ops Q [1] (a.put p.dst J) w;rw[wpOps_cons];unfold wpOp;have w2:ir q (yielded ops (a.put p.dst J).tmps)=ah:=by unfold ir;rw[hqg]
     simp only[e1,w2,bC];left;have heval:(a.put p.dst J).eval (.tmp t1)=J:=by
      show (a.put p.dst J).tmps.getD t1 undef=J;rw[GM (by intro d I;rw[hpd] at I;cases I;rw[c.size];exact htn),aI hpd]
     have hargs:cl.args=#[]:=by rw[<- Array.toArray_toList (xs:=cl.args),hca]
     have hexec2:(execOp (a.put p.dst J).eval q).run P w= .ok (.defer {target:=.fn (.func f') (caps'.map a.eval),args:=#[]}) w:=by
      unfold execOp;rw[hqo];simp[resolve,hcl,heval,J,Deferred.ofValue,hargs]
     unfold F0;rw[hexec2];show wpOps P ops Q [] _ w;refine hQ _ _ ⟨⟨φ,m,r,?_,dm⟩,c.low,?_,?_⟩
     .intro u x U;rw[hqd];show cG φ _ w x ((a.put p.dst J).tmps.getD u undef);rw[GM (by intro d I;rw[hpd] at I;cases I;rw[c.size];exact htn)];have M:(s.e.put (aa t1) (.clo f' l)).get u=aa x:=U;rw[<- XW] at M;unfold Bx at M;rw[hpd];by_cases hu:aa t1=aa u
      .rw[aI hu] at M ⊢;cases M;exact hrel
      .rw[aC hu] at M ⊢;exact en u x M
     .intro d I;rw[hqd] at I;have hd'':d={target:=.fn (.func f') (caps'.map a.eval),args:=#[]}\/d∈(a.put p.dst J).defers:=by
       simpa[LY] using I
      rcases hd'' with rfl|hd''
      .intro w0;refine ⟨_,_,f',caps'.map a.eval,rfl,?_,hincalls _ w0⟩;simp[invoke,vT hcb]
      .rw[GP] at hd'';exact c.inert d hd''
     .rw[hqd];show (a.put p.dst J).tmps.size=nt;rw[Oe];exact c.size
    .cases hdf
   .cases hdf
  .cases hdf
 .cases hdf
def Vr (tmps:Array Value):ResultVar->Sem Value
 |.tmp t=>pure (tmps.getD t undef)
 |.cell a t=>do
  let I<-asAddr (tmps.getD a undef)
  loadVar t I
theorem RC (fn:Func) (tmps:Array Value):results fn tmps=(do let vs<-fn.results.mapM (Vr tmps);pure (if h:vs.size=1 then vs[0] else .tuple vs)):=by
 unfold results;congr 2
theorem BI {P:Program} {fn:Func} {tmps:Array Value} {R:Ending->World->Prop} {w:World} {v:Value} (hr:(results fn tmps).run P w= .ok v w) (I:R (.returned v) w):∀ (ds:List Deferred),(∀ d∈ds,ZH P d)->Leaves P fn tmps R ds .returning w
 |[],_=>⟨v,hr,I⟩
 |d::ds,h=>by
  obtain⟨M,cap,f,args,h1,h2,J⟩:=h d (dH ..) w;refine ⟨by simp,M,cap,f,args,h1,h2,J.mono ?_⟩;rintro e Y w' ⟨⟨U,rfl⟩,rfl,rfl⟩;exact BI hr I ds λd hd=>h d (cN _ hd)
theorem jI.get {φ:PM} {O:Nat->Prop} {w:World}:∀ {xs:List AV} {vs:List Value},jI φ O w xs vs->∀ (j:Nat) x,xs[j]? =aa x->∃ v,vs[j]? =aa v/\cG φ O w x v
 |[],_,_,j,x,I=>by simp at I
 |_::_,[],h,_,_,_=>h.elim
 |y::xs,u::vs,h,j,x,I=>by
  cases j with
  |zero=>simp at I;subst I;exact⟨u,rfl,h.1⟩
  |succ j=>exact jI.get h.2 j x (by simpa using I)
theorem Qp {P:Program} {f:FuncId} {I:SF} (h:ym P f=aa I):∃ fn c,P.funcs[f]? =aa fn∧fn.body=aa c∧(fn.name== "runtime.NumGoroutine")=ai∧I.code=cf P fn.ntmps c∧ui P fn.results.toList=aa I.res∧I.nt=fn.ntmps:=by
 unfold ym at h;split at h
 .rename_i fn hf;split at h
  .cases h
  .rename_i hn;split at h
   .rename_i c r hb hr;simp only[aj] at h;subst h;exact⟨fn,c,hf,hb,by simpa using hn,rfl,hr,rfl⟩
   .cases h
 .cases h
theorem abn {a b:Value} (h:aen a b=ah):a=b:=by
 unfold aen at h;split at h
 .simp at h;rw[h]
 .simp at h;rw[h.1,h.2]
 .rw[yq.1 h]
 .simp only[au] at h;rw[av h.1,av h.2]
 .rfl
 .rename_i x y;simp only[au,Array.isEmpty_iff] at h;rw[h.1,h.2]
 .cases h
def PT.mapO {α β:Type} (g:α->Option β):PT α->PT β
 |.leaf=>.leaf
 |.node v l r=>.node (v.bind g) (PT.mapO g l) (PT.mapO g r)
theorem PT.get_mapO {α β:Type} (g:α->Option β):∀ (t:PT α) (i:Nat),(PT.mapO g t).get i=(t.get i).bind g
 |.leaf,i=>by simp[PT.mapO,PT.get]
 |.node v l r,0=>by simp[PT.mapO,PT.get]
 |.node v l r,j+1=>by
  simp only[PT.mapO,PT.get];split
  .exact PT.get_mapO g l _
  .exact PT.get_mapO g r _
theorem PT.get_updI {α:Type} (f:Nat->α->α):∀ (t:PT α) (a b i:Nat),(PT.updI f a b t).get i=(t.get i).map (f (a*i+b))
 |.leaf,_,_,i=>by simp[PT.updI,PT.get]
 |.node v l r,a,b,0=>by cases v<;>simp[PT.updI,PT.get]
 |.node v l r,a,b,j+1=>by
  simp only[PT.updI,PT.get];split
  .rename_i hj;rw[PT.get_updI f l];have:2*a*(j/2)+(a+b)=a*(j+1)+b:=by
    have h2:j=2*(j/2):=by have:=av hj;omega
    have I:2*a*(j/2)=a*j:=by rw[F1 2 a,Nat.mul_assoc,<-h2]
    rw[I,Nat.mul_add];omega
   rw[this]
  .rename_i hj;rw[PT.get_updI f r];have:2*a*(j/2)+(2*a+b)=a*(j+1)+b:=by
    have h1:j%2≠0:=λh=>hj (by rw[h];rfl)
    have h2:j=2*(j/2)+1:=by omega
    have I:2*a*(j/2)=a*(2*(j/2)):=by rw[F1 2 a,Nat.mul_assoc]
    have J:a*(j+1)=a*(2*(j/2))+2*a:=by
     conv=>lhs;rw[h2]
     rw[Nat.mul_add,Nat.mul_add];omega
    rw[I,J];omega
   rw[this]
theorem PT.bound {α:Type}:∀ (t:PT α),∃ B,∀ i,B<=i->t.get i=af
 |.leaf=>⟨0,λi _=>rfl⟩
 |.node v l r=>by
  obtain⟨a,I⟩:=PT.bound l;obtain⟨b,hb⟩:=PT.bound r;refine ⟨2*(a+b)+3,λi hi=>?_⟩;cases i with
  |zero=>omega
  |succ j=>
   simp only[PT.get];split
   .exact I _ (by omega)
   .exact hb _ (by omega)
def PT.ofF {α:Type} (f:Nat->Option α):Nat->PT α
 |0=>.leaf
 |n+1=>(PT.ofF f n).set n (f n)
theorem PT.get_ofF {α:Type} (f:Nat->Option α):∀ (n i:Nat),(PT.ofF f n).get i=if i<n then f i else af
 |0,i=>by simp[PT.ofF,PT.get]
 |n+1,i=>by
  rw[PT.ofF,PT.get_set,PT.get_ofF f n];by_cases h:i=n
  .subst h;simp
  .rw[aC h];by_cases h2:i<n
   .rw[aI h2,aI (by omega)]
   .rw[aC h2,aC (by omega)]
def nm (i:Nat):Nat:=2*i
def ow (n:Nat):Nat:=n/2
theorem dW (i:Nat):ow (nm i)=i:=by unfold ow nm;omega
theorem kw {i j:Nat} (h:nm i=nm j):i=j:=by unfold nm at h;omega
def eY (p:Bool) (id sz n:Nat):AV:=if p&&n==0 then .emp else .row (nm id) sz n
mutual
def cg (h:bd):TV->Option AV
 |.f T v=>aa (.f (gy T v))
 |.fel T xs j _ off=>aa (.f (.ptr (xs.flatMap (bN T)) (j.toNat*T.size+off)))
 |.pel id sz j off=>aa (.ptr (nm id) (j.toNat*sz+off))
 |.ptr id off=>aa (.ptr (nm id) off)
 |.csl id sz n=>aa (.row (nm id) sz n)
 |.row id=>match ec h id with|some (p,sz,n)=>aa (eY p id sz n)|none=>af
 |.rtl id j=>match ec h id with|some (_,sz,n)=>aa (.sl (nm id) (j.toNat*sz) (n-j.toNat))|none=>af
 |.emp=>aa .emp
 |.nil=>aa (.f (.raw (.slice af 0 0)))
 |.mp id=>aa (.mp (nm id))
 |.agg l=>match cF h l with|some l'=>aa (.agg l')|none=>af
 |.tup l=>match cF h l with|some l'=>aa (.tup l')|none=>af
 |.clo g l=>match cF h l with|some l'=>aa (.clo g l')|none=>af
 |.undef=>aa (.f (.raw undef))
 |.np=>aa (.f (.raw (.pointer af)))
 |.anyb=>aa .anyb
def cF (h:bd):List TV->Option (List AV)
 |[]=>aa []
 |x::r=>match cg h x with
  |some y=>(match cF h r with|some l=>aa (y::l)|none=>af)
  |none=>af
end
def o9:(K:Ty)->K.den->Value
 |.int k,n=>.int k n
 |.str,s=>.string ⟨kg s⟩
 |_,_=>undef
def Ya:(K V:Ty)->List (K.den×V.den)->BC
 |.st (.pr .str (.int .i64)),.un,es=>.it ⟨kg (NI es)⟩ (Mp es)
 |K,V,es=>.mp (es.map λp=>(o9 K p.1,.f (gy V p.2)))
theorem Aw {K V:Ty} {es:List (K.den×V.den)} (h:RL K=ah):Ya K V es= .mp (es.map λp=>(o9 K p.1,.f (gy V p.2))):=by
 unfold Ya;split
 .cases h
 .rfl
theorem ae9 {K V:Ty} {es:List (K.den×V.den)} {s:List UInt8} {p:Nat} (h:itE K V es=aa (s,p)):Ya K V es= .it ⟨kg s⟩ p:=by
 unfold itE at h;split at h
 .cases h;rfl
 .cases h
def kq (h:bd):hZ->Option vN
 |.rows ty p T xs=>if p&&xs.length==0 then af else aa ⟨ty,.fz (xs.flatMap (bN T))⟩
 |.cells ty l=>match cF h l with|some I=>aa ⟨ty,.mx I⟩|none=>af
 |.dead _ _ _=>af
 |.mp K V es=>aa ⟨0,Ya K V es⟩
def fE (e:iw) (h:bd):EF:=λt=>(e.get t).bind (cg h)
def bw (h:bd):HF:=λn=>if n%2=0 then (h.get (n/2)).bind (kq h) else af
theorem bE (h:bd) (i:Nat):bw h (nm i)=(h.get i).bind (kq h):=by
 unfold bw nm;rw[aI (by omega),show 2*i/2=i from by omega]
theorem jf {h:bd} {n:Nat} {b:vN} (hb:bw h n=aa b):∃ i c,n=nm i/\h.get i=aa c/\kq h c=aa b:=by
 unfold bw at hb;split at hb
 .cases hc:h.get (n/2) with
  |none=>rw[hc] at hb;cases hb
  |some c=>rw[hc] at hb;exact⟨n/2,c,by unfold nm;omega,hc,hb⟩
 .cases hb
def JB (e:iw) (h:bd):yA:=PT.mapO (cg h) e
theorem ud (e:iw) (h:bd):(JB e h).get=fE e h:=by funext t;exact PT.get_mapO _ _ _
theorem jw (h:bd):∃ H:nB,H.get=bw h:=by
 obtain⟨B,I⟩:=PT.bound h;refine ⟨PT.ofF (bw h) (2*B),?_⟩;funext n;rw[PT.get_ofF];split
 .rfl
 .unfold bw;split
  .rw[I _ (by omega)];rfl
  .rfl
theorem cO {h:bd} {x:TV} {r:List TV} {l:List AV} (he:cF h (x::r)=aa l):∃ y I,l=y::I/\cg h x=aa y/\cF h r=aa I:=by
 simp only[cF] at he;split at he
 .rename_i y J;split at he
  .rename_i I hl;simp only[aj] at he;exact⟨y,I,he.symm,J,hl⟩
  .cases he
 .cases he
theorem oy {h:bd} {x:TV} {r:List TV} {y:AV} {I:List AV} (h1:cg h x=aa y) (h2:cF h r=aa I):cF h (x::r)=aa (y::I):=by
 simp only[cF,h1,h2]
theorem jb {h:bd}:∀ {l:List TV} {I:List AV},cF h l=aa I->I.length=l.length
 |[],I,he=>by simp only[cF,aj] at he;subst he;rfl
 |x::r,I,he=>by
  obtain⟨y,l2,rfl,_,h2⟩:=cO he;simp[jb h2]
theorem mO {h:bd}:∀ {a b:List TV} {a' b':List AV},cF h a=aa a'->cF h b=aa b'->cF h (a++b)=aa (a'++b')
 |[],b,a',b',I,hb=>by simp only[cF,aj] at I;subst I;exact hb
 |x::r,b,a',b',I,hb=>by
  obtain⟨y,l2,rfl,h1,h2⟩:=cO I;exact oy h1 (mO h2 hb)
theorem AJ {h:bd}:∀ {a b:List TV} {l:List AV},cF h (a++b)=aa l->∃ a' b',l=a'++b'/\cF h a=aa a'/\cF h b=aa b'
 |[],b,l,he=>⟨[],l,rfl,rfl,he⟩
 |x::r,b,l,he=>by
  obtain⟨y,l2,rfl,h1,h2⟩:=cO he;obtain⟨a',b',rfl,J,I⟩:=AJ h2;exact⟨y::a',b',rfl,oy h1 J,I⟩
theorem DH {h:bd}:∀ {l:List TV} {I:List AV} (n:Nat),cF h l=aa I->cF h (l.take n)=aa (I.take n)
 |[],I,n,he=>by simp only[cF,aj] at he;subst he;simp[cF]
 |x::r,I,n,he=>by
  obtain⟨y,l2,rfl,h1,h2⟩:=cO he;cases n with
  |zero=>simp[cF]
  |succ n=>exact oy h1 (DH n h2)
theorem DJ {h:bd}:∀ {l:List TV} {I:List AV} (n:Nat),cF h l=aa I->cF h (l.drop n)=aa (I.drop n)
 |[],I,n,he=>by simp only[cF,aj] at he;subst he;simp[cF]
 |x::r,I,n,he=>by
  obtain⟨y,l2,rfl,h1,h2⟩:=cO he;cases n with
  |zero=>exact he
  |succ n=>simpa using DJ n h2
theorem uc {h:bd} {l vs:List TV} {I vs':List AV} (off:Nat) (h1:cF h l=aa I) (h2:cF h vs=aa vs'):cF h (splice l off vs)=aa (splice I off vs'):=by
 unfold splice;rw[jb h2];exact mO (mO (DH _ h1) h2) (DJ _ h1)
theorem lG {h:bd}:∀ {l:List TV} {I:List AV},cF h l=aa I->∀ (j:Nat) x,l[j]? =aa x->∃ y,I[j]? =aa y/\cg h x=aa y
 |[],I,he,j,x,M=>by simp at M
 |x::r,I,he,j,z,J=>by
  obtain⟨y,l2,rfl,h1,h2⟩:=cO he;cases j with
  |zero=>simp at J;subst J;exact⟨y,rfl,h1⟩
  |succ j=>simpa using lG h2 j z (by simpa using J)
mutual
theorem po (h:bd):∀ (u:TV),JM h u=ah->∃ y,cg h u=aa y
 |.f _ _,_=>⟨_,rfl⟩
 |.fel _ _ _ _ _,_=>⟨_,rfl⟩
 |.pel _ _ _ _,_=>⟨_,rfl⟩
 |.ptr _ _,_=>⟨_,rfl⟩
 |.csl _ _ _,_=>⟨_,rfl⟩
 |.row id,he=>by
  simp only[JM] at he;cases hr:ec h id with
  |none=>rw[hr] at he;cases he
  |some r=>obtain⟨p,sz,n⟩:=r;exact⟨_,by simp only[cg,hr];rfl⟩
 |.rtl id jj,he=>by
  simp only[JM] at he;cases hr:ec h id with
  |none=>rw[hr] at he;cases he
  |some r=>obtain⟨p,sz,n⟩:=r;exact⟨_,by simp only[cg,hr];rfl⟩
 |.emp,_=>⟨_,rfl⟩
 |.nil,_=>⟨_,rfl⟩
 |.mp _,_=>⟨_,rfl⟩
 |.agg l,he=>by obtain⟨y,hy⟩:=fo h l he;exact⟨_,by simp only[cg,hy];rfl⟩
 |.tup l,he=>by obtain⟨y,hy⟩:=fo h l he;exact⟨_,by simp only[cg,hy];rfl⟩
 |.clo g l,he=>by obtain⟨y,hy⟩:=fo h l he;exact⟨_,by simp only[cg,hy];rfl⟩
 |.undef,_=>⟨_,rfl⟩
 |.np,_=>⟨_,rfl⟩
 |.anyb,_=>⟨_,rfl⟩
theorem fo (h:bd):∀ (l:List TV),ku h l=ah->∃ l',cF h l=aa l'
 |[],_=>⟨[],rfl⟩
 |x::r,he=>by
  simp only[ku,au] at he;obtain⟨y,hy⟩:=po h x he.1;obtain⟨l',hl⟩:=fo h r he.2;exact⟨_,oy hy hl⟩
end
def cq (h h':bd):Prop:=∀ id r,ec h id=aa r->ec h' id=aa r
mutual
theorem gm {h h':bd} (hk:cq h h'):∀ (u:TV) (y:AV),cg h u=aa y->cg h' u=aa y
 |.f _ _,y,he=>he
 |.fel _ _ _ _ _,y,he=>he
 |.pel _ _ _ _,y,he=>he
 |.ptr _ _,y,he=>he
 |.csl _ _ _,y,he=>he
 |.row id,y,he=>by
  simp only[cg] at he ⊢;split at he
  .rename_i p sz n hr;rw[hk _ _ hr];exact he
  .cases he
 |.rtl id jj,y,he=>by
  simp only[cg] at he ⊢;split at he
  .rename_i p sz n hr;rw[hk _ _ hr];exact he
  .cases he
 |.emp,y,he=>he
 |.nil,y,he=>he
 |.mp _,y,he=>he
 |.agg l,y,he=>by
  simp only[cg] at he ⊢;split at he
  .rename_i l' hl;rw[iJ hk l l' hl];exact he
  .cases he
 |.tup l,y,he=>by
  simp only[cg] at he ⊢;split at he
  .rename_i l' hl;rw[iJ hk l l' hl];exact he
  .cases he
 |.clo g l,y,he=>by
  simp only[cg] at he ⊢;split at he
  .rename_i l' hl;rw[iJ hk l l' hl];exact he
  .cases he
 |.undef,y,he=>he
 |.np,y,he=>he
 |.anyb,y,he=>he
theorem iJ {h h':bd} (hk:cq h h'):∀ (l:List TV) (l':List AV),cF h l=aa l'->cF h' l=aa l'
 |[],l',he=>he
 |x::r,l',he=>by
  obtain⟨y,l2,rfl,h1,h2⟩:=cO he;exact oy (gm hk x y h1) (iJ hk r l2 h2)
end
mutual
theorem nW {h h':bd} (hk:cq h h'):∀ (u:TV),JM h u=ah->JM h' u=ah
 |.f _ _,_=>rfl
 |.fel _ _ _ _ _,_=>rfl
 |.pel _ _ _ _,_=>rfl
 |.ptr _ _,_=>rfl
 |.csl _ _ _,_=>rfl
 |.row id,he=>by
  simp only[JM] at he ⊢;cases hr:ec h id with
  |none=>rw[hr] at he;cases he
  |some r=>rw[hk _ _ hr];rfl
 |.rtl id jj,he=>by
  simp only[JM] at he ⊢;cases hr:ec h id with
  |none=>rw[hr] at he;cases he
  |some r=>rw[hk _ _ hr];rfl
 |.emp,_=>rfl
 |.nil,_=>rfl
 |.mp _,_=>rfl
 |.agg l,he=>iE hk l he
 |.tup l,he=>iE hk l he
 |.clo g l,he=>iE hk l he
 |.undef,_=>rfl
 |.np,_=>rfl
 |.anyb,_=>rfl
theorem iE {h h':bd} (hk:cq h h'):∀ (l:List TV),ku h l=ah->ku h' l=ah
 |[],_=>rfl
 |x::r,he=>by
  simp only[ku,au] at he ⊢;exact⟨nW hk x he.1,iE hk r he.2⟩
end
mutual
theorem DG (h:bd):∀ (u:TV) (y:AV),cg h u=aa y->JM h u=ah
 |.f _ _,_,_=>rfl
 |.fel _ _ _ _ _,_,_=>rfl
 |.pel _ _ _ _,_,_=>rfl
 |.ptr _ _,_,_=>rfl
 |.csl _ _ _,_,_=>rfl
 |.row id,y,he=>by
  simp only[JM,cg] at he ⊢;cases hr:ec h id with
  |none=>rw[hr] at he;cases he
  |some r=>rfl
 |.rtl id jj,y,he=>by
  simp only[JM,cg] at he ⊢;cases hr:ec h id with
  |none=>rw[hr] at he;cases he
  |some r=>rfl
 |.emp,_,_=>rfl
 |.nil,_,_=>rfl
 |.mp _,_,_=>rfl
 |.agg l,y,he=>by
  simp only[cg] at he;split at he
  .rename_i l' hl;exact k9 h l l' hl
  .cases he
 |.tup l,y,he=>by
  simp only[cg] at he;split at he
  .rename_i l' hl;exact k9 h l l' hl
  .cases he
 |.clo g l,y,he=>by
  simp only[cg] at he;split at he
  .rename_i l' hl;exact k9 h l l' hl
  .cases he
 |.undef,_,_=>rfl
 |.np,_,_=>rfl
 |.anyb,_,_=>rfl
theorem k9 (h:bd):∀ (l:List TV) (l':List AV),cF h l=aa l'->ku h l=ah
 |[],_,_=>rfl
 |x::r,l',he=>by
  obtain⟨y,l2,rfl,h1,h2⟩:=cO he;simp only[ku,au];exact⟨DG h x y h1,k9 h r l2 h2⟩
end
mutual
theorem Pn (h h':bd):∀ (u:TV),s5 u=ah->cg h u=cg h' u
 |.f _ _,_=>rfl
 |.fel _ _ _ _ _,_=>rfl
 |.pel _ _ _ _,_=>rfl
 |.ptr _ _,_=>rfl
 |.csl _ _ _,_=>rfl
 |.row id,he=>by cases he
 |.emp,_=>rfl
 |.nil,_=>rfl
 |.mp _,_=>rfl
 |.agg l,he=>by simp only[cg];rw[DI h h' l he]
 |.tup l,he=>by simp only[cg];rw[DI h h' l he]
 |.clo g l,he=>by cases he
 |.undef,_=>rfl
 |.np,_=>rfl
 |.anyb,_=>rfl
theorem DI (h h':bd):∀ (l:List TV),pH l=ah->cF h l=cF h' l
 |[],_=>rfl
 |x::r,he=>by
  simp only[pH,au] at he;simp only[cF];rw[Pn h h' x he.1,DI h h' r he.2]
end
theorem Mq {h:bd} {u:TV} {y:AV} (he:cg h u=aa y) (hc:u.isC=ah):y.isCell=ah:=by
 cases u with
 |f T v=>cases T<;>simp only[cg,aj] at he<;>subst he<;>first|rfl|(simp [TV.isC,Ty.one] at hc)
 |fel T xs j hj off=>simp only[cg,aj] at he;subst he;rfl
 |pel id sz j off=>simp only[cg,aj] at he;subst he;rfl
 |ptr id off=>simp only[cg,aj] at he;subst he;rfl
 |csl id off z=>simp only[cg,aj] at he;subst he;rfl
 |row id=>
  simp only[cg] at he;split at he
  .simp only[aj] at he;subst he;unfold eY;split<;>rfl
  .cases he
 |rtl id I=>cases hc
 |emp=>simp only[cg,aj] at he;subst he;rfl
 |nil=>simp only[cg,aj] at he;subst he;rfl
 |mp id=>simp only[cg,aj] at he;subst he;rfl
 |agg l=>cases hc
 |tup l=>cases hc
 |clo g l=>
  simp only[cg] at he;split at he
  .simp only[aj] at he;subst he;rfl
  .cases he
 |undef=>cases hc
 |np=>simp only[cg,aj] at he;subst he;rfl
 |anyb=>cases hc
theorem sk {h:bd}:∀ {l:List TV} {I:List AV},cF h l=aa I->j7 l=ah->gu I=ah
 |[],I,he,_=>by simp only[cF,aj] at he;subst he;rfl
 |x::r,I,he,hc=>by
  obtain⟨y,l2,rfl,h1,h2⟩:=cO he;simp only[j7,au] at hc;simp only[gu,au];exact⟨Mq h1 hc.1,sk h2 hc.2⟩
def Le (x y:AV):Prop:=∀ (φ:PM) (O:Nat->Prop) (w:World) (v:Value),cG φ O w x v->cG φ O w y v
theorem Le.refl (x:AV):Le x x:=λ_ _ _ _ h=>h
def lq (H H':HF) (x y:AV):Prop:=∀ (φ:PM) (E:Nat->Prop) (w:World) (v:Value),qh φ E H w->cG φ (tot E φ H) w x v->cG φ (tot E φ H') w y v
def uk (H H':HF):Prop:=∀ i b,H' i=aa b->∃ b0,H i=aa b0
theorem uk.refl (H:HF):uk H H:=λ_ b h=>⟨b,h⟩
theorem uk.own {H H':HF} (d:uk H H') {φ:PM} {k:Nat} (h:own φ H' k):own φ H k:=by
 obtain⟨i,b,h1,h2⟩:=h;obtain⟨b0,I⟩:=d i b h1;exact⟨i,b0,I,h2⟩
theorem uk.tot {H H':HF} (d:uk H H') {E:Nat->Prop} {φ:PM} {k:Nat} (h:tot E φ H' k):tot E φ H k:=h.imp id d.own
theorem cG.dom {H H':HF} (d:uk H H') {φ:PM} {E:Nat->Prop} {w:World} {x:AV} {v:Value} (h:cG φ (tot E φ H) w x v):cG φ (tot E φ H') w x v:=
 h.ext (λ_ _ h=>h) (Js.refl _ w) λ_ _ hk=>d.tot hk
theorem mR.dom {H H':HF} (d:uk H H') {φ:PM} {E:Nat->Prop} {w:World} {x:FV} {v:Value} (h:mR (tot E φ H) w x v):mR (tot E φ H') w x v:=
 h.ext (Js.refl _ w) λ_ _ hk=>d.tot hk
theorem Le.toH {H H':HF} (d:uk H H') {x y:AV} (h:Le x y):lq H H' x y:=λφ E w v _ hr=>(h _ _ _ _ hr).dom d
theorem lq.refl {H H':HF} (d:uk H H') (x:AV):lq H H' x x:=(Le.refl x).toH d
def gW (H H':HF):List AV->List AV->Prop
 |[],[]=>True
 |x::xs,y::I=>lq H H' x y/\gW H H' xs I
 |_,_=>False
theorem gW.refl {H H':HF} (d:uk H H'):∀ l,gW H H' l l
 |[]=>trivial
 |x::r=>⟨lq.refl d x,gW.refl d r⟩
theorem gW.length {H H':HF}:∀ {l I:List AV},gW H H' l I->I.length=l.length
 |[],[],_=>rfl
 |[],_::_,h=>h.elim
 |_::_,[],h=>h.elim
 |_::_,_::_,h=>by simp[gW.length h.2]
theorem gW.get {H H':HF}:∀ {l J:List AV},gW H H' l J->∀ (j:Nat) y,J[j]? =aa y->∃ x,l[j]? =aa x/\lq H H' x y
 |[],[],_,j,y,I=>by simp at I
 |[],_::_,h,_,_,_=>h.elim
 |_::_,[],h,_,_,_=>h.elim
 |x::xs,z::ys,h,j,y,I=>by
  cases j with
  |zero=>simp at I;subst I;exact⟨x,rfl,h.1⟩
  |succ j=>simpa using gW.get h.2 j y (by simpa using I)
theorem gW.append {H H':HF}:∀ {a a' b b':List AV},gW H H' a a'->gW H H' b b'->gW H H' (a++b) (a'++b')
 |[],[],_,_,_,h=>h
 |[],_::_,_,_,h,_=>h.elim
 |_::_,[],_,_,h,_=>h.elim
 |_::_,_::_,_,_,h,h'=>⟨h.1,gW.append h.2 h'⟩
theorem gW.take {H H':HF}:∀ {a a':List AV} (n:Nat),gW H H' a a'->gW H H' (a.take n) (a'.take n)
 |[],[],n,_=>by simp[gW]
 |[],_::_,_,h=>h.elim
 |_::_,[],_,h=>h.elim
 |_::_,_::_,0,_=>trivial
 |_::_,_::_,n+1,h=>⟨h.1,gW.take n h.2⟩
theorem gW.drop {H H':HF}:∀ {a a':List AV} (n:Nat),gW H H' a a'->gW H H' (a.drop n) (a'.drop n)
 |[],[],n,_=>by simp[gW]
 |[],_::_,_,h=>h.elim
 |_::_,[],_,h=>h.elim
 |_::_,_::_,0,h=>h
 |_::_,_::_,n+1,h=>gW.drop n h.2
theorem gW.splice {H H':HF} {a a' b b':List AV} (off:Nat) (h1:gW H H' a a') (h2:gW H H' b b'):gW H H' (splice a off b) (splice a' off b'):=by
 unfold AI.splice;rw[h2.length];exact ((h1.take off).append h2).append (h1.drop _)
def jV (H H':HF) (b b':vN):Prop:=∀ (φ:PM) (E:Nat->Prop) (w:World) (o:Obj),qh φ E H w->jd φ (tot E φ H) w b o->jd φ (tot E φ H') w b' o
theorem jV.refl {H H':HF} (d:uk H H') (b:vN):jV H H' b b:=λ_ _ _ _ _ h=>h.mono λ_ _ h=>h.dom d
theorem oY {φ:PM} {O:Nat->Prop} {w:World} {ty:TypeId} {c:BC} {o:Obj} (hc:c.isCells=ah):jd φ O w ⟨ty,c⟩ o↔∃ arr,o= .cells arr ty (0,0)/\ul φ O w c arr:=by
 unfold jd;cases c<;>simp[BC.isCells] at hc<;>rfl
theorem jV.cells {H H':HF} {ty:TypeId} {c c':BC} (hc:c.isCells=ah) (I:c'.isCells=ah) (hl:gW H H' c.toMx c'.toMx) (hcell:∀ x∈c'.toMx,x.isCell=ah):jV H H' ⟨ty,c⟩ ⟨ty,c'⟩:=by
 intro φ E w o hrep M;rw[oY hc] at M;rw[oY I];obtain⟨arr,h1,h2,h3⟩:=M;refine ⟨arr,h1,by rw[BC.len_toMx I,hl.length,<-BC.len_toMx hc];exact h2,λj x J=>?_⟩;rw[BC.get_toMx I] at J;refine ⟨hcell x (a8 J),?_⟩;obtain⟨y,U,hle⟩:=hl.get j x J;obtain⟨_,v,Z,Y⟩:=h3 j y (by rw[BC.get_toMx hc];exact U);exact⟨v,Z,hle _ _ _ _ hrep Y⟩
theorem jV.eq {H H':HF} (d:uk H H') {ty:TypeId} {c c':BC} (hc:c.isCells=ah) (I:c'.isCells=ah) (hl:c.toMx=c'.toMx):jV H H' ⟨ty,c⟩ ⟨ty,c'⟩:=by
 intro φ E w o hrep M;rw[oY hc] at M;rw[oY I];obtain⟨arr,h1,h2,h3⟩:=M;refine ⟨arr,h1,by rw[BC.len_toMx I,<-hl,<-BC.len_toMx hc];exact h2,λj x J=>?_⟩;rw[BC.get_toMx I,<-hl,<-BC.get_toMx hc] at J;obtain⟨Z,v,Y,U⟩:=h3 j x J;exact⟨Z,v,Y,U.dom d⟩
structure Je (H H':HF):Prop where
 dom:uk H H'
 blk:∀ i b b',H i=aa b->H' i=aa b'->jV H H' b b'
theorem Je.refl (H:HF):Je H H:=⟨uk.refl H,λi b b' h h'=>by rw[h] at h';cases h';exact jV.refl (uk.refl H) b⟩
theorem Je.rep {H H':HF} (V:Je H H') {φ:PM} {E:Nat->Prop} {w:World} (r:qh φ E H w):qh φ E H' w:=by
 refine ⟨λi j b b' k I Y U M=>?_,λi b I=>?_,r.el,λg cells hg=>(r.gl g cells hg).dom V.dom⟩
 .obtain⟨b0,q1⟩:=V.dom i b I;obtain⟨b1,J⟩:=V.dom j b' Y;exact r.inj i j b0 b1 k q1 J U M
 .obtain⟨b0,q1⟩:=V.dom i b I;obtain⟨k,p1,p2,ob,p3,p4⟩:=r.at_ i b0 q1;exact⟨k,p1,p2,ob,p3,V.blk i b0 b q1 I φ E w ob r p4⟩
theorem gz.view {P:Program} {o:Oper} {e:EF} {h:HF} {val val':AV} {rd wr wr' N:List Nat} {nw nw':HF} (ht:gz P o e h ⟨val,rd,wr,nw,N⟩) (hsub:∀ i∈wr,i∈wr'\/i∈rd)
 (hv:∀ h':HF,(∀ i∈rd,h' i=h i)->(∀ i∈wr',h' i=h i)->Je (eJ h' wr nw) (eJ h' wr' nw')/\lq (eJ h' wr nw) (eJ h' wr' nw') val val'):gz P o e h ⟨val',rd,wr',nw',N⟩:=by
 intro φ E h' w a h1 h2 Z Y U;have J:=ht φ E h' w a h1 (λi hi=>(hsub i hi).elim (h2 i) (h1 i)) Z Y U;obtain⟨V,hle⟩:=hv h' h1 h2;refine NP ?_ J;rintro a' w' ⟨v,φ',rfl,mv,nm',I,rel⟩;exact⟨v,φ',rfl,⟨mv.sub,mv.ext,λk hk M=>mv.own_ k hk (V.dom.own M)⟩,nm',V.rep I,hle _ _ _ _ I rel⟩
theorem Le.nil:Le (.f (.raw (.slice af 0 0))) (.f (.sl [] 0)):=by
 intro φ O w v hr;cases hr with
 |f hr=>cases hr;exact .f (.nil af 0 (by unfold maxLen;omega))
theorem Le.emp:Le .emp (.f (.sl [] 0)):=by
 intro φ O w v hr;cases hr with
 |emp=>exact .f (.nil _ 0 (by unfold maxLen;omega))
theorem Le.nilEmp:Le (.f (.raw (.slice af 0 0))) .emp:=by
 intro φ O w v hr;cases hr with
 |f hr=>cases hr;exact .emp
theorem Le.aggF {l:List FV}:Le (.f (.agg l)) (.agg (l.map .f)):=by
 intro φ O w v hr;cases hr with
 |f hr=>
  cases hr with
  |agg _ vs hl hcl hrr=>
   refine .agg (by simp[hl]) (λx I=>?_) λj x u I hu=>?_
   .obtain⟨y,J,rfl⟩:=dc.1 I;exact hcl y J
   .rw[aZ] at I;cases hc:l[j]? with
    |none=>rw[hc] at I;cases I
    |some y=>rw[hc] at I;simp at I;subst I;exact .f (hrr j y u hc hu)
theorem Yb (l:List AV):Le (K3 l) (.agg l):=by
 unfold K3;split
 .rename_i fs h;rw[pa h];exact Le.aggF
 .exact Le.refl _
theorem lq.aggL {H H':HF} {l:List AV} {I:List FV} (h:gW H H' l (I.map .f)) (hc:∀ x∈I,x.isCell=ah):lq H H' (.agg l) (.f (.agg I)):=by
 intro φ E w v hrep hr;cases hr with
 |@agg _ vs hl hcl hrr=>
  refine .f (.agg I vs (by rw[hl,<-h.length];simp) hc λj y u J hu=>?_);obtain⟨x,M,hle⟩:=h.get j (.f y) (by rw[aZ,J];rfl);have:=hle φ E w u hrep (hrr j x u M hu);cases this with
  |f h=>exact h
theorem lq.row {H H':HF} (d:uk H H') {id sz n:Nat} {ty:TypeId} {cells:List FV} (h1:H id=aa ⟨ty,.fz cells⟩) (h2:H' id=af) (hl:cells.length=n*sz):lq H H' (.row id sz n) (.f (.sl cells n)):=by
 intro φ E w v r hr;cases hr with
 |@row _ _ _ c k hφ hn hcap hsh=>
  obtain⟨k',q1,U,_⟩:=r.at_ id _ h1;rw[hφ] at q1;cases q1;obtain⟨arr,p1,p2,p3⟩:=r.cs h1 hφ rfl;have hk:k<w.heap.size:=(cu.1 p1).1;have hlen:cells.length<=arr.size:=by simpa[BC.toMx] using p3
  have hnk:¬tot E φ H' k:=by
   rintro (Y|⟨j,b,J,M⟩)
   .exact U Y
   .obtain⟨b0,Z⟩:=d j b J;have:=r.inj j id b0 _ k Z h1 M hφ;subst this;rw[h2] at J;cases J
  have hget:∀ (j:Nat) x,cells[j]? =aa x->∃ u,arr[j]? =aa u/\mR (tot E φ H) w x u:=λj x I=>by
   have hj:j<cells.length:=(bf.1 I).1;have hja:j<arr.size:=by omega
   refine ⟨arr[j],by simp[hja],?_⟩;have:=p2.2.2 j (.f x) arr[j] (by simp[BC.toMx,I]) (by
    rw[cH,aI (by simpa[BC.toMx] using hj),cB];simp[hja])
   cases this with
   |f h=>exact h
  refine .f (.sl cells n c k 0 (λj=>(arr[j]?).getD undef) hn hcap hnk hk (λx I=>?_) (λj hj=>?_) (λj x I=>?_))
  .have:=p2.2.1 (.f x) (by simp only[BC.toMx];exact dc.2 ⟨x,I,rfl⟩);exact this
  .have:j<arr.size:=by omega
   simp[LV,p1,this]
  .obtain⟨u,J,M⟩:=hget j x I;rw[J];exact M.dom d
theorem ru:∀ l:List Xp,H7 l=l.flatMap vq
 |[]=>rfl
 |x::r=>by rw[H7,ru r];rfl
theorem xY:∀ l:List Sx,H6 l=l.flatMap w_
 |[]=>rfl
 |x::r=>by rw[H6,xY r];rfl
theorem H5 (e:Xp):bN Li (L2 e)=vq e:=by
 cases e with
 |mk op n name l=>simp only[Li,L2,bN,vq,Xp.op,Xp.n,Xp.name,Xp.l,ru];rfl
theorem Pt (x:Li.den):vq (dQ x)=bN Li x:=by
 simp only[Li,dQ,bN,vq,ru];rfl
theorem H4 (e:Sx):bN KQ (L1 e)=w_ e:=by
 cases e with
 |mk op line name arg index expr body els=>simp only[KQ,L1,bN,w_,Sx.op,Sx.line,Sx.name,Sx.arg,Sx.index,Sx.expr,Sx.body,Sx.els,ru,xY];rfl
theorem Ps (x:KQ.den):w_ (ne x)=bN KQ x:=by
 simp only[KQ,ne,bN,w_,ru,xY];rfl
theorem wE (e:Xp):(vq e).length=4:=by cases e;simp[vq]
theorem B9 (e:Sx):(w_ e).length=11:=by cases e;simp[w_,wE]
theorem bx:∀ (T:Ty) (v:T.den),(bN T v).length=T.size
 |.int _,_=>rfl
 |.bool,_=>rfl
 |.str,_=>rfl
 |.sl _,_=>rfl
 |.st t,v=>bx t v
 |.pr a b,v=>by simp[bN,Ty.size,bx a,bx b]
 |.un,_=>rfl
 |.ex,v=>wE v
 |.sm,v=>B9 v
theorem H8 (e:Xp):∀ x∈vq e,x.isCell=ah:=by
 cases e with
 |mk op n name l=>
  intro x I;simp only[vq,bh,cj,fP] at I;rcases I with rfl|rfl|rfl|rfl<;>rfl
theorem Sv (e:Sx):∀ x∈w_ e,x.isCell=ah:=by
 cases e with
 |mk op line name arg index expr body els=>
  intro x I;simp only[w_,bR,bh,cj,fP] at I;rcases I with (I|I)|I
  .rcases I with rfl|rfl|rfl|rfl|rfl<;>rfl
  .exact H8 _ _ I
  .rcases I with rfl|rfl<;>rfl
theorem ny:∀ (T:Ty) (v:T.den),∀ x∈bN T v,x.isCell=ah
 |.int _,_,x,I=>by simp only[bN,aK] at I;subst I;rfl
 |.bool,_,x,I=>by simp only[bN,aK] at I;subst I;rfl
 |.str,_,x,I=>by simp only[bN,aK] at I;subst I;rfl
 |.sl _,_,x,I=>by simp only[bN,aK] at I;subst I;rfl
 |.st t,v,x,I=>ny t v x I
 |.pr a b,v,x,I=>by
  simp only[bN,bR] at I;exact I.elim (ny a v.1 x) (ny b v.2 x)
 |.un,_,x,I=>by simp[bN] at I
 |.ex,v,x,I=>H8 v x I
 |.sm,v,x,I=>Sv v x I
theorem B_:∀ (T:Ty) (v:T.den),T.one=ah->bN T v=[gy T v]/\T.size=1
 |.int _,_,_=>⟨rfl,rfl⟩
 |.bool,_,_=>⟨rfl,rfl⟩
 |.str,_,_=>⟨rfl,rfl⟩
 |.sl _,_,_=>⟨rfl,rfl⟩
 |.st _,_,h=>by cases h
 |.pr _ _,_,h=>by cases h
 |.un,_,h=>by cases h
 |.ex,_,h=>by cases h
 |.sm,_,h=>by cases h
theorem pN:∀ (T:Ty) (v:T.den),T.one=ai->gy T v= .agg (bN T v)
 |.int _,_,h=>by cases h
 |.bool,_,h=>by cases h
 |.str,_,h=>by cases h
 |.sl _,_,h=>by cases h
 |.st _,_,_=>rfl
 |.pr _ _,_,_=>rfl
 |.un,_,_=>rfl
 |.ex,_,_=>rfl
 |.sm,_,_=>rfl
theorem yS (T:Ty) (v:T.den):(AV.f (gy T v)).cs=(bN T v).map .f:=by
 cases h:T.one with
 |true=>
  rw[(B_ T v h).1];cases T<;>simp only[Ty.one] at h<;>first|rfl|cases h
 |false=>rw[pN T v h];rfl
theorem e_ {α:Type} {f:α->List FV} {n:Nat} (hf:∀ x,(f x).length=n):∀ (xs:List α),(xs.flatMap f).length=xs.length*n
 |[]=>by simp
 |x::r=>by rw[fg,bn,hf,e_ hf r,bU,iz];omega
theorem DE {α:Type} {f:α->List FV} {n:Nat} (hf:∀ x,(f x).length=n):∀ (xs:List α) (j:Nat) (x:α),xs[j]? =aa x->∃ r,(xs.flatMap f).drop (j*n)=f x++r
 |[],j,x,h=>by simp at h
 |y::r,j,x,h=>by
  cases j with
  |zero=>simp at h;subst h;exact⟨r.flatMap f,by simp⟩
  |succ j=>
   obtain⟨q,hq⟩:=DE hf r j x (by simpa using h);refine ⟨q,?_⟩;rw[fg,show (j+1)*n=(f y).length+j*n from by rw[hf,iz];omega,tS];simp[hq]
theorem Ph {α:Type} {f:α->List FV} {n:Nat} (hf:∀ x,(f x).length=n):∀ (xs:List α) (j:Nat) (x z:α),xs[j]? =aa x->∀ (off:Nat) (vs:List FV),off+vs.length<=n->f z=AI.splice (f x) off vs->(xs.set j z).flatMap f=AI.splice (xs.flatMap f) (j*n+off) vs
 |[],j,x,z,h,_,_,_,_=>by simp at h
 |y::r,j,x,z,h,off,vs,hle,I=>by
  cases j with
  |zero=>
   simp at h;subst h;simp only[List.set_cons_zero,fg,I,Nat.zero_mul,bJ];unfold AI.splice;have M:=hf y;rw[List.take_append,tS];have e1:off-(f y).length=0:=by omega
   have e2:off+vs.length-(f y).length=0:=by omega
   rw[e1,e2];simp[jy]
  |succ j=>
   have J:=Ph hf r j x z (by simpa using h) off vs hle I;simp only[List.set_cons_succ,fg,J];unfold AI.splice;have M:=hf y;have e0:(j+1)*n=(f y).length+j*n:=by rw[hf,iz];omega
   rw[e0,List.take_append,tS];have e1:(f y).length+j*n+off-(f y).length=j*n+off:=by omega
   have e2:(f y).length+j*n+off+vs.length-(f y).length=j*n+off+vs.length:=by omega
   rw[e1,e2,fJ (by omega:(f y).length<=(f y).length+j*n+off),qN (by omega:(f y).length<=(f y).length+j*n+off+vs.length)];simp[jy]
theorem qG (T:Ty) (xs:List T.den):∀ x∈xs.flatMap (bN T),x.isCell=ah:=λx I=>by
 obtain⟨y,_,h⟩:=tQ.1 I;exact ny T y x h
theorem iR {S T:Ty} {v:S.den} {x:T.den} (h:vE T v=aa x):∃ e:S=T,x=e▸v:=by
 unfold vE at h;split at h
 .rename_i e;simp only[aj] at h;exact⟨e,h.symm⟩
 .cases h
theorem k_ (h:bd):∀ (n:Nat) (T:Ty) (v:T.den) (l:List TV),cellsOf n T v=aa l->cF h l=aa ((bN T v).map .f)/\j7 l=ah
 |0,_,_,_,he=>by simp[cellsOf] at he
 |n+1,.st t,v,l,he=>k_ h n t v l he
 |n+1,.pr a b,v,l,he=>by
  simp only[cellsOf] at he;split at he
  .rename_i x y J I;simp only[aj] at he;subst he;obtain⟨h1,h2⟩:=k_ h n a v.1 x J;obtain⟨M,Y⟩:=k_ h n b v.2 y I;refine ⟨by rw[bN,cI];exact mO h1 M,?_⟩;clear h1 M J I;induction x with
   |nil=>exact Y
   |cons z r U=>simp only[j7,au,fZ] at h2 ⊢;exact⟨h2.1,U h2.2⟩
  .cases he
 |n+1,.un,v,l,he=>by simp only[cellsOf,aj] at he;subst he;exact⟨rfl,rfl⟩
 |n+1,.ex,v,l,he=>by rw[bN,<-H5];exact k_ h n Li (L2 v) l he
 |n+1,.sm,v,l,he=>by rw[bN,<-H4];exact k_ h n KQ (L1 v) l he
 |n+1,.int k,v,l,he=>by simp only[cellsOf,aj] at he;subst he;exact⟨rfl,rfl⟩
 |n+1,.bool,v,l,he=>by simp only[cellsOf,aj] at he;subst he;exact⟨rfl,rfl⟩
 |n+1,.str,v,l,he=>by simp only[cellsOf,aj] at he;subst he;exact⟨rfl,rfl⟩
 |n+1,.sl t,v,l,he=>by simp only[cellsOf,aj] at he;subst he;exact⟨rfl,rfl⟩
theorem Me {y:AV} (h:y.isCell=ah):y.cs=[y]:=by
 cases y with
 |f x=>cases x<;>first|rfl|cases h
 |agg l=>cases h
 |_=>rfl
theorem LH {h:bd} {v:TV} {l:List TV} {y:AV} (hv:v.cs=aa l) (I:cg h v=aa y):cF h l=aa y.cs/\j7 l=ah:=by
 have one:(if v.isC then aa [v] else af)=aa l->cF h l=aa y.cs/\j7 l=ah:=λhv=>by
  split at hv
  .rename_i hc;simp only[aj] at hv;subst hv;exact⟨by rw[Me (Mq I hc)];exact oy I rfl,by simp[j7,hc]⟩
  .cases hv
 cases v with
 |agg q=>
  simp only[TV.cs] at hv;split at hv
  .rename_i hc;simp only[aj] at hv;subst hv;simp only[cg] at I;split at I
   .rename_i J hl;simp only[aj] at I;subst I;exact⟨hl,hc⟩
   .cases I
  .cases hv
 |f T x=>
  simp only[TV.cs] at hv;simp only[cg,aj] at I;subst I;rw[yS];exact k_ h 40 T x l hv
 |fel T xs j hj off=>exact one hv
 |pel id sz j off=>exact one hv
 |ptr id off=>exact one hv
 |csl id off z=>exact one hv
 |row id=>exact one hv
 |emp=>exact one hv
 |nil=>exact one hv
 |mp id=>exact one hv
 |rtl id M=>exact one hv
 |tup q=>exact one hv
 |clo g q=>exact one hv
 |undef=>exact one hv
 |np=>exact one hv
 |anyb=>exact one hv
def CZ (h:bd) (H H':HF) (m:Nat):Prop:=∀ id,aL m id=ah->H (nm id)=bw h (nm id)/\H' (nm id)=af
theorem CZ.zero {h:bd} {H H':HF}:CZ h H H' 0:=λid hid=>by simp at hid
theorem CZ.or {h:bd} {H H':HF} {a b:Nat} (g:CZ h H H' (a|||b)):CZ h H H' a/\CZ h H H' b:=
 ⟨λid hid=>g id (by rw[bl,hid];rfl),λid hid=>g id (by rw[bl,hid];simp)⟩
theorem bY {i j:Nat}:aL (kL i) j=ah↔i=j:=by
 unfold kL;rw[Nat.one_shiftLeft,Nat.testBit_two_pow];simp
section pack
variable {h:bd} {H H':HF}
theorem wM (d:uk H H') {T:Ty} {v:TV} {x:T.den} {m:Nat} {y:AV} (I:io h T v=aa (x,m)) (J:cg h v=aa y) (g:CZ h H H' m):lq H H' y (.f (gy T x))/\y.cs.length=T.size/\(T.one=ah->y.isCell=ah)/\gW H H' y.cs ((bN T x).map .f):=by
 cases v with
 |f S v=>
  simp only[io] at I;split at I
  .rename_i z M;simp only[aj,aB] at I;obtain⟨rfl,_⟩:=I;obtain⟨e,rfl⟩:=iR M;subst e;simp only[cg,aj] at J;subst J;refine ⟨lq.refl d _,by rw[yS,bS,bx],λY=>?_,by rw[yS];exact gW.refl d _⟩;cases S<;>simp only[Ty.one] at Y<;>first|rfl|cases Y
  .cases I
 |emp=>
  simp only[io] at I;split at I
  .simp only[aj,aB] at I;obtain⟨rfl,_⟩:=I;simp only[cg,aj] at J;subst J;exact⟨Le.emp.toH d,rfl,λ_=>rfl,⟨Le.emp.toH d,trivial⟩⟩
  .cases I
 |nil=>
  simp only[io] at I;split at I
  .simp only[aj,aB] at I;obtain⟨rfl,_⟩:=I;simp only[cg,aj] at J;subst J;exact⟨Le.nil.toH d,rfl,λ_=>rfl,⟨Le.nil.toH d,trivial⟩⟩
  .cases I
 |row id=>
  simp only[io] at I;split at I
  .rename_i ty p S xs hb;split at I
   .rename_i z M;simp only[aj,aB] at I;obtain⟨rfl,rfl⟩:=I;obtain⟨e,rfl⟩:=iR M;subst e;obtain⟨U,Z⟩:=g id (bY.2 rfl);rw[bE,hb] at U;simp only[cg,ec,hb,aj] at J;subst J;have key:lq H H' (eY p id S.size xs.length) (.f (gy (.sl S) xs)):=by
     unfold eY;split
     .rename_i hp;simp only[au,cM] at hp;have:xs=[]:=gw.1 hp.2;subst this;exact Le.emp.toH d
     .rename_i hp;simp only[aF,kq,aC hp] at U;exact lq.row d U Z (e_ (bx S) xs)
    have hc:(eY p id S.size xs.length).isCell=ah:=by unfold eY;split<;>rfl
    refine ⟨key,by rw[Me hc];rfl,λ_=>hc,?_⟩;rw[Me hc];exact⟨key,trivial⟩
   .cases I
  .cases I
 |fel T xs j hj off=>simp[io] at I
 |pel id sz j off=>simp[io] at I
 |ptr id off=>simp[io] at I
 |csl id off z=>simp[io] at I
 |mp id=>simp[io] at I
 |rtl id jj=>simp[io] at I
 |agg q=>simp[io] at I
 |tup q=>simp[io] at I
 |clo f q=>simp[io] at I
 |undef=>simp[io] at I
 |np=>simp[io] at I
 |anyb=>simp[io] at I
theorem q_ (d:uk H H'):∀ (n:Nat) (T:Ty) (l:List TV) (x:T.den) (m:Nat) (r:List TV) (I:List AV),eO h n T l=aa (x,m,r)->cF h l=aa I->CZ h H H' m->∃ l1 l2,I=l1++l2/\cF h r=aa l2/\gW H H' l1 ((bN T x).map .f)
 |0,_,_,_,_,_,_,hp,_,_=>by simp[eO] at hp
 |n+1,.st t,l,x,m,r,I,hp,hl,g=>q_ d n t l x m r I hp hl g
 |n+1,.pr a b,l,x,m,r,I,hp,hl,g=>by
  simp only[eO] at hp;split at hp
  .rename_i x1 m1 r1 h1;split at hp
   .rename_i M m2 r2 h2;simp only[aj,aB] at hp;obtain⟨rfl,rfl,rfl⟩:=hp;obtain⟨ga,Z⟩:=g.or;obtain⟨l1,l2,rfl,q1,J⟩:=q_ d n a l x1 m1 r1 I h1 hl ga;obtain⟨Y,U,rfl,q3,q4⟩:=q_ d n b r1 M m2 r2 l2 h2 q1 Z;refine ⟨l1++Y,U,by simp,q3,?_⟩;rw[bN,cI];exact J.append q4
   .cases hp
  .cases hp
 |n+1,.un,l,x,m,r,I,hp,hl,g=>by
  simp only[eO,aj,aB] at hp;obtain⟨_,_,rfl⟩:=hp;exact⟨[],I,rfl,hl,trivial⟩
 |n+1,.ex,l,x,m,r,I,hp,hl,g=>by
  simp only[eO] at hp;split at hp
  .rename_i x1 m1 r1 h1;simp only[aj,aB] at hp;obtain⟨rfl,rfl,rfl⟩:=hp;rw[bN,Pt];exact q_ d n Li l x1 m1 r1 I h1 hl g
  .cases hp
 |n+1,.sm,l,x,m,r,I,hp,hl,g=>by
  simp only[eO] at hp;split at hp
  .rename_i x1 m1 r1 h1;simp only[aj,aB] at hp;obtain⟨rfl,rfl,rfl⟩:=hp;rw[bN,Ps];exact q_ d n KQ l x1 m1 r1 I h1 hl g
  .cases hp
 |n+1,.int k,l,x,m,r,I,hp,hl,g=>by
  simp only[eO] at hp;split at hp
  .rename_i c q;split at hp
   .rename_i x1 m1 h1;simp only[aj,aB] at hp;obtain⟨rfl,rfl,rfl⟩:=hp;obtain⟨y,l2,rfl,q1,J⟩:=cO hl;exact⟨[y],l2,rfl,J,⟨(wM d h1 q1 g).1,trivial⟩⟩
   .cases hp
  .cases hp
 |n+1,.bool,l,x,m,r,I,hp,hl,g=>by
  simp only[eO] at hp;split at hp
  .rename_i c q;split at hp
   .rename_i x1 m1 h1;simp only[aj,aB] at hp;obtain⟨rfl,rfl,rfl⟩:=hp;obtain⟨y,l2,rfl,q1,J⟩:=cO hl;exact⟨[y],l2,rfl,J,⟨(wM d h1 q1 g).1,trivial⟩⟩
   .cases hp
  .cases hp
 |n+1,.str,l,x,m,r,I,hp,hl,g=>by
  simp only[eO] at hp;split at hp
  .rename_i c q;split at hp
   .rename_i x1 m1 h1;simp only[aj,aB] at hp;obtain⟨rfl,rfl,rfl⟩:=hp;obtain⟨y,l2,rfl,q1,J⟩:=cO hl;exact⟨[y],l2,rfl,J,⟨(wM d h1 q1 g).1,trivial⟩⟩
   .cases hp
  .cases hp
 |n+1,.sl t,l,x,m,r,I,hp,hl,g=>by
  simp only[eO] at hp;split at hp
  .rename_i c q;split at hp
   .rename_i x1 m1 h1;simp only[aj,aB] at hp;obtain⟨rfl,rfl,rfl⟩:=hp;obtain⟨y,l2,rfl,q1,J⟩:=cO hl;exact⟨[y],l2,rfl,J,⟨(wM d h1 q1 g).1,trivial⟩⟩
   .cases hp
  .cases hp
theorem RD (d:uk H H') {n:Nat} {T:Ty} {l:List TV} {x:T.den} {m:Nat} {I:List AV} (hp:eO h n T l=aa (x,m,[])) (hl:cF h l=aa I) (g:CZ h H H' m):gW H H' I ((bN T x).map .f):=by
 obtain⟨l1,l2,rfl,q1,J⟩:=q_ d n T l x m [] I hp hl g;simp only[cF,aj] at q1;subst q1;simpa using J
theorem Nt (d:uk H H') {T:Ty} {v:TV} {x:T.den} {m:Nat} {y:AV} (I:CK h T v=aa (x,m)) (J:cg h v=aa y) (g:CZ h H H' m):lq H H' y (.f (gy T x))/\gW H H' y.cs ((bN T x).map .f):=by
 have other:io h T v=aa (x,m)->lq H H' y (.f (gy T x))/\gW H H' y.cs ((bN T x).map .f):=λI=>by
  obtain⟨h1,_,_,h2⟩:=wM d I J g;exact⟨h1,h2⟩
 cases v with
 |agg l=>
  simp only[CK] at I;split at I
  .cases I
  .rename_i M;split at I
   .rename_i x1 m1 h1;simp only[aj,aB] at I;obtain⟨rfl,rfl⟩:=I;simp only[cg] at J;split at J
    .rename_i U hl;simp only[aj] at J;subst J;have:=RD d h1 hl g;refine ⟨?_,this⟩;rw[pN T x1 (by simpa using M)];exact lq.aggL this (ny T x1)
    .cases J
   .cases I
 |f S v=>exact other I
 |fel T xs j hj off=>exact other I
 |pel id sz j off=>exact other I
 |ptr id off=>exact other I
 |csl id off z=>exact other I
 |row id=>exact other I
 |emp=>exact other I
 |nil=>exact other I
 |mp id=>exact other I
 |rtl id Y=>exact other I
 |tup q=>exact other I
 |clo g q=>exact other I
 |undef=>exact other I
 |np=>exact other I
 |anyb=>exact other I
theorem BA (d:uk H H') {T:Ty}:∀ (n:Nat) (l:List TV) (xs:List T.den) (m:Nat) (I:List AV),xD h T n l=aa (xs,m)->cF h l=aa I->CZ h H H' m->gW H H' I ((xs.flatMap (bN T)).map .f)/\xs.length=n
 |0,[],xs,m,I,hp,hl,g=>by
  simp only[xD,aj,aB] at hp;obtain⟨rfl,_⟩:=hp;simp only[cF,aj] at hl;subst hl;exact⟨trivial,rfl⟩
 |0,_::_,xs,m,I,hp,hl,g=>by simp[xD] at hp
 |n+1,l,xs,m,I,hp,hl,g=>by
  simp only[xD] at hp;split at hp
  .rename_i x1 m1 r1 h1;split at hp
   .rename_i J m2 h2;simp only[aj,aB] at hp;obtain⟨rfl,rfl⟩:=hp;obtain⟨Y,U⟩:=g.or;obtain⟨l1,l2,rfl,q1,M⟩:=q_ d 40 T l x1 m1 r1 I h1 hl Y;obtain⟨q3,q4⟩:=BA d n r1 J m2 l2 h2 q1 U;refine ⟨?_,by simp[q4]⟩;rw[fg,cI];exact M.append q3
   .cases hp
  .cases hp
theorem td (h:bd):∀ (n:Nat) (T:Ty) (v:T.den) (off sz:Nat) (ag:Bool) (u:TV),nD n T v off sz ag=aa u->off+sz<=T.size/\∃ y,cg h u=aa (.f y)/\(ag=ai->sz=1/\(bN T v)[off]? =aa y)/\(ag=ah->y= .agg (((bN T v).drop off).take sz))
 |0,_,_,_,_,_,_,hg=>by simp[nD] at hg
 |n+1,.st t,v,off,sz,ag,u,hg=>by
  simp only[nD] at hg;split at hg
  .rename_i hc;simp only[au] at hc;obtain⟨⟨h1,h2⟩,rfl⟩:=hc;have h1:=av h1;have h2:=av h2;subst h1;subst h2;simp only[aj] at hg;subst hg;refine ⟨by simp[Ty.size],_,rfl,λh=>(by cases h),λ_=>?_⟩;simp only[gy,bN,List.drop_zero];rw[<- bx t v,cL]
  .exact td h n t v off sz ag u hg
 |n+1,.pr a b,v,off,sz,ag,u,hg=>by
  simp only[nD] at hg;have hla:=bx a v.1;have hlb:=bx b v.2;split at hg
  .rename_i hlt;have hlt:off<a.size:=aY hlt;obtain⟨h1,y,h2,J,I⟩:=td h n a v.1 off sz ag u hg;refine ⟨by simp only[Ty.size];omega,y,h2,λe=>?_,λe=>?_⟩
   .obtain⟨U,M⟩:=J e;exact⟨U,by rw[bN,bL (by omega)];exact M⟩
   .rw[I e,bN];have:((bN a v.1++bN b v.2).drop off).take sz=((bN a v.1).drop off).take sz:=by
     rw[CY (by omega),kH (by simp;omega)]
    rw[this]
  .rename_i hlt;have hlt:¬off<a.size:=λh=>hlt (bD h)
   obtain⟨h1,y,h2,J,I⟩:=td h n b v.2 (off-a.size) sz ag u hg;refine ⟨by simp only[Ty.size];omega,y,h2,λe=>?_,λe=>?_⟩
   .obtain⟨U,M⟩:=J e;exact⟨U,by rw[bN,bW (by omega),hla];exact M⟩
   .rw[I e,bN];have:(bN a v.1++bN b v.2).drop off=(bN b v.2).drop (off-a.size):=by
     rw[tS,hla,qN (by omega)];simp
    rw[this]
 |n+1,.un,v,off,sz,ag,u,hg=>by simp[nD] at hg
 |n+1,.ex,v,off,sz,ag,u,hg=>by
  simp only[nD] at hg;split at hg
  .rename_i hc;simp only[au] at hc;obtain⟨⟨h1,h2⟩,rfl⟩:=hc;have h1:=av h1;have h2:=av h2;subst h1;subst h2;simp only[aj] at hg;subst hg;refine ⟨by simp[Ty.size],_,rfl,λh=>(by cases h),λ_=>?_⟩;simp only[gy,bN,List.drop_zero];rw[<- wE v,cL]
  .obtain⟨h1,y,h2,J,I⟩:=td h n Li (L2 v) off sz ag u hg;rw[H5] at J I;exact⟨h1,y,h2,J,I⟩
 |n+1,.sm,v,off,sz,ag,u,hg=>by
  simp only[nD] at hg;split at hg
  .rename_i hc;simp only[au] at hc;obtain⟨⟨h1,h2⟩,rfl⟩:=hc;have h1:=av h1;have h2:=av h2;subst h1;subst h2;simp only[aj] at hg;subst hg;refine ⟨by simp[Ty.size],_,rfl,λh=>(by cases h),λ_=>?_⟩;simp only[gy,bN,List.drop_zero];rw[<- B9 v,cL]
  .obtain⟨h1,y,h2,J,I⟩:=td h n KQ (L1 v) off sz ag u hg;rw[H4] at J I;exact⟨h1,y,h2,J,I⟩
 |n+1,.int k,v,off,sz,ag,u,hg=>by
  simp only[nD] at hg;split at hg
  .rename_i hc;simp only[au,dZ] at hc;obtain⟨⟨h1,h2⟩,rfl⟩:=hc;have h1:=av h1;have h2:=av h2;subst h1;subst h2;simp only[aj] at hg;subst hg;exact⟨by simp[Ty.size],_,rfl,λ_=>⟨rfl,rfl⟩,λh=>by cases h⟩
  .cases hg
 |n+1,.bool,v,off,sz,ag,u,hg=>by
  simp only[nD] at hg;split at hg
  .rename_i hc;simp only[au,dZ] at hc;obtain⟨⟨h1,h2⟩,rfl⟩:=hc;have h1:=av h1;have h2:=av h2;subst h1;subst h2;simp only[aj] at hg;subst hg;exact⟨by simp[Ty.size],_,rfl,λ_=>⟨rfl,rfl⟩,λh=>by cases h⟩
  .cases hg
 |n+1,.str,v,off,sz,ag,u,hg=>by
  simp only[nD] at hg;split at hg
  .rename_i hc;simp only[au,dZ] at hc;obtain⟨⟨h1,h2⟩,rfl⟩:=hc;have h1:=av h1;have h2:=av h2;subst h1;subst h2;simp only[aj] at hg;subst hg;exact⟨by simp[Ty.size],_,rfl,λ_=>⟨rfl,rfl⟩,λh=>by cases h⟩
  .cases hg
 |n+1,.sl t,v,off,sz,ag,u,hg=>by
  simp only[nD] at hg;split at hg
  .rename_i hc;simp only[au,dZ] at hc;obtain⟨⟨h1,h2⟩,rfl⟩:=hc;have h1:=av h1;have h2:=av h2;subst h1;subst h2;simp only[aj] at hg;subst hg;exact⟨by simp[Ty.size],_,rfl,λ_=>⟨rfl,rfl⟩,λh=>by cases h⟩
  .cases hg
theorem Rw {α:Type} (l vs:List α) (h:vs.length=l.length):AI.splice l 0 vs=vs:=by
 unfold AI.splice;rw[bJ,h,List.drop_length];simp
theorem N2 {α:Type} (a b vs:List α) (off:Nat) (h:off+vs.length<=a.length):AI.splice (a++b) off vs=AI.splice a off vs++b:=by
 unfold AI.splice;rw[kH (by omega),CY (by omega)];simp[jy]
theorem L9 {α:Type} (a b vs:List α) (off:Nat) (h:a.length<=off):AI.splice (a++b) off vs=a++AI.splice b (off-a.length) vs:=by
 unfold AI.splice;rw[List.take_append,tS,fJ h,qN (by omega),show off+vs.length-a.length=off-a.length+vs.length from by omega];simp[jy]
def Ve (H H':HF) (y:AV) (T:Ty) (v z:T.den) (off sz:Nat):Prop:=∃ fs:List FV,gW H H' y.cs (fs.map .f)/\fs.length=sz/\off+sz<=T.size/\bN T z=AI.splice (bN T v) off fs/\∀ x∈fs,x.isCell=ah
theorem Ve.whole {y:AV} {T:Ty} {v z:T.den} {off sz:Nat} (h0:off=0) (hs:sz=T.size) (hl:gW H H' y.cs ((bN T z).map .f)):Ve H H' y T v z off sz:=by
 subst h0;subst hs;exact⟨bN T z,hl,bx T z,by omega,(Rw _ _ (by rw[bx,bx])).symm,ny T z⟩
theorem uQ (d:uk H H') {u:TV} {y:AV} (I:cg h u=aa y):∀ (n:Nat) (T:Ty) (v:T.den) (off sz:Nat) (z:T.den) (m:Nat),gC h u n T v off sz=aa (z,m)->CZ h H H' m->Ve H H' y T v z off sz
 |0,_,_,_,_,_,_,hg,_=>by simp[gC] at hg
 |n+1,.st t,v,off,sz,z,m,hg,g=>by
  simp only[gC] at hg;split at hg
  .rename_i q hq;split at hq
   .rename_i hc;simp only[au] at hc;simp only[aj] at hg;subst hg;exact .whole (av hc.1) (av hc.2) (Nt d hq I g).2
   .cases hq
  .exact uQ d I n t v off sz z m hg g
 |n+1,.pr a b,v,off,sz,z,m,hg,g=>by
  simp only[gC] at hg;have hla:=bx a v.1;split at hg
  .rename_i hlt;split at hg
   .rename_i J m1 h1;simp only[aj,aB] at hg;obtain⟨rfl,rfl⟩:=hg;obtain⟨fs,q1,M,q3,q4,q5⟩:=uQ d I n a v.1 off sz J m1 h1 g;refine ⟨fs,q1,M,by simp only[Ty.size];omega,?_,q5⟩;rw[bN,bN,N2 _ _ _ _ (by omega),q4]
   .cases hg
  .rename_i hlt;have hlt:¬off<a.size:=λh=>hlt (bD h)
   split at hg
   .rename_i J m1 h1;simp only[aj,aB] at hg;obtain⟨rfl,rfl⟩:=hg;obtain⟨fs,q1,M,q3,q4,q5⟩:=uQ d I n b v.2 (off-a.size) sz J m1 h1 g;refine ⟨fs,q1,M,by simp only[Ty.size];omega,?_,q5⟩;rw[bN,bN,L9 _ _ _ _ (by omega),q4,hla]
   .cases hg
 |n+1,.un,v,off,sz,z,m,hg,g=>by simp[gC] at hg
 |n+1,.ex,v,off,sz,z,m,hg,g=>by
  simp only[gC] at hg;split at hg
  .rename_i q hq;split at hq
   .rename_i hc;simp only[au] at hc;simp only[aj] at hg;subst hg;exact .whole (av hc.1) (av hc.2) (Nt d hq I g).2
   .cases hq
  .split at hg
   .rename_i J m1 h1;simp only[aj,aB] at hg;obtain⟨rfl,rfl⟩:=hg;obtain⟨fs,q1,M,q3,q4,q5⟩:=uQ d I n Li (L2 v) off sz J m1 h1 g;exact⟨fs,q1,M,q3,by rw[bN,bN,Pt,q4,H5],q5⟩
   .cases hg
 |n+1,.sm,v,off,sz,z,m,hg,g=>by
  simp only[gC] at hg;split at hg
  .rename_i q hq;split at hq
   .rename_i hc;simp only[au] at hc;simp only[aj] at hg;subst hg;exact .whole (av hc.1) (av hc.2) (Nt d hq I g).2
   .cases hq
  .split at hg
   .rename_i J m1 h1;simp only[aj,aB] at hg;obtain⟨rfl,rfl⟩:=hg;obtain⟨fs,q1,M,q3,q4,q5⟩:=uQ d I n KQ (L1 v) off sz J m1 h1 g;exact⟨fs,q1,M,q3,by rw[bN,bN,Ps,q4,H4],q5⟩
   .cases hg
 |n+1,.int k,v,off,sz,z,m,hg,g=>by
  simp only[gC] at hg;split at hg
  .rename_i hc;simp only[au] at hc;exact .whole (av hc.1) (av hc.2) (wM d hg I g).2.2.2
  .cases hg
 |n+1,.bool,v,off,sz,z,m,hg,g=>by
  simp only[gC] at hg;split at hg
  .rename_i hc;simp only[au] at hc;exact .whole (av hc.1) (av hc.2) (wM d hg I g).2.2.2
  .cases hg
 |n+1,.str,v,off,sz,z,m,hg,g=>by
  simp only[gC] at hg;split at hg
  .rename_i hc;simp only[au] at hc;exact .whole (av hc.1) (av hc.2) (wM d hg I g).2.2.2
  .cases hg
 |n+1,.sl t,v,off,sz,z,m,hg,g=>by
  simp only[gC] at hg;split at hg
  .rename_i hc;simp only[au] at hc;exact .whole (av hc.1) (av hc.2) (wM d hg I g).2.2.2
  .cases hg
theorem I4:∀ {a b:List Value},QE a b=ah->a=b
 |[],[],_=>rfl
 |[],_::_,h=>by cases h
 |_::_,[],h=>by cases h
 |x::xs,y::ys,h=>by
  simp only[QE,au] at h;rw[abn h.1,I4 h.2]
theorem zero_ok (d:uk H H'):∀ T:Ty,gW H H' ((rP T).map raw) ((bN T T.zero).map .f)
 |.int k=>⟨lq.refl d _,trivial⟩
 |.bool=>⟨lq.refl d _,trivial⟩
 |.str=>⟨lq.refl d _,trivial⟩
 |.sl t=>⟨Le.nil.toH d,trivial⟩
 |.st t=>zero_ok d t
 |.pr a b=>by
  simp only[rP,Ty.zero,bN,cI];exact (zero_ok d a).append (zero_ok d b)
 |.un=>trivial
 |.ex=>⟨lq.refl d _,lq.refl d _,lq.refl d _,Le.nil.toH d,trivial⟩
 |.sm=>⟨lq.refl d _,lq.refl d _,lq.refl d _,lq.refl d _,Le.nil.toH d,lq.refl d _,lq.refl d _,lq.refl d _,Le.nil.toH d,Le.nil.toH d,Le.nil.toH d,trivial⟩
theorem F5 (d:uk H H') (T:Ty):∀ n,gW H H' ((repl (rP T) n).map .f) (((aE n T.zero).flatMap (bN T)).map .f)
 |0=>trivial
 |n+1=>by
  rw[repl,List.replicate_succ,fg,cI,cI];have h1:=zero_ok (H:=H) (H':=H') d T;have:((rP T).map .raw).map AV.f=(rP T).map raw:=by rw[yF];rfl
  rw[this];exact h1.append (F5 d T n)
end pack
structure lJ (h:bd) (nx:Nat):Prop where
 cells:∀ id ty l,h.get id=aa (.cells ty l)->ku h l=ah
 low:∀ id b,h.get id=aa b->id<nx
def sr (e:iw) (h:bd):Prop:=∀ t v,e.get t=aa v->JM h v=ah
structure iY (P:Program) (o:Oper) (still:Bool) (e:iw) (h:bd) (nx:Nat) (v:TV) (rd wr:Nat) (h':bd) (nx':Nat):Prop where
 ex:∃ f:z_,gz P o (fE e h) (bw h) f/\(∀ y,cg h' v=aa y->f.val=y)/\eJ (bw h) f.wr f.nw=bw h'/\(∀ n∈f.rd,aL rd (ow n)=ah)/\(∀ n∈f.wr,aL wr (ow n)=ah)/\(∀ n∈f.N,nx<=ow n/\ow n<nx')
 rows:cq h h'
 inv:lJ h' nx'
 grows:nx<=nx'
 st:still=ah->rd=0/\wr=0
def kr {R:Type} (P:Program) (o:Oper) (still:Bool) (e:iw) (h:bd) (nx:Nat) (K:KO R) (r:R):Prop:=
 ∃ v rd wr h' nx',K v rd wr h' nx'=aa r/\iY P o still e h nx v rd wr h' nx'
theorem dX {R:Type} {b:Bool} {k:b=ah->Option R} {r:R} (h:chk b k=aa r):∃ hb:b=ah,k hb=aa r:=by
 cases b with
 |true=>exact⟨rfl,h⟩
 |false=>cases h
theorem oU {R:Type} {b:Bool} {t f:Option R} {r:R} (h:bcase b t f=aa r):(b=ah/\t=aa r)\/(b=ai/\f=aa r):=by
 cases b with
 |true=>exact .inl ⟨rfl,h⟩
 |false=>exact .inr ⟨rfl,h⟩
theorem dA {α R:Type} {o:Option α} {k:α->Option R} {r:R} (h:obind o k=aa r):∃ x,o=aa x/\k x=aa r:=by
 cases o with
 |some x=>exact⟨x,rfl,h⟩
 |none=>cases h
theorem Hk {j:Int} {n:Nat} (h:fD j n=ah):0<=j/\j<n/\j.toNat<n:=by
 simp only[fD,cR,fG,au,bQ] at h;omega
theorem gz.envLe {P:Program} {o:Oper} {e e2:EF} {h:HF} {f:z_} (ht:gz P o e h f) (hle:∀ t y,.tmp t∈o.op.operands->e t=aa y->∃ J,e2 t=aa J/\Le J y):gz P o e2 h f:=by
 intro φ E h' w a h1 h2 Z Y U;refine ht φ E h' w a h1 h2 (λt I y M=>?_) Y U;obtain⟨J,g1,g2⟩:=hle t y I M;exact g2 _ _ _ _ (Z t I J g1)
theorem II (h:bd) {v:Value} {u:TV} (hc:cst v=aa u):cg h u=aa (raw v)/\v.oneCell'=ah/\u.isC=ah:=by
 unfold cst at hc;split at hc<;>cases hc<;>exact⟨rfl,rfl,rfl⟩
theorem uh (h:bd):∀ {z:List Value} {l:List TV},IH z=aa l->cF h l=aa (z.map raw)/\(∀ x∈z,x.oneCell'=ah)/\j7 l=ah
 |[],l,hc=>by simp only[IH,aj] at hc;subst hc;exact⟨rfl,by simp,rfl⟩
 |v::r,l,hc=>by
  simp only[IH] at hc;split at hc
  .rename_i x l' J hl;simp only[aj] at hc;subst hc;obtain⟨h1,h2,Z⟩:=II h J;obtain⟨Y,U,M⟩:=uh h hl;refine ⟨oy h1 Y,λy I=>?_,by simp[j7,Z,M]⟩;rcases bh.1 I with rfl|I
   .exact h2
   .exact U y I
  .cases hc
theorem bG {e:iw} {h:bd} (hi:sr e h) {x:Operand} {v:TV} (I:fk e x=aa v):∃ y,mh (JB e h) x=aa y/\cg h v=aa y:=by
 cases x with
 |tmp t=>
  simp only[fk] at I;obtain⟨y,J⟩:=po h v (hi t v I);refine ⟨y,?_,J⟩;simp only[mh];rw[ud];simp only[fE,I,aF,J]
 |const c=>
  simp only[fk] at I;unfold aeg at I;split at I
  .rename_i vs;split at I
   .rename_i h1;split at I
    .rename_i l hl;simp only[aj] at I;subst I;refine ⟨.agg (vs.toList.map raw),?_,by simp only[cg,(uh h hl).1]⟩;simp only[mh,DR,h1,bC];rfl
    .cases I
   .cases I
  .rename_i hn;refine ⟨raw c,?_,(II h I).1⟩;simp only[mh];unfold DR;split
   .rename_i vs;exact cW rfl (hn vs)
   .rfl
 |func g=>
  simp only[fk,aj] at I;subst I;exact⟨_,rfl,rfl⟩
 |global g=>
  simp only[fk] at I;cases hg:G g with
  |none=>rw[hg] at I;cases I
  |some cells=>
   rw[hg] at I;simp only[aj] at I;subst I;have hcells:cells=BJ:=by
    unfold G at hg;split at hg
    .cases hg;rfl
    .cases hg
   subst hcells;exact⟨_,by simp only[mh,hg];rfl,rfl⟩
theorem xF {e:iw} {h:bd} (hi:sr e h):∀ {xs:List Operand} {l:List TV},Ef e xs=aa l->∃ J,UQ (JB e h) xs=aa J/\cF h l=aa J
 |[],l,I=>by simp only[Ef,aj] at I;subst I;exact⟨[],rfl,rfl⟩
 |x::xs,l,I=>by
  simp only[Ef] at I;split at I
  .rename_i y U;split at I
   .rename_i ys hys;simp only[aj] at I;subst I;obtain⟨M,h1,h2⟩:=bG hi U;obtain⟨J,Z,Y⟩:=xF hi hys;exact⟨M::J,by simp only[UQ,h1,Z],oy h2 Y⟩
   .cases I
  .cases I
section ops
variable {R:Type} {P:Program} {o:Oper} {e:iw} {h:bd} {nx:Nat} {K:KO R} {r:R}
theorem iY.pure {s:WZ} {st:Bool} (hinv:lJ h nx) (hc:c9 P o.op=aa s) {H:nB} (U:H.get=bw h) {k:Nat} {y0:AV} {rdl:List Nat} (M:eE s (JB e h) H k=aa ⟨y0,rdl,[],[],[]⟩) {v:TV} (hv:∀ y,cg h v=aa y->Le y0 y) {rd:Nat} (hrd:∀ n∈rdl,aL rd (ow n)=ah) (hst:st=ah->rd=0):iY P o st e h nx v rd 0 h nx:=by
 have ht:=GZ hc M;rw[ud,U] at ht;refine ⟨?_,λ_ _ h=>h,hinv,bO _,λhs=>⟨hst hs,rfl⟩⟩;have key:∀ y,Le y0 y->gz P o (fE e h) (bw h) ⟨y,rdl,[],iP [],[]⟩:=λy hle=>
  gz.view ht (λi hi=>by cases hi) λh' _ _=>⟨Je.refl _,hle.toH (uk.refl _)⟩
 cases J:cg h v with
 |none=>exact⟨_,ht,λy I=>by simp at I,by simp[AX.eff,sJ],hrd,by simp[AX.eff],by simp[AX.eff]⟩
 |some y=>exact⟨_,key y (hv y J),λY I=>by simpa using I,by simp[sJ],hrd,by simp,by simp⟩
theorem kr.q {s:WZ} {st:Bool} (hinv:lJ h nx) (hc:c9 P o.op=aa s) {k:Nat} {y0:AV} (J:∀ H:nB,H.get=bw h->eE s (JB e h) H k=rv y0) {v:TV} (hv:∀ y,cg h v=aa y->Le y0 y) (hk:K v 0 0 h nx=aa r):kr P o st e h nx K r:=by
 obtain⟨H,I⟩:=jw h;exact⟨v,0,0,h,nx,hk,iY.pure hinv hc I (J H I) hv (by simp) λ_=>rfl⟩
theorem dg {y0:AV} {v:TV} (hv:cg h v=aa y0):∀ y,cg h v=aa y->Le y0 y:=λy I=>by rw[hv] at I;cases I;exact Le.refl _
theorem act {T:Ty} {xs:List T.den} {j:Int} (hj:fD j xs.length=ah) {off sz:Nat} {ag:Bool} {u:TV} (hg:nD 40 T (aH xs j) off sz ag=aa u):
 ∃ y,cg h u=aa (.f y)/\(BC.fz (xs.flatMap (bN T))).sub? (j.toNat*T.size+off) sz ag=aa (.f y):=by
 obtain⟨h1,y,h2,Y,U⟩:=td h 40 T _ off sz ag u hg;refine ⟨y,h2,?_⟩;obtain⟨_,_,hlt⟩:=Hk hj;have I:xs[j.toNat]? =aa (aH xs j):=by
  unfold aH;rw[ax,ay hlt];rfl
 obtain⟨q,hq⟩:=DE (bx T) xs j.toNat _ I;have hlen:=e_ (bx T) xs;have hle:(j.toNat+1)*T.size<=xs.length*T.size:=cz _ hlt;rw[iz] at hle;have hl:=bx T (aH xs j);cases ag with
 |false=>
  obtain⟨M,J⟩:=Y rfl;subst M;simp only[BC.sub?,BC.get];have:(xs.flatMap (bN T))[j.toNat*T.size+off]? =aa y:=by
   rw[<- gJ,hq,bL (by omega)];exact J
  rw[this];rfl
 |true=>
  simp only[BC.sub?];rw[aI (bD (by omega)),U rfl,<-List.drop_drop,hq,CY (by omega),kH (by simp;omega)]
theorem acu {T:Ty} {v:T.den} {off sz:Nat} {ag:Bool} {u:TV} (hg:nD 40 T v off sz ag=aa u):
 ∃ y,cg h u=aa (.f y)/\(BC.fz (bN T v)).sub? off sz ag=aa (.f y):=by
 obtain⟨h1,y,h2,U,M⟩:=td h 40 T _ off sz ag u hg;refine ⟨y,h2,?_⟩;have hl:=bx T v;cases ag with
 |false=>
  obtain⟨J,I⟩:=U rfl;subst J;simp only[BC.sub?,BC.get,I];rfl
 |true=>
  simp only[BC.sub?];rw[aI (bD (by omega)),M rfl]
theorem Ud {l:List TV} {I:List AV} (hl:cF h l=aa I) {off sz:Nat} {ag:Bool} {u:TV} (hs:Ru l off sz ag=aa u):∃ y,cg h u=aa y/\(BC.mx I).sub? off sz ag=aa y:=by
 cases ag with
 |false=>
  simp only[Ru] at hs;split at hs
  .rename_i h1;have h1:=av h1;subst h1;obtain⟨y,h2,J⟩:=lG hl off u hs;exact⟨y,J,by simp only[BC.sub?,BC.get,h2]⟩
  .cases hs
 |true=>
  simp only[Ru] at hs;split at hs
  .rename_i h1;simp only[aj] at hs;subst hs;have h2:=DH sz (DJ off hl);exact⟨.agg ((I.drop off).take sz),by simp only[cg,h2],by simp only[BC.sub?,jb hl,h1,bC]⟩
  .cases hs
theorem Ow {v:TV} {n:Nat} {y:AV} (hn:lenOf h v=aa n) (I:cg h v=aa y):y.slen=aa n:=by
 unfold lenOf at hn;split at hn
 .simp only[aj] at hn;subst hn;simp only[cg,aj] at I;subst I;rfl
 .simp only[aj] at hn;subst hn;simp only[cg,aj] at I;subst I;rfl
 .simp only[aj] at hn;subst hn;simp only[cg,aj] at I;subst I;rfl
 .rename_i id;simp only[cg] at I;cases hr:ec h id with
  |none=>rw[hr] at hn;cases hn
  |some q=>
   obtain⟨p,sz,m⟩:=q;rw[hr] at hn I;simp only[aj] at hn I;subst hn;subst I;unfold eY;split
   .rename_i hp;simp only[au,cM] at hp;rw[hp.2];rfl
   .rfl
 .simp only[aj] at hn;subst hn;simp only[cg,aj] at I;subst I;rfl
 .cases hn
theorem CJ (a b:List UInt8):qX ⟨a.toArray⟩ ⟨b.toArray⟩=decide (a=b):=by
 unfold qX;simp only[Bool.beq_eq_decide_eq]
theorem abm {op:BinOp} {u v:TV} {q:TV->Option R} (hk:aem op u v q=aa r):∃ a b c t,cg h u=aa (raw a)/\cg h v=aa (raw b)/\tL op a b=aa c/\cg h t=aa (raw c)/\q t=aa r:=by
 unfold aem at hk;split at hk
 .rename_i k a k' b;split at hk
  .rename_i hkk;have hkk':k=k':=by simpa using hkk
   subst hkk';refine ⟨.int k a,.int k b,?_⟩;cases op<;>simp only[reduceCtorEq] at hk<;>first
    |cases hk
    |exact⟨_,_,rfl,rfl,(by simp only[tL,cP,bC]<;>rfl),rfl,hk⟩
    |(obtain ⟨hb,hk⟩:=dX hk
      have I:(b==(0:Int))=ai:=by simpa using hb
      exact⟨_,_,rfl,rfl,by simp only[tL,cP,bC,I,co,dR],rfl,hk⟩)
  .cases hk
 .rename_i a b;refine ⟨.string ⟨kg a⟩,.string ⟨kg b⟩,?_⟩;split at hk
  .exact⟨.bool (decide ((a:List UInt8)=b)),_,rfl,rfl,by simp only[tL,CJ],rfl,hk⟩
  .exact⟨.bool (!decide ((a:List UInt8)=b)),_,rfl,rfl,by simp only[tL,CJ],rfl,hk⟩
  .cases hk
 .cases hk
theorem U9 {T:Ty}:∀ {l:List TV} {xs:List T.den},xu T l=aa xs->∀ k,k<l.length->l[k]? =aa (.f T (xs.getD k T.zero))
 |[],xs,_,k,hk=>by simp at hk
 |.f S v::r,xs,I,k,hk=>by
  simp only[xu] at I;split at I
  .rename_i x J;split at I
   .rename_i l hl;simp only[aj] at I;subst I;obtain⟨es,ex⟩:=iR J;cases es;subst ex;cases k with
    |zero=>rfl
    |succ k=>simpa using U9 hl k (by simpa using hk)
   .cases I
  .cases I
 |.fel _ _ _ _ _::r,xs,I,k,hk=>by simp[xu] at I
 |.pel _ _ _ _::r,xs,I,k,hk=>by simp[xu] at I
 |.ptr _ _::r,xs,I,k,hk=>by simp[xu] at I
 |.csl _ _ _::r,xs,I,k,hk=>by simp[xu] at I
 |.row _::r,xs,I,k,hk=>by simp[xu] at I
 |.emp::r,xs,I,k,hk=>by simp[xu] at I
 |.nil::r,xs,I,k,hk=>by simp[xu] at I
 |.mp _::r,xs,I,k,hk=>by simp[xu] at I
 |.agg _::r,xs,I,k,hk=>by simp[xu] at I
 |.tup _::r,xs,I,k,hk=>by simp[xu] at I
 |.clo _ _::r,xs,I,k,hk=>by simp[xu] at I
 |.undef::r,xs,I,k,hk=>by simp[xu] at I
 |.np::r,xs,I,k,hk=>by simp[xu] at I
 |.anyb::r,xs,I,k,hk=>by simp[xu] at I
theorem U8 {l:List TV} {T:Ty} {xs:List T.den} (I:Zd l=aa ⟨T,xs⟩):∀ k,k<l.length->l[k]? =aa (.f T (xs.getD k T.zero)):=by
 unfold Zd at I;split at I
 .split at I
  .rename_i l1 hl;simp only[aj] at I;cases I;exact U9 hl
  .cases I
 .cases I
variable (hinv:lJ h nx) (hi:sr e h)
include hinv hi
theorem K_mv {con:FuncId->Option ch} {bX:TypeId->Option Ty} {x:Operand} {st:Bool} (hc:c9 P o.op=aa (.mv x)) (hk:dM con bX (.op (.mv x)) e h nx K=aa r):kr P o st e h nx K r:=by
 simp only[dM] at hk;split at hk
 .rename_i v hv;obtain⟨y,h1,h2⟩:=bG hi hv;exact kr.q (k:=0) hinv hc (λH _=>by simp only[eE,h1]) (dg h2) hk
 .cases hk
theorem ag8 {con:FuncId->Option ch} {bX:TypeId->Option Ty} {c a b:Operand} {st:Bool} (hc:c9 P o.op=aa (.pick c a b)) (hk:dM con bX (.op (.pick c a b)) e h nx K=aa r):kr P o st e h nx K r:=by
 simp only[dM] at hk;split at hk
 .rename_i t hv;obtain⟨y,h1,h2⟩:=bG hi hv;simp only[cg,aj] at h2;subst h2;rcases oU hk with ⟨rfl,I⟩|⟨rfl,I⟩
  .split at I
   .rename_i v J;obtain⟨Y,U,M⟩:=bG hi J;exact kr.q (k:=0) hinv hc (λH _=>by simp only[eE,h1,gy,bC,U]) (dg M) I
   .cases I
  .split at I
   .rename_i v J;obtain⟨Y,U,M⟩:=bG hi J;exact kr.q (k:=0) hinv hc (λH _=>by simp only[eE,h1,gy,U,co,dR]) (dg M) I
   .cases I
 .cases hk
theorem ag9 {con:FuncId->Option ch} {bX:TypeId->Option Ty} {x:Operand} {st:Bool} (hc:c9 P o.op=aa (.nilc x)) (hk:dM con bX (.op (.nilc x)) e h nx K=aa r):kr P o st e h nx K r:=by
 simp only[dM] at hk;split at hk;all_goals first
  |(rename_i hv
    obtain⟨y,h1,h2⟩:=bG hi hv;have I:=h2;simp only[cg,aj] at h2;subst h2;exact kr.q (k:=0) hinv hc (λH _=>by simp only[eE,h1]) (dg I) hk)
  |skip
 .rename_i g cap hv;obtain⟨y,h1,h2⟩:=bG hi hv;have I:=h2;simp only[cg] at h2;split at h2
  .simp only[aj] at h2;subst h2;exact kr.q (k:=0) hinv hc (λH _=>by simp only[eE,h1]) (dg I) hk
  .cases h2
 .cases hk
theorem aj0 {con:FuncId->Option ch} {bX:TypeId->Option Ty} {x:Operand} {st:Bool} (hc:c9 P o.op=aa (.not x)) (hk:dM con bX (.op (.not x)) e h nx K=aa r):kr P o st e h nx K r:=by
 simp only[dM] at hk;split at hk
 .rename_i b hv;obtain⟨y,h1,h2⟩:=bG hi hv;simp only[cg,aj] at h2;subst h2;exact kr.q (k:=0) hinv hc (λH _=>by simp only[eE,h1,gy];rfl) (dg rfl) hk
 .cases hk
theorem agh {con:FuncId->Option ch} {bX:TypeId->Option Ty} {k:IntKind} {x:Operand} {st:Bool} (hc:c9 P o.op=aa (.conv k x)) (hk:dM con bX (.op (.conv k x)) e h nx K=aa r):kr P o st e h nx K r:=by
 simp only[dM] at hk;split at hk
 .rename_i k' n hv;obtain⟨y,h1,h2⟩:=bG hi hv;simp only[cg,aj] at h2;subst h2;exact kr.q (k:=0) hinv hc (λH _=>by simp only[eE,h1,gy];rfl) (dg rfl) hk
 .cases hk
theorem aje {con:FuncId->Option ch} {bX:TypeId->Option Ty} {neg:Bool} {x y:Operand} {st:Bool} (hc:c9 P o.op=aa (.eqb neg x y)) (hk:dM con bX (.op (.eqb neg x y)) e h nx K=aa r):kr P o st e h nx K r:=by
 simp only[dM] at hk;split at hk
 .rename_i a b hv I;obtain⟨y,h1,h2⟩:=bG hi hv;obtain⟨U,M,J⟩:=bG hi I;simp only[cg,aj] at h2 J;subst h2;subst J;exact kr.q (k:=0) hinv hc (λH _=>by simp only[eE,h1,M,gy];rfl) (dg rfl) hk
 .cases hk
theorem ace {con:FuncId->Option ch} {bX:TypeId->Option Ty} {neg:Bool} {x:Operand} {st:Bool} (hc:c9 P o.op=aa (.isnil neg x)) (hk:dM con bX (.op (.isnil neg x)) e h nx K=aa r):kr P o st e h nx K r:=by
 simp only[dM] at hk;split at hk
 .rename_i hv;obtain⟨y,h1,h2⟩:=bG hi hv;simp only[cg,aj] at h2;subst h2;exact kr.q (k:=0) hinv hc (λH _=>by simp only[eE,h1,yN,bC];rfl) (dg rfl) hk
 .rename_i hv;obtain⟨y,h1,h2⟩:=bG hi hv;simp only[cg,aj] at h2;subst h2;exact kr.q (k:=0) hinv hc (λH _=>by simp only[eE,h1]) (dg rfl) hk
 .rename_i T xs hv;obtain⟨y,h1,h2⟩:=bG hi hv;simp only[cg,aj] at h2;subst h2;rcases oU hk with ⟨J,I⟩|⟨J,I⟩
  .have J:=av J;exact kr.q (k:=0) (y0:=.anyb) hinv hc (λH _=>by simp only[eE,h1,gy,J]) (dg rfl) I
  .have J:=gT J;obtain⟨n,hn⟩:=Nat.exists_eq_succ_of_ne_zero J;exact kr.q (k:=0) (y0:=raw (.bool neg)) hinv hc (λH _=>by simp only[eE,h1,gy,hn]) (dg rfl) I
 .rename_i id hv;split at hk
  .rename_i ty T xs hb;obtain⟨y,h1,h2⟩:=bG hi hv;simp only[cg,ec,hb,eY,mT,co,dR,aj] at h2;subst h2;exact kr.q (k:=0) (y0:=raw (.bool neg)) hinv hc (λH _=>by simp only[eE,h1]) (dg rfl) hk
  .cases hk
 .cases hk
theorem aj5 {con:FuncId->Option ch} {bX:TypeId->Option Ty} {x y:Operand} {st:Bool} (hc:c9 P o.op=aa (.max x y)) (hk:dM con bX (.op (.max x y)) e h nx K=aa r):kr P o st e h nx K r:=by
 simp only[dM] at hk;split at hk
 .rename_i k a k' b hv I;obtain⟨y,h1,h2⟩:=bG hi hv;obtain⟨U,M,J⟩:=bG hi I;simp only[cg,aj] at h2 J;subst h2;subst J;split at hk
  .exact kr.q (k:=0) hinv hc (λH _=>by simp only[eE,h1,M,gy];rfl) (dg rfl) hk
  .cases hk
 .cases hk
theorem aj4 {con:FuncId->Option ch} {bX:TypeId->Option Ty} {x y:Operand} {st:Bool} (hc:c9 P o.op=aa (.min x y)) (hk:dM con bX (.op (.min x y)) e h nx K=aa r):kr P o st e h nx K r:=by
 simp only[dM] at hk;split at hk
 .rename_i k a k' b hv I;obtain⟨y,h1,h2⟩:=bG hi hv;obtain⟨U,M,J⟩:=bG hi I;simp only[cg,aj] at h2 J;subst h2;subst J;split at hk
  .exact kr.q (k:=0) hinv hc (λH _=>by simp only[eE,h1,M,gy];rfl) (dg rfl) hk
  .cases hk
 .cases hk
theorem ajb {con:FuncId->Option ch} {bX:TypeId->Option Ty} {off:Nat} {x:Operand} {st:Bool} (hc:c9 P o.op=aa (.fad off x)) (hk:dM con bX (.op (.fad off x)) e h nx K=aa r):kr P o st e h nx K r:=by
 simp only[dM] at hk;split at hk;all_goals first
  |(rename_i hv
    obtain⟨y,h1,h2⟩:=bG hi hv;simp only[cg,aj] at h2;subst h2;exact kr.q (k:=0) hinv hc (λH _=>by simp only[eE,h1,rD]) (dg rfl) hk)
  |cases hk
theorem aja {con:FuncId->Option ch} {bX:TypeId->Option Ty} {off sz:Nat} {ag:Bool} {x:Operand} {st:Bool} (hc:c9 P o.op=aa (.fld off sz ag x)) (hk:dM con bX (.op (.fld off sz ag x)) e h nx K=aa r):kr P o st e h nx K r:=by
 simp only[dM] at hk;split at hk
 .rename_i l hv;split at hk
  .rename_i u hs;obtain⟨y,h1,h2⟩:=bG hi hv;simp only[cg] at h2;split at h2
   .rename_i U hl;simp only[aj] at h2;subst h2;obtain⟨y,J,I⟩:=Ud hl hs;exact kr.q (k:=0) hinv hc (λH _=>by simp only[eE,h1,I]) (dg J) hk
   .cases h2
  .cases hk
 .rename_i T v hv;split at hk
  .cases hk
  .rename_i M;split at hk
   .rename_i u hs;obtain⟨y,h1,h2⟩:=bG hi hv;simp only[cg,aj] at h2;rw[pN T v (by simpa using M)] at h2;subst h2;obtain⟨y,J,I⟩:=acu (h:=h) hs;exact kr.q (k:=0) hinv hc (λH _=>by simp only[eE,h1,I]) (dg J) hk
   .cases hk
 .cases hk
theorem aj8 {con:FuncId->Option ch} {bX:TypeId->Option Ty} {n sz:Nat} {ag:Bool} {x i:Operand} {st:Bool} (hc:c9 P o.op=aa (.idx n sz ag x i)) (hk:dM con bX (.op (.idx n sz ag x i)) e h nx K=aa r):kr P o st e h nx K r:=by
 simp only[dM] at hk;split at hk
 .rename_i v0 k j hv U;split at hk
  .rename_i T xs hA;obtain⟨hb,hk⟩:=dX hk;cases ag with
   |true=>cases hA
   |false=>
   simp only[ahb] at hA;split at hA
   .rename_i hsz;simp only[au,dZ] at hsz;have hsz1:=av hsz.1;subst hsz1;split at hA
    .rename_i l hl;split at hA
     .rename_i hn;have hn:=av hn;obtain⟨y,h1,h2⟩:=bG hi hv;obtain⟨y2,Y,J⟩:=bG hi U;simp only[cg,aj] at J;subst J;have hj:j.toNat<l.length:=by
       simp only[au,cR,fG,bQ] at hb;omega
      have hg:=U8 hA j.toNat hj;obtain⟨he,_⟩:=LH hl h2;obtain⟨z,I,M⟩:=lG he j.toNat _ hg;have M:cg h (.f T (aH xs j))=aa z:=M;refine kr.q (k:=0) hinv hc (λH _=>?_) (dg M) hk;cases v0 with
      |agg q=>
       simp only[cg] at h2;split at h2
       .rename_i l' _;simp only[aj] at h2;subst h2;have I:l'[j.toNat]? =aa z:=I;simp only[eE,h1,Y,gy,hb,bC,BC.sub?,BC.get,Nat.mul_one,I]
       .cases h2
      |f S u=>
       have Z:S.one=ai:=by
        have:=hsz.2;simpa[TV.isC] using this
       simp only[cg,aj] at h2;rw[pN S u Z] at h2;subst h2;have I:((bN S u).map AV.f)[j.toNat]? =aa z:=I;rw[aZ] at I;simp only[eE,h1,Y,gy,hb,bC,BC.sub?,BC.get,Nat.mul_one,I]
      |_=>simp[TV.cs,TV.isC] at hl hsz
     .cases hA
    .cases hA
   .cases hA
  .split at hk
   .rename_i l;obtain⟨hb,hk⟩:=dX hk;split at hk
    .rename_i u hs;obtain⟨y,h1,h2⟩:=bG hi hv;obtain⟨y2,Y,J⟩:=bG hi U;simp only[cg,aj] at J;subst J;simp only[cg] at h2;split at h2
     .rename_i l' hl;simp only[aj] at h2;subst h2;obtain⟨y,h3,h4⟩:=Ud hl hs;exact kr.q (k:=0) hinv hc (λH _=>by simp only[eE,h1,Y,gy,hb,bC,h4]) (dg h3) hk
     .cases h2
    .cases hk
   .rename_i T v _;split at hk
    .cases hk
    .rename_i Z;obtain⟨hb,hk⟩:=dX hk;split at hk
     .rename_i u hs;obtain⟨y,h1,h2⟩:=bG hi hv;obtain⟨y2,Y,J⟩:=bG hi U;simp only[cg,aj] at J h2;subst J;rw[pN T v (by simpa using Z)] at h2;subst h2;obtain⟨y,h3,h4⟩:=acu (h:=h) hs;exact kr.q (k:=0) hinv hc (λH _=>by simp only[eE,h1,Y,gy,hb,bC,h4]) (dg h3) hk
     .cases hk
   .cases hk
 .cases hk
theorem age {con:FuncId->Option ch} {bX:TypeId->Option Ty} {n sz:Nat} {x i:Operand} {st:Bool} (hc:c9 P o.op=aa (.iada n sz x i)) (hk:dM con bX (.op (.iada n sz x i)) e h nx K=aa r):kr P o st e h nx K r:=by
 simp only[dM] at hk;split at hk
 .rename_i id off k j hv I;obtain⟨y,h1,h2⟩:=bG hi hv;obtain⟨U,M,J⟩:=bG hi I;simp only[cg,aj] at J h2;subst J;subst h2;split at hk
  .obtain⟨hb,hk⟩:=dX hk;exact kr.q (k:=0) (y0:=.ptr (nm id) (off+j.toNat*sz)) hinv hc (λH _=>by simp only[eE,h1,M,gy,hb,bC]) (dg (by simp only[cg];rw[Nat.add_comm])) hk
  .obtain⟨hb,hk⟩:=dX hk;exact kr.q (k:=0) hinv hc (λH _=>by simp only[eE,h1,M,gy,hb,bC]) (dg rfl) hk
 .cases hk
theorem ajc {con:FuncId->Option ch} {bX:TypeId->Option Ty} {i:Nat} {x:Operand} {st:Bool} (hc:c9 P o.op=aa (.ext x i)) (hk:dM con bX (.op (.ext x i)) e h nx K=aa r):kr P o st e h nx K r:=by
 simp only[dM] at hk;split at hk
 .rename_i l hv;split at hk
  .rename_i u hs;obtain⟨y,h1,h2⟩:=bG hi hv;simp only[cg] at h2;split at h2
   .rename_i M hl;simp only[aj] at h2;subst h2;obtain⟨y,J,I⟩:=lG hl i u hs;exact kr.q (k:=0) hinv hc (λH _=>by simp only[eE,h1,J]) (dg I) hk
   .cases h2
  .cases hk
 .cases hk
theorem aj7 {con:FuncId->Option ch} {bX:TypeId->Option Ty} {x:Operand} {st:Bool} (hc:c9 P o.op=aa (.len x)) (hk:dM con bX (.op (.len x)) e h nx K=aa r):kr P o st e h nx K r:=by
 simp only[dM] at hk;split at hk
 .rename_i v hv;split at hk
  .rename_i n hn;obtain⟨y,h1,h2⟩:=bG hi hv;have I:=Ow hn h2;exact kr.q (k:=0) hinv hc (λH _=>by simp only[eE,h1,I];rfl) (dg rfl) hk
  .cases hk
 .cases hk
theorem agc {con:FuncId->Option ch} {bX:TypeId->Option Ty} {x:Operand} {st:Bool} (hc:c9 P o.op=aa (.lens x)) (hk:dM con bX (.op (.lens x)) e h nx K=aa r):kr P o st e h nx K r:=by
 simp only[dM] at hk;split at hk
 .rename_i s hv;obtain⟨y,h1,h2⟩:=bG hi hv;simp only[cg,aj] at h2;subst h2;exact kr.q (k:=0) hinv hc (λH _=>by simp only[eE,h1,gy];rfl) (dg rfl) hk
 .cases hk
theorem ag7 {con:FuncId->Option ch} {bX:TypeId->Option Ty} {x i:Operand} {st:Bool} (hc:c9 P o.op=aa (.sidx x i)) (hk:dM con bX (.op (.sidx x i)) e h nx K=aa r):kr P o st e h nx K r:=by
 simp only[dM] at hk;split at hk
 .rename_i s k j hv I;obtain⟨hj,hk⟩:=dX hk;obtain⟨y,h1,h2⟩:=bG hi hv;obtain⟨Z,Y,J⟩:=bG hi I;simp only[cg,aj] at h2 J;subst h2;subst J;obtain⟨U,j1,M⟩:=Hk hj;have e1:cR 0 j=ah:=by simp[cR,U]
  have e2:(⟨kg s⟩:ByteArray).data.toList[j.toNat]? =aa (List.getD s j.toNat 0):=by
   show s[j.toNat]? =_;rw[ax,ay M];rfl
  exact kr.q (k:=0) (y0:=raw (.int .u8 (aN (List.getD s j.toNat 0).toNat))) hinv hc (λH _=>by simp only[eE,h1,Y,gy,e1,bC,e2];rfl) (dg rfl) hk
 .cases hk
theorem aj9 {con:FuncId->Option ch} {bX:TypeId->Option Ty} {sz:Nat} {x i:Operand} {st:Bool} (hc:c9 P o.op=aa (.iad sz x i)) (hk:dM con bX (.op (.iad sz x i)) e h nx K=aa r):kr P o st e h nx K r:=by
 simp only[dM] at hk;split at hk
 .rename_i id k j hv I;split at hk
  .rename_i ty p T xs hb;split at hk
   .rename_i hs;have hs:=av hs;obtain⟨hj,hk⟩:=dX hk;obtain⟨y,h1,h2⟩:=bG hi hv;obtain⟨Z,U,J⟩:=bG hi I;simp only[cg,aj] at J;subst J;obtain⟨j0,j1,j2⟩:=Hk hj;have hne:¬((p&&xs.length==0)=ah):=by
     simp only[au,cM];omega
    simp only[cg,ec,hb,eY,aC hne,aj] at h2;subst h2;have Y:(T.size==sz&&cR 0 j&&fG j xs.length)=ah:=by
     simp only[fD,au] at hj;simp[hs,hj.1,hj.2]
    exact kr.q (k:=0) hinv hc (λH _=>by simp only[eE,h1,U,gy,Y,bC,db]) (dg rfl) hk
   .cases hk
  .cases hk
 .rename_i T xs k j hv I;split at hk
  .rename_i hs;have hs:=av hs;obtain⟨hj,hk⟩:=dX hk;obtain⟨y,h1,h2⟩:=bG hi hv;obtain⟨Z,U,J⟩:=bG hi I;simp only[cg,aj] at J h2;subst J;subst h2;have M:(cR 0 j&&fG j (ak xs))=ah:=hj;exact kr.q (k:=0) hinv hc (λH _=>by simp only[eE,h1,U,gy,M,bC,db,hs]) (dg rfl) hk
  .cases hk
 .rename_i id sz' n k j hv I;split at hk
  .rename_i hs;have hs:=av hs;subst hs;obtain⟨hj,hk⟩:=dX hk;obtain⟨y,h1,h2⟩:=bG hi hv;obtain⟨Z,U,J⟩:=bG hi I;simp only[cg,aj] at J h2;subst J;subst h2;have M:(sz'==sz'&&cR 0 j&&fG j n)=ah:=by simp only[au] at hj ⊢;exact⟨⟨cP _,hj.1⟩,hj.2⟩
   exact kr.q (k:=0) hinv hc (λH _=>by simp only[eE,h1,U,gy,M,bC]) (dg rfl) hk
  .cases hk
 .cases hk
theorem aj3 {con:FuncId->Option ch} {bX:TypeId->Option Ty} {f:FuncId} {caps:List Operand} {st:Bool} (hc:c9 P o.op=aa (.mkf f caps)) (hk:dM con bX (.op (.mkf f caps)) e h nx K=aa r):kr P o st e h nx K r:=by
 simp only[dM] at hk;split at hk
 .rename_i l hv;obtain⟨I,h1,h2⟩:=xF hi hv;exact kr.q (k:=0) hinv hc (y0:=.clo f I) (λH _=>by simp only[eE,h1]) (dg (by simp only[cg,h2])) hk
 .cases hk
theorem aji {con:FuncId->Option ch} {bX:TypeId->Option Ty} {op:BinOp} {x y:Operand} {st:Bool} (hc:c9 P o.op=aa (.bin op x y)) (hk:dM con bX (.op (.bin op x y)) e h nx K=aa r):kr P o st e h nx K r:=by
 simp only[dM] at hk;split at hk
 .rename_i u v hv I;obtain⟨a,b,c,t,h1,h2,h3,h4,Z⟩:=abm (h:=h) hk;obtain⟨y,Y,U⟩:=bG hi hv;obtain⟨y2,M,J⟩:=bG hi I;rw[h1] at U;cases U;rw[h2] at J;cases J;simp only[raw] at Y M;exact kr.q (k:=0) hinv hc (λH _=>by simp only[eE,Y,M,h3]) (dg h4) Z
 .cases hk
end ops
def mj:hZ->Option (Bool×Nat×Nat)
 |.rows _ p T xs=>aa (p,T.size,xs.length)
 |.dead p sz n=>aa (p,sz,n)
 |_=>af
theorem bP (h:bd) (i:Nat):ec h i=(h.get i).bind mj:=by
 unfold ec;cases h.get i with
 |none=>rfl
 |some b=>cases b<;>rfl
theorem cq.refl (h:bd):cq h h:=λ_ _ h=>h
theorem cq.trans {a b c:bd} (h1:cq a b) (h2:cq b c):cq a c:=λi r h=>h2 i r (h1 i r h)
theorem cq.set {h:bd} {i:Nat} {b:hZ} (hb:∀ r,ec h i=aa r->mj b=aa r):cq h (h.set i (aa b)):=λj r hj=>by
 rw[bP,PT.get_set];by_cases e:j=i
 .subst e;rw[aI rfl];exact hb r hj
 .rw[aC e,<-bP];exact hj
theorem KV {b:hZ} {r:Bool×Nat×Nat} (h:mj b=aa r):mj (tZ b)=aa r:=by cases b<;>first|exact h|cases h
theorem iI (m:Nat) (h:bd) (i:Nat):(eB m h).get i=if aL m i then (h.get i).map tZ else h.get i:=by
 unfold eB;split
 .rename_i hm;have:=av hm;subst this;simp
 .rw[PT.get_updI];simp only[Nat.one_mul,db];cases h.get i with
  |none=>simp
  |some b=>simp only[b8];split<;>rfl
theorem cq.kill (m:Nat) (h:bd):cq h (eB m h):=λi r hr=>by
 rw[bP] at hr ⊢;rw[iI];split
 .cases hb:h.get i with
  |none=>rw[hb] at hr;cases hr
  |some b=>rw[hb] at hr;exact KV hr
 .exact hr
theorem lJ.set {h:bd} {nx nx' i:Nat} {b:hZ} (hi:lJ h nx) (hr:cq h (h.set i (aa b))) (hlt:i<nx') (hle:nx<=nx') (hb:∀ ty l,b= .cells ty l->ku (h.set i (aa b)) l=ah):lJ (h.set i (aa b)) nx':=by
 refine ⟨λj ty l hj=>?_,λj c hj=>?_⟩
 .rw[PT.get_set] at hj;split at hj
  .simp only[aj] at hj;exact hb ty l hj
  .exact iE hr l (hi.cells j ty l hj)
 .rw[PT.get_set] at hj;split at hj
  .rename_i e;subst e;exact hlt
  .exact dl (hi.low j c hj) hle
theorem lJ.kill {h:bd} {nx:Nat} (hi:lJ h nx) (m:Nat):lJ (eB m h) nx:=by
 refine ⟨λj ty l hj=>?_,λj c hj=>?_⟩
 .rw[iI] at hj;refine iE (cq.kill m h) l (hi.cells j ty l ?_);split at hj
  .cases hb:h.get j with
   |none=>rw[hb] at hj;cases hj
   |some b=>rw[hb] at hj;cases b<;>simp[tZ] at hj
  .exact hj
 .rw[iI] at hj;split at hj
  .cases hb:h.get j with
   |none=>rw[hb] at hj;cases hj
   |some b=>exact hi.low j b hb
  .exact hi.low j c hj
theorem H0 {h h':bd} (hr:cq h h') {b:hZ} (hb:∀ ty l,b= .cells ty l->ku h l=ah):kq h' b=kq h b:=by
 cases b with
 |cells ty l=>
  obtain⟨I,hl⟩:=fo h l (hb ty l rfl);simp only[kq,hl,iJ hr l I hl]
 |_=>rfl
theorem V8 {h h':bd} {nx i:Nat} (hi:lJ h nx) (hr:cq h h') (hg:h'.get i=h.get i):bw h' (nm i)=bw h (nm i):=by
 rw[bE,bE,hg];cases hb:h.get i with
 |none=>rfl
 |some b=>exact H0 hr λty l e=>hi.cells i ty l (by rw[hb,e])
theorem vo (h:bd) {n:Nat} (hn:¬∃ i,n=nm i):bw h n=af:=by
 unfold bw;rw[aC];intro h2;exact hn ⟨n/2,by unfold nm;omega⟩
theorem ko {h h':bd} {nx:Nat} (hi:lJ h nx) (hr:cq h h') {n:Nat} (hg:∀ i,n=nm i->h'.get i=h.get i):bw h' n=bw h n:=by
 by_cases hn:∃ i,n=nm i
 .obtain⟨i,rfl⟩:=hn;exact V8 hi hr (hg i rfl)
 .rw[vo h hn,vo h' hn]
def Ei (m:Nat):List Nat:=(Y_ m).map nm
theorem nh {m n:Nat}:n∈Ei m↔∃ i,n=nm i/\aL m i=ah:=by
 unfold Ei;rw[dc];constructor
 .rintro⟨i,h1,rfl⟩;exact⟨i,rfl,K6.1 h1⟩
 .rintro⟨i,rfl,h1⟩;exact⟨i,K6.2 h1,rfl⟩
theorem kT {m i:Nat}:nm i∈Ei m↔aL m i=ah:=by
 rw[nh];constructor
 .rintro⟨j,h1,h2⟩;rw[kw h1];exact h2
 .exact λh=>⟨i,rfl,h⟩
def dO (h:bd) (m:Nat):Prop:=∀ i,aL m i=ah->∃ ty p T xs,h.get i=aa (.rows ty p T xs)
theorem dO.zero (h:bd):dO h 0:=λi hi=>by simp at hi
theorem dO.or {h:bd} {a b:Nat} (I:dO h a) (hb:dO h b):dO h (a|||b):=λi hi=>by
 rw[bl,iD] at hi;exact hi.elim (I i) (hb i)
theorem mQ {h:bd} {T:Ty} {v:TV} {x:T.den} {m:Nat} (I:io h T v=aa (x,m)):dO h m:=by
 cases v with
 |f S v=>
  simp only[io] at I;split at I
  .simp only[aj,aB] at I;rw[<- I.2];exact dO.zero h
  .cases I
 |emp=>
  simp only[io] at I;split at I
  .simp only[aj,aB] at I;rw[<- I.2];exact dO.zero h
  .cases I
 |nil=>
  simp only[io] at I;split at I
  .simp only[aj,aB] at I;rw[<- I.2];exact dO.zero h
  .cases I
 |row id=>
  simp only[io] at I;split at I
  .rename_i ty p S xs hb;split at I
   .simp only[aj,aB] at I;rw[<- I.2];intro i hi;have:=bY.1 hi;subst this;exact⟨ty,p,S,xs,hb⟩
   .cases I
  .cases I
 |fel T xs j hj off=>simp[io] at I
 |pel id sz j off=>simp[io] at I
 |ptr id off=>simp[io] at I
 |csl id off z=>simp[io] at I
 |mp id=>simp[io] at I
 |rtl id J=>simp[io] at I
 |agg q=>simp[io] at I
 |tup q=>simp[io] at I
 |clo f q=>simp[io] at I
 |undef=>simp[io] at I
 |np=>simp[io] at I
 |anyb=>simp[io] at I
theorem tV {h:bd}:∀ (n:Nat) (T:Ty) (l:List TV) (x:T.den) (m:Nat) (r:List TV),eO h n T l=aa (x,m,r)->dO h m
 |0,_,_,_,_,_,hp=>by simp[eO] at hp
 |n+1,.st t,l,x,m,r,hp=>tV n t l x m r hp
 |n+1,.pr a b,l,x,m,r,hp=>by
  simp only[eO] at hp;split at hp
  .rename_i x1 m1 r1 h1;split at hp
   .rename_i I m2 r2 h2;simp only[aj,aB] at hp;obtain⟨_,rfl,_⟩:=hp;exact (tV n a l x1 m1 r1 h1).or (tV n b r1 I m2 r2 h2)
   .cases hp
  .cases hp
 |n+1,.un,l,x,m,r,hp=>by
  simp only[eO,aj,aB] at hp;obtain⟨_,rfl,_⟩:=hp;exact dO.zero h
 |n+1,.ex,l,x,m,r,hp=>by
  simp only[eO] at hp;split at hp
  .rename_i x1 m1 r1 h1;simp only[aj,aB] at hp;obtain⟨_,rfl,_⟩:=hp;exact tV n Li l x1 m1 r1 h1
  .cases hp
 |n+1,.sm,l,x,m,r,hp=>by
  simp only[eO] at hp;split at hp
  .rename_i x1 m1 r1 h1;simp only[aj,aB] at hp;obtain⟨_,rfl,_⟩:=hp;exact tV n KQ l x1 m1 r1 h1
  .cases hp
 |n+1,.int k,l,x,m,r,hp=>by
  simp only[eO] at hp;split at hp
  .split at hp
   .rename_i x1 m1 h1;simp only[aj,aB] at hp;obtain⟨_,rfl,_⟩:=hp;exact mQ h1
   .cases hp
  .cases hp
 |n+1,.bool,l,x,m,r,hp=>by
  simp only[eO] at hp;split at hp
  .split at hp
   .rename_i x1 m1 h1;simp only[aj,aB] at hp;obtain⟨_,rfl,_⟩:=hp;exact mQ h1
   .cases hp
  .cases hp
 |n+1,.str,l,x,m,r,hp=>by
  simp only[eO] at hp;split at hp
  .split at hp
   .rename_i x1 m1 h1;simp only[aj,aB] at hp;obtain⟨_,rfl,_⟩:=hp;exact mQ h1
   .cases hp
  .cases hp
 |n+1,.sl t,l,x,m,r,hp=>by
  simp only[eO] at hp;split at hp
  .split at hp
   .rename_i x1 m1 h1;simp only[aj,aB] at hp;obtain⟨_,rfl,_⟩:=hp;exact mQ h1
   .cases hp
  .cases hp
theorem U7 {h:bd} {T:Ty} {v:TV} {x:T.den} {m:Nat} (I:CK h T v=aa (x,m)):dO h m:=by
 cases v with
 |agg l=>
  simp only[CK] at I;split at I
  .cases I
  .split at I
   .rename_i x1 m1 h1;simp only[aj,aB] at I;obtain⟨_,rfl⟩:=I;exact tV 40 T l x1 m1 [] h1
   .cases I
 |f S v=>exact mQ (v:=.f S v) I
 |fel T xs j hj off=>exact mQ (v:=.fel T xs j hj off) I
 |pel id sz j off=>exact mQ (v:=.pel id sz j off) I
 |ptr id off=>exact mQ (v:=.ptr id off) I
 |csl id off z=>exact mQ (v:=.csl id off z) I
 |row id=>exact mQ (v:=.row id) I
 |emp=>exact mQ (v:=.emp) I
 |nil=>exact mQ (v:=.nil) I
 |mp id=>exact mQ (v:=.mp id) I
 |rtl id J=>exact mQ (v:=.rtl id J) I
 |tup q=>exact mQ (v:=.tup q) I
 |clo g q=>exact mQ (v:=.clo g q) I
 |undef=>exact mQ (v:=.undef) I
 |np=>exact mQ (v:=.np) I
 |anyb=>exact mQ (v:=.anyb) I
theorem Mc {h:bd} {T:Ty}:∀ (n:Nat) (l:List TV) (xs:List T.den) (m:Nat),xD h T n l=aa (xs,m)->dO h m
 |0,[],xs,m,hp=>by simp only[xD,aj,aB] at hp;rw[<- hp.2];exact dO.zero h
 |0,_::_,xs,m,hp=>by simp[xD] at hp
 |n+1,l,xs,m,hp=>by
  simp only[xD] at hp;split at hp
  .rename_i x1 m1 r1 h1;split at hp
   .rename_i I m2 h2;simp only[aj,aB] at hp;obtain⟨_,rfl⟩:=hp;exact (tV 40 T l x1 m1 r1 h1).or (Mc n r1 I m2 h2)
   .cases hp
  .cases hp
theorem yG {h:bd} {u:TV}:∀ (n:Nat) (T:Ty) (v:T.den) (off sz:Nat) (z:T.den) (m:Nat),gC h u n T v off sz=aa (z,m)->dO h m
 |0,_,_,_,_,_,_,hg=>by simp[gC] at hg
 |n+1,.st t,v,off,sz,z,m,hg=>by
  simp only[gC] at hg;split at hg
  .rename_i q hq;split at hq
   .simp only[aj] at hg;subst hg;exact U7 hq
   .cases hq
  .exact yG n t v off sz z m hg
 |n+1,.pr a b,v,off,sz,z,m,hg=>by
  simp only[gC] at hg;split at hg
  .split at hg
   .rename_i I m1 h1;simp only[aj,aB] at hg;obtain⟨_,rfl⟩:=hg;exact yG n a v.1 off sz I m1 h1
   .cases hg
  .split at hg
   .rename_i I m1 h1;simp only[aj,aB] at hg;obtain⟨_,rfl⟩:=hg;exact yG n b v.2 _ sz I m1 h1
   .cases hg
 |n+1,.un,v,off,sz,z,m,hg=>by simp[gC] at hg
 |n+1,.ex,v,off,sz,z,m,hg=>by
  simp only[gC] at hg;split at hg
  .rename_i q hq;split at hq
   .simp only[aj] at hg;subst hg;exact U7 hq
   .cases hq
  .split at hg
   .rename_i I m1 h1;simp only[aj,aB] at hg;obtain⟨_,rfl⟩:=hg;exact yG n Li _ off sz I m1 h1
   .cases hg
 |n+1,.sm,v,off,sz,z,m,hg=>by
  simp only[gC] at hg;split at hg
  .rename_i q hq;split at hq
   .simp only[aj] at hg;subst hg;exact U7 hq
   .cases hq
  .split at hg
   .rename_i I m1 h1;simp only[aj,aB] at hg;obtain⟨_,rfl⟩:=hg;exact yG n KQ _ off sz I m1 h1
   .cases hg
 |n+1,.int k,v,off,sz,z,m,hg=>by
  simp only[gC] at hg;split at hg
  .exact mQ hg
  .cases hg
 |n+1,.bool,v,off,sz,z,m,hg=>by
  simp only[gC] at hg;split at hg
  .exact mQ hg
  .cases hg
 |n+1,.str,v,off,sz,z,m,hg=>by
  simp only[gC] at hg;split at hg
  .exact mQ hg
  .cases hg
 |n+1,.sl t,v,off,sz,z,m,hg=>by
  simp only[gC] at hg;split at hg
  .exact mQ hg
  .cases hg
theorem sG {h:bd} {m i:Nat} (hm:dO h m) (hb:aL m i=ah):∃ p sz n,(eB m h).get i=aa (.dead p sz n):=by
 obtain⟨ty,p,T,xs,h1⟩:=hm i hb;exact⟨p,T.size,xs.length,by rw[iI,aI hb,h1];rfl⟩
section ops
variable {R:Type} {P:Program} {o:Oper} {e:iw} {h:bd} {nx:Nat} {K:KO R} {r:R}
theorem gY (n:Nat) (b:vN):iP [(n,b)] n=aa b:=by simp[iP]
theorem iY.mk' {s:WZ} (hc:c9 P o.op=aa s) {H:nB} (hH:H.get=bw h) {k:Nat} {y0:AV} {rdl wrl N:List Nat} {nw:NW} (ha:eE s (JB e h) H k=aa ⟨y0,rdl,wrl,nw,N⟩) {v:TV} {h':bd} {nx' rd wr:Nat} (wr':List Nat)
 (hsub:∀ i∈wrl,i∈wr') (hsame:∀ n,n∉wr'->bw h' n=bw h n)
 (hdom:∀ i∈wr',∀ b',bw h' i=aa b'->∃ b,(if i∈wrl then iP nw i else bw h i)=aa b)
 (hblk:∀ (Y H2:HF),uk Y H2->(∀ i∈wrl,Y i=iP nw i)->(∀ i∈wr',i∉wrl->Y i=bw h i)->(∀ i∈wr',H2 i=bw h' i)->(∀ i∈wr',∀ b b',Y i=aa b->H2 i=aa b'->jV Y H2 b b')/\∀ y,cg h' v=aa y->lq Y H2 y0 y)
 (hrd:∀ n∈rdl,aL rd (ow n)=ah) (hwr:∀ n∈wr',aL wr (ow n)=ah) (hN:∀ n∈N,nx<=ow n/\ow n<nx') (hrows:cq h h') (hinv':lJ h' nx') (hg:nx<=nx'):iY P o ai e h nx v rd wr h' nx':=by
 have ht:=GZ hc ha;rw[ud,hH] at ht;refine ⟨?_,hrows,hinv',hg,λhs=>by cases hs⟩;have base:∀ (val:AV),(∀ y,cg h' v=aa y->y=val)->(cg h' v=af->val=y0)->gz P o (fE e h) (bw h) ⟨val,rdl,wr',bw h',N⟩:=by
  intro val hval hnone;refine gz.view ht (λi hi=>.inl (hsub i hi)) λh1 hr1 Z=>?_
  have hd:uk (eJ h1 wrl (iP nw)) (eJ h1 wr' (bw h')):=by
   intro i b hb;unfold eJ at hb ⊢;by_cases hi:i∈wr'
   .rw[aI hi] at hb;obtain⟨b0,J⟩:=hdom i hi b hb;refine ⟨b0,?_⟩;by_cases U:i∈wrl
    .rw[aI U] at J ⊢;exact J
    .rw[aC U] at J ⊢;rw[Z i hi];exact J
   .rw[aC hi] at hb;rw[aC (λU=>hi (hsub i U))];exact⟨b,hb⟩
  obtain⟨q1,q2⟩:=hblk _ _ hd (λi hi=>by unfold eJ;rw[aI hi]) (λi hi U=>by unfold eJ;rw[aC U];exact Z i hi) (λi hi=>by unfold eJ;rw[aI hi]);refine ⟨⟨hd,λi b b' hb M=>?_⟩,?_⟩
  .by_cases hi:i∈wr'
   .exact q1 i hi b b' hb M
   .unfold eJ at hb M;rw[aC (λU=>hi (hsub i U))] at hb;rw[aC hi,hb] at M;cases M;exact jV.refl hd b
  .cases hv:cg h' v with
   |none=>rw[hnone hv];exact lq.refl hd _
   |some y=>rw[<- hval y hv];exact q2 y hv
 have hu:eJ (bw h) wr' (bw h')=bw h':=by
  funext n;unfold eJ;split
  .rfl
  .rename_i hn;exact (hsame n hn).symm
 cases hv:cg h' v with
 |none=>exact⟨_,base y0 (λy I=>by rw[hv] at I;cases I) (λ_=>rfl),λy I=>(by cases I),hu,hrd,hwr,hN⟩
 |some y=>exact⟨_,base y (λy' I=>by rw[hv] at I;cases I;rfl) (λhn=>by rw[hv] at hn;cases hn),λy' I=>by cases I;rfl,hu,hrd,hwr,hN⟩
theorem B5 (hi:sr e h):∀ (parts:List (Nat×Nat×Operand)) (cells cs:List TV) (cells':List AV),HX cells e parts=aa cs->cF h cells=aa cells'->∃ cs',xW cells' (JB e h) parts=aa cs'/\cF h cs=aa cs'/\(j7 cells=ah->j7 cs=ah)
 |[],cells,cs,cells',hf,he=>by simp only[HX,aj] at hf;subst hf;exact⟨cells',rfl,he,id⟩
 |(off,sz,x)::rest,cells,cs,cells',hf,he=>by
  simp only[HX] at hf;split at hf
  .rename_i v hv;split at hf
   .rename_i q hq;split at hf
    .rename_i hc;simp only[au,cM] at hc;obtain⟨y,h1,h2⟩:=bG hi hv;obtain⟨M,h4⟩:=LH hq h2;obtain⟨cs',Z,Y,U⟩:=B5 hi rest (splice cells off q) cs (splice cells' off y.cs) hf (uc off he M);refine ⟨cs',?_,Y,λI=>U ?_⟩
     .simp only[xW,h1];rw[aI,Z];simp only[au,cM];exact⟨⟨by rw[jb M];exact hc.1,by rw[jb he];exact hc.2⟩,sk M h4⟩
     .clear Z Y U hf;have app:∀ a b:List TV,j7 a=ah->j7 b=ah->j7 (a++b)=ah:=by
       intro a b I hb;induction a with
       |nil=>exact hb
       |cons z r J=>simp only[j7,au,fZ] at I ⊢;exact⟨I.1,J I.2⟩
      have tk:∀ (a:List TV) n,j7 a=ah->j7 (a.take n)=ah:=by
       intro a;induction a with
       |nil=>intro n h;simp[j7]
       |cons z r J=>
        intro n h;cases n with
        |zero=>rfl
        |succ n=>simp only[j7,au,uJ] at h ⊢;exact⟨h.1,J n h.2⟩
      have dr:∀ (a:List TV) n,j7 a=ah->j7 (a.drop n)=ah:=by
       intro a;induction a with
       |nil=>intro n h;simp[j7]
       |cons z r J=>
        intro n h;cases n with
        |zero=>exact h
        |succ n=>simp only[j7,au,uL] at h ⊢;exact J n h.2
      unfold splice;exact app _ _ (app _ _ (tk _ _ I) h4) (dr _ _ I)
    .cases hf
   .cases hf
  .cases hf
variable (hinv:lJ h nx) (hi:sr e h)
include hinv hi
theorem acf {con:FuncId->Option ch} {bX:TypeId->Option Ty} {z:List Value} {parts:List (Nat×Nat×Operand)} {st:Bool} (hc:c9 P o.op=aa (.build z parts)) (hk:dM con bX (.op (.build z parts)) e h nx K=aa r):kr P o st e h nx K r:=by
 simp only[dM] at hk;split at hk
 .rename_i l hl;split at hk
  .rename_i cs hf;obtain⟨h1,_,_⟩:=uh h hl;obtain⟨cs',h2,J,_⟩:=B5 hi parts l cs _ hf h1;refine kr.q (k:=0) (y0:=K3 cs') hinv hc (λH _=>by simp only[eE,h2]) (λy I=>?_) hk;simp only[cg,J,aj] at I;subst I;exact Yb cs'
  .cases hk
 .cases hk
theorem agb {con:FuncId->Option ch} {bX:TypeId->Option Ty} {sz:Nat} {ag:Bool} {x:Operand} (hc:c9 P o.op=aa (.load sz ag x)) (hk:dM con bX (.op (.load sz ag x)) e h nx K=aa r):kr P o ai e h nx K r:=by
 obtain⟨H,J⟩:=jw h;simp only[dM] at hk;split at hk
 .rename_i id off hv;obtain⟨y,h1,h2⟩:=bG hi hv;simp only[cg,aj] at h2;subst h2;split at hk
  .rename_i ty l hb;split at hk
   .rename_i v hs;obtain⟨Y,hl⟩:=fo h l (hinv.cells id ty l hb);obtain⟨y,U,M⟩:=Ud hl hs;have hg:H.get (nm id)=aa ⟨ty,.mx Y⟩:=by rw[J,bE,hb];simp only[aF,kq,hl]
    exact⟨v,kL id,0,h,nx,hk,iY.pure (k:=0) hinv hc J (y0:=y) (rdl:=[nm id]) (by simp only[eE,h1,CL,hg,M]) (dg U) (λn hn=>by simp only[aK] at hn;subst hn;rw[dW];exact bY.2 rfl) (λh=>by cases h)⟩
   .cases hk
  .cases hk
 .rename_i id sz' j off hv;obtain⟨y,h1,h2⟩:=bG hi hv;simp only[cg,aj] at h2;subst h2;split at hk
  .rename_i ty p T xs hb;split at hk
   .rename_i hsz;have hsz:=av hsz;obtain⟨hj,hk⟩:=dX hk;split at hk
    .rename_i v hs;obtain⟨y,U,M⟩:=act (h:=h) hj hs;have hne:¬((p&&xs.length==0)=ah):=by
      have:=Hk hj;simp only[au,cM];omega
     have hg:H.get (nm id)=aa ⟨ty,.fz (xs.flatMap (bN T))⟩:=by rw[J,bE,hb];simp only[aF,kq,aC hne]
     exact⟨v,kL id,0,h,nx,hk,iY.pure (k:=0) hinv hc J (y0:=.f y) (rdl:=[nm id]) (by simp only[eE,h1,CL,hg,hsz,M]) (dg U) (λn hn=>by simp only[aK] at hn;subst hn;rw[dW];exact bY.2 rfl) (λh=>by cases h)⟩
    .cases hk
   .cases hk
  .rename_i ty l hb;split at hk
   .cases hk
   .split at hk
    .rename_i hsz;simp only[au] at hsz;have e1:=av hsz.1.1;have e2:=av hsz.1.2;have e3:=av hsz.2;subst e1;subst e2;subst e3;split at hk
     .rename_i T xs hA;obtain⟨hj,hk⟩:=dX hk;obtain⟨Y,hl⟩:=fo h l (hinv.cells id ty l hb);have hg:H.get (nm id)=aa ⟨ty,.mx Y⟩:=by rw[J,bE,hb];simp only[aF,kq,hl]
      have hlt:j.toNat<l.length:=by
       simp only[fD,au,cR,fG,bQ] at hj;omega
      obtain⟨z,Z,I⟩:=lG hl j.toNat _ (U8 hA j.toNat hlt);have I:cg h (.f T (aH xs j))=aa z:=I;exact⟨_,kL id,0,h,nx,hk,iY.pure (k:=0) hinv hc J (y0:=z) (rdl:=[nm id]) (by simp only[eE,h1,CL,hg,BC.sub?,BC.get,Nat.mul_one,db,Z]) (dg I) (λn hn=>by simp only[aK] at hn;subst hn;rw[dW];exact bY.2 rfl) (λh=>by cases h)⟩
     .cases hk
    .cases hk
  .cases hk
 .rename_i T xs j hj off hv;obtain⟨y,h1,h2⟩:=bG hi hv;simp only[cg,aj] at h2;subst h2;split at hk
  .rename_i v hs;obtain⟨y,U,M⟩:=act (h:=h) hj hs;exact kr.q (k:=0) (y0:=.f y) hinv hc (λH _=>by simp only[eE,h1,CL,M]) (dg U) hk
  .cases hk
 .cases hk
theorem acg {con:FuncId->Option ch} {bX:TypeId->Option Ty} {ty:TypeId} {z:List Value} (hc:c9 P o.op=aa (.alloc ty z)) (hk:dM con bX (.op (.alloc ty z)) e h nx K=aa r):kr P o ai e h nx K r:=by
 have _:=hi;obtain⟨H,hH⟩:=jw h;simp only[dM] at hk;split at hk
 .rename_i l hl;obtain⟨_,hz,_⟩:=uh h hl;have hnone:h.get nx=af:=by
   cases hb:h.get nx with
   |none=>rfl
   |some b=>have:=hinv.low nx b hb;omega
  have hr:cq h (h.set nx (aa (.cells ty l))):=cq.set λr hr=>by rw[bP,hnone] at hr;cases hr
  obtain⟨h1,_,_⟩:=uh (h.set nx (aa (.cells ty l))) hl;have U:bw (h.set nx (aa (.cells ty l))) (nm nx)=aa ⟨ty,.mx (z.map raw)⟩:=by rw[bE,PT.get_set,aI rfl];simp only[aF,kq,h1]
  refine ⟨_,_,_,_,_,hk,iY.mk' hc hH (k:=nm nx) (by simp only[eE];rfl) [nm nx] (λi hi=>hi) (λn hn=>?_) (λi hi b' _=>⟨⟨ty,.fz (z.map .raw)⟩,?_⟩) (λH1 H2 d M _ J=>⟨λi hi b b' hb I=>?_,λy Y=>?_⟩) (by simp) ?_ ?_ hr (hinv.set hr (by omega) (by omega) λty' l' he=>?_) (by omega)⟩
  .refine ko hinv hr λi e=>?_
   subst e;rw[PT.get_set,aC (λe=>hn (by rw[e];simp))]
  .rw[aI hi];simp only[aK] at hi;subst hi;simp[iP]
  .simp only[aK] at hi;subst hi;rw[M _ (by simp)] at hb;rw[J _ (by simp),U] at I;rw[gY] at hb;simp only[aj] at hb I;subst hb;subst I;refine jV.cells rfl rfl ?_ λx Z=>?_
   .simp only[BC.toMx,yF];exact gW.refl d _
   .simp only[BC.toMx] at Z;obtain⟨q,hq,rfl⟩:=dc.1 Z;exact hz q hq
  .simp only[cg,aj] at Y;subst Y;exact lq.refl d _
  .intro n hn;simp only[aK] at hn;subst hn;rw[dW];exact bY.2 rfl
  .intro n hn;simp only[aK] at hn;subst hn;rw[dW];omega
  .cases he;exact k9 _ _ _ h1
 .cases hk
theorem ajh {con:FuncId->Option ch} {bX:TypeId->Option Ty} {ty:TypeId} {x:Operand} (hc:c9 P o.op=aa (.box ty x)) (hk:dM con bX (.op (.box ty x)) e h nx K=aa r):kr P o ai e h nx K r:=by
 obtain⟨H,hH⟩:=jw h;simp only[dM] at hk;split at hk
 .rename_i v hv;split at hk
  .rename_i l hl;obtain⟨y,h1,h2⟩:=bG hi hv;obtain⟨h3,h4⟩:=LH hl h2;have hcell:=sk h3 h4;have hnone:h.get nx=af:=by
    cases hb:h.get nx with
    |none=>rfl
    |some b=>have:=hinv.low nx b hb;omega
   have hr:cq h (h.set nx (aa (.cells ty l))):=cq.set λr hr=>by rw[bP,hnone] at hr;cases hr
   have Z:=iJ hr l _ h3;have U:bw (h.set nx (aa (.cells ty l))) (nm nx)=aa ⟨ty,.mx y.cs⟩:=by rw[bE,PT.get_set,aI rfl];simp only[aF,kq,Z]
   refine ⟨_,_,_,_,_,hk,iY.mk' hc hH (k:=nm nx) (by simp only[eE,h1,hcell,bC];rfl) [nm nx] (λi hi=>hi) (λn hn=>?_) (λi hi b' _=>⟨⟨ty,oP y.cs⟩,?_⟩) (λH1 H2 d M _ J=>⟨λi hi b b' hb I=>?_,λy Y=>?_⟩) (by simp) ?_ ?_ hr (hinv.set hr (by omega) (by omega) λty' l' he=>?_) (by omega)⟩
   .refine ko hinv hr λi e=>?_
    subst e;rw[PT.get_set,aC (λe=>hn (by rw[e];simp))]
   .rw[aI hi];simp only[aK] at hi;subst hi;simp[iP]
   .simp only[aK] at hi;subst hi;rw[M _ (by simp)] at hb;rw[J _ (by simp),U] at I;rw[gY] at hb;simp only[aj] at hb I;subst hb;subst I;obtain⟨q1,q2⟩:=ng y.cs;refine jV.cells q2 rfl ?_ λx hx=>?_
    .rw[q1];exact gW.refl d _
    .exact lh hcell x hx
   .simp only[cg,aj] at Y;subst Y;exact lq.refl d _
   .intro n hn;simp only[aK] at hn;subst hn;rw[dW];exact bY.2 rfl
   .intro n hn;simp only[aK] at hn;subst hn;rw[dW];omega
   .cases he;exact k9 _ _ _ Z
  .cases hk
 .cases hk
theorem acd {con:FuncId->Option ch} {bX:TypeId->Option Ty} {ty:TypeId} {sz bytes:Nat} {z:List Value} {l c:Operand} (hcm:CC (bX ty)=af) (hc:c9 P o.op=aa (.mksl ty sz bytes z l c)) (hk:dM con bX (.op (.mksl ty sz bytes z l c)) e h nx K=aa r):kr P o ai e h nx K r:=by
 obtain⟨H,hH⟩:=jw h;simp only[dM,hcm] at hk;split at hk
 .rename_i T k a k' b hT hv U;split at hk
  .rename_i hsz;simp only[au] at hsz;have hs:=av hsz.1;have hz:=I4 hsz.2;subst hs;subst hz;obtain⟨hck,hk⟩:=dX hk;obtain⟨y,h1,h2⟩:=bG hi hv;obtain⟨y2,h3,h4⟩:=bG hi U;simp only[cg,aj] at h2 h4;subst h2;subst h4;have hnone:h.get nx=af:=by
    cases hb:h.get nx with
    |none=>rfl
    |some b=>have:=hinv.low nx b hb;omega
   generalize Z:hZ.rows ty ai T (aE (aR a) T.zero)=B at hk;have hr:cq h (h.set nx (aa B)):=cq.set λr hr=>by rw[bP,hnone] at hr;cases hr
   have Y:bw (h.set nx (aa B)) (nm nx)=aa ⟨ty,.fz ((aE (aR a) T.zero).flatMap (bN T))⟩:=by rw[bE,PT.get_set,aI rfl,<-Z];simp[kq]
   refine ⟨_,_,_,_,_,hk,iY.mk' hc hH (k:=nm nx) (by simp only[eE,h1,h3,gy,hck,bC];rfl) [nm nx] (λi hi=>hi) (λn hn=>?_) (λi hi b' _=>⟨⟨ty,.fz (repl (rP T) (aR a))⟩,?_⟩) (λH1 H2 d M _ J=>⟨λi hi b b' hb I=>?_,λy hy=>?_⟩) (by simp) ?_ ?_ hr (hinv.set hr (by omega) (by omega) λty' l' he=>?_) (by omega)⟩
   .refine ko hinv hr λi e=>?_
    subst e;rw[PT.get_set,aC (λe=>hn (by rw[e];simp))]
   .rw[aI hi];simp only[aK] at hi;subst hi;simp[iP]
   .simp only[aK] at hi;subst hi;rw[M _ (by simp)] at hb;rw[J _ (by simp),Y] at I;rw[gY] at hb;simp only[aj] at hb I;subst hb;subst I;refine jV.cells rfl rfl (F5 d T _) λx hx=>?_
    simp only[BC.toMx] at hx;obtain⟨q,hq,rfl⟩:=dc.1 hx;exact qG T _ q hq
   .simp only[cg,bP,PT.get_set,bC,<-Z,aF,mj,eY,mT,co,dR,aj,ey] at hy;subst hy;exact lq.refl d _
   .intro n hn;simp only[aK] at hn;subst hn;rw[dW];exact bY.2 rfl
   .intro n hn;simp only[aK] at hn;subst hn;rw[dW];omega
   .rw[<- Z] at he;cases he
  .cases hk
 .cases hk
end ops
theorem yQ {α:Type} {f:α->List FV} {n:Nat} (hf:∀ x,(f x).length=n):∀ (xs:List α) (j:Nat),(xs.take j).flatMap f=(xs.flatMap f).take (j*n)
 |[],j=>by simp
 |x::r,0=>by simp
 |x::r,j+1=>by
  rw[uJ,fg,fg,yQ hf r j,show (j+1)*n=(f x).length+j*n from by rw[hf,iz];omega,List.take_length_add_append]
theorem HW {α:Type} {f:α->List FV} {n:Nat} (hf:∀ x,(f x).length=n):∀ (xs:List α) (j:Nat),(xs.drop j).flatMap f=(xs.flatMap f).drop (j*n)
 |[],j=>by simp
 |x::r,0=>by simp
 |x::r,j+1=>by
  rw[uL,fg,HW hf r j,show (j+1)*n=(f x).length+j*n from by rw[hf,iz];omega,List.drop_length_add_append]
theorem Ob {z:List Value}:∀ (n:Nat) (x:FV),x∈repl z n->∃ v∈z,x= .raw v
 |0,x,h=>by simp[repl] at h
 |n+1,x,h=>by
  rw[repl,bR] at h;rcases h with h|h
  .obtain⟨v,hv,rfl⟩:=dc.1 h;exact⟨v,hv,rfl⟩
  .exact Ob n x h
theorem Fe:∀ l:List FV,(∀ x∈l,x.isCell=ah)->gu (l.map .f)=ah
 |[],_=>rfl
 |z::r,h=>by simp only[fY,gu,au];exact⟨h z (by simp),Fe r λx I=>h x (by simp[I])⟩
section ops
variable {R:Type} {P:Program} {o:Oper} {e:iw} {h:bd} {nx:Nat} {K:KO R} {r:R}
theorem lJ.fresh (hinv:lJ h nx):h.get nx=af:=by
 cases hb:h.get nx with
 |none=>rfl
 |some b=>have:=hinv.low nx b hb;omega
theorem dO.lt (hinv:lJ h nx) {m:Nat} (hm:dO h m) {i:Nat} (hi:aL m i=ah):i<nx:=by
 obtain⟨_,_,_,_,hb⟩:=hm i hi;exact hinv.low i _ hb
theorem iY.new {s:WZ} (hinv:lJ h nx) (hc:c9 P o.op=aa s) {H:nB} (hH:H.get=bw h) {y0:AV} {rdl:List Nat} {b0:vN} (ha:eE s (JB e h) H (nm nx)=aa ⟨y0,rdl,[nm nx],[(nm nx,b0)],[nm nx]⟩) {B:hZ} {v:TV} {m rd:Nat} (hm:dO h m)
 (hB:∀ ty l,B= .cells ty l->ku ((eB m h).set nx (aa B)) l=ah)
 (hblk:∀ J I,uk J I->CZ h J I m->∀ b',kq ((eB m h).set nx (aa B)) B=aa b'->jV J I b0 b')
 (hval:∀ J I y,uk J I->CZ h J I m->cg ((eB m h).set nx (aa B)) v=aa y->lq J I y0 y)
 (hrd:∀ n∈rdl,aL rd (ow n)=ah):iY P o ai e h nx v rd (m|||kL nx) ((eB m h).set nx (aa B)) (nx+1):=by
 have hk:=hinv.kill m;have hr0:=cq.kill m h;have Y:cq (eB m h) ((eB m h).set nx (aa B)):=cq.set λr hr=>by rw[bP,hk.fresh] at hr;cases hr
 have hr:=hr0.trans Y;have hgiv:∀ i,aL m i=ah->bw ((eB m h).set nx (aa B)) (nm i)=af:=λi hi=>by
  have hlt:=hm.lt hinv hi;obtain⟨p,sz,n,hd⟩:=sG hm hi;rw[bE,PT.get_set,aC (by omega),hd];rfl
 refine iY.mk' hc hH ha (nm nx::Ei m) (λi hi=>by simp only[aK] at hi;subst hi;simp) (λn hn=>?_) (λi hi b' Z=>?_) (λJ I d hw1 hw0 U=>?_) hrd ?_ ?_ hr (hk.set Y (by omega) (by omega) hB) (by omega)
 .refine ko hinv hr λi e=>?_
  subst e;rw[PT.get_set,aC (λe=>hn (by rw[e];simp)),iI,aC];intro hb;exact hn (cN _ (kT.2 hb))
 .rcases bh.1 hi with rfl|hi
  .exact⟨b0,by rw[aI (by simp),gY]⟩
  .obtain⟨j,rfl,hj⟩:=nh.1 hi;rw[hgiv j hj] at Z;cases Z
 .have g:CZ h J I m:=λi hi=>by
   have hlt:=hm.lt hinv hi;have hmem:nm i∈nm nx::Ei m:=cN _ (kT.2 hi);exact⟨hw0 _ hmem (λhc=>by simp only[aK] at hc;have:=kw hc;omega),by rw[U _ hmem,hgiv i hi]⟩
  refine ⟨λi hi b b' hb M=>?_,λy hy=>hval J I y d g hy⟩;rcases bh.1 hi with rfl|hi'
  .rw[hw1 _ (by simp),gY] at hb;rw[U _ hi,bE,PT.get_set,aI rfl] at M;simp only[aj] at hb;subst hb;exact hblk J I d g b' M
  .obtain⟨j,rfl,hj⟩:=nh.1 hi';rw[U _ hi,hgiv j hj] at M;cases M
 .intro n hn;rw[bl];rcases bh.1 hn with rfl|hn
  .rw[dW,bY.2 rfl];simp
  .obtain⟨j,rfl,hj⟩:=nh.1 hn;rw[dW,hj];rfl
 .intro n hn;simp only[aK] at hn;subst hn;rw[dW];omega
theorem iY.wrt {s:WZ} (hinv:lJ h nx) (hc:c9 P o.op=aa s) {H:nB} (hH:H.get=bw h) {id:Nat} {y0:AV} {rdl:List Nat} {b0:vN} {k:Nat} (ha:eE s (JB e h) H k=aa ⟨y0,rdl,[nm id],[(nm id,b0)],[]⟩) {B0 B:hZ} (Z:h.get id=aa B0) {v:TV} {m rd:Nat} (hm:dO h m) (hmid:aL m id=ai)
 (hrow:mj B=mj B0) (hB:∀ ty l,B= .cells ty l->ku ((eB m h).set id (aa B)) l=ah)
 (hblk:∀ J I,uk J I->CZ h J I m->∀ b',kq ((eB m h).set id (aa B)) B=aa b'->jV J I b0 b')
 (hval:∀ J I y,uk J I->CZ h J I m->cg ((eB m h).set id (aa B)) v=aa y->lq J I y0 y)
 (hrd:∀ n∈rdl,aL rd (ow n)=ah):iY P o ai e h nx v rd (m|||kL id) ((eB m h).set id (aa B)) nx:=by
 have hk:=hinv.kill m;have hr0:=cq.kill m h;have hkid:(eB m h).get id=aa B0:=by rw[iI,hmid];simpa using Z
 have Y:cq (eB m h) ((eB m h).set id (aa B)):=cq.set λr hr=>by rw[bP,hkid] at hr;rw[hrow];exact hr
 have hr:=hr0.trans Y;have hgiv:∀ i,aL m i=ah->bw ((eB m h).set id (aa B)) (nm i)=af:=λi hi=>by
  have hne:i≠id:=λe=>by rw[e,hmid] at hi;cases hi
  obtain⟨p,sz,n,hd⟩:=sG hm hi;rw[bE,PT.get_set,aC hne,hd];rfl
 refine iY.mk' hc hH ha (nm id::Ei m) (λi hi=>by simp only[aK] at hi;subst hi;simp) (λn hn=>?_) (λi hi b' hb'=>?_) (λJ I d hw1 hw0 U=>?_) hrd ?_ (by simp) hr (hk.set Y (hinv.low id B0 Z) (by omega) hB) (by omega)
 .refine ko hinv hr λi e=>?_
  subst e;rw[PT.get_set,aC (λe=>hn (by rw[e];simp)),iI,aC];intro hb;exact hn (cN _ (kT.2 hb))
 .rcases bh.1 hi with rfl|hi
  .exact⟨b0,by rw[aI (by simp),gY]⟩
  .obtain⟨j,rfl,hj⟩:=nh.1 hi;rw[hgiv j hj] at hb';cases hb'
 .have g:CZ h J I m:=λi hi=>by
   have hne:i≠id:=λe=>by rw[e,hmid] at hi;cases hi
   have hmem:nm i∈nm id::Ei m:=cN _ (kT.2 hi);exact⟨hw0 _ hmem (λhc=>by simp only[aK] at hc;exact hne (kw hc)),by rw[U _ hmem,hgiv i hi]⟩
  refine ⟨λi hi b b' hb M=>?_,λy hy=>hval J I y d g hy⟩;rcases bh.1 hi with rfl|hi'
  .rw[hw1 _ (by simp),gY] at hb;rw[U _ hi,bE,PT.get_set,aI rfl] at M;simp only[aj] at hb;subst hb;exact hblk J I d g b' M
  .obtain⟨j,rfl,hj⟩:=nh.1 hi';rw[U _ hi,hgiv j hj] at M;cases M
 .intro n hn;rw[bl];rcases bh.1 hn with rfl|hn
  .rw[dW,bY.2 rfl];simp
  .obtain⟨j,rfl,hj⟩:=nh.1 hn;rw[dW,hj];rfl
theorem KW (h:bd) {z:List Value} {I:List TV} (J:IH z=aa I):∀ len,cF h (aE len I).flatten=aa ((repl z len).map .f)
 |0=>rfl
 |n+1=>by
  rw[List.replicate_succ,List.flatten_cons,repl,cI];refine mO ?_ (KW h J n);rw[(uh h J).1];simp only[yF];rfl
theorem Uj {H:nB} (Z:H.get=bw h) {T:Ty} {v:TV} {U:List T.den} {m:Nat} {y:AV} (I:CK h (.sl T) v=aa (U,m)) (J:cg h v=aa y):∃ rd,y.row? H T.size=aa ((U.flatMap (bN T)).map .f,U.length,rd)/\∀ n∈rd,∃ i,n=nm i/\aL m i=ah:=by
 have fl:=λM:List T.den=>e_ (bx T) M
 have tk:∀ M:List T.den,(M.flatMap (bN T)).take (M.length*T.size)=M.flatMap (bN T):=λM=>by rw[<- fl,cL]
 cases v with
 |f S x=>
  simp only[CK,io] at I;split at I
  .rename_i z Y;simp only[aj,aB] at I;obtain⟨rfl,_⟩:=I;obtain⟨e,rfl⟩:=iR Y;subst e;simp only[cg,aj] at J;subst J;refine ⟨[],?_,by simp⟩;simp only[gy,AV.row?];rw[aI (bD (by rw[fl x];exact bO _)),tk]
  .cases I
 |emp=>
  simp only[CK,io,aj,aB] at I;obtain⟨rfl,_⟩:=I;simp only[cg,aj] at J;subst J;exact⟨[],rfl,by simp⟩
 |nil=>
  simp only[CK,io,aj,aB] at I;obtain⟨rfl,_⟩:=I;simp only[cg,aj] at J;subst J;exact⟨[],rfl,by simp⟩
 |row id=>
  simp only[CK,io] at I;split at I
  .rename_i ty p S xs hb;split at I
   .rename_i z Y;simp only[aj,aB] at I;obtain⟨rfl,rfl⟩:=I;obtain⟨e,rfl⟩:=iR Y;cases e;simp only[cg,ec,hb,aj] at J;subst J;unfold eY;split
    .rename_i hp;simp only[au,cM] at hp;have:xs=[]:=gw.1 hp.2;subst this;exact⟨[],rfl,by simp⟩
    .rename_i hp;have hg:H.get (nm id)=aa ⟨ty,.fz (xs.flatMap (bN T))⟩:=by rw[Z,bE,hb];simp only[aF,kq,aC hp]
     refine ⟨[nm id],?_,λn hn=>?_⟩
     .simp only[AV.row?,hg,cP,bC,BC.isCells,BC.len,oW];rw[aI (bD (by rw[fl xs];exact bO _))];simp only[BC.toMx,<-kh,tk]
     .simp only[aK] at hn;exact⟨id,hn,bY.2 rfl⟩
   .cases I
  .cases I
 |agg l=>simp[CK,Ty.one] at I
 |fel T xs j hj off=>simp[CK,io] at I
 |pel id sz j off=>simp[CK,io] at I
 |ptr id off=>simp[CK,io] at I
 |csl id off z=>simp[CK,io] at I
 |mp id=>simp[CK,io] at I
 |rtl id jj=>simp[CK,io] at I
 |tup q=>simp[CK,io] at I
 |clo f q=>simp[CK,io] at I
 |undef=>simp[CK,io] at I
 |np=>simp[CK,io] at I
 |anyb=>simp[CK,io] at I
theorem RX {v:TV} {y:AV} (I:cg h v=aa y) (hc:v.isC=ah):gu y.cs=ah:=by
 rw[Me (Mq I hc)];simp only[gu,Bool.and_true];exact Mq I hc
theorem Wb (T:Ty) (x:T.den):gu ((bN T x).map .f)=ah:=by
 have:∀ l:List FV,(∀ x∈l,x.isCell=ah)->gu (l.map .f)=ah:=by
  intro l hl;induction l with
  |nil=>rfl
  |cons z r I=>simp only[fY,gu,au];exact⟨hl z (by simp),I λx J=>hl x (by simp[J])⟩
 exact this _ (ny T x)
theorem gG {T:Ty} {v:TV} {x:T.den} {m:Nat} {y:AV} (I:io h T v=aa (x,m)) (J:cg h v=aa y):gu y.cs=ah:=by
 cases v with
 |f S v=>simp only[cg,aj] at J;subst J;rw[yS];exact Wb S v
 |emp=>exact RX J rfl
 |nil=>exact RX J rfl
 |row id=>exact RX J rfl
 |fel T xs j hj off=>simp[io] at I
 |pel id sz j off=>simp[io] at I
 |ptr id off=>simp[io] at I
 |csl id off z=>simp[io] at I
 |mp id=>simp[io] at I
 |rtl id M=>simp[io] at I
 |agg q=>simp[io] at I
 |tup q=>simp[io] at I
 |clo f q=>simp[io] at I
 |undef=>simp[io] at I
 |np=>simp[io] at I
 |anyb=>simp[io] at I
theorem Gm {T:Ty} (M:T.one=ah) {v:TV} {x:T.den} {m:Nat} (I:io h T v=aa (x,m)):v.isC=ah:=by
 cases v with
 |f S v=>
  simp only[io] at I;split at I
  .rename_i z J;obtain⟨e,_⟩:=iR J;subst e;exact M
  .cases I
 |emp=>rfl
 |nil=>rfl
 |row id=>rfl
 |fel T xs j hj off=>simp[io] at I
 |pel id sz j off=>simp[io] at I
 |ptr id off=>simp[io] at I
 |csl id off z=>simp[io] at I
 |mp id=>simp[io] at I
 |rtl id U=>simp[io] at I
 |agg q=>simp[io] at I
 |tup q=>simp[io] at I
 |clo f q=>simp[io] at I
 |undef=>simp[io] at I
 |np=>simp[io] at I
 |anyb=>simp[io] at I
theorem QL {a b:List TV} (I:j7 a=ah) (hb:j7 b=ah):j7 (a++b)=ah:=by
 induction a with
 |nil=>exact hb
 |cons z r J=>simp only[j7,au,fZ] at I ⊢;exact⟨I.1,J I.2⟩
theorem sx:∀ (n:Nat) (T:Ty) (l:List TV) (x:T.den) (m:Nat) (r:List TV),eO h n T l=aa (x,m,r)->∃ a,l=a++r/\j7 a=ah
 |0,_,_,_,_,_,hp=>by simp[eO] at hp
 |n+1,.st t,l,x,m,r,hp=>sx n t l x m r hp
 |n+1,.pr a b,l,x,m,r,hp=>by
  simp only[eO] at hp;split at hp
  .rename_i x1 m1 r1 h1;split at hp
   .rename_i I m2 r2 h2;simp only[aj,aB] at hp;obtain⟨_,_,rfl⟩:=hp;obtain⟨a1,rfl,M⟩:=sx n a l x1 m1 r1 h1;obtain⟨a2,rfl,J⟩:=sx n b r1 I m2 r2 h2;exact⟨a1++a2,by simp,QL M J⟩
   .cases hp
  .cases hp
 |n+1,.un,l,x,m,r,hp=>by
  simp only[eO,aj,aB] at hp;obtain⟨_,_,rfl⟩:=hp;exact⟨[],rfl,rfl⟩
 |n+1,.ex,l,x,m,r,hp=>by
  simp only[eO] at hp;split at hp
  .rename_i x1 m1 r1 h1;simp only[aj,aB] at hp;obtain⟨_,_,rfl⟩:=hp;exact sx n Li l x1 m1 r1 h1
  .cases hp
 |n+1,.sm,l,x,m,r,hp=>by
  simp only[eO] at hp;split at hp
  .rename_i x1 m1 r1 h1;simp only[aj,aB] at hp;obtain⟨_,_,rfl⟩:=hp;exact sx n KQ l x1 m1 r1 h1
  .cases hp
 |n+1,.int k,l,x,m,r,hp=>by
  simp only[eO] at hp;split at hp
  .rename_i c q;split at hp
   .rename_i x1 m1 h1;simp only[aj,aB] at hp;obtain⟨_,_,rfl⟩:=hp;exact⟨[c],rfl,by simp[j7,Gm rfl h1]⟩
   .cases hp
  .cases hp
 |n+1,.bool,l,x,m,r,hp=>by
  simp only[eO] at hp;split at hp
  .rename_i c q;split at hp
   .rename_i x1 m1 h1;simp only[aj,aB] at hp;obtain⟨_,_,rfl⟩:=hp;exact⟨[c],rfl,by simp[j7,Gm rfl h1]⟩
   .cases hp
  .cases hp
 |n+1,.str,l,x,m,r,hp=>by
  simp only[eO] at hp;split at hp
  .rename_i c q;split at hp
   .rename_i x1 m1 h1;simp only[aj,aB] at hp;obtain⟨_,_,rfl⟩:=hp;exact⟨[c],rfl,by simp[j7,Gm rfl h1]⟩
   .cases hp
  .cases hp
 |n+1,.sl t,l,x,m,r,hp=>by
  simp only[eO] at hp;split at hp
  .rename_i c q;split at hp
   .rename_i x1 m1 h1;simp only[aj,aB] at hp;obtain⟨_,_,rfl⟩:=hp;exact⟨[c],rfl,by simp[j7,Gm rfl h1]⟩
   .cases hp
  .cases hp
theorem I8 {T:Ty} {v:TV} {x:T.den} {m:Nat} {y:AV} (J:CK h T v=aa (x,m)) (I:cg h v=aa y):gu y.cs=ah:=by
 cases v with
 |agg l=>
  simp only[CK] at J;split at J
  .cases J
  .split at J
   .rename_i x1 m1 h1;obtain⟨a,e,U⟩:=sx 40 T l x1 m1 [] h1;rw[lm] at e;subst e;simp only[cg] at I;split at I
    .rename_i Y hl;simp only[aj] at I;subst I;exact sk hl U
    .cases I
   .cases J
 |f S v=>exact gG (v:=.f S v) J I
 |fel T xs j hj off=>exact gG (v:=.fel T xs j hj off) J I
 |pel id sz j off=>exact gG (v:=.pel id sz j off) J I
 |ptr id off=>exact gG (v:=.ptr id off) J I
 |csl id off z=>exact gG (v:=.csl id off z) J I
 |row id=>exact gG (v:=.row id) J I
 |emp=>exact gG (v:=.emp) J I
 |nil=>exact gG (v:=.nil) J I
 |mp id=>exact gG (v:=.mp id) J I
 |rtl id M=>exact gG (v:=.rtl id M) J I
 |tup q=>exact gG (v:=.tup q) J I
 |clo g q=>exact gG (v:=.clo g q) J I
 |undef=>exact gG (v:=.undef) J I
 |np=>exact gG (v:=.np) J I
 |anyb=>exact gG (v:=.anyb) J I
theorem qk {u:TV} {y:AV} (I:cg h u=aa y):∀ (n:Nat) (T:Ty) (v:T.den) (off sz:Nat) (z:T.den) (m:Nat),gC h u n T v off sz=aa (z,m)->gu y.cs=ah
 |0,_,_,_,_,_,_,hg=>by simp[gC] at hg
 |n+1,.st t,v,off,sz,z,m,hg=>by
  simp only[gC] at hg;split at hg
  .rename_i q hq;split at hq
   .exact I8 hq I
   .cases hq
  .exact qk I n t v off sz z m hg
 |n+1,.pr a b,v,off,sz,z,m,hg=>by
  simp only[gC] at hg;split at hg
  .split at hg
   .rename_i J m1 h1;exact qk I n a v.1 off sz J m1 h1
   .cases hg
  .split at hg
   .rename_i J m1 h1;exact qk I n b v.2 _ sz J m1 h1
   .cases hg
 |n+1,.un,v,off,sz,z,m,hg=>by simp[gC] at hg
 |n+1,.ex,v,off,sz,z,m,hg=>by
  simp only[gC] at hg;split at hg
  .rename_i q hq;split at hq
   .exact I8 hq I
   .cases hq
  .split at hg
   .rename_i J m1 h1;exact qk I n Li _ off sz J m1 h1
   .cases hg
 |n+1,.sm,v,off,sz,z,m,hg=>by
  simp only[gC] at hg;split at hg
  .rename_i q hq;split at hq
   .exact I8 hq I
   .cases hq
  .split at hg
   .rename_i J m1 h1;exact qk I n KQ _ off sz J m1 h1
   .cases hg
 |n+1,.int k,v,off,sz,z,m,hg=>by
  simp only[gC] at hg;split at hg
  .exact gG hg I
  .cases hg
 |n+1,.bool,v,off,sz,z,m,hg=>by
  simp only[gC] at hg;split at hg
  .exact gG hg I
  .cases hg
 |n+1,.str,v,off,sz,z,m,hg=>by
  simp only[gC] at hg;split at hg
  .exact gG hg I
  .cases hg
 |n+1,.sl t,v,off,sz,z,m,hg=>by
  simp only[gC] at hg;split at hg
  .exact gG hg I
  .cases hg
theorem Jb (l:List FV):wN (l.map .f)=aa l:=by
 induction l with
 |nil=>rfl
 |cons x r I=>simp only[fY,wN,I]
theorem BG (l:List FV):oP (l.map .f)= .fz l:=by unfold oP;rw[Jb]
theorem Ff:∀ {a b:List TV},j7 a=ah->j7 b=ah->j7 (a++b)=ah
 |[],_,_,hb=>hb
 |x::r,b,I,hb=>by
  simp only[j7,au] at I;simp only[fZ,j7,au];exact⟨I.1,Ff I.2 hb⟩
theorem D2 {I:List TV} (J:j7 I=ah):∀ n,j7 (aE n I).flatten=ah
 |0=>rfl
 |n+1=>by rw[List.replicate_succ,List.flatten_cons];exact Ff J (D2 J n)
theorem ab2 {H:nB} (J:H.get=bw h) {id ty:Nat} {l:List TV} {I:List AV} (hb:h.get id=aa (.cells ty l)) (hl:cF h l=aa I) {n sz:Nat} (hn:l.length=n*sz):AV.row? H sz (.row (nm id) sz n)=aa (I,n,[nm id]):=by
 have hg:H.get (nm id)=aa ⟨ty,.mx I⟩:=by rw[J,bE,hb];simp only[aF,kq,hl]
 have hln:=jb hl;simp only[AV.row?,cP,bC,hg,BC.isCells,oW,BC.len,BC.toMx];rw[aI (bD (by omega)),fJ (by omega)]
variable (hinv:lJ h nx) (hi:sr e h)
include hinv hi
theorem agi {con:FuncId->Option ch} {bX:TypeId->Option Ty} {ty:TypeId} {sz len:Nat} {z:List Value} {parts:List (Nat×Nat×Operand)} (hcm:CC (bX ty)=af) (hc:c9 P o.op=aa (.bsl ty sz len z parts)) (hk:dM con bX (.op (.bsl ty sz len z parts)) e h nx K=aa r):kr P o ai e h nx K r:=by
 obtain⟨H,Z⟩:=jw h;simp only[dM,hcm] at hk;split at hk
 .rename_i T zc hT Y;split at hk
  .rename_i hs;have hs:=av hs;subst hs;split at hk
   .rename_i cs hf;split at hk
    .rename_i xs m hp;obtain⟨cs',h1,h2,_⟩:=B5 hi parts _ cs _ hf (KW h Y len);have hm:=Mc len cs xs m hp;refine ⟨_,_,_,_,_,hk,iY.new hinv hc Z (y0:=if len=0 then .emp else .row (nm nx) T.size len) (rdl:=[]) (b0:=⟨ty,oP cs'⟩) (by simp only[eE,h1]) hm (λ_ _ he=>by cases he) (λH1 H2 d g b' I=>?_) (λH1 H2 y d g J=>?_) (by simp)⟩
     .simp only[kq] at I;split at I
      .cases I
      rw[aj] at I;subst I;obtain⟨q1,U⟩:=ng cs';refine jV.cells U rfl ?_ λx M=>?_
      .rw[q1];exact (BA d len cs xs m cs' hp h2 g).1
      .simp only[BC.toMx] at M;obtain⟨q,hq,rfl⟩:=dc.1 M;exact qG T _ q hq
     .simp only[cg,bP,PT.get_set,bC,aF,mj,eY,aj] at J;rw[(BA d len cs xs m cs' hp h2 g).2] at J;split at J
      .rename_i hq;simp only[au,cM] at hq;subst J;rw[aI hq.2];exact lq.refl d _
      .rename_i hq;subst J;rw[aC (λh0=>hq (by subst h0;rfl))];exact lq.refl d _
    .cases hk
   .cases hk
  .cases hk
 .cases hk
theorem agj {con:FuncId->Option ch} {bX:TypeId->Option Ty} {ty:TypeId} {sz bytes:Nat} {s x:Operand} (hcm:CC (bX ty)=af) (hc:c9 P o.op=aa (.app ty sz bytes s x)) (hk:dM con bX (.op (.app ty sz bytes s x)) e h nx K=aa r):kr P o ai e h nx K r:=by
 obtain⟨H,hH⟩:=jw h;have hfr:=hinv.fresh;simp only[dM,hcm] at hk;split at hk
 .rename_i T b y hT hv hv2;split at hk
  .rename_i hs;have hs:=av hs;subst hs;split at hk
   .rename_i J m hys;obtain⟨yb,h1,h2⟩:=bG hi hv;obtain⟨yy,h3,h4⟩:=bG hi hv2;obtain⟨rdl,h5,h6⟩:=Uj hH hys h4;have onEmp:∀ (rd':Nat),(∀ n∈rdl,aL rd' (ow n)=ah)->Hj yb=ah->Le yb .emp->a_ (ak J) bytes=ah->iY P o ai e h nx (.row nx) rd' (kL nx) (h.set nx (aa (.rows ty ah T J))) (nx+1):=by
     intro rd' hrd' he hle hroom;have hr1:cq h (h.set nx (aa (.rows ty ah T J))):=cq.set λr hr=>by rw[bP,hfr] at hr;cases hr
     have hyb:∀ id sz' n,yb≠ .row id sz' n:=by rintro id sz' n rfl;cases he
     have I:eE (.app ty T.size bytes s x) (JB e h) H (nm nx)=if ak J==0 then aa ⟨yb,rdl,[],[],[]⟩ else aa ⟨.row (nm nx) T.size (ak J),rdl,[nm nx],[(nm nx,⟨ty,oP ((J.flatMap (bN T)).map .f)⟩)],[nm nx]⟩:=by
      simp only[eE,h1,h3,h5];cases yb with
      |row id sz' n=>exact cW rfl (hyb id sz' n)
      |_=>simp only[he,hroom,ki,bC]
     by_cases hl:ak J=0
     .rw[hl] at I;simp only[cP,bC] at I;have hnil:J=[]:=gw.1 hl;subst hnil;refine iY.mk' hc hH I [] (by simp) (λn _=>?_) (by simp) (λH1 H2 d _ _ _=>⟨by simp,λy M=>?_⟩) hrd' (by simp) (by simp) hr1 (hinv.set hr1 (by omega) (by omega) λ_ _ he=>by cases he) (by omega)
      .by_cases hn:n=nm nx
       .subst hn;rw[bE,bE,PT.get_set,aI rfl,hfr];rfl
       .refine ko hinv hr1 λi e=>?_
        subst e;rw[PT.get_set,aC (λe=>hn (by rw[e]))]
      .simp only[cg,bP,PT.get_set,bC,aF,mj,eY,jF,cP,ki,aj] at M;subst M;exact hle.toH d
     .rw[aC (by simpa using hl)] at I;rw[BG] at I;have key:=iY.new (m:=0) (rd:=rd') hinv hc hH I (B:=.rows ty ah T J) (v:=.row nx) (dO.zero h) (λ_ _ he=>by cases he) (λH1 H2 d g b' Z=>by
       simp only[kq] at Z;rw[aC (by simpa using hl)] at Z;simp only[aj] at Z;subst Z;exact jV.refl d _) (λH1 H2 y d g M=>by
       simp only[cg,bP,PT.get_set,bC,aF,mj,eY] at M;rw[aC (by simpa using hl)] at M;simp only[aj] at M;subst M;exact lq.refl d _) hrd'
      rw[CW] at key;exact key
    split at hk
    .rename_i id;split at hk
     .rename_i ty' p S xs0 hb;split at hk
      .rename_i xs hxs;obtain⟨ee,rfl⟩:=iR hxs;cases ee;split at hk
       .rename_i hcond;simp only[au,cM,dZ] at hcond;obtain⟨rfl,hmid⟩:=hcond;obtain⟨hroom,hk⟩:=dX hk;simp only[cg,ec,hb,aj] at h2;have hidlt:=hinv.low id _ hb;have hne:nx≠id:=by omega
        have hrd:∀ n∈rdl,aL (kL id|||m) (ow n)=ah:=λn hn=>by
         obtain⟨i,rfl,hm⟩:=h6 n hn;rw[dW,bl,hm];simp
        generalize hh':(h.set id (aa (.dead p T.size (ak xs0)))).set nx (aa (.rows ty' p T (xs0++J)))=h' at hk;have hrA:cq h (h.set id (aa (.dead p T.size (ak xs0)))):=cq.set λr hr=>by rw[bP,hb] at hr;exact hr
        have hg2:∀ i,h'.get i=if i=nx then aa (.rows ty' p T (xs0++J)) else if i=id then aa (.dead p T.size (ak xs0)) else h.get i:=λi=>by rw[<- hh',PT.get_set,PT.get_set]
        have hr:cq h h':=by
         rw[<- hh'];refine hrA.trans (cq.set λr hr=>?_);rw[bP,PT.get_set,aC hne,hfr] at hr;cases hr
        have hinv':lJ h' (nx+1):=by
         refine ⟨λi ty l hil=>?_,λi c hic=>?_⟩
         .rw[hg2] at hil;split at hil
          .cases hil
          .split at hil
           .cases hil
           .exact iE hr l (hinv.cells i ty l hil)
         .rw[hg2] at hic;split at hic
          .omega
          .split at hic
           .omega
           .have:=hinv.low i c hic;omega
        have hsame:∀ n,n≠nm nx->n≠nm id->bw h' n=bw h n:=λn h1 h2=>ko hinv hr λi e=>by
         subst e;rw[hg2,aC (λe=>h1 (by rw[e])),aC (λe=>h2 (by rw[e]))]
        have hdead:bw h' (nm id)=af:=by rw[bE,hg2,aC (by omega),aI rfl];rfl
        have hnew:bw h' (nm nx)=if p&&(xs0++J).length==0 then af else aa ⟨ty',.fz ((xs0++J).flatMap (bN T))⟩:=by rw[bE,hg2,aI rfl];rfl
        have hval:cg h' (.row nx)=aa (eY p nx T.size (xs0++J).length):=by simp only[cg,bP,hg2,bC,aF,mj]
        have hwm:∀ n,n=nm nx\/n=nm id->aL (kL id|||kL nx) (ow n)=ah:=λn hn=>by
         rcases hn with rfl|rfl<;>rw[dW,bl,bY.2 rfl]<;>simp
        refine ⟨_,_,_,_,_,hk,?_⟩;by_cases hp:(p&&xs0.length==0)=ah
        ·
         have hyb:yb= .emp:=by rw[<- h2];unfold eY;rw[aI hp]
         subst hyb;simp only[au,cM] at hp;obtain⟨rfl,hl0⟩:=hp;have hnil:xs0=[]:=gw.1 hl0;subst hnil;have hroom':a_ (ak J) bytes=ah:=by simpa using hroom
         have I:eE (.app ty' T.size bytes s x) (JB e h) H (nm nx)=if ak J==0 then aa ⟨.emp,rdl,[],[],[]⟩ else aa ⟨.row (nm nx) T.size (ak J),rdl,[nm nx],[(nm nx,⟨ty',oP ((J.flatMap (bN T)).map .f)⟩)],[nm nx]⟩:=by
          simp only[eE,h1,h3,h5,Hj,hroom',ki,bC]
         have hdead0:bw h (nm id)=af:=by rw[bE,hb];rfl
         by_cases hl:ak J=0
         .rw[hl] at I;simp only[cP,bC] at I;have hnil:J=[]:=gw.1 hl;subst hnil;refine iY.mk' hc hH I [] (by simp) (λn _=>?_) (by simp) (λH1 H2 d _ _ _=>⟨by simp,λy M=>?_⟩) hrd (by simp) (by simp) hr hinv' (by omega)
          .by_cases hn:n=nm nx
           .subst hn;rw[hnew,bE,hfr];rfl
           .by_cases hn2:n=nm id
            .subst hn2;rw[hdead,hdead0]
            .exact hsame n hn hn2
          .rw[hval] at M;simp only[eY,lm,jF,cP,ki,bC,aj] at M;subst M;exact lq.refl d _
         .rw[aC (by simpa using hl),BG] at I;refine iY.mk' hc hH I [nm nx] (λi hi=>hi) (λn hn=>?_) (λi hi b' _=>⟨_,by rw[aI hi];simp only[aK] at hi;subst hi;exact gY _ _⟩) (λH1 H2 d hw1 _ hw2=>⟨λi hi b b' Y U=>?_,λy M=>?_⟩) hrd (λn hn=>hwm n (.inl (by simpa using hn))) (λn hn=>by simp only[aK] at hn;subst hn;rw[dW];omega) hr hinv' (by omega)
          .have hn1:n≠nm nx:=by simpa using hn
           by_cases hn2:n=nm id
           .subst hn2;rw[hdead,hdead0]
           .exact hsame n hn1 hn2
          .simp only[aK] at hi;subst hi;rw[hw1 _ (by simp),gY] at Y;rw[hw2 _ (by simp),hnew,aC (by simpa using hl)] at U;simp only[aj,ll] at Y U;subst Y;subst U;exact jV.refl d _
          .rw[hval] at M;simp only[eY,ll] at M;rw[aC (by simpa using hl)] at M;simp only[aj] at M;subst M;exact lq.refl d _
        .have hyb:yb= .row (nm id) T.size xs0.length:=by rw[<- h2];unfold eY;rw[aC hp]
         subst hyb;have hg:H.get (nm id)=aa ⟨ty',.fz (xs0.flatMap (bN T))⟩:=by rw[hH,bE,hb];simp only[aF,kq,aC hp]
         have fl:=e_ (bx T) xs0;have tk:(xs0.flatMap (bN T)).take (xs0.length*T.size)=xs0.flatMap (bN T):=by rw[<- fl,cL]
         have hmem:Vz (nm id) rdl=ai:=by
          cases hx:Vz (nm id) rdl with
          |false=>rfl
          |true=>
           obtain⟨i,e,hm⟩:=h6 _ (ae7.1 hx);rw[<- kw e,hmid] at hm;cases hm
         have I:eE (.app ty' T.size bytes s x) (JB e h) H (nm nx)=aa ⟨.row (nm nx) T.size (xs0.length+J.length),nm id::rdl,[nm nx,nm id],[(nm nx,⟨ty',.fz ((xs0++J).flatMap (bN T))⟩)],[nm nx]⟩:=by
          have hcnd:(T.size==T.size&& !(Vz (nm id) rdl)&&(BC.fz (xs0.flatMap (bN T))).isCells&&ep (xs0.length*T.size) (BC.fz (xs0.flatMap (bN T))).len&&ty'==ty'&&a_ (xs0.length+J.length) bytes)=ah:=by
           have:ep (xs0.length*T.size) (BC.fz (xs0.flatMap (bN T))).len=ah:=bD (by simp only[BC.len];omega);rw[this,hmem,hroom];simp[BC.isCells]
          simp only[eE,h1,h3,h5,hg,hcnd,bC,BC.toMx,<-kh,tk,<-cI,BG,List.flatMap_append]
         have hne2:¬((p&&(xs0++J).length==0)=ah):=by
          simp only[au,cM,bn] at hp ⊢;intro hh;exact hp ⟨hh.1,by omega⟩
         refine iY.mk' hc hH I [nm nx,nm id] (λi hi=>hi) (λn hn=>?_) (λi hi b' Z=>?_) (λH1 H2 d hw1 _ hw2=>⟨λi hi b b' Y U=>?_,λy M=>?_⟩) (λn hn=>?_) (λn hn=>hwm n (by simpa using hn)) (λn hn=>by simp only[aK] at hn;subst hn;rw[dW];omega) hr hinv' (by omega)
         .simp only[bh,cj,fP,not_or] at hn;exact hsame n hn.1 hn.2
         .simp only[bh,cj,fP] at hi;rcases hi with rfl|rfl
          .exact⟨_,by rw[aI (by simp)];exact gY _ _⟩
          .rw[hdead] at Z;cases Z
         .simp only[bh,cj,fP] at hi;rcases hi with rfl|rfl
          .rw[hw1 _ (by simp),gY] at Y;rw[hw2 _ (by simp),hnew,aC hne2] at U;simp only[aj] at Y U;subst Y;subst U;exact jV.refl d _
          .rw[hw2 _ (by simp),hdead] at U;cases U
         .rw[hval] at M;simp only[eY] at M;rw[aC hne2] at M;simp only[bn,aj] at M;subst M;exact lq.refl d _
         .rcases bh.1 hn with rfl|hn
          .rw[dW,bl,bY.2 rfl];rfl
          .exact hrd n hn
       .cases hk
      .cases hk
     .cases hk
    .obtain⟨hroom,hk⟩:=dX hk;simp only[cg,aj] at h2;subst h2;exact⟨_,_,_,_,_,hk,onEmp m (λn hn=>by obtain⟨i,rfl,hm⟩:=h6 n hn;rw[dW];exact hm) rfl (Le.refl _) hroom⟩
    .obtain⟨hroom,hk⟩:=dX hk;simp only[cg,aj] at h2;subst h2;exact⟨_,_,_,_,_,hk,onEmp m (λn hn=>by obtain⟨i,rfl,hm⟩:=h6 n hn;rw[dW];exact hm) rfl Le.nilEmp hroom⟩
    .cases hk
   .cases hk
  .cases hk
 .cases hk
theorem YU {T:Ty} (xs I:List T.den):(Rl xs I).flatMap (bN T)=AI.splice (xs.flatMap (bN T)) 0 ((I.flatMap (bN T)).take (iB I.length xs.length*T.size)):=by
 have _:=hinv;have _:=hi;have fl:=λJ:List T.den=>e_ (bx T) J
 have tk:∀ (J:List T.den) n,(J.flatMap (bN T)).take (n*T.size)=(J.take n).flatMap (bN T):=by
  intro J;induction J with
  |nil=>intro n;simp
  |cons z r M=>
   intro n;cases n with
   |zero=>simp
   |succ n=>rw[fg,uJ,fg,iz,List.take_append,bx,fJ (by rw[bx];omega),show n*T.size+T.size-T.size=n*T.size from by omega,M n]
 have U:∀ (J:List T.den) n,(J.flatMap (bN T)).drop (n*T.size)=(J.drop n).flatMap (bN T):=by
  intro J;induction J with
  |nil=>intro n;simp
  |cons z r M=>
   intro n;cases n with
   |zero=>simp
   |succ n=>rw[fg,uL,iz,tS,bx,qN (by rw[bx];omega),show n*T.size+T.size-T.size=n*T.size from by omega,M n,ll]
 unfold Rl AI.splice;rw[tk,List.flatMap_append,fl,bz];have e1:I.take (iB I.length xs.length)=I.take xs.length:=by
  rcases Nat.le_total I.length xs.length with h|h
  .rw[show iB I.length xs.length=I.length from rB h,cL,fJ h]
  .rw[show iB I.length xs.length=xs.length from Nat.min_eq_right h]
 rw[e1];have e2:min (iB I.length xs.length) I.length=iB I.length xs.length:=rB (Nat.min_le_left _ _);rw[e2];simp only[List.take_zero,ll,bJ];rw[U];congr 1;rcases Nat.le_total I.length xs.length with h|h
 .rw[show iB I.length xs.length=I.length from rB h]
 .rw[show iB I.length xs.length=xs.length from Nat.min_eq_right h,List.drop_length,qN h]
theorem agf {con:FuncId->Option ch} {bX:TypeId->Option Ty} {sz:Nat} {d x:Operand} (hc:c9 P o.op=aa (.copy sz d x)) (hk:dM con bX (.op (.copy sz d x)) e h nx K=aa r):kr P o ai e h nx K r:=by
 obtain⟨H,Z⟩:=jw h;simp only[dM] at hk;split at hk
 .rename_i id y hv U;split at hk
  .rename_i ty p T xs hb;split at hk
   .rename_i hs;have hs:=av hs;subst hs;split at hk
    .rename_i I m hys;split at hk
     .rename_i hcond;simp only[au,dZ] at hcond;obtain⟨hmid,rfl⟩:=hcond;obtain⟨yb,h1,h2⟩:=bG hi hv;obtain⟨yy,h3,h4⟩:=bG hi U;obtain⟨rdl,h5,h6⟩:=Uj Z hys h4;simp only[cg,ec,hb,eY,mT,co,dR,aj] at h2;subst h2;have fl:=e_ (bx T) xs;have fl2:=e_ (bx T) I;have hg:H.get (nm id)=aa ⟨ty,.fz (xs.flatMap (bN T))⟩:=by rw[Z,bE,hb];simp[kq]
      have hmem:Vz (nm id) rdl=ai:=by
       cases J:Vz (nm id) rdl with
       |false=>rfl
       |true=>
        obtain⟨i,e,hm⟩:=h6 _ (ae7.1 J);rw[<- kw e,hmid] at hm;cases hm
      have hle:iB I.length xs.length*T.size<=xs.length*T.size:=cz _ (Nat.min_le_right _ _);have Y:eE (.copy T.size d x) (JB e h) H (nm nx)=aa ⟨raw (.int .i64 (iB I.length xs.length)),nm id::rdl,[nm id],[(nm id,⟨ty,.fz ((Rl xs I).flatMap (bN T))⟩)],[]⟩:=by
       have hcnd:(T.size==T.size&& !(Vz (nm id) rdl)&&ep (xs.length*T.size) (BC.fz (xs.flatMap (bN T))).len)=ah:=by
        have:ep (xs.length*T.size) (BC.fz (xs.flatMap (bN T))).len=ah:=bD (by simp only[BC.len];omega);rw[this,hmem];simp
       have hput:(BC.fz (xs.flatMap (bN T))).put 0 (((I.flatMap (bN T)).map .f).take (iB I.length xs.length*T.size))=aa (.fz ((Rl xs I).flatMap (bN T))):=by
        rw[<- kh];unfold BC.put;rw[aI]
        .simp only[Jb];rw[YU hinv hi]
        .simp only[au];refine ⟨⟨rfl,bD ?_⟩,?_⟩
         .simp only[BC.len,bS,bz];omega
         .have:∀ l:List FV,(∀ x∈l,x.isCell=ah)->gu (l.map .f)=ah:=by
           intro l hl;induction l with
           |nil=>rfl
           |cons z r ih=>simp only[fY,gu,au];exact⟨hl z (by simp),ih λx J=>hl x (by simp[J])⟩
          exact this _ λx J=>qG T I x (iT J)
       simp only[eE,h1,h3,hg,h5,hcnd,bC,hput]
      have hrow:mj (.rows ty ai T (Rl xs I))=mj (.rows ty ai T xs):=by
       have:(Rl xs I).length=xs.length:=by unfold Rl;rw[bn,bz,mf];omega
       simp only[mj,this]
      have key:=iY.wrt (m:=0) (v:=.f (.int .i64) (aN (iB (ak I) (ak xs)))) (rd:=kL id|||m) hinv hc Z Y (B:=.rows ty ai T (Rl xs I)) hb (dO.zero h) (by simp) hrow (λ_ _ he=>by cases he) (λH1 H2 d g b' M=>by
       simp only[kq,mT,co,dR,aj] at M;subst M;exact jV.refl d _) (λH1 H2 y d g hy=>by
       simp only[cg,aj] at hy;subst hy;exact lq.refl d _) (λn hn=>by
       rcases bh.1 hn with rfl|hn
       .rw[dW,bl,bY.2 rfl];rfl
       .obtain⟨i,rfl,hm⟩:=h6 n hn;rw[dW,bl,hm];simp)
      rw[CW] at key;exact⟨_,_,_,_,_,hk,key⟩
     .cases hk
    .cases hk
   .cases hk
  .cases hk
 .cases hk
theorem acb {con:FuncId->Option ch} {bX:TypeId->Option Ty} {sz:Nat} {x v:Operand} (hc:c9 P o.op=aa (.store sz x v)) (hk:dM con bX (.op (.store sz x v)) e h nx K=aa r):kr P o ai e h nx K r:=by
 obtain⟨H,hH⟩:=jw h;simp only[dM] at hk;split at hk
 .rename_i id off y hv Y;obtain⟨yb,h1,h2⟩:=bG hi hv;obtain⟨I,h3,h4⟩:=bG hi Y;simp only[cg,aj] at h2;subst h2;split at hk
  .rename_i ty l hb;split at hk
   .rename_i cs hcs;split at hk
    .rename_i hcond;simp only[au,cM] at hcond;obtain⟨h5,h6⟩:=LH hcs h4;obtain⟨l',hl⟩:=fo h l (hinv.cells id ty l hb);have hg:H.get (nm id)=aa ⟨ty,.mx l'⟩:=by rw[hH,bE,hb];simp only[aF,kq,hl]
     have hcell:=sk h5 h6;have hlen:I.cs.length=sz:=by rw[jb h5];exact hcond.1
     have hput:(BC.mx l').put off I.cs=aa (.mx (splice l' off I.cs)):=by
      unfold BC.put;rw[aI]
      .rfl
      .simp only[au];exact⟨⟨rfl,by simp only[BC.len];rw[hlen,jb hl];exact hcond.2⟩,hcell⟩
     have Z:eE (.store sz x v) (JB e h) H (nm nx)=aa ⟨raw undef,[nm id],[nm id],[(nm id,⟨ty,.mx (splice l' off I.cs)⟩)],[]⟩:=by
      simp only[eE,h1,h3,Nq,hg,hlen,cP,bC,hput]
     have hspl:∀ h',cq h h'->cF h' (splice l off cs)=aa (splice l' off I.cs):=λh' hr=>uc off (iJ hr l l' hl) (iJ hr cs _ h5)
     have hr1:cq h (h.set id (aa (.cells ty (splice l off cs)))):=cq.set λr hr=>by rw[bP,hb] at hr;cases hr
     have key:=iY.wrt (m:=0) (v:=.undef) (rd:=kL id) hinv hc hH Z (B:=.cells ty (splice l off cs)) hb (dO.zero h) (by simp) rfl (λty' l2 he=>by cases he;exact k9 _ _ _ (hspl _ hr1)) (λU M d g b' J=>by
      have:=hspl _ hr1;simp only[eB,tP,bC,kq,this,aj] at J;subst J;exact jV.refl d _) (λU M y d g hy=>by
      simp only[cg,aj] at hy;subst hy;exact lq.refl d _) (λn hn=>by simp only[aK] at hn;subst hn;rw[dW];exact bY.2 rfl)
     rw[CW] at key;exact⟨_,_,_,_,_,hk,key⟩
    .cases hk
   .cases hk
  .cases hk
 .rename_i id sz' j off y hv Y;obtain⟨yb,h1,h2⟩:=bG hi hv;obtain⟨I,h3,h4⟩:=bG hi Y;simp only[cg,aj] at h2;subst h2;split at hk
  .rename_i ty p T xs hb;split at hk
   .rename_i hsz;have hsz:=av hsz;subst hsz;obtain⟨hj,hk⟩:=dX hk;split at hk
    .rename_i z m hset;split at hk
     .cases hk
     .rename_i hmid;have hmid:aL m id=ai:=by simpa using hmid
      have hm:=yG 40 T _ off sz z m hset;obtain⟨j0,j1,j2⟩:=Hk hj;have hne:¬((p&&xs.length==0)=ah):=by simp only[au,cM];omega
      have hne2:¬((p&&(cJ xs j z).length==0)=ah):=by unfold cJ;rw[rC];exact hne
      have hg:H.get (nm id)=aa ⟨ty,.fz (xs.flatMap (bN T))⟩:=by rw[hH,bE,hb];simp only[aF,kq,aC hne]
      have fl:=e_ (bx T) xs;have hx:xs[j.toNat]? =aa (aH xs j):=by
       unfold aH;rw[ax,ay j2];rfl
      have hle:(j.toNat+1)*T.size<=xs.length*T.size:=cz _ j2;rw[iz] at hle;have hso:∀ U M,uk U M->CZ h U M m->Ve U M I T (aH xs j) z off sz:=λU M d g=>uQ d h4 40 T _ off sz z m hset g
      have hshape:I.cs.length=sz/\off+sz<=T.size/\gu I.cs=ah:=by
       have d0:uk (bw h) (bw (eB m h)):=λi b hb=>by
        obtain⟨i',c,rfl,g1,g2⟩:=jf hb;rw[iI] at g1;by_cases ht:aL m i'=ah
        .obtain⟨pp,ss,nn,g3⟩:=sG hm ht;rw[iI] at g3;rw[g3] at g1;cases g1;cases g2
        .rw[aC ht] at g1;exact⟨b,by rw[bE,g1];simp only[aF];rw[<- H0 (cq.kill m h) (λty l e=>hinv.cells i' ty l (by rw[g1,e]))];exact g2⟩
       obtain⟨fs,q1,q2,q3,q4,q5⟩:=hso _ _ d0 (λi hi=>⟨rfl,by
        obtain⟨pp,ss,nn,g3⟩:=sG hm hi;rw[bE,g3];rfl⟩)
       refine ⟨by rw[<- q2,<-bS (f:=AV.f),q1.length],q3,?_⟩;exact qk h4 40 T _ off sz z m hset
      obtain⟨hlen,hoff,hcell⟩:=hshape;obtain⟨c',hput,hc1,hc2⟩:∃ c',(BC.fz (xs.flatMap (bN T))).put (j.toNat*T.size+off) I.cs=aa c'/\c'.toMx=splice ((xs.flatMap (bN T)).map .f) (j.toNat*T.size+off) I.cs/\c'.isCells=ah:=by
       unfold BC.put;rw[aI]
       .split
        .rename_i l ys hl hys;simp only[BC.fz.injEq] at hl;subst hl;refine ⟨_,rfl,?_,rfl⟩;rw[pa hys];simp only[BC.toMx];unfold splice;simp[kh,List.map_drop]
        .exact⟨_,rfl,rfl,rfl⟩
       .simp only[au];exact⟨⟨rfl,bD (by simp only[BC.len];omega)⟩,hcell⟩
      have Z:eE (.store sz x v) (JB e h) H (nm nx)=aa ⟨raw undef,[nm id],[nm id],[(nm id,⟨ty,c'⟩)],[]⟩:=by
       simp only[eE,h1,h3,Nq,hg,hlen,cP,bC,hput]
      have hrow:mj (.rows ty p T (cJ xs j z))=mj (.rows ty p T xs):=by
       unfold cJ;simp only[mj,rC]
      refine ⟨_,_,_,_,_,hk,iY.wrt hinv hc hH Z (B:=.rows ty p T (cJ xs j z)) hb hm hmid hrow (λ_ _ he=>by cases he) (λU M d g b' J=>?_) (λU M y d g hy=>?_) (λn hn=>?_)⟩
      .simp only[kq,aC hne2,aj] at J;subst J;obtain⟨fs,q1,q2,q3,q4,q5⟩:=hso U M d g;have hfl:(cJ xs j z).flatMap (bN T)=AI.splice (xs.flatMap (bN T)) (j.toNat*T.size+off) fs:=Ph (bx T) xs j.toNat _ z hx off fs (by omega) q4;refine jV.cells hc2 rfl ?_ λx hx=>?_
       .rw[hc1];simp only[BC.toMx];rw[hfl];have:(AI.splice (xs.flatMap (bN T)) (j.toNat*T.size+off) fs).map AV.f=AI.splice ((xs.flatMap (bN T)).map .f) (j.toNat*T.size+off) (fs.map .f):=by unfold AI.splice;simp[kh,List.map_drop]
        rw[this];exact (gW.refl d _).splice _ q1
       .simp only[BC.toMx] at hx;obtain⟨q,hq,rfl⟩:=dc.1 hx;exact qG T _ q hq
      .simp only[cg,aj] at hy;subst hy;exact lq.refl d _
      .simp only[aK] at hn;subst hn;rw[dW,bl,bY.2 rfl];simp
    .cases hk
   .cases hk
  .cases hk
 .cases hk
theorem aga {con:FuncId->Option ch} {bX:TypeId->Option Ty} {ty:TypeId} {sz bytes:Nat} {z:List Value} {l c:Operand} (hc:c9 P o.op=aa (.mksl ty sz bytes z l c)) (hk:dM con bX (.op (.mksl ty sz bytes z l c)) e h nx K=aa r):kr P o ai e h nx K r:=by
 cases hcm:CC (bX ty) with
 |none=>exact acd hinv hi hcm hc hk
 |some n=>
  obtain⟨H,hH⟩:=jw h;simp only[dM,hcm] at hk;split at hk
  .rename_i zc k a k' b J hv M;obtain⟨hck,hk⟩:=dX hk;rw[au] at hck;obtain⟨hcond,hn⟩:=hck;have hn:=bm hn;obtain⟨y,h1,h2⟩:=bG hi hv;obtain⟨y2,h3,Y⟩:=bG hi M;simp only[cg,aj] at h2 Y;subst h2;subst Y;have han:aR a=n:=by rw[hn];rfl
   obtain⟨_,_,hzc⟩:=uh h J;refine ⟨_,_,_,_,_,hk,iY.new hinv hc hH (y0:=.row (nm nx) sz n) (rdl:=[]) (b0:=⟨ty,.fz (repl z n)⟩) (by simp only[eE,h1,h3,gy,hcond,bC,han]) (dO.zero h) (λty' l' he=>?_) (λH1 H2 d g b' I=>?_) (λH1 H2 y d g U=>?_) (by simp)⟩
   .cases he;exact k9 _ _ _ (KW _ J n)
   .simp only[kq,KW _ J n,aj] at I;subst I;refine jV.cells rfl rfl (gW.refl d _) λx Z=>?_
    exact lh (sk (KW h J n) (D2 hzc n)) x Z
   .simp only[cg,aj] at U;subst U;exact lq.refl d _
  .cases hk
theorem ajg {con:FuncId->Option ch} {bX:TypeId->Option Ty} {ty:TypeId} {sz len:Nat} {z:List Value} {parts:List (Nat×Nat×Operand)} (hc:c9 P o.op=aa (.bsl ty sz len z parts)) (hk:dM con bX (.op (.bsl ty sz len z parts)) e h nx K=aa r):kr P o ai e h nx K r:=by
 cases hcm:CC (bX ty) with
 |none=>exact agi hinv hi hcm hc hk
 |some n=>
  obtain⟨H,hH⟩:=jw h;simp only[dM,hcm] at hk;split at hk
  .rename_i zc M;split at hk
   .rename_i cs hf;split at hk
    .cases hk
    .rename_i hl;have hl:len≠0:=λe=>hl (by rw[e];rfl)
     obtain⟨cs',h1,h2,h3⟩:=B5 hi parts _ cs _ hf (KW h M len);obtain⟨_,_,hzc⟩:=uh h M;have hcs:=h3 (D2 hzc len);have hr:cq h ((eB 0 h).set nx (aa (.cells ty cs))):=(cq.kill 0 h).trans (cq.set λr hr=>by rw[bP,(hinv.kill 0).fresh] at hr;cases hr);have J:=iJ hr _ _ h2;refine ⟨_,_,_,_,_,hk,iY.new hinv hc hH (y0:=.row (nm nx) sz len) (rdl:=[]) (b0:=⟨ty,oP cs'⟩) (by simp only[eE,h1,aC hl]) (dO.zero h) (λty' l' he=>?_) (λH1 H2 d g b' I=>?_) (λH1 H2 y d g U=>?_) (by simp)⟩
     .cases he;exact k9 _ _ _ J
     .simp only[kq,J,aj] at I;subst I;obtain⟨q1,Y⟩:=ng cs';refine jV.cells Y rfl ?_ λx Z=>?_
      .rw[q1];exact gW.refl d _
      .exact lh (sk h2 hcs) x Z
     .simp only[cg,aj] at U;subst U;exact lq.refl d _
   .cases hk
  .cases hk
theorem ajj {con:FuncId->Option ch} {bX:TypeId->Option Ty} {ty:TypeId} {sz bytes:Nat} {s x:Operand} (hc:c9 P o.op=aa (.app ty sz bytes s x)) (hk:dM con bX (.op (.app ty sz bytes s x)) e h nx K=aa r):kr P o ai e h nx K r:=by
 cases hcm:CC (bX ty) with
 |none=>exact agj hinv hi hcm hc hk
 |some n0=>
  obtain⟨H,hH⟩:=jw h;have hfr:=hinv.fresh;simp only[dM,hcm] at hk;split at hk
  .rename_i b y hv hv2;obtain⟨yb,h1,h2⟩:=bG hi hv;obtain⟨yy,h3,h4⟩:=bG hi hv2;unfold ad6 at hk;split at hk
   .rename_i id2 sz2 m;simp only[cg,aj] at h4;subst h4;split at hk
    .rename_i ty2 l2 I;split at hk
     .rename_i hq;simp only[au,dZ] at hq;obtain⟨⟨q1,q2⟩,q3⟩:=hq;have q1:=av q1;have q2:=av q2;have q3:m≠0:=λe=>by rw[e] at q3;cases q3
      subst q1;obtain⟨J,Z⟩:=fo h l2 (hinv.cells id2 ty2 l2 I);have hrow:=ab2 hH I Z q2;split at hk
      .rename_i id sz1 n;simp only[cg,aj] at h2;subst h2;split at hk
       .rename_i ty1 l1 U;split at hk
        .rename_i hq;simp only[au,dZ] at hq;obtain⟨⟨⟨p1,p2⟩,p3⟩,p4⟩:=hq;have p1:=av p1;have p2:=eq_of_beq p2;have p3:=av p3;have p4:id≠id2:=λe=>by rw[e,tP] at p4;cases p4
         subst p1;subst p2;obtain⟨hroom,hk⟩:=dX hk;obtain⟨M,hl1⟩:=fo h l1 (hinv.cells id _ l1 U);have hln:=jb hl1;have hg:H.get (nm id)=aa ⟨ty1,.mx M⟩:=by rw[hH,bE,U];simp only[aF,kq,hl1]
         have hidlt:id<nx:=hinv.low id _ U;generalize hB:hZ.cells ty1 (l1++l2)=B at hk;have hd1:cq h (h.set id (aa (.dead ah 0 0))):=cq.set λr hr=>by rw[bP,U] at hr;cases hr
         have hd2:cq (h.set id (aa (.dead ah 0 0))) ((h.set id (aa (.dead ah 0 0))).set nx (aa B)):=cq.set λr hr=>by
          rw[bP,PT.get_set,aC (by omega),hfr] at hr;cases hr
         have hr:=hd1.trans hd2;have hsp:cF ((h.set id (aa (.dead ah 0 0))).set nx (aa B)) (l1++l2)=aa (M++J):=iJ hr _ _ (mO hl1 Z);have Y:bw ((h.set id (aa (.dead ah 0 0))).set nx (aa B)) (nm nx)=aa ⟨ty1,.mx (M++J)⟩:=by rw[bE,PT.get_set,aI rfl,<-hB] at *;simp only[aF,kq,hsp]
         have hbd:bw ((h.set id (aa (.dead ah 0 0))).set nx (aa B)) (nm id)=af:=by rw[bE,PT.get_set,aC (by omega),PT.get_set,aI rfl];rfl
         have hinv1:lJ (h.set id (aa (.dead ah 0 0))) nx:=hinv.set hd1 hidlt (bO _) (λ_ _ he=>by cases he);have ha:eE (.app ty1 sz1 bytes s x) (JB e h) H (nm nx)=aa ⟨.row (nm nx) sz1 (n+m),[nm id,nm id2],[nm nx,nm id],[(nm nx,⟨ty1,oP (M++J)⟩)],[nm nx]⟩:=by
          simp only[eE,h1,h3,hrow,hg];rw[aI (by
           simp only[cP,oW,Bool.and_true,BC.isCells,BC.len,hroom,au,dZ];refine ⟨?_,bD (by omega)⟩;simp only[Vz,Bool.or_false];cases hq:aA (nm id2) (nm id) with
           |false=>rfl
           |true=>exact cW (kw (av hq)).symm p4)]
          simp only[BC.toMx,fJ (show M.length<=n*sz1 by omega)]
         refine ⟨_,_,_,_,_,hk,iY.mk' hc hH ha [nm nx,nm id] (λi hi=>hi) (λq hq=>?_) (λi hi b' hbb=>?_) (λH1 H2 d hw1 _ hw2=>⟨λi hi b b' hb I=>?_,λy hy=>?_⟩) (λq hq=>?_) (λq hq=>?_) (λq hq=>?_) hr (hinv1.set hd2 (by omega) (by omega) λty' l' he=>?_) (by omega)⟩
         .simp only[bh,cj,fP,not_or] at hq;refine ko hinv hr λi ei=>?_
          subst ei;rw[PT.get_set,aC (λe=>hq.1 (by rw[e])),PT.get_set,aC (λe=>hq.2 (by rw[e]))]
         .simp only[bh,cj,fP] at hi;rcases hi with rfl|rfl
          .rw[aI (by simp)];exact⟨_,gY _ _⟩
          .rw[hbd] at hbb;cases hbb
         .simp only[bh,cj,fP] at hi;rcases hi with rfl|rfl
          .rw[hw1 _ (by simp),gY] at hb;rw[hw2 _ (by simp),Y] at I;simp only[aj] at hb I;subst hb;subst I;obtain⟨m1,m2⟩:=ng (M++J);exact jV.eq d m2 rfl m1
          .rw[hw2 _ (by simp),hbd] at I;cases I
         .simp only[cg,aj] at hy;subst hy;exact lq.refl d _
         .simp only[bh,cj,fP] at hq;rw[bl,iD];rcases hq with rfl|rfl
          .rw[dW];exact .inl (bY.2 rfl)
          .rw[dW];exact .inr (bY.2 rfl)
         .simp only[bh,cj,fP] at hq;rw[bl,iD];rcases hq with rfl|rfl
          .rw[dW];exact .inr (bY.2 rfl)
          .rw[dW];exact .inl (bY.2 rfl)
         .simp only[aK] at hq;subst hq;rw[dW];omega
         .rw[<- hB] at he;cases he;exact k9 _ _ _ hsp
        .cases hk
       .cases hk
      .simp only[cg,aj] at h2;subst h2;obtain⟨hroom,hk⟩:=dX hk;have hr:cq h ((eB 0 h).set nx (aa (.cells ty l2))):=(cq.kill 0 h).trans (cq.set λr hr=>by rw[bP,(hinv.kill 0).fresh] at hr;cases hr);have h2':=iJ hr _ _ Z;refine ⟨_,_,_,_,_,hk,iY.new hinv hc hH (y0:=.row (nm nx) sz2 m) (rdl:=[nm id2]) (b0:=⟨ty,oP J⟩) (by simp only[eE,h1,h3,hrow];simp[Hj,yN,hroom,q3]) (dO.zero h) (λty' l' he=>?_) (λH1 H2 d g b' Y=>?_) (λH1 H2 y d g hy=>?_) (λn hn=>?_)⟩
       .cases he;exact k9 _ _ _ h2'
       .simp only[kq,h2',aj] at Y;subst Y;obtain⟨p1,p2⟩:=ng J;exact jV.eq d p2 rfl p1
       .simp only[cg,aj] at hy;subst hy;exact lq.refl d _
       .simp only[aK] at hn;subst hn;rw[dW];exact bY.2 rfl
      .cases hk
     .cases hk
    .cases hk
   .cases hk
  .cases hk
theorem aiw {con:FuncId->Option ch} {bX:TypeId->Option Ty} {sz:Nat} {x:Operand} {lo hi' mx:Option Operand} (hc:c9 P o.op=aa (.slc sz x lo hi' mx)) (hk:dM con bX (.op (.slc sz x lo hi' mx)) e h nx K=aa r):kr P o ai e h nx K r:=by
 have hfr:=hinv.fresh;simp only[dM] at hk;split at hk
 .rename_i v hv;obtain⟨y,h1,h2⟩:=bG hi hv;split at hk
  .split at hk
   .rename_i hn;obtain⟨n,hn⟩:=iu.1 hn;have Y:=Ow hn h2;exact kr.q (k:=0) hinv hc (λH _=>by simp only[eE,h1,Y,Option.isSome_some,bC]) (dg rfl) hk
   .cases hk
  .rename_i b;split at hk
   .rename_i T xs k j hb;obtain⟨y2,Y,U⟩:=bG hi hb;simp only[cg,aj] at h2 U;subst h2;subst U;split at hk
    .rename_i hs;have hs:=av hs;subst hs;obtain⟨hj,hk⟩:=dX hk;have hfl:=e_ (bx T) xs;have hcond:(cR 0 j&&cR j (ak xs)&&ep (ak xs*T.size) (xs.flatMap (bN T)).length)=ah:=by
      rw[hj,oW];exact bD (by omega)
     simp only[cR,au,bQ] at hj;have hlen:(xs.take j.toNat).length=j.toNat:=by rw[bz];omega
     exact kr.q (k:=0) (y0:=.f (.sl ((xs.flatMap (bN T)).take (j.toNat*T.size)) j.toNat)) hinv hc (λH _=>by simp only[eE,h1,Y,gy,hcond,bC]) (dg (by simp only[cg,gy];rw[yQ (bx T),hlen])) hk
    .cases hk
   .rename_i id k j hb;obtain⟨y2,Y,U⟩:=bG hi hb;simp only[cg,aj] at U;subst U;split at hk
    .rename_i ty p T xs I;split at hk
     .rename_i hs;have hs:=av hs;subst hs;obtain⟨hj,hk⟩:=dX hk;obtain⟨H,hH⟩:=jw h;have hj0:=hj;simp only[cR,fG,au,bQ] at hj;have hp:¬((p&&xs.length==0)=ah):=by
       simp only[au,cM];omega
      simp only[cg,bP,I,aF,mj,eY,aC hp,aj] at h2;subst h2;have hidlt:=hinv.low id _ I;have hne:nx≠id:=by omega
      have hg:H.get (nm id)=aa ⟨ty,.fz (xs.flatMap (bN T))⟩:=by rw[hH,bE,I];simp only[aF,kq,aC hp]
      have fl:=e_ (bx T) xs;have hcond:(T.size==T.size&&cR 0 j&&cR j (ak xs))=ah:=by
       simp only[cR,au,bQ,cP,Ab];omega
      have hlen:(xs.take j.toNat).length=j.toNat:=by rw[bz];omega
      have ha0:eE (.slc T.size x af (aa b) af) (JB e h) H (nm nx)=aa ⟨.row (nm nx) T.size j.toNat,[nm id],[nm nx,nm id],[(nm nx,⟨ty,.fz ((xs.take j.toNat).flatMap (bN T))⟩)],[nm nx]⟩:=by
       have hc2:((BC.fz (xs.flatMap (bN T))).isCells&&ep (ak xs*T.size) (BC.fz (xs.flatMap (bN T))).len)=ah:=by
        simp only[BC.isCells,oW,BC.len];exact bD (by omega)
       simp only[eE,h1,Y,gy,hcond,bC,hg,hc2,BC.toMx,<-kh,BG,yQ (bx T)]
      generalize hh':(h.set id (aa (.dead p T.size (ak xs)))).set nx (aa (.rows ty ai T (dF j.toNat xs)))=h' at hk;have hrA:cq h (h.set id (aa (.dead p T.size (ak xs)))):=cq.set λr hr=>by rw[bP,I] at hr;exact hr
      have J:∀ i,h'.get i=if i=nx then aa (.rows ty ai T (dF j.toNat xs)) else if i=id then aa (.dead p T.size (ak xs)) else h.get i:=λi=>by rw[<- hh',PT.get_set,PT.get_set]
      have hr:cq h h':=by
       rw[<- hh'];refine hrA.trans (cq.set λr hr=>?_);rw[bP,PT.get_set,aC hne,hfr] at hr;cases hr
      have hinv':lJ h' (nx+1):=by
       refine ⟨λi ty l hil=>?_,λi c hic=>?_⟩
       .rw[J] at hil;split at hil
        .cases hil
        .split at hil
         .cases hil
         .exact iE hr l (hinv.cells i ty l hil)
       .rw[J] at hic;split at hic
        .omega
        .split at hic
         .omega
         .have:=hinv.low i c hic;omega
      have hsame:∀ n,n≠nm nx->n≠nm id->bw h' n=bw h n:=λn h1 h2=>ko hinv hr λi e=>by
       subst e;rw[J,aC (λe=>h1 (by rw[e])),aC (λe=>h2 (by rw[e]))]
      have hdead:bw h' (nm id)=af:=by rw[bE,J,aC (by omega),aI rfl];rfl
      have hnew:bw h' (nm nx)=aa ⟨ty,.fz ((xs.take j.toNat).flatMap (bN T))⟩:=by rw[bE,J,aI rfl];rfl
      have hval:cg h' (.row nx)=aa (.row (nm nx) T.size j.toNat):=by simp only[cg,bP,J,bC,aF,mj,eY,mT,co,dR,hlen]
      refine ⟨_,_,_,_,_,hk,?_⟩;refine iY.mk' hc hH ha0 [nm nx,nm id] (λi hi=>hi) (λn hn=>?_) (λi hi b' hb'=>?_) (λH1 H2 d hw1 _ hw2=>⟨λi hi b b' Z M=>?_,λy hy=>?_⟩) (λn hn=>?_) (λn hn=>?_) (λn hn=>by simp only[aK] at hn;subst hn;rw[dW];omega) hr hinv' (by omega)
      .simp only[bh,cj,fP,not_or] at hn;exact hsame n hn.1 hn.2
      .simp only[bh,cj,fP] at hi;rcases hi with rfl|rfl
       .exact⟨_,by rw[aI (by simp)];exact gY _ _⟩
       .rw[hdead] at hb';cases hb'
      .simp only[bh,cj,fP] at hi;rcases hi with rfl|rfl
       .rw[hw1 _ (by simp),gY] at Z;rw[hw2 _ (by simp),hnew] at M;simp only[aj] at Z M;subst Z;subst M;exact jV.refl d _
       .rw[hw2 _ (by simp),hdead] at M;cases M
      .rw[hval] at hy;simp only[aj] at hy;subst hy;exact lq.refl d _
      .simp only[aK] at hn;subst hn;rw[dW];exact bY.2 rfl
      .simp only[bh,cj,fP] at hn;rcases hn with rfl|rfl<;>rw[dW,bl,bY.2 rfl]<;>simp
     .cases hk
    .cases hk
   .cases hk
  .rename_i b;split at hk
   .rename_i T xs k j hb;obtain⟨y2,Y,U⟩:=bG hi hb;simp only[cg,aj] at h2 U;subst h2;subst U;split at hk
    .rename_i hs;have hs:=av hs;subst hs;obtain⟨hj,hk⟩:=dX hk;have hfl:=e_ (bx T) xs;have hcond:(cR 0 j&&cR j (ak xs)&&ep (ak xs*T.size) (xs.flatMap (bN T)).length)=ah:=by
      rw[hj,oW];exact bD (by omega)
     simp only[cR,au,bQ] at hj;have hlen:(xs.drop j.toNat).length=ak xs-j.toNat:=by rw[mf]
     have htk:((xs.flatMap (bN T)).drop (j.toNat*T.size)).take ((ak xs-j.toNat)*T.size)=(xs.flatMap (bN T)).drop (j.toNat*T.size):=by
      refine fJ ?_;rw[mf,hfl,Nat.sub_mul];exact bO _
     exact kr.q (k:=0) (y0:=.f (.sl ((xs.flatMap (bN T)).drop (j.toNat*T.size)) (ak xs-j.toNat))) hinv hc (λH _=>by simp only[eE,h1,Y,gy,hcond,bC,htk]) (dg (by simp only[cg,gy];rw[HW (bx T),hlen])) hk
    .cases hk
   .rename_i id k j hb;obtain⟨y2,Y,U⟩:=bG hi hb;simp only[cg,aj] at U;subst U;split at hk
    .rename_i ty p T xs I;split at hk
     .rename_i hs;have hs:=av hs;subst hs;obtain⟨hj,hk⟩:=dX hk;have hcond:(T.size==T.size&&cR 0 j&&fG j (ak xs))=ah:=by
       simp only[au] at hj;rw[hj.1,hj.2,cP];rfl
      simp only[cR,fG,au,bQ] at hj;have hp:¬((p&&xs.length==0)=ah):=by
       simp only[au,cM];omega
      simp only[cg,bP,I,aF,mj,eY,aC hp,aj] at h2;subst h2;exact kr.q (k:=0) (y0:=.sl (nm id) (j.toNat*T.size) (ak xs-j.toNat)) hinv hc (λH _=>by simp only[eE,h1,Y,gy,hcond,bC]) (dg (by simp only[cg,bP,I,aF,mj])) hk
     .cases hk
    .cases hk
   .cases hk
  .cases hk
 .cases hk
theorem ajf {con:FuncId->Option ch} {bX:TypeId->Option Ty} {sz:Nat} {z:List Value} {x:Operand} (hc:c9 P o.op=aa (.clr sz z x)) (hk:dM con bX (.op (.clr sz z x)) e h nx K=aa r):kr P o ai e h nx K r:=by
 obtain⟨H,hH⟩:=jw h;simp only[dM] at hk;split at hk
 .rename_i id j hv;split at hk
  .rename_i ty p T xs hb;split at hk
   .rename_i hs;simp only[au] at hs;obtain⟨⟨hs,J⟩,hco⟩:=hs;have hs:=av hs;have J:=I4 J;subst hs;subst J;obtain⟨hj,hk⟩:=dX hk;simp only[cR,fG,au,bQ] at hj;obtain⟨j0,j1⟩:=hj;obtain⟨y,h1,h2⟩:=bG hi hv;simp only[cg,bP,hb,aF,mj,aj] at h2;subst h2;have hp:¬((p&&xs.length==0)=ah):=by
     simp only[au,cM];omega
    have fl:=e_ (bx T) xs;have hg:H.get (nm id)=aa ⟨ty,.fz (xs.flatMap (bN T))⟩:=by rw[hH,bE,hb];simp only[aF,kq,aC hp]
    have hrl:(repl (rP T) (xs.length-j.toNat)).length=(xs.length-j.toNat)*T.size:=by
     have h9:=(F5 (H:=λ_=>af) (H':=λ_=>af) (λn b hb=>by cases hb) T (xs.length-j.toNat)).length;rw[bS,bS,e_ (bx T),ey] at h9;exact h9.symm
    have hoff:j.toNat*T.size+(xs.length-j.toNat)*T.size=xs.length*T.size:=by rw[<- LX];congr 1;omega
    have hput:(BC.fz (xs.flatMap (bN T))).put (j.toNat*T.size) ((repl (rP T) (xs.length-j.toNat)).map .f)=aa (.fz (splice (xs.flatMap (bN T)) (j.toNat*T.size) (repl (rP T) (xs.length-j.toNat)))):=by
     unfold BC.put;rw[aI]
     .simp only[Jb]
     .simp only[au];refine ⟨⟨rfl,bD ?_⟩,Fe _ λq hq=>?_⟩
      .simp only[BC.len,bS];omega
      .obtain⟨v,hv,rfl⟩:=Ob _ q hq;exact f_.1 hco v hv
    have hblt:fV 0 (xs.length-j.toNat)=ah:=bD (by omega);have Y:eE (.clr T.size (rP T) x) (JB e h) H (nm nx)=aa ⟨.tup [],[nm id],[nm id],[(nm id,⟨ty,.fz (splice (xs.flatMap (bN T)) (j.toNat*T.size) (repl (rP T) (xs.length-j.toNat)))⟩)],[]⟩:=by
     simp only[eE,h1,hg,hblt,bC,hput]
    have hlen:(dF j.toNat xs++aE (ak xs-j.toNat) T.zero).length=xs.length:=by
     rw[bn,bz,ey];omega
    have hrow:mj (.rows ty p T (dF j.toNat xs++aE (ak xs-j.toNat) T.zero))=mj (.rows ty p T xs):=by simp only[mj,hlen]
    refine ⟨_,_,_,_,_,hk,iY.wrt (m:=0) (v:=.tup []) (rd:=kL id) hinv hc hH Y hb (dO.zero h) (by simp) hrow (λ_ _ he=>by cases he) (λH1 H2 d g b' I=>?_) (λH1 H2 y d g Z=>?_) (λn hn=>?_)⟩
    .have U:¬((p&&(dF j.toNat xs++aE (ak xs-j.toNat) T.zero).length==0)=ah):=by rw[hlen];exact hp
     simp only[kq,aC U,aj] at I;subst I;refine jV.cells rfl rfl ?_ λq hq=>?_
     .simp only[BC.toMx];unfold splice;rw[hrl,hoff,<-fl,List.drop_length,lm,List.flatMap_append,yQ (bx T),cI,cI];exact (gW.refl d _).append (F5 d T _)
     .simp only[BC.toMx] at hq;obtain⟨q',M,rfl⟩:=dc.1 hq;exact qG T _ q' M
    .simp only[cg,cF,aj] at Z;subst Z;exact lq.refl d _
    .simp only[aK] at hn;subst hn;rw[dW];exact bY.2 rfl
   .cases hk
  .cases hk
 .cases hk
end ops
theorem RM {K V:Ty} {es:List (K.den×V.den)} (I:mpE K V es=ah):es.map (λp=>(o9 K p.1,AV.f (gy V p.2)))=[]:=by
 unfold mpE at I;split at I
 .rfl
 .cases I
theorem ae5 {K V:Ty} {es:List (K.den×V.den)} (I:mpE K V es=ah):RL K=ah:=by
 unfold mpE at I;split at I
 .rfl
 .cases I
theorem UB {str:Bool} {K:Ty} (I:VD str K=ah):RL K=ah:=by
 cases K<;>cases str<;>first|rfl|cases I
theorem Mn {str:Bool} {K:Ty} (I:VD str K=ah) (k k':K.den):tL .eql (o9 K k) (o9 K k')=aa (.bool (NJ K k k'))/\xL str (o9 K k)=ah/\gy K k= .raw (o9 K k):=by
 cases K<;>cases str<;>first|cases I|skip
 .exact⟨by simp only[tL,o9,NJ,cP,bC,aj,A_];exact Bool.beq_eq_decide_eq _ _,rfl,rfl⟩
 .exact⟨by simp only[tL,o9,NJ,CJ],rfl,rfl⟩
theorem Ov {str:Bool} {K V:Ty} (I:VD str K=ah) (k:K.den):∀ es:List (K.den×V.den),r9 (o9 K k) (es.map λp=>(o9 K p.1,AV.f (gy V p.2)))=aa ((wT k es).map λv=>AV.f (gy V v))
 |[]=>rfl
 |(k',v)::r=>by
  simp only[fY,r9,(Mn I k k').1,wT];cases hb:NJ K k k' with
  |true=>rfl
  |false=>simp only[co,dR];exact Ov I k r
theorem Uy {str:Bool} {K V:Ty} (I:VD str K=ah) (k:K.den) (v:V.den):∀ es:List (K.den×V.den),xJ (o9 K k) (.f (gy V v)) (es.map λp=>(o9 K p.1,AV.f (gy V p.2)))=aa ((De k v es).map λp=>(o9 K p.1,AV.f (gy V p.2)))
 |[]=>rfl
 |(k',J)::r=>by
  simp only[fY,xJ,(Mn I k k').1,De];cases hb:NJ K k k' with
  |true=>rfl
  |false=>simp only[Uy I k v r,co,dR,fY]
section ops
variable {R:Type} {P:Program} {o:Oper} {e:iw} {h:bd} {nx:Nat} {K:KO R} {r:R}
theorem Le.aggOf {l:List FV} (hc:∀ x∈l,x.isCell=ah):Le (.agg (l.map .f)) (.f (.agg l)):=by
 intro φ O w v hr;cases hr with
 |@agg _ vs hl hcl hrr=>
  refine .f (.agg l vs (by simpa using hl) hc λj y u I hu=>?_);have:=hrr j (.f y) u (by rw[aZ,I];rfl) hu;cases this with
  |f h=>exact h
def Oi (S:Ty) (l:List TV):Option (S.den×Nat×List TV):=match l with
 |c::r=>(match io PT.leaf S c with|some (x,m)=>aa (x,m,r)|none=>af)
 |[]=>af
theorem K7:∀ {l I:List FV},l.map AV.f=I.map AV.f->l=I
 |[],[],_=>rfl
 |[],_::_,h=>by simp at h
 |_::_,[],h=>by simp at h
 |x::r,y::r',h=>by
  simp only[fY,iC,AV.f.injEq] at h;rw[h.1,K7 h.2]
theorem GW (h:bd):∀ (ds:List TypeDesc) (T:Ty),qg ds=aa T->∀ (n:Nat) (l:List TV) (x:T.den) (m:Nat) (r:List TV),eO PT.leaf n T l=aa (x,m,r)->∀ J,cF h l=aa J->∃ l2,cF h r=aa l2/\J=(bN T x).map .f++l2
 |[],T,hd,n,l,x,m,r,hp,J,hl=>by
  simp only[qg,aj] at hd;subst hd;cases n with
  |zero=>simp[eO] at hp
  |succ n=>
   simp only[eO,aj,aB] at hp;obtain⟨_,_,rfl⟩:=hp;exact⟨J,hl,rfl⟩
 |d::ds,T,hd,n,l,x,m,r,hp,J,hl=>by
  have plain:∀ (S:Ty),S.one=ah->(∀ t,S≠ .sl t)->∀ (v:TV) (a:S.den) (m:Nat) (y:AV),io PT.leaf S v=aa (a,m)->cg h v=aa y->y= .f (gy S a):=by
   intro S Y hns v a m y I hy;cases v with
   |f Q q=>
    simp only[io] at I;split at I
    .rename_i z hz;simp only[aj,aB] at I;obtain⟨rfl,_⟩:=I;obtain⟨e,rfl⟩:=iR hz;subst e;simp only[cg,aj] at hy;exact hy.symm
    .cases I
   |emp=>
    cases S with
    |sl t=>exact cW rfl (hns t)
    |_=>simp[io] at I
   |nil=>
    cases S with
    |sl t=>exact cW rfl (hns t)
    |_=>simp[io] at I
   |row id=>simp[io,PT.get] at I
   |fel T xs j hj off=>simp[io] at I
   |pel id sz j off=>simp[io] at I
   |ptr id off=>simp[io] at I
   |csl id off z=>simp[io] at I
   |mp id=>simp[io] at I
   |rtl id jj=>simp[io] at I
   |agg q=>simp[io] at I
   |tup q=>simp[io] at I
   |clo f q=>simp[io] at I
   |undef=>simp[io] at I
   |np=>simp[io] at I
   |anyb=>simp[io] at I
  have one:∀ (S:Ty),S.one=ah->(∀ t,S≠ .sl t)->∀ (n:Nat) (l:List TV) (a:S.den) (m:Nat) (r:List TV),eO PT.leaf n S l=aa (a,m,r)->∀ J,cF h l=aa J->∃ l2,cF h r=aa l2/\J=(bN S a).map .f++l2:=by
   intro S Y hns n l a m r hp J hl;cases n with
   |zero=>simp[eO] at hp
   |succ n=>
    cases l with
    |nil=>
     cases S with
     |int k=>cases hp
     |bool=>cases hp
     |str=>cases hp
     |sl t=>exact cW rfl (hns t)
     |_=>cases Y
    |cons c q=>
     have hpp:Oi S (c::q)=aa (a,m,r):=by
      cases S with
      |int k=>simp only[eO] at hp;simp only[Oi];cases hq:io PT.leaf (.int k) c with
       |none=>rw[hq] at hp;cases hp
       |some z=>rw[hq] at hp;exact hp
      |bool=>simp only[eO] at hp;simp only[Oi];cases hq:io PT.leaf .bool c with
       |none=>rw[hq] at hp;cases hp
       |some z=>rw[hq] at hp;exact hp
      |str=>simp only[eO] at hp;simp only[Oi];cases hq:io PT.leaf .str c with
       |none=>rw[hq] at hp;cases hp
       |some z=>rw[hq] at hp;exact hp
      |sl t=>exact cW rfl (hns t)
      |_=>cases Y
     simp only[Oi] at hpp;split at hpp
     .rename_i a1 m1 h1;simp only[aj,aB] at hpp;obtain⟨rfl,rfl,rfl⟩:=hpp;obtain⟨y,l2,rfl,g1,Z⟩:=cO hl;have:=plain S Y hns c a1 m1 y h1 g1;subst this;exact⟨l2,Z,by rw[(B_ S a1 Y).1];rfl⟩
     .cases hpp
  have two:∀ (S U:Ty),S.one=ah->(∀ t,S≠ .sl t)->qg ds=aa U->T= .pr S U->∃ l2,cF h r=aa l2/\J=(bN T x).map .f++l2:=by
   intro S U Y hns M e;subst e;cases n with
   |zero=>simp[eO] at hp
   |succ n=>
    simp only[eO] at hp;split at hp
    .rename_i x1 m1 r1 h1;split at hp
     .rename_i x2 m2 r2 h2;simp only[aj,aB] at hp;obtain⟨rfl,rfl,rfl⟩:=hp;obtain⟨l2,g1,Z⟩:=one S Y hns n l x1 m1 r1 h1 J hl;obtain⟨l3,g3,g4⟩:=GW h ds U M n r1 x2 m2 r2 h2 l2 g1;exact⟨l3,g3,by rw[Z,g4,bN,cI,jy]⟩
     .cases hp
    .cases hp
  cases d with
  |int k=>
   simp only[qg] at hd;split at hd
   .rename_i U M;simp only[aj] at hd;exact two (.int k) U rfl (λt h=>by cases h) M hd.symm
   .cases hd
  |bool=>
   simp only[qg] at hd;split at hd
   .rename_i U M;simp only[aj] at hd;exact two .bool U rfl (λt h=>by cases h) M hd.symm
   .cases hd
  |string=>
   simp only[qg] at hd;split at hd
   .rename_i U M;simp only[aj] at hd;exact two .str U rfl (λt h=>by cases h) M hd.symm
   .cases hd
  |_=>simp[qg] at hd
theorem B8:∀ (ds:List TypeDesc) (T:Ty),qg ds=aa T->∀ a b:T.den,oz ds (bN T a) (bN T b)=aa (NJ T a b)
 |[],T,hd,a,b=>by simp only[qg,aj] at hd;subst hd;rfl
 |d::ds,T,hd,a,b=>by
  cases d with
  |int k=>
   simp only[qg] at hd;split at hd
   .rename_i U M;simp only[aj] at hd;subst hd;have J:=B8 ds U M a.2 b.2;simp only[bN,fZ,ll,oz,wD,cP,bC,NJ];cases he:((a.1:Int)==b.1) with
    |true=>have I:(a.1:Int)=b.1:=by simpa using he
           simp only[J,I,dJ,oW]
    |false=>have I:¬(a.1:Int)=b.1:=by simpa using he
            simp only[I,c5,mT]
   .cases hd
  |bool=>
   simp only[qg] at hd;split at hd
   .rename_i U M;simp only[aj] at hd;subst hd;have J:=B8 ds U M a.2 b.2;simp only[bN,fZ,ll,oz,wD,NJ];cases he:((a.1:Bool)==b.1)<;>simp[he,J]
   .cases hd
  |string=>
   simp only[qg] at hd;split at hd
   .rename_i U M;simp only[aj] at hd;subst hd;have J:=B8 ds U M a.2 b.2;simp only[bN,fZ,ll,oz,wD,NJ,CJ];cases he:decide ((a.1:List UInt8)=b.1) with
    |true=>simp only[J,oW]
    |false=>simp only[mT]
   .cases hd
  |_=>simp[qg] at hd
theorem LL {u:TV} (hu:u.isC=ai) {lu:List TV} (hl:u.cs=aa lu) {ds:List TypeDesc} {T:Ty} (hd:qg ds=aa T) {a:T.den} {m:Nat} (hp:eO PT.leaf 40 T lu=aa (a,m,[])) {y:AV} (I:cg h u=aa y):Le y (.f (.agg (bN T a))):=by
 obtain⟨h1,_⟩:=LH hl I;obtain⟨l2,h2,J⟩:=GW h ds T hd 40 lu a m [] hp _ h1;simp only[cF,aj] at h2;subst h2;rw[lm] at J;cases u with
 |agg l=>
  simp only[cg] at I;split at I
  .rename_i M _;simp only[aj] at I;subst I;have:M=(bN T a).map .f:=J;rw[this];exact Le.aggOf (ny T a)
  .cases I
 |f S x=>
  simp only[cg,aj] at I;subst I;have U:S.one=ai:=hu;rw[yS] at J;have:bN S x=bN T a:=K7 J;rw[pN S x U,this];exact Le.refl _
 |tup l=>simp[TV.cs,TV.isC] at hl
 |undef=>simp[TV.cs,TV.isC] at hl
 |np=>cases hu
 |anyb=>simp[TV.cs,TV.isC] at hl
 |fel T xs j hj off=>cases hu
 |pel id sz j off=>cases hu
 |ptr id off=>cases hu
 |csl id off z=>cases hu
 |row id=>cases hu
 |emp=>cases hu
 |nil=>cases hu
 |mp id=>cases hu
 |rtl id Y=>cases hl
 |clo g l=>cases hu
variable (hinv:lJ h nx) (hi:sr e h)
include hinv hi
theorem ajd {con:FuncId->Option ch} {bX:TypeId->Option Ty} {neg:Bool} {ds:List TypeDesc} {x y:Operand} {st:Bool} (hc:c9 P o.op=aa (.eqs neg ds x y)) (hk:dM con bX (.op (.eqs neg ds x y)) e h nx K=aa r):kr P o st e h nx K r:=by
 obtain⟨H,hH⟩:=jw h;simp only[dM] at hk;split at hk
 .rename_i T u v hd hu hv;split at hk
  .cases hk
  .rename_i hcc;simp only[iD,not_or,Bool.not_eq_true] at hcc;split at hk
   .rename_i lu lv hlu hlv;split at hk
    .rename_i a m1 b m2 hpa hpb;obtain⟨yu,h1,h2⟩:=bG hi hu;obtain⟨yv,h3,h4⟩:=bG hi hv;obtain⟨⟨⟨U,M⟩,hc3⟩,Z⟩:=hcc;have l1:=LL U hlu hd hpa h2;have l2:=LL M hlv hd hpb h4;have tmp:∀ (z:Operand) (q:TV),fk e z=aa q->q.isC=ai->RY z=ai->∃ t,z= .tmp t:=by
      intro z q I hq hg;cases z with
      |tmp t=>exact⟨t,rfl⟩
      |const c=>
       have I:cst c=aa q:=by
        simp only[fk,aeg] at I;split at I
        .cases hg
        .exact I
       have:=(II h I).2.2;rw[hq] at this;cases this
      |func g=>simp only[fk,aj] at I;subst I;cases hq
      |global g=>
       simp only[fk] at I;split at I
       .cases I;cases hq
       .cases I
     obtain⟨t,rfl⟩:=tmp x u hu U hc3;obtain⟨t',rfl⟩:=tmp y v hv M Z;have same:t=t'->bN T a=bN T b:=by
      intro ht;subst ht;rw[hu] at hv;cases hv;rw[hlu] at hlv;cases hlv;rw[hpa] at hpb;cases hpb;rfl
     let J:yA:=((JB e h).set t (aa (.f (.agg (bN T a))))).set t' (aa (.f (.agg (bN T b))))
     have e1:mh J (.tmp t)=aa (.f (.agg (bN T a))):=by
      simp only[mh,J,PT.get_set];by_cases ht:t=t'
      .rw[aI ht,same ht]
      .rw[aC ht];simp
     have e2:mh J (.tmp t')=aa (.f (.agg (bN T b))):=by simp only[mh,J,PT.get_set,bC]
     have ha:eE (.eqs neg ds (.tmp t) (.tmp t')) J H 0=aa ⟨raw (.bool (NJ T a b !=neg)),[],[],[],[]⟩:=by
      simp only[eE,e1,e2,B8 ds T hd a b];rfl
     have ht:=GZ hc ha;rw[hH] at ht;have Y:gz P o (fE e h) (bw h) _:=ht.envLe (e2:=fE e h) λs z _ I=>by
      simp only[J,PT.get_set] at I;rw[<- ud];simp only[mh] at h1 h3;split at I
      .rename_i es;subst es;cases I;exact⟨yv,h3,l2⟩
      .split at I
       .rename_i es;subst es;cases I;exact⟨yu,h1,l1⟩
       .exact⟨z,I,Le.refl _⟩
     refine ⟨_,0,0,h,nx,hk,⟨⟨_,Y,λy hy=>?_,by simp[AX.eff,sJ],by simp[AX.eff],by simp[AX.eff],by simp[AX.eff]⟩,λ_ _ h=>h,hinv,bO _,λ_=>⟨rfl,rfl⟩⟩⟩;simp only[cg,aj] at hy;exact hy
    .cases hk
   .cases hk
 .cases hk
theorem aj2 {con:FuncId->Option ch} {bX:TypeId->Option Ty} (hc:c9 P o.op=aa .mkm) (hk:dM con bX (.op .mkm) e h nx K=aa r):kr P o ai e h nx K r:=by
 have _:=hi;obtain⟨H,M⟩:=jw h;refine ⟨_,_,_,_,_,hk,iY.new hinv hc M (y0:=.mp (nm nx)) (rdl:=[]) (b0:=⟨0,.mp []⟩) rfl (dO.zero h) (λ_ _ he=>by cases he) (λY U d g b' I=>?_) (λY U y d g J=>?_) (by simp)⟩
 .cases I;exact jV.refl d _
 .simp only[cg,aj] at J;subst J;exact lq.refl d _
theorem agd {con:FuncId->Option ch} {bX:TypeId->Option Ty} {x:Operand} (hc:c9 P o.op=aa (.lenm x)) (hk:dM con bX (.op (.lenm x)) e h nx K=aa r):kr P o ai e h nx K r:=by
 obtain⟨H,J⟩:=jw h;simp only[dM] at hk;split at hk
 .rename_i id hv;split at hk
  .rename_i K' V es hb;obtain⟨y,h1,h2⟩:=bG hi hv;simp only[cg,aj] at h2;subst h2;split at hk
   case isFalse=>cases hk
   rename_i hO;have hg:H.get (nm id)=aa ⟨0,.mp (es.map λp=>(o9 K' p.1,.f (gy V p.2)))⟩:=by rw[J,bE,hb];show aa (vN.mk 0 (Ya K' V es))=_;rw[Aw hO]
   exact⟨_,_,_,_,_,hk,iY.pure (k:=0) hinv hc J (y0:=raw (.int .i64 es.length)) (rdl:=[nm id]) (by simp only[eE,h1,hg,bS]) (λy I=>by simp only[cg,aj] at I;subst I;exact Le.refl _) (λn hn=>by simp only[aK] at hn;subst hn;rw[dW];exact bY.2 rfl) (λh=>by cases h)⟩
  .cases hk
 .cases hk
theorem aj6 {con:FuncId->Option ch} {bX:TypeId->Option Ty} {str:Bool} {z:Value} {x k:Operand} (hc:c9 P o.op=aa (.lku str z x k)) (hk:dM con bX (.op (.lku str z x k)) e h nx K=aa r):kr P o ai e h nx K r:=by
 obtain⟨H,Y⟩:=jw h;simp only[dM] at hk;split at hk
 .rename_i id KT kv hv U;split at hk
  .rename_i K' V es hb;split at hk
   .rename_i J;obtain⟨y,h1,h2⟩:=bG hi hv;obtain⟨y2,h3,h4⟩:=bG hi U;simp only[cg,aj] at h2 h4;subst h2;subst h4;simp only[au] at J;have hg:H.get (nm id)=aa ⟨0,.mp (es.map λp=>(o9 K' p.1,.f (gy V p.2)))⟩:=by rw[Y,bE,hb];show aa (vN.mk 0 (Ya K' V es))=_;rw[Aw J.2]
    obtain⟨_,hok,henc⟩:=Mn J.1 kv kv;rw[henc] at h3;have hrd:∀ n∈[nm id],aL (kL id) (ow n)=ah:=λn hn=>by simp only[aK] at hn;subst hn;rw[dW];exact bY.2 rfl
    split at hk
    .rename_i hE;split at hk
     .rename_i v M;have hzz:=(II h M).1;exact⟨_,_,_,_,_,hk,iY.pure (k:=0) hinv hc Y (y0:=raw z) (rdl:=[nm id]) (by simp only[eE,h1,h3,hg,hok,bC,RM hE,r9]) (λy I=>by rw[hzz] at I;cases I;exact Le.refl _) hrd (λh=>by cases h)⟩
     .cases hk
    .split at hk
     .rename_i kv' Z zv hkv M;split at hk
      .rename_i zv' hzv;obtain⟨e1,e2⟩:=iR hkv;cases e1;subst e2;obtain⟨e3,e4⟩:=iR hzv;cases e3;subst e4;have hzz:=(II h M).1;simp only[cg,aj] at hzz;refine ⟨_,_,_,_,_,hk,iY.pure (k:=0) hinv hc Y (y0:=.f (gy _ (wS kv' es zv'))) (rdl:=[nm id]) ?_ (λy I=>by simp only[cg,aj] at I;subst I;exact Le.refl _) hrd (λh=>by cases h)⟩;simp only[eE,h1,h3,hg,hok,bC,Ov J.1];unfold wS;cases hf:wT kv' es with
       |none=>simp only[Option.map_none];rw[hzz]
       |some v=>rfl
      .cases hk
     .cases hk
   .cases hk
  .cases hk
 .cases hk
theorem aj1 {con:FuncId->Option ch} {bX:TypeId->Option Ty} {str:Bool} {x k v:Operand} (hc:c9 P o.op=aa (.mup str x k v)) (hk:dM con bX (.op (.mup str x k v)) e h nx K=aa r):kr P o ai e h nx K r:=by
 obtain⟨H,hH⟩:=jw h;simp only[dM] at hk;split at hk
 .rename_i id KT U VT vv hv Z Y;split at hk
  .rename_i K' V es hb;split at hk
   .rename_i J;simp only[au] at J;obtain⟨y,h1,h2⟩:=bG hi hv;obtain⟨y2,h3,h4⟩:=bG hi Z;obtain⟨y3,h5,h6⟩:=bG hi Y;simp only[cg,aj] at h2 h4 h6;subst h2;subst h4;subst h6;have hg:H.get (nm id)=aa ⟨0,.mp (es.map λp=>(o9 K' p.1,.f (gy V p.2)))⟩:=by rw[hH,bE,hb];show aa (vN.mk 0 (Ya K' V es))=_;rw[Aw J.2]
    obtain⟨_,hok,henc⟩:=Mn J.1.1 U U;rw[henc] at h3;have hrd:∀ n∈[nm id],aL (kL id) (ow n)=ah:=λn hn=>by simp only[aK] at hn;subst hn;rw[dW];exact bY.2 rfl
    split at hk
    .rename_i hE;exact⟨_,_,_,_,_,hk,iY.wrt (k:=0) (m:=0) (v:=.undef) (rd:=kL id) hinv hc hH (y0:=raw undef) (b0:=⟨0,.mp [(o9 KT U,.f (gy VT vv))]⟩) (rdl:=[nm id]) (by simp only[eE,h1,h3,h5,hg,hok,bC,RM hE,xJ]) (B:=.mp KT VT [(U,vv)]) hb (dO.zero h) (by simp) rfl (λty' l2 he=>by cases he) (λH1 H2 d g b' I=>by simp only[kq,Aw (UB J.1.1),aj] at I;subst I;exact jV.refl d _) (λH1 H2 y d g M=>by simp only[cg,aj] at M;subst M;exact lq.refl d _) hrd⟩
    .split at hk
     .rename_i kv' vv' hkv hvv;obtain⟨e1,e2⟩:=iR hkv;cases e1;subst e2;obtain⟨e3,e4⟩:=iR hvv;cases e3;subst e4;exact⟨_,_,_,_,_,hk,iY.wrt (k:=0) (m:=0) (v:=.undef) (rd:=kL id) hinv hc hH (y0:=raw undef) (b0:=⟨0,.mp ((De kv' vv' es).map λp=>(o9 _ p.1,.f (gy _ p.2)))⟩) (rdl:=[nm id]) (by simp only[eE,h1,h3,h5,hg,hok,bC,Uy J.1.1]) (B:=.mp _ _ (De kv' vv' es)) hb (dO.zero h) (by simp) rfl (λty' l2 he=>by cases he) (λH1 H2 d g b' I=>by simp only[kq,Aw (UB J.1.1),aj] at I;subst I;exact jV.refl d _) (λH1 H2 y d g M=>by simp only[cg,aj] at M;subst M;exact lq.refl d _) hrd⟩
     .cases hk
   .cases hk
  .cases hk
 .cases hk
theorem aiy {con:FuncId->Option ch} {bX:TypeId->Option Ty} {x:Operand} (hc:c9 P o.op=aa (.rng x)) (hk:dM con bX (.op (.rng x)) e h nx K=aa r):kr P o ai e h nx K r:=by
 obtain⟨H,M⟩:=jw h;simp only[dM] at hk;split at hk
 .rename_i s hv;obtain⟨y,h1,h2⟩:=bG hi hv;simp only[cg,aj] at h2;subst h2;refine ⟨_,_,_,_,_,hk,iY.new hinv hc M (y0:=.ptr (nm nx) 0) (rdl:=[]) (b0:=⟨0,.it ⟨kg s⟩ 0⟩) (by simp only[eE,h1];rfl) (dO.zero h) (λ_ _ he=>by cases he) (λY U d g b' I=>?_) (λY U y d g J=>?_) (by simp)⟩
  .cases I;exact jV.refl d _
  .simp only[cg,aj] at J;subst J;exact lq.refl d _
 .cases hk
theorem aiz {con:FuncId->Option ch} {bX:TypeId->Option Ty} {x:Operand} (hc:c9 P o.op=aa (.nxt x)) (hk:dM con bX (.op (.nxt x)) e h nx K=aa r):kr P o ai e h nx K r:=by
 obtain⟨H,M⟩:=jw h;simp only[dM] at hk;split at hk
 .rename_i id hv;split at hk
  .rename_i K' V es hb;split at hk
   .rename_i s p Z;obtain⟨y,h1,h2⟩:=bG hi hv;simp only[cg,aj] at h2;subst h2;have hg:H.get (nm id)=aa ⟨0,.it ⟨kg s⟩ p⟩:=by rw[M,bE,hb];show aa (vN.mk 0 (Ya K' V es))=_;rw[ae9 Z]
    have hrd:∀ n∈[nm id],aL (kL id) (ow n)=ah:=λn hn=>by simp only[aK] at hn;subst hn;rw[dW];exact bY.2 rfl
    rcases oU hk with ⟨hp,hk⟩|⟨hp,hk⟩
    .obtain⟨hj,hk⟩:=dX hk;have hp:=aY hp;have e2:(⟨kg s⟩:ByteArray).data.toList[p]? =aa (List.getD s p 0):=by
      show s[p]? =_;rw[ax,ay hp];rfl
     have e3:fV (List.getD s p 0).toNat 128=ah:=by
      have hj:(aN (List.getD s p 0).toNat:Int)<128:=bm hj;exact bD (Int.ofNat_lt.1 hj)
     exact⟨_,_,_,_,_,hk,iY.wrt (k:=0) (m:=0) (rd:=kL id) hinv hc M (y0:=.tup [raw (.bool ah),raw (.int .i64 p),raw (.int .i32 (List.getD s p 0).toNat)]) (b0:=⟨0,.it ⟨kg s⟩ (p+1)⟩) (rdl:=[nm id]) (by simp only[eE,h1,hg,e2,e3,bC]) (B:=.mp itK .un [((s,aN (p+1)),())]) hb (dO.zero h) (by simp) rfl (λty' l2 he=>by cases he) (λY U d g b' I=>by cases I;exact jV.refl d _) (λY U y d g J=>by cases J;exact lq.refl d _) hrd⟩
    .have hp:s.length<=p:=Nat.not_lt.1 λq=>by rw[show fV p s.length=ah from bD q] at hp;cases hp
     have e2:(⟨kg s⟩:ByteArray).data.toList[p]? =af:=by
      show s[p]? =_;exact bK hp
     exact⟨_,_,_,_,_,hk,iY.wrt (k:=0) (m:=0) (rd:=kL id) hinv hc M (y0:=.tup [raw (.bool ai)]) (b0:=⟨0,.it ⟨kg s⟩ p⟩) (rdl:=[nm id]) (by simp only[eE,h1,hg,e2]) (B:=.mp itK .un [((s,aN p),())]) hb (dO.zero h) (by simp) rfl (λty' l2 he=>by cases he) (λY U d g b' I=>by cases I;exact jV.refl d _) (λY U y d g J=>by cases J;exact lq.refl d _) hrd⟩
   .cases hk
  .cases hk
 .cases hk
theorem K_op {con:FuncId->Option ch} {bX:TypeId->Option Ty} {s:WZ} (hc:c9 P o.op=aa s) (hk:dM con bX (.op s) e h nx K=aa r):kr P o s.still e h nx K r:=by
 cases s with
 |mv x=>exact K_mv hinv hi hc hk
 |pick c a b=>exact ag8 hinv hi hc hk
 |alloc ty z=>exact acg hinv hi hc hk
 |box ty x=>exact ajh hinv hi hc hk
 |build z parts=>exact acf hinv hi hc hk
 |bsl ty sz len z parts=>exact ajg hinv hi hc hk
 |load sz ag x=>exact agb hinv hi hc hk
 |store sz x v=>exact acb hinv hi hc hk
 |nilc x=>exact ag9 hinv hi hc hk
 |bin op x y=>exact aji hinv hi hc hk
 |eqs neg ds x y=>exact ajd hinv hi hc hk
 |eqb neg x y=>exact aje hinv hi hc hk
 |isnil neg x=>exact ace hinv hi hc hk
 |not x=>exact aj0 hinv hi hc hk
 |conv k x=>exact agh hinv hi hc hk
 |mksl ty sz bytes z l c=>exact aga hinv hi hc hk
 |slc sz x lo I mx=>exact aiw hinv hi hc hk
 |fad off x=>exact ajb hinv hi hc hk
 |fld off sz ag x=>exact aja hinv hi hc hk
 |iad sz x i=>exact aj9 hinv hi hc hk
 |idx n sz ag x i=>exact aj8 hinv hi hc hk
 |iada n sz x i=>exact age hinv hi hc hk
 |ext x i=>exact ajc hinv hi hc hk
 |len x=>exact aj7 hinv hi hc hk
 |lens x=>exact agc hinv hi hc hk
 |max x y=>exact aj5 hinv hi hc hk
 |min x y=>exact aj4 hinv hi hc hk
 |sidx x i=>exact ag7 hinv hi hc hk
 |app ty sz bytes s x=>exact ajj hinv hi hc hk
 |copy sz d x=>exact agf hinv hi hc hk
 |clr sz z x=>exact ajf hinv hi hc hk
 |mkf f caps=>exact aj3 hinv hi hc hk
 |mkm=>exact aj2 hinv hi hc hk
 |rng x=>exact aiy hinv hi hc hk
 |nxt x=>exact aiz hinv hi hc hk
 |lenm x=>exact agd hinv hi hc hk
 |lku str z x k=>exact aj6 hinv hi hc hk
 |mup str x k v=>exact aj1 hinv hi hc hk
 |_=>simp[dM] at hk
end ops
mutual
def AV.ren (g:Nat->Nat):AV->AV
 |.f x=>.f x
 |.ptr id off=>.ptr (g id) off
 |.sl id off n=>.sl (g id) off n
 |.row id sz n=>.row (g id) sz n
 |.mp id=>.mp (g id)
 |.emp=>.emp
 |.anyb=>.anyb
 |.agg l=>.agg (AV.renL g l)
 |.tup l=>.tup (AV.renL g l)
 |.clo q l=>.clo q (AV.renL g l)
def AV.renL (g:Nat->Nat):List AV->List AV
 |[]=>[]
 |x::r=>x.ren g::AV.renL g r
end
theorem nU (g:Nat->Nat):∀ l,AV.renL g l=l.map (AV.ren g)
 |[]=>rfl
 |x::r=>by rw[AV.renL,nU g r];rfl
theorem Bt (g:Nat->Nat) (x:AV):(x.ren g).isCell=x.isCell:=by cases x<;>rfl
theorem cG.renTo {φ φ':PM} {g:Nat->Nat} {O:Nat->Prop} {w:World} (hk:∀ i k,φ i=aa k->φ' (g i)=aa k) {x:AV} {v:Value} (h:cG φ O w x v):cG φ' O w (x.ren g) v:=by
 induction h with
 |f h=>exact .f h
 |ptr h=>exact .ptr (hk _ _ h)
 |sl h hn hc=>exact .sl (hk _ _ h) hn hc
 |row h hn hc hsh=>exact .row (hk _ _ h) hn hc hsh
 |emp=>exact .emp
 |anyb=>exact .anyb
 |mp h=>exact .mp (hk _ _ h)
 |agg hl hcl hr M=>
  simp only[AV.ren,nU];refine .agg (by simpa using hl) (λx I=>?_) λj x v I hv=>?_
  .obtain⟨y,J,rfl⟩:=dc.1 I;rw[Bt];exact hcl y J
  .rw[aZ] at I;obtain⟨y,J,rfl⟩:=jx.1 I;exact M j y v J hv
 |tup hl hr M=>
  simp only[AV.ren,nU];refine .tup (by simpa using hl) λj x v I hv=>?_
  rw[aZ] at I;obtain⟨y,J,rfl⟩:=jx.1 I;exact M j y v J hv
 |clo hl hr M=>
  simp only[AV.ren,nU];refine .clo (by simpa using hl) λj x v I hv=>?_
  rw[aZ] at I;obtain⟨y,J,rfl⟩:=jx.1 I;exact M j y v J hv
theorem cG.renFrom {φ φ':PM} {g:Nat->Nat} {O:Nat->Prop} {w:World} {p:Nat->Bool} (hk:∀ i k,p i=ah->φ (g i)=aa k->φ' i=aa k) {z:AV} {v:Value} (h:cG φ O w z v):∀ x:AV,x.all p=ah->z=x.ren g->cG φ' O w x v:=by
 induction h with
 |f h=>intro x hp e;cases x<;>simp only[AV.ren,reduceCtorEq] at e;cases e;exact .f h
 |ptr h=>intro x hp e;cases x<;>simp only[AV.ren,reduceCtorEq] at e;cases e;exact .ptr (hk _ _ hp h)
 |sl h hn hc=>intro x hp e;cases x<;>simp only[AV.ren,reduceCtorEq] at e;cases e;exact .sl (hk _ _ hp h) hn hc
 |row h hn hc hsh=>intro x hp e;cases x<;>simp only[AV.ren,reduceCtorEq] at e;cases e;exact .row (hk _ _ hp h) hn hc hsh
 |emp=>intro x hp e;cases x<;>simp only[AV.ren,reduceCtorEq] at e;exact .emp
 |anyb=>intro x hp e;cases x<;>simp only[AV.ren,reduceCtorEq] at e;exact .anyb
 |mp h=>intro x hp e;cases x<;>simp only[AV.ren,reduceCtorEq] at e;cases e;exact .mp (hk _ _ hp h)
 |agg hl hcl hr J=>
  intro x hp e;cases x<;>simp only[AV.ren,reduceCtorEq] at e;rename_i l;cases e;rw[nU] at hl hcl hr J;refine .agg (by simpa using hl) (λx I=>?_) λj x v I hv=>?_
  .have:=hcl (x.ren g) (dc.2 ⟨x,I,rfl⟩);rwa [Bt] at this
  .exact J j (x.ren g) v (by rw[aZ,I];rfl) hv x (lH hp x (a8 I)) rfl
 |tup hl hr J=>
  intro x hp e;cases x<;>simp only[AV.ren,reduceCtorEq] at e;rename_i l;cases e;rw[nU] at hl hr J;refine .tup (by simpa using hl) λj x v I hv=>?_
  exact J j (x.ren g) v (by rw[aZ,I];rfl) hv x (lH hp x (a8 I)) rfl
 |clo hl hr J=>
  intro x hp e;cases x<;>simp only[AV.ren,reduceCtorEq] at e;rename_i l;cases e;rw[nU] at hl hr J;refine .clo (by simpa using hl) λj x v I hv=>?_
  exact J j (x.ren g) v (by rw[aZ,I];rfl) hv x (lH hp x (a8 I)) rfl
def BC.ren (g:Nat->Nat):BC->BC
 |.fz l=>.fz l
 |.mx l=>.mx (l.map (AV.ren g))
 |.mp es=>.mp (es.map λp=>(p.1,p.2.ren g))
 |.it s p=>.it s p
def vN.ren (g:Nat->Nat) (b:vN):vN:=⟨b.ty,b.c.ren g⟩
theorem jd.renTo {φ φ':PM} {g:Nat->Nat} {O O':Nat->Prop} {w:World} (hk:∀ x v,cG φ O w x v->cG φ' O' w (x.ren g) v) {b:vN} {o:Obj} (h:jd φ O w b o):jd φ' O' w (b.ren g) o:=by
 obtain⟨ty,c⟩:=b;unfold jd at h ⊢;simp only[vN.ren];cases c with
 |fz l=>
  simp only[BC.ren];obtain⟨arr,h1,h2,J⟩:=h;refine ⟨arr,h1,h2,λj x I=>?_⟩;obtain⟨a,v,c,d⟩:=J j x I;simp only[BC.get] at I;obtain⟨q,_,rfl⟩:=jx.1 I;exact⟨a,v,c,hk _ _ d⟩
 |mx l=>
  simp only[BC.ren];obtain⟨arr,h1,h2,J⟩:=h;refine ⟨arr,h1,by simpa[BC.len] using h2,λj x I=>?_⟩;simp only[BC.get,aZ] at I;obtain⟨q,hq,rfl⟩:=jx.1 I;obtain⟨a,v,c,d⟩:=J j q hq;exact⟨by rw[Bt];exact a,v,c,hk _ _ d⟩
 |mp es=>
  simp only[BC.ren];obtain⟨e,c,h1,h2,J⟩:=h;refine ⟨e,c,h1,by rw[h2,yF];rfl,λj x I=>?_⟩;rw[aZ] at I;obtain⟨q,hq,rfl⟩:=jx.1 I;obtain⟨m,a,b⟩:=J j q hq;exact⟨m,a,hk _ _ b⟩
 |it s p=>exact h
theorem jd.renFrom {φ φ':PM} {g:Nat->Nat} {O O':Nat->Prop} {w:World} {p:Nat->Bool} (hk:∀ x v,x.all p=ah->cG φ O w (x.ren g) v->cG φ' O' w x v) {b:vN} (hb:b.c.all p=ah) {o:Obj} (h:jd φ O w (b.ren g) o):jd φ' O' w b o:=by
 obtain⟨ty,c⟩:=b;unfold jd at h ⊢;simp only[vN.ren] at h;cases c with
 |fz l=>
  simp only[BC.ren] at h;obtain⟨arr,h1,h2,J⟩:=h;refine ⟨arr,h1,h2,λj x I=>?_⟩;obtain⟨a,v,c,d⟩:=J j x I;simp only[BC.get] at I;obtain⟨q,_,rfl⟩:=jx.1 I;exact⟨a,v,c,hk _ _ rfl d⟩
 |mx l=>
  simp only[BC.ren] at h;obtain⟨arr,h1,h2,J⟩:=h;refine ⟨arr,h1,by simpa[BC.len] using h2,λj x I=>?_⟩;simp only[BC.get] at I;obtain⟨a,v,c,d⟩:=J j (x.ren g) (by simp only[BC.get,aZ,I];rfl);rw[Bt] at a;exact⟨a,v,c,hk _ _ (lH hb x (a8 I)) d⟩
 |mp es=>
  simp only[BC.ren] at h;obtain⟨e,c,h1,h2,J⟩:=h;refine ⟨e,c,h1,by rw[h2,yF];rfl,λj x I=>?_⟩;obtain⟨m,a,b⟩:=J j (x.1,x.2.ren g) (by rw[aZ,I];rfl);exact⟨m,a,hk _ _ (lH hb x.2 (dc.2 ⟨x,a8 I,rfl⟩)) b⟩
 |it s p=>exact h
mutual
def Bv (g:Nat->Nat):TV->TV
 |.row i=>.row (g i)
 |.rtl i j=>.rtl (g i) j
 |.agg l=>.agg (j_ g l)
 |.tup l=>.tup (j_ g l)
 |.clo q l=>.clo q (j_ g l)
 |.f T v=>.f T v
 |.fel T xs j h off=>.fel T xs j h off
 |.pel a b c d=>.pel (g a) b c d
 |.ptr a b=>.ptr (g a) b
 |.csl a b c=>.csl (g a) b c
 |.emp=>.emp
 |.nil=>.nil
 |.mp i=>.mp (g i)
 |.undef=>.undef
 |.np=>.np
 |.anyb=>.anyb
def j_ (g:Nat->Nat):List TV->List TV
 |[]=>[]
 |x::r=>Bv g x::j_ g r
end
theorem yH (g:Nat->Nat):∀ l,j_ g l=l.map (Bv g)
 |[]=>rfl
 |x::r=>by rw[j_,yH g r];rfl
def lw (g:Nat->Nat):hZ->hZ
 |.cells ty l=>.cells ty (j_ g l)
 |.rows ty p T xs=>.rows ty p T xs
 |.dead p sz n=>.dead p sz n
 |.mp K V es=>.mp K V es
theorem GF (g:Nat->Nat) (b:hZ):mj (lw g b)=mj b:=by cases b<;>rfl
def Gg (g:Nat->Nat) (n:Nat):Nat:=nm (g (ow n))
theorem wA (g:Nat->Nat) (i:Nat):Gg g (nm i)=nm (g i):=by unfold Gg;rw[dW]
mutual
theorem aee {g:Nat->Nat} {h1 h2:bd} (hrow:∀ i r,ec h1 i=aa r->ec h2 (g i)=aa r):∀ (v:TV) (y:AV),cg h1 v=aa y->cg h2 (Bv g v)=aa (y.ren (Gg g))
 |.f _ _,y,he=>by simp only[cg,aj] at he;subst he;rfl
 |.fel _ _ _ _ _,y,he=>by simp only[cg,aj] at he;subst he;rfl
 |.pel _ _ _ _,y,he=>by simp only[cg,aj] at he;subst he;simp only[Bv,cg,AV.ren,wA]
 |.ptr _ _,y,he=>by simp only[cg,aj] at he;subst he;simp only[Bv,cg,AV.ren,wA]
 |.csl _ _ _,y,he=>by simp only[cg,aj] at he;subst he;simp only[Bv,cg,AV.ren,wA]
 |.row id,y,he=>by
  simp only[cg] at he;split at he
  .rename_i p sz n hr;simp only[aj] at he;subst he;simp only[Bv,cg,hrow id _ hr];unfold eY;split
   .rfl
   .simp only[AV.ren,wA]
  .cases he
 |.rtl id jj,y,he=>by
  simp only[cg] at he;split at he
  .rename_i p sz n hr;simp only[aj] at he;subst he;simp only[Bv,cg,hrow id _ hr,AV.ren,wA]
  .cases he
 |.emp,y,he=>by simp only[cg,aj] at he;subst he;rfl
 |.nil,y,he=>by simp only[cg,aj] at he;subst he;rfl
 |.mp _,y,he=>by simp only[cg,aj] at he;subst he;simp only[Bv,cg,AV.ren,wA]
 |.agg l,y,he=>by
  simp only[cg] at he;split at he
  .rename_i l' hl;simp only[aj] at he;subst he;simp only[Bv,cg,pM hrow l l' hl,AV.ren]
  .cases he
 |.tup l,y,he=>by
  simp only[cg] at he;split at he
  .rename_i l' hl;simp only[aj] at he;subst he;simp only[Bv,cg,pM hrow l l' hl,AV.ren]
  .cases he
 |.clo q l,y,he=>by
  simp only[cg] at he;split at he
  .rename_i l' hl;simp only[aj] at he;subst he;simp only[Bv,cg,pM hrow l l' hl,AV.ren]
  .cases he
 |.undef,y,he=>by simp only[cg,aj] at he;subst he;rfl
 |.np,y,he=>by simp only[cg,aj] at he;subst he;rfl
 |.anyb,y,he=>by simp only[cg,aj] at he;subst he;rfl
theorem pM {g:Nat->Nat} {h1 h2:bd} (hrow:∀ i r,ec h1 i=aa r->ec h2 (g i)=aa r):∀ (l:List TV) (l':List AV),cF h1 l=aa l'->cF h2 (j_ g l)=aa (AV.renL (Gg g) l')
 |[],l',he=>by simp only[cF,aj] at he;subst he;rfl
 |x::r,l',he=>by
  obtain⟨y,l2,rfl,e1,e2⟩:=cO he;exact oy (aee hrow x y e1) (pM hrow r l2 e2)
end
theorem B7 {g:Nat->Nat} {h1 h2:bd} (hrow:∀ i r,ec h1 i=aa r->ec h2 (g i)=aa r) {b:hZ} {y:vN} (he:kq h1 b=aa y):kq h2 (lw g b)=aa (y.ren (Gg g)):=by
 cases b with
 |rows ty p T xs=>
  simp only[kq] at he;split at he
  .cases he
  .rename_i hc;simp only[aj] at he;subst he;simp only[lw,kq,aC hc];rfl
 |cells ty l=>
  simp only[kq] at he;split at he
  .rename_i I hl;simp only[aj] at he;subst he;simp only[lw,kq,pM hrow l I hl,nU];rfl
  .cases he
 |dead p sz n=>cases he
 |mp K V es=>
  simp only[kq,aj] at he;subst he;simp only[lw,kq,vN.ren,aj,vN.mk.injEq,Ab];unfold Ya;split
  .rfl
  .simp only[BC.ren,yF];rfl
theorem Bu (g:Nat->Nat) (a b:List TV):j_ g (a++b)=j_ g a++j_ g b:=by
 rw[yH,yH,yH,cI]
theorem o_ (g:Nat->Nat):∀ (n:Nat) (T:Ty) (v:T.den) (l:List TV),cellsOf n T v=aa l->j_ g l=l
 |0,_,_,_,he=>by simp[cellsOf] at he
 |n+1,.st t,v,l,he=>o_ g n t v l he
 |n+1,.pr a b,v,l,he=>by
  simp only[cellsOf] at he;split at he
  .rename_i x y J I;simp only[aj] at he;subst he;rw[Bu,o_ g n a v.1 x J,o_ g n b v.2 y I]
  .cases he
 |n+1,.un,v,l,he=>by simp only[cellsOf,aj] at he;subst he;rfl
 |n+1,.ex,v,l,he=>o_ g n Li (L2 v) l he
 |n+1,.sm,v,l,he=>o_ g n KQ (L1 v) l he
 |n+1,.int k,v,l,he=>by simp only[cellsOf,aj] at he;subst he;rfl
 |n+1,.bool,v,l,he=>by simp only[cellsOf,aj] at he;subst he;rfl
 |n+1,.str,v,l,he=>by simp only[cellsOf,aj] at he;subst he;rfl
 |n+1,.sl t,v,l,he=>by simp only[cellsOf,aj] at he;subst he;rfl
abbrev Ga:Nat->Nat:=λi=>i
mutual
theorem XX (g:Nat->Nat):∀ (p:PV) (x:p.ty.den),pf g p x=(pf Ga p x).map (j_ g)
 |.d T,x=>by
  simp only[pf];cases h:cellsOf 40 T x with
  |none=>rfl
  |some l=>simp only[b8,o_ g 40 T x l h]
 |.ptr i o,x=>rfl
 |.csl i o z,x=>rfl
 |.clo q i o,x=>rfl
 |.row i,x=>rfl
 |.mp i,x=>rfl
 |.nil,x=>rfl
 |.emp,x=>rfl
 |.agg ps,x=>yI g ps x
theorem yI (g:Nat->Nat):∀ (ps:List PV) (x:(PV.tyL ps).den),qe g ps x=(qe Ga ps x).map (j_ g)
 |[],x=>rfl
 |p::r,x=>by
  simp only[qe];rw[XX g p,yI g r];cases pf Ga p (MM p.ty (PV.tyL r) x) with
  |none=>rfl
  |some a=>
   cases qe Ga r (JF p.ty (PV.tyL r) x) with
   |none=>rfl
   |some b=>simp only[b8,Bu]
end
def aeq (o:Option (List TV)):Option TV:=match o with|some l=>aa (.agg l)|none=>af
theorem Zf (g:Nat->Nat) (o:Option (List TV)):aeq (o.map (j_ g))=(aeq o).map (Bv g):=by cases o<;>rfl
theorem XV (g:Nat->Nat) (p:PV) (x:p.ty.den):r7 g p x=(r7 Ga p x).map (Bv g):=by
 cases p with
 |agg ps=>exact (gx aeq (yI g ps x)).trans (Zf g _)
 |_=>rfl
theorem sw (g:Nat->Nat):∀ (ps:List PV) (x:(PV.tyL ps).den),pm g ps x=(pm Ga ps x).map (j_ g)
 |[],x=>rfl
 |p::r,x=>by
  simp only[pm];rw[XV g p,sw g r];cases r7 Ga p (MM p.ty (PV.tyL r) x) with
  |none=>rfl
  |some a=>
   cases pm Ga r (JF p.ty (PV.tyL r) x) with
   |none=>rfl
   |some b=>rfl
def Tz (ty:TypeId) (o:Option (List TV)):Option (Option hZ):=match o with|some l=>aa (aa (.cells ty l))|none=>af
theorem Tx (g:Nat->Nat) (ty:TypeId) (o:Option (List TV)):Tz ty (o.map (j_ g))=(Tz ty o).map (lj (lw g)):=by cases o<;>rfl
theorem XY (g:Nat->Nat) (b:PB) (x:b.ty.den):Bz g b x=(Bz Ga b x).map (lj (lw g)):=by
 cases b with
 |cells ty ps=>exact (gx (Tz ty) (yI g ps x)).trans (Tx g ty _)
 |_=>rfl
theorem uR (g:Nat->Nat):∀ (bs:List PB) (x:(PB.tyL bs).den),nV g bs x=(nV Ga bs x).map (List.map (lj (lw g)))
 |[],x=>rfl
 |b::r,x=>by
  simp only[nV];rw[XY g b,uR g r];cases Bz Ga b (MM b.ty (PB.tyL r) x) with
  |none=>rfl
  |some a=>
   cases nV Ga r (JF b.ty (PB.tyL r) x) with
   |none=>rfl
   |some l=>rfl
theorem By (g:Nat->Nat):∀ (bs:List PB) (x:(PB.tyL bs).den) (l:List (Option hZ)),nV g bs x=aa l->l.length=bs.length
 |[],x,l,h=>by simp only[nV,aj] at h;subst h;rfl
 |b::r,x,l,h=>by
  simp only[nV] at h;split at h
  .split at h
   .rename_i q hq;simp only[aj] at h;subst h;simp[By g r _ q hq]
   .cases h
  .cases h
theorem HN (h:bd) (i j:Nat):(kill h i).get j=if j=i then (h.get i).map tZ else h.get j:=by
 unfold kill;cases hb:h.get i with
 |none=>
  simp only[Option.map_none];split
  .rename_i e;rw[e,hb]
  .rfl
 |some b=>rw[PT.get_set];rfl
theorem tX (g:Nat->Nat):∀ (l:List (Option hZ)) (i:Nat) (h:bd) (j:Nat),(∀ k,k<l.length->j≠g (i+k))->(zd g i l h).get j=h.get j
 |[],i,h,j,_=>rfl
 |some c::r,i,h,j,hj=>by
  rw[zd,tX g r (i+1) _ j (λk hk=>by have:=hj (k+1) (by simpa using hk);rwa [show i+1+k=i+(k+1) from by omega]),PT.get_set,aC];exact hj 0 (by simp)
 |none::r,i,h,j,hj=>by
  rw[zd,tX g r (i+1) _ j (λk hk=>by have:=hj (k+1) (by simpa using hk);rwa [show i+1+k=i+(k+1) from by omega]),HN,aC];exact hj 0 (by simp)
theorem tY (g:Nat->Nat):∀ (l:List (Option hZ)) (i:Nat) (h:bd),(∀ a b,a<l.length->b<l.length->g (i+a)=g (i+b)->a=b)->∀ (k:Nat) (c:Option hZ),l[k]? =aa c->(zd g i l h).get (g (i+k))=(match c with|some b=>aa b|none=>(h.get (g (i+k))).map tZ)
 |[],i,h,_,k,c,hk=>by simp at hk
 |o::r,i,h,hinj,k,c,hk=>by
  have hinj':∀ a b,a<r.length->b<r.length->g (i+1+a)=g (i+1+b)->a=b:=λa b J hb e=>by
   have:=hinj (a+1) (b+1) (by simpa using J) (by simpa using hb) (by rw[show i+(a+1)=i+1+a from by omega,show i+(b+1)=i+1+b from by omega];exact e);omega
  cases k with
  |zero=>
   simp at hk;subst hk;have hne:∀ k,k<r.length->g (i+0)≠g (i+1+k):=λk hk e=>by
    have:=hinj 0 (k+1) (by simp) (by simpa using hk) (by rw[show i+(k+1)=i+1+k from by omega];exact e);omega
   cases o with
   |some b=>rw[zd,tX g r (i+1) _ _ hne];simp only[db];rw[PT.get_set,aI rfl]
   |none=>rw[zd,tX g r (i+1) _ _ hne];simp only[db];rw[HN,aI rfl]
  |succ k=>
   have I:r[k]? =aa c:=by simpa using hk
   have hkl:k<r.length:=(bf.1 I).1;have hne:g (i+(k+1))≠g i:=λe=>by
    have:=hinj (k+1) 0 (by simpa using hkl) (by simp) (by rw[e];rfl);omega
   rw[show i+(k+1)=i+1+k from by omega] at hne ⊢;cases o with
   |some b=>
    rw[zd,tY g r (i+1) _ hinj' k c I];cases c with
    |some _=>rfl
    |none=>simp only[PT.get_set,aC hne]
   |none=>
    rw[zd,tY g r (i+1) _ hinj' k c I];cases c with
    |some _=>rfl
    |none=>simp only[HN,aC hne]
def wO (h' h:bd):Prop:=∀ i r,ec h' i=aa r->ec h i=aa r
section get
variable {h h':bd} {H H':HF} {g:Nat->Nat}
theorem lq.agg {l I:List AV} (hl:gW H H' l I) (hc:∀ x∈I,x.isCell=ah):lq H H' (.agg l) (.agg I):=by
 intro φ E w v hrep hr;cases hr with
 |@agg _ vs hlen hcl hrr=>
  refine .agg (by rw[hlen,<-hl.length]) hc λj y u J hu=>?_
  obtain⟨x,M,hle⟩:=hl.get j y J;exact hle φ E w u hrep (hrr j x u M hu)
theorem N' (hr:wO h' h) {i:Nat} {y M:AV} (J:cg h (.row i)=aa y) (I:cg h' (.row i)=aa M):M=y:=by
 simp only[cg] at J I;cases h1:ec h' i with
 |none=>rw[h1] at I;cases I
 |some r=>
  rw[h1] at I;rw[hr i r h1] at J;rw[J] at I;cases I;rfl
mutual
theorem aat (d:uk H H') (hr:wO h' h):∀ (p:PV) (l:List TV) (x:p.ty.den) (m:Nat) (r:List TV) (cs:List TV) (l' cs':List AV),oR g h p l=aa (x,m,r)->pf g p x=aa cs->cF h l=aa l'->cF h' cs=aa cs'->CZ h H H' m->∃ l1 l2,l'=l1++l2/\cF h r=aa l2/\gW H H' l1 cs'
 |.d T,l,x,m,r,cs,l',cs',hg,hp,hl,hc,gv=>by
  obtain⟨l1,l2,e1,e2,e3⟩:=q_ d 40 T l x m r l' hg hl gv;have:=(k_ h' 40 T x cs hp).1;rw[hc] at this;cases this;exact⟨l1,l2,e1,e2,e3⟩
 |.ptr i q,l,x,m,r,cs,l',cs',hg,hp,hl,hc,gv=>by
  simp only[oR] at hg;split at hg
  .rename_i i' o' r';split at hg
   .rename_i hb;simp only[au] at hb;have e1:=av hb.1;have e2:=av hb.2;subst e1;subst e2;simp only[aj,aB] at hg;obtain⟨_,_,rfl⟩:=hg;simp only[pf,aj] at hp;subst hp;obtain⟨y,l2,rfl,g1,g2⟩:=cO hl;simp only[cg,aj] at g1;subst g1;simp only[cF,cg,aj] at hc;subst hc;exact⟨[_],l2,rfl,g2,lq.refl d _,trivial⟩
   .cases hg
  .cases hg
 |.csl i q z,l,x,m,r,cs,l',cs',hg,hp,hl,hc,gv=>by
  simp only[oR] at hg;split at hg
  .rename_i i' o' z' r';split at hg
   .rename_i hb;simp only[au] at hb;have e1:=av hb.1.1;have e2:=av hb.1.2;have e3:=av hb.2;subst e1;subst e2;subst e3;simp only[aj,aB] at hg;obtain⟨_,_,rfl⟩:=hg;simp only[pf,aj] at hp;subst hp;obtain⟨y,l2,rfl,g1,g2⟩:=cO hl;simp only[cg,aj] at g1;subst g1;simp only[cF,cg,aj] at hc;subst hc;exact⟨[_],l2,rfl,g2,lq.refl d _,trivial⟩
   .cases hg
  .cases hg
 |.clo q i z,l,x,m,r,cs,l',cs',hg,hp,hl,hc,gv=>by
  simp only[oR] at hg;split at hg
  .rename_i q' i' z' r';split at hg
   .rename_i hb;simp only[au] at hb;have e1:=av hb.1.1;have e2:=av hb.1.2;have e3:=av hb.2;subst e1;subst e2;subst e3;simp only[aj,aB] at hg;obtain⟨_,_,rfl⟩:=hg;simp only[pf,aj] at hp;subst hp;obtain⟨y,l2,rfl,g1,g2⟩:=cO hl;simp only[cg,cF,aj] at g1;subst g1;simp only[cF,cg,aj] at hc;subst hc;exact⟨[_],l2,rfl,g2,lq.refl d _,trivial⟩
   .cases hg
  .cases hg
 |.row i,l,x,m,r,cs,l',cs',hg,hp,hl,hc,gv=>by
  simp only[oR] at hg;split at hg
  .rename_i i' r';split at hg
   .rename_i hb;have e1:=av hb;subst e1;simp only[aj,aB] at hg;obtain⟨_,_,rfl⟩:=hg;simp only[pf,aj] at hp;subst hp;obtain⟨y,l2,rfl,g1,g2⟩:=cO hl;obtain⟨y',l3,rfl,g3,g4⟩:=cO hc;simp only[cF,aj] at g4;subst g4;rw[N' hr g1 g3];exact⟨[_],l2,rfl,g2,lq.refl d _,trivial⟩
   .cases hg
  .cases hg
 |.mp i,l,x,m,r,cs,l',cs',hg,hp,hl,hc,gv=>by
  simp only[oR] at hg;split at hg
  .rename_i i' r';split at hg
   .rename_i hb;have e1:=av hb;subst e1;simp only[aj,aB] at hg;obtain⟨_,_,rfl⟩:=hg;simp only[pf,aj] at hp;subst hp;obtain⟨y,l2,rfl,g1,g2⟩:=cO hl;simp only[cg,aj] at g1;subst g1;simp only[cF,cg,aj] at hc;subst hc;exact⟨[_],l2,rfl,g2,lq.refl d _,trivial⟩
   .cases hg
  .cases hg
 |.nil,l,x,m,r,cs,l',cs',hg,hp,hl,hc,gv=>by
  simp only[oR] at hg;split at hg
  .simp only[aj,aB] at hg;obtain⟨_,_,rfl⟩:=hg;simp only[pf,aj] at hp;subst hp;obtain⟨y,l2,rfl,g1,g2⟩:=cO hl;simp only[cg,aj] at g1;subst g1;simp only[cF,cg,aj] at hc;subst hc;exact⟨[_],l2,rfl,g2,lq.refl d _,trivial⟩
  .cases hg
 |.emp,l,x,m,r,cs,l',cs',hg,hp,hl,hc,gv=>by
  simp only[oR] at hg;split at hg
  .simp only[aj,aB] at hg;obtain⟨_,_,rfl⟩:=hg;simp only[pf,aj] at hp;subst hp;obtain⟨y,l2,rfl,g1,g2⟩:=cO hl;simp only[cg,aj] at g1;subst g1;simp only[cF,cg,aj] at hc;subst hc;exact⟨[_],l2,rfl,g2,Le.nilEmp.toH d,trivial⟩
  .simp only[aj,aB] at hg;obtain⟨_,_,rfl⟩:=hg;simp only[pf,aj] at hp;subst hp;obtain⟨y,l2,rfl,g1,g2⟩:=cO hl;simp only[cg,aj] at g1;subst g1;simp only[cF,cg,aj] at hc;subst hc;exact⟨[_],l2,rfl,g2,lq.refl d _,trivial⟩
  .cases hg
 |.agg ps,l,x,m,r,cs,l',cs',hg,hp,hl,hc,gv=>B3 d hr ps l x m r cs l' cs' hg hp hl hc gv
theorem B3 (d:uk H H') (hr:wO h' h):∀ (ps:List PV) (l:List TV) (x:(PV.tyL ps).den) (m:Nat) (r:List TV) (cs:List TV) (l' cs':List AV),xS g h ps l=aa (x,m,r)->qe g ps x=aa cs->cF h l=aa l'->cF h' cs=aa cs'->CZ h H H' m->∃ l1 l2,l'=l1++l2/\cF h r=aa l2/\gW H H' l1 cs'
 |[],l,x,m,r,cs,l',cs',hg,hp,hl,hc,gv=>by
  simp only[xS,aj,aB] at hg;obtain⟨_,_,rfl⟩:=hg;simp only[qe,aj] at hp;subst hp;simp only[cF,aj] at hc;subst hc;exact⟨[],l',rfl,hl,trivial⟩
 |p::ps,l,x,m,r,cs,l',cs',hg,hp,hl,hc,gv=>by
  simp only[xS] at hg;split at hg
  .rename_i x1 m1 r1 h1;split at hg
   .rename_i x2 m2 r2 h2;simp only[aj,aB] at hg;obtain⟨rfl,rfl,rfl⟩:=hg;simp only[qe,sh,tU] at hp;split at hp
    .rename_i a ha;split at hp
     .rename_i b hb;simp only[aj] at hp;subst hp;obtain⟨a',b',rfl,ea,eb⟩:=AJ hc;obtain⟨ga,gb⟩:=gv.or;obtain⟨l1,l2,rfl,q1,q2⟩:=aat d hr p l _ _ _ a l' a' h1 ha hl ea ga;obtain⟨l3,l4,rfl,q3,q4⟩:=B3 d hr ps _ _ _ _ b l2 b' h2 hb q1 eb gb;exact⟨l1++l3,l4,by simp,q3,q2.append q4⟩
     .cases hp
    .cases hp
   .cases hg
  .cases hg
end
mutual
theorem Vt:∀ (p:PV) (x:p.ty.den) (cs:List TV),pf g p x=aa cs->j7 cs=ah
 |.d T,x,cs,hp=>(k_ PT.leaf 40 T x cs hp).2
 |.ptr i q,x,cs,hp=>by simp only[pf,aj] at hp;subst hp;rfl
 |.csl i q z,x,cs,hp=>by simp only[pf,aj] at hp;subst hp;rfl
 |.clo q i z,x,cs,hp=>by simp only[pf,aj] at hp;subst hp;rfl
 |.row i,x,cs,hp=>by simp only[pf,aj] at hp;subst hp;rfl
 |.mp i,x,cs,hp=>by simp only[pf,aj] at hp;subst hp;rfl
 |.nil,x,cs,hp=>by simp only[pf,aj] at hp;subst hp;rfl
 |.emp,x,cs,hp=>by simp only[pf,aj] at hp;subst hp;rfl
 |.agg ps,x,cs,hp=>vV ps x cs hp
theorem vV:∀ (ps:List PV) (x:(PV.tyL ps).den) (cs:List TV),qe g ps x=aa cs->j7 cs=ah
 |[],x,cs,hp=>by simp only[qe,aj] at hp;subst hp;rfl
 |p::ps,x,cs,hp=>by
  simp only[qe] at hp;split at hp
  .rename_i a ha;split at hp
   .rename_i b hb;simp only[aj] at hp;subst hp;exact QL (Vt p _ a ha) (vV ps _ b hb)
   .cases hp
  .cases hp
end
theorem aas (d:uk H H') (hr:wO h' h) {p:PV} {v:TV} {x:p.ty.den} {m:Nat} {u:TV} {y M:AV} (hg:wy g h p v=aa (x,m)) (hp:r7 g p x=aa u) (J:cg h v=aa y) (I:cg h' u=aa M) (Y:CZ h H H' m):lq H H' y M:=by
 cases p with
 |d T=>
  simp only[r7,aj] at hp;subst hp;simp only[cg,aj] at I;subst I;exact (Nt d hg J Y).1
 |agg ps=>
  simp only[wy] at hg;split at hg
  .cases hg
  .rename_i hc;split at hg
   .rename_i l hl;split at hg
    .rename_i x1 m1 h1;simp only[aj,aB] at hg;obtain⟨rfl,rfl⟩:=hg;simp only[r7] at hp;split at hp
     .rename_i cs hcs;simp only[aj] at hp;subst hp;simp only[cg] at I;split at I
      .rename_i cs' hcs';simp only[aj] at I;subst I;obtain⟨e1,e2⟩:=LH hl J;obtain⟨l1,l2,q1,U,q3⟩:=B3 d hr ps l _ _ [] cs y.cs cs' h1 hcs e1 hcs' Y;simp only[cF,aj] at U;subst U;rw[lm] at q1;subst q1;have hcell:∀ x∈cs',x.isCell=ah:=lh (sk hcs' (vV ps _ cs hcs));cases v with
       |agg q=>
        simp only[cg] at J;split at J
        .simp only[aj] at J;subst J;exact lq.agg q3 hcell
        .cases J
       |f S z=>
        simp only[cg,aj] at J;subst J;have Z:S.one=ai:=by simpa[TV.isC] using hc
        rw[yS] at q3;rw[pN S z Z];intro φ E w v hrep hrel;exact lq.agg q3 hcell φ E w v hrep (Le.aggF _ _ _ _ hrel)
       |tup q=>simp[TV.cs,TV.isC] at hl
       |undef=>simp[TV.cs,TV.isC] at hl
       |np=>simp[TV.isC] at hc
       |anyb=>simp[TV.cs,TV.isC] at hl
       |fel T xs j hj off=>simp[TV.isC] at hc
       |pel id sz j off=>simp[TV.isC] at hc
       |ptr id off=>simp[TV.isC] at hc
       |csl id off z=>simp[TV.isC] at hc
       |row id=>simp[TV.isC] at hc
       |emp=>simp[TV.isC] at hc
       |nil=>simp[TV.isC] at hc
       |mp id=>simp[TV.isC] at hc
       |rtl id jj=>cases hl
       |clo g l=>simp[TV.isC] at hc
      .cases I
     .cases hp
    .cases hg
   .cases hg
 |ptr i q=>
  simp only[r7,aj] at hp;subst hp;simp only[wy] at hg;split at hg
  .rename_i h1;simp only[oR] at h1;split at h1
   .rename_i e;simp only[iC] at e;obtain⟨rfl,_⟩:=e;split at h1
    .rename_i hb;simp only[au] at hb;have e1:=av hb.1;have e2:=av hb.2;subst e1;subst e2;simp only[cg,aj] at J I;subst J;subst I;exact lq.refl d _
    .cases h1
   .cases h1
  .cases hg
 |csl i q z=>
  simp only[r7,aj] at hp;subst hp;simp only[wy] at hg;split at hg
  .rename_i h1;simp only[oR] at h1;split at h1
   .rename_i e;simp only[iC] at e;obtain⟨rfl,_⟩:=e;split at h1
    .rename_i hb;simp only[au] at hb;have e1:=av hb.1.1;have e2:=av hb.1.2;have e3:=av hb.2;subst e1;subst e2;subst e3;simp only[cg,aj] at J I;subst J;subst I;exact lq.refl d _
    .cases h1
   .cases h1
  .cases hg
 |clo q i z=>
  simp only[r7,aj] at hp;subst hp;simp only[wy] at hg;split at hg
  .rename_i h1;simp only[oR] at h1;split at h1
   .rename_i e;simp only[iC] at e;obtain⟨rfl,_⟩:=e;split at h1
    .rename_i hb;simp only[au] at hb;have e1:=av hb.1.1;have e2:=av hb.1.2;have e3:=av hb.2;subst e1;subst e2;subst e3;simp only[cg,cF,aj] at J I;subst J;subst I;exact lq.refl d _
    .cases h1
   .cases h1
  .cases hg
 |row i=>
  simp only[r7,aj] at hp;subst hp;simp only[wy] at hg;split at hg
  .rename_i h1;simp only[oR] at h1;split at h1
   .rename_i e;simp only[iC] at e;obtain⟨rfl,_⟩:=e;split at h1
    .rename_i hb;have e1:=av hb;subst e1;rw[N' hr J I];exact lq.refl d _
    .cases h1
   .cases h1
  .cases hg
 |mp i=>
  simp only[r7,aj] at hp;subst hp;simp only[wy] at hg;split at hg
  .rename_i h1;simp only[oR] at h1;split at h1
   .rename_i e;simp only[iC] at e;obtain⟨rfl,_⟩:=e;split at h1
    .rename_i hb;have e1:=av hb;subst e1;simp only[cg,aj] at J I;subst J;subst I;exact lq.refl d _
    .cases h1
   .cases h1
  .cases hg
 |nil=>
  simp only[r7,aj] at hp;subst hp;simp only[wy] at hg;split at hg
  .rename_i h1;simp only[oR] at h1;split at h1
   .rename_i e;simp only[iC] at e;obtain⟨rfl,_⟩:=e;simp only[cg,aj] at J I;subst J;subst I;exact lq.refl d _
   .cases h1
  .cases hg
 |emp=>
  simp only[r7,aj] at hp;subst hp;simp only[wy] at hg;split at hg
  .rename_i h1;simp only[oR] at h1;split at h1
   .rename_i e;simp only[iC] at e;obtain⟨rfl,_⟩:=e;simp only[cg,aj] at J I;subst J;subst I;exact Le.nilEmp.toH d
   .rename_i e;simp only[iC] at e;obtain⟨rfl,_⟩:=e;simp only[cg,aj] at J I;subst J;subst I;exact lq.refl d _
   .cases h1
  .cases hg
theorem B2 (d:uk H H') (hr:wO h' h):∀ (ps:List PV) (vs:List TV) (x:(PV.tyL ps).den) (m:Nat) (us:List TV) (l J:List AV),wY g h ps vs=aa (x,m)->pm g ps x=aa us->cF h vs=aa l->cF h' us=aa J->CZ h H H' m->gW H H' l J
 |[],[],x,m,us,l,J,hg,hp,hl,I,M=>by
  simp only[pm,aj] at hp;subst hp;simp only[cF,aj] at hl I;subst hl;subst I;trivial
 |[],_::_,x,m,us,l,J,hg,_,_,_,_=>by simp[wY] at hg
 |_::_,[],x,m,us,l,J,hg,_,_,_,_=>by simp[wY] at hg
 |p::ps,v::vs,x,m,us,l,J,hg,hp,hl,I,M=>by
  simp only[wY] at hg;split at hg
  .rename_i x1 m1 h1;split at hg
   .rename_i x2 m2 h2;simp only[aj,aB] at hg;obtain⟨rfl,rfl⟩:=hg;simp only[pm,sh,tU] at hp;split at hp
    .rename_i a Y;split at hp
     .rename_i b hb;simp only[aj] at hp;subst hp;obtain⟨y,l2,rfl,e1,e2⟩:=cO hl;obtain⟨y',U,rfl,e3,e4⟩:=cO I;obtain⟨ga,Z⟩:=M.or;exact⟨aas d hr h1 Y e1 e3 ga,B2 d hr ps vs _ _ b l2 U h2 hb e2 e4 Z⟩
     .cases hp
    .cases hp
   .cases hg
  .cases hg
inductive BM (g:Nat->Nat) (h:bd) (m:Nat):hZ->hZ->Prop
 |rows (ty:TypeId) (p:Bool) (T:Ty) (xs:List T.den):BM g h m (.rows ty p T xs) (.rows ty p T xs)
 |mp (K V:Ty) (es:List (K.den×V.den)):BM g h m (.mp K V es) (.mp K V es)
 |cells (ty:TypeId) (ps:List PV) (x:(PV.tyL ps).den) (l l2:List TV) (m':Nat) (hg:xS g h ps l=aa (x,m',[])) (hp:qe g ps x=aa l2) (hm:∀ i,aL m' i=ah->aL m i=ah):BM g h m (.cells ty l) (.cells ty l2)
theorem BM.mono {m m2:Nat} (hm:∀ i,aL m i=ah->aL m2 i=ah) {b c:hZ} (h1:BM g h m b c):BM g h m2 b c:=by
 cases h1 with
 |rows ty p T xs=>exact .rows ty p T xs
 |mp K V es=>exact .mp K V es
 |cells ty ps x l l2 m' hg hp I=>exact .cells ty ps x l l2 m' hg hp λi hi=>hm i (I i hi)
theorem aau {i:Nat} {b:PB} {x:b.ty.den} {m:Nat} {c:hZ} (hg:DA g h i b=aa (x,m)) (hp:Bz g b x=aa (aa c)):∃ b0,h.get (g i)=aa b0/\BM g h m b0 c:=by
 cases b with
 |rows ty p T=>
  simp only[DA] at hg;split at hg
  .rename_i ty' M S xs hb;split at hg
   .rename_i hc;simp only[au,cM] at hc;obtain⟨rfl,rfl⟩:=hc;split at hg
    .rename_i z I;simp only[aj,aB] at hg;obtain⟨rfl,rfl⟩:=hg;obtain⟨e,rfl⟩:=iR I;cases e;simp only[Bz,aj] at hp;subst hp;exact⟨_,hb,.rows _ _ _ _⟩
    .cases hg
   .cases hg
  .cases hg
 |rowsP ty T=>
  simp only[DA] at hg;split at hg
  .rename_i ty' M S xs hb;split at hg
   .rename_i hc;have hc:ty=ty':=by simpa using hc
    subst hc;split at hg
    .rename_i z I;simp only[aj,aB] at hg;obtain⟨rfl,rfl⟩:=hg;obtain⟨e,rfl⟩:=iR I;cases e;simp only[Bz,aj] at hp;subst hp;exact⟨_,hb,.rows _ _ _ _⟩
    .cases hg
   .cases hg
  .cases hg
 |cells ty ps=>
  simp only[DA] at hg;split at hg
  .rename_i ty' l hb;split at hg
   .rename_i hc;have hc:ty=ty':=by simpa using hc
    subst hc;split at hg
    .rename_i z m1 I;simp only[aj,aB] at hg;obtain⟨rfl,rfl⟩:=hg;simp only[Bz] at hp;split at hp
     .rename_i l2 J;simp only[aj] at hp;subst hp;exact⟨_,hb,.cells ty ps _ l l2 _ I J λ_ h=>h⟩
     .cases hp
    .cases hg
   .cases hg
  .cases hg
 |mp K V=>
  simp only[DA] at hg;split at hg
  .rename_i K' V' es hb;split at hg
   .rename_i z I;simp only[aj,aB] at hg;obtain⟨rfl,rfl⟩:=hg;obtain⟨e,rfl⟩:=iR I;cases e;simp only[Bz,aj] at hp;subst hp;exact⟨_,hb,.mp _ _ _⟩
   .cases hg
  .cases hg
 |gone=>simp[Bz] at hp
theorem HP:∀ (bs:List PB) (i:Nat) (x:(PB.tyL bs).den) (m:Nat) (I:List (Option hZ)),zC g h i bs=aa (x,m)->nV g bs x=aa I->∀ (k:Nat) c,I[k]? =aa (aa c)->∃ b0,h.get (g (i+k))=aa b0/\BM g h m b0 c
 |[],i,x,m,I,hg,hp,k,c,hk=>by
  simp only[nV,aj] at hp;subst hp;simp at hk
 |b::r,i,x,m,I,hg,hp,k,c,hk=>by
  simp only[zC] at hg;split at hg
  .rename_i x1 m1 h1;split at hg
   .rename_i M m2 h2;simp only[aj,aB] at hg;obtain⟨rfl,rfl⟩:=hg;simp only[nV,sh,tU] at hp;split at hp
    .rename_i a J;split at hp
     .rename_i q hq;simp only[aj] at hp;subst hp;cases k with
      |zero=>
       simp at hk;subst hk;obtain⟨b0,e1,e2⟩:=aau h1 J;exact⟨b0,e1,e2.mono λi hi=>by rw[bl,hi];rfl⟩
      |succ k=>
       obtain⟨b0,e1,e2⟩:=HP r (i+1) _ _ q h2 hq k c (by simpa using hk);rw[show i+1+k=i+(k+1) from by omega] at e1;exact⟨b0,e1,e2.mono λi hi=>by rw[bl,hi];simp⟩
     .cases hp
    .cases hp
   .cases hg
  .cases hg
end get
theorem Pa {σ:PT Nat} {i a:Nat} (h:σ.get i=aa a):gV σ i=a:=by unfold gV;rw[h]
theorem Uf {σ:PT Nat}:∀ (n i acc sm:Nat),XP σ n i acc=aa sm->
 (∀ k,k<n->aL acc (gV σ (i+k))=ai)/\(∀ a b,a<n->b<n->gV σ (i+a)=gV σ (i+b)->a=b)/\∀ q,aL sm q=ah↔aL acc q=ah\/∃ k,k<n/\gV σ (i+k)=q
 |0,i,acc,sm,h=>by
  simp only[XP,aj] at h;subst h;exact⟨λk hk=>by omega,λa b J=>by omega,λq=>⟨.inl,λhq=>hq.elim id λ⟨k,hk,_⟩=>by omega⟩⟩
 |n+1,i,acc,sm,h=>by
  simp only[XP] at h;split at h
  .rename_i a J;split at h
   .cases h
   .rename_i hna;have hna:aL acc a=ai:=by simpa using hna
    have hga:=Pa J;obtain⟨h1,h2,M⟩:=Uf n (i+1) (acc|||kL a) sm h;have hne:∀ k,k<n->gV σ (i+1+k)≠a/\aL acc (gV σ (i+1+k))=ai:=λk hk=>by
     have:=h1 k hk;rw[bl,Bool.or_eq_false_iff] at this;refine ⟨λe=>?_,this.1⟩;have I:=this.2;rw[e] at I;rw[bY.2 rfl] at I;cases I
    refine ⟨λk hk=>?_,λx y Y U hxy=>?_,λq=>?_⟩
    .cases k with
     |zero=>rw[db,hga];exact hna
     |succ k=>rw[show i+(k+1)=i+1+k from by omega];exact (hne k (by omega)).2
    .cases x with
     |zero=>
      cases y with
      |zero=>rfl
      |succ y=>
       rw[db,hga,show i+(y+1)=i+1+y from by omega] at hxy;exact cW hxy.symm (hne y (by omega)).1
     |succ x=>
      cases y with
      |zero=>
       rw[show i+0=i from rfl,hga,show i+(x+1)=i+1+x from by omega] at hxy;exact cW hxy (hne x (by omega)).1
      |succ y=>
       rw[show i+(x+1)=i+1+x from by omega,show i+(y+1)=i+1+y from by omega] at hxy;have:=h2 x y (by omega) (by omega) hxy;omega
    .rw[M,bl,iD];constructor
     .rintro ((hq|hq)|⟨k,hk,hq⟩)
      .exact .inl hq
      .exact .inr ⟨0,by omega,by rw[db,hga];exact bY.1 hq⟩
      .exact .inr ⟨k+1,by omega,by rw[show i+(k+1)=i+1+k from by omega];exact hq⟩
     .rintro (hq|⟨k,hk,hq⟩)
      .exact .inl (.inl hq)
      .cases k with
       |zero=>rw[db,hga] at hq;exact .inl (.inr (bY.2 hq))
       |succ k=>exact .inr ⟨k,by omega,by rw[show i+1+k=i+(k+1) from by omega];exact hq⟩
  .cases h
theorem Pj {σ:PT Nat}:∀ (n:Nat),UN σ n=ah->∀ i,i<n->gV σ i=i
 |0,_,i,hi=>by omega
 |n+1,h,i,hi=>by
  simp only[UN,au] at h;by_cases e:i=n
  .subst e;cases I:σ.get i with
   |none=>rw[I] at h;exact cW h.1 (by simp)
   |some a=>rw[I] at h;rw[Pa I];exact av h.1
  .exact Pj n h.2 i (by omega)
structure Gp (np:Nat) (t:Tm) (vs:List TV) (h:bd) (z:t.ty.den) (m:Nat) (σ:PT Nat) (sm:Nat):Prop where
 ex:∃ x m1 y m2,z=RN _ _ x y/\m=m1|||m2/\wY (gV σ) h t.vs vs=aa (x,m1)/\zC (gV σ) h 0 t.bs=aa (y,m2)
 inj:∀ a b,a<t.bs.length->b<t.bs.length->gV σ a=gV σ b->a=b
 sig:∀ q,aL sm q=ah↔∃ k,k<t.bs.length/\gV σ k=q
 disj:∀ i,aL m i=ah->aL sm i=ai
 fix:∀ i,i<np->gV σ i=i
theorem u_ {np:Nat} {t:Tm} {vs:List TV} {h:bd} {z:t.ty.den} {m:Nat} {σ:PT Nat} {sm:Nat} (hm:Df np t vs h=aa ⟨z,m,σ,sm⟩):Gp np t vs h z m σ sm:=by
 unfold Df at hm;rw[MN] at hm;split at hm
 .rename_i sm' hs;split at hm
  .rename_i x m1 h1;split at hm
   .rename_i y m2 h2;split at hm
    .rename_i hc;simp only[au] at hc;simp only[aj,adn.mk.injEq] at hm;obtain⟨rfl,rfl,rfl,rfl⟩:=hm;obtain⟨M,J,I⟩:=Uf _ _ _ _ hs;simp only[bJ] at M J I;exact⟨⟨x,m1,y,m2,rfl,rfl,h1,h2⟩,J,λq=>by rw[I];simp,λi hi=>wJ hc.1 i hi,Pj np hc.2⟩
    .cases hm
   .cases hm
  .cases hm
 .cases hm
mutual
theorem xT {g:Nat->Nat} {h:bd}:∀ (p:PV) (l:List TV) (x:p.ty.den) (m:Nat) (r:List TV),oR g h p l=aa (x,m,r)->dO h m
 |.d T,l,x,m,r,hg=>tV 40 T l x m r hg
 |.ptr i q,l,x,m,r,hg=>by
  simp only[oR] at hg;split at hg
  .split at hg
   .simp only[aj,aB] at hg;obtain⟨_,rfl,_⟩:=hg;exact dO.zero h
   .cases hg
  .cases hg
 |.csl i q z,l,x,m,r,hg=>by
  simp only[oR] at hg;split at hg
  .split at hg
   .simp only[aj,aB] at hg;obtain⟨_,rfl,_⟩:=hg;exact dO.zero h
   .cases hg
  .cases hg
 |.clo q i z,l,x,m,r,hg=>by
  simp only[oR] at hg;split at hg
  .split at hg
   .simp only[aj,aB] at hg;obtain⟨_,rfl,_⟩:=hg;exact dO.zero h
   .cases hg
  .cases hg
 |.row i,l,x,m,r,hg=>by
  simp only[oR] at hg;split at hg
  .split at hg
   .simp only[aj,aB] at hg;obtain⟨_,rfl,_⟩:=hg;exact dO.zero h
   .cases hg
  .cases hg
 |.mp i,l,x,m,r,hg=>by
  simp only[oR] at hg;split at hg
  .split at hg
   .simp only[aj,aB] at hg;obtain⟨_,rfl,_⟩:=hg;exact dO.zero h
   .cases hg
  .cases hg
 |.nil,l,x,m,r,hg=>by
  simp only[oR] at hg;split at hg
  .simp only[aj,aB] at hg;obtain⟨_,rfl,_⟩:=hg;exact dO.zero h
  .cases hg
 |.emp,l,x,m,r,hg=>by
  simp only[oR] at hg;split at hg
  .simp only[aj,aB] at hg;obtain⟨_,rfl,_⟩:=hg;exact dO.zero h
  .simp only[aj,aB] at hg;obtain⟨_,rfl,_⟩:=hg;exact dO.zero h
  .cases hg
 |.agg ps,l,x,m,r,hg=>Ge ps l x m r hg
theorem Ge {g:Nat->Nat} {h:bd}:∀ (ps:List PV) (l:List TV) (x:(PV.tyL ps).den) (m:Nat) (r:List TV),xS g h ps l=aa (x,m,r)->dO h m
 |[],l,x,m,r,hg=>by
  simp only[xS,aj,aB] at hg;obtain⟨_,rfl,_⟩:=hg;exact dO.zero h
 |p::ps,l,x,m,r,hg=>by
  simp only[xS] at hg;split at hg
  .rename_i x1 m1 r1 h1;split at hg
   .rename_i x2 m2 r2 h2;simp only[aj,aB] at hg;obtain⟨_,rfl,_⟩:=hg;exact (xT p l x1 m1 r1 h1).or (Ge ps r1 _ _ _ h2)
   .cases hg
  .cases hg
end
theorem aeb {g:Nat->Nat} {h:bd} {p:PV} {v:TV} {x:p.ty.den} {m:Nat} (hg:wy g h p v=aa (x,m)):dO h m:=by
 cases p with
 |d T=>exact U7 hg
 |agg ps=>
  simp only[wy] at hg;split at hg
  .cases hg
  .split at hg
   .split at hg
    .rename_i x1 m1 h1;simp only[aj,aB] at hg;obtain⟨_,rfl⟩:=hg;exact Ge ps _ _ _ _ h1
    .cases hg
   .cases hg
 |ptr i q=>
  simp only[wy] at hg;split at hg
  .rename_i h1;simp only[aj,aB] at hg;obtain⟨_,rfl⟩:=hg;exact xT _ _ _ _ _ h1
  .cases hg
 |csl i q z=>
  simp only[wy] at hg;split at hg
  .rename_i h1;simp only[aj,aB] at hg;obtain⟨_,rfl⟩:=hg;exact xT _ _ _ _ _ h1
  .cases hg
 |clo q i z=>
  simp only[wy] at hg;split at hg
  .rename_i h1;simp only[aj,aB] at hg;obtain⟨_,rfl⟩:=hg;exact xT _ _ _ _ _ h1
  .cases hg
 |row i=>
  simp only[wy] at hg;split at hg
  .rename_i h1;simp only[aj,aB] at hg;obtain⟨_,rfl⟩:=hg;exact xT _ _ _ _ _ h1
  .cases hg
 |mp i=>
  simp only[wy] at hg;split at hg
  .rename_i h1;simp only[aj,aB] at hg;obtain⟨_,rfl⟩:=hg;exact xT _ _ _ _ _ h1
  .cases hg
 |nil=>
  simp only[wy] at hg;split at hg
  .rename_i h1;simp only[aj,aB] at hg;obtain⟨_,rfl⟩:=hg;exact xT _ _ _ _ _ h1
  .cases hg
 |emp=>
  simp only[wy] at hg;split at hg
  .rename_i h1;simp only[aj,aB] at hg;obtain⟨_,rfl⟩:=hg;exact xT _ _ _ _ _ h1
  .cases hg
theorem Gb {g:Nat->Nat} {h:bd}:∀ (ps:List PV) (vs:List TV) (x:(PV.tyL ps).den) (m:Nat),wY g h ps vs=aa (x,m)->dO h m
 |[],[],x,m,hg=>by simp only[wY,aj,aB] at hg;obtain⟨_,rfl⟩:=hg;exact dO.zero h
 |[],_::_,x,m,hg=>by simp[wY] at hg
 |_::_,[],x,m,hg=>by simp[wY] at hg
 |p::ps,v::vs,x,m,hg=>by
  simp only[wY] at hg;split at hg
  .rename_i x1 m1 h1;split at hg
   .rename_i I m2 h2;simp only[aj,aB] at hg;obtain⟨_,rfl⟩:=hg;exact (aeb h1).or (Gb ps vs I m2 h2)
   .cases hg
  .cases hg
theorem aec {g:Nat->Nat} {h:bd} {i:Nat} {b:PB} {x:b.ty.den} {m:Nat} (hg:DA g h i b=aa (x,m)):dO h m:=by
 cases b with
 |rows ty p T=>
  simp only[DA] at hg;split at hg
  .split at hg
   .split at hg
    .simp only[aj,aB] at hg;obtain⟨_,rfl⟩:=hg;exact dO.zero h
    .cases hg
   .cases hg
  .cases hg
 |rowsP ty T=>
  simp only[DA] at hg;split at hg
  .split at hg
   .split at hg
    .simp only[aj,aB] at hg;obtain⟨_,rfl⟩:=hg;exact dO.zero h
    .cases hg
   .cases hg
  .cases hg
 |cells ty ps=>
  simp only[DA] at hg;split at hg
  .split at hg
   .split at hg
    .rename_i h1;simp only[aj,aB] at hg;obtain⟨_,rfl⟩:=hg;exact Ge ps _ _ _ _ h1
    .cases hg
   .cases hg
  .cases hg
 |mp K V=>
  simp only[DA] at hg;split at hg
  .split at hg
   .simp only[aj,aB] at hg;obtain⟨_,rfl⟩:=hg;exact dO.zero h
   .cases hg
  .cases hg
 |gone=>simp only[DA,aj,aB] at hg;obtain⟨_,rfl⟩:=hg;exact dO.zero h
theorem Gf {g:Nat->Nat} {h:bd}:∀ (bs:List PB) (i:Nat) (x:(PB.tyL bs).den) (m:Nat),zC g h i bs=aa (x,m)->dO h m
 |[],i,x,m,hg=>by simp only[zC,aj,aB] at hg;obtain⟨_,rfl⟩:=hg;exact dO.zero h
 |b::r,i,x,m,hg=>by
  simp only[zC] at hg;split at hg
  .rename_i x1 m1 h1;split at hg
   .rename_i I m2 h2;simp only[aj,aB] at hg;obtain⟨_,rfl⟩:=hg;exact (aec h1).or (Gf r (i+1) I m2 h2)
   .cases hg
  .cases hg
structure pU (t:Tm) (x:t.ty.den) (vs:List TV) (h1:bd) (l1:List (Option hZ)):Prop where
 pv:pm Ga t.vs (MM _ _ x)=aa vs
 pb:nV Ga t.bs (JF _ _ x)=aa l1
 len:l1.length=t.bs.length
 at_:∀ i b,h1.get i=aa b↔l1[i]? =aa (aa b)
 ok:ku h1 vs=ah
 lt:qB t.bs.length vs=ah
 cells:∀ i ty l,h1.get i=aa (.cells ty l)->ku h1 l=ah/\qB t.bs.length l=ah
theorem Ye (l:List (Option hZ)) (i:Nat) (b:hZ):(zd Ga 0 l PT.leaf).get i=aa b↔l[i]? =aa (aa b):=by
 by_cases hi:i<l.length
 .obtain⟨c,hc⟩:∃ c,l[i]? =aa c:=⟨l[i],ay hi⟩
  have:=tY Ga l 0 PT.leaf (λa b _ _ e=>by simp only[Ga] at e;omega) i c hc;rw[show Ga (0+i)=i from by simp only[Ga];omega] at this;rw[this,hc];cases c with
  |some b'=>simp
  |none=>simp[PT.get]
 .rw[tX Ga l 0 PT.leaf i (λk hk=>by simp only[Ga];omega),bK (by omega)];simp[PT.get]
theorem vi {t:Tm} {x:t.ty.den} {vs:List TV} {h1:bd} (hi:BP t x=aa (vs,h1)):∃ l1,pU t x vs h1 l1:=by
 unfold BP at hi;split at hi
 .rename_i us hus;split at hi
  .rename_i h hh;split at hi
   .rename_i hc;simp only[au] at hc;simp only[aj,aB] at hi;obtain⟨rfl,rfl⟩:=hi;unfold KX at hh;split at hh
    .rename_i l1 I;simp only[aj] at hh;refine ⟨l1,hus,I,By _ _ _ _ I,λi b=>?_,hc.1.1,hc.1.2,λi ty l hil=>?_⟩
     .rw[<- hh];exact Ye l1 i b
     .have:=PT.get_all _ h 1 0 i _ hc.2 hil;simpa only[au] using this
    .cases hh
   .cases hi
  .cases hi
 .cases hi
def Un (nb:Nat) (n:Nat):Bool:=n%2==0&&fV (n/2) nb
theorem Ag {nb i:Nat}:Un nb (nm i)=ah↔i<nb:=by
 unfold Un nm;rw[show 2*i%2=0 from by omega,show 2*i/2=i from by omega];simp only[cP,oW];exact⟨λh=>aY h,λh=>bD h⟩
theorem XZ {nb n:Nat} (h:Un nb n=ah):∃ i,i<nb/\n=nm i:=by
 unfold Un at h;simp only[au,cM] at h;exact⟨n/2,aY h.2,by unfold nm;omega⟩
mutual
theorem ae8 {nb:Nat} {h:bd}:∀ (v:TV) (y:AV),JO nb v=ah->cg h v=aa y->y.all (Un nb)=ah
 |.f _ _,y,_,he=>by simp only[cg,aj] at he;subst he;rfl
 |.fel _ _ _ _ _,y,_,he=>by simp only[cg,aj] at he;subst he;rfl
 |.pel id _ _ _,y,hl,he=>by simp only[cg,aj] at he;subst he;exact Ag.2 (aY hl)
 |.ptr id _,y,hl,he=>by simp only[cg,aj] at he;subst he;exact Ag.2 (aY hl)
 |.csl id _ _,y,hl,he=>by simp only[cg,aj] at he;subst he;exact Ag.2 (aY hl)
 |.row id,y,hl,he=>by
  simp only[cg] at he;split at he
  .simp only[aj] at he;subst he;unfold eY;split
   .rfl
   .exact Ag.2 (aY hl)
  .cases he
 |.rtl id jj,y,hl,he=>by
  simp only[cg] at he;split at he
  .simp only[aj] at he;subst he;exact Ag.2 (aY hl)
  .cases he
 |.emp,y,_,he=>by simp only[cg,aj] at he;subst he;rfl
 |.nil,y,_,he=>by simp only[cg,aj] at he;subst he;rfl
 |.mp id,y,hl,he=>by simp only[cg,aj] at he;subst he;exact Ag.2 (aY hl)
 |.agg l,y,hl,he=>by
  simp only[cg] at he;split at he
  .rename_i l' hl';simp only[aj] at he;subst he;exact sa l l' hl hl'
  .cases he
 |.tup l,y,hl,he=>by
  simp only[cg] at he;split at he
  .rename_i l' hl';simp only[aj] at he;subst he;exact sa l l' hl hl'
  .cases he
 |.clo q l,y,hl,he=>by
  simp only[cg] at he;split at he
  .rename_i l' hl';simp only[aj] at he;subst he;exact sa l l' hl hl'
  .cases he
 |.undef,y,_,he=>by simp only[cg,aj] at he;subst he;rfl
 |.np,y,_,he=>by simp only[cg,aj] at he;subst he;rfl
 |.anyb,y,_,he=>by simp only[cg,aj] at he;subst he;rfl
theorem sa {nb:Nat} {h:bd}:∀ (l:List TV) (l':List AV),qB nb l=ah->cF h l=aa l'->AV.allL (Un nb) l'=ah
 |[],l',_,he=>by simp only[cF,aj] at he;subst he;rfl
 |x::r,l',hl,he=>by
  obtain⟨y,l2,rfl,e1,e2⟩:=cO he;simp only[qB,au] at hl;simp only[AV.allL,au];exact⟨ae8 x y hl.1 e1,sa r l2 hl.2 e2⟩
end
theorem pU.blk_all {t:Tm} {x:t.ty.den} {vs:List TV} {h1:bd} {l1:List (Option hZ)} (I:pU t x vs h1 l1) {i:Nat} {b:hZ} (hb:h1.get i=aa b) {y:vN} (J:kq h1 b=aa y):y.c.all (Un t.bs.length)=ah:=by
 cases b with
 |rows ty p T xs=>
  simp only[kq] at J;split at J
  .cases J
  .simp only[aj] at J;subst J;rfl
 |cells ty l=>
  simp only[kq] at J;split at J
  .rename_i M hl;simp only[aj] at J;subst J;exact sa l M (I.cells i ty l hb).2 hl
  .cases J
 |dead p sz n=>cases J
 |mp K V es=>
  simp only[kq,aj] at J;subst J;show BC.all _ (Ya K V es)=ah;unfold Ya;split
  .rfl
  .simp only[BC.all,yF];have key:∀ l:List (K.den×V.den),AV.allL (Un t.bs.length) (l.map ((λx=>x.2)∘λp=>(o9 K p.1,AV.f (gy V p.2))))=ah:=λl=>by
    induction l with
    |nil=>rfl
    |cons e r U=>simp only[fY,AV.allL,au];exact⟨rfl,U⟩
   exact key es
theorem pU.lt_len {t:Tm} {x:t.ty.den} {vs:List TV} {h1:bd} {l1:List (Option hZ)} (I:pU t x vs h1 l1) {i:Nat} {b:hZ} (hb:h1.get i=aa b):i<t.bs.length:=by
 rw[<- I.len];exact (bf.1 ((I.at_ i b).1 hb)).1
def φ1 (nb:Nat) (g:Nat->Nat) (φ:PM):PM:=λn=>if Un nb n then φ (Gg g n) else af
theorem Xw {nb:Nat} {g:Nat->Nat} {φ:PM} {i:Nat} (hi:i<nb):φ1 nb g φ (nm i)=φ (nm (g i)):=by
 unfold φ1;rw[aI (Ag.2 hi),wA]
theorem vR {nb:Nat} {g:Nat->Nat} {φ:PM} {n k:Nat} (h:φ1 nb g φ n=aa k):∃ i,i<nb/\n=nm i/\φ (nm (g i))=aa k:=by
 unfold φ1 at h;split at h
 .rename_i hp;obtain⟨i,hi,rfl⟩:=XZ hp;rw[wA] at h;exact⟨i,hi,rfl,h⟩
 .cases h
structure abt (t:Tm) (x:t.ty.den) (vs:List TV) (h1:bd) (g:Nat->Nat) (φ:PM) (E E':Nat->Prop) (Hv:HF) (w:World):Prop where
 rep:qh (φ1 t.bs.length g φ) E' (bw h1) w
 val:∀ x v,x.all (Un t.bs.length)=ah->cG φ (tot E φ Hv) w (x.ren (Gg g)) v->cG (φ1 t.bs.length g φ) (tot E' (φ1 t.bs.length g φ) (bw h1)) w x v
 own_:∀ k,own (φ1 t.bs.length g φ) (bw h1) k->own φ Hv k
 tot_:∀ k,tot E' (φ1 t.bs.length g φ) (bw h1) k->tot E φ Hv k
theorem qh.toId {t:Tm} {x:t.ty.den} {vs:List TV} {h1:bd} {l1:List (Option hZ)} (I:pU t x vs h1 l1) {g:Nat->Nat} (inj:∀ a b,a<t.bs.length->b<t.bs.length->g a=g b->a=b) {φ:PM} {E E':Nat->Prop} {Hv:HF} {w:World} (r:qh φ E Hv w)
 (hat:∀ i b y,h1.get i=aa b->kq h1 b=aa y->Hv (nm (g i))=aa (y.ren (Gg g)))
 (hE:∀ k,E' k->tot E φ Hv k) (hne:∀ i k b,i<t.bs.length->Hv (nm (g i))=aa b->φ (nm (g i))=aa k->¬E' k) (hel:∀ k,E' k->k<w.heap.size):abt t x vs h1 g φ E E' Hv w:=by
 have own1:∀ k,own (φ1 t.bs.length g φ) (bw h1) k->own φ Hv k:=by
  rintro k ⟨n,y,h2,h3⟩;obtain⟨i,hi,rfl,Y⟩:=vR h3;obtain⟨j,b,e,U,J⟩:=jf h2;have:=kw e;subst this;exact⟨nm (g i),_,hat i b y U J,Y⟩
 have tot1:∀ k,tot E' (φ1 t.bs.length g φ) (bw h1) k->tot E φ Hv k:=λk hk=>hk.elim (hE k) λh=>.inr (own1 k h)
 have val:∀ x v,x.all (Un t.bs.length)=ah->cG φ (tot E φ Hv) w (x.ren (Gg g)) v->cG (φ1 t.bs.length g φ) (tot E' (φ1 t.bs.length g φ) (bw h1)) w x v:=λx v hx hr=>by
  have h2:cG (φ1 t.bs.length g φ) (tot E φ Hv) w x v:=cG.renFrom (λi k hp hk=>by unfold φ1;rw[aI hp];exact hk) hr x hx rfl;exact h2.ext (λ_ _ h=>h) (Js.refl _ w) λk _ hk=>tot1 k hk
 refine ⟨⟨λn n' b b' k Z g2 g3 g4=>?_,λn y Z=>?_,hel,λg' cells hg=>(r.gl g' cells hg).ext (Js.refl _ w) λk _ hk=>tot1 k hk⟩,val,own1,tot1⟩
 .obtain⟨i,hi,rfl,Y⟩:=vR g3;obtain⟨j,hj,rfl,U⟩:=vR g4;obtain⟨i',c,e,J,M⟩:=jf Z;have:=kw e;subst this;obtain⟨j',c',e,h8,h9⟩:=jf g2;have:=kw e;subst this;have:=r.inj _ _ _ _ k (hat i c _ J M) (hat j c' _ h8 h9) Y U;rw[inj i j hi hj (kw this)]
 .obtain⟨i,c,rfl,J,M⟩:=jf Z;have hi:=I.lt_len J;obtain⟨k,p1,p2,ob,p3,p4⟩:=r.at_ _ _ (hat i c y J M);exact⟨k,by rw[Xw hi];exact p1,hne i k _ hi (hat i c y J M) p1,ob,p3,jd.renFrom val (I.blk_all J M) p4⟩
theorem BM.view {g:Nat->Nat} {h hv:bd} {H H':HF} {m:Nat} (d:uk H H') (U:CZ h H H' m) (hr:wO hv h) {b0 c:hZ} (hb:BM g h m b0 c) {y I:vN} (e0:kq h b0=aa y) (e1:kq hv c=aa I):jV H H' y I:=by
 cases hb with
 |rows ty p T xs=>
  simp only[kq] at e0 e1;rw[e0] at e1;cases e1;exact jV.refl d y
 |mp K V es=>
  simp only[kq] at e0 e1;rw[e0] at e1;cases e1;exact jV.refl d y
 |cells ty ps x l l2 m' hg hp hm=>
  simp only[kq] at e0 e1;split at e0
  .rename_i M hl;simp only[aj] at e0;subst e0;split at e1
   .rename_i cs' hc;simp only[aj] at e1;subst e1;obtain⟨l1,Y,q1,J,q3⟩:=B3 d hr ps l x m' [] l2 M cs' hg hp hl hc λi hi=>U i (hm i hi)
    simp only[cF,aj] at J;subst J;rw[lm] at q1;subst q1;exact jV.cells rfl rfl q3 (lh (sk hc (vV ps x l2 hp)))
   .cases e1
  .cases e0
theorem BM.erB_some {g:Nat->Nat} {h hv:bd} {nx m:Nat} (hinv:lJ h nx) {i:Nat} {b0 c:hZ} (h0:h.get i=aa b0) (hb:BM g h m b0 c) {I:vN} (e1:kq hv c=aa I):∃ y,kq h b0=aa y:=by
 cases hb with
 |rows ty p T xs=>exact⟨I,e1⟩
 |mp K V es=>exact⟨I,e1⟩
 |cells ty ps x l l2 m' hg hp hm=>
  obtain⟨J,hl⟩:=fo h l (hinv.cells i ty l h0);exact⟨_,by simp only[kq,hl];rfl⟩
theorem BM.row {g:Nat->Nat} {h:bd} {m:Nat} {b0 c:hZ} (hb:BM g h m b0 c):mj c=mj b0:=by
 cases hb<;>rfl
end
end Go.Proofs.YtkagidinekdnoaaGreatDoor.AI
