/-
  Texts of the proof, part 4 of 5: what is used to prove the statement. No condition.
-/
import Derived.Test.YthehadcddfilhaaGreatDoorHBPartialQ2
import Derived.Defers
namespace Go.Proofs.YthehadcddfilhaaGreatDoor.AI
open Go.RowKit
set_option maxRecDepth 100000
set_option maxHeartbeats 4000000
set_option linter.unusedVariables false
set_option linter.unusedSimpArgs false
open Act renaming put→LN
open _root_.Array renaming length_toList→ib,range→xg
open _root_.Bool renaming true→ah,false→ai
open Builtin renaming zeroCells→kR,firstCells→Jr
open Call renaming operands→eD
open Instr renaming findNow→jf,sliceBounds→jz,sliceBound→j7,sliceAt→oU,slice→tC
open _root_.Int renaming ofNat→aN,toNat→aS
open _root_.List renaming length→ak,replicate→aF,length_cons→bV,take→dE,range→eT,cons_append→fX,length_nil→jE,toArray→kf,nil_append→ll,take_succ_cons→uG
open _root_.Nat renaming beq→aA,testBit→aL,add_zero→c8,ble→eo,blt→fR,min→iC
open Oper renaming wp→FU
open _root_.Option renaming some→aa,none→af,bind_some→aE,map_some→b7,map→lj
open Region renaming wanted→iu
open Result renaming andThen_ok→cD
open Sem renaming run_bind→eh,run→mU,run_pure→og
open Value.bool renaming injEq→AU
open World renaming shape?→qJ,cell?→LK
noncomputable section
section
variable {P:Program} {o:Oper} {e:yq} {h:nA} {nx:Nat} {R:AS}
theorem ah1 (A:Addr):A.add 0=A:=by cases A;simp[Addr.add]
theorem ah3 {t el:TypeId} {sz:Nat} {x:Operand} {lo hi mx:Option Operand} (J:o.op= .slice t x lo hi mx) (hu:P.underlying t=aa (.slice el)) (hs:eX P el=aa sz) (I:eC (.slc sz x lo hi mx) e h nx=aa R):gB P o e.get h.get R.eff:=by
 simp only[eC] at I;split at I
 .rename_i v Y;split at I
  ·
   rename_i k k';split at I
   .rename_i hsl;rw[di I];refine gB.reads λφ E h' w a _ hp _=>?_
    have hr:=hp x _ (by rw[J];simp[Op.operands]) Y;have U:∃ A n c,a.eval x= .slice A n c:=by
     generalize a.eval x=z at hr;obtain⟨n,hn⟩:=iv.1 hsl;unfold AV.slen at hn;split at hn
     .cases hr with
      |f hr=>cases hr with
       |nil=>exact⟨_,_,_,rfl⟩
       |sl=>exact⟨_,_,_,rfl⟩
     .cases e9 hr;exact⟨_,_,_,rfl⟩
     .cases hr;exact⟨_,_,_,rfl⟩
     .cases hr;exact⟨_,_,_,rfl⟩
     .cases hr;exact⟨_,_,_,rfl⟩
     .cases hn
    obtain⟨A,n,c,U⟩:=U;have s1:=gg hs w;refine ⟨.slice A 0 0,?_,.emp⟩;unfold execOp;rw[J];have z0:∀ k,a.eval (.const (.int k 0))= .int k 0:=λ_=>rfl
    simp[oU,tC,run_underlying hu,U,jz,j7,asIntOf,s1,z0]
   .cases I
  ·
   rename_i b;split at I
   .rename_i id sz' n k j hb;split at I
    .rename_i hc;simp only[cR,au,bP,cN] at hc;obtain⟨⟨rfl,h0⟩,h1⟩:=hc;split at I
     .rename_i blk hblk;split at I
      .rename_i hcl;simp only[au] at hcl;obtain⟨hcells,hlen⟩:=hcl;have hlen:=aY hlen;rw[BC.len_toMx hcells] at hlen;simp only[aj] at I;subst I;intro φ E h' w a g1 g2 g3 hrep g5;have hp:Tx φ E h' w a e o:=λx y Y M=>sk hrep g3 Y M
       have hb':h' id=aa blk:=by rw[g1 id (by simp[AS.eff])];exact hblk
       have hr:=hp x _ (by rw[J];simp[Op.operands]) Y;have hbv:=e9 (hp b _ (by rw[J];simp[Op.operands]) hb);have hnx:φ nx=af:=g5 nx (by simp[AS.eff]);generalize U:a.eval x=z at hr;cases hr with
       |@row _ _ _ c q hφ hn hcap hsh=>
        obtain⟨arr,a1,a2,a3⟩:=hrep.cs hb' hφ hcells;have s1:=gg hs w;have hne:nx≠id:=λe=>by rw[e,hφ] at hnx;cases hnx
        have hnw1:iP [(nx,⟨blk.ty,oN (blk.c.toMx.take (j.toNat*sz'))⟩)] nx=aa (⟨blk.ty,oN (blk.c.toMx.take (j.toNat*sz'))⟩:vH):=by simp[iP]
        have hnw2:iP [(nx,⟨blk.ty,oN (blk.c.toMx.take (j.toNat*sz'))⟩)] id=af:=by
         simp only[iP];rw[aC];intro hb;exact hne (av hb)
        have a4:=a2.take (j.toNat*sz');obtain⟨φ',p1,p2,p3,p4⟩:=hrep.wren hb' hφ hnx (w':=w) ⟨rfl,rfl,rfl,rfl,a1,λ_ _=>rfl,λ_=>rfl⟩ (b':=⟨blk.ty,oN (blk.c.toMx.take (j.toNat*sz'))⟩) (by
         obtain⟨q1,q2⟩:=ne (blk.c.toMx.take (j.toNat*sz'));refine pn q2 (by rw[q1,bC];omega) λi x Y=>?_
         rw[q1] at Y;have hi:i<((arr.toList.take blk.c.toMx.length).take (j.toNat*sz')).length:=by rw[a4.1];exact (be.1 Y).1
         refine ⟨a4.2.1 x (aZ Y),_,?_,a4.2.2 i x _ Y (ay hi)⟩;have hi':i<arr.size:=by simp at hi;omega
         simp[hi']) _ hnw1 hnw2
        have hrun:(execOp a.eval o).run P w= .ok (.value (.slice (aa ⟨q,0,af⟩) j.toNat c)) w:=by
         unfold execOp;rw[J];simp[oU,tC,run_underlying hu,U,jz,j7,asIntOf,s1,hbv,h0,show j<=c by omega,kF]
        unfold FU;rw[hrun];exact⟨_,φ',rfl,p2,p3,p4,.row p1 (by omega) hcap hsh⟩
      .cases I
     .cases I
    .cases I
   .rename_i cells n k j hb;split at I
    .rename_i hc;simp only[cR,au,bP] at hc;obtain⟨⟨h0,h1⟩,h2⟩:=hc;have h2:=aY h2;rw[di I];refine gB.reads λφ E h' w a _ hp _=>?_
     have hr:=hp x _ (by rw[J];simp[Op.operands]) Y;have hbv:=e9 (hp b _ (by rw[J];simp[Op.operands]) hb);generalize U:a.eval x=z at hr;have s1:=gg hs w;cases hr with
     |f hr=>
      cases hr with
      |nil A c hc=>
       have hj:j=0:=by omega
       subst hj;refine ⟨.slice A 0 c,?_,by simpa using cG.f (.nil A c hc)⟩;unfold execOp;rw[J];cases A<;>simp[oU,tC,run_underlying hu,U,jz,j7,asIntOf,s1,hbv,ah1]
      |sl _ _ c q off us hn hc hO hq hcl Z hr=>
       refine ⟨.slice (aa ⟨q,off,af⟩) j.toNat c,?_,.f (.sl _ _ _ _ _ us (by omega) hc hO hq (λy M=>hcl y (iT M)) (λi hi=>Z i (by rw[bC] at hi;omega)) λi y M=>?_)⟩
       .unfold execOp;rw[J];simp[oU,tC,run_underlying hu,U,jz,j7,asIntOf,s1,hbv,h0,show j<=c by omega,kF]
       .rw[cH] at M;split at M
        .exact hr i y M
        .cases M
    .cases I
   .cases I
  ·
   rename_i b;split at I
   .rename_i id sz' n k j hb;split at I
    .rename_i hc;simp only[cR,fE,au,bP,cN] at hc;obtain⟨⟨rfl,h0⟩,h1⟩:=hc;rw[di I];refine gB.reads λφ E h' w a _ hp _=>?_
     have hr:=hp x _ (by rw[J];simp[Op.operands]) Y;have hbv:=e9 (hp b _ (by rw[J];simp[Op.operands]) hb);generalize U:a.eval x=z at hr;cases hr with
     |@row _ _ _ c q hφ hn hc hsh=>
      have s1:=gg hs w;refine ⟨.slice (aa ⟨q,0+j.toNat*sz',af⟩) (n-j.toNat) (c-j.toNat),?_,?_⟩
      .unfold execOp;rw[J];simp[oU,tC,run_underlying hu,U,jz,j7,asIntOf,s1,hbv,h0,show j<=n by omega,show ¬c=j.toNat by omega,kF]
      .rw[bJ];exact .sl hφ (by omega) (by omega)
    .cases I
   .rename_i cells n k j hb;split at I
    .rename_i hc;simp only[cR,au,bP] at hc;obtain⟨⟨h0,h1⟩,h2⟩:=hc;have h2:=aY h2;rw[di I];refine gB.reads λφ E h' w a _ hp _=>?_
     have hr:=hp x _ (by rw[J];simp[Op.operands]) Y;have hbv:=e9 (hp b _ (by rw[J];simp[Op.operands]) hb);generalize U:a.eval x=z at hr;have s1:=gg hs w;cases hr with
     |f hr=>
      cases hr with
      |nil A c hc=>
       have hj:j=0:=by omega
       subst hj;have hex:∃ A',(execOp a.eval o).run P w= .ok (.value (.slice A' 0 c)) w:=by
        unfold execOp;rw[J];cases A with
        |none=>exact⟨af,by simp[oU,tC,run_underlying hu,U,jz,j7,asIntOf,s1,hbv]⟩
        |some A=>exact⟨aa A,by simp[oU,tC,run_underlying hu,U,jz,j7,asIntOf,s1,hbv,ah1]⟩
       obtain⟨A',hex⟩:=hex;exact⟨.slice A' 0 c,hex,by simpa using cG.f (.nil A' c hc)⟩
      |sl _ _ c q off us hn hc hO hq hcl Z hr=>
       by_cases hcj:c=j.toNat
       .refine ⟨.slice (aa ⟨q,off,af⟩) 0 0,?_,?_⟩
        .unfold execOp;rw[J];simp[oU,tC,run_underlying hu,U,jz,j7,asIntOf,s1,hbv,h0,show j<=n by omega,hcj,show n-j.toNat=0 by omega,kF]
        .rw[show n-j.toNat=0 by omega];simpa using cG.f (.nil (aa ⟨q,off,af⟩) 0 (by unfold maxLen;omega))
       .refine ⟨.slice (aa ⟨q,off+j.toNat*sz,af⟩) (n-j.toNat) (c-j.toNat),?_,.f (.sl _ _ _ _ _ (λi=>us (j.toNat*sz+i)) (by omega) (by omega) hO hq (λy M=>hcl y (List.mem_of_mem_drop (iT M))) (λi hi=>?_) λi y M=>?_)⟩
        .unfold execOp;rw[J];simp[oU,tC,run_underlying hu,U,jz,j7,asIntOf,s1,hbv,h0,show j<=n by omega,hcj,kF]
        .rw[rC];refine Z _ ?_;rw[bC,md] at hi;omega
        .rw[cH] at M;split at M
         .rw[gJ] at M;exact hr _ y M
         .cases M
    .cases I
   .cases I
  .cases I
 .cases I
theorem XB {sz:Nat} {x:AV} {src:List AV} {m:Nat} {rd:List Nat} (hrow:x.row? h sz=aa (src,m,rd)) {φ:PM} {E:Nat->Prop} {h':HF} {w:World} (hrd:∀ i∈rd,h' i=h.get i) (hrep:qd φ E h' w) {v:Value} (hr:cG φ (tot E φ h') w x v):
 ∃ A c vs,v= .slice A m c/\Cs φ (tot E φ h') w src vs/\vs.length=m*sz/\(A=af->vs=[])/\(∀ J,A=aa J->∀ (j:Nat) u,vs[j]? =aa u->w.cell? (J.add j)=aa u):=by
 have emp:∀ A c,v= .slice A 0 c->src=[]->m=0->∃ A c vs,v= .slice A m c/\Cs φ (tot E φ h') w src vs/\vs.length=m*sz/\(A=af->vs=[])/\(∀ J,A=aa J->∀ (j:Nat) u,vs[j]? =aa u->w.cell? (J.add j)=aa u):=by
  rintro A c rfl rfl rfl;exact⟨A,c,[],rfl,⟨rfl,(by intro x I;cases I),(by intro j x v I;simp at I)⟩,by simp,λ_=>rfl,by intro J _ j u hu;simp at hu⟩
 have own:∀ (id off n c k:Nat) (b:vH),φ id=aa k->h' id=aa b->b.c.isCells=ah->off+n*sz<=b.c.len->v= .slice (aa ⟨k,off,af⟩) n c->src=(b.c.toMx.drop off).take (n*sz)->m=n->
  ∃ A c vs,v= .slice A m c/\Cs φ (tot E φ h') w src vs/\vs.length=m*sz/\(A=af->vs=[])/\(∀ J,A=aa J->∀ (j:Nat) u,vs[j]? =aa u->w.cell? (J.add j)=aa u):=by
  rintro id off n c k b hφ hb hc hle rfl rfl rfl;obtain⟨arr,g1,Z,g3⟩:=hrep.cs hb hφ hc;rw[BC.len_toMx hc] at hle;refine ⟨_,c,((arr.toList.take b.c.toMx.length).drop off).take (m*sz),rfl,(Z.drop off).take _,?_,(λh=>by cases h),?_⟩
  .simp;omega
  .intro J had j u hu;cases had;rw[kF];rw[cH] at hu;split at hu
   .rw[gJ,cH] at hu;split at hu
    .rw[cC] at hu;simp[LK,g1,hu]
    .cases hu
   .cases hu
 unfold AV.row? at hrow;split at hrow
 .rename_i cells n;split at hrow
  .rename_i hle;have hle:=aY hle;simp only[aj,aB] at hrow;obtain⟨rfl,rfl,rfl⟩:=hrow;cases hr with
   |f hr=>
    cases hr with
    |nil a c hc=>exact emp a c rfl (by simp) rfl
    |sl _ _ c b off us hn hc hO hb hcl hu hr=>
     refine ⟨_,c,(eT (n*sz)).map us,rfl,⟨by simp;omega,λx I=>?_,λj x u I M=>?_⟩,by simp,(λh=>by cases h),?_⟩
     .obtain⟨y,Y,rfl⟩:=c9.1 I;exact hcl y (iT Y)
     .obtain⟨rfl,hj⟩:=wj us _ _ _ M;rw[a8,cH,aJ hj] at I;cases hq:cells[j]? with
      |none=>rw[hq] at I;cases I
      |some q=>rw[hq] at I;simp at I;subst I;exact .f (hr j q hq)
     .intro J had j u M;cases had;obtain⟨rfl,hj⟩:=wj us _ _ _ M;rw[kF];exact hu j (by omega)
  .cases hrow
 .simp only[aj,aB] at hrow;obtain⟨rfl,rfl,rfl⟩:=hrow;exact emp af 0 (e9 hr) rfl rfl
 .simp only[aj,aB] at hrow;obtain⟨rfl,rfl,rfl⟩:=hrow;cases hr with
  |@emp a=>exact emp a 0 rfl rfl rfl
 .rename_i id sz' n;split at hrow
  .rename_i hsz;split at hrow
   .rename_i b hb;split at hrow
    .rename_i hc;simp only[au] at hc;simp only[aj,aB] at hrow;obtain⟨rfl,rfl,rfl⟩:=hrow;cases hr with
     |@row _ _ _ c k hφ hn U hsh=>
      exact own id 0 n c k b hφ (by rw[hrd id (by simp)];exact hb) hc.1 (by rw[bJ];exact aY hc.2) rfl (by simp) rfl
    .cases hrow
   .cases hrow
  .cases hrow
 .rename_i id off n;split at hrow
  .rename_i b hb;split at hrow
   .rename_i hc;simp only[au] at hc;simp only[aj,aB] at hrow;obtain⟨rfl,rfl,rfl⟩:=hrow;cases hr with
    |@sl _ _ _ c k hφ hn U=>exact own id off n c k b hφ (by rw[hrd id (by simp)];exact hb) hc.1 (aY hc.2) rfl rfl rfl
   .cases hrow
  .cases hrow
 .cases hrow
theorem ZN {sz:Nat} {x:AV} {src:List AV} {m:Nat} {rd:List Nat} (hrow:x.row? h sz=aa (src,m,rd)) {φ:PM} {E:Nat->Prop} {h':HF} {w:World} (hrd:∀ i∈rd,h' i=h.get i) (hrep:qd φ E h' w) {v:Value} (hr:cG φ (tot E φ h') w x v) {I el:TypeId} (hk:P.underlying I=aa (.slice el)):
 ∃ vs,Src P sz I v m vs w/\Cs φ (tot E φ h') w src vs:=by
 obtain⟨A,c,vs,rfl,h1,h2,U,M⟩:=XB hrow hrd hrep hr;refine ⟨vs,?_,h1⟩;cases A with
 |none=>
  have:=U rfl;subst this;have hm:m*sz=0:=by simpa using h2.symm
  refine ⟨.inl ⟨el,hk⟩,λ_=>rfl,run_firstCells_none w sz m m c,run_firstCells_none w.drew sz m m c,by simp[hm],λ_ h=>by cases h⟩
 |some J=>exact Src.ofSlice w hk J m c vs h2 (M J rfl) h1.one
theorem adi {x:Nat}:∀ {l:List Nat},Vk x l=ah↔x∈l
 |[]=>by simp[Vk]
 |y::r=>by
  simp only[Vk,iE,adi (l:=r),bh];constructor
  .rintro (h|h)
   .exact .inl (av h).symm
   .exact .inr h
  .rintro (h|h)
   .subst h;exact .inl (qK x)
   .exact .inr h
theorem aeg {t u el el':TypeId} {d x:Operand} {sz:Nat} (ho:o.op= .call {callee:=.builtin .copy,args:=#[d,x],argTypes:=#[t,u]}) (hu:P.underlying t=aa (.slice el)) (hu':P.underlying u=aa (.slice el')) (hs:eX P el=aa sz) (J:eC (.copy sz d x) e h nx=aa R):gB P o e.get h.get R.eff:=by
 simp only[eC] at J;split at J
 .rename_i id sz' n y hd hx;split at J
  .rename_i blk src m rd hblk hrow;split at J
   .rename_i hc;simp only[au,cN,dX] at hc;obtain⟨⟨rfl,hmem⟩,hlen⟩:=hc;split at J
    .rename_i c' hput;simp only[aj] at J;subst J;unfold BC.put at hput;split at hput
     .rename_i hcc;simp only[au] at hcc;obtain⟨⟨c1,Z⟩,c3⟩:=hcc;have Z:=aY Z;rw[bJ] at Z;have M:c'.toMx=splice blk.c.toMx 0 (src.take (iC m n*sz'))/\c'.isCells=ah:=by
       split at hput
       .rename_i l ys hbl hys;simp only[aj] at hput;subst hput;refine ⟨?_,rfl⟩;have hv:=o9 hys;rw[hv,hbl];simp only[BC.toMx];unfold splice;simp[kg,List.map_drop]
       .simp only[aj] at hput;subst hput;exact⟨rfl,rfl⟩
      refine gB.writes hblk λφ E h' w a hrd hb' hp hrep=>?_
      have hpd:=hp d _ (by rw[ho];simp[Op.operands,eD]) hd;have hpx:=hp x _ (by rw[ho];simp[Op.operands,eD]) hx;obtain⟨A,c,vs,hv,q1,q2,q3,q4⟩:=XB hrow (λi hi=>hrd i (by simp[hi])) hrep hpx;generalize hz:a.eval d=pv at hpd;cases hpd with
      |@row _ _ _ cap k hφ hn hcap hsh=>
       obtain⟨arr,g1,g2,g3⟩:=hrep.cs hb' hφ c1;rw[BC.len_toMx c1] at Z;have hmn:iC m n<=m:=Nat.min_le_left _ _;have hle:iC m n*sz'<=m*sz':=cA _ hmn
       let I:=vs.take (iC m n*sz')
       have hnl:I.length=iC m n*sz':=by simp only[I,bC,q2];omega
       have hsl:(src.take (iC m n*sz')).length=iC m n*sz':=by rw[bC,<-q1.1,q2];omega
       have csn:=q1.take (iC m n*sz');rw[hsl] at Z;have hst:=run_storeCells_at (P:=P) k 0 blk.ty I 0 arr w g1 (by rw[hnl];omega) csn.one
       let arr':Array Value:=(arr.toList.take 0++I++arr.toList.drop (0+iC m n*sz')).toArray
       have hsize:arr'.size=arr.size:=by simp only[arr',rX,bn,bC,md,ib,hnl];omega
       have hfc:(Jr sz' (iC m n) (.slice A m c)).run P w= .ok I.toArray w:=by
        cases A with
        |none=>
         have:I=[]:=by simp[I,q3 rfl]
         rw[this];exact run_firstCells_none w sz' _ _ _
        |some ad=>exact run_firstCells_some w sz' _ ad m c I hnl (λj u hu=>q4 ad rfl j u (by
          simp only[I,cH] at hu;split at hu
          .exact hu
          .cases hu))
       refine ⟨.value (.int .i64 (iC m n)),w.setRow k arr',k,.cells arr' blk.ty (0,0),?_,hφ,DW.setRow g1 hsize,?_,_,.inl rfl,.f (.raw _)⟩
       .have s1:=gg hs w;simp only[c8,hnl] at hst;unfold execOp;rw[ho];simp[resolve,invoke,builtin,Builtin.copy_,run_underlying hu,hz,hv,Builtin.lenOf,s1,hfc,hst,goInt,arr']
       .refine pn M.2 (by rw[M.1,nQ (by rw[hsl];omega),hsize];exact g3) λj q hq=>?_
        rw[M.1,mf (by rw[hsl];omega)] at hq;have ha':arr'[j]? =if j<0 then arr.toList[j]? else if j<0+I.length then I[j-0]? else arr.toList[j]? :=by
         have:=mf (l:=arr.toList) (vs:=I) (off:=0) (by simp only[ib];omega) j;unfold splice at this;simp only[arr',jU];rw[<- this,hnl]
        rw[ha',aC (by omega)];rw[aC (by omega),hsl] at hq;rw[hnl];by_cases h2:j<0+iC m n*sz'
        .rw[aJ h2] at hq ⊢;have U:j-0<I.length:=by rw[hnl];omega
         exact⟨csn.2.1 q (aZ hq),_,ay U,csn.2.2 _ q _ hq (ay U)⟩
        .rw[aC h2] at hq ⊢;have hj:j<blk.c.toMx.length:=(be.1 hq).1;have Y:j<arr.toList.length:=by simp;omega
         refine ⟨g2.2.1 q (aZ hq),arr.toList[j],ay Y,g2.2.2 j q _ hq ?_⟩;rw[cH,aJ hj,ay Y]
     .cases hput
    .cases J
   .cases J
  .cases J
 .cases J
theorem ahi {t el:TypeId} {sz:Nat} {z:List Value} {x:Operand} (ho:o.op= .call {callee:=.builtin .clear,args:=#[x],argTypes:=#[t]}) (hu:P.underlying t=aa (.slice el)) (hz:rQ P el=aa z) (hc:mc z=ah) (hl:z.length=sz) (hsz:sz≠0) (J:eC (.clr sz z x) e h nx=aa R):gB P o e.get h.get R.eff:=by
 simp only[eC] at J;split at J
 .rename_i id off n hx;split at J
  .rename_i blk hblk;split at J
   .rename_i hn;have hn:=aY hn;obtain⟨m,rfl⟩:∃ m,n=m+1:=⟨n-1,by omega⟩
    split at J
    .rename_i c' hput;simp only[aj] at J;subst J;unfold BC.put at hput;split at hput
     .rename_i hcc;simp only[au] at hcc;obtain⟨⟨c1,c2⟩,c3⟩:=hcc;have c2:=aY c2;have hsrc:((repl z (m+1)).map AV.f).length=(m+1)*sz:=by rw[b8,mh,hl]
      rw[hsrc] at c2;have U:c'.toMx=splice blk.c.toMx off ((repl z (m+1)).map AV.f)/\c'.isCells=ah:=by
       split at hput
       .rename_i l ys hbl hys;simp only[aj] at hput;subst hput;refine ⟨?_,rfl⟩;have hv:=o9 hys;rw[hv,hbl];simp only[BC.toMx];unfold splice;simp[kg,List.map_drop]
       .simp only[aj] at hput;subst hput;exact⟨rfl,rfl⟩
      refine gB.writes hblk λφ E h' w a hrd hb' hp hrep=>?_
      have hpx:=hp x _ (by rw[ho];simp[Op.operands,eD]) hx;generalize hzv:a.eval x=pv at hpx;cases hpx with
      |@sl _ _ _ cap k hφ hn2 hcap=>
       obtain⟨arr,g1,Z,g3⟩:=hrep.cs hb' hφ c1;rw[BC.len_toMx c1] at c2;obtain⟨v,z1,z2,_⟩:=su hz w;have csn:=Cs.repl (φ:=φ) (O:=tot E φ h') (w:=w) z2 (m+1) sz hl hsz hc
       let M:=(kR v.cells (m+1)).toList
       have hvs:v.cells.size=sz:=by rw[<- hl,<-z2];simp
       have hns:M=((xg ((m+1)*sz)).map (λi=>v.cells[i%v.cells.size]!)).toList:=by simp only[M,kR,hvs]
       have hnl:M.length=(m+1)*sz:=by rw[hns];simp
       rw[<- hns] at csn;have hst:=run_storeCells_at (P:=P) k off blk.ty M 0 arr w g1 (by rw[hnl];omega) csn.one
       let arr':Array Value:=(arr.toList.take (off+0)++M++arr.toList.drop (off+0+M.length)).toArray
       have hsize:arr'.size=arr.size:=by simp only[arr',rX,bn,bC,md,ib,hnl];omega
       refine ⟨.value (.tuple #[]),w.setRow k arr',k,.cells arr' blk.ty (0,0),?_,hφ,DW.setRow g1 hsize,?_,_,.inl rfl,.tup (vs:=[]) rfl λj y v hy=>by simp at hy⟩
       .unfold execOp;rw[ho];have hst2:(storeCells ⟨k,off,af⟩ (kR v.cells (m+1)).toList).run P w= .ok () (w.setRow k arr'):=hst;simp[resolve,invoke,builtin,Builtin.clear_,run_underlying hu,hzv,z1,hst2]
       .refine pn U.2 (by rw[U.1,nQ (by rw[hsrc];omega),hsize];exact g3) λj q hq=>?_
        rw[U.1,mf (by rw[hsrc];omega)] at hq;have ha':arr'[j]? =if j<off then arr.toList[j]? else if j<off+M.length then M[j-off]? else arr.toList[j]? :=by
         have:=mf (l:=arr.toList) (vs:=M) (off:=off) (by simp only[ib];omega) j;unfold splice at this;simp only[arr',jU,c8];rw[<- this]
        rw[ha'];rw[hsrc] at hq;rw[hnl];by_cases h1:j<off
        .rw[aJ h1] at hq ⊢;have hj:j<blk.c.toMx.length:=(be.1 hq).1;have I:j<arr.toList.length:=by simp;omega
         refine ⟨Z.2.1 q (aZ hq),arr.toList[j],ay I,Z.2.2 j q _ hq ?_⟩;rw[cH,aJ hj,ay I]
        rw[aC h1] at hq ⊢;by_cases h2:j<off+(m+1)*sz
        .rw[aJ h2] at hq ⊢;have Y:j-off<M.length:=by rw[hnl];omega
         exact⟨csn.2.1 q (aZ hq),_,ay Y,csn.2.2 _ q _ hq (ay Y)⟩
        .rw[aC h2] at hq ⊢;have hj:j<blk.c.toMx.length:=(be.1 hq).1;have I:j<arr.toList.length:=by simp;omega
         refine ⟨Z.2.1 q (aZ hq),arr.toList[j],ay I,Z.2.2 j q _ hq ?_⟩;rw[cH,aJ hj,ay I]
     .cases hput
    .cases J
   .cases J
  .cases J
 .cases J
end
theorem KA (w:World) (ob:Obj):Qu w (w.drew.alloc ob) ob:=Qu.drawn (w.drawn+1) (qg {w with drawn:=w.drawn+1} ob)
section
variable {P:Program} {o:Oper} {e:yq} {h:nA} {nx:Nat} {R:AS}
theorem Gk {v:Value} {z:List Value} {sz:Nat} (hv:v.cells.toList=z) (hl:z.length=sz) (n:Nat):(kR v.cells n).size=n*sz:=by
 have:v.cells.size=sz:=by rw[<- hl,<-hv];simp
 simp[kR,this]
theorem Qn {t u el:TypeId} {s x:Operand} {i:TypeInfo} {z:List Value} (ho:o.op= .call {callee:=.builtin .append,args:=#[s,x],argTypes:=#[t,u]}) (hu:P.underlying t=aa (.slice el)) (U:P.info? el=aa i) (hz:rQ P el=aa z) (hzl:z.length=i.size)
 {φ:PM} {E:Nat->Prop} {h':HF} {w:World} {a:Act} (hrep:qd φ E h' w) (hnx:φ nx=af) {A:Option Addr} {n cap m:Nat} {olds vs:List Value} {oldA src:List AV} (hsl:a.eval s= .slice A n cap)
 (hold:(Jr i.size n (.slice A n cap)).run P w.drew= .ok olds.toArray w.drew) (csold:Cs φ (tot E φ h') w oldA olds) (hol:olds.length=n*i.size) (hsrc:Src P i.size u (a.eval x) m vs w) (hcs:Cs φ (tot E φ h') w src vs)
 (hg:cap<n+m) (r1:n+m<=1099511627776) (r2:(n+m)*i.bytes<=1099511627776) (del:List Nat) (hdel:∀ j∈del,j≠nx):
 o.wp P a w (λa' w'=>∃ v φ',a'=a.put o.dst v/\iJ φ φ' h' (eE h' (nx::del) (iP [(nx,⟨el,oN (oldA++src)⟩)])) w w'/\(∀ i k,φ' i=aa k->φ i=aa k\/i∈[nx])/\
  qd φ' E (eE h' (nx::del) (iP [(nx,⟨el,oN (oldA++src)⟩)])) w'/\cG φ' (tot E φ' (eE h' (nx::del) (iP [(nx,⟨el,oN (oldA++src)⟩)]))) w' (.row nx i.size (n+m)) v) (λ_ _ _=>False):=by
 obtain⟨J,z1,Z,i',I,Y⟩:=su hz w;rw[U] at I;cases I;have hfb:=growslice_fits (need:=n+m) (old:=cap) (bytes:=i.bytes) hg (by omega);have hrun:=run_append_grow_src w t u o.type el i J hu U Y A n cap olds hold (a.eval x) m vs hsrc hg (by omega) hfb;have hgc:=grownCap_ge w (n+m) cap el;have hgm:=grownCap_le_maxLen w (n+m) cap el (by unfold maxLen;omega);generalize grownCap w (n+m) cap el=Gc at hrun hgc hgm;have cs:=csold.append hcs;have hnl:=hsrc.newsLen;obtain⟨φ',p1,p2,p3,p4⟩:=hrep.wnew hnx (KA w _) (b:=⟨el,oN (oldA++src)⟩) (ob:=.cells ((olds++vs).toArray++kR J.cells (Gc-(n+m))) el (0,0)) (by
  obtain⟨M,q2⟩:=ne (oldA++src);refine pn q2 (by rw[M,<-cs.1];simp) λj q hq=>?_
  rw[M] at hq;have hj:j<(olds++vs).length:=by rw[cs.1];exact (be.1 hq).1
  refine ⟨cs.2.1 q (aZ hq),_,?_,cs.2.2 j q _ hq (ay hj)⟩;rw[Array.getElem?_append_left (by simpa using hj),jU,ay hj]) del (iP [(nx,⟨el,oN (oldA++src)⟩)]) (by simp[iP]) (λj hj hne=>by
   simp only[iP];rw[aC];intro hb;exact hne (av hb).symm)
 have hexec:(execOp a.eval o).run P w= .ok (.value (.slice (aa ⟨w.heap.size,0,af⟩) (n+m) Gc)) (w.drew.alloc (.cells ((olds++vs).toArray++kR J.cells (Gc-(n+m))) el)):=by
  unfold execOp;rw[ho];simp only[resolve,invoke,builtin,eh,og,cD,List.map_toArray,fV,List.map_nil,hsl,hrun]
 unfold FU;rw[hexec];refine ⟨_,φ',rfl,p2,p3,p4,.row p1 hgc hgm ⟨el,?_⟩⟩;have:=(KA w (.cells ((olds++vs).toArray++kR J.cells (Gc-(n+m))) el (0,0))).at_;unfold qJ;rw[this];have hzs:=Gk Z hzl (Gc-(n+m));have e1:(n+m)*i.size+(Gc-(n+m))*i.size=Gc*i.size:=by rw[<- LM];congr 1;omega
 simp only[Array.size_append,rX,bn,hol,hnl,hzs];congr 2;rw[<- e1,LM]
theorem ahl {t u el el':TypeId} {s x:Operand} {sz bytes:Nat} {z:List Value} (U:o.op= .call {callee:=.builtin .append,args:=#[s,x],argTypes:=#[t,u]}) (hu:P.underlying t=aa (.slice el)) (hu':P.underlying u=aa (.slice el')) (hs:eX P el=aa sz) (hb:DQ P el=aa bytes) (hz:rQ P el=aa z) (hzl:z.length=sz) (hsz:sz≠0)
 (I:eC (.app el sz bytes s x) e h nx=aa R):gB P o e.get h.get R.eff:=by
 obtain⟨i,Y,i2⟩:=Ly hb;have i3:i.size=sz:=by unfold eX at hs;rw[Y] at hs;simpa using hs
 subst i2;subst i3;simp only[eC] at I;split at I
 .rename_i bv y hsv M;split at I
  .rename_i src m rd hrow;have common:∀ {φ:PM} {E:Nat->Prop} {h':HF} {w:World} {a:Act},(∀ i∈rd,h' i=h.get i)->Tx φ E h' w a e o->qd φ E h' w->∃ vs,Src P i.size u (a.eval x) m vs w/\Cs φ (tot E φ h') w src vs:=
    λhrd hp hrep=>ZN hrow hrd hrep (hp x _ (by rw[U];simp[Op.operands,eD]) M) hu'
   have exec:∀ {w w':World} {a:Act} {v:Value},(Builtin.append_ #[t,u] o.type #[a.eval s,a.eval x]).run P w= .ok v w'->(execOp a.eval o).run P w= .ok (.value v) w':=by
    intro w w' a v hrun;unfold execOp;rw[U];simp[resolve,invoke,builtin,hrun]
   split at I
   .rename_i id sz' n;split at I
    .rename_i blk hblk;split at I
     .rename_i hc;simp only[au,cN,dX] at hc;obtain⟨⟨⟨⟨⟨rfl,hmem⟩,hcells⟩,hlen⟩,hty⟩,hroom⟩:=hc;have hlen:=aY hlen;rw[BC.len_toMx hcells] at hlen;obtain⟨r1,r2⟩:=Gy hroom;simp only[aj] at I;subst I;subst hty;intro φ E h' w a h1 h2 h3 hrep h5;have hp:Tx φ E h' w a e o:=λx y M hy=>sk hrep h3 M hy
      have hb':h' id=aa blk:=by rw[h1 id (by simp[AS.eff])];exact hblk
      obtain⟨vs,hsrc,hcs⟩:=common (λi hi=>h1 i (by simp[AS.eff,hi])) hp hrep;have hpd:=hp s _ (by rw[U];simp[Op.operands,eD]) hsv;have hnx:φ nx=af:=h5 nx (by simp[AS.eff]);have hwv:=hp s _ (by rw[U];simp[Op.operands,eD]) hsv;generalize hzv:a.eval s=pv at hpd;cases hpd with
      |@row _ _ _ cap k hφ hn hcap hsh=>
       obtain⟨arr,g1,g2,g3⟩:=hrep.cs hb' hφ hcells;have hne:nx≠id:=λe=>by rw[e,hφ] at hnx;cases hnx
       have harr:arr.size=cap*i.size:=by
        obtain⟨ty,hty⟩:=hsh;unfold qJ at hty;rw[g1] at hty;simp at hty;exact hty.2
       have hnl:=hsrc.newsLen;have hnn:n*i.size<=arr.size:=by omega
       have csnew:Cs φ (tot E φ h') w (blk.c.toMx.take (n*i.size)++src) (arr.toList.take (n*i.size)++vs):=by
        have:=(g2.take (n*i.size)).append hcs
        rwa [List.take_take,rA hlen] at this
       have hnw1:iP [(nx,⟨blk.ty,oN (blk.c.toMx.take (n*i.size)++src)⟩)] nx=aa ⟨blk.ty,oN (blk.c.toMx.take (n*i.size)++src)⟩:=by simp[iP]
       have hnw2:iP [(nx,⟨blk.ty,oN (blk.c.toMx.take (n*i.size)++src)⟩)] id=af:=by
        simp only[iP];rw[aC];intro hb;exact hne (av hb)
       by_cases hfit:n+m<=cap
       ·
        have hend:n*i.size+vs.length<=arr.size:=by
         rw[hnl,harr,<-LM];exact cA _ hfit
        have hst:=run_storeCells_at (P:=P) k (n*i.size) blk.ty vs 0 arr w g1 (by omega) hsrc.one;simp only[c8] at hst
        let arr':Array Value:=(arr.toList.take (n*i.size)++vs++arr.toList.drop (n*i.size+vs.length)).toArray
        have hsize:arr'.size=arr.size:=by simp only[arr',rX,bn,bC,md,ib];omega
        have hrun:(Builtin.append_ #[t,u] o.type #[a.eval s,a.eval x]).run P w= .ok (.slice (aa ⟨k,0,af⟩) (n+m) cap) (w.setRow k arr'):=by
         rw[hzv];rcases hsrc.kind with ⟨e',hk⟩|hk<;>simp[Builtin.append_,run_underlying hu,run_underlying hk,sizeOf,typeInfo,Y,hsrc.len,hfit,hsrc.cells,kF,hst,arr']
        obtain⟨φ',p1,p2,p3,p4⟩:=hrep.wren hb' hφ hnx (DW.setRow g1 hsize) (b':=⟨blk.ty,oN (blk.c.toMx.take (n*i.size)++src)⟩) (by
         obtain⟨q1,q2⟩:=ne (blk.c.toMx.take (n*i.size)++src);refine pn q2 (by rw[q1,<-csnew.1,hsize];simp;omega) λj q hq=>?_
         rw[q1] at hq;have hj:j<(arr.toList.take (n*i.size)++vs).length:=by rw[csnew.1];exact (be.1 hq).1
         refine ⟨csnew.2.1 q (aZ hq),_,?_,csnew.2.2 j q _ hq (ay hj)⟩;simp only[arr',jU];rw[bK hj,ay hj]) _ hnw1 hnw2
        unfold FU;rw[exec hrun];refine ⟨_,φ',rfl,p2,p3,p4,.row p1 hfit hcap ⟨blk.ty,?_⟩⟩;unfold qJ;rw[setRow_heap w k arr arr' blk.ty (0,0) g1];simp[hsize,harr]
       ·
        have hold:(Jr i.size n (.slice (aa ⟨k,0,af⟩) n cap)).run P w.drew= .ok (arr.toList.take (n*i.size)).toArray w.drew:=by
         refine run_firstCells_some w.drew i.size n _ n cap _ (by simp;omega) λj v hv=>?_
         rw[cH] at hv;split at hv
         .rw[cC] at hv;rw[kF,bJ];have hcl:w.cell? ⟨k,j,af⟩=aa v:=by simp[LK,g1,hv]
          simpa using hcl
         .cases hv
        exact Qn U hu Y hz hzl hrep hnx hzv hold (by
         have:=g2.take (n*i.size)
         rwa [List.take_take,rA hlen] at this) (by simp;omega) hsrc hcs (by omega) r1 r2 [id] (λj hj=>by simp at hj;subst hj;exact λe=>hne e.symm)
     .cases I
    .cases I
   .split at I
    .rename_i hc;simp only[au] at hc;obtain⟨J,hroom⟩:=hc;obtain⟨r1,r2⟩:=Gy hroom;have hbase:∀ {φ:PM} {O:Nat->Prop} {w:World} {v:Value},cG φ O w bv v->∃ A,v= .slice A 0 0:=by
      intro φ O w v hr;unfold Hd at J;split at J
      .cases hr;exact⟨_,rfl⟩
      .rename_i q;cases e9 hr;unfold yK at J;split at J
       .exact⟨_,rfl⟩
       .cases J
      .cases J
     split at I
     .rename_i hm;have hm:m=0:=by simpa using hm
      subst hm;simp only[aj] at I;subst I;refine gB.reads λφ E h' w a hrd hp hrep=>?_
      obtain⟨vs,hsrc,hcs⟩:=common hrd hp hrep;have hr:=hp s _ (by rw[U];simp[Op.operands,eD]) hsv;obtain⟨A,hA⟩:=hbase hr;refine ⟨a.eval s,exec ?_,hr⟩;rw[hA];have hvs:vs=[]:=by have:=hsrc.newsLen;simpa using this
      have Z:=hsrc.cells;rw[hvs] at Z;rcases hsrc.kind with ⟨e',hk⟩|hk<;>cases A<;>simp[Builtin.append_,run_underlying hu,run_underlying hk,sizeOf,typeInfo,Y,hsrc.len,Z,storeCells]
     .rename_i hm;have hm:m≠0:=by simpa using hm
      simp only[aj] at I;subst I;intro φ E h' w a h1 h2 h3 hrep h5;have hp:Tx φ E h' w a e o:=λx y M hy=>sk hrep h3 M hy
      obtain⟨vs,hsrc,hcs⟩:=common (λi hi=>h1 i hi) hp hrep;obtain⟨A,hA⟩:=hbase (hp s _ (by rw[U];simp[Op.operands,eD]) hsv);have hold:(Jr i.size 0 (.slice A 0 0)).run P w.drew= .ok ([]:List Value).toArray w.drew:=by
       cases A with
       |none=>exact run_firstCells_none w.drew i.size 0 0 0
       |some ad=>exact run_firstCells_some w.drew i.size 0 ad 0 0 [] (by simp) (by intro j v hv;simp at hv)
      have:=Qn (nx:=nx) (n:=0) (cap:=0) (olds:=[]) (oldA:=[]) U hu Y hz hzl hrep (h5 nx (by simp[AS.eff])) hA hold ⟨rfl,(by intro x M;cases M),(by intro j x v M;simp at M)⟩ (by simp) hsrc hcs (by omega) (by omega) (by simpa using r2) [] (by simp);simpa[AS.eff] using this
    .cases I
  .cases I
 .cases I
end
section
variable {P:Program} {o:Oper} {e:yq} {h:nA} {nx:Nat} {R:AS}
theorem ah9 {t:TypeId} (M:o.op= .makeMap t af) (I:eC .mkm e h nx=aa R):gB P o e.get h.get R.eff:=by
 simp only[eC,aj] at I;subst I;refine gB.makes λφ E h' w a _ _ _=>?_
 refine ⟨.map (aa w.heap.size),{w with heap:=w.heap.push (.map #[] 0)},.map #[] 0,?_,qg w _,⟨#[],0,rfl,rfl,by intro j x J;simp at J⟩,λφ' O hφ=>.mp hφ⟩;unfold execOp;rw[M];simp[Instr.makeMap,newObj,mU]
theorem ah4 {t:TypeId} {x:Operand} (J:o.op= .range t x) (hu:P.underlying t=aa .string) (I:eC (.rng x) e h nx=aa R):gB P o e.get h.get R.eff:=by
 simp only[eC] at I;split at I
 .rename_i s M;simp only[aj] at I;subst I;refine gB.makes λφ E h' w a _ hp _=>?_
  have hr:=e9 (hp x _ (by rw[J];simp[Op.operands]) M);refine ⟨.pointer (aa ⟨w.heap.size,0,af⟩),{w with heap:=w.heap.push (.stringIter s 0)},.stringIter s 0,?_,qg w _,rfl,λφ' O hφ=>.ptr hφ⟩;unfold execOp;rw[J];simp[Instr.range,run_underlying hu,hr,newObj,mU]
 .cases I
theorem Gl {w:World} {k:Nat} {ob ob':Obj} (hk:w.heap[k]? =aa ob) (h1:∀ c t f,ob≠ .cells c t f) (h2:∀ c t f,ob'≠ .cells c t f):DW w {w with heap:=w.heap.setIfInBounds k ob'} k ob':=by
 have hlt:k<w.heap.size:=(cu.1 hk).1;have hat:(w.heap.setIfInBounds k ob')[k]? =aa ob':=by simp[hlt]
 have hot:∀ j,j≠k->(w.heap.setIfInBounds k ob')[j]? =w.heap[j]? :=λj hj=>pa (λe=>hj e.symm)
 refine ⟨rfl,rfl,rfl,by simp,hat,hot,λj=>?_⟩;unfold qJ;by_cases hj:j=k
 .subst hj;simp only[hat,hk];cases ob<;>cases ob'<;>first|rfl|exact cX rfl (h1 _ _ _)|exact cX rfl (h2 _ _ _)
 .simp only[hot j hj]
theorem ah5 {x:Operand} (Z:o.op= .next x ah) (I:eC (.nxt x) e h nx=aa R):gB P o e.get h.get R.eff:=by
 simp only[eC] at I;split at I
 .rename_i id hx;split at I
  .rename_i ty s p hid;split at I
   .rename_i b hb;split at I
    .rename_i hlt;have hlt:=aY hlt;simp only[aj] at I;subst I;refine gB.writes hid λφ E h' w a hrd M hp hrep=>?_
     have hr:=hp x _ (by rw[Z];simp[Op.operands]) hx;generalize hz:a.eval x=z at hr;cases hr with
     |@ptr _ _ k hφ=>
      obtain⟨k',Y,_,ob,U,q3⟩:=hrep.at_ id _ M;rw[hφ] at Y;cases Y;have q3:ob= .stringIter s p:=q3;subst q3;have hps:p<s.size:=by
       have:=(be.1 hb).1;simpa using this
      have hget:s.get! p=b:=by
       have:s.data[p]? =aa b:=by rw[<- cC];exact hb
       have hpd:p<s.data.size:=(cu.1 this).1;have h2:s.data[p]! =s.data[p]:=getElem!_pos s.data p hpd;rw[gY hpd] at this;simp only[ByteArray.get!,h2];exact jD this
      have hdec:Utf8.decode s p=(b.toNat,1):=by
       unfold Utf8.decode;simp only[c8,hget];rw[aJ (by omega)]
      refine ⟨.value (.tuple #[.bool ah,.int .i64 p,.int .i32 b.toNat]),_,k,.stringIter s (p+1),?_,hφ,Gl U (by simp) (by simp),rfl,_,.inl rfl,?_⟩
      .unfold execOp;rw[Z];simp[Instr.next,hz,getObj,mU,U,hps,hdec,setObj,goInt]
      .refine cG.tup (vs:=[.bool ah,.int .i64 p,.int .i32 b.toNat]) rfl λj y v J hv=>?_
       rcases j with _|_|_|j<;>simp at J hv
       .subst J;subst hv;exact .f (.raw _)
       .subst J;subst hv;exact .f (.raw _)
       .subst J;subst hv;exact .f (.raw _)
    .cases I
   .rename_i hb;simp only[aj] at I;subst I;refine gB.writes hid λφ E h' w a hrd M hp hrep=>?_
    have hr:=hp x _ (by rw[Z];simp[Op.operands]) hx;generalize hz:a.eval x=z at hr;cases hr with
    |@ptr _ _ k hφ=>
     obtain⟨k',Y,_,ob,U,q3⟩:=hrep.at_ id _ M;rw[hφ] at Y;cases Y;have q3:ob= .stringIter s p:=q3;subst q3;have hps:¬p<s.size:=by
      have:=List.getElem?_eq_none_iff.1 hb;have e:s.data.toList.length=s.size:=by simp
      omega
     refine ⟨.value (.tuple #[.bool ai]),w,k,.stringIter s p,?_,hφ,⟨rfl,rfl,rfl,rfl,U,λ_ _=>rfl,λ_=>rfl⟩,rfl,_,.inl rfl,?_⟩
     .unfold execOp;rw[Z];simp[Instr.next,hz,getObj,mU,U,hps]
     .refine cG.tup (vs:=[.bool ai]) rfl λj y v J hv=>?_
      rcases j with _|j<;>simp at J hv;subst J;subst hv;exact .f (.raw _)
  .cases I
 .cases I
theorem yl {a b:ByteArray}:qV a b=ah↔a=b:=by
 unfold qV;constructor
 .intro h;have h1:a.data.toList=b.data.toList:=by simpa using h
  cases a;cases b;congr 1;exact Js h1
 .rintro rfl;simp
theorem DP (a b:ByteArray):(a==b)=qV a b:=by
 have h1:(a==b)=(a.data==b.data):=rfl;rw[h1,Bool.eq_iff_iff,yl,cN];constructor
 .intro h;cases a;cases b;congr 1
 .rintro rfl;rfl
def kd (str:Bool) (d:TypeDesc):Prop:=if str then d= .string else ∃ k,d= .int k
theorem Bl {str:Bool} {d:TypeDesc} (hd:kd str d) {k k':Value} (hk:xD str k=ah) {b:Bool} (hb:tL .eql k k'=aa (.bool b)):Instr.sameNow d k k'=aa b:=by
 unfold kd at hd;cases str with
 |true=>
  simp only[bB] at hd;subst hd;cases k<;>simp[xD] at hk;cases k'<;>simp only[tL] at hb<;>try (simp at hb;done)
  simp only[aj,AU] at hb;simp[Instr.sameNow,DP,hb]
 |false=>
  simp only[co,dR] at hd;obtain⟨q,rfl⟩:=hd;cases k<;>simp[xD] at hk;cases k'<;>simp only[tL] at hb<;>try (simp at hb;done)
  split at hb
  .rename_i hkk;have hkk':=eq_of_beq hkk;subst hkk';simp only[aj,AU] at hb;simp[Instr.sameNow,<-hb]
  .cases hb
theorem O6 {str:Bool} {d:TypeDesc} (hd:kd str d) {k:Value} (hk:xD str k=ah):∀ (es:List (Value×AV)) (ents:List MapEntry) (i:Nat),ents.map (·.key)=es.map (·.1)->∀ r,r_ k es=aa r->
 (r=af/\jf d k ents i=aa af)\/∃ (j:Nat) (v:AV) (m:MapEntry) (k':Value),r=aa v/\es[j]? =aa (k',v)/\ents[j]? =aa m/\jf d k ents i=aa (aa (i+j,m.val))/\tL .eql k k'=aa (.bool ah)
 |[],ents,i,he,r,h=>by
  cases ents with
  |nil=>simp only[r_,aj] at h;exact .inl ⟨h.symm,rfl⟩
  |cons _ _=>simp at he
 |(k',v)::es,ents,i,he,r,h=>by
  cases ents with
  |nil=>simp at he
  |cons m ents=>
   simp only[fV,iD] at he;obtain⟨I,J⟩:=he;simp only[r_] at h;split at h
   .rename_i hb;simp only[aj] at h;refine .inr ⟨0,v,m,k',h.symm,rfl,rfl,?_,hb⟩;simp only[jf];rw[I,Bl hd hk hb];rfl
   .rename_i hb;have hs:=Bl hd hk hb;rcases O6 hd hk es ents (i+1) J r h with ⟨h1,h2⟩|⟨j,M,m',k'',h1,h2,Z,Y,U⟩
    .refine .inl ⟨h1,?_⟩;simp only[jf];rw[I,hs];exact h2
    .refine .inr ⟨j+1,M,m',k'',h1,by simpa using h2,by simpa using Z,?_,U⟩;simp only[jf];rw[I,hs];show jf d k ents (i+1)=_;rw[Y,show i+1+j=i+(j+1) from by omega]
   .cases h
theorem Bm {I:TypeId} {str:Bool} {d:TypeDesc} (hu:P.underlying I=aa d) (hd:kd str d) (b:Bool) (v:Value) (w:World):(Instr.checkKey b 10000 I v).run P w= .ok () w:=by
 have key:∀ n,(Instr.checkKey b (n+1) I v).run P w= .ok () w:=λn=>by
  unfold kd at hd;cases str with
  |true=>simp only[bB] at hd;subst hd;simp[Instr.checkKey,run_underlying hu]
  |false=>simp only[co,dR] at hd;obtain⟨q,rfl⟩:=hd;simp[Instr.checkKey,run_underlying hu]
 exact key 9999
theorem XJ {φ:PM} {O:Nat->Prop} {w:World} {ok b:Bool} {x:AV} {v:Value} (h:cG φ O w x v):cG φ O w (ZT ok x b) (if ok then .tuple #[v,.bool b] else v):=by
 cases ok with
 |false=>exact h
 |true=>
  refine cG.tup (vs:=[v,.bool b]) rfl λj y u I hv=>?_
  rcases j with _|_|j<;>simp at I hv
  .subst I;subst hv;exact h
  .subst I;subst hv;exact .f (.raw _)
theorem acq {t kt el:TypeId} {x k:Operand} {str ok:Bool} {d:TypeDesc} {z:Value} (U:o.op= .lookup t x k ok) (hu:P.underlying t=aa (.map kt el)) (hk:P.underlying kt=aa d) (hd:kd str d) (M:(P.info? el).bind (·.zero)=aa z) (I:eC (.lku str ok z x k) e h nx=aa R):gB P o e.get h.get R.eff:=by
 simp only[eC] at I;split at I
 .rename_i id key hx hkx;split at I
  .rename_i ty es hid;split at I
   .rename_i hko;have fin:∀ val:AV,(∀ (φ:PM) (E:Nat->Prop) (h':HF) (w:World) (a:Act),h' id=aa ⟨ty,.mp es⟩->Tx φ E h' w a e o->qd φ E h' w->∃ v,(execOp a.eval o).run P w= .ok (.value v) w/\cG φ (tot E φ h') w val v)->R=⟨val,[id],[],[],[]⟩->gB P o e.get h.get R.eff:=by
     rintro val hv rfl;exact gB.reads λφ E h' w a hrd hp hrep=>hv φ E h' w a (by rw[hrd id (by simp)];exact hid) hp hrep
    have zrun:∀ w:World,(zeroValue el).run P w= .ok z w:=λw=>by
     cases hi:P.info? el with
     |none=>rw[hi] at M;cases M
     |some i=>rw[hi] at M;simp only[aE] at M;simp[zeroValue,typeInfo,hi,M]
    have main:∀ r,r_ key es=aa r->∀ (φ:PM) (E:Nat->Prop) (h':HF) (w:World) (a:Act),h' id=aa ⟨ty,.mp es⟩->Tx φ E h' w a e o->qd φ E h' w->
     ∃ v,(execOp a.eval o).run P w= .ok (.value v) w/\cG φ (tot E φ h') w (match r with|some v=>ZT ok v ah|none=>ZT ok (raw z) ai) v:=by
     intro r hr φ E h' w a Y hp hrep;have hrx:=hp x _ (by rw[U];simp[Op.operands]) hx;have hrk:=e9 (hp k _ (by rw[U];simp[Op.operands]) hkx);generalize J:a.eval x=zz at hrx;cases hrx with
     |@mp _ b hφ=>
      obtain⟨k',q1,_,ob,Z,q3⟩:=hrep.at_ id _ Y;rw[hφ] at q1;cases q1;obtain⟨ents,clock,rfl,q4,q5⟩:=q3;have hck:=Bm (P:=P) hk hd ents.isEmpty key w;rcases O6 hd hko es ents.toList 0 q4 r hr with ⟨h1,h2⟩|⟨j,v,m,k',h1,h2,h3,h4,_⟩
      .subst h1;refine ⟨_,?_,XJ (.f (.raw z))⟩;unfold execOp;rw[U];cases ok<;>simp[Instr.lookup,run_underlying hu,J,hrk,getObj,mU,Z,hck,Instr.findKey,run_underlying hk,h2,zrun]
      .subst h1;obtain⟨m',h6,h7⟩:=q5 j _ h2;rw[cC] at h3;rw[h3] at h6;cases h6;refine ⟨_,?_,XJ h7⟩;unfold execOp;rw[U];cases ok<;>simp[Instr.lookup,run_underlying hu,J,hrk,getObj,mU,Z,hck,Instr.findKey,run_underlying hk,h4]
    split at I
    .rename_i v hf;simp only[aj] at I;exact fin _ (main _ hf) I.symm
    .rename_i hf;simp only[aj] at I;exact fin _ (main _ hf) I.symm
    .cases I
   .cases I
  .cases I
 .cases I
theorem T9 {str:Bool} {d:TypeDesc} (hd:kd str d) {k:Value} (hk:xD str k=ah) {v:AV}:∀ (es es':List (Value×AV)) (ents:List MapEntry) (i:Nat),ents.map (·.key)=es.map (·.1)->xB k v es=aa es'->
 (jf d k ents i=aa af/\es'=es++[(k,v)])\/∃ (j:Nat) (m:MapEntry) (k':Value) (J:AV),es[j]? =aa (k',J)/\ents[j]? =aa m/\jf d k ents i=aa (aa (i+j,m.val))/\tL .eql k k'=aa (.bool ah)/\es'=es.set j (k,v)
 |[],es',ents,i,he,h=>by
  cases ents with
  |nil=>simp only[xB,aj] at h;exact .inl ⟨rfl,by simp[h]⟩
  |cons _ _=>simp at he
 |(k',J)::es,es',ents,i,he,h=>by
  cases ents with
  |nil=>simp at he
  |cons m ents=>
   simp only[fV,iD] at he;obtain⟨I,M⟩:=he;simp only[xB] at h;split at h
   .rename_i hb;simp only[aj] at h;refine .inr ⟨0,m,k',J,rfl,rfl,?_,hb,by simp[h]⟩;simp only[jf];rw[I,Bl hd hk hb];rfl
   .rename_i hb;have hs:=Bl hd hk hb;split at h
    .rename_i es2 hes2;simp only[aj] at h;subst h;rcases T9 hd hk es es2 ents (i+1) M hes2 with ⟨h1,h2⟩|⟨j,m',k'',v'',h1,h2,Z,Y,U⟩
     .refine .inl ⟨?_,by simp[h2]⟩;simp only[jf];rw[I,hs];exact h1
     .refine .inr ⟨j+1,m',k'',v'',by simpa using h1,by simpa using h2,?_,Y,by simp[U]⟩;simp only[jf];rw[I,hs];show jf d k ents (i+1)=_;rw[Z,show i+1+j=i+(j+1) from by omega]
    .cases h
   .cases h
theorem Yt {str:Bool} {k k':Value} (hk:xD str k=ah) (hb:tL .eql k k'=aa (.bool ah)):Instr.sameBits 10000 k' k=ah/\k'=k:=by
 cases str with
 |true=>
  cases k<;>simp[xD] at hk;cases k'<;>simp only[tL] at hb<;>try (simp at hb;done)
  simp only[aj,AU] at hb;have:=yl.1 hb;subst this;exact⟨by simp[Instr.sameBits,DP,hb],rfl⟩
 |false=>
  cases k<;>simp[xD] at hk;cases k'<;>simp only[tL] at hb<;>try (simp at hb;done)
  split at hb
  .rename_i hkk;have hkk':=eq_of_beq hkk;subst hkk';simp only[aj,AU,cN] at hb;subst hb;exact⟨by simp[Instr.sameBits],rfl⟩
  .cases hb
theorem acp {t kt el:TypeId} {x k y:Operand} {str:Bool} {d:TypeDesc} (M:o.op= .mapUpdate t x k y) (hu:P.underlying t=aa (.map kt el)) (hk:P.underlying kt=aa d) (hd:kd str d) (I:eC (.mup str x k y) e h nx=aa R):gB P o e.get h.get R.eff:=by
 simp only[eC] at I;split at I
 .rename_i id key v hx hkx hy;split at I
  .rename_i ty es hid;split at I
   .rename_i hko;split at I
    .rename_i es' hput;simp only[aj] at I;subst I;refine gB.writes hid λφ E h' w a hrd Z hp hrep=>?_
     have hrx:=hp x _ (by rw[M];simp[Op.operands]) hx;have hrk:=e9 (hp k _ (by rw[M];simp[Op.operands]) hkx);have hry:=hp y _ (by rw[M];simp[Op.operands]) hy;generalize J:a.eval x=zz at hrx;cases hrx with
     |@mp _ b hφ=>
      obtain⟨k',q1,_,ob,U,q3⟩:=hrep.at_ id _ Z;rw[hφ] at q1;cases q1;obtain⟨ents,clock,rfl,q4,q5⟩:=q3;have hck:=Bm (P:=P) hk hd ai key w;have hlen:ents.size=es.length:=by have:=gA ak q4;simpa using this
      rcases T9 hd hko es es' ents.toList 0 q4 hput with ⟨h1,rfl⟩|⟨j,m,k',v',h1,h2,h3,h4,rfl⟩
      .refine ⟨.skip,_,b,.map (ents.push {key,val:=a.eval y,born:=clock}) (clock+1),?_,hφ,Gl U (by simp) (by simp),⟨_,_,rfl,by simp[q4],λj q hq=>?_⟩,undef,.inr ⟨rfl,rfl⟩,.f (.raw _)⟩
       .unfold execOp;rw[M];simp[Instr.mapUpdate,run_underlying hu,J,hrk,getObj,mU,U,hck,Instr.findKey,run_underlying hk,h1,setObj]
       .rcases bW j es.length with hj|hj
        .rw[bK hj] at hq;obtain⟨m,g1,g2⟩:=q5 j q hq;exact⟨m,by rw[Array.getElem?_push,aC (by omega)];exact g1,g2⟩
        .rw[bX hj] at hq;have Y:j-es.length=0:=by
          rcases Jq (j-es.length) with h0|h0
          .exact h0
          .rw[bM (by simp;omega)] at hq;cases hq
         rw[Y] at hq;simp at hq;subst hq;exact⟨_,by rw[Array.getElem?_push,aJ (by omega)],hry⟩
      .obtain⟨s1,s2⟩:=Yt hko h4;subst s2;rw[cC] at h2;rw[bJ] at h3;have hjl:j<ents.size:=(cu.1 h2).1;have hmk:m.key=k':=by
        have e1:(ents.toList.map (·.key))[j]? =aa m.key:=by rw[a8,cC,h2];rfl
        rw[q4,a8,h1] at e1;simpa using e1.symm
       refine ⟨.skip,_,b,.map (ents.modify j λe=>{e with key:=k',val:=a.eval y}) clock,?_,hφ,Gl U (by simp) (by simp),⟨_,_,rfl,?_,λi q hq=>?_⟩,undef,.inr ⟨rfl,rfl⟩,.f (.raw _)⟩
       .unfold execOp;rw[M];simp[Instr.mapUpdate,run_underlying hu,J,hrk,getObj,mU,U,hck,Instr.findKey,run_underlying hk,h3,setObj,h2,hmk,Instr.keyThatStays,s1]
       .apply List.ext_getElem?;intro i;simp only[a8,cC,rY,Array.getElem?_modify];have e2:∀ i:Nat,(ents[i]?).map (λm:MapEntry=>m.key)=(es[i]?).map (λp:Value×AV=>p.1):=λi=>by
         have:=gA (λl=>l[i]?) q4;simpa[a8,cC] using this
        by_cases hij:j=i
        .subst hij;simp[h2,show j<es.length by omega]
        .simp only[hij,dR];exact e2 i
       .rw[rY] at hq;rw[Array.getElem?_modify];by_cases hij:j=i
        .subst hij;simp[show j<es.length by omega] at hq;subst hq;exact⟨{m with key:=k',val:=a.eval y},by simp[h2],hry⟩
        .simp only[hij,dR] at hq ⊢;exact q5 i q hq
    .cases I
   .cases I
  .cases I
 .cases I
end
section
variable {P:Program} {o:Oper} {e:yq} {h:nA} {nx:Nat} {R:AS}
theorem N6 {t:TypeId} {d:TypeDesc} (hu:P.underlying t=aa d) (hd:(match d with|.int _=>ah|.bool=>ah|.string=>ah|_=>ai)=ah) (cs:Array Value) (j:Nat) (v:Value) (hv:cs[j]? =aa v) (w:World):(part t cs j).run P w= .ok v w:=by
 unfold part;simp only[isAgg,eh,run_underlying hu,cD];cases d<;>simp at hd<;>simp[hv]
theorem VS {t:TypeId} {d:TypeDesc} (hu:P.underlying t=aa d) (hd:(match d with|.int _=>ah|.bool=>ah|.string=>ah|_=>ai)=ah) {x y:FV} {b:Bool} (hxy:wv d x y=aa b) {u v:Value} (M:x= .raw u) (J:y= .raw v) (n:Nat) (w:World):(Op.equalIn (n+1) t u v).run P w= .ok b w:=by
 subst M;subst J;cases d<;>simp at hd<;>cases u<;>cases v<;>simp only[wv] at hxy<;>first|(cases hxy;done)|skip
 .simp only[aj] at hxy;subst hxy;simp[Op.equalIn,run_underlying hu]
 .split at hxy
  .rename_i hk;have I:=eq_of_beq hk;subst I;simp only[aj] at hxy;subst hxy;simp[Op.equalIn,run_underlying hu]
  .cases hxy
 .simp only[aj] at hxy;subst hxy;simp[Op.equalIn,run_underlying hu,DP]
abbrev HV (n:Nat) (xs I:Array Value) (f:Field) (_:Option Bool×Unit):Sem (ForInStep (Option Bool×Unit)):=
 if f.name≠ "_" then do
  let a←part f.type xs f.offset
  let b←part f.type I f.offset
  let c←Op.equalIn (n+1) f.type a b
  if (!c)=ah then pure (ForInStep.done (aa ai,())) else pure (ForInStep.yield (af,()))
 else pure (ForInStep.yield (af,()))
theorem Lb (n:Nat) (w:World) (xs I:Array Value):∀ (fs:List Field) (ds:List TypeDesc) (a b:List FV) (k:Nat) (r:Bool),qN P k fs=aa ds->
 (∀ (j:Nat) x u,a[j]? =aa x->xs[k+j]? =aa u->x= .raw u\/∀ v,x≠ .raw v)->(∀ (j:Nat) x u,b[j]? =aa x->I[k+j]? =aa u->x= .raw u\/∀ v,x≠ .raw v)->(∀ (j:Nat),j<a.length->k+j<xs.size)->(∀ (j:Nat),j<b.length->k+j<I.size)->ox ds a b=aa r->
 (forIn fs (af,()) (HV n xs I)).run P w= .ok (if r then (af,()) else (aa ai,())) w
 |[],ds,a,b,k,r,hp,_,_,_,_,he=>by
  simp only[qN,aj] at hp;subst hp;cases a<;>cases b<;>simp[ox] at he;subst he;simp
 |f::fs,ds,a,b,k,r,hp,Z,hb,hla,hlb,he=>by
  simp only[qN] at hp;split at hp
  .rename_i d ds' hu Y;split at hp
   .rename_i hc;simp only[au,bne_iff_ne,ne_eq,cN] at hc;obtain⟨⟨hn,hof⟩,hd⟩:=hc;simp only[aj] at hp;subst hp;cases a with
    |nil=>cases b<;>simp[ox] at he
    |cons x a=>
     cases b with
     |nil=>simp[ox] at he
     |cons y b=>
      simp only[ox] at he;have U:k<xs.size:=by have:=hla 0 (by simp);omega
      have M:k<I.size:=by have:=hlb 0 (by simp);omega
      have hraw:∀ (z:FV) (q:Value),(z= .raw q\/∀ v,z≠ .raw v)->(∃ v,z= .raw v)->z= .raw q:=by
       rintro z q (h|h) ⟨v,hv⟩
       .exact h
       .exact cX hv (h v)
      have hxr:∀ J,wv d x y=aa J->x= .raw xs[k]/\y= .raw I[k]:=by
       intro J hbb;have hrr:(∃ v,x= .raw v)/\∃ v,y= .raw v:=by
        unfold wv at hbb;split at hbb
        .exact⟨⟨_,rfl⟩,⟨_,rfl⟩⟩
        .exact⟨⟨_,rfl⟩,⟨_,rfl⟩⟩
        .exact⟨⟨_,rfl⟩,⟨_,rfl⟩⟩
        .cases hbb
       exact⟨hraw x _ (Z 0 x _ rfl (by simp[U])) hrr.1,hraw y _ (hb 0 y _ rfl (by simp[M])) hrr.2⟩
      have hstep:∀ J,wv d x y=aa J->(HV n xs I f (af,())).run P w= .ok (if J then ForInStep.yield (af,()) else ForInStep.done (aa ai,())) w:=by
       intro J hbb;obtain⟨h1,h2⟩:=hxr J hbb;have p1:=N6 hu (by cases d<;>simp[GJ] at hd<;>rfl) xs k xs[k] (by simp[U]) w;have p2:=N6 hu (by cases d<;>simp[GJ] at hd<;>rfl) I k I[k] (by simp[M]) w;have p3:=VS hu (by cases d<;>simp[GJ] at hd<;>rfl) hbb h1 h2 n w;unfold HV;rw[aJ hn,hof];simp only[eh,p1,p2,p3,cD];cases J<;>simp
      rw[List.forIn_cons];simp only[eh];split at he
      .rename_i hbb;rw[hstep ah hbb];simp only[cD,bB];exact Lb n w xs I fs ds' a b (k+1) r Y (λj x u h1 h2=>Z (j+1) x u (by simpa using h1) (by rw[<- h2];congr 1;omega)) (λj x u h1 h2=>hb (j+1) x u (by simpa using h1) (by rw[<- h2];congr 1;omega))
        (λj hj=>by have:=hla (j+1) (by simpa using hj);omega) (λj hj=>by have:=hlb (j+1) (by simpa using hj);omega) he
      .rename_i hbb;rw[hstep ai hbb];simp only[aj] at he;subst he;simp
      .cases he
   .cases hp
  .cases hp
theorem VR {t:TypeId} {fs:Array Field} (hu:P.underlying t=aa (.struct fs)) (hs:P.stoodInHeld t=ai) {ds:List TypeDesc} (hp:qN P 0 fs.toList=aa ds) (xs I:Array Value) {a b:List FV} {r:Bool}
 (J:∀ (j:Nat) x u,a[j]? =aa x->xs[j]? =aa u->x= .raw u\/∀ v,x≠ .raw v) (hb:∀ (j:Nat) x u,b[j]? =aa x->I[j]? =aa u->x= .raw u\/∀ v,x≠ .raw v) (hla:a.length=xs.size) (hlb:b.length=I.size) (he:ox ds a b=aa r) (w:World):
 (Op.equal t (.agg xs) (.agg I)).run P w= .ok r w:=by
 have key:∀ n,(Op.equalIn (n+2) t (.agg xs) (.agg I)).run P w= .ok r w:=by
  intro n;rw[Op.equalIn];have h1:=Lb (P:=P) n w xs I fs.toList ds a b 0 r hp (λj x u h1 h2=>J j x u h1 (by simpa using h2)) (λj x u h1 h2=>hb j x u h1 (by simpa using h2)) (λj hj=>by omega) (λj hj=>by omega) he;rw[Array.forIn_toList] at h1;simp only[eh,run_underlying hu,cD,program,mU,hs,co,dR];have h2:(forIn fs (af,()) (λf __s=>HV n xs I f __s)).run P w= .ok (if r then (af,()) else (aa ai,())) w:=h1;unfold HV at h2;rw[h2];cases r<;>simp
 exact key 9998
theorem Pa {t:TypeId} {fs:Array Field} (hu:P.underlying t=aa (.struct fs)) {ds:List TypeDesc} (hp:qN P 0 fs.toList=aa ds):P.eqGuardType P.depth t=ai:=by
 have key:∀ (fs:List Field) (k:Nat) (ds:List TypeDesc),qN P k fs=aa ds→∀ d,(fs.any λf=>f.name != "_" &&P.eqGuardType (d+1) f.type)=ai:=by
  intro fs;induction fs with
  |nil=>intros;rfl
  |cons f fs M=>
   intro k ds hp d;simp only[qN] at hp;split at hp
   .rename_i U ds' I J;split at hp
    .rename_i hc;simp only[au] at hc;have:P.eqGuardType (d+1) f.type=ai:=by
      unfold Program.eqGuardType;rw[I];have:=hc.2;cases U<;>simp[GJ] at this<;>rfl
     simp only[List.any_cons,this,Bool.and_false,Bool.false_or];exact M (k+1) ds' J d
    .cases hp
   .cases hp
 unfold Program.depth Program.eqGuardType;rw[hu];simp only[];rw[← Array.any_toList];exact key fs.toList 0 ds hp _
theorem acr {t t':TypeId} {op:BinOp} {neg:Bool} {x y:Operand} {fs:Array Field} {ds:List TypeDesc} (Y:o.op= .binOp op t x y t') (hop:op=if neg then .neq else .eql) (hu:P.underlying t=aa (.struct fs)) (hs:P.stoodInHeld t=ai) (hp:qN P 0 fs.toList=aa ds) (I:eC (.eqs neg ds x y) e h nx=aa R):gB P o e.get h.get R.eff:=by
 simp only[eC] at I;split at I
 .rename_i a b J hy;split at I
  .rename_i r hr;rw[di I];refine gB.reads λφ E h' w ac _ hpp _=>?_
   have h1:=hpp x _ (by rw[Y];simp[Op.operands]) J;have h2:=hpp y _ (by rw[Y];simp[Op.operands]) hy;generalize hzx:ac.eval x=zx at h1;generalize hzy:ac.eval y=zy at h2;have rawOr:∀ (l:List FV) (vs:List Value),(∀ (j:Nat) x v,l[j]? =aa x->vs[j]? =aa v->mP (tot E φ h') w x v)->∀ (j:Nat) x u,l[j]? =aa x->vs.toArray[j]? =aa u->x= .raw u\/∀ v,x≠ .raw v:=by
    intro l vs hr j x u J hu;have:=hr j x u J (by simpa using hu);cases this with
    |raw v=>exact .inl rfl
    |nil=>exact .inr (by simp)
    |sl=>exact .inr (by simp)
    |ptr=>exact .inr (by simp)
    |agg=>exact .inr (by simp)
   cases h1 with
   |f h1=>
    cases h1 with
    |agg _ vs hl hcl U=>
     cases h2 with
     |f h2=>
      cases h2 with
      |agg _ us Z hcl' M=>
       have heq:=VR hu hs hp vs.toArray us.toArray (rawOr a vs U) (rawOr b us M) (by simp[hl]) (by simp[Z]) hr w;refine ⟨_,?_,.f (.raw _)⟩;have hg:=Pa hu hp;unfold execOp;rw[Y];simp only[hzx,hzy];subst hop;cases neg<;>simp[eqGuard,program,mU,hg,binOp,heq]
  .cases I
 .cases I
end
theorem bind_some {α β:Type} {x:Option α} {f:α->Option β} {y:β} (h:x.bind f=aa y):∃ a,x=aa a/\f a=aa y:=by
 cases x with
 |none=>cases h
 |some a=>exact⟨a,rfl,h⟩
theorem map_some {α β:Type} {x:Option α} {f:α->β} {y:β} (h:x.map f=aa y):∃ a,x=aa a/\f a=y:=by
 cases x with
 |none=>cases h
 |some a=>exact⟨a,rfl,by simpa using h⟩
theorem lz {c:Bool} {β:Type} {x:Option β} {y:β} (h:(if c then x else af)=aa y):c=ah/\x=aa y:=by
 cases c with
 |true=>exact⟨rfl,by simpa using h⟩
 |false=>simp at h
theorem GR {P:Program} {o:Oper} {e:yq} {h:nA} {nx:Nat} {s:WD} {R:AS} (hc:c6 P o.op=aa s) (J:eC s e h nx=aa R):gB P o e.get h.get R.eff:=by
 unfold c6 at hc;split at hc
 .rename_i x I;simp only[aj] at hc;subst hc;exact ah8 (.inl I) J
 .rename_i x I;simp only[aj] at hc;subst hc;exact ah8 (.inr I) J
 .rename_i c a b I;simp only[aj] at hc;subst hc;exact ae8 I J
 .rename_i t I;obtain⟨z,h1,hc⟩:=bind_some hc;obtain⟨h2,hc⟩:=lz hc;simp only[aj] at hc;subst hc;exact ab8 I h1 h2 J
 .rename_i t x I;simp only[aj] at hc;subst hc;exact ahk I J
 .rename_i t ps I;split at hc
  .rename_i fs hu;obtain⟨z,h1,hc⟩:=bind_some hc;obtain⟨h2,hc⟩:=lz hc;obtain⟨ps',M,rfl⟩:=map_some hc;simp only[au] at h2;exact U1 I h1 h2.1 M (.inl ⟨fs,hu,h2.2⟩) J
  .rename_i n el hu;obtain⟨z,h1,hc⟩:=bind_some hc;obtain⟨h2,hc⟩:=lz hc;obtain⟨ps',M,rfl⟩:=map_some hc;simp only[au] at h2;obtain⟨sz,U⟩:=iv.1 h2.2;exact U1 I h1 h2.1 M (.inr ⟨n,el,sz,hu,U⟩) J
  .cases hc
 .rename_i t n ps I;obtain⟨el,h1,hc⟩:=bind_some hc;obtain⟨z,h2,hc⟩:=bind_some hc;obtain⟨sz,M,hc⟩:=bind_some hc;obtain⟨U,hc⟩:=lz hc;obtain⟨ps',Z,rfl⟩:=map_some hc;simp only[au,cN,bne_iff_ne] at U;exact ahj I (ru h1) h2 M U.1.1.1 U.1.1.2 U.2 (aY U.1.2) Z J
 .rename_i t x I;obtain⟨sz,h1,hc⟩:=bind_some hc;obtain⟨ag,h2,rfl⟩:=map_some hc;exact aeb I h1 h2 J
 .rename_i t x v I;obtain⟨sz,h1,rfl⟩:=map_some hc;exact ab7 I h1 J
 .rename_i x I;simp only[aj] at hc;subst hc;exact ae9 I J
 .rename_i op t x y t' I;split at hc
  .simp only[aj] at hc;subst hc;exact act I J
  .simp only[aj] at hc;subst hc;exact act I J
  .rename_i hu;split at hc
   .simp only[aj] at hc;subst hc;exact acs (neg:=ai) I rfl hu J
   .simp only[aj] at hc;subst hc;exact acs (neg:=ah) I rfl hu J
   .cases hc
  .rename_i el hu;split at hc
   .simp only[aj] at hc;subst hc;exact U0 (neg:=ai) I rfl rfl hu J
   .simp only[aj] at hc;subst hc;exact U0 (neg:=ah) I rfl rfl hu J
   .cases hc
  .rename_i fs hu;obtain⟨ds,h1,hc⟩:=bind_some hc;unfold XI at h1;rw[hu] at h1;simp only[] at h1;split at h1
   .cases h1
   .rename_i hst;have hst:P.stoodInHeld t=ai:=by simpa using hst
    split at hc
    .simp only[aj] at hc;subst hc;exact acr (neg:=ai) I rfl hu hst h1 J
    .simp only[aj] at hc;subst hc;exact acr (neg:=ah) I rfl hu hst h1 J
    .cases hc
  .cases hc
 .rename_i t x I;simp only[aj] at hc;subst hc;exact ah6 I J
 .rename_i t x I;split at hc
  .simp only[aj] at hc;subst hc;exact ah7 I J
  .cases hc
 .rename_i s' d x I;split at hc
  .rename_i k k' h1 h2;simp only[aj] at hc;subst hc;exact aeh I h1 h2 J
  .cases hc
 .rename_i t l c I;obtain⟨el,h1,hc⟩:=bind_some hc;obtain⟨z,h2,hc⟩:=bind_some hc;obtain⟨sz,M,hc⟩:=bind_some hc;obtain⟨b,Z,hc⟩:=bind_some hc;obtain⟨U,hc⟩:=lz hc;simp only[au,cN,bne_iff_ne] at U;simp only[aj] at hc;subst hc;exact aea I (ru h1) h2 M Z U.1.1 U.1.2 U.2 J
 .rename_i t x lo hi mx I;obtain⟨el,h1,hc⟩:=bind_some hc;obtain⟨sz,h2,rfl⟩:=map_some hc;exact ah3 I (ru h1) h2 J
 .rename_i t x k I;split at hc
  .rename_i fs hu;obtain⟨f,h1,hc⟩:=bind_some hc;obtain⟨sz,h2,hc⟩:=bind_some hc;obtain⟨M,hc⟩:=lz hc;simp only[aj] at hc;subst hc;exact ahg I hu h1 h2 (by simpa using M) J
  .cases hc
 .rename_i t x k I;split at hc
  .rename_i fs hu;obtain⟨f,h1,hc⟩:=bind_some hc;obtain⟨sz,h2,hc⟩:=bind_some hc;obtain⟨ag,M,rfl⟩:=map_some hc;exact ahf I hu h1 h2 M J
  .cases hc
 .rename_i t x i I;split at hc
  .rename_i el hu;obtain⟨sz,h1,rfl⟩:=map_some hc;exact ahe I hu h1 J
  .rename_i n el hu;obtain⟨sz,h1,rfl⟩:=map_some hc;exact aef I hu h1 J
  .cases hc
 .rename_i t x i I;split at hc
  .rename_i n el hu;obtain⟨sz,h1,hc⟩:=bind_some hc;obtain⟨ag,h2,rfl⟩:=map_some hc;exact ahd I hu h1 h2 J
  .rename_i hu;simp only[aj] at hc;subst hc;exact ae7 I hu J
  .cases hc
 .rename_i x i I;simp only[aj] at hc;subst hc;exact ahh I J
 .rename_i f first caps I
  obtain⟨h1,hc⟩:=lz hc;simp only[aj] at hc;subst hc;have h2:first=#[]:=by simpa using h1
  subst h2;exact aha I J
 .rename_i t I;split at hc
  .simp only[aj] at hc;subst hc;exact ah9 I J
  .cases hc
 .rename_i t x k ok I;split at hc
  .rename_i kt el hu;split at hc
   .rename_i q z h1 h2;obtain⟨M,hc⟩:=lz hc;simp only[aj] at hc;subst hc;exact acq (str:=ai) I hu h1 ⟨q,rfl⟩ h2 J
   .rename_i z h1 h2;obtain⟨M,hc⟩:=lz hc;simp only[aj] at hc;subst hc;exact acq (str:=ah) I hu h1 rfl h2 J
   .cases hc
  .cases hc
 .rename_i t m k v I;split at hc
  .rename_i kt el hu;split at hc
   .rename_i q h1;simp only[aj] at hc;subst hc;exact acp (str:=ai) I hu h1 ⟨q,rfl⟩ J
   .rename_i h1;simp only[aj] at hc;subst hc;exact acp (str:=ah) I hu h1 rfl J
   .cases hc
  .cases hc
 .rename_i t x I;split at hc
  .rename_i hu;simp only[aj] at hc;subst hc;exact ah4 I hu J
  .cases hc
 .rename_i x I;simp only[aj] at hc;subst hc;exact ah5 I J
 .rename_i c I;obtain⟨callee,args,argTypes⟩:=c;have arr:∀ {α:Type} {x:Array α} {l:List α},x.toList=l->x=l.toArray:=λh=>by rw[<- h]
  unfold Qb at hc;simp only[] at hc;split at hc
  .split at hc
   .rename_i x t h1 h2;rw[arr h1,arr h2] at I;split at hc
    .rename_i el hu;simp only[aj] at hc;subst hc;exact aee I hu J
    .rename_i hu;simp only[aj] at hc;subst hc;exact aed I hu J
    .rename_i k v hu;simp only[aj] at hc;subst hc;exact aec I hu J
    .cases hc
   .cases hc
  .split at hc
   .rename_i x y h1;rw[arr h1] at I;simp only[aj] at hc;subst hc;exact ahc I J
   .cases hc
  .split at hc
   .rename_i x y h1;rw[arr h1] at I;simp only[aj] at hc;subst hc;exact ahb I J
   .cases hc
  .split at hc
   .rename_i d x t u h1 h2;rw[arr h1,arr h2] at I;split at hc
    .rename_i el el' h1 h2;obtain⟨sz,M,hc⟩:=bind_some hc;obtain⟨U,hc⟩:=lz hc;simp only[aj] at hc;subst hc;exact aeg I (ru h1) (ru h2) M J
    .cases hc
   .cases hc
  .split at hc
   .rename_i x t h1 h2;rw[arr h1,arr h2] at I;obtain⟨el,M,hc⟩:=bind_some hc;obtain⟨z,U,hc⟩:=bind_some hc;obtain⟨sz,Z,hc⟩:=bind_some hc;obtain⟨Y,hc⟩:=lz hc;simp only[au,cN,bne_iff_ne,ne_eq] at Y;simp only[aj] at hc;subst hc;exact ahi I (ru M) U Y.1.1 Y.1.2 Y.2 J
   .cases hc
  .split at hc
   .rename_i s' x t u h1 h2;rw[arr h1,arr h2] at I;split at hc
    .rename_i el el' h1 h2;obtain⟨sz,M,hc⟩:=bind_some hc;obtain⟨b,U,hc⟩:=bind_some hc;obtain⟨z,Z,hc⟩:=bind_some hc;obtain⟨Y,hc⟩:=lz hc;simp only[au,cN,bne_iff_ne] at Y;simp only[aj] at hc;subst hc;exact ahl I (ru h1) (ru h2) M U Z Y.2 Y.1 J
    .cases hc
   .cases hc
  .cases hc
 .cases hc
theorem lD {p:Nat->Bool}:∀ {l:List AV},AV.allL p l=ah->∀ x∈l,AV.all p x=ah
 |[],_,x,I=>by cases I
 |y::l,h,x,I=>by
  simp only[AV.allL,au] at h;rcases bh.1 I with rfl|I
  .exact h.1
  .exact lD h.2 x I
theorem cG.restrict {φ φ':PM} {O O':Nat->Prop} {w:World} {p:Nat->Bool} (hs:∀ i k,p i=ah->φ i=aa k->φ' i=aa k) (M:∀ k,O' k->O k) {x:AV} {v:Value} (h:cG φ O w x v):x.all p=ah->cG φ' O' w x v:=by
 induction h with
 |f h=>intro _;exact .f (h.ext (O':=O') (Jm.refl O w) λk _ hk=>M k hk)
 |ptr h=>intro hp;exact .ptr (hs _ _ hp h)
 |sl h hn hc=>intro hp;exact .sl (hs _ _ hp h) hn hc
 |row h hn hc hsh=>intro hp;exact .row (hs _ _ hp h) hn hc hsh
 |emp=>intro _;exact .emp
 |anyb=>intro _;exact .anyb
 |mp h=>intro hp;exact .mp (hs _ _ hp h)
 |agg hl hcl hr J=>intro hp;exact .agg hl hcl λj x v I hv=>J j x v I hv (lD hp x (aZ I))
 |tup hl hr J=>intro hp;exact .tup hl λj x v I hv=>J j x v I hv (lD hp x (aZ I))
 |clo hl hr J=>intro hp;exact .clo hl λj x v I hv=>J j x v I hv (lD hp x (aZ I))
theorem ja.restrict {φ φ':PM} {O O':Nat->Prop} {w w':World} {p:Nat->Bool} (hk:∀ x v,x.all p=ah->cG φ O w x v->cG φ' O' w' x v) {b:vH} {o:Obj} (hb:b.c.all p=ah) (h:ja φ O w b o):ja φ' O' w' b o:=by
 unfold ja at h ⊢;cases hc:b.c with
 |fz l=>
  rw[hc] at h;obtain⟨arr,h1,h2,J⟩:=h;exact⟨arr,h1,h2,λj x I=>by
   obtain⟨a,v,c,d⟩:=J j x I;refine ⟨a,v,c,hk _ _ ?_ d⟩;simp only[BC.get] at I;cases hl:l[j]? with
   |none=>rw[hl] at I;cases I
   |some q=>rw[hl] at I;simp at I;subst I;rfl⟩
 |mx l=>
  rw[hc] at h hb;obtain⟨arr,h1,h2,J⟩:=h;exact⟨arr,h1,h2,λj x I=>by
   obtain⟨a,v,c,d⟩:=J j x I;exact⟨a,v,c,hk _ _ (lD hb x (aZ I)) d⟩⟩
 |mp es=>
  rw[hc] at h hb;obtain⟨e,c,h1,h2,J⟩:=h;exact⟨e,c,h1,h2,λj x I=>by
   obtain⟨m,a,b⟩:=J j x I;exact⟨m,a,hk _ _ (lD hb x.2 (c9.2 ⟨x,aZ I,rfl⟩)) b⟩⟩
 |it s q=>rw[hc] at h;exact h
def YP (m:Nat):List Nat:=(eT (m+1)).filter λi=>aL m i
theorem KY {m i:Nat}:i∈YP m↔aL m i=ah:=by
 unfold YP;rw[D7,mQ];constructor
 .exact λh=>h.2
 .intro h;refine ⟨?_,h⟩;have h1:=Nat.ge_two_pow_of_testBit h;have h2:=Nat.lt_two_pow_self (n:=i);omega
def jH (φ:PM) (O:Nat->Prop) (w:World):List AV->List Value->Prop
 |[],[]=>True
 |x::xs,v::vs=>cG φ O w x v/\jH φ O w xs vs
 |_,_=>False
theorem jH.length {φ:PM} {O:Nat->Prop} {w:World}:∀ {args:List AV} {vs:List Value},jH φ O w args vs->vs.length=args.length
 |[],[],_=>rfl
 |[],_::_,h=>h.elim
 |_::_,[],h=>h.elim
 |_::_,_::_,h=>by simp[jH.length h.2]
theorem jH.mono {φ φ':PM} {O O':Nat->Prop} {w w':World} {p:Nat->Bool} (hk:∀ x v,x.all p=ah->cG φ O w x v->cG φ' O' w' x v):∀ {args:List AV} {vs:List Value},AV.allL p args=ah->jH φ O w args vs->jH φ' O' w' args vs
 |[],[],_,_=>trivial
 |[],_::_,_,h=>h.elim
 |_::_,[],_,h=>h.elim
 |x::xs,_::_,hp,h=>by
  simp only[AV.allL,au] at hp;exact⟨hk _ _ hp.1 h.1,jH.mono hk hp.2 h.2⟩
theorem jH.append {φ:PM} {O:Nat->Prop} {w:World}:∀ {xs I:List AV} {vs us:List Value},jH φ O w xs vs->jH φ O w I us->jH φ O w (xs++I) (vs++us)
 |[],_,[],_,_,h=>h
 |[],_,_::_,_,h,_=>h.elim
 |_::_,_,[],_,h,_=>h.elim
 |_::_,_,_::_,_,h,h'=>⟨h.1,jH.append h.2 h'⟩
theorem jH.of {φ:PM} {O:Nat->Prop} {w:World}:∀ {xs:List AV} {vs:List Value},vs.length=xs.length->(∀ (j:Nat) x v,xs[j]? =aa x->vs[j]? =aa v->cG φ O w x v)->jH φ O w xs vs
 |[],[],_,_=>trivial
 |[],_::_,h,_=>by simp at h
 |_::_,[],h,_=>by simp at h
 |x::xs,v::vs,hl,h=>⟨h 0 x v rfl rfl,jH.of (by simpa using hl) λj x v I hv=>h (j+1) x v (by simpa using I) (by simpa using hv)⟩
def CL (P:Program) (f:FuncId):Prop:=∃ fn,P.funcs[f]? =aa fn∧fn.body.isNone=ai∧(fn.name== "runtime.NumGoroutine")=ai
theorem MI {φ:PM} {E:Nat->Prop} {h':HF} {w:World} {a:Act} {e:yq} {o:Oper} (hp:Tx φ E h' w a e o):∀ (xs:List Operand) (I:List AV),(∀ x∈xs,x∈o.op.operands)->UC e xs=aa I->jH φ (tot E φ h') w I (xs.map a.eval)
 |[],I,_,h=>by simp only[UC,aj] at h;subst h;trivial
 |x::xs,I,hm,h=>by
  simp only[UC] at h;split at h
  .rename_i y J;split at h
   .rename_i ys' hys;simp only[aj] at h;subst h;exact⟨hp x y (hm x (dG ..)) J,MI hp xs ys' (λx M=>hm x (cO _ M)) hys⟩
   .cases h
  .cases h
theorem vM {P:Program} {f:FuncId} (hc:CL P f) (args:Array Value) (w:World):(callFunc f args).run P w= .ok (.enter f args) w:=by
 obtain⟨fn,h1,h2,M⟩:=hc;have I:fn.name≠ "runtime.NumGoroutine" :=by simpa using M
 have J:fn.body≠af:=by intro h;rw[h] at h2;cases h2
 simp[callFunc,program,mU,h1,J,I]
theorem Uw:∀ (fs:List Zn) (i:Nat),VP fs i=fs[i]?
 |[],i=>by simp[VP]
 |f::fs,0=>rfl
 |f::fs,i+1=>by simp[VP,Uw fs i]
theorem wC {a b:Nat} (h:Cm a b=ah) (i:Nat) (I:aL a i=ah):aL b i=ai:=by
 unfold Cm at h;have h0:a&&&b=0:=av h;have:=Nat.testBit_and a b i;rw[h0,I] at this;simpa using this.symm
structure Ctx where
 n0:Nat
 φ:PM
 E:Nat->Prop
 h:HF
 w:World
def Zk (P:Program) (d:Deferred):Prop:=∀ w:World,∃ J cap f args,d.target= .fn J cap/\(invoke d.target d.args).run P w= .ok (.enter f args) w/\
 CallsD P f args .returning w λe I w'=>(∃ v,e= .returned v)/\I= .returning/\w'=w
structure Cfg (P:Program) (C:Ctx) (nt:Nat) (s:IS) (a:Act) (w:World):Prop where
 ex:∃ φ,iJ C.φ φ C.h s.h.get C.w w/\qd φ C.E s.h.get w/\LG φ (tot C.E φ s.h.get) w s.e.get a/\(∀ i k,φ i=aa k->i<s.nx)/\∀ i k,φ i=aa k->C.φ i=aa k\/C.n0<=i
 low:C.n0<=s.nx
 inert:∀ d∈a.defers,Zk P d
 size:a.tmps.size=nt
theorem Cfg.bool {P:Program} {C:Ctx} {nt:Nat} {s:IS} {a:Act} {w:World} (c:Cfg P C nt s a w) {t:Nat} {b:Bool} (ht:s.e.get t=aa (.f (.raw (.bool b)))):a.eval (.tmp t)= .bool b:=by
 obtain⟨φ,_,_,en,_,_⟩:=c.ex;exact e9 (en t _ ht)
theorem Bd {P:Program} {c:Code} {Q:Exit->Act->World->Prop} (I:Nat->Act->World->Prop) (round:∀ n a w,I n a w->c.wp P (Exit.then (λa' w'=>∃ m,m<n/\I m a' w') Q) a w) {n:Nat} {a:Act} {w:World} (h0:I n a w):(Code.loop c).wp P Q a w:=by
 have least:∀ (n:Nat) (a:Act) (w:World),I n a w->∃ m,I m a w/\∀ k,I k a w->m<=k:=by
  intro n;induction n using Nat.strongRecOn with
  |_ n U=>
   intro a w hn;by_cases J:∃ k,k<n/\I k a w
   .obtain⟨k,hk,M⟩:=J;exact U k hk a w M
   .exact⟨n,hn,λk hk=>Nat.le_of_not_lt λhlt=>J ⟨k,hlt,hk⟩⟩
 have pick:∀ a w,∃ m,(∃ n,I n a w)->I m a w/\∀ k,I k a w->m<=k:=λa w=>by
  by_cases J:∃ n,I n a w
  .obtain⟨n,hn⟩:=J;obtain⟨m,hm⟩:=least n a w hn;exact⟨m,λ_=>hm⟩
  .exact⟨0,λh=>cX h J⟩
 let μ:Act->World->Nat:=λa w=>Classical.choose (pick a w)
 have hμ:∀ a w,(∃ n,I n a w)->I (μ a w) a w/\∀ k,I k a w->μ a w<=k:=λa w=>Classical.choose_spec (pick a w)
 refine wp_loop (λa w=>∃ n,I n a w) μ ⟨n,h0⟩ λa w M=>?_
 refine wp_mono (round (μ a w) a w (hμ a w M).1) λe a' w' he=>?_
 cases e with
 |normal=>
  obtain⟨m,hm,hIm⟩:=he;exact⟨⟨m,hIm⟩,Nat.lt_of_le_of_lt ((hμ a' w' ⟨m,hIm⟩).2 m hIm) hm⟩
 |exit id=>exact he
 |goto l=>exact he
 |ret=>exact he
 |panic c=>exact he
 |outgrown=>exact he
def Ex.to:Ex->Exit
 |.normal=>.normal
 |.exit id=>.exit id
 |.ret=>.ret
def Jk (P:Program) (inert:FuncId->Bool):Prop:=∀ f,inert f=ah->CL P f/\∀ (args:Array Value) (w:World),CallsD P f args .returning w λe I w'=>(∃ v,e= .returned v)/\I= .returning/\w'=w
theorem Pn {P:Program} {C:Ctx} {nt:Nat} {inert:FuncId->Bool} (hin:Jk P inert) {s:IS} {a:Act} {w:World} (c:Cfg P C nt s a w) {id:Nat} {ops:Array Oper} {dr:Bool} {f:FuncId} {caps:List Operand} {t:Nat} (hd:(ops.toList.all λo=>match o.dst with|some d=>decide (d<nt)|none=>ah)=ah) (hdf:Co ops dr=aa (f,caps,t))
 {l:List AV} (hl:UC s.e caps=aa l) (hi:inert f=ah) {Q:Exit->Act->World->Prop} (hQ:∀ a w,Cfg P C nt ⟨s.e.put (aa t) (.clo f l),s.h,s.nx,s.wr⟩ a w->Q .normal a w):(Code.region id ops dr).wp P Q a w:=by
 unfold Co at hdf;split at hdf
 .rename_i p q hops;split at hdf
  .rename_i f' first caps' t1 cl hpo hpg hpd hqo hqg hqd
   split at hdf
   .rename_i t2 hcl hca;split at hdf
    .rename_i hcond;simp only[au] at hcond;obtain⟨h1,h2⟩:=hcond;have h1:=av h1;have h2:first=#[]:=by simpa using h2
     simp only[aj,aB] at hdf;obtain⟨rfl,rfl,rfl⟩:=hdf;subst h1;subst h2;have hops':ops=#[p,q]:=by rw[<- Array.toArray_toList (xs:=ops),hops]
     obtain⟨φ,m,r,en,dm⟩:=c.ex;obtain⟨hcb,hincalls⟩:=hin f' hi;have htn:t1<nt:=by
      have:=fY.1 hd p (by rw[hops];simp);rw[hpd] at this;simpa using this
     have hrelL:jH φ (tot C.E φ s.h.get) w l (caps'.toList.map a.eval):=by
      have hp':Tx φ C.E s.h.get w a s.e p:=λx y U Y=>sk r (xs:=p.op.operands) (λt _ y Y=>en t y Y) U Y
      exact MI hp' caps'.toList l (λx U=>by rw[hpo];simpa[Op.operands] using U) hl
     have hcm:caps'.map a.eval=(caps'.toList.map a.eval).toArray:=by apply Js;simp
     let J:Value:=.func (.func f') #[] (caps'.map a.eval)
     have hrel:cG φ (tot C.E φ s.h.get) w (.clo f' l) J:=by
      simp only[J];rw[hcm];refine .clo (hrelL.length) ?_;have:∀ (xs:List AV) (vs:List Value),jH φ (tot C.E φ s.h.get) w xs vs->∀ (j:Nat) x v,xs[j]? =aa x->vs[j]? =aa v->cG φ (tot C.E φ s.h.get) w x v:=by
       intro xs;induction xs with
       |nil=>intro vs _ j x v U;simp at U
       |cons y xs ih=>
        intro vs h j x v U hv;cases vs with
        |nil=>exact h.elim
        |cons u vs=>
         cases j with
         |zero=>simp at U hv;subst U;subst hv;exact h.1
         |succ j=>exact ih vs h.2 j x v (by simpa using U) (by simpa using hv)
      exact this _ _ hrelL
     refine wp_region ?_;have Z:eT ops.size=[0,1]:=by rw[hops'];rfl
     rw[Z];have e0:ops[0]? =aa p:=by rw[hops'];rfl
     have e1:ops[1]? =aa q:=by rw[hops'];rfl
     rw[wpOps_cons];have hexec1:(execOp a.eval p).run P w= .ok (.value J) w:=by
      unfold execOp;rw[hpo];simp[Instr.makeFunc,J]
     have w1:iu p (yielded ops a.tmps)=ah:=by unfold iu;rw[hpg]
     unfold wpOp;simp only[e0,w1,bB];left;unfold FU;rw[hexec1];show wpOps P ops Q [1] (a.put p.dst J) w;rw[wpOps_cons];unfold wpOp;have w2:iu q (yielded ops (a.put p.dst J).tmps)=ah:=by unfold iu;rw[hqg]
     simp only[e1,w2,bB];left;have heval:(a.put p.dst J).eval (.tmp t1)=J:=by
      show (a.put p.dst J).tmps.getD t1 undef=J;rw[GA (by intro d I;rw[hpd] at I;cases I;rw[c.size];exact htn),aJ hpd]
     have hargs:cl.args=#[]:=by rw[<- Array.toArray_toList (xs:=cl.args),hca]
     have hexec2:(execOp (a.put p.dst J).eval q).run P w= .ok (.defer {target:=.fn (.func f') (caps'.map a.eval),args:=#[]}) w:=by
      unfold execOp;rw[hqo];simp[resolve,hcl,heval,J,Deferred.ofValue,hargs]
     unfold FU;rw[hexec2];show wpOps P ops Q [] _ w;refine hQ _ _ ⟨⟨φ,m,r,?_,dm⟩,c.low,?_,?_⟩
     .intro u x U;rw[hqd];show cG φ _ w x ((a.put p.dst J).tmps.getD u undef);rw[GA (by intro d I;rw[hpd] at I;cases I;rw[c.size];exact htn)];have M:(s.e.put (aa t1) (.clo f' l)).get u=aa x:=U;rw[<- XE] at M;unfold Bs at M;rw[hpd];by_cases hu:aa t1=aa u
      .rw[aJ hu] at M ⊢;cases M;exact hrel
      .rw[aC hu] at M ⊢;exact en u x M
     .intro d I;rw[hqd] at I;have hd'':d={target:=.fn (.func f') (caps'.map a.eval),args:=#[]}\/d∈(a.put p.dst J).defers:=by
       simpa[LN] using I
      rcases hd'' with rfl|hd''
      .intro w0;refine ⟨_,_,f',caps'.map a.eval,rfl,?_,hincalls _ w0⟩;simp[invoke,vM hcb]
      .rw[GD] at hd'';exact c.inert d hd''
     .rw[hqd];show (a.put p.dst J).tmps.size=nt;rw[N2];exact c.size
    .cases hdf
   .cases hdf
  .cases hdf
 .cases hdf
def Vc (tmps:Array Value):ResultVar->Sem Value
 |.tmp t=>pure (tmps.getD t undef)
 |.cell a t=>do
  let I<-asAddr (tmps.getD a undef)
  loadVar t I
theorem Rl (fn:Func) (tmps:Array Value):results fn tmps=(do let vs<-fn.results.mapM (Vc tmps);pure (if h:vs.size=1 then vs[0] else .tuple vs)):=by
 unfold results;congr 2
theorem BB {P:Program} {fn:Func} {tmps:Array Value} {R:Ending->World->Prop} {w:World} {v:Value} (hr:(results fn tmps).run P w= .ok v w) (I:R (.returned v) w):∀ (ds:List Deferred),(∀ d∈ds,Zk P d)->Leaves P fn tmps R ds .returning w
 |[],_=>⟨v,hr,I⟩
 |d::ds,h=>by
  obtain⟨M,cap,f,args,h1,h2,J⟩:=h d (dG ..) w;refine ⟨by simp,M,cap,f,args,h1,h2,J.mono ?_⟩;rintro e Y w' ⟨⟨U,rfl⟩,rfl,rfl⟩;exact BB hr I ds λd hd=>h d (cO _ hd)
theorem jH.get {φ:PM} {O:Nat->Prop} {w:World}:∀ {xs:List AV} {vs:List Value},jH φ O w xs vs->∀ (j:Nat) x,xs[j]? =aa x->∃ v,vs[j]? =aa v/\cG φ O w x v
 |[],_,_,j,x,I=>by simp at I
 |_::_,[],h,_,_,_=>h.elim
 |y::xs,u::vs,h,j,x,I=>by
  cases j with
  |zero=>simp at I;subst I;exact⟨u,rfl,h.1⟩
  |succ j=>exact jH.get h.2 j x (by simpa using I)
theorem Qa {P:Program} {f:FuncId} {I:SF} (h:yg P f=aa I):∃ fn c,P.funcs[f]? =aa fn∧fn.body=aa c∧(fn.name== "runtime.NumGoroutine")=ai∧I.code=ci P fn.ntmps c∧ug P fn.results.toList=aa I.res∧I.nt=fn.ntmps:=by
 unfold yg at h;split at h
 .rename_i fn hf;split at h
  .cases h
  .rename_i hn;split at h
   .rename_i c r hb hr;simp only[aj] at h;subst h;exact⟨fn,c,hf,hb,by simpa using hn,rfl,hr,rfl⟩
   .cases h
 .cases h
theorem aaz {a b:Value} (h:adz a b=ah):a=b:=by
 unfold adz at h;split at h
 .simp at h;rw[h]
 .simp at h;rw[h.1,h.2]
 .rw[yl.1 h]
 .simp only[au] at h;rw[av h.1,av h.2]
 .rfl
 .rename_i x y;simp only[au,Array.isEmpty_iff] at h;rw[h.1,h.2]
 .cases h
def PT.mapO {α β:Type} (g:α->Option β):PT α->PT β
 |.leaf=>.leaf
 |.node v l r=>.node (v.bind g) (PT.mapO g l) (PT.mapO g r)
theorem PT.get_mapO {α β:Type} (g:α->Option β):∀ (t:PT α) (i:Nat),(PT.mapO g t).get i=(t.get i).bind g
 |.leaf,i=>by simp[PT.mapO,PT.get]
 |.node v l r,0=>by simp[PT.mapO,PT.get]
 |.node v l r,j+1=>by
  simp only[PT.mapO,PT.get];split
  .exact PT.get_mapO g l _
  .exact PT.get_mapO g r _
theorem PT.get_updI {α:Type} (f:Nat->α->α):∀ (t:PT α) (a b i:Nat),(PT.updI f a b t).get i=(t.get i).map (f (a*i+b))
 |.leaf,_,_,i=>by simp[PT.updI,PT.get]
 |.node v l r,a,b,0=>by cases v<;>simp[PT.updI,PT.get]
 |.node v l r,a,b,j+1=>by
  simp only[PT.updI,PT.get];split
  .rename_i hj;rw[PT.get_updI f l];have:2*a*(j/2)+(a+b)=a*(j+1)+b:=by
    have h2:j=2*(j/2):=by have:=av hj;omega
    have I:2*a*(j/2)=a*j:=by rw[FW 2 a,Nat.mul_assoc,<-h2]
    rw[I,Nat.mul_add];omega
   rw[this]
  .rename_i hj;rw[PT.get_updI f r];have:2*a*(j/2)+(2*a+b)=a*(j+1)+b:=by
    have h1:j%2≠0:=λh=>hj (by rw[h];rfl)
    have h2:j=2*(j/2)+1:=by omega
    have I:2*a*(j/2)=a*(2*(j/2)):=by rw[FW 2 a,Nat.mul_assoc]
    have J:a*(j+1)=a*(2*(j/2))+2*a:=by
     conv=>lhs;rw[h2]
     rw[Nat.mul_add,Nat.mul_add];omega
    rw[I,J];omega
   rw[this]
theorem PT.bound {α:Type}:∀ (t:PT α),∃ B,∀ i,B<=i->t.get i=af
 |.leaf=>⟨0,λi _=>rfl⟩
 |.node v l r=>by
  obtain⟨a,I⟩:=PT.bound l;obtain⟨b,hb⟩:=PT.bound r;refine ⟨2*(a+b)+3,λi hi=>?_⟩;cases i with
  |zero=>omega
  |succ j=>
   simp only[PT.get];split
   .exact I _ (by omega)
   .exact hb _ (by omega)
def PT.ofF {α:Type} (f:Nat->Option α):Nat->PT α
 |0=>.leaf
 |n+1=>(PT.ofF f n).set n (f n)
theorem PT.get_ofF {α:Type} (f:Nat->Option α):∀ (n i:Nat),(PT.ofF f n).get i=if i<n then f i else af
 |0,i=>by simp[PT.ofF,PT.get]
 |n+1,i=>by
  rw[PT.ofF,PT.get_set,PT.get_ofF f n];by_cases h:i=n
  .subst h;simp
  .rw[aC h];by_cases h2:i<n
   .rw[aJ h2,aJ (by omega)]
   .rw[aC h2,aC (by omega)]
def nm (i:Nat):Nat:=2*i
def ow (n:Nat):Nat:=n/2
theorem dQ (i:Nat):ow (nm i)=i:=by unfold ow nm;omega
theorem ku {i j:Nat} (h:nm i=nm j):i=j:=by unfold nm at h;omega
def eZ (p:Bool) (id sz n:Nat):AV:=if p&&n==0 then .emp else .row (nm id) sz n
mutual
def ch (h:bd):TV->Option AV
 |.f T v=>aa (.f (gw T v))
 |.fel T xs j _ off=>aa (.f (.ptr (xs.flatMap (bN T)) (j.toNat*T.size+off)))
 |.pel id sz j off=>aa (.ptr (nm id) (j.toNat*sz+off))
 |.ptr id off=>aa (.ptr (nm id) off)
 |.csl id sz n=>aa (.row (nm id) sz n)
 |.row id=>match dZ h id with|some (p,sz,n)=>aa (eZ p id sz n)|none=>af
 |.rtl id j=>match dZ h id with|some (_,sz,n)=>aa (.sl (nm id) (j.toNat*sz) (n-j.toNat))|none=>af
 |.emp=>aa .emp
 |.nil=>aa (.f (.raw (.slice af 0 0)))
 |.mp id=>aa (.mp (nm id))
 |.agg l=>match cF h l with|some l'=>aa (.agg l')|none=>af
 |.tup l=>match cF h l with|some l'=>aa (.tup l')|none=>af
 |.clo g l=>match cF h l with|some l'=>aa (.clo g l')|none=>af
 |.undef=>aa (.f (.raw undef))
 |.np=>aa (.f (.raw (.pointer af)))
 |.anyb=>aa .anyb
def cF (h:bd):List TV->Option (List AV)
 |[]=>aa []
 |x::r=>match ch h x with
  |some y=>(match cF h r with|some l=>aa (y::l)|none=>af)
  |none=>af
end
def o7:(K:Ty)->K.den->Value
 |.int k,n=>.int k n
 |.str,s=>.string ⟨kf s⟩
 |_,_=>undef
def XU:(K V:Ty)->List (K.den×V.den)->BC
 |.st (.pr .str (.int .i64)),.un,es=>.it ⟨kf (Ns es)⟩ (Mf es)
 |K,V,es=>.mp (es.map λp=>(o7 K p.1,.f (gw V p.2)))
theorem At {K V:Ty} {es:List (K.den×V.den)} (h:Ru K=ah):XU K V es= .mp (es.map λp=>(o7 K p.1,.f (gw V p.2))):=by
 unfold XU;split
 .cases h
 .rfl
theorem adl {K V:Ty} {es:List (K.den×V.den)} {s:List UInt8} {p:Nat} (h:itE K V es=aa (s,p)):XU K V es= .it ⟨kf s⟩ p:=by
 unfold itE at h;split at h
 .cases h;rfl
 .cases h
def j9 (h:bd):h_->Option vH
 |.rows ty p T xs=>if p&&xs.length==0 then af else aa ⟨ty,.fz (xs.flatMap (bN T))⟩
 |.cells ty l=>match cF h l with|some I=>aa ⟨ty,.mx I⟩|none=>af
 |.dead _ _ _=>af
 |.mp K V es=>aa ⟨0,XU K V es⟩
def fD (e:iy) (h:bd):EF:=λt=>(e.get t).bind (ch h)
def bw (h:bd):HF:=λn=>if n%2=0 then (h.get (n/2)).bind (j9 h) else af
theorem bE (h:bd) (i:Nat):bw h (nm i)=(h.get i).bind (j9 h):=by
 unfold bw nm;rw[aJ (by omega),show 2*i/2=i from by omega]
theorem je {h:bd} {n:Nat} {b:vH} (hb:bw h n=aa b):∃ i c,n=nm i/\h.get i=aa c/\j9 h c=aa b:=by
 unfold bw at hb;split at hb
 .cases hc:h.get (n/2) with
  |none=>rw[hc] at hb;cases hb
  |some c=>rw[hc] at hb;exact⟨n/2,c,by unfold nm;omega,hc,hb⟩
 .cases hb
def HR (e:iy) (h:bd):yq:=PT.mapO (ch h) e
theorem ub (e:iy) (h:bd):(HR e h).get=fD e h:=by funext t;exact PT.get_mapO _ _ _
theorem jw (h:bd):∃ H:nA,H.get=bw h:=by
 obtain⟨B,I⟩:=PT.bound h;refine ⟨PT.ofF (bw h) (2*B),?_⟩;funext n;rw[PT.get_ofF];split
 .rfl
 .unfold bw;split
  .rw[I _ (by omega)];rfl
  .rfl
theorem cP {h:bd} {x:TV} {r:List TV} {l:List AV} (he:cF h (x::r)=aa l):∃ y I,l=y::I/\ch h x=aa y/\cF h r=aa I:=by
 simp only[cF] at he;split at he
 .rename_i y J;split at he
  .rename_i I hl;simp only[aj] at he;exact⟨y,I,he.symm,J,hl⟩
  .cases he
 .cases he
theorem ov {h:bd} {x:TV} {r:List TV} {y:AV} {I:List AV} (h1:ch h x=aa y) (h2:cF h r=aa I):cF h (x::r)=aa (y::I):=by
 simp only[cF,h1,h2]
theorem gT {h:bd}:∀ {l:List TV} {I:List AV},cF h l=aa I->I.length=l.length
 |[],I,he=>by simp only[cF,aj] at he;subst he;rfl
 |x::r,I,he=>by
  obtain⟨y,l2,rfl,_,h2⟩:=cP he;simp[gT h2]
theorem mM {h:bd}:∀ {a b:List TV} {a' b':List AV},cF h a=aa a'->cF h b=aa b'->cF h (a++b)=aa (a'++b')
 |[],b,a',b',I,hb=>by simp only[cF,aj] at I;subst I;exact hb
 |x::r,b,a',b',I,hb=>by
  obtain⟨y,l2,rfl,h1,h2⟩:=cP I;exact ov h1 (mM h2 hb)
theorem AE {h:bd}:∀ {a b:List TV} {l:List AV},cF h (a++b)=aa l->∃ a' b',l=a'++b'/\cF h a=aa a'/\cF h b=aa b'
 |[],b,l,he=>⟨[],l,rfl,rfl,he⟩
 |x::r,b,l,he=>by
  obtain⟨y,l2,rfl,h1,h2⟩:=cP he;obtain⟨a',b',rfl,J,I⟩:=AE h2;exact⟨y::a',b',rfl,ov h1 J,I⟩
theorem DA {h:bd}:∀ {l:List TV} {I:List AV} (n:Nat),cF h l=aa I->cF h (l.take n)=aa (I.take n)
 |[],I,n,he=>by simp only[cF,aj] at he;subst he;simp[cF]
 |x::r,I,n,he=>by
  obtain⟨y,l2,rfl,h1,h2⟩:=cP he;cases n with
  |zero=>simp[cF]
  |succ n=>exact ov h1 (DA n h2)
theorem DC {h:bd}:∀ {l:List TV} {I:List AV} (n:Nat),cF h l=aa I->cF h (l.drop n)=aa (I.drop n)
 |[],I,n,he=>by simp only[cF,aj] at he;subst he;simp[cF]
 |x::r,I,n,he=>by
  obtain⟨y,l2,rfl,h1,h2⟩:=cP he;cases n with
  |zero=>exact he
  |succ n=>simpa using DC n h2
theorem rn {h:bd} {l vs:List TV} {I vs':List AV} (off:Nat) (h1:cF h l=aa I) (h2:cF h vs=aa vs'):cF h (splice l off vs)=aa (splice I off vs'):=by
 unfold splice;rw[gT h2];exact mM (mM (DA _ h1) h2) (DC _ h1)
theorem lB {h:bd}:∀ {l:List TV} {I:List AV},cF h l=aa I->∀ (j:Nat) x,l[j]? =aa x->∃ y,I[j]? =aa y/\ch h x=aa y
 |[],I,he,j,x,M=>by simp at M
 |x::r,I,he,j,z,J=>by
  obtain⟨y,l2,rfl,h1,h2⟩:=cP he;cases j with
  |zero=>simp at J;subst J;exact⟨y,rfl,h1⟩
  |succ j=>simpa using lB h2 j z (by simpa using J)
mutual
theorem pm (h:bd):∀ (u:TV),JG h u=ah->∃ y,ch h u=aa y
 |.f _ _,_=>⟨_,rfl⟩
 |.fel _ _ _ _ _,_=>⟨_,rfl⟩
 |.pel _ _ _ _,_=>⟨_,rfl⟩
 |.ptr _ _,_=>⟨_,rfl⟩
 |.csl _ _ _,_=>⟨_,rfl⟩
 |.row id,he=>by
  simp only[JG] at he;cases hr:dZ h id with
  |none=>rw[hr] at he;cases he
  |some r=>obtain⟨p,sz,n⟩:=r;exact⟨_,by simp only[ch,hr];rfl⟩
 |.rtl id jj,he=>by
  simp only[JG] at he;cases hr:dZ h id with
  |none=>rw[hr] at he;cases he
  |some r=>obtain⟨p,sz,n⟩:=r;exact⟨_,by simp only[ch,hr];rfl⟩
 |.emp,_=>⟨_,rfl⟩
 |.nil,_=>⟨_,rfl⟩
 |.mp _,_=>⟨_,rfl⟩
 |.agg l,he=>by obtain⟨y,hy⟩:=eY h l he;exact⟨_,by simp only[ch,hy];rfl⟩
 |.tup l,he=>by obtain⟨y,hy⟩:=eY h l he;exact⟨_,by simp only[ch,hy];rfl⟩
 |.clo g l,he=>by obtain⟨y,hy⟩:=eY h l he;exact⟨_,by simp only[ch,hy];rfl⟩
 |.undef,_=>⟨_,rfl⟩
 |.np,_=>⟨_,rfl⟩
 |.anyb,_=>⟨_,rfl⟩
theorem eY (h:bd):∀ (l:List TV),kr h l=ah->∃ l',cF h l=aa l'
 |[],_=>⟨[],rfl⟩
 |x::r,he=>by
  simp only[kr,au] at he;obtain⟨y,hy⟩:=pm h x he.1;obtain⟨l',hl⟩:=eY h r he.2;exact⟨_,ov hy hl⟩
end
def cg (h h':bd):Prop:=∀ id r,dZ h id=aa r->dZ h' id=aa r
mutual
theorem gk {h h':bd} (hk:cg h h'):∀ (u:TV) (y:AV),ch h u=aa y->ch h' u=aa y
 |.f _ _,y,he=>he
 |.fel _ _ _ _ _,y,he=>he
 |.pel _ _ _ _,y,he=>he
 |.ptr _ _,y,he=>he
 |.csl _ _ _,y,he=>he
 |.row id,y,he=>by
  simp only[ch] at he ⊢;split at he
  .rename_i p sz n hr;rw[hk _ _ hr];exact he
  .cases he
 |.rtl id jj,y,he=>by
  simp only[ch] at he ⊢;split at he
  .rename_i p sz n hr;rw[hk _ _ hr];exact he
  .cases he
 |.emp,y,he=>he
 |.nil,y,he=>he
 |.mp _,y,he=>he
 |.agg l,y,he=>by
  simp only[ch] at he ⊢;split at he
  .rename_i l' hl;rw[gM hk l l' hl];exact he
  .cases he
 |.tup l,y,he=>by
  simp only[ch] at he ⊢;split at he
  .rename_i l' hl;rw[gM hk l l' hl];exact he
  .cases he
 |.clo g l,y,he=>by
  simp only[ch] at he ⊢;split at he
  .rename_i l' hl;rw[gM hk l l' hl];exact he
  .cases he
 |.undef,y,he=>he
 |.np,y,he=>he
 |.anyb,y,he=>he
theorem gM {h h':bd} (hk:cg h h'):∀ (l:List TV) (l':List AV),cF h l=aa l'->cF h' l=aa l'
 |[],l',he=>he
 |x::r,l',he=>by
  obtain⟨y,l2,rfl,h1,h2⟩:=cP he;exact ov (gk hk x y h1) (gM hk r l2 h2)
end
mutual
theorem nU {h h':bd} (hk:cg h h'):∀ (u:TV),JG h u=ah->JG h' u=ah
 |.f _ _,_=>rfl
 |.fel _ _ _ _ _,_=>rfl
 |.pel _ _ _ _,_=>rfl
 |.ptr _ _,_=>rfl
 |.csl _ _ _,_=>rfl
 |.row id,he=>by
  simp only[JG] at he ⊢;cases hr:dZ h id with
  |none=>rw[hr] at he;cases he
  |some r=>rw[hk _ _ hr];rfl
 |.rtl id jj,he=>by
  simp only[JG] at he ⊢;cases hr:dZ h id with
  |none=>rw[hr] at he;cases he
  |some r=>rw[hk _ _ hr];rfl
 |.emp,_=>rfl
 |.nil,_=>rfl
 |.mp _,_=>rfl
 |.agg l,he=>iF hk l he
 |.tup l,he=>iF hk l he
 |.clo g l,he=>iF hk l he
 |.undef,_=>rfl
 |.np,_=>rfl
 |.anyb,_=>rfl
theorem iF {h h':bd} (hk:cg h h'):∀ (l:List TV),kr h l=ah->kr h' l=ah
 |[],_=>rfl
 |x::r,he=>by
  simp only[kr,au] at he ⊢;exact⟨nU hk x he.1,iF hk r he.2⟩
end
mutual
theorem Dz (h:bd):∀ (u:TV) (y:AV),ch h u=aa y->JG h u=ah
 |.f _ _,_,_=>rfl
 |.fel _ _ _ _ _,_,_=>rfl
 |.pel _ _ _ _,_,_=>rfl
 |.ptr _ _,_,_=>rfl
 |.csl _ _ _,_,_=>rfl
 |.row id,y,he=>by
  simp only[JG,ch] at he ⊢;cases hr:dZ h id with
  |none=>rw[hr] at he;cases he
  |some r=>rfl
 |.rtl id jj,y,he=>by
  simp only[JG,ch] at he ⊢;cases hr:dZ h id with
  |none=>rw[hr] at he;cases he
  |some r=>rfl
 |.emp,_,_=>rfl
 |.nil,_,_=>rfl
 |.mp _,_,_=>rfl
 |.agg l,y,he=>by
  simp only[ch] at he;split at he
  .rename_i l' hl;exact km h l l' hl
  .cases he
 |.tup l,y,he=>by
  simp only[ch] at he;split at he
  .rename_i l' hl;exact km h l l' hl
  .cases he
 |.clo g l,y,he=>by
  simp only[ch] at he;split at he
  .rename_i l' hl;exact km h l l' hl
  .cases he
 |.undef,_,_=>rfl
 |.np,_,_=>rfl
 |.anyb,_,_=>rfl
theorem km (h:bd):∀ (l:List TV) (l':List AV),cF h l=aa l'->kr h l=ah
 |[],_,_=>rfl
 |x::r,l',he=>by
  obtain⟨y,l2,rfl,h1,h2⟩:=cP he;simp only[kr,au];exact⟨Dz h x y h1,km h r l2 h2⟩
end
mutual
theorem O8 (h h':bd):∀ (u:TV),sY u=ah->ch h u=ch h' u
 |.f _ _,_=>rfl
 |.fel _ _ _ _ _,_=>rfl
 |.pel _ _ _ _,_=>rfl
 |.ptr _ _,_=>rfl
 |.csl _ _ _,_=>rfl
 |.row id,he=>by cases he
 |.emp,_=>rfl
 |.nil,_=>rfl
 |.mp _,_=>rfl
 |.agg l,he=>by simp only[ch];rw[DB h h' l he]
 |.tup l,he=>by simp only[ch];rw[DB h h' l he]
 |.clo g l,he=>by cases he
 |.undef,_=>rfl
 |.np,_=>rfl
 |.anyb,_=>rfl
theorem DB (h h':bd):∀ (l:List TV),pE l=ah->cF h l=cF h' l
 |[],_=>rfl
 |x::r,he=>by
  simp only[pE,au] at he;simp only[cF];rw[O8 h h' x he.1,DB h h' r he.2]
end
theorem Mg {h:bd} {u:TV} {y:AV} (he:ch h u=aa y) (hc:u.isC=ah):y.isCell=ah:=by
 cases u with
 |f T v=>cases T<;>simp only[ch,aj] at he<;>subst he<;>first|rfl|(simp [TV.isC,Ty.one] at hc)
 |fel T xs j hj off=>simp only[ch,aj] at he;subst he;rfl
 |pel id sz j off=>simp only[ch,aj] at he;subst he;rfl
 |ptr id off=>simp only[ch,aj] at he;subst he;rfl
 |csl id off z=>simp only[ch,aj] at he;subst he;rfl
 |row id=>
  simp only[ch] at he;split at he
  .simp only[aj] at he;subst he;unfold eZ;split<;>rfl
  .cases he
 |rtl id I=>cases hc
 |emp=>simp only[ch,aj] at he;subst he;rfl
 |nil=>simp only[ch,aj] at he;subst he;rfl
 |mp id=>simp only[ch,aj] at he;subst he;rfl
 |agg l=>cases hc
 |tup l=>cases hc
 |clo g l=>
  simp only[ch] at he;split at he
  .simp only[aj] at he;subst he;rfl
  .cases he
 |undef=>cases hc
 |np=>simp only[ch,aj] at he;subst he;rfl
 |anyb=>cases hc
theorem qW {h:bd}:∀ {l:List TV} {I:List AV},cF h l=aa I->j6 l=ah->gu I=ah
 |[],I,he,_=>by simp only[cF,aj] at he;subst he;rfl
 |x::r,I,he,hc=>by
  obtain⟨y,l2,rfl,h1,h2⟩:=cP he;simp only[j6,au] at hc;simp only[gu,au];exact⟨Mg h1 hc.1,qW h2 hc.2⟩
def Le (x y:AV):Prop:=∀ (φ:PM) (O:Nat->Prop) (w:World) (v:Value),cG φ O w x v->cG φ O w y v
theorem Le.refl (x:AV):Le x x:=λ_ _ _ _ h=>h
def lh (H H':HF) (x y:AV):Prop:=∀ (φ:PM) (E:Nat->Prop) (w:World) (v:Value),qd φ E H w->cG φ (tot E φ H) w x v->cG φ (tot E φ H') w y v
def ui (H H':HF):Prop:=∀ i b,H' i=aa b->∃ b0,H i=aa b0
theorem ui.refl (H:HF):ui H H:=λ_ b h=>⟨b,h⟩
theorem ui.own {H H':HF} (d:ui H H') {φ:PM} {k:Nat} (h:own φ H' k):own φ H k:=by
 obtain⟨i,b,h1,h2⟩:=h;obtain⟨b0,I⟩:=d i b h1;exact⟨i,b0,I,h2⟩
theorem ui.tot {H H':HF} (d:ui H H') {E:Nat->Prop} {φ:PM} {k:Nat} (h:tot E φ H' k):tot E φ H k:=h.imp id d.own
theorem cG.dom {H H':HF} (d:ui H H') {φ:PM} {E:Nat->Prop} {w:World} {x:AV} {v:Value} (h:cG φ (tot E φ H) w x v):cG φ (tot E φ H') w x v:=
 h.ext (λ_ _ h=>h) (Jm.refl _ w) λ_ _ hk=>d.tot hk
theorem mP.dom {H H':HF} (d:ui H H') {φ:PM} {E:Nat->Prop} {w:World} {x:FV} {v:Value} (h:mP (tot E φ H) w x v):mP (tot E φ H') w x v:=
 h.ext (Jm.refl _ w) λ_ _ hk=>d.tot hk
theorem Le.toH {H H':HF} (d:ui H H') {x y:AV} (h:Le x y):lh H H' x y:=λφ E w v _ hr=>(h _ _ _ _ hr).dom d
theorem lh.refl {H H':HF} (d:ui H H') (x:AV):lh H H' x x:=(Le.refl x).toH d
def gX (H H':HF):List AV->List AV->Prop
 |[],[]=>True
 |x::xs,y::I=>lh H H' x y/\gX H H' xs I
 |_,_=>False
theorem gX.refl {H H':HF} (d:ui H H'):∀ l,gX H H' l l
 |[]=>trivial
 |x::r=>⟨lh.refl d x,gX.refl d r⟩
theorem gX.length {H H':HF}:∀ {l I:List AV},gX H H' l I->I.length=l.length
 |[],[],_=>rfl
 |[],_::_,h=>h.elim
 |_::_,[],h=>h.elim
 |_::_,_::_,h=>by simp[gX.length h.2]
theorem gX.get {H H':HF}:∀ {l J:List AV},gX H H' l J->∀ (j:Nat) y,J[j]? =aa y->∃ x,l[j]? =aa x/\lh H H' x y
 |[],[],_,j,y,I=>by simp at I
 |[],_::_,h,_,_,_=>h.elim
 |_::_,[],h,_,_,_=>h.elim
 |x::xs,z::ys,h,j,y,I=>by
  cases j with
  |zero=>simp at I;subst I;exact⟨x,rfl,h.1⟩
  |succ j=>simpa using gX.get h.2 j y (by simpa using I)
theorem gX.append {H H':HF}:∀ {a a' b b':List AV},gX H H' a a'->gX H H' b b'->gX H H' (a++b) (a'++b')
 |[],[],_,_,_,h=>h
 |[],_::_,_,_,h,_=>h.elim
 |_::_,[],_,_,h,_=>h.elim
 |_::_,_::_,_,_,h,h'=>⟨h.1,gX.append h.2 h'⟩
theorem gX.take {H H':HF}:∀ {a a':List AV} (n:Nat),gX H H' a a'->gX H H' (a.take n) (a'.take n)
 |[],[],n,_=>by simp[gX]
 |[],_::_,_,h=>h.elim
 |_::_,[],_,h=>h.elim
 |_::_,_::_,0,_=>trivial
 |_::_,_::_,n+1,h=>⟨h.1,gX.take n h.2⟩
theorem gX.drop {H H':HF}:∀ {a a':List AV} (n:Nat),gX H H' a a'->gX H H' (a.drop n) (a'.drop n)
 |[],[],n,_=>by simp[gX]
 |[],_::_,_,h=>h.elim
 |_::_,[],_,h=>h.elim
 |_::_,_::_,0,h=>h
 |_::_,_::_,n+1,h=>gX.drop n h.2
theorem gX.splice {H H':HF} {a a' b b':List AV} (off:Nat) (h1:gX H H' a a') (h2:gX H H' b b'):gX H H' (splice a off b) (splice a' off b'):=by
 unfold AI.splice;rw[h2.length];exact ((h1.take off).append h2).append (h1.drop _)
def jI (H H':HF) (b b':vH):Prop:=∀ (φ:PM) (E:Nat->Prop) (w:World) (o:Obj),qd φ E H w->ja φ (tot E φ H) w b o->ja φ (tot E φ H') w b' o
theorem jI.refl {H H':HF} (d:ui H H') (b:vH):jI H H' b b:=λ_ _ _ _ _ h=>h.mono λ_ _ h=>h.dom d
theorem oW {φ:PM} {O:Nat->Prop} {w:World} {ty:TypeId} {c:BC} {o:Obj} (hc:c.isCells=ah):ja φ O w ⟨ty,c⟩ o↔∃ arr,o= .cells arr ty (0,0)/\uj φ O w c arr:=by
 unfold ja;cases c<;>simp[BC.isCells] at hc<;>rfl
theorem jI.cells {H H':HF} {ty:TypeId} {c c':BC} (hc:c.isCells=ah) (I:c'.isCells=ah) (hl:gX H H' c.toMx c'.toMx) (hcell:∀ x∈c'.toMx,x.isCell=ah):jI H H' ⟨ty,c⟩ ⟨ty,c'⟩:=by
 intro φ E w o hrep M;rw[oW hc] at M;rw[oW I];obtain⟨arr,h1,h2,h3⟩:=M;refine ⟨arr,h1,by rw[BC.len_toMx I,hl.length,<-BC.len_toMx hc];exact h2,λj x J=>?_⟩;rw[BC.get_toMx I] at J;refine ⟨hcell x (aZ J),?_⟩;obtain⟨y,U,hle⟩:=hl.get j x J;obtain⟨_,v,Z,Y⟩:=h3 j y (by rw[BC.get_toMx hc];exact U);exact⟨v,Z,hle _ _ _ _ hrep Y⟩
theorem jI.eq {H H':HF} (d:ui H H') {ty:TypeId} {c c':BC} (hc:c.isCells=ah) (I:c'.isCells=ah) (hl:c.toMx=c'.toMx):jI H H' ⟨ty,c⟩ ⟨ty,c'⟩:=by
 intro φ E w o hrep M;rw[oW hc] at M;rw[oW I];obtain⟨arr,h1,h2,h3⟩:=M;refine ⟨arr,h1,by rw[BC.len_toMx I,<-hl,<-BC.len_toMx hc];exact h2,λj x J=>?_⟩;rw[BC.get_toMx I,<-hl,<-BC.get_toMx hc] at J;obtain⟨Z,v,Y,U⟩:=h3 j x J;exact⟨Z,v,Y,U.dom d⟩
structure Ja (H H':HF):Prop where
 dom:ui H H'
 blk:∀ i b b',H i=aa b->H' i=aa b'->jI H H' b b'
theorem Ja.refl (H:HF):Ja H H:=⟨ui.refl H,λi b b' h h'=>by rw[h] at h';cases h';exact jI.refl (ui.refl H) b⟩
theorem Ja.rep {H H':HF} (V:Ja H H') {φ:PM} {E:Nat->Prop} {w:World} (r:qd φ E H w):qd φ E H' w:=by
 refine ⟨λi j b b' k J Z Y U=>?_,λi b J=>?_,r.el,λg cells hg=>(r.gl g cells hg).dom V.dom⟩
 .obtain⟨b0,I⟩:=V.dom i b J;obtain⟨b1,M⟩:=V.dom j b' Z;exact r.inj i j b0 b1 k I M Y U
 .obtain⟨b0,I⟩:=V.dom i b J;obtain⟨k,p1,p2,ob,p3,p4⟩:=r.at_ i b0 I;exact⟨k,p1,p2,ob,p3,V.blk i b0 b I J φ E w ob r p4⟩
theorem gB.view {P:Program} {o:Oper} {e:EF} {h:HF} {val val':AV} {rd wr wr' N:List Nat} {nw nw':HF} (ht:gB P o e h ⟨val,rd,wr,nw,N⟩) (hsub:∀ i∈wr,i∈wr'\/i∈rd)
 (hv:∀ h':HF,(∀ i∈rd,h' i=h i)->(∀ i∈wr',h' i=h i)->Ja (eE h' wr nw) (eE h' wr' nw')/\lh (eE h' wr nw) (eE h' wr' nw') val val'):gB P o e h ⟨val',rd,wr',nw',N⟩:=by
 intro φ E h' w a h1 h2 Z Y U;have J:=ht φ E h' w a h1 (λi hi=>(hsub i hi).elim (h2 i) (h1 i)) Z Y U;obtain⟨V,hle⟩:=hv h' h1 h2;refine Nw ?_ J;rintro a' w' ⟨v,φ',rfl,mv,nm',I,rel⟩;exact⟨v,φ',rfl,⟨mv.sub,mv.ext,λk hk M=>mv.own_ k hk (V.dom.own M)⟩,nm',V.rep I,hle _ _ _ _ I rel⟩
theorem Le.nil:Le (.f (.raw (.slice af 0 0))) (.f (.sl [] 0)):=by
 intro φ O w v hr;cases hr with
 |f hr=>cases hr;exact .f (.nil af 0 (by unfold maxLen;omega))
theorem Le.emp:Le .emp (.f (.sl [] 0)):=by
 intro φ O w v hr;cases hr with
 |emp=>exact .f (.nil _ 0 (by unfold maxLen;omega))
theorem Le.nilEmp:Le (.f (.raw (.slice af 0 0))) .emp:=by
 intro φ O w v hr;cases hr with
 |f hr=>cases hr;exact .emp
theorem Le.aggF {l:List FV}:Le (.f (.agg l)) (.agg (l.map .f)):=by
 intro φ O w v hr;cases hr with
 |f hr=>
  cases hr with
  |agg _ vs hl hcl hrr=>
   refine .agg (by simp[hl]) (λx I=>?_) λj x u I hu=>?_
   .obtain⟨y,J,rfl⟩:=c9.1 I;exact hcl y J
   .rw[a8] at I;cases hc:l[j]? with
    |none=>rw[hc] at I;cases I
    |some y=>rw[hc] at I;simp at I;subst I;exact .f (hrr j y u hc hu)
theorem XV (l:List AV):Le (KV l) (.agg l):=by
 unfold KV;split
 .rename_i fs h;rw[o9 h];exact Le.aggF
 .exact Le.refl _
theorem lh.aggL {H H':HF} {l:List AV} {I:List FV} (h:gX H H' l (I.map .f)) (hc:∀ x∈I,x.isCell=ah):lh H H' (.agg l) (.f (.agg I)):=by
 intro φ E w v hrep hr;cases hr with
 |@agg _ vs hl hcl hrr=>
  refine .f (.agg I vs (by rw[hl,<-h.length];simp) hc λj y u J hu=>?_);obtain⟨x,M,hle⟩:=h.get j (.f y) (by rw[a8,J];rfl);have:=hle φ E w u hrep (hrr j x u M hu);cases this with
  |f h=>exact h
theorem lh.row {H H':HF} (d:ui H H') {id sz n:Nat} {ty:TypeId} {cells:List FV} (h1:H id=aa ⟨ty,.fz cells⟩) (h2:H' id=af) (hl:cells.length=n*sz):lh H H' (.row id sz n) (.f (.sl cells n)):=by
 intro φ E w v r hr;cases hr with
 |@row _ _ _ c k hφ hn hcap hsh=>
  obtain⟨k',U,Y,_⟩:=r.at_ id _ h1;rw[hφ] at U;cases U;obtain⟨arr,p1,p2,p3⟩:=r.cs h1 hφ rfl;have hk:k<w.heap.size:=(cu.1 p1).1;have hlen:cells.length<=arr.size:=by simpa[BC.toMx] using p3
  have hnk:¬tot E φ H' k:=by
   rintro (Z|⟨j,b,J,M⟩)
   .exact Y Z
   .obtain⟨b0,g3⟩:=d j b J;have:=r.inj j id b0 _ k g3 h1 M hφ;subst this;rw[h2] at J;cases J
  have hget:∀ (j:Nat) x,cells[j]? =aa x->∃ u,arr[j]? =aa u/\mP (tot E φ H) w x u:=λj x I=>by
   have hj:j<cells.length:=(be.1 I).1;have hja:j<arr.size:=by omega
   refine ⟨arr[j],by simp[hja],?_⟩;have:=p2.2.2 j (.f x) arr[j] (by simp[BC.toMx,I]) (by
    rw[cH,aJ (by simpa[BC.toMx] using hj),cC];simp[hja])
   cases this with
   |f h=>exact h
  refine .f (.sl cells n c k 0 (λj=>(arr[j]?).getD undef) hn hcap hnk hk (λx I=>?_) (λj hj=>?_) (λj x I=>?_))
  .have:=p2.2.1 (.f x) (by simp only[BC.toMx];exact c9.2 ⟨x,I,rfl⟩);exact this
  .have:j<arr.size:=by omega
   simp[LK,p1,this]
  .obtain⟨u,J,M⟩:=hget j x I;rw[J];exact M.dom d
theorem rq:∀ l:List Xp,HZ l=l.flatMap vj
 |[]=>rfl
 |x::r=>by rw[HZ,rq r];rfl
theorem xT:∀ l:List Sx,HY l=l.flatMap wT
 |[]=>rfl
 |x::r=>by rw[HY,xT r];rfl
theorem HX (e:Xp):bN La (LQ e)=vj e:=by
 cases e with
 |mk op n name l=>simp only[La,LQ,bN,vj,Xp.op,Xp.n,Xp.name,Xp.l,rq];rfl
theorem Pd (x:La.den):vj (dP x)=bN La x:=by
 simp only[La,dP,bN,vj,rq];rfl
theorem HW (e:Sx):bN KI (LP e)=wT e:=by
 cases e with
 |mk op line name arg index expr body els=>simp only[KI,LP,bN,wT,Sx.op,Sx.line,Sx.name,Sx.arg,Sx.index,Sx.expr,Sx.body,Sx.els,rq,xT];rfl
theorem Pc (x:KI.den):wT (m_ x)=bN KI x:=by
 simp only[KI,m_,bN,wT,rq,xT];rfl
theorem ww (e:Xp):(vj e).length=4:=by cases e;simp[vj]
theorem B2 (e:Sx):(wT e).length=11:=by cases e;simp[wT,ww]
theorem bx:∀ (T:Ty) (v:T.den),(bN T v).length=T.size
 |.int _,_=>rfl
 |.bool,_=>rfl
 |.str,_=>rfl
 |.sl _,_=>rfl
 |.st t,v=>bx t v
 |.pr a b,v=>by simp[bN,Ty.size,bx a,bx b]
 |.un,_=>rfl
 |.ex,v=>ww v
 |.sm,v=>B2 v
theorem H0 (e:Xp):∀ x∈vj e,x.isCell=ah:=by
 cases e with
 |mk op n name l=>
  intro x I;simp only[vj,bh,cj,fM] at I;rcases I with rfl|rfl|rfl|rfl<;>rfl
theorem Sf (e:Sx):∀ x∈wT e,x.isCell=ah:=by
 cases e with
 |mk op line name arg index expr body els=>
  intro x I;simp only[wT,bR,bh,cj,fM] at I;rcases I with (I|I)|I
  .rcases I with rfl|rfl|rfl|rfl|rfl<;>rfl
  .exact H0 _ _ I
  .rcases I with rfl|rfl<;>rfl
theorem nv:∀ (T:Ty) (v:T.den),∀ x∈bN T v,x.isCell=ah
 |.int _,_,x,I=>by simp only[bN,aK] at I;subst I;rfl
 |.bool,_,x,I=>by simp only[bN,aK] at I;subst I;rfl
 |.str,_,x,I=>by simp only[bN,aK] at I;subst I;rfl
 |.sl _,_,x,I=>by simp only[bN,aK] at I;subst I;rfl
 |.st t,v,x,I=>nv t v x I
 |.pr a b,v,x,I=>by
  simp only[bN,bR] at I;exact I.elim (nv a v.1 x) (nv b v.2 x)
 |.un,_,x,I=>by simp[bN] at I
 |.ex,v,x,I=>H0 v x I
 |.sm,v,x,I=>Sf v x I
theorem B3:∀ (T:Ty) (v:T.den),T.one=ah->bN T v=[gw T v]/\T.size=1
 |.int _,_,_=>⟨rfl,rfl⟩
 |.bool,_,_=>⟨rfl,rfl⟩
 |.str,_,_=>⟨rfl,rfl⟩
 |.sl _,_,_=>⟨rfl,rfl⟩
 |.st _,_,h=>by cases h
 |.pr _ _,_,h=>by cases h
 |.un,_,h=>by cases h
 |.ex,_,h=>by cases h
 |.sm,_,h=>by cases h
theorem pK:∀ (T:Ty) (v:T.den),T.one=ai->gw T v= .agg (bN T v)
 |.int _,_,h=>by cases h
 |.bool,_,h=>by cases h
 |.str,_,h=>by cases h
 |.sl _,_,h=>by cases h
 |.st _,_,_=>rfl
 |.pr _ _,_,_=>rfl
 |.un,_,_=>rfl
 |.ex,_,_=>rfl
 |.sm,_,_=>rfl
theorem yP (T:Ty) (v:T.den):(AV.f (gw T v)).cs=(bN T v).map .f:=by
 cases h:T.one with
 |true=>
  rw[(B3 T v h).1];cases T<;>simp only[Ty.one] at h<;>first|rfl|cases h
 |false=>rw[pK T v h];rfl
theorem fd {α:Type} {f:α->List FV} {n:Nat} (hf:∀ x,(f x).length=n):∀ (xs:List α),(xs.flatMap f).length=xs.length*n
 |[]=>by simp
 |x::r=>by rw[fm,bn,hf,fd hf r,bV,iB];omega
theorem Dx {α:Type} {f:α->List FV} {n:Nat} (hf:∀ x,(f x).length=n):∀ (xs:List α) (j:Nat) (x:α),xs[j]? =aa x->∃ r,(xs.flatMap f).drop (j*n)=f x++r
 |[],j,x,h=>by simp at h
 |y::r,j,x,h=>by
  cases j with
  |zero=>simp at h;subst h;exact⟨r.flatMap f,by simp⟩
  |succ j=>
   obtain⟨q,hq⟩:=Dx hf r j x (by simpa using h);refine ⟨q,?_⟩;rw[fm,show (j+1)*n=(f y).length+j*n from by rw[hf,iB];omega,tS];simp[hq]
theorem O4 {α:Type} {f:α->List FV} {n:Nat} (hf:∀ x,(f x).length=n):∀ (xs:List α) (j:Nat) (x z:α),xs[j]? =aa x->∀ (off:Nat) (vs:List FV),off+vs.length<=n->f z=AI.splice (f x) off vs->(xs.set j z).flatMap f=AI.splice (xs.flatMap f) (j*n+off) vs
 |[],j,x,z,h,_,_,_,_=>by simp at h
 |y::r,j,x,z,h,off,vs,hle,I=>by
  cases j with
  |zero=>
   simp at h;subst h;simp only[List.set_cons_zero,fm,I,Nat.zero_mul,bJ];unfold AI.splice;have M:=hf y;rw[List.take_append,tS];have e1:off-(f y).length=0:=by omega
   have e2:off+vs.length-(f y).length=0:=by omega
   rw[e1,e2];simp[jy]
  |succ j=>
   have J:=O4 hf r j x z (by simpa using h) off vs hle I;simp only[List.set_cons_succ,fm,J];unfold AI.splice;have M:=hf y;have e0:(j+1)*n=(f y).length+j*n:=by rw[hf,iB];omega
   rw[e0,List.take_append,tS];have e1:(f y).length+j*n+off-(f y).length=j*n+off:=by omega
   have e2:(f y).length+j*n+off+vs.length-(f y).length=j*n+off+vs.length:=by omega
   rw[e1,e2,fI (by omega:(f y).length<=(f y).length+j*n+off),qL (by omega:(f y).length<=(f y).length+j*n+off+vs.length)];simp[jy]
theorem qD (T:Ty) (xs:List T.den):∀ x∈xs.flatMap (bN T),x.isCell=ah:=λx I=>by
 obtain⟨y,_,h⟩:=tP.1 I;exact nv T y x h
theorem iR {S T:Ty} {v:S.den} {x:T.den} (h:vz T v=aa x):∃ e:S=T,x=e▸v:=by
 unfold vz at h;split at h
 .rename_i e;simp only[aj] at h;exact⟨e,h.symm⟩
 .cases h
theorem k9 (h:bd):∀ (n:Nat) (T:Ty) (v:T.den) (l:List TV),cellsOf n T v=aa l->cF h l=aa ((bN T v).map .f)/\j6 l=ah
 |0,_,_,_,he=>by simp[cellsOf] at he
 |n+1,.st t,v,l,he=>k9 h n t v l he
 |n+1,.pr a b,v,l,he=>by
  simp only[cellsOf] at he;split at he
  .rename_i x y J I;simp only[aj] at he;subst he;obtain⟨h1,h2⟩:=k9 h n a v.1 x J;obtain⟨M,Y⟩:=k9 h n b v.2 y I;refine ⟨by rw[bN,cI];exact mM h1 M,?_⟩;clear h1 M J I;induction x with
   |nil=>exact Y
   |cons z r U=>simp only[j6,au,fX] at h2 ⊢;exact⟨h2.1,U h2.2⟩
  .cases he
 |n+1,.un,v,l,he=>by simp only[cellsOf,aj] at he;subst he;exact⟨rfl,rfl⟩
 |n+1,.ex,v,l,he=>by rw[bN,<-HX];exact k9 h n La (LQ v) l he
 |n+1,.sm,v,l,he=>by rw[bN,<-HW];exact k9 h n KI (LP v) l he
 |n+1,.int k,v,l,he=>by simp only[cellsOf,aj] at he;subst he;exact⟨rfl,rfl⟩
 |n+1,.bool,v,l,he=>by simp only[cellsOf,aj] at he;subst he;exact⟨rfl,rfl⟩
 |n+1,.str,v,l,he=>by simp only[cellsOf,aj] at he;subst he;exact⟨rfl,rfl⟩
 |n+1,.sl t,v,l,he=>by simp only[cellsOf,aj] at he;subst he;exact⟨rfl,rfl⟩
theorem L5 {y:AV} (h:y.isCell=ah):y.cs=[y]:=by
 cases y with
 |f x=>cases x<;>first|rfl|cases h
 |agg l=>cases h
 |_=>rfl
theorem IE {h:bd} {v:TV} {l:List TV} {y:AV} (hv:v.cs=aa l) (I:ch h v=aa y):cF h l=aa y.cs/\j6 l=ah:=by
 have one:(if v.isC then aa [v] else af)=aa l->cF h l=aa y.cs/\j6 l=ah:=λhv=>by
  split at hv
  .rename_i hc;simp only[aj] at hv;subst hv;exact⟨by rw[L5 (Mg I hc)];exact ov I rfl,by simp[j6,hc]⟩
  .cases hv
 cases v with
 |agg q=>
  simp only[TV.cs] at hv;split at hv
  .rename_i hc;simp only[aj] at hv;subst hv;simp only[ch] at I;split at I
   .rename_i J hl;simp only[aj] at I;subst I;exact⟨hl,hc⟩
   .cases I
  .cases hv
 |f T x=>
  simp only[TV.cs] at hv;simp only[ch,aj] at I;subst I;rw[yP];exact k9 h 40 T x l hv
 |fel T xs j hj off=>exact one hv
 |pel id sz j off=>exact one hv
 |ptr id off=>exact one hv
 |csl id off z=>exact one hv
 |row id=>exact one hv
 |emp=>exact one hv
 |nil=>exact one hv
 |mp id=>exact one hv
 |rtl id M=>exact one hv
 |tup q=>exact one hv
 |clo g q=>exact one hv
 |undef=>exact one hv
 |np=>exact one hv
 |anyb=>exact one hv
def CR (h:bd) (H H':HF) (m:Nat):Prop:=∀ id,aL m id=ah->H (nm id)=bw h (nm id)/\H' (nm id)=af
theorem CR.zero {h:bd} {H H':HF}:CR h H H' 0:=λid hid=>by simp at hid
theorem CR.or {h:bd} {H H':HF} {a b:Nat} (g:CR h H H' (a|||b)):CR h H H' a/\CR h H H' b:=
 ⟨λid hid=>g id (by rw[bl,hid];rfl),λid hid=>g id (by rw[bl,hid];simp)⟩
theorem bT {i j:Nat}:aL (ko i) j=ah↔i=j:=by
 unfold ko;rw[Nat.one_shiftLeft,Nat.testBit_two_pow];simp
section pack
variable {h:bd} {H H':HF}
theorem wF (d:ui H H') {T:Ty} {v:TV} {x:T.den} {m:Nat} {y:AV} (I:ip h T v=aa (x,m)) (J:ch h v=aa y) (g:CR h H H' m):lh H H' y (.f (gw T x))/\y.cs.length=T.size/\(T.one=ah->y.isCell=ah)/\gX H H' y.cs ((bN T x).map .f):=by
 cases v with
 |f S v=>
  simp only[ip] at I;split at I
  .rename_i z M;simp only[aj,aB] at I;obtain⟨rfl,_⟩:=I;obtain⟨e,rfl⟩:=iR M;subst e;simp only[ch,aj] at J;subst J;refine ⟨lh.refl d _,by rw[yP,b8,bx],λY=>?_,by rw[yP];exact gX.refl d _⟩;cases S<;>simp only[Ty.one] at Y<;>first|rfl|cases Y
  .cases I
 |emp=>
  simp only[ip] at I;split at I
  .simp only[aj,aB] at I;obtain⟨rfl,_⟩:=I;simp only[ch,aj] at J;subst J;exact⟨Le.emp.toH d,rfl,λ_=>rfl,⟨Le.emp.toH d,trivial⟩⟩
  .cases I
 |nil=>
  simp only[ip] at I;split at I
  .simp only[aj,aB] at I;obtain⟨rfl,_⟩:=I;simp only[ch,aj] at J;subst J;exact⟨Le.nil.toH d,rfl,λ_=>rfl,⟨Le.nil.toH d,trivial⟩⟩
  .cases I
 |row id=>
  simp only[ip] at I;split at I
  .rename_i ty p S xs hb;split at I
   .rename_i z M;simp only[aj,aB] at I;obtain⟨rfl,rfl⟩:=I;obtain⟨e,rfl⟩:=iR M;subst e;obtain⟨U,Z⟩:=g id (bT.2 rfl);rw[bE,hb] at U;simp only[ch,dZ,hb,aj] at J;subst J;have key:lh H H' (eZ p id S.size xs.length) (.f (gw (.sl S) xs)):=by
     unfold eZ;split
     .rename_i hp;simp only[au,cN] at hp;have:xs=[]:=gz.1 hp.2;subst this;exact Le.emp.toH d
     .rename_i hp;simp only[aE,j9,aC hp] at U;exact lh.row d U Z (fd (bx S) xs)
    have hc:(eZ p id S.size xs.length).isCell=ah:=by unfold eZ;split<;>rfl
    refine ⟨key,by rw[L5 hc];rfl,λ_=>hc,?_⟩;rw[L5 hc];exact⟨key,trivial⟩
   .cases I
  .cases I
 |fel T xs j hj off=>simp[ip] at I
 |pel id sz j off=>simp[ip] at I
 |ptr id off=>simp[ip] at I
 |csl id off z=>simp[ip] at I
 |mp id=>simp[ip] at I
 |rtl id jj=>simp[ip] at I
 |agg q=>simp[ip] at I
 |tup q=>simp[ip] at I
 |clo f q=>simp[ip] at I
 |undef=>simp[ip] at I
 |np=>simp[ip] at I
 |anyb=>simp[ip] at I
theorem qZ (d:ui H H'):∀ (n:Nat) (T:Ty) (l:List TV) (x:T.den) (m:Nat) (r:List TV) (I:List AV),eL h n T l=aa (x,m,r)->cF h l=aa I->CR h H H' m->∃ l1 l2,I=l1++l2/\cF h r=aa l2/\gX H H' l1 ((bN T x).map .f)
 |0,_,_,_,_,_,_,hp,_,_=>by simp[eL] at hp
 |n+1,.st t,l,x,m,r,I,hp,hl,g=>qZ d n t l x m r I hp hl g
 |n+1,.pr a b,l,x,m,r,I,hp,hl,g=>by
  simp only[eL] at hp;split at hp
  .rename_i J m1 r1 h1;split at hp
   .rename_i Y m2 r2 h2;simp only[aj,aB] at hp;obtain⟨rfl,rfl,rfl⟩:=hp;obtain⟨ga,gb⟩:=g.or;obtain⟨l1,l2,rfl,U,M⟩:=qZ d n a l J m1 r1 I h1 hl ga;obtain⟨l3,Z,rfl,q3,q4⟩:=qZ d n b r1 Y m2 r2 l2 h2 U gb;refine ⟨l1++l3,Z,by simp,q3,?_⟩;rw[bN,cI];exact M.append q4
   .cases hp
  .cases hp
 |n+1,.un,l,x,m,r,I,hp,hl,g=>by
  simp only[eL,aj,aB] at hp;obtain⟨_,_,rfl⟩:=hp;exact⟨[],I,rfl,hl,trivial⟩
 |n+1,.ex,l,x,m,r,I,hp,hl,g=>by
  simp only[eL] at hp;split at hp
  .rename_i J m1 r1 h1;simp only[aj,aB] at hp;obtain⟨rfl,rfl,rfl⟩:=hp;rw[bN,Pd];exact qZ d n La l J m1 r1 I h1 hl g
  .cases hp
 |n+1,.sm,l,x,m,r,I,hp,hl,g=>by
  simp only[eL] at hp;split at hp
  .rename_i J m1 r1 h1;simp only[aj,aB] at hp;obtain⟨rfl,rfl,rfl⟩:=hp;rw[bN,Pc];exact qZ d n KI l J m1 r1 I h1 hl g
  .cases hp
 |n+1,.int k,l,x,m,r,I,hp,hl,g=>by
  simp only[eL] at hp;split at hp
  .rename_i c q;split at hp
   .rename_i J m1 h1;simp only[aj,aB] at hp;obtain⟨rfl,rfl,rfl⟩:=hp;obtain⟨y,l2,rfl,U,M⟩:=cP hl;exact⟨[y],l2,rfl,M,⟨(wF d h1 U g).1,trivial⟩⟩
   .cases hp
  .cases hp
 |n+1,.bool,l,x,m,r,I,hp,hl,g=>by
  simp only[eL] at hp;split at hp
  .rename_i c q;split at hp
   .rename_i J m1 h1;simp only[aj,aB] at hp;obtain⟨rfl,rfl,rfl⟩:=hp;obtain⟨y,l2,rfl,U,M⟩:=cP hl;exact⟨[y],l2,rfl,M,⟨(wF d h1 U g).1,trivial⟩⟩
   .cases hp
  .cases hp
 |n+1,.str,l,x,m,r,I,hp,hl,g=>by
  simp only[eL] at hp;split at hp
  .rename_i c q;split at hp
   .rename_i J m1 h1;simp only[aj,aB] at hp;obtain⟨rfl,rfl,rfl⟩:=hp;obtain⟨y,l2,rfl,U,M⟩:=cP hl;exact⟨[y],l2,rfl,M,⟨(wF d h1 U g).1,trivial⟩⟩
   .cases hp
  .cases hp
 |n+1,.sl t,l,x,m,r,I,hp,hl,g=>by
  simp only[eL] at hp;split at hp
  .rename_i c q;split at hp
   .rename_i J m1 h1;simp only[aj,aB] at hp;obtain⟨rfl,rfl,rfl⟩:=hp;obtain⟨y,l2,rfl,U,M⟩:=cP hl;exact⟨[y],l2,rfl,M,⟨(wF d h1 U g).1,trivial⟩⟩
   .cases hp
  .cases hp
theorem Rm (d:ui H H') {n:Nat} {T:Ty} {l:List TV} {x:T.den} {m:Nat} {I:List AV} (hp:eL h n T l=aa (x,m,[])) (hl:cF h l=aa I) (g:CR h H H' m):gX H H' I ((bN T x).map .f):=by
 obtain⟨l1,l2,rfl,J,M⟩:=qZ d n T l x m [] I hp hl g;simp only[cF,aj] at J;subst J;simpa using M
theorem Nd (d:ui H H') {T:Ty} {v:TV} {x:T.den} {m:Nat} {y:AV} (I:CD h T v=aa (x,m)) (J:ch h v=aa y) (g:CR h H H' m):lh H H' y (.f (gw T x))/\gX H H' y.cs ((bN T x).map .f):=by
 have other:ip h T v=aa (x,m)->lh H H' y (.f (gw T x))/\gX H H' y.cs ((bN T x).map .f):=λI=>by
  obtain⟨h1,_,_,h2⟩:=wF d I J g;exact⟨h1,h2⟩
 cases v with
 |agg l=>
  simp only[CD] at I;split at I
  .cases I
  .rename_i U;split at I
   .rename_i M m1 h1;simp only[aj,aB] at I;obtain⟨rfl,rfl⟩:=I;simp only[ch] at J;split at J
    .rename_i Y hl;simp only[aj] at J;subst J;have:=Rm d h1 hl g;refine ⟨?_,this⟩;rw[pK T M (by simpa using U)];exact lh.aggL this (nv T M)
    .cases J
   .cases I
 |f S v=>exact other I
 |fel T xs j hj off=>exact other I
 |pel id sz j off=>exact other I
 |ptr id off=>exact other I
 |csl id off z=>exact other I
 |row id=>exact other I
 |emp=>exact other I
 |nil=>exact other I
 |mp id=>exact other I
 |rtl id Z=>exact other I
 |tup q=>exact other I
 |clo g q=>exact other I
 |undef=>exact other I
 |np=>exact other I
 |anyb=>exact other I
theorem Bv (d:ui H H') {T:Ty}:∀ (n:Nat) (l:List TV) (xs:List T.den) (m:Nat) (I:List AV),xt h T n l=aa (xs,m)->cF h l=aa I->CR h H H' m->gX H H' I ((xs.flatMap (bN T)).map .f)/\xs.length=n
 |0,[],xs,m,I,hp,hl,g=>by
  simp only[xt,aj,aB] at hp;obtain⟨rfl,_⟩:=hp;simp only[cF,aj] at hl;subst hl;exact⟨trivial,rfl⟩
 |0,_::_,xs,m,I,hp,hl,g=>by simp[xt] at hp
 |n+1,l,xs,m,I,hp,hl,g=>by
  simp only[xt] at hp;split at hp
  .rename_i M m1 r1 h1;split at hp
   .rename_i J m2 h2;simp only[aj,aB] at hp;obtain⟨rfl,rfl⟩:=hp;obtain⟨ga,Z⟩:=g.or;obtain⟨l1,l2,rfl,Y,U⟩:=qZ d 40 T l M m1 r1 I h1 hl ga;obtain⟨q3,q4⟩:=Bv d n r1 J m2 l2 h2 Y Z;refine ⟨?_,by simp[q4]⟩;rw[fm,cI];exact U.append q3
   .cases hp
  .cases hp
theorem ta (h:bd):∀ (n:Nat) (T:Ty) (v:T.den) (off sz:Nat) (ag:Bool) (u:TV),nC n T v off sz ag=aa u->off+sz<=T.size/\∃ y,ch h u=aa (.f y)/\(ag=ai->sz=1/\(bN T v)[off]? =aa y)/\(ag=ah->y= .agg (((bN T v).drop off).take sz))
 |0,_,_,_,_,_,_,hg=>by simp[nC] at hg
 |n+1,.st t,v,off,sz,ag,u,hg=>by
  simp only[nC] at hg;split at hg
  .rename_i hc;simp only[au] at hc;obtain⟨⟨h1,h2⟩,rfl⟩:=hc;have h1:=av h1;have h2:=av h2;subst h1;subst h2;simp only[aj] at hg;subst hg;refine ⟨by simp[Ty.size],_,rfl,λh=>(by cases h),λ_=>?_⟩;simp only[gw,bN,List.drop_zero];rw[<- bx t v,cL]
  .exact ta h n t v off sz ag u hg
 |n+1,.pr a b,v,off,sz,ag,u,hg=>by
  simp only[nC] at hg;have hla:=bx a v.1;have hlb:=bx b v.2;split at hg
  .rename_i hlt;have hlt:off<a.size:=aY hlt;obtain⟨h1,y,h2,J,I⟩:=ta h n a v.1 off sz ag u hg;refine ⟨by simp only[Ty.size];omega,y,h2,λe=>?_,λe=>?_⟩
   .obtain⟨U,M⟩:=J e;exact⟨U,by rw[bN,bK (by omega)];exact M⟩
   .rw[I e,bN];have:((bN a v.1++bN b v.2).drop off).take sz=((bN a v.1).drop off).take sz:=by
     rw[CP (by omega),kH (by simp;omega)]
    rw[this]
  .rename_i hlt;have hlt:¬off<a.size:=λh=>hlt (bz h)
   obtain⟨h1,y,h2,J,I⟩:=ta h n b v.2 (off-a.size) sz ag u hg;refine ⟨by simp only[Ty.size];omega,y,h2,λe=>?_,λe=>?_⟩
   .obtain⟨U,M⟩:=J e;exact⟨U,by rw[bN,bX (by omega),hla];exact M⟩
   .rw[I e,bN];have:(bN a v.1++bN b v.2).drop off=(bN b v.2).drop (off-a.size):=by
     rw[tS,hla,qL (by omega)];simp
    rw[this]
 |n+1,.un,v,off,sz,ag,u,hg=>by simp[nC] at hg
 |n+1,.ex,v,off,sz,ag,u,hg=>by
  simp only[nC] at hg;split at hg
  .rename_i hc;simp only[au] at hc;obtain⟨⟨h1,h2⟩,rfl⟩:=hc;have h1:=av h1;have h2:=av h2;subst h1;subst h2;simp only[aj] at hg;subst hg;refine ⟨by simp[Ty.size],_,rfl,λh=>(by cases h),λ_=>?_⟩;simp only[gw,bN,List.drop_zero];rw[<- ww v,cL]
  .obtain⟨h1,y,h2,J,I⟩:=ta h n La (LQ v) off sz ag u hg;rw[HX] at J I;exact⟨h1,y,h2,J,I⟩
 |n+1,.sm,v,off,sz,ag,u,hg=>by
  simp only[nC] at hg;split at hg
  .rename_i hc;simp only[au] at hc;obtain⟨⟨h1,h2⟩,rfl⟩:=hc;have h1:=av h1;have h2:=av h2;subst h1;subst h2;simp only[aj] at hg;subst hg;refine ⟨by simp[Ty.size],_,rfl,λh=>(by cases h),λ_=>?_⟩;simp only[gw,bN,List.drop_zero];rw[<- B2 v,cL]
  .obtain⟨h1,y,h2,J,I⟩:=ta h n KI (LP v) off sz ag u hg;rw[HW] at J I;exact⟨h1,y,h2,J,I⟩
 |n+1,.int k,v,off,sz,ag,u,hg=>by
  simp only[nC] at hg;split at hg
  .rename_i hc;simp only[au,dX] at hc;obtain⟨⟨h1,h2⟩,rfl⟩:=hc;have h1:=av h1;have h2:=av h2;subst h1;subst h2;simp only[aj] at hg;subst hg;exact⟨by simp[Ty.size],_,rfl,λ_=>⟨rfl,rfl⟩,λh=>by cases h⟩
  .cases hg
 |n+1,.bool,v,off,sz,ag,u,hg=>by
  simp only[nC] at hg;split at hg
  .rename_i hc;simp only[au,dX] at hc;obtain⟨⟨h1,h2⟩,rfl⟩:=hc;have h1:=av h1;have h2:=av h2;subst h1;subst h2;simp only[aj] at hg;subst hg;exact⟨by simp[Ty.size],_,rfl,λ_=>⟨rfl,rfl⟩,λh=>by cases h⟩
  .cases hg
 |n+1,.str,v,off,sz,ag,u,hg=>by
  simp only[nC] at hg;split at hg
  .rename_i hc;simp only[au,dX] at hc;obtain⟨⟨h1,h2⟩,rfl⟩:=hc;have h1:=av h1;have h2:=av h2;subst h1;subst h2;simp only[aj] at hg;subst hg;exact⟨by simp[Ty.size],_,rfl,λ_=>⟨rfl,rfl⟩,λh=>by cases h⟩
  .cases hg
 |n+1,.sl t,v,off,sz,ag,u,hg=>by
  simp only[nC] at hg;split at hg
  .rename_i hc;simp only[au,dX] at hc;obtain⟨⟨h1,h2⟩,rfl⟩:=hc;have h1:=av h1;have h2:=av h2;subst h1;subst h2;simp only[aj] at hg;subst hg;exact⟨by simp[Ty.size],_,rfl,λ_=>⟨rfl,rfl⟩,λh=>by cases h⟩
  .cases hg
theorem Rf {α:Type} (l vs:List α) (h:vs.length=l.length):AI.splice l 0 vs=vs:=by
 unfold AI.splice;rw[bJ,h,List.drop_length];simp
theorem NJ {α:Type} (a b vs:List α) (off:Nat) (h:off+vs.length<=a.length):AI.splice (a++b) off vs=AI.splice a off vs++b:=by
 unfold AI.splice;rw[kH (by omega),CP (by omega)];simp[jy]
theorem LY {α:Type} (a b vs:List α) (off:Nat) (h:a.length<=off):AI.splice (a++b) off vs=a++AI.splice b (off-a.length) vs:=by
 unfold AI.splice;rw[List.take_append,tS,fI h,qL (by omega),show off+vs.length-a.length=off-a.length+vs.length from by omega];simp[jy]
def U2 (H H':HF) (y:AV) (T:Ty) (v z:T.den) (off sz:Nat):Prop:=∃ fs:List FV,gX H H' y.cs (fs.map .f)/\fs.length=sz/\off+sz<=T.size/\bN T z=AI.splice (bN T v) off fs/\∀ x∈fs,x.isCell=ah
theorem U2.whole {y:AV} {T:Ty} {v z:T.den} {off sz:Nat} (h0:off=0) (hs:sz=T.size) (hl:gX H H' y.cs ((bN T z).map .f)):U2 H H' y T v z off sz:=by
 subst h0;subst hs;exact⟨bN T z,hl,bx T z,by omega,(Rf _ _ (by rw[bx,bx])).symm,nv T z⟩
theorem uM (d:ui H H') {u:TV} {y:AV} (I:ch h u=aa y):∀ (n:Nat) (T:Ty) (v:T.den) (off sz:Nat) (z:T.den) (m:Nat),gD h u n T v off sz=aa (z,m)->CR h H H' m->U2 H H' y T v z off sz
 |0,_,_,_,_,_,_,hg,_=>by simp[gD] at hg
 |n+1,.st t,v,off,sz,z,m,hg,g=>by
  simp only[gD] at hg;split at hg
  .rename_i q hq;split at hq
   .rename_i hc;simp only[au] at hc;simp only[aj] at hg;subst hg;exact .whole (av hc.1) (av hc.2) (Nd d hq I g).2
   .cases hq
  .exact uM d I n t v off sz z m hg g
 |n+1,.pr a b,v,off,sz,z,m,hg,g=>by
  simp only[gD] at hg;have hla:=bx a v.1;split at hg
  .rename_i hlt;split at hg
   .rename_i J m1 h1;simp only[aj,aB] at hg;obtain⟨rfl,rfl⟩:=hg;obtain⟨fs,U,M,q3,q4,q5⟩:=uM d I n a v.1 off sz J m1 h1 g;refine ⟨fs,U,M,by simp only[Ty.size];omega,?_,q5⟩;rw[bN,bN,NJ _ _ _ _ (by omega),q4]
   .cases hg
  .rename_i hlt;have hlt:¬off<a.size:=λh=>hlt (bz h)
   split at hg
   .rename_i J m1 h1;simp only[aj,aB] at hg;obtain⟨rfl,rfl⟩:=hg;obtain⟨fs,U,M,q3,q4,q5⟩:=uM d I n b v.2 (off-a.size) sz J m1 h1 g;refine ⟨fs,U,M,by simp only[Ty.size];omega,?_,q5⟩;rw[bN,bN,LY _ _ _ _ (by omega),q4,hla]
   .cases hg
 |n+1,.un,v,off,sz,z,m,hg,g=>by simp[gD] at hg
 |n+1,.ex,v,off,sz,z,m,hg,g=>by
  simp only[gD] at hg;split at hg
  .rename_i q hq;split at hq
   .rename_i hc;simp only[au] at hc;simp only[aj] at hg;subst hg;exact .whole (av hc.1) (av hc.2) (Nd d hq I g).2
   .cases hq
  .split at hg
   .rename_i J m1 h1;simp only[aj,aB] at hg;obtain⟨rfl,rfl⟩:=hg;obtain⟨fs,U,M,q3,q4,q5⟩:=uM d I n La (LQ v) off sz J m1 h1 g;exact⟨fs,U,M,q3,by rw[bN,bN,Pd,q4,HX],q5⟩
   .cases hg
 |n+1,.sm,v,off,sz,z,m,hg,g=>by
  simp only[gD] at hg;split at hg
  .rename_i q hq;split at hq
   .rename_i hc;simp only[au] at hc;simp only[aj] at hg;subst hg;exact .whole (av hc.1) (av hc.2) (Nd d hq I g).2
   .cases hq
  .split at hg
   .rename_i J m1 h1;simp only[aj,aB] at hg;obtain⟨rfl,rfl⟩:=hg;obtain⟨fs,U,M,q3,q4,q5⟩:=uM d I n KI (LP v) off sz J m1 h1 g;exact⟨fs,U,M,q3,by rw[bN,bN,Pc,q4,HW],q5⟩
   .cases hg
 |n+1,.int k,v,off,sz,z,m,hg,g=>by
  simp only[gD] at hg;split at hg
  .rename_i hc;simp only[au] at hc;exact .whole (av hc.1) (av hc.2) (wF d hg I g).2.2.2
  .cases hg
 |n+1,.bool,v,off,sz,z,m,hg,g=>by
  simp only[gD] at hg;split at hg
  .rename_i hc;simp only[au] at hc;exact .whole (av hc.1) (av hc.2) (wF d hg I g).2.2.2
  .cases hg
 |n+1,.str,v,off,sz,z,m,hg,g=>by
  simp only[gD] at hg;split at hg
  .rename_i hc;simp only[au] at hc;exact .whole (av hc.1) (av hc.2) (wF d hg I g).2.2.2
  .cases hg
 |n+1,.sl t,v,off,sz,z,m,hg,g=>by
  simp only[gD] at hg;split at hg
  .rename_i hc;simp only[au] at hc;exact .whole (av hc.1) (av hc.2) (wF d hg I g).2.2.2
  .cases hg
theorem I0:∀ {a b:List Value},Qk a b=ah->a=b
 |[],[],_=>rfl
 |[],_::_,h=>by cases h
 |_::_,[],h=>by cases h
 |x::xs,y::ys,h=>by
  simp only[Qk,au] at h;rw[aaz h.1,I0 h.2]
theorem zero_ok (d:ui H H'):∀ T:Ty,gX H H' ((rP T).map raw) ((bN T T.zero).map .f)
 |.int k=>⟨lh.refl d _,trivial⟩
 |.bool=>⟨lh.refl d _,trivial⟩
 |.str=>⟨lh.refl d _,trivial⟩
 |.sl t=>⟨Le.nil.toH d,trivial⟩
 |.st t=>zero_ok d t
 |.pr a b=>by
  simp only[rP,Ty.zero,bN,cI];exact (zero_ok d a).append (zero_ok d b)
 |.un=>trivial
 |.ex=>⟨lh.refl d _,lh.refl d _,lh.refl d _,Le.nil.toH d,trivial⟩
 |.sm=>⟨lh.refl d _,lh.refl d _,lh.refl d _,lh.refl d _,Le.nil.toH d,lh.refl d _,lh.refl d _,lh.refl d _,Le.nil.toH d,Le.nil.toH d,Le.nil.toH d,trivial⟩
theorem FZ (d:ui H H') (T:Ty):∀ n,gX H H' ((repl (rP T) n).map .f) (((aF n T.zero).flatMap (bN T)).map .f)
 |0=>trivial
 |n+1=>by
  rw[repl,List.replicate_succ,fm,cI,cI];have h1:=zero_ok (H:=H) (H':=H') d T;have:((rP T).map .raw).map AV.f=(rP T).map raw:=by rw[yB];rfl
  rw[this];exact h1.append (FZ d T n)
end pack
structure lG (h:bd) (nx:Nat):Prop where
 cells:∀ id ty l,h.get id=aa (.cells ty l)->kr h l=ah
 low:∀ id b,h.get id=aa b->id<nx
def sr (e:iy) (h:bd):Prop:=∀ t v,e.get t=aa v->JG h v=ah
structure iS (P:Program) (o:Oper) (still:Bool) (e:iy) (h:bd) (nx:Nat) (v:TV) (rd wr:Nat) (h':bd) (nx':Nat):Prop where
 ex:∃ f:zX,gB P o (fD e h) (bw h) f/\(∀ y,ch h' v=aa y->f.val=y)/\eE (bw h) f.wr f.nw=bw h'/\(∀ n∈f.rd,aL rd (ow n)=ah)/\(∀ n∈f.wr,aL wr (ow n)=ah)/\(∀ n∈f.N,nx<=ow n/\ow n<nx')
 rows:cg h h'
 inv:lG h' nx'
 grows:nx<=nx'
 st:still=ah->rd=0/\wr=0
def kq {R:Type} (P:Program) (o:Oper) (still:Bool) (e:iy) (h:bd) (nx:Nat) (K:KO R) (r:R):Prop:=
 ∃ v rd wr h' nx',K v rd wr h' nx'=aa r/\iS P o still e h nx v rd wr h' nx'
theorem dN {R:Type} {b:Bool} {k:b=ah->Option R} {r:R} (h:chk b k=aa r):∃ hb:b=ah,k hb=aa r:=by
 cases b with
 |true=>exact⟨rfl,h⟩
 |false=>cases h
theorem oS {R:Type} {b:Bool} {t f:Option R} {r:R} (h:bcase b t f=aa r):(b=ah/\t=aa r)\/(b=ai/\f=aa r):=by
 cases b with
 |true=>exact .inl ⟨rfl,h⟩
 |false=>exact .inr ⟨rfl,h⟩
theorem dy {α R:Type} {o:Option α} {k:α->Option R} {r:R} (h:obind o k=aa r):∃ x,o=aa x/\k x=aa r:=by
 cases o with
 |some x=>exact⟨x,rfl,h⟩
 |none=>cases h
theorem Dg {j:Int} {n:Nat} (h:fB j n=ah):0<=j/\j<n/\j.toNat<n:=by
 simp only[fB,cR,fE,au,bP] at h;omega
theorem gB.envLe {P:Program} {o:Oper} {e e2:EF} {h:HF} {f:zX} (ht:gB P o e h f) (hle:∀ t y,.tmp t∈o.op.operands->e t=aa y->∃ J,e2 t=aa J/\Le J y):gB P o e2 h f:=by
 intro φ E h' w a h1 h2 Z Y U;refine ht φ E h' w a h1 h2 (λt I y M=>?_) Y U;obtain⟨J,g1,g2⟩:=hle t y I M;exact g2 _ _ _ _ (Z t I J g1)
theorem IC (h:bd) {v:Value} {u:TV} (hc:cst v=aa u):ch h u=aa (raw v)/\v.oneCell'=ah/\u.isC=ah:=by
 unfold cst at hc;split at hc<;>cases hc<;>exact⟨rfl,rfl,rfl⟩
theorem uf (h:bd):∀ {z:List Value} {l:List TV},IB z=aa l->cF h l=aa (z.map raw)/\(∀ x∈z,x.oneCell'=ah)/\j6 l=ah
 |[],l,hc=>by simp only[IB,aj] at hc;subst hc;exact⟨rfl,by simp,rfl⟩
 |v::r,l,hc=>by
  simp only[IB] at hc;split at hc
  .rename_i x l' J hl;simp only[aj] at hc;subst hc;obtain⟨h1,h2,Z⟩:=IC h J;obtain⟨Y,U,M⟩:=uf h hl;refine ⟨ov h1 Y,λy I=>?_,by simp[j6,Z,M]⟩;rcases bh.1 I with rfl|I
   .exact h2
   .exact U y I
  .cases hc
theorem bG {e:iy} {h:bd} (hi:sr e h) {x:Operand} {v:TV} (I:fo e x=aa v):∃ y,me (HR e h) x=aa y/\ch h v=aa y:=by
 cases x with
 |tmp t=>
  simp only[fo] at I;obtain⟨y,J⟩:=pm h v (hi t v I);refine ⟨y,?_,J⟩;simp only[me];rw[ub];simp only[fD,I,aE,J]
 |const c=>
  simp only[fo] at I;unfold ads at I;split at I
  .rename_i vs;split at I
   .rename_i h1;split at I
    .rename_i l hl;simp only[aj] at I;subst I;refine ⟨.agg (vs.toList.map raw),?_,by simp only[ch,(uf h hl).1]⟩;simp only[me,DL,h1,bB];rfl
    .cases I
   .cases I
  .rename_i hn;refine ⟨raw c,?_,(IC h I).1⟩;simp only[me];unfold DL;split
   .rename_i vs;exact cX rfl (hn vs)
   .rfl
 |func g=>
  simp only[fo,aj] at I;subst I;exact⟨_,rfl,rfl⟩
 |global g=>
  simp only[fo] at I;cases hg:G g with
  |none=>rw[hg] at I;cases I
  |some cells=>
   rw[hg] at I;simp only[aj] at I;subst I;have hcells:cells=BD:=by
    unfold G at hg;split at hg
    .cases hg;rfl
    .cases hg
   subst hcells;exact⟨_,by simp only[me,hg];rfl,rfl⟩
theorem xv {e:iy} {h:bd} (hi:sr e h):∀ {xs:List Operand} {l:List TV},Eb e xs=aa l->∃ J,UC (HR e h) xs=aa J/\cF h l=aa J
 |[],l,I=>by simp only[Eb,aj] at I;subst I;exact⟨[],rfl,rfl⟩
 |x::xs,l,I=>by
  simp only[Eb] at I;split at I
  .rename_i y U;split at I
   .rename_i ys hys;simp only[aj] at I;subst I;obtain⟨M,h1,h2⟩:=bG hi U;obtain⟨J,Z,Y⟩:=xv hi hys;exact⟨M::J,by simp only[UC,h1,Z],ov h2 Y⟩
   .cases I
  .cases I
section ops
variable {R:Type} {P:Program} {o:Oper} {e:iy} {h:bd} {nx:Nat} {K:KO R} {r:R}
theorem iS.pure {s:WD} {st:Bool} (hinv:lG h nx) (hc:c6 P o.op=aa s) {H:nA} (U:H.get=bw h) {k:Nat} {y0:AV} {rdl:List Nat} (M:eC s (HR e h) H k=aa ⟨y0,rdl,[],[],[]⟩) {v:TV} (hv:∀ y,ch h v=aa y->Le y0 y) {rd:Nat} (hrd:∀ n∈rdl,aL rd (ow n)=ah) (hst:st=ah->rd=0):iS P o st e h nx v rd 0 h nx:=by
 have ht:=GR hc M;rw[ub,U] at ht;refine ⟨?_,λ_ _ h=>h,hinv,bQ _,λhs=>⟨hst hs,rfl⟩⟩;have key:∀ y,Le y0 y->gB P o (fD e h) (bw h) ⟨y,rdl,[],iP [],[]⟩:=λy hle=>
  gB.view ht (λi hi=>by cases hi) λh' _ _=>⟨Ja.refl _,hle.toH (ui.refl _)⟩
 cases J:ch h v with
 |none=>exact⟨_,ht,λy I=>by simp at I,by simp[AS.eff,sJ],hrd,by simp[AS.eff],by simp[AS.eff]⟩
 |some y=>exact⟨_,key y (hv y J),λY I=>by simpa using I,by simp[sJ],hrd,by simp,by simp⟩
theorem kq.q {s:WD} {st:Bool} (hinv:lG h nx) (hc:c6 P o.op=aa s) {k:Nat} {y0:AV} (J:∀ H:nA,H.get=bw h->eC s (HR e h) H k=rv y0) {v:TV} (hv:∀ y,ch h v=aa y->Le y0 y) (hk:K v 0 0 h nx=aa r):kq P o st e h nx K r:=by
 obtain⟨H,I⟩:=jw h;exact⟨v,0,0,h,nx,hk,iS.pure hinv hc I (J H I) hv (by simp) λ_=>rfl⟩
theorem c_ {y0:AV} {v:TV} (hv:ch h v=aa y0):∀ y,ch h v=aa y->Le y0 y:=λy I=>by rw[hv] at I;cases I;exact Le.refl _
theorem ac3 {T:Ty} {xs:List T.den} {j:Int} (hj:fB j xs.length=ah) {off sz:Nat} {ag:Bool} {u:TV} (hg:nC 40 T (aH xs j) off sz ag=aa u):
 ∃ y,ch h u=aa (.f y)/\(BC.fz (xs.flatMap (bN T))).sub? (j.toNat*T.size+off) sz ag=aa (.f y):=by
 obtain⟨h1,y,h2,Y,U⟩:=ta h 40 T _ off sz ag u hg;refine ⟨y,h2,?_⟩;obtain⟨_,_,hlt⟩:=Dg hj;have I:xs[j.toNat]? =aa (aH xs j):=by
  unfold aH;rw[ax,ay hlt];rfl
 obtain⟨q,hq⟩:=Dx (bx T) xs j.toNat _ I;have hlen:=fd (bx T) xs;have hle:(j.toNat+1)*T.size<=xs.length*T.size:=cA _ hlt;rw[iB] at hle;have hl:=bx T (aH xs j);cases ag with
 |false=>
  obtain⟨M,J⟩:=Y rfl;subst M;simp only[BC.sub?,BC.get];have:(xs.flatMap (bN T))[j.toNat*T.size+off]? =aa y:=by
   rw[<- gJ,hq,bK (by omega)];exact J
  rw[this];rfl
 |true=>
  simp only[BC.sub?];rw[aJ (bz (by omega)),U rfl,<-List.drop_drop,hq,CP (by omega),kH (by simp;omega)]
theorem ac4 {T:Ty} {v:T.den} {off sz:Nat} {ag:Bool} {u:TV} (hg:nC 40 T v off sz ag=aa u):
 ∃ y,ch h u=aa (.f y)/\(BC.fz (bN T v)).sub? off sz ag=aa (.f y):=by
 obtain⟨h1,y,h2,U,M⟩:=ta h 40 T _ off sz ag u hg;refine ⟨y,h2,?_⟩;have hl:=bx T v;cases ag with
 |false=>
  obtain⟨J,I⟩:=U rfl;subst J;simp only[BC.sub?,BC.get,I];rfl
 |true=>
  simp only[BC.sub?];rw[aJ (bz (by omega)),M rfl]
theorem TY {l:List TV} {I:List AV} (hl:cF h l=aa I) {off sz:Nat} {ag:Bool} {u:TV} (hs:Rd l off sz ag=aa u):∃ y,ch h u=aa y/\(BC.mx I).sub? off sz ag=aa y:=by
 cases ag with
 |false=>
  simp only[Rd] at hs;split at hs
  .rename_i h1;have h1:=av h1;subst h1;obtain⟨y,h2,J⟩:=lB hl off u hs;exact⟨y,J,by simp only[BC.sub?,BC.get,h2]⟩
  .cases hs
 |true=>
  simp only[Rd] at hs;split at hs
  .rename_i h1;simp only[aj] at hs;subst hs;have h2:=DA sz (DC off hl);exact⟨.agg ((I.drop off).take sz),by simp only[ch,h2],by simp only[BC.sub?,gT hl,h1,bB]⟩
  .cases hs
theorem Of {v:TV} {n:Nat} {y:AV} (hn:lenOf h v=aa n) (I:ch h v=aa y):y.slen=aa n:=by
 unfold lenOf at hn;split at hn
 .simp only[aj] at hn;subst hn;simp only[ch,aj] at I;subst I;rfl
 .simp only[aj] at hn;subst hn;simp only[ch,aj] at I;subst I;rfl
 .simp only[aj] at hn;subst hn;simp only[ch,aj] at I;subst I;rfl
 .rename_i id;simp only[ch] at I;cases hr:dZ h id with
  |none=>rw[hr] at hn;cases hn
  |some q=>
   obtain⟨p,sz,m⟩:=q;rw[hr] at hn I;simp only[aj] at hn I;subst hn;subst I;unfold eZ;split
   .rename_i hp;simp only[au,cN] at hp;rw[hp.2];rfl
   .rfl
 .simp only[aj] at hn;subst hn;simp only[ch,aj] at I;subst I;rfl
 .cases hn
theorem CC (a b:List UInt8):qV ⟨a.toArray⟩ ⟨b.toArray⟩=decide (a=b):=by
 unfold qV;simp only[Bool.beq_eq_decide_eq]
theorem aay {op:BinOp} {u v:TV} {q:TV->Option R} (hk:ady op u v q=aa r):∃ a b c t,ch h u=aa (raw a)/\ch h v=aa (raw b)/\tL op a b=aa c/\ch h t=aa (raw c)/\q t=aa r:=by
 unfold ady at hk;split at hk
 .rename_i k a k' b;split at hk
  .rename_i hkk;have hkk':k=k':=by simpa using hkk
   subst hkk';refine ⟨.int k a,.int k b,?_⟩;cases op<;>simp only[reduceCtorEq] at hk<;>first
    |cases hk
    |exact⟨_,_,rfl,rfl,(by simp only[tL,cM,bB]<;>rfl),rfl,hk⟩
    |(obtain ⟨hb,hk⟩:=dN hk
      have I:(b==(0:Int))=ai:=by simpa using hb
      exact⟨_,_,rfl,rfl,by simp only[tL,cM,bB,I,co,dR],rfl,hk⟩)
  .cases hk
 .rename_i a b;refine ⟨.string ⟨kf a⟩,.string ⟨kf b⟩,?_⟩;split at hk
  .exact⟨.bool (decide ((a:List UInt8)=b)),_,rfl,rfl,by simp only[tL,CC],rfl,hk⟩
  .exact⟨.bool (!decide ((a:List UInt8)=b)),_,rfl,rfl,by simp only[tL,CC],rfl,hk⟩
  .cases hk
 .cases hk
theorem UV {T:Ty}:∀ {l:List TV} {xs:List T.den},xl T l=aa xs->∀ k,k<l.length->l[k]? =aa (.f T (xs.getD k T.zero))
 |[],xs,_,k,hk=>by simp at hk
 |.f S v::r,xs,I,k,hk=>by
  simp only[xl] at I;split at I
  .rename_i x J;split at I
   .rename_i l hl;simp only[aj] at I;subst I;obtain⟨es,ex⟩:=iR J;cases es;subst ex;cases k with
    |zero=>rfl
    |succ k=>simpa using UV hl k (by simpa using hk)
   .cases I
  .cases I
 |.fel _ _ _ _ _::r,xs,I,k,hk=>by simp[xl] at I
 |.pel _ _ _ _::r,xs,I,k,hk=>by simp[xl] at I
 |.ptr _ _::r,xs,I,k,hk=>by simp[xl] at I
 |.csl _ _ _::r,xs,I,k,hk=>by simp[xl] at I
 |.row _::r,xs,I,k,hk=>by simp[xl] at I
 |.emp::r,xs,I,k,hk=>by simp[xl] at I
 |.nil::r,xs,I,k,hk=>by simp[xl] at I
 |.mp _::r,xs,I,k,hk=>by simp[xl] at I
 |.agg _::r,xs,I,k,hk=>by simp[xl] at I
 |.tup _::r,xs,I,k,hk=>by simp[xl] at I
 |.clo _ _::r,xs,I,k,hk=>by simp[xl] at I
 |.undef::r,xs,I,k,hk=>by simp[xl] at I
 |.np::r,xs,I,k,hk=>by simp[xl] at I
 |.anyb::r,xs,I,k,hk=>by simp[xl] at I
theorem UU {l:List TV} {T:Ty} {xs:List T.den} (I:YU l=aa ⟨T,xs⟩):∀ k,k<l.length->l[k]? =aa (.f T (xs.getD k T.zero)):=by
 unfold YU at I;split at I
 .split at I
  .rename_i l1 hl;simp only[aj] at I;cases I;exact UV hl
  .cases I
 .cases I
variable (hinv:lG h nx) (hi:sr e h)
include hinv hi
theorem K_mv {con:FuncId->Option cq} {bY:TypeId->Option Ty} {x:Operand} {st:Bool} (hc:c6 P o.op=aa (.mv x)) (hk:dK con bY (.op (.mv x)) e h nx K=aa r):kq P o st e h nx K r:=by
 simp only[dK] at hk;split at hk
 .rename_i v hv;obtain⟨y,h1,h2⟩:=bG hi hv;exact kq.q (k:=0) hinv hc (λH _=>by simp only[eC,h1]) (c_ h2) hk
 .cases hk
theorem afk {con:FuncId->Option cq} {bY:TypeId->Option Ty} {c a b:Operand} {st:Bool} (hc:c6 P o.op=aa (.pick c a b)) (hk:dK con bY (.op (.pick c a b)) e h nx K=aa r):kq P o st e h nx K r:=by
 simp only[dK] at hk;split at hk
 .rename_i t hv;obtain⟨y,h1,h2⟩:=bG hi hv;simp only[ch,aj] at h2;subst h2;rcases oS hk with ⟨rfl,I⟩|⟨rfl,I⟩
  .split at I
   .rename_i v J;obtain⟨Y,U,M⟩:=bG hi J;exact kq.q (k:=0) hinv hc (λH _=>by simp only[eC,h1,gw,bB,U]) (c_ M) I
   .cases I
  .split at I
   .rename_i v J;obtain⟨Y,U,M⟩:=bG hi J;exact kq.q (k:=0) hinv hc (λH _=>by simp only[eC,h1,gw,U,co,dR]) (c_ M) I
   .cases I
 .cases hk
theorem afl {con:FuncId->Option cq} {bY:TypeId->Option Ty} {x:Operand} {st:Bool} (hc:c6 P o.op=aa (.nilc x)) (hk:dK con bY (.op (.nilc x)) e h nx K=aa r):kq P o st e h nx K r:=by
 simp only[dK] at hk;split at hk;all_goals first
  |(rename_i hv
    obtain⟨y,h1,h2⟩:=bG hi hv;have I:=h2;simp only[ch,aj] at h2;subst h2;exact kq.q (k:=0) hinv hc (λH _=>by simp only[eC,h1]) (c_ I) hk)
  |skip
 .rename_i g cap hv;obtain⟨y,h1,h2⟩:=bG hi hv;have I:=h2;simp only[ch] at h2;split at h2
  .simp only[aj] at h2;subst h2;exact kq.q (k:=0) hinv hc (λH _=>by simp only[eC,h1]) (c_ I) hk
  .cases h2
 .cases hk
theorem aib {con:FuncId->Option cq} {bY:TypeId->Option Ty} {x:Operand} {st:Bool} (hc:c6 P o.op=aa (.not x)) (hk:dK con bY (.op (.not x)) e h nx K=aa r):kq P o st e h nx K r:=by
 simp only[dK] at hk;split at hk
 .rename_i b hv;obtain⟨y,h1,h2⟩:=bG hi hv;simp only[ch,aj] at h2;subst h2;exact kq.q (k:=0) hinv hc (λH _=>by simp only[eC,h1,gw];rfl) (c_ rfl) hk
 .cases hk
theorem afs {con:FuncId->Option cq} {bY:TypeId->Option Ty} {k:IntKind} {x:Operand} {st:Bool} (hc:c6 P o.op=aa (.conv k x)) (hk:dK con bY (.op (.conv k x)) e h nx K=aa r):kq P o st e h nx K r:=by
 simp only[dK] at hk;split at hk
 .rename_i k' n hv;obtain⟨y,h1,h2⟩:=bG hi hv;simp only[ch,aj] at h2;subst h2;exact kq.q (k:=0) hinv hc (λH _=>by simp only[eC,h1,gw];rfl) (c_ rfl) hk
 .cases hk
theorem aip {con:FuncId->Option cq} {bY:TypeId->Option Ty} {neg:Bool} {x y:Operand} {st:Bool} (hc:c6 P o.op=aa (.eqb neg x y)) (hk:dK con bY (.op (.eqb neg x y)) e h nx K=aa r):kq P o st e h nx K r:=by
 simp only[dK] at hk;split at hk
 .rename_i a b hv I;obtain⟨y,h1,h2⟩:=bG hi hv;obtain⟨U,M,J⟩:=bG hi I;simp only[ch,aj] at h2 J;subst h2;subst J;exact kq.q (k:=0) hinv hc (λH _=>by simp only[eC,h1,M,gw];rfl) (c_ rfl) hk
 .cases hk
theorem abo {con:FuncId->Option cq} {bY:TypeId->Option Ty} {neg:Bool} {x:Operand} {st:Bool} (hc:c6 P o.op=aa (.isnil neg x)) (hk:dK con bY (.op (.isnil neg x)) e h nx K=aa r):kq P o st e h nx K r:=by
 simp only[dK] at hk;split at hk
 .rename_i hv;obtain⟨y,h1,h2⟩:=bG hi hv;simp only[ch,aj] at h2;subst h2;exact kq.q (k:=0) hinv hc (λH _=>by simp only[eC,h1,yK,bB];rfl) (c_ rfl) hk
 .rename_i hv;obtain⟨y,h1,h2⟩:=bG hi hv;simp only[ch,aj] at h2;subst h2;exact kq.q (k:=0) hinv hc (λH _=>by simp only[eC,h1]) (c_ rfl) hk
 .rename_i T xs hv;obtain⟨y,h1,h2⟩:=bG hi hv;simp only[ch,aj] at h2;subst h2;rcases oS hk with ⟨J,I⟩|⟨J,I⟩
  .have J:=av J;exact kq.q (k:=0) (y0:=.anyb) hinv hc (λH _=>by simp only[eC,h1,gw,J]) (c_ rfl) I
  .have J:=gV J;obtain⟨n,hn⟩:=Nat.exists_eq_succ_of_ne_zero J;exact kq.q (k:=0) (y0:=raw (.bool neg)) hinv hc (λH _=>by simp only[eC,h1,gw,hn]) (c_ rfl) I
 .rename_i id hv;split at hk
  .rename_i ty T xs hb;obtain⟨y,h1,h2⟩:=bG hi hv;simp only[ch,dZ,hb,eZ,mS,co,dR,aj] at h2;subst h2;exact kq.q (k:=0) (y0:=raw (.bool neg)) hinv hc (λH _=>by simp only[eC,h1]) (c_ rfl) hk
  .cases hk
 .cases hk
theorem aig {con:FuncId->Option cq} {bY:TypeId->Option Ty} {x y:Operand} {st:Bool} (hc:c6 P o.op=aa (.max x y)) (hk:dK con bY (.op (.max x y)) e h nx K=aa r):kq P o st e h nx K r:=by
 simp only[dK] at hk;split at hk
 .rename_i k a k' b hv I;obtain⟨y,h1,h2⟩:=bG hi hv;obtain⟨U,M,J⟩:=bG hi I;simp only[ch,aj] at h2 J;subst h2;subst J;split at hk
  .exact kq.q (k:=0) hinv hc (λH _=>by simp only[eC,h1,M,gw];rfl) (c_ rfl) hk
  .cases hk
 .cases hk
theorem aif {con:FuncId->Option cq} {bY:TypeId->Option Ty} {x y:Operand} {st:Bool} (hc:c6 P o.op=aa (.min x y)) (hk:dK con bY (.op (.min x y)) e h nx K=aa r):kq P o st e h nx K r:=by
 simp only[dK] at hk;split at hk
 .rename_i k a k' b hv I;obtain⟨y,h1,h2⟩:=bG hi hv;obtain⟨U,M,J⟩:=bG hi I;simp only[ch,aj] at h2 J;subst h2;subst J;split at hk
  .exact kq.q (k:=0) hinv hc (λH _=>by simp only[eC,h1,M,gw];rfl) (c_ rfl) hk
  .cases hk
 .cases hk
theorem aim {con:FuncId->Option cq} {bY:TypeId->Option Ty} {off:Nat} {x:Operand} {st:Bool} (hc:c6 P o.op=aa (.fad off x)) (hk:dK con bY (.op (.fad off x)) e h nx K=aa r):kq P o st e h nx K r:=by
 simp only[dK] at hk;split at hk;all_goals first
  |(rename_i hv
    obtain⟨y,h1,h2⟩:=bG hi hv;simp only[ch,aj] at h2;subst h2;exact kq.q (k:=0) hinv hc (λH _=>by simp only[eC,h1,rC]) (c_ rfl) hk)
  |cases hk
theorem ail {con:FuncId->Option cq} {bY:TypeId->Option Ty} {off sz:Nat} {ag:Bool} {x:Operand} {st:Bool} (hc:c6 P o.op=aa (.fld off sz ag x)) (hk:dK con bY (.op (.fld off sz ag x)) e h nx K=aa r):kq P o st e h nx K r:=by
 simp only[dK] at hk;split at hk
 .rename_i l hv;split at hk
  .rename_i u hs;obtain⟨y,h1,h2⟩:=bG hi hv;simp only[ch] at h2;split at h2
   .rename_i U hl;simp only[aj] at h2;subst h2;obtain⟨y,J,I⟩:=TY hl hs;exact kq.q (k:=0) hinv hc (λH _=>by simp only[eC,h1,I]) (c_ J) hk
   .cases h2
  .cases hk
 .rename_i T v hv;split at hk
  .cases hk
  .rename_i M;split at hk
   .rename_i u hs;obtain⟨y,h1,h2⟩:=bG hi hv;simp only[ch,aj] at h2;rw[pK T v (by simpa using M)] at h2;subst h2;obtain⟨y,J,I⟩:=ac4 (h:=h) hs;exact kq.q (k:=0) hinv hc (λH _=>by simp only[eC,h1,I]) (c_ J) hk
   .cases hk
 .cases hk
theorem aij {con:FuncId->Option cq} {bY:TypeId->Option Ty} {n sz:Nat} {ag:Bool} {x i:Operand} {st:Bool} (hc:c6 P o.op=aa (.idx n sz ag x i)) (hk:dK con bY (.op (.idx n sz ag x i)) e h nx K=aa r):kq P o st e h nx K r:=by
 simp only[dK] at hk;split at hk
 .rename_i v0 k j hv U;split at hk
  .rename_i T xs hA;obtain⟨hb,hk⟩:=dN hk;cases ag with
   |true=>cases hA
   |false=>
   simp only[agn] at hA;split at hA
   .rename_i hsz;simp only[au,dX] at hsz;have hsz1:=av hsz.1;subst hsz1;split at hA
    .rename_i l hl;split at hA
     .rename_i hn;have hn:=av hn;obtain⟨y,h1,h2⟩:=bG hi hv;obtain⟨y2,Y,J⟩:=bG hi U;simp only[ch,aj] at J;subst J;have hj:j.toNat<l.length:=by
       simp only[au,cR,fE,bP] at hb;omega
      have hg:=UU hA j.toNat hj;obtain⟨he,_⟩:=IE hl h2;obtain⟨z,I,M⟩:=lB he j.toNat _ hg;have M:ch h (.f T (aH xs j))=aa z:=M;refine kq.q (k:=0) hinv hc (λH _=>?_) (c_ M) hk;cases v0 with
      |agg q=>
       simp only[ch] at h2;split at h2
       .rename_i l' _;simp only[aj] at h2;subst h2;have I:l'[j.toNat]? =aa z:=I;simp only[eC,h1,Y,gw,hb,bB,BC.sub?,BC.get,Nat.mul_one,I]
       .cases h2
      |f S u=>
       have Z:S.one=ai:=by
        have:=hsz.2;simpa[TV.isC] using this
       simp only[ch,aj] at h2;rw[pK S u Z] at h2;subst h2;have I:((bN S u).map AV.f)[j.toNat]? =aa z:=I;rw[a8] at I;simp only[eC,h1,Y,gw,hb,bB,BC.sub?,BC.get,Nat.mul_one,I]
      |_=>simp[TV.cs,TV.isC] at hl hsz
     .cases hA
    .cases hA
   .cases hA
  .split at hk
   .rename_i l;obtain⟨hb,hk⟩:=dN hk;split at hk
    .rename_i u hs;obtain⟨y,h1,h2⟩:=bG hi hv;obtain⟨y2,Y,J⟩:=bG hi U;simp only[ch,aj] at J;subst J;simp only[ch] at h2;split at h2
     .rename_i l' hl;simp only[aj] at h2;subst h2;obtain⟨y,h3,h4⟩:=TY hl hs;exact kq.q (k:=0) hinv hc (λH _=>by simp only[eC,h1,Y,gw,hb,bB,h4]) (c_ h3) hk
     .cases h2
    .cases hk
   .rename_i T v _;split at hk
    .cases hk
    .rename_i Z;obtain⟨hb,hk⟩:=dN hk;split at hk
     .rename_i u hs;obtain⟨y,h1,h2⟩:=bG hi hv;obtain⟨y2,Y,J⟩:=bG hi U;simp only[ch,aj] at J h2;subst J;rw[pK T v (by simpa using Z)] at h2;subst h2;obtain⟨y,h3,h4⟩:=ac4 (h:=h) hs;exact kq.q (k:=0) hinv hc (λH _=>by simp only[eC,h1,Y,gw,hb,bB,h4]) (c_ h3) hk
     .cases hk
   .cases hk
 .cases hk
theorem afq {con:FuncId->Option cq} {bY:TypeId->Option Ty} {n sz:Nat} {x i:Operand} {st:Bool} (hc:c6 P o.op=aa (.iada n sz x i)) (hk:dK con bY (.op (.iada n sz x i)) e h nx K=aa r):kq P o st e h nx K r:=by
 simp only[dK] at hk;split at hk
 .rename_i id off k j hv I;obtain⟨y,h1,h2⟩:=bG hi hv;obtain⟨U,M,J⟩:=bG hi I;simp only[ch,aj] at J h2;subst J;subst h2;split at hk
  .obtain⟨hb,hk⟩:=dN hk;exact kq.q (k:=0) (y0:=.ptr (nm id) (off+j.toNat*sz)) hinv hc (λH _=>by simp only[eC,h1,M,gw,hb,bB]) (c_ (by simp only[ch];rw[Nat.add_comm])) hk
  .obtain⟨hb,hk⟩:=dN hk;exact kq.q (k:=0) hinv hc (λH _=>by simp only[eC,h1,M,gw,hb,bB]) (c_ rfl) hk
 .cases hk
theorem ain {con:FuncId->Option cq} {bY:TypeId->Option Ty} {i:Nat} {x:Operand} {st:Bool} (hc:c6 P o.op=aa (.ext x i)) (hk:dK con bY (.op (.ext x i)) e h nx K=aa r):kq P o st e h nx K r:=by
 simp only[dK] at hk;split at hk
 .rename_i l hv;split at hk
  .rename_i u hs;obtain⟨y,h1,h2⟩:=bG hi hv;simp only[ch] at h2;split at h2
   .rename_i M hl;simp only[aj] at h2;subst h2;obtain⟨y,J,I⟩:=lB hl i u hs;exact kq.q (k:=0) hinv hc (λH _=>by simp only[eC,h1,J]) (c_ I) hk
   .cases h2
  .cases hk
 .cases hk
theorem aii {con:FuncId->Option cq} {bY:TypeId->Option Ty} {x:Operand} {st:Bool} (hc:c6 P o.op=aa (.len x)) (hk:dK con bY (.op (.len x)) e h nx K=aa r):kq P o st e h nx K r:=by
 simp only[dK] at hk;split at hk
 .rename_i v hv;split at hk
  .rename_i n hn;obtain⟨y,h1,h2⟩:=bG hi hv;have I:=Of hn h2;exact kq.q (k:=0) hinv hc (λH _=>by simp only[eC,h1,I];rfl) (c_ rfl) hk
  .cases hk
 .cases hk
theorem afo {con:FuncId->Option cq} {bY:TypeId->Option Ty} {x:Operand} {st:Bool} (hc:c6 P o.op=aa (.lens x)) (hk:dK con bY (.op (.lens x)) e h nx K=aa r):kq P o st e h nx K r:=by
 simp only[dK] at hk;split at hk
 .rename_i s hv;obtain⟨y,h1,h2⟩:=bG hi hv;simp only[ch,aj] at h2;subst h2;exact kq.q (k:=0) hinv hc (λH _=>by simp only[eC,h1,gw];rfl) (c_ rfl) hk
 .cases hk
theorem afj {con:FuncId->Option cq} {bY:TypeId->Option Ty} {x i:Operand} {st:Bool} (hc:c6 P o.op=aa (.sidx x i)) (hk:dK con bY (.op (.sidx x i)) e h nx K=aa r):kq P o st e h nx K r:=by
 simp only[dK] at hk;split at hk
 .rename_i s k j hv I;obtain⟨hj,hk⟩:=dN hk;obtain⟨y,h1,h2⟩:=bG hi hv;obtain⟨Z,Y,J⟩:=bG hi I;simp only[ch,aj] at h2 J;subst h2;subst J;obtain⟨U,j1,M⟩:=Dg hj;have e1:cR 0 j=ah:=by simp[cR,U]
  have e2:(⟨kf s⟩:ByteArray).data.toList[j.toNat]? =aa (List.getD s j.toNat 0):=by
   show s[j.toNat]? =_;rw[ax,ay M];rfl
  exact kq.q (k:=0) (y0:=raw (.int .u8 (aN (List.getD s j.toNat 0).toNat))) hinv hc (λH _=>by simp only[eC,h1,Y,gw,e1,bB,e2];rfl) (c_ rfl) hk
 .cases hk
theorem aik {con:FuncId->Option cq} {bY:TypeId->Option Ty} {sz:Nat} {x i:Operand} {st:Bool} (hc:c6 P o.op=aa (.iad sz x i)) (hk:dK con bY (.op (.iad sz x i)) e h nx K=aa r):kq P o st e h nx K r:=by
 simp only[dK] at hk;split at hk
 .rename_i id k j hv I;split at hk
  .rename_i ty p T xs hb;split at hk
   .rename_i hs;have hs:=av hs;obtain⟨hj,hk⟩:=dN hk;obtain⟨y,h1,h2⟩:=bG hi hv;obtain⟨Z,U,J⟩:=bG hi I;simp only[ch,aj] at J;subst J;obtain⟨j0,j1,j2⟩:=Dg hj;have hne:¬((p&&xs.length==0)=ah):=by
     simp only[au,cN];omega
    simp only[ch,dZ,hb,eZ,aC hne,aj] at h2;subst h2;have Y:(T.size==sz&&cR 0 j&&fE j xs.length)=ah:=by
     simp only[fB,au] at hj;simp[hs,hj.1,hj.2]
    exact kq.q (k:=0) hinv hc (λH _=>by simp only[eC,h1,U,gw,Y,bB,c8]) (c_ rfl) hk
   .cases hk
  .cases hk
 .rename_i T xs k j hv I;split at hk
  .rename_i hs;have hs:=av hs;obtain⟨hj,hk⟩:=dN hk;obtain⟨y,h1,h2⟩:=bG hi hv;obtain⟨Z,U,J⟩:=bG hi I;simp only[ch,aj] at J h2;subst J;subst h2;have M:(cR 0 j&&fE j (ak xs))=ah:=hj;exact kq.q (k:=0) hinv hc (λH _=>by simp only[eC,h1,U,gw,M,bB,c8,hs]) (c_ rfl) hk
  .cases hk
 .rename_i id sz' n k j hv I;split at hk
  .rename_i hs;have hs:=av hs;subst hs;obtain⟨hj,hk⟩:=dN hk;obtain⟨y,h1,h2⟩:=bG hi hv;obtain⟨Z,U,J⟩:=bG hi I;simp only[ch,aj] at J h2;subst J;subst h2;have M:(sz'==sz'&&cR 0 j&&fE j n)=ah:=by simp only[au] at hj ⊢;exact⟨⟨cM _,hj.1⟩,hj.2⟩
   exact kq.q (k:=0) hinv hc (λH _=>by simp only[eC,h1,U,gw,M,bB]) (c_ rfl) hk
  .cases hk
 .cases hk
theorem aie {con:FuncId->Option cq} {bY:TypeId->Option Ty} {f:FuncId} {caps:List Operand} {st:Bool} (hc:c6 P o.op=aa (.mkf f caps)) (hk:dK con bY (.op (.mkf f caps)) e h nx K=aa r):kq P o st e h nx K r:=by
 simp only[dK] at hk;split at hk
 .rename_i l hv;obtain⟨I,h1,h2⟩:=xv hi hv;exact kq.q (k:=0) hinv hc (y0:=.clo f I) (λH _=>by simp only[eC,h1]) (c_ (by simp only[ch,h2])) hk
 .cases hk
theorem ait {con:FuncId->Option cq} {bY:TypeId->Option Ty} {op:BinOp} {x y:Operand} {st:Bool} (hc:c6 P o.op=aa (.bin op x y)) (hk:dK con bY (.op (.bin op x y)) e h nx K=aa r):kq P o st e h nx K r:=by
 simp only[dK] at hk;split at hk
 .rename_i u v hv I;obtain⟨a,b,c,t,h1,h2,h3,h4,Z⟩:=aay (h:=h) hk;obtain⟨y,Y,U⟩:=bG hi hv;obtain⟨y2,M,J⟩:=bG hi I;rw[h1] at U;cases U;rw[h2] at J;cases J;simp only[raw] at Y M;exact kq.q (k:=0) hinv hc (λH _=>by simp only[eC,Y,M,h3]) (c_ h4) Z
 .cases hk
end ops
def mg:h_->Option (Bool×Nat×Nat)
 |.rows _ p T xs=>aa (p,T.size,xs.length)
 |.dead p sz n=>aa (p,sz,n)
 |_=>af
theorem bO (h:bd) (i:Nat):dZ h i=(h.get i).bind mg:=by
 unfold dZ;cases h.get i with
 |none=>rfl
 |some b=>cases b<;>rfl
theorem cg.refl (h:bd):cg h h:=λ_ _ h=>h
theorem cg.trans {a b c:bd} (h1:cg a b) (h2:cg b c):cg a c:=λi r h=>h2 i r (h1 i r h)
theorem cg.set {h:bd} {i:Nat} {b:h_} (hb:∀ r,dZ h i=aa r->mg b=aa r):cg h (h.set i (aa b)):=λj r hj=>by
 rw[bO,PT.get_set];by_cases e:j=i
 .subst e;rw[aJ rfl];exact hb r hj
 .rw[aC e,<-bO];exact hj
theorem KK {b:h_} {r:Bool×Nat×Nat} (h:mg b=aa r):mg (tZ b)=aa r:=by cases b<;>first|exact h|cases h
theorem iI (m:Nat) (h:bd) (i:Nat):(d_ m h).get i=if aL m i then (h.get i).map tZ else h.get i:=by
 unfold d_;split
 .rename_i hm;have:=av hm;subst this;simp
 .rw[PT.get_updI];simp only[Nat.one_mul,c8];cases h.get i with
  |none=>simp
  |some b=>simp only[b7];split<;>rfl
theorem cg.kill (m:Nat) (h:bd):cg h (d_ m h):=λi r hr=>by
 rw[bO] at hr ⊢;rw[iI];split
 .cases hb:h.get i with
  |none=>rw[hb] at hr;cases hr
  |some b=>rw[hb] at hr;exact KK hr
 .exact hr
theorem lG.set {h:bd} {nx nx' i:Nat} {b:h_} (hi:lG h nx) (hr:cg h (h.set i (aa b))) (hlt:i<nx') (hle:nx<=nx') (hb:∀ ty l,b= .cells ty l->kr (h.set i (aa b)) l=ah):lG (h.set i (aa b)) nx':=by
 refine ⟨λj ty l hj=>?_,λj c hj=>?_⟩
 .rw[PT.get_set] at hj;split at hj
  .simp only[aj] at hj;exact hb ty l hj
  .exact iF hr l (hi.cells j ty l hj)
 .rw[PT.get_set] at hj;split at hj
  .rename_i e;subst e;exact hlt
  .exact dj (hi.low j c hj) hle
theorem lG.kill {h:bd} {nx:Nat} (hi:lG h nx) (m:Nat):lG (d_ m h) nx:=by
 refine ⟨λj ty l hj=>?_,λj c hj=>?_⟩
 .rw[iI] at hj;refine iF (cg.kill m h) l (hi.cells j ty l ?_);split at hj
  .cases hb:h.get j with
   |none=>rw[hb] at hj;cases hj
   |some b=>rw[hb] at hj;cases b<;>simp[tZ] at hj
  .exact hj
 .rw[iI] at hj;split at hj
  .cases hb:h.get j with
   |none=>rw[hb] at hj;cases hj
   |some b=>exact hi.low j b hb
  .exact hi.low j c hj
theorem HU {h h':bd} (hr:cg h h') {b:h_} (hb:∀ ty l,b= .cells ty l->kr h l=ah):j9 h' b=j9 h b:=by
 cases b with
 |cells ty l=>
  obtain⟨I,hl⟩:=eY h l (hb ty l rfl);simp only[j9,hl,gM hr l I hl]
 |_=>rfl
theorem VQ {h h':bd} {nx i:Nat} (hi:lG h nx) (hr:cg h h') (hg:h'.get i=h.get i):bw h' (nm i)=bw h (nm i):=by
 rw[bE,bE,hg];cases hb:h.get i with
 |none=>rfl
 |some b=>exact HU hr λty l e=>hi.cells i ty l (by rw[hb,e])
theorem vi (h:bd) {n:Nat} (hn:¬∃ i,n=nm i):bw h n=af:=by
 unfold bw;rw[aC];intro h2;exact hn ⟨n/2,by unfold nm;omega⟩
theorem kn {h h':bd} {nx:Nat} (hi:lG h nx) (hr:cg h h') {n:Nat} (hg:∀ i,n=nm i->h'.get i=h.get i):bw h' n=bw h n:=by
 by_cases hn:∃ i,n=nm i
 .obtain⟨i,rfl⟩:=hn;exact VQ hi hr (hg i rfl)
 .rw[vi h hn,vi h' hn]
def Ee (m:Nat):List Nat:=(YP m).map nm
theorem ng {m n:Nat}:n∈Ee m↔∃ i,n=nm i/\aL m i=ah:=by
 unfold Ee;rw[c9];constructor
 .rintro⟨i,h1,rfl⟩;exact⟨i,rfl,KY.1 h1⟩
 .rintro⟨i,rfl,h1⟩;exact⟨i,KY.2 h1,rfl⟩
theorem kU {m i:Nat}:nm i∈Ee m↔aL m i=ah:=by
 rw[ng];constructor
 .rintro⟨j,h1,h2⟩;rw[ku h1];exact h2
 .exact λh=>⟨i,rfl,h⟩
def dH (h:bd) (m:Nat):Prop:=∀ i,aL m i=ah->∃ ty p T xs,h.get i=aa (.rows ty p T xs)
theorem dH.zero (h:bd):dH h 0:=λi hi=>by simp at hi
theorem dH.or {h:bd} {a b:Nat} (I:dH h a) (hb:dH h b):dH h (a|||b):=λi hi=>by
 rw[bl,iE] at hi;exact hi.elim (I i) (hb i)
theorem mO {h:bd} {T:Ty} {v:TV} {x:T.den} {m:Nat} (I:ip h T v=aa (x,m)):dH h m:=by
 cases v with
 |f S v=>
  simp only[ip] at I;split at I
  .simp only[aj,aB] at I;rw[<- I.2];exact dH.zero h
  .cases I
 |emp=>
  simp only[ip] at I;split at I
  .simp only[aj,aB] at I;rw[<- I.2];exact dH.zero h
  .cases I
 |nil=>
  simp only[ip] at I;split at I
  .simp only[aj,aB] at I;rw[<- I.2];exact dH.zero h
  .cases I
 |row id=>
  simp only[ip] at I;split at I
  .rename_i ty p S xs hb;split at I
   .simp only[aj,aB] at I;rw[<- I.2];intro i hi;have:=bT.1 hi;subst this;exact⟨ty,p,S,xs,hb⟩
   .cases I
  .cases I
 |fel T xs j hj off=>simp[ip] at I
 |pel id sz j off=>simp[ip] at I
 |ptr id off=>simp[ip] at I
 |csl id off z=>simp[ip] at I
 |mp id=>simp[ip] at I
 |rtl id J=>simp[ip] at I
 |agg q=>simp[ip] at I
 |tup q=>simp[ip] at I
 |clo f q=>simp[ip] at I
 |undef=>simp[ip] at I
 |np=>simp[ip] at I
 |anyb=>simp[ip] at I
theorem tV {h:bd}:∀ (n:Nat) (T:Ty) (l:List TV) (x:T.den) (m:Nat) (r:List TV),eL h n T l=aa (x,m,r)->dH h m
 |0,_,_,_,_,_,hp=>by simp[eL] at hp
 |n+1,.st t,l,x,m,r,hp=>tV n t l x m r hp
 |n+1,.pr a b,l,x,m,r,hp=>by
  simp only[eL] at hp;split at hp
  .rename_i I m1 r1 h1;split at hp
   .rename_i J m2 r2 h2;simp only[aj,aB] at hp;obtain⟨_,rfl,_⟩:=hp;exact (tV n a l I m1 r1 h1).or (tV n b r1 J m2 r2 h2)
   .cases hp
  .cases hp
 |n+1,.un,l,x,m,r,hp=>by
  simp only[eL,aj,aB] at hp;obtain⟨_,rfl,_⟩:=hp;exact dH.zero h
 |n+1,.ex,l,x,m,r,hp=>by
  simp only[eL] at hp;split at hp
  .rename_i I m1 r1 h1;simp only[aj,aB] at hp;obtain⟨_,rfl,_⟩:=hp;exact tV n La l I m1 r1 h1
  .cases hp
 |n+1,.sm,l,x,m,r,hp=>by
  simp only[eL] at hp;split at hp
  .rename_i I m1 r1 h1;simp only[aj,aB] at hp;obtain⟨_,rfl,_⟩:=hp;exact tV n KI l I m1 r1 h1
  .cases hp
 |n+1,.int k,l,x,m,r,hp=>by
  simp only[eL] at hp;split at hp
  .split at hp
   .rename_i I m1 h1;simp only[aj,aB] at hp;obtain⟨_,rfl,_⟩:=hp;exact mO h1
   .cases hp
  .cases hp
 |n+1,.bool,l,x,m,r,hp=>by
  simp only[eL] at hp;split at hp
  .split at hp
   .rename_i I m1 h1;simp only[aj,aB] at hp;obtain⟨_,rfl,_⟩:=hp;exact mO h1
   .cases hp
  .cases hp
 |n+1,.str,l,x,m,r,hp=>by
  simp only[eL] at hp;split at hp
  .split at hp
   .rename_i I m1 h1;simp only[aj,aB] at hp;obtain⟨_,rfl,_⟩:=hp;exact mO h1
   .cases hp
  .cases hp
 |n+1,.sl t,l,x,m,r,hp=>by
  simp only[eL] at hp;split at hp
  .split at hp
   .rename_i I m1 h1;simp only[aj,aB] at hp;obtain⟨_,rfl,_⟩:=hp;exact mO h1
   .cases hp
  .cases hp
theorem UT {h:bd} {T:Ty} {v:TV} {x:T.den} {m:Nat} (I:CD h T v=aa (x,m)):dH h m:=by
 cases v with
 |agg l=>
  simp only[CD] at I;split at I
  .cases I
  .split at I
   .rename_i J m1 h1;simp only[aj,aB] at I;obtain⟨_,rfl⟩:=I;exact tV 40 T l J m1 [] h1
   .cases I
 |f S v=>exact mO (v:=.f S v) I
 |fel T xs j hj off=>exact mO (v:=.fel T xs j hj off) I
 |pel id sz j off=>exact mO (v:=.pel id sz j off) I
 |ptr id off=>exact mO (v:=.ptr id off) I
 |csl id off z=>exact mO (v:=.csl id off z) I
 |row id=>exact mO (v:=.row id) I
 |emp=>exact mO (v:=.emp) I
 |nil=>exact mO (v:=.nil) I
 |mp id=>exact mO (v:=.mp id) I
 |rtl id M=>exact mO (v:=.rtl id M) I
 |tup q=>exact mO (v:=.tup q) I
 |clo g q=>exact mO (v:=.clo g q) I
 |undef=>exact mO (v:=.undef) I
 |np=>exact mO (v:=.np) I
 |anyb=>exact mO (v:=.anyb) I
theorem L3 {h:bd} {T:Ty}:∀ (n:Nat) (l:List TV) (xs:List T.den) (m:Nat),xt h T n l=aa (xs,m)->dH h m
 |0,[],xs,m,hp=>by simp only[xt,aj,aB] at hp;rw[<- hp.2];exact dH.zero h
 |0,_::_,xs,m,hp=>by simp[xt] at hp
 |n+1,l,xs,m,hp=>by
  simp only[xt] at hp;split at hp
  .rename_i J m1 r1 h1;split at hp
   .rename_i I m2 h2;simp only[aj,aB] at hp;obtain⟨_,rfl⟩:=hp;exact (tV 40 T l J m1 r1 h1).or (L3 n r1 I m2 h2)
   .cases hp
  .cases hp
theorem yD {h:bd} {u:TV}:∀ (n:Nat) (T:Ty) (v:T.den) (off sz:Nat) (z:T.den) (m:Nat),gD h u n T v off sz=aa (z,m)->dH h m
 |0,_,_,_,_,_,_,hg=>by simp[gD] at hg
 |n+1,.st t,v,off,sz,z,m,hg=>by
  simp only[gD] at hg;split at hg
  .rename_i q hq;split at hq
   .simp only[aj] at hg;subst hg;exact UT hq
   .cases hq
  .exact yD n t v off sz z m hg
 |n+1,.pr a b,v,off,sz,z,m,hg=>by
  simp only[gD] at hg;split at hg
  .split at hg
   .rename_i I m1 h1;simp only[aj,aB] at hg;obtain⟨_,rfl⟩:=hg;exact yD n a v.1 off sz I m1 h1
   .cases hg
  .split at hg
   .rename_i I m1 h1;simp only[aj,aB] at hg;obtain⟨_,rfl⟩:=hg;exact yD n b v.2 _ sz I m1 h1
   .cases hg
 |n+1,.un,v,off,sz,z,m,hg=>by simp[gD] at hg
 |n+1,.ex,v,off,sz,z,m,hg=>by
  simp only[gD] at hg;split at hg
  .rename_i q hq;split at hq
   .simp only[aj] at hg;subst hg;exact UT hq
   .cases hq
  .split at hg
   .rename_i I m1 h1;simp only[aj,aB] at hg;obtain⟨_,rfl⟩:=hg;exact yD n La _ off sz I m1 h1
   .cases hg
 |n+1,.sm,v,off,sz,z,m,hg=>by
  simp only[gD] at hg;split at hg
  .rename_i q hq;split at hq
   .simp only[aj] at hg;subst hg;exact UT hq
   .cases hq
  .split at hg
   .rename_i I m1 h1;simp only[aj,aB] at hg;obtain⟨_,rfl⟩:=hg;exact yD n KI _ off sz I m1 h1
   .cases hg
 |n+1,.int k,v,off,sz,z,m,hg=>by
  simp only[gD] at hg;split at hg
  .exact mO hg
  .cases hg
 |n+1,.bool,v,off,sz,z,m,hg=>by
  simp only[gD] at hg;split at hg
  .exact mO hg
  .cases hg
 |n+1,.str,v,off,sz,z,m,hg=>by
  simp only[gD] at hg;split at hg
  .exact mO hg
  .cases hg
 |n+1,.sl t,v,off,sz,z,m,hg=>by
  simp only[gD] at hg;split at hg
  .exact mO hg
  .cases hg
theorem sG {h:bd} {m i:Nat} (hm:dH h m) (hb:aL m i=ah):∃ p sz n,(d_ m h).get i=aa (.dead p sz n):=by
 obtain⟨ty,p,T,xs,h1⟩:=hm i hb;exact⟨p,T.size,xs.length,by rw[iI,aJ hb,h1];rfl⟩
section ops
variable {R:Type} {P:Program} {o:Oper} {e:iy} {h:bd} {nx:Nat} {K:KO R} {r:R}
theorem gZ (n:Nat) (b:vH):iP [(n,b)] n=aa b:=by simp[iP]
theorem iS.mk' {s:WD} (hc:c6 P o.op=aa s) {H:nA} (hH:H.get=bw h) {k:Nat} {y0:AV} {rdl wrl N:List Nat} {nw:NW} (ha:eC s (HR e h) H k=aa ⟨y0,rdl,wrl,nw,N⟩) {v:TV} {h':bd} {nx' rd wr:Nat} (wr':List Nat)
 (hsub:∀ i∈wrl,i∈wr') (hsame:∀ n,n∉wr'->bw h' n=bw h n)
 (hdom:∀ i∈wr',∀ b',bw h' i=aa b'->∃ b,(if i∈wrl then iP nw i else bw h i)=aa b)
 (hblk:∀ (Y H2:HF),ui Y H2->(∀ i∈wrl,Y i=iP nw i)->(∀ i∈wr',i∉wrl->Y i=bw h i)->(∀ i∈wr',H2 i=bw h' i)->(∀ i∈wr',∀ b b',Y i=aa b->H2 i=aa b'->jI Y H2 b b')/\∀ y,ch h' v=aa y->lh Y H2 y0 y)
 (hrd:∀ n∈rdl,aL rd (ow n)=ah) (hwr:∀ n∈wr',aL wr (ow n)=ah) (hN:∀ n∈N,nx<=ow n/\ow n<nx') (hrows:cg h h') (hinv':lG h' nx') (hg:nx<=nx'):iS P o ai e h nx v rd wr h' nx':=by
 have ht:=GR hc ha;rw[ub,hH] at ht;refine ⟨?_,hrows,hinv',hg,λhs=>by cases hs⟩;have base:∀ (val:AV),(∀ y,ch h' v=aa y->y=val)->(ch h' v=af->val=y0)->gB P o (fD e h) (bw h) ⟨val,rdl,wr',bw h',N⟩:=by
  intro val hval hnone;refine gB.view ht (λi hi=>.inl (hsub i hi)) λh1 hr1 Z=>?_
  have hd:ui (eE h1 wrl (iP nw)) (eE h1 wr' (bw h')):=by
   intro i b hb;unfold eE at hb ⊢;by_cases hi:i∈wr'
   .rw[aJ hi] at hb;obtain⟨b0,J⟩:=hdom i hi b hb;refine ⟨b0,?_⟩;by_cases U:i∈wrl
    .rw[aJ U] at J ⊢;exact J
    .rw[aC U] at J ⊢;rw[Z i hi];exact J
   .rw[aC hi] at hb;rw[aC (λU=>hi (hsub i U))];exact⟨b,hb⟩
  obtain⟨q1,q2⟩:=hblk _ _ hd (λi hi=>by unfold eE;rw[aJ hi]) (λi hi U=>by unfold eE;rw[aC U];exact Z i hi) (λi hi=>by unfold eE;rw[aJ hi]);refine ⟨⟨hd,λi b b' hb M=>?_⟩,?_⟩
  .by_cases hi:i∈wr'
   .exact q1 i hi b b' hb M
   .unfold eE at hb M;rw[aC (λU=>hi (hsub i U))] at hb;rw[aC hi,hb] at M;cases M;exact jI.refl hd b
  .cases hv:ch h' v with
   |none=>rw[hnone hv];exact lh.refl hd _
   |some y=>rw[<- hval y hv];exact q2 y hv
 have hu:eE (bw h) wr' (bw h')=bw h':=by
  funext n;unfold eE;split
  .rfl
  .rename_i hn;exact (hsame n hn).symm
 cases hv:ch h' v with
 |none=>exact⟨_,base y0 (λy I=>by rw[hv] at I;cases I) (λ_=>rfl),λy I=>(by cases I),hu,hrd,hwr,hN⟩
 |some y=>exact⟨_,base y (λy' I=>by rw[hv] at I;cases I;rfl) (λhn=>by rw[hv] at hn;cases hn),λy' I=>by cases I;rfl,hu,hrd,hwr,hN⟩
theorem BX (hi:sr e h):∀ (parts:List (Nat×Nat×Operand)) (cells cs:List TV) (cells':List AV),HO cells e parts=aa cs->cF h cells=aa cells'->∃ cs',xR cells' (HR e h) parts=aa cs'/\cF h cs=aa cs'/\(j6 cells=ah->j6 cs=ah)
 |[],cells,cs,cells',hf,he=>by simp only[HO,aj] at hf;subst hf;exact⟨cells',rfl,he,id⟩
 |(off,sz,x)::rest,cells,cs,cells',hf,he=>by
  simp only[HO] at hf;split at hf
  .rename_i v hv;split at hf
   .rename_i q hq;split at hf
    .rename_i hc;simp only[au,cN] at hc;obtain⟨y,h1,h2⟩:=bG hi hv;obtain⟨M,h4⟩:=IE hq h2;obtain⟨cs',Z,Y,U⟩:=BX hi rest (splice cells off q) cs (splice cells' off y.cs) hf (rn off he M);refine ⟨cs',?_,Y,λI=>U ?_⟩
     .simp only[xR,h1];rw[aJ,Z];simp only[au,cN];exact⟨⟨by rw[gT M];exact hc.1,by rw[gT he];exact hc.2⟩,qW M h4⟩
     .clear Z Y U hf;have app:∀ a b:List TV,j6 a=ah->j6 b=ah->j6 (a++b)=ah:=by
       intro a b I hb;induction a with
       |nil=>exact hb
       |cons z r J=>simp only[j6,au,fX] at I ⊢;exact⟨I.1,J I.2⟩
      have tk:∀ (a:List TV) n,j6 a=ah->j6 (a.take n)=ah:=by
       intro a;induction a with
       |nil=>intro n h;simp[j6]
       |cons z r J=>
        intro n h;cases n with
        |zero=>rfl
        |succ n=>simp only[j6,au,uG] at h ⊢;exact⟨h.1,J n h.2⟩
      have dr:∀ (a:List TV) n,j6 a=ah->j6 (a.drop n)=ah:=by
       intro a;induction a with
       |nil=>intro n h;simp[j6]
       |cons z r J=>
        intro n h;cases n with
        |zero=>exact h
        |succ n=>simp only[j6,au,uH] at h ⊢;exact J n h.2
      unfold splice;exact app _ _ (app _ _ (tk _ _ I) h4) (dr _ _ I)
    .cases hf
   .cases hf
  .cases hf
variable (hinv:lG h nx) (hi:sr e h)
include hinv hi
theorem abp {con:FuncId->Option cq} {bY:TypeId->Option Ty} {z:List Value} {parts:List (Nat×Nat×Operand)} {st:Bool} (hc:c6 P o.op=aa (.build z parts)) (hk:dK con bY (.op (.build z parts)) e h nx K=aa r):kq P o st e h nx K r:=by
 simp only[dK] at hk;split at hk
 .rename_i l hl;split at hk
  .rename_i cs hf;obtain⟨h1,_,_⟩:=uf h hl;obtain⟨cs',h2,J,_⟩:=BX hi parts l cs _ hf h1;refine kq.q (k:=0) (y0:=KV cs') hinv hc (λH _=>by simp only[eC,h2]) (λy I=>?_) hk;simp only[ch,J,aj] at I;subst I;exact XV cs'
  .cases hk
 .cases hk
theorem afn {con:FuncId->Option cq} {bY:TypeId->Option Ty} {sz:Nat} {ag:Bool} {x:Operand} (hc:c6 P o.op=aa (.load sz ag x)) (hk:dK con bY (.op (.load sz ag x)) e h nx K=aa r):kq P o ai e h nx K r:=by
 obtain⟨H,J⟩:=jw h;simp only[dK] at hk;split at hk
 .rename_i id off hv;obtain⟨y,h1,h2⟩:=bG hi hv;simp only[ch,aj] at h2;subst h2;split at hk
  .rename_i ty l hb;split at hk
   .rename_i v hs;obtain⟨Y,hl⟩:=eY h l (hinv.cells id ty l hb);obtain⟨y,U,M⟩:=TY hl hs;have hg:H.get (nm id)=aa ⟨ty,.mx Y⟩:=by rw[J,bE,hb];simp only[aE,j9,hl]
    exact⟨v,ko id,0,h,nx,hk,iS.pure (k:=0) hinv hc J (y0:=y) (rdl:=[nm id]) (by simp only[eC,h1,CE,hg,M]) (c_ U) (λn hn=>by simp only[aK] at hn;subst hn;rw[dQ];exact bT.2 rfl) (λh=>by cases h)⟩
   .cases hk
  .cases hk
 .rename_i id sz' j off hv;obtain⟨y,h1,h2⟩:=bG hi hv;simp only[ch,aj] at h2;subst h2;split at hk
  .rename_i ty p T xs hb;split at hk
   .rename_i hsz;have hsz:=av hsz;obtain⟨hj,hk⟩:=dN hk;split at hk
    .rename_i v hs;obtain⟨y,U,M⟩:=ac3 (h:=h) hj hs;have hne:¬((p&&xs.length==0)=ah):=by
      have:=Dg hj;simp only[au,cN];omega
     have hg:H.get (nm id)=aa ⟨ty,.fz (xs.flatMap (bN T))⟩:=by rw[J,bE,hb];simp only[aE,j9,aC hne]
     exact⟨v,ko id,0,h,nx,hk,iS.pure (k:=0) hinv hc J (y0:=.f y) (rdl:=[nm id]) (by simp only[eC,h1,CE,hg,hsz,M]) (c_ U) (λn hn=>by simp only[aK] at hn;subst hn;rw[dQ];exact bT.2 rfl) (λh=>by cases h)⟩
    .cases hk
   .cases hk
  .rename_i ty l hb;split at hk
   .cases hk
   .split at hk
    .rename_i hsz;simp only[au] at hsz;have e1:=av hsz.1.1;have e2:=av hsz.1.2;have e3:=av hsz.2;subst e1;subst e2;subst e3;split at hk
     .rename_i T xs hA;obtain⟨hj,hk⟩:=dN hk;obtain⟨Y,hl⟩:=eY h l (hinv.cells id ty l hb);have hg:H.get (nm id)=aa ⟨ty,.mx Y⟩:=by rw[J,bE,hb];simp only[aE,j9,hl]
      have hlt:j.toNat<l.length:=by
       simp only[fB,au,cR,fE,bP] at hj;omega
      obtain⟨z,Z,I⟩:=lB hl j.toNat _ (UU hA j.toNat hlt);have I:ch h (.f T (aH xs j))=aa z:=I;exact⟨_,ko id,0,h,nx,hk,iS.pure (k:=0) hinv hc J (y0:=z) (rdl:=[nm id]) (by simp only[eC,h1,CE,hg,BC.sub?,BC.get,Nat.mul_one,c8,Z]) (c_ I) (λn hn=>by simp only[aK] at hn;subst hn;rw[dQ];exact bT.2 rfl) (λh=>by cases h)⟩
     .cases hk
    .cases hk
  .cases hk
 .rename_i T xs j hj off hv;obtain⟨y,h1,h2⟩:=bG hi hv;simp only[ch,aj] at h2;subst h2;split at hk
  .rename_i v hs;obtain⟨y,U,M⟩:=ac3 (h:=h) hj hs;exact kq.q (k:=0) (y0:=.f y) hinv hc (λH _=>by simp only[eC,h1,CE,M]) (c_ U) hk
  .cases hk
 .cases hk
theorem abq {con:FuncId->Option cq} {bY:TypeId->Option Ty} {ty:TypeId} {z:List Value} (hc:c6 P o.op=aa (.alloc ty z)) (hk:dK con bY (.op (.alloc ty z)) e h nx K=aa r):kq P o ai e h nx K r:=by
 have _:=hi;obtain⟨H,hH⟩:=jw h;simp only[dK] at hk;split at hk
 .rename_i l hl;obtain⟨_,hz,_⟩:=uf h hl;have hnone:h.get nx=af:=by
   cases hb:h.get nx with
   |none=>rfl
   |some b=>have:=hinv.low nx b hb;omega
  have hr:cg h (h.set nx (aa (.cells ty l))):=cg.set λr hr=>by rw[bO,hnone] at hr;cases hr
  obtain⟨h1,_,_⟩:=uf (h.set nx (aa (.cells ty l))) hl;have U:bw (h.set nx (aa (.cells ty l))) (nm nx)=aa ⟨ty,.mx (z.map raw)⟩:=by rw[bE,PT.get_set,aJ rfl];simp only[aE,j9,h1]
  refine ⟨_,_,_,_,_,hk,iS.mk' hc hH (k:=nm nx) (by simp only[eC];rfl) [nm nx] (λi hi=>hi) (λn hn=>?_) (λi hi b' _=>⟨⟨ty,.fz (z.map .raw)⟩,?_⟩) (λH1 H2 d M _ J=>⟨λi hi b b' hb I=>?_,λy Y=>?_⟩) (by simp) ?_ ?_ hr (hinv.set hr (by omega) (by omega) λty' l' he=>?_) (by omega)⟩
  .refine kn hinv hr λi e=>?_
   subst e;rw[PT.get_set,aC (λe=>hn (by rw[e];simp))]
  .rw[aJ hi];simp only[aK] at hi;subst hi;simp[iP]
  .simp only[aK] at hi;subst hi;rw[M _ (by simp)] at hb;rw[J _ (by simp),U] at I;rw[gZ] at hb;simp only[aj] at hb I;subst hb;subst I;refine jI.cells rfl rfl ?_ λx Z=>?_
   .simp only[BC.toMx,yB];exact gX.refl d _
   .simp only[BC.toMx] at Z;obtain⟨q,hq,rfl⟩:=c9.1 Z;exact hz q hq
  .simp only[ch,aj] at Y;subst Y;exact lh.refl d _
  .intro n hn;simp only[aK] at hn;subst hn;rw[dQ];exact bT.2 rfl
  .intro n hn;simp only[aK] at hn;subst hn;rw[dQ];omega
  .cases he;exact km _ _ _ h1
 .cases hk
theorem ais {con:FuncId->Option cq} {bY:TypeId->Option Ty} {ty:TypeId} {x:Operand} (hc:c6 P o.op=aa (.box ty x)) (hk:dK con bY (.op (.box ty x)) e h nx K=aa r):kq P o ai e h nx K r:=by
 obtain⟨H,hH⟩:=jw h;simp only[dK] at hk;split at hk
 .rename_i v hv;split at hk
  .rename_i l hl;obtain⟨y,h1,h2⟩:=bG hi hv;obtain⟨h3,h4⟩:=IE hl h2;have hcell:=qW h3 h4;have hnone:h.get nx=af:=by
    cases hb:h.get nx with
    |none=>rfl
    |some b=>have:=hinv.low nx b hb;omega
   have hr:cg h (h.set nx (aa (.cells ty l))):=cg.set λr hr=>by rw[bO,hnone] at hr;cases hr
   have Z:=gM hr l _ h3;have U:bw (h.set nx (aa (.cells ty l))) (nm nx)=aa ⟨ty,.mx y.cs⟩:=by rw[bE,PT.get_set,aJ rfl];simp only[aE,j9,Z]
   refine ⟨_,_,_,_,_,hk,iS.mk' hc hH (k:=nm nx) (by simp only[eC,h1,hcell,bB];rfl) [nm nx] (λi hi=>hi) (λn hn=>?_) (λi hi b' _=>⟨⟨ty,oN y.cs⟩,?_⟩) (λH1 H2 d M _ J=>⟨λi hi b b' hb I=>?_,λy Y=>?_⟩) (by simp) ?_ ?_ hr (hinv.set hr (by omega) (by omega) λty' l' he=>?_) (by omega)⟩
   .refine kn hinv hr λi e=>?_
    subst e;rw[PT.get_set,aC (λe=>hn (by rw[e];simp))]
   .rw[aJ hi];simp only[aK] at hi;subst hi;simp[iP]
   .simp only[aK] at hi;subst hi;rw[M _ (by simp)] at hb;rw[J _ (by simp),U] at I;rw[gZ] at hb;simp only[aj] at hb I;subst hb;subst I;obtain⟨q1,q2⟩:=ne y.cs;refine jI.cells q2 rfl ?_ λx hx=>?_
    .rw[q1];exact gX.refl d _
    .exact k_ hcell x hx
   .simp only[ch,aj] at Y;subst Y;exact lh.refl d _
   .intro n hn;simp only[aK] at hn;subst hn;rw[dQ];exact bT.2 rfl
   .intro n hn;simp only[aK] at hn;subst hn;rw[dQ];omega
   .cases he;exact km _ _ _ Z
  .cases hk
 .cases hk
theorem abn {con:FuncId->Option cq} {bY:TypeId->Option Ty} {ty:TypeId} {sz bytes:Nat} {z:List Value} {l c:Operand} (hcm:Cu (bY ty)=af) (hc:c6 P o.op=aa (.mksl ty sz bytes z l c)) (hk:dK con bY (.op (.mksl ty sz bytes z l c)) e h nx K=aa r):kq P o ai e h nx K r:=by
 obtain⟨H,hH⟩:=jw h;simp only[dK,hcm] at hk;split at hk
 .rename_i T k a k' b hT hv U;split at hk
  .rename_i hsz;simp only[au] at hsz;have hs:=av hsz.1;have hz:=I0 hsz.2;subst hs;subst hz;obtain⟨hck,hk⟩:=dN hk;obtain⟨y,h1,h2⟩:=bG hi hv;obtain⟨y2,h3,h4⟩:=bG hi U;simp only[ch,aj] at h2 h4;subst h2;subst h4;have hnone:h.get nx=af:=by
    cases hb:h.get nx with
    |none=>rfl
    |some b=>have:=hinv.low nx b hb;omega
   generalize Z:h_.rows ty ai T (aF (aS a) T.zero)=B at hk;have hr:cg h (h.set nx (aa B)):=cg.set λr hr=>by rw[bO,hnone] at hr;cases hr
   have Y:bw (h.set nx (aa B)) (nm nx)=aa ⟨ty,.fz ((aF (aS a) T.zero).flatMap (bN T))⟩:=by rw[bE,PT.get_set,aJ rfl,<-Z];simp[j9]
   refine ⟨_,_,_,_,_,hk,iS.mk' hc hH (k:=nm nx) (by simp only[eC,h1,h3,gw,hck,bB];rfl) [nm nx] (λi hi=>hi) (λn hn=>?_) (λi hi b' _=>⟨⟨ty,.fz (repl (rP T) (aS a))⟩,?_⟩) (λH1 H2 d M _ J=>⟨λi hi b b' hb I=>?_,λy hy=>?_⟩) (by simp) ?_ ?_ hr (hinv.set hr (by omega) (by omega) λty' l' he=>?_) (by omega)⟩
   .refine kn hinv hr λi e=>?_
    subst e;rw[PT.get_set,aC (λe=>hn (by rw[e];simp))]
   .rw[aJ hi];simp only[aK] at hi;subst hi;simp[iP]
   .simp only[aK] at hi;subst hi;rw[M _ (by simp)] at hb;rw[J _ (by simp),Y] at I;rw[gZ] at hb;simp only[aj] at hb I;subst hb;subst I;refine jI.cells rfl rfl (FZ d T _) λx hx=>?_
    simp only[BC.toMx] at hx;obtain⟨q,hq,rfl⟩:=c9.1 hx;exact qD T _ q hq
   .simp only[ch,bO,PT.get_set,bB,<-Z,aE,mg,eZ,mS,co,dR,aj,ep] at hy;subst hy;exact lh.refl d _
   .intro n hn;simp only[aK] at hn;subst hn;rw[dQ];exact bT.2 rfl
   .intro n hn;simp only[aK] at hn;subst hn;rw[dQ];omega
   .rw[<- Z] at he;cases he
  .cases hk
 .cases hk
end ops
theorem yN {α:Type} {f:α->List FV} {n:Nat} (hf:∀ x,(f x).length=n):∀ (xs:List α) (j:Nat),(xs.take j).flatMap f=(xs.flatMap f).take (j*n)
 |[],j=>by simp
 |x::r,0=>by simp
 |x::r,j+1=>by
  rw[uG,fm,fm,yN hf r j,show (j+1)*n=(f x).length+j*n from by rw[hf,iB];omega,List.take_length_add_append]
theorem HN {α:Type} {f:α->List FV} {n:Nat} (hf:∀ x,(f x).length=n):∀ (xs:List α) (j:Nat),(xs.drop j).flatMap f=(xs.flatMap f).drop (j*n)
 |[],j=>by simp
 |x::r,0=>by simp
 |x::r,j+1=>by
  rw[uH,fm,HN hf r j,show (j+1)*n=(f x).length+j*n from by rw[hf,iB];omega,List.drop_length_add_append]
theorem NY {z:List Value}:∀ (n:Nat) (x:FV),x∈repl z n->∃ v∈z,x= .raw v
 |0,x,h=>by simp[repl] at h
 |n+1,x,h=>by
  rw[repl,bR] at h;rcases h with h|h
  .obtain⟨v,hv,rfl⟩:=c9.1 h;exact⟨v,hv,rfl⟩
  .exact NY n x h
theorem Fa:∀ l:List FV,(∀ x∈l,x.isCell=ah)->gu (l.map .f)=ah
 |[],_=>rfl
 |z::r,h=>by simp only[fV,gu,au];exact⟨h z (by simp),Fa r λx I=>h x (by simp[I])⟩
section ops
variable {R:Type} {P:Program} {o:Oper} {e:iy} {h:bd} {nx:Nat} {K:KO R} {r:R}
theorem lG.fresh (hinv:lG h nx):h.get nx=af:=by
 cases hb:h.get nx with
 |none=>rfl
 |some b=>have:=hinv.low nx b hb;omega
theorem dH.lt (hinv:lG h nx) {m:Nat} (hm:dH h m) {i:Nat} (hi:aL m i=ah):i<nx:=by
 obtain⟨_,_,_,_,hb⟩:=hm i hi;exact hinv.low i _ hb
theorem iS.new {s:WD} (hinv:lG h nx) (hc:c6 P o.op=aa s) {H:nA} (hH:H.get=bw h) {y0:AV} {rdl:List Nat} {b0:vH} (ha:eC s (HR e h) H (nm nx)=aa ⟨y0,rdl,[nm nx],[(nm nx,b0)],[nm nx]⟩) {B:h_} {v:TV} {m rd:Nat} (hm:dH h m)
 (hB:∀ ty l,B= .cells ty l->kr ((d_ m h).set nx (aa B)) l=ah)
 (hblk:∀ J I,ui J I->CR h J I m->∀ b',j9 ((d_ m h).set nx (aa B)) B=aa b'->jI J I b0 b')
 (hval:∀ J I y,ui J I->CR h J I m->ch ((d_ m h).set nx (aa B)) v=aa y->lh J I y0 y)
 (hrd:∀ n∈rdl,aL rd (ow n)=ah):iS P o ai e h nx v rd (m|||ko nx) ((d_ m h).set nx (aa B)) (nx+1):=by
 have hk:=hinv.kill m;have hr0:=cg.kill m h;have Y:cg (d_ m h) ((d_ m h).set nx (aa B)):=cg.set λr hr=>by rw[bO,hk.fresh] at hr;cases hr
 have hr:=hr0.trans Y;have hgiv:∀ i,aL m i=ah->bw ((d_ m h).set nx (aa B)) (nm i)=af:=λi hi=>by
  have hlt:=hm.lt hinv hi;obtain⟨p,sz,n,hd⟩:=sG hm hi;rw[bE,PT.get_set,aC (by omega),hd];rfl
 refine iS.mk' hc hH ha (nm nx::Ee m) (λi hi=>by simp only[aK] at hi;subst hi;simp) (λn hn=>?_) (λi hi b' Z=>?_) (λJ I d hw1 hw0 U=>?_) hrd ?_ ?_ hr (hk.set Y (by omega) (by omega) hB) (by omega)
 .refine kn hinv hr λi e=>?_
  subst e;rw[PT.get_set,aC (λe=>hn (by rw[e];simp)),iI,aC];intro hb;exact hn (cO _ (kU.2 hb))
 .rcases bh.1 hi with rfl|hi
  .exact⟨b0,by rw[aJ (by simp),gZ]⟩
  .obtain⟨j,rfl,hj⟩:=ng.1 hi;rw[hgiv j hj] at Z;cases Z
 .have g:CR h J I m:=λi hi=>by
   have hlt:=hm.lt hinv hi;have hmem:nm i∈nm nx::Ee m:=cO _ (kU.2 hi);exact⟨hw0 _ hmem (λhc=>by simp only[aK] at hc;have:=ku hc;omega),by rw[U _ hmem,hgiv i hi]⟩
  refine ⟨λi hi b b' hb M=>?_,λy hy=>hval J I y d g hy⟩;rcases bh.1 hi with rfl|hi'
  .rw[hw1 _ (by simp),gZ] at hb;rw[U _ hi,bE,PT.get_set,aJ rfl] at M;simp only[aj] at hb;subst hb;exact hblk J I d g b' M
  .obtain⟨j,rfl,hj⟩:=ng.1 hi';rw[U _ hi,hgiv j hj] at M;cases M
 .intro n hn;rw[bl];rcases bh.1 hn with rfl|hn
  .rw[dQ,bT.2 rfl];simp
  .obtain⟨j,rfl,hj⟩:=ng.1 hn;rw[dQ,hj];rfl
 .intro n hn;simp only[aK] at hn;subst hn;rw[dQ];omega
theorem iS.wrt {s:WD} (hinv:lG h nx) (hc:c6 P o.op=aa s) {H:nA} (hH:H.get=bw h) {id:Nat} {y0:AV} {rdl:List Nat} {b0:vH} {k:Nat} (ha:eC s (HR e h) H k=aa ⟨y0,rdl,[nm id],[(nm id,b0)],[]⟩) {B0 B:h_} (Z:h.get id=aa B0) {v:TV} {m rd:Nat} (hm:dH h m) (hmid:aL m id=ai)
 (hrow:mg B=mg B0) (hB:∀ ty l,B= .cells ty l->kr ((d_ m h).set id (aa B)) l=ah)
 (hblk:∀ J I,ui J I->CR h J I m->∀ b',j9 ((d_ m h).set id (aa B)) B=aa b'->jI J I b0 b')
 (hval:∀ J I y,ui J I->CR h J I m->ch ((d_ m h).set id (aa B)) v=aa y->lh J I y0 y)
 (hrd:∀ n∈rdl,aL rd (ow n)=ah):iS P o ai e h nx v rd (m|||ko id) ((d_ m h).set id (aa B)) nx:=by
 have hk:=hinv.kill m;have hr0:=cg.kill m h;have hkid:(d_ m h).get id=aa B0:=by rw[iI,hmid];simpa using Z
 have Y:cg (d_ m h) ((d_ m h).set id (aa B)):=cg.set λr hr=>by rw[bO,hkid] at hr;rw[hrow];exact hr
 have hr:=hr0.trans Y;have hgiv:∀ i,aL m i=ah->bw ((d_ m h).set id (aa B)) (nm i)=af:=λi hi=>by
  have hne:i≠id:=λe=>by rw[e,hmid] at hi;cases hi
  obtain⟨p,sz,n,hd⟩:=sG hm hi;rw[bE,PT.get_set,aC hne,hd];rfl
 refine iS.mk' hc hH ha (nm id::Ee m) (λi hi=>by simp only[aK] at hi;subst hi;simp) (λn hn=>?_) (λi hi b' hb'=>?_) (λJ I d hw1 hw0 U=>?_) hrd ?_ (by simp) hr (hk.set Y (hinv.low id B0 Z) (by omega) hB) (by omega)
 .refine kn hinv hr λi e=>?_
  subst e;rw[PT.get_set,aC (λe=>hn (by rw[e];simp)),iI,aC];intro hb;exact hn (cO _ (kU.2 hb))
 .rcases bh.1 hi with rfl|hi
  .exact⟨b0,by rw[aJ (by simp),gZ]⟩
  .obtain⟨j,rfl,hj⟩:=ng.1 hi;rw[hgiv j hj] at hb';cases hb'
 .have g:CR h J I m:=λi hi=>by
   have hne:i≠id:=λe=>by rw[e,hmid] at hi;cases hi
   have hmem:nm i∈nm id::Ee m:=cO _ (kU.2 hi);exact⟨hw0 _ hmem (λhc=>by simp only[aK] at hc;exact hne (ku hc)),by rw[U _ hmem,hgiv i hi]⟩
  refine ⟨λi hi b b' hb M=>?_,λy hy=>hval J I y d g hy⟩;rcases bh.1 hi with rfl|hi'
  .rw[hw1 _ (by simp),gZ] at hb;rw[U _ hi,bE,PT.get_set,aJ rfl] at M;simp only[aj] at hb;subst hb;exact hblk J I d g b' M
  .obtain⟨j,rfl,hj⟩:=ng.1 hi';rw[U _ hi,hgiv j hj] at M;cases M
 .intro n hn;rw[bl];rcases bh.1 hn with rfl|hn
  .rw[dQ,bT.2 rfl];simp
  .obtain⟨j,rfl,hj⟩:=ng.1 hn;rw[dQ,hj];rfl
theorem KL (h:bd) {z:List Value} {I:List TV} (J:IB z=aa I):∀ len,cF h (aF len I).flatten=aa ((repl z len).map .f)
 |0=>rfl
 |n+1=>by
  rw[List.replicate_succ,List.flatten_cons,repl,cI];refine mM ?_ (KL h J n);rw[(uf h J).1];simp only[yB];rfl
theorem T6 {H:nA} (Z:H.get=bw h) {T:Ty} {v:TV} {U:List T.den} {m:Nat} {y:AV} (I:CD h (.sl T) v=aa (U,m)) (J:ch h v=aa y):∃ rd,y.row? H T.size=aa ((U.flatMap (bN T)).map .f,U.length,rd)/\∀ n∈rd,∃ i,n=nm i/\aL m i=ah:=by
 have fl:=λM:List T.den=>fd (bx T) M
 have tk:∀ M:List T.den,(M.flatMap (bN T)).take (M.length*T.size)=M.flatMap (bN T):=λM=>by rw[<- fl,cL]
 cases v with
 |f S x=>
  simp only[CD,ip] at I;split at I
  .rename_i z Y;simp only[aj,aB] at I;obtain⟨rfl,_⟩:=I;obtain⟨e,rfl⟩:=iR Y;subst e;simp only[ch,aj] at J;subst J;refine ⟨[],?_,by simp⟩;simp only[gw,AV.row?];rw[aJ (bz (by rw[fl x];exact bQ _)),tk]
  .cases I
 |emp=>
  simp only[CD,ip,aj,aB] at I;obtain⟨rfl,_⟩:=I;simp only[ch,aj] at J;subst J;exact⟨[],rfl,by simp⟩
 |nil=>
  simp only[CD,ip,aj,aB] at I;obtain⟨rfl,_⟩:=I;simp only[ch,aj] at J;subst J;exact⟨[],rfl,by simp⟩
 |row id=>
  simp only[CD,ip] at I;split at I
  .rename_i ty p S xs hb;split at I
   .rename_i z Y;simp only[aj,aB] at I;obtain⟨rfl,rfl⟩:=I;obtain⟨e,rfl⟩:=iR Y;cases e;simp only[ch,dZ,hb,aj] at J;subst J;unfold eZ;split
    .rename_i hp;simp only[au,cN] at hp;have:xs=[]:=gz.1 hp.2;subst this;exact⟨[],rfl,by simp⟩
    .rename_i hp;have hg:H.get (nm id)=aa ⟨ty,.fz (xs.flatMap (bN T))⟩:=by rw[Z,bE,hb];simp only[aE,j9,aC hp]
     refine ⟨[nm id],?_,λn hn=>?_⟩
     .simp only[AV.row?,hg,cM,bB,BC.isCells,BC.len,oV];rw[aJ (bz (by rw[fl xs];exact bQ _))];simp only[BC.toMx,<-kg,tk]
     .simp only[aK] at hn;exact⟨id,hn,bT.2 rfl⟩
   .cases I
  .cases I
 |agg l=>simp[CD,Ty.one] at I
 |fel T xs j hj off=>simp[CD,ip] at I
 |pel id sz j off=>simp[CD,ip] at I
 |ptr id off=>simp[CD,ip] at I
 |csl id off z=>simp[CD,ip] at I
 |mp id=>simp[CD,ip] at I
 |rtl id jj=>simp[CD,ip] at I
 |tup q=>simp[CD,ip] at I
 |clo f q=>simp[CD,ip] at I
 |undef=>simp[CD,ip] at I
 |np=>simp[CD,ip] at I
 |anyb=>simp[CD,ip] at I
theorem RC {v:TV} {y:AV} (I:ch h v=aa y) (hc:v.isC=ah):gu y.cs=ah:=by
 rw[L5 (Mg I hc)];simp only[gu,Bool.and_true];exact Mg I hc
theorem VV (T:Ty) (x:T.den):gu ((bN T x).map .f)=ah:=by
 have:∀ l:List FV,(∀ x∈l,x.isCell=ah)->gu (l.map .f)=ah:=by
  intro l hl;induction l with
  |nil=>rfl
  |cons z r I=>simp only[fV,gu,au];exact⟨hl z (by simp),I λx J=>hl x (by simp[J])⟩
 exact this _ (nv T x)
theorem gH {T:Ty} {v:TV} {x:T.den} {m:Nat} {y:AV} (I:ip h T v=aa (x,m)) (J:ch h v=aa y):gu y.cs=ah:=by
 cases v with
 |f S v=>simp only[ch,aj] at J;subst J;rw[yP];exact VV S v
 |emp=>exact RC J rfl
 |nil=>exact RC J rfl
 |row id=>exact RC J rfl
 |fel T xs j hj off=>simp[ip] at I
 |pel id sz j off=>simp[ip] at I
 |ptr id off=>simp[ip] at I
 |csl id off z=>simp[ip] at I
 |mp id=>simp[ip] at I
 |rtl id M=>simp[ip] at I
 |agg q=>simp[ip] at I
 |tup q=>simp[ip] at I
 |clo f q=>simp[ip] at I
 |undef=>simp[ip] at I
 |np=>simp[ip] at I
 |anyb=>simp[ip] at I
theorem Gh {T:Ty} (M:T.one=ah) {v:TV} {x:T.den} {m:Nat} (I:ip h T v=aa (x,m)):v.isC=ah:=by
 cases v with
 |f S v=>
  simp only[ip] at I;split at I
  .rename_i z J;obtain⟨e,_⟩:=iR J;subst e;exact M
  .cases I
 |emp=>rfl
 |nil=>rfl
 |row id=>rfl
 |fel T xs j hj off=>simp[ip] at I
 |pel id sz j off=>simp[ip] at I
 |ptr id off=>simp[ip] at I
 |csl id off z=>simp[ip] at I
 |mp id=>simp[ip] at I
 |rtl id U=>simp[ip] at I
 |agg q=>simp[ip] at I
 |tup q=>simp[ip] at I
 |clo f q=>simp[ip] at I
 |undef=>simp[ip] at I
 |np=>simp[ip] at I
 |anyb=>simp[ip] at I
theorem Qq {a b:List TV} (I:j6 a=ah) (hb:j6 b=ah):j6 (a++b)=ah:=by
 induction a with
 |nil=>exact hb
 |cons z r J=>simp only[j6,au,fX] at I ⊢;exact⟨I.1,J I.2⟩
theorem sx:∀ (n:Nat) (T:Ty) (l:List TV) (x:T.den) (m:Nat) (r:List TV),eL h n T l=aa (x,m,r)->∃ a,l=a++r/\j6 a=ah
 |0,_,_,_,_,_,hp=>by simp[eL] at hp
 |n+1,.st t,l,x,m,r,hp=>sx n t l x m r hp
 |n+1,.pr a b,l,x,m,r,hp=>by
  simp only[eL] at hp;split at hp
  .rename_i I m1 r1 h1;split at hp
   .rename_i J m2 r2 h2;simp only[aj,aB] at hp;obtain⟨_,_,rfl⟩:=hp;obtain⟨a1,rfl,U⟩:=sx n a l I m1 r1 h1;obtain⟨a2,rfl,M⟩:=sx n b r1 J m2 r2 h2;exact⟨a1++a2,by simp,Qq U M⟩
   .cases hp
  .cases hp
 |n+1,.un,l,x,m,r,hp=>by
  simp only[eL,aj,aB] at hp;obtain⟨_,_,rfl⟩:=hp;exact⟨[],rfl,rfl⟩
 |n+1,.ex,l,x,m,r,hp=>by
  simp only[eL] at hp;split at hp
  .rename_i I m1 r1 h1;simp only[aj,aB] at hp;obtain⟨_,_,rfl⟩:=hp;exact sx n La l I m1 r1 h1
  .cases hp
 |n+1,.sm,l,x,m,r,hp=>by
  simp only[eL] at hp;split at hp
  .rename_i I m1 r1 h1;simp only[aj,aB] at hp;obtain⟨_,_,rfl⟩:=hp;exact sx n KI l I m1 r1 h1
  .cases hp
 |n+1,.int k,l,x,m,r,hp=>by
  simp only[eL] at hp;split at hp
  .rename_i c q;split at hp
   .rename_i I m1 h1;simp only[aj,aB] at hp;obtain⟨_,_,rfl⟩:=hp;exact⟨[c],rfl,by simp[j6,Gh rfl h1]⟩
   .cases hp
  .cases hp
 |n+1,.bool,l,x,m,r,hp=>by
  simp only[eL] at hp;split at hp
  .rename_i c q;split at hp
   .rename_i I m1 h1;simp only[aj,aB] at hp;obtain⟨_,_,rfl⟩:=hp;exact⟨[c],rfl,by simp[j6,Gh rfl h1]⟩
   .cases hp
  .cases hp
 |n+1,.str,l,x,m,r,hp=>by
  simp only[eL] at hp;split at hp
  .rename_i c q;split at hp
   .rename_i I m1 h1;simp only[aj,aB] at hp;obtain⟨_,_,rfl⟩:=hp;exact⟨[c],rfl,by simp[j6,Gh rfl h1]⟩
   .cases hp
  .cases hp
 |n+1,.sl t,l,x,m,r,hp=>by
  simp only[eL] at hp;split at hp
  .rename_i c q;split at hp
   .rename_i I m1 h1;simp only[aj,aB] at hp;obtain⟨_,_,rfl⟩:=hp;exact⟨[c],rfl,by simp[j6,Gh rfl h1]⟩
   .cases hp
  .cases hp
theorem I4 {T:Ty} {v:TV} {x:T.den} {m:Nat} {y:AV} (J:CD h T v=aa (x,m)) (I:ch h v=aa y):gu y.cs=ah:=by
 cases v with
 |agg l=>
  simp only[CD] at J;split at J
  .cases J
  .split at J
   .rename_i M m1 h1;obtain⟨a,e,Y⟩:=sx 40 T l M m1 [] h1;rw[lm] at e;subst e;simp only[ch] at I;split at I
    .rename_i Z hl;simp only[aj] at I;subst I;exact qW hl Y
    .cases I
   .cases J
 |f S v=>exact gH (v:=.f S v) J I
 |fel T xs j hj off=>exact gH (v:=.fel T xs j hj off) J I
 |pel id sz j off=>exact gH (v:=.pel id sz j off) J I
 |ptr id off=>exact gH (v:=.ptr id off) J I
 |csl id off z=>exact gH (v:=.csl id off z) J I
 |row id=>exact gH (v:=.row id) J I
 |emp=>exact gH (v:=.emp) J I
 |nil=>exact gH (v:=.nil) J I
 |mp id=>exact gH (v:=.mp id) J I
 |rtl id U=>exact gH (v:=.rtl id U) J I
 |tup q=>exact gH (v:=.tup q) J I
 |clo g q=>exact gH (v:=.clo g q) J I
 |undef=>exact gH (v:=.undef) J I
 |np=>exact gH (v:=.np) J I
 |anyb=>exact gH (v:=.anyb) J I
theorem qh {u:TV} {y:AV} (I:ch h u=aa y):∀ (n:Nat) (T:Ty) (v:T.den) (off sz:Nat) (z:T.den) (m:Nat),gD h u n T v off sz=aa (z,m)->gu y.cs=ah
 |0,_,_,_,_,_,_,hg=>by simp[gD] at hg
 |n+1,.st t,v,off,sz,z,m,hg=>by
  simp only[gD] at hg;split at hg
  .rename_i q hq;split at hq
   .exact I4 hq I
   .cases hq
  .exact qh I n t v off sz z m hg
 |n+1,.pr a b,v,off,sz,z,m,hg=>by
  simp only[gD] at hg;split at hg
  .split at hg
   .rename_i J m1 h1;exact qh I n a v.1 off sz J m1 h1
   .cases hg
  .split at hg
   .rename_i J m1 h1;exact qh I n b v.2 _ sz J m1 h1
   .cases hg
 |n+1,.un,v,off,sz,z,m,hg=>by simp[gD] at hg
 |n+1,.ex,v,off,sz,z,m,hg=>by
  simp only[gD] at hg;split at hg
  .rename_i q hq;split at hq
   .exact I4 hq I
   .cases hq
  .split at hg
   .rename_i J m1 h1;exact qh I n La _ off sz J m1 h1
   .cases hg
 |n+1,.sm,v,off,sz,z,m,hg=>by
  simp only[gD] at hg;split at hg
  .rename_i q hq;split at hq
   .exact I4 hq I
   .cases hq
  .split at hg
   .rename_i J m1 h1;exact qh I n KI _ off sz J m1 h1
   .cases hg
 |n+1,.int k,v,off,sz,z,m,hg=>by
  simp only[gD] at hg;split at hg
  .exact gH hg I
  .cases hg
 |n+1,.bool,v,off,sz,z,m,hg=>by
  simp only[gD] at hg;split at hg
  .exact gH hg I
  .cases hg
 |n+1,.str,v,off,sz,z,m,hg=>by
  simp only[gD] at hg;split at hg
  .exact gH hg I
  .cases hg
 |n+1,.sl t,v,off,sz,z,m,hg=>by
  simp only[gD] at hg;split at hg
  .exact gH hg I
  .cases hg
theorem I8 (l:List FV):wG (l.map .f)=aa l:=by
 induction l with
 |nil=>rfl
 |cons x r I=>simp only[fV,wG,I]
theorem Bz (l:List FV):oN (l.map .f)= .fz l:=by unfold oN;rw[I8]
theorem Fb:∀ {a b:List TV},j6 a=ah->j6 b=ah->j6 (a++b)=ah
 |[],_,_,hb=>hb
 |x::r,b,I,hb=>by
  simp only[j6,au] at I;simp only[fX,j6,au];exact⟨I.1,Fb I.2 hb⟩
theorem DV {I:List TV} (J:j6 I=ah):∀ n,j6 (aF n I).flatten=ah
 |0=>rfl
 |n+1=>by rw[List.replicate_succ,List.flatten_cons];exact Fb J (DV J n)
theorem aah {H:nA} (J:H.get=bw h) {id ty:Nat} {l:List TV} {I:List AV} (hb:h.get id=aa (.cells ty l)) (hl:cF h l=aa I) {n sz:Nat} (hn:l.length=n*sz):AV.row? H sz (.row (nm id) sz n)=aa (I,n,[nm id]):=by
 have hg:H.get (nm id)=aa ⟨ty,.mx I⟩:=by rw[J,bE,hb];simp only[aE,j9,hl]
 have hln:=gT hl;simp only[AV.row?,cM,bB,hg,BC.isCells,oV,BC.len,BC.toMx];rw[aJ (bz (by omega)),fI (by omega)]
variable (hinv:lG h nx) (hi:sr e h)
include hinv hi
theorem aft {con:FuncId->Option cq} {bY:TypeId->Option Ty} {ty:TypeId} {sz len:Nat} {z:List Value} {parts:List (Nat×Nat×Operand)} (hcm:Cu (bY ty)=af) (hc:c6 P o.op=aa (.bsl ty sz len z parts)) (hk:dK con bY (.op (.bsl ty sz len z parts)) e h nx K=aa r):kq P o ai e h nx K r:=by
 obtain⟨H,hH⟩:=jw h;simp only[dK,hcm] at hk;split at hk
 .rename_i T zc hT Z;split at hk
  .rename_i hs;have hs:=av hs;subst hs;split at hk
   .rename_i cs hf;split at hk
    .rename_i xs m hp;obtain⟨cs',h1,h2,_⟩:=BX hi parts _ cs _ hf (KL h Z len);have hm:=L3 len cs xs m hp;refine ⟨_,_,_,_,_,hk,iS.new hinv hc hH (y0:=if len=0 then .emp else .row (nm nx) T.size len) (rdl:=[]) (b0:=⟨ty,oN cs'⟩) (by simp only[eC,h1]) hm (λ_ _ he=>by cases he) (λH1 H2 d g b' I=>?_) (λH1 H2 y d g J=>?_) (by simp)⟩
     .simp only[j9] at I;split at I
      .cases I
      rw[aj] at I;subst I;obtain⟨Y,U⟩:=ne cs';refine jI.cells U rfl ?_ λx M=>?_
      .rw[Y];exact (Bv d len cs xs m cs' hp h2 g).1
      .simp only[BC.toMx] at M;obtain⟨q,hq,rfl⟩:=c9.1 M;exact qD T _ q hq
     .simp only[ch,bO,PT.get_set,bB,aE,mg,eZ,aj] at J;rw[(Bv d len cs xs m cs' hp h2 g).2] at J;split at J
      .rename_i hq;simp only[au,cN] at hq;subst J;rw[aJ hq.2];exact lh.refl d _
      .rename_i hq;subst J;rw[aC (λh0=>hq (by subst h0;rfl))];exact lh.refl d _
    .cases hk
   .cases hk
  .cases hk
 .cases hk
theorem afu {con:FuncId->Option cq} {bY:TypeId->Option Ty} {ty:TypeId} {sz bytes:Nat} {s x:Operand} (hcm:Cu (bY ty)=af) (hc:c6 P o.op=aa (.app ty sz bytes s x)) (hk:dK con bY (.op (.app ty sz bytes s x)) e h nx K=aa r):kq P o ai e h nx K r:=by
 obtain⟨H,hH⟩:=jw h;have hfr:=hinv.fresh;simp only[dK,hcm] at hk;split at hk
 .rename_i T b y hT hv hv2;split at hk
  .rename_i hs;have hs:=av hs;subst hs;split at hk
   .rename_i J m hys;obtain⟨yb,h1,h2⟩:=bG hi hv;obtain⟨yy,h3,h4⟩:=bG hi hv2;obtain⟨rdl,h5,h6⟩:=T6 hH hys h4;have onEmp:∀ (rd':Nat),(∀ n∈rdl,aL rd' (ow n)=ah)->Hd yb=ah->Le yb .emp->a_ (ak J) bytes=ah->iS P o ai e h nx (.row nx) rd' (ko nx) (h.set nx (aa (.rows ty ah T J))) (nx+1):=by
     intro rd' hrd' he hle hroom;have hr1:cg h (h.set nx (aa (.rows ty ah T J))):=cg.set λr hr=>by rw[bO,hfr] at hr;cases hr
     have hyb:∀ id sz' n,yb≠ .row id sz' n:=by rintro id sz' n rfl;cases he
     have I:eC (.app ty T.size bytes s x) (HR e h) H (nm nx)=if ak J==0 then aa ⟨yb,rdl,[],[],[]⟩ else aa ⟨.row (nm nx) T.size (ak J),rdl,[nm nx],[(nm nx,⟨ty,oN ((J.flatMap (bN T)).map .f)⟩)],[nm nx]⟩:=by
      simp only[eC,h1,h3,h5];cases yb with
      |row id sz' n=>exact cX rfl (hyb id sz' n)
      |_=>simp only[he,hroom,kh,bB]
     by_cases hl:ak J=0
     .rw[hl] at I;simp only[cM,bB] at I;have hnil:J=[]:=gz.1 hl;subst hnil;refine iS.mk' hc hH I [] (by simp) (λn _=>?_) (by simp) (λH1 H2 d _ _ _=>⟨by simp,λy M=>?_⟩) hrd' (by simp) (by simp) hr1 (hinv.set hr1 (by omega) (by omega) λ_ _ he=>by cases he) (by omega)
      .by_cases hn:n=nm nx
       .subst hn;rw[bE,bE,PT.get_set,aJ rfl,hfr];rfl
       .refine kn hinv hr1 λi e=>?_
        subst e;rw[PT.get_set,aC (λe=>hn (by rw[e]))]
      .simp only[ch,bO,PT.get_set,bB,aE,mg,eZ,jE,cM,kh,aj] at M;subst M;exact hle.toH d
     .rw[aC (by simpa using hl)] at I;rw[Bz] at I;have key:=iS.new (m:=0) (rd:=rd') hinv hc hH I (B:=.rows ty ah T J) (v:=.row nx) (dH.zero h) (λ_ _ he=>by cases he) (λH1 H2 d g b' Z=>by
       simp only[j9] at Z;rw[aC (by simpa using hl)] at Z;simp only[aj] at Z;subst Z;exact jI.refl d _) (λH1 H2 y d g M=>by
       simp only[ch,bO,PT.get_set,bB,aE,mg,eZ] at M;rw[aC (by simpa using hl)] at M;simp only[aj] at M;subst M;exact lh.refl d _) hrd'
      rw[xf] at key;exact key
    split at hk
    .rename_i id;split at hk
     .rename_i ty' p S xs0 hb;split at hk
      .rename_i xs hxs;obtain⟨ee,rfl⟩:=iR hxs;cases ee;split at hk
       .rename_i hcond;simp only[au,cN,dX] at hcond;obtain⟨rfl,hmid⟩:=hcond;obtain⟨hroom,hk⟩:=dN hk;simp only[ch,dZ,hb,aj] at h2;have hidlt:=hinv.low id _ hb;have hne:nx≠id:=by omega
        have hrd:∀ n∈rdl,aL (ko id|||m) (ow n)=ah:=λn hn=>by
         obtain⟨i,rfl,hm⟩:=h6 n hn;rw[dQ,bl,hm];simp
        generalize hh':(h.set id (aa (.dead p T.size (ak xs0)))).set nx (aa (.rows ty' p T (xs0++J)))=h' at hk;have hrA:cg h (h.set id (aa (.dead p T.size (ak xs0)))):=cg.set λr hr=>by rw[bO,hb] at hr;exact hr
        have hg2:∀ i,h'.get i=if i=nx then aa (.rows ty' p T (xs0++J)) else if i=id then aa (.dead p T.size (ak xs0)) else h.get i:=λi=>by rw[<- hh',PT.get_set,PT.get_set]
        have hr:cg h h':=by
         rw[<- hh'];refine hrA.trans (cg.set λr hr=>?_);rw[bO,PT.get_set,aC hne,hfr] at hr;cases hr
        have hinv':lG h' (nx+1):=by
         refine ⟨λi ty l hil=>?_,λi c hic=>?_⟩
         .rw[hg2] at hil;split at hil
          .cases hil
          .split at hil
           .cases hil
           .exact iF hr l (hinv.cells i ty l hil)
         .rw[hg2] at hic;split at hic
          .omega
          .split at hic
           .omega
           .have:=hinv.low i c hic;omega
        have hsame:∀ n,n≠nm nx->n≠nm id->bw h' n=bw h n:=λn h1 h2=>kn hinv hr λi e=>by
         subst e;rw[hg2,aC (λe=>h1 (by rw[e])),aC (λe=>h2 (by rw[e]))]
        have hdead:bw h' (nm id)=af:=by rw[bE,hg2,aC (by omega),aJ rfl];rfl
        have hnew:bw h' (nm nx)=if p&&(xs0++J).length==0 then af else aa ⟨ty',.fz ((xs0++J).flatMap (bN T))⟩:=by rw[bE,hg2,aJ rfl];rfl
        have hval:ch h' (.row nx)=aa (eZ p nx T.size (xs0++J).length):=by simp only[ch,bO,hg2,bB,aE,mg]
        have hwm:∀ n,n=nm nx\/n=nm id->aL (ko id|||ko nx) (ow n)=ah:=λn hn=>by
         rcases hn with rfl|rfl<;>rw[dQ,bl,bT.2 rfl]<;>simp
        refine ⟨_,_,_,_,_,hk,?_⟩;by_cases hp:(p&&xs0.length==0)=ah
        ·
         have hyb:yb= .emp:=by rw[<- h2];unfold eZ;rw[aJ hp]
         subst hyb;simp only[au,cN] at hp;obtain⟨rfl,hl0⟩:=hp;have hnil:xs0=[]:=gz.1 hl0;subst hnil;have hroom':a_ (ak J) bytes=ah:=by simpa using hroom
         have I:eC (.app ty' T.size bytes s x) (HR e h) H (nm nx)=if ak J==0 then aa ⟨.emp,rdl,[],[],[]⟩ else aa ⟨.row (nm nx) T.size (ak J),rdl,[nm nx],[(nm nx,⟨ty',oN ((J.flatMap (bN T)).map .f)⟩)],[nm nx]⟩:=by
          simp only[eC,h1,h3,h5,Hd,hroom',kh,bB]
         have hdead0:bw h (nm id)=af:=by rw[bE,hb];rfl
         by_cases hl:ak J=0
         .rw[hl] at I;simp only[cM,bB] at I;have hnil:J=[]:=gz.1 hl;subst hnil;refine iS.mk' hc hH I [] (by simp) (λn _=>?_) (by simp) (λH1 H2 d _ _ _=>⟨by simp,λy M=>?_⟩) hrd (by simp) (by simp) hr hinv' (by omega)
          .by_cases hn:n=nm nx
           .subst hn;rw[hnew,bE,hfr];rfl
           .by_cases hn2:n=nm id
            .subst hn2;rw[hdead,hdead0]
            .exact hsame n hn hn2
          .rw[hval] at M;simp only[eZ,lm,jE,cM,kh,bB,aj] at M;subst M;exact lh.refl d _
         .rw[aC (by simpa using hl),Bz] at I;refine iS.mk' hc hH I [nm nx] (λi hi=>hi) (λn hn=>?_) (λi hi b' _=>⟨_,by rw[aJ hi];simp only[aK] at hi;subst hi;exact gZ _ _⟩) (λH1 H2 d hw1 _ hw2=>⟨λi hi b b' Y U=>?_,λy M=>?_⟩) hrd (λn hn=>hwm n (.inl (by simpa using hn))) (λn hn=>by simp only[aK] at hn;subst hn;rw[dQ];omega) hr hinv' (by omega)
          .have hn1:n≠nm nx:=by simpa using hn
           by_cases hn2:n=nm id
           .subst hn2;rw[hdead,hdead0]
           .exact hsame n hn1 hn2
          .simp only[aK] at hi;subst hi;rw[hw1 _ (by simp),gZ] at Y;rw[hw2 _ (by simp),hnew,aC (by simpa using hl)] at U;simp only[aj,ll] at Y U;subst Y;subst U;exact jI.refl d _
          .rw[hval] at M;simp only[eZ,ll] at M;rw[aC (by simpa using hl)] at M;simp only[aj] at M;subst M;exact lh.refl d _
        .have hyb:yb= .row (nm id) T.size xs0.length:=by rw[<- h2];unfold eZ;rw[aC hp]
         subst hyb;have hg:H.get (nm id)=aa ⟨ty',.fz (xs0.flatMap (bN T))⟩:=by rw[hH,bE,hb];simp only[aE,j9,aC hp]
         have fl:=fd (bx T) xs0;have tk:(xs0.flatMap (bN T)).take (xs0.length*T.size)=xs0.flatMap (bN T):=by rw[<- fl,cL]
         have hmem:Vk (nm id) rdl=ai:=by
          cases hx:Vk (nm id) rdl with
          |false=>rfl
          |true=>
           obtain⟨i,e,hm⟩:=h6 _ (adi.1 hx);rw[<- ku e,hmid] at hm;cases hm
         have I:eC (.app ty' T.size bytes s x) (HR e h) H (nm nx)=aa ⟨.row (nm nx) T.size (xs0.length+J.length),nm id::rdl,[nm nx,nm id],[(nm nx,⟨ty',.fz ((xs0++J).flatMap (bN T))⟩)],[nm nx]⟩:=by
          have hcnd:(T.size==T.size&& !(Vk (nm id) rdl)&&(BC.fz (xs0.flatMap (bN T))).isCells&&eo (xs0.length*T.size) (BC.fz (xs0.flatMap (bN T))).len&&ty'==ty'&&a_ (xs0.length+J.length) bytes)=ah:=by
           have:eo (xs0.length*T.size) (BC.fz (xs0.flatMap (bN T))).len=ah:=bz (by simp only[BC.len];omega);rw[this,hmem,hroom];simp[BC.isCells]
          simp only[eC,h1,h3,h5,hg,hcnd,bB,BC.toMx,<-kg,tk,<-cI,Bz,List.flatMap_append]
         have hne2:¬((p&&(xs0++J).length==0)=ah):=by
          simp only[au,cN,bn] at hp ⊢;intro hh;exact hp ⟨hh.1,by omega⟩
         refine iS.mk' hc hH I [nm nx,nm id] (λi hi=>hi) (λn hn=>?_) (λi hi b' Z=>?_) (λH1 H2 d hw1 _ hw2=>⟨λi hi b b' Y U=>?_,λy M=>?_⟩) (λn hn=>?_) (λn hn=>hwm n (by simpa using hn)) (λn hn=>by simp only[aK] at hn;subst hn;rw[dQ];omega) hr hinv' (by omega)
         .simp only[bh,cj,fM,not_or] at hn;exact hsame n hn.1 hn.2
         .simp only[bh,cj,fM] at hi;rcases hi with rfl|rfl
          .exact⟨_,by rw[aJ (by simp)];exact gZ _ _⟩
          .rw[hdead] at Z;cases Z
         .simp only[bh,cj,fM] at hi;rcases hi with rfl|rfl
          .rw[hw1 _ (by simp),gZ] at Y;rw[hw2 _ (by simp),hnew,aC hne2] at U;simp only[aj] at Y U;subst Y;subst U;exact jI.refl d _
          .rw[hw2 _ (by simp),hdead] at U;cases U
         .rw[hval] at M;simp only[eZ] at M;rw[aC hne2] at M;simp only[bn,aj] at M;subst M;exact lh.refl d _
         .rcases bh.1 hn with rfl|hn
          .rw[dQ,bl,bT.2 rfl];rfl
          .exact hrd n hn
       .cases hk
      .cases hk
     .cases hk
    .obtain⟨hroom,hk⟩:=dN hk;simp only[ch,aj] at h2;subst h2;exact⟨_,_,_,_,_,hk,onEmp m (λn hn=>by obtain⟨i,rfl,hm⟩:=h6 n hn;rw[dQ];exact hm) rfl (Le.refl _) hroom⟩
    .obtain⟨hroom,hk⟩:=dN hk;simp only[ch,aj] at h2;subst h2;exact⟨_,_,_,_,_,hk,onEmp m (λn hn=>by obtain⟨i,rfl,hm⟩:=h6 n hn;rw[dQ];exact hm) rfl Le.nilEmp hroom⟩
    .cases hk
   .cases hk
  .cases hk
 .cases hk
theorem YB {T:Ty} (xs I:List T.den):(Q4 xs I).flatMap (bN T)=AI.splice (xs.flatMap (bN T)) 0 ((I.flatMap (bN T)).take (iC I.length xs.length*T.size)):=by
 have _:=hinv;have _:=hi;have fl:=λJ:List T.den=>fd (bx T) J
 have tk:∀ (J:List T.den) n,(J.flatMap (bN T)).take (n*T.size)=(J.take n).flatMap (bN T):=by
  intro J;induction J with
  |nil=>intro n;simp
  |cons z r M=>
   intro n;cases n with
   |zero=>simp
   |succ n=>rw[fm,uG,fm,iB,List.take_append,bx,fI (by rw[bx];omega),show n*T.size+T.size-T.size=n*T.size from by omega,M n]
 have U:∀ (J:List T.den) n,(J.flatMap (bN T)).drop (n*T.size)=(J.drop n).flatMap (bN T):=by
  intro J;induction J with
  |nil=>intro n;simp
  |cons z r M=>
   intro n;cases n with
   |zero=>simp
   |succ n=>rw[fm,uH,iB,tS,bx,qL (by rw[bx];omega),show n*T.size+T.size-T.size=n*T.size from by omega,M n,ll]
 unfold Q4 AI.splice;rw[tk,List.flatMap_append,fl,bC];have e1:I.take (iC I.length xs.length)=I.take xs.length:=by
  rcases Nat.le_total I.length xs.length with h|h
  .rw[show iC I.length xs.length=I.length from rA h,cL,fI h]
  .rw[show iC I.length xs.length=xs.length from Nat.min_eq_right h]
 rw[e1];have e2:min (iC I.length xs.length) I.length=iC I.length xs.length:=rA (Nat.min_le_left _ _);rw[e2];simp only[List.take_zero,ll,bJ];rw[U];congr 1;rcases Nat.le_total I.length xs.length with h|h
 .rw[show iC I.length xs.length=I.length from rA h]
 .rw[show iC I.length xs.length=xs.length from Nat.min_eq_right h,List.drop_length,qL h]
theorem afr {con:FuncId->Option cq} {bY:TypeId->Option Ty} {sz:Nat} {d x:Operand} (hc:c6 P o.op=aa (.copy sz d x)) (hk:dK con bY (.op (.copy sz d x)) e h nx K=aa r):kq P o ai e h nx K r:=by
 obtain⟨H,Z⟩:=jw h;simp only[dK] at hk;split at hk
 .rename_i id y hv U;split at hk
  .rename_i ty p T xs hb;split at hk
   .rename_i hs;have hs:=av hs;subst hs;split at hk
    .rename_i I m hys;split at hk
     .rename_i hcond;simp only[au,dX] at hcond;obtain⟨hmid,rfl⟩:=hcond;obtain⟨yb,h1,h2⟩:=bG hi hv;obtain⟨yy,h3,h4⟩:=bG hi U;obtain⟨rdl,h5,h6⟩:=T6 Z hys h4;simp only[ch,dZ,hb,eZ,mS,co,dR,aj] at h2;subst h2;have fl:=fd (bx T) xs;have fl2:=fd (bx T) I;have hg:H.get (nm id)=aa ⟨ty,.fz (xs.flatMap (bN T))⟩:=by rw[Z,bE,hb];simp[j9]
      have hmem:Vk (nm id) rdl=ai:=by
       cases J:Vk (nm id) rdl with
       |false=>rfl
       |true=>
        obtain⟨i,e,hm⟩:=h6 _ (adi.1 J);rw[<- ku e,hmid] at hm;cases hm
      have hle:iC I.length xs.length*T.size<=xs.length*T.size:=cA _ (Nat.min_le_right _ _);have Y:eC (.copy T.size d x) (HR e h) H (nm nx)=aa ⟨raw (.int .i64 (iC I.length xs.length)),nm id::rdl,[nm id],[(nm id,⟨ty,.fz ((Q4 xs I).flatMap (bN T))⟩)],[]⟩:=by
       have hcnd:(T.size==T.size&& !(Vk (nm id) rdl)&&eo (xs.length*T.size) (BC.fz (xs.flatMap (bN T))).len)=ah:=by
        have:eo (xs.length*T.size) (BC.fz (xs.flatMap (bN T))).len=ah:=bz (by simp only[BC.len];omega);rw[this,hmem];simp
       have hput:(BC.fz (xs.flatMap (bN T))).put 0 (((I.flatMap (bN T)).map .f).take (iC I.length xs.length*T.size))=aa (.fz ((Q4 xs I).flatMap (bN T))):=by
        rw[<- kg];unfold BC.put;rw[aJ]
        .simp only[I8];rw[YB hinv hi]
        .simp only[au];refine ⟨⟨rfl,bz ?_⟩,?_⟩
         .simp only[BC.len,b8,bC];omega
         .have:∀ l:List FV,(∀ x∈l,x.isCell=ah)->gu (l.map .f)=ah:=by
           intro l hl;induction l with
           |nil=>rfl
           |cons z r ih=>simp only[fV,gu,au];exact⟨hl z (by simp),ih λx J=>hl x (by simp[J])⟩
          exact this _ λx J=>qD T I x (iT J)
       simp only[eC,h1,h3,hg,h5,hcnd,bB,hput]
      have hrow:mg (.rows ty ai T (Q4 xs I))=mg (.rows ty ai T xs):=by
       have:(Q4 xs I).length=xs.length:=by unfold Q4;rw[bn,bC,md];omega
       simp only[mg,this]
      have key:=iS.wrt (m:=0) (v:=.f (.int .i64) (aN (iC (ak I) (ak xs)))) (rd:=ko id|||m) hinv hc Z Y (B:=.rows ty ai T (Q4 xs I)) hb (dH.zero h) (by simp) hrow (λ_ _ he=>by cases he) (λH1 H2 d g b' M=>by
       simp only[j9,mS,co,dR,aj] at M;subst M;exact jI.refl d _) (λH1 H2 y d g hy=>by
       simp only[ch,aj] at hy;subst hy;exact lh.refl d _) (λn hn=>by
       rcases bh.1 hn with rfl|hn
       .rw[dQ,bl,bT.2 rfl];rfl
       .obtain⟨i,rfl,hm⟩:=h6 n hn;rw[dQ,bl,hm];simp)
      rw[xf] at key;exact⟨_,_,_,_,_,hk,key⟩
     .cases hk
    .cases hk
   .cases hk
  .cases hk
 .cases hk
theorem abm {con:FuncId->Option cq} {bY:TypeId->Option Ty} {sz:Nat} {x v:Operand} (hc:c6 P o.op=aa (.store sz x v)) (hk:dK con bY (.op (.store sz x v)) e h nx K=aa r):kq P o ai e h nx K r:=by
 obtain⟨H,hH⟩:=jw h;simp only[dK] at hk;split at hk
 .rename_i id off y hv hv2;obtain⟨yb,h1,h2⟩:=bG hi hv;obtain⟨J,h3,h4⟩:=bG hi hv2;simp only[ch,aj] at h2;subst h2;split at hk
  .rename_i ty l hb;split at hk
   .rename_i cs hcs;split at hk
    .rename_i hcond;simp only[au,cN] at hcond;obtain⟨h5,h6⟩:=IE hcs h4;obtain⟨M,hl⟩:=eY h l (hinv.cells id ty l hb);have hg:H.get (nm id)=aa ⟨ty,.mx M⟩:=by rw[hH,bE,hb];simp only[aE,j9,hl]
     have hcell:=qW h5 h6;have hlen:J.cs.length=sz:=by rw[gT h5];exact hcond.1
     have hput:(BC.mx M).put off J.cs=aa (.mx (splice M off J.cs)):=by
      unfold BC.put;rw[aJ]
      .rfl
      .simp only[au];exact⟨⟨rfl,by simp only[BC.len];rw[hlen,gT hl];exact hcond.2⟩,hcell⟩
     have Z:eC (.store sz x v) (HR e h) H (nm nx)=aa ⟨raw undef,[nm id],[nm id],[(nm id,⟨ty,.mx (splice M off J.cs)⟩)],[]⟩:=by
      simp only[eC,h1,h3,I3,hg,hlen,cM,bB,hput]
     have hspl:∀ h',cg h h'->cF h' (splice l off cs)=aa (splice M off J.cs):=λh' hr=>rn off (gM hr l M hl) (gM hr cs _ h5)
     have U:cg h (h.set id (aa (.cells ty (splice l off cs)))):=cg.set λr hr=>by rw[bO,hb] at hr;cases hr
     have key:=iS.wrt (m:=0) (v:=.undef) (rd:=ko id) hinv hc hH Z (B:=.cells ty (splice l off cs)) hb (dH.zero h) (by simp) rfl (λty' l2 he=>by cases he;exact km _ _ _ (hspl _ U)) (λH1 H2 d g b' I=>by
      have:=hspl _ U;simp only[d_,qK,bB,j9,this,aj] at I;subst I;exact jI.refl d _) (λH1 H2 y d g hy=>by
      simp only[ch,aj] at hy;subst hy;exact lh.refl d _) (λn hn=>by simp only[aK] at hn;subst hn;rw[dQ];exact bT.2 rfl)
     rw[xf] at key;exact⟨_,_,_,_,_,hk,key⟩
    .cases hk
   .cases hk
  .cases hk
 .rename_i id sz' j off y hv hv2;obtain⟨yb,h1,h2⟩:=bG hi hv;obtain⟨J,h3,h4⟩:=bG hi hv2;simp only[ch,aj] at h2;subst h2;split at hk
  .rename_i ty p T xs hb;split at hk
   .rename_i hsz;have hsz:=av hsz;subst hsz;obtain⟨hj,hk⟩:=dN hk;split at hk
    .rename_i z m hset;split at hk
     .cases hk
     .rename_i hmid;have hmid:aL m id=ai:=by simpa using hmid
      have hm:=yD 40 T _ off sz z m hset;obtain⟨j0,j1,j2⟩:=Dg hj;have hne:¬((p&&xs.length==0)=ah):=by simp only[au,cN];omega
      have hne2:¬((p&&(cJ xs j z).length==0)=ah):=by unfold cJ;rw[rB];exact hne
      have hg:H.get (nm id)=aa ⟨ty,.fz (xs.flatMap (bN T))⟩:=by rw[hH,bE,hb];simp only[aE,j9,aC hne]
      have fl:=fd (bx T) xs;have hx:xs[j.toNat]? =aa (aH xs j):=by
       unfold aH;rw[ax,ay j2];rfl
      have hle:(j.toNat+1)*T.size<=xs.length*T.size:=cA _ j2;rw[iB] at hle;have hso:∀ H1 H2,ui H1 H2->CR h H1 H2 m->U2 H1 H2 J T (aH xs j) z off sz:=λH1 H2 d g=>uM d h4 40 T _ off sz z m hset g
      have hshape:J.cs.length=sz/\off+sz<=T.size/\gu J.cs=ah:=by
       have d0:ui (bw h) (bw (d_ m h)):=λi b hb=>by
        obtain⟨i',c,rfl,g1,g2⟩:=je hb;rw[iI] at g1;by_cases ht:aL m i'=ah
        .obtain⟨pp,ss,nn,g3⟩:=sG hm ht;rw[iI] at g3;rw[g3] at g1;cases g1;cases g2
        .rw[aC ht] at g1;exact⟨b,by rw[bE,g1];simp only[aE];rw[<- HU (cg.kill m h) (λty l e=>hinv.cells i' ty l (by rw[g1,e]))];exact g2⟩
       obtain⟨fs,q1,q2,q3,q4,q5⟩:=hso _ _ d0 (λi hi=>⟨rfl,by
        obtain⟨pp,ss,nn,g3⟩:=sG hm hi;rw[bE,g3];rfl⟩)
       refine ⟨by rw[<- q2,<-b8 (f:=AV.f),q1.length],q3,?_⟩;exact qh h4 40 T _ off sz z m hset
      obtain⟨hlen,hoff,hcell⟩:=hshape;obtain⟨c',hput,Y,hc2⟩:∃ c',(BC.fz (xs.flatMap (bN T))).put (j.toNat*T.size+off) J.cs=aa c'/\c'.toMx=splice ((xs.flatMap (bN T)).map .f) (j.toNat*T.size+off) J.cs/\c'.isCells=ah:=by
       unfold BC.put;rw[aJ]
       .split
        .rename_i l ys hl hys;simp only[BC.fz.injEq] at hl;subst hl;refine ⟨_,rfl,?_,rfl⟩;rw[o9 hys];simp only[BC.toMx];unfold splice;simp[kg,List.map_drop]
        .exact⟨_,rfl,rfl,rfl⟩
       .simp only[au];exact⟨⟨rfl,bz (by simp only[BC.len];omega)⟩,hcell⟩
      have Z:eC (.store sz x v) (HR e h) H (nm nx)=aa ⟨raw undef,[nm id],[nm id],[(nm id,⟨ty,c'⟩)],[]⟩:=by
       simp only[eC,h1,h3,I3,hg,hlen,cM,bB,hput]
      have hrow:mg (.rows ty p T (cJ xs j z))=mg (.rows ty p T xs):=by
       unfold cJ;simp only[mg,rB]
      refine ⟨_,_,_,_,_,hk,iS.wrt hinv hc hH Z (B:=.rows ty p T (cJ xs j z)) hb hm hmid hrow (λ_ _ he=>by cases he) (λH1 H2 d g b' I=>?_) (λH1 H2 y d g hy=>?_) (λn hn=>?_)⟩
      .simp only[j9,aC hne2,aj] at I;subst I;obtain⟨fs,q1,q2,q3,q4,q5⟩:=hso H1 H2 d g;have hfl:(cJ xs j z).flatMap (bN T)=AI.splice (xs.flatMap (bN T)) (j.toNat*T.size+off) fs:=O4 (bx T) xs j.toNat _ z hx off fs (by omega) q4;refine jI.cells hc2 rfl ?_ λx hx=>?_
       .rw[Y];simp only[BC.toMx];rw[hfl];have:(AI.splice (xs.flatMap (bN T)) (j.toNat*T.size+off) fs).map AV.f=AI.splice ((xs.flatMap (bN T)).map .f) (j.toNat*T.size+off) (fs.map .f):=by unfold AI.splice;simp[kg,List.map_drop]
        rw[this];exact (gX.refl d _).splice _ q1
       .simp only[BC.toMx] at hx;obtain⟨q,hq,rfl⟩:=c9.1 hx;exact qD T _ q hq
      .simp only[ch,aj] at hy;subst hy;exact lh.refl d _
      .simp only[aK] at hn;subst hn;rw[dQ,bl,bT.2 rfl];simp
    .cases hk
   .cases hk
  .rename_i ty l hb;split at hk
   .rename_i hsz;simp only[au] at hsz;obtain⟨s1,s2,s3⟩:=hsz;have s1:=av s1;have s2:=av s2;have s3:=av s3;subst s1;subst s2;subst s3;obtain⟨hj,hk⟩:=dN hk;obtain⟨j0,j1,j2⟩:=Dg hj;split at hk
    .rename_i cs hcs;split at hk
     .rename_i Y;have Y:=av Y;obtain⟨h5,h6⟩:=IE hcs h4;obtain⟨M,hl⟩:=eY h l (hinv.cells id ty l hb);have hg:H.get (nm id)=aa ⟨ty,.mx M⟩:=by rw[hH,bE,hb];simp only[aE,j9,hl]
      have hcell:=qW h5 h6;have hlen:J.cs.length=1:=by rw[gT h5];exact Y
      have e0:j.toNat*1+0=j.toNat:=by omega
      rw[e0] at h1;have hput:(BC.mx M).put j.toNat J.cs=aa (.mx (splice M j.toNat J.cs)):=by
       unfold BC.put;rw[aJ]
       .rfl
       .simp only[au];exact⟨⟨rfl,bz (by simp only[BC.len];rw[hlen,gT hl];omega)⟩,hcell⟩
      have Z:eC (.store 1 x v) (HR e h) H (nm nx)=aa ⟨raw undef,[nm id],[nm id],[(nm id,⟨ty,.mx (splice M j.toNat J.cs)⟩)],[]⟩:=by
       simp only[eC,h1,h3,I3,hg,hlen,cM,bB,hput]
      have hspl:∀ h',cg h h'->cF h' (splice l j.toNat cs)=aa (splice M j.toNat J.cs):=λh' hr=>rn j.toNat (gM hr l M hl) (gM hr cs _ h5)
      have U:cg h (h.set id (aa (.cells ty (splice l j.toNat cs)))):=cg.set λr hr=>by rw[bO,hb] at hr;cases hr
      have key:=iS.wrt (m:=0) (v:=.undef) (rd:=ko id) hinv hc hH Z (B:=.cells ty (splice l j.toNat cs)) hb (dH.zero h) (by simp) rfl (λty' l2 he=>by cases he;exact km _ _ _ (hspl _ U)) (λH1 H2 d g b' I=>by
       have:=hspl _ U;simp only[d_,qK,bB,j9,this,aj] at I;subst I;exact jI.refl d _) (λH1 H2 y d g hy=>by
       simp only[ch,aj] at hy;subst hy;exact lh.refl d _) (λn hn=>by simp only[aK] at hn;subst hn;rw[dQ];exact bT.2 rfl)
      rw[xf] at key;exact⟨_,_,_,_,_,hk,key⟩
     .cases hk
    .cases hk
   .cases hk
  .cases hk
 .cases hk
theorem afm {con:FuncId->Option cq} {bY:TypeId->Option Ty} {ty:TypeId} {sz bytes:Nat} {z:List Value} {l c:Operand} (hc:c6 P o.op=aa (.mksl ty sz bytes z l c)) (hk:dK con bY (.op (.mksl ty sz bytes z l c)) e h nx K=aa r):kq P o ai e h nx K r:=by
 cases hcm:Cu (bY ty) with
 |none=>exact abn hinv hi hcm hc hk
 |some n=>
  obtain⟨H,hH⟩:=jw h;simp only[dK,hcm] at hk;split at hk
  .rename_i zc k a k' b J hv M;obtain⟨hck,hk⟩:=dN hk;rw[au] at hck;obtain⟨hcond,hn⟩:=hck;have hn:=bm hn;obtain⟨y,h1,h2⟩:=bG hi hv;obtain⟨y2,h3,Y⟩:=bG hi M;simp only[ch,aj] at h2 Y;subst h2;subst Y;have han:aS a=n:=by rw[hn];rfl
   obtain⟨_,_,hzc⟩:=uf h J;refine ⟨_,_,_,_,_,hk,iS.new hinv hc hH (y0:=.row (nm nx) sz n) (rdl:=[]) (b0:=⟨ty,.fz (repl z n)⟩) (by simp only[eC,h1,h3,gw,hcond,bB,han]) (dH.zero h) (λty' l' he=>?_) (λH1 H2 d g b' I=>?_) (λH1 H2 y d g U=>?_) (by simp)⟩
   .cases he;exact km _ _ _ (KL _ J n)
   .simp only[j9,KL _ J n,aj] at I;subst I;refine jI.cells rfl rfl (gX.refl d _) λx Z=>?_
    exact k_ (qW (KL h J n) (DV hzc n)) x Z
   .simp only[ch,aj] at U;subst U;exact lh.refl d _
  .cases hk
theorem air {con:FuncId->Option cq} {bY:TypeId->Option Ty} {ty:TypeId} {sz len:Nat} {z:List Value} {parts:List (Nat×Nat×Operand)} (hc:c6 P o.op=aa (.bsl ty sz len z parts)) (hk:dK con bY (.op (.bsl ty sz len z parts)) e h nx K=aa r):kq P o ai e h nx K r:=by
 cases hcm:Cu (bY ty) with
 |none=>exact aft hinv hi hcm hc hk
 |some n=>
  obtain⟨H,hH⟩:=jw h;simp only[dK,hcm] at hk;split at hk
  .rename_i zc M;split at hk
   .rename_i cs hf;split at hk
    .cases hk
    .rename_i hl;have hl:len≠0:=λe=>hl (by rw[e];rfl)
     obtain⟨cs',h1,h2,h3⟩:=BX hi parts _ cs _ hf (KL h M len);obtain⟨_,_,hzc⟩:=uf h M;have hcs:=h3 (DV hzc len);have hr:cg h ((d_ 0 h).set nx (aa (.cells ty cs))):=(cg.kill 0 h).trans (cg.set λr hr=>by rw[bO,(hinv.kill 0).fresh] at hr;cases hr);have J:=gM hr _ _ h2;refine ⟨_,_,_,_,_,hk,iS.new hinv hc hH (y0:=.row (nm nx) sz len) (rdl:=[]) (b0:=⟨ty,oN cs'⟩) (by simp only[eC,h1,aC hl]) (dH.zero h) (λty' l' he=>?_) (λH1 H2 d g b' I=>?_) (λH1 H2 y d g U=>?_) (by simp)⟩
     .cases he;exact km _ _ _ J
     .simp only[j9,J,aj] at I;subst I;obtain⟨Z,Y⟩:=ne cs';refine jI.cells Y rfl ?_ λx hx=>?_
      .rw[Z];exact gX.refl d _
      .exact k_ (qW h2 hcs) x hx
     .simp only[ch,aj] at U;subst U;exact lh.refl d _
   .cases hk
  .cases hk
theorem aiu {con:FuncId->Option cq} {bY:TypeId->Option Ty} {ty:TypeId} {sz bytes:Nat} {s x:Operand} (hc:c6 P o.op=aa (.app ty sz bytes s x)) (hk:dK con bY (.op (.app ty sz bytes s x)) e h nx K=aa r):kq P o ai e h nx K r:=by
 cases hcm:Cu (bY ty) with
 |none=>exact afu hinv hi hcm hc hk
 |some n0=>
  obtain⟨H,hH⟩:=jw h;have hfr:=hinv.fresh;simp only[dK,hcm] at hk;split at hk
  .rename_i b y hv hv2;obtain⟨yb,h1,h2⟩:=bG hi hv;obtain⟨yy,h3,h4⟩:=bG hi hv2;unfold aci at hk;split at hk
   .rename_i id2 sz2 m;simp only[ch,aj] at h4;subst h4;split at hk
    .rename_i ty2 l2 I;split at hk
     .rename_i hq;simp only[au,dX] at hq;obtain⟨⟨q1,q2⟩,q3⟩:=hq;have q1:=av q1;have q2:=av q2;have q3:m≠0:=λe=>by rw[e] at q3;cases q3
      subst q1;obtain⟨J,Z⟩:=eY h l2 (hinv.cells id2 ty2 l2 I);have hrow:=aah hH I Z q2;split at hk
      .rename_i id sz1 n;simp only[ch,aj] at h2;subst h2;split at hk
       .rename_i ty1 l1 U;split at hk
        .rename_i hq;simp only[au,dX] at hq;obtain⟨⟨⟨p1,p2⟩,p3⟩,p4⟩:=hq;have p1:=av p1;have p2:=eq_of_beq p2;have p3:=av p3;have p4:id≠id2:=λe=>by rw[e,qK] at p4;cases p4
         subst p1;subst p2;obtain⟨hroom,hk⟩:=dN hk;obtain⟨M,hl1⟩:=eY h l1 (hinv.cells id _ l1 U);have hln:=gT hl1;have hg:H.get (nm id)=aa ⟨ty1,.mx M⟩:=by rw[hH,bE,U];simp only[aE,j9,hl1]
         have hidlt:id<nx:=hinv.low id _ U;generalize hB:h_.cells ty1 (l1++l2)=B at hk;have hd1:cg h (h.set id (aa (.dead ah 0 0))):=cg.set λr hr=>by rw[bO,U] at hr;cases hr
         have hd2:cg (h.set id (aa (.dead ah 0 0))) ((h.set id (aa (.dead ah 0 0))).set nx (aa B)):=cg.set λr hr=>by
          rw[bO,PT.get_set,aC (by omega),hfr] at hr;cases hr
         have hr:=hd1.trans hd2;have hsp:cF ((h.set id (aa (.dead ah 0 0))).set nx (aa B)) (l1++l2)=aa (M++J):=gM hr _ _ (mM hl1 Z);have Y:bw ((h.set id (aa (.dead ah 0 0))).set nx (aa B)) (nm nx)=aa ⟨ty1,.mx (M++J)⟩:=by rw[bE,PT.get_set,aJ rfl,<-hB] at *;simp only[aE,j9,hsp]
         have hbd:bw ((h.set id (aa (.dead ah 0 0))).set nx (aa B)) (nm id)=af:=by rw[bE,PT.get_set,aC (by omega),PT.get_set,aJ rfl];rfl
         have hinv1:lG (h.set id (aa (.dead ah 0 0))) nx:=hinv.set hd1 hidlt (bQ _) (λ_ _ he=>by cases he);have ha:eC (.app ty1 sz1 bytes s x) (HR e h) H (nm nx)=aa ⟨.row (nm nx) sz1 (n+m),[nm id,nm id2],[nm nx,nm id],[(nm nx,⟨ty1,oN (M++J)⟩)],[nm nx]⟩:=by
          simp only[eC,h1,h3,hrow,hg];rw[aJ (by
           simp only[cM,oV,Bool.and_true,BC.isCells,BC.len,hroom,au,dX];refine ⟨?_,bz (by omega)⟩;simp only[Vk,Bool.or_false];cases hq:aA (nm id2) (nm id) with
           |false=>rfl
           |true=>exact cX (ku (av hq)).symm p4)]
          simp only[BC.toMx,fI (show M.length<=n*sz1 by omega)]
         refine ⟨_,_,_,_,_,hk,iS.mk' hc hH ha [nm nx,nm id] (λi hi=>hi) (λq hq=>?_) (λi hi b' hbb=>?_) (λH1 H2 d hw1 _ hw2=>⟨λi hi b b' hb I=>?_,λy hy=>?_⟩) (λq hq=>?_) (λq hq=>?_) (λq hq=>?_) hr (hinv1.set hd2 (by omega) (by omega) λty' l' he=>?_) (by omega)⟩
         .simp only[bh,cj,fM,not_or] at hq;refine kn hinv hr λi ei=>?_
          subst ei;rw[PT.get_set,aC (λe=>hq.1 (by rw[e])),PT.get_set,aC (λe=>hq.2 (by rw[e]))]
         .simp only[bh,cj,fM] at hi;rcases hi with rfl|rfl
          .rw[aJ (by simp)];exact⟨_,gZ _ _⟩
          .rw[hbd] at hbb;cases hbb
         .simp only[bh,cj,fM] at hi;rcases hi with rfl|rfl
          .rw[hw1 _ (by simp),gZ] at hb;rw[hw2 _ (by simp),Y] at I;simp only[aj] at hb I;subst hb;subst I;obtain⟨m1,m2⟩:=ne (M++J);exact jI.eq d m2 rfl m1
          .rw[hw2 _ (by simp),hbd] at I;cases I
         .simp only[ch,aj] at hy;subst hy;exact lh.refl d _
         .simp only[bh,cj,fM] at hq;rw[bl,iE];rcases hq with rfl|rfl
          .rw[dQ];exact .inl (bT.2 rfl)
          .rw[dQ];exact .inr (bT.2 rfl)
         .simp only[bh,cj,fM] at hq;rw[bl,iE];rcases hq with rfl|rfl
          .rw[dQ];exact .inr (bT.2 rfl)
          .rw[dQ];exact .inl (bT.2 rfl)
         .simp only[aK] at hq;subst hq;rw[dQ];omega
         .rw[<- hB] at he;cases he;exact km _ _ _ hsp
        .cases hk
       .cases hk
      .simp only[ch,aj] at h2;subst h2;obtain⟨hroom,hk⟩:=dN hk;have hr:cg h ((d_ 0 h).set nx (aa (.cells ty l2))):=(cg.kill 0 h).trans (cg.set λr hr=>by rw[bO,(hinv.kill 0).fresh] at hr;cases hr);have h2':=gM hr _ _ Z;refine ⟨_,_,_,_,_,hk,iS.new hinv hc hH (y0:=.row (nm nx) sz2 m) (rdl:=[nm id2]) (b0:=⟨ty,oN J⟩) (by simp only[eC,h1,h3,hrow];simp[Hd,yK,hroom,q3]) (dH.zero h) (λty' l' he=>?_) (λH1 H2 d g b' Y=>?_) (λH1 H2 y d g hy=>?_) (λn hn=>?_)⟩
       .cases he;exact km _ _ _ h2'
       .simp only[j9,h2',aj] at Y;subst Y;obtain⟨p1,p2⟩:=ne J;exact jI.eq d p2 rfl p1
       .simp only[ch,aj] at hy;subst hy;exact lh.refl d _
       .simp only[aK] at hn;subst hn;rw[dQ];exact bT.2 rfl
      .cases hk
     .cases hk
    .cases hk
   .cases hk
  .cases hk
theorem ai8 {con:FuncId->Option cq} {bY:TypeId->Option Ty} {sz:Nat} {x:Operand} {lo hi' mx:Option Operand} (hc:c6 P o.op=aa (.slc sz x lo hi' mx)) (hk:dK con bY (.op (.slc sz x lo hi' mx)) e h nx K=aa r):kq P o ai e h nx K r:=by
 have hfr:=hinv.fresh;simp only[dK] at hk;split at hk
 .rename_i v hv;obtain⟨y,h1,h2⟩:=bG hi hv;split at hk
  .split at hk
   .rename_i hn;obtain⟨n,hn⟩:=iv.1 hn;have Y:=Of hn h2;exact kq.q (k:=0) hinv hc (λH _=>by simp only[eC,h1,Y,Option.isSome_some,bB]) (c_ rfl) hk
   .cases hk
  .rename_i b;split at hk
   .rename_i T xs k j hb;obtain⟨y2,Y,U⟩:=bG hi hb;simp only[ch,aj] at h2 U;subst h2;subst U;split at hk
    .rename_i hs;have hs:=av hs;subst hs;obtain⟨hj,hk⟩:=dN hk;have hfl:=fd (bx T) xs;have hcond:(cR 0 j&&cR j (ak xs)&&eo (ak xs*T.size) (xs.flatMap (bN T)).length)=ah:=by
      rw[hj,oV];exact bz (by omega)
     simp only[cR,au,bP] at hj;have hlen:(xs.take j.toNat).length=j.toNat:=by rw[bC];omega
     exact kq.q (k:=0) (y0:=.f (.sl ((xs.flatMap (bN T)).take (j.toNat*T.size)) j.toNat)) hinv hc (λH _=>by simp only[eC,h1,Y,gw,hcond,bB]) (c_ (by simp only[ch,gw];rw[yN (bx T),hlen])) hk
    .cases hk
   .rename_i id k j hb;obtain⟨y2,Y,U⟩:=bG hi hb;simp only[ch,aj] at U;subst U;split at hk
    .rename_i ty p T xs I;split at hk
     .rename_i hs;have hs:=av hs;subst hs;obtain⟨hj,hk⟩:=dN hk;obtain⟨H,hH⟩:=jw h;have hj0:=hj;simp only[cR,fE,au,bP] at hj;have hp:¬((p&&xs.length==0)=ah):=by
       simp only[au,cN];omega
      simp only[ch,bO,I,aE,mg,eZ,aC hp,aj] at h2;subst h2;have hidlt:=hinv.low id _ I;have hne:nx≠id:=by omega
      have hg:H.get (nm id)=aa ⟨ty,.fz (xs.flatMap (bN T))⟩:=by rw[hH,bE,I];simp only[aE,j9,aC hp]
      have fl:=fd (bx T) xs;have hcond:(T.size==T.size&&cR 0 j&&cR j (ak xs))=ah:=by
       simp only[cR,au,bP,cM,zZ];omega
      have hlen:(xs.take j.toNat).length=j.toNat:=by rw[bC];omega
      have ha0:eC (.slc T.size x af (aa b) af) (HR e h) H (nm nx)=aa ⟨.row (nm nx) T.size j.toNat,[nm id],[nm nx,nm id],[(nm nx,⟨ty,.fz ((xs.take j.toNat).flatMap (bN T))⟩)],[nm nx]⟩:=by
       have hc2:((BC.fz (xs.flatMap (bN T))).isCells&&eo (ak xs*T.size) (BC.fz (xs.flatMap (bN T))).len)=ah:=by
        simp only[BC.isCells,oV,BC.len];exact bz (by omega)
       simp only[eC,h1,Y,gw,hcond,bB,hg,hc2,BC.toMx,<-kg,Bz,yN (bx T)]
      generalize hh':(h.set id (aa (.dead p T.size (ak xs)))).set nx (aa (.rows ty ai T (dE j.toNat xs)))=h' at hk;have hrA:cg h (h.set id (aa (.dead p T.size (ak xs)))):=cg.set λr hr=>by rw[bO,I] at hr;exact hr
      have J:∀ i,h'.get i=if i=nx then aa (.rows ty ai T (dE j.toNat xs)) else if i=id then aa (.dead p T.size (ak xs)) else h.get i:=λi=>by rw[<- hh',PT.get_set,PT.get_set]
      have hr:cg h h':=by
       rw[<- hh'];refine hrA.trans (cg.set λr hr=>?_);rw[bO,PT.get_set,aC hne,hfr] at hr;cases hr
      have hinv':lG h' (nx+1):=by
       refine ⟨λi ty l hil=>?_,λi c hic=>?_⟩
       .rw[J] at hil;split at hil
        .cases hil
        .split at hil
         .cases hil
         .exact iF hr l (hinv.cells i ty l hil)
       .rw[J] at hic;split at hic
        .omega
        .split at hic
         .omega
         .have:=hinv.low i c hic;omega
      have hsame:∀ n,n≠nm nx->n≠nm id->bw h' n=bw h n:=λn h1 h2=>kn hinv hr λi e=>by
       subst e;rw[J,aC (λe=>h1 (by rw[e])),aC (λe=>h2 (by rw[e]))]
      have hdead:bw h' (nm id)=af:=by rw[bE,J,aC (by omega),aJ rfl];rfl
      have hnew:bw h' (nm nx)=aa ⟨ty,.fz ((xs.take j.toNat).flatMap (bN T))⟩:=by rw[bE,J,aJ rfl];rfl
      have hval:ch h' (.row nx)=aa (.row (nm nx) T.size j.toNat):=by simp only[ch,bO,J,bB,aE,mg,eZ,mS,co,dR,hlen]
      refine ⟨_,_,_,_,_,hk,?_⟩;refine iS.mk' hc hH ha0 [nm nx,nm id] (λi hi=>hi) (λn hn=>?_) (λi hi b' hb'=>?_) (λH1 H2 d hw1 _ hw2=>⟨λi hi b b' Z M=>?_,λy hy=>?_⟩) (λn hn=>?_) (λn hn=>?_) (λn hn=>by simp only[aK] at hn;subst hn;rw[dQ];omega) hr hinv' (by omega)
      .simp only[bh,cj,fM,not_or] at hn;exact hsame n hn.1 hn.2
      .simp only[bh,cj,fM] at hi;rcases hi with rfl|rfl
       .exact⟨_,by rw[aJ (by simp)];exact gZ _ _⟩
       .rw[hdead] at hb';cases hb'
      .simp only[bh,cj,fM] at hi;rcases hi with rfl|rfl
       .rw[hw1 _ (by simp),gZ] at Z;rw[hw2 _ (by simp),hnew] at M;simp only[aj] at Z M;subst Z;subst M;exact jI.refl d _
       .rw[hw2 _ (by simp),hdead] at M;cases M
      .rw[hval] at hy;simp only[aj] at hy;subst hy;exact lh.refl d _
      .simp only[aK] at hn;subst hn;rw[dQ];exact bT.2 rfl
      .simp only[bh,cj,fM] at hn;rcases hn with rfl|rfl<;>rw[dQ,bl,bT.2 rfl]<;>simp
     .cases hk
    .cases hk
   .cases hk
  .rename_i b;split at hk
   .rename_i T xs k j hb;obtain⟨y2,Y,U⟩:=bG hi hb;simp only[ch,aj] at h2 U;subst h2;subst U;split at hk
    .rename_i hs;have hs:=av hs;subst hs;obtain⟨hj,hk⟩:=dN hk;have hfl:=fd (bx T) xs;have hcond:(cR 0 j&&cR j (ak xs)&&eo (ak xs*T.size) (xs.flatMap (bN T)).length)=ah:=by
      rw[hj,oV];exact bz (by omega)
     simp only[cR,au,bP] at hj;have hlen:(xs.drop j.toNat).length=ak xs-j.toNat:=by rw[md]
     have htk:((xs.flatMap (bN T)).drop (j.toNat*T.size)).take ((ak xs-j.toNat)*T.size)=(xs.flatMap (bN T)).drop (j.toNat*T.size):=by
      refine fI ?_;rw[md,hfl,Nat.sub_mul];exact bQ _
     exact kq.q (k:=0) (y0:=.f (.sl ((xs.flatMap (bN T)).drop (j.toNat*T.size)) (ak xs-j.toNat))) hinv hc (λH _=>by simp only[eC,h1,Y,gw,hcond,bB,htk]) (c_ (by simp only[ch,gw];rw[HN (bx T),hlen])) hk
    .cases hk
   .rename_i id k j hb;obtain⟨y2,Y,U⟩:=bG hi hb;simp only[ch,aj] at U;subst U;split at hk
    .rename_i ty p T xs I;split at hk
     .rename_i hs;have hs:=av hs;subst hs;obtain⟨hj,hk⟩:=dN hk;have hcond:(T.size==T.size&&cR 0 j&&fE j (ak xs))=ah:=by
       simp only[au] at hj;rw[hj.1,hj.2,cM];rfl
      simp only[cR,fE,au,bP] at hj;have hp:¬((p&&xs.length==0)=ah):=by
       simp only[au,cN];omega
      simp only[ch,bO,I,aE,mg,eZ,aC hp,aj] at h2;subst h2;exact kq.q (k:=0) (y0:=.sl (nm id) (j.toNat*T.size) (ak xs-j.toNat)) hinv hc (λH _=>by simp only[eC,h1,Y,gw,hcond,bB]) (c_ (by simp only[ch,bO,I,aE,mg])) hk
     .cases hk
    .cases hk
   .cases hk
  .cases hk
 .cases hk
theorem aiq {con:FuncId->Option cq} {bY:TypeId->Option Ty} {sz:Nat} {z:List Value} {x:Operand} (hc:c6 P o.op=aa (.clr sz z x)) (hk:dK con bY (.op (.clr sz z x)) e h nx K=aa r):kq P o ai e h nx K r:=by
 obtain⟨H,hH⟩:=jw h;simp only[dK] at hk;split at hk
 .rename_i id j hv;split at hk
  .rename_i ty p T xs hb;split at hk
   .rename_i hs;simp only[au] at hs;obtain⟨⟨hs,J⟩,hco⟩:=hs;have hs:=av hs;have J:=I0 J;subst hs;subst J;obtain⟨hj,hk⟩:=dN hk;simp only[cR,fE,au,bP] at hj;obtain⟨j0,j1⟩:=hj;obtain⟨y,h1,h2⟩:=bG hi hv;simp only[ch,bO,hb,aE,mg,aj] at h2;subst h2;have hp:¬((p&&xs.length==0)=ah):=by
     simp only[au,cN];omega
    have fl:=fd (bx T) xs;have hg:H.get (nm id)=aa ⟨ty,.fz (xs.flatMap (bN T))⟩:=by rw[hH,bE,hb];simp only[aE,j9,aC hp]
    have hrl:(repl (rP T) (xs.length-j.toNat)).length=(xs.length-j.toNat)*T.size:=by
     have h9:=(FZ (H:=λ_=>af) (H':=λ_=>af) (λn b hb=>by cases hb) T (xs.length-j.toNat)).length;rw[b8,b8,fd (bx T),ep] at h9;exact h9.symm
    have hoff:j.toNat*T.size+(xs.length-j.toNat)*T.size=xs.length*T.size:=by rw[<- LM];congr 1;omega
    have hput:(BC.fz (xs.flatMap (bN T))).put (j.toNat*T.size) ((repl (rP T) (xs.length-j.toNat)).map .f)=aa (.fz (splice (xs.flatMap (bN T)) (j.toNat*T.size) (repl (rP T) (xs.length-j.toNat)))):=by
     unfold BC.put;rw[aJ]
     .simp only[I8]
     .simp only[au];refine ⟨⟨rfl,bz ?_⟩,Fa _ λq hq=>?_⟩
      .simp only[BC.len,b8];omega
      .obtain⟨v,hv,rfl⟩:=NY _ q hq;exact fY.1 hco v hv
    have hblt:fR 0 (xs.length-j.toNat)=ah:=bz (by omega);have Y:eC (.clr T.size (rP T) x) (HR e h) H (nm nx)=aa ⟨.tup [],[nm id],[nm id],[(nm id,⟨ty,.fz (splice (xs.flatMap (bN T)) (j.toNat*T.size) (repl (rP T) (xs.length-j.toNat)))⟩)],[]⟩:=by
     simp only[eC,h1,hg,hblt,bB,hput]
    have hlen:(dE j.toNat xs++aF (ak xs-j.toNat) T.zero).length=xs.length:=by
     rw[bn,bC,ep];omega
    have hrow:mg (.rows ty p T (dE j.toNat xs++aF (ak xs-j.toNat) T.zero))=mg (.rows ty p T xs):=by simp only[mg,hlen]
    refine ⟨_,_,_,_,_,hk,iS.wrt (m:=0) (v:=.tup []) (rd:=ko id) hinv hc hH Y hb (dH.zero h) (by simp) hrow (λ_ _ he=>by cases he) (λH1 H2 d g b' I=>?_) (λH1 H2 y d g Z=>?_) (λn hn=>?_)⟩
    .have U:¬((p&&(dE j.toNat xs++aF (ak xs-j.toNat) T.zero).length==0)=ah):=by rw[hlen];exact hp
     simp only[j9,aC U,aj] at I;subst I;refine jI.cells rfl rfl ?_ λq hq=>?_
     .simp only[BC.toMx];unfold splice;rw[hrl,hoff,<-fl,List.drop_length,lm,List.flatMap_append,yN (bx T),cI,cI];exact (gX.refl d _).append (FZ d T _)
     .simp only[BC.toMx] at hq;obtain⟨q',M,rfl⟩:=c9.1 hq;exact qD T _ q' M
    .simp only[ch,cF,aj] at Z;subst Z;exact lh.refl d _
    .simp only[aK] at hn;subst hn;rw[dQ];exact bT.2 rfl
   .cases hk
  .cases hk
 .cases hk
end ops
theorem Rv {K V:Ty} {es:List (K.den×V.den)} (I:mpE K V es=ah):es.map (λp=>(o7 K p.1,AV.f (gw V p.2)))=[]:=by
 unfold mpE at I;split at I
 .rfl
 .cases I
theorem adf {K V:Ty} {es:List (K.den×V.den)} (I:mpE K V es=ah):Ru K=ah:=by
 unfold mpE at I;split at I
 .rfl
 .cases I
theorem Un {str:Bool} {K:Ty} (I:Vm str K=ah):Ru K=ah:=by
 cases K<;>cases str<;>first|rfl|cases I
theorem Md {str:Bool} {K:Ty} (I:Vm str K=ah) (k k':K.den):tL .eql (o7 K k) (o7 K k')=aa (.bool (Nt K k k'))/\xD str (o7 K k)=ah/\gw K k= .raw (o7 K k):=by
 cases K<;>cases str<;>first|cases I|skip
 .exact⟨by simp only[tL,o7,Nt,cM,bB,aj,AU];exact Bool.beq_eq_decide_eq _ _,rfl,rfl⟩
 .exact⟨by simp only[tL,o7,Nt,CC],rfl,rfl⟩
theorem Oe {str:Bool} {K V:Ty} (I:Vm str K=ah) (k:K.den):∀ es:List (K.den×V.den),r_ (o7 K k) (es.map λp=>(o7 K p.1,AV.f (gw V p.2)))=aa ((uW k es).map λv=>AV.f (gw V v))
 |[]=>rfl
 |(k',v)::r=>by
  simp only[fV,r_,(Md I k k').1,uW];cases hb:Nt K k k' with
  |true=>rfl
  |false=>simp only[co,dR];exact Oe I k r
theorem Uk {str:Bool} {K V:Ty} (I:Vm str K=ah) (k:K.den) (v:V.den):∀ es:List (K.den×V.den),xB (o7 K k) (.f (gw V v)) (es.map λp=>(o7 K p.1,AV.f (gw V p.2)))=aa ((C9 k v es).map λp=>(o7 K p.1,AV.f (gw V p.2)))
 |[]=>rfl
 |(k',J)::r=>by
  simp only[fV,xB,(Md I k k').1,C9];cases hb:Nt K k k' with
  |true=>rfl
  |false=>simp only[Uk I k v r,co,dR,fV]
theorem ac9 {h:bd} {ok b:Bool} {v:TV} {y:AV} (hv:ch h v=aa y):ch h (pkT ok v (.f .bool b))=aa (ZT ok y b):=by
 cases ok with
 |false=>exact hv
 |true=>simp only[pkT,ZT,ch,cF,hv];rfl
section ops
variable {R:Type} {P:Program} {o:Oper} {e:iy} {h:bd} {nx:Nat} {K:KO R} {r:R}
theorem Le.aggOf {l:List FV} (hc:∀ x∈l,x.isCell=ah):Le (.agg (l.map .f)) (.f (.agg l)):=by
 intro φ O w v hr;cases hr with
 |@agg _ vs hl hcl hrr=>
  refine .f (.agg l vs (by simpa using hl) hc λj y u I hu=>?_);have:=hrr j (.f y) u (by rw[a8,I];rfl) hu;cases this with
  |f h=>exact h
def N7 (S:Ty) (l:List TV):Option (S.den×Nat×List TV):=match l with
 |c::r=>(match ip PT.leaf S c with|some (x,m)=>aa (x,m,r)|none=>af)
 |[]=>af
theorem KZ:∀ {l I:List FV},l.map AV.f=I.map AV.f->l=I
 |[],[],_=>rfl
 |[],_::_,h=>by simp at h
 |_::_,[],h=>by simp at h
 |x::r,y::r',h=>by
  simp only[fV,iD,AV.f.injEq] at h;rw[h.1,KZ h.2]
theorem GM (h:bd):∀ (ds:List TypeDesc) (T:Ty),qc ds=aa T->∀ (n:Nat) (l:List TV) (x:T.den) (m:Nat) (r:List TV),eL PT.leaf n T l=aa (x,m,r)->∀ J,cF h l=aa J->∃ l2,cF h r=aa l2/\J=(bN T x).map .f++l2
 |[],T,hd,n,l,x,m,r,hp,J,hl=>by
  simp only[qc,aj] at hd;subst hd;cases n with
  |zero=>simp[eL] at hp
  |succ n=>
   simp only[eL,aj,aB] at hp;obtain⟨_,_,rfl⟩:=hp;exact⟨J,hl,rfl⟩
 |d::ds,T,hd,n,l,x,m,r,hp,J,hl=>by
  have plain:∀ (S:Ty),S.one=ah->(∀ t,S≠ .sl t)->∀ (v:TV) (a:S.den) (m:Nat) (y:AV),ip PT.leaf S v=aa (a,m)->ch h v=aa y->y= .f (gw S a):=by
   intro S Y hns v a m y I hy;cases v with
   |f Q q=>
    simp only[ip] at I;split at I
    .rename_i z hz;simp only[aj,aB] at I;obtain⟨rfl,_⟩:=I;obtain⟨e,rfl⟩:=iR hz;subst e;simp only[ch,aj] at hy;exact hy.symm
    .cases I
   |emp=>
    cases S with
    |sl t=>exact cX rfl (hns t)
    |_=>simp[ip] at I
   |nil=>
    cases S with
    |sl t=>exact cX rfl (hns t)
    |_=>simp[ip] at I
   |row id=>simp[ip,PT.get] at I
   |fel T xs j hj off=>simp[ip] at I
   |pel id sz j off=>simp[ip] at I
   |ptr id off=>simp[ip] at I
   |csl id off z=>simp[ip] at I
   |mp id=>simp[ip] at I
   |rtl id jj=>simp[ip] at I
   |agg q=>simp[ip] at I
   |tup q=>simp[ip] at I
   |clo f q=>simp[ip] at I
   |undef=>simp[ip] at I
   |np=>simp[ip] at I
   |anyb=>simp[ip] at I
  have one:∀ (S:Ty),S.one=ah->(∀ t,S≠ .sl t)->∀ (n:Nat) (l:List TV) (a:S.den) (m:Nat) (r:List TV),eL PT.leaf n S l=aa (a,m,r)->∀ J,cF h l=aa J->∃ l2,cF h r=aa l2/\J=(bN S a).map .f++l2:=by
   intro S Y hns n l a m r hp J hl;cases n with
   |zero=>simp[eL] at hp
   |succ n=>
    cases l with
    |nil=>
     cases S with
     |int k=>cases hp
     |bool=>cases hp
     |str=>cases hp
     |sl t=>exact cX rfl (hns t)
     |_=>cases Y
    |cons c q=>
     have hpp:N7 S (c::q)=aa (a,m,r):=by
      cases S with
      |int k=>simp only[eL] at hp;simp only[N7];cases hq:ip PT.leaf (.int k) c with
       |none=>rw[hq] at hp;cases hp
       |some z=>rw[hq] at hp;exact hp
      |bool=>simp only[eL] at hp;simp only[N7];cases hq:ip PT.leaf .bool c with
       |none=>rw[hq] at hp;cases hp
       |some z=>rw[hq] at hp;exact hp
      |str=>simp only[eL] at hp;simp only[N7];cases hq:ip PT.leaf .str c with
       |none=>rw[hq] at hp;cases hp
       |some z=>rw[hq] at hp;exact hp
      |sl t=>exact cX rfl (hns t)
      |_=>cases Y
     simp only[N7] at hpp;split at hpp
     .rename_i a1 m1 h1;simp only[aj,aB] at hpp;obtain⟨rfl,rfl,rfl⟩:=hpp;obtain⟨y,l2,rfl,g1,Z⟩:=cP hl;have:=plain S Y hns c a1 m1 y h1 g1;subst this;exact⟨l2,Z,by rw[(B3 S a1 Y).1];rfl⟩
     .cases hpp
  have two:∀ (S U:Ty),S.one=ah->(∀ t,S≠ .sl t)->qc ds=aa U->T= .pr S U->∃ l2,cF h r=aa l2/\J=(bN T x).map .f++l2:=by
   intro S U Y hns M e;subst e;cases n with
   |zero=>simp[eL] at hp
   |succ n=>
    simp only[eL] at hp;split at hp
    .rename_i x1 m1 r1 h1;split at hp
     .rename_i x2 m2 r2 h2;simp only[aj,aB] at hp;obtain⟨rfl,rfl,rfl⟩:=hp;obtain⟨l2,g1,Z⟩:=one S Y hns n l x1 m1 r1 h1 J hl;obtain⟨l3,g3,g4⟩:=GM h ds U M n r1 x2 m2 r2 h2 l2 g1;exact⟨l3,g3,by rw[Z,g4,bN,cI,jy]⟩
     .cases hp
    .cases hp
  cases d with
  |int k=>
   simp only[qc] at hd;split at hd
   .rename_i U M;simp only[aj] at hd;exact two (.int k) U rfl (λt h=>by cases h) M hd.symm
   .cases hd
  |bool=>
   simp only[qc] at hd;split at hd
   .rename_i U M;simp only[aj] at hd;exact two .bool U rfl (λt h=>by cases h) M hd.symm
   .cases hd
  |string=>
   simp only[qc] at hd;split at hd
   .rename_i U M;simp only[aj] at hd;exact two .str U rfl (λt h=>by cases h) M hd.symm
   .cases hd
  |_=>simp[qc] at hd
theorem B1:∀ (ds:List TypeDesc) (T:Ty),qc ds=aa T->∀ a b:T.den,ox ds (bN T a) (bN T b)=aa (Nt T a b)
 |[],T,hd,a,b=>by simp only[qc,aj] at hd;subst hd;rfl
 |d::ds,T,hd,a,b=>by
  cases d with
  |int k=>
   simp only[qc] at hd;split at hd
   .rename_i U M;simp only[aj] at hd;subst hd;have J:=B1 ds U M a.2 b.2;simp only[bN,fX,ll,ox,wv,cM,bB,Nt];cases he:((a.1:Int)==b.1) with
    |true=>have I:(a.1:Int)=b.1:=by simpa using he
           simp only[J,I,dI,oV]
    |false=>have I:¬(a.1:Int)=b.1:=by simpa using he
            simp only[I,cZ,mS]
   .cases hd
  |bool=>
   simp only[qc] at hd;split at hd
   .rename_i U M;simp only[aj] at hd;subst hd;have J:=B1 ds U M a.2 b.2;simp only[bN,fX,ll,ox,wv,Nt];cases he:((a.1:Bool)==b.1)<;>simp[he,J]
   .cases hd
  |string=>
   simp only[qc] at hd;split at hd
   .rename_i U M;simp only[aj] at hd;subst hd;have J:=B1 ds U M a.2 b.2;simp only[bN,fX,ll,ox,wv,Nt,CC];cases he:decide ((a.1:List UInt8)=b.1) with
    |true=>simp only[J,oV]
    |false=>simp only[mS]
   .cases hd
  |_=>simp[qc] at hd
theorem LB {u:TV} (hu:u.isC=ai) {lu:List TV} (hl:u.cs=aa lu) {ds:List TypeDesc} {T:Ty} (hd:qc ds=aa T) {a:T.den} {m:Nat} (hp:eL PT.leaf 40 T lu=aa (a,m,[])) {y:AV} (I:ch h u=aa y):Le y (.f (.agg (bN T a))):=by
 obtain⟨h1,_⟩:=IE hl I;obtain⟨l2,h2,J⟩:=GM h ds T hd 40 lu a m [] hp _ h1;simp only[cF,aj] at h2;subst h2;rw[lm] at J;cases u with
 |agg l=>
  simp only[ch] at I;split at I
  .rename_i M _;simp only[aj] at I;subst I;have:M=(bN T a).map .f:=J;rw[this];exact Le.aggOf (nv T a)
  .cases I
 |f S x=>
  simp only[ch,aj] at I;subst I;have U:S.one=ai:=hu;rw[yP] at J;have:bN S x=bN T a:=KZ J;rw[pK S x U,this];exact Le.refl _
 |tup l=>simp[TV.cs,TV.isC] at hl
 |undef=>simp[TV.cs,TV.isC] at hl
 |np=>cases hu
 |anyb=>simp[TV.cs,TV.isC] at hl
 |fel T xs j hj off=>cases hu
 |pel id sz j off=>cases hu
 |ptr id off=>cases hu
 |csl id off z=>cases hu
 |row id=>cases hu
 |emp=>cases hu
 |nil=>cases hu
 |mp id=>cases hu
 |rtl id Y=>cases hl
 |clo g l=>cases hu
variable (hinv:lG h nx) (hi:sr e h)
include hinv hi
theorem aio {con:FuncId->Option cq} {bY:TypeId->Option Ty} {neg:Bool} {ds:List TypeDesc} {x y:Operand} {st:Bool} (hc:c6 P o.op=aa (.eqs neg ds x y)) (hk:dK con bY (.op (.eqs neg ds x y)) e h nx K=aa r):kq P o st e h nx K r:=by
 obtain⟨H,hH⟩:=jw h;simp only[dK] at hk;split at hk
 .rename_i T u v hd hu hv;split at hk
  .cases hk
  .rename_i hcc;simp only[iE,not_or,Bool.not_eq_true] at hcc;split at hk
   .rename_i lu lv hlu hlv;split at hk
    .rename_i a m1 b m2 hpa hpb;obtain⟨yu,h1,h2⟩:=bG hi hu;obtain⟨yv,h3,h4⟩:=bG hi hv;obtain⟨⟨⟨U,M⟩,hc3⟩,Z⟩:=hcc;have l1:=LB U hlu hd hpa h2;have l2:=LB M hlv hd hpb h4;have tmp:∀ (z:Operand) (q:TV),fo e z=aa q->q.isC=ai->RD z=ai->∃ t,z= .tmp t:=by
      intro z q I hq hg;cases z with
      |tmp t=>exact⟨t,rfl⟩
      |const c=>
       have I:cst c=aa q:=by
        simp only[fo,ads] at I;split at I
        .cases hg
        .exact I
       have:=(IC h I).2.2;rw[hq] at this;cases this
      |func g=>simp only[fo,aj] at I;subst I;cases hq
      |global g=>
       simp only[fo] at I;split at I
       .cases I;cases hq
       .cases I
     obtain⟨t,rfl⟩:=tmp x u hu U hc3;obtain⟨t',rfl⟩:=tmp y v hv M Z;have same:t=t'->bN T a=bN T b:=by
      intro ht;subst ht;rw[hu] at hv;cases hv;rw[hlu] at hlv;cases hlv;rw[hpa] at hpb;cases hpb;rfl
     let J:yq:=((HR e h).set t (aa (.f (.agg (bN T a))))).set t' (aa (.f (.agg (bN T b))))
     have e1:me J (.tmp t)=aa (.f (.agg (bN T a))):=by
      simp only[me,J,PT.get_set];by_cases ht:t=t'
      .rw[aJ ht,same ht]
      .rw[aC ht];simp
     have e2:me J (.tmp t')=aa (.f (.agg (bN T b))):=by simp only[me,J,PT.get_set,bB]
     have ha:eC (.eqs neg ds (.tmp t) (.tmp t')) J H 0=aa ⟨raw (.bool (Nt T a b !=neg)),[],[],[],[]⟩:=by
      simp only[eC,e1,e2,B1 ds T hd a b];rfl
     have ht:=GR hc ha;rw[hH] at ht;have Y:gB P o (fD e h) (bw h) _:=ht.envLe (e2:=fD e h) λs z _ I=>by
      simp only[J,PT.get_set] at I;rw[<- ub];simp only[me] at h1 h3;split at I
      .rename_i es;subst es;cases I;exact⟨yv,h3,l2⟩
      .split at I
       .rename_i es;subst es;cases I;exact⟨yu,h1,l1⟩
       .exact⟨z,I,Le.refl _⟩
     refine ⟨_,0,0,h,nx,hk,⟨⟨_,Y,λy hy=>?_,by simp[AS.eff,sJ],by simp[AS.eff],by simp[AS.eff],by simp[AS.eff]⟩,λ_ _ h=>h,hinv,bQ _,λ_=>⟨rfl,rfl⟩⟩⟩;simp only[ch,aj] at hy;exact hy
    .cases hk
   .cases hk
 .cases hk
theorem aid {con:FuncId->Option cq} {bY:TypeId->Option Ty} (hc:c6 P o.op=aa .mkm) (hk:dK con bY (.op .mkm) e h nx K=aa r):kq P o ai e h nx K r:=by
 have _:=hi;obtain⟨H,M⟩:=jw h;refine ⟨_,_,_,_,_,hk,iS.new hinv hc M (y0:=.mp (nm nx)) (rdl:=[]) (b0:=⟨0,.mp []⟩) rfl (dH.zero h) (λ_ _ he=>by cases he) (λY U d g b' I=>?_) (λY U y d g J=>?_) (by simp)⟩
 .cases I;exact jI.refl d _
 .simp only[ch,aj] at J;subst J;exact lh.refl d _
theorem afp {con:FuncId->Option cq} {bY:TypeId->Option Ty} {x:Operand} (hc:c6 P o.op=aa (.lenm x)) (hk:dK con bY (.op (.lenm x)) e h nx K=aa r):kq P o ai e h nx K r:=by
 obtain⟨H,J⟩:=jw h;simp only[dK] at hk;split at hk
 .rename_i id hv;split at hk
  .rename_i K' V es hb;obtain⟨y,h1,h2⟩:=bG hi hv;simp only[ch,aj] at h2;subst h2;split at hk
   case isFalse=>cases hk
   rename_i hO;have hg:H.get (nm id)=aa ⟨0,.mp (es.map λp=>(o7 K' p.1,.f (gw V p.2)))⟩:=by rw[J,bE,hb];show aa (vH.mk 0 (XU K' V es))=_;rw[At hO]
   exact⟨_,_,_,_,_,hk,iS.pure (k:=0) hinv hc J (y0:=raw (.int .i64 es.length)) (rdl:=[nm id]) (by simp only[eC,h1,hg,b8]) (λy I=>by simp only[ch,aj] at I;subst I;exact Le.refl _) (λn hn=>by simp only[aK] at hn;subst hn;rw[dQ];exact bT.2 rfl) (λh=>by cases h)⟩
  .cases hk
 .cases hk
theorem aih {con:FuncId->Option cq} {bY:TypeId->Option Ty} {str ok:Bool} {z:Value} {x k:Operand} (hc:c6 P o.op=aa (.lku str ok z x k)) (hk:dK con bY (.op (.lku str ok z x k)) e h nx K=aa r):kq P o ai e h nx K r:=by
 obtain⟨H,Y⟩:=jw h;simp only[dK] at hk;split at hk
 .rename_i id KT kv hv U;split at hk
  .rename_i K' V es hb;split at hk
   .rename_i J;obtain⟨y,h1,h2⟩:=bG hi hv;obtain⟨y2,h3,h4⟩:=bG hi U;simp only[ch,aj] at h2 h4;subst h2;subst h4;simp only[au] at J;have hg:H.get (nm id)=aa ⟨0,.mp (es.map λp=>(o7 K' p.1,.f (gw V p.2)))⟩:=by rw[Y,bE,hb];show aa (vH.mk 0 (XU K' V es))=_;rw[At J.2]
    obtain⟨_,hok,henc⟩:=Md J.1 kv kv;rw[henc] at h3;have hrd:∀ n∈[nm id],aL (ko id) (ow n)=ah:=λn hn=>by simp only[aK] at hn;subst hn;rw[dQ];exact bT.2 rfl
    split at hk
    .rename_i hE;split at hk
     .rename_i v M;have hzz:=(IC h M).1;exact⟨_,_,_,_,_,hk,iS.pure (k:=0) hinv hc Y (y0:=ZT ok (raw z) ai) (rdl:=[nm id]) (by simp only[eC,h1,h3,hg,hok,bB,Rv hE,r_]) (λy I=>by rw[ac9 hzz] at I;cases I;exact Le.refl _) hrd (λh=>by cases h)⟩
     .cases hk
    .split at hk
     .rename_i kv' Z zv hkv M;split at hk
      .rename_i zv' hzv;obtain⟨e1,e2⟩:=iR hkv;cases e1;subst e2;obtain⟨e3,e4⟩:=iR hzv;cases e3;subst e4;have hzz:=(IC h M).1;simp only[ch,aj] at hzz;refine ⟨_,_,_,_,_,hk,iS.pure (k:=0) hinv hc Y (y0:=ZT ok (.f (gw _ (uV kv' es zv'))) (adh kv' es)) (rdl:=[nm id]) ?_ (λy I=>by rw[ac9 (y:=.f (gw _ (uV kv' es zv'))) rfl] at I;cases I;exact Le.refl _) hrd (λh=>by cases h)⟩;simp only[eC,h1,h3,hg,hok,bB,Oe J.1];unfold uV adh;cases hf:uW kv' es with
       |none=>simp only[Option.map_none];rw[hzz]
       |some v=>rfl
      .cases hk
     .cases hk
   .cases hk
  .cases hk
 .cases hk
theorem aic {con:FuncId->Option cq} {bY:TypeId->Option Ty} {str:Bool} {x k v:Operand} (hc:c6 P o.op=aa (.mup str x k v)) (hk:dK con bY (.op (.mup str x k v)) e h nx K=aa r):kq P o ai e h nx K r:=by
 obtain⟨H,hH⟩:=jw h;simp only[dK] at hk;split at hk
 .rename_i id KT U VT vv hv Z Y;split at hk
  .rename_i K' V es hb;split at hk
   .rename_i J;simp only[au] at J;obtain⟨y,h1,h2⟩:=bG hi hv;obtain⟨y2,h3,h4⟩:=bG hi Z;obtain⟨y3,h5,h6⟩:=bG hi Y;simp only[ch,aj] at h2 h4 h6;subst h2;subst h4;subst h6;have hg:H.get (nm id)=aa ⟨0,.mp (es.map λp=>(o7 K' p.1,.f (gw V p.2)))⟩:=by rw[hH,bE,hb];show aa (vH.mk 0 (XU K' V es))=_;rw[At J.2]
    obtain⟨_,hok,henc⟩:=Md J.1.1 U U;rw[henc] at h3;have hrd:∀ n∈[nm id],aL (ko id) (ow n)=ah:=λn hn=>by simp only[aK] at hn;subst hn;rw[dQ];exact bT.2 rfl
    split at hk
    .rename_i hE;exact⟨_,_,_,_,_,hk,iS.wrt (k:=0) (m:=0) (v:=.undef) (rd:=ko id) hinv hc hH (y0:=raw undef) (b0:=⟨0,.mp [(o7 KT U,.f (gw VT vv))]⟩) (rdl:=[nm id]) (by simp only[eC,h1,h3,h5,hg,hok,bB,Rv hE,xB]) (B:=.mp KT VT [(U,vv)]) hb (dH.zero h) (by simp) rfl (λty' l2 he=>by cases he) (λH1 H2 d g b' I=>by simp only[j9,At (Un J.1.1),aj] at I;subst I;exact jI.refl d _) (λH1 H2 y d g M=>by simp only[ch,aj] at M;subst M;exact lh.refl d _) hrd⟩
    .split at hk
     .rename_i kv' vv' hkv hvv;obtain⟨e1,e2⟩:=iR hkv;cases e1;subst e2;obtain⟨e3,e4⟩:=iR hvv;cases e3;subst e4;exact⟨_,_,_,_,_,hk,iS.wrt (k:=0) (m:=0) (v:=.undef) (rd:=ko id) hinv hc hH (y0:=raw undef) (b0:=⟨0,.mp ((C9 kv' vv' es).map λp=>(o7 _ p.1,.f (gw _ p.2)))⟩) (rdl:=[nm id]) (by simp only[eC,h1,h3,h5,hg,hok,bB,Uk J.1.1]) (B:=.mp _ _ (C9 kv' vv' es)) hb (dH.zero h) (by simp) rfl (λty' l2 he=>by cases he) (λH1 H2 d g b' I=>by simp only[j9,At (Un J.1.1),aj] at I;subst I;exact jI.refl d _) (λH1 H2 y d g M=>by simp only[ch,aj] at M;subst M;exact lh.refl d _) hrd⟩
     .cases hk
   .cases hk
  .cases hk
 .cases hk
theorem ai9 {con:FuncId->Option cq} {bY:TypeId->Option Ty} {x:Operand} (hc:c6 P o.op=aa (.rng x)) (hk:dK con bY (.op (.rng x)) e h nx K=aa r):kq P o ai e h nx K r:=by
 obtain⟨H,M⟩:=jw h;simp only[dK] at hk;split at hk
 .rename_i s hv;obtain⟨y,h1,h2⟩:=bG hi hv;simp only[ch,aj] at h2;subst h2;refine ⟨_,_,_,_,_,hk,iS.new hinv hc M (y0:=.ptr (nm nx) 0) (rdl:=[]) (b0:=⟨0,.it ⟨kf s⟩ 0⟩) (by simp only[eC,h1];rfl) (dH.zero h) (λ_ _ he=>by cases he) (λY U d g b' I=>?_) (λY U y d g J=>?_) (by simp)⟩
  .cases I;exact jI.refl d _
  .simp only[ch,aj] at J;subst J;exact lh.refl d _
 .cases hk
theorem aia {con:FuncId->Option cq} {bY:TypeId->Option Ty} {x:Operand} (hc:c6 P o.op=aa (.nxt x)) (hk:dK con bY (.op (.nxt x)) e h nx K=aa r):kq P o ai e h nx K r:=by
 obtain⟨H,M⟩:=jw h;simp only[dK] at hk;split at hk
 .rename_i id hv;split at hk
  .rename_i K' V es hb;split at hk
   .rename_i s p Z;obtain⟨y,h1,h2⟩:=bG hi hv;simp only[ch,aj] at h2;subst h2;have hg:H.get (nm id)=aa ⟨0,.it ⟨kf s⟩ p⟩:=by rw[M,bE,hb];show aa (vH.mk 0 (XU K' V es))=_;rw[adl Z]
    have hrd:∀ n∈[nm id],aL (ko id) (ow n)=ah:=λn hn=>by simp only[aK] at hn;subst hn;rw[dQ];exact bT.2 rfl
    rcases oS hk with ⟨hp,hk⟩|⟨hp,hk⟩
    .obtain⟨hj,hk⟩:=dN hk;have hp:=aY hp;have e2:(⟨kf s⟩:ByteArray).data.toList[p]? =aa (List.getD s p 0):=by
      show s[p]? =_;rw[ax,ay hp];rfl
     have e3:fR (List.getD s p 0).toNat 128=ah:=by
      have hj:(aN (List.getD s p 0).toNat:Int)<128:=bm hj;exact bz (Int.ofNat_lt.1 hj)
     exact⟨_,_,_,_,_,hk,iS.wrt (k:=0) (m:=0) (rd:=ko id) hinv hc M (y0:=.tup [raw (.bool ah),raw (.int .i64 p),raw (.int .i32 (List.getD s p 0).toNat)]) (b0:=⟨0,.it ⟨kf s⟩ (p+1)⟩) (rdl:=[nm id]) (by simp only[eC,h1,hg,e2,e3,bB]) (B:=.mp itK .un [((s,aN (p+1)),())]) hb (dH.zero h) (by simp) rfl (λty' l2 he=>by cases he) (λY U d g b' I=>by cases I;exact jI.refl d _) (λY U y d g J=>by cases J;exact lh.refl d _) hrd⟩
    .have hp:s.length<=p:=Nat.not_lt.1 λq=>by rw[show fR p s.length=ah from bz q] at hp;cases hp
     have e2:(⟨kf s⟩:ByteArray).data.toList[p]? =af:=by
      show s[p]? =_;exact bM hp
     exact⟨_,_,_,_,_,hk,iS.wrt (k:=0) (m:=0) (rd:=ko id) hinv hc M (y0:=.tup [raw (.bool ai)]) (b0:=⟨0,.it ⟨kf s⟩ p⟩) (rdl:=[nm id]) (by simp only[eC,h1,hg,e2]) (B:=.mp itK .un [((s,aN p),())]) hb (dH.zero h) (by simp) rfl (λty' l2 he=>by cases he) (λY U d g b' I=>by cases I;exact jI.refl d _) (λY U y d g J=>by cases J;exact lh.refl d _) hrd⟩
   .cases hk
  .cases hk
 .cases hk
theorem K_op {con:FuncId->Option cq} {bY:TypeId->Option Ty} {s:WD} (hc:c6 P o.op=aa s) (hk:dK con bY (.op s) e h nx K=aa r):kq P o s.still e h nx K r:=by
 cases s with
 |mv x=>exact K_mv hinv hi hc hk
 |pick c a b=>exact afk hinv hi hc hk
 |alloc ty z=>exact abq hinv hi hc hk
 |box ty x=>exact ais hinv hi hc hk
 |build z parts=>exact abp hinv hi hc hk
 |bsl ty sz len z parts=>exact air hinv hi hc hk
 |load sz ag x=>exact afn hinv hi hc hk
 |store sz x v=>exact abm hinv hi hc hk
 |nilc x=>exact afl hinv hi hc hk
 |bin op x y=>exact ait hinv hi hc hk
 |eqs neg ds x y=>exact aio hinv hi hc hk
 |eqb neg x y=>exact aip hinv hi hc hk
 |isnil neg x=>exact abo hinv hi hc hk
 |not x=>exact aib hinv hi hc hk
 |conv k x=>exact afs hinv hi hc hk
 |mksl ty sz bytes z l c=>exact afm hinv hi hc hk
 |slc sz x lo I mx=>exact ai8 hinv hi hc hk
 |fad off x=>exact aim hinv hi hc hk
 |fld off sz ag x=>exact ail hinv hi hc hk
 |iad sz x i=>exact aik hinv hi hc hk
 |idx n sz ag x i=>exact aij hinv hi hc hk
 |iada n sz x i=>exact afq hinv hi hc hk
 |ext x i=>exact ain hinv hi hc hk
 |len x=>exact aii hinv hi hc hk
 |lens x=>exact afo hinv hi hc hk
 |max x y=>exact aig hinv hi hc hk
 |min x y=>exact aif hinv hi hc hk
 |sidx x i=>exact afj hinv hi hc hk
 |app ty sz bytes s x=>exact aiu hinv hi hc hk
 |copy sz d x=>exact afr hinv hi hc hk
 |clr sz z x=>exact aiq hinv hi hc hk
 |mkf f caps=>exact aie hinv hi hc hk
 |mkm=>exact aid hinv hi hc hk
 |rng x=>exact ai9 hinv hi hc hk
 |nxt x=>exact aia hinv hi hc hk
 |lenm x=>exact afp hinv hi hc hk
 |lku str ok z x k=>exact aih hinv hi hc hk
 |mup str x k v=>exact aic hinv hi hc hk
 |_=>simp[dK] at hk
end ops
mutual
def AV.ren (g:Nat->Nat):AV->AV
 |.f x=>.f x
 |.ptr id off=>.ptr (g id) off
 |.sl id off n=>.sl (g id) off n
 |.row id sz n=>.row (g id) sz n
 |.mp id=>.mp (g id)
 |.emp=>.emp
 |.anyb=>.anyb
 |.agg l=>.agg (AV.renL g l)
 |.tup l=>.tup (AV.renL g l)
 |.clo q l=>.clo q (AV.renL g l)
def AV.renL (g:Nat->Nat):List AV->List AV
 |[]=>[]
 |x::r=>x.ren g::AV.renL g r
end
theorem nR (g:Nat->Nat):∀ l,AV.renL g l=l.map (AV.ren g)
 |[]=>rfl
 |x::r=>by rw[AV.renL,nR g r];rfl
theorem Bo (g:Nat->Nat) (x:AV):(x.ren g).isCell=x.isCell:=by cases x<;>rfl
theorem cG.renTo {φ φ':PM} {g:Nat->Nat} {O:Nat->Prop} {w:World} (hk:∀ i k,φ i=aa k->φ' (g i)=aa k) {x:AV} {v:Value} (h:cG φ O w x v):cG φ' O w (x.ren g) v:=by
 induction h with
 |f h=>exact .f h
 |ptr h=>exact .ptr (hk _ _ h)
 |sl h hn hc=>exact .sl (hk _ _ h) hn hc
 |row h hn hc hsh=>exact .row (hk _ _ h) hn hc hsh
 |emp=>exact .emp
 |anyb=>exact .anyb
 |mp h=>exact .mp (hk _ _ h)
 |agg hl hcl hr M=>
  simp only[AV.ren,nR];refine .agg (by simpa using hl) (λx I=>?_) λj x v I hv=>?_
  .obtain⟨y,J,rfl⟩:=c9.1 I;rw[Bo];exact hcl y J
  .rw[a8] at I;obtain⟨y,J,rfl⟩:=jx.1 I;exact M j y v J hv
 |tup hl hr M=>
  simp only[AV.ren,nR];refine .tup (by simpa using hl) λj x v I hv=>?_
  rw[a8] at I;obtain⟨y,J,rfl⟩:=jx.1 I;exact M j y v J hv
 |clo hl hr M=>
  simp only[AV.ren,nR];refine .clo (by simpa using hl) λj x v I hv=>?_
  rw[a8] at I;obtain⟨y,J,rfl⟩:=jx.1 I;exact M j y v J hv
theorem cG.renFrom {φ φ':PM} {g:Nat->Nat} {O:Nat->Prop} {w:World} {p:Nat->Bool} (hk:∀ i k,p i=ah->φ (g i)=aa k->φ' i=aa k) {z:AV} {v:Value} (h:cG φ O w z v):∀ x:AV,x.all p=ah->z=x.ren g->cG φ' O w x v:=by
 induction h with
 |f h=>intro x hp e;cases x<;>simp only[AV.ren,reduceCtorEq] at e;cases e;exact .f h
 |ptr h=>intro x hp e;cases x<;>simp only[AV.ren,reduceCtorEq] at e;cases e;exact .ptr (hk _ _ hp h)
 |sl h hn hc=>intro x hp e;cases x<;>simp only[AV.ren,reduceCtorEq] at e;cases e;exact .sl (hk _ _ hp h) hn hc
 |row h hn hc hsh=>intro x hp e;cases x<;>simp only[AV.ren,reduceCtorEq] at e;cases e;exact .row (hk _ _ hp h) hn hc hsh
 |emp=>intro x hp e;cases x<;>simp only[AV.ren,reduceCtorEq] at e;exact .emp
 |anyb=>intro x hp e;cases x<;>simp only[AV.ren,reduceCtorEq] at e;exact .anyb
 |mp h=>intro x hp e;cases x<;>simp only[AV.ren,reduceCtorEq] at e;cases e;exact .mp (hk _ _ hp h)
 |agg hl hcl hr J=>
  intro x hp e;cases x<;>simp only[AV.ren,reduceCtorEq] at e;rename_i l;cases e;rw[nR] at hl hcl hr J;refine .agg (by simpa using hl) (λx I=>?_) λj x v I hv=>?_
  .have:=hcl (x.ren g) (c9.2 ⟨x,I,rfl⟩);rwa [Bo] at this
  .exact J j (x.ren g) v (by rw[a8,I];rfl) hv x (lD hp x (aZ I)) rfl
 |tup hl hr J=>
  intro x hp e;cases x<;>simp only[AV.ren,reduceCtorEq] at e;rename_i l;cases e;rw[nR] at hl hr J;refine .tup (by simpa using hl) λj x v I hv=>?_
  exact J j (x.ren g) v (by rw[a8,I];rfl) hv x (lD hp x (aZ I)) rfl
 |clo hl hr J=>
  intro x hp e;cases x<;>simp only[AV.ren,reduceCtorEq] at e;rename_i l;cases e;rw[nR] at hl hr J;refine .clo (by simpa using hl) λj x v I hv=>?_
  exact J j (x.ren g) v (by rw[a8,I];rfl) hv x (lD hp x (aZ I)) rfl
def BC.ren (g:Nat->Nat):BC->BC
 |.fz l=>.fz l
 |.mx l=>.mx (l.map (AV.ren g))
 |.mp es=>.mp (es.map λp=>(p.1,p.2.ren g))
 |.it s p=>.it s p
def vH.ren (g:Nat->Nat) (b:vH):vH:=⟨b.ty,b.c.ren g⟩
theorem ja.renTo {φ φ':PM} {g:Nat->Nat} {O O':Nat->Prop} {w:World} (hk:∀ x v,cG φ O w x v->cG φ' O' w (x.ren g) v) {b:vH} {o:Obj} (h:ja φ O w b o):ja φ' O' w (b.ren g) o:=by
 obtain⟨ty,c⟩:=b;unfold ja at h ⊢;simp only[vH.ren];cases c with
 |fz l=>
  simp only[BC.ren];obtain⟨arr,h1,h2,J⟩:=h;refine ⟨arr,h1,h2,λj x I=>?_⟩;obtain⟨a,v,c,d⟩:=J j x I;simp only[BC.get] at I;obtain⟨q,_,rfl⟩:=jx.1 I;exact⟨a,v,c,hk _ _ d⟩
 |mx l=>
  simp only[BC.ren];obtain⟨arr,h1,h2,J⟩:=h;refine ⟨arr,h1,by simpa[BC.len] using h2,λj x I=>?_⟩;simp only[BC.get,a8] at I;obtain⟨q,hq,rfl⟩:=jx.1 I;obtain⟨a,v,c,d⟩:=J j q hq;exact⟨by rw[Bo];exact a,v,c,hk _ _ d⟩
 |mp es=>
  simp only[BC.ren];obtain⟨e,c,h1,h2,J⟩:=h;refine ⟨e,c,h1,by rw[h2,yB];rfl,λj x I=>?_⟩;rw[a8] at I;obtain⟨q,hq,rfl⟩:=jx.1 I;obtain⟨m,a,b⟩:=J j q hq;exact⟨m,a,hk _ _ b⟩
 |it s p=>exact h
theorem ja.renFrom {φ φ':PM} {g:Nat->Nat} {O O':Nat->Prop} {w:World} {p:Nat->Bool} (hk:∀ x v,x.all p=ah->cG φ O w (x.ren g) v->cG φ' O' w x v) {b:vH} (hb:b.c.all p=ah) {o:Obj} (h:ja φ O w (b.ren g) o):ja φ' O' w b o:=by
 obtain⟨ty,c⟩:=b;unfold ja at h ⊢;simp only[vH.ren] at h;cases c with
 |fz l=>
  simp only[BC.ren] at h;obtain⟨arr,h1,h2,J⟩:=h;refine ⟨arr,h1,h2,λj x I=>?_⟩;obtain⟨a,v,c,d⟩:=J j x I;simp only[BC.get] at I;obtain⟨q,_,rfl⟩:=jx.1 I;exact⟨a,v,c,hk _ _ rfl d⟩
 |mx l=>
  simp only[BC.ren] at h;obtain⟨arr,h1,h2,J⟩:=h;refine ⟨arr,h1,by simpa[BC.len] using h2,λj x I=>?_⟩;simp only[BC.get] at I;obtain⟨a,v,c,d⟩:=J j (x.ren g) (by simp only[BC.get,a8,I];rfl);rw[Bo] at a;exact⟨a,v,c,hk _ _ (lD hb x (aZ I)) d⟩
 |mp es=>
  simp only[BC.ren] at h;obtain⟨e,c,h1,h2,J⟩:=h;refine ⟨e,c,h1,by rw[h2,yB];rfl,λj x I=>?_⟩;obtain⟨m,a,b⟩:=J j (x.1,x.2.ren g) (by rw[a8,I];rfl);exact⟨m,a,hk _ _ (lD hb x.2 (c9.2 ⟨x,aZ I,rfl⟩)) b⟩
 |it s p=>exact h
mutual
def Bq (g:Nat->Nat):TV->TV
 |.row i=>.row (g i)
 |.rtl i j=>.rtl (g i) j
 |.agg l=>.agg (j8 g l)
 |.tup l=>.tup (j8 g l)
 |.clo q l=>.clo q (j8 g l)
 |.f T v=>.f T v
 |.fel T xs j h off=>.fel T xs j h off
 |.pel a b c d=>.pel (g a) b c d
 |.ptr a b=>.ptr (g a) b
 |.csl a b c=>.csl (g a) b c
 |.emp=>.emp
 |.nil=>.nil
 |.mp i=>.mp (g i)
 |.undef=>.undef
 |.np=>.np
 |.anyb=>.anyb
def j8 (g:Nat->Nat):List TV->List TV
 |[]=>[]
 |x::r=>Bq g x::j8 g r
end
theorem yE (g:Nat->Nat):∀ l,j8 g l=l.map (Bq g)
 |[]=>rfl
 |x::r=>by rw[j8,yE g r];rfl
def lq (g:Nat->Nat):h_->h_
 |.cells ty l=>.cells ty (j8 g l)
 |.rows ty p T xs=>.rows ty p T xs
 |.dead p sz n=>.dead p sz n
 |.mp K V es=>.mp K V es
theorem Gx (g:Nat->Nat) (b:h_):mg (lq g b)=mg b:=by cases b<;>rfl
def F' (g:Nat->Nat) (n:Nat):Nat:=nm (g (ow n))
theorem wn (g:Nat->Nat) (i:Nat):F' g (nm i)=nm (g i):=by unfold F';rw[dQ]
mutual
theorem adq {g:Nat->Nat} {h1 h2:bd} (hrow:∀ i r,dZ h1 i=aa r->dZ h2 (g i)=aa r):∀ (v:TV) (y:AV),ch h1 v=aa y->ch h2 (Bq g v)=aa (y.ren (F' g))
 |.f _ _,y,he=>by simp only[ch,aj] at he;subst he;rfl
 |.fel _ _ _ _ _,y,he=>by simp only[ch,aj] at he;subst he;rfl
 |.pel _ _ _ _,y,he=>by simp only[ch,aj] at he;subst he;simp only[Bq,ch,AV.ren,wn]
 |.ptr _ _,y,he=>by simp only[ch,aj] at he;subst he;simp only[Bq,ch,AV.ren,wn]
 |.csl _ _ _,y,he=>by simp only[ch,aj] at he;subst he;simp only[Bq,ch,AV.ren,wn]
 |.row id,y,he=>by
  simp only[ch] at he;split at he
  .rename_i p sz n hr;simp only[aj] at he;subst he;simp only[Bq,ch,hrow id _ hr];unfold eZ;split
   .rfl
   .simp only[AV.ren,wn]
  .cases he
 |.rtl id jj,y,he=>by
  simp only[ch] at he;split at he
  .rename_i p sz n hr;simp only[aj] at he;subst he;simp only[Bq,ch,hrow id _ hr,AV.ren,wn]
  .cases he
 |.emp,y,he=>by simp only[ch,aj] at he;subst he;rfl
 |.nil,y,he=>by simp only[ch,aj] at he;subst he;rfl
 |.mp _,y,he=>by simp only[ch,aj] at he;subst he;simp only[Bq,ch,AV.ren,wn]
 |.agg l,y,he=>by
  simp only[ch] at he;split at he
  .rename_i l' hl;simp only[aj] at he;subst he;simp only[Bq,ch,pJ hrow l l' hl,AV.ren]
  .cases he
 |.tup l,y,he=>by
  simp only[ch] at he;split at he
  .rename_i l' hl;simp only[aj] at he;subst he;simp only[Bq,ch,pJ hrow l l' hl,AV.ren]
  .cases he
 |.clo q l,y,he=>by
  simp only[ch] at he;split at he
  .rename_i l' hl;simp only[aj] at he;subst he;simp only[Bq,ch,pJ hrow l l' hl,AV.ren]
  .cases he
 |.undef,y,he=>by simp only[ch,aj] at he;subst he;rfl
 |.np,y,he=>by simp only[ch,aj] at he;subst he;rfl
 |.anyb,y,he=>by simp only[ch,aj] at he;subst he;rfl
theorem pJ {g:Nat->Nat} {h1 h2:bd} (hrow:∀ i r,dZ h1 i=aa r->dZ h2 (g i)=aa r):∀ (l:List TV) (l':List AV),cF h1 l=aa l'->cF h2 (j8 g l)=aa (AV.renL (F' g) l')
 |[],l',he=>by simp only[cF,aj] at he;subst he;rfl
 |x::r,l',he=>by
  obtain⟨y,l2,rfl,e1,e2⟩:=cP he;exact ov (adq hrow x y e1) (pJ hrow r l2 e2)
end
theorem BZ {g:Nat->Nat} {h1 h2:bd} (hrow:∀ i r,dZ h1 i=aa r->dZ h2 (g i)=aa r) {b:h_} {y:vH} (he:j9 h1 b=aa y):j9 h2 (lq g b)=aa (y.ren (F' g)):=by
 cases b with
 |rows ty p T xs=>
  simp only[j9] at he;split at he
  .cases he
  .rename_i hc;simp only[aj] at he;subst he;simp only[lq,j9,aC hc];rfl
 |cells ty l=>
  simp only[j9] at he;split at he
  .rename_i I hl;simp only[aj] at he;subst he;simp only[lq,j9,pJ hrow l I hl,nR];rfl
  .cases he
 |dead p sz n=>cases he
 |mp K V es=>
  simp only[j9,aj] at he;subst he;simp only[lq,j9,vH.ren,aj,vH.mk.injEq,zZ];unfold XU;split
  .rfl
  .simp only[BC.ren,yB];rfl
theorem Bp (g:Nat->Nat) (a b:List TV):j8 g (a++b)=j8 g a++j8 g b:=by
 rw[yE,yE,yE,cI]
theorem o8 (g:Nat->Nat):∀ (n:Nat) (T:Ty) (v:T.den) (l:List TV),cellsOf n T v=aa l->j8 g l=l
 |0,_,_,_,he=>by simp[cellsOf] at he
 |n+1,.st t,v,l,he=>o8 g n t v l he
 |n+1,.pr a b,v,l,he=>by
  simp only[cellsOf] at he;split at he
  .rename_i x y J I;simp only[aj] at he;subst he;rw[Bp,o8 g n a v.1 x J,o8 g n b v.2 y I]
  .cases he
 |n+1,.un,v,l,he=>by simp only[cellsOf,aj] at he;subst he;rfl
 |n+1,.ex,v,l,he=>o8 g n La (LQ v) l he
 |n+1,.sm,v,l,he=>o8 g n KI (LP v) l he
 |n+1,.int k,v,l,he=>by simp only[cellsOf,aj] at he;subst he;rfl
 |n+1,.bool,v,l,he=>by simp only[cellsOf,aj] at he;subst he;rfl
 |n+1,.str,v,l,he=>by simp only[cellsOf,aj] at he;subst he;rfl
 |n+1,.sl t,v,l,he=>by simp only[cellsOf,aj] at he;subst he;rfl
abbrev F7:Nat->Nat:=λi=>i
mutual
theorem XF (g:Nat->Nat):∀ (p:PV) (x:p.ty.den),pd g p x=(pd F7 p x).map (j8 g)
 |.d T,x=>by
  simp only[pd];cases h:cellsOf 40 T x with
  |none=>rfl
  |some l=>simp only[b7,o8 g 40 T x l h]
 |.ptr i o,x=>rfl
 |.csl i o z,x=>rfl
 |.clo q i o,x=>rfl
 |.row i,x=>rfl
 |.mp i,x=>rfl
 |.nil,x=>rfl
 |.emp,x=>rfl
 |.agg ps,x=>yF g ps x
theorem yF (g:Nat->Nat):∀ (ps:List PV) (x:(PV.tyL ps).den),qa g ps x=(qa F7 ps x).map (j8 g)
 |[],x=>rfl
 |p::r,x=>by
  simp only[qa];rw[XF g p,yF g r];cases pd F7 p (MB p.ty (PV.tyL r) x) with
  |none=>rfl
  |some a=>
   cases qa F7 r (Jz p.ty (PV.tyL r) x) with
   |none=>rfl
   |some b=>simp only[b7,Bp]
end
def ae2 (o:Option (List TV)):Option TV:=match o with|some l=>aa (.agg l)|none=>af
theorem YW (g:Nat->Nat) (o:Option (List TV)):ae2 (o.map (j8 g))=(ae2 o).map (Bq g):=by cases o<;>rfl
theorem XD (g:Nat->Nat) (p:PV) (x:p.ty.den):r7 g p x=(r7 F7 p x).map (Bq g):=by
 cases p with
 |agg ps=>exact (gA ae2 (yF g ps x)).trans (YW g _)
 |_=>rfl
theorem sw (g:Nat->Nat):∀ (ps:List PV) (x:(PV.tyL ps).den),pj g ps x=(pj F7 ps x).map (j8 g)
 |[],x=>rfl
 |p::r,x=>by
  simp only[pj];rw[XD g p,sw g r];cases r7 F7 p (MB p.ty (PV.tyL r) x) with
  |none=>rfl
  |some a=>
   cases pj F7 r (Jz p.ty (PV.tyL r) x) with
   |none=>rfl
   |some b=>rfl
def Tg (ty:TypeId) (o:Option (List TV)):Option (Option h_):=match o with|some l=>aa (aa (.cells ty l))|none=>af
theorem Tf (g:Nat->Nat) (ty:TypeId) (o:Option (List TV)):Tg ty (o.map (j8 g))=(Tg ty o).map (lj (lq g)):=by cases o<;>rfl
theorem XG (g:Nat->Nat) (b:PB) (x:b.ty.den):Bu g b x=(Bu F7 b x).map (lj (lq g)):=by
 cases b with
 |cells ty ps=>exact (gA (Tg ty) (yF g ps x)).trans (Tf g ty _)
 |_=>rfl
theorem uN (g:Nat->Nat):∀ (bs:List PB) (x:(PB.tyL bs).den),nS g bs x=(nS F7 bs x).map (List.map (lj (lq g)))
 |[],x=>rfl
 |b::r,x=>by
  simp only[nS];rw[XG g b,uN g r];cases Bu F7 b (MB b.ty (PB.tyL r) x) with
  |none=>rfl
  |some a=>
   cases nS F7 r (Jz b.ty (PB.tyL r) x) with
   |none=>rfl
   |some l=>rfl
theorem Bt (g:Nat->Nat):∀ (bs:List PB) (x:(PB.tyL bs).den) (l:List (Option h_)),nS g bs x=aa l->l.length=bs.length
 |[],x,l,h=>by simp only[nS,aj] at h;subst h;rfl
 |b::r,x,l,h=>by
  simp only[nS] at h;split at h
  .split at h
   .rename_i q hq;simp only[aj] at h;subst h;simp[Bt g r _ q hq]
   .cases h
  .cases h
theorem HG (h:bd) (i j:Nat):(kill h i).get j=if j=i then (h.get i).map tZ else h.get j:=by
 unfold kill;cases hb:h.get i with
 |none=>
  simp only[Option.map_none];split
  .rename_i e;rw[e,hb]
  .rfl
 |some b=>rw[PT.get_set];rfl
theorem tX (g:Nat->Nat):∀ (l:List (Option h_)) (i:Nat) (h:bd) (j:Nat),(∀ k,k<l.length->j≠g (i+k))->(y_ g i l h).get j=h.get j
 |[],i,h,j,_=>rfl
 |some c::r,i,h,j,hj=>by
  rw[y_,tX g r (i+1) _ j (λk hk=>by have:=hj (k+1) (by simpa using hk);rwa [show i+1+k=i+(k+1) from by omega]),PT.get_set,aC];exact hj 0 (by simp)
 |none::r,i,h,j,hj=>by
  rw[y_,tX g r (i+1) _ j (λk hk=>by have:=hj (k+1) (by simpa using hk);rwa [show i+1+k=i+(k+1) from by omega]),HG,aC];exact hj 0 (by simp)
theorem tY (g:Nat->Nat):∀ (l:List (Option h_)) (i:Nat) (h:bd),(∀ a b,a<l.length->b<l.length->g (i+a)=g (i+b)->a=b)->∀ (k:Nat) (c:Option h_),l[k]? =aa c->(y_ g i l h).get (g (i+k))=(match c with|some b=>aa b|none=>(h.get (g (i+k))).map tZ)
 |[],i,h,_,k,c,hk=>by simp at hk
 |o::r,i,h,hinj,k,c,hk=>by
  have hinj':∀ a b,a<r.length->b<r.length->g (i+1+a)=g (i+1+b)->a=b:=λa b J hb e=>by
   have:=hinj (a+1) (b+1) (by simpa using J) (by simpa using hb) (by rw[show i+(a+1)=i+1+a from by omega,show i+(b+1)=i+1+b from by omega];exact e);omega
  cases k with
  |zero=>
   simp at hk;subst hk;have hne:∀ k,k<r.length->g (i+0)≠g (i+1+k):=λk hk e=>by
    have:=hinj 0 (k+1) (by simp) (by simpa using hk) (by rw[show i+(k+1)=i+1+k from by omega];exact e);omega
   cases o with
   |some b=>rw[y_,tX g r (i+1) _ _ hne];simp only[c8];rw[PT.get_set,aJ rfl]
   |none=>rw[y_,tX g r (i+1) _ _ hne];simp only[c8];rw[HG,aJ rfl]
  |succ k=>
   have I:r[k]? =aa c:=by simpa using hk
   have hkl:k<r.length:=(be.1 I).1;have hne:g (i+(k+1))≠g i:=λe=>by
    have:=hinj (k+1) 0 (by simpa using hkl) (by simp) (by rw[e];rfl);omega
   rw[show i+(k+1)=i+1+k from by omega] at hne ⊢;cases o with
   |some b=>
    rw[y_,tY g r (i+1) _ hinj' k c I];cases c with
    |some _=>rfl
    |none=>simp only[PT.get_set,aC hne]
   |none=>
    rw[y_,tY g r (i+1) _ hinj' k c I];cases c with
    |some _=>rfl
    |none=>simp only[HG,aC hne]
def wH (h' h:bd):Prop:=∀ i r,dZ h' i=aa r->dZ h i=aa r
section get
variable {h h':bd} {H H':HF} {g:Nat->Nat}
theorem lh.agg {l I:List AV} (hl:gX H H' l I) (hc:∀ x∈I,x.isCell=ah):lh H H' (.agg l) (.agg I):=by
 intro φ E w v hrep hr;cases hr with
 |@agg _ vs hlen hcl hrr=>
  refine .agg (by rw[hlen,<-hl.length]) hc λj y u J hu=>?_
  obtain⟨x,M,hle⟩:=hl.get j y J;exact hle φ E w u hrep (hrr j x u M hu)
theorem NU (hr:wH h' h) {i:Nat} {y M:AV} (J:ch h (.row i)=aa y) (I:ch h' (.row i)=aa M):M=y:=by
 simp only[ch] at J I;cases h1:dZ h' i with
 |none=>rw[h1] at I;cases I
 |some r=>
  rw[h1] at I;rw[hr i r h1] at J;rw[J] at I;cases I;rfl
mutual
theorem aa7 (d:ui H H') (hr:wH h' h):∀ (p:PV) (l:List TV) (x:p.ty.den) (m:Nat) (r:List TV) (cs:List TV) (l' cs':List AV),oP g h p l=aa (x,m,r)->pd g p x=aa cs->cF h l=aa l'->cF h' cs=aa cs'->CR h H H' m->∃ l1 l2,l'=l1++l2/\cF h r=aa l2/\gX H H' l1 cs'
 |.d T,l,x,m,r,cs,l',cs',hg,hp,hl,hc,gv=>by
  obtain⟨l1,l2,e1,e2,e3⟩:=qZ d 40 T l x m r l' hg hl gv;have:=(k9 h' 40 T x cs hp).1;rw[hc] at this;cases this;exact⟨l1,l2,e1,e2,e3⟩
 |.ptr i q,l,x,m,r,cs,l',cs',hg,hp,hl,hc,gv=>by
  simp only[oP] at hg;split at hg
  .rename_i i' o' r';split at hg
   .rename_i hb;simp only[au] at hb;have e1:=av hb.1;have e2:=av hb.2;subst e1;subst e2;simp only[aj,aB] at hg;obtain⟨_,_,rfl⟩:=hg;simp only[pd,aj] at hp;subst hp;obtain⟨y,l2,rfl,g1,g2⟩:=cP hl;simp only[ch,aj] at g1;subst g1;simp only[cF,ch,aj] at hc;subst hc;exact⟨[_],l2,rfl,g2,lh.refl d _,trivial⟩
   .cases hg
  .cases hg
 |.csl i q z,l,x,m,r,cs,l',cs',hg,hp,hl,hc,gv=>by
  simp only[oP] at hg;split at hg
  .rename_i i' o' z' r';split at hg
   .rename_i hb;simp only[au] at hb;have e1:=av hb.1.1;have e2:=av hb.1.2;have e3:=av hb.2;subst e1;subst e2;subst e3;simp only[aj,aB] at hg;obtain⟨_,_,rfl⟩:=hg;simp only[pd,aj] at hp;subst hp;obtain⟨y,l2,rfl,g1,g2⟩:=cP hl;simp only[ch,aj] at g1;subst g1;simp only[cF,ch,aj] at hc;subst hc;exact⟨[_],l2,rfl,g2,lh.refl d _,trivial⟩
   .cases hg
  .cases hg
 |.clo q i z,l,x,m,r,cs,l',cs',hg,hp,hl,hc,gv=>by
  simp only[oP] at hg;split at hg
  .rename_i q' i' z' r';split at hg
   .rename_i hb;simp only[au] at hb;have e1:=av hb.1.1;have e2:=av hb.1.2;have e3:=av hb.2;subst e1;subst e2;subst e3;simp only[aj,aB] at hg;obtain⟨_,_,rfl⟩:=hg;simp only[pd,aj] at hp;subst hp;obtain⟨y,l2,rfl,g1,g2⟩:=cP hl;simp only[ch,cF,aj] at g1;subst g1;simp only[cF,ch,aj] at hc;subst hc;exact⟨[_],l2,rfl,g2,lh.refl d _,trivial⟩
   .cases hg
  .cases hg
 |.row i,l,x,m,r,cs,l',cs',hg,hp,hl,hc,gv=>by
  simp only[oP] at hg;split at hg
  .rename_i i' r';split at hg
   .rename_i hb;have e1:=av hb;subst e1;simp only[aj,aB] at hg;obtain⟨_,_,rfl⟩:=hg;simp only[pd,aj] at hp;subst hp;obtain⟨y,l2,rfl,g1,g2⟩:=cP hl;obtain⟨y',l3,rfl,g3,g4⟩:=cP hc;simp only[cF,aj] at g4;subst g4;rw[NU hr g1 g3];exact⟨[_],l2,rfl,g2,lh.refl d _,trivial⟩
   .cases hg
  .cases hg
 |.mp i,l,x,m,r,cs,l',cs',hg,hp,hl,hc,gv=>by
  simp only[oP] at hg;split at hg
  .rename_i i' r';split at hg
   .rename_i hb;have e1:=av hb;subst e1;simp only[aj,aB] at hg;obtain⟨_,_,rfl⟩:=hg;simp only[pd,aj] at hp;subst hp;obtain⟨y,l2,rfl,g1,g2⟩:=cP hl;simp only[ch,aj] at g1;subst g1;simp only[cF,ch,aj] at hc;subst hc;exact⟨[_],l2,rfl,g2,lh.refl d _,trivial⟩
   .cases hg
  .cases hg
 |.nil,l,x,m,r,cs,l',cs',hg,hp,hl,hc,gv=>by
  simp only[oP] at hg;split at hg
  .simp only[aj,aB] at hg;obtain⟨_,_,rfl⟩:=hg;simp only[pd,aj] at hp;subst hp;obtain⟨y,l2,rfl,g1,g2⟩:=cP hl;simp only[ch,aj] at g1;subst g1;simp only[cF,ch,aj] at hc;subst hc;exact⟨[_],l2,rfl,g2,lh.refl d _,trivial⟩
  .cases hg
 |.emp,l,x,m,r,cs,l',cs',hg,hp,hl,hc,gv=>by
  simp only[oP] at hg;split at hg
  .simp only[aj,aB] at hg;obtain⟨_,_,rfl⟩:=hg;simp only[pd,aj] at hp;subst hp;obtain⟨y,l2,rfl,g1,g2⟩:=cP hl;simp only[ch,aj] at g1;subst g1;simp only[cF,ch,aj] at hc;subst hc;exact⟨[_],l2,rfl,g2,Le.nilEmp.toH d,trivial⟩
  .simp only[aj,aB] at hg;obtain⟨_,_,rfl⟩:=hg;simp only[pd,aj] at hp;subst hp;obtain⟨y,l2,rfl,g1,g2⟩:=cP hl;simp only[ch,aj] at g1;subst g1;simp only[cF,ch,aj] at hc;subst hc;exact⟨[_],l2,rfl,g2,lh.refl d _,trivial⟩
  .cases hg
 |.agg ps,l,x,m,r,cs,l',cs',hg,hp,hl,hc,gv=>BV d hr ps l x m r cs l' cs' hg hp hl hc gv
theorem BV (d:ui H H') (hr:wH h' h):∀ (ps:List PV) (l:List TV) (x:(PV.tyL ps).den) (m:Nat) (r:List TV) (cs:List TV) (l' cs':List AV),xN g h ps l=aa (x,m,r)->qa g ps x=aa cs->cF h l=aa l'->cF h' cs=aa cs'->CR h H H' m->∃ l1 l2,l'=l1++l2/\cF h r=aa l2/\gX H H' l1 cs'
 |[],l,x,m,r,cs,l',cs',hg,hp,hl,hc,gv=>by
  simp only[xN,aj,aB] at hg;obtain⟨_,_,rfl⟩:=hg;simp only[qa,aj] at hp;subst hp;simp only[cF,aj] at hc;subst hc;exact⟨[],l',rfl,hl,trivial⟩
 |p::ps,l,x,m,r,cs,l',cs',hg,hp,hl,hc,gv=>by
  simp only[xN] at hg;split at hg
  .rename_i x1 m1 r1 h1;split at hg
   .rename_i x2 m2 r2 h2;simp only[aj,aB] at hg;obtain⟨rfl,rfl,rfl⟩:=hg;simp only[qa,sj,tU] at hp;split at hp
    .rename_i a ha;split at hp
     .rename_i b hb;simp only[aj] at hp;subst hp;obtain⟨a',b',rfl,ea,eb⟩:=AE hc;obtain⟨ga,gb⟩:=gv.or;obtain⟨l1,l2,rfl,q1,q2⟩:=aa7 d hr p l _ _ _ a l' a' h1 ha hl ea ga;obtain⟨l3,l4,rfl,q3,q4⟩:=BV d hr ps _ _ _ _ b l2 b' h2 hb q1 eb gb;exact⟨l1++l3,l4,by simp,q3,q2.append q4⟩
     .cases hp
    .cases hp
   .cases hg
  .cases hg
end
mutual
theorem Ve:∀ (p:PV) (x:p.ty.den) (cs:List TV),pd g p x=aa cs->j6 cs=ah
 |.d T,x,cs,hp=>(k9 PT.leaf 40 T x cs hp).2
 |.ptr i q,x,cs,hp=>by simp only[pd,aj] at hp;subst hp;rfl
 |.csl i q z,x,cs,hp=>by simp only[pd,aj] at hp;subst hp;rfl
 |.clo q i z,x,cs,hp=>by simp only[pd,aj] at hp;subst hp;rfl
 |.row i,x,cs,hp=>by simp only[pd,aj] at hp;subst hp;rfl
 |.mp i,x,cs,hp=>by simp only[pd,aj] at hp;subst hp;rfl
 |.nil,x,cs,hp=>by simp only[pd,aj] at hp;subst hp;rfl
 |.emp,x,cs,hp=>by simp only[pd,aj] at hp;subst hp;rfl
 |.agg ps,x,cs,hp=>vP ps x cs hp
theorem vP:∀ (ps:List PV) (x:(PV.tyL ps).den) (cs:List TV),qa g ps x=aa cs->j6 cs=ah
 |[],x,cs,hp=>by simp only[qa,aj] at hp;subst hp;rfl
 |p::ps,x,cs,hp=>by
  simp only[qa] at hp;split at hp
  .rename_i a ha;split at hp
   .rename_i b hb;simp only[aj] at hp;subst hp;exact Qq (Ve p _ a ha) (vP ps _ b hb)
   .cases hp
  .cases hp
end
theorem aa6 (d:ui H H') (hr:wH h' h) {p:PV} {v:TV} {x:p.ty.den} {m:Nat} {u:TV} {y M:AV} (hg:wh g h p v=aa (x,m)) (hp:r7 g p x=aa u) (J:ch h v=aa y) (I:ch h' u=aa M) (Z:CR h H H' m):lh H H' y M:=by
 cases p with
 |d T=>
  simp only[r7,aj] at hp;subst hp;simp only[ch,aj] at I;subst I;exact (Nd d hg J Z).1
 |agg ps=>
  simp only[wh] at hg;split at hg
  .cases hg
  .rename_i hc;split at hg
   .rename_i l hl;split at hg
    .rename_i x1 m1 h1;simp only[aj,aB] at hg;obtain⟨rfl,rfl⟩:=hg;simp only[r7] at hp;split at hp
     .rename_i cs hcs;simp only[aj] at hp;subst hp;simp only[ch] at I;split at I
      .rename_i cs' hcs';simp only[aj] at I;subst I;obtain⟨e1,e2⟩:=IE hl J;obtain⟨l1,l2,Y,U,q3⟩:=BV d hr ps l _ _ [] cs y.cs cs' h1 hcs e1 hcs' Z;simp only[cF,aj] at U;subst U;rw[lm] at Y;subst Y;have hcell:∀ x∈cs',x.isCell=ah:=k_ (qW hcs' (vP ps _ cs hcs));cases v with
       |agg q=>
        simp only[ch] at J;split at J
        .simp only[aj] at J;subst J;exact lh.agg q3 hcell
        .cases J
       |f S z=>
        simp only[ch,aj] at J;subst J;have ho:S.one=ai:=by simpa[TV.isC] using hc
        rw[yP] at q3;rw[pK S z ho];intro φ E w v hrep hrel;exact lh.agg q3 hcell φ E w v hrep (Le.aggF _ _ _ _ hrel)
       |tup q=>simp[TV.cs,TV.isC] at hl
       |undef=>simp[TV.cs,TV.isC] at hl
       |np=>simp[TV.isC] at hc
       |anyb=>simp[TV.cs,TV.isC] at hl
       |fel T xs j hj off=>simp[TV.isC] at hc
       |pel id sz j off=>simp[TV.isC] at hc
       |ptr id off=>simp[TV.isC] at hc
       |csl id off z=>simp[TV.isC] at hc
       |row id=>simp[TV.isC] at hc
       |emp=>simp[TV.isC] at hc
       |nil=>simp[TV.isC] at hc
       |mp id=>simp[TV.isC] at hc
       |rtl id jj=>cases hl
       |clo g l=>simp[TV.isC] at hc
      .cases I
     .cases hp
    .cases hg
   .cases hg
 |ptr i q=>
  simp only[r7,aj] at hp;subst hp;simp only[wh] at hg;split at hg
  .rename_i h1;simp only[oP] at h1;split at h1
   .rename_i e;simp only[iD] at e;obtain⟨rfl,_⟩:=e;split at h1
    .rename_i hb;simp only[au] at hb;have e1:=av hb.1;have e2:=av hb.2;subst e1;subst e2;simp only[ch,aj] at J I;subst J;subst I;exact lh.refl d _
    .cases h1
   .cases h1
  .cases hg
 |csl i q z=>
  simp only[r7,aj] at hp;subst hp;simp only[wh] at hg;split at hg
  .rename_i h1;simp only[oP] at h1;split at h1
   .rename_i e;simp only[iD] at e;obtain⟨rfl,_⟩:=e;split at h1
    .rename_i hb;simp only[au] at hb;have e1:=av hb.1.1;have e2:=av hb.1.2;have e3:=av hb.2;subst e1;subst e2;subst e3;simp only[ch,aj] at J I;subst J;subst I;exact lh.refl d _
    .cases h1
   .cases h1
  .cases hg
 |clo q i z=>
  simp only[r7,aj] at hp;subst hp;simp only[wh] at hg;split at hg
  .rename_i h1;simp only[oP] at h1;split at h1
   .rename_i e;simp only[iD] at e;obtain⟨rfl,_⟩:=e;split at h1
    .rename_i hb;simp only[au] at hb;have e1:=av hb.1.1;have e2:=av hb.1.2;have e3:=av hb.2;subst e1;subst e2;subst e3;simp only[ch,cF,aj] at J I;subst J;subst I;exact lh.refl d _
    .cases h1
   .cases h1
  .cases hg
 |row i=>
  simp only[r7,aj] at hp;subst hp;simp only[wh] at hg;split at hg
  .rename_i h1;simp only[oP] at h1;split at h1
   .rename_i e;simp only[iD] at e;obtain⟨rfl,_⟩:=e;split at h1
    .rename_i hb;have e1:=av hb;subst e1;rw[NU hr J I];exact lh.refl d _
    .cases h1
   .cases h1
  .cases hg
 |mp i=>
  simp only[r7,aj] at hp;subst hp;simp only[wh] at hg;split at hg
  .rename_i h1;simp only[oP] at h1;split at h1
   .rename_i e;simp only[iD] at e;obtain⟨rfl,_⟩:=e;split at h1
    .rename_i hb;have e1:=av hb;subst e1;simp only[ch,aj] at J I;subst J;subst I;exact lh.refl d _
    .cases h1
   .cases h1
  .cases hg
 |nil=>
  simp only[r7,aj] at hp;subst hp;simp only[wh] at hg;split at hg
  .rename_i h1;simp only[oP] at h1;split at h1
   .rename_i e;simp only[iD] at e;obtain⟨rfl,_⟩:=e;simp only[ch,aj] at J I;subst J;subst I;exact lh.refl d _
   .cases h1
  .cases hg
 |emp=>
  simp only[r7,aj] at hp;subst hp;simp only[wh] at hg;split at hg
  .rename_i h1;simp only[oP] at h1;split at h1
   .rename_i e;simp only[iD] at e;obtain⟨rfl,_⟩:=e;simp only[ch,aj] at J I;subst J;subst I;exact Le.nilEmp.toH d
   .rename_i e;simp only[iD] at e;obtain⟨rfl,_⟩:=e;simp only[ch,aj] at J I;subst J;subst I;exact lh.refl d _
   .cases h1
  .cases hg
theorem BU (d:ui H H') (hr:wH h' h):∀ (ps:List PV) (vs:List TV) (x:(PV.tyL ps).den) (m:Nat) (us:List TV) (l J:List AV),wP g h ps vs=aa (x,m)->pj g ps x=aa us->cF h vs=aa l->cF h' us=aa J->CR h H H' m->gX H H' l J
 |[],[],x,m,us,l,J,hg,hp,hl,I,M=>by
  simp only[pj,aj] at hp;subst hp;simp only[cF,aj] at hl I;subst hl;subst I;trivial
 |[],_::_,x,m,us,l,J,hg,_,_,_,_=>by simp[wP] at hg
 |_::_,[],x,m,us,l,J,hg,_,_,_,_=>by simp[wP] at hg
 |p::ps,v::vs,x,m,us,l,J,hg,hp,hl,I,M=>by
  simp only[wP] at hg;split at hg
  .rename_i x1 m1 h1;split at hg
   .rename_i x2 m2 h2;simp only[aj,aB] at hg;obtain⟨rfl,rfl⟩:=hg;simp only[pj,sj,tU] at hp;split at hp
    .rename_i a Y;split at hp
     .rename_i b hb;simp only[aj] at hp;subst hp;obtain⟨y,l2,rfl,e1,e2⟩:=cP hl;obtain⟨y',U,rfl,e3,e4⟩:=cP I;obtain⟨ga,Z⟩:=M.or;exact⟨aa6 d hr h1 Y e1 e3 ga,BU d hr ps vs _ _ b l2 U h2 hb e2 e4 Z⟩
     .cases hp
    .cases hp
   .cases hg
  .cases hg
inductive BM (g:Nat->Nat) (h:bd) (m:Nat):h_->h_->Prop
 |rows (ty:TypeId) (p:Bool) (T:Ty) (xs:List T.den):BM g h m (.rows ty p T xs) (.rows ty p T xs)
 |mp (K V:Ty) (es:List (K.den×V.den)):BM g h m (.mp K V es) (.mp K V es)
 |cells (ty:TypeId) (ps:List PV) (x:(PV.tyL ps).den) (l l2:List TV) (m':Nat) (hg:xN g h ps l=aa (x,m',[])) (hp:qa g ps x=aa l2) (hm:∀ i,aL m' i=ah->aL m i=ah):BM g h m (.cells ty l) (.cells ty l2)
theorem BM.mono {m m2:Nat} (hm:∀ i,aL m i=ah->aL m2 i=ah) {b c:h_} (h1:BM g h m b c):BM g h m2 b c:=by
 cases h1 with
 |rows ty p T xs=>exact .rows ty p T xs
 |mp K V es=>exact .mp K V es
 |cells ty ps x l l2 m' hg hp I=>exact .cells ty ps x l l2 m' hg hp λi hi=>hm i (I i hi)
theorem aa8 {i:Nat} {b:PB} {x:b.ty.den} {m:Nat} {c:h_} (hg:Du g h i b=aa (x,m)) (hp:Bu g b x=aa (aa c)):∃ b0,h.get (g i)=aa b0/\BM g h m b0 c:=by
 cases b with
 |rows ty p T=>
  simp only[Du] at hg;split at hg
  .rename_i ty' M S xs hb;split at hg
   .rename_i hc;simp only[au,cN] at hc;obtain⟨rfl,rfl⟩:=hc;split at hg
    .rename_i z I;simp only[aj,aB] at hg;obtain⟨rfl,rfl⟩:=hg;obtain⟨e,rfl⟩:=iR I;cases e;simp only[Bu,aj] at hp;subst hp;exact⟨_,hb,.rows _ _ _ _⟩
    .cases hg
   .cases hg
  .cases hg
 |rowsP ty T=>
  simp only[Du] at hg;split at hg
  .rename_i ty' M S xs hb;split at hg
   .rename_i hc;have hc:ty=ty':=by simpa using hc
    subst hc;split at hg
    .rename_i z I;simp only[aj,aB] at hg;obtain⟨rfl,rfl⟩:=hg;obtain⟨e,rfl⟩:=iR I;cases e;simp only[Bu,aj] at hp;subst hp;exact⟨_,hb,.rows _ _ _ _⟩
    .cases hg
   .cases hg
  .cases hg
 |cells ty ps=>
  simp only[Du] at hg;split at hg
  .rename_i ty' l hb;split at hg
   .rename_i hc;have hc:ty=ty':=by simpa using hc
    subst hc;split at hg
    .rename_i z m1 I;simp only[aj,aB] at hg;obtain⟨rfl,rfl⟩:=hg;simp only[Bu] at hp;split at hp
     .rename_i l2 J;simp only[aj] at hp;subst hp;exact⟨_,hb,.cells ty ps _ l l2 _ I J λ_ h=>h⟩
     .cases hp
    .cases hg
   .cases hg
  .cases hg
 |mp K V=>
  simp only[Du] at hg;split at hg
  .rename_i K' V' es hb;split at hg
   .rename_i z I;simp only[aj,aB] at hg;obtain⟨rfl,rfl⟩:=hg;obtain⟨e,rfl⟩:=iR I;cases e;simp only[Bu,aj] at hp;subst hp;exact⟨_,hb,.mp _ _ _⟩
   .cases hg
  .cases hg
 |gone=>simp[Bu] at hp
theorem HI:∀ (bs:List PB) (i:Nat) (x:(PB.tyL bs).den) (m:Nat) (I:List (Option h_)),zw g h i bs=aa (x,m)->nS g bs x=aa I->∀ (k:Nat) c,I[k]? =aa (aa c)->∃ b0,h.get (g (i+k))=aa b0/\BM g h m b0 c
 |[],i,x,m,I,hg,hp,k,c,hk=>by
  simp only[nS,aj] at hp;subst hp;simp at hk
 |b::r,i,x,m,I,hg,hp,k,c,hk=>by
  simp only[zw] at hg;split at hg
  .rename_i U m1 h1;split at hg
   .rename_i M m2 h2;simp only[aj,aB] at hg;obtain⟨rfl,rfl⟩:=hg;simp only[nS,sj,tU] at hp;split at hp
    .rename_i a J;split at hp
     .rename_i q hq;simp only[aj] at hp;subst hp;cases k with
      |zero=>
       simp at hk;subst hk;obtain⟨b0,e1,e2⟩:=aa8 h1 J;exact⟨b0,e1,e2.mono λi hi=>by rw[bl,hi];rfl⟩
      |succ k=>
       obtain⟨b0,e1,e2⟩:=HI r (i+1) _ _ q h2 hq k c (by simpa using hk);rw[show i+1+k=i+(k+1) from by omega] at e1;exact⟨b0,e1,e2.mono λi hi=>by rw[bl,hi];simp⟩
     .cases hp
    .cases hp
   .cases hg
  .cases hg
end get
theorem OY {σ:PT Nat} {i a:Nat} (h:σ.get i=aa a):gW σ i=a:=by unfold gW;rw[h]
theorem T2 {σ:PT Nat}:∀ (n i acc sm:Nat),Xx σ n i acc=aa sm->
 (∀ k,k<n->aL acc (gW σ (i+k))=ai)/\(∀ a b,a<n->b<n->gW σ (i+a)=gW σ (i+b)->a=b)/\∀ q,aL sm q=ah↔aL acc q=ah\/∃ k,k<n/\gW σ (i+k)=q
 |0,i,acc,sm,h=>by
  simp only[Xx,aj] at h;subst h;exact⟨λk hk=>by omega,λa b J=>by omega,λq=>⟨.inl,λhq=>hq.elim id λ⟨k,hk,_⟩=>by omega⟩⟩
 |n+1,i,acc,sm,h=>by
  simp only[Xx] at h;split at h
  .rename_i a J;split at h
   .cases h
   .rename_i hna;have hna:aL acc a=ai:=by simpa using hna
    have hga:=OY J;obtain⟨h1,h2,M⟩:=T2 n (i+1) (acc|||ko a) sm h;have hne:∀ k,k<n->gW σ (i+1+k)≠a/\aL acc (gW σ (i+1+k))=ai:=λk hk=>by
     have:=h1 k hk;rw[bl,Bool.or_eq_false_iff] at this;refine ⟨λe=>?_,this.1⟩;have I:=this.2;rw[e] at I;rw[bT.2 rfl] at I;cases I
    refine ⟨λk hk=>?_,λx y Y U hxy=>?_,λq=>?_⟩
    .cases k with
     |zero=>rw[c8,hga];exact hna
     |succ k=>rw[show i+(k+1)=i+1+k from by omega];exact (hne k (by omega)).2
    .cases x with
     |zero=>
      cases y with
      |zero=>rfl
      |succ y=>
       rw[c8,hga,show i+(y+1)=i+1+y from by omega] at hxy;exact cX hxy.symm (hne y (by omega)).1
     |succ x=>
      cases y with
      |zero=>
       rw[show i+0=i from rfl,hga,show i+(x+1)=i+1+x from by omega] at hxy;exact cX hxy (hne x (by omega)).1
      |succ y=>
       rw[show i+(x+1)=i+1+x from by omega,show i+(y+1)=i+1+y from by omega] at hxy;have:=h2 x y (by omega) (by omega) hxy;omega
    .rw[M,bl,iE];constructor
     .rintro ((hq|hq)|⟨k,hk,hq⟩)
      .exact .inl hq
      .exact .inr ⟨0,by omega,by rw[c8,hga];exact bT.1 hq⟩
      .exact .inr ⟨k+1,by omega,by rw[show i+(k+1)=i+1+k from by omega];exact hq⟩
     .rintro (hq|⟨k,hk,hq⟩)
      .exact .inl (.inl hq)
      .cases k with
       |zero=>rw[c8,hga] at hq;exact .inl (.inr (bT.2 hq))
       |succ k=>exact .inr ⟨k,by omega,by rw[show i+1+k=i+(k+1) from by omega];exact hq⟩
  .cases h
theorem O5 {σ:PT Nat}:∀ (n:Nat),Uz σ n=ah->∀ i,i<n->gW σ i=i
 |0,_,i,hi=>by omega
 |n+1,h,i,hi=>by
  simp only[Uz,au] at h;by_cases e:i=n
  .subst e;cases I:σ.get i with
   |none=>rw[I] at h;exact cX h.1 (by simp)
   |some a=>rw[I] at h;rw[OY I];exact av h.1
  .exact O5 n h.2 i (by omega)
structure Gj (np:Nat) (t:Tm) (vs:List TV) (h:bd) (z:t.ty.den) (m:Nat) (σ:PT Nat) (sm:Nat):Prop where
 ex:∃ x m1 y m2,z=Rw _ _ x y/\m=m1|||m2/\wP (gW σ) h t.vs vs=aa (x,m1)/\zw (gW σ) h 0 t.bs=aa (y,m2)
 inj:∀ a b,a<t.bs.length->b<t.bs.length->gW σ a=gW σ b->a=b
 sig:∀ q,aL sm q=ah↔∃ k,k<t.bs.length/\gW σ k=q
 disj:∀ i,aL m i=ah->aL sm i=ai
 fix:∀ i,i<np->gW σ i=i
theorem uX {np:Nat} {t:Tm} {vs:List TV} {h:bd} {z:t.ty.den} {m:Nat} {σ:PT Nat} {sm:Nat} (hm:C_ np t vs h=aa ⟨z,m,σ,sm⟩):Gj np t vs h z m σ sm:=by
 unfold C_ at hm;rw[MC] at hm;split at hm
 .rename_i sm' hs;split at hm
  .rename_i x m1 h1;split at hm
   .rename_i y m2 h2;split at hm
    .rename_i hc;simp only[au] at hc;simp only[aj,acx.mk.injEq] at hm;obtain⟨rfl,rfl,rfl,rfl⟩:=hm;obtain⟨M,J,I⟩:=T2 _ _ _ _ hs;simp only[bJ] at M J I;exact⟨⟨x,m1,y,m2,rfl,rfl,h1,h2⟩,J,λq=>by rw[I];simp,λi hi=>wC hc.1 i hi,O5 np hc.2⟩
    .cases hm
   .cases hm
  .cases hm
 .cases hm
mutual
theorem xO {g:Nat->Nat} {h:bd}:∀ (p:PV) (l:List TV) (x:p.ty.den) (m:Nat) (r:List TV),oP g h p l=aa (x,m,r)->dH h m
 |.d T,l,x,m,r,hg=>tV 40 T l x m r hg
 |.ptr i q,l,x,m,r,hg=>by
  simp only[oP] at hg;split at hg
  .split at hg
   .simp only[aj,aB] at hg;obtain⟨_,rfl,_⟩:=hg;exact dH.zero h
   .cases hg
  .cases hg
 |.csl i q z,l,x,m,r,hg=>by
  simp only[oP] at hg;split at hg
  .split at hg
   .simp only[aj,aB] at hg;obtain⟨_,rfl,_⟩:=hg;exact dH.zero h
   .cases hg
  .cases hg
 |.clo q i z,l,x,m,r,hg=>by
  simp only[oP] at hg;split at hg
  .split at hg
   .simp only[aj,aB] at hg;obtain⟨_,rfl,_⟩:=hg;exact dH.zero h
   .cases hg
  .cases hg
 |.row i,l,x,m,r,hg=>by
  simp only[oP] at hg;split at hg
  .split at hg
   .simp only[aj,aB] at hg;obtain⟨_,rfl,_⟩:=hg;exact dH.zero h
   .cases hg
  .cases hg
 |.mp i,l,x,m,r,hg=>by
  simp only[oP] at hg;split at hg
  .split at hg
   .simp only[aj,aB] at hg;obtain⟨_,rfl,_⟩:=hg;exact dH.zero h
   .cases hg
  .cases hg
 |.nil,l,x,m,r,hg=>by
  simp only[oP] at hg;split at hg
  .simp only[aj,aB] at hg;obtain⟨_,rfl,_⟩:=hg;exact dH.zero h
  .cases hg
 |.emp,l,x,m,r,hg=>by
  simp only[oP] at hg;split at hg
  .simp only[aj,aB] at hg;obtain⟨_,rfl,_⟩:=hg;exact dH.zero h
  .simp only[aj,aB] at hg;obtain⟨_,rfl,_⟩:=hg;exact dH.zero h
  .cases hg
 |.agg ps,l,x,m,r,hg=>F9 ps l x m r hg
theorem F9 {g:Nat->Nat} {h:bd}:∀ (ps:List PV) (l:List TV) (x:(PV.tyL ps).den) (m:Nat) (r:List TV),xN g h ps l=aa (x,m,r)->dH h m
 |[],l,x,m,r,hg=>by
  simp only[xN,aj,aB] at hg;obtain⟨_,rfl,_⟩:=hg;exact dH.zero h
 |p::ps,l,x,m,r,hg=>by
  simp only[xN] at hg;split at hg
  .rename_i x1 m1 r1 h1;split at hg
   .rename_i x2 m2 r2 h2;simp only[aj,aB] at hg;obtain⟨_,rfl,_⟩:=hg;exact (xO p l x1 m1 r1 h1).or (F9 ps r1 _ _ _ h2)
   .cases hg
  .cases hg
end
theorem adn {g:Nat->Nat} {h:bd} {p:PV} {v:TV} {x:p.ty.den} {m:Nat} (hg:wh g h p v=aa (x,m)):dH h m:=by
 cases p with
 |d T=>exact UT hg
 |agg ps=>
  simp only[wh] at hg;split at hg
  .cases hg
  .split at hg
   .split at hg
    .rename_i I m1 h1;simp only[aj,aB] at hg;obtain⟨_,rfl⟩:=hg;exact F9 ps _ _ _ _ h1
    .cases hg
   .cases hg
 |ptr i q=>
  simp only[wh] at hg;split at hg
  .rename_i h1;simp only[aj,aB] at hg;obtain⟨_,rfl⟩:=hg;exact xO _ _ _ _ _ h1
  .cases hg
 |csl i q z=>
  simp only[wh] at hg;split at hg
  .rename_i h1;simp only[aj,aB] at hg;obtain⟨_,rfl⟩:=hg;exact xO _ _ _ _ _ h1
  .cases hg
 |clo q i z=>
  simp only[wh] at hg;split at hg
  .rename_i h1;simp only[aj,aB] at hg;obtain⟨_,rfl⟩:=hg;exact xO _ _ _ _ _ h1
  .cases hg
 |row i=>
  simp only[wh] at hg;split at hg
  .rename_i h1;simp only[aj,aB] at hg;obtain⟨_,rfl⟩:=hg;exact xO _ _ _ _ _ h1
  .cases hg
 |mp i=>
  simp only[wh] at hg;split at hg
  .rename_i h1;simp only[aj,aB] at hg;obtain⟨_,rfl⟩:=hg;exact xO _ _ _ _ _ h1
  .cases hg
 |nil=>
  simp only[wh] at hg;split at hg
  .rename_i h1;simp only[aj,aB] at hg;obtain⟨_,rfl⟩:=hg;exact xO _ _ _ _ _ h1
  .cases hg
 |emp=>
  simp only[wh] at hg;split at hg
  .rename_i h1;simp only[aj,aB] at hg;obtain⟨_,rfl⟩:=hg;exact xO _ _ _ _ _ h1
  .cases hg
theorem F8 {g:Nat->Nat} {h:bd}:∀ (ps:List PV) (vs:List TV) (x:(PV.tyL ps).den) (m:Nat),wP g h ps vs=aa (x,m)->dH h m
 |[],[],x,m,hg=>by simp only[wP,aj,aB] at hg;obtain⟨_,rfl⟩:=hg;exact dH.zero h
 |[],_::_,x,m,hg=>by simp[wP] at hg
 |_::_,[],x,m,hg=>by simp[wP] at hg
 |p::ps,v::vs,x,m,hg=>by
  simp only[wP] at hg;split at hg
  .rename_i J m1 h1;split at hg
   .rename_i I m2 h2;simp only[aj,aB] at hg;obtain⟨_,rfl⟩:=hg;exact (adn h1).or (F8 ps vs I m2 h2)
   .cases hg
  .cases hg
theorem ado {g:Nat->Nat} {h:bd} {i:Nat} {b:PB} {x:b.ty.den} {m:Nat} (hg:Du g h i b=aa (x,m)):dH h m:=by
 cases b with
 |rows ty p T=>
  simp only[Du] at hg;split at hg
  .split at hg
   .split at hg
    .simp only[aj,aB] at hg;obtain⟨_,rfl⟩:=hg;exact dH.zero h
    .cases hg
   .cases hg
  .cases hg
 |rowsP ty T=>
  simp only[Du] at hg;split at hg
  .split at hg
   .split at hg
    .simp only[aj,aB] at hg;obtain⟨_,rfl⟩:=hg;exact dH.zero h
    .cases hg
   .cases hg
  .cases hg
 |cells ty ps=>
  simp only[Du] at hg;split at hg
  .split at hg
   .split at hg
    .rename_i h1;simp only[aj,aB] at hg;obtain⟨_,rfl⟩:=hg;exact F9 ps _ _ _ _ h1
    .cases hg
   .cases hg
  .cases hg
 |mp K V=>
  simp only[Du] at hg;split at hg
  .split at hg
   .simp only[aj,aB] at hg;obtain⟨_,rfl⟩:=hg;exact dH.zero h
   .cases hg
  .cases hg
 |gone=>simp only[Du,aj,aB] at hg;obtain⟨_,rfl⟩:=hg;exact dH.zero h
theorem F_ {g:Nat->Nat} {h:bd}:∀ (bs:List PB) (i:Nat) (x:(PB.tyL bs).den) (m:Nat),zw g h i bs=aa (x,m)->dH h m
 |[],i,x,m,hg=>by simp only[zw,aj,aB] at hg;obtain⟨_,rfl⟩:=hg;exact dH.zero h
 |b::r,i,x,m,hg=>by
  simp only[zw] at hg;split at hg
  .rename_i J m1 h1;split at hg
   .rename_i I m2 h2;simp only[aj,aB] at hg;obtain⟨_,rfl⟩:=hg;exact (ado h1).or (F_ r (i+1) I m2 h2)
   .cases hg
  .cases hg
structure pR (t:Tm) (x:t.ty.den) (vs:List TV) (h1:bd) (l1:List (Option h_)):Prop where
 pv:pj F7 t.vs (MB _ _ x)=aa vs
 pb:nS F7 t.bs (Jz _ _ x)=aa l1
 len:l1.length=t.bs.length
 at_:∀ i b,h1.get i=aa b↔l1[i]? =aa (aa b)
 ok:kr h1 vs=ah
 lt:qy t.bs.length vs=ah
 cells:∀ i ty l,h1.get i=aa (.cells ty l)->kr h1 l=ah/\qy t.bs.length l=ah
theorem XY (l:List (Option h_)) (i:Nat) (b:h_):(y_ F7 0 l PT.leaf).get i=aa b↔l[i]? =aa (aa b):=by
 by_cases hi:i<l.length
 .obtain⟨c,hc⟩:∃ c,l[i]? =aa c:=⟨l[i],ay hi⟩
  have:=tY F7 l 0 PT.leaf (λa b _ _ e=>by simp only[F7] at e;omega) i c hc;rw[show F7 (0+i)=i from by simp only[F7];omega] at this;rw[this,hc];cases c with
  |some b'=>simp
  |none=>simp[PT.get]
 .rw[tX F7 l 0 PT.leaf i (λk hk=>by simp only[F7];omega),bM (by omega)];simp[PT.get]
theorem u_ {t:Tm} {x:t.ty.den} {vs:List TV} {h1:bd} (hi:BI t x=aa (vs,h1)):∃ l1,pR t x vs h1 l1:=by
 unfold BI at hi;split at hi
 .rename_i us hus;split at hi
  .rename_i h hh;split at hi
   .rename_i hc;simp only[au] at hc;simp only[aj,aB] at hi;obtain⟨rfl,rfl⟩:=hi;unfold KM at hh;split at hh
    .rename_i l1 I;simp only[aj] at hh;refine ⟨l1,hus,I,Bt _ _ _ _ I,λi b=>?_,hc.1.1,hc.1.2,λi ty l hil=>?_⟩
     .rw[<- hh];exact XY l1 i b
     .have:=PT.get_all _ h 1 0 i _ hc.2 hil;simpa only[au] using this
    .cases hh
   .cases hi
  .cases hi
 .cases hi
def T_ (nb:Nat) (n:Nat):Bool:=n%2==0&&fR (n/2) nb
theorem Ad {nb i:Nat}:T_ nb (nm i)=ah↔i<nb:=by
 unfold T_ nm;rw[show 2*i%2=0 from by omega,show 2*i/2=i from by omega];simp only[cM,oV];exact⟨λh=>aY h,λh=>bz h⟩
theorem XH {nb n:Nat} (h:T_ nb n=ah):∃ i,i<nb/\n=nm i:=by
 unfold T_ at h;simp only[au,cN] at h;exact⟨n/2,aY h.2,by unfold nm;omega⟩
mutual
theorem adk {nb:Nat} {h:bd}:∀ (v:TV) (y:AV),JI nb v=ah->ch h v=aa y->y.all (T_ nb)=ah
 |.f _ _,y,_,he=>by simp only[ch,aj] at he;subst he;rfl
 |.fel _ _ _ _ _,y,_,he=>by simp only[ch,aj] at he;subst he;rfl
 |.pel id _ _ _,y,hl,he=>by simp only[ch,aj] at he;subst he;exact Ad.2 (aY hl)
 |.ptr id _,y,hl,he=>by simp only[ch,aj] at he;subst he;exact Ad.2 (aY hl)
 |.csl id _ _,y,hl,he=>by simp only[ch,aj] at he;subst he;exact Ad.2 (aY hl)
 |.row id,y,hl,he=>by
  simp only[ch] at he;split at he
  .simp only[aj] at he;subst he;unfold eZ;split
   .rfl
   .exact Ad.2 (aY hl)
  .cases he
 |.rtl id jj,y,hl,he=>by
  simp only[ch] at he;split at he
  .simp only[aj] at he;subst he;exact Ad.2 (aY hl)
  .cases he
 |.emp,y,_,he=>by simp only[ch,aj] at he;subst he;rfl
 |.nil,y,_,he=>by simp only[ch,aj] at he;subst he;rfl
 |.mp id,y,hl,he=>by simp only[ch,aj] at he;subst he;exact Ad.2 (aY hl)
 |.agg l,y,hl,he=>by
  simp only[ch] at he;split at he
  .rename_i l' hl';simp only[aj] at he;subst he;exact sd l l' hl hl'
  .cases he
 |.tup l,y,hl,he=>by
  simp only[ch] at he;split at he
  .rename_i l' hl';simp only[aj] at he;subst he;exact sd l l' hl hl'
  .cases he
 |.clo q l,y,hl,he=>by
  simp only[ch] at he;split at he
  .rename_i l' hl';simp only[aj] at he;subst he;exact sd l l' hl hl'
  .cases he
 |.undef,y,_,he=>by simp only[ch,aj] at he;subst he;rfl
 |.np,y,_,he=>by simp only[ch,aj] at he;subst he;rfl
 |.anyb,y,_,he=>by simp only[ch,aj] at he;subst he;rfl
theorem sd {nb:Nat} {h:bd}:∀ (l:List TV) (l':List AV),qy nb l=ah->cF h l=aa l'->AV.allL (T_ nb) l'=ah
 |[],l',_,he=>by simp only[cF,aj] at he;subst he;rfl
 |x::r,l',hl,he=>by
  obtain⟨y,l2,rfl,e1,e2⟩:=cP he;simp only[qy,au] at hl;simp only[AV.allL,au];exact⟨adk x y hl.1 e1,sd r l2 hl.2 e2⟩
end
theorem pR.blk_all {t:Tm} {x:t.ty.den} {vs:List TV} {h1:bd} {l1:List (Option h_)} (I:pR t x vs h1 l1) {i:Nat} {b:h_} (hb:h1.get i=aa b) {y:vH} (J:j9 h1 b=aa y):y.c.all (T_ t.bs.length)=ah:=by
 cases b with
 |rows ty p T xs=>
  simp only[j9] at J;split at J
  .cases J
  .simp only[aj] at J;subst J;rfl
 |cells ty l=>
  simp only[j9] at J;split at J
  .rename_i M hl;simp only[aj] at J;subst J;exact sd l M (I.cells i ty l hb).2 hl
  .cases J
 |dead p sz n=>cases J
 |mp K V es=>
  simp only[j9,aj] at J;subst J;show BC.all _ (XU K V es)=ah;unfold XU;split
  .rfl
  .simp only[BC.all,yB];have key:∀ l:List (K.den×V.den),AV.allL (T_ t.bs.length) (l.map ((λx=>x.2)∘λp=>(o7 K p.1,AV.f (gw V p.2))))=ah:=λl=>by
    induction l with
    |nil=>rfl
    |cons e r U=>simp only[fV,AV.allL,au];exact⟨rfl,U⟩
   exact key es
theorem pR.lt_len {t:Tm} {x:t.ty.den} {vs:List TV} {h1:bd} {l1:List (Option h_)} (I:pR t x vs h1 l1) {i:Nat} {b:h_} (hb:h1.get i=aa b):i<t.bs.length:=by
 rw[<- I.len];exact (be.1 ((I.at_ i b).1 hb)).1
def φ1 (nb:Nat) (g:Nat->Nat) (φ:PM):PM:=λn=>if T_ nb n then φ (F' g n) else af
theorem Xd {nb:Nat} {g:Nat->Nat} {φ:PM} {i:Nat} (hi:i<nb):φ1 nb g φ (nm i)=φ (nm (g i)):=by
 unfold φ1;rw[aJ (Ad.2 hi),wn]
theorem vK {nb:Nat} {g:Nat->Nat} {φ:PM} {n k:Nat} (h:φ1 nb g φ n=aa k):∃ i,i<nb/\n=nm i/\φ (nm (g i))=aa k:=by
 unfold φ1 at h;split at h
 .rename_i hp;obtain⟨i,hi,rfl⟩:=XH hp;rw[wn] at h;exact⟨i,hi,rfl,h⟩
 .cases h
structure ab5 (t:Tm) (x:t.ty.den) (vs:List TV) (h1:bd) (g:Nat->Nat) (φ:PM) (E E':Nat->Prop) (Hv:HF) (w:World):Prop where
 rep:qd (φ1 t.bs.length g φ) E' (bw h1) w
 val:∀ x v,x.all (T_ t.bs.length)=ah->cG φ (tot E φ Hv) w (x.ren (F' g)) v->cG (φ1 t.bs.length g φ) (tot E' (φ1 t.bs.length g φ) (bw h1)) w x v
 own_:∀ k,own (φ1 t.bs.length g φ) (bw h1) k->own φ Hv k
 tot_:∀ k,tot E' (φ1 t.bs.length g φ) (bw h1) k->tot E φ Hv k
theorem qd.toId {t:Tm} {x:t.ty.den} {vs:List TV} {h1:bd} {l1:List (Option h_)} (I:pR t x vs h1 l1) {g:Nat->Nat} (inj:∀ a b,a<t.bs.length->b<t.bs.length->g a=g b->a=b) {φ:PM} {E E':Nat->Prop} {Hv:HF} {w:World} (r:qd φ E Hv w)
 (hat:∀ i b y,h1.get i=aa b->j9 h1 b=aa y->Hv (nm (g i))=aa (y.ren (F' g)))
 (hE:∀ k,E' k->tot E φ Hv k) (hne:∀ i k b,i<t.bs.length->Hv (nm (g i))=aa b->φ (nm (g i))=aa k->¬E' k) (hel:∀ k,E' k->k<w.heap.size):ab5 t x vs h1 g φ E E' Hv w:=by
 have own1:∀ k,own (φ1 t.bs.length g φ) (bw h1) k->own φ Hv k:=by
  rintro k ⟨n,y,h2,h3⟩;obtain⟨i,hi,rfl,Y⟩:=vK h3;obtain⟨j,b,e,U,J⟩:=je h2;have:=ku e;subst this;exact⟨nm (g i),_,hat i b y U J,Y⟩
 have tot1:∀ k,tot E' (φ1 t.bs.length g φ) (bw h1) k->tot E φ Hv k:=λk hk=>hk.elim (hE k) λh=>.inr (own1 k h)
 have val:∀ x v,x.all (T_ t.bs.length)=ah->cG φ (tot E φ Hv) w (x.ren (F' g)) v->cG (φ1 t.bs.length g φ) (tot E' (φ1 t.bs.length g φ) (bw h1)) w x v:=λx v hx hr=>by
  have h2:cG (φ1 t.bs.length g φ) (tot E φ Hv) w x v:=cG.renFrom (λi k hp hk=>by unfold φ1;rw[aJ hp];exact hk) hr x hx rfl;exact h2.ext (λ_ _ h=>h) (Jm.refl _ w) λk _ hk=>tot1 k hk
 refine ⟨⟨λn n' b b' k Z g2 g3 g4=>?_,λn y Z=>?_,hel,λg' cells hg=>(r.gl g' cells hg).ext (Jm.refl _ w) λk _ hk=>tot1 k hk⟩,val,own1,tot1⟩
 .obtain⟨i,hi,rfl,Y⟩:=vK g3;obtain⟨j,hj,rfl,U⟩:=vK g4;obtain⟨i',c,e,J,M⟩:=je Z;have:=ku e;subst this;obtain⟨j',c',e,h8,h9⟩:=je g2;have:=ku e;subst this;have:=r.inj _ _ _ _ k (hat i c _ J M) (hat j c' _ h8 h9) Y U;rw[inj i j hi hj (ku this)]
 .obtain⟨i,c,rfl,J,M⟩:=je Z;have hi:=I.lt_len J;obtain⟨k,p1,p2,ob,p3,p4⟩:=r.at_ _ _ (hat i c y J M);exact⟨k,by rw[Xd hi];exact p1,hne i k _ hi (hat i c y J M) p1,ob,p3,ja.renFrom val (I.blk_all J M) p4⟩
theorem BM.view {g:Nat->Nat} {h hv:bd} {H H':HF} {m:Nat} (d:ui H H') (Y:CR h H H' m) (hr:wH hv h) {b0 c:h_} (hb:BM g h m b0 c) {y I:vH} (e0:j9 h b0=aa y) (e1:j9 hv c=aa I):jI H H' y I:=by
 cases hb with
 |rows ty p T xs=>
  simp only[j9] at e0 e1;rw[e0] at e1;cases e1;exact jI.refl d y
 |mp K V es=>
  simp only[j9] at e0 e1;rw[e0] at e1;cases e1;exact jI.refl d y
 |cells ty ps x l l2 m' hg hp hm=>
  simp only[j9] at e0 e1;split at e0
  .rename_i U hl;simp only[aj] at e0;subst e0;split at e1
   .rename_i cs' hc;simp only[aj] at e1;subst e1;obtain⟨l1,Z,M,J,q3⟩:=BV d hr ps l x m' [] l2 U cs' hg hp hl hc λi hi=>Y i (hm i hi)
    simp only[cF,aj] at J;subst J;rw[lm] at M;subst M;exact jI.cells rfl rfl q3 (k_ (qW hc (vP ps x l2 hp)))
   .cases e1
  .cases e0
theorem BM.erB_some {g:Nat->Nat} {h hv:bd} {nx m:Nat} (hinv:lG h nx) {i:Nat} {b0 c:h_} (h0:h.get i=aa b0) (hb:BM g h m b0 c) {I:vH} (e1:j9 hv c=aa I):∃ y,j9 h b0=aa y:=by
 cases hb with
 |rows ty p T xs=>exact⟨I,e1⟩
 |mp K V es=>exact⟨I,e1⟩
 |cells ty ps x l l2 m' hg hp hm=>
  obtain⟨J,hl⟩:=eY h l (hinv.cells i ty l h0);exact⟨_,by simp only[j9,hl];rfl⟩
theorem BM.row {g:Nat->Nat} {h:bd} {m:Nat} {b0 c:h_} (hb:BM g h m b0 c):mg c=mg b0:=by
 cases hb<;>rfl
structure o_ (P:Program) (f:FuncId) (c:cq):Prop where
 callable:CL P f
 calls:∀ x y,c.m x=aa y->∀ vs hp l1 rs hq l2 la lr,pR c.pre x vs hp l1->pR c.post y rs hq l2->cF hp vs=aa la->cF hq rs=aa lr->
  ∀ (φ:PM) (E:Nat->Prop) (w:World) (us:List Value),qd φ E (bw hp) w->jH φ (tot E φ (bw hp)) w la us->(∀ n k,φ n=aa k->ow n<c.pre.bs.length)->
  Calls P f us.toArray w λen w'=>∃ v φ',en= .returned v/\Jm (own φ (bw hp)) w w'/\(∀ k,k<w.heap.size->own φ' (bw hq) k->own φ (bw hp) k)/\(∀ i,i<c.pre.bs.length->φ' (nm i)=φ (nm i))/\qd φ' E (bw hq) w'/\cG φ' (tot E φ' (bw hq)) w' (CU lr) v
theorem KU {g:Nat->Nat}:∀ (bs:List PB) (x:(PB.tyL bs).den) (l:List (Option h_)),Al bs=ah->nS g bs x=aa l->∀ (i:Nat) (c:Option h_),l[i]? =aa c->∃ b,c=aa b
 |[],x,l,_,hp,i,c,hc=>by simp only[nS,aj] at hp;subst hp;simp at hc
 |b::r,x,l,hn,hp,i,c,hc=>by
  simp only[nS] at hp;split at hp
  .rename_i a I;split at hp
   .rename_i q hq;simp only[aj] at hp;subst hp;cases i with
    |zero=>
     simp at hc;subst hc;cases b with
     |gone=>simp[Al] at hn
     |rows ty p T=>simp only[Bu,aj] at I;exact⟨_,I.symm⟩
     |rowsP ty T=>simp only[Bu,aj] at I;exact⟨_,I.symm⟩
     |cells ty ps=>
      simp only[Bu] at I;split at I
      .simp only[aj] at I;exact⟨_,I.symm⟩
      .cases I
     |mp K V=>simp only[Bu,aj] at I;exact⟨_,I.symm⟩
    |succ i=>
     refine KU r _ q ?_ hq i c (by simpa using hc);cases b<;>first|exact hn|simp[Al] at hn
   .cases hp
  .cases hp
theorem D9 {h h2:bd} {g:Nat->Nat}:∀ n,sK h h2 g n=ah->∀ i,i<n->∀ r,dZ h (g i)=aa r->dZ h2 (g i)=aa r
 |0,_,i,hi,_,_=>by omega
 |n+1,hs,i,hi,r,hr=>by
  simp only[sK,au] at hs;by_cases e:i=n
  .subst e;obtain⟨p,s,k⟩:=r;have h1:=hs.1;rw[hr] at h1;cases I:dZ h2 (g i) with
   |none=>rw[I] at h1;cases h1
   |some q=>
    obtain⟨J,s',k'⟩:=q;rw[I] at h1;simp only[au,cN] at h1;rw[h1.1.1,av h1.1.2,av h1.2]
  .exact D9 n hs.2 i (by omega) r hr
theorem jH.le {H H':HF} {φ:PM} {E:Nat->Prop} {w:World} (r:qd φ E H w):∀ {l I:List AV} {us:List Value},gX H H' l I->jH φ (tot E φ H) w l us->jH φ (tot E φ H') w I us
 |[],[],[],_,_=>trivial
 |[],[],_::_,_,h=>h.elim
 |_::_,_::_,[],_,h=>h.elim
 |[],_::_,_,h,_=>h.elim
 |_::_,[],_,h,_=>h.elim
 |_::_,_::_,_::_,hl,h=>⟨hl.1 _ _ _ _ r h.1,jH.le r hl.2 h.2⟩
theorem jH.toId {φ φ':PM} {O O':Nat->Prop} {w:World} {γ:Nat->Nat} {p:Nat->Bool} (hv:∀ x v,x.all p=ah->cG φ O w (x.ren γ) v->cG φ' O' w x v):∀ {l:List AV} {us:List Value},AV.allL p l=ah->jH φ O w (AV.renL γ l) us->jH φ' O' w l us
 |[],[],_,_=>trivial
 |[],_::_,_,h=>h.elim
 |_::_,[],_,h=>h.elim
 |_::_,_::_,hp,h=>by
  simp only[AV.allL,au] at hp;exact⟨hv _ _ hp.1 h.1,jH.toId hv hp.2 h.2⟩
theorem T7 {h:bd}:∀ {rs:List TV} {lr:List AV},cF h rs=aa lr->ch h (NX rs)=aa (CU lr)
 |[],lr,he=>by simp only[cF,aj] at he;subst he;rfl
 |[x],lr,he=>by
  obtain⟨y,l2,rfl,e1,e2⟩:=cP he;simp only[cF,aj] at e2;subst e2;exact e1
 |x::y::r,lr,he=>by
  obtain⟨J,l2,rfl,e1,e2⟩:=cP he;obtain⟨I,M,rfl,e3,U⟩:=cP e2;simp only[NX,ch,he,CU]
theorem Xm (γ:Nat->Nat):∀ l:List AV,CU (AV.renL γ l)=(CU l).ren γ
 |[]=>rfl
 |[x]=>rfl
 |x::y::r=>rfl
theorem Xn {p:Nat->Bool}:∀ {l:List AV},AV.allL p l=ah->(CU l).all p=ah
 |[],_=>rfl
 |[x],h=>by simp only[AV.allL,au] at h;exact h.1
 |x::y::r,h=>h
theorem Z0 {nx I q:Nat}:aL (((1<<<I)-1)<<<nx) q=ah↔nx<=q/\q<nx+I:=by
 rw[Nat.testBit_shiftLeft,Nat.one_shiftLeft,Nat.testBit_two_pow_sub_one];simp only[au,bP];omega
theorem YK {P:Program} {o:Oper} {e:iy} {h:bd} {nx:Nat} {f:FuncId} {c:cq} {l:List TV} (hinv:lG h nx) (sp:o_ P f c) {x:c.pre.ty.den} {m:Nat} {σ:PT Nat} {sm:Nat} (M:Gj 0 c.pre l h x m σ sm) {vs:List TV} {hp:bd} {l1:List (Option h_)} (I:pR c.pre x vs hp l1) (hng:Al c.pre.bs=ah) {y:c.post.ty.den} (hm:c.m x=aa y) {rs:List TV} {hq:bd} {l2:List (Option h_)} (J:pR c.post y rs hq l2) (hle:c.pre.bs.length<=c.post.bs.length)
 {g:Nat->Nat} (glo:∀ i,i<c.pre.bs.length->g i=gW σ i) (ghi:∀ i,c.pre.bs.length<=i->g i=nx+(i-c.pre.bs.length)) {h2:bd} (hh2:h2=y_ g 0 (l2.map (lj (lq g))) (d_ m h)) (hsr:sK h h2 g c.pre.bs.length=ah) {la:List AV} (hla:cF h l=aa la)
 (hexec:∀ (φ:PM) (E:Nat->Prop) (h':HF) (w:World) (a:Act),(∀ t,.tmp t∈o.op.operands->∀ y,fD e h t=aa y->cG φ (tot E φ h') w y (a.tmps.getD t undef))->qd φ E h' w->∃ us:List Value,(execOp a.eval o).run P w= .ok (.enter f us.toArray) w/\jH φ (tot E φ h') w la us):
 iS P o ai e h nx (NX (j8 g rs)) (sm|||m) (sm|||m|||(((1<<<(c.post.bs.length-c.pre.bs.length))-1)<<<nx)) h2 (nx+(c.post.bs.length-c.pre.bs.length)):=by
 obtain⟨x1,m1,x2,m2,hx,hmm,gv,gb⟩:=M.ex;have hmr:dH h m:=by rw[hmm];exact (F8 _ _ _ _ gv).or (F_ _ _ _ _ gb)
 generalize hnp:c.pre.bs.length=np at*
 generalize hnq:c.post.bs.length=nq at*
 have pvg:pj (gW σ) c.pre.vs x1=aa (j8 (gW σ) vs):=by
  have Y:=sw (gW σ) c.pre.vs x1;have h4:=I.pv;rw[hx,sj] at h4;rw[Y,h4];rfl
 have pbg:nS (gW σ) c.pre.bs x2=aa (l1.map (lj (lq (gW σ)))):=by
  have Y:=uN (gW σ) c.pre.bs x2;have h4:=I.pb;rw[hx,tU] at h4;rw[Y,h4];rfl
 have hl1:∀ i,i<np->∃ b,l1[i]? =aa (aa b):=λi hi=>by
  have hi':i<l1.length:=by rw[I.len,hnp];exact hi
  obtain⟨b,hb⟩:=KU c.pre.bs _ l1 hng I.pb i l1[i] (ay hi');exact⟨b,by rw[ay hi',hb]⟩
 have hbm:∀ i b,l1[i]? =aa (aa b)->∃ b0,h.get (gW σ i)=aa b0/\BM (gW σ) h m b0 (lq (gW σ) b):=λi b hb=>by
  obtain⟨b0,U,Z⟩:=HI c.pre.bs 0 x2 m2 _ gb pbg i (lq (gW σ) b) (by rw[a8,hb];rfl);rw[bJ] at U;exact⟨b0,U,Z.mono λj hj=>by rw[hmm,bl,hj];simp⟩
 have inj1:∀ a b,a<np->b<np->gW σ a=gW σ b->a=b:=λa b ha hb=>M.inj a b (by rw[hnp];exact ha) (by rw[hnp];exact hb)
 have sig:∀ q,aL sm q=ah↔∃ k,k<np/\gW σ k=q:=λq=>by rw[M.sig,hnp]
 have gnx:∀ i,i<np->gW σ i<nx:=λi hi=>by
  obtain⟨b,hb⟩:=hl1 i hi;obtain⟨b0,U,_⟩:=hbm i b hb;exact hinv.low _ _ U
 have hmS:∀ i,i<np->aL m (gW σ i)=ai:=λi hi=>by
  cases hx:aL m (gW σ i) with
  |false=>rfl
  |true=>have:=M.disj _ hx;rw[(sig _).2 ⟨i,hi,rfl⟩] at this;cases this
 have injg:∀ a b,a<nq->b<nq->g a=g b->a=b:=λa b ha hb hab=>by
  by_cases h1:a<np
  .by_cases h2:b<np
   .rw[glo a h1,glo b h2] at hab;exact inj1 a b h1 h2 hab
   .rw[glo a h1,ghi b (by omega)] at hab;have:=gnx a h1;omega
  .by_cases h2:b<np
   .rw[ghi a (by omega),glo b h2] at hab;have:=gnx b h2;omega
   .rw[ghi a (by omega),ghi b (by omega)] at hab;omega
 let hv:bd:=y_ (gW σ) 0 (l1.map (lj (lq (gW σ)))) (d_ m h)
 have hv_at:∀ i b,l1[i]? =aa (aa b)->hv.get (gW σ i)=aa (lq (gW σ) b):=λi b hb=>by
  have:=tY (gW σ) (l1.map (lj (lq (gW σ)))) 0 (d_ m h) (λa b ha hb=>by
   simp only[b8,I.len,hnp] at ha hb;simp only[bJ];exact inj1 a b ha hb) i (aa (lq (gW σ) b)) (by rw[a8,hb];rfl)
  rw[bJ] at this;exact this
 have hv_ne:∀ j,(∀ i,i<np->j≠gW σ i)->hv.get j=(d_ m h).get j:=λj hj=>
  tX (gW σ) _ 0 _ j λk hk=>by
   simp only[b8,I.len,hnp] at hk;rw[bJ];exact hj k hk
 have rows_in:wH hv h:=λj r hr=>by
  rw[bO] at hr ⊢;by_cases hj:∃ i,i<np/\j=gW σ i
  .obtain⟨i,hi,rfl⟩:=hj;obtain⟨b,hb⟩:=hl1 i hi;obtain⟨b0,U,Z⟩:=hbm i b hb;rw[hv_at i b hb] at hr;rw[U];simp only[aE] at hr ⊢;rw[<- Z.row];exact hr
  .rw[hv_ne j (λi hi e=>hj ⟨i,hi,e⟩),iI] at hr;split at hr
   .rename_i ht;obtain⟨ty,p,T,xs,hb⟩:=hmr j ht;rw[hb] at hr ⊢;exact hr
   .exact hr
 have rows_hp:∀ i r,dZ hp i=aa r->dZ hv (gW σ i)=aa r:=λi r hr=>by
  rw[bO] at hr ⊢;cases hb:hp.get i with
  |none=>rw[hb] at hr;cases hr
  |some b=>
   rw[hb] at hr;rw[hv_at i b ((I.at_ i b).1 hb)];simp only[aE,Gx] at hr ⊢;exact hr
 have dead_m:∀ i,aL m i=ah->bw hv (nm i)=af:=λi hi=>by
  rw[bE,hv_ne i (λk hk e=>by rw[e,hmS k hk] at hi;cases hi)];obtain⟨p,sz,n,hd⟩:=sG hmr hi;rw[hd];rfl
 have h2_at:∀ i cc,l2[i]? =aa cc->h2.get (g i)=(match cc with|some b=>aa (lq g b)|none=>((d_ m h).get (g i)).map tZ):=λi cc hc=>by
  have:=tY g (l2.map (lj (lq g))) 0 (d_ m h) (λa b ha hb=>by
   simp only[b8,J.len,hnq] at ha hb;simp only[bJ];exact injg a b ha hb) i (cc.map (lq g)) (by rw[a8,hc];rfl)
  rw[bJ] at this;rw[hh2,this];cases cc<;>rfl
 have h2_ne:∀ j,(∀ i,i<nq->j≠g i)->h2.get j=(d_ m h).get j:=λj hj=>by
  rw[hh2];refine tX g _ 0 _ j λk hk=>?_
  simp only[b8,J.len,hnq] at hk;rw[bJ];exact hj k hk
 have rows_hq:∀ i r,dZ hq i=aa r->dZ h2 (g i)=aa r:=λi r hr=>by
  rw[bO] at hr ⊢;cases hb:hq.get i with
  |none=>rw[hb] at hr;cases hr
  |some b=>
   rw[hb] at hr;rw[h2_at i _ ((J.at_ i b).1 hb)];simp only[aE,Gx] at hr ⊢;exact hr
 have rows2:cg h h2:=λj r hr=>by
  by_cases hj:∃ i,i<np/\j=gW σ i
  .obtain⟨i,hi,rfl⟩:=hj;rw[<- glo i hi] at hr ⊢;exact D9 np hsr i hi r hr
  .have hjn:j<nx:=by
    rw[bO] at hr;cases hb:h.get j with
    |none=>rw[hb] at hr;cases hr
    |some b=>exact hinv.low j b hb
   have:=cg.kill m h j r hr;rw[bO] at this ⊢;rw[h2_ne j (λi hi e=>?_)]
   .exact this
   .by_cases hip:i<np
    .exact hj ⟨i,hip,by rw[e,glo i hip]⟩
    .rw[ghi i (by omega)] at e;omega
 obtain⟨lr,hlr⟩:=eY hq rs J.ok;obtain⟨lp,hlp⟩:=eY hp vs I.ok;have er2:∀ i b yb,hq.get i=aa b->j9 hq b=aa yb->bw h2 (nm (g i))=aa (yb.ren (F' g)):=λi b yb hb hyb=>by
  rw[bE,h2_at i _ ((J.at_ i b).1 hb)];exact BZ rows_hq hyb
 have er2':∀ i,i<nq->∀ z,bw h2 (nm (g i))=aa z->∃ b yb,hq.get i=aa b/\j9 hq b=aa yb/\z=yb.ren (F' g):=λi hi z hz=>by
  have hi':i<l2.length:=by rw[J.len,hnq];exact hi
  have hcc:=ay hi';cases hcv:l2[i] with
  |none=>
   rw[hcv] at hcc;rw[bE,h2_at i af hcc] at hz;simp only at hz;cases hkg:(d_ m h).get (g i) with
   |none=>rw[hkg] at hz;cases hz
   |some b0=>rw[hkg] at hz;cases b0<;>simp[tZ,j9] at hz
  |some b=>
   rw[hcv] at hcc;have hb:=(J.at_ i b).2 hcc;rw[bE,h2_at i (aa b) hcc] at hz;have hyb:∃ yb,j9 hq b=aa yb:=by
    cases b with
    |rows ty p T xs=>simp only[aE,lq,j9] at hz ⊢;exact⟨z,hz⟩
    |cells ty q=>
     obtain⟨q',hq'⟩:=eY hq q (J.cells i ty q hb).1;exact⟨_,by simp only[j9,hq'];rfl⟩
    |dead p sz n=>simp[lq,j9] at hz
    |mp K V es=>exact⟨_,rfl⟩
   obtain⟨yb,hyb⟩:=hyb;have:=BZ rows_hq hyb;simp only[aE] at hz;rw[this] at hz;exact⟨b,yb,hb,hyb,by cases hz;rfl⟩
 have dead2:∀ i,aL m i=ah->bw h2 (nm i)=af:=λi hi=>by
  have hlt:=hmr.lt hinv hi;rw[bE,h2_ne i (λk hk e=>?_)]
  .obtain⟨p,sz,n,hd⟩:=sG hmr hi;rw[hd];rfl
  .by_cases hkp:k<np
   .rw[e,glo k hkp,hmS k hkp] at hi;cases hi
   .rw[ghi k (by omega)] at e;omega
 have inv2:lG h2 (nx+(nq-np)):=by
  refine ⟨λj ty q hj=>?_,λj b hj=>?_⟩
  .by_cases hjg:∃ i,i<nq/\j=g i
   .obtain⟨i,hi,rfl⟩:=hjg;have hi':i<l2.length:=by rw[J.len,hnq];exact hi
    have hcc:=ay hi';cases hcv:l2[i] with
    |none=>
     rw[hcv] at hcc;rw[h2_at i af hcc] at hj;simp only at hj;cases hkg:(d_ m h).get (g i) with
     |none=>rw[hkg] at hj;cases hj
     |some b0=>rw[hkg] at hj;cases b0<;>simp[tZ] at hj
    |some b=>
     rw[hcv] at hcc;have hb:=(J.at_ i b).2 hcc;rw[h2_at i (aa b) hcc] at hj;simp only[aj] at hj;cases b with
     |cells ty' q'=>
      simp only[lq,h_.cells.injEq] at hj;obtain⟨_,rfl⟩:=hj;obtain⟨z,hz⟩:=eY hq q' (J.cells i ty' q' hb).1;exact km _ _ _ (pJ rows_hq q' z hz)
     |rows _ _ _ _=>simp[lq] at hj
     |dead _ _ _=>simp[lq] at hj
     |mp _ _ _=>simp[lq] at hj
   .rw[h2_ne j (λi hi e=>hjg ⟨i,hi,e⟩)] at hj;refine iF rows2 q ?_;have hkk:=(hinv.kill m).cells j ty q hj;rw[iI] at hj;split at hj
    .rename_i ht;obtain⟨_,_,_,_,hb⟩:=hmr j ht;rw[hb] at hj;cases hj
    .exact hinv.cells j ty q hj
  .by_cases hjg:∃ i,i<nq/\j=g i
   .obtain⟨i,hi,rfl⟩:=hjg;by_cases hip:i<np
    .rw[glo i hip];have:=gnx i hip;omega
    .rw[ghi i (by omega)];omega
   .rw[h2_ne j (λi hi e=>hjg ⟨i,hi,e⟩)] at hj;have:=(hinv.kill m).low j b hj;omega
 let S:List Nat:=(eT np).map λi=>nm (gW σ i)
 have memS:∀ n,n∈S↔∃ i,i<np/\n=nm (gW σ i):=λn=>by
  simp only[S,c9,mQ];exact⟨λ⟨i,h1,h2⟩=>⟨i,h1,h2.symm⟩,λ⟨i,h1,h2⟩=>⟨i,h1,h2.symm⟩⟩
 let NN:List Nat:=(eT (nq-np)).map λt=>nm (nx+t)
 have memN:∀ n,n∈NN↔∃ t,t<nq-np/\n=nm (nx+t):=λn=>by
  simp only[NN,c9,mQ];exact⟨λ⟨i,h1,h2⟩=>⟨i,h1,h2.symm⟩,λ⟨i,h1,h2⟩=>⟨i,h1,h2.symm⟩⟩
 have memW:∀ n,n∈S++Ee m++NN↔(∃ i,i<nq/\n=nm (g i))\/n∈Ee m:=λn=>by
  rw[bR,bR,memS,memN];constructor
  .rintro ((⟨i,hi,rfl⟩|hn)|⟨t,ht,rfl⟩)
   .exact .inl ⟨i,by omega,by rw[glo i hi]⟩
   .exact .inr hn
   .exact .inl ⟨np+t,by omega,by rw[ghi _ (by omega),show np+t-np=t from by omega]⟩
  .rintro (⟨i,hi,rfl⟩|hn)
   .by_cases hip:i<np
    .exact .inl (.inl ⟨i,hip,by rw[glo i hip]⟩)
    .exact .inr ⟨i-np,by omega,by rw[ghi i (by omega)]⟩
   .exact .inl (.inr hn)
 have hOpT:gB P o (fD e h) (bw h) ⟨CU (AV.renL (F' g) lr),S++Ee m,S++Ee m++NN,bw h2,NN⟩:=by
  intro φ E h' w a hrd hwr hops hrep hN;have hS':∀ i,i<np->h' (nm (gW σ i))=bw h (nm (gW σ i)):=λi hi=>hrd _ (kJ _ ((memS _).2 ⟨i,hi,rfl⟩))
  have hM':∀ i,aL m i=ah->h' (nm i)=bw h (nm i):=λi hi=>hrd _ (mV _ (kU.2 hi))
  obtain⟨us,hrun,hrel⟩:=hexec φ E h' w a hops hrep
  let Hv:HF:=λn=>if n∈S++Ee m then bw hv n else h' n
  have Hv_in:∀ n,n∈S++Ee m->Hv n=bw hv n:=λn hn=>by simp only[Hv,hn,bB]
  have Hv_out:∀ n,n∉S++Ee m->Hv n=h' n:=λn hn=>by simp only[Hv,hn,dR]
  have blkS:∀ i,i<np->∀ z,bw hv (nm (gW σ i))=aa z->∃ b0 b y0,h.get (gW σ i)=aa b0/\l1[i]? =aa (aa b)/\BM (gW σ) h m b0 (lq (gW σ) b)/\j9 h b0=aa y0/\j9 hv (lq (gW σ) b)=aa z:=λi hi z hz=>by
   obtain⟨b,hb⟩:=hl1 i hi;obtain⟨b0,U,Z⟩:=hbm i b hb;rw[bE,hv_at i b hb] at hz;simp only[aE] at hz;obtain⟨y0,hy0⟩:=BM.erB_some hinv U Z hz;exact⟨b0,b,y0,U,hb,Z,hy0,hz⟩
  have hd:ui h' Hv:=λn b hb=>by
   by_cases hn:n∈S++Ee m
   .rw[Hv_in n hn] at hb;rcases bR.1 hn with hs|hs
    .obtain⟨i,hi,rfl⟩:=(memS n).1 hs;obtain⟨b0,b1,y0,U,Z,q3,q4,q5⟩:=blkS i hi b hb;exact⟨y0,by rw[hS' i hi,bE,U];exact q4⟩
    .obtain⟨i,rfl,hi⟩:=ng.1 hs;rw[dead_m i hi] at hb;cases hb
   .rw[Hv_out n hn] at hb;exact⟨b,hb⟩
  have gvv:CR h h' Hv m:=λi hi=>⟨hM' i hi,by rw[Hv_in _ (mV _ (kU.2 hi)),dead_m i hi]⟩
  have V:Ja h' Hv:=⟨hd,λn b b' hb hb'=>by
   by_cases hn:n∈S++Ee m
   .rw[Hv_in n hn] at hb';rcases bR.1 hn with hs|hs
    .obtain⟨i,hi,rfl⟩:=(memS n).1 hs;obtain⟨b0,b1,y0,U,Z,q3,q4,q5⟩:=blkS i hi b' hb';rw[hS' i hi,bE,U] at hb;simp only[aE] at hb;exact BM.view hd gvv rows_in q3 hb q5
    .obtain⟨i,rfl,hi⟩:=ng.1 hs;rw[dead_m i hi] at hb';cases hb'
   .rw[Hv_out n hn,hb] at hb';cases hb';exact jI.refl hd b⟩
  have hrepv:=V.rep hrep;have hlpg:cF hv (j8 (gW σ) vs)=aa (AV.renL (F' (gW σ)) lp):=pJ rows_hp vs lp hlp;have hrel1:jH φ (tot E φ Hv) w (AV.renL (F' (gW σ)) lp) us:=
   jH.le hrep (BU hd rows_in c.pre.vs l x1 m1 _ la _ gv pvg hla hlpg (λi hi=>gvv i (by rw[hmm,bl,hi];rfl))) hrel
  let E':Nat->Prop:=λk=>E k\/∃ n b,Hv n=aa b/\n∉S/\φ n=aa k
  have T:ab5 c.pre x vs hp (gW σ) φ E E' Hv w:=by
   refine qd.toId I (λa b ha hb=>inj1 a b (by rw[<- hnp];exact ha) (by rw[<- hnp];exact hb)) hrepv (λi b yb hb hyb=>?_) ?_ ?_ ?_
   .have hi:=I.lt_len hb;rw[hnp] at hi;rw[Hv_in _ (kJ _ ((memS _).2 ⟨i,hi,rfl⟩)),bE,hv_at i b ((I.at_ i b).1 hb)];exact BZ rows_hp hyb
   .rintro k (hE|⟨n,b,h1,_,Y⟩)
    .exact .inl hE
    .exact .inr ⟨n,b,h1,Y⟩
   .rintro i k b hi h1 Y (hE|⟨n,b',h4,h5,h6⟩)
    .obtain⟨k',p1,p2,_⟩:=hrepv.at_ _ _ h1;rw[Y] at p1;cases p1;exact p2 hE
    .have:=hrepv.inj _ _ _ _ k h1 h4 Y h6;exact h5 (by rw[<- this];exact (memS _).2 ⟨i,by rw[<- hnp];exact hi,rfl⟩)
   .rintro k (hE|⟨n,b,h1,_,Y⟩)
    .exact hrepv.el k hE
    .obtain⟨k',U,_,ob,q3,_⟩:=hrepv.at_ n b h1;rw[Y] at U;cases U;exact (cu.1 q3).1
  have hcalls:=sp.calls x y hm vs hp l1 rs hq l2 lp lr I J hlp hlr (φ1 c.pre.bs.length (gW σ) φ) E' w us T.rep (jH.toId T.val (sd vs lp I.lt hlp) hrel1) (λn k hk=>by
   obtain⟨i,hi,rfl,_⟩:=vK hk;rw[dQ];exact hi)
  unfold FU;rw[hrun];refine Calls.mono hcalls ?_;rintro en w' ⟨v,φc',rfl,hext,hown,hnm,rp,rv'⟩
  let isN:Nat->Prop:=λn=>n∈NN
  let φ':PM:=λn=>if n∈NN then φc' (nm (np+(ow n-nx))) else φ n
  have φ'_new:∀ t,t<nq-np->φ' (nm (nx+t))=φc' (nm (np+t)):=λt ht=>by
   have:nm (nx+t)∈NN:=(memN _).2 ⟨t,ht,rfl⟩;simp only[φ',this,bB,dQ];rw[show nx+t-nx=t from by omega]
  have φ'_old:∀ n,n∉NN->φ' n=φ n:=λn hn=>by simp only[φ',hn,dR]
  have loN:∀ i,i<nx->nm i∉NN:=λi hi hn=>by
   obtain⟨t,_,e⟩:=(memN _).1 hn;have:=ku e;omega
  have φ'_g:∀ i,i<nq->φ' (nm (g i))=φc' (nm i):=λi hi=>by
   by_cases hip:i<np
   .rw[glo i hip,φ'_old _ (loN _ (gnx i hip)),hnm i (by rw[hnp];exact hip),Xd (by rw[hnp];exact hip)]
   .rw[ghi i (by omega),φ'_new _ (by omega),show np+(i-np)=i from by omega]
  have hsub:∀ n k,φ n=aa k->φ' n=aa k:=λn k hk=>by
   by_cases hn:n∈NN
   .rw[hN n hn] at hk;cases hk
   .rw[φ'_old n hn];exact hk
  let F:HF:=eE h' (S++Ee m++NN) (bw h2)
  have F_g:∀ i,i<nq->F (nm (g i))=bw h2 (nm (g i)):=λi hi=>by
   simp only[F,eE,(memW _).2 (.inl ⟨i,hi,rfl⟩),bB]
  have F_out:∀ n,n∉S++Ee m++NN->F n=h' n:=λn hn=>by simp only[F,eE,hn,dR]
  have from_:∀ n b,F n=aa b->(∃ i bq yb,i<nq/\n=nm (g i)/\hq.get i=aa bq/\j9 hq bq=aa yb/\b=yb.ren (F' g))\/(h' n=aa b/\Hv n=aa b/\n∉S/\n∉NN/\φ' n=φ n):=λn b hb=>by
   by_cases hn:n∈S++Ee m++NN
   .rcases (memW n).1 hn with ⟨i,hi,rfl⟩|hs
    .rw[F_g i hi] at hb;obtain⟨bq,yb,U,Z,q3⟩:=er2' i hi b hb;exact .inl ⟨i,bq,yb,hi,rfl,U,Z,q3⟩
    .obtain⟨i,rfl,hi⟩:=ng.1 hs;have:F (nm i)=bw h2 (nm i):=by simp only[F,eE,hn,bB]
     rw[this,dead2 i hi] at hb;cases hb
   .rw[F_out n hn] at hb;have h1:n∉S++Ee m:=λhh=>hn (kJ _ hh)
    have Y:n∉NN:=λhh=>hn (mV _ hh)
    exact .inr ⟨hb,by rw[Hv_out n h1];exact hb,λhh=>h1 (kJ _ hh),Y,φ'_old n Y⟩
  have own':∀ k,own φ' F k->own φc' (bw hq) k\/∃ n b,Hv n=aa b/\n∉S/\φ n=aa k:=by
   rintro k ⟨n,b,h1,Y⟩;rcases from_ n b h1 with ⟨i,bq,yb,hi,rfl,U,Z,_⟩|⟨_,Z,q3,_,q5⟩
   .rw[φ'_g i hi] at Y;exact .inl ⟨nm i,yb,by rw[bE,U];exact Z,Y⟩
   .exact .inr ⟨n,b,Z,q3,by rw[<- q5];exact Y⟩
  have mv:iJ φ φ' h' F w w':=by
   refine ⟨hsub,hext.mono λk hk=>hd.own (T.own_ k hk),λk hk ho=>?_⟩;rcases own' k ho with h1|⟨n,b,h1,_,Y⟩
   .exact hd.own (T.own_ k (hown k hk h1))
   .exact hd.own ⟨n,b,h1,Y⟩
  have tot':∀ k,tot E φ' F k->tot E' φc' (bw hq) k:=by
   rintro k (h1|h1)
   .exact .inl (.inl h1)
   .rcases own' k h1 with Y|Y
    .exact .inr Y
    .exact .inl (.inr Y)
  let φr:PM:=λn=>if T_ nq n then φc' n else af
  have rel_r:∀ x v,x.all (T_ nq)=ah->cG φc' (tot E' φc' (bw hq)) w' x v->cG φr (tot E φ' F) w' x v:=λx v hx hr=>
   hr.restrict (λi k hi hk=>by simp only[φr,hi,bB];exact hk) tot' hx
  have rel_g:∀ x v,cG φr (tot E φ' F) w' x v->cG φ' (tot E φ' F) w' (x.ren (F' g)) v:=λx v hr=>
   hr.renTo λn k hk=>by
    simp only[φr] at hk;split at hk
    .rename_i hpn;obtain⟨i,hi,rfl⟩:=XH hpn;rw[wn,φ'_g i hi];exact hk
    .cases hk
  have hnqJ:=hnq;refine ⟨v,φ',rfl,mv,λn k hk=>?_,?_,?_⟩
  .by_cases hn:n∈NN
   .exact .inr hn
   .rw[φ'_old n hn] at hk;exact .inl hk
  .refine ⟨λn n' b b' k h1 Y h4 h5=>?_,λn b h1=>?_,λk hk=>dj (hrep.el k hk) mv.ext.size,λg' cells hg=>mv.keepF (hrep.gl g' cells hg)⟩
   .rcases from_ n b h1 with ⟨i,bq,yb,hi,rfl,U,Z,_⟩|⟨U,Z,q3,_,q5⟩
    .rw[φ'_g i hi] at h4;have hqi:bw hq (nm i)=aa yb:=by rw[bE,U];exact Z
     rcases from_ n' b' Y with ⟨j,bj,yj,hj,rfl,t1,t2,_⟩|⟨t1,t2,t3,_,t5⟩
     .rw[φ'_g j hj] at h5;have:=rp.inj _ _ _ _ k hqi (by rw[bE,t1];exact t2) h4 h5;rw[ku this]
     .exfalso;obtain⟨k',p1,p2,_⟩:=rp.at_ _ _ hqi;rw[h4] at p1;cases p1;exact p2 (.inr ⟨n',b',t2,t3,by rw[<- t5];exact h5⟩)
    .rcases from_ n' b' Y with ⟨j,bj,yj,hj,rfl,t1,t2,_⟩|⟨t1,t2,t3,_,t5⟩
     .exfalso;rw[φ'_g j hj] at h5;have hqj:bw hq (nm j)=aa yj:=by rw[bE,t1];exact t2
      obtain⟨k',p1,p2,_⟩:=rp.at_ _ _ hqj;rw[h5] at p1;cases p1;exact p2 (.inr ⟨n,b,Z,q3,by rw[<- q5];exact h4⟩)
     .exact hrep.inj n n' b b' k U t1 (by rw[<- q5];exact h4) (by rw[<- t5];exact h5)
   .rcases from_ n b h1 with ⟨i,bq,yb,hi,rfl,U,Z,rfl⟩|⟨U,Z,q3,_,q5⟩
    .have hqi:bw hq (nm i)=aa yb:=by rw[bE,U];exact Z
     obtain⟨k,p1,p2,ob,p3,p4⟩:=rp.at_ _ _ hqi;have hall:=J.blk_all U Z;rw[hnq] at hall;exact⟨k,by rw[φ'_g i hi];exact p1,λhE=>p2 (.inl hE),ob,p3,(p4.restrict rel_r hall).renTo rel_g⟩
    .obtain⟨k,p1,p2,ob,p3,p4⟩:=hrep.at_ n b U;have hk:k<w.heap.size:=(cu.1 p3).1;refine ⟨k,hsub n k p1,p2,ob,?_,p4.mono λx v hr=>mv.keep hr⟩;rw[hext.blk k hk ?_]
     .exact p3
     .rintro⟨n',y',t1,t2⟩;obtain⟨i,hi,rfl,t3⟩:=vK t2;obtain⟨j,bb,e,t4,t5⟩:=je t1;have:=ku e;subst this;have hi':i<np:=by rw[<- hnp];exact hi
      have hvi:Hv (nm (gW σ i))=aa (y'.ren (F' (gW σ))):=by
       rw[Hv_in _ (kJ _ ((memS _).2 ⟨i,hi',rfl⟩)),bE,hv_at i bb ((I.at_ i bb).1 t4)];exact BZ rows_hp t5
      have:=hrepv.inj _ _ _ _ k hvi Z t3 p1;exact q3 (by rw[<- this];exact (memS _).2 ⟨i,hi',rfl⟩)
  .have hall:(CU lr).all (T_ nq)=ah:=Xn (by have:=sd rs lr J.lt hlr;rwa [hnq] at this);show cG φ' (tot E φ' F) w' (CU (AV.renL (F' g) lr)) v;rw[Xm];exact rel_g _ _ (rel_r _ _ hall rv')
 have hrsg:cF h2 (j8 g rs)=aa (AV.renL (F' g) lr):=pJ rows_hq rs lr hlr;refine ⟨⟨_,hOpT,λz hz=>?_,?_,λn hn=>?_,λn hn=>?_,λn hn=>?_⟩,rows2,inv2,by omega,λhs=>by cases hs⟩
 .rw[T7 hrsg] at hz;cases hz;rfl
 .funext n;unfold eE;split
  .rfl
  .rename_i hn;refine (kn hinv rows2 λi e=>?_).symm;subst e;rw[h2_ne i (λk hk e=>hn ((memW _).2 (.inl ⟨k,hk,by rw[e]⟩))),iI,aC];intro hb;exact hn ((memW _).2 (.inr (kU.2 hb)))
 .rw[bl];rcases bR.1 hn with hs|hs
  .obtain⟨i,hi,rfl⟩:=(memS n).1 hs;rw[dQ,(sig _).2 ⟨i,hi,rfl⟩];rfl
  .obtain⟨i,rfl,hi⟩:=ng.1 hs;rw[dQ,hi];simp
 .rw[bl,bl];rcases bR.1 hn with hs|hs
  .rcases bR.1 hs with hs|hs
   .obtain⟨i,hi,rfl⟩:=(memS n).1 hs;rw[dQ,(sig _).2 ⟨i,hi,rfl⟩];rfl
   .obtain⟨i,rfl,hi⟩:=ng.1 hs;rw[dQ,hi];simp
  .obtain⟨t,ht,rfl⟩:=(memN n).1 hs;rw[dQ,Z0.2 ⟨by omega,by omega⟩];simp
 .obtain⟨t,ht,rfl⟩:=(memN n).1 hn;rw[dQ];omega
end
end Go.Proofs.YthehadcddfilhaaGreatDoor.AI
