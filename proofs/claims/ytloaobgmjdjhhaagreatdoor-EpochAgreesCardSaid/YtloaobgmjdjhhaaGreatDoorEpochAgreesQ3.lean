/-
  Texts of the proof, part 4 of 6: what is used to prove the statement. No condition.
-/
import Derived.Test.YtloaobgmjdjhhaaGreatDoorEpochAgreesQ2
import Derived.Defers
namespace Go.Proofs.YtloaobgmjdjhhaaGreatDoor.AI
open Go.RowKit
set_option maxRecDepth 100000
set_option maxHeartbeats 4000000
set_option linter.unusedVariables false
set_option linter.unusedSimpArgs false
open Act renaming put→NQ
open _root_.Array renaming length_toList→iF,range→yH
open _root_.Bool renaming true→J,false→af,and_false→Lf
open Builtin renaming zeroCells→lU,firstCells→Ld
open Call renaming operands→eU
open Instr renaming findNow→eT,sliceBounds→j6,sliceBound→kM,sliceAt→pK,findKey→sS,slice→uM,sameBits→Lc
open _root_.Int renaming ofNat→aN,toNat→aQ
open _root_.List renaming length→ai,replicate→aB,length_cons→b7,take→dJ,range→dN,cons_append→fI,length_nil→gw,nil_append→j_,toArray→kR,getElem?_cons_zero→lQ,take_succ_cons→vU,replicate_succ→vV
open _root_.Nat renaming beq→aA,testBit→aM,add_zero→c8,ble→eO,blt→gx,min→i_
open Oper renaming wp→HC
open _root_.Option renaming some→M,none→D,bind_some→aF,map_some→cj,map→me
open Region renaming wanted→iS
open Result renaming andThen_ok→cO
open Sem renaming run_bind→eM,run→kn,run_pure→oY
open Value.bool renaming injEq→Cn
open World renaming shape?→rU,cell?→NK
noncomputable section
section
variable {P:Program} {o:Oper} {e:Ab} {h:oq} {nx:Nat} {R:Ck}
theorem an4 (A:Addr):A.add 0=A:=by cases A;simp[Addr.add]
theorem an6 {t el:TypeId} {sz:Nat} {x:Operand} {lo hi mx:I Operand} (L:o.op= .slice t x lo hi mx) (hu:P.underlying t=M (.slice el)) (hs:fx P el=M sz) (s:eL (.slc sz x lo hi mx) e h nx=M R):gP P o e.get h.get R.eff:=by
 simp only[eL]at s;split at s
 .rename_i v hx;split at s
  ·
   rename_i k k';split at s
   .rename_i hsl;rw[dC s];refine gP.reads λφ E h' w a _ hp _=>?_
    have hr:=hp x _ (by rw[L];simp[Op.operands]) hx;have Z:∃A n c,a.eval x= .slice A n c:=by
     generalize a.eval x=z at hr;obtain⟨n,hn⟩:=iT.1 hsl;unfold AV.slen at hn;split at hn
     .cases hr with
      |f hr=>cases hr with
       |nil=>exact⟨_,_,_,rfl⟩
       |sl=>exact⟨_,_,_,rfl⟩
     .cases fk hr;exact⟨_,_,_,rfl⟩
     .cases hr;exact⟨_,_,_,rfl⟩
     .cases hr;exact⟨_,_,_,rfl⟩
     .cases hr;exact⟨_,_,_,rfl⟩
     .cases hn
    obtain⟨A,n,c,Z⟩:=Z;have s1:=gE hs w;refine ⟨.slice A 0 0,?_,.emp⟩;unfold execOp;rw[L];have z0:∀k,a.eval (.const (.int k 0))= .int k 0:=λ_=>rfl
    simp[pK,uM,run_underlying hu,Z,j6,kM,asIntOf,s1,z0]
   .cases s
  ·
   rename_i b;split at s
   .rename_i id sz' n k j hb;split at s
    .rename_i hc;simp only[cZ,al,bB,cV]at hc;obtain⟨⟨rfl,h0⟩,h1⟩:=hc;split at s
     .rename_i blk hblk;split at s
      .rename_i hcl;simp only[al]at hcl;obtain⟨hcells,hlen⟩:=hcl;have hlen:=a_ hlen;rw[BC.len_toMx hcells]at hlen;simp only[ah]at s;subst s;intro φ E h' w a g1 g2 g3 hrep g5;have hp:Wd φ E h' w a e o:=λx y hx U=>tO hrep g3 hx U
       have hb':h' id=M blk:=by rw[g1 id (by simp[Ck.eff])];exact hblk
       have hr:=hp x _ (by rw[L];simp[Op.operands]) hx;have hbv:=fk (hp b _ (by rw[L];simp[Op.operands]) hb);have hnx:φ nx=D:=g5 nx (by simp[Ck.eff]);generalize Z:a.eval x=z at hr;cases hr with
       |@row _ _ _ c q hφ hn hcap hsh=>
        obtain⟨arr,a1,a2,a3⟩:=hrep.cs hb' hφ hcells;have s1:=gE hs w;have hne:nx≠id:=λe=>by rw[e,hφ]at hnx;cases hnx
        have hnw1:jr [(nx,⟨blk.ty,pA (blk.c.toMx.take (j.toNat*sz'))⟩)] nx=M (⟨blk.ty,pA (blk.c.toMx.take (j.toNat*sz'))⟩:vT):=by simp[jr]
        have hnw2:jr [(nx,⟨blk.ty,pA (blk.c.toMx.take (j.toNat*sz'))⟩)] id=D:=by
         simp only[jr];rw[ax];intro hb;exact hne (ar hb)
        have a4:=a2.take (j.toNat*sz');obtain⟨φ',p1,p2,p3,p4⟩:=hrep.wren hb' hφ hnx (w':=w) ⟨rfl,rfl,rfl,rfl,a1,λ_ _=>rfl,λ_=>rfl⟩ (b':=⟨blk.ty,pA (blk.c.toMx.take (j.toNat*sz'))⟩) (by
         obtain⟨q1,q2⟩:=nZ (blk.c.toMx.take (j.toNat*sz'));refine qj q2 (by rw[q1,bA];omega) λi x hx=>?_
         rw[q1]at hx;have hi:i<((arr.toList.take blk.c.toMx.length).take (j.toNat*sz')).length:=by rw[a4.1];exact (bh.1 hx).1
         refine ⟨a4.2.1 x (aX hx),_,?_,a4.2.2 i x _ hx (ay hi)⟩;have hi':i<arr.size:=by simp at hi;omega
         simp[hi']) _ hnw1 hnw2
        have hrun:(execOp a.eval o).run P w= .ok (.value (.slice (M ⟨q,0,D⟩) j.toNat c)) w:=by
         unfold execOp;rw[L];simp[pK,uM,run_underlying hu,Z,j6,kM,asIntOf,s1,hbv,h0,show j<=c by omega,lx]
        unfold HC;rw[hrun];exact⟨_,φ',rfl,p2,p3,p4,.row p1 (by omega) hcap hsh⟩
      .cases s
     .cases s
    .cases s
   .rename_i cells n k j hb;split at s
    .rename_i hc;simp only[cZ,al,bB]at hc;obtain⟨⟨h0,h1⟩,h2⟩:=hc;have h2:=a_ h2;rw[dC s];refine gP.reads λφ E h' w a _ hp _=>?_
     have hr:=hp x _ (by rw[L];simp[Op.operands]) hx;have hbv:=fk (hp b _ (by rw[L];simp[Op.operands]) hb);generalize Z:a.eval x=z at hr;have s1:=gE hs w;cases hr with
     |f hr=>
      cases hr with
      |nil A c hc=>
       have hj:j=0:=by omega
       subst hj;refine ⟨.slice A 0 c,?_,by simpa using cN.f (.nil A c hc)⟩;unfold execOp;rw[L];cases A<;>simp[pK,uM,run_underlying hu,Z,j6,kM,asIntOf,s1,hbv,an4]
      |sl _ _ c q off us hn hc hO hq hcl hu' hr=>
       refine ⟨.slice (M ⟨q,off,D⟩) j.toNat c,?_,.f (.sl _ _ _ _ _ us (by omega) hc hO hq (λy U=>hcl y (hY U)) (λi hi=>hu' i (by rw[bA]at hi;omega)) λi y U=>?_)⟩
       .unfold execOp;rw[L];simp[pK,uM,run_underlying hu,Z,j6,kM,asIntOf,s1,hbv,h0,show j<=c by omega,lx]
       .rw[cR]at U;split at U
        .exact hr i y U
        .cases U
    .cases s
   .cases s
  ·
   rename_i b;split at s
   .rename_i id sz' n k j hb;split at s
    .rename_i hc;simp only[cZ,fJ,al,bB,cV]at hc;obtain⟨⟨rfl,h0⟩,h1⟩:=hc;rw[dC s];refine gP.reads λφ E h' w a _ hp _=>?_
     have hr:=hp x _ (by rw[L];simp[Op.operands]) hx;have hbv:=fk (hp b _ (by rw[L];simp[Op.operands]) hb);generalize Z:a.eval x=z at hr;cases hr with
     |@row _ _ _ c q hφ hn hc hsh=>
      have s1:=gE hs w;refine ⟨.slice (M ⟨q,0+j.toNat*sz',D⟩) (n-j.toNat) (c-j.toNat),?_,?_⟩
      .unfold execOp;rw[L];simp[pK,uM,run_underlying hu,Z,j6,kM,asIntOf,s1,hbv,h0,show j<=n by omega,show ¬c=j.toNat by omega,lx]
      .rw[bI];exact .sl hφ (by omega) (by omega)
    .cases s
   .rename_i cells n k j hb;split at s
    .rename_i hc;simp only[cZ,al,bB]at hc;obtain⟨⟨h0,h1⟩,h2⟩:=hc;have h2:=a_ h2;rw[dC s];refine gP.reads λφ E h' w a _ hp _=>?_
     have hr:=hp x _ (by rw[L];simp[Op.operands]) hx;have hbv:=fk (hp b _ (by rw[L];simp[Op.operands]) hb);generalize Z:a.eval x=z at hr;have s1:=gE hs w;cases hr with
     |f hr=>
      cases hr with
      |nil A c hc=>
       have hj:j=0:=by omega
       subst hj;have hex:∃A',(execOp a.eval o).run P w= .ok (.value (.slice A' 0 c)) w:=by
        unfold execOp;rw[L];cases A with
        |none=>exact⟨D,by simp[pK,uM,run_underlying hu,Z,j6,kM,asIntOf,s1,hbv]⟩
        |some A=>exact⟨M A,by simp[pK,uM,run_underlying hu,Z,j6,kM,asIntOf,s1,hbv,an4]⟩
       obtain⟨A',hex⟩:=hex;exact⟨.slice A' 0 c,hex,by simpa using cN.f (.nil A' c hc)⟩
      |sl _ _ c q off us hn hc hO hq hcl hu' hr=>
       by_cases hcj:c=j.toNat
       .refine ⟨.slice (M ⟨q,off,D⟩) 0 0,?_,?_⟩
        .unfold execOp;rw[L];simp[pK,uM,run_underlying hu,Z,j6,kM,asIntOf,s1,hbv,h0,show j<=n by omega,hcj,show n-j.toNat=0 by omega,lx]
        .rw[show n-j.toNat=0 by omega];simpa using cN.f (.nil (M ⟨q,off,D⟩) 0 (by unfold maxLen;omega))
       .refine ⟨.slice (M ⟨q,off+j.toNat*sz,D⟩) (n-j.toNat) (c-j.toNat),?_,.f (.sl _ _ _ _ _ (λi=>us (j.toNat*sz+i)) (by omega) (by omega) hO hq (λy U=>hcl y (List.mem_of_mem_drop (hY U))) (λi hi=>?_) λi y U=>?_)⟩
        .unfold execOp;rw[L];simp[pK,uM,run_underlying hu,Z,j6,kM,asIntOf,s1,hbv,h0,show j<=n by omega,hcj,lx]
        .rw[sR];refine hu' _ ?_;rw[bA,mR]at hi;omega
        .rw[cR]at U;split at U
         .rw[hZ]at U;exact hr _ y U
         .cases U
    .cases s
   .cases s
  .cases s
 .cases s
theorem Z5 {sz:Nat} {x:AV} {src:Y AV} {m:Nat} {rd:ι} (hrow:x.row? h sz=M (src,m,rd)) {φ:PM} {E:Nat->Prop} {h':HF} {w:World} (hrd:∀i∈rd,h' i=h.get i) (hrep:re φ E h' w) {v:Value} (hr:cN φ (tot E φ h') w x v):
 ∃A c vs,v= .slice A m c/\Cs φ (tot E φ h') w src vs/\vs.length=m*sz/\(A=D->vs=[])/\(∀z,A=M z->∀(j:Nat) u,vs[j]? =M u->w.cell? (z.add j)=M u):=by
 have emp:∀A c,v= .slice A 0 c->src=[]->m=0->∃A c vs,v= .slice A m c/\Cs φ (tot E φ h') w src vs/\vs.length=m*sz/\(A=D->vs=[])/\(∀z,A=M z->∀(j:Nat) u,vs[j]? =M u->w.cell? (z.add j)=M u):=by
  rintro A c rfl rfl rfl;exact⟨A,c,[],rfl,⟨rfl,(by intro x s;cases s),(by intro j x v s;simp at s)⟩,by simp,λ_=>rfl,by intro z _ j u hu;simp at hu⟩
 have own:∀(id off n c k:Nat) (b:vT),φ id=M k->h' id=M b->b.c.isCells=J->off+n*sz<=b.c.len->v= .slice (M ⟨k,off,D⟩) n c->src=(b.c.toMx.drop off).take (n*sz)->m=n->
  ∃A c vs,v= .slice A m c/\Cs φ (tot E φ h') w src vs/\vs.length=m*sz/\(A=D->vs=[])/\(∀z,A=M z->∀(j:Nat) u,vs[j]? =M u->w.cell? (z.add j)=M u):=by
  rintro id off n c k b hφ hb hc hle rfl rfl rfl;obtain⟨arr,g1,g2,g3⟩:=hrep.cs hb hφ hc;rw[BC.len_toMx hc]at hle;refine ⟨_,c,((arr.toList.take b.c.toMx.length).drop off).take (m*sz),rfl,(g2.drop off).take _,?_,(λh=>by cases h),?_⟩
  .simp;omega
  .intro z had j u hu;cases had;rw[lx];rw[cR]at hu;split at hu
   .rw[hZ,cR]at hu;split at hu
    .rw[cz]at hu;simp[NK,g1,hu]
    .cases hu
   .cases hu
 unfold AV.row? at hrow;split at hrow
 .rename_i cells n;split at hrow
  .rename_i hle;have hle:=a_ hle;simp only[ah,aD]at hrow;obtain⟨rfl,rfl,rfl⟩:=hrow;cases hr with
   |f hr=>
    cases hr with
    |nil a c hc=>exact emp a c rfl (by simp) rfl
    |sl _ _ c b off us hn hc hO hb hcl hu hr=>
     refine ⟨_,c,(dN (n*sz)).map us,rfl,⟨by simp;omega,λx s=>?_,λj x u s L=>?_⟩,by simp,(λh=>by cases h),?_⟩
     .obtain⟨y,Z,rfl⟩:=di.1 s;exact hcl y (hY Z)
     .obtain⟨rfl,hj⟩:=xF us _ _ _ L;rw[ba,cR,aC hj]at s;cases hq:cells[j]? with
      |none=>rw[hq]at s;cases s
      |some q=>rw[hq]at s;simp at s;subst s;exact .f (hr j q hq)
     .intro z had j u L;cases had;obtain⟨rfl,hj⟩:=xF us _ _ _ L;rw[lx];exact hu j (by omega)
  .cases hrow
 .simp only[ah,aD]at hrow;obtain⟨rfl,rfl,rfl⟩:=hrow;exact emp D 0 (fk hr) rfl rfl
 .simp only[ah,aD]at hrow;obtain⟨rfl,rfl,rfl⟩:=hrow;cases hr with
  |@emp a=>exact emp a 0 rfl rfl rfl
 .rename_i id sz' n;split at hrow
  .rename_i hsz;split at hrow
   .rename_i b hb;split at hrow
    .rename_i hc;simp only[al]at hc;simp only[ah,aD]at hrow;obtain⟨rfl,rfl,rfl⟩:=hrow;cases hr with
     |@row _ _ _ c k hφ hn U hsh=>
      exact own id 0 n c k b hφ (by rw[hrd id (by simp)];exact hb) hc.1 (by rw[bI];exact a_ hc.2) rfl (by simp) rfl
    .cases hrow
   .cases hrow
  .cases hrow
 .rename_i id off n;split at hrow
  .rename_i b hb;split at hrow
   .rename_i hc;simp only[al]at hc;simp only[ah,aD]at hrow;obtain⟨rfl,rfl,rfl⟩:=hrow;cases hr with
    |@sl _ _ _ c k hφ hn U=>exact own id off n c k b hφ (by rw[hrd id (by simp)];exact hb) hc.1 (a_ hc.2) rfl rfl rfl
   .cases hrow
  .cases hrow
 .cases hrow
theorem aee {sz:Nat} {x:AV} {src:Y AV} {m:Nat} {rd:ι} (hrow:x.row? h sz=M (src,m,rd)) {φ:PM} {E:Nat->Prop} {h':HF} {w:World} (hrd:∀i∈rd,h' i=h.get i) (hrep:re φ E h' w) {v:Value} (hr:cN φ (tot E φ h') w x v) {a el:TypeId} (hk:P.underlying a=M (.slice el)):
 ∃vs,Src P sz a v m vs w/\Cs φ (tot E φ h') w src vs:=by
 obtain⟨A,c,vs,rfl,h1,h2,z,s⟩:=Z5 hrow hrd hrep hr;refine ⟨vs,?_,h1⟩;cases A with
 |none=>
  have:=z rfl;subst this;have hm:m*sz=0:=by simpa using h2.symm
  refine ⟨.inl ⟨el,hk⟩,λ_=>rfl,run_firstCells_none w sz m m c,run_firstCells_none w.drew sz m m c,by simp[hm],λ_ h=>by cases h⟩
 |some q=>exact Src.ofSlice w hk q m c vs h2 (s q rfl) h1.one
theorem aj2 {x:Nat}:∀{l:ι},Ur x l=J↔x∈l
 |[]=>by simp[Ur]
 |y::r=>by
  simp only[Ur,jb,aj2 (l:=r),bk];constructor
  .rintro (h|h)
   .exact .inl (ar h).symm
   .exact .inr h
  .rintro (h|h)
   .subst h;exact .inl (rV x)
   .exact .inr h
theorem ak4 {t u el el':TypeId} {d x:Operand} {sz:Nat} (ho:o.op= .call {callee:=.builtin .copy,args:=#[d,x],argTypes:=#[t,u]}) (hu:P.underlying t=M (.slice el)) (hu':P.underlying u=M (.slice el')) (hs:fx P el=M sz) (z:eL (.copy sz d x) e h nx=M R):gP P o e.get h.get R.eff:=by
 simp only[eL]at z;split at z
 .rename_i id sz' n y hd hx;split at z
  .rename_i blk src m rd hblk hrow;split at z
   .rename_i hc;simp only[al,cV,cW]at hc;obtain⟨⟨rfl,hmem⟩,hlen⟩:=hc;split at z
    .rename_i c' hput;simp only[ah]at z;subst z;unfold BC.put at hput;split at hput
     .rename_i hcc;simp only[al]at hcc;obtain⟨⟨c1,c2⟩,c3⟩:=hcc;have c2:=a_ c2;rw[bI]at c2;have L:c'.toMx=splice blk.c.toMx 0 (src.take (i_ m n*sz'))/\c'.isCells=J:=by
       split at hput
       .rename_i l ys hbl hys;simp only[ah]at hput;subst hput;refine ⟨?_,rfl⟩;have hv:=pY hys;rw[hv,hbl];simp only[BC.toMx];unfold splice;simp[kS,List.map_drop]
       .simp only[ah]at hput;subst hput;exact⟨rfl,rfl⟩
      refine gP.writes hblk λφ E h' w a hrd hb' hp hrep=>?_
      have hpd:=hp d _ (by rw[ho];simp[Op.operands,eU]) hd;have hpx:=hp x _ (by rw[ho];simp[Op.operands,eU]) hx;obtain⟨A,c,vs,hv,q1,q2,q3,q4⟩:=Z5 hrow (λi hi=>hrd i (by simp[hi])) hrep hpx;generalize hz:a.eval d=pv at hpd;cases hpd with
      |@row _ _ _ cap k hφ hn hcap hsh=>
       obtain⟨arr,g1,g2,g3⟩:=hrep.cs hb' hφ c1;rw[BC.len_toMx c1]at c2;have hmn:i_ m n<=m:=Nat.min_le_left _ _;have hle:i_ m n*sz'<=m*sz':=cL _ hmn
       let s:=vs.take (i_ m n*sz')
       have hnl:s.length=i_ m n*sz':=by simp only[s,bA,q2];omega
       have hsl:(src.take (i_ m n*sz')).length=i_ m n*sz':=by rw[bA,<-q1.1,q2];omega
       have csn:=q1.take (i_ m n*sz');rw[hsl]at c2;have hst:=run_storeCells_at (P:=P) k 0 blk.ty s 0 arr w g1 (by rw[hnl];omega) csn.one
       let arr':Array Value:=(arr.toList.take 0++s++arr.toList.drop (0+i_ m n*sz')).toArray
       have hsize:arr'.size=arr.size:=by simp only[arr',tC,be,bA,mR,iF,hnl];omega
       have hfc:(Ld sz' (i_ m n) (.slice A m c)).run P w= .ok s.toArray w:=by
        cases A with
        |none=>
         have:s=[]:=by simp[s,q3 rfl]
         rw[this];exact run_firstCells_none w sz' _ _ _
        |some ad=>exact run_firstCells_some w sz' _ ad m c s hnl (λj u hu=>q4 ad rfl j u (by
          simp only[s,cR]at hu;split at hu
          .exact hu
          .cases hu))
       refine ⟨.value (.int .i64 (i_ m n)),w.setRow k arr',k,.cells arr' blk.ty (0,0),?_,hφ,Fx.setRow g1 hsize,?_,_,.inl rfl,.f (.raw _)⟩
       .have s1:=gE hs w;simp only[c8,hnl]at hst;unfold execOp;rw[ho];simp[resolve,invoke,builtin,Builtin.copy_,run_underlying hu,hz,hv,Builtin.lenOf,s1,hfc,hst,goInt,arr']
       .refine qj L.2 (by rw[L.1,oJ (by rw[hsl];omega),hsize];exact g3) λj q hq=>?_
        rw[L.1,mU (by rw[hsl];omega)]at hq;have ha':arr'[j]? =if j<0 then arr.toList[j]? else if j<0+s.length then s[j-0]? else arr.toList[j]? :=by
         have:=mU (l:=arr.toList) (vs:=s) (off:=0) (by simp only[iF];omega) j;unfold splice at this;simp only[arr',kD];rw[<- this,hnl]
        rw[ha',ax (by omega)];rw[ax (by omega),hsl]at hq;rw[hnl];by_cases h2:j<0+i_ m n*sz'
        .rw[aC h2]at hq ⊢;have U:j-0<s.length:=by rw[hnl];omega
         exact⟨csn.2.1 q (aX hq),_,ay U,csn.2.2 _ q _ hq (ay U)⟩
        .rw[ax h2]at hq ⊢;have hj:j<blk.c.toMx.length:=(bh.1 hq).1;have Z:j<arr.toList.length:=by simp;omega
         refine ⟨g2.2.1 q (aX hq),arr.toList[j],ay Z,g2.2.2 j q _ hq ?_⟩;rw[cR,aC hj,ay Z]
     .cases hput
    .cases z
   .cases z
  .cases z
 .cases z
theorem anl {t el:TypeId} {sz:Nat} {z:ξ} {x:Operand} (ho:o.op= .call {callee:=.builtin .clear,args:=#[x],argTypes:=#[t]}) (hu:P.underlying t=M (.slice el)) (hz:s_ P el=M z) (hc:mP z=J) (hl:z.length=sz) (hsz:sz≠0) (A:eL (.clr sz z x) e h nx=M R):gP P o e.get h.get R.eff:=by
 simp only[eL]at A;split at A
 .rename_i id off n hx;split at A
  .rename_i blk hblk;split at A
   .rename_i hn;have hn:=a_ hn;obtain⟨m,rfl⟩:∃m,n=m+1:=⟨n-1,by omega⟩
    split at A
    .rename_i c' hput;simp only[ah]at A;subst A;unfold BC.put at hput;split at hput
     .rename_i hcc;simp only[al]at hcc;obtain⟨⟨c1,c2⟩,c3⟩:=hcc;have c2:=a_ c2;have hsrc:((repl z (m+1)).map AV.f).length=(m+1)*sz:=by rw[bR,mW,hl]
      rw[hsrc]at c2;have U:c'.toMx=splice blk.c.toMx off ((repl z (m+1)).map AV.f)/\c'.isCells=J:=by
       split at hput
       .rename_i l ys hbl hys;simp only[ah]at hput;subst hput;refine ⟨?_,rfl⟩;have hv:=pY hys;rw[hv,hbl];simp only[BC.toMx];unfold splice;simp[kS,List.map_drop]
       .simp only[ah]at hput;subst hput;exact⟨rfl,rfl⟩
      refine gP.writes hblk λφ E h' w a hrd hb' hp hrep=>?_
      have hpx:=hp x _ (by rw[ho];simp[Op.operands,eU]) hx;generalize hzv:a.eval x=pv at hpx;cases hpx with
      |@sl _ _ _ cap k hφ hn2 hcap=>
       obtain⟨arr,g1,g2,g3⟩:=hrep.cs hb' hφ c1;rw[BC.len_toMx c1]at c2;obtain⟨v,z1,z2,_⟩:=tS hz w;have csn:=Cs.repl (φ:=φ) (O:=tot E φ h') (w:=w) z2 (m+1) sz hl hsz hc
       let L:=(lU v.cells (m+1)).toList
       have hvs:v.cells.size=sz:=by rw[<- hl,<-z2];simp
       have hns:L=((yH ((m+1)*sz)).map (λi=>v.cells[i%v.cells.size]!)).toList:=by simp only[L,lU,hvs]
       have hnl:L.length=(m+1)*sz:=by rw[hns];simp
       rw[<- hns]at csn;have hst:=run_storeCells_at (P:=P) k off blk.ty L 0 arr w g1 (by rw[hnl];omega) csn.one
       let arr':Array Value:=(arr.toList.take (off+0)++L++arr.toList.drop (off+0+L.length)).toArray
       have hsize:arr'.size=arr.size:=by simp only[arr',tC,be,bA,mR,iF,hnl];omega
       refine ⟨.value (.tuple #[]),w.setRow k arr',k,.cells arr' blk.ty (0,0),?_,hφ,Fx.setRow g1 hsize,?_,_,.inl rfl,.tup (vs:=[]) rfl λj y v hy=>by simp at hy⟩
       .unfold execOp;rw[ho];have hst2:(storeCells ⟨k,off,D⟩ (lU v.cells (m+1)).toList).run P w= .ok () (w.setRow k arr'):=hst;simp[resolve,invoke,builtin,Builtin.clear_,run_underlying hu,hzv,z1,hst2]
       .refine qj U.2 (by rw[U.1,oJ (by rw[hsrc];omega),hsize];exact g3) λj q hq=>?_
        rw[U.1,mU (by rw[hsrc];omega)]at hq;have ha':arr'[j]? =if j<off then arr.toList[j]? else if j<off+L.length then L[j-off]? else arr.toList[j]? :=by
         have:=mU (l:=arr.toList) (vs:=L) (off:=off) (by simp only[iF];omega) j;unfold splice at this;simp only[arr',kD,c8];rw[<- this]
        rw[ha'];rw[hsrc]at hq;rw[hnl];by_cases h1:j<off
        .rw[aC h1]at hq ⊢;have hj:j<blk.c.toMx.length:=(bh.1 hq).1;have s:j<arr.toList.length:=by simp;omega
         refine ⟨g2.2.1 q (aX hq),arr.toList[j],ay s,g2.2.2 j q _ hq ?_⟩;rw[cR,aC hj,ay s]
        rw[ax h1]at hq ⊢;by_cases h2:j<off+(m+1)*sz
        .rw[aC h2]at hq ⊢;have Z:j-off<L.length:=by rw[hnl];omega
         exact⟨csn.2.1 q (aX hq),_,ay Z,csn.2.2 _ q _ hq (ay Z)⟩
        .rw[ax h2]at hq ⊢;have hj:j<blk.c.toMx.length:=(bh.1 hq).1;have s:j<arr.toList.length:=by simp;omega
         refine ⟨g2.2.1 q (aX hq),arr.toList[j],ay s,g2.2.2 j q _ hq ?_⟩;rw[cR,aC hj,ay s]
     .cases hput
    .cases A
   .cases A
  .cases A
 .cases A
end
theorem Mv (w:World) (ob:Obj):S9 w (w.drew.alloc ob) ob:=S9.drawn (w.drawn+1) (ri {w with drawn:=w.drawn+1} ob)
section
variable {P:Program} {o:Oper} {e:Ab} {h:oq} {nx:Nat} {R:Ck}
theorem Ic {v:Value} {z:ξ} {sz:Nat} (hv:v.cells.toList=z) (hl:z.length=sz) (n:Nat):(lU v.cells n).size=n*sz:=by
 have:v.cells.size=sz:=by rw[<- hl,<-hv];simp
 simp[lU,this]
theorem SU {t u el:TypeId} {s x:Operand} {i:TypeInfo} {z:ξ} (ho:o.op= .call {callee:=.builtin .append,args:=#[s,x],argTypes:=#[t,u]}) (hu:P.underlying t=M (.slice el)) (Z:P.info? el=M i) (hz:s_ P el=M z) (hzl:z.length=i.size)
 {φ:PM} {E:Nat->Prop} {h':HF} {w:World} {a:Act} (hrep:re φ E h' w) (hnx:φ nx=D) {A:I Addr} {n cap m:Nat} {olds vs:ξ} {oldA src:Y AV} (hsl:a.eval s= .slice A n cap)
 (hold:(Ld i.size n (.slice A n cap)).run P w.drew= .ok olds.toArray w.drew) (csold:Cs φ (tot E φ h') w oldA olds) (hol:olds.length=n*i.size) (hsrc:Src P i.size u (a.eval x) m vs w) (hcs:Cs φ (tot E φ h') w src vs)
 (hg:cap<n+m) (r1:n+m<=1099511627776) (r2:(n+m)*i.bytes<=1099511627776) (del:ι) (hdel:∀j∈del,j≠nx):
 o.wp P a w (λa' w'=>∃v φ',a'=a.put o.dst v/\ji φ φ' h' (eV h' (nx::del) (jr [(nx,⟨el,pA (oldA++src)⟩)])) w w'/\(∀i k,φ' i=M k->φ i=M k\/i∈[nx])/\
  re φ' E (eV h' (nx::del) (jr [(nx,⟨el,pA (oldA++src)⟩)])) w'/\cN φ' (tot E φ' (eV h' (nx::del) (jr [(nx,⟨el,pA (oldA++src)⟩)]))) w' (.row nx i.size (n+m)) v) (λ_ _ _=>False):=by
 obtain⟨L,z1,z2,i',c,z3⟩:=tS hz w;rw[Z]at c;cases c;have hfb:=growslice_fits (need:=n+m) (old:=cap) (bytes:=i.bytes) hg (by omega);have hrun:=run_append_grow_src w t u o.type el i L hu Z z3 A n cap olds hold (a.eval x) m vs hsrc hg (by omega) hfb;have hgc:=grownCap_ge w (n+m) cap el;have hgm:=grownCap_le_maxLen w (n+m) cap el (by unfold maxLen;omega);generalize grownCap w (n+m) cap el=Gc at hrun hgc hgm;have cs:=csold.append hcs;have hnl:=hsrc.newsLen;obtain⟨φ',p1,p2,p3,p4⟩:=hrep.wnew hnx (Mv w _) (b:=⟨el,pA (oldA++src)⟩) (ob:=.cells ((olds++vs).toArray++lU L.cells (Gc-(n+m))) el (0,0)) (by
  obtain⟨U,q2⟩:=nZ (oldA++src);refine qj q2 (by rw[U,<-cs.1];simp) λj q hq=>?_
  rw[U]at hq;have hj:j<(olds++vs).length:=by rw[cs.1];exact (bh.1 hq).1
  refine ⟨cs.2.1 q (aX hq),_,?_,cs.2.2 j q _ hq (ay hj)⟩;rw[Array.getElem?_append_left (by simpa using hj),kD,ay hj]) del (jr [(nx,⟨el,pA (oldA++src)⟩)]) (by simp[jr]) (λj hj hne=>by
   simp only[jr];rw[ax];intro hb;exact hne (ar hb).symm)
 have hexec:(execOp a.eval o).run P w= .ok (.value (.slice (M ⟨w.heap.size,0,D⟩) (n+m) Gc)) (w.drew.alloc (.cells ((olds++vs).toArray++lU L.cells (Gc-(n+m))) el)):=by
  unfold execOp;rw[ho];simp only[resolve,invoke,builtin,eM,oY,cO,List.map_toArray,eS,List.map_nil,hsl,hrun]
 unfold HC;rw[hexec];refine ⟨_,φ',rfl,p2,p3,p4,.row p1 hgc hgm ⟨el,?_⟩⟩;have:=(Mv w (.cells ((olds++vs).toArray++lU L.cells (Gc-(n+m))) el (0,0))).at_;unfold rU;rw[this];have hzs:=Ic z2 hzl (Gc-(n+m));have e1:(n+m)*i.size+(Gc-(n+m))*i.size=Gc*i.size:=by rw[<- NP];congr 1;omega
 simp only[Array.size_append,tC,be,hol,hnl,hzs];congr 2;rw[<- e1,NP]
theorem ano {t u el el':TypeId} {s x:Operand} {sz bytes:Nat} {z:ξ} (ho:o.op= .call {callee:=.builtin .append,args:=#[s,x],argTypes:=#[t,u]}) (hu:P.underlying t=M (.slice el)) (hu':P.underlying u=M (.slice el')) (hs:fx P el=M sz) (hb:Fq P el=M bytes) (hz:s_ P el=M z) (hzl:z.length=sz) (hsz:sz≠0)
 (L:eL (.app el sz bytes s x) e h nx=M R):gP P o e.get h.get R.eff:=by
 obtain⟨i,i1,i2⟩:=Nu hb;have i3:i.size=sz:=by unfold fx at hs;rw[i1]at hs;simpa using hs
 subst i2;subst i3;simp only[eL]at L;split at L
 .rename_i bv y hsv Z;split at L
  .rename_i src m rd hrow;have common:∀{φ:PM} {E:Nat->Prop} {h':HF} {w:World} {a:Act},(∀i∈rd,h' i=h.get i)->Wd φ E h' w a e o->re φ E h' w->∃vs,Src P i.size u (a.eval x) m vs w/\Cs φ (tot E φ h') w src vs:=
    λhrd hp hrep=>aee hrow hrd hrep (hp x _ (by rw[ho];simp[Op.operands,eU]) Z) hu'
   have exec:∀{w w':World} {a:Act} {v:Value},(Builtin.append_ #[t,u] o.type #[a.eval s,a.eval x]).run P w= .ok v w'->(execOp a.eval o).run P w= .ok (.value v) w':=by
    intro w w' a v hrun;unfold execOp;rw[ho];simp[resolve,invoke,builtin,hrun]
   split at L
   .rename_i id sz' n;split at L
    .rename_i blk hblk;split at L
     .rename_i hc;simp only[al,cV,cW]at hc;obtain⟨⟨⟨⟨⟨rfl,hmem⟩,hcells⟩,hlen⟩,hty⟩,hroom⟩:=hc;have hlen:=a_ hlen;rw[BC.len_toMx hcells]at hlen;obtain⟨r1,r2⟩:=Ir hroom;simp only[ah]at L;subst L;subst hty;intro φ E h' w a h1 h2 h3 hrep h5;have hp:Wd φ E h' w a e o:=λx y Z hy=>tO hrep h3 Z hy
      have hb':h' id=M blk:=by rw[h1 id (by simp[Ck.eff])];exact hblk
      obtain⟨vs,hsrc,hcs⟩:=common (λi hi=>h1 i (by simp[Ck.eff,hi])) hp hrep;have hpd:=hp s _ (by rw[ho];simp[Op.operands,eU]) hsv;have hnx:φ nx=D:=h5 nx (by simp[Ck.eff]);have hwv:=hp s _ (by rw[ho];simp[Op.operands,eU]) hsv;generalize hzv:a.eval s=pv at hpd;cases hpd with
      |@row _ _ _ cap k hφ hn hcap hsh=>
       obtain⟨arr,g1,g2,g3⟩:=hrep.cs hb' hφ hcells;have hne:nx≠id:=λe=>by rw[e,hφ]at hnx;cases hnx
       have harr:arr.size=cap*i.size:=by
        obtain⟨ty,hty⟩:=hsh;unfold rU at hty;rw[g1]at hty;simp at hty;exact hty.2
       have hnl:=hsrc.newsLen;have hnn:n*i.size<=arr.size:=by omega
       have csnew:Cs φ (tot E φ h') w (blk.c.toMx.take (n*i.size)++src) (arr.toList.take (n*i.size)++vs):=by
        have:=(g2.take (n*i.size)).append hcs
        rwa [List.take_take,sP hlen]at this
       have hnw1:jr [(nx,⟨blk.ty,pA (blk.c.toMx.take (n*i.size)++src)⟩)] nx=M ⟨blk.ty,pA (blk.c.toMx.take (n*i.size)++src)⟩:=by simp[jr]
       have hnw2:jr [(nx,⟨blk.ty,pA (blk.c.toMx.take (n*i.size)++src)⟩)] id=D:=by
        simp only[jr];rw[ax];intro hb;exact hne (ar hb)
       by_cases hfit:n+m<=cap
       ·
        have hend:n*i.size+vs.length<=arr.size:=by
         rw[hnl,harr,<-NP];exact cL _ hfit
        have hst:=run_storeCells_at (P:=P) k (n*i.size) blk.ty vs 0 arr w g1 (by omega) hsrc.one;simp only[c8]at hst
        let arr':Array Value:=(arr.toList.take (n*i.size)++vs++arr.toList.drop (n*i.size+vs.length)).toArray
        have hsize:arr'.size=arr.size:=by simp only[arr',tC,be,bA,mR,iF];omega
        have hrun:(Builtin.append_ #[t,u] o.type #[a.eval s,a.eval x]).run P w= .ok (.slice (M ⟨k,0,D⟩) (n+m) cap) (w.setRow k arr'):=by
         rw[hzv];rcases hsrc.kind with ⟨e',hk⟩|hk<;>simp[Builtin.append_,run_underlying hu,run_underlying hk,sizeOf,typeInfo,i1,hsrc.len,hfit,hsrc.cells,lx,hst,arr']
        obtain⟨φ',p1,p2,p3,p4⟩:=hrep.wren hb' hφ hnx (Fx.setRow g1 hsize) (b':=⟨blk.ty,pA (blk.c.toMx.take (n*i.size)++src)⟩) (by
         obtain⟨q1,q2⟩:=nZ (blk.c.toMx.take (n*i.size)++src);refine qj q2 (by rw[q1,<-csnew.1,hsize];simp;omega) λj q hq=>?_
         rw[q1]at hq;have hj:j<(arr.toList.take (n*i.size)++vs).length:=by rw[csnew.1];exact (bh.1 hq).1
         refine ⟨csnew.2.1 q (aX hq),_,?_,csnew.2.2 j q _ hq (ay hj)⟩;simp only[arr',kD];rw[bQ hj,ay hj]) _ hnw1 hnw2
        unfold HC;rw[exec hrun];refine ⟨_,φ',rfl,p2,p3,p4,.row p1 hfit hcap ⟨blk.ty,?_⟩⟩;unfold rU;rw[setRow_heap w k arr arr' blk.ty (0,0) g1];simp[hsize,harr]
       ·
        have hold:(Ld i.size n (.slice (M ⟨k,0,D⟩) n cap)).run P w.drew= .ok (arr.toList.take (n*i.size)).toArray w.drew:=by
         refine run_firstCells_some w.drew i.size n _ n cap _ (by simp;omega) λj v hv=>?_
         rw[cR]at hv;split at hv
         .rw[cz]at hv;rw[lx,bI];have hcl:w.cell? ⟨k,j,D⟩=M v:=by simp[NK,g1,hv]
          simpa using hcl
         .cases hv
        exact SU ho hu i1 hz hzl hrep hnx hzv hold (by
         have:=g2.take (n*i.size)
         rwa [List.take_take,sP hlen]at this) (by simp;omega) hsrc hcs (by omega) r1 r2 [id] (λj hj=>by simp at hj;subst hj;exact λe=>hne e.symm)
     .cases L
    .cases L
   .split at L
    .rename_i hc;simp only[al]at hc;obtain⟨U,hroom⟩:=hc;obtain⟨r1,r2⟩:=Ir hroom;have hbase:∀{φ:PM} {O:Nat->Prop} {w:World} {v:Value},cN φ O w bv v->∃A,v= .slice A 0 0:=by
      intro φ O w v hr;unfold I2 at U;split at U
      .cases hr;exact⟨_,rfl⟩
      .rename_i q;cases fk hr;unfold tL at U;split at U
       .exact⟨_,rfl⟩
       .cases U
      .cases U
     split at L
     .rename_i hm;have hm:m=0:=by simpa using hm
      subst hm;simp only[ah]at L;subst L;refine gP.reads λφ E h' w a hrd hp hrep=>?_
      obtain⟨vs,hsrc,hcs⟩:=common hrd hp hrep;have hr:=hp s _ (by rw[ho];simp[Op.operands,eU]) hsv;obtain⟨A,hA⟩:=hbase hr;refine ⟨a.eval s,exec ?_,hr⟩;rw[hA];have hvs:vs=[]:=by have:=hsrc.newsLen;simpa using this
      have hc0:=hsrc.cells;rw[hvs]at hc0;rcases hsrc.kind with ⟨e',hk⟩|hk<;>cases A<;>simp[Builtin.append_,run_underlying hu,run_underlying hk,sizeOf,typeInfo,i1,hsrc.len,hc0,storeCells]
     .rename_i hm;have hm:m≠0:=by simpa using hm
      simp only[ah]at L;subst L;intro φ E h' w a h1 h2 h3 hrep h5;have hp:Wd φ E h' w a e o:=λx y Z hy=>tO hrep h3 Z hy
      obtain⟨vs,hsrc,hcs⟩:=common (λi hi=>h1 i hi) hp hrep;obtain⟨A,hA⟩:=hbase (hp s _ (by rw[ho];simp[Op.operands,eU]) hsv);have hold:(Ld i.size 0 (.slice A 0 0)).run P w.drew= .ok ([]:ξ).toArray w.drew:=by
       cases A with
       |none=>exact run_firstCells_none w.drew i.size 0 0 0
       |some ad=>exact run_firstCells_some w.drew i.size 0 ad 0 0 [] (by simp) (by intro j v hv;simp at hv)
      have:=SU (nx:=nx) (n:=0) (cap:=0) (olds:=[]) (oldA:=[]) ho hu i1 hz hzl hrep (h5 nx (by simp[Ck.eff])) hA hold ⟨rfl,(by intro x Z;cases Z),(by intro j x v Z;simp at Z)⟩ (by simp) hsrc hcs (by omega) (by omega) (by simpa using r2) [] (by simp);simpa[Ck.eff] using this
    .cases L
  .cases L
 .cases L
end
section
variable {P:Program} {o:Oper} {e:Ab} {h:oq} {nx:Nat} {R:Ck}
theorem anc {t:TypeId} (s:o.op= .makeMap t D) (c:eL .mkm e h nx=M R):gP P o e.get h.get R.eff:=by
 simp only[eL,ah]at c;subst c;refine gP.makes λφ E h' w a _ _ _=>?_
 refine ⟨.map (M w.heap.size),{w with heap:=w.heap.push (.map #[] 0)},.map #[] 0,?_,ri w _,⟨#[],0,rfl,by unfold XM;rw[aC rfl];rfl,by intro j x q;simp at q⟩,λφ' O hφ=>.mp hφ⟩;unfold execOp;rw[s];simp[Instr.makeMap,newObj,kn]
theorem an7 {t:TypeId} {x:Operand} (q:o.op= .range t x) (hu:P.underlying t=M .string) (c:eL (.rng x) e h nx=M R):gP P o e.get h.get R.eff:=by
 simp only[eL]at c;split at c
 .rename_i s z;simp only[ah]at c;subst c;refine gP.makes λφ E h' w a _ hp _=>?_
  have hr:=fk (hp x _ (by rw[q];simp[Op.operands]) z);refine ⟨.pointer (M ⟨w.heap.size,0,D⟩),{w with heap:=w.heap.push (.stringIter s 0)},.stringIter s 0,?_,ri w _,rfl,λφ' O hφ=>.ptr hφ⟩;unfold execOp;rw[q];simp[Instr.range,run_underlying hu,hr,newObj,kn]
 .cases c
theorem yR {w:World} {k:Nat} {ob ob':Obj} (hk:w.heap[k]? =M ob) (h1:∀c t f,ob≠ .cells c t f) (h2:∀c t f,ob'≠ .cells c t f):Fx w {w with heap:=w.heap.setIfInBounds k ob'} k ob':=by
 have hlt:k<w.heap.size:=(cC.1 hk).1;have hat:(w.heap.setIfInBounds k ob')[k]? =M ob':=by simp[hlt]
 have hot:∀j,j≠k->(w.heap.setIfInBounds k ob')[j]? =w.heap[j]? :=λj hj=>p_ (λe=>hj e.symm)
 refine ⟨rfl,rfl,rfl,by simp,hat,hot,λj=>?_⟩;unfold rU;by_cases hj:j=k
 .subst hj;simp only[hat,hk];cases ob<;>cases ob'<;>first|rfl|exact bZ rfl (h1 _ _ _)|exact bZ rfl (h2 _ _ _)
 .simp only[hot j hj]
theorem an8 {x:Operand} (Z:o.op= .next x J) (c:eL (.nxt x) e h nx=M R):gP P o e.get h.get R.eff:=by
 simp only[eL]at c;split at c
 .rename_i id hx;split at c
  .rename_i ty s p hid;split at c
   .rename_i b hb;split at c
    .rename_i hlt;have hlt:=a_ hlt;simp only[ah]at c;subst c;refine gP.writes hid λφ E h' w a hrd A hp hrep=>?_
     have hr:=hp x _ (by rw[Z];simp[Op.operands]) hx;generalize hz:a.eval x=z at hr;cases hr with
     |@ptr _ _ k hφ=>
      obtain⟨k',U,_,ob,L,q3⟩:=hrep.at_ id _ A;rw[hφ]at U;cases U;have q3:ob= .stringIter s p:=q3;subst q3;have hps:p<s.size:=by
       have:=(bh.1 hb).1;simpa using this
      have hget:s.get! p=b:=by
       have:s.data[p]? =M b:=by rw[<- cz];exact hb
       have hpd:p<s.data.size:=(cC.1 this).1;have h2:s.data[p]! =s.data[p]:=getElem!_pos s.data p hpd;rw[iv hpd]at this;simp only[ByteArray.get!,h2];exact j9 this
      have hdec:Utf8.decode s p=(b.toNat,1):=by
       unfold Utf8.decode;simp only[c8,hget];rw[aC (by omega)]
      refine ⟨.value (.tuple #[.bool J,.int .i64 p,.int .i32 b.toNat]),_,k,.stringIter s (p+1),?_,hφ,yR L (by simp) (by simp),rfl,_,.inl rfl,?_⟩
      .unfold execOp;rw[Z];simp[Instr.next,hz,getObj,kn,L,hps,hdec,setObj,goInt]
      .refine cN.tup (vs:=[.bool J,.int .i64 p,.int .i32 b.toNat]) rfl λj y v q hv=>?_
       rcases j with _|_|_|j<;>simp at q hv
       .subst q;subst hv;exact .f (.raw _)
       .subst q;subst hv;exact .f (.raw _)
       .subst q;subst hv;exact .f (.raw _)
    .cases c
   .rename_i hb;simp only[ah]at c;subst c;refine gP.writes hid λφ E h' w a hrd A hp hrep=>?_
    have hr:=hp x _ (by rw[Z];simp[Op.operands]) hx;generalize hz:a.eval x=z at hr;cases hr with
    |@ptr _ _ k hφ=>
     obtain⟨k',U,_,ob,L,q3⟩:=hrep.at_ id _ A;rw[hφ]at U;cases U;have q3:ob= .stringIter s p:=q3;subst q3;have hps:¬p<s.size:=by
      have:=List.getElem?_eq_none_iff.1 hb;have e:s.data.toList.length=s.size:=by simp
      omega
     refine ⟨.value (.tuple #[.bool af]),w,k,.stringIter s p,?_,hφ,⟨rfl,rfl,rfl,rfl,L,λ_ _=>rfl,λ_=>rfl⟩,rfl,_,.inl rfl,?_⟩
     .unfold execOp;rw[Z];simp[Instr.next,hz,getObj,kn,L,hps]
     .refine cN.tup (vs:=[.bool af]) rfl λj y v q hv=>?_
      rcases j with _|j<;>simp at q hv;subst q;subst hv;exact .f (.raw _)
  .cases c
 .cases c
theorem zZ {a b:ByteArray}:sk a b=J↔a=b:=by
 unfold sk;constructor
 .intro h;have h1:a.data.toList=b.data.toList:=by simpa using h
  cases a;cases b;congr 1;exact Lg h1
 .rintro rfl;simp
theorem Fp (a b:ByteArray):(a==b)=sk a b:=by
 have h1:(a==b)=(a.data==b.data):=rfl;rw[h1,Bool.eq_iff_iff,zZ,cV];constructor
 .intro h;cases a;cases b;congr 1
 .rintro rfl;rfl
def kd (str:Bool) (d:TypeDesc):Prop:=if str then d= .string else ∃k,d= .int k
theorem yX {str:Bool} {d:TypeDesc} (hd:kd str d) {k k':Value} (hk:zk str k=J) {b:Bool} (hb:tP .eql k k'=M (.bool b)):Instr.sameNow d k k'=M b:=by
 unfold kd at hd;cases str with
 |true=>
  simp only[bG]at hd;subst hd;cases k<;>simp[zk]at hk;cases k'<;>simp only[tP]at hb<;>try (simp at hb;done)
  simp only[ah,Cn]at hb;simp[Instr.sameNow,Fp,hb]
 |false=>
  simp only[ci,dP]at hd;obtain⟨q,rfl⟩:=hd;cases k<;>simp[zk]at hk;cases k'<;>simp only[tP]at hb<;>try (simp at hb;done)
  split at hb
  .rename_i hkk;have hkk':=eq_of_beq hkk;subst hkk';simp only[ah,Cn]at hb;simp[Instr.sameNow,<-hb]
  .cases hb
theorem Rv {str:Bool} {d:TypeDesc} (hd:kd str d) {k:Value} (hk:zk str k=J):∀(es:Y (Value×AV)) (ents:Y MapEntry) (i:Nat),ents.map (·.key)=es.map (·.1)->∀r,tJ k es=M r->
 (r=D/\eT d k ents i=M D)\/∃(j:Nat) (v:AV) (m:MapEntry) (k':Value),r=M v/\es[j]? =M (k',v)/\ents[j]? =M m/\eT d k ents i=M (M (i+j,m.val))/\tP .eql k k'=M (.bool J)
 |[],ents,i,he,r,h=>by
  cases ents with
  |nil=>simp only[tJ,ah]at h;exact .inl ⟨h.symm,rfl⟩
  |cons _ _=>simp at he
 |(k',v)::es,ents,i,he,r,h=>by
  cases ents with
  |nil=>simp at he
  |cons m ents=>
   simp only[eS,ja]at he;obtain⟨a,c⟩:=he;simp only[tJ]at h;split at h
   .rename_i hb;simp only[ah]at h;refine .inr ⟨0,v,m,k',h.symm,rfl,rfl,?_,hb⟩;simp only[eT];rw[a,yX hd hk hb];rfl
   .rename_i hb;have hs:=yX hd hk hb;rcases Rv hd hk es ents (i+1) c r h with ⟨h1,h2⟩|⟨j,q,m',k'',h1,h2,A,z,s⟩
    .refine .inl ⟨h1,?_⟩;simp only[eT];rw[a,hs];exact h2
    .refine .inr ⟨j+1,q,m',k'',h1,by simpa using h2,by simpa using A,?_,s⟩;simp only[eT];rw[a,hs];show eT d k ents (i+1)=_;rw[z,show i+1+j=i+(j+1) from by omega]
   .cases h
theorem tD {a:TypeId} {str:Bool} {d:TypeDesc} (hu:P.underlying a=M d) (hd:kd str d) (b:Bool) (v:Value) (w:World):(Instr.checkKey b 10000 a v).run P w= .ok () w:=by
 have key:∀n,(Instr.checkKey b (n+1) a v).run P w= .ok () w:=λn=>by
  unfold kd at hd;cases str with
  |true=>simp only[bG]at hd;subst hd;simp[Instr.checkKey,run_underlying hu]
  |false=>simp only[ci,dP]at hd;obtain⟨q,rfl⟩:=hd;simp[Instr.checkKey,run_underlying hu]
 exact key 9999
theorem aa4 {φ:PM} {O:Nat->Prop} {w:World} {ok b:Bool} {x:AV} {v:Value} (h:cN φ O w x v):cN φ O w (pkV ok x b) (if ok then .tuple #[v,.bool b] else v):=by
 cases ok with
 |false=>exact h
 |true=>
  refine cN.tup (vs:=[v,.bool b]) rfl λj y u a hv=>?_
  rcases j with _|_|j<;>simp at a hv
  .subst a;subst hv;exact h
  .subst a;subst hv;exact .f (.raw _)
theorem P_ {n:Int} {v:AV}:∀{es:Y (Value×AV)},told n es=M v->∃j:Nat,es[j]? =M (.int .i64 n,v)
 |(.int .i64 k,a)::r,h=>by
  simp only[told]at h;split at h
  .rename_i e;subst e;cases h;exact⟨0,rfl⟩
  .obtain⟨j,hj⟩:=P_ h;exact⟨j+1,hj⟩
theorem jq {k:Value} {m:MapEntry} {r:Y MapEntry} (hm:wF m.key) (hk:wF k):(m.key=k->ky k (m::r)=m.val)/\(m.key≠k->ky k (m::r)=ky k r):=by
 obtain⟨a,c⟩:=hm;obtain⟨b,rfl⟩:=hk;have e0:ky (.int .i64 b) (m::r)=if a=b then m.val else ky (.int .i64 b) r:=by simp only[ky,c]
 rw[e0];exact⟨λe=>by rw[c]at e;cases e;rw[aC rfl],λe=>by rw[ax λq=>e (by rw[c,q])]⟩
theorem E9 {d:TypeDesc} (hd:kd af d) (n:Int):∀(ents:Y MapEntry) (i:Nat),(∀m∈ents,wF m.key)->
 (eT d (.int .i64 n) ents i=M D/\ky (.int .i64 n) ents= .slice D 0 0/\∀(k:Value) (m':MapEntry),m'.key= .int .i64 n->wF k->(k= .int .i64 n->ky k (ents++[m'])=m'.val)/\(k≠ .int .i64 n->ky k (ents++[m'])=ky k ents))\/
 ∃(j:Nat) (m:MapEntry),ents[j]? =M m/\eT d (.int .i64 n) ents i=M (M (i+j,m.val))/\ky (.int .i64 n) ents=m.val/\m.key= .int .i64 n/\∀(k:Value) (m':MapEntry),m'.key= .int .i64 n->wF k->(k= .int .i64 n->ky k (ents.set j m')=m'.val)/\(k≠ .int .i64 n->ky k (ents.set j m')=ky k ents)
 |[],i,_=>by
  refine .inl ⟨rfl,rfl,λk m' hm hk=>⟨λe=>?_,λe=>?_⟩⟩
  .exact (jq (r:=[]) ⟨n,hm⟩ hk).1 (hm.trans e.symm)
  .exact (jq (r:=[]) ⟨n,hm⟩ hk).2 (λq=>e (q.symm.trans hm))
 |m::r,i,h=>by
  have hmk:=h m (cQ ..);obtain⟨a,c⟩:=hmk;have hb:tP .eql (.int .i64 n) (.int .i64 a)=M (.bool (n==a)):=by simp[tP]
  have hs:=yX hd (k:=.int .i64 n) rfl hb;by_cases e:n=a
  .subst e;refine .inr ⟨0,m,rfl,?_,(jq ⟨n,c⟩ ⟨n,rfl⟩).1 c,c,λk m' hm hk=>⟨λe=>?_,λe=>?_⟩⟩
   .simp only[eT];rw[c,hs];simp
   .exact (jq (r:=r) ⟨n,hm⟩ hk).1 (hm.trans e.symm)
   .show ky k (m'::r)=_;rw[(jq (r:=r) ⟨n,hm⟩ hk).2 (λq=>e (q.symm.trans hm)),(jq (r:=r) ⟨n,c⟩ hk).2 (λq=>e (q.symm.trans c))]
  .have z:Instr.sameNow d (.int .i64 n) m.key=M af:=by rw[c,hs];simp[e]
   have hne:¬m.key= .int .i64 n:=λq=>by rw[c]at q;cases q;exact e rfl
   have hl:=(jq (r:=r) ⟨a,c⟩ ⟨n,rfl⟩).2 hne;have step:∀(k:Value) (s:Y MapEntry) (m':MapEntry),wF k->m'.key= .int .i64 n->(k= .int .i64 n->ky k s=m'.val)/\(k≠ .int .i64 n->ky k s=ky k r)->(k= .int .i64 n->ky k (m::s)=m'.val)/\(k≠ .int .i64 n->ky k (m::s)=ky k (m::r)):=λk s m' hk _ g=>by
    refine ⟨λq=>?_,λq=>?_⟩
    .rw[(jq (r:=s) ⟨a,c⟩ hk).2 (λx=>hne (x.trans q))];exact g.1 q
    .by_cases x:m.key=k
     .rw[(jq (r:=s) ⟨a,c⟩ hk).1 x,(jq (r:=r) ⟨a,c⟩ hk).1 x]
     .rw[(jq (r:=s) ⟨a,c⟩ hk).2 x,(jq (r:=r) ⟨a,c⟩ hk).2 x];exact g.2 q
   rcases E9 hd n r (i+1) (λq hq=>h q (bV _ hq)) with ⟨h1,h2,A⟩|⟨j,q,h1,h2,A,U,L⟩
   .refine .inl ⟨?_,by rw[hl];exact h2,λk m' hm hk=>step k _ m' hk hm (A k m' hm hk)⟩;simp only[eT];rw[z];exact h1
   .refine .inr ⟨j+1,q,by simpa using h1,?_,by rw[hl];exact A,U,λk m' hm hk=>step k _ m' hk hm (L k m' hm hk)⟩;simp only[eT];rw[z];show eT d _ r (i+1)=_;rw[h2,show i+1+j=i+(j+1) from by omega]
theorem FH {n:Int} {y:AV}:∀{es:Y (Value×AV)} {j:Nat} {q:Value×AV},(lV n y es)[j]? =M q->∃p,es[j]? =M p/\q.1=p.1/\(p.1= .int .i64 n->q.2=y)/\(p.1≠ .int .i64 n->q.2=p.2)
 |[],j,q,h=>by simp[lV]at h
 |p::r,0,q,h=>by
  simp only[lV,lQ,ah]at h;subst h;refine ⟨p,rfl,rfl,λe=>?_,λe=>?_⟩
  .show (match p.1 with|.int .i64 k=>if k=n then y else p.2|_=>p.2)=y;rw[e];dsimp only;rw[aC rfl]
  .show (match p.1 with|.int .i64 k=>if k=n then y else p.2|_=>p.2)=p.2;split
   .rename_i k hk;rw[ax λq=>e (by rw[hk,q])]
   .rfl
 |p::r,j+1,q,h=>by
  simp only[lV,List.getElem?_cons_succ]at h;obtain⟨a,h1,h2⟩:=FH h;exact⟨a,by simpa using h1,h2⟩
theorem Cy (n:Int) (y:AV):∀es:Y (Value×AV),(lV n y es).map (·.1)=es.map (·.1)
 |[]=>rfl
 |p::r=>by simp only[lV,eS];rw[Cy n y r]
theorem ai5 {t kt el:TypeId} {x k:Operand} {str ok:Bool} {d:TypeDesc} {z:Value} (L:o.op= .lookup t x k ok) (hu:P.underlying t=M (.map kt el)) (hk:P.underlying kt=M d) (hd:kd str d) (s:(P.info? el).bind (·.zero)=M z) (c:eL (.lku str ok z x k) e h nx=M R):gP P o e.get h.get R.eff:=by
 simp only[eL]at c;split at c
 .rename_i id key hx hkx;split at c
  .rename_i es hid;split at c
   .rename_i hko;have fin:∀val:AV,(∀(φ:PM) (E:Nat->Prop) (h':HF) (w:World) (a:Act),h' id=M ⟨0,.mp es⟩->Wd φ E h' w a e o->re φ E h' w->∃v,(execOp a.eval o).run P w= .ok (.value v) w/\cN φ (tot E φ h') w val v)->R=⟨val,[id],[],[],[]⟩->gP P o e.get h.get R.eff:=by
     rintro val hv rfl;exact gP.reads λφ E h' w a hrd hp hrep=>hv φ E h' w a (by rw[hrd id (by simp)];exact hid) hp hrep
    have zrun:∀w:World,(zeroValue el).run P w= .ok z w:=λw=>by
     cases hi:P.info? el with
     |none=>rw[hi]at s;cases s
     |some i=>rw[hi]at s;simp only[aF]at s;simp[zeroValue,typeInfo,hi,s]
    have main:∀r,tJ key es=M r->∀(φ:PM) (E:Nat->Prop) (h':HF) (w:World) (a:Act),h' id=M ⟨0,.mp es⟩->Wd φ E h' w a e o->re φ E h' w->
     ∃v,(execOp a.eval o).run P w= .ok (.value v) w/\cN φ (tot E φ h') w (match r with|some v=>pkV ok v J|none=>pkV ok (raw z) af) v:=by
     intro r hr φ E h' w a U hp hrep;have hrx:=hp x _ (by rw[L];simp[Op.operands]) hx;have hrk:=fk (hp k _ (by rw[L];simp[Op.operands]) hkx);generalize q:a.eval x=zz at hrx;cases hrx with
     |@mp _ b hφ=>
      obtain⟨k',q1,_,ob,q2,q3⟩:=hrep.at_ id _ U;rw[hφ]at q1;cases q1;obtain⟨ents,clock,rfl,q4,q5⟩:=q3;have q4:ents.toList.map (·.key)=es.map (·.1):=by unfold XM at q4;rw[aC rfl]at q4;exact q4
      have hck:=tD (P:=P) hk hd ents.isEmpty key w;rcases Rv hd hko es ents.toList 0 q4 r hr with ⟨h1,h2⟩|⟨j,v,m,k',h1,h2,h3,h4,_⟩
      .subst h1;refine ⟨_,?_,aa4 (.f (.raw z))⟩;unfold execOp;rw[L];cases ok<;>simp[Instr.lookup,run_underlying hu,q,hrk,getObj,kn,q2,hck,sS,run_underlying hk,h2,zrun]
      .subst h1;obtain⟨_,A,Z⟩:=q5 j _ h2;unfold MpV at A;rw[aC rfl]at A;obtain⟨m',A,rfl⟩:=A;rw[cz]at h3;rw[h3]at A;cases A;refine ⟨_,?_,aa4 Z⟩;unfold execOp;rw[L];cases ok<;>simp[Instr.lookup,run_underlying hu,q,hrk,getObj,kn,q2,hck,sS,run_underlying hk,h4]
    split at c
    .rename_i v hf;simp only[ah]at c;exact fin _ (main _ hf) c.symm
    .rename_i hf;simp only[ah]at c;exact fin _ (main _ hf) c.symm
    .cases c
   .cases c
  .rename_i ty es hid;split at c
   .rename_i n;split at c
    .rename_i hc;split at c
     .rename_i v hv;simp only[ah]at c;subst c;cases str with
      |true=>simp at hc
      |false=>
      cases ok with
      |true=>simp at hc
      |false=>
      have hz0:z= .slice D 0 0:=by
       simp only[Bool.not_false,ib]at hc;unfold tL at hc;split at hc
       .rfl
       .cases hc
      subst hz0;have zrun:∀w:World,(zeroValue el).run P w= .ok (.slice D 0 0) w:=λw=>by
       cases hi:P.info? el with
       |none=>rw[hi]at s;cases s
       |some i=>rw[hi]at s;simp only[aF]at s;simp[zeroValue,typeInfo,hi,s]
      refine gP.reads λφ E h' w a hrd hp hrep=>?_
      have U:h' id=M ⟨ty+1,.mp es⟩:=by rw[hrd id (by simp)];exact hid
      have hrx:=hp x _ (by rw[L];simp[Op.operands]) hx;have hrk:=fk (hp k _ (by rw[L];simp[Op.operands]) hkx);generalize q:a.eval x=zz at hrx;cases hrx with
      |@mp _ b hφ=>
       obtain⟨k',q1,_,ob,q2,q3⟩:=hrep.at_ id _ U;rw[hφ]at q1;cases q1;obtain⟨ents,clock,rfl,q4,q5⟩:=q3;unfold XM at q4;rw[ax (by simp)]at q4;obtain⟨j,hj⟩:=P_ hv;obtain⟨v',A,Z⟩:=q5 j _ hj;unfold MpV at A;rw[ax (by simp)]at A;subst A;have hck:=tD (P:=P) hk hd ents.isEmpty (.int .i64 n) w;rcases E9 hd n ents.toList 0 q4.1 with ⟨h1,h2,_⟩|⟨i,m,h1,h2,h3,_⟩
       .rw[h2]at Z;refine ⟨_,?_,Z⟩;unfold execOp;rw[L];simp[Instr.lookup,run_underlying hu,q,hrk,getObj,kn,q2,hck,sS,run_underlying hk,h1,zrun]
       .rw[h3]at Z;refine ⟨_,?_,Z⟩;unfold execOp;rw[L];simp[Instr.lookup,run_underlying hu,q,hrk,getObj,kn,q2,hck,sS,run_underlying hk,h2]
     .cases c
    .cases c
   .cases c
  .cases c
 .cases c
theorem WD {str:Bool} {d:TypeDesc} (hd:kd str d) {k:Value} (hk:zk str k=J) {v:AV}:∀(es es':Y (Value×AV)) (ents:Y MapEntry) (i:Nat),ents.map (·.key)=es.map (·.1)->zh k v es=M es'->
 (eT d k ents i=M D/\es'=es++[(k,v)])\/∃(j:Nat) (m:MapEntry) (k':Value) (c:AV),es[j]? =M (k',c)/\ents[j]? =M m/\eT d k ents i=M (M (i+j,m.val))/\tP .eql k k'=M (.bool J)/\es'=es.set j (k,v)
 |[],es',ents,i,he,h=>by
  cases ents with
  |nil=>simp only[zh,ah]at h;exact .inl ⟨rfl,by simp[h]⟩
  |cons _ _=>simp at he
 |(k',c)::es,es',ents,i,he,h=>by
  cases ents with
  |nil=>simp at he
  |cons m ents=>
   simp only[eS,ja]at he;obtain⟨a,q⟩:=he;simp only[zh]at h;split at h
   .rename_i hb;simp only[ah]at h;refine .inr ⟨0,m,k',c,rfl,rfl,?_,hb,by simp[h]⟩;simp only[eT];rw[a,yX hd hk hb];rfl
   .rename_i hb;have hs:=yX hd hk hb;split at h
    .rename_i es2 hes2;simp only[ah]at h;subst h;rcases WD hd hk es es2 ents (i+1) q hes2 with ⟨h1,h2⟩|⟨j,m',k'',v'',h1,h2,A,z,s⟩
     .refine .inl ⟨?_,by simp[h2]⟩;simp only[eT];rw[a,hs];exact h1
     .refine .inr ⟨j+1,m',k'',v'',by simpa using h1,by simpa using h2,?_,z,by simp[s]⟩;simp only[eT];rw[a,hs];show eT d k ents (i+1)=_;rw[A,show i+1+j=i+(j+1) from by omega]
    .cases h
   .cases h
theorem abo {str:Bool} {k k':Value} (hk:zk str k=J) (hb:tP .eql k k'=M (.bool J)):Lc 10000 k' k=J/\k'=k:=by
 cases str with
 |true=>
  cases k<;>simp[zk]at hk;cases k'<;>simp only[tP]at hb<;>try (simp at hb;done)
  simp only[ah,Cn]at hb;have:=zZ.1 hb;subst this;exact⟨by simp[Lc,Fp,hb],rfl⟩
 |false=>
  cases k<;>simp[zk]at hk;cases k'<;>simp only[tP]at hb<;>try (simp at hb;done)
  split at hb
  .rename_i hkk;have hkk':=eq_of_beq hkk;subst hkk';simp only[ah,Cn,cV]at hb;subst hb;exact⟨by simp[Lc],rfl⟩
  .cases hb
theorem ai4 {t kt el:TypeId} {x k y:Operand} {str:Bool} {d:TypeDesc} (L:o.op= .mapUpdate t x k y) (hu:P.underlying t=M (.map kt el)) (hk:P.underlying kt=M d) (hd:kd str d) (c:eL (.mup str x k y) e h nx=M R):gP P o e.get h.get R.eff:=by
 simp only[eL]at c;split at c
 .rename_i id key v A hkx hy;split at c
  .rename_i es hid;split at c
   .rename_i hko;split at c
    .rename_i es' hput;simp only[ah]at c;subst c;refine gP.writes hid λφ E h' w a hrd hb' hp hrep=>?_
     have hrx:=hp x _ (by rw[L];simp[Op.operands]) A;have hrk:=fk (hp k _ (by rw[L];simp[Op.operands]) hkx);have hry:=hp y _ (by rw[L];simp[Op.operands]) hy;generalize z:a.eval x=zz at hrx;cases hrx with
     |@mp _ b hφ=>
      obtain⟨k',q1,_,ob,Z,q3⟩:=hrep.at_ id _ hb';rw[hφ]at q1;cases q1;obtain⟨ents,clock,rfl,q4,q5⟩:=q3;have q4:ents.toList.map (·.key)=es.map (·.1):=by unfold XM at q4;rw[aC rfl]at q4;exact q4
      have q5:∀(j:Nat) x,es[j]? =M x->∃m,ents[j]? =M m/\cN φ (tot E φ h') w x.2 m.val:=λj x A=>by
       obtain⟨_,s,U⟩:=q5 j x A;unfold MpV at s;rw[aC rfl]at s;obtain⟨m,s,rfl⟩:=s;exact⟨m,s,U⟩
      have MO:∀(es:Y (Value×AV)) (ents:Array MapEntry) (clock:Nat),ents.toList.map (·.key)=es.map (·.1)->(∀(j:Nat) x,es[j]? =M x->∃m,ents[j]? =M m/\cN φ (tot E φ h') w x.2 m.val)->jh φ (tot E φ h') w ⟨0,.mp es⟩ (.map ents clock):=λes ents clock s U=>⟨ents,clock,rfl,by unfold XM;rw[aC rfl];exact s,λj x A=>by
       obtain⟨m,g3,g4⟩:=U j x A;exact⟨_,by unfold MpV;rw[aC rfl];exact⟨m,g3,rfl⟩,g4⟩⟩
      have hck:=tD (P:=P) hk hd af key w;have hlen:ents.size=es.length:=by have:=gR ai q4;simpa using this
      rcases WD hd hko es es' ents.toList 0 q4 hput with ⟨h1,rfl⟩|⟨j,m,k',v',h1,h2,h3,h4,rfl⟩
      .refine ⟨.skip,_,b,.map (ents.push {key,val:=a.eval y,born:=clock}) (clock+1),?_,hφ,yR Z (by simp) (by simp),MO _ _ _ (by simp[q4]) λj q hq=>?_,undef,.inr ⟨rfl,rfl⟩,.f (.raw _)⟩
       .unfold execOp;rw[L];simp[Instr.mapUpdate,run_underlying hu,z,hrk,getObj,kn,Z,hck,sS,run_underlying hk,h1,setObj]
       .rcases ca j es.length with hj|hj
        .rw[bQ hj]at hq;obtain⟨m,s,U⟩:=q5 j q hq;exact⟨m,by rw[Array.getElem?_push,ax (by omega)];exact s,U⟩
        .rw[cf hj]at hq;have hj0:j-es.length=0:=by
          rcases Lb (j-es.length) with h0|h0
          .exact h0
          .rw[bE (by simp;omega)]at hq;cases hq
         rw[hj0]at hq;simp at hq;subst hq;exact⟨_,by rw[Array.getElem?_push,aC (by omega)],hry⟩
      .obtain⟨s1,s2⟩:=abo hko h4;subst s2;rw[cz]at h2;rw[bI]at h3;have hjl:j<ents.size:=(cC.1 h2).1;have hmk:m.key=k':=by
        have e1:(ents.toList.map (·.key))[j]? =M m.key:=by rw[ba,cz,h2];rfl
        rw[q4,ba,h1]at e1;simpa using e1.symm
       refine ⟨.skip,_,b,.map (ents.modify j λe=>{e with key:=k',val:=a.eval y}) clock,?_,hφ,yR Z (by simp) (by simp),MO _ _ _ ?_ λi q hq=>?_,undef,.inr ⟨rfl,rfl⟩,.f (.raw _)⟩
       .unfold execOp;rw[L];simp[Instr.mapUpdate,run_underlying hu,z,hrk,getObj,kn,Z,hck,sS,run_underlying hk,h3,setObj,h2,hmk,Instr.keyThatStays,s1]
       .apply List.ext_getElem?;intro i;simp only[ba,cz,jZ,Array.getElem?_modify];have e2:∀i:Nat,(ents[i]?).map (λm:MapEntry=>m.key)=(es[i]?).map (λp:Value×AV=>p.1):=λi=>by
         have:=gR (λl=>l[i]?) q4;simpa[ba,cz] using this
        by_cases hij:j=i
        .subst hij;simp[h2,show j<es.length by omega]
        .simp only[hij,dP];exact e2 i
       .rw[jZ]at hq;rw[Array.getElem?_modify];by_cases hij:j=i
        .subst hij;simp[show j<es.length by omega]at hq;subst hq;exact⟨{m with key:=k',val:=a.eval y},by simp[h2],hry⟩
        .simp only[hij,dP]at hq ⊢;exact q5 i q hq
    .cases c
   .cases c
  .rename_i ty es hid;split at c
   .rename_i n;split at c
    .cases c
    .rename_i hstr;have hstr:str=af:=by simpa using hstr
     subst hstr;simp only[ah]at c;subst c;refine gP.writes hid λφ E h' w a hrd hb' hp hrep=>?_
     have hrx:=hp x _ (by rw[L];simp[Op.operands]) A;have hrk:=fk (hp k _ (by rw[L];simp[Op.operands]) hkx);have hry:=hp y _ (by rw[L];simp[Op.operands]) hy;generalize z:a.eval x=zz at hrx;cases hrx with
     |@mp _ b hφ=>
      obtain⟨k',q1,_,ob,Z,q3⟩:=hrep.at_ id _ hb';rw[hφ]at q1;cases q1;obtain⟨ents,clock,rfl,q4,q5⟩:=q3;unfold XM at q4;rw[ax (by simp)]at q4;have q5:∀(j:Nat) x,es[j]? =M x->cN φ (tot E φ h') w x.2 (ky x.1 ents.toList):=λj x A=>by
       obtain⟨_,s,U⟩:=q5 j x A;unfold MpV at s;rw[ax (by simp)]at s;subst s;exact U
      have mk1:∀(ents':Array MapEntry) (clock:Nat),(∀m∈ents'.toList,wF m.key)->(∀k,wF k->(k= .int .i64 n->ky k ents'.toList=a.eval y)/\(k≠ .int .i64 n->ky k ents'.toList=ky k ents.toList))->jh φ (tot E φ h') w ⟨ty+1,.mp (lV n v es)⟩ (.map ents' clock):=λents' clock s U=>⟨ents',clock,rfl,by unfold XM;rw[ax (by simp),Cy];exact⟨s,q4.2⟩,λj x A=>by
       obtain⟨p,g3,g4,g5,g6⟩:=FH A;have hI:=q4.2 p.1 (di.2 ⟨p,aX g3,rfl⟩);refine ⟨_,by unfold MpV;rw[ax (by simp)],?_⟩;rw[g4];by_cases e:p.1= .int .i64 n
       .rw[(U _ hI).1 e,g5 e];exact hry
       .rw[(U _ hI).2 e,g6 e];exact q5 j p g3⟩
      have hck:=tD (P:=P) hk hd af (.int .i64 n) w;rcases E9 hd n ents.toList 0 q4.1 with ⟨h1,_,h3⟩|⟨j,m,h2,h3,_,h4,h5⟩
      .refine ⟨.skip,_,b,.map (ents.push {key:=.int .i64 n,val:=a.eval y,born:=clock}) (clock+1),?_,hφ,yR Z (by simp) (by simp),mk1 _ _ (λm hm=>?_) λk hk=>?_,undef,.inr ⟨rfl,rfl⟩,.f (.raw _)⟩
       .unfold execOp;rw[L];simp[Instr.mapUpdate,run_underlying hu,z,hrk,getObj,kn,Z,hck,sS,run_underlying hk,h1,setObj]
       .rw[Array.toList_push]at hm;rcases bO.1 hm with hm|hm
        .exact q4.1 m hm
        .rw[aI.1 hm];exact⟨n,rfl⟩
       .rw[Array.toList_push];exact h3 k _ rfl hk
      .rw[cz]at h2;rw[bI]at h3;obtain⟨hjl,hjm⟩:=cC.1 h2;have s1:Lc 10000 (.int .i64 n) (.int .i64 n)=J:=by simp[Lc]
       have hl:(ents.modify j λe=>{e with key:=.int .i64 n,val:=a.eval y}).toList=ents.toList.set j {m with key:=.int .i64 n,val:=a.eval y}:=by
        apply List.ext_getElem?;intro i;simp only[cz,jZ,Array.getElem?_modify];by_cases hij:j=i
        .subst hij;simp[h2,hjl,hjm]
        .simp[hij]
       refine ⟨.skip,_,b,.map (ents.modify j λe=>{e with key:=.int .i64 n,val:=a.eval y}) clock,?_,hφ,yR Z (by simp) (by simp),mk1 _ _ (λq hm=>?_) λk hk=>?_,undef,.inr ⟨rfl,rfl⟩,.f (.raw _)⟩
       .unfold execOp;rw[L];simp[Instr.mapUpdate,run_underlying hu,z,hrk,getObj,kn,Z,hck,sS,run_underlying hk,h3,setObj,h2,h4,Instr.keyThatStays,s1]
       .rw[hl]at hm;rcases List.mem_or_eq_of_mem_set hm with hm|rfl
        .exact q4.1 q hm
        .exact⟨n,rfl⟩
       .rw[hl];exact h5 k _ rfl hk
   .cases c
  .cases c
 .cases c
end
section
variable {P:Program} {o:Oper} {e:Ab} {h:oq} {nx:Nat} {R:Ck}
theorem Qv {t:TypeId} {d:TypeDesc} (hu:P.underlying t=M d) (hd:(match d with|.int _=>J|.bool=>J|.string=>J|_=>af)=J) (cs:Array Value) (j:Nat) (v:Value) (hv:cs[j]? =M v) (w:World):(part t cs j).run P w= .ok v w:=by
 unfold part;simp only[isAgg,eM,run_underlying hu,cO];cases d<;>simp at hd<;>simp[hv]
theorem Yx {t:TypeId} {d:TypeDesc} (hu:P.underlying t=M d) (hd:(match d with|.int _=>J|.bool=>J|.string=>J|_=>af)=J) {x y:FV} {b:Bool} (hxy:xK d x y=M b) {u v:Value} (q:x= .raw u) (c:y= .raw v) (n:Nat) (w:World):(Op.equalIn (n+1) t u v).run P w= .ok b w:=by
 subst q;subst c;cases d<;>simp at hd<;>cases u<;>cases v<;>simp only[xK]at hxy<;>first|(cases hxy;done)|skip
 .simp only[ah]at hxy;subst hxy;simp[Op.equalIn,run_underlying hu]
 .split at hxy
  .rename_i hk;have a:=eq_of_beq hk;subst a;simp only[ah]at hxy;subst hxy;simp[Op.equalIn,run_underlying hu]
  .cases hxy
 .simp only[ah]at hxy;subst hxy;simp[Op.equalIn,run_underlying hu,Fp]
abbrev JG (n:Nat) (xs q:Array Value) (f:Field) (_:I Bool×Unit):Sem (ForInStep (I Bool×Unit)):=
 if f.name≠ "_" then do
  let a←part f.type xs f.offset
  let b←part f.type q f.offset
  let c←Op.equalIn (n+1) f.type a b
  if (!c)=J then pure (ForInStep.done (M af,())) else pure (ForInStep.yield (D,()))
 else pure (ForInStep.yield (D,()))
theorem M7 (n:Nat) (w:World) (xs c:Array Value):∀(fs:Y Field) (ds:Y TypeDesc) (a b:Y FV) (k:Nat) (r:Bool),rY P k fs=M ds->
 (∀(j:Nat) x u,a[j]? =M x->xs[k+j]? =M u->x= .raw u\/∀v,x≠ .raw v)->(∀(j:Nat) x u,b[j]? =M x->c[k+j]? =M u->x= .raw u\/∀v,x≠ .raw v)->(∀(j:Nat),j<a.length->k+j<xs.size)->(∀(j:Nat),j<b.length->k+j<c.size)->pe ds a b=M r->
 (forIn fs (D,()) (JG n xs c)).run P w= .ok (if r then (D,()) else (M af,())) w
 |[],ds,a,b,k,r,hp,_,_,_,_,he=>by
  simp only[rY,ah]at hp;subst hp;cases a<;>cases b<;>simp[pe]at he;subst he;simp
 |f::fs,ds,a,b,k,r,hp,Z,hb,hla,hlb,he=>by
  simp only[rY]at hp;split at hp
  .rename_i d ds' hu U;split at hp
   .rename_i hc;simp only[al,bne_iff_ne,ne_eq,cV]at hc;obtain⟨⟨hn,hof⟩,hd⟩:=hc;simp only[ah]at hp;subst hp;cases a with
    |nil=>cases b<;>simp[pe]at he
    |cons x a=>
     cases b with
     |nil=>simp[pe]at he
     |cons y b=>
      simp only[pe]at he;have L:k<xs.size:=by have:=hla 0 (by simp);omega
      have A:k<c.size:=by have:=hlb 0 (by simp);omega
      have hraw:∀(z:FV) (q:Value),(z= .raw q\/∀v,z≠ .raw v)->(∃v,z= .raw v)->z= .raw q:=by
       rintro z q (h|h) ⟨v,hv⟩
       .exact h
       .exact bZ hv (h v)
      have hxr:∀s,xK d x y=M s->x= .raw xs[k]/\y= .raw c[k]:=by
       intro s hbb;have hrr:(∃v,x= .raw v)/\∃v,y= .raw v:=by
        unfold xK at hbb;split at hbb
        .exact⟨⟨_,rfl⟩,⟨_,rfl⟩⟩
        .exact⟨⟨_,rfl⟩,⟨_,rfl⟩⟩
        .exact⟨⟨_,rfl⟩,⟨_,rfl⟩⟩
        .cases hbb
       exact⟨hraw x _ (Z 0 x _ rfl (by simp[L])) hrr.1,hraw y _ (hb 0 y _ rfl (by simp[A])) hrr.2⟩
      have hstep:∀s,xK d x y=M s->(JG n xs c f (D,())).run P w= .ok (if s then ForInStep.yield (D,()) else ForInStep.done (M af,())) w:=by
       intro s hbb;obtain⟨h1,h2⟩:=hxr s hbb;have p1:=Qv hu (by cases d<;>simp[Iy]at hd<;>rfl) xs k xs[k] (by simp[L]) w;have p2:=Qv hu (by cases d<;>simp[Iy]at hd<;>rfl) c k c[k] (by simp[A]) w;have p3:=Yx hu (by cases d<;>simp[Iy]at hd<;>rfl) hbb h1 h2 n w;unfold JG;rw[aC hn,hof];simp only[eM,p1,p2,p3,cO];cases s<;>simp
      rw[List.forIn_cons];simp only[eM];split at he
      .rename_i hbb;rw[hstep J hbb];simp only[cO,bG];exact M7 n w xs c fs ds' a b (k+1) r U (λj x u h1 h2=>Z (j+1) x u (by simpa using h1) (by rw[<- h2];congr 1;omega)) (λj x u h1 h2=>hb (j+1) x u (by simpa using h1) (by rw[<- h2];congr 1;omega))
        (λj hj=>by have:=hla (j+1) (by simpa using hj);omega) (λj hj=>by have:=hlb (j+1) (by simpa using hj);omega) he
      .rename_i hbb;rw[hstep af hbb];simp only[ah]at he;subst he;simp
      .cases he
   .cases hp
  .cases hp
theorem Yw {t:TypeId} {fs:Array Field} (hu:P.underlying t=M (.struct fs)) (hs:P.stoodInHeld t=af) {ds:Y TypeDesc} (hp:rY P 0 fs.toList=M ds) (xs c:Array Value) {a b:Y FV} {r:Bool}
 (q:∀(j:Nat) x u,a[j]? =M x->xs[j]? =M u->x= .raw u\/∀v,x≠ .raw v) (hb:∀(j:Nat) x u,b[j]? =M x->c[j]? =M u->x= .raw u\/∀v,x≠ .raw v) (hla:a.length=xs.size) (hlb:b.length=c.size) (he:pe ds a b=M r) (w:World):
 (Op.equal t (.agg xs) (.agg c)).run P w= .ok r w:=by
 have key:∀n,(Op.equalIn (n+2) t (.agg xs) (.agg c)).run P w= .ok r w:=by
  intro n;rw[Op.equalIn];have h1:=M7 (P:=P) n w xs c fs.toList ds a b 0 r hp (λj x u h1 h2=>q j x u h1 (by simpa using h2)) (λj x u h1 h2=>hb j x u h1 (by simpa using h2)) (λj hj=>by omega) (λj hj=>by omega) he;rw[Array.forIn_toList]at h1;simp only[eM,run_underlying hu,cO,program,kn,hs,ci,dP];have h2:(forIn fs (D,()) (λf __s=>JG n xs c f __s)).run P w= .ok (if r then (D,()) else (M af,())) w:=h1;unfold JG at h2;rw[h2];cases r<;>simp
 exact key 9998
theorem RA {t:TypeId} {fs:Array Field} (hu:P.underlying t=M (.struct fs)) {ds:Y TypeDesc} (hp:rY P 0 fs.toList=M ds):P.eqGuardType P.depth t=af:=by
 have key:∀(fs:Y Field) (k:Nat) (ds:Y TypeDesc),rY P k fs=M ds→∀d,(fs.any λf=>f.name != "_" &&P.eqGuardType (d+1) f.type)=af:=by
  intro fs;induction fs with
  |nil=>intros;rfl
  |cons f fs q=>
   intro k ds hp d;simp only[rY]at hp;split at hp
   .rename_i s ds' a c;split at hp
    .rename_i hc;simp only[al]at hc;have:P.eqGuardType (d+1) f.type=af:=by
      unfold Program.eqGuardType;rw[a];have:=hc.2;cases s<;>simp[Iy]at this<;>rfl
     simp only[List.any_cons,this,Lf,Bool.false_or];exact q (k+1) ds' c d
    .cases hp
   .cases hp
 unfold Program.depth Program.eqGuardType;rw[hu];simp only[];rw[← Array.any_toList];exact key fs.toList 0 ds hp _
theorem ai6 {t t':TypeId} {op:BinOp} {neg:Bool} {x y:Operand} {fs:Array Field} {ds:Y TypeDesc} (A:o.op= .binOp op t x y t') (hop:op=if neg then .neq else .eql) (hu:P.underlying t=M (.struct fs)) (hs:P.stoodInHeld t=af) (hp:rY P 0 fs.toList=M ds) (c:eL (.eqs neg ds x y) e h nx=M R):gP P o e.get h.get R.eff:=by
 simp only[eL]at c;split at c
 .rename_i a b q U;split at c
  .rename_i r hr;rw[dC c];refine gP.reads λφ E h' w ac _ hpp _=>?_
   have h1:=hpp x _ (by rw[A];simp[Op.operands]) q;have h2:=hpp y _ (by rw[A];simp[Op.operands]) U;generalize hzx:ac.eval x=zx at h1;generalize hzy:ac.eval y=zy at h2;have rawOr:∀(l:Y FV) (vs:ξ),(∀(j:Nat) x v,l[j]? =M x->vs[j]? =M v->nM (tot E φ h') w x v)->∀(j:Nat) x u,l[j]? =M x->vs.toArray[j]? =M u->x= .raw u\/∀v,x≠ .raw v:=by
    intro l vs hr j x u q hu;have:=hr j x u q (by simpa using hu);cases this with
    |raw v=>exact .inl rfl
    |nil=>exact .inr (by simp)
    |sl=>exact .inr (by simp)
    |ptr=>exact .inr (by simp)
    |agg=>exact .inr (by simp)
   cases h1 with
   |f h1=>
    cases h1 with
    |agg _ vs hl hcl z=>
     cases h2 with
     |f h2=>
      cases h2 with
      |agg _ us L hcl' s=>
       have heq:=Yw hu hs hp vs.toArray us.toArray (rawOr a vs z) (rawOr b us s) (by simp[hl]) (by simp[L]) hr w;refine ⟨_,?_,.f (.raw _)⟩;have hg:=RA hu hp;unfold execOp;rw[A];simp only[hzx,hzy];subst hop;cases neg<;>simp[eqGuard,program,kn,hg,binOp,heq]
  .cases c
 .cases c
end
theorem bind_some {α β:Type} {x:I α} {f:α->I β} {y:β} (h:x.bind f=M y):∃a,x=M a/\f a=M y:=by
 cases x with
 |none=>cases h
 |some a=>exact⟨a,rfl,h⟩
theorem map_some {α β:Type} {x:I α} {f:α->β} {y:β} (h:x.map f=M y):∃a,x=M a/\f a=y:=by
 cases x with
 |none=>cases h
 |some a=>exact⟨a,rfl,by simpa using h⟩
theorem mi {c:Bool} {β:Type} {x:I β} {y:β} (h:(if c then x else D)=M y):c=J/\x=M y:=by
 cases c with
 |true=>exact⟨rfl,by simpa using h⟩
 |false=>simp at h
theorem IB {P:Program} {o:Oper} {e:Ab} {h:oq} {nx:Nat} {s:Zg} {R:Ck} (hc:dw P o.op=M s) (L:eL s e h nx=M R):gP P o e.get h.get R.eff:=by
 unfold dw at hc;split at hc
 .rename_i x A;simp only[ah]at hc;subst hc;exact anb (.inl A) L
 .rename_i x A;simp only[ah]at hc;subst hc;exact anb (.inr A) L
 .rename_i c a b A;simp only[ah]at hc;subst hc;exact ajw A L
 .rename_i t A;obtain⟨z,h1,hc⟩:=bind_some hc;obtain⟨h2,hc⟩:=mi hc;simp only[ah]at hc;subst hc;exact age A h1 h2 L
 .rename_i t x A;simp only[ah]at hc;subst hc;exact ann A L
 .rename_i t ps A;split at hc
  .rename_i fs hu;obtain⟨z,h1,hc⟩:=bind_some hc;obtain⟨h2,hc⟩:=mi hc;obtain⟨ps',U,rfl⟩:=map_some hc;simp only[al]at h2;exact XJ A h1 h2.1 U (.inl ⟨fs,hu,h2.2⟩) L
  .rename_i n el hu;obtain⟨z,h1,hc⟩:=bind_some hc;obtain⟨h2,hc⟩:=mi hc;obtain⟨ps',U,rfl⟩:=map_some hc;simp only[al]at h2;obtain⟨sz,Z⟩:=iT.1 h2.2;exact XJ A h1 h2.1 U (.inr ⟨n,el,sz,hu,Z⟩) L
  .cases hc
 .rename_i t n ps A;obtain⟨el,h1,hc⟩:=bind_some hc;obtain⟨z,h2,hc⟩:=bind_some hc;obtain⟨sz,U,hc⟩:=bind_some hc;obtain⟨Z,hc⟩:=mi hc;obtain⟨ps',h5,rfl⟩:=map_some hc;simp only[al,cV,bne_iff_ne]at Z;exact anm A (sK h1) h2 U Z.1.1.1 Z.1.1.2 Z.2 (a_ Z.1.2) h5 L
 .rename_i t x A;obtain⟨sz,h1,hc⟩:=bind_some hc;obtain⟨ag,h2,rfl⟩:=map_some hc;exact ajz A h1 h2 L
 .rename_i t x v A;obtain⟨sz,h1,rfl⟩:=map_some hc;exact agd A h1 L
 .rename_i x A;simp only[ah]at hc;subst hc;exact ajx A L
 .rename_i op t x y t' A;split at hc
  .simp only[ah]at hc;subst hc;exact ai8 A L
  .simp only[ah]at hc;subst hc;exact ai8 A L
  .rename_i hu;split at hc
   .simp only[ah]at hc;subst hc;exact ai7 (neg:=af) A rfl hu L
   .simp only[ah]at hc;subst hc;exact ai7 (neg:=J) A rfl hu L
   .cases hc
  .rename_i el hu;split at hc
   .simp only[ah]at hc;subst hc;exact XI (neg:=af) A rfl rfl hu L
   .simp only[ah]at hc;subst hc;exact XI (neg:=J) A rfl rfl hu L
   .cases hc
  .rename_i fs hu;obtain⟨ds,h1,hc⟩:=bind_some hc;unfold aa3 at h1;rw[hu]at h1;simp only[]at h1;split at h1
   .cases h1
   .rename_i hst;have hst:P.stoodInHeld t=af:=by simpa using hst
    split at hc
    .simp only[ah]at hc;subst hc;exact ai6 (neg:=af) A rfl hu hst h1 L
    .simp only[ah]at hc;subst hc;exact ai6 (neg:=J) A rfl hu hst h1 L
    .cases hc
  .cases hc
 .rename_i t x A;simp only[ah]at hc;subst hc;exact an9 A L
 .rename_i t x A;split at hc
  .simp only[ah]at hc;subst hc;exact ana A L
  .cases hc
 .rename_i s' d x A;split at hc
  .rename_i k k' h1 h2;simp only[ah]at hc;subst hc;exact ak5 A h1 h2 L
  .cases hc
 .rename_i t l c A;obtain⟨el,h1,hc⟩:=bind_some hc;obtain⟨z,h2,hc⟩:=bind_some hc;obtain⟨sz,U,hc⟩:=bind_some hc;obtain⟨b,h5,hc⟩:=bind_some hc;obtain⟨Z,hc⟩:=mi hc;simp only[al,cV,bne_iff_ne]at Z;simp only[ah]at hc;subst hc;exact ajy A (sK h1) h2 U h5 Z.1.1 Z.1.2 Z.2 L
 .rename_i t x lo hi mx A;obtain⟨el,h1,hc⟩:=bind_some hc;obtain⟨sz,h2,rfl⟩:=map_some hc;exact an6 A (sK h1) h2 L
 .rename_i t x k A;split at hc
  .rename_i fs hu;obtain⟨f,h1,hc⟩:=bind_some hc;obtain⟨sz,h2,hc⟩:=bind_some hc;obtain⟨U,hc⟩:=mi hc;simp only[ah]at hc;subst hc;exact anj A hu h1 h2 (by simpa using U) L
  .cases hc
 .rename_i t x k A;split at hc
  .rename_i fs hu;obtain⟨f,h1,hc⟩:=bind_some hc;obtain⟨sz,h2,hc⟩:=bind_some hc;obtain⟨ag,U,rfl⟩:=map_some hc;exact ani A hu h1 h2 U L
  .cases hc
 .rename_i t x i A;split at hc
  .rename_i el hu;obtain⟨sz,h1,rfl⟩:=map_some hc;exact anh A hu h1 L
  .rename_i n el hu;obtain⟨sz,h1,rfl⟩:=map_some hc;exact ak3 A hu h1 L
  .cases hc
 .rename_i t x i A;split at hc
  .rename_i n el hu;obtain⟨sz,h1,hc⟩:=bind_some hc;obtain⟨ag,h2,rfl⟩:=map_some hc;exact ang A hu h1 h2 L
  .rename_i hu;simp only[ah]at hc;subst hc;exact ajv A hu L
  .cases hc
 .rename_i x i A;simp only[ah]at hc;subst hc;exact ank A L
 .rename_i f first caps A
  obtain⟨h1,hc⟩:=mi hc;simp only[ah]at hc;subst hc;have h2:first=#[]:=by simpa using h1
  subst h2;exact and A L
 .rename_i t A;split at hc
  .simp only[ah]at hc;subst hc;exact anc A L
  .cases hc
 .rename_i t x k ok A;split at hc
  .rename_i kt el hu;split at hc
   .rename_i q z h1 h2;obtain⟨U,hc⟩:=mi hc;simp only[ah]at hc;subst hc;exact ai5 (str:=af) A hu h1 ⟨q,rfl⟩ h2 L
   .rename_i z h1 h2;obtain⟨U,hc⟩:=mi hc;simp only[ah]at hc;subst hc;exact ai5 (str:=J) A hu h1 rfl h2 L
   .cases hc
  .cases hc
 .rename_i t m k v A;split at hc
  .rename_i kt el hu;split at hc
   .rename_i q h1;simp only[ah]at hc;subst hc;exact ai4 (str:=af) A hu h1 ⟨q,rfl⟩ L
   .rename_i h1;simp only[ah]at hc;subst hc;exact ai4 (str:=J) A hu h1 rfl L
   .cases hc
  .cases hc
 .rename_i t x A;split at hc
  .rename_i hu;simp only[ah]at hc;subst hc;exact an7 A hu L
  .cases hc
 .rename_i x A;simp only[ah]at hc;subst hc;exact an8 A L
 .rename_i c A;obtain⟨callee,args,argTypes⟩:=c;have arr:∀{α:Type} {x:Array α} {l:Y α},x.toList=l->x=l.toArray:=λh=>by rw[<- h]
  unfold Su at hc;simp only[]at hc;split at hc
  .split at hc
   .rename_i x t h1 h2;rw[arr h1,arr h2]at A;split at hc
    .rename_i el hu;simp only[ah]at hc;subst hc;exact ak2 A hu L
    .rename_i hu;simp only[ah]at hc;subst hc;exact ak1 A hu L
    .rename_i k v hu;simp only[ah]at hc;subst hc;exact ak0 A hu L
    .cases hc
   .cases hc
  .split at hc
   .rename_i x y h1;rw[arr h1]at A;simp only[ah]at hc;subst hc;exact anf A L
   .cases hc
  .split at hc
   .rename_i x y h1;rw[arr h1]at A;simp only[ah]at hc;subst hc;exact ane A L
   .cases hc
  .split at hc
   .rename_i d x t u h1 h2;rw[arr h1,arr h2]at A;split at hc
    .rename_i el el' h1 h2;obtain⟨sz,U,hc⟩:=bind_some hc;obtain⟨Z,hc⟩:=mi hc;simp only[ah]at hc;subst hc;exact ak4 A (sK h1) (sK h2) U L
    .cases hc
   .cases hc
  .split at hc
   .rename_i x t h1 h2;rw[arr h1,arr h2]at A;obtain⟨el,U,hc⟩:=bind_some hc;obtain⟨z,Z,hc⟩:=bind_some hc;obtain⟨sz,h5,hc⟩:=bind_some hc;obtain⟨h6,hc⟩:=mi hc;simp only[al,cV,bne_iff_ne,ne_eq]at h6;simp only[ah]at hc;subst hc;exact anl A (sK U) Z h6.1.1 h6.1.2 h6.2 L
   .cases hc
  .split at hc
   .rename_i s' x t u h1 h2;rw[arr h1,arr h2]at A;split at hc
    .rename_i el el' h1 h2;obtain⟨sz,U,hc⟩:=bind_some hc;obtain⟨b,Z,hc⟩:=bind_some hc;obtain⟨z,h5,hc⟩:=bind_some hc;obtain⟨h6,hc⟩:=mi hc;simp only[al,cV,bne_iff_ne]at h6;simp only[ah]at hc;subst hc;exact ano A (sK h1) (sK h2) U Z h5 h6.2 h6.1 L
    .cases hc
   .cases hc
  .cases hc
 .cases hc
theorem mm {p:Nat->Bool}:∀{l:Y AV},AV.allL p l=J->∀x∈l,AV.all p x=J
 |[],_,x,a=>by cases a
 |y::l,h,x,a=>by
  simp only[AV.allL,al]at h;rcases bk.1 a with rfl|a
  .exact h.1
  .exact mm h.2 x a
theorem cN.restrict {φ φ':PM} {O O':Nat->Prop} {w:World} {p:Nat->Bool} (hs:∀i k,p i=J->φ i=M k->φ' i=M k) (q:∀k,O' k->O k) {x:AV} {v:Value} (h:cN φ O w x v):x.all p=J->cN φ' O' w x v:=by
 induction h with
 |f h=>intro _;exact .f (h.ext (O':=O') (Ib.refl O w) λk _ hk=>q k hk)
 |ptr h=>intro hp;exact .ptr (hs _ _ hp h)
 |sl h hn hc=>intro hp;exact .sl (hs _ _ hp h) hn hc
 |row h hn hc hsh=>intro hp;exact .row (hs _ _ hp h) hn hc hsh
 |emp=>intro _;exact .emp
 |anyb=>intro _;exact .anyb
 |mp h=>intro hp;exact .mp (hs _ _ hp h)
 |agg hl hcl hr c=>intro hp;exact .agg hl hcl λj x v a hv=>c j x v a hv (mm hp x (aX a))
 |tup hl hr c=>intro hp;exact .tup hl λj x v a hv=>c j x v a hv (mm hp x (aX a))
 |clo hl hr c=>intro hp;exact .clo hl λj x v a hv=>c j x v a hv (mm hp x (aX a))
theorem jh.restrict {φ φ':PM} {O O':Nat->Prop} {w w':World} {p:Nat->Bool} (hk:∀x v,x.all p=J->cN φ O w x v->cN φ' O' w' x v) {b:vT} {o:Obj} (hb:b.c.all p=J) (h:jh φ O w b o):jh φ' O' w' b o:=by
 unfold jh at h ⊢;cases hc:b.c with
 |fz l=>
  rw[hc]at h;obtain⟨arr,h1,h2,A⟩:=h;exact⟨arr,h1,h2,λj x z=>by
   obtain⟨a,v,c,d⟩:=A j x z;refine ⟨a,v,c,hk _ _ ?_ d⟩;simp only[BC.get]at z;cases hl:l[j]? with
   |none=>rw[hl]at z;cases z
   |some q=>rw[hl]at z;simp at z;subst z;rfl⟩
 |mx l=>
  rw[hc]at h hb;obtain⟨arr,h1,h2,A⟩:=h;exact⟨arr,h1,h2,λj x z=>by
   obtain⟨a,v,c,d⟩:=A j x z;exact⟨a,v,c,hk _ _ (mm hb x (aX z)) d⟩⟩
 |mp es=>
  rw[hc]at h hb;obtain⟨e,c,h1,h2,A⟩:=h;exact⟨e,c,h1,h2,λj x z=>by
   obtain⟨m,a,b⟩:=A j x z;exact⟨m,a,hk _ _ (mm hb x.2 (di.2 ⟨x,aX z,rfl⟩)) b⟩⟩
 |it s q=>rw[hc]at h;exact h
def ac8 (m:Nat):ι:=(dN (m+1)).filter λi=>aM m i
theorem MR {m i:Nat}:i∈ac8 m↔aM m i=J:=by
 unfold ac8;rw[FF,nN];constructor
 .exact λh=>h.2
 .intro h;refine ⟨?_,h⟩;have h1:=Nat.ge_two_pow_of_testBit h;have h2:=Nat.lt_two_pow_self (n:=i);omega
def kh (φ:PM) (O:Nat->Prop) (w:World):Y AV->ξ->Prop
 |[],[]=>True
 |x::xs,v::vs=>cN φ O w x v/\kh φ O w xs vs
 |_,_=>False
theorem kh.length {φ:PM} {O:Nat->Prop} {w:World}:∀{args:Y AV} {vs:ξ},kh φ O w args vs->vs.length=args.length
 |[],[],_=>rfl
 |[],_::_,h=>h.elim
 |_::_,[],h=>h.elim
 |_::_,_::_,h=>by simp[kh.length h.2]
theorem kh.mono {φ φ':PM} {O O':Nat->Prop} {w w':World} {p:Nat->Bool} (hk:∀x v,x.all p=J->cN φ O w x v->cN φ' O' w' x v):∀{args:Y AV} {vs:ξ},AV.allL p args=J->kh φ O w args vs->kh φ' O' w' args vs
 |[],[],_,_=>trivial
 |[],_::_,_,h=>h.elim
 |_::_,[],_,h=>h.elim
 |x::xs,_::_,hp,h=>by
  simp only[AV.allL,al]at hp;exact⟨hk _ _ hp.1 h.1,kh.mono hk hp.2 h.2⟩
theorem kh.append {φ:PM} {O:Nat->Prop} {w:World}:∀{xs a:Y AV} {vs us:ξ},kh φ O w xs vs->kh φ O w a us->kh φ O w (xs++a) (vs++us)
 |[],_,[],_,_,h=>h
 |[],_,_::_,_,h,_=>h.elim
 |_::_,_,[],_,h,_=>h.elim
 |_::_,_,_::_,_,h,h'=>⟨h.1,kh.append h.2 h'⟩
theorem kh.of {φ:PM} {O:Nat->Prop} {w:World}:∀{xs:Y AV} {vs:ξ},vs.length=xs.length->(∀(j:Nat) x v,xs[j]? =M x->vs[j]? =M v->cN φ O w x v)->kh φ O w xs vs
 |[],[],_,_=>trivial
 |[],_::_,h,_=>by simp at h
 |_::_,[],h,_=>by simp at h
 |x::xs,v::vs,hl,h=>⟨h 0 x v rfl rfl,kh.of (by simpa using hl) λj x v a hv=>h (j+1) x v (by simpa using a) (by simpa using hv)⟩
def Ec (P:Program) (f:FuncId):Prop:=∃fn,P.funcs[f]? =M fn∧fn.body.isNone=af∧(fn.name== "runtime.NumGoroutine")=af
theorem OV {φ:PM} {E:Nat->Prop} {h':HF} {w:World} {a:Act} {e:Ab} {o:Oper} (hp:Wd φ E h' w a e o):∀(xs:Y Operand) (c:Y AV),(∀x∈xs,x∈o.op.operands)->Xj e xs=M c->kh φ (tot E φ h') w c (xs.map a.eval)
 |[],c,_,h=>by simp only[Xj,ah]at h;subst h;trivial
 |x::xs,c,hm,h=>by
  simp only[Xj]at h;split at h
  .rename_i y q;split at h
   .rename_i ys' hys;simp only[ah]at h;subst h;exact⟨hp x y (hm x (cQ ..)) q,OV hp xs ys' (λx s=>hm x (bV _ s)) hys⟩
   .cases h
  .cases h
theorem xn {P:Program} {f:FuncId} (hc:Ec P f) (args:Array Value) (w:World):(callFunc f args).run P w= .ok (.enter f args) w:=by
 obtain⟨fn,h1,h2,q⟩:=hc;have a:fn.name≠ "runtime.NumGoroutine" :=by simpa using q
 have c:fn.body≠D:=by intro h;rw[h]at h2;cases h2
 simp[callFunc,program,kn,h1,c,a]
theorem Xc:∀(fs:Y FPm) (i:Nat),Yt fs i=fs[i]?
 |[],i=>by simp[Yt]
 |f::fs,0=>rfl
 |f::fs,i+1=>by simp[Yt,Xc fs i]
theorem xQ {a b:Nat} (h:DK a b=J) (i:Nat) (c:aM a i=J):aM b i=af:=by
 unfold DK at h;have h0:a&&&b=0:=ar h;have:=Nat.testBit_and a b i;rw[h0,c]at this;simpa using this.symm
structure Ctx where
 n0:Nat
 φ:PM
 E:Nat->Prop
 h:HF
 w:World
def ada (P:Program) (d:Deferred):Prop:=∀w:World,∃c cap f args,d.target= .fn c cap/\(invoke d.target d.args).run P w= .ok (.enter f args) w/\
 CallsD P f args .returning w λe a w'=>(∃v,e= .returned v)/\a= .returning/\w'=w
structure Cfg (P:Program) (C:Ctx) (nt:Nat) (s:IS) (a:Act) (w:World):Prop where
 ex:∃φ,ji C.φ φ C.h s.h.get C.w w/\re φ C.E s.h.get w/\NF φ (tot C.E φ s.h.get) w s.e.get a/\(∀i k,φ i=M k->i<s.nx)/\∀i k,φ i=M k->C.φ i=M k\/C.n0<=i
 low:C.n0<=s.nx
 inert:∀d∈a.defers,ada P d
 size:a.tmps.size=nt
theorem Cfg.bool {P:Program} {C:Ctx} {nt:Nat} {s:IS} {a:Act} {w:World} (c:Cfg P C nt s a w) {t:Nat} {b:Bool} (ht:s.e.get t=M (.f (.raw (.bool b)))):a.eval (.tmp t)= .bool b:=by
 obtain⟨φ,_,_,en,_,_⟩:=c.ex;exact fk (en t _ ht)
theorem Cv {P:Program} {c:Code} {Q:Exit->Act->World->Prop} (y:Nat->Act->World->Prop) (round:∀n a w,y n a w->c.wp P (Exit.then (λa' w'=>∃m,m<n/\y m a' w') Q) a w) {n:Nat} {a:Act} {w:World} (h0:y n a w):(Code.loop c).wp P Q a w:=by
 have least:∀(n:Nat) (a:Act) (w:World),y n a w->∃m,y m a w/\∀k,y k a w->m<=k:=by
  intro n;induction n using Nat.strongRecOn with
  |_ n z=>
   intro a w hn;by_cases q:∃k,k<n/\y k a w
   .obtain⟨k,hk,s⟩:=q;exact z k hk a w s
   .exact⟨n,hn,λk hk=>Nat.le_of_not_lt λhlt=>q ⟨k,hlt,hk⟩⟩
 have pick:∀a w,∃m,(∃n,y n a w)->y m a w/\∀k,y k a w->m<=k:=λa w=>by
  by_cases q:∃n,y n a w
  .obtain⟨n,hn⟩:=q;obtain⟨m,hm⟩:=least n a w hn;exact⟨m,λ_=>hm⟩
  .exact⟨0,λh=>bZ h q⟩
 let μ:Act->World->Nat:=λa w=>Classical.choose (pick a w)
 have hμ:∀a w,(∃n,y n a w)->y (μ a w) a w/\∀k,y k a w->μ a w<=k:=λa w=>Classical.choose_spec (pick a w)
 refine wp_loop (λa w=>∃n,y n a w) μ ⟨n,h0⟩ λa w s=>?_
 refine wp_mono (round (μ a w) a w (hμ a w s).1) λe a' w' he=>?_
 cases e with
 |normal=>
  obtain⟨m,hm,hIm⟩:=he;exact⟨⟨m,hIm⟩,Nat.lt_of_le_of_lt ((hμ a' w' ⟨m,hIm⟩).2 m hIm) hm⟩
 |exit id=>exact he
 |goto l=>exact he
 |ret=>exact he
 |panic c=>exact he
 |outgrown=>exact he
def Ex.to:Ex->Exit
 |.normal=>.normal
 |.exit id=>.exit id
 |.ret=>.ret
def K6 (P:Program) (inert:FuncId->Bool):Prop:=∀f,inert f=J->Ec P f/\∀(args:Array Value) (w:World),CallsD P f args .returning w λe a w'=>(∃v,e= .returned v)/\a= .returning/\w'=w
theorem RL {P:Program} {C:Ctx} {nt:Nat} {inert:FuncId->Bool} (hin:K6 P inert) {s:IS} {a:Act} {w:World} (c:Cfg P C nt s a w) {id:Nat} {ops:Array Oper} {dr:Bool} {f:FuncId} {caps:Y Operand} {t:Nat} (hd:(ops.toList.all λo=>match o.dst with|some d=>decide (d<nt)|none=>J)=J) (hdf:DO ops dr=M (f,caps,t))
 {l:Y AV} (hl:Xj s.e caps=M l) (hi:inert f=J) {Q:Exit->Act->World->Prop} (hQ:∀a w,Cfg P C nt ⟨s.e.put (M t) (.clo f l),s.h,s.nx,s.wr⟩ a w->Q .normal a w):(Code.region id ops dr).wp P Q a w:=by
 unfold DO at hdf;split at hdf
 .rename_i p q hops;split at hdf
  .rename_i f' first caps' t1 cl hpo hpg hpd hqo hqg hqd
   split at hdf
   .rename_i t2 hcl hca;split at hdf
    .rename_i hcond;simp only[al]at hcond;obtain⟨h1,h2⟩:=hcond;have h1:=ar h1;have h2:first=#[]:=by simpa using h2
     simp only[ah,aD]at hdf;obtain⟨rfl,rfl,rfl⟩:=hdf;subst h1;subst h2;have hops':ops=#[p,q]:=by rw[<- Array.toArray_toList (xs:=ops),hops]
     obtain⟨φ,m,r,en,dm⟩:=c.ex;obtain⟨hcb,hincalls⟩:=hin f' hi;have htn:t1<nt:=by
      have:=gA.1 hd p (by rw[hops];simp);rw[hpd]at this;simpa using this
     have hrelL:kh φ (tot C.E φ s.h.get) w l (caps'.toList.map a.eval):=by
      have hp':Wd φ C.E s.h.get w a s.e p:=λx y U Z=>tO r (xs:=p.op.operands) (λt _ y Z=>en t y Z) U Z
      exact OV hp' caps'.toList l (λx U=>by rw[hpo];simpa[Op.operands] using U) hl
     have hcm:caps'.map a.eval=(caps'.toList.map a.eval).toArray:=by apply Lg;simp
     let A:Value:=.func (.func f') #[] (caps'.map a.eval)
     have hrel:cN φ (tot C.E φ s.h.get) w (.clo f' l) A:=by
      simp only[A];rw[hcm];refine .clo (hrelL.length) ?_;have:∀(xs:Y AV) (vs:ξ),kh φ (tot C.E φ s.h.get) w xs vs->∀(j:Nat) x v,xs[j]? =M x->vs[j]? =M v->cN φ (tot C.E φ s.h.get) w x v:=by
       intro xs;induction xs with
       |nil=>intro vs _ j x v U;simp at U
       |cons y xs ih=>
        intro vs h j x v U hv;cases vs with
        |nil=>exact h.elim
        |cons u vs=>
         cases j with
         |zero=>simp at U hv;subst U;subst hv;exact h.1
         |succ j=>exact ih vs h.2 j x v (by simpa using U) (by simpa using hv)
      exact this _ _ hrelL
     refine wp_region ?_;have hr2:dN ops.size=[0,1]:=by rw[hops'];rfl
     rw[hr2];have e0:ops[0]? =M p:=by rw[hops'];rfl
     have e1:ops[1]? =M q:=by rw[hops'];rfl
     rw[wpOps_cons];have hexec1:(execOp a.eval p).run P w= .ok (.value A) w:=by
      unfold execOp;rw[hpo];simp[Instr.makeFunc,A]
     have w1:iS p (yielded ops a.tmps)=J:=by unfold iS;rw[hpg]
     unfold wpOp;simp only[e0,w1,bG];left;unfold HC;rw[hexec1];show wpOps P ops Q [1] (a.put p.dst A) w;rw[wpOps_cons];unfold wpOp;have w2:iS q (yielded ops (a.put p.dst A).tmps)=J:=by unfold iS;rw[hqg]
     simp only[e1,w2,bG];left;have heval:(a.put p.dst A).eval (.tmp t1)=A:=by
      show (a.put p.dst A).tmps.getD t1 undef=A;rw[Iu (by intro d z;rw[hpd]at z;cases z;rw[c.size];exact htn),aC hpd]
     have hargs:cl.args=#[]:=by rw[<- Array.toArray_toList (xs:=cl.args),hca]
     have hexec2:(execOp (a.put p.dst A).eval q).run P w= .ok (.defer {target:=.fn (.func f') (caps'.map a.eval),args:=#[]}) w:=by
      unfold execOp;rw[hqo];simp[resolve,hcl,heval,A,Deferred.ofValue,hargs]
     unfold HC;rw[hexec2];show wpOps P ops Q [] _ w;refine hQ _ _ ⟨⟨φ,m,r,?_,dm⟩,c.low,?_,?_⟩
     .intro u x U;rw[hqd];show cN φ _ w x ((a.put p.dst A).tmps.getD u undef);rw[Iu (by intro d z;rw[hpd]at z;cases z;rw[c.size];exact htn)];have L:(s.e.put (M t1) (.clo f' l)).get u=M x:=U;rw[<- Z']at L;unfold CL at L;rw[hpd];by_cases hu:M t1=M u
      .rw[aC hu]at L ⊢;cases L;exact hrel
      .rw[ax hu]at L ⊢;exact en u x L
     .intro d z;rw[hqd]at z;have hd'':d={target:=.fn (.func f') (caps'.map a.eval),args:=#[]}\/d∈(a.put p.dst A).defers:=by
       simpa[NQ] using z
      rcases hd'' with rfl|hd''
      .intro w0;refine ⟨_,_,f',caps'.map a.eval,rfl,?_,hincalls _ w0⟩;simp[invoke,xn hcb]
      .rw[Iv]at hd'';exact c.inert d hd''
     .rw[hqd];show (a.put p.dst A).tmps.size=nt;rw[Qs];exact c.size
    .cases hdf
   .cases hdf
  .cases hdf
 .cases hdf
def XY (tmps:Array Value):ResultVar->Sem Value
 |.tmp t=>pure (tmps.getD t undef)
 |.cell a t=>do
  let c<-asAddr (tmps.getD a undef)
  loadVar t c
theorem Ub (fn:Func) (tmps:Array Value):results fn tmps=(do let vs<-fn.results.mapM (XY tmps);pure (if h:vs.size=1 then vs[0] else .tuple vs)):=by
 unfold results;congr 2
theorem CW {P:Program} {fn:Func} {tmps:Array Value} {R:Ending->World->Prop} {w:World} {v:Value} (hr:(results fn tmps).run P w= .ok v w) (a:R (.returned v) w):∀(ds:Y Deferred),(∀d∈ds,ada P d)->Leaves P fn tmps R ds .returning w
 |[],_=>⟨v,hr,a⟩
 |d::ds,h=>by
  obtain⟨q,cap,f,args,h1,h2,c⟩:=h d (cQ ..) w;refine ⟨by simp,q,cap,f,args,h1,h2,c.mono ?_⟩;rintro e z w' ⟨⟨s,rfl⟩,rfl,rfl⟩;exact CW hr a ds λd hd=>h d (bV _ hd)
theorem kh.get {φ:PM} {O:Nat->Prop} {w:World}:∀{xs:Y AV} {vs:ξ},kh φ O w xs vs->∀(j:Nat) x,xs[j]? =M x->∃v,vs[j]? =M v/\cN φ O w x v
 |[],_,_,j,x,a=>by simp at a
 |_::_,[],h,_,_,_=>h.elim
 |y::xs,u::vs,h,j,x,a=>by
  cases j with
  |zero=>simp at a;subst a;exact⟨u,rfl,h.1⟩
  |succ j=>exact kh.get h.2 j x (by simpa using a)
theorem St {P:Program} {f:FuncId} {a:SF} (h:zU P f=M a):∃fn c,P.funcs[f]? =M fn∧fn.body=M c∧(fn.name== "runtime.NumGoroutine")=af∧a.code=cu P fn.ntmps c∧vy P fn.results.toList=M a.res∧a.nt=fn.ntmps:=by
 unfold zU at h;split at h
 .rename_i fn hf;split at h
  .cases h
  .rename_i hn;split at h
   .rename_i c r hb hr;simp only[ah]at h;subst h;exact⟨fn,c,hf,hb,by simpa using hn,rfl,hr,rfl⟩
   .cases h
 .cases h
theorem ag3 {a b:Value} (h:ajk a b=J):a=b:=by
 unfold ajk at h;split at h
 .simp at h;rw[h]
 .simp at h;rw[h.1,h.2]
 .rw[zZ.1 h]
 .simp only[al]at h;rw[ar h.1,ar h.2]
 .rfl
 .rename_i x y;simp only[al,Array.isEmpty_iff]at h;rw[h.1,h.2]
 .cases h
def PT.mapO {α β:Type} (g:α->I β):PT α->PT β
 |.leaf=>.leaf
 |.node v l r=>.node (v.bind g) (PT.mapO g l) (PT.mapO g r)
theorem PT.get_mapO {α β:Type} (g:α->I β):∀(t:PT α) (i:Nat),(PT.mapO g t).get i=(t.get i).bind g
 |.leaf,i=>by simp[PT.mapO,PT.get]
 |.node v l r,0=>by simp[PT.mapO,PT.get]
 |.node v l r,j+1=>by
  simp only[PT.mapO,PT.get];split
  .exact PT.get_mapO g l _
  .exact PT.get_mapO g r _
theorem PT.get_updI {α:Type} (f:Nat->α->α):∀(t:PT α) (a b i:Nat),(PT.updI f a b t).get i=(t.get i).map (f (a*i+b))
 |.leaf,_,_,i=>by simp[PT.updI,PT.get]
 |.node v l r,a,b,0=>by cases v<;>simp[PT.updI,PT.get]
 |.node v l r,a,b,j+1=>by
  simp only[PT.updI,PT.get];split
  .rename_i hj;rw[PT.get_updI f l];have:2*a*(j/2)+(a+b)=a*(j+1)+b:=by
    have h2:j=2*(j/2):=by have:=ar hj;omega
    have c:2*a*(j/2)=a*j:=by rw[HE 2 a,Nat.mul_assoc,<-h2]
    rw[c,Nat.mul_add];omega
   rw[this]
  .rename_i hj;rw[PT.get_updI f r];have:2*a*(j/2)+(2*a+b)=a*(j+1)+b:=by
    have h1:j%2≠0:=λh=>hj (by rw[h];rfl)
    have h2:j=2*(j/2)+1:=by omega
    have c:2*a*(j/2)=a*(2*(j/2)):=by rw[HE 2 a,Nat.mul_assoc]
    have q:a*(j+1)=a*(2*(j/2))+2*a:=by
     conv=>lhs;rw[h2]
     rw[Nat.mul_add,Nat.mul_add];omega
    rw[c,q];omega
   rw[this]
theorem PT.bound {α:Type}:∀(t:PT α),∃B,∀i,B<=i->t.get i=D
 |.leaf=>⟨0,λi _=>rfl⟩
 |.node v l r=>by
  obtain⟨a,c⟩:=PT.bound l;obtain⟨b,hb⟩:=PT.bound r;refine ⟨2*(a+b)+3,λi hi=>?_⟩;cases i with
  |zero=>omega
  |succ j=>
   simp only[PT.get];split
   .exact c _ (by omega)
   .exact hb _ (by omega)
def PT.ofF {α:Type} (f:Nat->I α):Nat->PT α
 |0=>.leaf
 |n+1=>(PT.ofF f n).set n (f n)
theorem PT.get_ofF {α:Type} (f:Nat->I α):∀(n i:Nat),(PT.ofF f n).get i=if i<n then f i else D
 |0,i=>by simp[PT.ofF,PT.get]
 |n+1,i=>by
  rw[PT.ofF,PT.get_set,PT.get_ofF f n];by_cases h:i=n
  .subst h;simp
  .rw[ax h];by_cases h2:i<n
   .rw[aC h2,aC (by omega)]
   .rw[ax h2,ax (by omega)]
def nm (i:Nat):Nat:=2*i
def ow (n:Nat):Nat:=n/2
theorem dU (i:Nat):ow (nm i)=i:=by unfold ow nm;omega
theorem kY {i j:Nat} (h:nm i=nm j):i=j:=by unfold nm at h;omega
def fE (p:Bool) (id sz n:Nat):AV:=if p&&n==0 then .emp else .row (nm id) sz n
mutual
def ct (h:bi):TV->I AV
 |.f T v=>M (.f (gC T v))
 |.fel T xs j _ off=>M (.f (.ptr (xs.flatMap (bT T)) (j.toNat*T.size+off)))
 |.pel id sz j off=>M (.ptr (nm id) (j.toNat*sz+off))
 |.ptr id off=>M (.ptr (nm id) off)
 |.csl id sz n=>M (.row (nm id) sz n)
 |.row id=>match eH h id with|some (p,sz,n)=>M (fE p id sz n)|none=>D
 |.rtl id j=>match eH h id with|some (_,sz,n)=>M (.sl (nm id) (j.toNat*sz) (n-j.toNat))|none=>D
 |.emp=>M .emp
 |.nil=>M (.f (.raw (.slice D 0 0)))
 |.mp id=>M (.mp (nm id))
 |.agg l=>match cJ h l with|some l'=>M (.agg l')|none=>D
 |.tup l=>match cJ h l with|some l'=>M (.tup l')|none=>D
 |.clo g l=>match cJ h l with|some l'=>M (.clo g l')|none=>D
 |.undef=>M (.f (.raw undef))
 |.np=>M (.f (.raw (.pointer D)))
 |.anyb=>M .anyb
def cJ (h:bi):Y TV->I (Y AV)
 |[]=>M []
 |x::r=>match ct h x with
  |some y=>(match cJ h r with|some l=>M (y::l)|none=>D)
  |none=>D
end
def pU:(K:Ty)->K.den->Value
 |.int k,n=>.int k n
 |.str,s=>.string ⟨kR s⟩
 |_,_=>undef
def mpC:(K V:Ty)->Y (K.den×V.den)->BC
 |.st (.pr .str (.int .i64)),.un,es=>.it ⟨kR (PW es)⟩ (Oj es)
 |K,V,es=>.mp (es.map λp=>(pU K p.1,.f (gC V p.2)))
theorem zg {K V:Ty} {es:Y (K.den×V.den)} (h:Up K=J):mpC K V es= .mp (es.map λp=>(pU K p.1,.f (gC V p.2))):=by
 unfold mpC;split
 .cases h
 .rfl
theorem aj4 {K V:Ty} {es:Y (K.den×V.den)} {s:ζ} {p:Nat} (h:itE K V es=M (s,p)):mpC K V es= .it ⟨kR s⟩ p:=by
 unfold itE at h;split at h
 .cases h;rfl
 .cases h
def oU:Nat->Y AV->Y (Value×AV)
 |_,[]=>[]
 |i,v::r=>(.int .i64 (aN i),v)::oU (i+1) r
theorem C2:∀(l:Y AV) (i j:Nat),(oU i l)[j]? =(l[j]?).map λv=>(.int .i64 (aN (i+j)),v)
 |[],i,j=>rfl
 |v::r,i,0=>rfl
 |v::r,i,j+1=>by
  rw[oU,List.getElem?_cons_succ,C2 r (i+1) j,show i+1+j=i+(j+1) from by omega];rfl
theorem EM (k:Value):∀(l:Y AV) (i:Nat),k∈(oU i l).map (·.1)->wF k
 |v::r,i,h=>by
  rcases bk.1 h with h|h
  .exact⟨_,h⟩
  .exact EM k r (i+1) h
theorem MV:∀(l:Y AV) (i:Nat),(oU i l).map (·.2)=l
 |[],_=>rfl
 |v::r,i=>by rw[oU,eS,MV r (i+1)]
theorem QK (f:AV->AV):∀(l:Y AV) (i:Nat),(oU i l).map (λp=>(p.1,f p.2))=oU i (l.map f)
 |[],_=>rfl
 |v::r,i=>by rw[oU,eS,QK f r (i+1)];rfl
theorem MW:∀(l:Y AV) (i n:Nat),told (aN (i+n)) (oU i l)=l[n]?
 |[],i,n=>rfl
 |v::r,i,0=>by rw[oU,told,c8,aC rfl];rfl
 |v::r,i,n+1=>by
  rw[oU,told,ax (λe=>by have:=Int.ofNat.inj e;omega),show i+(n+1)=i+1+n from by omega,MW r (i+1) n];rfl
theorem MX (y:AV) (n:Int):∀(l:Y AV) (i:Nat),n<aN i->lV n y (oU i l)=oU i l
 |[],i,_=>rfl
 |v::r,i,h=>by
  simp only[oU,lV];rw[MX y n r (i+1) (Int.lt_trans h (Int.ofNat_lt.2 (qU i))),ax (λe=>by rw[e]at h;exact Int.lt_irrefl _ h)]
theorem QJ (y:AV):∀(l:Y AV) (i n:Nat),lV (aN (i+n)) y (oU i l)=oU i (l.set n y)
 |[],i,n=>rfl
 |v::r,i,0=>by
  simp only[oU,lV,c8,List.set_cons_zero];rw[MX y (aN i) r (i+1) (Int.ofNat_lt.2 (qU i)),aC trivial]
 |v::r,i,n+1=>by
  simp only[oU,lV,List.set_cons_succ];rw[ax (λe=>by have:=Int.ofNat.inj e;omega),show i+(n+1)=i+1+n from by omega,QJ y r (i+1) n]
theorem XL {ty:TypeId} {es:Y (Value×AV)} {ents:Array MapEntry} (f:AV->AV):XM ty (es.map λp=>(p.1,f p.2)) ents=XM ty es ents:=by unfold XM;rw[HG];rfl
theorem T4 {α:Type} {l:Y α} {n:Nat} {x:α} (h:n<l.length):splice l n [x]=l.set n x:=by
 rw[List.set_eq_take_append_cons_drop,aC h];simp[splice]
def jF (h:bi):iu->I vT
 |.rows ty p T xs=>if p&&xs.length==0 then D else M ⟨ty,.fz (xs.flatMap (bT T))⟩
 |.cells (M ty) l=>match cJ h l with|some a=>M ⟨ty,.mx a⟩|none=>D
 |.cells D l=>match cJ h l with|some a=>M ⟨1,.mp (oU 0 a)⟩|none=>D
 |.dead _ _ _=>D
 |.mp K V es=>M ⟨0,mpC K V es⟩
def fM (e:iX) (h:bi):EF:=λt=>(e.get t).bind (ct h)
def bu (h:bi):HF:=λn=>if n%2=0 then (h.get (n/2)).bind (jF h) else D
theorem bF (h:bi) (i:Nat):bu h (nm i)=(h.get i).bind (jF h):=by
 unfold bu nm;rw[aC (by omega),show 2*i/2=i from by omega]
theorem jD {h:bi} {n:Nat} {b:vT} (hb:bu h n=M b):∃i c,n=nm i/\h.get i=M c/\jF h c=M b:=by
 unfold bu at hb;split at hb
 .cases hc:h.get (n/2) with
  |none=>rw[hc]at hb;cases hb
  |some c=>rw[hc]at hb;exact⟨n/2,c,by unfold nm;omega,hc,hb⟩
 .cases hb
def JE (e:iX) (h:bi):Ab:=PT.mapO (ct h) e
theorem vp (e:iX) (h:bi):(JE e h).get=fM e h:=by funext t;exact PT.get_mapO _ _ _
theorem jV (h:bi):∃H:oq,H.get=bu h:=by
 obtain⟨B,a⟩:=PT.bound h;refine ⟨PT.ofF (bu h) (2*B),?_⟩;funext n;rw[PT.get_ofF];split
 .rfl
 .unfold bu;split
  .rw[a _ (by omega)];rfl
  .rfl
theorem c4 {h:bi} {x:TV} {r:Y TV} {l:Y AV} (he:cJ h (x::r)=M l):∃y a,l=y::a/\ct h x=M y/\cJ h r=M a:=by
 simp only[cJ]at he;split at he
 .rename_i y c;split at he
  .rename_i a hl;simp only[ah]at he;exact⟨y,a,he.symm,c,hl⟩
  .cases he
 .cases he
theorem pd {h:bi} {x:TV} {r:Y TV} {y:AV} {a:Y AV} (h1:ct h x=M y) (h2:cJ h r=M a):cJ h (x::r)=M (y::a):=by
 simp only[cJ,h1,h2]
theorem gK {h:bi}:∀{l:Y TV} {a:Y AV},cJ h l=M a->a.length=l.length
 |[],a,he=>by simp only[cJ,ah]at he;subst he;rfl
 |x::r,a,he=>by
  obtain⟨y,l2,rfl,_,h2⟩:=c4 he;simp[gK h2]
theorem nJ {h:bi}:∀{a b:Y TV} {a' b':Y AV},cJ h a=M a'->cJ h b=M b'->cJ h (a++b)=M (a'++b')
 |[],b,a',b',c,hb=>by simp only[cJ,ah]at c;subst c;exact hb
 |x::r,b,a',b',c,hb=>by
  obtain⟨y,l2,rfl,h1,h2⟩:=c4 c;exact pd h1 (nJ h2 hb)
theorem B' {h:bi}:∀{a b:Y TV} {l:Y AV},cJ h (a++b)=M l->∃a' b',l=a'++b'/\cJ h a=M a'/\cJ h b=M b'
 |[],b,l,he=>⟨[],l,rfl,rfl,he⟩
 |x::r,b,l,he=>by
  obtain⟨y,l2,rfl,h1,h2⟩:=c4 he;obtain⟨a',b',rfl,q,c⟩:=B' h2;exact⟨y::a',b',rfl,pd h1 q,c⟩
theorem Fc {h:bi}:∀{l:Y TV} {a:Y AV} (n:Nat),cJ h l=M a->cJ h (l.take n)=M (a.take n)
 |[],a,n,he=>by simp only[cJ,ah]at he;subst he;simp[cJ]
 |x::r,a,n,he=>by
  obtain⟨y,l2,rfl,h1,h2⟩:=c4 he;cases n with
  |zero=>simp[cJ]
  |succ n=>exact pd h1 (Fc n h2)
theorem Fe {h:bi}:∀{l:Y TV} {a:Y AV} (n:Nat),cJ h l=M a->cJ h (l.drop n)=M (a.drop n)
 |[],a,n,he=>by simp only[cJ,ah]at he;subst he;simp[cJ]
 |x::r,a,n,he=>by
  obtain⟨y,l2,rfl,h1,h2⟩:=c4 he;cases n with
  |zero=>exact he
  |succ n=>simpa using Fe n h2
theorem pV {h:bi} {l vs:Y TV} {a vs':Y AV} (off:Nat) (h1:cJ h l=M a) (h2:cJ h vs=M vs'):cJ h (splice l off vs)=M (splice a off vs'):=by
 unfold splice;rw[gK h2];exact nJ (nJ (Fc _ h1) h2) (Fe _ h1)
theorem lm {h:bi}:∀{l:Y TV} {a:Y AV},cJ h l=M a->∀(j:Nat) x,l[j]? =M x->∃y,a[j]? =M y/\ct h x=M y
 |[],a,he,j,x,q=>by simp at q
 |x::r,a,he,j,z,c=>by
  obtain⟨y,l2,rfl,h1,h2⟩:=c4 he;cases j with
  |zero=>simp at c;subst c;exact⟨y,rfl,h1⟩
  |succ j=>simpa using lm h2 j z (by simpa using c)
mutual
theorem ph (h:bi):∀(u:TV),Lx h u=J->∃y,ct h u=M y
 |.f _ _,_=>⟨_,rfl⟩
 |.fel _ _ _ _ _,_=>⟨_,rfl⟩
 |.pel _ _ _ _,_=>⟨_,rfl⟩
 |.ptr _ _,_=>⟨_,rfl⟩
 |.csl _ _ _,_=>⟨_,rfl⟩
 |.row id,he=>by
  simp only[Lx]at he;cases hr:eH h id with
  |none=>rw[hr]at he;cases he
  |some r=>obtain⟨p,sz,n⟩:=r;exact⟨_,by simp only[ct,hr];rfl⟩
 |.rtl id jj,he=>by
  simp only[Lx]at he;cases hr:eH h id with
  |none=>rw[hr]at he;cases he
  |some r=>obtain⟨p,sz,n⟩:=r;exact⟨_,by simp only[ct,hr];rfl⟩
 |.emp,_=>⟨_,rfl⟩
 |.nil,_=>⟨_,rfl⟩
 |.mp _,_=>⟨_,rfl⟩
 |.agg l,he=>by obtain⟨y,hy⟩:=fd h l he;exact⟨_,by simp only[ct,hy];rfl⟩
 |.tup l,he=>by obtain⟨y,hy⟩:=fd h l he;exact⟨_,by simp only[ct,hy];rfl⟩
 |.clo g l,he=>by obtain⟨y,hy⟩:=fd h l he;exact⟨_,by simp only[ct,hy];rfl⟩
 |.undef,_=>⟨_,rfl⟩
 |.np,_=>⟨_,rfl⟩
 |.anyb,_=>⟨_,rfl⟩
theorem fd (h:bi):∀(l:Y TV),kX h l=J->∃l',cJ h l=M l'
 |[],_=>⟨[],rfl⟩
 |x::r,he=>by
  simp only[kX,al]at he;obtain⟨y,hy⟩:=ph h x he.1;obtain⟨l',hl⟩:=fd h r he.2;exact⟨_,pd hy hl⟩
end
def b_ (h h':bi):Prop:=∀id r,eH h id=M r->eH h' id=M r
mutual
theorem gr {h h':bi} (hk:b_ h h'):∀(u:TV) (y:AV),ct h u=M y->ct h' u=M y
 |.f _ _,y,he=>he
 |.fel _ _ _ _ _,y,he=>he
 |.pel _ _ _ _,y,he=>he
 |.ptr _ _,y,he=>he
 |.csl _ _ _,y,he=>he
 |.row id,y,he=>by
  simp only[ct]at he ⊢;split at he
  .rename_i p sz n hr;rw[hk _ _ hr];exact he
  .cases he
 |.rtl id jj,y,he=>by
  simp only[ct]at he ⊢;split at he
  .rename_i p sz n hr;rw[hk _ _ hr];exact he
  .cases he
 |.emp,y,he=>he
 |.nil,y,he=>he
 |.mp _,y,he=>he
 |.agg l,y,he=>by
  simp only[ct]at he ⊢;split at he
  .rename_i l' hl;rw[gm hk l l' hl];exact he
  .cases he
 |.tup l,y,he=>by
  simp only[ct]at he ⊢;split at he
  .rename_i l' hl;rw[gm hk l l' hl];exact he
  .cases he
 |.clo g l,y,he=>by
  simp only[ct]at he ⊢;split at he
  .rename_i l' hl;rw[gm hk l l' hl];exact he
  .cases he
 |.undef,y,he=>he
 |.np,y,he=>he
 |.anyb,y,he=>he
theorem gm {h h':bi} (hk:b_ h h'):∀(l:Y TV) (l':Y AV),cJ h l=M l'->cJ h' l=M l'
 |[],l',he=>he
 |x::r,l',he=>by
  obtain⟨y,l2,rfl,h1,h2⟩:=c4 he;exact pd (gr hk x y h1) (gm hk r l2 h2)
end
mutual
theorem mY {h h':bi} (hk:b_ h h'):∀(u:TV),Lx h u=J->Lx h' u=J
 |.f _ _,_=>rfl
 |.fel _ _ _ _ _,_=>rfl
 |.pel _ _ _ _,_=>rfl
 |.ptr _ _,_=>rfl
 |.csl _ _ _,_=>rfl
 |.row id,he=>by
  simp only[Lx]at he ⊢;cases hr:eH h id with
  |none=>rw[hr]at he;cases he
  |some r=>rw[hk _ _ hr];rfl
 |.rtl id jj,he=>by
  simp only[Lx]at he ⊢;cases hr:eH h id with
  |none=>rw[hr]at he;cases he
  |some r=>rw[hk _ _ hr];rfl
 |.emp,_=>rfl
 |.nil,_=>rfl
 |.mp _,_=>rfl
 |.agg l,he=>jd hk l he
 |.tup l,he=>jd hk l he
 |.clo g l,he=>jd hk l he
 |.undef,_=>rfl
 |.np,_=>rfl
 |.anyb,_=>rfl
theorem jd {h h':bi} (hk:b_ h h'):∀(l:Y TV),kX h l=J->kX h' l=J
 |[],_=>rfl
 |x::r,he=>by
  simp only[kX,al]at he ⊢;exact⟨mY hk x he.1,jd hk r he.2⟩
end
mutual
theorem Fb (h:bi):∀(u:TV) (y:AV),ct h u=M y->Lx h u=J
 |.f _ _,_,_=>rfl
 |.fel _ _ _ _ _,_,_=>rfl
 |.pel _ _ _ _,_,_=>rfl
 |.ptr _ _,_,_=>rfl
 |.csl _ _ _,_,_=>rfl
 |.row id,y,he=>by
  simp only[Lx,ct]at he ⊢;cases hr:eH h id with
  |none=>rw[hr]at he;cases he
  |some r=>rfl
 |.rtl id jj,y,he=>by
  simp only[Lx,ct]at he ⊢;cases hr:eH h id with
  |none=>rw[hr]at he;cases he
  |some r=>rfl
 |.emp,_,_=>rfl
 |.nil,_,_=>rfl
 |.mp _,_,_=>rfl
 |.agg l,y,he=>by
  simp only[ct]at he;split at he
  .rename_i l' hl;exact j8 h l l' hl
  .cases he
 |.tup l,y,he=>by
  simp only[ct]at he;split at he
  .rename_i l' hl;exact j8 h l l' hl
  .cases he
 |.clo g l,y,he=>by
  simp only[ct]at he;split at he
  .rename_i l' hl;exact j8 h l l' hl
  .cases he
 |.undef,_,_=>rfl
 |.np,_,_=>rfl
 |.anyb,_,_=>rfl
theorem j8 (h:bi):∀(l:Y TV) (l':Y AV),cJ h l=M l'->kX h l=J
 |[],_,_=>rfl
 |x::r,l',he=>by
  obtain⟨y,l2,rfl,h1,h2⟩:=c4 he;simp only[kX,al];exact⟨Fb h x y h1,j8 h r l2 h2⟩
end
mutual
theorem Rx (h h':bi):∀(u:TV),ut u=J->ct h u=ct h' u
 |.f _ _,_=>rfl
 |.fel _ _ _ _ _,_=>rfl
 |.pel _ _ _ _,_=>rfl
 |.ptr _ _,_=>rfl
 |.csl _ _ _,_=>rfl
 |.row id,he=>by cases he
 |.emp,_=>rfl
 |.nil,_=>rfl
 |.mp _,_=>rfl
 |.agg l,he=>by simp only[ct];rw[Fd h h' l he]
 |.tup l,he=>by simp only[ct];rw[Fd h h' l he]
 |.clo g l,he=>by cases he
 |.undef,_=>rfl
 |.np,_=>rfl
 |.anyb,_=>rfl
theorem Fd (h h':bi):∀(l:Y TV),qE l=J->cJ h l=cJ h' l
 |[],_=>rfl
 |x::r,he=>by
  simp only[qE,al]at he;simp only[cJ];rw[Rx h h' x he.1,Fd h h' r he.2]
end
theorem Ol {h:bi} {u:TV} {y:AV} (he:ct h u=M y) (hc:u.isC=J):y.isCell=J:=by
 cases u with
 |f T v=>cases T<;>simp only[ct,ah]at he<;>subst he<;>first|rfl|(simp [TV.isC,Ty.one]at hc)
 |fel T xs j hj off=>simp only[ct,ah]at he;subst he;rfl
 |pel id sz j off=>simp only[ct,ah]at he;subst he;rfl
 |ptr id off=>simp only[ct,ah]at he;subst he;rfl
 |csl id off z=>simp only[ct,ah]at he;subst he;rfl
 |row id=>
  simp only[ct]at he;split at he
  .simp only[ah]at he;subst he;unfold fE;split<;>rfl
  .cases he
 |rtl id a=>cases hc
 |emp=>simp only[ct,ah]at he;subst he;rfl
 |nil=>simp only[ct,ah]at he;subst he;rfl
 |mp id=>simp only[ct,ah]at he;subst he;rfl
 |agg l=>cases hc
 |tup l=>cases hc
 |clo g l=>
  simp only[ct]at he;split at he
  .simp only[ah]at he;subst he;rfl
  .cases he
 |undef=>cases hc
 |np=>simp only[ct,ah]at he;subst he;rfl
 |anyb=>cases hc
theorem sq {h:bi}:∀{l:Y TV} {a:Y AV},cJ h l=M a->kK l=J->gM a=J
 |[],a,he,_=>by simp only[cJ,ah]at he;subst he;rfl
 |x::r,a,he,hc=>by
  obtain⟨y,l2,rfl,h1,h2⟩:=c4 he;simp only[kK,al]at hc;simp only[gM,al];exact⟨Ol h1 hc.1,sq h2 hc.2⟩
def Le (x y:AV):Prop:=∀(φ:PM) (O:Nat->Prop) (w:World) (v:Value),cN φ O w x v->cN φ O w y v
theorem Le.refl (x:AV):Le x x:=λ_ _ _ _ h=>h
def lO (H H':HF) (x y:AV):Prop:=∀(φ:PM) (E:Nat->Prop) (w:World) (v:Value),re φ E H w->cN φ (tot E φ H) w x v->cN φ (tot E φ H') w y v
def uV (H H':HF):Prop:=∀i b,H' i=M b->∃b0,H i=M b0
theorem uV.refl (H:HF):uV H H:=λ_ b h=>⟨b,h⟩
theorem uV.own {H H':HF} (d:uV H H') {φ:PM} {k:Nat} (h:own φ H' k):own φ H k:=by
 obtain⟨i,b,h1,h2⟩:=h;obtain⟨b0,a⟩:=d i b h1;exact⟨i,b0,a,h2⟩
theorem uV.tot {H H':HF} (d:uV H H') {E:Nat->Prop} {φ:PM} {k:Nat} (h:tot E φ H' k):tot E φ H k:=h.imp id d.own
theorem cN.dom {H H':HF} (d:uV H H') {φ:PM} {E:Nat->Prop} {w:World} {x:AV} {v:Value} (h:cN φ (tot E φ H) w x v):cN φ (tot E φ H') w x v:=
 h.ext (λ_ _ h=>h) (Ib.refl _ w) λ_ _ hk=>d.tot hk
theorem nM.dom {H H':HF} (d:uV H H') {φ:PM} {E:Nat->Prop} {w:World} {x:FV} {v:Value} (h:nM (tot E φ H) w x v):nM (tot E φ H') w x v:=
 h.ext (Ib.refl _ w) λ_ _ hk=>d.tot hk
theorem Le.toH {H H':HF} (d:uV H H') {x y:AV} (h:Le x y):lO H H' x y:=λφ E w v _ hr=>(h _ _ _ _ hr).dom d
theorem lO.refl {H H':HF} (d:uV H H') (x:AV):lO H H' x x:=(Le.refl x).toH d
def ic (H H':HF):Y AV->Y AV->Prop
 |[],[]=>True
 |x::xs,y::a=>lO H H' x y/\ic H H' xs a
 |_,_=>False
theorem ic.refl {H H':HF} (d:uV H H'):∀l,ic H H' l l
 |[]=>trivial
 |x::r=>⟨lO.refl d x,ic.refl d r⟩
theorem ic.length {H H':HF}:∀{l a:Y AV},ic H H' l a->a.length=l.length
 |[],[],_=>rfl
 |[],_::_,h=>h.elim
 |_::_,[],h=>h.elim
 |_::_,_::_,h=>by simp[ic.length h.2]
theorem ic.get {H H':HF}:∀{l c:Y AV},ic H H' l c->∀(j:Nat) y,c[j]? =M y->∃x,l[j]? =M x/\lO H H' x y
 |[],[],_,j,y,a=>by simp at a
 |[],_::_,h,_,_,_=>h.elim
 |_::_,[],h,_,_,_=>h.elim
 |x::xs,z::ys,h,j,y,a=>by
  cases j with
  |zero=>simp at a;subst a;exact⟨x,rfl,h.1⟩
  |succ j=>simpa using ic.get h.2 j y (by simpa using a)
theorem ic.append {H H':HF}:∀{a a' b b':Y AV},ic H H' a a'->ic H H' b b'->ic H H' (a++b) (a'++b')
 |[],[],_,_,_,h=>h
 |[],_::_,_,_,h,_=>h.elim
 |_::_,[],_,_,h,_=>h.elim
 |_::_,_::_,_,_,h,h'=>⟨h.1,ic.append h.2 h'⟩
theorem ic.take {H H':HF}:∀{a a':Y AV} (n:Nat),ic H H' a a'->ic H H' (a.take n) (a'.take n)
 |[],[],n,_=>by simp[ic]
 |[],_::_,_,h=>h.elim
 |_::_,[],_,h=>h.elim
 |_::_,_::_,0,_=>trivial
 |_::_,_::_,n+1,h=>⟨h.1,ic.take n h.2⟩
theorem ic.drop {H H':HF}:∀{a a':Y AV} (n:Nat),ic H H' a a'->ic H H' (a.drop n) (a'.drop n)
 |[],[],n,_=>by simp[ic]
 |[],_::_,_,h=>h.elim
 |_::_,[],_,h=>h.elim
 |_::_,_::_,0,h=>h
 |_::_,_::_,n+1,h=>ic.drop n h.2
theorem ic.splice {H H':HF} {a a' b b':Y AV} (off:Nat) (h1:ic H H' a a') (h2:ic H H' b b'):ic H H' (splice a off b) (splice a' off b'):=by
 unfold AI.splice;rw[h2.length];exact ((h1.take off).append h2).append (h1.drop _)
def iN (H H':HF) (b b':vT):Prop:=∀(φ:PM) (E:Nat->Prop) (w:World) (o:Obj),re φ E H w->jh φ (tot E φ H) w b o->jh φ (tot E φ H') w b' o
theorem iN.refl {H H':HF} (d:uV H H') (b:vT):iN H H' b b:=λ_ _ _ _ _ h=>h.mono λ_ _ h=>h.dom d
theorem pN {φ:PM} {O:Nat->Prop} {w:World} {ty:TypeId} {c:BC} {o:Obj} (hc:c.isCells=J):jh φ O w ⟨ty,c⟩ o↔∃arr,o= .cells arr ty (0,0)/\vA φ O w c arr:=by
 unfold jh;cases c<;>simp[BC.isCells]at hc<;>rfl
theorem iN.cells {H H':HF} {ty:TypeId} {c c':BC} (hc:c.isCells=J) (a:c'.isCells=J) (hl:ic H H' c.toMx c'.toMx) (hcell:∀x∈c'.toMx,x.isCell=J):iN H H' ⟨ty,c⟩ ⟨ty,c'⟩:=by
 intro φ E w o hrep s;rw[pN hc]at s;rw[pN a];obtain⟨arr,h1,h2,U⟩:=s;refine ⟨arr,h1,by rw[BC.len_toMx a,hl.length,<-BC.len_toMx hc];exact h2,λj x q=>?_⟩;rw[BC.get_toMx a]at q;refine ⟨hcell x (aX q),?_⟩;obtain⟨y,z,hle⟩:=hl.get j x q;obtain⟨_,v,L,A⟩:=U j y (by rw[BC.get_toMx hc];exact z);exact⟨v,L,hle _ _ _ _ hrep A⟩
def Xv (ty:I TypeId) (l:Y AV):vT:=match ty with
 |some ty=>⟨ty,.mx l⟩
 |none=>⟨1,.mp (oU 0 l)⟩
theorem aka {es:Y (Value×AV)} {ents:Array MapEntry}:XM 1 es ents↔(∀m∈ents.toList,wF m.key)/\∀k∈es.map (·.1),wF k:=by
 unfold XM;rw[ax (by decide)]
theorem MpV1 {ents:Array MapEntry} {j:Nat} {k v:Value}:MpV 1 ents j k v↔v=ky k ents.toList:=by
 unfold MpV;rw[ax (by decide)]
theorem iN.told {H H':HF} {l c:Y AV} (hl:ic H H' l c):iN H H' ⟨1,.mp (oU 0 l)⟩ ⟨1,.mp (oU 0 c)⟩:=by
 intro φ E w o hrep s;obtain⟨ents,clock,h1,h2,U⟩:=s;refine ⟨ents,clock,h1,aka.2 ⟨(aka.1 h2).1,λk hk=>EM k _ _ hk⟩,λj x a=>?_⟩;rw[C2]at a;cases hj:c[j]? with
 |none=>rw[hj]at a;cases a
 |some y=>
  rw[hj]at a;cases a;obtain⟨z,q,hle⟩:=hl.get j y hj;obtain⟨v,L,A⟩:=U j _ (by rw[C2,q];rfl);exact⟨v,L,hle _ _ _ _ hrep A⟩
theorem iN.lay {H H':HF} (n:Nat):iN H H' ⟨0,.mp []⟩ ⟨1,.mp (oU 0 (aB n (.f (.raw (.slice D 0 0)))))⟩:=by
 intro φ E w o hrep q;obtain⟨ents,clock,h1,h2,s⟩:=q;have h2:ents.toList.map (·.key)=[]:=by unfold XM at h2;rw[aC rfl]at h2;exact h2
 have c:ents.toList=[]:=List.map_eq_nil_iff.1 h2;refine ⟨ents,clock,h1,aka.2 ⟨λm hm=>(by rw[c]at hm;cases hm),λk hk=>EM k _ _ hk⟩,λj x a=>?_⟩;rw[C2]at a;cases hj:(aB n (AV.f (.raw (.slice D 0 0))))[j]? with
 |none=>rw[hj]at a;cases a
 |some y=>
  rw[hj]at a;cases a;have hm:=aX hj;rw[List.mem_replicate]at hm;obtain⟨_,rfl⟩:=hm;exact⟨_,MpV1.2 rfl,by rw[c];exact .f (.raw _)⟩
theorem iN.eq {H H':HF} (d:uV H H') {ty:TypeId} {c c':BC} (hc:c.isCells=J) (a:c'.isCells=J) (hl:c.toMx=c'.toMx):iN H H' ⟨ty,c⟩ ⟨ty,c'⟩:=by
 intro φ E w o hrep s;rw[pN hc]at s;rw[pN a];obtain⟨arr,h1,h2,U⟩:=s;refine ⟨arr,h1,by rw[BC.len_toMx a,<-hl,<-BC.len_toMx hc];exact h2,λj x q=>?_⟩;rw[BC.get_toMx a,<-hl,<-BC.get_toMx hc]at q;obtain⟨L,v,A,z⟩:=U j x q;exact⟨L,v,A,z.dom d⟩
structure Ht (H H':HF):Prop where
 dom:uV H H'
 blk:∀i b b',H i=M b->H' i=M b'->iN H H' b b'
theorem Ht.refl (H:HF):Ht H H:=⟨uV.refl H,λi b b' h h'=>by rw[h]at h';cases h';exact iN.refl (uV.refl H) b⟩
theorem Ht.rep {H H':HF} (V:Ht H H') {φ:PM} {E:Nat->Prop} {w:World} (r:re φ E H w):re φ E H' w:=by
 refine ⟨λi j b b' k c A z s=>?_,λi b c=>?_,r.el,λg cells hg=>(r.gl g cells hg).dom V.dom⟩
 .obtain⟨b0,a⟩:=V.dom i b c;obtain⟨b1,q⟩:=V.dom j b' A;exact r.inj i j b0 b1 k a q z s
 .obtain⟨b0,a⟩:=V.dom i b c;obtain⟨k,p1,p2,ob,p3,p4⟩:=r.at_ i b0 a;exact⟨k,p1,p2,ob,p3,V.blk i b0 b a c φ E w ob r p4⟩
theorem gP.view {P:Program} {o:Oper} {e:EF} {h:HF} {val val':AV} {rd wr wr' N:ι} {nw nw':HF} (ht:gP P o e h ⟨val,rd,wr,nw,N⟩) (hsub:∀i∈wr,i∈wr'\/i∈rd)
 (hv:∀h':HF,(∀i∈rd,h' i=h i)->(∀i∈wr',h' i=h i)->Ht (eV h' wr nw) (eV h' wr' nw')/\lO (eV h' wr nw) (eV h' wr' nw') val val'):gP P o e h ⟨val',rd,wr',nw',N⟩:=by
 intro φ E h' w a h1 h2 L A z;have q:=ht φ E h' w a h1 (λi hi=>(hsub i hi).elim (h2 i) (h1 i)) L A z;obtain⟨V,hle⟩:=hv h' h1 h2;refine P3 ?_ q;rintro a' w' ⟨v,φ',rfl,mv,nm',c,rel⟩;exact⟨v,φ',rfl,⟨mv.sub,mv.ext,λk hk s=>mv.own_ k hk (V.dom.own s)⟩,nm',V.rep c,hle _ _ _ _ c rel⟩
theorem Le.nil:Le (.f (.raw (.slice D 0 0))) (.f (.sl [] 0)):=by
 intro φ O w v hr;cases hr with
 |f hr=>cases hr;exact .f (.nil D 0 (by unfold maxLen;omega))
theorem Le.emp:Le .emp (.f (.sl [] 0)):=by
 intro φ O w v hr;cases hr with
 |emp=>exact .f (.nil _ 0 (by unfold maxLen;omega))
theorem Le.nilEmp:Le (.f (.raw (.slice D 0 0))) .emp:=by
 intro φ O w v hr;cases hr with
 |f hr=>cases hr;exact .emp
theorem Le.aggF {l:Y FV}:Le (.f (.agg l)) (.agg (l.map .f)):=by
 intro φ O w v hr;cases hr with
 |f hr=>
  cases hr with
  |agg _ vs hl hcl hrr=>
   refine .agg (by simp[hl]) (λx a=>?_) λj x u a hu=>?_
   .obtain⟨y,c,rfl⟩:=di.1 a;exact hcl y c
   .rw[ba]at a;cases hc:l[j]? with
    |none=>rw[hc]at a;cases a
    |some y=>rw[hc]at a;simp at a;subst a;exact .f (hrr j y u hc hu)
theorem aai (l:Y AV):Le (MN l) (.agg l):=by
 unfold MN;split
 .rename_i fs h;rw[pY h];exact Le.aggF
 .exact Le.refl _
theorem lO.aggL {H H':HF} {l:Y AV} {a:Y FV} (h:ic H H' l (a.map .f)) (hc:∀x∈a,x.isCell=J):lO H H' (.agg l) (.f (.agg a)):=by
 intro φ E w v hrep hr;cases hr with
 |@agg _ vs hl hcl hrr=>
  refine .f (.agg a vs (by rw[hl,<-h.length];simp) hc λj y u c hu=>?_);obtain⟨x,q,hle⟩:=h.get j (.f y) (by rw[ba,c];rfl);have:=hle φ E w u hrep (hrr j x u q hu);cases this with
  |f h=>exact h
theorem lO.row {H H':HF} (d:uV H H') {id sz n:Nat} {ty:TypeId} {cells:Y FV} (h1:H id=M ⟨ty,.fz cells⟩) (h2:H' id=D) (hl:cells.length=n*sz):lO H H' (.row id sz n) (.f (.sl cells n)):=by
 intro φ E w v r hr;cases hr with
 |@row _ _ _ c k hφ hn hcap hsh=>
  obtain⟨k',z,A,_⟩:=r.at_ id _ h1;rw[hφ]at z;cases z;obtain⟨arr,p1,p2,p3⟩:=r.cs h1 hφ rfl;have hk:k<w.heap.size:=(cC.1 p1).1;have hlen:cells.length<=arr.size:=by simpa[BC.toMx] using p3
  have hnk:¬tot E φ H' k:=by
   rintro (L|⟨j,b,q,s⟩)
   .exact A L
   .obtain⟨b0,U⟩:=d j b q;have:=r.inj j id b0 _ k U h1 s hφ;subst this;rw[h2]at q;cases q
  have hget:∀(j:Nat) x,cells[j]? =M x->∃u,arr[j]? =M u/\nM (tot E φ H) w x u:=λj x a=>by
   have hj:j<cells.length:=(bh.1 a).1;have hja:j<arr.size:=by omega
   refine ⟨arr[j],by simp[hja],?_⟩;have:=p2.2.2 j (.f x) arr[j] (by simp[BC.toMx,a]) (by
    rw[cR,aC (by simpa[BC.toMx] using hj),cz];simp[hja])
   cases this with
   |f h=>exact h
  refine .f (.sl cells n c k 0 (λj=>(arr[j]?).getD undef) hn hcap hnk hk (λx a=>?_) (λj hj=>?_) (λj x a=>?_))
  .have:=p2.2.1 (.f x) (by simp only[BC.toMx];exact di.2 ⟨x,a,rfl⟩);exact this
  .have:j<arr.size:=by omega
   simp[NK,p1,this]
  .obtain⟨u,q,s⟩:=hget j x a;rw[q];exact s.dom d
theorem sJ:∀l:Y Xp,JK l=l.flatMap wO
 |[]=>rfl
 |x::r=>by rw[JK,sJ r];rfl
theorem zG:∀l:Y Sx,JJ l=l.flatMap yn
 |[]=>rfl
 |x::r=>by rw[JJ,zG r];rfl
theorem JI (e:Xp):bT M6 (NT e)=wO e:=by
 cases e with
 |mk op n name l=>simp only[M6,NT,bT,wO,Xp.op,Xp.n,Xp.name,Xp.l,sJ];rfl
theorem RD (x:M6.den):wO (em x)=bT M6 x:=by
 simp only[M6,em,bT,wO,sJ];rfl
theorem JH (e:Sx):bT MC (NS e)=yn e:=by
 cases e with
 |mk op line name arg index expr body els=>simp only[MC,NS,bT,yn,Sx.op,Sx.line,Sx.name,Sx.arg,Sx.index,Sx.expr,Sx.body,Sx.els,sJ,zG];rfl
theorem RC (x:MC.den):yn (nY x)=bT MC x:=by
 simp only[MC,nY,bT,yn,sJ,zG];rfl
theorem xL (e:Xp):(wO e).length=4:=by cases e;simp[wO]
theorem Dn (e:Sx):(yn e).length=11:=by cases e;simp[yn,xL]
theorem bC:∀(T:Ty) (v:T.den),(bT T v).length=T.size
 |.int _,_=>rfl
 |.bool,_=>rfl
 |.str,_=>rfl
 |.sl _,_=>rfl
 |.st t,v=>bC t v
 |.pr a b,v=>by simp[bT,Ty.size,bC a,bC b]
 |.un,_=>rfl
 |.ex,v=>xL v
 |.sm,v=>Dn v
theorem JL (e:Xp):∀x∈wO e,x.isCell=J:=by
 cases e with
 |mk op n name l=>
  intro x a;simp only[wO,bk,cB,gj]at a;rcases a with rfl|rfl|rfl|rfl<;>rfl
theorem U6 (e:Sx):∀x∈yn e,x.isCell=J:=by
 cases e with
 |mk op line name arg index expr body els=>
  intro x a;simp only[yn,bO,bk,cB,gj]at a;rcases a with (a|a)|a
  .rcases a with rfl|rfl|rfl|rfl|rfl<;>rfl
  .exact JL _ _ a
  .rcases a with rfl|rfl<;>rfl
theorem oh:∀(T:Ty) (v:T.den),∀x∈bT T v,x.isCell=J
 |.int _,_,x,c=>by simp only[bT,aI]at c;subst c;rfl
 |.bool,_,x,c=>by simp only[bT,aI]at c;subst c;rfl
 |.str,_,x,c=>by simp only[bT,aI]at c;subst c;rfl
 |.sl _,_,x,c=>by simp only[bT,aI]at c;subst c;rfl
 |.st t,v,x,c=>oh t v x c
 |.pr a b,v,x,c=>by
  simp only[bT,bO]at c;exact c.elim (oh a v.1 x) (oh b v.2 x)
 |.un,_,x,c=>by simp[bT]at c
 |.ex,v,x,c=>JL v x c
 |.sm,v,x,c=>U6 v x c
theorem Do:∀(T:Ty) (v:T.den),T.one=J->bT T v=[gC T v]/\T.size=1
 |.int _,_,_=>⟨rfl,rfl⟩
 |.bool,_,_=>⟨rfl,rfl⟩
 |.str,_,_=>⟨rfl,rfl⟩
 |.sl _,_,_=>⟨rfl,rfl⟩
 |.st _,_,h=>by cases h
 |.pr _ _,_,h=>by cases h
 |.un,_,h=>by cases h
 |.ex,_,h=>by cases h
 |.sm,_,h=>by cases h
theorem qK:∀(T:Ty) (v:T.den),T.one=af->gC T v= .agg (bT T v)
 |.int _,_,h=>by cases h
 |.bool,_,h=>by cases h
 |.str,_,h=>by cases h
 |.sl _,_,h=>by cases h
 |.st _,_,_=>rfl
 |.pr _ _,_,_=>rfl
 |.un,_,_=>rfl
 |.ex,_,_=>rfl
 |.sm,_,_=>rfl
theorem Au (T:Ty) (v:T.den):(AV.f (gC T v)).cs=(bT T v).map .f:=by
 cases h:T.one with
 |true=>
  rw[(Do T v h).1];cases T<;>simp only[Ty.one]at h<;>first|rfl|cases h
 |false=>rw[qK T v h];rfl
theorem fH {α:Type} {f:α->Y FV} {n:Nat} (hf:∀x,(f x).length=n):∀(xs:Y α),(xs.flatMap f).length=xs.length*n
 |[]=>by simp
 |x::r=>by rw[fQ,be,hf,fH hf r,b7,iZ];omega
theorem E8 {α:Type} {f:α->Y FV} {n:Nat} (hf:∀x,(f x).length=n):∀(xs:Y α) (j:Nat) (x:α),xs[j]? =M x->∃r,(xs.flatMap f).drop (j*n)=f x++r
 |[],j,x,h=>by simp at h
 |y::r,j,x,h=>by
  cases j with
  |zero=>simp at h;subst h;exact⟨r.flatMap f,by simp⟩
  |succ j=>
   obtain⟨q,hq⟩:=E8 hf r j x (by simpa using h);refine ⟨q,?_⟩;rw[fQ,show (j+1)*n=(f y).length+j*n from by rw[hf,iZ];omega,uZ];simp[hq]
theorem Rt {α:Type} {f:α->Y FV} {n:Nat} (hf:∀x,(f x).length=n):∀(xs:Y α) (j:Nat) (x z:α),xs[j]? =M x->∀(off:Nat) (vs:Y FV),off+vs.length<=n->f z=AI.splice (f x) off vs->(xs.set j z).flatMap f=AI.splice (xs.flatMap f) (j*n+off) vs
 |[],j,x,z,h,_,_,_,_=>by simp at h
 |y::r,j,x,z,h,off,vs,hle,a=>by
  cases j with
  |zero=>
   simp at h;subst h;simp only[List.set_cons_zero,fQ,a,Nat.zero_mul,bI];unfold AI.splice;have q:=hf y;rw[List.take_append,uZ];have e1:off-(f y).length=0:=by omega
   have e2:off+vs.length-(f y).length=0:=by omega
   rw[e1,e2];simp[iH]
  |succ j=>
   have c:=Rt hf r j x z (by simpa using h) off vs hle a;simp only[List.set_cons_succ,fQ,c];unfold AI.splice;have q:=hf y;have e0:(j+1)*n=(f y).length+j*n:=by rw[hf,iZ];omega
   rw[e0,List.take_append,uZ];have e1:(f y).length+j*n+off-(f y).length=j*n+off:=by omega
   have e2:(f y).length+j*n+off+vs.length-(f y).length=j*n+off+vs.length:=by omega
   rw[e1,e2,gf (by omega:(f y).length<=(f y).length+j*n+off),rW (by omega:(f y).length<=(f y).length+j*n+off+vs.length)];simp[iH]
theorem rP (T:Ty) (xs:Y T.den):∀x∈xs.flatMap (bT T),x.isCell=J:=λx a=>by
 obtain⟨y,_,h⟩:=uX.1 a;exact oh T y x h
theorem ir {S T:Ty} {v:S.den} {x:T.den} (h:uK T v=M x):∃e:S=T,x=e▸v:=by
 unfold uK at h;split at h
 .rename_i e;simp only[ah]at h;exact⟨e,h.symm⟩
 .cases h
theorem mc (h:bi):∀(n:Nat) (T:Ty) (v:T.den) (l:Y TV),cellsOf n T v=M l->cJ h l=M ((bT T v).map .f)/\kK l=J
 |0,_,_,_,he=>by simp[cellsOf]at he
 |n+1,.st t,v,l,he=>mc h n t v l he
 |n+1,.pr a b,v,l,he=>by
  simp only[cellsOf]at he;split at he
  .rename_i x y q c;simp only[ah]at he;subst he;obtain⟨h1,h2⟩:=mc h n a v.1 x q;obtain⟨s,L⟩:=mc h n b v.2 y c;refine ⟨by rw[bT,cS];exact nJ h1 s,?_⟩;clear h1 s q c;induction x with
   |nil=>exact L
   |cons z r A=>simp only[kK,al,fI]at h2 ⊢;exact⟨h2.1,A h2.2⟩
  .cases he
 |n+1,.un,v,l,he=>by simp only[cellsOf,ah]at he;subst he;exact⟨rfl,rfl⟩
 |n+1,.ex,v,l,he=>by rw[bT,<-JI];exact mc h n M6 (NT v) l he
 |n+1,.sm,v,l,he=>by rw[bT,<-JH];exact mc h n MC (NS v) l he
 |n+1,.int k,v,l,he=>by simp only[cellsOf,ah]at he;subst he;exact⟨rfl,rfl⟩
 |n+1,.bool,v,l,he=>by simp only[cellsOf,ah]at he;subst he;exact⟨rfl,rfl⟩
 |n+1,.str,v,l,he=>by simp only[cellsOf,ah]at he;subst he;exact⟨rfl,rfl⟩
 |n+1,.sl t,v,l,he=>by simp only[cellsOf,ah]at he;subst he;exact⟨rfl,rfl⟩
theorem N_ {y:AV} (h:y.isCell=J):y.cs=[y]:=by
 cases y with
 |f x=>cases x<;>first|rfl|cases h
 |agg l=>cases h
 |_=>rfl
theorem Km {h:bi} {v:TV} {l:Y TV} {y:AV} (hv:v.cs=M l) (a:ct h v=M y):cJ h l=M y.cs/\kK l=J:=by
 have one:(if v.isC then M [v] else D)=M l->cJ h l=M y.cs/\kK l=J:=λhv=>by
  split at hv
  .rename_i hc;simp only[ah]at hv;subst hv;exact⟨by rw[N_ (Ol a hc)];exact pd a rfl,by simp[kK,hc]⟩
  .cases hv
 cases v with
 |agg q=>
  simp only[TV.cs]at hv;split at hv
  .rename_i hc;simp only[ah]at hv;subst hv;simp only[ct]at a;split at a
   .rename_i c hl;simp only[ah]at a;subst a;exact⟨hl,hc⟩
   .cases a
  .cases hv
 |f T x=>
  simp only[TV.cs]at hv;simp only[ct,ah]at a;subst a;rw[Au];exact mc h 40 T x l hv
 |fel T xs j hj off=>exact one hv
 |pel id sz j off=>exact one hv
 |ptr id off=>exact one hv
 |csl id off z=>exact one hv
 |row id=>exact one hv
 |emp=>exact one hv
 |nil=>exact one hv
 |mp id=>exact one hv
 |rtl id s=>exact one hv
 |tup q=>exact one hv
 |clo g q=>exact one hv
 |undef=>exact one hv
 |np=>exact one hv
 |anyb=>exact one hv
def Eh (h:bi) (H H':HF) (m:Nat):Prop:=∀id,aM m id=J->H (nm id)=bu h (nm id)/\H' (nm id)=D
theorem Eh.zero {h:bi} {H H':HF}:Eh h H H' 0:=λid hid=>by simp at hid
theorem Eh.or {h:bi} {H H':HF} {a b:Nat} (g:Eh h H H' (a|||b)):Eh h H H' a/\Eh h H H' b:=
 ⟨λid hid=>g id (by rw[bp,hid];rfl),λid hid=>g id (by rw[bp,hid];simp)⟩
theorem bW {i j:Nat}:aM (kE i) j=J↔i=j:=by
 unfold kE;rw[Nat.one_shiftLeft,Nat.testBit_two_pow];simp
section pack
variable {h:bi} {H H':HF}
theorem xT (d:uV H H') {T:Ty} {v:TV} {x:T.den} {m:Nat} {y:AV} (a:iR h T v=M (x,m)) (c:ct h v=M y) (g:Eh h H H' m):lO H H' y (.f (gC T x))/\y.cs.length=T.size/\(T.one=J->y.isCell=J)/\ic H H' y.cs ((bT T x).map .f):=by
 cases v with
 |f S v=>
  simp only[iR]at a;split at a
  .rename_i z s;simp only[ah,aD]at a;obtain⟨rfl,_⟩:=a;obtain⟨e,rfl⟩:=ir s;subst e;simp only[ct,ah]at c;subst c;refine ⟨lO.refl d _,by rw[Au,bR,bC],λL=>?_,by rw[Au];exact ic.refl d _⟩;cases S<;>simp only[Ty.one]at L<;>first|rfl|cases L
  .cases a
 |emp=>
  simp only[iR]at a;split at a
  .simp only[ah,aD]at a;obtain⟨rfl,_⟩:=a;simp only[ct,ah]at c;subst c;exact⟨Le.emp.toH d,rfl,λ_=>rfl,⟨Le.emp.toH d,trivial⟩⟩
  .cases a
 |nil=>
  simp only[iR]at a;split at a
  .simp only[ah,aD]at a;obtain⟨rfl,_⟩:=a;simp only[ct,ah]at c;subst c;exact⟨Le.nil.toH d,rfl,λ_=>rfl,⟨Le.nil.toH d,trivial⟩⟩
  .cases a
 |row id=>
  simp only[iR]at a;split at a
  .rename_i ty p S xs hb;split at a
   .rename_i z s;simp only[ah,aD]at a;obtain⟨rfl,rfl⟩:=a;obtain⟨e,rfl⟩:=ir s;subst e;obtain⟨A,U⟩:=g id (bW.2 rfl);rw[bF,hb]at A;simp only[ct,eH,hb,ah]at c;subst c;have key:lO H H' (fE p id S.size xs.length) (.f (gC (.sl S) xs)):=by
     unfold fE;split
     .rename_i hp;simp only[al,cV]at hp;have:xs=[]:=gQ.1 hp.2;subst this;exact Le.emp.toH d
     .rename_i hp;simp only[aF,jF,ax hp]at A;exact lO.row d A U (fH (bC S) xs)
    have hc:(fE p id S.size xs.length).isCell=J:=by unfold fE;split<;>rfl
    refine ⟨key,by rw[N_ hc];rfl,λ_=>hc,?_⟩;rw[N_ hc];exact⟨key,trivial⟩
   .cases a
  .cases a
 |fel T xs j hj off=>simp[iR]at a
 |pel id sz j off=>simp[iR]at a
 |ptr id off=>simp[iR]at a
 |csl id off z=>simp[iR]at a
 |mp id=>simp[iR]at a
 |rtl id Z=>simp[iR]at a
 |agg q=>simp[iR]at a
 |tup q=>simp[iR]at a
 |clo f q=>simp[iR]at a
 |undef=>simp[iR]at a
 |np=>simp[iR]at a
 |anyb=>simp[iR]at a
theorem sw (d:uV H H'):∀(n:Nat) (T:Ty) (l:Y TV) (x:T.den) (m:Nat) (r:Y TV) (s:Y AV),e9 h n T l=M (x,m,r)->cJ h l=M s->Eh h H H' m->∃l1 l2,s=l1++l2/\cJ h r=M l2/\ic H H' l1 ((bT T x).map .f)
 |0,_,_,_,_,_,_,hp,_,_=>by simp[e9]at hp
 |n+1,.st t,l,x,m,r,s,hp,hl,g=>sw d n t l x m r s hp hl g
 |n+1,.pr a b,l,x,m,r,s,hp,hl,g=>by
  simp only[e9]at hp;split at hp
  .rename_i z m1 r1 h1;split at hp
   .rename_i U m2 r2 h2;simp only[ah,aD]at hp;obtain⟨rfl,rfl,rfl⟩:=hp;obtain⟨ga,gb⟩:=g.or;obtain⟨l1,l2,rfl,L,A⟩:=sw d n a l z m1 r1 s h1 hl ga;obtain⟨l3,Z,rfl,q3,q4⟩:=sw d n b r1 U m2 r2 l2 h2 L gb;refine ⟨l1++l3,Z,by simp,q3,?_⟩;rw[bT,cS];exact A.append q4
   .cases hp
  .cases hp
 |n+1,.un,l,x,m,r,s,hp,hl,g=>by
  simp only[e9,ah,aD]at hp;obtain⟨_,_,rfl⟩:=hp;exact⟨[],s,rfl,hl,trivial⟩
 |n+1,.ex,l,x,m,r,s,hp,hl,g=>by
  simp only[e9]at hp;split at hp
  .rename_i z m1 r1 h1;simp only[ah,aD]at hp;obtain⟨rfl,rfl,rfl⟩:=hp;rw[bT,RD];exact sw d n M6 l z m1 r1 s h1 hl g
  .cases hp
 |n+1,.sm,l,x,m,r,s,hp,hl,g=>by
  simp only[e9]at hp;split at hp
  .rename_i z m1 r1 h1;simp only[ah,aD]at hp;obtain⟨rfl,rfl,rfl⟩:=hp;rw[bT,RC];exact sw d n MC l z m1 r1 s h1 hl g
  .cases hp
 |n+1,.int k,l,x,m,r,s,hp,hl,g=>by
  simp only[e9]at hp;split at hp
  .rename_i c q;split at hp
   .rename_i z m1 h1;simp only[ah,aD]at hp;obtain⟨rfl,rfl,rfl⟩:=hp;obtain⟨y,l2,rfl,L,A⟩:=c4 hl;exact⟨[y],l2,rfl,A,⟨(xT d h1 L g).1,trivial⟩⟩
   .cases hp
  .cases hp
 |n+1,.bool,l,x,m,r,s,hp,hl,g=>by
  simp only[e9]at hp;split at hp
  .rename_i c q;split at hp
   .rename_i z m1 h1;simp only[ah,aD]at hp;obtain⟨rfl,rfl,rfl⟩:=hp;obtain⟨y,l2,rfl,L,A⟩:=c4 hl;exact⟨[y],l2,rfl,A,⟨(xT d h1 L g).1,trivial⟩⟩
   .cases hp
  .cases hp
 |n+1,.str,l,x,m,r,s,hp,hl,g=>by
  simp only[e9]at hp;split at hp
  .rename_i c q;split at hp
   .rename_i z m1 h1;simp only[ah,aD]at hp;obtain⟨rfl,rfl,rfl⟩:=hp;obtain⟨y,l2,rfl,L,A⟩:=c4 hl;exact⟨[y],l2,rfl,A,⟨(xT d h1 L g).1,trivial⟩⟩
   .cases hp
  .cases hp
 |n+1,.sl t,l,x,m,r,s,hp,hl,g=>by
  simp only[e9]at hp;split at hp
  .rename_i c q;split at hp
   .rename_i z m1 h1;simp only[ah,aD]at hp;obtain⟨rfl,rfl,rfl⟩:=hp;obtain⟨y,l2,rfl,L,A⟩:=c4 hl;exact⟨[y],l2,rfl,A,⟨(xT d h1 L g).1,trivial⟩⟩
   .cases hp
  .cases hp
theorem Ug (d:uV H H') {n:Nat} {T:Ty} {l:Y TV} {x:T.den} {m:Nat} {a:Y AV} (hp:e9 h n T l=M (x,m,[])) (hl:cJ h l=M a) (g:Eh h H H' m):ic H H' a ((bT T x).map .f):=by
 obtain⟨l1,l2,rfl,c,q⟩:=sw d n T l x m [] a hp hl g;simp only[cJ,ah]at c;subst c;simpa using q
theorem Px (d:uV H H') {T:Ty} {v:TV} {x:T.den} {m:Nat} {y:AV} (a:D5 h T v=M (x,m)) (c:ct h v=M y) (g:Eh h H H' m):lO H H' y (.f (gC T x))/\ic H H' y.cs ((bT T x).map .f):=by
 have other:iR h T v=M (x,m)->lO H H' y (.f (gC T x))/\ic H H' y.cs ((bT T x).map .f):=λa=>by
  obtain⟨h1,_,_,h2⟩:=xT d a c g;exact⟨h1,h2⟩
 cases v with
 |agg l=>
  simp only[D5]at a;split at a
  .cases a
  .rename_i A;split at a
   .rename_i s m1 h1;simp only[ah,aD]at a;obtain⟨rfl,rfl⟩:=a;simp only[ct]at c;split at c
    .rename_i L hl;simp only[ah]at c;subst c;have:=Ug d h1 hl g;refine ⟨?_,this⟩;rw[qK T s (by simpa using A)];exact lO.aggL this (oh T s)
    .cases c
   .cases a
 |f S v=>exact other a
 |fel T xs j hj off=>exact other a
 |pel id sz j off=>exact other a
 |ptr id off=>exact other a
 |csl id off z=>exact other a
 |row id=>exact other a
 |emp=>exact other a
 |nil=>exact other a
 |mp id=>exact other a
 |rtl id U=>exact other a
 |tup q=>exact other a
 |clo g q=>exact other a
 |undef=>exact other a
 |np=>exact other a
 |anyb=>exact other a
theorem CP (d:uV H H') {T:Ty}:∀(n:Nat) (l:Y TV) (xs:Y T.den) (m:Nat) (a:Y AV),yY h T n l=M (xs,m)->cJ h l=M a->Eh h H H' m->ic H H' a ((xs.flatMap (bT T)).map .f)/\xs.length=n
 |0,[],xs,m,a,hp,hl,g=>by
  simp only[yY,ah,aD]at hp;obtain⟨rfl,_⟩:=hp;simp only[cJ,ah]at hl;subst hl;exact⟨trivial,rfl⟩
 |0,_::_,xs,m,a,hp,hl,g=>by simp[yY]at hp
 |n+1,l,xs,m,a,hp,hl,g=>by
  simp only[yY]at hp;split at hp
  .rename_i q m1 r1 h1;split at hp
   .rename_i c m2 h2;simp only[ah,aD]at hp;obtain⟨rfl,rfl⟩:=hp;obtain⟨L,A⟩:=g.or;obtain⟨l1,l2,rfl,z,s⟩:=sw d 40 T l q m1 r1 a h1 hl L;obtain⟨q3,q4⟩:=CP d n r1 c m2 l2 h2 z A;refine ⟨?_,by simp[q4]⟩;rw[fQ,cS];exact s.append q3
   .cases hp
  .cases hp
theorem uB (h:bi):∀(n:Nat) (T:Ty) (v:T.den) (off sz:Nat) (ag:Bool) (u:TV),ov n T v off sz ag=M u->off+sz<=T.size/\∃y,ct h u=M (.f y)/\(ag=af->sz=1/\(bT T v)[off]? =M y)/\(ag=J->y= .agg (((bT T v).drop off).take sz))
 |0,_,_,_,_,_,_,hg=>by simp[ov]at hg
 |n+1,.st t,v,off,sz,ag,u,hg=>by
  simp only[ov]at hg;split at hg
  .rename_i hc;simp only[al]at hc;obtain⟨⟨h1,h2⟩,rfl⟩:=hc;have h1:=ar h1;have h2:=ar h2;subst h1;subst h2;simp only[ah]at hg;subst hg;refine ⟨by simp[Ty.size],_,rfl,λh=>(by cases h),λ_=>?_⟩;simp only[gC,bT,List.drop_zero];rw[<- bC t v,cK]
  .exact uB h n t v off sz ag u hg
 |n+1,.pr a b,v,off,sz,ag,u,hg=>by
  simp only[ov]at hg;have hla:=bC a v.1;have hlb:=bC b v.2;split at hg
  .rename_i hlt;have hlt:off<a.size:=a_ hlt;obtain⟨h1,y,h2,q,c⟩:=uB h n a v.1 off sz ag u hg;refine ⟨by simp only[Ty.size];omega,y,h2,λe=>?_,λe=>?_⟩
   .obtain⟨z,s⟩:=q e;exact⟨z,by rw[bT,bQ (by omega)];exact s⟩
   .rw[c e,bT];have:((bT a v.1++bT b v.2).drop off).take sz=((bT a v.1).drop off).take sz:=by
     rw[Eg (by omega),lz (by simp;omega)]
    rw[this]
  .rename_i hlt;have hlt:¬off<a.size:=λh=>hlt (bD h)
   obtain⟨h1,y,h2,q,c⟩:=uB h n b v.2 (off-a.size) sz ag u hg;refine ⟨by simp only[Ty.size];omega,y,h2,λe=>?_,λe=>?_⟩
   .obtain⟨z,s⟩:=q e;exact⟨z,by rw[bT,cf (by omega),hla];exact s⟩
   .rw[c e,bT];have:(bT a v.1++bT b v.2).drop off=(bT b v.2).drop (off-a.size):=by
     rw[uZ,hla,rW (by omega)];simp
    rw[this]
 |n+1,.un,v,off,sz,ag,u,hg=>by simp[ov]at hg
 |n+1,.ex,v,off,sz,ag,u,hg=>by
  simp only[ov]at hg;split at hg
  .rename_i hc;simp only[al]at hc;obtain⟨⟨h1,h2⟩,rfl⟩:=hc;have h1:=ar h1;have h2:=ar h2;subst h1;subst h2;simp only[ah]at hg;subst hg;refine ⟨by simp[Ty.size],_,rfl,λh=>(by cases h),λ_=>?_⟩;simp only[gC,bT,List.drop_zero];rw[<- xL v,cK]
  .obtain⟨h1,y,h2,q,c⟩:=uB h n M6 (NT v) off sz ag u hg;rw[JI]at q c;exact⟨h1,y,h2,q,c⟩
 |n+1,.sm,v,off,sz,ag,u,hg=>by
  simp only[ov]at hg;split at hg
  .rename_i hc;simp only[al]at hc;obtain⟨⟨h1,h2⟩,rfl⟩:=hc;have h1:=ar h1;have h2:=ar h2;subst h1;subst h2;simp only[ah]at hg;subst hg;refine ⟨by simp[Ty.size],_,rfl,λh=>(by cases h),λ_=>?_⟩;simp only[gC,bT,List.drop_zero];rw[<- Dn v,cK]
  .obtain⟨h1,y,h2,q,c⟩:=uB h n MC (NS v) off sz ag u hg;rw[JH]at q c;exact⟨h1,y,h2,q,c⟩
 |n+1,.int k,v,off,sz,ag,u,hg=>by
  simp only[ov]at hg;split at hg
  .rename_i hc;simp only[al,cW]at hc;obtain⟨⟨h1,h2⟩,rfl⟩:=hc;have h1:=ar h1;have h2:=ar h2;subst h1;subst h2;simp only[ah]at hg;subst hg;exact⟨by simp[Ty.size],_,rfl,λ_=>⟨rfl,rfl⟩,λh=>by cases h⟩
  .cases hg
 |n+1,.bool,v,off,sz,ag,u,hg=>by
  simp only[ov]at hg;split at hg
  .rename_i hc;simp only[al,cW]at hc;obtain⟨⟨h1,h2⟩,rfl⟩:=hc;have h1:=ar h1;have h2:=ar h2;subst h1;subst h2;simp only[ah]at hg;subst hg;exact⟨by simp[Ty.size],_,rfl,λ_=>⟨rfl,rfl⟩,λh=>by cases h⟩
  .cases hg
 |n+1,.str,v,off,sz,ag,u,hg=>by
  simp only[ov]at hg;split at hg
  .rename_i hc;simp only[al,cW]at hc;obtain⟨⟨h1,h2⟩,rfl⟩:=hc;have h1:=ar h1;have h2:=ar h2;subst h1;subst h2;simp only[ah]at hg;subst hg;exact⟨by simp[Ty.size],_,rfl,λ_=>⟨rfl,rfl⟩,λh=>by cases h⟩
  .cases hg
 |n+1,.sl t,v,off,sz,ag,u,hg=>by
  simp only[ov]at hg;split at hg
  .rename_i hc;simp only[al,cW]at hc;obtain⟨⟨h1,h2⟩,rfl⟩:=hc;have h1:=ar h1;have h2:=ar h2;subst h1;subst h2;simp only[ah]at hg;subst hg;exact⟨by simp[Ty.size],_,rfl,λ_=>⟨rfl,rfl⟩,λh=>by cases h⟩
  .cases hg
theorem T5 {α:Type} (l vs:Y α) (h:vs.length=l.length):AI.splice l 0 vs=vs:=by
 unfold AI.splice;rw[bI,h,List.drop_length];simp
theorem Qf {α:Type} (a b vs:Y α) (off:Nat) (h:off+vs.length<=a.length):AI.splice (a++b) off vs=AI.splice a off vs++b:=by
 unfold AI.splice;rw[lz (by omega),Eg (by omega)];simp[iH]
theorem N2 {α:Type} (a b vs:Y α) (off:Nat) (h:a.length<=off):AI.splice (a++b) off vs=a++AI.splice b (off-a.length) vs:=by
 unfold AI.splice;rw[List.take_append,uZ,gf h,rW (by omega),show off+vs.length-a.length=off-a.length+vs.length from by omega];simp[iH]
def XK (H H':HF) (y:AV) (T:Ty) (v z:T.den) (off sz:Nat):Prop:=∃fs:Y FV,ic H H' y.cs (fs.map .f)/\fs.length=sz/\off+sz<=T.size/\bT T z=AI.splice (bT T v) off fs/\∀x∈fs,x.isCell=J
theorem XK.whole {y:AV} {T:Ty} {v z:T.den} {off sz:Nat} (h0:off=0) (hs:sz=T.size) (hl:ic H H' y.cs ((bT T z).map .f)):XK H H' y T v z off sz:=by
 subst h0;subst hs;exact⟨bT T z,hl,bC T z,by omega,(T5 _ _ (by rw[bC,bC])).symm,oh T z⟩
theorem v9 (d:uV H H') {u:TV} {y:AV} (c:ct h u=M y):∀(n:Nat) (T:Ty) (v:T.den) (off sz:Nat) (z:T.den) (m:Nat),gW h u n T v off sz=M (z,m)->Eh h H H' m->XK H H' y T v z off sz
 |0,_,_,_,_,_,_,hg,_=>by simp[gW]at hg
 |n+1,.st t,v,off,sz,z,m,hg,g=>by
  simp only[gW]at hg;split at hg
  .rename_i q hq;split at hq
   .rename_i hc;simp only[al]at hc;simp only[ah]at hg;subst hg;exact .whole (ar hc.1) (ar hc.2) (Px d hq c g).2
   .cases hq
  .exact v9 d c n t v off sz z m hg g
 |n+1,.pr a b,v,off,sz,z,m,hg,g=>by
  simp only[gW]at hg;have hla:=bC a v.1;split at hg
  .rename_i hlt;split at hg
   .rename_i s m1 h1;simp only[ah,aD]at hg;obtain⟨rfl,rfl⟩:=hg;obtain⟨fs,L,A,q3,q4,q5⟩:=v9 d c n a v.1 off sz s m1 h1 g;refine ⟨fs,L,A,by simp only[Ty.size];omega,?_,q5⟩;rw[bT,bT,Qf _ _ _ _ (by omega),q4]
   .cases hg
  .rename_i hlt;have hlt:¬off<a.size:=λh=>hlt (bD h)
   split at hg
   .rename_i s m1 h1;simp only[ah,aD]at hg;obtain⟨rfl,rfl⟩:=hg;obtain⟨fs,L,A,q3,q4,q5⟩:=v9 d c n b v.2 (off-a.size) sz s m1 h1 g;refine ⟨fs,L,A,by simp only[Ty.size];omega,?_,q5⟩;rw[bT,bT,N2 _ _ _ _ (by omega),q4,hla]
   .cases hg
 |n+1,.un,v,off,sz,z,m,hg,g=>by simp[gW]at hg
 |n+1,.ex,v,off,sz,z,m,hg,g=>by
  simp only[gW]at hg;split at hg
  .rename_i q hq;split at hq
   .rename_i hc;simp only[al]at hc;simp only[ah]at hg;subst hg;exact .whole (ar hc.1) (ar hc.2) (Px d hq c g).2
   .cases hq
  .split at hg
   .rename_i s m1 h1;simp only[ah,aD]at hg;obtain⟨rfl,rfl⟩:=hg;obtain⟨fs,L,A,q3,q4,q5⟩:=v9 d c n M6 (NT v) off sz s m1 h1 g;exact⟨fs,L,A,q3,by rw[bT,bT,RD,q4,JI],q5⟩
   .cases hg
 |n+1,.sm,v,off,sz,z,m,hg,g=>by
  simp only[gW]at hg;split at hg
  .rename_i q hq;split at hq
   .rename_i hc;simp only[al]at hc;simp only[ah]at hg;subst hg;exact .whole (ar hc.1) (ar hc.2) (Px d hq c g).2
   .cases hq
  .split at hg
   .rename_i s m1 h1;simp only[ah,aD]at hg;obtain⟨rfl,rfl⟩:=hg;obtain⟨fs,L,A,q3,q4,q5⟩:=v9 d c n MC (NS v) off sz s m1 h1 g;exact⟨fs,L,A,q3,by rw[bT,bT,RC,q4,JH],q5⟩
   .cases hg
 |n+1,.int k,v,off,sz,z,m,hg,g=>by
  simp only[gW]at hg;split at hg
  .rename_i hc;simp only[al]at hc;exact .whole (ar hc.1) (ar hc.2) (xT d hg c g).2.2.2
  .cases hg
 |n+1,.bool,v,off,sz,z,m,hg,g=>by
  simp only[gW]at hg;split at hg
  .rename_i hc;simp only[al]at hc;exact .whole (ar hc.1) (ar hc.2) (xT d hg c g).2.2.2
  .cases hg
 |n+1,.str,v,off,sz,z,m,hg,g=>by
  simp only[gW]at hg;split at hg
  .rename_i hc;simp only[al]at hc;exact .whole (ar hc.1) (ar hc.2) (xT d hg c g).2.2.2
  .cases hg
 |n+1,.sl t,v,off,sz,z,m,hg,g=>by
  simp only[gW]at hg;split at hg
  .rename_i hc;simp only[al]at hc;exact .whole (ar hc.1) (ar hc.2) (xT d hg c g).2.2.2
  .cases hg
theorem KI:∀{a b:ξ},SK a b=J->a=b
 |[],[],_=>rfl
 |[],_::_,h=>by cases h
 |_::_,[],h=>by cases h
 |x::xs,y::ys,h=>by
  simp only[SK,al]at h;rw[ag3 h.1,KI h.2]
theorem zero_ok (d:uV H H'):∀T:Ty,ic H H' ((s9 T).map raw) ((bT T T.zero).map .f)
 |.int k=>⟨lO.refl d _,trivial⟩
 |.bool=>⟨lO.refl d _,trivial⟩
 |.str=>⟨lO.refl d _,trivial⟩
 |.sl t=>⟨Le.nil.toH d,trivial⟩
 |.st t=>zero_ok d t
 |.pr a b=>by
  simp only[s9,Ty.zero,bT,cS];exact (zero_ok d a).append (zero_ok d b)
 |.un=>trivial
 |.ex=>⟨lO.refl d _,lO.refl d _,lO.refl d _,Le.nil.toH d,trivial⟩
 |.sm=>⟨lO.refl d _,lO.refl d _,lO.refl d _,lO.refl d _,Le.nil.toH d,lO.refl d _,lO.refl d _,lO.refl d _,Le.nil.toH d,Le.nil.toH d,Le.nil.toH d,trivial⟩
theorem HM (d:uV H H') (T:Ty):∀n,ic H H' ((repl (s9 T) n).map .f) (((aB n T.zero).flatMap (bT T)).map .f)
 |0=>trivial
 |n+1=>by
  rw[repl,vV,fQ,cS,cS];have h1:=zero_ok (H:=H) (H':=H') d T;have:((s9 T).map .raw).map AV.f=(s9 T).map raw:=by rw[HG];rfl
  rw[this];exact h1.append (HM d T n)
end pack
structure mo (h:bi) (nx:Nat):Prop where
 cells:∀id ty l,h.get id=M (.cells ty l)->kX h l=J
 low:∀id b,h.get id=M b->id<nx
def tR (e:iX) (h:bi):Prop:=∀t v,e.get t=M v->Lx h v=J
structure iW (P:Program) (o:Oper) (still:Bool) (e:iX) (h:bi) (nx:Nat) (v:TV) (rd wr:Nat) (h':bi) (nx':Nat):Prop where
 ex:∃f:Bz,gP P o (fM e h) (bu h) f/\(∀y,ct h' v=M y->f.val=y)/\eV (bu h) f.wr f.nw=bu h'/\(∀n∈f.rd,aM rd (ow n)=J)/\(∀n∈f.wr,aM wr (ow n)=J)/\(∀n∈f.N,nx<=ow n/\ow n<nx')
 rows:b_ h h'
 inv:mo h' nx'
 grows:nx<=nx'
 st:still=J->rd=0/\wr=0
def kW {R:Type} (P:Program) (o:Oper) (still:Bool) (e:iX) (h:bi) (nx:Nat) (K:KO R) (r:R):Prop:=
 ∃v rd wr h' nx',K v rd wr h' nx'=M r/\iW P o still e h nx v rd wr h' nx'
theorem ec {R:Type} {b:Bool} {k:b=J->I R} {r:R} (h:chk b k=M r):∃hb:b=J,k hb=M r:=by
 cases b with
 |true=>exact⟨rfl,h⟩
 |false=>cases h
theorem pH {R:Type} {b:Bool} {t f:I R} {r:R} (h:aG b t f=M r):(b=J/\t=M r)\/(b=af/\f=M r):=by
 cases b with
 |true=>exact .inl ⟨rfl,h⟩
 |false=>exact .inr ⟨rfl,h⟩
theorem dK {α R:Type} {o:I α} {k:α->I R} {r:R} (h:av o k=M r):∃x,o=M x/\k x=M r:=by
 cases o with
 |some x=>exact⟨x,rfl,h⟩
 |none=>cases h
theorem EO {j:Int} {n:Nat} (h:fy j n=J):0<=j/\j<n/\j.toNat<n:=by
 simp only[fy,cZ,fJ,al,bB]at h;omega
theorem gP.envLe {P:Program} {o:Oper} {e e2:EF} {h:HF} {f:Bz} (ht:gP P o e h f) (hle:∀t y,.tmp t∈o.op.operands->e t=M y->∃q,e2 t=M q/\Le q y):gP P o e2 h f:=by
 intro φ E h' w a h1 h2 L A z;refine ht φ E h' w a h1 h2 (λt c y s=>?_) A z;obtain⟨q,Z,U⟩:=hle t y c s;exact U _ _ _ _ (L t c q Z)
theorem Kk (h:bi) {v:Value} {u:TV} (hc:cst v=M u):ct h u=M (raw v)/\v.oneCell'=J/\u.isC=J:=by
 unfold cst at hc;split at hc<;>cases hc<;>exact⟨rfl,rfl,rfl⟩
theorem vx (h:bi):∀{z:ξ} {l:Y TV},Kj z=M l->cJ h l=M (z.map raw)/\(∀x∈z,x.oneCell'=J)/\kK l=J
 |[],l,hc=>by simp only[Kj,ah]at hc;subst hc;exact⟨rfl,by simp,rfl⟩
 |v::r,l,hc=>by
  simp only[Kj]at hc;split at hc
  .rename_i x U c hl;simp only[ah]at hc;subst hc;obtain⟨h1,h2,L⟩:=Kk h c;obtain⟨A,s,q⟩:=vx h hl;refine ⟨pd h1 A,λy a=>?_,by simp[kK,L,q]⟩;rcases bk.1 a with rfl|a
   .exact h2
   .exact s y a
  .cases hc
theorem bJ {e:iX} {h:bi} (hi:tR e h) {x:Operand} {v:TV} (a:fR e x=M v):∃y,mT (JE e h) x=M y/\ct h v=M y:=by
 cases x with
 |tmp t=>
  simp only[fR]at a;obtain⟨y,q⟩:=ph h v (hi t v a);refine ⟨y,?_,q⟩;simp only[mT];rw[vp];simp only[fM,a,aF,q]
 |const c=>
  simp only[fR]at a;unfold ajc at a;split at a
  .rename_i vs;split at a
   .rename_i h1;split at a
    .rename_i l hl;simp only[ah]at a;subst a;refine ⟨.agg (vs.toList.map raw),?_,by simp only[ct,(vx h hl).1]⟩;simp only[mT,Fm,h1,bG];rfl
    .cases a
   .cases a
  .rename_i hn;refine ⟨raw c,?_,(Kk h a).1⟩;simp only[mT];unfold Fm;split
   .rename_i vs;exact bZ rfl (hn vs)
   .rfl
 |func g=>
  simp only[fR,ah]at a;subst a;exact⟨_,rfl,rfl⟩
 |global g=>
  simp only[fR]at a;cases hg:G g with
  |none=>rw[hg]at a;cases a
  |some cells=>
   rw[hg]at a;simp only[ah]at a;subst a;have hcells:cells=CX:=by
    unfold G at hg;split at hg
    .cases hg;rfl
    .cases hg
   subst hcells;exact⟨_,by simp only[mT,hg];rfl,rfl⟩
theorem y_ {e:iX} {h:bi} (hi:tR e h):∀{xs:Y Operand} {l:Y TV},FM e xs=M l->∃c,Xj (JE e h) xs=M c/\cJ h l=M c
 |[],l,a=>by simp only[FM,ah]at a;subst a;exact⟨[],rfl,rfl⟩
 |x::xs,l,a=>by
  simp only[FM]at a;split at a
  .rename_i y s;split at a
   .rename_i L hys;simp only[ah]at a;subst a;obtain⟨q,h1,h2⟩:=bJ hi s;obtain⟨c,A,z⟩:=y_ hi hys;exact⟨q::c,by simp only[Xj,h1,A],pd h2 z⟩
   .cases a
  .cases a
section ops
variable {R:Type} {P:Program} {o:Oper} {e:iX} {h:bi} {nx:Nat} {K:KO R} {r:R}
theorem iW.pure {s:Zg} {st:Bool} (hinv:mo h nx) (hc:dw P o.op=M s) {H:oq} (z:H.get=bu h) {k:Nat} {y0:AV} {rdl:ι} (q:eL s (JE e h) H k=M ⟨y0,rdl,[],[],[]⟩) {v:TV} (hv:∀y,ct h v=M y->Le y0 y) {rd:Nat} (hrd:∀n∈rdl,aM rd (ow n)=J) (hst:st=J->rd=0):iW P o st e h nx v rd 0 h nx:=by
 have ht:=IB hc q;rw[vp,z]at ht;refine ⟨?_,λ_ _ h=>h,hinv,bP _,λhs=>⟨hst hs,rfl⟩⟩;have key:∀y,Le y0 y->gP P o (fM e h) (bu h) ⟨y,rdl,[],jr [],[]⟩:=λy hle=>
  gP.view ht (λi hi=>by cases hi) λh' _ _=>⟨Ht.refl _,hle.toH (uV.refl _)⟩
 cases c:ct h v with
 |none=>exact⟨_,ht,λy a=>by simp at a,by simp[Ck.eff,ua],hrd,by simp[Ck.eff],by simp[Ck.eff]⟩
 |some y=>exact⟨_,key y (hv y c),λA a=>by simpa using a,by simp[ua],hrd,by simp,by simp⟩
theorem kW.q {s:Zg} {st:Bool} (hinv:mo h nx) (hc:dw P o.op=M s) {k:Nat} {y0:AV} (c:∀H:oq,H.get=bu h->eL s (JE e h) H k=rv y0) {v:TV} (hv:∀y,ct h v=M y->Le y0 y) (hk:K v 0 0 h nx=M r):kW P o st e h nx K r:=by
 obtain⟨H,a⟩:=jV h;exact⟨v,0,0,h,nx,hk,iW.pure hinv hc a (c H a) hv (by simp) λ_=>rfl⟩
theorem dz {y0:AV} {v:TV} (hv:ct h v=M y0):∀y,ct h v=M y->Le y0 y:=λy a=>by rw[hv]at a;cases a;exact Le.refl _
theorem ahc {T:Ty} {xs:Y T.den} {j:Int} (hj:fy j xs.length=J) {off sz:Nat} {ag:Bool} {u:TV} (hg:ov 40 T (aJ xs j) off sz ag=M u):
 ∃y,ct h u=M (.f y)/\(BC.fz (xs.flatMap (bT T))).sub? (j.toNat*T.size+off) sz ag=M (.f y):=by
 obtain⟨h1,y,h2,A,z⟩:=uB h 40 T _ off sz ag u hg;refine ⟨y,h2,?_⟩;obtain⟨_,_,hlt⟩:=EO hj;have a:xs[j.toNat]? =M (aJ xs j):=by
  unfold aJ;rw[au,ay hlt];rfl
 obtain⟨q,hq⟩:=E8 (bC T) xs j.toNat _ a;have hlen:=fH (bC T) xs;have hle:(j.toNat+1)*T.size<=xs.length*T.size:=cL _ hlt;rw[iZ]at hle;have hl:=bC T (aJ xs j);cases ag with
 |false=>
  obtain⟨s,c⟩:=A rfl;subst s;simp only[BC.sub?,BC.get];have:(xs.flatMap (bT T))[j.toNat*T.size+off]? =M y:=by
   rw[<- hZ,hq,bQ (by omega)];exact c
  rw[this];rfl
 |true=>
  simp only[BC.sub?];rw[aC (bD (by omega)),z rfl,<-List.drop_drop,hq,Eg (by omega),lz (by simp;omega)]
theorem ahd {T:Ty} {v:T.den} {off sz:Nat} {ag:Bool} {u:TV} (hg:ov 40 T v off sz ag=M u):
 ∃y,ct h u=M (.f y)/\(BC.fz (bT T v)).sub? off sz ag=M (.f y):=by
 obtain⟨h1,y,h2,s,q⟩:=uB h 40 T _ off sz ag u hg;refine ⟨y,h2,?_⟩;have hl:=bC T v;cases ag with
 |false=>
  obtain⟨c,a⟩:=s rfl;subst c;simp only[BC.sub?,BC.get,a];rfl
 |true=>
  simp only[BC.sub?];rw[aC (bD (by omega)),q rfl]
theorem Wq {l:Y TV} {a:Y AV} (hl:cJ h l=M a) {off sz:Nat} {ag:Bool} {u:TV} (hs:T2 l off sz ag=M u):∃y,ct h u=M y/\(BC.mx a).sub? off sz ag=M y:=by
 cases ag with
 |false=>
  simp only[T2]at hs;split at hs
  .rename_i h1;have h1:=ar h1;subst h1;obtain⟨y,h2,c⟩:=lm hl off u hs;exact⟨y,c,by simp only[BC.sub?,BC.get,h2]⟩
  .cases hs
 |true=>
  simp only[T2]at hs;split at hs
  .rename_i h1;simp only[ah]at hs;subst hs;have h2:=Fc sz (Fe off hl);exact⟨.agg ((a.drop off).take sz),by simp only[ct,h2],by simp only[BC.sub?,gK hl,h1,bG]⟩
  .cases hs
theorem QI {v:TV} {n:Nat} {y:AV} (hn:lenOf h v=M n) (a:ct h v=M y):y.slen=M n:=by
 unfold lenOf at hn;split at hn
 .simp only[ah]at hn;subst hn;simp only[ct,ah]at a;subst a;rfl
 .simp only[ah]at hn;subst hn;simp only[ct,ah]at a;subst a;rfl
 .simp only[ah]at hn;subst hn;simp only[ct,ah]at a;subst a;rfl
 .rename_i id;simp only[ct]at a;cases hr:eH h id with
  |none=>rw[hr]at hn;cases hn
  |some q=>
   obtain⟨p,sz,m⟩:=q;rw[hr]at hn a;simp only[ah]at hn a;subst hn;subst a;unfold fE;split
   .rename_i hp;simp only[al,cV]at hp;rw[hp.2];rfl
   .rfl
 .simp only[ah]at hn;subst hn;simp only[ct,ah]at a;subst a;rfl
 .cases hn
theorem D3 (a b:ζ):sk ⟨a.toArray⟩ ⟨b.toArray⟩=decide (a=b):=by
 unfold sk;simp only[Bool.beq_eq_decide_eq]
theorem ag2 {op:BinOp} {u v:TV} {q:TV->I R} (hk:ajj op u v q=M r):∃a b c t,ct h u=M (raw a)/\ct h v=M (raw b)/\tP op a b=M c/\ct h t=M (raw c)/\q t=M r:=by
 unfold ajj at hk;split at hk
 .rename_i k a k' b;split at hk
  .rename_i hkk;have hkk':k=k':=by simpa using hkk
   subst hkk';refine ⟨.int k a,.int k b,?_⟩;cases op<;>simp only[reduceCtorEq]at hk<;>first
    |cases hk
    |exact⟨_,_,rfl,rfl,(by simp only[tP,cU,bG]<;>rfl),rfl,hk⟩
    |(obtain ⟨hb,hk⟩:=ec hk
      have s:(b==(0:Int))=af:=by simpa using hb
      exact⟨_,_,rfl,rfl,by simp only[tP,cU,bG,s,ci,dP],rfl,hk⟩)
  .cases hk
 .rename_i a b;refine ⟨.string ⟨kR a⟩,.string ⟨kR b⟩,?_⟩;split at hk
  .exact⟨.bool (decide ((a:ζ)=b)),_,rfl,rfl,by simp only[tP,D3],rfl,hk⟩
  .exact⟨.bool (!decide ((a:ζ)=b)),_,rfl,rfl,by simp only[tP,D3],rfl,hk⟩
  .cases hk
 .cases hk
theorem XE {T:Ty}:∀{l:Y TV} {xs:Y T.den},yN T l=M xs->∀k,k<l.length->l[k]? =M (.f T (xs.getD k T.zero))
 |[],xs,_,k,hk=>by simp at hk
 |.f S v::r,xs,a,k,hk=>by
  simp only[yN]at a;split at a
  .rename_i x c;split at a
   .rename_i l hl;simp only[ah]at a;subst a;obtain⟨es,ex⟩:=ir c;cases es;subst ex;cases k with
    |zero=>rfl
    |succ k=>simpa using XE hl k (by simpa using hk)
   .cases a
  .cases a
 |.fel _ _ _ _ _::r,xs,a,k,hk=>by simp[yN]at a
 |.pel _ _ _ _::r,xs,a,k,hk=>by simp[yN]at a
 |.ptr _ _::r,xs,a,k,hk=>by simp[yN]at a
 |.csl _ _ _::r,xs,a,k,hk=>by simp[yN]at a
 |.row _::r,xs,a,k,hk=>by simp[yN]at a
 |.emp::r,xs,a,k,hk=>by simp[yN]at a
 |.nil::r,xs,a,k,hk=>by simp[yN]at a
 |.mp _::r,xs,a,k,hk=>by simp[yN]at a
 |.agg _::r,xs,a,k,hk=>by simp[yN]at a
 |.tup _::r,xs,a,k,hk=>by simp[yN]at a
 |.clo _ _::r,xs,a,k,hk=>by simp[yN]at a
 |.undef::r,xs,a,k,hk=>by simp[yN]at a
 |.np::r,xs,a,k,hk=>by simp[yN]at a
 |.anyb::r,xs,a,k,hk=>by simp[yN]at a
theorem XD {l:Y TV} {T:Ty} {xs:Y T.den} (a:ace l=M ⟨T,xs⟩):∀k,k<l.length->l[k]? =M (.f T (xs.getD k T.zero)):=by
 unfold ace at a;split at a
 .split at a
  .rename_i l1 hl;simp only[ah]at a;cases a;exact XE hl
  .cases a
 .cases a
variable (hinv:mo h nx) (hi:tR e h)
include hinv hi
theorem K_mv {con:FuncId->I cA} {b9:TypeId->I Ty} {x:Operand} {st:Bool} (hc:dw P o.op=M (.mv x)) (hk:dX con b9 (.op (.mv x)) e h nx K=M r):kW P o st e h nx K r:=by
 simp only[dX]at hk;split at hk
 .rename_i v hv;obtain⟨y,h1,h2⟩:=bJ hi hv;exact kW.q (k:=0) hinv hc (λH _=>by simp only[eL,h1]) (dz h2) hk
 .cases hk
theorem ala {con:FuncId->I cA} {b9:TypeId->I Ty} {c a b:Operand} {st:Bool} (hc:dw P o.op=M (.pick c a b)) (hk:dX con b9 (.op (.pick c a b)) e h nx K=M r):kW P o st e h nx K r:=by
 simp only[dX]at hk;split at hk
 .rename_i t hv;obtain⟨y,h1,h2⟩:=bJ hi hv;simp only[ct,ah]at h2;subst h2;rcases pH hk with ⟨rfl,s⟩|⟨rfl,s⟩
  .split at s
   .rename_i v z;obtain⟨U,L,A⟩:=bJ hi z;exact kW.q (k:=0) hinv hc (λH _=>by simp only[eL,h1,gC,bG,L]) (dz A) s
   .cases s
  .split at s
   .rename_i v z;obtain⟨U,L,A⟩:=bJ hi z;exact kW.q (k:=0) hinv hc (λH _=>by simp only[eL,h1,gC,L,ci,dP]) (dz A) s
   .cases s
 .cases hk
theorem alb {con:FuncId->I cA} {b9:TypeId->I Ty} {x:Operand} {st:Bool} (hc:dw P o.op=M (.nilc x)) (hk:dX con b9 (.op (.nilc x)) e h nx K=M r):kW P o st e h nx K r:=by
 simp only[dX]at hk;split at hk;all_goals first
  |(rename_i hv
    obtain⟨y,h1,h2⟩:=bJ hi hv;have a:=h2;simp only[ct,ah]at h2;subst h2;exact kW.q (k:=0) hinv hc (λH _=>by simp only[eL,h1]) (dz a) hk)
  |skip
 .rename_i g cap hv;obtain⟨y,h1,h2⟩:=bJ hi hv;have a:=h2;simp only[ct]at h2;split at h2
  .simp only[ah]at h2;subst h2;exact kW.q (k:=0) hinv hc (λH _=>by simp only[eL,h1]) (dz a) hk
  .cases h2
 .cases hk
theorem aoh {con:FuncId->I cA} {b9:TypeId->I Ty} {x:Operand} {st:Bool} (hc:dw P o.op=M (.not x)) (hk:dX con b9 (.op (.not x)) e h nx K=M r):kW P o st e h nx K r:=by
 simp only[dX]at hk;split at hk
 .rename_i b hv;obtain⟨y,h1,h2⟩:=bJ hi hv;simp only[ct,ah]at h2;subst h2;exact kW.q (k:=0) hinv hc (λH _=>by simp only[eL,h1,gC];rfl) (dz rfl) hk
 .cases hk
theorem ali {con:FuncId->I cA} {b9:TypeId->I Ty} {k:IntKind} {x:Operand} {st:Bool} (hc:dw P o.op=M (.conv k x)) (hk:dX con b9 (.op (.conv k x)) e h nx K=M r):kW P o st e h nx K r:=by
 simp only[dX]at hk;split at hk
 .rename_i k' n hv;obtain⟨y,h1,h2⟩:=bJ hi hv;simp only[ct,ah]at h2;subst h2;exact kW.q (k:=0) hinv hc (λH _=>by simp only[eL,h1,gC];rfl) (dz rfl) hk
 .cases hk
theorem aow {con:FuncId->I cA} {b9:TypeId->I Ty} {neg:Bool} {x y:Operand} {st:Bool} (hc:dw P o.op=M (.eqb neg x y)) (hk:dX con b9 (.op (.eqb neg x y)) e h nx K=M r):kW P o st e h nx K r:=by
 simp only[dX]at hk;split at hk
 .rename_i a b hv c;obtain⟨y,h1,h2⟩:=bJ hi hv;obtain⟨A,z,s⟩:=bJ hi c;simp only[ct,ah]at h2 s;subst h2;subst s;exact kW.q (k:=0) hinv hc (λH _=>by simp only[eL,h1,z,gC];rfl) (dz rfl) hk
 .cases hk
theorem agx {con:FuncId->I cA} {b9:TypeId->I Ty} {neg:Bool} {x:Operand} {st:Bool} (hc:dw P o.op=M (.isnil neg x)) (hk:dX con b9 (.op (.isnil neg x)) e h nx K=M r):kW P o st e h nx K r:=by
 simp only[dX]at hk;split at hk
 .rename_i hv;obtain⟨y,h1,h2⟩:=bJ hi hv;simp only[ct,ah]at h2;subst h2;exact kW.q (k:=0) hinv hc (λH _=>by simp only[eL,h1,tL,bG];rfl) (dz rfl) hk
 .rename_i hv;obtain⟨y,h1,h2⟩:=bJ hi hv;simp only[ct,ah]at h2;subst h2;exact kW.q (k:=0) hinv hc (λH _=>by simp only[eL,h1]) (dz rfl) hk
 .rename_i T xs hv;obtain⟨y,h1,h2⟩:=bJ hi hv;simp only[ct,ah]at h2;subst h2;rcases pH hk with ⟨c,a⟩|⟨c,a⟩
  .have c:=ar c;exact kW.q (k:=0) (y0:=.anyb) hinv hc (λH _=>by simp only[eL,h1,gC,c]) (dz rfl) a
  .have c:=im c;obtain⟨n,hn⟩:=Nat.exists_eq_succ_of_ne_zero c;exact kW.q (k:=0) (y0:=raw (.bool neg)) hinv hc (λH _=>by simp only[eL,h1,gC,hn]) (dz rfl) a
 .rename_i id hv;split at hk
  .rename_i ty T xs hb;obtain⟨y,h1,h2⟩:=bJ hi hv;simp only[ct,eH,hb,fE,lB,ci,dP,ah]at h2;subst h2;exact kW.q (k:=0) (y0:=raw (.bool neg)) hinv hc (λH _=>by simp only[eL,h1]) (dz rfl) hk
  .cases hk
 .cases hk
theorem aom {con:FuncId->I cA} {b9:TypeId->I Ty} {x y:Operand} {st:Bool} (hc:dw P o.op=M (.max x y)) (hk:dX con b9 (.op (.max x y)) e h nx K=M r):kW P o st e h nx K r:=by
 simp only[dX]at hk;split at hk
 .rename_i k a k' b hv c;obtain⟨y,h1,h2⟩:=bJ hi hv;obtain⟨A,z,s⟩:=bJ hi c;simp only[ct,ah]at h2 s;subst h2;subst s;split at hk
  .exact kW.q (k:=0) hinv hc (λH _=>by simp only[eL,h1,z,gC];rfl) (dz rfl) hk
  .cases hk
 .cases hk
theorem aol {con:FuncId->I cA} {b9:TypeId->I Ty} {x y:Operand} {st:Bool} (hc:dw P o.op=M (.min x y)) (hk:dX con b9 (.op (.min x y)) e h nx K=M r):kW P o st e h nx K r:=by
 simp only[dX]at hk;split at hk
 .rename_i k a k' b hv c;obtain⟨y,h1,h2⟩:=bJ hi hv;obtain⟨A,z,s⟩:=bJ hi c;simp only[ct,ah]at h2 s;subst h2;subst s;split at hk
  .exact kW.q (k:=0) hinv hc (λH _=>by simp only[eL,h1,z,gC];rfl) (dz rfl) hk
  .cases hk
 .cases hk
theorem aot {con:FuncId->I cA} {b9:TypeId->I Ty} {off:Nat} {x:Operand} {st:Bool} (hc:dw P o.op=M (.fad off x)) (hk:dX con b9 (.op (.fad off x)) e h nx K=M r):kW P o st e h nx K r:=by
 simp only[dX]at hk;split at hk;all_goals first
  |(rename_i hv
    obtain⟨y,h1,h2⟩:=bJ hi hv;simp only[ct,ah]at h2;subst h2;exact kW.q (k:=0) hinv hc (λH _=>by simp only[eL,h1,sR]) (dz rfl) hk)
  |cases hk
theorem aos {con:FuncId->I cA} {b9:TypeId->I Ty} {off sz:Nat} {ag:Bool} {x:Operand} {st:Bool} (hc:dw P o.op=M (.fld off sz ag x)) (hk:dX con b9 (.op (.fld off sz ag x)) e h nx K=M r):kW P o st e h nx K r:=by
 simp only[dX]at hk;split at hk
 .rename_i l hv;split at hk
  .rename_i u hs;obtain⟨y,h1,h2⟩:=bJ hi hv;simp only[ct]at h2;split at h2
   .rename_i z hl;simp only[ah]at h2;subst h2;obtain⟨y,c,a⟩:=Wq hl hs;exact kW.q (k:=0) hinv hc (λH _=>by simp only[eL,h1,a]) (dz c) hk
   .cases h2
  .cases hk
 .rename_i T v hv;split at hk
  .cases hk
  .rename_i s;split at hk
   .rename_i u hs;obtain⟨y,h1,h2⟩:=bJ hi hv;simp only[ct,ah]at h2;rw[qK T v (by simpa using s)]at h2;subst h2;obtain⟨y,c,a⟩:=ahd (h:=h) hs;exact kW.q (k:=0) hinv hc (λH _=>by simp only[eL,h1,a]) (dz c) hk
   .cases hk
 .cases hk
theorem aoq {con:FuncId->I cA} {b9:TypeId->I Ty} {n sz:Nat} {ag:Bool} {x i:Operand} {st:Bool} (hc:dw P o.op=M (.idx n sz ag x i)) (hk:dX con b9 (.op (.idx n sz ag x i)) e h nx K=M r):kW P o st e h nx K r:=by
 simp only[dX]at hk;split at hk
 .rename_i v0 k j hv A;split at hk
  .rename_i T xs hA;obtain⟨hb,hk⟩:=ec hk;cases ag with
   |true=>cases hA
   |false=>
   simp only[aml]at hA;split at hA
   .rename_i hsz;simp only[al,cW]at hsz;have hsz1:=ar hsz.1;subst hsz1;split at hA
    .rename_i l hl;split at hA
     .rename_i hn;have hn:=ar hn;obtain⟨y,h1,h2⟩:=bJ hi hv;obtain⟨y2,L,c⟩:=bJ hi A;simp only[ct,ah]at c;subst c;have hj:j.toNat<l.length:=by
       simp only[al,cZ,fJ,bB]at hb;omega
      have hg:=XD hA j.toNat hj;obtain⟨he,_⟩:=Km hl h2;obtain⟨z,a,s⟩:=lm he j.toNat _ hg;have s:ct h (.f T (aJ xs j))=M z:=s;refine kW.q (k:=0) hinv hc (λH _=>?_) (dz s) hk;cases v0 with
      |agg q=>
       simp only[ct]at h2;split at h2
       .rename_i l' _;simp only[ah]at h2;subst h2;have a:l'[j.toNat]? =M z:=a;simp only[eL,h1,L,gC,hb,bG,BC.sub?,BC.get,Nat.mul_one,a]
       .cases h2
      |f S u=>
       have U:S.one=af:=by
        have:=hsz.2;simpa[TV.isC] using this
       simp only[ct,ah]at h2;rw[qK S u U]at h2;subst h2;have a:((bT S u).map AV.f)[j.toNat]? =M z:=a;rw[ba]at a;simp only[eL,h1,L,gC,hb,bG,BC.sub?,BC.get,Nat.mul_one,a]
      |_=>simp[TV.cs,TV.isC]at hl hsz
     .cases hA
    .cases hA
   .cases hA
  .split at hk
   .rename_i l;obtain⟨hb,hk⟩:=ec hk;split at hk
    .rename_i u hs;obtain⟨y,h1,h2⟩:=bJ hi hv;obtain⟨y2,L,c⟩:=bJ hi A;simp only[ct,ah]at c;subst c;simp only[ct]at h2;split at h2
     .rename_i l' hl;simp only[ah]at h2;subst h2;obtain⟨y,h3,Z⟩:=Wq hl hs;exact kW.q (k:=0) hinv hc (λH _=>by simp only[eL,h1,L,gC,hb,bG,Z]) (dz h3) hk
     .cases h2
    .cases hk
   .rename_i T v _;split at hk
    .cases hk
    .rename_i U;obtain⟨hb,hk⟩:=ec hk;split at hk
     .rename_i u hs;obtain⟨y,h1,h2⟩:=bJ hi hv;obtain⟨y2,L,c⟩:=bJ hi A;simp only[ct,ah]at c h2;subst c;rw[qK T v (by simpa using U)]at h2;subst h2;obtain⟨y,h3,Z⟩:=ahd (h:=h) hs;exact kW.q (k:=0) hinv hc (λH _=>by simp only[eL,h1,L,gC,hb,bG,Z]) (dz h3) hk
     .cases hk
   .cases hk
 .cases hk
theorem alg {con:FuncId->I cA} {b9:TypeId->I Ty} {n sz:Nat} {x i:Operand} {st:Bool} (hc:dw P o.op=M (.iada n sz x i)) (hk:dX con b9 (.op (.iada n sz x i)) e h nx K=M r):kW P o st e h nx K r:=by
 simp only[dX]at hk;split at hk
 .rename_i id off k j hv a;obtain⟨y,h1,h2⟩:=bJ hi hv;obtain⟨z,s,c⟩:=bJ hi a;simp only[ct,ah]at c h2;subst c;subst h2;split at hk
  .obtain⟨hb,hk⟩:=ec hk;exact kW.q (k:=0) (y0:=.ptr (nm id) (off+j.toNat*sz)) hinv hc (λH _=>by simp only[eL,h1,s,gC,hb,bG]) (dz (by simp only[ct];rw[Nat.add_comm])) hk
  .obtain⟨hb,hk⟩:=ec hk;exact kW.q (k:=0) hinv hc (λH _=>by simp only[eL,h1,s,gC,hb,bG]) (dz rfl) hk
 .cases hk
theorem aou {con:FuncId->I cA} {b9:TypeId->I Ty} {i:Nat} {x:Operand} {st:Bool} (hc:dw P o.op=M (.ext x i)) (hk:dX con b9 (.op (.ext x i)) e h nx K=M r):kW P o st e h nx K r:=by
 simp only[dX]at hk;split at hk
 .rename_i l hv;split at hk
  .rename_i u hs;obtain⟨y,h1,h2⟩:=bJ hi hv;simp only[ct]at h2;split at h2
   .rename_i s hl;simp only[ah]at h2;subst h2;obtain⟨y,c,a⟩:=lm hl i u hs;exact kW.q (k:=0) hinv hc (λH _=>by simp only[eL,h1,c]) (dz a) hk
   .cases h2
  .cases hk
 .cases hk
theorem aoo {con:FuncId->I cA} {b9:TypeId->I Ty} {x:Operand} {st:Bool} (hc:dw P o.op=M (.len x)) (hk:dX con b9 (.op (.len x)) e h nx K=M r):kW P o st e h nx K r:=by
 simp only[dX]at hk;split at hk
 .rename_i v hv;split at hk
  .rename_i n hn;obtain⟨y,h1,h2⟩:=bJ hi hv;have a:=QI hn h2;exact kW.q (k:=0) hinv hc (λH _=>by simp only[eL,h1,a];rfl) (dz rfl) hk
  .cases hk
 .cases hk
theorem ale {con:FuncId->I cA} {b9:TypeId->I Ty} {x:Operand} {st:Bool} (hc:dw P o.op=M (.lens x)) (hk:dX con b9 (.op (.lens x)) e h nx K=M r):kW P o st e h nx K r:=by
 simp only[dX]at hk;split at hk
 .rename_i s hv;obtain⟨y,h1,h2⟩:=bJ hi hv;simp only[ct,ah]at h2;subst h2;exact kW.q (k:=0) hinv hc (λH _=>by simp only[eL,h1,gC];rfl) (dz rfl) hk
 .cases hk
theorem al9 {con:FuncId->I cA} {b9:TypeId->I Ty} {x i:Operand} {st:Bool} (hc:dw P o.op=M (.sidx x i)) (hk:dX con b9 (.op (.sidx x i)) e h nx K=M r):kW P o st e h nx K r:=by
 simp only[dX]at hk;split at hk
 .rename_i s k j hv a;obtain⟨hj,hk⟩:=ec hk;obtain⟨y,h1,h2⟩:=bJ hi hv;obtain⟨U,L,c⟩:=bJ hi a;simp only[ct,ah]at h2 c;subst h2;subst c;obtain⟨A,Z,z⟩:=EO hj;have e1:cZ 0 j=J:=by simp[cZ,A]
  have e2:(⟨kR s⟩:ByteArray).data.toList[j.toNat]? =M (List.getD s j.toNat 0):=by
   show s[j.toNat]? =_;rw[au,ay z];rfl
  exact kW.q (k:=0) (y0:=raw (.int .u8 (aN (List.getD s j.toNat 0).toNat))) hinv hc (λH _=>by simp only[eL,h1,L,gC,e1,bG,e2];rfl) (dz rfl) hk
 .cases hk
theorem aor {con:FuncId->I cA} {b9:TypeId->I Ty} {sz:Nat} {x i:Operand} {st:Bool} (hc:dw P o.op=M (.iad sz x i)) (hk:dX con b9 (.op (.iad sz x i)) e h nx K=M r):kW P o st e h nx K r:=by
 simp only[dX]at hk;split at hk
 .rename_i id k j hv a;split at hk
  .rename_i ty p T xs hb;split at hk
   .rename_i hs;have hs:=ar hs;obtain⟨hj,hk⟩:=ec hk;obtain⟨y,h1,h2⟩:=bJ hi hv;obtain⟨L,z,c⟩:=bJ hi a;simp only[ct,ah]at c;subst c;obtain⟨j0,Z,U⟩:=EO hj;have hne:¬((p&&xs.length==0)=J):=by
     simp only[al,cV];omega
    simp only[ct,eH,hb,fE,ax hne,ah]at h2;subst h2;have A:(T.size==sz&&cZ 0 j&&fJ j xs.length)=J:=by
     simp only[fy,al]at hj;simp[hs,hj.1,hj.2]
    exact kW.q (k:=0) hinv hc (λH _=>by simp only[eL,h1,z,gC,A,bG,c8]) (dz rfl) hk
   .cases hk
  .cases hk
 .rename_i T xs k j hv a;split at hk
  .rename_i hs;have hs:=ar hs;obtain⟨hj,hk⟩:=ec hk;obtain⟨y,h1,h2⟩:=bJ hi hv;obtain⟨L,z,c⟩:=bJ hi a;simp only[ct,ah]at c h2;subst c;subst h2;have s:(cZ 0 j&&fJ j (ai xs))=J:=hj;exact kW.q (k:=0) hinv hc (λH _=>by simp only[eL,h1,z,gC,s,bG,c8,hs]) (dz rfl) hk
  .cases hk
 .rename_i id sz' n k j hv a;split at hk
  .rename_i hs;have hs:=ar hs;subst hs;obtain⟨hj,hk⟩:=ec hk;obtain⟨y,h1,h2⟩:=bJ hi hv;obtain⟨L,z,c⟩:=bJ hi a;simp only[ct,ah]at c h2;subst c;subst h2;have s:(sz'==sz'&&cZ 0 j&&fJ j n)=J:=by simp only[al]at hj ⊢;exact⟨⟨cU _,hj.1⟩,hj.2⟩
   exact kW.q (k:=0) hinv hc (λH _=>by simp only[eL,h1,z,gC,s,bG]) (dz rfl) hk
  .cases hk
 .cases hk
theorem aok {con:FuncId->I cA} {b9:TypeId->I Ty} {f:FuncId} {caps:Y Operand} {st:Bool} (hc:dw P o.op=M (.mkf f caps)) (hk:dX con b9 (.op (.mkf f caps)) e h nx K=M r):kW P o st e h nx K r:=by
 simp only[dX]at hk;split at hk
 .rename_i l hv;obtain⟨a,h1,h2⟩:=y_ hi hv;exact kW.q (k:=0) hinv hc (y0:=.clo f a) (λH _=>by simp only[eL,h1]) (dz (by simp only[ct,h2])) hk
 .cases hk
theorem ap0 {con:FuncId->I cA} {b9:TypeId->I Ty} {op:BinOp} {x y:Operand} {st:Bool} (hc:dw P o.op=M (.bin op x y)) (hk:dX con b9 (.op (.bin op x y)) e h nx K=M r):kW P o st e h nx K r:=by
 simp only[dX]at hk;split at hk
 .rename_i u v hv s;obtain⟨a,b,c,t,h1,h2,h3,h4,Z⟩:=ag2 (h:=h) hk;obtain⟨y,U,L⟩:=bJ hi hv;obtain⟨y2,A,z⟩:=bJ hi s;rw[h1]at L;cases L;rw[h2]at z;cases z;simp only[raw]at U A;exact kW.q (k:=0) hinv hc (λH _=>by simp only[eL,U,A,h3]) (dz h4) Z
 .cases hk
end ops
def mV:iu->I (Bool×Nat×Nat)
 |.rows _ p T xs=>M (p,T.size,xs.length)
 |.dead p sz n=>M (p,sz,n)
 |_=>D
theorem bS (h:bi) (i:Nat):eH h i=(h.get i).bind mV:=by
 unfold eH;cases h.get i with
 |none=>rfl
 |some b=>cases b<;>rfl
theorem b_.refl (h:bi):b_ h h:=λ_ _ h=>h
theorem b_.trans {a b c:bi} (h1:b_ a b) (h2:b_ b c):b_ a c:=λi r h=>h2 i r (h1 i r h)
theorem b_.set {h:bi} {i:Nat} {b:iu} (hb:∀r,eH h i=M r->mV b=M r):b_ h (h.set i (M b)):=λj r hj=>by
 rw[bS,PT.get_set];by_cases e:j=i
 .subst e;rw[aC rfl];exact hb r hj
 .rw[ax e,<-bS];exact hj
theorem MF {b:iu} {r:Bool×Nat×Nat} (h:mV b=M r):mV (vj b)=M r:=by cases b<;>first|exact h|cases h
theorem jg (m:Nat) (h:bi) (i:Nat):(eB m h).get i=if aM m i then (h.get i).map vj else h.get i:=by
 unfold eB;split
 .rename_i hm;have:=ar hm;subst this;simp
 .rw[PT.get_updI];simp only[Nat.one_mul,c8];cases h.get i with
  |none=>simp
  |some b=>simp only[cj];split<;>rfl
theorem b_.kill (m:Nat) (h:bi):b_ h (eB m h):=λi r hr=>by
 rw[bS]at hr ⊢;rw[jg];split
 .cases hb:h.get i with
  |none=>rw[hb]at hr;cases hr
  |some b=>rw[hb]at hr;exact MF hr
 .exact hr
theorem mo.set {h:bi} {nx nx' i:Nat} {b:iu} (hi:mo h nx) (hr:b_ h (h.set i (M b))) (hlt:i<nx') (hle:nx<=nx') (hb:∀ty l,b= .cells ty l->kX (h.set i (M b)) l=J):mo (h.set i (M b)) nx':=by
 refine ⟨λj ty l hj=>?_,λj c hj=>?_⟩
 .rw[PT.get_set]at hj;split at hj
  .simp only[ah]at hj;exact hb ty l hj
  .exact jd hr l (hi.cells j _ l hj)
 .rw[PT.get_set]at hj;split at hj
  .rename_i e;subst e;exact hlt
  .exact dD (hi.low j c hj) hle
theorem mo.kill {h:bi} {nx:Nat} (hi:mo h nx) (m:Nat):mo (eB m h) nx:=by
 refine ⟨λj ty l hj=>?_,λj c hj=>?_⟩
 .rw[jg]at hj;refine jd (b_.kill m h) l (hi.cells j ty l ?_);split at hj
  .cases hb:h.get j with
   |none=>rw[hb]at hj;cases hj
   |some b=>rw[hb]at hj;cases b<;>simp[vj]at hj
  .exact hj
 .rw[jg]at hj;split at hj
  .cases hb:h.get j with
   |none=>rw[hb]at hj;cases hj
   |some b=>exact hi.low j b hb
  .exact hi.low j c hj
theorem JF {h h':bi} (hr:b_ h h') {b:iu} (hb:∀ty l,b= .cells ty l->kX h l=J):jF h' b=jF h b:=by
 cases b with
 |cells ty l=>
  obtain⟨a,hl⟩:=fd h l (hb ty l rfl);cases ty<;>simp only[jF,hl,gm hr l a hl]
 |_=>rfl
theorem Yv {h h':bi} {nx i:Nat} (hi:mo h nx) (hr:b_ h h') (hg:h'.get i=h.get i):bu h' (nm i)=bu h (nm i):=by
 rw[bF,bF,hg];cases hb:h.get i with
 |none=>rfl
 |some b=>exact JF hr λty l e=>hi.cells i _ l (by rw[hb,e])
theorem wN (h:bi) {n:Nat} (hn:¬∃i,n=nm i):bu h n=D:=by
 unfold bu;rw[ax];intro h2;exact hn ⟨n/2,by unfold nm;omega⟩
theorem kB {h h':bi} {nx:Nat} (hi:mo h nx) (hr:b_ h h') {n:Nat} (hg:∀i,n=nm i->h'.get i=h.get i):bu h' n=bu h n:=by
 by_cases hn:∃i,n=nm i
 .obtain⟨i,rfl⟩:=hn;exact Yv hi hr (hg i rfl)
 .rw[wN h hn,wN h' hn]
def FP (m:Nat):ι:=(ac8 m).map nm
theorem n_ {m n:Nat}:n∈FP m↔∃i,n=nm i/\aM m i=J:=by
 unfold FP;rw[di];constructor
 .rintro⟨i,h1,rfl⟩;exact⟨i,rfl,MR.1 h1⟩
 .rintro⟨i,rfl,h1⟩;exact⟨i,MR.2 h1,rfl⟩
theorem l7 {m i:Nat}:nm i∈FP m↔aM m i=J:=by
 rw[n_];constructor
 .rintro⟨j,h1,h2⟩;rw[kY h1];exact h2
 .exact λh=>⟨i,rfl,h⟩
def dS (h:bi) (m:Nat):Prop:=∀i,aM m i=J->∃ty p T xs,h.get i=M (.rows ty p T xs)
theorem dS.zero (h:bi):dS h 0:=λi hi=>by simp at hi
theorem dS.or {h:bi} {a b:Nat} (c:dS h a) (hb:dS h b):dS h (a|||b):=λi hi=>by
 rw[bp,jb]at hi;exact hi.elim (c i) (hb i)
theorem nL {h:bi} {T:Ty} {v:TV} {x:T.den} {m:Nat} (a:iR h T v=M (x,m)):dS h m:=by
 cases v with
 |f S v=>
  simp only[iR]at a;split at a
  .simp only[ah,aD]at a;rw[<- a.2];exact dS.zero h
  .cases a
 |emp=>
  simp only[iR]at a;split at a
  .simp only[ah,aD]at a;rw[<- a.2];exact dS.zero h
  .cases a
 |nil=>
  simp only[iR]at a;split at a
  .simp only[ah,aD]at a;rw[<- a.2];exact dS.zero h
  .cases a
 |row id=>
  simp only[iR]at a;split at a
  .rename_i ty p S xs hb;split at a
   .simp only[ah,aD]at a;rw[<- a.2];intro i hi;have:=bW.1 hi;subst this;exact⟨ty,p,S,xs,hb⟩
   .cases a
  .cases a
 |fel T xs j hj off=>simp[iR]at a
 |pel id sz j off=>simp[iR]at a
 |ptr id off=>simp[iR]at a
 |csl id off z=>simp[iR]at a
 |mp id=>simp[iR]at a
 |rtl id c=>simp[iR]at a
 |agg q=>simp[iR]at a
 |tup q=>simp[iR]at a
 |clo f q=>simp[iR]at a
 |undef=>simp[iR]at a
 |np=>simp[iR]at a
 |anyb=>simp[iR]at a
theorem vb {h:bi}:∀(n:Nat) (T:Ty) (l:Y TV) (x:T.den) (m:Nat) (r:Y TV),e9 h n T l=M (x,m,r)->dS h m
 |0,_,_,_,_,_,hp=>by simp[e9]at hp
 |n+1,.st t,l,x,m,r,hp=>vb n t l x m r hp
 |n+1,.pr a b,l,x,m,r,hp=>by
  simp only[e9]at hp;split at hp
  .rename_i c m1 r1 h1;split at hp
   .rename_i q m2 r2 h2;simp only[ah,aD]at hp;obtain⟨_,rfl,_⟩:=hp;exact (vb n a l c m1 r1 h1).or (vb n b r1 q m2 r2 h2)
   .cases hp
  .cases hp
 |n+1,.un,l,x,m,r,hp=>by
  simp only[e9,ah,aD]at hp;obtain⟨_,rfl,_⟩:=hp;exact dS.zero h
 |n+1,.ex,l,x,m,r,hp=>by
  simp only[e9]at hp;split at hp
  .rename_i c m1 r1 h1;simp only[ah,aD]at hp;obtain⟨_,rfl,_⟩:=hp;exact vb n M6 l c m1 r1 h1
  .cases hp
 |n+1,.sm,l,x,m,r,hp=>by
  simp only[e9]at hp;split at hp
  .rename_i c m1 r1 h1;simp only[ah,aD]at hp;obtain⟨_,rfl,_⟩:=hp;exact vb n MC l c m1 r1 h1
  .cases hp
 |n+1,.int k,l,x,m,r,hp=>by
  simp only[e9]at hp;split at hp
  .split at hp
   .rename_i c m1 h1;simp only[ah,aD]at hp;obtain⟨_,rfl,_⟩:=hp;exact nL h1
   .cases hp
  .cases hp
 |n+1,.bool,l,x,m,r,hp=>by
  simp only[e9]at hp;split at hp
  .split at hp
   .rename_i c m1 h1;simp only[ah,aD]at hp;obtain⟨_,rfl,_⟩:=hp;exact nL h1
   .cases hp
  .cases hp
 |n+1,.str,l,x,m,r,hp=>by
  simp only[e9]at hp;split at hp
  .split at hp
   .rename_i c m1 h1;simp only[ah,aD]at hp;obtain⟨_,rfl,_⟩:=hp;exact nL h1
   .cases hp
  .cases hp
 |n+1,.sl t,l,x,m,r,hp=>by
  simp only[e9]at hp;split at hp
  .split at hp
   .rename_i c m1 h1;simp only[ah,aD]at hp;obtain⟨_,rfl,_⟩:=hp;exact nL h1
   .cases hp
  .cases hp
theorem XC {h:bi} {T:Ty} {v:TV} {x:T.den} {m:Nat} (a:D5 h T v=M (x,m)):dS h m:=by
 cases v with
 |agg l=>
  simp only[D5]at a;split at a
  .cases a
  .split at a
   .rename_i c m1 h1;simp only[ah,aD]at a;obtain⟨_,rfl⟩:=a;exact vb 40 T l c m1 [] h1
   .cases a
 |f S v=>exact nL (v:=.f S v) a
 |fel T xs j hj off=>exact nL (v:=.fel T xs j hj off) a
 |pel id sz j off=>exact nL (v:=.pel id sz j off) a
 |ptr id off=>exact nL (v:=.ptr id off) a
 |csl id off z=>exact nL (v:=.csl id off z) a
 |row id=>exact nL (v:=.row id) a
 |emp=>exact nL (v:=.emp) a
 |nil=>exact nL (v:=.nil) a
 |mp id=>exact nL (v:=.mp id) a
 |rtl id s=>exact nL (v:=.rtl id s) a
 |tup q=>exact nL (v:=.tup q) a
 |clo g q=>exact nL (v:=.clo g q) a
 |undef=>exact nL (v:=.undef) a
 |np=>exact nL (v:=.np) a
 |anyb=>exact nL (v:=.anyb) a
theorem N8 {h:bi} {T:Ty}:∀(n:Nat) (l:Y TV) (xs:Y T.den) (m:Nat),yY h T n l=M (xs,m)->dS h m
 |0,[],xs,m,hp=>by simp only[yY,ah,aD]at hp;rw[<- hp.2];exact dS.zero h
 |0,_::_,xs,m,hp=>by simp[yY]at hp
 |n+1,l,xs,m,hp=>by
  simp only[yY]at hp;split at hp
  .rename_i c m1 r1 h1;split at hp
   .rename_i a m2 h2;simp only[ah,aD]at hp;obtain⟨_,rfl⟩:=hp;exact (vb 40 T l c m1 r1 h1).or (N8 n r1 a m2 h2)
   .cases hp
  .cases hp
theorem Aj {h:bi} {u:TV}:∀(n:Nat) (T:Ty) (v:T.den) (off sz:Nat) (z:T.den) (m:Nat),gW h u n T v off sz=M (z,m)->dS h m
 |0,_,_,_,_,_,_,hg=>by simp[gW]at hg
 |n+1,.st t,v,off,sz,z,m,hg=>by
  simp only[gW]at hg;split at hg
  .rename_i q hq;split at hq
   .simp only[ah]at hg;subst hg;exact XC hq
   .cases hq
  .exact Aj n t v off sz z m hg
 |n+1,.pr a b,v,off,sz,z,m,hg=>by
  simp only[gW]at hg;split at hg
  .split at hg
   .rename_i c m1 h1;simp only[ah,aD]at hg;obtain⟨_,rfl⟩:=hg;exact Aj n a v.1 off sz c m1 h1
   .cases hg
  .split at hg
   .rename_i c m1 h1;simp only[ah,aD]at hg;obtain⟨_,rfl⟩:=hg;exact Aj n b v.2 _ sz c m1 h1
   .cases hg
 |n+1,.un,v,off,sz,z,m,hg=>by simp[gW]at hg
 |n+1,.ex,v,off,sz,z,m,hg=>by
  simp only[gW]at hg;split at hg
  .rename_i q hq;split at hq
   .simp only[ah]at hg;subst hg;exact XC hq
   .cases hq
  .split at hg
   .rename_i c m1 h1;simp only[ah,aD]at hg;obtain⟨_,rfl⟩:=hg;exact Aj n M6 _ off sz c m1 h1
   .cases hg
 |n+1,.sm,v,off,sz,z,m,hg=>by
  simp only[gW]at hg;split at hg
  .rename_i q hq;split at hq
   .simp only[ah]at hg;subst hg;exact XC hq
   .cases hq
  .split at hg
   .rename_i c m1 h1;simp only[ah,aD]at hg;obtain⟨_,rfl⟩:=hg;exact Aj n MC _ off sz c m1 h1
   .cases hg
 |n+1,.int k,v,off,sz,z,m,hg=>by
  simp only[gW]at hg;split at hg
  .exact nL hg
  .cases hg
 |n+1,.bool,v,off,sz,z,m,hg=>by
  simp only[gW]at hg;split at hg
  .exact nL hg
  .cases hg
 |n+1,.str,v,off,sz,z,m,hg=>by
  simp only[gW]at hg;split at hg
  .exact nL hg
  .cases hg
 |n+1,.sl t,v,off,sz,z,m,hg=>by
  simp only[gW]at hg;split at hg
  .exact nL hg
  .cases hg
theorem t7 {h:bi} {m i:Nat} (hm:dS h m) (hb:aM m i=J):∃p sz n,(eB m h).get i=M (.dead p sz n):=by
 obtain⟨ty,p,T,xs,h1⟩:=hm i hb;exact⟨p,T.size,xs.length,by rw[jg,aC hb,h1];rfl⟩
section ops
variable {R:Type} {P:Program} {o:Oper} {e:iX} {h:bi} {nx:Nat} {K:KO R} {r:R}
theorem iw (n:Nat) (b:vT):jr [(n,b)] n=M b:=by simp[jr]
theorem iW.mk' {s:Zg} (hc:dw P o.op=M s) {H:oq} (hH:H.get=bu h) {k:Nat} {y0:AV} {rdl wrl N:ι} {nw:NW} (ha:eL s (JE e h) H k=M ⟨y0,rdl,wrl,nw,N⟩) {v:TV} {h':bi} {nx' rd wr:Nat} (wr':ι)
 (hsub:∀i∈wrl,i∈wr') (hsame:∀n,n∉wr'->bu h' n=bu h n)
 (hdom:∀i∈wr',∀b',bu h' i=M b'->∃b,(if i∈wrl then jr nw i else bu h i)=M b)
 (hblk:∀(A U:HF),uV A U->(∀i∈wrl,A i=jr nw i)->(∀i∈wr',i∉wrl->A i=bu h i)->(∀i∈wr',U i=bu h' i)->(∀i∈wr',∀b b',A i=M b->U i=M b'->iN A U b b')/\∀y,ct h' v=M y->lO A U y0 y)
 (hrd:∀n∈rdl,aM rd (ow n)=J) (hwr:∀n∈wr',aM wr (ow n)=J) (Z:∀n∈N,nx<=ow n/\ow n<nx') (hrows:b_ h h') (hinv':mo h' nx') (hg:nx<=nx'):iW P o af e h nx v rd wr h' nx':=by
 have ht:=IB hc ha;rw[vp,hH]at ht;refine ⟨?_,hrows,hinv',hg,λhs=>by cases hs⟩;have base:∀(val:AV),(∀y,ct h' v=M y->y=val)->(ct h' v=D->val=y0)->gP P o (fM e h) (bu h) ⟨val,rdl,wr',bu h',N⟩:=by
  intro val hval hnone;refine gP.view ht (λi hi=>.inl (hsub i hi)) λh1 hr1 L=>?_
  have hd:uV (eV h1 wrl (jr nw)) (eV h1 wr' (bu h')):=by
   intro i b hb;unfold eV at hb ⊢;by_cases hi:i∈wr'
   .rw[aC hi]at hb;obtain⟨b0,c⟩:=hdom i hi b hb;refine ⟨b0,?_⟩;by_cases z:i∈wrl
    .rw[aC z]at c ⊢;exact c
    .rw[ax z]at c ⊢;rw[L i hi];exact c
   .rw[ax hi]at hb;rw[ax (λz=>hi (hsub i z))];exact⟨b,hb⟩
  obtain⟨q1,q2⟩:=hblk _ _ hd (λi hi=>by unfold eV;rw[aC hi]) (λi hi z=>by unfold eV;rw[ax z];exact L i hi) (λi hi=>by unfold eV;rw[aC hi]);refine ⟨⟨hd,λi b b' hb q=>?_⟩,?_⟩
  .by_cases hi:i∈wr'
   .exact q1 i hi b b' hb q
   .unfold eV at hb q;rw[ax (λz=>hi (hsub i z))]at hb;rw[ax hi,hb]at q;cases q;exact iN.refl hd b
  .cases hv:ct h' v with
   |none=>rw[hnone hv];exact lO.refl hd _
   |some y=>rw[<- hval y hv];exact q2 y hv
 have hu:eV (bu h) wr' (bu h')=bu h':=by
  funext n;unfold eV;split
  .rfl
  .rename_i hn;exact (hsame n hn).symm
 cases hv:ct h' v with
 |none=>exact⟨_,base y0 (λy a=>by rw[hv]at a;cases a) (λ_=>rfl),λy a=>(by cases a),hu,hrd,hwr,Z⟩
 |some y=>exact⟨_,base y (λy' a=>by rw[hv]at a;cases a;rfl) (λhn=>by rw[hv]at hn;cases hn),λy' a=>by cases a;rfl,hu,hrd,hwr,Z⟩
theorem Dj (hi:tR e h):∀(parts:Y (Nat×Nat×Operand)) (cells cs:Y TV) (cells':Y AV),JA cells e parts=M cs->cJ h cells=M cells'->∃cs',zE cells' (JE e h) parts=M cs'/\cJ h cs=M cs'/\(kK cells=J->kK cs=J)
 |[],cells,cs,cells',hf,he=>by simp only[JA,ah]at hf;subst hf;exact⟨cells',rfl,he,id⟩
 |(off,sz,x)::rest,cells,cs,cells',hf,he=>by
  simp only[JA]at hf;split at hf
  .rename_i v hv;split at hf
   .rename_i q hq;split at hf
    .rename_i hc;simp only[al,cV]at hc;obtain⟨y,h1,h2⟩:=bJ hi hv;obtain⟨A,h4⟩:=Km hq h2;obtain⟨cs',Z,U,L⟩:=Dj hi rest (splice cells off q) cs (splice cells' off y.cs) hf (pV off he A);refine ⟨cs',?_,U,λc=>L ?_⟩
     .simp only[zE,h1];rw[aC,Z];simp only[al,cV];exact⟨⟨by rw[gK A];exact hc.1,by rw[gK he];exact hc.2⟩,sq A h4⟩
     .clear Z U L hf;have app:∀a b:Y TV,kK a=J->kK b=J->kK (a++b)=J:=by
       intro a b c hb;induction a with
       |nil=>exact hb
       |cons z r s=>simp only[kK,al,fI]at c ⊢;exact⟨c.1,s c.2⟩
      have tk:∀(a:Y TV) n,kK a=J->kK (a.take n)=J:=by
       intro a;induction a with
       |nil=>intro n h;simp[kK]
       |cons z r s=>
        intro n h;cases n with
        |zero=>rfl
        |succ n=>simp only[kK,al,vU]at h ⊢;exact⟨h.1,s n h.2⟩
      have dr:∀(a:Y TV) n,kK a=J->kK (a.drop n)=J:=by
       intro a;induction a with
       |nil=>intro n h;simp[kK]
       |cons z r s=>
        intro n h;cases n with
        |zero=>exact h
        |succ n=>simp only[kK,al,vX]at h ⊢;exact s n h.2
      unfold splice;exact app _ _ (app _ _ (tk _ _ c) h4) (dr _ _ c)
    .cases hf
   .cases hf
  .cases hf
variable (hinv:mo h nx) (hi:tR e h)
include hinv hi
theorem agy {con:FuncId->I cA} {b9:TypeId->I Ty} {z:ξ} {parts:Y (Nat×Nat×Operand)} {st:Bool} (hc:dw P o.op=M (.build z parts)) (hk:dX con b9 (.op (.build z parts)) e h nx K=M r):kW P o st e h nx K r:=by
 simp only[dX]at hk;split at hk
 .rename_i l hl;split at hk
  .rename_i cs hf;obtain⟨h1,_,_⟩:=vx h hl;obtain⟨cs',h2,c,_⟩:=Dj hi parts l cs _ hf h1;refine kW.q (k:=0) (y0:=MN cs') hinv hc (λH _=>by simp only[eL,h2]) (λy a=>?_) hk;simp only[ct,c,ah]at a;subst a;exact aai cs'
  .cases hk
 .cases hk
theorem ald {con:FuncId->I cA} {b9:TypeId->I Ty} {sz:Nat} {ag:Bool} {x:Operand} (hc:dw P o.op=M (.load sz ag x)) (hk:dX con b9 (.op (.load sz ag x)) e h nx K=M r):kW P o af e h nx K r:=by
 obtain⟨H,c⟩:=jV h;simp only[dX]at hk;split at hk
 .rename_i id off hv;obtain⟨y,h1,h2⟩:=bJ hi hv;simp only[ct,ah]at h2;subst h2;split at hk
  .rename_i ty l hb;split at hk
   .rename_i v hs;obtain⟨L,hl⟩:=fd h l (hinv.cells id _ l hb);obtain⟨y,A,s⟩:=Wq hl hs;have hg:H.get (nm id)=M ⟨ty,.mx L⟩:=by rw[c,bF,hb];simp only[aF,jF,hl]
    exact⟨v,kE id,0,h,nx,hk,iW.pure (k:=0) hinv hc c (y0:=y) (rdl:=[nm id]) (by simp only[eL,h1,D6,hg,s]) (dz A) (λn hn=>by simp only[aI]at hn;subst hn;rw[dU];exact bW.2 rfl) (λh=>by cases h)⟩
   .cases hk
  .cases hk
 .rename_i id sz' j off hv;obtain⟨y,h1,h2⟩:=bJ hi hv;simp only[ct,ah]at h2;subst h2;split at hk
  .rename_i ty p T xs hb;split at hk
   .rename_i hsz;have hsz:=ar hsz;obtain⟨hj,hk⟩:=ec hk;split at hk
    .rename_i v hs;obtain⟨y,A,s⟩:=ahc (h:=h) hj hs;have hne:¬((p&&xs.length==0)=J):=by
      have:=EO hj;simp only[al,cV];omega
     have hg:H.get (nm id)=M ⟨ty,.fz (xs.flatMap (bT T))⟩:=by rw[c,bF,hb];simp only[aF,jF,ax hne]
     exact⟨v,kE id,0,h,nx,hk,iW.pure (k:=0) hinv hc c (y0:=.f y) (rdl:=[nm id]) (by simp only[eL,h1,D6,hg,hsz,s]) (dz A) (λn hn=>by simp only[aI]at hn;subst hn;rw[dU];exact bW.2 rfl) (λh=>by cases h)⟩
    .cases hk
   .cases hk
  .rename_i ty l hb;split at hk
   .cases hk
   .split at hk
    .rename_i hsz;simp only[al]at hsz;have e1:=ar hsz.1.1;have e2:=ar hsz.1.2;have e3:=ar hsz.2;subst e1;subst e2;subst e3;split at hk
     .rename_i T xs hA;obtain⟨hj,hk⟩:=ec hk;obtain⟨L,hl⟩:=fd h l (hinv.cells id _ l hb);have hg:H.get (nm id)=M ⟨ty,.mx L⟩:=by rw[c,bF,hb];simp only[aF,jF,hl]
      have hlt:j.toNat<l.length:=by
       simp only[fy,al,cZ,fJ,bB]at hj;omega
      obtain⟨z,U,a⟩:=lm hl j.toNat _ (XD hA j.toNat hlt);have a:ct h (.f T (aJ xs j))=M z:=a;exact⟨_,kE id,0,h,nx,hk,iW.pure (k:=0) hinv hc c (y0:=z) (rdl:=[nm id]) (by simp only[eL,h1,D6,hg,BC.sub?,BC.get,Nat.mul_one,c8,U]) (dz a) (λn hn=>by simp only[aI]at hn;subst hn;rw[dU];exact bW.2 rfl) (λh=>by cases h)⟩
     .cases hk
    .cases hk
  .cases hk
 .rename_i T xs j hj off hv;obtain⟨y,h1,h2⟩:=bJ hi hv;simp only[ct,ah]at h2;subst h2;split at hk
  .rename_i v hs;obtain⟨y,A,s⟩:=ahc (h:=h) hj hs;exact kW.q (k:=0) (y0:=.f y) hinv hc (λH _=>by simp only[eL,h1,D6,s]) (dz A) hk
  .cases hk
 .cases hk
theorem agz {con:FuncId->I cA} {b9:TypeId->I Ty} {ty:TypeId} {z:ξ} (hc:dw P o.op=M (.alloc ty z)) (hk:dX con b9 (.op (.alloc ty z)) e h nx K=M r):kW P o af e h nx K r:=by
 have _:=hi;obtain⟨H,hH⟩:=jV h;simp only[dX]at hk;split at hk
 .rename_i l hl;obtain⟨_,Z,_⟩:=vx h hl;have hnone:h.get nx=D:=by
   cases hb:h.get nx with
   |none=>rfl
   |some b=>have:=hinv.low nx b hb;omega
  have hr:b_ h (h.set nx (M (.cells (M ty) l))):=b_.set λr hr=>by rw[bS,hnone]at hr;cases hr
  obtain⟨h1,_,_⟩:=vx (h.set nx (M (.cells (M ty) l))) hl;have A:bu (h.set nx (M (.cells (M ty) l))) (nm nx)=M ⟨ty,.mx (z.map raw)⟩:=by rw[bF,PT.get_set,aC rfl];simp only[aF,jF,h1]
  refine ⟨_,_,_,_,_,hk,iW.mk' hc hH (k:=nm nx) (by simp only[eL];rfl) [nm nx] (λi hi=>hi) (λn hn=>?_) (λi hi b' _=>⟨⟨ty,.fz (z.map .raw)⟩,?_⟩) (λH1 H2 d s _ c=>⟨λi hi b b' hb a=>?_,λy L=>?_⟩) (by simp) ?_ ?_ hr (hinv.set hr (by omega) (by omega) λty' l' he=>?_) (by omega)⟩
  .refine kB hinv hr λi e=>?_
   subst e;rw[PT.get_set,ax (λe=>hn (by rw[e];simp))]
  .rw[aC hi];simp only[aI]at hi;subst hi;simp[jr]
  .simp only[aI]at hi;subst hi;rw[s _ (by simp)]at hb;rw[c _ (by simp),A]at a;rw[iw]at hb;simp only[ah]at hb a;subst hb;subst a;refine iN.cells rfl rfl ?_ λx U=>?_
   .simp only[BC.toMx,HG];exact ic.refl d _
   .simp only[BC.toMx]at U;obtain⟨q,hq,rfl⟩:=di.1 U;exact Z q hq
  .simp only[ct,ah]at L;subst L;exact lO.refl d _
  .intro n hn;simp only[aI]at hn;subst hn;rw[dU];exact bW.2 rfl
  .intro n hn;simp only[aI]at hn;subst hn;rw[dU];omega
  .cases he;exact j8 _ _ _ h1
 .cases hk
theorem aoz {con:FuncId->I cA} {b9:TypeId->I Ty} {ty:TypeId} {x:Operand} (hc:dw P o.op=M (.box ty x)) (hk:dX con b9 (.op (.box ty x)) e h nx K=M r):kW P o af e h nx K r:=by
 obtain⟨H,hH⟩:=jV h;simp only[dX]at hk;split at hk
 .rename_i v hv;split at hk
  .rename_i l hl;obtain⟨y,h1,h2⟩:=bJ hi hv;obtain⟨L,h4⟩:=Km hl h2;have hcell:=sq L h4;have hnone:h.get nx=D:=by
    cases hb:h.get nx with
    |none=>rfl
    |some b=>have:=hinv.low nx b hb;omega
   have hr:b_ h (h.set nx (M (.cells (M ty) l))):=b_.set λr hr=>by rw[bS,hnone]at hr;cases hr
   have A:=gm hr l _ L;have s:bu (h.set nx (M (.cells (M ty) l))) (nm nx)=M ⟨ty,.mx y.cs⟩:=by rw[bF,PT.get_set,aC rfl];simp only[aF,jF,A]
   refine ⟨_,_,_,_,_,hk,iW.mk' hc hH (k:=nm nx) (by simp only[eL,h1,hcell,bG];rfl) [nm nx] (λi hi=>hi) (λn hn=>?_) (λi hi b' _=>⟨⟨ty,pA y.cs⟩,?_⟩) (λH1 H2 d q _ c=>⟨λi hi b b' hb a=>?_,λy z=>?_⟩) (by simp) ?_ ?_ hr (hinv.set hr (by omega) (by omega) λty' l' he=>?_) (by omega)⟩
   .refine kB hinv hr λi e=>?_
    subst e;rw[PT.get_set,ax (λe=>hn (by rw[e];simp))]
   .rw[aC hi];simp only[aI]at hi;subst hi;simp[jr]
   .simp only[aI]at hi;subst hi;rw[q _ (by simp)]at hb;rw[c _ (by simp),s]at a;rw[iw]at hb;simp only[ah]at hb a;subst hb;subst a;obtain⟨Z,U⟩:=nZ y.cs;refine iN.cells U rfl ?_ λx hx=>?_
    .rw[Z];exact ic.refl d _
    .exact md hcell x hx
   .simp only[ct,ah]at z;subst z;exact lO.refl d _
   .intro n hn;simp only[aI]at hn;subst hn;rw[dU];exact bW.2 rfl
   .intro n hn;simp only[aI]at hn;subst hn;rw[dU];omega
   .cases he;exact j8 _ _ _ A
  .cases hk
 .cases hk
theorem agw {con:FuncId->I cA} {b9:TypeId->I Ty} {ty:TypeId} {sz bytes:Nat} {z:ξ} {l c:Operand} (hcm:DV (b9 ty)=D) (hc:dw P o.op=M (.mksl ty sz bytes z l c)) (hk:dX con b9 (.op (.mksl ty sz bytes z l c)) e h nx K=M r):kW P o af e h nx K r:=by
 obtain⟨H,hH⟩:=jV h;simp only[dX,hcm]at hk;split at hk
 .rename_i T k a k' b hT hv U;split at hk
  .rename_i hsz;simp only[al]at hsz;have hs:=ar hsz.1;have hz:=KI hsz.2;subst hs;subst hz;obtain⟨hck,hk⟩:=ec hk;obtain⟨y,h1,h2⟩:=bJ hi hv;obtain⟨y2,h3,h4⟩:=bJ hi U;simp only[ct,ah]at h2 h4;subst h2;subst h4;have hnone:h.get nx=D:=by
    cases hb:h.get nx with
    |none=>rfl
    |some b=>have:=hinv.low nx b hb;omega
   generalize hB:iu.rows ty af T (aB (aQ a) T.zero)=B at hk;have hr:b_ h (h.set nx (M B)):=b_.set λr hr=>by rw[bS,hnone]at hr;cases hr
   have Z:bu (h.set nx (M B)) (nm nx)=M ⟨ty,.fz ((aB (aQ a) T.zero).flatMap (bT T))⟩:=by rw[bF,PT.get_set,aC rfl,<-hB];simp[jF]
   refine ⟨_,_,_,_,_,hk,iW.mk' hc hH (k:=nm nx) (by simp only[eL,h1,h3,gC,hck,bG];rfl) [nm nx] (λi hi=>hi) (λn hn=>?_) (λi hi b' _=>⟨⟨ty,.fz (repl (s9 T) (aQ a))⟩,?_⟩) (λH1 H2 d L _ A=>⟨λi hi b b' hb s=>?_,λy hy=>?_⟩) (by simp) ?_ ?_ hr (hinv.set hr (by omega) (by omega) λty' l' he=>?_) (by omega)⟩
   .refine kB hinv hr λi e=>?_
    subst e;rw[PT.get_set,ax (λe=>hn (by rw[e];simp))]
   .rw[aC hi];simp only[aI]at hi;subst hi;simp[jr]
   .simp only[aI]at hi;subst hi;rw[L _ (by simp)]at hb;rw[A _ (by simp),Z]at s;rw[iw]at hb;simp only[ah]at hb s;subst hb;subst s;refine iN.cells rfl rfl (HM d T _) λx hx=>?_
    simp only[BC.toMx]at hx;obtain⟨q,hq,rfl⟩:=di.1 hx;exact rP T _ q hq
   .simp only[ct,bS,PT.get_set,bG,<-hB,aF,mV,fE,lB,ci,dP,ah,b8]at hy;subst hy;exact lO.refl d _
   .intro n hn;simp only[aI]at hn;subst hn;rw[dU];exact bW.2 rfl
   .intro n hn;simp only[aI]at hn;subst hn;rw[dU];omega
   .rw[<- hB]at he;cases he
  .cases hk
 .cases hk
end ops
theorem As {α:Type} {f:α->Y FV} {n:Nat} (hf:∀x,(f x).length=n):∀(xs:Y α) (j:Nat),(xs.take j).flatMap f=(xs.flatMap f).take (j*n)
 |[],j=>by simp
 |x::r,0=>by simp
 |x::r,j+1=>by
  rw[vU,fQ,fQ,As hf r j,show (j+1)*n=(f x).length+j*n from by rw[hf,iZ];omega,List.take_length_add_append]
theorem Jz {α:Type} {f:α->Y FV} {n:Nat} (hf:∀x,(f x).length=n):∀(xs:Y α) (j:Nat),(xs.drop j).flatMap f=(xs.flatMap f).drop (j*n)
 |[],j=>by simp
 |x::r,0=>by simp
 |x::r,j+1=>by
  rw[vX,fQ,Jz hf r j,show (j+1)*n=(f x).length+j*n from by rw[hf,iZ];omega,List.drop_length_add_append]
theorem Qp {z:ξ}:∀(n:Nat) (x:FV),x∈repl z n->∃v∈z,x= .raw v
 |0,x,h=>by simp[repl]at h
 |n+1,x,h=>by
  rw[repl,bO]at h;rcases h with h|h
  .obtain⟨v,hv,rfl⟩:=di.1 h;exact⟨v,hv,rfl⟩
  .exact Qp n x h
theorem GY:∀l:Y FV,(∀x∈l,x.isCell=J)->gM (l.map .f)=J
 |[],_=>rfl
 |z::r,h=>by simp only[eS,gM,al];exact⟨h z (by simp),GY r λx a=>h x (by simp[a])⟩
section ops
variable {R:Type} {P:Program} {o:Oper} {e:iX} {h:bi} {nx:Nat} {K:KO R} {r:R}
theorem mo.fresh (hinv:mo h nx):h.get nx=D:=by
 cases hb:h.get nx with
 |none=>rfl
 |some b=>have:=hinv.low nx b hb;omega
theorem dS.lt (hinv:mo h nx) {m:Nat} (hm:dS h m) {i:Nat} (hi:aM m i=J):i<nx:=by
 obtain⟨_,_,_,_,hb⟩:=hm i hi;exact hinv.low i _ hb
theorem iW.new {s:Zg} (hinv:mo h nx) (hc:dw P o.op=M s) {H:oq} (hH:H.get=bu h) {y0:AV} {rdl:ι} {b0:vT} (ha:eL s (JE e h) H (nm nx)=M ⟨y0,rdl,[nm nx],[(nm nx,b0)],[nm nx]⟩) {B:iu} {v:TV} {m rd:Nat} (hm:dS h m)
 (hB:∀ty l,B= .cells ty l->kX ((eB m h).set nx (M B)) l=J)
 (hblk:∀c a,uV c a->Eh h c a m->∀b',jF ((eB m h).set nx (M B)) B=M b'->iN c a b0 b')
 (hval:∀c a y,uV c a->Eh h c a m->ct ((eB m h).set nx (M B)) v=M y->lO c a y0 y)
 (hrd:∀n∈rdl,aM rd (ow n)=J):iW P o af e h nx v rd (m|||kE nx) ((eB m h).set nx (M B)) (nx+1):=by
 have hk:=hinv.kill m;have hr0:=b_.kill m h;have A:b_ (eB m h) ((eB m h).set nx (M B)):=b_.set λr hr=>by rw[bS,hk.fresh]at hr;cases hr
 have hr:=hr0.trans A;have hgiv:∀i,aM m i=J->bu ((eB m h).set nx (M B)) (nm i)=D:=λi hi=>by
  have hlt:=hm.lt hinv hi;obtain⟨p,sz,n,hd⟩:=t7 hm hi;rw[bF,PT.get_set,ax (by omega),hd];rfl
 refine iW.mk' hc hH ha (nm nx::FP m) (λi hi=>by simp only[aI]at hi;subst hi;simp) (λn hn=>?_) (λi hi b' L=>?_) (λc a d U Z z=>?_) hrd ?_ ?_ hr (hk.set A (by omega) (by omega) hB) (by omega)
 .refine kB hinv hr λi e=>?_
  subst e;rw[PT.get_set,ax (λe=>hn (by rw[e];simp)),jg,ax];intro hb;exact hn (bV _ (l7.2 hb))
 .rcases bk.1 hi with rfl|hi
  .exact⟨b0,by rw[aC (by simp),iw]⟩
  .obtain⟨j,rfl,hj⟩:=n_.1 hi;rw[hgiv j hj]at L;cases L
 .have g:Eh h c a m:=λi hi=>by
   have hlt:=hm.lt hinv hi;have hmem:nm i∈nm nx::FP m:=bV _ (l7.2 hi);exact⟨Z _ hmem (λhc=>by simp only[aI]at hc;have:=kY hc;omega),by rw[z _ hmem,hgiv i hi]⟩
  refine ⟨λi hi b b' hb q=>?_,λy hy=>hval c a y d g hy⟩;rcases bk.1 hi with rfl|hi'
  .rw[U _ (by simp),iw]at hb;rw[z _ hi,bF,PT.get_set,aC rfl]at q;simp only[ah]at hb;subst hb;exact hblk c a d g b' q
  .obtain⟨j,rfl,hj⟩:=n_.1 hi';rw[z _ hi,hgiv j hj]at q;cases q
 .intro n hn;rw[bp];rcases bk.1 hn with rfl|hn
  .rw[dU,bW.2 rfl];simp
  .obtain⟨j,rfl,hj⟩:=n_.1 hn;rw[dU,hj];rfl
 .intro n hn;simp only[aI]at hn;subst hn;rw[dU];omega
theorem iW.wrt {s:Zg} (hinv:mo h nx) (hc:dw P o.op=M s) {H:oq} (hH:H.get=bu h) {id:Nat} {y0:AV} {rdl:ι} {b0:vT} {k:Nat} (ha:eL s (JE e h) H k=M ⟨y0,rdl,[nm id],[(nm id,b0)],[]⟩) {Z B:iu} (L:h.get id=M Z) {v:TV} {m rd:Nat} (hm:dS h m) (hmid:aM m id=af)
 (hrow:mV B=mV Z) (hB:∀ty l,B= .cells ty l->kX ((eB m h).set id (M B)) l=J)
 (hblk:∀c a,uV c a->Eh h c a m->∀b',jF ((eB m h).set id (M B)) B=M b'->iN c a b0 b')
 (hval:∀c a y,uV c a->Eh h c a m->ct ((eB m h).set id (M B)) v=M y->lO c a y0 y)
 (hrd:∀n∈rdl,aM rd (ow n)=J):iW P o af e h nx v rd (m|||kE id) ((eB m h).set id (M B)) nx:=by
 have hk:=hinv.kill m;have hr0:=b_.kill m h;have hkid:(eB m h).get id=M Z:=by rw[jg,hmid];simpa using L
 have A:b_ (eB m h) ((eB m h).set id (M B)):=b_.set λr hr=>by rw[bS,hkid]at hr;rw[hrow];exact hr
 have hr:=hr0.trans A;have hgiv:∀i,aM m i=J->bu ((eB m h).set id (M B)) (nm i)=D:=λi hi=>by
  have hne:i≠id:=λe=>by rw[e,hmid]at hi;cases hi
  obtain⟨p,sz,n,hd⟩:=t7 hm hi;rw[bF,PT.get_set,ax hne,hd];rfl
 refine iW.mk' hc hH ha (nm id::FP m) (λi hi=>by simp only[aI]at hi;subst hi;simp) (λn hn=>?_) (λi hi b' U=>?_) (λc a d hw1 hw0 z=>?_) hrd ?_ (by simp) hr (hk.set A (hinv.low id Z L) (by omega) hB) (by omega)
 .refine kB hinv hr λi e=>?_
  subst e;rw[PT.get_set,ax (λe=>hn (by rw[e];simp)),jg,ax];intro hb;exact hn (bV _ (l7.2 hb))
 .rcases bk.1 hi with rfl|hi
  .exact⟨b0,by rw[aC (by simp),iw]⟩
  .obtain⟨j,rfl,hj⟩:=n_.1 hi;rw[hgiv j hj]at U;cases U
 .have g:Eh h c a m:=λi hi=>by
   have hne:i≠id:=λe=>by rw[e,hmid]at hi;cases hi
   have hmem:nm i∈nm id::FP m:=bV _ (l7.2 hi);exact⟨hw0 _ hmem (λhc=>by simp only[aI]at hc;exact hne (kY hc)),by rw[z _ hmem,hgiv i hi]⟩
  refine ⟨λi hi b b' hb q=>?_,λy hy=>hval c a y d g hy⟩;rcases bk.1 hi with rfl|hi'
  .rw[hw1 _ (by simp),iw]at hb;rw[z _ hi,bF,PT.get_set,aC rfl]at q;simp only[ah]at hb;subst hb;exact hblk c a d g b' q
  .obtain⟨j,rfl,hj⟩:=n_.1 hi';rw[z _ hi,hgiv j hj]at q;cases q
 .intro n hn;rw[bp];rcases bk.1 hn with rfl|hn
  .rw[dU,bW.2 rfl];simp
  .obtain⟨j,rfl,hj⟩:=n_.1 hn;rw[dU,hj];rfl
theorem MG (h:bi) {z:ξ} {a:Y TV} (c:Kj z=M a):∀len,cJ h (aB len a).flatten=M ((repl z len).map .f)
 |0=>rfl
 |n+1=>by
  rw[vV,List.flatten_cons,repl,cS];refine nJ ?_ (MG h c n);rw[(vx h c).1];simp only[HG];rfl
theorem Wy {H:oq} (U:H.get=bu h) {T:Ty} {v:TV} {A:Y T.den} {m:Nat} {y:AV} (a:D5 h (.sl T) v=M (A,m)) (c:ct h v=M y):∃rd,y.row? H T.size=M ((A.flatMap (bT T)).map .f,A.length,rd)/\∀n∈rd,∃i,n=nm i/\aM m i=J:=by
 have fl:=λs:Y T.den=>fH (bC T) s
 have tk:∀s:Y T.den,(s.flatMap (bT T)).take (s.length*T.size)=s.flatMap (bT T):=λs=>by rw[<- fl,cK]
 cases v with
 |f S x=>
  simp only[D5,iR]at a;split at a
  .rename_i z L;simp only[ah,aD]at a;obtain⟨rfl,_⟩:=a;obtain⟨e,rfl⟩:=ir L;subst e;simp only[ct,ah]at c;subst c;refine ⟨[],?_,by simp⟩;simp only[gC,AV.row?];rw[aC (bD (by rw[fl x];exact bP _)),tk]
  .cases a
 |emp=>
  simp only[D5,iR,ah,aD]at a;obtain⟨rfl,_⟩:=a;simp only[ct,ah]at c;subst c;exact⟨[],rfl,by simp⟩
 |nil=>
  simp only[D5,iR,ah,aD]at a;obtain⟨rfl,_⟩:=a;simp only[ct,ah]at c;subst c;exact⟨[],rfl,by simp⟩
 |row id=>
  simp only[D5,iR]at a;split at a
  .rename_i ty p S xs hb;split at a
   .rename_i z L;simp only[ah,aD]at a;obtain⟨rfl,rfl⟩:=a;obtain⟨e,rfl⟩:=ir L;cases e;simp only[ct,eH,hb,ah]at c;subst c;unfold fE;split
    .rename_i hp;simp only[al,cV]at hp;have:xs=[]:=gQ.1 hp.2;subst this;exact⟨[],rfl,by simp⟩
    .rename_i hp;have hg:H.get (nm id)=M ⟨ty,.fz (xs.flatMap (bT T))⟩:=by rw[U,bF,hb];simp only[aF,jF,ax hp]
     refine ⟨[nm id],?_,λn hn=>?_⟩
     .simp only[AV.row?,hg,cU,bG,BC.isCells,BC.len,ib];rw[aC (bD (by rw[fl xs];exact bP _))];simp only[BC.toMx,<-kS,tk]
     .simp only[aI]at hn;exact⟨id,hn,bW.2 rfl⟩
   .cases a
  .cases a
 |agg l=>simp[D5,Ty.one]at a
 |fel T xs j hj off=>simp[D5,iR]at a
 |pel id sz j off=>simp[D5,iR]at a
 |ptr id off=>simp[D5,iR]at a
 |csl id off z=>simp[D5,iR]at a
 |mp id=>simp[D5,iR]at a
 |rtl id Z=>simp[D5,iR]at a
 |tup q=>simp[D5,iR]at a
 |clo f q=>simp[D5,iR]at a
 |undef=>simp[D5,iR]at a
 |np=>simp[D5,iR]at a
 |anyb=>simp[D5,iR]at a
theorem Ux {v:TV} {y:AV} (a:ct h v=M y) (hc:v.isC=J):gM y.cs=J:=by
 rw[N_ (Ol a hc)];simp only[gM,Bool.and_true];exact Ol a hc
theorem Yz (T:Ty) (x:T.den):gM ((bT T x).map .f)=J:=by
 have:∀l:Y FV,(∀x∈l,x.isCell=J)->gM (l.map .f)=J:=by
  intro l hl;induction l with
  |nil=>rfl
  |cons z r a=>simp only[eS,gM,al];exact⟨hl z (by simp),a λx c=>hl x (by simp[c])⟩
 exact this _ (oh T x)
theorem gZ {T:Ty} {v:TV} {x:T.den} {m:Nat} {y:AV} (a:iR h T v=M (x,m)) (c:ct h v=M y):gM y.cs=J:=by
 cases v with
 |f S v=>simp only[ct,ah]at c;subst c;rw[Au];exact Yz S v
 |emp=>exact Ux c rfl
 |nil=>exact Ux c rfl
 |row id=>exact Ux c rfl
 |fel T xs j hj off=>simp[iR]at a
 |pel id sz j off=>simp[iR]at a
 |ptr id off=>simp[iR]at a
 |csl id off z=>simp[iR]at a
 |mp id=>simp[iR]at a
 |rtl id s=>simp[iR]at a
 |agg q=>simp[iR]at a
 |tup q=>simp[iR]at a
 |clo f q=>simp[iR]at a
 |undef=>simp[iR]at a
 |np=>simp[iR]at a
 |anyb=>simp[iR]at a
theorem H8 {T:Ty} (s:T.one=J) {v:TV} {x:T.den} {m:Nat} (a:iR h T v=M (x,m)):v.isC=J:=by
 cases v with
 |f S v=>
  simp only[iR]at a;split at a
  .rename_i z c;obtain⟨e,_⟩:=ir c;subst e;exact s
  .cases a
 |emp=>rfl
 |nil=>rfl
 |row id=>rfl
 |fel T xs j hj off=>simp[iR]at a
 |pel id sz j off=>simp[iR]at a
 |ptr id off=>simp[iR]at a
 |csl id off z=>simp[iR]at a
 |mp id=>simp[iR]at a
 |rtl id A=>simp[iR]at a
 |agg q=>simp[iR]at a
 |tup q=>simp[iR]at a
 |clo f q=>simp[iR]at a
 |undef=>simp[iR]at a
 |np=>simp[iR]at a
 |anyb=>simp[iR]at a
theorem S1 {a b:Y TV} (c:kK a=J) (hb:kK b=J):kK (a++b)=J:=by
 induction a with
 |nil=>exact hb
 |cons z r q=>simp only[kK,al,fI]at c ⊢;exact⟨c.1,q c.2⟩
theorem tV:∀(n:Nat) (T:Ty) (l:Y TV) (x:T.den) (m:Nat) (r:Y TV),e9 h n T l=M (x,m,r)->∃a,l=a++r/\kK a=J
 |0,_,_,_,_,_,hp=>by simp[e9]at hp
 |n+1,.st t,l,x,m,r,hp=>tV n t l x m r hp
 |n+1,.pr a b,l,x,m,r,hp=>by
  simp only[e9]at hp;split at hp
  .rename_i s m1 r1 h1;split at hp
   .rename_i z m2 r2 h2;simp only[ah,aD]at hp;obtain⟨_,_,rfl⟩:=hp;obtain⟨a1,rfl,L⟩:=tV n a l s m1 r1 h1;obtain⟨a2,rfl,A⟩:=tV n b r1 z m2 r2 h2;exact⟨a1++a2,by simp,S1 L A⟩
   .cases hp
  .cases hp
 |n+1,.un,l,x,m,r,hp=>by
  simp only[e9,ah,aD]at hp;obtain⟨_,_,rfl⟩:=hp;exact⟨[],rfl,rfl⟩
 |n+1,.ex,l,x,m,r,hp=>by
  simp only[e9]at hp;split at hp
  .rename_i s m1 r1 h1;simp only[ah,aD]at hp;obtain⟨_,_,rfl⟩:=hp;exact tV n M6 l s m1 r1 h1
  .cases hp
 |n+1,.sm,l,x,m,r,hp=>by
  simp only[e9]at hp;split at hp
  .rename_i s m1 r1 h1;simp only[ah,aD]at hp;obtain⟨_,_,rfl⟩:=hp;exact tV n MC l s m1 r1 h1
  .cases hp
 |n+1,.int k,l,x,m,r,hp=>by
  simp only[e9]at hp;split at hp
  .rename_i c q;split at hp
   .rename_i s m1 h1;simp only[ah,aD]at hp;obtain⟨_,_,rfl⟩:=hp;exact⟨[c],rfl,by simp[kK,H8 rfl h1]⟩
   .cases hp
  .cases hp
 |n+1,.bool,l,x,m,r,hp=>by
  simp only[e9]at hp;split at hp
  .rename_i c q;split at hp
   .rename_i s m1 h1;simp only[ah,aD]at hp;obtain⟨_,_,rfl⟩:=hp;exact⟨[c],rfl,by simp[kK,H8 rfl h1]⟩
   .cases hp
  .cases hp
 |n+1,.str,l,x,m,r,hp=>by
  simp only[e9]at hp;split at hp
  .rename_i c q;split at hp
   .rename_i s m1 h1;simp only[ah,aD]at hp;obtain⟨_,_,rfl⟩:=hp;exact⟨[c],rfl,by simp[kK,H8 rfl h1]⟩
   .cases hp
  .cases hp
 |n+1,.sl t,l,x,m,r,hp=>by
  simp only[e9]at hp;split at hp
  .rename_i c q;split at hp
   .rename_i s m1 h1;simp only[ah,aD]at hp;obtain⟨_,_,rfl⟩:=hp;exact⟨[c],rfl,by simp[kK,H8 rfl h1]⟩
   .cases hp
  .cases hp
theorem KM {T:Ty} {v:TV} {x:T.den} {m:Nat} {y:AV} (s:D5 h T v=M (x,m)) (c:ct h v=M y):gM y.cs=J:=by
 cases v with
 |agg l=>
  simp only[D5]at s;split at s
  .cases s
  .split at s
   .rename_i A m1 h1;obtain⟨a,e,U⟩:=tV 40 T l A m1 [] h1;rw[kc]at e;subst e;simp only[ct]at c;split at c
    .rename_i Z hl;simp only[ah]at c;subst c;exact sq hl U
    .cases c
   .cases s
 |f S v=>exact gZ (v:=.f S v) s c
 |fel T xs j hj off=>exact gZ (v:=.fel T xs j hj off) s c
 |pel id sz j off=>exact gZ (v:=.pel id sz j off) s c
 |ptr id off=>exact gZ (v:=.ptr id off) s c
 |csl id off z=>exact gZ (v:=.csl id off z) s c
 |row id=>exact gZ (v:=.row id) s c
 |emp=>exact gZ (v:=.emp) s c
 |nil=>exact gZ (v:=.nil) s c
 |mp id=>exact gZ (v:=.mp id) s c
 |rtl id L=>exact gZ (v:=.rtl id L) s c
 |tup q=>exact gZ (v:=.tup q) s c
 |clo g q=>exact gZ (v:=.clo g q) s c
 |undef=>exact gZ (v:=.undef) s c
 |np=>exact gZ (v:=.np) s c
 |anyb=>exact gZ (v:=.anyb) s c
theorem rk {u:TV} {y:AV} (c:ct h u=M y):∀(n:Nat) (T:Ty) (v:T.den) (off sz:Nat) (z:T.den) (m:Nat),gW h u n T v off sz=M (z,m)->gM y.cs=J
 |0,_,_,_,_,_,_,hg=>by simp[gW]at hg
 |n+1,.st t,v,off,sz,z,m,hg=>by
  simp only[gW]at hg;split at hg
  .rename_i q hq;split at hq
   .exact KM hq c
   .cases hq
  .exact rk c n t v off sz z m hg
 |n+1,.pr a b,v,off,sz,z,m,hg=>by
  simp only[gW]at hg;split at hg
  .split at hg
   .rename_i s m1 h1;exact rk c n a v.1 off sz s m1 h1
   .cases hg
  .split at hg
   .rename_i s m1 h1;exact rk c n b v.2 _ sz s m1 h1
   .cases hg
 |n+1,.un,v,off,sz,z,m,hg=>by simp[gW]at hg
 |n+1,.ex,v,off,sz,z,m,hg=>by
  simp only[gW]at hg;split at hg
  .rename_i q hq;split at hq
   .exact KM hq c
   .cases hq
  .split at hg
   .rename_i s m1 h1;exact rk c n M6 _ off sz s m1 h1
   .cases hg
 |n+1,.sm,v,off,sz,z,m,hg=>by
  simp only[gW]at hg;split at hg
  .rename_i q hq;split at hq
   .exact KM hq c
   .cases hq
  .split at hg
   .rename_i s m1 h1;exact rk c n MC _ off sz s m1 h1
   .cases hg
 |n+1,.int k,v,off,sz,z,m,hg=>by
  simp only[gW]at hg;split at hg
  .exact gZ hg c
  .cases hg
 |n+1,.bool,v,off,sz,z,m,hg=>by
  simp only[gW]at hg;split at hg
  .exact gZ hg c
  .cases hg
 |n+1,.str,v,off,sz,z,m,hg=>by
  simp only[gW]at hg;split at hg
  .exact gZ hg c
  .cases hg
 |n+1,.sl t,v,off,sz,z,m,hg=>by
  simp only[gW]at hg;split at hg
  .exact gZ hg c
  .cases hg
theorem KQ (l:Y FV):xU (l.map .f)=M l:=by
 induction l with
 |nil=>rfl
 |cons x r a=>simp only[eS,xU,a]
theorem CV (l:Y FV):pA (l.map .f)= .fz l:=by unfold pA;rw[KQ]
theorem GZ:∀{a b:Y TV},kK a=J->kK b=J->kK (a++b)=J
 |[],_,_,hb=>hb
 |x::r,b,c,hb=>by
  simp only[kK,al]at c;simp only[fI,kK,al];exact⟨c.1,GZ c.2 hb⟩
theorem Fv {a:Y TV} (c:kK a=J):∀n,kK (aB n a).flatten=J
 |0=>rfl
 |n+1=>by rw[vV,List.flatten_cons];exact GZ c (Fv c n)
theorem afk {H:oq} (c:H.get=bu h) {id ty:Nat} {l:Y TV} {a:Y AV} (hb:h.get id=M (.cells (M ty) l)) (hl:cJ h l=M a) {n sz:Nat} (hn:l.length=n*sz):AV.row? H sz (.row (nm id) sz n)=M (a,n,[nm id]):=by
 have hg:H.get (nm id)=M ⟨ty,.mx a⟩:=by rw[c,bF,hb];simp only[aF,jF,hl]
 have hln:=gK hl;simp only[AV.row?,cU,bG,hg,BC.isCells,ib,BC.len,BC.toMx];rw[aC (bD (by omega)),gf (by omega)]
variable (hinv:mo h nx) (hi:tR e h)
include hinv hi
theorem alj {con:FuncId->I cA} {b9:TypeId->I Ty} {ty:TypeId} {sz len:Nat} {z:ξ} {parts:Y (Nat×Nat×Operand)} (hcm:DV (b9 ty)=D) (hc:dw P o.op=M (.bsl ty sz len z parts)) (hk:dX con b9 (.op (.bsl ty sz len z parts)) e h nx K=M r):kW P o af e h nx K r:=by
 obtain⟨H,Z⟩:=jV h;simp only[dX,hcm]at hk;split at hk
 .rename_i T zc hT U;split at hk
  .rename_i hs;have hs:=ar hs;subst hs;split at hk
   .rename_i cs hf;split at hk
    .rename_i xs m hp;obtain⟨cs',h1,h2,_⟩:=Dj hi parts _ cs _ hf (MG h U len);have hm:=N8 len cs xs m hp;refine ⟨_,_,_,_,_,hk,iW.new hinv hc Z (y0:=if len=0 then .emp else .row (nm nx) T.size len) (rdl:=[]) (b0:=⟨ty,pA cs'⟩) (by simp only[eL,h1]) hm (λ_ _ he=>by cases he) (λH1 H2 d g b' a=>?_) (λH1 H2 y d g c=>?_) (by simp)⟩
     .simp only[jF]at a;split at a
      .cases a
      rw[ah]at a;subst a;obtain⟨L,A⟩:=nZ cs';refine iN.cells A rfl ?_ λx s=>?_
      .rw[L];exact (CP d len cs xs m cs' hp h2 g).1
      .simp only[BC.toMx]at s;obtain⟨q,hq,rfl⟩:=di.1 s;exact rP T _ q hq
     .simp only[ct,bS,PT.get_set,bG,aF,mV,fE,ah]at c;rw[(CP d len cs xs m cs' hp h2 g).2]at c;split at c
      .rename_i hq;simp only[al,cV]at hq;subst c;rw[aC hq.2];exact lO.refl d _
      .rename_i hq;subst c;rw[ax (λh0=>hq (by subst h0;rfl))];exact lO.refl d _
    .cases hk
   .cases hk
  .cases hk
 .cases hk
theorem alk {con:FuncId->I cA} {b9:TypeId->I Ty} {ty:TypeId} {sz bytes:Nat} {s x:Operand} (hcm:DV (b9 ty)=D) (hc:dw P o.op=M (.app ty sz bytes s x)) (hk:dX con b9 (.op (.app ty sz bytes s x)) e h nx K=M r):kW P o af e h nx K r:=by
 obtain⟨H,hH⟩:=jV h;have hfr:=hinv.fresh;simp only[dX,hcm]at hk;split at hk
 .rename_i T b y hT hv hv2;split at hk
  .rename_i hs;have hs:=ar hs;subst hs;split at hk
   .rename_i q m hys;obtain⟨yb,h1,h2⟩:=bJ hi hv;obtain⟨yy,h3,h4⟩:=bJ hi hv2;obtain⟨rdl,h5,h6⟩:=Wy hH hys h4;have onEmp:∀(rd':Nat),(∀n∈rdl,aM rd' (ow n)=J)->I2 yb=J->Le yb .emp->bc (ai q) bytes=J->iW P o af e h nx (.row nx) rd' (kE nx) (h.set nx (M (.rows ty J T q))) (nx+1):=by
     intro rd' hrd' he hle hroom;have hr1:b_ h (h.set nx (M (.rows ty J T q))):=b_.set λr hr=>by rw[bS,hfr]at hr;cases hr
     have hyb:∀id sz' n,yb≠ .row id sz' n:=by rintro id sz' n rfl;cases he
     have a:eL (.app ty T.size bytes s x) (JE e h) H (nm nx)=if ai q==0 then M ⟨yb,rdl,[],[],[]⟩ else M ⟨.row (nm nx) T.size (ai q),rdl,[nm nx],[(nm nx,⟨ty,pA ((q.flatMap (bT T)).map .f)⟩)],[nm nx]⟩:=by
      simp only[eL,h1,h3,h5];cases yb with
      |row id sz' n=>exact bZ rfl (hyb id sz' n)
      |_=>simp only[he,hroom,jG,bG]
     by_cases hl:ai q=0
     .rw[hl]at a;simp only[cU,bG]at a;have hnil:q=[]:=gQ.1 hl;subst hnil;refine iW.mk' hc hH a [] (by simp) (λn _=>?_) (by simp) (λH1 H2 d _ _ _=>⟨by simp,λy z=>?_⟩) hrd' (by simp) (by simp) hr1 (hinv.set hr1 (by omega) (by omega) λ_ _ he=>by cases he) (by omega)
      .by_cases hn:n=nm nx
       .subst hn;rw[bF,bF,PT.get_set,aC rfl,hfr];rfl
       .refine kB hinv hr1 λi e=>?_
        subst e;rw[PT.get_set,ax (λe=>hn (by rw[e]))]
      .simp only[ct,bS,PT.get_set,bG,aF,mV,fE,gw,cU,jG,ah]at z;subst z;exact hle.toH d
     .rw[ax (by simpa using hl)]at a;rw[CV]at a;have key:=iW.new (m:=0) (rd:=rd') hinv hc hH a (B:=.rows ty J T q) (v:=.row nx) (dS.zero h) (λ_ _ he=>by cases he) (λH1 H2 d g b' U=>by
       simp only[jF]at U;rw[ax (by simpa using hl)]at U;simp only[ah]at U;subst U;exact iN.refl d _) (λH1 H2 y d g z=>by
       simp only[ct,bS,PT.get_set,bG,aF,mV,fE]at z;rw[ax (by simpa using hl)]at z;simp only[ah]at z;subst z;exact lO.refl d _) hrd'
      rw[yG]at key;exact key
    split at hk
    .rename_i id;split at hk
     .rename_i ty' p S xs0 hb;split at hk
      .rename_i xs hxs;obtain⟨ee,rfl⟩:=ir hxs;cases ee;split at hk
       .rename_i hcond;simp only[al,cV,cW]at hcond;obtain⟨rfl,hmid⟩:=hcond;obtain⟨hroom,hk⟩:=ec hk;simp only[ct,eH,hb,ah]at h2;have hidlt:=hinv.low id _ hb;have hne:nx≠id:=by omega
        have hrd:∀n∈rdl,aM (kE id|||m) (ow n)=J:=λn hn=>by
         obtain⟨i,rfl,hm⟩:=h6 n hn;rw[dU,bp,hm];simp
        generalize hh':(h.set id (M (.dead p T.size (ai xs0)))).set nx (M (.rows ty' p T (xs0++q)))=h' at hk;have hrA:b_ h (h.set id (M (.dead p T.size (ai xs0)))):=b_.set λr hr=>by rw[bS,hb]at hr;exact hr
        have Z:∀i,h'.get i=if i=nx then M (.rows ty' p T (xs0++q)) else if i=id then M (.dead p T.size (ai xs0)) else h.get i:=λi=>by rw[<- hh',PT.get_set,PT.get_set]
        have hr:b_ h h':=by
         rw[<- hh'];refine hrA.trans (b_.set λr hr=>?_);rw[bS,PT.get_set,ax hne,hfr]at hr;cases hr
        have hinv':mo h' (nx+1):=by
         refine ⟨λi ty l hil=>?_,λi c hic=>?_⟩
         .rw[Z]at hil;split at hil
          .cases hil
          .split at hil
           .cases hil
           .exact jd hr l (hinv.cells i _ l hil)
         .rw[Z]at hic;split at hic
          .omega
          .split at hic
           .omega
           .have:=hinv.low i c hic;omega
        have hsame:∀n,n≠nm nx->n≠nm id->bu h' n=bu h n:=λn h1 h2=>kB hinv hr λi e=>by
         subst e;rw[Z,ax (λe=>h1 (by rw[e])),ax (λe=>h2 (by rw[e]))]
        have hdead:bu h' (nm id)=D:=by rw[bF,Z,ax (by omega),aC rfl];rfl
        have hnew:bu h' (nm nx)=if p&&(xs0++q).length==0 then D else M ⟨ty',.fz ((xs0++q).flatMap (bT T))⟩:=by rw[bF,Z,aC rfl];rfl
        have hval:ct h' (.row nx)=M (fE p nx T.size (xs0++q).length):=by simp only[ct,bS,Z,bG,aF,mV]
        have hwm:∀n,n=nm nx\/n=nm id->aM (kE id|||kE nx) (ow n)=J:=λn hn=>by
         rcases hn with rfl|rfl<;>rw[dU,bp,bW.2 rfl]<;>simp
        refine ⟨_,_,_,_,_,hk,?_⟩;by_cases hp:(p&&xs0.length==0)=J
        ·
         have hyb:yb= .emp:=by rw[<- h2];unfold fE;rw[aC hp]
         subst hyb;simp only[al,cV]at hp;obtain⟨rfl,hl0⟩:=hp;have hnil:xs0=[]:=gQ.1 hl0;subst hnil;have hroom':bc (ai q) bytes=J:=by simpa using hroom
         have a:eL (.app ty' T.size bytes s x) (JE e h) H (nm nx)=if ai q==0 then M ⟨.emp,rdl,[],[],[]⟩ else M ⟨.row (nm nx) T.size (ai q),rdl,[nm nx],[(nm nx,⟨ty',pA ((q.flatMap (bT T)).map .f)⟩)],[nm nx]⟩:=by
          simp only[eL,h1,h3,h5,I2,hroom',jG,bG]
         have hdead0:bu h (nm id)=D:=by rw[bF,hb];rfl
         by_cases hl:ai q=0
         .rw[hl]at a;simp only[cU,bG]at a;have hnil:q=[]:=gQ.1 hl;subst hnil;refine iW.mk' hc hH a [] (by simp) (λn _=>?_) (by simp) (λH1 H2 d _ _ _=>⟨by simp,λy z=>?_⟩) hrd (by simp) (by simp) hr hinv' (by omega)
          .by_cases hn:n=nm nx
           .subst hn;rw[hnew,bF,hfr];rfl
           .by_cases hn2:n=nm id
            .subst hn2;rw[hdead,hdead0]
            .exact hsame n hn hn2
          .rw[hval]at z;simp only[fE,kc,gw,cU,jG,bG,ah]at z;subst z;exact lO.refl d _
         .rw[ax (by simpa using hl),CV]at a;refine iW.mk' hc hH a [nm nx] (λi hi=>hi) (λn hn=>?_) (λi hi b' _=>⟨_,by rw[aC hi];simp only[aI]at hi;subst hi;exact iw _ _⟩) (λH1 H2 d hw1 _ hw2=>⟨λi hi b b' L A=>?_,λy z=>?_⟩) hrd (λn hn=>hwm n (.inl (by simpa using hn))) (λn hn=>by simp only[aI]at hn;subst hn;rw[dU];omega) hr hinv' (by omega)
          .have hn1:n≠nm nx:=by simpa using hn
           by_cases hn2:n=nm id
           .subst hn2;rw[hdead,hdead0]
           .exact hsame n hn1 hn2
          .simp only[aI]at hi;subst hi;rw[hw1 _ (by simp),iw]at L;rw[hw2 _ (by simp),hnew,ax (by simpa using hl)]at A;simp only[ah,j_]at L A;subst L;subst A;exact iN.refl d _
          .rw[hval]at z;simp only[fE,j_]at z;rw[ax (by simpa using hl)]at z;simp only[ah]at z;subst z;exact lO.refl d _
        .have hyb:yb= .row (nm id) T.size xs0.length:=by rw[<- h2];unfold fE;rw[ax hp]
         subst hyb;have hg:H.get (nm id)=M ⟨ty',.fz (xs0.flatMap (bT T))⟩:=by rw[hH,bF,hb];simp only[aF,jF,ax hp]
         have fl:=fH (bC T) xs0;have tk:(xs0.flatMap (bT T)).take (xs0.length*T.size)=xs0.flatMap (bT T):=by rw[<- fl,cK]
         have hmem:Ur (nm id) rdl=af:=by
          cases hx:Ur (nm id) rdl with
          |false=>rfl
          |true=>
           obtain⟨i,e,hm⟩:=h6 _ (aj2.1 hx);rw[<- kY e,hmid]at hm;cases hm
         have a:eL (.app ty' T.size bytes s x) (JE e h) H (nm nx)=M ⟨.row (nm nx) T.size (xs0.length+q.length),nm id::rdl,[nm nx,nm id],[(nm nx,⟨ty',.fz ((xs0++q).flatMap (bT T))⟩)],[nm nx]⟩:=by
          have hcnd:(T.size==T.size&& !(Ur (nm id) rdl)&&(BC.fz (xs0.flatMap (bT T))).isCells&&eO (xs0.length*T.size) (BC.fz (xs0.flatMap (bT T))).len&&ty'==ty'&&bc (xs0.length+q.length) bytes)=J:=by
           have:eO (xs0.length*T.size) (BC.fz (xs0.flatMap (bT T))).len=J:=bD (by simp only[BC.len];omega);rw[this,hmem,hroom];simp[BC.isCells]
          simp only[eL,h1,h3,h5,hg,hcnd,bG,BC.toMx,<-kS,tk,<-cS,CV,List.flatMap_append]
         have hne2:¬((p&&(xs0++q).length==0)=J):=by
          simp only[al,cV,be]at hp ⊢;intro hh;exact hp ⟨hh.1,by omega⟩
         refine iW.mk' hc hH a [nm nx,nm id] (λi hi=>hi) (λn hn=>?_) (λi hi b' U=>?_) (λH1 H2 d hw1 _ hw2=>⟨λi hi b b' L A=>?_,λy z=>?_⟩) (λn hn=>?_) (λn hn=>hwm n (by simpa using hn)) (λn hn=>by simp only[aI]at hn;subst hn;rw[dU];omega) hr hinv' (by omega)
         .simp only[bk,cB,gj,not_or]at hn;exact hsame n hn.1 hn.2
         .simp only[bk,cB,gj]at hi;rcases hi with rfl|rfl
          .exact⟨_,by rw[aC (by simp)];exact iw _ _⟩
          .rw[hdead]at U;cases U
         .simp only[bk,cB,gj]at hi;rcases hi with rfl|rfl
          .rw[hw1 _ (by simp),iw]at L;rw[hw2 _ (by simp),hnew,ax hne2]at A;simp only[ah]at L A;subst L;subst A;exact iN.refl d _
          .rw[hw2 _ (by simp),hdead]at A;cases A
         .rw[hval]at z;simp only[fE]at z;rw[ax hne2]at z;simp only[be,ah]at z;subst z;exact lO.refl d _
         .rcases bk.1 hn with rfl|hn
          .rw[dU,bp,bW.2 rfl];rfl
          .exact hrd n hn
       .cases hk
      .cases hk
     .cases hk
    .obtain⟨hroom,hk⟩:=ec hk;simp only[ct,ah]at h2;subst h2;exact⟨_,_,_,_,_,hk,onEmp m (λn hn=>by obtain⟨i,rfl,hm⟩:=h6 n hn;rw[dU];exact hm) rfl (Le.refl _) hroom⟩
    .obtain⟨hroom,hk⟩:=ec hk;simp only[ct,ah]at h2;subst h2;exact⟨_,_,_,_,_,hk,onEmp m (λn hn=>by obtain⟨i,rfl,hm⟩:=h6 n hn;rw[dU];exact hm) rfl Le.nilEmp hroom⟩
    .cases hk
   .cases hk
  .cases hk
 .cases hk
theorem abv {T:Ty} (xs a:Y T.den):(Nt xs a).flatMap (bT T)=AI.splice (xs.flatMap (bT T)) 0 ((a.flatMap (bT T)).take (i_ a.length xs.length*T.size)):=by
 have _:=hinv;have _:=hi;have fl:=λc:Y T.den=>fH (bC T) c
 have tk:∀(c:Y T.den) n,(c.flatMap (bT T)).take (n*T.size)=(c.take n).flatMap (bT T):=by
  intro c;induction c with
  |nil=>intro n;simp
  |cons z r q=>
   intro n;cases n with
   |zero=>simp
   |succ n=>rw[fQ,vU,fQ,iZ,List.take_append,bC,gf (by rw[bC];omega),show n*T.size+T.size-T.size=n*T.size from by omega,q n]
 have s:∀(c:Y T.den) n,(c.flatMap (bT T)).drop (n*T.size)=(c.drop n).flatMap (bT T):=by
  intro c;induction c with
  |nil=>intro n;simp
  |cons z r q=>
   intro n;cases n with
   |zero=>simp
   |succ n=>rw[fQ,vX,iZ,uZ,bC,rW (by rw[bC];omega),show n*T.size+T.size-T.size=n*T.size from by omega,q n,j_]
 unfold Nt AI.splice;rw[tk,List.flatMap_append,fl,bA];have e1:a.take (i_ a.length xs.length)=a.take xs.length:=by
  rcases Nat.le_total a.length xs.length with h|h
  .rw[show i_ a.length xs.length=a.length from sP h,cK,gf h]
  .rw[show i_ a.length xs.length=xs.length from Nat.min_eq_right h]
 rw[e1];have e2:min (i_ a.length xs.length) a.length=i_ a.length xs.length:=sP (Nat.min_le_left _ _);rw[e2];simp only[List.take_zero,j_,bI];rw[s];congr 1;rcases Nat.le_total a.length xs.length with h|h
 .rw[show i_ a.length xs.length=a.length from sP h]
 .rw[show i_ a.length xs.length=xs.length from Nat.min_eq_right h,List.drop_length,rW h]
theorem alh {con:FuncId->I cA} {b9:TypeId->I Ty} {sz:Nat} {d x:Operand} (hc:dw P o.op=M (.copy sz d x)) (hk:dX con b9 (.op (.copy sz d x)) e h nx K=M r):kW P o af e h nx K r:=by
 obtain⟨H,L⟩:=jV h;simp only[dX]at hk;split at hk
 .rename_i id y hv s;split at hk
  .rename_i ty p T xs hb;split at hk
   .rename_i hs;have hs:=ar hs;subst hs;split at hk
    .rename_i a m hys;split at hk
     .rename_i hcond;simp only[al,cW]at hcond;obtain⟨hmid,rfl⟩:=hcond;obtain⟨yb,h1,h2⟩:=bJ hi hv;obtain⟨yy,h3,h4⟩:=bJ hi s;obtain⟨rdl,h5,Z⟩:=Wy L hys h4;simp only[ct,eH,hb,fE,lB,ci,dP,ah]at h2;subst h2;have fl:=fH (bC T) xs;have fl2:=fH (bC T) a;have hg:H.get (nm id)=M ⟨ty,.fz (xs.flatMap (bT T))⟩:=by rw[L,bF,hb];simp[jF]
      have hmem:Ur (nm id) rdl=af:=by
       cases c:Ur (nm id) rdl with
       |false=>rfl
       |true=>
        obtain⟨i,e,hm⟩:=Z _ (aj2.1 c);rw[<- kY e,hmid]at hm;cases hm
      have hle:i_ a.length xs.length*T.size<=xs.length*T.size:=cL _ (Nat.min_le_right _ _);have A:eL (.copy T.size d x) (JE e h) H (nm nx)=M ⟨raw (.int .i64 (i_ a.length xs.length)),nm id::rdl,[nm id],[(nm id,⟨ty,.fz ((Nt xs a).flatMap (bT T))⟩)],[]⟩:=by
       have hcnd:(T.size==T.size&& !(Ur (nm id) rdl)&&eO (xs.length*T.size) (BC.fz (xs.flatMap (bT T))).len)=J:=by
        have:eO (xs.length*T.size) (BC.fz (xs.flatMap (bT T))).len=J:=bD (by simp only[BC.len];omega);rw[this,hmem];simp
       have hput:(BC.fz (xs.flatMap (bT T))).put 0 (((a.flatMap (bT T)).map .f).take (i_ a.length xs.length*T.size))=M (.fz ((Nt xs a).flatMap (bT T))):=by
        rw[<- kS];unfold BC.put;rw[aC]
        .simp only[KQ];rw[abv hinv hi]
        .simp only[al];refine ⟨⟨rfl,bD ?_⟩,?_⟩
         .simp only[BC.len,bR,bA];omega
         .have:∀l:Y FV,(∀x∈l,x.isCell=J)->gM (l.map .f)=J:=by
           intro l hl;induction l with
           |nil=>rfl
           |cons z r ih=>simp only[eS,gM,al];exact⟨hl z (by simp),ih λx c=>hl x (by simp[c])⟩
          exact this _ λx c=>rP T a x (hY c)
       simp only[eL,h1,h3,hg,h5,hcnd,bG,hput]
      have hrow:mV (.rows ty af T (Nt xs a))=mV (.rows ty af T xs):=by
       have:(Nt xs a).length=xs.length:=by unfold Nt;rw[be,bA,mR];omega
       simp only[mV,this]
      have key:=iW.wrt (m:=0) (v:=.f (.int .i64) (aN (i_ (ai a) (ai xs)))) (rd:=kE id|||m) hinv hc L A (B:=.rows ty af T (Nt xs a)) hb (dS.zero h) (by simp) hrow (λ_ _ he=>by cases he) (λH1 H2 d g b' q=>by
       simp only[jF,lB,ci,dP,ah]at q;subst q;exact iN.refl d _) (λH1 H2 y d g U=>by
       simp only[ct,ah]at U;subst U;exact lO.refl d _) (λn hn=>by
       rcases bk.1 hn with rfl|hn
       .rw[dU,bp,bW.2 rfl];rfl
       .obtain⟨i,rfl,hm⟩:=Z n hn;rw[dU,bp,hm];simp)
      rw[yG]at key;exact⟨_,_,_,_,_,hk,key⟩
     .cases hk
    .cases hk
   .cases hk
  .cases hk
 .cases hk
theorem agv {con:FuncId->I cA} {b9:TypeId->I Ty} {sz:Nat} {x v:Operand} (hc:dw P o.op=M (.store sz x v)) (hk:dX con b9 (.op (.store sz x v)) e h nx K=M r):kW P o af e h nx K r:=by
 obtain⟨H,hH⟩:=jV h;simp only[dX]at hk;split at hk
 .rename_i id off y hv hv2;obtain⟨yb,h1,h2⟩:=bJ hi hv;obtain⟨s,h3,h4⟩:=bJ hi hv2;simp only[ct,ah]at h2;subst h2;split at hk
  .rename_i ty l hb;split at hk
   .rename_i cs hcs;split at hk
    .rename_i hcond;simp only[al,cV]at hcond;obtain⟨h5,h6⟩:=Km hcs h4;obtain⟨A,hl⟩:=fd h l (hinv.cells id _ l hb);have hg:H.get (nm id)=M ⟨ty,.mx A⟩:=by rw[hH,bF,hb];simp only[aF,jF,hl]
     have hcell:=sq h5 h6;have hlen:s.cs.length=sz:=by rw[gK h5];exact hcond.1
     have hput:(BC.mx A).put off s.cs=M (.mx (splice A off s.cs)):=by
      unfold BC.put;rw[aC]
      .rfl
      .simp only[al];exact⟨⟨rfl,by simp only[BC.len];rw[hlen,gK hl];exact hcond.2⟩,hcell⟩
     have Z:eL (.store sz x v) (JE e h) H (nm nx)=M ⟨raw undef,[nm id],[nm id],[(nm id,⟨ty,.mx (splice A off s.cs)⟩)],[]⟩:=by
      simp only[eL,h1,h3,KL,hg,hlen,cU,bG,hput]
     have hspl:∀h',b_ h h'->cJ h' (splice l off cs)=M (splice A off s.cs):=λh' hr=>pV off (gm hr l A hl) (gm hr cs _ h5)
     have L:b_ h (h.set id (M (.cells (M ty) (splice l off cs)))):=b_.set λr hr=>by rw[bS,hb]at hr;cases hr
     have key:=iW.wrt (m:=0) (v:=.undef) (rd:=kE id) hinv hc hH Z (B:=.cells (M ty) (splice l off cs)) hb (dS.zero h) (by simp) rfl (λty' l2 he=>by cases he;exact j8 _ _ _ (hspl _ L)) (λH1 H2 d g b' a=>by
      have:=hspl _ L;simp only[eB,rV,bG,jF,this,ah]at a;subst a;exact iN.refl d _) (λH1 H2 y d g hy=>by
      simp only[ct,ah]at hy;subst hy;exact lO.refl d _) (λn hn=>by simp only[aI]at hn;subst hn;rw[dU];exact bW.2 rfl)
     rw[yG]at key;exact⟨_,_,_,_,_,hk,key⟩
    .cases hk
   .cases hk
  .cases hk
 .rename_i id sz' j off y hv hv2;obtain⟨yb,h1,h2⟩:=bJ hi hv;obtain⟨s,h3,h4⟩:=bJ hi hv2;simp only[ct,ah]at h2;subst h2;split at hk
  .rename_i ty p T xs hb;split at hk
   .rename_i hsz;have hsz:=ar hsz;subst hsz;obtain⟨hj,hk⟩:=ec hk;split at hk
    .rename_i z m hset;split at hk
     .cases hk
     .rename_i hmid;have hmid:aM m id=af:=by simpa using hmid
      have hm:=Aj 40 T _ off sz z m hset;obtain⟨j0,j1,j2⟩:=EO hj;have hne:¬((p&&xs.length==0)=J):=by simp only[al,cV];omega
      have hne2:¬((p&&(cI xs j z).length==0)=J):=by unfold cI;rw[ia];exact hne
      have hg:H.get (nm id)=M ⟨ty,.fz (xs.flatMap (bT T))⟩:=by rw[hH,bF,hb];simp only[aF,jF,ax hne]
      have fl:=fH (bC T) xs;have hx:xs[j.toNat]? =M (aJ xs j):=by
       unfold aJ;rw[au,ay j2];rfl
      have hle:(j.toNat+1)*T.size<=xs.length*T.size:=cL _ j2;rw[iZ]at hle;have hso:∀H1 H2,uV H1 H2->Eh h H1 H2 m->XK H1 H2 s T (aJ xs j) z off sz:=λH1 H2 d g=>v9 d h4 40 T _ off sz z m hset g
      have hshape:s.cs.length=sz/\off+sz<=T.size/\gM s.cs=J:=by
       have d0:uV (bu h) (bu (eB m h)):=λi b hb=>by
        obtain⟨i',c,rfl,g1,g2⟩:=jD hb;rw[jg]at g1;by_cases ht:aM m i'=J
        .obtain⟨pp,ss,nn,g3⟩:=t7 hm ht;rw[jg]at g3;rw[g3]at g1;cases g1;cases g2
        .rw[ax ht]at g1;exact⟨b,by rw[bF,g1];simp only[aF];rw[<- JF (b_.kill m h) (λty l e=>hinv.cells i' _ l (by rw[g1,e]))];exact g2⟩
       obtain⟨fs,q1,q2,q3,q4,q5⟩:=hso _ _ d0 (λi hi=>⟨rfl,by
        obtain⟨pp,ss,nn,g3⟩:=t7 hm hi;rw[bF,g3];rfl⟩)
       refine ⟨by rw[<- q2,<-bR (f:=AV.f),q1.length],q3,?_⟩;exact rk h4 40 T _ off sz z m hset
      obtain⟨hlen,hoff,hcell⟩:=hshape;obtain⟨c',hput,U,hc2⟩:∃c',(BC.fz (xs.flatMap (bT T))).put (j.toNat*T.size+off) s.cs=M c'/\c'.toMx=splice ((xs.flatMap (bT T)).map .f) (j.toNat*T.size+off) s.cs/\c'.isCells=J:=by
       unfold BC.put;rw[aC]
       .split
        .rename_i l ys hl hys;simp only[BC.fz.injEq]at hl;subst hl;refine ⟨_,rfl,?_,rfl⟩;rw[pY hys];simp only[BC.toMx];unfold splice;simp[kS,List.map_drop]
        .exact⟨_,rfl,rfl,rfl⟩
       .simp only[al];exact⟨⟨rfl,bD (by simp only[BC.len];omega)⟩,hcell⟩
      have Z:eL (.store sz x v) (JE e h) H (nm nx)=M ⟨raw undef,[nm id],[nm id],[(nm id,⟨ty,c'⟩)],[]⟩:=by
       simp only[eL,h1,h3,KL,hg,hlen,cU,bG,hput]
      have hrow:mV (.rows ty p T (cI xs j z))=mV (.rows ty p T xs):=by
       unfold cI;simp only[mV,ia]
      refine ⟨_,_,_,_,_,hk,iW.wrt hinv hc hH Z (B:=.rows ty p T (cI xs j z)) hb hm hmid hrow (λ_ _ he=>by cases he) (λH1 H2 d g b' a=>?_) (λH1 H2 y d g hy=>?_) (λn hn=>?_)⟩
      .simp only[jF,ax hne2,ah]at a;subst a;obtain⟨fs,q1,q2,q3,q4,q5⟩:=hso H1 H2 d g;have hfl:(cI xs j z).flatMap (bT T)=AI.splice (xs.flatMap (bT T)) (j.toNat*T.size+off) fs:=Rt (bC T) xs j.toNat _ z hx off fs (by omega) q4;refine iN.cells hc2 rfl ?_ λx hx=>?_
       .rw[U];simp only[BC.toMx];rw[hfl];have:(AI.splice (xs.flatMap (bT T)) (j.toNat*T.size+off) fs).map AV.f=AI.splice ((xs.flatMap (bT T)).map .f) (j.toNat*T.size+off) (fs.map .f):=by unfold AI.splice;simp[kS,List.map_drop]
        rw[this];exact (ic.refl d _).splice _ q1
       .simp only[BC.toMx]at hx;obtain⟨q,hq,rfl⟩:=di.1 hx;exact rP T _ q hq
      .simp only[ct,ah]at hy;subst hy;exact lO.refl d _
      .simp only[aI]at hn;subst hn;rw[dU,bp,bW.2 rfl];simp
    .cases hk
   .cases hk
  .rename_i ty l hb;split at hk
   .rename_i hsz;simp only[al]at hsz;obtain⟨s1,s2,s3⟩:=hsz;have s1:=ar s1;have s2:=ar s2;have s3:=ar s3;subst s1;subst s2;subst s3;obtain⟨hj,hk⟩:=ec hk;obtain⟨j0,j1,j2⟩:=EO hj;split at hk
    .rename_i cs hcs;split at hk
     .rename_i U;have U:=ar U;obtain⟨h5,h6⟩:=Km hcs h4;obtain⟨A,hl⟩:=fd h l (hinv.cells id _ l hb);have hg:H.get (nm id)=M ⟨ty,.mx A⟩:=by rw[hH,bF,hb];simp only[aF,jF,hl]
      have hcell:=sq h5 h6;have hlen:s.cs.length=1:=by rw[gK h5];exact U
      have e0:j.toNat*1+0=j.toNat:=by omega
      rw[e0]at h1;have hput:(BC.mx A).put j.toNat s.cs=M (.mx (splice A j.toNat s.cs)):=by
       unfold BC.put;rw[aC]
       .rfl
       .simp only[al];exact⟨⟨rfl,bD (by simp only[BC.len];rw[hlen,gK hl];omega)⟩,hcell⟩
      have Z:eL (.store 1 x v) (JE e h) H (nm nx)=M ⟨raw undef,[nm id],[nm id],[(nm id,⟨ty,.mx (splice A j.toNat s.cs)⟩)],[]⟩:=by
       simp only[eL,h1,h3,KL,hg,hlen,cU,bG,hput]
      have hspl:∀h',b_ h h'->cJ h' (splice l j.toNat cs)=M (splice A j.toNat s.cs):=λh' hr=>pV j.toNat (gm hr l A hl) (gm hr cs _ h5)
      have L:b_ h (h.set id (M (.cells (M ty) (splice l j.toNat cs)))):=b_.set λr hr=>by rw[bS,hb]at hr;cases hr
      have key:=iW.wrt (m:=0) (v:=.undef) (rd:=kE id) hinv hc hH Z (B:=.cells (M ty) (splice l j.toNat cs)) hb (dS.zero h) (by simp) rfl (λty' l2 he=>by cases he;exact j8 _ _ _ (hspl _ L)) (λH1 H2 d g b' a=>by
       have:=hspl _ L;simp only[eB,rV,bG,jF,this,ah]at a;subst a;exact iN.refl d _) (λH1 H2 y d g hy=>by
       simp only[ct,ah]at hy;subst hy;exact lO.refl d _) (λn hn=>by simp only[aI]at hn;subst hn;rw[dU];exact bW.2 rfl)
      rw[yG]at key;exact⟨_,_,_,_,_,hk,key⟩
     .cases hk
    .cases hk
   .cases hk
  .cases hk
 .cases hk
theorem alc {con:FuncId->I cA} {b9:TypeId->I Ty} {ty:TypeId} {sz bytes:Nat} {z:ξ} {l c:Operand} (hc:dw P o.op=M (.mksl ty sz bytes z l c)) (hk:dX con b9 (.op (.mksl ty sz bytes z l c)) e h nx K=M r):kW P o af e h nx K r:=by
 cases hcm:DV (b9 ty) with
 |none=>exact agw hinv hi hcm hc hk
 |some n=>
  obtain⟨H,hH⟩:=jV h;simp only[dX,hcm]at hk;split at hk
  .rename_i zc k a k' b s hv A;obtain⟨hck,hk⟩:=ec hk;rw[al]at hck;obtain⟨hcond,hn⟩:=hck;have hn:=a8 hn;obtain⟨y,h1,h2⟩:=bJ hi hv;obtain⟨y2,h3,U⟩:=bJ hi A;simp only[ct,ah]at h2 U;subst h2;subst U;have han:aQ a=n:=by rw[hn];rfl
   obtain⟨_,_,hzc⟩:=vx h s;refine ⟨_,_,_,_,_,hk,iW.new hinv hc hH (y0:=.row (nm nx) sz n) (rdl:=[]) (b0:=⟨ty,.fz (repl z n)⟩) (by simp only[eL,h1,h3,gC,hcond,bG,han]) (dS.zero h) (λty' l' he=>?_) (λH1 H2 d g b' q=>?_) (λH1 H2 y d g L=>?_) (by simp)⟩
   .cases he;exact j8 _ _ _ (MG _ s n)
   .simp only[jF,MG _ s n,ah]at q;subst q;refine iN.cells rfl rfl (ic.refl d _) λx Z=>?_
    exact md (sq (MG h s n) (Fv hzc n)) x Z
   .simp only[ct,ah]at L;subst L;exact lO.refl d _
  .cases hk
theorem aoy {con:FuncId->I cA} {b9:TypeId->I Ty} {ty:TypeId} {sz len:Nat} {z:ξ} {parts:Y (Nat×Nat×Operand)} (hc:dw P o.op=M (.bsl ty sz len z parts)) (hk:dX con b9 (.op (.bsl ty sz len z parts)) e h nx K=M r):kW P o af e h nx K r:=by
 cases hcm:DV (b9 ty) with
 |none=>exact alj hinv hi hcm hc hk
 |some n=>
  obtain⟨H,Z⟩:=jV h;simp only[dX,hcm]at hk;split at hk
  .rename_i zc q;split at hk
   .rename_i cs hf;split at hk
    .cases hk
    .rename_i hl;have hl:len≠0:=λe=>hl (by rw[e];rfl)
     obtain⟨cs',h1,h2,h3⟩:=Dj hi parts _ cs _ hf (MG h q len);obtain⟨_,_,hzc⟩:=vx h q;have hcs:=h3 (Fv hzc len);have hr:b_ h ((eB 0 h).set nx (M (.cells (M ty) cs))):=(b_.kill 0 h).trans (b_.set λr hr=>by rw[bS,(hinv.kill 0).fresh]at hr;cases hr);have c:=gm hr _ _ h2;refine ⟨_,_,_,_,_,hk,iW.new hinv hc Z (y0:=.row (nm nx) sz len) (rdl:=[]) (b0:=⟨ty,pA cs'⟩) (by simp only[eL,h1,ax hl]) (dS.zero h) (λty' l' he=>?_) (λH1 H2 d g b' a=>?_) (λH1 H2 y d g s=>?_) (by simp)⟩
     .cases he;exact j8 _ _ _ c
     .simp only[jF,c,ah]at a;subst a;obtain⟨L,A⟩:=nZ cs';refine iN.cells A rfl ?_ λx U=>?_
      .rw[L];exact ic.refl d _
      .exact md (sq h2 hcs) x U
     .simp only[ct,ah]at s;subst s;exact lO.refl d _
   .cases hk
  .cases hk
theorem ap1 {con:FuncId->I cA} {b9:TypeId->I Ty} {ty:TypeId} {sz bytes:Nat} {s x:Operand} (hc:dw P o.op=M (.app ty sz bytes s x)) (hk:dX con b9 (.op (.app ty sz bytes s x)) e h nx K=M r):kW P o af e h nx K r:=by
 cases hcm:DV (b9 ty) with
 |none=>exact alk hinv hi hcm hc hk
 |some n0=>
  obtain⟨H,hH⟩:=jV h;have hfr:=hinv.fresh;simp only[dX,hcm]at hk;split at hk
  .rename_i b y hv hv2;obtain⟨yb,h1,h2⟩:=bJ hi hv;obtain⟨yy,h3,h4⟩:=bJ hi hv2;unfold ahx at hk;split at hk
   .rename_i id2 sz2 m;simp only[ct,ah]at h4;subst h4;split at hk
    .rename_i ty2 l2 a;split at hk
     .rename_i hq;simp only[al,cW]at hq;obtain⟨⟨q1,q2⟩,q3⟩:=hq;have q1:=ar q1;have q2:=ar q2;have q3:m≠0:=λe=>by rw[e]at q3;cases q3
      subst q1;obtain⟨c,U⟩:=fd h l2 (hinv.cells id2 _ l2 a);have hrow:=afk hH a U q2;split at hk
      .rename_i id sz1 n;simp only[ct,ah]at h2;subst h2;split at hk
       .rename_i ty1 l1 A;split at hk
        .rename_i hq;simp only[al,cW]at hq;obtain⟨⟨⟨p1,p2⟩,p3⟩,p4⟩:=hq;have p1:=ar p1;have p2:=eq_of_beq p2;have p3:=ar p3;have p4:id≠id2:=λe=>by rw[e,rV]at p4;cases p4
         subst p1;subst p2;obtain⟨hroom,hk⟩:=ec hk;obtain⟨z,Z⟩:=fd h l1 (hinv.cells id _ l1 A);have hln:=gK Z;have hg:H.get (nm id)=M ⟨ty1,.mx z⟩:=by rw[hH,bF,A];simp only[aF,jF,Z]
         have hidlt:id<nx:=hinv.low id _ A;generalize hB:iu.cells (M ty1) (l1++l2)=B at hk;have hd1:b_ h (h.set id (M (.dead J 0 0))):=b_.set λr hr=>by rw[bS,A]at hr;cases hr
         have hd2:b_ (h.set id (M (.dead J 0 0))) ((h.set id (M (.dead J 0 0))).set nx (M B)):=b_.set λr hr=>by
          rw[bS,PT.get_set,ax (by omega),hfr]at hr;cases hr
         have hr:=hd1.trans hd2;have hsp:cJ ((h.set id (M (.dead J 0 0))).set nx (M B)) (l1++l2)=M (z++c):=gm hr _ _ (nJ Z U);have L:bu ((h.set id (M (.dead J 0 0))).set nx (M B)) (nm nx)=M ⟨ty1,.mx (z++c)⟩:=by rw[bF,PT.get_set,aC rfl,<-hB]at *;simp only[aF,jF,hsp]
         have hbd:bu ((h.set id (M (.dead J 0 0))).set nx (M B)) (nm id)=D:=by rw[bF,PT.get_set,ax (by omega),PT.get_set,aC rfl];rfl
         have hinv1:mo (h.set id (M (.dead J 0 0))) nx:=hinv.set hd1 hidlt (bP _) (λ_ _ he=>by cases he);have ha:eL (.app ty1 sz1 bytes s x) (JE e h) H (nm nx)=M ⟨.row (nm nx) sz1 (n+m),[nm id,nm id2],[nm nx,nm id],[(nm nx,⟨ty1,pA (z++c)⟩)],[nm nx]⟩:=by
          simp only[eL,h1,h3,hrow,hg];rw[aC (by
           simp only[cU,ib,Bool.and_true,BC.isCells,BC.len,hroom,al,cW];refine ⟨?_,bD (by omega)⟩;simp only[Ur,Bool.or_false];cases hq:aA (nm id2) (nm id) with
           |false=>rfl
           |true=>exact bZ (kY (ar hq)).symm p4)]
          simp only[BC.toMx,gf (show z.length<=n*sz1 by omega)]
         refine ⟨_,_,_,_,_,hk,iW.mk' hc hH ha [nm nx,nm id] (λi hi=>hi) (λq hq=>?_) (λi hi b' hbb=>?_) (λH1 H2 d hw1 _ hw2=>⟨λi hi b b' hb a=>?_,λy hy=>?_⟩) (λq hq=>?_) (λq hq=>?_) (λq hq=>?_) hr (hinv1.set hd2 (by omega) (by omega) λty' l' he=>?_) (by omega)⟩
         .simp only[bk,cB,gj,not_or]at hq;refine kB hinv hr λi ei=>?_
          subst ei;rw[PT.get_set,ax (λe=>hq.1 (by rw[e])),PT.get_set,ax (λe=>hq.2 (by rw[e]))]
         .simp only[bk,cB,gj]at hi;rcases hi with rfl|rfl
          .rw[aC (by simp)];exact⟨_,iw _ _⟩
          .rw[hbd]at hbb;cases hbb
         .simp only[bk,cB,gj]at hi;rcases hi with rfl|rfl
          .rw[hw1 _ (by simp),iw]at hb;rw[hw2 _ (by simp),L]at a;simp only[ah]at hb a;subst hb;subst a;obtain⟨m1,m2⟩:=nZ (z++c);exact iN.eq d m2 rfl m1
          .rw[hw2 _ (by simp),hbd]at a;cases a
         .simp only[ct,ah]at hy;subst hy;exact lO.refl d _
         .simp only[bk,cB,gj]at hq;rw[bp,jb];rcases hq with rfl|rfl
          .rw[dU];exact .inl (bW.2 rfl)
          .rw[dU];exact .inr (bW.2 rfl)
         .simp only[bk,cB,gj]at hq;rw[bp,jb];rcases hq with rfl|rfl
          .rw[dU];exact .inr (bW.2 rfl)
          .rw[dU];exact .inl (bW.2 rfl)
         .simp only[aI]at hq;subst hq;rw[dU];omega
         .rw[<- hB]at he;cases he;exact j8 _ _ _ hsp
        .cases hk
       .cases hk
      .simp only[ct,ah]at h2;subst h2;obtain⟨hroom,hk⟩:=ec hk;have hr:b_ h ((eB 0 h).set nx (M (.cells (M ty) l2))):=(b_.kill 0 h).trans (b_.set λr hr=>by rw[bS,(hinv.kill 0).fresh]at hr;cases hr);have h2':=gm hr _ _ U;refine ⟨_,_,_,_,_,hk,iW.new hinv hc hH (y0:=.row (nm nx) sz2 m) (rdl:=[nm id2]) (b0:=⟨ty,pA c⟩) (by simp only[eL,h1,h3,hrow];simp[I2,tL,hroom,q3]) (dS.zero h) (λty' l' he=>?_) (λH1 H2 d g b' L=>?_) (λH1 H2 y d g hy=>?_) (λn hn=>?_)⟩
       .cases he;exact j8 _ _ _ h2'
       .simp only[jF,h2',ah]at L;subst L;obtain⟨p1,p2⟩:=nZ c;exact iN.eq d p2 rfl p1
       .simp only[ct,ah]at hy;subst hy;exact lO.refl d _
       .simp only[aI]at hn;subst hn;rw[dU];exact bW.2 rfl
      .cases hk
     .cases hk
    .cases hk
   .cases hk
  .cases hk
theorem aoe {con:FuncId->I cA} {b9:TypeId->I Ty} {sz:Nat} {x:Operand} {lo hi' mx:I Operand} (hc:dw P o.op=M (.slc sz x lo hi' mx)) (hk:dX con b9 (.op (.slc sz x lo hi' mx)) e h nx K=M r):kW P o af e h nx K r:=by
 have hfr:=hinv.fresh;simp only[dX]at hk;split at hk
 .rename_i v hv;obtain⟨y,h1,h2⟩:=bJ hi hv;split at hk
  .split at hk
   .rename_i hn;obtain⟨n,hn⟩:=iT.1 hn;have L:=QI hn h2;exact kW.q (k:=0) hinv hc (λH _=>by simp only[eL,h1,L,Option.isSome_some,bG]) (dz rfl) hk
   .cases hk
  .rename_i b;split at hk
   .rename_i T xs k j hb;obtain⟨y2,L,A⟩:=bJ hi hb;simp only[ct,ah]at h2 A;subst h2;subst A;split at hk
    .rename_i hs;have hs:=ar hs;subst hs;obtain⟨hj,hk⟩:=ec hk;have hfl:=fH (bC T) xs;have hcond:(cZ 0 j&&cZ j (ai xs)&&eO (ai xs*T.size) (xs.flatMap (bT T)).length)=J:=by
      rw[hj,ib];exact bD (by omega)
     simp only[cZ,al,bB]at hj;have hlen:(xs.take j.toNat).length=j.toNat:=by rw[bA];omega
     exact kW.q (k:=0) (y0:=.f (.sl ((xs.flatMap (bT T)).take (j.toNat*T.size)) j.toNat)) hinv hc (λH _=>by simp only[eL,h1,L,gC,hcond,bG]) (dz (by simp only[ct,gC];rw[As (bC T),hlen])) hk
    .cases hk
   .rename_i id k j hb;obtain⟨y2,L,A⟩:=bJ hi hb;simp only[ct,ah]at A;subst A;split at hk
    .rename_i ty p T xs a;split at hk
     .rename_i hs;have hs:=ar hs;subst hs;obtain⟨hj,hk⟩:=ec hk;obtain⟨H,hH⟩:=jV h;have hj0:=hj;simp only[cZ,fJ,al,bB]at hj;have hp:¬((p&&xs.length==0)=J):=by
       simp only[al,cV];omega
      simp only[ct,bS,a,aF,mV,fE,ax hp,ah]at h2;subst h2;have hidlt:=hinv.low id _ a;have hne:nx≠id:=by omega
      have hg:H.get (nm id)=M ⟨ty,.fz (xs.flatMap (bT T))⟩:=by rw[hH,bF,a];simp only[aF,jF,ax hp]
      have fl:=fH (bC T) xs;have hcond:(T.size==T.size&&cZ 0 j&&cZ j (ai xs))=J:=by
       simp only[cZ,al,bB,cU,BB];omega
      have hlen:(xs.take j.toNat).length=j.toNat:=by rw[bA];omega
      have ha0:eL (.slc T.size x D (M b) D) (JE e h) H (nm nx)=M ⟨.row (nm nx) T.size j.toNat,[nm id],[nm nx,nm id],[(nm nx,⟨ty,.fz ((xs.take j.toNat).flatMap (bT T))⟩)],[nm nx]⟩:=by
       have hc2:((BC.fz (xs.flatMap (bT T))).isCells&&eO (ai xs*T.size) (BC.fz (xs.flatMap (bT T))).len)=J:=by
        simp only[BC.isCells,ib,BC.len];exact bD (by omega)
       simp only[eL,h1,L,gC,hcond,bG,hg,hc2,BC.toMx,<-kS,CV,As (bC T)]
      generalize hh':(h.set id (M (.dead p T.size (ai xs)))).set nx (M (.rows ty af T (dJ j.toNat xs)))=h' at hk;have hrA:b_ h (h.set id (M (.dead p T.size (ai xs)))):=b_.set λr hr=>by rw[bS,a]at hr;exact hr
      have s:∀i,h'.get i=if i=nx then M (.rows ty af T (dJ j.toNat xs)) else if i=id then M (.dead p T.size (ai xs)) else h.get i:=λi=>by rw[<- hh',PT.get_set,PT.get_set]
      have hr:b_ h h':=by
       rw[<- hh'];refine hrA.trans (b_.set λr hr=>?_);rw[bS,PT.get_set,ax hne,hfr]at hr;cases hr
      have hinv':mo h' (nx+1):=by
       refine ⟨λi ty l hil=>?_,λi c hic=>?_⟩
       .rw[s]at hil;split at hil
        .cases hil
        .split at hil
         .cases hil
         .exact jd hr l (hinv.cells i _ l hil)
       .rw[s]at hic;split at hic
        .omega
        .split at hic
         .omega
         .have:=hinv.low i c hic;omega
      have hsame:∀n,n≠nm nx->n≠nm id->bu h' n=bu h n:=λn h1 h2=>kB hinv hr λi e=>by
       subst e;rw[s,ax (λe=>h1 (by rw[e])),ax (λe=>h2 (by rw[e]))]
      have hdead:bu h' (nm id)=D:=by rw[bF,s,ax (by omega),aC rfl];rfl
      have hnew:bu h' (nm nx)=M ⟨ty,.fz ((xs.take j.toNat).flatMap (bT T))⟩:=by rw[bF,s,aC rfl];rfl
      have hval:ct h' (.row nx)=M (.row (nm nx) T.size j.toNat):=by simp only[ct,bS,s,bG,aF,mV,fE,lB,ci,dP,hlen]
      refine ⟨_,_,_,_,_,hk,?_⟩;refine iW.mk' hc hH ha0 [nm nx,nm id] (λi hi=>hi) (λn hn=>?_) (λi hi b' hb'=>?_) (λH1 H2 d hw1 _ Z=>⟨λi hi b b' U z=>?_,λy hy=>?_⟩) (λn hn=>?_) (λn hn=>?_) (λn hn=>by simp only[aI]at hn;subst hn;rw[dU];omega) hr hinv' (by omega)
      .simp only[bk,cB,gj,not_or]at hn;exact hsame n hn.1 hn.2
      .simp only[bk,cB,gj]at hi;rcases hi with rfl|rfl
       .exact⟨_,by rw[aC (by simp)];exact iw _ _⟩
       .rw[hdead]at hb';cases hb'
      .simp only[bk,cB,gj]at hi;rcases hi with rfl|rfl
       .rw[hw1 _ (by simp),iw]at U;rw[Z _ (by simp),hnew]at z;simp only[ah]at U z;subst U;subst z;exact iN.refl d _
       .rw[Z _ (by simp),hdead]at z;cases z
      .rw[hval]at hy;simp only[ah]at hy;subst hy;exact lO.refl d _
      .simp only[aI]at hn;subst hn;rw[dU];exact bW.2 rfl
      .simp only[bk,cB,gj]at hn;rcases hn with rfl|rfl<;>rw[dU,bp,bW.2 rfl]<;>simp
     .cases hk
    .cases hk
   .cases hk
  .rename_i b;split at hk
   .rename_i T xs k j hb;obtain⟨y2,L,A⟩:=bJ hi hb;simp only[ct,ah]at h2 A;subst h2;subst A;split at hk
    .rename_i hs;have hs:=ar hs;subst hs;obtain⟨hj,hk⟩:=ec hk;have hfl:=fH (bC T) xs;have hcond:(cZ 0 j&&cZ j (ai xs)&&eO (ai xs*T.size) (xs.flatMap (bT T)).length)=J:=by
      rw[hj,ib];exact bD (by omega)
     simp only[cZ,al,bB]at hj;have hlen:(xs.drop j.toNat).length=ai xs-j.toNat:=by rw[mR]
     have htk:((xs.flatMap (bT T)).drop (j.toNat*T.size)).take ((ai xs-j.toNat)*T.size)=(xs.flatMap (bT T)).drop (j.toNat*T.size):=by
      refine gf ?_;rw[mR,hfl,Nat.sub_mul];exact bP _
     exact kW.q (k:=0) (y0:=.f (.sl ((xs.flatMap (bT T)).drop (j.toNat*T.size)) (ai xs-j.toNat))) hinv hc (λH _=>by simp only[eL,h1,L,gC,hcond,bG,htk]) (dz (by simp only[ct,gC];rw[Jz (bC T),hlen])) hk
    .cases hk
   .rename_i id k j hb;obtain⟨y2,L,A⟩:=bJ hi hb;simp only[ct,ah]at A;subst A;split at hk
    .rename_i ty p T xs a;split at hk
     .rename_i hs;have hs:=ar hs;subst hs;obtain⟨hj,hk⟩:=ec hk;have hcond:(T.size==T.size&&cZ 0 j&&fJ j (ai xs))=J:=by
       simp only[al]at hj;rw[hj.1,hj.2,cU];rfl
      simp only[cZ,fJ,al,bB]at hj;have hp:¬((p&&xs.length==0)=J):=by
       simp only[al,cV];omega
      simp only[ct,bS,a,aF,mV,fE,ax hp,ah]at h2;subst h2;exact kW.q (k:=0) (y0:=.sl (nm id) (j.toNat*T.size) (ai xs-j.toNat)) hinv hc (λH _=>by simp only[eL,h1,L,gC,hcond,bG]) (dz (by simp only[ct,bS,a,aF,mV])) hk
     .cases hk
    .cases hk
   .cases hk
  .cases hk
 .cases hk
theorem aox {con:FuncId->I cA} {b9:TypeId->I Ty} {sz:Nat} {z:ξ} {x:Operand} (hc:dw P o.op=M (.clr sz z x)) (hk:dX con b9 (.op (.clr sz z x)) e h nx K=M r):kW P o af e h nx K r:=by
 obtain⟨H,Z⟩:=jV h;simp only[dX]at hk;split at hk
 .rename_i id j hv;split at hk
  .rename_i ty p T xs hb;split at hk
   .rename_i hs;simp only[al]at hs;obtain⟨⟨hs,c⟩,hco⟩:=hs;have hs:=ar hs;have c:=KI c;subst hs;subst c;obtain⟨hj,hk⟩:=ec hk;simp only[cZ,fJ,al,bB]at hj;obtain⟨j0,j1⟩:=hj;obtain⟨y,h1,h2⟩:=bJ hi hv;simp only[ct,bS,hb,aF,mV,ah]at h2;subst h2;have hp:¬((p&&xs.length==0)=J):=by
     simp only[al,cV];omega
    have fl:=fH (bC T) xs;have hg:H.get (nm id)=M ⟨ty,.fz (xs.flatMap (bT T))⟩:=by rw[Z,bF,hb];simp only[aF,jF,ax hp]
    have hrl:(repl (s9 T) (xs.length-j.toNat)).length=(xs.length-j.toNat)*T.size:=by
     have h9:=(HM (H:=λ_=>D) (H':=λ_=>D) (λn b hb=>by cases hb) T (xs.length-j.toNat)).length;rw[bR,bR,fH (bC T),b8]at h9;exact h9.symm
    have hoff:j.toNat*T.size+(xs.length-j.toNat)*T.size=xs.length*T.size:=by rw[<- NP];congr 1;omega
    have hput:(BC.fz (xs.flatMap (bT T))).put (j.toNat*T.size) ((repl (s9 T) (xs.length-j.toNat)).map .f)=M (.fz (splice (xs.flatMap (bT T)) (j.toNat*T.size) (repl (s9 T) (xs.length-j.toNat)))):=by
     unfold BC.put;rw[aC]
     .simp only[KQ]
     .simp only[al];refine ⟨⟨rfl,bD ?_⟩,GY _ λq hq=>?_⟩
      .simp only[BC.len,bR];omega
      .obtain⟨v,hv,rfl⟩:=Qp _ q hq;exact gA.1 hco v hv
    have hblt:gx 0 (xs.length-j.toNat)=J:=bD (by omega);have L:eL (.clr T.size (s9 T) x) (JE e h) H (nm nx)=M ⟨.tup [],[nm id],[nm id],[(nm id,⟨ty,.fz (splice (xs.flatMap (bT T)) (j.toNat*T.size) (repl (s9 T) (xs.length-j.toNat)))⟩)],[]⟩:=by
     simp only[eL,h1,hg,hblt,bG,hput]
    have hlen:(dJ j.toNat xs++aB (ai xs-j.toNat) T.zero).length=xs.length:=by
     rw[be,bA,b8];omega
    have hrow:mV (.rows ty p T (dJ j.toNat xs++aB (ai xs-j.toNat) T.zero))=mV (.rows ty p T xs):=by simp only[mV,hlen]
    refine ⟨_,_,_,_,_,hk,iW.wrt (m:=0) (v:=.tup []) (rd:=kE id) hinv hc Z L hb (dS.zero h) (by simp) hrow (λ_ _ he=>by cases he) (λH1 H2 d g b' a=>?_) (λH1 H2 y d g U=>?_) (λn hn=>?_)⟩
    .have A:¬((p&&(dJ j.toNat xs++aB (ai xs-j.toNat) T.zero).length==0)=J):=by rw[hlen];exact hp
     simp only[jF,ax A,ah]at a;subst a;refine iN.cells rfl rfl ?_ λq hq=>?_
     .simp only[BC.toMx];unfold splice;rw[hrl,hoff,<-fl,List.drop_length,kc,List.flatMap_append,As (bC T),cS,cS];exact (ic.refl d _).append (HM d T _)
     .simp only[BC.toMx]at hq;obtain⟨q',s,rfl⟩:=di.1 hq;exact rP T _ q' s
    .simp only[ct,cJ,ah]at U;subst U;exact lO.refl d _
    .simp only[aI]at hn;subst hn;rw[dU];exact bW.2 rfl
   .cases hk
  .cases hk
 .cases hk
end ops
theorem Od {K V:Ty} {es:Y (K.den×V.den)} (a:mpE K V es=J):es.map (λp=>(pU K p.1,AV.f (gC V p.2)))=[]:=by
 unfold mpE at a;split at a
 .rfl
 .cases a
theorem aag {K V:Ty} {es:Y (K.den×V.den)} (a:mpE K V es=J):Up K=J:=by
 unfold mpE at a;split at a
 .rfl
 .cases a
theorem W1 {str:Bool} {K:Ty} (a:X6 str K=J):Up K=J:=by
 cases K<;>cases str<;>first|rfl|cases a
theorem Oh {str:Bool} {K:Ty} (a:X6 str K=J) (k k':K.den):tP .eql (pU K k) (pU K k')=M (.bool (PZ K k k'))/\zk str (pU K k)=J/\gC K k= .raw (pU K k):=by
 cases K<;>cases str<;>first|cases a|skip
 .exact⟨by simp only[tP,pU,PZ,cU,bG,ah,Cn];exact Bool.beq_eq_decide_eq _ _,rfl,rfl⟩
 .exact⟨by simp only[tP,pU,PZ,D3],rfl,rfl⟩
theorem QH {str:Bool} {K V:Ty} (a:X6 str K=J) (k:K.den):∀es:Y (K.den×V.den),tJ (pU K k) (es.map λp=>(pU K p.1,AV.f (gC V p.2)))=M ((wz k es).map λv=>AV.f (gC V v))
 |[]=>rfl
 |(k',v)::r=>by
  simp only[eS,tJ,(Oh a k k').1,wz];cases hb:PZ K k k' with
  |true=>rfl
  |false=>simp only[ci,dP];exact QH a k r
theorem WU {str:Bool} {K V:Ty} (a:X6 str K=J) (k:K.den) (v:V.den):∀es:Y (K.den×V.den),zh (pU K k) (.f (gC V v)) (es.map λp=>(pU K p.1,AV.f (gC V p.2)))=M ((ED k v es).map λp=>(pU K p.1,AV.f (gC V p.2)))
 |[]=>rfl
 |(k',c)::r=>by
  simp only[eS,zh,(Oh a k k').1,ED];cases hb:PZ K k k' with
  |true=>rfl
  |false=>simp only[WU a k v r,ci,dP,eS]
theorem ahj {h:bi} {ok b:Bool} {v:TV} {y:AV} (hv:ct h v=M y):ct h (pkT ok v (.f .bool b))=M (pkV ok y b):=by
 cases ok with
 |false=>exact hv
 |true=>simp only[pkT,pkV,ct,cJ,hv];rfl
section ops
variable {R:Type} {P:Program} {o:Oper} {e:iX} {h:bi} {nx:Nat} {K:KO R} {r:R}
theorem Le.aggOf {l:Y FV} (hc:∀x∈l,x.isCell=J):Le (.agg (l.map .f)) (.f (.agg l)):=by
 intro φ O w v hr;cases hr with
 |@agg _ vs hl hcl hrr=>
  refine .f (.agg l vs (by simpa using hl) hc λj y u a hu=>?_);have:=hrr j (.f y) u (by rw[ba,a];rfl) hu;cases this with
  |f h=>exact h
def Qw (S:Ty) (l:Y TV):I (S.den×Nat×Y TV):=match l with
 |c::r=>(match iR PT.leaf S c with|some (x,m)=>M (x,m,r)|none=>D)
 |[]=>D
theorem MS:∀{l a:Y FV},l.map AV.f=a.map AV.f->l=a
 |[],[],_=>rfl
 |[],_::_,h=>by simp at h
 |_::_,[],h=>by simp at h
 |x::r,y::r',h=>by
  simp only[eS,ja,AV.f.injEq]at h;rw[h.1,MS h.2]
theorem Iz (h:bi):∀(ds:Y TypeDesc) (T:Ty),q_ ds=M T->∀(n:Nat) (l:Y TV) (x:T.den) (m:Nat) (r:Y TV),e9 PT.leaf n T l=M (x,m,r)->∀A,cJ h l=M A->∃l2,cJ h r=M l2/\A=(bT T x).map .f++l2
 |[],T,hd,n,l,x,m,r,hp,A,hl=>by
  simp only[q_,ah]at hd;subst hd;cases n with
  |zero=>simp[e9]at hp
  |succ n=>
   simp only[e9,ah,aD]at hp;obtain⟨_,_,rfl⟩:=hp;exact⟨A,hl,rfl⟩
 |d::ds,T,hd,n,l,x,m,r,hp,A,hl=>by
  have plain:∀(S:Ty),S.one=J->(∀t,S≠ .sl t)->∀(v:TV) (a:S.den) (m:Nat) (y:AV),iR PT.leaf S v=M (a,m)->ct h v=M y->y= .f (gC S a):=by
   intro S Z hns v a m y s hy;cases v with
   |f Q q=>
    simp only[iR]at s;split at s
    .rename_i z hz;simp only[ah,aD]at s;obtain⟨rfl,_⟩:=s;obtain⟨e,rfl⟩:=ir hz;subst e;simp only[ct,ah]at hy;exact hy.symm
    .cases s
   |emp=>
    cases S with
    |sl t=>exact bZ rfl (hns t)
    |_=>simp[iR]at s
   |nil=>
    cases S with
    |sl t=>exact bZ rfl (hns t)
    |_=>simp[iR]at s
   |row id=>simp[iR,PT.get]at s
   |fel T xs j hj off=>simp[iR]at s
   |pel id sz j off=>simp[iR]at s
   |ptr id off=>simp[iR]at s
   |csl id off z=>simp[iR]at s
   |mp id=>simp[iR]at s
   |rtl id jj=>simp[iR]at s
   |agg q=>simp[iR]at s
   |tup q=>simp[iR]at s
   |clo f q=>simp[iR]at s
   |undef=>simp[iR]at s
   |np=>simp[iR]at s
   |anyb=>simp[iR]at s
  have one:∀(S:Ty),S.one=J->(∀t,S≠ .sl t)->∀(n:Nat) (l:Y TV) (a:S.den) (m:Nat) (r:Y TV),e9 PT.leaf n S l=M (a,m,r)->∀A,cJ h l=M A->∃l2,cJ h r=M l2/\A=(bT S a).map .f++l2:=by
   intro S Z hns n l a m r hp A hl;cases n with
   |zero=>simp[e9]at hp
   |succ n=>
    cases l with
    |nil=>
     cases S with
     |int k=>cases hp
     |bool=>cases hp
     |str=>cases hp
     |sl t=>exact bZ rfl (hns t)
     |_=>cases Z
    |cons c q=>
     have hpp:Qw S (c::q)=M (a,m,r):=by
      cases S with
      |int k=>simp only[e9]at hp;simp only[Qw];cases hq:iR PT.leaf (.int k) c with
       |none=>rw[hq]at hp;cases hp
       |some z=>rw[hq]at hp;exact hp
      |bool=>simp only[e9]at hp;simp only[Qw];cases hq:iR PT.leaf .bool c with
       |none=>rw[hq]at hp;cases hp
       |some z=>rw[hq]at hp;exact hp
      |str=>simp only[e9]at hp;simp only[Qw];cases hq:iR PT.leaf .str c with
       |none=>rw[hq]at hp;cases hp
       |some z=>rw[hq]at hp;exact hp
      |sl t=>exact bZ rfl (hns t)
      |_=>cases Z
     simp only[Qw]at hpp;split at hpp
     .rename_i a1 m1 h1;simp only[ah,aD]at hpp;obtain⟨rfl,rfl,rfl⟩:=hpp;obtain⟨y,l2,rfl,g1,g2⟩:=c4 hl;have:=plain S Z hns c a1 m1 y h1 g1;subst this;exact⟨l2,g2,by rw[(Do S a1 Z).1];rfl⟩
     .cases hpp
  have two:∀(S U:Ty),S.one=J->(∀t,S≠ .sl t)->q_ ds=M U->T= .pr S U->∃l2,cJ h r=M l2/\A=(bT T x).map .f++l2:=by
   intro S U Z hns L e;subst e;cases n with
   |zero=>simp[e9]at hp
   |succ n=>
    simp only[e9]at hp;split at hp
    .rename_i x1 m1 r1 h1;split at hp
     .rename_i x2 m2 r2 h2;simp only[ah,aD]at hp;obtain⟨rfl,rfl,rfl⟩:=hp;obtain⟨l2,g1,g2⟩:=one S Z hns n l x1 m1 r1 h1 A hl;obtain⟨l3,g3,g4⟩:=Iz h ds U L n r1 x2 m2 r2 h2 l2 g1;exact⟨l3,g3,by rw[g2,g4,bT,cS,iH]⟩
     .cases hp
    .cases hp
  cases d with
  |int k=>
   simp only[q_]at hd;split at hd
   .rename_i U L;simp only[ah]at hd;exact two (.int k) U rfl (λt h=>by cases h) L hd.symm
   .cases hd
  |bool=>
   simp only[q_]at hd;split at hd
   .rename_i U L;simp only[ah]at hd;exact two .bool U rfl (λt h=>by cases h) L hd.symm
   .cases hd
  |string=>
   simp only[q_]at hd;split at hd
   .rename_i U L;simp only[ah]at hd;exact two .str U rfl (λt h=>by cases h) L hd.symm
   .cases hd
  |_=>simp[q_]at hd
theorem Dm:∀(ds:Y TypeDesc) (T:Ty),q_ ds=M T->∀a b:T.den,pe ds (bT T a) (bT T b)=M (PZ T a b)
 |[],T,hd,a,b=>by simp only[q_,ah]at hd;subst hd;rfl
 |d::ds,T,hd,a,b=>by
  cases d with
  |int k=>
   simp only[q_]at hd;split at hd
   .rename_i U s;simp only[ah]at hd;subst hd;have q:=Dm ds U s a.2 b.2;simp only[bT,fI,j_,pe,xK,cU,bG,PZ];cases he:((a.1:Int)==b.1) with
    |true=>have c:(a.1:Int)=b.1:=by simpa using he
           simp only[q,c,dV,ib]
    |false=>have c:¬(a.1:Int)=b.1:=by simpa using he
            simp only[c,dj,lB]
   .cases hd
  |bool=>
   simp only[q_]at hd;split at hd
   .rename_i U s;simp only[ah]at hd;subst hd;have q:=Dm ds U s a.2 b.2;simp only[bT,fI,j_,pe,xK,PZ];cases he:((a.1:Bool)==b.1)<;>simp[he,q]
   .cases hd
  |string=>
   simp only[q_]at hd;split at hd
   .rename_i U s;simp only[ah]at hd;subst hd;have q:=Dm ds U s a.2 b.2;simp only[bT,fI,j_,pe,xK,PZ,D3];cases he:decide ((a.1:ζ)=b.1) with
    |true=>simp only[q,ib]
    |false=>simp only[lB]
   .cases hd
  |_=>simp[q_]at hd
theorem Nx {u:TV} (hu:u.isC=af) {lu:Y TV} (hl:u.cs=M lu) {ds:Y TypeDesc} {T:Ty} (hd:q_ ds=M T) {a:T.den} {m:Nat} (hp:e9 PT.leaf 40 T lu=M (a,m,[])) {y:AV} (c:ct h u=M y):Le y (.f (.agg (bT T a))):=by
 obtain⟨h1,_⟩:=Km hl c;obtain⟨l2,h2,q⟩:=Iz h ds T hd 40 lu a m [] hp _ h1;simp only[cJ,ah]at h2;subst h2;rw[kc]at q;cases u with
 |agg l=>
  simp only[ct]at c;split at c
  .rename_i s _;simp only[ah]at c;subst c;have:s=(bT T a).map .f:=q;rw[this];exact Le.aggOf (oh T a)
  .cases c
 |f S x=>
  simp only[ct,ah]at c;subst c;have A:S.one=af:=hu;rw[Au]at q;have:bT S x=bT T a:=MS q;rw[qK S x A,this];exact Le.refl _
 |tup l=>simp[TV.cs,TV.isC]at hl
 |undef=>simp[TV.cs,TV.isC]at hl
 |np=>cases hu
 |anyb=>simp[TV.cs,TV.isC]at hl
 |fel T xs j hj off=>cases hu
 |pel id sz j off=>cases hu
 |ptr id off=>cases hu
 |csl id off z=>cases hu
 |row id=>cases hu
 |emp=>cases hu
 |nil=>cases hu
 |mp id=>cases hu
 |rtl id L=>cases hl
 |clo g l=>cases hu
variable (hinv:mo h nx) (hi:tR e h)
include hinv hi
theorem aov {con:FuncId->I cA} {b9:TypeId->I Ty} {neg:Bool} {ds:Y TypeDesc} {x y:Operand} {st:Bool} (hc:dw P o.op=M (.eqs neg ds x y)) (hk:dX con b9 (.op (.eqs neg ds x y)) e h nx K=M r):kW P o st e h nx K r:=by
 obtain⟨H,hH⟩:=jV h;simp only[dX]at hk;split at hk
 .rename_i T u v hd hu hv;split at hk
  .cases hk
  .rename_i hcc;simp only[jb,not_or,Bool.not_eq_true]at hcc;split at hk
   .rename_i lu lv hlu hlv;split at hk
    .rename_i a m1 b m2 hpa hpb;obtain⟨yu,h1,h2⟩:=bJ hi hu;obtain⟨yv,h3,h4⟩:=bJ hi hv;obtain⟨⟨⟨Z,U⟩,hc3⟩,hc4⟩:=hcc;have l1:=Nx Z hlu hd hpa h2;have l2:=Nx U hlv hd hpb h4;have tmp:∀(z:Operand) (q:TV),fR e z=M q->q.isC=af->Uy z=af->∃t,z= .tmp t:=by
      intro z q A hq hg;cases z with
      |tmp t=>exact⟨t,rfl⟩
      |const c=>
       have A:cst c=M q:=by
        simp only[fR,ajc]at A;split at A
        .cases hg
        .exact A
       have:=(Kk h A).2.2;rw[hq]at this;cases this
      |func g=>simp only[fR,ah]at A;subst A;cases hq
      |global g=>
       simp only[fR]at A;split at A
       .cases A;cases hq
       .cases A
     obtain⟨t,rfl⟩:=tmp x u hu Z hc3;obtain⟨t',rfl⟩:=tmp y v hv U hc4;have same:t=t'->bT T a=bT T b:=by
      intro ht;subst ht;rw[hu]at hv;cases hv;rw[hlu]at hlv;cases hlv;rw[hpa]at hpb;cases hpb;rfl
     let L:Ab:=((JE e h).set t (M (.f (.agg (bT T a))))).set t' (M (.f (.agg (bT T b))))
     have e1:mT L (.tmp t)=M (.f (.agg (bT T a))):=by
      simp only[mT,L,PT.get_set];by_cases ht:t=t'
      .rw[aC ht,same ht]
      .rw[ax ht];simp
     have e2:mT L (.tmp t')=M (.f (.agg (bT T b))):=by simp only[mT,L,PT.get_set,bG]
     have ha:eL (.eqs neg ds (.tmp t) (.tmp t')) L H 0=M ⟨raw (.bool (PZ T a b !=neg)),[],[],[],[]⟩:=by
      simp only[eL,e1,e2,Dm ds T hd a b];rfl
     have ht:=IB hc ha;rw[hH]at ht;have ht2:gP P o (fM e h) (bu h) _:=ht.envLe (e2:=fM e h) λs z _ A=>by
      simp only[L,PT.get_set]at A;rw[<- vp];simp only[mT]at h1 h3;split at A
      .rename_i es;subst es;cases A;exact⟨yv,h3,l2⟩
      .split at A
       .rename_i es;subst es;cases A;exact⟨yu,h1,l1⟩
       .exact⟨z,A,Le.refl _⟩
     refine ⟨_,0,0,h,nx,hk,⟨⟨_,ht2,λy hy=>?_,by simp[Ck.eff,ua],by simp[Ck.eff],by simp[Ck.eff],by simp[Ck.eff]⟩,λ_ _ h=>h,hinv,bP _,λ_=>⟨rfl,rfl⟩⟩⟩;simp only[ct,ah]at hy;exact hy
    .cases hk
   .cases hk
 .cases hk
theorem aoj {con:FuncId->I cA} {b9:TypeId->I Ty} (hc:dw P o.op=M .mkm) (hk:dX con b9 (.op .mkm) e h nx K=M r):kW P o af e h nx K r:=by
 have _:=hi;obtain⟨H,q⟩:=jV h;refine ⟨_,_,_,_,_,hk,iW.new hinv hc q (y0:=.mp (nm nx)) (rdl:=[]) (b0:=⟨0,.mp []⟩) rfl (dS.zero h) (λ_ _ he=>by cases he) (λz s d g b' a=>?_) (λz s y d g c=>?_) (by simp)⟩
 .cases a;exact iN.refl d _
 .simp only[ct,ah]at c;subst c;exact lO.refl d _
theorem alf {con:FuncId->I cA} {b9:TypeId->I Ty} {x:Operand} (hc:dw P o.op=M (.lenm x)) (hk:dX con b9 (.op (.lenm x)) e h nx K=M r):kW P o af e h nx K r:=by
 obtain⟨H,c⟩:=jV h;simp only[dX]at hk;split at hk
 .rename_i id hv;split at hk
  .rename_i K' V es hb;obtain⟨y,h1,h2⟩:=bJ hi hv;simp only[ct,ah]at h2;subst h2;split at hk
   case isFalse=>cases hk
   rename_i hO;have hg:H.get (nm id)=M ⟨0,.mp (es.map λp=>(pU K' p.1,.f (gC V p.2)))⟩:=by rw[c,bF,hb];show M (vT.mk 0 (mpC K' V es))=_;rw[zg hO]
   exact⟨_,_,_,_,_,hk,iW.pure (k:=0) hinv hc c (y0:=raw (.int .i64 es.length)) (rdl:=[nm id]) (by simp only[eL,h1,hg,bR]) (λy a=>by simp only[ct,ah]at a;subst a;exact Le.refl _) (λn hn=>by simp only[aI]at hn;subst hn;rw[dU];exact bW.2 rfl) (λh=>by cases h)⟩
  .cases hk
 .cases hk
theorem aon {con:FuncId->I cA} {b9:TypeId->I Ty} {str ok:Bool} {z:Value} {x k:Operand} (hc:dw P o.op=M (.lku str ok z x k)) (hk:dX con b9 (.op (.lku str ok z x k)) e h nx K=M r):kW P o af e h nx K r:=by
 obtain⟨H,U⟩:=jV h;simp only[dX]at hk;split at hk
 .rename_i id KT c hv L;split at hk
  .rename_i K' V es hb;split at hk
   .rename_i a;obtain⟨y,h1,h2⟩:=bJ hi hv;obtain⟨y2,A,h4⟩:=bJ hi L;simp only[ct,ah]at h2 h4;subst h2;subst h4;simp only[al]at a;have hg:H.get (nm id)=M ⟨0,.mp (es.map λp=>(pU K' p.1,.f (gC V p.2)))⟩:=by rw[U,bF,hb];show M (vT.mk 0 (mpC K' V es))=_;rw[zg a.2]
    obtain⟨_,hok,henc⟩:=Oh a.1 c c;rw[henc]at A;have hrd:∀n∈[nm id],aM (kE id) (ow n)=J:=λn hn=>by simp only[aI]at hn;subst hn;rw[dU];exact bW.2 rfl
    split at hk
    .rename_i hE;split at hk
     .rename_i v hz;have hzz:=(Kk h hz).1;exact⟨_,_,_,_,_,hk,iW.pure (k:=0) hinv hc U (y0:=pkV ok (raw z) af) (rdl:=[nm id]) (by simp only[eL,h1,A,hg,hok,bG,Od hE,tJ]) (λy s=>by rw[ahj hzz]at s;cases s;exact Le.refl _) hrd (λh=>by cases h)⟩
     .cases hk
    .split at hk
     .rename_i kv' Z zv hkv hz;split at hk
      .rename_i zv' hzv;obtain⟨e1,e2⟩:=ir hkv;cases e1;subst e2;obtain⟨e3,e4⟩:=ir hzv;cases e3;subst e4;have hzz:=(Kk h hz).1;simp only[ct,ah]at hzz;refine ⟨_,_,_,_,_,hk,iW.pure (k:=0) hinv hc U (y0:=pkV ok (.f (gC _ (wy kv' es zv'))) (aj1 kv' es)) (rdl:=[nm id]) ?_ (λy s=>by rw[ahj (y:=.f (gC _ (wy kv' es zv'))) rfl]at s;cases s;exact Le.refl _) hrd (λh=>by cases h)⟩;simp only[eL,h1,A,hg,hok,bG,QH a.1];unfold wy aj1;cases hf:wz kv' es with
       |none=>simp only[Option.map_none];rw[hzz]
       |some v=>rfl
      .cases hk
     .cases hk
   .cases hk
  .rename_i l hb;split at hk
   .rename_i n hkv;split at hk
    case isFalse=>cases hk
    rename_i a;simp only[al]at a;split at hk
    .rename_i v hlv;obtain⟨e1,e2⟩:=ir hkv;cases e1
     replace e2:n=c:=e2
     subst n;obtain⟨y,h1,h2⟩:=bJ hi hv;obtain⟨y2,A,h4⟩:=bJ hi L;simp only[ct,ah]at h2 h4;subst h2;subst h4;obtain⟨l',hl⟩:=fd h l (hinv.cells id _ l hb);obtain⟨y,s,hey⟩:=lm hl _ _ hlv;have hg:H.get (nm id)=M ⟨1,.mp (oU 0 l')⟩:=by rw[U,bF,hb];simp only[aF,jF,hl]
     have ht:told c (oU 0 l')=M y:=by
      have h0:(0:Int)<=c:=a8 a.2.1;have hn:(c:Int)=aN (0+aQ c):=by rw[bI];exact (fA h0).symm
      rw[hn,MW];exact s
     have henc:gC (.int .i64) c= .raw (.int .i64 c):=rfl;rw[henc]at A;exact⟨_,_,_,_,_,hk,iW.pure (k:=0) hinv hc U (y0:=y) (rdl:=[nm id]) (by simp only[eL,h1,A,hg,a.1.1,a.1.2.1,a.1.2.2,jG,bG,ht]) (λq hq=>by rw[hey]at hq;cases hq;exact Le.refl _) (λn hn=>by simp only[aI]at hn;subst hn;rw[dU];exact bW.2 rfl) (λh=>by cases h)⟩
    .cases hk
   .cases hk
  .cases hk
 .cases hk
theorem aoi {con:FuncId->I cA} {b9:TypeId->I Ty} {str:Bool} {x k v:Operand} (hc:dw P o.op=M (.mup str x k v)) (hk:dX con b9 (.op (.mup str x k v)) e h nx K=M r):kW P o af e h nx K r:=by
 obtain⟨H,hH⟩:=jV h;simp only[dX]at hk;split at hk
 .rename_i id KT a VT vv hv A z;split at hk
  .rename_i K' V es hb;split at hk
   .rename_i q;simp only[al]at q;obtain⟨y,h1,h2⟩:=bJ hi hv;obtain⟨y2,Z,h4⟩:=bJ hi A;obtain⟨L,h5,h6⟩:=bJ hi z;simp only[ct,ah]at h2 h4 h6;subst h2;subst h4;subst h6;have hg:H.get (nm id)=M ⟨0,.mp (es.map λp=>(pU K' p.1,.f (gC V p.2)))⟩:=by rw[hH,bF,hb];show M (vT.mk 0 (mpC K' V es))=_;rw[zg q.2]
    obtain⟨_,hok,henc⟩:=Oh q.1.1 a a;rw[henc]at Z;have hrd:∀n∈[nm id],aM (kE id) (ow n)=J:=λn hn=>by simp only[aI]at hn;subst hn;rw[dU];exact bW.2 rfl
    split at hk
    .rename_i hE;exact⟨_,_,_,_,_,hk,iW.wrt (k:=0) (m:=0) (v:=.undef) (rd:=kE id) hinv hc hH (y0:=raw undef) (b0:=⟨0,.mp [(pU KT a,.f (gC VT vv))]⟩) (rdl:=[nm id]) (by simp only[eL,h1,Z,h5,hg,hok,bG,Od hE,zh]) (B:=.mp KT VT [(a,vv)]) hb (dS.zero h) (by simp) rfl (λty' l2 he=>by cases he) (λH1 H2 d g b' c=>by simp only[jF,zg (W1 q.1.1),ah]at c;subst c;exact iN.refl d _) (λH1 H2 y d g s=>by simp only[ct,ah]at s;subst s;exact lO.refl d _) hrd⟩
    .split at hk
     .rename_i kv' vv' hkv hvv;obtain⟨e1,e2⟩:=ir hkv;cases e1;subst e2;obtain⟨e3,e4⟩:=ir hvv;cases e3;subst e4;exact⟨_,_,_,_,_,hk,iW.wrt (k:=0) (m:=0) (v:=.undef) (rd:=kE id) hinv hc hH (y0:=raw undef) (b0:=⟨0,.mp ((ED kv' vv' es).map λp=>(pU _ p.1,.f (gC _ p.2)))⟩) (rdl:=[nm id]) (by simp only[eL,h1,Z,h5,hg,hok,bG,WU q.1.1]) (B:=.mp _ _ (ED kv' vv' es)) hb (dS.zero h) (by simp) rfl (λty' l2 he=>by cases he) (λH1 H2 d g b' c=>by simp only[jF,zg (W1 q.1.1),ah]at c;subst c;exact iN.refl d _) (λH1 H2 y d g s=>by simp only[ct,ah]at s;subst s;exact lO.refl d _) hrd⟩
     .cases hk
   .cases hk
  .cases hk
 .rename_i id KT a i hv A z;split at hk
  .rename_i l hb;split at hk
   .rename_i n hkv;split at hk
    case isFalse=>cases hk
    rename_i q;simp only[al]at q;obtain⟨e1,e2⟩:=ir hkv;cases e1
    replace e2:n=a:=e2
    subst n;obtain⟨y,h1,h2⟩:=bJ hi hv;obtain⟨y2,Z,h4⟩:=bJ hi A;obtain⟨L,h5,h6⟩:=bJ hi z;simp only[ct,ah]at h2 h4;subst h2;subst h4;obtain⟨U,hl⟩:=fd h l (hinv.cells id _ l hb);have hg:H.get (nm id)=M ⟨1,.mp (oU 0 U)⟩:=by rw[hH,bF,hb];simp only[aF,jF,hl]
    have h0:(0:Int)<=a:=a8 q.2.1;have h9:(a:Int)<(l.length:Int):=a8 q.2.2;have hlen:=gK hl;have hn:(a:Int)=aN (0+aQ a):=by rw[bI];exact (fA h0).symm
    have ht:lV a L (oU 0 U)=oU 0 (splice U (aQ a) [L]):=by
     rw[T4 (by rw[hlen];exact (Int.toNat_lt h0).2 h9)]
     conv=>lhs;rw[hn]
     exact QJ L U 0 _
    have hs:cJ h (splice l (aQ a) [.row i])=M (splice U (aQ a) [L]):=pV _ hl (by simp only[cJ,h6]);have hr:b_ h (h.set id (M (.cells D (splice l (aQ a) [.row i])))):=b_.set λr hr=>by rw[bS,hb]at hr;cases hr
    have henc:gC (.int .i64) a= .raw (.int .i64 a):=rfl;rw[henc]at Z;have hstr:str=af:=by cases str with
     |false=>rfl
     |true=>cases q.1
    subst hstr;exact⟨_,_,_,_,_,hk,iW.wrt (k:=0) (m:=0) (v:=.undef) (rd:=kE id) hinv hc hH (y0:=raw undef) (b0:=⟨1,.mp (oU 0 (splice U (aQ a) [L]))⟩) (rdl:=[nm id]) (by simp only[eL,h1,Z,h5,hg,ht,ci,dP]) (B:=.cells D (splice l (aQ a) [.row i])) hb (dS.zero h) (by simp) rfl (λty' l2 he=>by cases he;exact j8 _ _ _ (gm hr _ _ hs)) (λH1 H2 d g b' c=>by
     have c:jF (h.set id (M (.cells D (splice l (aQ a) [.row i])))) (.cells D (splice l (aQ a) [.row i]))=M b':=c;simp only[jF,gm hr _ _ hs,ah]at c;subst c;exact iN.refl d _) (λH1 H2 y d g s=>by simp only[ct,ah]at s;subst s;exact lO.refl d _) (λn hn=>by simp only[aI]at hn;subst hn;rw[dU];exact bW.2 rfl)⟩
   .cases hk
  .cases hk
 .cases hk
theorem aof {con:FuncId->I cA} {b9:TypeId->I Ty} {x:Operand} (hc:dw P o.op=M (.rng x)) (hk:dX con b9 (.op (.rng x)) e h nx K=M r):kW P o af e h nx K r:=by
 obtain⟨H,q⟩:=jV h;simp only[dX]at hk;split at hk
 .rename_i s hv;obtain⟨y,h1,h2⟩:=bJ hi hv;simp only[ct,ah]at h2;subst h2;refine ⟨_,_,_,_,_,hk,iW.new hinv hc q (y0:=.ptr (nm nx) 0) (rdl:=[]) (b0:=⟨0,.it ⟨kR s⟩ 0⟩) (by simp only[eL,h1];rfl) (dS.zero h) (λ_ _ he=>by cases he) (λA z d g b' a=>?_) (λA z y d g c=>?_) (by simp)⟩
  .cases a;exact iN.refl d _
  .simp only[ct,ah]at c;subst c;exact lO.refl d _
 .cases hk
theorem aog {con:FuncId->I cA} {b9:TypeId->I Ty} {x:Operand} (hc:dw P o.op=M (.nxt x)) (hk:dX con b9 (.op (.nxt x)) e h nx K=M r):kW P o af e h nx K r:=by
 obtain⟨H,z⟩:=jV h;simp only[dX]at hk;split at hk
 .rename_i id hv;split at hk
  .rename_i K' V es hb;split at hk
   .rename_i s p U;obtain⟨y,h1,h2⟩:=bJ hi hv;simp only[ct,ah]at h2;subst h2;have hg:H.get (nm id)=M ⟨0,.it ⟨kR s⟩ p⟩:=by rw[z,bF,hb];show M (vT.mk 0 (mpC K' V es))=_;rw[aj4 U]
    have hrd:∀n∈[nm id],aM (kE id) (ow n)=J:=λn hn=>by simp only[aI]at hn;subst hn;rw[dU];exact bW.2 rfl
    rcases pH hk with ⟨hp,hk⟩|⟨hp,hk⟩
    .obtain⟨hj,hk⟩:=ec hk;have hp:=a_ hp;have e2:(⟨kR s⟩:ByteArray).data.toList[p]? =M (List.getD s p 0):=by
      show s[p]? =_;rw[au,ay hp];rfl
     have e3:gx (List.getD s p 0).toNat 128=J:=by
      have hj:(aN (List.getD s p 0).toNat:Int)<128:=a8 hj;exact bD (Int.ofNat_lt.1 hj)
     exact⟨_,_,_,_,_,hk,iW.wrt (k:=0) (m:=0) (rd:=kE id) hinv hc z (y0:=.tup [raw (.bool J),raw (.int .i64 p),raw (.int .i32 (List.getD s p 0).toNat)]) (b0:=⟨0,.it ⟨kR s⟩ (p+1)⟩) (rdl:=[nm id]) (by simp only[eL,h1,hg,e2,e3,bG]) (B:=.mp itK .un [((s,aN (p+1)),())]) hb (dS.zero h) (by simp) rfl (λty' l2 he=>by cases he) (λL A d g b' a=>by cases a;exact iN.refl d _) (λL A y d g c=>by cases c;exact lO.refl d _) hrd⟩
    .have hp:s.length<=p:=Nat.not_lt.1 λq=>by rw[show gx p s.length=J from bD q]at hp;cases hp
     have e2:(⟨kR s⟩:ByteArray).data.toList[p]? =D:=by
      show s[p]? =_;exact bE hp
     exact⟨_,_,_,_,_,hk,iW.wrt (k:=0) (m:=0) (rd:=kE id) hinv hc z (y0:=.tup [raw (.bool af)]) (b0:=⟨0,.it ⟨kR s⟩ p⟩) (rdl:=[nm id]) (by simp only[eL,h1,hg,e2]) (B:=.mp itK .un [((s,aN p),())]) hb (dS.zero h) (by simp) rfl (λty' l2 he=>by cases he) (λL A d g b' a=>by cases a;exact iN.refl d _) (λL A y d g c=>by cases c;exact lO.refl d _) hrd⟩
   .cases hk
  .cases hk
 .cases hk
theorem K_op {con:FuncId->I cA} {b9:TypeId->I Ty} {s:Zg} (hc:dw P o.op=M s) (hk:dX con b9 (.op s) e h nx K=M r):kW P o s.still e h nx K r:=by
 cases s with
 |mv x=>exact K_mv hinv hi hc hk
 |pick c a b=>exact ala hinv hi hc hk
 |alloc ty z=>exact agz hinv hi hc hk
 |box ty x=>exact aoz hinv hi hc hk
 |build z parts=>exact agy hinv hi hc hk
 |bsl ty sz len z parts=>exact aoy hinv hi hc hk
 |load sz ag x=>exact ald hinv hi hc hk
 |store sz x v=>exact agv hinv hi hc hk
 |nilc x=>exact alb hinv hi hc hk
 |bin op x y=>exact ap0 hinv hi hc hk
 |eqs neg ds x y=>exact aov hinv hi hc hk
 |eqb neg x y=>exact aow hinv hi hc hk
 |isnil neg x=>exact agx hinv hi hc hk
 |not x=>exact aoh hinv hi hc hk
 |conv k x=>exact ali hinv hi hc hk
 |mksl ty sz bytes z l c=>exact alc hinv hi hc hk
 |slc sz x lo q mx=>exact aoe hinv hi hc hk
 |fad off x=>exact aot hinv hi hc hk
 |fld off sz ag x=>exact aos hinv hi hc hk
 |iad sz x i=>exact aor hinv hi hc hk
 |idx n sz ag x i=>exact aoq hinv hi hc hk
 |iada n sz x i=>exact alg hinv hi hc hk
 |ext x i=>exact aou hinv hi hc hk
 |len x=>exact aoo hinv hi hc hk
 |lens x=>exact ale hinv hi hc hk
 |max x y=>exact aom hinv hi hc hk
 |min x y=>exact aol hinv hi hc hk
 |sidx x i=>exact al9 hinv hi hc hk
 |app ty sz bytes s x=>exact ap1 hinv hi hc hk
 |copy sz d x=>exact alh hinv hi hc hk
 |clr sz z x=>exact aox hinv hi hc hk
 |mkf f caps=>exact aok hinv hi hc hk
 |mkm=>exact aoj hinv hi hc hk
 |rng x=>exact aof hinv hi hc hk
 |nxt x=>exact aog hinv hi hc hk
 |lenm x=>exact alf hinv hi hc hk
 |lku str ok z x k=>exact aon hinv hi hc hk
 |mup str x k v=>exact aoi hinv hi hc hk
 |_=>simp[dX]at hk
end ops
mutual
def AV.ren (g:Nat->Nat):AV->AV
 |.f x=>.f x
 |.ptr id off=>.ptr (g id) off
 |.sl id off n=>.sl (g id) off n
 |.row id sz n=>.row (g id) sz n
 |.mp id=>.mp (g id)
 |.emp=>.emp
 |.anyb=>.anyb
 |.agg l=>.agg (AV.renL g l)
 |.tup l=>.tup (AV.renL g l)
 |.clo q l=>.clo q (AV.renL g l)
def AV.renL (g:Nat->Nat):Y AV->Y AV
 |[]=>[]
 |x::r=>x.ren g::AV.renL g r
end
theorem mX (g:Nat->Nat):∀l,AV.renL g l=l.map (AV.ren g)
 |[]=>rfl
 |x::r=>by rw[AV.renL,mX g r];rfl
theorem CH (g:Nat->Nat) (x:AV):(x.ren g).isCell=x.isCell:=by cases x<;>rfl
theorem cN.renTo {φ φ':PM} {g:Nat->Nat} {O:Nat->Prop} {w:World} (hk:∀i k,φ i=M k->φ' (g i)=M k) {x:AV} {v:Value} (h:cN φ O w x v):cN φ' O w (x.ren g) v:=by
 induction h with
 |f h=>exact .f h
 |ptr h=>exact .ptr (hk _ _ h)
 |sl h hn hc=>exact .sl (hk _ _ h) hn hc
 |row h hn hc hsh=>exact .row (hk _ _ h) hn hc hsh
 |emp=>exact .emp
 |anyb=>exact .anyb
 |mp h=>exact .mp (hk _ _ h)
 |agg hl hcl hr q=>
  simp only[AV.ren,mX];refine .agg (by simpa using hl) (λx a=>?_) λj x v a hv=>?_
  .obtain⟨y,c,rfl⟩:=di.1 a;rw[CH];exact hcl y c
  .rw[ba]at a;obtain⟨y,c,rfl⟩:=jY.1 a;exact q j y v c hv
 |tup hl hr q=>
  simp only[AV.ren,mX];refine .tup (by simpa using hl) λj x v a hv=>?_
  rw[ba]at a;obtain⟨y,c,rfl⟩:=jY.1 a;exact q j y v c hv
 |clo hl hr q=>
  simp only[AV.ren,mX];refine .clo (by simpa using hl) λj x v a hv=>?_
  rw[ba]at a;obtain⟨y,c,rfl⟩:=jY.1 a;exact q j y v c hv
theorem cN.renFrom {φ φ':PM} {g:Nat->Nat} {O:Nat->Prop} {w:World} {p:Nat->Bool} (hk:∀i k,p i=J->φ (g i)=M k->φ' i=M k) {z:AV} {v:Value} (h:cN φ O w z v):∀x:AV,x.all p=J->z=x.ren g->cN φ' O w x v:=by
 induction h with
 |f h=>intro x hp e;cases x<;>simp only[AV.ren,reduceCtorEq]at e;cases e;exact .f h
 |ptr h=>intro x hp e;cases x<;>simp only[AV.ren,reduceCtorEq]at e;cases e;exact .ptr (hk _ _ hp h)
 |sl h hn hc=>intro x hp e;cases x<;>simp only[AV.ren,reduceCtorEq]at e;cases e;exact .sl (hk _ _ hp h) hn hc
 |row h hn hc hsh=>intro x hp e;cases x<;>simp only[AV.ren,reduceCtorEq]at e;cases e;exact .row (hk _ _ hp h) hn hc hsh
 |emp=>intro x hp e;cases x<;>simp only[AV.ren,reduceCtorEq]at e;exact .emp
 |anyb=>intro x hp e;cases x<;>simp only[AV.ren,reduceCtorEq]at e;exact .anyb
 |mp h=>intro x hp e;cases x<;>simp only[AV.ren,reduceCtorEq]at e;cases e;exact .mp (hk _ _ hp h)
 |agg hl hcl hr c=>
  intro x hp e;cases x<;>simp only[AV.ren,reduceCtorEq]at e;rename_i l;cases e;rw[mX]at hl hcl hr c;refine .agg (by simpa using hl) (λx a=>?_) λj x v a hv=>?_
  .have:=hcl (x.ren g) (di.2 ⟨x,a,rfl⟩);rwa [CH]at this
  .exact c j (x.ren g) v (by rw[ba,a];rfl) hv x (mm hp x (aX a)) rfl
 |tup hl hr c=>
  intro x hp e;cases x<;>simp only[AV.ren,reduceCtorEq]at e;rename_i l;cases e;rw[mX]at hl hr c;refine .tup (by simpa using hl) λj x v a hv=>?_
  exact c j (x.ren g) v (by rw[ba,a];rfl) hv x (mm hp x (aX a)) rfl
 |clo hl hr c=>
  intro x hp e;cases x<;>simp only[AV.ren,reduceCtorEq]at e;rename_i l;cases e;rw[mX]at hl hr c;refine .clo (by simpa using hl) λj x v a hv=>?_
  exact c j (x.ren g) v (by rw[ba,a];rfl) hv x (mm hp x (aX a)) rfl
def BC.ren (g:Nat->Nat):BC->BC
 |.fz l=>.fz l
 |.mx l=>.mx (l.map (AV.ren g))
 |.mp es=>.mp (es.map λp=>(p.1,p.2.ren g))
 |.it s p=>.it s p
def vT.ren (g:Nat->Nat) (b:vT):vT:=⟨b.ty,b.c.ren g⟩
theorem jh.renTo {φ φ':PM} {g:Nat->Nat} {O O':Nat->Prop} {w:World} (hk:∀x v,cN φ O w x v->cN φ' O' w (x.ren g) v) {b:vT} {o:Obj} (h:jh φ O w b o):jh φ' O' w (b.ren g) o:=by
 obtain⟨ty,c⟩:=b;unfold jh at h ⊢;simp only[vT.ren];cases c with
 |fz l=>
  simp only[BC.ren];obtain⟨arr,h1,h2,A⟩:=h;refine ⟨arr,h1,h2,λj x z=>?_⟩;obtain⟨a,v,c,d⟩:=A j x z;simp only[BC.get]at z;obtain⟨q,_,rfl⟩:=jY.1 z;exact⟨a,v,c,hk _ _ d⟩
 |mx l=>
  simp only[BC.ren];obtain⟨arr,h1,h2,A⟩:=h;refine ⟨arr,h1,by simpa[BC.len] using h2,λj x z=>?_⟩;simp only[BC.get,ba]at z;obtain⟨q,hq,rfl⟩:=jY.1 z;obtain⟨a,v,c,d⟩:=A j q hq;exact⟨by rw[CH];exact a,v,c,hk _ _ d⟩
 |mp es=>
  simp only[BC.ren];obtain⟨e,c,h1,h2,A⟩:=h;refine ⟨e,c,h1,by rw[XL];exact h2,λj x z=>?_⟩;rw[ba]at z;obtain⟨q,hq,rfl⟩:=jY.1 z;obtain⟨m,a,b⟩:=A j q hq;exact⟨m,a,hk _ _ b⟩
 |it s p=>exact h
theorem jh.renFrom {φ φ':PM} {g:Nat->Nat} {O O':Nat->Prop} {w:World} {p:Nat->Bool} (hk:∀x v,x.all p=J->cN φ O w (x.ren g) v->cN φ' O' w x v) {b:vT} (hb:b.c.all p=J) {o:Obj} (h:jh φ O w (b.ren g) o):jh φ' O' w b o:=by
 obtain⟨ty,c⟩:=b;unfold jh at h ⊢;simp only[vT.ren]at h;cases c with
 |fz l=>
  simp only[BC.ren]at h;obtain⟨arr,h1,h2,A⟩:=h;refine ⟨arr,h1,h2,λj x z=>?_⟩;obtain⟨a,v,c,d⟩:=A j x z;simp only[BC.get]at z;obtain⟨q,_,rfl⟩:=jY.1 z;exact⟨a,v,c,hk _ _ rfl d⟩
 |mx l=>
  simp only[BC.ren]at h;obtain⟨arr,h1,h2,A⟩:=h;refine ⟨arr,h1,by simpa[BC.len] using h2,λj x z=>?_⟩;simp only[BC.get]at z;obtain⟨a,v,c,d⟩:=A j (x.ren g) (by simp only[BC.get,ba,z];rfl);rw[CH]at a;exact⟨a,v,c,hk _ _ (mm hb x (aX z)) d⟩
 |mp es=>
  simp only[BC.ren]at h;obtain⟨e,c,h1,h2,A⟩:=h;refine ⟨e,c,h1,by rw[XL]at h2;exact h2,λj x z=>?_⟩;obtain⟨m,a,b⟩:=A j (x.1,x.2.ren g) (by rw[ba,z];rfl);exact⟨m,a,hk _ _ (mm hb x.2 (di.2 ⟨x,aX z,rfl⟩)) b⟩
 |it s p=>exact h
mutual
def CJ (g:Nat->Nat):TV->TV
 |.row i=>.row (g i)
 |.rtl i j=>.rtl (g i) j
 |.agg l=>.agg (kN g l)
 |.tup l=>.tup (kN g l)
 |.clo q l=>.clo q (kN g l)
 |.f T v=>.f T v
 |.fel T xs j h off=>.fel T xs j h off
 |.pel a b c d=>.pel (g a) b c d
 |.ptr a b=>.ptr (g a) b
 |.csl a b c=>.csl (g a) b c
 |.emp=>.emp
 |.nil=>.nil
 |.mp i=>.mp (g i)
 |.undef=>.undef
 |.np=>.np
 |.anyb=>.anyb
def kN (g:Nat->Nat):Y TV->Y TV
 |[]=>[]
 |x::r=>CJ g x::kN g r
end
theorem Ak (g:Nat->Nat):∀l,kN g l=l.map (CJ g)
 |[]=>rfl
 |x::r=>by rw[kN,Ak g r];rfl
def lX (g:Nat->Nat):iu->iu
 |.cells ty l=>.cells ty (kN g l)
 |.rows ty p T xs=>.rows ty p T xs
 |.dead p sz n=>.dead p sz n
 |.mp K V es=>.mp K V es
theorem Iq (g:Nat->Nat) (b:iu):mV (lX g b)=mV b:=by cases b<;>rfl
def HZ (g:Nat->Nat) (n:Nat):Nat:=nm (g (ow n))
theorem xH (g:Nat->Nat) (i:Nat):HZ g (nm i)=nm (g i):=by unfold HZ;rw[dU]
mutual
theorem aja {g:Nat->Nat} {h1 h2:bi} (hrow:∀i r,eH h1 i=M r->eH h2 (g i)=M r):∀(v:TV) (y:AV),ct h1 v=M y->ct h2 (CJ g v)=M (y.ren (HZ g))
 |.f _ _,y,he=>by simp only[ct,ah]at he;subst he;rfl
 |.fel _ _ _ _ _,y,he=>by simp only[ct,ah]at he;subst he;rfl
 |.pel _ _ _ _,y,he=>by simp only[ct,ah]at he;subst he;simp only[CJ,ct,AV.ren,xH]
 |.ptr _ _,y,he=>by simp only[ct,ah]at he;subst he;simp only[CJ,ct,AV.ren,xH]
 |.csl _ _ _,y,he=>by simp only[ct,ah]at he;subst he;simp only[CJ,ct,AV.ren,xH]
 |.row id,y,he=>by
  simp only[ct]at he;split at he
  .rename_i p sz n hr;simp only[ah]at he;subst he;simp only[CJ,ct,hrow id _ hr];unfold fE;split
   .rfl
   .simp only[AV.ren,xH]
  .cases he
 |.rtl id jj,y,he=>by
  simp only[ct]at he;split at he
  .rename_i p sz n hr;simp only[ah]at he;subst he;simp only[CJ,ct,hrow id _ hr,AV.ren,xH]
  .cases he
 |.emp,y,he=>by simp only[ct,ah]at he;subst he;rfl
 |.nil,y,he=>by simp only[ct,ah]at he;subst he;rfl
 |.mp _,y,he=>by simp only[ct,ah]at he;subst he;simp only[CJ,ct,AV.ren,xH]
 |.agg l,y,he=>by
  simp only[ct]at he;split at he
  .rename_i l' hl;simp only[ah]at he;subst he;simp only[CJ,ct,pa hrow l l' hl,AV.ren]
  .cases he
 |.tup l,y,he=>by
  simp only[ct]at he;split at he
  .rename_i l' hl;simp only[ah]at he;subst he;simp only[CJ,ct,pa hrow l l' hl,AV.ren]
  .cases he
 |.clo q l,y,he=>by
  simp only[ct]at he;split at he
  .rename_i l' hl;simp only[ah]at he;subst he;simp only[CJ,ct,pa hrow l l' hl,AV.ren]
  .cases he
 |.undef,y,he=>by simp only[ct,ah]at he;subst he;rfl
 |.np,y,he=>by simp only[ct,ah]at he;subst he;rfl
 |.anyb,y,he=>by simp only[ct,ah]at he;subst he;rfl
theorem pa {g:Nat->Nat} {h1 h2:bi} (hrow:∀i r,eH h1 i=M r->eH h2 (g i)=M r):∀(l:Y TV) (l':Y AV),cJ h1 l=M l'->cJ h2 (kN g l)=M (AV.renL (HZ g) l')
 |[],l',he=>by simp only[cJ,ah]at he;subst he;rfl
 |x::r,l',he=>by
  obtain⟨y,l2,rfl,e1,e2⟩:=c4 he;exact pd (aja hrow x y e1) (pa hrow r l2 e2)
end
theorem Dl {g:Nat->Nat} {h1 h2:bi} (hrow:∀i r,eH h1 i=M r->eH h2 (g i)=M r) {b:iu} {y:vT} (he:jF h1 b=M y):jF h2 (lX g b)=M (y.ren (HZ g)):=by
 cases b with
 |rows ty p T xs=>
  simp only[jF]at he;split at he
  .cases he
  .rename_i hc;simp only[ah]at he;subst he;simp only[lX,jF,ax hc];rfl
 |cells ty l=>
  cases ty with
  |some ty=>
   simp only[jF]at he;split at he
   .rename_i a hl;simp only[ah]at he;subst he;simp only[lX,jF,pa hrow l a hl,mX];rfl
   .cases he
  |none=>
   simp only[jF]at he;split at he
   .rename_i a hl;simp only[ah]at he;subst he;simp only[lX,jF,pa hrow l a hl,mX,vT.ren,BC.ren,<-QK]
   .cases he
 |dead p sz n=>cases he
 |mp K V es=>
  simp only[jF,ah]at he;subst he;simp only[lX,jF,vT.ren,ah,vT.mk.injEq,BB];unfold mpC;split
  .rfl
  .simp only[BC.ren,HG];rfl
theorem CI (g:Nat->Nat) (a b:Y TV):kN g (a++b)=kN g a++kN g b:=by
 rw[Ak,Ak,Ak,cS]
theorem pW (g:Nat->Nat):∀(n:Nat) (T:Ty) (v:T.den) (l:Y TV),cellsOf n T v=M l->kN g l=l
 |0,_,_,_,he=>by simp[cellsOf]at he
 |n+1,.st t,v,l,he=>pW g n t v l he
 |n+1,.pr a b,v,l,he=>by
  simp only[cellsOf]at he;split at he
  .rename_i x y q c;simp only[ah]at he;subst he;rw[CI,pW g n a v.1 x q,pW g n b v.2 y c]
  .cases he
 |n+1,.un,v,l,he=>by simp only[cellsOf,ah]at he;subst he;rfl
 |n+1,.ex,v,l,he=>pW g n M6 (NT v) l he
 |n+1,.sm,v,l,he=>pW g n MC (NS v) l he
 |n+1,.int k,v,l,he=>by simp only[cellsOf,ah]at he;subst he;rfl
 |n+1,.bool,v,l,he=>by simp only[cellsOf,ah]at he;subst he;rfl
 |n+1,.str,v,l,he=>by simp only[cellsOf,ah]at he;subst he;rfl
 |n+1,.sl t,v,l,he=>by simp only[cellsOf,ah]at he;subst he;rfl
abbrev HV:Nat->Nat:=λi=>i
mutual
theorem aa0 (g:Nat->Nat):∀(p:PV) (x:p.ty.den),qa g p x=(qa HV p x).map (kN g)
 |.d T,x=>by
  simp only[qa];cases h:cellsOf 40 T x with
  |none=>rfl
  |some l=>simp only[cj,pW g 40 T x l h]
 |.ptr i o,x=>rfl
 |.csl i o z,x=>rfl
 |.clo q i o,x=>rfl
 |.row i,x=>rfl
 |.mp i,x=>rfl
 |.nil,x=>rfl
 |.emp,x=>rfl
 |.agg ps,x=>Al g ps x
theorem Al (g:Nat->Nat):∀(ps:Y PV) (x:(PV.tyL ps).den),qY g ps x=(qY HV ps x).map (kN g)
 |[],x=>rfl
 |p::r,x=>by
  simp only[qY];rw[aa0 g p,Al g r];cases qa HV p (OO p.ty (PV.tyL r) x) with
  |none=>rfl
  |some a=>
   cases qY HV r (Lp p.ty (PV.tyL r) x) with
   |none=>rfl
   |some b=>simp only[cj,CI]
end
def ajo (o:I (Y TV)):I TV:=match o with|some l=>M (.agg l)|none=>D
theorem acg (g:Nat->Nat) (o:I (Y TV)):ajo (o.map (kN g))=(ajo o).map (CJ g):=by cases o<;>rfl
theorem Z_ (g:Nat->Nat) (p:PV) (x:p.ty.den):tG g p x=(tG HV p x).map (CJ g):=by
 cases p with
 |agg ps=>exact (gR ajo (Al g ps x)).trans (acg g _)
 |_=>rfl
theorem tU (g:Nat->Nat):∀(ps:Y PV) (x:(PV.tyL ps).den),qh g ps x=(qh HV ps x).map (kN g)
 |[],x=>rfl
 |p::r,x=>by
  simp only[qh];rw[Z_ g p,tU g r];cases tG HV p (OO p.ty (PV.tyL r) x) with
  |none=>rfl
  |some a=>
   cases qh HV r (Lp p.ty (PV.tyL r) x) with
   |none=>rfl
   |some b=>rfl
def VS (ty:I TypeId) (o:I (Y TV)):I (I iu):=match o with|some l=>M (M (.cells ty l))|none=>D
theorem VR (g:Nat->Nat) (ty:I TypeId) (o:I (Y TV)):VS ty (o.map (kN g))=(VS ty o).map (me (lX g)):=by cases o<;>rfl
theorem aa1 (g:Nat->Nat) (b:PB) (x:b.ty.den):CO g b x=(CO HV b x).map (me (lX g)):=by
 cases b with
 |cells ty ps=>exact (gR (VS ty) (Al g ps x)).trans (VR g ty _)
 |_=>rfl
theorem v_ (g:Nat->Nat):∀(bs:Y PB) (x:(PB.tyL bs).den),oK g bs x=(oK HV bs x).map (List.map (me (lX g)))
 |[],x=>rfl
 |b::r,x=>by
  simp only[oK];rw[aa1 g b,v_ g r];cases CO HV b (OO b.ty (PB.tyL r) x) with
  |none=>rfl
  |some a=>
   cases oK HV r (Lp b.ty (PB.tyL r) x) with
   |none=>rfl
   |some l=>rfl
theorem CM (g:Nat->Nat):∀(bs:Y PB) (x:(PB.tyL bs).den) (l:Y (I iu)),oK g bs x=M l->l.length=bs.length
 |[],x,l,h=>by simp only[oK,ah]at h;subst h;rfl
 |b::r,x,l,h=>by
  simp only[oK]at h;split at h
  .split at h
   .rename_i q hq;simp only[ah]at h;subst h;simp[CM g r _ q hq]
   .cases h
  .cases h
theorem Jr (h:bi) (i j:Nat):(kill h i).get j=if j=i then (h.get i).map vj else h.get j:=by
 unfold kill;cases hb:h.get i with
 |none=>
  simp only[Option.map_none];split
  .rename_i e;rw[e,hb]
  .rfl
 |some b=>rw[PT.get_set];rfl
theorem vh (g:Nat->Nat):∀(l:Y (I iu)) (i:Nat) (h:bi) (j:Nat),(∀k,k<l.length->j≠g (i+k))->(AG g i l h).get j=h.get j
 |[],i,h,j,_=>rfl
 |some c::r,i,h,j,hj=>by
  rw[AG,vh g r (i+1) _ j (λk hk=>by have:=hj (k+1) (by simpa using hk);rwa [show i+1+k=i+(k+1) from by omega]),PT.get_set,ax];exact hj 0 (by simp)
 |none::r,i,h,j,hj=>by
  rw[AG,vh g r (i+1) _ j (λk hk=>by have:=hj (k+1) (by simpa using hk);rwa [show i+1+k=i+(k+1) from by omega]),Jr,ax];exact hj 0 (by simp)
theorem vi (g:Nat->Nat):∀(l:Y (I iu)) (i:Nat) (h:bi),(∀a b,a<l.length->b<l.length->g (i+a)=g (i+b)->a=b)->∀(k:Nat) (c:I iu),l[k]? =M c->(AG g i l h).get (g (i+k))=(match c with|some b=>M b|none=>(h.get (g (i+k))).map vj)
 |[],i,h,_,k,c,hk=>by simp at hk
 |o::r,i,h,hinj,k,c,hk=>by
  have hinj':∀a b,a<r.length->b<r.length->g (i+1+a)=g (i+1+b)->a=b:=λa b s hb e=>by
   have:=hinj (a+1) (b+1) (by simpa using s) (by simpa using hb) (by rw[show i+(a+1)=i+1+a from by omega,show i+(b+1)=i+1+b from by omega];exact e);omega
  cases k with
  |zero=>
   simp at hk;subst hk;have hne:∀k,k<r.length->g (i+0)≠g (i+1+k):=λk hk e=>by
    have:=hinj 0 (k+1) (by simp) (by simpa using hk) (by rw[show i+(k+1)=i+1+k from by omega];exact e);omega
   cases o with
   |some b=>rw[AG,vh g r (i+1) _ _ hne];simp only[c8];rw[PT.get_set,aC rfl]
   |none=>rw[AG,vh g r (i+1) _ _ hne];simp only[c8];rw[Jr,aC rfl]
  |succ k=>
   have q:r[k]? =M c:=by simpa using hk
   have hkl:k<r.length:=(bh.1 q).1;have hne:g (i+(k+1))≠g i:=λe=>by
    have:=hinj (k+1) 0 (by simpa using hkl) (by simp) (by rw[e];rfl);omega
   rw[show i+(k+1)=i+1+k from by omega]at hne ⊢;cases o with
   |some b=>
    rw[AG,vi g r (i+1) _ hinj' k c q];cases c with
    |some _=>rfl
    |none=>simp only[PT.get_set,ax hne]
   |none=>
    rw[AG,vi g r (i+1) _ hinj' k c q];cases c with
    |some _=>rfl
    |none=>simp only[Jr,ax hne]
def xW (h' h:bi):Prop:=∀i r,eH h' i=M r->eH h i=M r
section get
variable {h h':bi} {H H':HF} {g:Nat->Nat}
theorem lO.agg {l a:Y AV} (hl:ic H H' l a) (hc:∀x∈a,x.isCell=J):lO H H' (.agg l) (.agg a):=by
 intro φ E w v hrep hr;cases hr with
 |@agg _ vs hlen hcl hrr=>
  refine .agg (by rw[hlen,<-hl.length]) hc λj y u c hu=>?_
  obtain⟨x,q,hle⟩:=hl.get j y c;exact hle φ E w u hrep (hrr j x u q hu)
theorem Qn (hr:xW h' h) {i:Nat} {y q:AV} (c:ct h (.row i)=M y) (a:ct h' (.row i)=M q):q=y:=by
 simp only[ct]at c a;cases h1:eH h' i with
 |none=>rw[h1]at a;cases a
 |some r=>
  rw[h1]at a;rw[hr i r h1]at c;rw[c]at a;cases a;rfl
mutual
theorem afa (d:uV H H') (hr:xW h' h):∀(p:PV) (l:Y TV) (x:p.ty.den) (m:Nat) (r:Y TV) (cs:Y TV) (l' cs':Y AV),pE g h p l=M (x,m,r)->qa g p x=M cs->cJ h l=M l'->cJ h' cs=M cs'->Eh h H H' m->∃l1 l2,l'=l1++l2/\cJ h r=M l2/\ic H H' l1 cs'
 |.d T,l,x,m,r,cs,l',cs',hg,hp,hl,hc,gv=>by
  obtain⟨l1,l2,e1,e2,e3⟩:=sw d 40 T l x m r l' hg hl gv;have:=(mc h' 40 T x cs hp).1;rw[hc]at this;cases this;exact⟨l1,l2,e1,e2,e3⟩
 |.ptr i q,l,x,m,r,cs,l',cs',hg,hp,hl,hc,gv=>by
  simp only[pE]at hg;split at hg
  .rename_i i' o' r';split at hg
   .rename_i hb;simp only[al]at hb;have e1:=ar hb.1;have e2:=ar hb.2;subst e1;subst e2;simp only[ah,aD]at hg;obtain⟨_,_,rfl⟩:=hg;simp only[qa,ah]at hp;subst hp;obtain⟨y,l2,rfl,g1,g2⟩:=c4 hl;simp only[ct,ah]at g1;subst g1;simp only[cJ,ct,ah]at hc;subst hc;exact⟨[_],l2,rfl,g2,lO.refl d _,trivial⟩
   .cases hg
  .cases hg
 |.csl i q z,l,x,m,r,cs,l',cs',hg,hp,hl,hc,gv=>by
  simp only[pE]at hg;split at hg
  .rename_i i' o' z' r';split at hg
   .rename_i hb;simp only[al]at hb;have e1:=ar hb.1.1;have e2:=ar hb.1.2;have e3:=ar hb.2;subst e1;subst e2;subst e3;simp only[ah,aD]at hg;obtain⟨_,_,rfl⟩:=hg;simp only[qa,ah]at hp;subst hp;obtain⟨y,l2,rfl,g1,g2⟩:=c4 hl;simp only[ct,ah]at g1;subst g1;simp only[cJ,ct,ah]at hc;subst hc;exact⟨[_],l2,rfl,g2,lO.refl d _,trivial⟩
   .cases hg
  .cases hg
 |.clo q i z,l,x,m,r,cs,l',cs',hg,hp,hl,hc,gv=>by
  simp only[pE]at hg;split at hg
  .rename_i q' i' z' r';split at hg
   .rename_i hb;simp only[al]at hb;have e1:=ar hb.1.1;have e2:=ar hb.1.2;have e3:=ar hb.2;subst e1;subst e2;subst e3;simp only[ah,aD]at hg;obtain⟨_,_,rfl⟩:=hg;simp only[qa,ah]at hp;subst hp;obtain⟨y,l2,rfl,g1,g2⟩:=c4 hl;simp only[ct,cJ,ah]at g1;subst g1;simp only[cJ,ct,ah]at hc;subst hc;exact⟨[_],l2,rfl,g2,lO.refl d _,trivial⟩
   .cases hg
  .cases hg
 |.row i,l,x,m,r,cs,l',cs',hg,hp,hl,hc,gv=>by
  simp only[pE]at hg;split at hg
  .rename_i i' r';split at hg
   .rename_i hb;have e1:=ar hb;subst e1;simp only[ah,aD]at hg;obtain⟨_,_,rfl⟩:=hg;simp only[qa,ah]at hp;subst hp;obtain⟨y,l2,rfl,g1,g2⟩:=c4 hl;obtain⟨y',l3,rfl,g3,g4⟩:=c4 hc;simp only[cJ,ah]at g4;subst g4;rw[Qn hr g1 g3];exact⟨[_],l2,rfl,g2,lO.refl d _,trivial⟩
   .cases hg
  .cases hg
 |.mp i,l,x,m,r,cs,l',cs',hg,hp,hl,hc,gv=>by
  simp only[pE]at hg;split at hg
  .rename_i i' r';split at hg
   .rename_i hb;have e1:=ar hb;subst e1;simp only[ah,aD]at hg;obtain⟨_,_,rfl⟩:=hg;simp only[qa,ah]at hp;subst hp;obtain⟨y,l2,rfl,g1,g2⟩:=c4 hl;simp only[ct,ah]at g1;subst g1;simp only[cJ,ct,ah]at hc;subst hc;exact⟨[_],l2,rfl,g2,lO.refl d _,trivial⟩
   .cases hg
  .cases hg
 |.nil,l,x,m,r,cs,l',cs',hg,hp,hl,hc,gv=>by
  simp only[pE]at hg;split at hg
  .simp only[ah,aD]at hg;obtain⟨_,_,rfl⟩:=hg;simp only[qa,ah]at hp;subst hp;obtain⟨y,l2,rfl,g1,g2⟩:=c4 hl;simp only[ct,ah]at g1;subst g1;simp only[cJ,ct,ah]at hc;subst hc;exact⟨[_],l2,rfl,g2,lO.refl d _,trivial⟩
  .cases hg
 |.emp,l,x,m,r,cs,l',cs',hg,hp,hl,hc,gv=>by
  simp only[pE]at hg;split at hg
  .simp only[ah,aD]at hg;obtain⟨_,_,rfl⟩:=hg;simp only[qa,ah]at hp;subst hp;obtain⟨y,l2,rfl,g1,g2⟩:=c4 hl;simp only[ct,ah]at g1;subst g1;simp only[cJ,ct,ah]at hc;subst hc;exact⟨[_],l2,rfl,g2,Le.nilEmp.toH d,trivial⟩
  .simp only[ah,aD]at hg;obtain⟨_,_,rfl⟩:=hg;simp only[qa,ah]at hp;subst hp;obtain⟨y,l2,rfl,g1,g2⟩:=c4 hl;simp only[ct,ah]at g1;subst g1;simp only[cJ,ct,ah]at hc;subst hc;exact⟨[_],l2,rfl,g2,lO.refl d _,trivial⟩
  .cases hg
 |.agg ps,l,x,m,r,cs,l',cs',hg,hp,hl,hc,gv=>Dg d hr ps l x m r cs l' cs' hg hp hl hc gv
theorem Dg (d:uV H H') (hr:xW h' h):∀(ps:Y PV) (l:Y TV) (x:(PV.tyL ps).den) (m:Nat) (r:Y TV) (cs:Y TV) (l' cs':Y AV),zA g h ps l=M (x,m,r)->qY g ps x=M cs->cJ h l=M l'->cJ h' cs=M cs'->Eh h H H' m->∃l1 l2,l'=l1++l2/\cJ h r=M l2/\ic H H' l1 cs'
 |[],l,x,m,r,cs,l',cs',hg,hp,hl,hc,gv=>by
  simp only[zA,ah,aD]at hg;obtain⟨_,_,rfl⟩:=hg;simp only[qY,ah]at hp;subst hp;simp only[cJ,ah]at hc;subst hc;exact⟨[],l',rfl,hl,trivial⟩
 |p::ps,l,x,m,r,cs,l',cs',hg,hp,hl,hc,gv=>by
  simp only[zA]at hg;split at hg
  .rename_i x1 m1 r1 h1;split at hg
   .rename_i x2 m2 r2 h2;simp only[ah,aD]at hg;obtain⟨rfl,rfl,rfl⟩:=hg;simp only[qY,tN,u_]at hp;split at hp
    .rename_i a ha;split at hp
     .rename_i b hb;simp only[ah]at hp;subst hp;obtain⟨a',b',rfl,ea,eb⟩:=B' hc;obtain⟨ga,gb⟩:=gv.or;obtain⟨l1,l2,rfl,q1,q2⟩:=afa d hr p l _ _ _ a l' a' h1 ha hl ea ga;obtain⟨l3,l4,rfl,q3,q4⟩:=Dg d hr ps _ _ _ _ b l2 b' h2 hb q1 eb gb;exact⟨l1++l3,l4,by simp,q3,q2.append q4⟩
     .cases hp
    .cases hp
   .cases hg
  .cases hg
end
mutual
theorem X0:∀(p:PV) (x:p.ty.den) (cs:Y TV),qa g p x=M cs->kK cs=J
 |.d T,x,cs,hp=>(mc PT.leaf 40 T x cs hp).2
 |.ptr i q,x,cs,hp=>by simp only[qa,ah]at hp;subst hp;rfl
 |.csl i q z,x,cs,hp=>by simp only[qa,ah]at hp;subst hp;rfl
 |.clo q i z,x,cs,hp=>by simp only[qa,ah]at hp;subst hp;rfl
 |.row i,x,cs,hp=>by simp only[qa,ah]at hp;subst hp;rfl
 |.mp i,x,cs,hp=>by simp only[qa,ah]at hp;subst hp;rfl
 |.nil,x,cs,hp=>by simp only[qa,ah]at hp;subst hp;rfl
 |.emp,x,cs,hp=>by simp only[qa,ah]at hp;subst hp;rfl
 |.agg ps,x,cs,hp=>xp ps x cs hp
theorem xp:∀(ps:Y PV) (x:(PV.tyL ps).den) (cs:Y TV),qY g ps x=M cs->kK cs=J
 |[],x,cs,hp=>by simp only[qY,ah]at hp;subst hp;rfl
 |p::ps,x,cs,hp=>by
  simp only[qY]at hp;split at hp
  .rename_i a ha;split at hp
   .rename_i b hb;simp only[ah]at hp;subst hp;exact S1 (X0 p _ a ha) (xp ps _ b hb)
   .cases hp
  .cases hp
end
theorem af9 (d:uV H H') (hr:xW h' h) {p:PV} {v:TV} {x:p.ty.den} {m:Nat} {u:TV} {y s:AV} (hg:xE g h p v=M (x,m)) (hp:tG g p x=M u) (c:ct h v=M y) (a:ct h' u=M s) (U:Eh h H H' m):lO H H' y s:=by
 cases p with
 |d T=>
  simp only[tG,ah]at hp;subst hp;simp only[ct,ah]at a;subst a;exact (Px d hg c U).1
 |agg ps=>
  simp only[xE]at hg;split at hg
  .cases hg
  .rename_i hc;split at hg
   .rename_i l hl;split at hg
    .rename_i x1 m1 h1;simp only[ah,aD]at hg;obtain⟨rfl,rfl⟩:=hg;simp only[tG]at hp;split at hp
     .rename_i cs hcs;simp only[ah]at hp;subst hp;simp only[ct]at a;split at a
      .rename_i cs' hcs';simp only[ah]at a;subst a;obtain⟨e1,e2⟩:=Km hl c;obtain⟨l1,l2,L,A,q3⟩:=Dg d hr ps l _ _ [] cs y.cs cs' h1 hcs e1 hcs' U;simp only[cJ,ah]at A;subst A;rw[kc]at L;subst L;have hcell:∀x∈cs',x.isCell=J:=md (sq hcs' (xp ps _ cs hcs));cases v with
       |agg q=>
        simp only[ct]at c;split at c
        .simp only[ah]at c;subst c;exact lO.agg q3 hcell
        .cases c
       |f S z=>
        simp only[ct,ah]at c;subst c;have Z:S.one=af:=by simpa[TV.isC] using hc
        rw[Au]at q3;rw[qK S z Z];intro φ E w v hrep hrel;exact lO.agg q3 hcell φ E w v hrep (Le.aggF _ _ _ _ hrel)
       |tup q=>simp[TV.cs,TV.isC]at hl
       |undef=>simp[TV.cs,TV.isC]at hl
       |np=>simp[TV.isC]at hc
       |anyb=>simp[TV.cs,TV.isC]at hl
       |fel T xs j hj off=>simp[TV.isC]at hc
       |pel id sz j off=>simp[TV.isC]at hc
       |ptr id off=>simp[TV.isC]at hc
       |csl id off z=>simp[TV.isC]at hc
       |row id=>simp[TV.isC]at hc
       |emp=>simp[TV.isC]at hc
       |nil=>simp[TV.isC]at hc
       |mp id=>simp[TV.isC]at hc
       |rtl id jj=>cases hl
       |clo g l=>simp[TV.isC]at hc
      .cases a
     .cases hp
    .cases hg
   .cases hg
 |ptr i q=>
  simp only[tG,ah]at hp;subst hp;simp only[xE]at hg;split at hg
  .rename_i h1;simp only[pE]at h1;split at h1
   .rename_i e;simp only[ja]at e;obtain⟨rfl,_⟩:=e;split at h1
    .rename_i hb;simp only[al]at hb;have e1:=ar hb.1;have e2:=ar hb.2;subst e1;subst e2;simp only[ct,ah]at c a;subst c;subst a;exact lO.refl d _
    .cases h1
   .cases h1
  .cases hg
 |csl i q z=>
  simp only[tG,ah]at hp;subst hp;simp only[xE]at hg;split at hg
  .rename_i h1;simp only[pE]at h1;split at h1
   .rename_i e;simp only[ja]at e;obtain⟨rfl,_⟩:=e;split at h1
    .rename_i hb;simp only[al]at hb;have e1:=ar hb.1.1;have e2:=ar hb.1.2;have e3:=ar hb.2;subst e1;subst e2;subst e3;simp only[ct,ah]at c a;subst c;subst a;exact lO.refl d _
    .cases h1
   .cases h1
  .cases hg
 |clo q i z=>
  simp only[tG,ah]at hp;subst hp;simp only[xE]at hg;split at hg
  .rename_i h1;simp only[pE]at h1;split at h1
   .rename_i e;simp only[ja]at e;obtain⟨rfl,_⟩:=e;split at h1
    .rename_i hb;simp only[al]at hb;have e1:=ar hb.1.1;have e2:=ar hb.1.2;have e3:=ar hb.2;subst e1;subst e2;subst e3;simp only[ct,cJ,ah]at c a;subst c;subst a;exact lO.refl d _
    .cases h1
   .cases h1
  .cases hg
 |row i=>
  simp only[tG,ah]at hp;subst hp;simp only[xE]at hg;split at hg
  .rename_i h1;simp only[pE]at h1;split at h1
   .rename_i e;simp only[ja]at e;obtain⟨rfl,_⟩:=e;split at h1
    .rename_i hb;have e1:=ar hb;subst e1;rw[Qn hr c a];exact lO.refl d _
    .cases h1
   .cases h1
  .cases hg
 |mp i=>
  simp only[tG,ah]at hp;subst hp;simp only[xE]at hg;split at hg
  .rename_i h1;simp only[pE]at h1;split at h1
   .rename_i e;simp only[ja]at e;obtain⟨rfl,_⟩:=e;split at h1
    .rename_i hb;have e1:=ar hb;subst e1;simp only[ct,ah]at c a;subst c;subst a;exact lO.refl d _
    .cases h1
   .cases h1
  .cases hg
 |nil=>
  simp only[tG,ah]at hp;subst hp;simp only[xE]at hg;split at hg
  .rename_i h1;simp only[pE]at h1;split at h1
   .rename_i e;simp only[ja]at e;obtain⟨rfl,_⟩:=e;simp only[ct,ah]at c a;subst c;subst a;exact lO.refl d _
   .cases h1
  .cases hg
 |emp=>
  simp only[tG,ah]at hp;subst hp;simp only[xE]at hg;split at hg
  .rename_i h1;simp only[pE]at h1;split at h1
   .rename_i e;simp only[ja]at e;obtain⟨rfl,_⟩:=e;simp only[ct,ah]at c a;subst c;subst a;exact Le.nilEmp.toH d
   .rename_i e;simp only[ja]at e;obtain⟨rfl,_⟩:=e;simp only[ct,ah]at c a;subst c;subst a;exact lO.refl d _
   .cases h1
  .cases hg
theorem Df (d:uV H H') (hr:xW h' h):∀(ps:Y PV) (vs:Y TV) (x:(PV.tyL ps).den) (m:Nat) (us:Y TV) (l q:Y AV),yi g h ps vs=M (x,m)->qh g ps x=M us->cJ h vs=M l->cJ h' us=M q->Eh h H H' m->ic H H' l q
 |[],[],x,m,us,l,q,hg,hp,hl,c,s=>by
  simp only[qh,ah]at hp;subst hp;simp only[cJ,ah]at hl c;subst hl;subst c;trivial
 |[],_::_,x,m,us,l,q,hg,_,_,_,_=>by simp[yi]at hg
 |_::_,[],x,m,us,l,q,hg,_,_,_,_=>by simp[yi]at hg
 |p::ps,v::vs,x,m,us,l,q,hg,hp,hl,c,s=>by
  simp only[yi]at hg;split at hg
  .rename_i x1 m1 h1;split at hg
   .rename_i x2 m2 h2;simp only[ah,aD]at hg;obtain⟨rfl,rfl⟩:=hg;simp only[qh,tN,u_]at hp;split at hp
    .rename_i a A;split at hp
     .rename_i b hb;simp only[ah]at hp;subst hp;obtain⟨y,l2,rfl,e1,e2⟩:=c4 hl;obtain⟨y',z,rfl,e3,Z⟩:=c4 c;obtain⟨U,L⟩:=s.or;exact⟨af9 d hr h1 A e1 e3 U,Df d hr ps vs _ _ b l2 z h2 hb e2 Z L⟩
     .cases hp
    .cases hp
   .cases hg
  .cases hg
inductive BM (g:Nat->Nat) (h:bi) (m:Nat):iu->iu->Prop
 |rows (ty:TypeId) (p:Bool) (T:Ty) (xs:List T.den):BM g h m (.rows ty p T xs) (.rows ty p T xs)
 |mp (K V:Ty) (es:List (K.den×V.den)):BM g h m (.mp K V es) (.mp K V es)
 |cells (ty:Option TypeId) (ps:List PV) (x:(PV.tyL ps).den) (l l2:List TV) (m':Nat) (hg:zA g h ps l=M (x,m',[])) (hp:qY g ps x=M l2) (hm:∀i,aM m' i=J->aM m i=J):BM g h m (.cells ty l) (.cells ty l2)
theorem BM.mono {m m2:Nat} (hm:∀i,aM m i=J->aM m2 i=J) {b c:iu} (h1:BM g h m b c):BM g h m2 b c:=by
 cases h1 with
 |rows ty p T xs=>exact .rows ty p T xs
 |mp K V es=>exact .mp K V es
 |cells ty ps x l l2 m' hg hp a=>exact .cells ty ps x l l2 m' hg hp λi hi=>hm i (a i hi)
theorem afb {i:Nat} {b:PB} {x:b.ty.den} {m:Nat} {c:iu} (hg:E5 g h i b=M (x,m)) (hp:CO g b x=M (M c)):∃b0,h.get (g i)=M b0/\BM g h m b0 c:=by
 cases b with
 |rows ty p T=>
  simp only[E5]at hg;split at hg
  .rename_i ty' s S xs hb;split at hg
   .rename_i hc;simp only[al,cV]at hc;obtain⟨rfl,rfl⟩:=hc;split at hg
    .rename_i z a;simp only[ah,aD]at hg;obtain⟨rfl,rfl⟩:=hg;obtain⟨e,rfl⟩:=ir a;cases e;simp only[CO,ah]at hp;subst hp;exact⟨_,hb,.rows _ _ _ _⟩
    .cases hg
   .cases hg
  .cases hg
 |rowsP ty T=>
  simp only[E5]at hg;split at hg
  .rename_i ty' s S xs hb;split at hg
   .rename_i hc;have hc:ty=ty':=by simpa using hc
    subst hc;split at hg
    .rename_i z a;simp only[ah,aD]at hg;obtain⟨rfl,rfl⟩:=hg;obtain⟨e,rfl⟩:=ir a;cases e;simp only[CO,ah]at hp;subst hp;exact⟨_,hb,.rows _ _ _ _⟩
    .cases hg
   .cases hg
  .cases hg
 |cells ty ps=>
  simp only[E5]at hg;split at hg
  .rename_i ty' l hb;split at hg
   .rename_i hc;have hc:ty=ty':=by simpa using hc
    subst hc;split at hg
    .rename_i z m1 a;simp only[ah,aD]at hg;obtain⟨rfl,rfl⟩:=hg;simp only[CO]at hp;split at hp
     .rename_i l2 q;simp only[ah]at hp;subst hp;exact⟨_,hb,.cells ty ps _ l l2 _ a q λ_ h=>h⟩
     .cases hp
    .cases hg
   .cases hg
  .cases hg
 |mp K V=>
  simp only[E5]at hg;split at hg
  .rename_i K' V' es hb;split at hg
   .rename_i z a;simp only[ah,aD]at hg;obtain⟨rfl,rfl⟩:=hg;obtain⟨e,rfl⟩:=ir a;cases e;simp only[CO,ah]at hp;subst hp;exact⟨_,hb,.mp _ _ _⟩
   .cases hg
  .cases hg
 |gone=>simp[CO]at hp
theorem Jt:∀(bs:Y PB) (i:Nat) (x:(PB.tyL bs).den) (m:Nat) (s:Y (I iu)),A_ g h i bs=M (x,m)->oK g bs x=M s->∀(k:Nat) c,s[k]? =M (M c)->∃b0,h.get (g (i+k))=M b0/\BM g h m b0 c
 |[],i,x,m,s,hg,hp,k,c,hk=>by
  simp only[oK,ah]at hp;subst hp;simp at hk
 |b::r,i,x,m,s,hg,hp,k,c,hk=>by
  simp only[A_]at hg;split at hg
  .rename_i L m1 h1;split at hg
   .rename_i A m2 h2;simp only[ah,aD]at hg;obtain⟨rfl,rfl⟩:=hg;simp only[oK,tN,u_]at hp;split at hp
    .rename_i a z;split at hp
     .rename_i q hq;simp only[ah]at hp;subst hp;cases k with
      |zero=>
       simp at hk;subst hk;obtain⟨b0,e1,e2⟩:=afb h1 z;exact⟨b0,e1,e2.mono λi hi=>by rw[bp,hi];rfl⟩
      |succ k=>
       obtain⟨b0,e1,e2⟩:=Jt r (i+1) _ _ q h2 hq k c (by simpa using hk);rw[show i+1+k=i+(k+1) from by omega]at e1;exact⟨b0,e1,e2.mono λi hi=>by rw[bp,hi];simp⟩
     .cases hp
    .cases hp
   .cases hg
  .cases hg
end get
theorem Rm {σ:PT Nat} {i a:Nat} (h:σ.get i=M a):ip σ i=a:=by unfold ip;rw[h]
theorem Ws {σ:PT Nat}:∀(n i acc sm:Nat),Z1 σ n i acc=M sm->
 (∀k,k<n->aM acc (ip σ (i+k))=af)/\(∀a b,a<n->b<n->ip σ (i+a)=ip σ (i+b)->a=b)/\∀q,aM sm q=J↔aM acc q=J\/∃k,k<n/\ip σ (i+k)=q
 |0,i,acc,sm,h=>by
  simp only[Z1,ah]at h;subst h;exact⟨λk hk=>by omega,λa b s=>by omega,λq=>⟨.inl,λhq=>hq.elim id λ⟨k,hk,_⟩=>by omega⟩⟩
 |n+1,i,acc,sm,h=>by
  simp only[Z1]at h;split at h
  .rename_i a s;split at h
   .cases h
   .rename_i hna;have hna:aM acc a=af:=by simpa using hna
    have hga:=Rm s;obtain⟨h1,h2,z⟩:=Ws n (i+1) (acc|||kE a) sm h;have hne:∀k,k<n->ip σ (i+1+k)≠a/\aM acc (ip σ (i+1+k))=af:=λk hk=>by
     have:=h1 k hk;rw[bp,Bool.or_eq_false_iff]at this;refine ⟨λe=>?_,this.1⟩;have c:=this.2;rw[e]at c;rw[bW.2 rfl]at c;cases c
    refine ⟨λk hk=>?_,λx y L A hxy=>?_,λq=>?_⟩
    .cases k with
     |zero=>rw[c8,hga];exact hna
     |succ k=>rw[show i+(k+1)=i+1+k from by omega];exact (hne k (by omega)).2
    .cases x with
     |zero=>
      cases y with
      |zero=>rfl
      |succ y=>
       rw[c8,hga,show i+(y+1)=i+1+y from by omega]at hxy;exact bZ hxy.symm (hne y (by omega)).1
     |succ x=>
      cases y with
      |zero=>
       rw[show i+0=i from rfl,hga,show i+(x+1)=i+1+x from by omega]at hxy;exact bZ hxy (hne x (by omega)).1
      |succ y=>
       rw[show i+(x+1)=i+1+x from by omega,show i+(y+1)=i+1+y from by omega]at hxy;have:=h2 x y (by omega) (by omega) hxy;omega
    .rw[z,bp,jb];constructor
     .rintro ((hq|hq)|⟨k,hk,hq⟩)
      .exact .inl hq
      .exact .inr ⟨0,by omega,by rw[c8,hga];exact bW.1 hq⟩
      .exact .inr ⟨k+1,by omega,by rw[show i+(k+1)=i+1+k from by omega];exact hq⟩
     .rintro (hq|⟨k,hk,hq⟩)
      .exact .inl (.inl hq)
      .cases k with
       |zero=>rw[c8,hga]at hq;exact .inl (.inr (bW.2 hq))
       |succ k=>exact .inr ⟨k,by omega,by rw[show i+1+k=i+(k+1) from by omega];exact hq⟩
  .cases h
theorem Ru {σ:PT Nat}:∀(n:Nat),Xf σ n=J->∀i,i<n->ip σ i=i
 |0,_,i,hi=>by omega
 |n+1,h,i,hi=>by
  simp only[Xf,al]at h;by_cases e:i=n
  .subst e;cases c:σ.get i with
   |none=>rw[c]at h;exact bZ h.1 (by simp)
   |some a=>rw[c]at h;rw[Rm c];exact ar h.1
  .exact Ru n h.2 i (by omega)
structure Ia (np:Nat) (t:Tm) (vs:List TV) (h:bi) (z:t.ty.den) (m:Nat) (σ:PT Nat) (sm:Nat):Prop where
 ex:∃x m1 y m2,z=Uq _ _ x y/\m=m1|||m2/\yi (ip σ) h t.vs vs=M (x,m1)/\A_ (ip σ) h 0 t.bs=M (y,m2)
 inj:∀a b,a<t.bs.length->b<t.bs.length->ip σ a=ip σ b->a=b
 sig:∀q,aM sm q=J↔∃k,k<t.bs.length/\ip σ k=q
 disj:∀i,aM m i=J->aM sm i=af
 fix:∀i,i<np->ip σ i=i
theorem wA {np:Nat} {t:Tm} {vs:Y TV} {h:bi} {z:t.ty.den} {m:Nat} {σ:PT Nat} {sm:Nat} (hm:EE np t vs h=M ⟨z,m,σ,sm⟩):Ia np t vs h z m σ sm:=by
 unfold EE at hm;rw[OP]at hm;split at hm
 .rename_i sm' hs;split at hm
  .rename_i x m1 h1;split at hm
   .rename_i y m2 h2;split at hm
    .rename_i hc;simp only[al]at hc;simp only[ah,aid.mk.injEq]at hm;obtain⟨rfl,rfl,rfl,rfl⟩:=hm;obtain⟨s,c,a⟩:=Ws _ _ _ _ hs;simp only[bI]at s c a;exact⟨⟨x,m1,y,m2,rfl,rfl,h1,h2⟩,c,λq=>by rw[a];simp,λi hi=>xQ hc.1 i hi,Ru np hc.2⟩
    .cases hm
   .cases hm
  .cases hm
 .cases hm
mutual
theorem zB {g:Nat->Nat} {h:bi}:∀(p:PV) (l:Y TV) (x:p.ty.den) (m:Nat) (r:Y TV),pE g h p l=M (x,m,r)->dS h m
 |.d T,l,x,m,r,hg=>vb 40 T l x m r hg
 |.ptr i q,l,x,m,r,hg=>by
  simp only[pE]at hg;split at hg
  .split at hg
   .simp only[ah,aD]at hg;obtain⟨_,rfl,_⟩:=hg;exact dS.zero h
   .cases hg
  .cases hg
 |.csl i q z,l,x,m,r,hg=>by
  simp only[pE]at hg;split at hg
  .split at hg
   .simp only[ah,aD]at hg;obtain⟨_,rfl,_⟩:=hg;exact dS.zero h
   .cases hg
  .cases hg
 |.clo q i z,l,x,m,r,hg=>by
  simp only[pE]at hg;split at hg
  .split at hg
   .simp only[ah,aD]at hg;obtain⟨_,rfl,_⟩:=hg;exact dS.zero h
   .cases hg
  .cases hg
 |.row i,l,x,m,r,hg=>by
  simp only[pE]at hg;split at hg
  .split at hg
   .simp only[ah,aD]at hg;obtain⟨_,rfl,_⟩:=hg;exact dS.zero h
   .cases hg
  .cases hg
 |.mp i,l,x,m,r,hg=>by
  simp only[pE]at hg;split at hg
  .split at hg
   .simp only[ah,aD]at hg;obtain⟨_,rfl,_⟩:=hg;exact dS.zero h
   .cases hg
  .cases hg
 |.nil,l,x,m,r,hg=>by
  simp only[pE]at hg;split at hg
  .simp only[ah,aD]at hg;obtain⟨_,rfl,_⟩:=hg;exact dS.zero h
  .cases hg
 |.emp,l,x,m,r,hg=>by
  simp only[pE]at hg;split at hg
  .simp only[ah,aD]at hg;obtain⟨_,rfl,_⟩:=hg;exact dS.zero h
  .simp only[ah,aD]at hg;obtain⟨_,rfl,_⟩:=hg;exact dS.zero h
  .cases hg
 |.agg ps,l,x,m,r,hg=>HX ps l x m r hg
theorem HX {g:Nat->Nat} {h:bi}:∀(ps:Y PV) (l:Y TV) (x:(PV.tyL ps).den) (m:Nat) (r:Y TV),zA g h ps l=M (x,m,r)->dS h m
 |[],l,x,m,r,hg=>by
  simp only[zA,ah,aD]at hg;obtain⟨_,rfl,_⟩:=hg;exact dS.zero h
 |p::ps,l,x,m,r,hg=>by
  simp only[zA]at hg;split at hg
  .rename_i x1 m1 r1 h1;split at hg
   .rename_i x2 m2 r2 h2;simp only[ah,aD]at hg;obtain⟨_,rfl,_⟩:=hg;exact (zB p l x1 m1 r1 h1).or (HX ps r1 _ _ _ h2)
   .cases hg
  .cases hg
end
theorem aj6 {g:Nat->Nat} {h:bi} {p:PV} {v:TV} {x:p.ty.den} {m:Nat} (hg:xE g h p v=M (x,m)):dS h m:=by
 cases p with
 |d T=>exact XC hg
 |agg ps=>
  simp only[xE]at hg;split at hg
  .cases hg
  .split at hg
   .split at hg
    .rename_i a m1 h1;simp only[ah,aD]at hg;obtain⟨_,rfl⟩:=hg;exact HX ps _ _ _ _ h1
    .cases hg
   .cases hg
 |ptr i q=>
  simp only[xE]at hg;split at hg
  .rename_i h1;simp only[ah,aD]at hg;obtain⟨_,rfl⟩:=hg;exact zB _ _ _ _ _ h1
  .cases hg
 |csl i q z=>
  simp only[xE]at hg;split at hg
  .rename_i h1;simp only[ah,aD]at hg;obtain⟨_,rfl⟩:=hg;exact zB _ _ _ _ _ h1
  .cases hg
 |clo q i z=>
  simp only[xE]at hg;split at hg
  .rename_i h1;simp only[ah,aD]at hg;obtain⟨_,rfl⟩:=hg;exact zB _ _ _ _ _ h1
  .cases hg
 |row i=>
  simp only[xE]at hg;split at hg
  .rename_i h1;simp only[ah,aD]at hg;obtain⟨_,rfl⟩:=hg;exact zB _ _ _ _ _ h1
  .cases hg
 |mp i=>
  simp only[xE]at hg;split at hg
  .rename_i h1;simp only[ah,aD]at hg;obtain⟨_,rfl⟩:=hg;exact zB _ _ _ _ _ h1
  .cases hg
 |nil=>
  simp only[xE]at hg;split at hg
  .rename_i h1;simp only[ah,aD]at hg;obtain⟨_,rfl⟩:=hg;exact zB _ _ _ _ _ h1
  .cases hg
 |emp=>
  simp only[xE]at hg;split at hg
  .rename_i h1;simp only[ah,aD]at hg;obtain⟨_,rfl⟩:=hg;exact zB _ _ _ _ _ h1
  .cases hg
theorem HW {g:Nat->Nat} {h:bi}:∀(ps:Y PV) (vs:Y TV) (x:(PV.tyL ps).den) (m:Nat),yi g h ps vs=M (x,m)->dS h m
 |[],[],x,m,hg=>by simp only[yi,ah,aD]at hg;obtain⟨_,rfl⟩:=hg;exact dS.zero h
 |[],_::_,x,m,hg=>by simp[yi]at hg
 |_::_,[],x,m,hg=>by simp[yi]at hg
 |p::ps,v::vs,x,m,hg=>by
  simp only[yi]at hg;split at hg
  .rename_i c m1 h1;split at hg
   .rename_i a m2 h2;simp only[ah,aD]at hg;obtain⟨_,rfl⟩:=hg;exact (aj6 h1).or (HW ps vs a m2 h2)
   .cases hg
  .cases hg
theorem aj7 {g:Nat->Nat} {h:bi} {i:Nat} {b:PB} {x:b.ty.den} {m:Nat} (hg:E5 g h i b=M (x,m)):dS h m:=by
 cases b with
 |rows ty p T=>
  simp only[E5]at hg;split at hg
  .split at hg
   .split at hg
    .simp only[ah,aD]at hg;obtain⟨_,rfl⟩:=hg;exact dS.zero h
    .cases hg
   .cases hg
  .cases hg
 |rowsP ty T=>
  simp only[E5]at hg;split at hg
  .split at hg
   .split at hg
    .simp only[ah,aD]at hg;obtain⟨_,rfl⟩:=hg;exact dS.zero h
    .cases hg
   .cases hg
  .cases hg
 |cells ty ps=>
  simp only[E5]at hg;split at hg
  .split at hg
   .split at hg
    .rename_i h1;simp only[ah,aD]at hg;obtain⟨_,rfl⟩:=hg;exact HX ps _ _ _ _ h1
    .cases hg
   .cases hg
  .cases hg
 |mp K V=>
  simp only[E5]at hg;split at hg
  .split at hg
   .simp only[ah,aD]at hg;obtain⟨_,rfl⟩:=hg;exact dS.zero h
   .cases hg
  .cases hg
 |gone=>simp only[E5,ah,aD]at hg;obtain⟨_,rfl⟩:=hg;exact dS.zero h
theorem HY {g:Nat->Nat} {h:bi}:∀(bs:Y PB) (i:Nat) (x:(PB.tyL bs).den) (m:Nat),A_ g h i bs=M (x,m)->dS h m
 |[],i,x,m,hg=>by simp only[A_,ah,aD]at hg;obtain⟨_,rfl⟩:=hg;exact dS.zero h
 |b::r,i,x,m,hg=>by
  simp only[A_]at hg;split at hg
  .rename_i c m1 h1;split at hg
   .rename_i a m2 h2;simp only[ah,aD]at hg;obtain⟨_,rfl⟩:=hg;exact (aj7 h1).or (HY r (i+1) a m2 h2)
   .cases hg
  .cases hg
structure qR (t:Tm) (x:t.ty.den) (vs:List TV) (h1:bi) (l1:List (Option iu)):Prop where
 pv:qh HV t.vs (OO _ _ x)=M vs
 pb:oK HV t.bs (Lp _ _ x)=M l1
 len:l1.length=t.bs.length
 at_:∀i b,h1.get i=M b↔l1[i]? =M (M b)
 ok:kX h1 vs=J
 lt:rH t.bs.length vs=J
 cells:∀i ty l,h1.get i=M (.cells ty l)->kX h1 l=J/\rH t.bs.length l=J
theorem aam (l:Y (I iu)) (i:Nat) (b:iu):(AG HV 0 l PT.leaf).get i=M b↔l[i]? =M (M b):=by
 by_cases hi:i<l.length
 .obtain⟨c,hc⟩:∃c,l[i]? =M c:=⟨l[i],ay hi⟩
  have:=vi HV l 0 PT.leaf (λa b _ _ e=>by simp only[HV]at e;omega) i c hc;rw[show HV (0+i)=i from by simp only[HV];omega]at this;rw[this,hc];cases c with
  |some b'=>simp
  |none=>simp[PT.get]
 .rw[vh HV l 0 PT.leaf i (λk hk=>by simp only[HV];omega),bE (by omega)];simp[PT.get]
theorem wG {t:Tm} {x:t.ty.den} {vs:Y TV} {h1:bi} (hi:C5 t x=M (vs,h1)):∃l1,qR t x vs h1 l1:=by
 unfold C5 at hi;split at hi
 .rename_i us hus;split at hi
  .rename_i h hh;split at hi
   .rename_i hc;simp only[al]at hc;simp only[ah,aD]at hi;obtain⟨rfl,rfl⟩:=hi;unfold MH at hh;split at hh
    .rename_i l1 a;simp only[ah]at hh;refine ⟨l1,hus,a,CM _ _ _ _ a,λi b=>?_,hc.1.1,hc.1.2,λi ty l hil=>?_⟩
     .rw[<- hh];exact aam l1 i b
     .have:=PT.get_all _ h 1 0 i _ hc.2 hil;simpa only[al] using this
    .cases hh
   .cases hi
  .cases hi
 .cases hi
def WE (nb:Nat) (n:Nat):Bool:=n%2==0&&gx (n/2) nb
theorem BH {nb i:Nat}:WE nb (nm i)=J↔i<nb:=by
 unfold WE nm;rw[show 2*i%2=0 from by omega,show 2*i/2=i from by omega];simp only[cU,ib];exact⟨λh=>a_ h,λh=>bD h⟩
theorem aa2 {nb n:Nat} (h:WE nb n=J):∃i,i<nb/\n=nm i:=by
 unfold WE at h;simp only[al,cV]at h;exact⟨n/2,a_ h.2,by unfold nm;omega⟩
mutual
theorem aj3 {nb:Nat} {h:bi}:∀(v:TV) (y:AV),Lz nb v=J->ct h v=M y->y.all (WE nb)=J
 |.f _ _,y,_,he=>by simp only[ct,ah]at he;subst he;rfl
 |.fel _ _ _ _ _,y,_,he=>by simp only[ct,ah]at he;subst he;rfl
 |.pel id _ _ _,y,hl,he=>by simp only[ct,ah]at he;subst he;exact BH.2 (a_ hl)
 |.ptr id _,y,hl,he=>by simp only[ct,ah]at he;subst he;exact BH.2 (a_ hl)
 |.csl id _ _,y,hl,he=>by simp only[ct,ah]at he;subst he;exact BH.2 (a_ hl)
 |.row id,y,hl,he=>by
  simp only[ct]at he;split at he
  .simp only[ah]at he;subst he;unfold fE;split
   .rfl
   .exact BH.2 (a_ hl)
  .cases he
 |.rtl id jj,y,hl,he=>by
  simp only[ct]at he;split at he
  .simp only[ah]at he;subst he;exact BH.2 (a_ hl)
  .cases he
 |.emp,y,_,he=>by simp only[ct,ah]at he;subst he;rfl
 |.nil,y,_,he=>by simp only[ct,ah]at he;subst he;rfl
 |.mp id,y,hl,he=>by simp only[ct,ah]at he;subst he;exact BH.2 (a_ hl)
 |.agg l,y,hl,he=>by
  simp only[ct]at he;split at he
  .rename_i l' hl';simp only[ah]at he;subst he;exact r7 l l' hl hl'
  .cases he
 |.tup l,y,hl,he=>by
  simp only[ct]at he;split at he
  .rename_i l' hl';simp only[ah]at he;subst he;exact r7 l l' hl hl'
  .cases he
 |.clo q l,y,hl,he=>by
  simp only[ct]at he;split at he
  .rename_i l' hl';simp only[ah]at he;subst he;exact r7 l l' hl hl'
  .cases he
 |.undef,y,_,he=>by simp only[ct,ah]at he;subst he;rfl
 |.np,y,_,he=>by simp only[ct,ah]at he;subst he;rfl
 |.anyb,y,_,he=>by simp only[ct,ah]at he;subst he;rfl
theorem r7 {nb:Nat} {h:bi}:∀(l:Y TV) (l':Y AV),rH nb l=J->cJ h l=M l'->AV.allL (WE nb) l'=J
 |[],l',_,he=>by simp only[cJ,ah]at he;subst he;rfl
 |x::r,l',hl,he=>by
  obtain⟨y,l2,rfl,e1,e2⟩:=c4 he;simp only[rH,al]at hl;simp only[AV.allL,al];exact⟨aj3 x y hl.1 e1,r7 r l2 hl.2 e2⟩
end
theorem qR.blk_all {t:Tm} {x:t.ty.den} {vs:Y TV} {h1:bi} {l1:Y (I iu)} (z:qR t x vs h1 l1) {i:Nat} {b:iu} (hb:h1.get i=M b) {y:vT} (a:jF h1 b=M y):y.c.all (WE t.bs.length)=J:=by
 cases b with
 |rows ty p T xs=>
  simp only[jF]at a;split at a
  .cases a
  .simp only[ah]at a;subst a;rfl
 |cells ty l=>
  cases ty with
  |some ty=>
   simp only[jF]at a;split at a
   .rename_i q hl;simp only[ah]at a;subst a;exact r7 l q (z.cells i _ l hb).2 hl
   .cases a
  |none=>
   simp only[jF]at a;split at a
   .rename_i q hl;simp only[ah]at a;subst a;show AV.allL _ ((oU 0 q).map (·.2))=J;rw[MV];exact r7 l q (z.cells i _ l hb).2 hl
   .cases a
 |dead p sz n=>cases a
 |mp K V es=>
  simp only[jF,ah]at a;subst a;show BC.all _ (mpC K V es)=J;unfold mpC;split
  .rfl
  .simp only[BC.all,HG];have key:∀l:Y (K.den×V.den),AV.allL (WE t.bs.length) (l.map ((λx=>x.2)∘λp=>(pU K p.1,AV.f (gC V p.2))))=J:=λl=>by
    induction l with
    |nil=>rfl
    |cons e r s=>simp only[eS,AV.allL,al];exact⟨rfl,s⟩
   exact key es
theorem qR.lt_len {t:Tm} {x:t.ty.den} {vs:Y TV} {h1:bi} {l1:Y (I iu)} (y:qR t x vs h1 l1) {i:Nat} {b:iu} (hb:h1.get i=M b):i<t.bs.length:=by
 rw[<- y.len];exact (bh.1 ((y.at_ i b).1 hb)).1
def φ1 (nb:Nat) (g:Nat->Nat) (φ:PM):PM:=λn=>if WE nb n then φ (HZ g n) else D
theorem ZL {nb:Nat} {g:Nat->Nat} {φ:PM} {i:Nat} (hi:i<nb):φ1 nb g φ (nm i)=φ (nm (g i)):=by
 unfold φ1;rw[aC (BH.2 hi),xH]
theorem xk {nb:Nat} {g:Nat->Nat} {φ:PM} {n k:Nat} (h:φ1 nb g φ n=M k):∃i,i<nb/\n=nm i/\φ (nm (g i))=M k:=by
 unfold φ1 at h;split at h
 .rename_i hp;obtain⟨i,hi,rfl⟩:=aa2 hp;rw[xH]at h;exact⟨i,hi,rfl,h⟩
 .cases h
structure agb (t:Tm) (x:t.ty.den) (vs:List TV) (h1:bi) (g:Nat->Nat) (φ:PM) (E E':Nat->Prop) (Hv:HF) (w:World):Prop where
 rep:re (φ1 t.bs.length g φ) E' (bu h1) w
 val:∀x v,x.all (WE t.bs.length)=J->cN φ (tot E φ Hv) w (x.ren (HZ g)) v->cN (φ1 t.bs.length g φ) (tot E' (φ1 t.bs.length g φ) (bu h1)) w x v
 own_:∀k,own (φ1 t.bs.length g φ) (bu h1) k->own φ Hv k
 tot_:∀k,tot E' (φ1 t.bs.length g φ) (bu h1) k->tot E φ Hv k
theorem re.toId {t:Tm} {x:t.ty.den} {vs:Y TV} {h1:bi} {l1:Y (I iu)} (z:qR t x vs h1 l1) {g:Nat->Nat} (inj:∀a b,a<t.bs.length->b<t.bs.length->g a=g b->a=b) {φ:PM} {E E':Nat->Prop} {Hv:HF} {w:World} (r:re φ E Hv w)
 (hat:∀i b y,h1.get i=M b->jF h1 b=M y->Hv (nm (g i))=M (y.ren (HZ g)))
 (hE:∀k,E' k->tot E φ Hv k) (hne:∀i k b,i<t.bs.length->Hv (nm (g i))=M b->φ (nm (g i))=M k->¬E' k) (hel:∀k,E' k->k<w.heap.size):agb t x vs h1 g φ E E' Hv w:=by
 have own1:∀k,own (φ1 t.bs.length g φ) (bu h1) k->own φ Hv k:=by
  rintro k ⟨n,y,h2,h3⟩;obtain⟨i,hi,rfl,L⟩:=xk h3;obtain⟨j,b,e,A,q⟩:=jD h2;have:=kY e;subst this;exact⟨nm (g i),_,hat i b y A q,L⟩
 have tot1:∀k,tot E' (φ1 t.bs.length g φ) (bu h1) k->tot E φ Hv k:=λk hk=>hk.elim (hE k) λh=>.inr (own1 k h)
 have val:∀x v,x.all (WE t.bs.length)=J->cN φ (tot E φ Hv) w (x.ren (HZ g)) v->cN (φ1 t.bs.length g φ) (tot E' (φ1 t.bs.length g φ) (bu h1)) w x v:=λx v Z hr=>by
  have h2:cN (φ1 t.bs.length g φ) (tot E φ Hv) w x v:=cN.renFrom (λi k hp hk=>by unfold φ1;rw[aC hp];exact hk) hr x Z rfl;exact h2.ext (λ_ _ h=>h) (Ib.refl _ w) λk _ hk=>tot1 k hk
 refine ⟨⟨λn n' b b' k U g2 g3 g4=>?_,λn y U=>?_,hel,λg' cells hg=>(r.gl g' cells hg).ext (Ib.refl _ w) λk _ hk=>tot1 k hk⟩,val,own1,tot1⟩
 .obtain⟨i,hi,rfl,L⟩:=xk g3;obtain⟨j,hj,rfl,A⟩:=xk g4;obtain⟨i',c,e,q,s⟩:=jD U;have:=kY e;subst this;obtain⟨j',c',e,h8,h9⟩:=jD g2;have:=kY e;subst this;have:=r.inj _ _ _ _ k (hat i c _ q s) (hat j c' _ h8 h9) L A;rw[inj i j hi hj (kY this)]
 .obtain⟨i,c,rfl,q,s⟩:=jD U;have hi:=z.lt_len q;obtain⟨k,p1,p2,ob,p3,p4⟩:=r.at_ _ _ (hat i c y q s);exact⟨k,by rw[ZL hi];exact p1,hne i k _ hi (hat i c y q s) p1,ob,p3,jh.renFrom val (z.blk_all q s) p4⟩
theorem BM.view {g:Nat->Nat} {h hv:bi} {H H':HF} {m:Nat} (d:uV H H') (A:Eh h H H' m) (hr:xW hv h) {b0 c:iu} (hb:BM g h m b0 c) {y q:vT} (e0:jF h b0=M y) (e1:jF hv c=M q):iN H H' y q:=by
 cases hb with
 |rows ty p T xs=>
  simp only[jF]at e0 e1;rw[e0]at e1;cases e1;exact iN.refl d y
 |mp K V es=>
  simp only[jF]at e0 e1;rw[e0]at e1;cases e1;exact iN.refl d y
 |cells ty ps x l l2 m' hg hp hm=>
  have key:∀a cs',cJ h l=M a->cJ hv l2=M cs'->ic H H' a cs'/\∀x∈cs',x.isCell=J:=λa cs' hl hc=>by
   obtain⟨l1,L,z,s,q3⟩:=Dg d hr ps l x m' [] l2 a cs' hg hp hl hc λi hi=>A i (hm i hi)
   simp only[cJ,ah]at s;subst s;rw[kc]at z;subst z;exact⟨q3,md (sq hc (xp ps x l2 hp))⟩
  cases ty with
  |some ty=>
   simp only[jF]at e0 e1;split at e0
   .rename_i a hl;simp only[ah]at e0;subst e0;split at e1
    .rename_i cs' hc;simp only[ah]at e1;subst e1;exact iN.cells rfl rfl (key _ _ hl hc).1 (key _ _ hl hc).2
    .cases e1
   .cases e0
  |none=>
   simp only[jF]at e0 e1;split at e0
   .rename_i a hl;simp only[ah]at e0;subst e0;split at e1
    .rename_i cs' hc;simp only[ah]at e1;subst e1;exact iN.told (key _ _ hl hc).1
    .cases e1
   .cases e0
theorem BM.erB_some {g:Nat->Nat} {h hv:bi} {nx m:Nat} (hinv:mo h nx) {i:Nat} {b0 c:iu} (h0:h.get i=M b0) (hb:BM g h m b0 c) {a:vT} (e1:jF hv c=M a):∃y,jF h b0=M y:=by
 cases hb with
 |rows ty p T xs=>exact⟨a,e1⟩
 |mp K V es=>exact⟨a,e1⟩
 |cells ty ps x l l2 m' hg hp hm=>
  obtain⟨q,hl⟩:=fd h l (hinv.cells i _ l h0);cases ty<;>exact⟨_,by simp only[jF,hl];rfl⟩
theorem BM.row {g:Nat->Nat} {h:bi} {m:Nat} {b0 c:iu} (hb:BM g h m b0 c):mV c=mV b0:=by
 cases hb<;>rfl
end
end Go.Proofs.YtloaobgmjdjhhaaGreatDoor.AI
