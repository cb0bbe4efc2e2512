/-
  Texts of the proof, part 4 of 6: what is used to prove the statement. No condition.
-/
import Derived.Test.YtlimcnhpkfopcaaGreatDoorWeakRefusesQ2
import Derived.Defers
namespace Go.Proofs.YtlimcnhpkfopcaaGreatDoor.AI
open Go.RowKit
set_option maxRecDepth 100000
set_option maxHeartbeats 4000000
set_option linter.unusedVariables false
set_option linter.unusedSimpArgs false
set_option linter.defProp false
open _root_.Array renaming length_toList→iV,getElem?_modify→ux,getElem?_push→xE
open _root_.Bool renaming true→J,false→aa,not_false→k_,and_false→wu,false_or→yJ,eq_iff_iff→HH
open Builtin renaming zeroCells→mM,firstCells→zY,append_→HG
open Call renaming operands→dI
open ForInStep renaming yield→yL
open Instr renaming findAsking→dk,findNow→dR,sameBits→jJ,findKey→l9,checkKey→mE,mapUpdate→yK,sameNow→Ei,lookup→J3
open _root_.Int renaming ofNat→aR,toNat→aS
open _root_.Int.ofNat renaming inj→uf
open _root_.List renaming length→l!,length→ah,replicate→aF,length_cons→bX,take→dg,getElem?_cons_zero→dH,toArray→fh,map→fX,cons_append→iE,replicate_succ→iU,range→kY,length_nil→lm,getElem?_cons_succ→mL,nil_append→m8,map_drop→ue,map_nil→wI,take_succ_cons→xA,flatMap_append→xC,ext_getElem?→BU,set_cons_zero→NH,mem_or_eq_of_mem_set→O_
open _root_.Nat renaming beq→ax,testBit→aO,add_zero→cZ,blt→dJ,ble→dK,min→jM,mul_assoc→Eh,mul_one→Gi
open _root_.Option renaming some→Z,none→U,bind_some→aC,map_some→bx,map→ik
open Result renaming andThen_ok→cM
open Sem renaming run_bind→ec,run→ia,run_pure→pT
open Utf8 renaming decode→Az
open Value.bool renaming injEq→Ec
open World renaming shape?→s8,cell?→QD
noncomputable section
def Pc (w:World) (ob:Obj):VY w (w.drew.alloc ob) ob:=VY.drawn (w.drawn+1) (sL {w with drawn:=w.drawn+1} ob)
section
variable {P:Program} {o:Oper} {e:Dp} {h:m7} {nx:Nat} {R:Co}
variable {v:Value} {L:ξ} {i:Nat}
def Kz (d:v.cells.toList=L) (A:l! L=i) (n:Nat):(mM v.cells n).size=n*i:=by
 have:v.cells.size=i:=by rw[<- A,<-d];simp
 simp[mM,this]
variable {s:TypeId} {d:Operand} {V:PM} {O:Nat->Prop} {S:HF} {N:Act}
def Nk {u x:TypeId} {t:Operand} {m:TypeInfo} (ho:o.op= .call {callee:=.builtin .append,args:=#[t,d],argTypes:=#[s,u]}) (hu:P.underlying s=Z (.slice x)) (i1:P.info? x=Z m) (hz:uz P x=Z L) (hzl:l! L=m.size)
 {w:World} (hrep:sq V O S w) (hnx:V nx=U) {A:M Addr} {n cap:Nat} {olds vs:ξ} {oldA src:Y AV} (hsl:N.eval t= .slice A n cap)
 (hold:(zY m.size n (.slice A n cap)).run P w.drew= .ok olds.toArray w.drew) (csold:Cs V (tot O V S) w oldA olds) (hol:l! olds=n*m.size) (hsrc:Src P m.size u (N.eval d) i vs w) (hcs:Cs V (tot O V S) w src vs)
 (hg:cap<n+i) (r1:n+i<=1099511627776) (r2:(n+i)*m.bytes<=1099511627776) (del:ι) (hdel:∀j∈del,j≠nx):
 o.wp P N w (λa' w'=>∃v φ',a'=N.put o.dst v/\kf V φ' S (eW S (nx::del) (j6 [(nx,⟨x,nX (oldA++src)⟩)])) w w'/\(∀m k,φ' m=Z k->V m=Z k\/m∈[nx])/\
  sq φ' O (eW S (nx::del) (j6 [(nx,⟨x,nX (oldA++src)⟩)])) w'/\cu φ' (tot O φ' (eW S (nx::del) (j6 [(nx,⟨x,nX (oldA++src)⟩)]))) w' (.G nx m.size (n+i)) v) (λ_ _ _=>False):=by
 obtain⟨F,z1,z2,i',D,z3⟩:=vb hz w;rw[i1]at D;cases D;have hfb:=growslice_fits (need:=n+i) (old:=cap) (bytes:=m.bytes) hg (by omega);have hrun:=run_append_grow_src w s u o.type x m F hu i1 z3 A n cap olds hold (N.eval d) i vs hsrc hg (by omega) hfb;have hgc:=grownCap_ge w (n+i) cap x;have hgm:=grownCap_le_maxLen w (n+i) cap x (by unfold maxLen;omega);generalize grownCap w (n+i) cap x=Gc at hrun hgc hgm;have cs:=csold.append hcs;have hnl:=hsrc.newsLen;obtain⟨φ',p1,p2,p3,p4⟩:=hrep.wnew hnx (Pc w _) (b:=⟨x,nX (oldA++src)⟩) (ob:=.cells ((olds++vs).toArray++mM F.cells (Gc-(n+i))) x (0,0)) (by
  obtain⟨q1,q2⟩:=nF (oldA++src);refine rD q2 (by rw[q1,<-cs.1];simp) λj q z=>?_
  rw[q1]at z;have a:j<l! (olds++vs):=by rw[cs.1];exact (bq.1 z).1
  refine ⟨cs.2.1 q (bf z),_,?_,cs.2.2 j q _ z (aD a)⟩;rw[Array.getElem?_append_left (by simpa using a),lM,aD a]) del (j6 [(nx,⟨x,nX (oldA++src)⟩)]) (by simp[j6]) (λj a hne=>by
   simp only[j6];rw[aA];intro hb;exact hne (av hb).symm)
 have hexec:(execOp N.eval o).run P w= .ok (.value (.slice (Z ⟨w.heap.size,0,U⟩) (n+i) Gc)) (w.drew.alloc (.cells ((olds++vs).toArray++mM F.cells (Gc-(n+i))) x)):=by
  unfold execOp;rw[ho];simp only[resolve,invoke,builtin,ec,pT,cM,List.map_toArray,ca,wI,hsl,hrun]
 unfold Oper.wp;rw[hexec];refine ⟨_,φ',rfl,p2,p3,p4,.G p1 hgc hgm ⟨x,?_⟩⟩;have:=(Pc w (.cells ((olds++vs).toArray++mM F.cells (Gc-(n+i))) x (0,0))).at_;unfold s8;rw[this];have hzs:=Kz z2 hzl (Gc-(n+i));have e1:(n+i)*m.size+(Gc-(n+i))*m.size=Gc*m.size:=by rw[<- QF];congr 1;omega
 simp only[Array.size_append,kX,bG,hol,hnl,hzs];congr 2;rw[<- e1,QF]
variable {j:Nat}
def arj {u el el':TypeId} {t:Operand} (ho:o.op= .call {callee:=.builtin .append,args:=#[t,d],argTypes:=#[s,u]}) (hu:P.underlying s=Z (.slice el)) (hu':P.underlying u=Z (.slice el')) (hs:fD P el=Z i) (hb:Ho P el=Z j) (hz:uz P el=Z L) (hzl:l! L=i) (hsz:i≠0)
 (D:dB (.app el i j t d) e h nx=Z R):fZ P o e.get h.get R.eff:=by
 obtain⟨sz,i1,i2⟩:=Qn hb;have i3:sz.size=i:=by unfold fD at hs;rw[i1]at hs;simpa using hs
 subst i2 i3;simp only[dB]at D;split at D
 .rename_i bv y hsv x;split at D
  .rename_i src m rd hrow;have common:∀{φ:PM} {E:Nat->Prop} {h':HF} {w:World} {a:Act},(∀sz∈rd,h' sz=h.get sz)->Ws φ E h' w a e o->sq φ E h' w->∃vs,Src P sz.size u (a.eval d) m vs w/\Cs φ (tot E φ h') w src vs:=
    λhrd hp hrep=>aii hrow hrd hrep (hp d _ (by rw[ho];simp[Op.operands,dI]) x) hu'
   have exec:∀{w w':World} {a:Act} {v:Value},(HG #[s,u] o.type #[a.eval t,a.eval d]).run P w= .ok v w'->(execOp a.eval o).run P w= .ok (.value v) w':=by
    intro w w' a v hrun;unfold execOp;rw[ho];simp[resolve,invoke,builtin,hrun]
   split at D
   .rename_i id sz' n;split at D
    .rename_i blk hblk;split at D
     .rename_i hc;simp only[au,cF,cU]at hc;obtain⟨⟨⟨⟨⟨rfl,hmem⟩,hcells⟩,hlen⟩,hty⟩,hroom⟩:=hc;have hlen:=aZ hlen;rw[BC.len_toMx hcells]at hlen;obtain⟨r1,r2⟩:=Ez hroom;cases D;subst hty;intro φ E h' w a h1 h2 h3 hrep h5;have hp:Ws φ E h' w a e o:=λd y x hy=>uX hrep h3 x hy
      have hb':h' id=Z blk:=by rw[h1 id (by simp[Co.eff])];exact hblk
      obtain⟨vs,hsrc,hcs⟩:=common (λsz hi=>h1 sz (by simp[Co.eff,hi])) hp hrep;have hpd:=hp t _ (by rw[ho];simp[Op.operands,dI]) hsv;have hnx:φ nx=U:=h5 nx (by simp[Co.eff]);have hwv:=hp t _ (by rw[ho];simp[Op.operands,dI]) hsv;generalize hzv:a.eval t=pv at hpd;cases hpd with
      |@G _ _ _ cap k hφ hn hcap hsh=>
       obtain⟨arr,g1,g2,g3⟩:=hrep.cs hb' hφ hcells;have hne:nx≠id:=λe=>by rw[e,hφ]at hnx;cases hnx
       have harr:arr.size=cap*sz.size:=by
        obtain⟨ty,hty⟩:=hsh;unfold s8 at hty;rw[g1]at hty;simp at hty;exact hty.2
       have hnl:=hsrc.newsLen;have hnn:n*sz.size<=arr.size:=by omega
       have csnew:Cs φ (tot E φ h') w (blk.c.toMx.take (n*sz.size)++src) (arr.toList.take (n*sz.size)++vs):=by
        have:=(g2.take (n*sz.size)).append hcs
        rwa [List.take_take,HC hlen]at this
       have hnw1:j6 [(nx,⟨blk.ty,nX (blk.c.toMx.take (n*sz.size)++src)⟩)] nx=Z ⟨blk.ty,nX (blk.c.toMx.take (n*sz.size)++src)⟩:=by simp[j6]
       have hnw2:j6 [(nx,⟨blk.ty,nX (blk.c.toMx.take (n*sz.size)++src)⟩)] id=U:=by
        simp only[j6];rw[aA];intro hb;exact hne (av hb)
       by_cases hfit:n+m<=cap
       ·
        have hend:n*sz.size+l! vs<=arr.size:=by
         rw[hnl,harr,<-QF];exact cH _ hfit
        have hst:=run_storeCells_at (P:=P) k (n*sz.size) blk.ty vs 0 arr w g1 (by omega) hsrc.one;simp only[cZ]at hst
        let arr':Array Value:=(arr.toList.take (n*sz.size)++vs++arr.toList.drop (n*sz.size+l! vs)).toArray
        have hsize:arr'.size=arr.size:=by simp only[arr',kX,bG,cv,lW,iV];omega
        have hrun:(HG #[s,u] o.type #[a.eval t,a.eval d]).run P w= .ok (.slice (Z ⟨k,0,U⟩) (n+m) cap) (w.setRow k arr'):=by
         rw[hzv];rcases hsrc.kind with ⟨e',hk⟩|hk<;>simp[HG,run_underlying hu,run_underlying hk,sizeOf,typeInfo,i1,hsrc.len,hfit,hsrc.cells,kV,hst,arr']
        obtain⟨φ',p1,p2,p3,p4⟩:=hrep.wren hb' hφ hnx (Hx.setRow g1 hsize) (b':=⟨blk.ty,nX (blk.c.toMx.take (n*sz.size)++src)⟩) (by
         obtain⟨q1,q2⟩:=nF (blk.c.toMx.take (n*sz.size)++src);refine rD q2 (by rw[q1,<-csnew.1,hsize];simp;omega) λbytes q hq=>?_
         rw[q1]at hq;have hj:bytes<l! (arr.toList.take (n*sz.size)++vs):=by rw[csnew.1];exact (bq.1 hq).1
         refine ⟨csnew.2.1 q (bf hq),_,?_,csnew.2.2 bytes q _ hq (aD hj)⟩;simp only[arr',lM];rw[bz hj,aD hj]) _ hnw1 hnw2
        unfold Oper.wp;rw[exec hrun];refine ⟨_,φ',rfl,p2,p3,p4,.G p1 hfit hcap ⟨blk.ty,?_⟩⟩;unfold s8;rw[setRow_heap w k arr arr' blk.ty (0,0) g1];simp[hsize,harr]
       ·
        have hold:(zY sz.size n (.slice (Z ⟨k,0,U⟩) n cap)).run P w.drew= .ok (arr.toList.take (n*sz.size)).toArray w.drew:=by
         refine run_firstCells_some w.drew sz.size n _ n cap _ (by simp;omega) λbytes v F=>?_
         rw[cP]at F;split at F
         .rw[bL]at F;rw[kV,bO];have hcl:w.cell? ⟨k,bytes,U⟩=Z v:=by simp[QD,g1,F]
          simpa using hcl
         .cases F
        exact Nk ho hu i1 hz hzl hrep hnx hzv hold (by
         have:=g2.take (n*sz.size)
         rwa [List.take_take,HC hlen]at this) (by simp;omega) hsrc hcs (by omega) r1 r2 [id] (λbytes hj=>by simp at hj;subst hj;exact λe=>hne e.symm)
     .cases D
    .cases D
   .rename_i cells n;split at D
    .rename_i hc;simp only[au]at hc;obtain⟨hlen,hroom⟩:=hc;have hlen:=aZ hlen;obtain⟨r1,r2⟩:=Ez hroom;split at D
     .rename_i hm;have hm:m=0:=by simpa using hm
      subst hm;cases D;refine fZ.reads λφ E h' w a hrd hp hrep=>?_
      obtain⟨vs,hsrc,hcs⟩:=common hrd hp hrep;have z:=hp t _ (by rw[ho];simp[Op.operands,dI]) hsv;generalize hz:a.eval t=q at z;cases z with
      |@qd _ _ A z=>
       refine ⟨.slice A n n,exec ?_,.f z⟩;rw[hz];have hvs:vs=[]:=by have:=hsrc.newsLen;simpa using this
       have hc0:=hsrc.cells;rw[hvs]at hc0;rcases hsrc.kind with ⟨e',hk⟩|hk<;>cases A<;>simp[HG,run_underlying hu,run_underlying hk,sizeOf,typeInfo,i1,hsrc.len,hc0,storeCells]
     .rename_i hm;have hm:m≠0:=by simpa using hm
      cases D;intro φ E h' w a h1 h2 h3 hrep h5;have hp:Ws φ E h' w a e o:=λd y x hy=>uX hrep h3 x hy
      obtain⟨vs,hsrc,hcs⟩:=common (λsz hi=>h1 sz hi) hp hrep;have z:=hp t _ (by rw[ho];simp[Op.operands,dI]) hsv;generalize hz':a.eval t=q at z;cases z with
      |@qd _ _ A z=>
       have key:∃olds:ξ,(zY sz.size n (.slice A n n)).run P w.drew= .ok olds.toArray w.drew/\Cs φ (tot E φ h') w ((cells.take (n*sz.size)).map .f) olds/\l! olds=n*sz.size:=by
        cases z with
        |nil a c _=>
         refine ⟨[],?_,⟨by simp,(by intro d x;simp at x),(by intro bytes d v x;simp at x)⟩,by simp⟩;cases A with
         |none=>exact run_firstCells_none w.drew sz.size 0 0 0
         |some ad=>exact run_firstCells_some w.drew sz.size 0 ad 0 0 [] (by simp) (by intro bytes v F;simp at F)
        |sl _ _ c b off us hn hc hO hb hcl hu2 hrr=>
         refine ⟨(kY (n*sz.size)).map us,?_,⟨by simp;omega,?_,?_⟩,by simp⟩
         .refine run_firstCells_some w.drew sz.size n _ n n _ (by simp) λbytes v F=>?_
          rw[a8]at F;rcases bu bytes (n*sz.size) with hj|hj
          .rw[ru hj]at F;simp only[bx,af]at F;subst F;rw[kV];exact hu2 bytes (by omega)
          .rw[bK (by simpa using hj)]at F;cases F
         .intro d x;obtain⟨y,hy,rfl⟩:=cq.1 x;exact hcl y (il hy)
         .intro bytes d v x F;rw[a8,cP]at x;split at x
          .rename_i hj;rw[a8,ru hj]at F;simp only[bx,af]at F;subst F;cases hcj:cells[bytes]? with
           |none=>rw[hcj]at x;cases x
           |some y=>
            rw[hcj]at x;simp only[bx,af]at x;subst x;exact .f (hrr bytes y hcj)
          .cases x
       obtain⟨olds,k1,k2,k3⟩:=key;have:=Nk (nx:=nx) ho hu i1 hz hzl hrep (h5 nx (by simp[Co.eff])) hz' k1 k2 k3 hsrc hcs (by omega) r1 r2 [] (by simp);simpa[Co.eff] using this
    .cases D
   .split at D
    .rename_i hc;simp only[au]at hc;obtain⟨N,hroom⟩:=hc;obtain⟨r1,r2⟩:=Ez hroom;have hbase:∀{φ:PM} {O:Nat->Prop} {w:World} {v:Value},cu φ O w bv v->∃A,v= .slice A 0 0:=by
      intro φ O w v z;unfold DM at N;split at N
      .cases z;exact⟨_,rfl⟩
      .rename_i q;cases eV z;unfold uS at N;split at N
       .exact⟨_,rfl⟩
       .cases N
      .cases N
     split at D
     .rename_i hm;have hm:m=0:=by simpa using hm
      subst hm;cases D;refine fZ.reads λφ E h' w a hrd hp hrep=>?_
      obtain⟨vs,hsrc,hcs⟩:=common hrd hp hrep;have z:=hp t _ (by rw[ho];simp[Op.operands,dI]) hsv;obtain⟨A,hA⟩:=hbase z;refine ⟨a.eval t,exec ?_,z⟩;rw[hA];have hvs:vs=[]:=by have:=hsrc.newsLen;simpa using this
      have hc0:=hsrc.cells;rw[hvs]at hc0;rcases hsrc.kind with ⟨e',hk⟩|hk<;>cases A<;>simp[HG,run_underlying hu,run_underlying hk,sizeOf,typeInfo,i1,hsrc.len,hc0,storeCells]
     .rename_i hm;have hm:m≠0:=by simpa using hm
      cases D;intro φ E h' w a h1 h2 h3 hrep h5;have hp:Ws φ E h' w a e o:=λd y x hy=>uX hrep h3 x hy
      obtain⟨vs,hsrc,hcs⟩:=common (λsz hi=>h1 sz hi) hp hrep;obtain⟨A,hA⟩:=hbase (hp t _ (by rw[ho];simp[Op.operands,dI]) hsv);have hold:(zY sz.size 0 (.slice A 0 0)).run P w.drew= .ok ([]:ξ).toArray w.drew:=by
       cases A with
       |none=>exact run_firstCells_none w.drew sz.size 0 0 0
       |some ad=>exact run_firstCells_some w.drew sz.size 0 ad 0 0 [] (by simp) (by intro bytes v F;simp at F)
      have:=Nk (nx:=nx) (n:=0) (cap:=0) (olds:=[]) (oldA:=[]) ho hu i1 hz hzl hrep (h5 nx (by simp[Co.eff])) hA hold ⟨rfl,(by intro d x;cases x),(by intro bytes d v x;simp at x)⟩ (by simp) hsrc hcs (by omega) (by omega) (by simpa using r2) [] (by simp);simpa[Co.eff] using this
    .cases D
  .cases D
 .cases D
end
section
variable {P:Program} {o:Oper} {e:Dp} {h:m7} {nx:Nat} {R:Co}
variable {s:TypeId}
def ar4 (A:o.op= .makeMap s U) (d:dB .mkm e h nx=Z R):fZ P o e.get h.get R.eff:=by
 simp only[dB,af]at d;subst d;refine fZ.makes λφ E h' w a _ _ _=>?_
 refine ⟨.map (Z w.heap.size),{w with heap:=w.heap.push (.map #[] 0)},.map #[] 0,?_,sL w _,⟨#[],0,rfl,by unfold Qu;rw[aG rfl];rfl,by intro j x z;simp at z⟩,λφ' O hφ=>.mp hφ⟩;unfold execOp;rw[A];simp[Instr.makeMap,newObj,ia]
variable {d:Operand}
def aqy (z:o.op= .range s d) (D:P.underlying s=Z .string) (x:dB (.rng d) e h nx=Z R):fZ P o e.get h.get R.eff:=by
 simp only[dB]at x;split at x
 .rename_i t A;cases x;refine fZ.makes λφ E h' w a _ hp _=>?_
  have F:=eV (hp d _ (by rw[z];simp[Op.operands]) A);refine ⟨.pointer (Z ⟨w.heap.size,0,U⟩),{w with heap:=w.heap.push (.stringIter t 0)},.stringIter t 0,?_,sL w _,rfl,λφ' O hφ=>.H hφ⟩;unfold execOp;rw[z];simp[Instr.range,run_underlying D,F,newObj,ia]
 .cases x
variable {i:Nat}
def rx {w:World} {ob ob':Obj} (z:w.heap[i]? =Z ob) (h1:∀c t f,ob≠ .cells c t f) (h2:∀c t f,ob'≠ .cells c t f):Hx w {w with heap:=w.heap.setIfInBounds i ob'} i ob':=by
 have hlt:i<w.heap.size:=(cz.1 z).1;have hat:(w.heap.setIfInBounds i ob')[i]? =Z ob':=by simp[hlt]
 have hot:∀j,j≠i->(w.heap.setIfInBounds i ob')[j]? =w.heap[j]? :=λj d=>rj (λe=>d e.symm)
 refine ⟨rfl,rfl,rfl,by simp,hat,hot,λj=>?_⟩;unfold s8;by_cases d:j=i
 .subst d;simp only[hat,z];cases ob<;>cases ob'<;>first|rfl|exact cN rfl (h1 _ _ _)|exact cN rfl (h2 _ _ _)
 .simp only[hot j d]
def aqz (N:o.op= .next d J) (x:dB (.nxt d) e h nx=Z R):fZ P o e.get h.get R.eff:=by
 simp only[dB]at x;split at x
 .rename_i id hx;split at x
  .rename_i ty s p hid;split at x
   .rename_i b hb;cases x;refine fZ.writes hid λφ E h' w a hrd F hp hrep=>?_
    have L:=hp d _ (by rw[N];simp[Op.operands]) hx;generalize hz:a.eval d=z at L;cases L with
    |@H _ _ k hφ=>
     obtain⟨k',q1,_,ob,q2,q3⟩:=hrep.at_ id _ F;rw[hφ]at q1;cases q1;have q3:ob= .stringIter s p:=q3;subst q3;have hps:p<s.size:=by
      have:=(bq.1 hb).1;simpa using this
     have hget:s.get! p=b:=by
      have:s.data[p]? =Z b:=by rw[<- bL];exact hb
      have hpd:p<s.data.size:=(cz.1 this).1;have h2:s.data[p]! =s.data[p]:=getElem!_pos s.data p hpd;rw[iJ hpd]at this;simp only[ByteArray.get!,h2];exact fE this
     have hdec:∃c:Nat,Az s p=(c,wdA b s p)/\rnA b s p=(c:Int):=by
      unfold wdA rnA;cases hlt:dJ b.toNat 128 with
      |true=>
       refine ⟨b.toNat,?_,rfl⟩;have:=aZ hlt;unfold Az;simp only[cZ,hget];rw[aG (by omega)];rfl
      |false=>exact⟨(Az s p).1,rfl,rfl⟩
     obtain⟨c,hdec,hc⟩:=hdec;refine ⟨.value (.tuple #[.bool J,.int .i64 p,.int .i32 c]),_,k,.stringIter s (p+wdA b s p),?_,hφ,rx q2 (by simp) (by simp),rfl,_,.inl rfl,?_⟩
     .unfold execOp;rw[N];simp[Instr.next,hz,getObj,ia,q2,hps,hdec,setObj,goInt]
     .refine cu.qg (vs:=[.bool J,.int .i64 p,.int .i32 c]) rfl λj y v A D=>?_
      rw[hc]at A;rcases j with _|_|_|j<;>simp at A D
      .subst A D;exact .f (.raw _)
      .subst A D;exact .f (.raw _)
      .subst A D;exact .f (.raw _)
   .rename_i hb;cases x;refine fZ.writes hid λφ E h' w a hrd F hp hrep=>?_
    have L:=hp d _ (by rw[N];simp[Op.operands]) hx;generalize hz:a.eval d=z at L;cases L with
    |@H _ _ k hφ=>
     obtain⟨k',q1,_,ob,q2,q3⟩:=hrep.at_ id _ F;rw[hφ]at q1;cases q1;have q3:ob= .stringIter s p:=q3;subst q3;have hps:¬p<s.size:=by
      have:=List.getElem?_eq_none_iff.1 hb;have e:l! s.data.toList=s.size:=by simp
      omega
     refine ⟨.value (.tuple #[.bool aa]),w,k,.stringIter s p,?_,hφ,⟨rfl,rfl,rfl,rfl,q2,λ_ _=>rfl,λ_=>rfl⟩,rfl,_,.inl rfl,?_⟩
     .unfold execOp;rw[N];simp[Instr.next,hz,getObj,ia,q2,hps]
     .refine cu.qg (vs:=[.bool aa]) rfl λj y v A D=>?_
      rcases j with _|j<;>simp at A D;subst A D;exact .f (.raw _)
  .cases x
 .cases x
def w_ {a b:ByteArray}:tH a b=J↔a=b:=by
 unfold tH;constructor
 .intro h;have h1:a.data.toList=b.data.toList:=by simpa using h
  cases a;cases b;congr 1;exact Array.ext' h1
 .rintro rfl;simp
def Ck (a b:ByteArray):(a==b)=tH a b:=by
 have h1:(a==b)=(a.data==b.data):=rfl;rw[h1,HH,w_,cF];constructor
 .intro h;cases a;cases b;congr 1
 .rintro rfl;rfl
def kd (str:Bool) (d:TypeDesc):Prop:=if str then d= .string else ∃k,d= .int k
variable {b:Bool} {v:Value}
def AT {str:Bool} {d:TypeDesc} (hd:kd str d) {k:Value} (D:xY str k=J) (z:uY .eql k v=Z (.bool b)):Ei d k v=Z b:=by
 unfold kd at hd;cases str with
 |true=>
  simp only[bw]at hd;subst hd;cases k<;>simp[xY]at D;cases v<;>simp only[uY]at z<;>try (simp at z;done)
  simp only[af,Ec]at z;simp[Ei,Ck,z]
 |false=>
  simp only[bM,c8]at hd;obtain⟨q,rfl⟩:=hd;cases k<;>simp[xY]at D;cases v<;>simp only[uY]at z<;>try (simp at z;done)
  split at z
  .rename_i hkk;have hkk':=eq_of_beq hkk;subst hkk';simp only[af,Ec]at z;simp[Ei,<-z]
  .cases z
def Uz {d:TypeDesc} (hd:kd b d) (F:xY b v=J):∀(es:Y j?) (ents:Y MapEntry) (i:Nat),ents.map (·.key)=es.map (·.1)->∀r,tg v es=Z r->
 (r=U/\dR d v ents i=Z U)\/∃(j:Nat) (k:AV) (m:MapEntry) (A:Value),r=Z k/\es[j]? =Z (A,k)/\ents[j]? =Z m/\dR d v ents i=Z (Z (i+j,m.val))/\uY .eql v A=Z (.bool J)
 |[],ents,i,he,r,h=>by
  cases ents with
  |nil=>simp only[tg,af]at h;exact .inl ⟨h.symm,rfl⟩
  |cons _ _=>simp at he
 |(A,k)::es,ents,i,he,r,h=>by
  cases ents with
  |nil=>simp at he
  |cons m ents=>
   simp only[ca,fb]at he;obtain⟨z,L⟩:=he;simp only[tg]at h;split at h
   .rename_i D;simp only[af]at h;refine .inr ⟨0,k,m,A,h.symm,rfl,rfl,?_,D⟩;simp only[dR];rw[z,AT hd F D];rfl
   .rename_i D;have N:=AT hd F D;rcases Uz hd F es ents (i+1) L r h with ⟨h1,h2⟩|⟨j,v',m',k'',h1,h2,h3,h4,h5⟩
    .refine .inl ⟨h1,?_⟩;simp only[dR];rw[z,N];exact h2
    .refine .inr ⟨j+1,v',m',k'',h1,by simpa using h2,by simpa using h3,?_,h5⟩;simp only[dR];rw[z,N];show dR d v ents (i+1)=_;rw[h4,show i+1+j=i+(j+1) from by omega]
   .cases h
def uN {d:TypeDesc} (A:P.underlying s=Z d) (hd:kd b d) (str:Bool) (v:Value) (w:World):(mE str 10000 s v).run P w= .ok () w:=by
 have key:∀n,(mE str (n+1) s v).run P w= .ok () w:=λn=>by
  unfold kd at hd;cases b with
  |true=>simp only[bw]at hd;subst hd;simp[mE,run_underlying A]
  |false=>simp only[bM,c8]at hd;obtain⟨q,rfl⟩:=hd;simp[mE,run_underlying A]
 exact key 9999
variable {O:Nat->Prop} {V:PM} {y:AV}
def aec {w:World} {ok:Bool} (h:cu V O w y v):cu V O w (pkV ok y b) (if ok then .tuple #[v,.bool b] else v):=by
 cases ok with
 |false=>exact h
 |true=>
  refine cu.qg (vs:=[v,.bool b]) rfl λj x u d z=>?_
  rcases j with _|_|j<;>simp at d z
  .subst d z;exact h
  .subst d z;exact .f (.raw _)
variable {a:Int}
def SR :∀{es:Y j?},told a es=Z y->∃j:Nat,es[j]? =Z (.int .i64 a,y)
 |(.int .i64 k,z)::r,h=>by
  simp only[told]at h;split at h
  .rename_i e;subst e;cases h;exact⟨0,rfl⟩
  .obtain⟨j,d⟩:=SR h;exact⟨j+1,d⟩
def jW {m:MapEntry} {r:Y MapEntry} (hm:x_ m.key) (z:x_ v):(m.key=v->lI v (m::r)=m.val)/\(m.key≠v->lI v (m::r)=lI v r):=by
 obtain⟨a,d⟩:=hm;obtain⟨b,rfl⟩:=z;have e0:lI (.int .i64 b) (m::r)=if a=b then m.val else lI (.int .i64 b) r:=by simp only[lI,d]
 rw[e0];exact⟨λe=>by rw[d]at e;cases e;rw[aG rfl],λe=>by rw[aA λq=>e (by rw[d,q])]⟩
def G8 {d:TypeDesc} (hd:kd aa d) (n:Int):∀(ents:Y MapEntry) (i:Nat),(∀m∈ents,x_ m.key)->
 (dR d (.int .i64 n) ents i=Z U/\lI (.int .i64 n) ents= .slice U 0 0/\∀(k:Value) (m':MapEntry),m'.key= .int .i64 n->x_ k->(k= .int .i64 n->lI k (ents++[m'])=m'.val)/\(k≠ .int .i64 n->lI k (ents++[m'])=lI k ents))\/
 ∃(j:Nat) (m:MapEntry),ents[j]? =Z m/\dR d (.int .i64 n) ents i=Z (Z (i+j,m.val))/\lI (.int .i64 n) ents=m.val/\m.key= .int .i64 n/\∀(k:Value) (m':MapEntry),m'.key= .int .i64 n->x_ k->(k= .int .i64 n->lI k (ents.set j m')=m'.val)/\(k≠ .int .i64 n->lI k (ents.set j m')=lI k ents)
 |[],i,_=>by
  refine .inl ⟨rfl,rfl,λk m' hm z=>⟨λe=>?_,λe=>?_⟩⟩
  .exact (jW (r:=[]) ⟨n,hm⟩ z).1 (hm.trans e.symm)
  .exact (jW (r:=[]) ⟨n,hm⟩ z).2 (λq=>e (q.symm.trans hm))
 |m::r,i,h=>by
  have hmk:=h m (c_ ..);obtain⟨a,A⟩:=hmk;have hb:uY .eql (.int .i64 n) (.int .i64 a)=Z (.bool (n==a)):=by simp[uY]
  have N:=AT hd (k:=.int .i64 n) rfl hb;by_cases e:n=a
  .subst e;refine .inr ⟨0,m,rfl,?_,(jW ⟨n,A⟩ ⟨n,rfl⟩).1 A,A,λk m' hm z=>⟨λe=>?_,λe=>?_⟩⟩
   .simp only[dR];rw[A,N];simp
   .exact (jW (r:=r) ⟨n,hm⟩ z).1 (hm.trans e.symm)
   .show lI k (m'::r)=_;rw[(jW (r:=r) ⟨n,hm⟩ z).2 (λq=>e (q.symm.trans hm)),(jW (r:=r) ⟨n,A⟩ z).2 (λq=>e (q.symm.trans A))]
  .have F:Ei d (.int .i64 n) m.key=Z aa:=by rw[A,N];simp[e]
   have hne:¬m.key= .int .i64 n:=λq=>by rw[A]at q;cases q;exact e rfl
   have hl:=(jW (r:=r) ⟨a,A⟩ ⟨n,rfl⟩).2 hne;have step:∀(k:Value) (D:Y MapEntry) (m':MapEntry),x_ k->m'.key= .int .i64 n->(k= .int .i64 n->lI k D=m'.val)/\(k≠ .int .i64 n->lI k D=lI k r)->(k= .int .i64 n->lI k (m::D)=m'.val)/\(k≠ .int .i64 n->lI k (m::D)=lI k (m::r)):=λk D m' z _ g=>by
    refine ⟨λq=>?_,λq=>?_⟩
    .rw[(jW (r:=D) ⟨a,A⟩ z).2 (λx=>hne (x.trans q))];exact g.1 q
    .by_cases x:m.key=k
     .rw[(jW (r:=D) ⟨a,A⟩ z).1 x,(jW (r:=r) ⟨a,A⟩ z).1 x]
     .rw[(jW (r:=D) ⟨a,A⟩ z).2 x,(jW (r:=r) ⟨a,A⟩ z).2 x];exact g.2 q
   rcases G8 hd n r (i+1) (λq hq=>h q (b8 _ hq)) with ⟨h1,h2,L⟩|⟨j,q,h1,h2,L,h4,h5⟩
   .refine .inl ⟨?_,by rw[hl];exact h2,λk m' hm z=>step k _ m' z hm (L k m' hm z)⟩;simp only[dR];rw[F];exact h1
   .refine .inr ⟨j+1,q,by simpa using h1,?_,by rw[hl];exact L,h4,λk m' hm z=>step k _ m' z hm (h5 k m' hm z)⟩;simp only[dR];rw[F];show dR d _ r (i+1)=_;rw[h2,show i+1+j=i+(j+1) from by omega]
def HJ :∀{es:Y j?} {j:Nat} {q:j?},(mN a y es)[j]? =Z q->∃p,es[j]? =Z p/\q.1=p.1/\(p.1= .int .i64 a->q.2=y)/\(p.1≠ .int .i64 a->q.2=p.2)
 |[],j,q,h=>by simp[mN]at h
 |p::r,0,q,h=>by
  simp only[mN,dH,af]at h;subst h;refine ⟨p,rfl,rfl,λe=>?_,λe=>?_⟩
  .show (match p.1 with|.int .i64 k=>if k=a then y else p.2|_=>p.2)=y;rw[e];dsimp only;rw[aG rfl]
  .show (match p.1 with|.int .i64 k=>if k=a then y else p.2|_=>p.2)=p.2;split
   .rename_i k z;rw[aA λq=>e (by rw[z,q])]
   .rfl
 |p::r,j+1,q,h=>by
  simp only[mN,mL]at h;obtain⟨d,h1,h2⟩:=HJ h;exact⟨d,by simpa using h1,h2⟩
def En (n:Int) (y:AV):∀es:Y j?,(mN n y es).map (·.1)=es.map (·.1)
 |[]=>rfl
 |p::r=>by simp only[mN,ca];rw[En n y r]
def am4 {kt el:TypeId} {k:Operand} {str:Bool} {x:TypeDesc} (N:o.op= .lookup s d k b) (hu:P.underlying s=Z (.map kt el)) (hk:P.underlying kt=Z x) (hd:kd str x) (F:(P.info? el).bind (·.zero)=Z v) (A:dB (.jv str b v d k) e h nx=Z R):fZ P o e.get h.get R.eff:=by
 simp only[dB]at A;split at A
 .rename_i id key hx hkx;split at A
  .rename_i es hid;split at A
   .rename_i hko;have fin:∀val:AV,(∀(φ:PM) (E:Nat->Prop) (h':HF) (w:World) (a:Act),h' id=Z ⟨0,.mp es⟩->Ws φ E h' w a e o->sq φ E h' w->∃z,(execOp a.eval o).run P w= .ok (.value z) w/\cu φ (tot E φ h') w val z)->R=⟨val,[id],[],[],[]⟩->fZ P o e.get h.get R.eff:=by
     rintro val hv rfl;exact fZ.reads λφ E h' w a hrd hp hrep=>hv φ E h' w a (by rw[hrd id (by simp)];exact hid) hp hrep
    have zrun:∀w:World,(zeroValue el).run P w= .ok v w:=λw=>by
     cases hi:P.info? el with
     |none=>rw[hi]at F;cases F
     |some i=>rw[hi]at F;simp only[aC]at F;simp[zeroValue,typeInfo,hi,F]
    have main:∀r,tg key es=Z r->∀(φ:PM) (E:Nat->Prop) (h':HF) (w:World) (a:Act),h' id=Z ⟨0,.mp es⟩->Ws φ E h' w a e o->sq φ E h' w->
     ∃z,(execOp a.eval o).run P w= .ok (.value z) w/\cu φ (tot E φ h') w (match r with|some z=>pkV b z J|none=>pkV b (raw v) aa) z:=by
     intro r hr φ E h' w a hb' hp hrep;have hrx:=hp d _ (by rw[N];simp[Op.operands]) hx;have hrk:=eV (hp k _ (by rw[N];simp[Op.operands]) hkx);generalize D:a.eval d=zz at hrx;cases hrx with
     |@mp _ ok hφ=>
      obtain⟨k',q1,_,ob,q2,q3⟩:=hrep.at_ id _ hb';rw[hφ]at q1;cases q1;obtain⟨ents,clock,rfl,q4,q5⟩:=q3;have q4:ents.toList.map (·.key)=es.map (·.1):=by unfold Qu at q4;rw[aG rfl]at q4;exact q4
      have hck:=uN (P:=P) hk hd ents.isEmpty key w;rcases Uz hd hko es ents.toList 0 q4 r hr with ⟨h1,h2⟩|⟨j,z,m,k',h1,h2,h3,h4,_⟩
      .subst h1;refine ⟨_,?_,aec (.f (.raw v))⟩;unfold execOp;rw[N];cases b<;>simp[J3,run_underlying hu,D,hrk,getObj,ia,q2,hck,l9,run_underlying hk,h2,zrun]
      .subst h1;obtain⟨_,L,h7⟩:=q5 j _ h2;unfold ZX at L;rw[aG rfl]at L;obtain⟨m',L,rfl⟩:=L;rw[bL]at h3;rw[h3]at L;cases L;refine ⟨_,?_,aec h7⟩;unfold execOp;rw[N];cases b<;>simp[J3,run_underlying hu,D,hrk,getObj,ia,q2,hck,l9,run_underlying hk,h4]
    split at A
    .rename_i z hf;simp only[af]at A;exact fin _ (main _ hf) A.symm
    .rename_i hf;simp only[af]at A;exact fin _ (main _ hf) A.symm
    .cases A
   .cases A
  .rename_i ty es hid;split at A
   .rename_i n;split at A
    .rename_i hc;split at A
     .rename_i z hv;cases A;cases str with
      |true=>simp at hc
      |false=>
      cases b with
      |true=>simp at hc
      |false=>
      have hz0:v= .slice U 0 0:=by
       simp only[k_,eg]at hc;unfold uS at hc;split at hc
       .rfl
       .cases hc
      subst hz0;have zrun:∀w:World,(zeroValue el).run P w= .ok (.slice U 0 0) w:=λw=>by
       cases hi:P.info? el with
       |none=>rw[hi]at F;cases F
       |some i=>rw[hi]at F;simp only[aC]at F;simp[zeroValue,typeInfo,hi,F]
      refine fZ.reads λφ E h' w a hrd hp hrep=>?_
      have hb':h' id=Z ⟨ty+1,.mp es⟩:=by rw[hrd id (by simp)];exact hid
      have hrx:=hp d _ (by rw[N];simp[Op.operands]) hx;have hrk:=eV (hp k _ (by rw[N];simp[Op.operands]) hkx);generalize D:a.eval d=zz at hrx;cases hrx with
      |@mp _ ok hφ=>
       obtain⟨k',q1,_,ob,q2,q3⟩:=hrep.at_ id _ hb';rw[hφ]at q1;cases q1;obtain⟨ents,clock,rfl,q4,q5⟩:=q3;unfold Qu at q4;rw[aA (by simp)]at q4;obtain⟨j,hj⟩:=SR hv;obtain⟨v',L,h7⟩:=q5 j _ hj;unfold ZX at L;rw[aA (by simp)]at L;subst L;have hck:=uN (P:=P) hk hd ents.isEmpty (.int .i64 n) w;rcases G8 hd n ents.toList 0 q4.1 with ⟨h1,h2,_⟩|⟨i,m,h1,h2,h3,_⟩
       .rw[h2]at h7;refine ⟨_,?_,h7⟩;unfold execOp;rw[N];simp[J3,run_underlying hu,D,hrk,getObj,ia,q2,hck,l9,run_underlying hk,h1,zrun]
       .rw[h3]at h7;refine ⟨_,?_,h7⟩;unfold execOp;rw[N];simp[J3,run_underlying hu,D,hrk,getObj,ia,q2,hck,l9,run_underlying hk,h2]
     .cases A
    .cases A
   .cases A
  .cases A
 .cases A
def Y3 {d:TypeDesc} (hd:kd b d) (L:xY b v=J) {k:AV}:∀(es es':Y j?) (ents:Y MapEntry) (i:Nat),ents.map (·.key)=es.map (·.1)->yY v k es=Z es'->
 (dR d v ents i=Z U/\es'=es++[(v,k)])\/∃(j:Nat) (m:MapEntry) (A:Value) (F:AV),es[j]? =Z (A,F)/\ents[j]? =Z m/\dR d v ents i=Z (Z (i+j,m.val))/\uY .eql v A=Z (.bool J)/\es'=es.set j (v,k)
 |[],es',ents,i,he,h=>by
  cases ents with
  |nil=>simp only[yY,af]at h;exact .inl ⟨rfl,by simp[h]⟩
  |cons _ _=>simp at he
 |(A,F)::es,es',ents,i,he,h=>by
  cases ents with
  |nil=>simp at he
  |cons m ents=>
   simp only[ca,fb]at he;obtain⟨z,N⟩:=he;simp only[yY]at h;split at h
   .rename_i D;simp only[af]at h;refine .inr ⟨0,m,A,F,rfl,rfl,?_,D,by simp[h]⟩;simp only[dR];rw[z,AT hd L D];rfl
   .rename_i D;have hs:=AT hd L D;split at h
    .rename_i es2 hes2;cases h;rcases Y3 hd L es es2 ents (i+1) N hes2 with ⟨h1,h2⟩|⟨j,m',k'',v'',h1,h2,h3,h4,h5⟩
     .refine .inl ⟨?_,by simp[h2]⟩;simp only[dR];rw[z,hs];exact h1
     .refine .inr ⟨j+1,m',k'',v'',by simpa using h1,by simpa using h2,?_,h4,by simp[h5]⟩;simp only[dR];rw[z,hs];show dR d v ents (i+1)=_;rw[h3,show i+1+j=i+(j+1) from by omega]
    .cases h
   .cases h
def ag0 {z:Value} (A:xY b v=J) (d:uY .eql v z=Z (.bool J)):jJ 10000 z v=J/\z=v:=by
 cases b with
 |true=>
  cases v<;>simp[xY]at A;cases z<;>simp only[uY]at d<;>try (simp at d;done)
  simp only[af,Ec]at d;have:=w_.1 d;subst this;exact⟨by simp[jJ,Ck,d],rfl⟩
 |false=>
  cases v<;>simp[xY]at A;cases z<;>simp only[uY]at d<;>try (simp at d;done)
  split at d
  .rename_i hkk;have hkk':=eq_of_beq hkk;subst hkk';simp only[af,Ec,cF]at d;subst d;exact⟨by simp[jJ],rfl⟩
  .cases d
def am3 {kt el:TypeId} {k y:Operand} {str:Bool} {x:TypeDesc} (N:o.op= .mapUpdate s d k y) (hu:P.underlying s=Z (.map kt el)) (hk:P.underlying kt=Z x) (hd:kd str x) (z:dB (.jw str d k y) e h nx=Z R):fZ P o e.get h.get R.eff:=by
 simp only[dB]at z;split at z
 .rename_i id key v L hkx hy;split at z
  .rename_i es hid;split at z
   .rename_i hko;split at z
    .rename_i es' hput;cases z;refine fZ.writes hid λφ E h' w a hrd hb' hp hrep=>?_
     have hrx:=hp d _ (by rw[N];simp[Op.operands]) L;have hrk:=eV (hp k _ (by rw[N];simp[Op.operands]) hkx);have hry:=hp y _ (by rw[N];simp[Op.operands]) hy;generalize F:a.eval d=zz at hrx;cases hrx with
     |@mp _ b hφ=>
      obtain⟨k',q1,_,ob,q2,q3⟩:=hrep.at_ id _ hb';rw[hφ]at q1;cases q1;obtain⟨ents,clock,rfl,q4,q5⟩:=q3;have q4:ents.toList.map (·.key)=es.map (·.1):=by unfold Qu at q4;rw[aG rfl]at q4;exact q4
      have q5:∀(j:Nat) d,es[j]? =Z d->∃m,ents[j]? =Z m/\cu φ (tot E φ h') w d.2 m.val:=λj d L=>by
       obtain⟨_,A,g2⟩:=q5 j d L;unfold ZX at A;rw[aG rfl]at A;obtain⟨m,A,rfl⟩:=A;exact⟨m,A,g2⟩
      have HW:∀(es:Y j?) (ents:Array MapEntry) (clock:Nat),ents.toList.map (·.key)=es.map (·.1)->(∀(j:Nat) d,es[j]? =Z d->∃m,ents[j]? =Z m/\cu φ (tot E φ h') w d.2 m.val)->gw φ (tot E φ h') w ⟨0,.mp es⟩ (.map ents clock):=λes ents clock A g2=>⟨ents,clock,rfl,by unfold Qu;rw[aG rfl];exact A,λj d L=>by
       obtain⟨m,g3,g4⟩:=g2 j d L;exact⟨_,by unfold ZX;rw[aG rfl];exact⟨m,g3,rfl⟩,g4⟩⟩
      have hck:=uN (P:=P) hk hd aa key w;have hlen:ents.size=l! es:=by have:=ey ah q4;simpa using this
      rcases Y3 hd hko es es' ents.toList 0 q4 hput with ⟨h1,rfl⟩|⟨j,m,k',v',h1,h2,h3,h4,rfl⟩
      .refine ⟨.skip,_,b,.map (ents.push {key,val:=a.eval y,born:=clock}) (clock+1),?_,hφ,rx q2 (by simp) (by simp),HW _ _ _ (by simp[q4]) λj q D=>?_,undef,.inr ⟨rfl,rfl⟩,.f (.raw _)⟩
       .unfold execOp;rw[N];simp[yK,run_underlying hu,F,hrk,getObj,ia,q2,hck,l9,run_underlying hk,h1,setObj]
       .rcases bu j (l! es) with hj|hj
        .rw[bz hj]at D;obtain⟨m,A,g2⟩:=q5 j q D;exact⟨m,by rw[xE,aA (by omega)];exact A,g2⟩
        .rw[bU hj]at D;have hj0:j-l! es=0:=by
          rcases oQ (j-l! es) with h0|h0
          .exact h0
          .rw[bK (by simp;omega)]at D;cases D
         rw[hj0]at D;simp at D;subst D;exact⟨_,by rw[xE,aG (by omega)],hry⟩
      .obtain⟨s1,s2⟩:=ag0 hko h4;subst s2;rw[bL]at h2;rw[bO]at h3;have hjl:j<ents.size:=(cz.1 h2).1;have hmk:m.key=k':=by
        have e1:(ents.toList.map (·.key))[j]? =Z m.key:=by rw[a8,bL,h2];rfl
        rw[q4,a8,h1]at e1;simpa using e1.symm
       refine ⟨.skip,_,b,.map (ents.modify j λe=>{e with key:=k',val:=a.eval y}) clock,?_,hφ,rx q2 (by simp) (by simp),HW _ _ _ ?_ λi q D=>?_,undef,.inr ⟨rfl,rfl⟩,.f (.raw _)⟩
       .unfold execOp;rw[N];simp[yK,run_underlying hu,F,hrk,getObj,ia,q2,hck,l9,run_underlying hk,h3,setObj,h2,hmk,Instr.keyThatStays,s1]
       .apply BU;intro i;simp only[a8,bL,db,ux];have e2:∀i:Nat,(ents[i]?).map (λm:MapEntry=>m.key)=(es[i]?).map (λp:Value×AV=>p.1):=λi=>by
         have:=ey (λl=>l[i]?) q4;simpa[a8,bL] using this
        by_cases hij:j=i
        .subst hij;simp[h2,show j<l! es by omega]
        .simp only[hij,c8];exact e2 i
       .rw[db]at D;rw[ux];by_cases hij:j=i
        .subst hij;simp[show j<l! es by omega]at D;subst D;exact⟨{m with key:=k',val:=a.eval y},by simp[h2],hry⟩
        .simp only[hij,c8]at D ⊢;exact q5 i q D
    .cases z
   .cases z
  .rename_i ty es hid;split at z
   .rename_i n;split at z
    .cases z
    .rename_i hstr;have hstr:str=aa:=by simpa using hstr
     subst hstr;cases z;refine fZ.writes hid λφ E h' w a hrd hb' hp hrep=>?_
     have hrx:=hp d _ (by rw[N];simp[Op.operands]) L;have hrk:=eV (hp k _ (by rw[N];simp[Op.operands]) hkx);have hry:=hp y _ (by rw[N];simp[Op.operands]) hy;generalize F:a.eval d=zz at hrx;cases hrx with
     |@mp _ b hφ=>
      obtain⟨k',q1,_,ob,q2,q3⟩:=hrep.at_ id _ hb';rw[hφ]at q1;cases q1;obtain⟨ents,clock,rfl,q4,q5⟩:=q3;unfold Qu at q4;rw[aA (by simp)]at q4;have q5:∀(j:Nat) d,es[j]? =Z d->cu φ (tot E φ h') w d.2 (lI d.1 ents.toList):=λj d L=>by
       obtain⟨_,A,g2⟩:=q5 j d L;unfold ZX at A;rw[aA (by simp)]at A;subst A;exact g2
      have mk1:∀(ents':Array MapEntry) (clock:Nat),(∀m∈ents'.toList,x_ m.key)->(∀k,x_ k->(k= .int .i64 n->lI k ents'.toList=a.eval y)/\(k≠ .int .i64 n->lI k ents'.toList=lI k ents.toList))->gw φ (tot E φ h') w ⟨ty+1,.mp (mN n v es)⟩ (.map ents' clock):=λents' clock A g2=>⟨ents',clock,rfl,by unfold Qu;rw[aA (by simp),En];exact⟨A,q4.2⟩,λj d L=>by
       obtain⟨p,g3,g4,g5,g6⟩:=HJ L;have hI:=q4.2 p.1 (cq.2 ⟨p,bf g3,rfl⟩);refine ⟨_,by unfold ZX;rw[aA (by simp)],?_⟩;rw[g4];by_cases e:p.1= .int .i64 n
       .rw[(g2 _ hI).1 e,g5 e];exact hry
       .rw[(g2 _ hI).2 e,g6 e];exact q5 j p g3⟩
      have hck:=uN (P:=P) hk hd aa (.int .i64 n) w;rcases G8 hd n ents.toList 0 q4.1 with ⟨h1,_,h3⟩|⟨j,m,h2,h3,_,h4,h5⟩
      .refine ⟨.skip,_,b,.map (ents.push {key:=.int .i64 n,val:=a.eval y,born:=clock}) (clock+1),?_,hφ,rx q2 (by simp) (by simp),mk1 _ _ (λm hm=>?_) λk hk=>?_,undef,.inr ⟨rfl,rfl⟩,.f (.raw _)⟩
       .unfold execOp;rw[N];simp[yK,run_underlying hu,F,hrk,getObj,ia,q2,hck,l9,run_underlying hk,h1,setObj]
       .rw[Array.toList_push]at hm;rcases bE.1 hm with hm|hm
        .exact q4.1 m hm
        .rw[aE.1 hm];exact⟨n,rfl⟩
       .rw[Array.toList_push];exact h3 k _ rfl hk
      .rw[bL]at h2;rw[bO]at h3;obtain⟨hjl,hjm⟩:=cz.1 h2;have s1:jJ 10000 (.int .i64 n) (.int .i64 n)=J:=by simp[jJ]
       have hl:(ents.modify j λe=>{e with key:=.int .i64 n,val:=a.eval y}).toList=ents.toList.set j {m with key:=.int .i64 n,val:=a.eval y}:=by
        apply BU;intro i;simp only[bL,db,ux];by_cases hij:j=i
        .subst hij;simp[h2,hjl,hjm]
        .simp[hij]
       refine ⟨.skip,_,b,.map (ents.modify j λe=>{e with key:=.int .i64 n,val:=a.eval y}) clock,?_,hφ,rx q2 (by simp) (by simp),mk1 _ _ (λq hm=>?_) λk hk=>?_,undef,.inr ⟨rfl,rfl⟩,.f (.raw _)⟩
       .unfold execOp;rw[N];simp[yK,run_underlying hu,F,hrk,getObj,ia,q2,hck,l9,run_underlying hk,h3,setObj,h2,h4,Instr.keyThatStays,s1]
       .rw[hl]at hm;rcases O_ hm with hm|rfl
        .exact q4.1 q hm
        .exact⟨n,rfl⟩
       .rw[hl];exact h5 k _ rfl hk
   .cases z
  .cases z
 .cases z
end
section
variable {P:Program} {o:Oper} {e:Dp} {h:m7} {nx:Nat} {R:Co}
variable {s:TypeId}
def KY {d:TypeDesc} (A:P.underlying s=Z d) (hd:(match d with|.int _=>J|.bool=>J|.string=>J|_=>aa)=J) (cs:Array Value) (j:Nat) (v:Value) (z:cs[j]? =Z v) (w:World):(part s cs j).run P w= .ok v w:=by
 unfold part;simp only[isAgg,ec,run_underlying A,cM];cases d<;>simp at hd<;>simp[z]
variable {b:Bool} {v:Value}
def ab1 {d:TypeDesc} (z:P.underlying s=Z d) (hd:(match d with|.int _=>J|.bool=>J|.string=>J|_=>aa)=J) {x y:FV} (hxy:vU d x y=Z b) {u:Value} (F:x= .raw u) (D:y= .raw v) (n:Nat) (w:World):(Op.equalIn (n+1) s u v).run P w= .ok b w:=by
 subst F D;cases d<;>simp at hd<;>cases u<;>cases v<;>simp only[vU]at hxy<;>first|(cases hxy;done)|skip
 .cases hxy;simp[Op.equalIn,run_underlying z]
 .split at hxy
  .rename_i L;have A:=eq_of_beq L;subst A;cases hxy;simp[Op.equalIn,run_underlying z]
  .cases hxy
 .cases hxy;simp[Op.equalIn,run_underlying z,Ck]
abbrev Mh (n:Nat) (xs d:Array Value) (f:Field) (_:M Bool×Unit):Sem (ForInStep (M Bool×Unit)):=
 if f.name≠ "_" then do
  let a←part f.type xs f.offset
  let b←part f.type d f.offset
  let c←Op.equalIn (n+1) f.type a b
  if (!c)=J then pure (ForInStep.done (Z aa,())) else pure (yL (U,()))
 else pure (yL (U,()))
def P0 (n:Nat) (w:World) (xs A:Array Value):∀(N:Y Field) (ds:Y TypeDesc) (a b:Y FV) (k:Nat) (r:Bool),l_ P k N=Z ds->
 (∀(j:Nat) x u,a[j]? =Z x->xs[k+j]? =Z u->x= .raw u\/∀v,x≠ .raw v)->(∀(j:Nat) x u,b[j]? =Z x->A[k+j]? =Z u->x= .raw u\/∀v,x≠ .raw v)->(∀(j:Nat),j<l! a->k+j<xs.size)->(∀(j:Nat),j<l! b->k+j<A.size)->jQ ds a b=Z r->
 (forIn N (U,()) (Mh n xs A)).run P w= .ok (if r then (U,()) else (Z aa,())) w
 |[],ds,a,b,k,r,hp,_,_,_,_,he=>by
  simp only[l_,af]at hp;subst hp;cases a<;>cases b<;>simp[jQ]at he;subst he;simp
 |f::N,ds,a,b,k,r,hp,ha,hb,hla,hlb,he=>by
  simp only[l_]at hp;split at hp
  .rename_i d ds' hu hp';split at hp
   .rename_i hc;simp only[au,bne_iff_ne,ne_eq,cF]at hc;obtain⟨⟨hn,hof⟩,hd⟩:=hc;cases hp;cases a with
    |nil=>cases b<;>simp[jQ]at he
    |cons x a=>
     cases b with
     |nil=>simp[jQ]at he
     |cons y b=>
      simp only[jQ]at he;have L:k<xs.size:=by have:=hla 0 (by simp);omega
      have F:k<A.size:=by have:=hlb 0 (by simp);omega
      have hraw:∀(z:FV) (q:Value),(z= .raw q\/∀v,z≠ .raw v)->(∃v,z= .raw v)->z= .raw q:=by
       rintro z q (h|h) ⟨v,hv⟩
       .exact h
       .exact cN hv (h v)
      have hxr:∀D,vU d x y=Z D->x= .raw xs[k]/\y= .raw A[k]:=by
       intro D hbb;have hrr:(∃v,x= .raw v)/\∃v,y= .raw v:=by
        unfold vU at hbb;split at hbb
        .exact⟨⟨_,rfl⟩,⟨_,rfl⟩⟩
        .exact⟨⟨_,rfl⟩,⟨_,rfl⟩⟩
        .exact⟨⟨_,rfl⟩,⟨_,rfl⟩⟩
        .cases hbb
       exact⟨hraw x _ (ha 0 x _ rfl (by simp[L])) hrr.1,hraw y _ (hb 0 y _ rfl (by simp[F])) hrr.2⟩
      have hstep:∀D,vU d x y=Z D->(Mh n xs A f (U,())).run P w= .ok (if D then yL (U,()) else ForInStep.done (Z aa,())) w:=by
       intro D hbb;obtain⟨h1,h2⟩:=hxr D hbb;have p1:=KY hu (by cases d<;>simp[Dy]at hd<;>rfl) xs k xs[k] (by simp[L]) w;have p2:=KY hu (by cases d<;>simp[Dy]at hd<;>rfl) A k A[k] (by simp[F]) w;have p3:=ab1 hu (by cases d<;>simp[Dy]at hd<;>rfl) hbb h1 h2 n w;unfold Mh;rw[aG hn,hof];simp only[ec,p1,p2,p3,cM];cases D<;>simp
      rw[List.forIn_cons];simp only[ec];split at he
      .rename_i hbb;rw[hstep J hbb];simp only[cM,bw];exact P0 n w xs A N ds' a b (k+1) r hp' (λj x u h1 h2=>ha (j+1) x u (by simpa using h1) (by rw[<- h2];congr 1;omega)) (λj x u h1 h2=>hb (j+1) x u (by simpa using h1) (by rw[<- h2];congr 1;omega))
        (λj hj=>by have:=hla (j+1) (by simpa using hj);omega) (λj hj=>by have:=hlb (j+1) (by simpa using hj);omega) he
      .rename_i hbb;rw[hstep aa hbb];cases he;simp
      .cases he
   .cases hp
  .cases hp
variable {K:Array Field} {E:Y TypeDesc}
def PZ (A:P.underlying s=Z (.struct K)) (D:P.stoodInHeld s=aa) (hp:l_ P 0 K.toList=Z E) (xs d:Array Value) {a r:Y FV} 
 (N:∀(j:Nat) x u,a[j]? =Z x->xs[j]? =Z u->x= .raw u\/∀v,x≠ .raw v) (L:∀(j:Nat) x u,r[j]? =Z x->d[j]? =Z u->x= .raw u\/∀v,x≠ .raw v) (hla:l! a=xs.size) (hlb:l! r=d.size) (he:jQ E a r=Z b) (w:World):
 (Op.equal s (.agg xs) (.agg d)).run P w= .ok b w:=by
 have key:∀n,(Op.equalIn (n+2) s (.agg xs) (.agg d)).run P w= .ok b w:=by
  intro n;rw[Op.equalIn];have h1:=P0 (P:=P) n w xs d K.toList E a r 0 b hp (λj x u h1 h2=>N j x u h1 (by simpa using h2)) (λj x u h1 h2=>L j x u h1 (by simpa using h2)) (λj F=>by omega) (λj F=>by omega) he;rw[Array.forIn_toList]at h1;simp only[ec,run_underlying A,cM,program,ia,D,bM,c8];have h2:(forIn K (U,()) (λf __s=>Mh n xs d f __s)).run P w= .ok (if b then (U,()) else (Z aa,())) w:=h1;unfold Mh at h2;rw[h2];cases b<;>simp
 exact key 9998
def UJ (N:P.underlying s=Z (.struct K)) (hp:l_ P 0 K.toList=Z E):P.eqGuardType P.depth s=aa:=by
 have key:∀(K:Y Field) (k:Nat) (E:Y TypeDesc),l_ P k K=Z E→∀d,(K.any λf=>f.name != "_" &&P.eqGuardType (d+1) f.type)=aa:=by
  intro K;induction K with
  |nil=>intros;rfl
  |cons f K L=>
   intro k E hp d;simp only[l_]at hp;split at hp
   .rename_i dd ds' A D;split at hp
    .rename_i F;simp only[au]at F;have:P.eqGuardType (d+1) f.type=aa:=by
      unfold Program.eqGuardType;rw[A];have:=F.2;cases dd<;>simp[Dy]at this<;>rfl
     simp only[List.any_cons,this,wu,yJ];exact L (k+1) ds' D d
    .cases hp
   .cases hp
 unfold Program.depth Program.eqGuardType;rw[N];simp only[];rw[← Array.any_toList];exact key K.toList 0 E hp _
variable {d:Operand}
def am5 {t':TypeId} {op:BinOp} {neg:Bool} {y:Operand} (N:o.op= .binOp op s d y t') (hop:op=if neg then .neq else .eql) (z:P.underlying s=Z (.struct K)) (hs:P.stoodInHeld s=aa) (hp:l_ P 0 K.toList=Z E) (x:dB (.jp neg E d y) e h nx=Z R):fZ P o e.get h.get R.eff:=by
 simp only[dB]at x;split at x
 .rename_i a b A hy;split at x
  .rename_i r L;rw[dx x];refine fZ.reads λφ ds h' w ac _ hpp _=>?_
   have h1:=hpp d _ (by rw[N];simp[Op.operands]) A;have h2:=hpp y _ (by rw[N];simp[Op.operands]) hy;generalize hzx:ac.eval d=zx at h1;generalize hzy:ac.eval y=zy at h2;have rawOr:∀(l:Y FV) (vs:ξ),(∀(j:Nat) d v,l[j]? =Z d->vs[j]? =Z v->m6 (tot ds φ h') w d v)->∀(j:Nat) d u,l[j]? =Z d->vs.toArray[j]? =Z u->d= .raw u\/∀v,d≠ .raw v:=by
    intro l vs L j d u A z;have:=L j d u A (by simpa using z);cases this with
    |raw v=>exact .inl rfl
    |_=>exact .inr (by simp)
   cases h1 with
   |f h1=>
    cases h1 with
    |agg _ vs hl hcl F=>
     cases h2 with
     |f h2=>
      cases h2 with
      |agg _ us hl' hcl' D=>
       have heq:=PZ z hs hp vs.toArray us.toArray (rawOr a vs F) (rawOr b us D) (by simp[hl]) (by simp[hl']) L w;refine ⟨_,?_,.f (.raw _)⟩;have hg:=UJ z hp;unfold execOp;rw[N];simp only[hzx,hzy];subst hop;cases neg<;>simp[eqGuard,program,ia,hg,binOp,heq]
  .cases x
 .cases x
end
section
variable {P:Program} {o:Oper} {e:Dp} {h:m7} {nx:Nat} {R:Co}
def Gs:∀{l:Y FV} {vs:ξ},HQ l=Z vs->l=vs.map .raw
 |[],vs,h=>by simp only[HQ,af]at h;subst h;rfl
 |x::r,vs,h=>by
  cases x with
  |raw v=>
   simp only[HQ]at h;split at h
   .rename_i l d;cases h;rw[ca,<-Gs d]
   .cases h
  |_=>simp[HQ]at h
variable {O:Nat->Prop} {v:Value}
def ae4 {w:World} {u:Value} (h:m6 O w (.raw v) u):u=v:=by cases h;rfl
variable {L:ξ}
def Tk {w:World} {vs:ξ} (D:l! vs=l! L) (A:∀(j:Nat) x v,(L.map FV.raw)[j]? =Z x->vs[j]? =Z v->m6 O w x v):vs=L:=by
 apply BU;intro j;rcases bu j (l! L) with z|z
 .have h1:(L.map FV.raw)[j]? =Z (.raw L[j]):=by simp[z]
  have h2:vs[j]? =Z (vs[j]'(by omega)):=aD (by omega);have:=A j _ _ h1 h2;rw[h2,aD z,ae4 this]
 .rw[bK (by omega),bK z]
variable {y:AV} {V:PM}
def Lw {w:World} (d:aac y=Z L) (A:cu V O w y v):v= .agg L.toArray:=by
 cases A with
 |f A=>
  cases A with
  |agg cells vs D hcl hrr=>
   have:=Gs (show HQ cells=Z L from d);subst this;rw[Tk (by simpa using D) hrr]
  |_=>simp[aac]at d
 |@agg cells vs D hcl hrr=>
  simp only[aac]at d;split at d
  .rename_i N hfs;have:=Gs d;subst this;have:=nI hfs;subst this;have key:vs=L:=Tk (O:=O) (w:=w) (by simpa using D) λj x u F z=>by
    have:=hrr j (.f x) u (by rw[a8,F];rfl) z;cases this with
    |f h=>exact h
   rw[key]
  .cases d
 |_=>simp[aac]at d
structure Dn (P:Program) (kt:TypeId) (fs:Array Field) (ds:List TypeDesc):Prop where
 hu:P.underlying kt=Z (.struct fs)
 hs:P.stoodInHeld kt=aa
 hp:l_ P 0 fs.toList=Z ds
variable {s:TypeId} {E:Y TypeDesc}
def Gw (h:Dx P s=Z E):∃d,Dn P s d E:=by
 unfold Dx at h;split at h
 .rename_i d A;split at h
  .cases h
  .rename_i hst;exact⟨d,A,by simpa using hst,h⟩
 .cases h
variable {b:Bool} {K:Array Field}
def rz (N:Dn P s K E) (A:CX E L v=Z b) (w:World):(Op.equal s (.agg L.toArray) v).run P w= .ok b w:=by
 unfold CX at A;split at A
 .rename_i z;refine PZ N.hu N.hs N.hp L.toArray z (λj x u d hu=>?_) (λj x u d hu=>?_) (by simp) (by simp) A w
  .rw[a8]at d;have hu:L[j]? =Z u:=by simpa using hu
   rw[hu]at d;cases d;exact .inl rfl
  .rw[a8,bL,hu]at d;cases d;exact .inl rfl
 .cases A
abbrev M9 (d:Bool) (n:Nat) (cs:Array Value) (f:Field) (_:Unit):Sem (ForInStep Unit):=
 if f.name≠ "_" then do
  let a←part f.type cs f.offset
  mE d (n+1) f.type a
  pure (yL ())
 else pure (yL ())
def Qm (A:Bool) (n:Nat) (w:World) (cs:Array Value):∀(z:Y Field) (ds:Y TypeDesc) (k:Nat),l_ P k z=Z ds->k+l! z<=cs.size->
 (forIn z () (M9 A n cs)).run P w= .ok () w
 |[],ds,k,hp,_=>by simp
 |f::z,ds,k,hp,hk=>by
  simp only[l_]at hp;split at hp
  .rename_i d ds' F D;split at hp
   .rename_i L;simp only[au,bne_iff_ne,ne_eq,cF]at L;obtain⟨⟨hn,hof⟩,hd⟩:=L;simp only[bX]at hk;have p1:=KY F (by cases d<;>simp[Dy]at hd<;>rfl) cs k (cs[k]'(by omega)) (by simp[show k<cs.size by omega]) w;have p2:(mE A (n+1) f.type (cs[k]'(by omega))).run P w= .ok () w:=by
     cases d<;>simp[Dy]at hd<;>simp[mE,run_underlying F]
    have N:=Qm A n w cs z ds' (k+1) D (by omega);have hstep:(M9 A n cs f ()).run P w= .ok (yL ()) w:=by
     unfold M9;rw[aG hn,hof];simp[p1,p2]
    rw[List.forIn_cons];simp only[ec,hstep,cM];exact N
   .cases hp
  .cases hp
def Yl (d:Dn P s K E) (z:Bool) {cs:Array Value} (D:l! K.toList<=cs.size) (w:World):(mE z 10000 s (.agg cs)).run P w= .ok () w:=by
 have key:∀n,(mE z (n+2) s (.agg cs)).run P w= .ok () w:=by
  intro n;rw[mE];have h1:=Qm (P:=P) z n w cs K.toList E 0 d.hp (by omega);rw[Array.forIn_toList]at h1;simp only[ec,run_underlying d.hu,cM];have h2:(forIn K () λf A=>M9 z n cs f A).run P w= .ok () w:=h1;unfold M9 at h2;rw[h2];rfl
 exact key 9998
variable {i:Nat}
def L9 {m:MapEntry} {r:Y MapEntry} :dR (.struct K) v (m::r) i=U:=by
 simp only[dR];have:Ei (.struct K) v m.key=U:=by unfold Ei;rfl
 rw[this]
def Bp (z:Dn P s K E) (k:Value) (ents:Y MapEntry) (w:World):(l9 s k ents).run P w=(dk s k ents).run P w:=by
 cases ents with
 |nil=>simp[l9,run_underlying z.hu,dR,dk]
 |cons m r=>simp[l9,run_underlying z.hu,L9]
def UA (fs:Dn P s K E) (w:World):∀(es:Y j?) (ents:Y MapEntry) (i:Nat),ents.map (·.key)=es.map (·.1)->∀r,HO E L es=Z r->
 (r=U/\(dk s (.agg L.toArray) ents i).run P w= .ok U w)\/∃(j:Nat) (v:AV) (m:MapEntry) (F:Value),r=Z v/\es[j]? =Z (F,v)/\ents[j]? =Z m/\(dk s (.agg L.toArray) ents i).run P w= .ok (Z (i+j,m.val)) w
 |[],ents,i,he,r,h=>by
  cases ents with
  |nil=>simp only[HO,af]at h;exact .inl ⟨h.symm,by simp[dk]⟩
  |cons _ _=>simp at he
 |(F,v)::es,ents,i,he,r,h=>by
  cases ents with
  |nil=>simp at he
  |cons m ents=>
   simp only[ca,fb]at he;obtain⟨d,D⟩:=he;simp only[HO]at h;split at h
   .rename_i z;simp only[af]at h;refine .inr ⟨0,v,m,F,h.symm,rfl,rfl,?_⟩;rw[dk,d];simp[rz fs z w]
   .rename_i z;rcases UA fs w es ents (i+1) D r h with ⟨h1,h2⟩|⟨j,N,m',k'',h1,h2,h3,h4⟩
    .refine .inl ⟨h1,?_⟩;rw[dk,d];simp[rz fs z w,h2]
    .refine .inr ⟨j+1,N,m',k'',h1,by simpa using h2,by simpa using h3,?_⟩;rw[dk,d];simp[rz fs z w,h4];omega
   .cases h
def S9 (fs:Dn P s K E) {z:ξ} (w:World):∀(es es':Y j?) (ents:Y MapEntry) (i:Nat),ents.map (·.key)=es.map (·.1)->WM E z y es=Z es'->
 ((dk s (.agg z.toArray) ents i).run P w= .ok U w/\es'=es++[(.agg z.toArray,y)])\/∃(j:Nat) (m:MapEntry) (D:Value) (F:AV),es[j]? =Z (D,F)/\ents[j]? =Z m/\(dk s (.agg z.toArray) ents i).run P w= .ok (Z (i+j,m.val)) w/\CX E z D=Z J/\es'=es.set j (.agg z.toArray,y)
 |[],es',ents,i,he,h=>by
  cases ents with
  |nil=>simp only[WM,af]at h;exact .inl ⟨by simp[dk],by simp[h]⟩
  |cons _ _=>simp at he
 |(D,F)::es,es',ents,i,he,h=>by
  cases ents with
  |nil=>simp at he
  |cons m ents=>
   simp only[ca,fb]at he;obtain⟨d,N⟩:=he;simp only[WM]at h;split at h
   .rename_i A;simp only[af]at h;refine .inr ⟨0,m,D,F,rfl,rfl,?_,A,by simp[h]⟩;rw[dk,d];simp[rz fs A w]
   .rename_i A;split at h
    .rename_i es2 hes2;cases h;rcases S9 fs w es es2 ents (i+1) N hes2 with ⟨h1,h2⟩|⟨j,m',k'',v'',h1,h2,h3,h4,h5⟩
     .refine .inl ⟨?_,by simp[h2]⟩;rw[dk,d];simp[rz fs A w,h1]
     .refine .inr ⟨j+1,m',k'',v'',by simpa using h1,by simpa using h2,?_,h4,by simp[h5]⟩;rw[dk,d];simp[rz fs A w,h3];omega
    .cases h
   .cases h
def Ta (fs:Dn P s K E) (w:World):∀(es es':Y j?) (ents:Y MapEntry) (i:Nat),ents.map (·.key)=es.map (·.1)->WN E L es=Z es'->
 ((dk s (.agg L.toArray) ents i).run P w= .ok U w/\es'=es)\/∃(j:Nat) (m:MapEntry),j<l! es/\ents[j]? =Z m/\(dk s (.agg L.toArray) ents i).run P w= .ok (Z (i+j,m.val)) w/\es'=es.eraseIdx j
 |[],es',ents,i,he,h=>by
  cases ents with
  |nil=>simp only[WN,af]at h;exact .inl ⟨by simp[dk],h.symm⟩
  |cons _ _=>simp at he
 |(k',v')::es,es',ents,i,he,h=>by
  cases ents with
  |nil=>simp at he
  |cons m ents=>
   simp only[ca,fb]at he;obtain⟨d,F⟩:=he;simp only[WN]at h;split at h
   .rename_i z;simp only[af]at h;refine .inr ⟨0,m,by simp,rfl,?_,by simp[h]⟩;rw[dk,d];simp[rz fs z w]
   .rename_i z;split at h
    .rename_i es2 hes2;cases h;rcases Ta fs w es es2 ents (i+1) F hes2 with ⟨h1,h2⟩|⟨j,m',h1,h2,N,D⟩
     .refine .inl ⟨?_,by simp[h2]⟩;rw[dk,d];simp[rz fs z w,h1]
     .refine .inr ⟨j+1,m',by simp;omega,by simpa using h2,?_,by simp[D]⟩;rw[dk,d];simp[rz fs z w,N];omega
    .cases h
   .cases h
def Mg:∀{ds:Y TypeDesc} {F A:ξ},jQ ds (F.map .raw) (A.map .raw)=Z J->F=A/\∀x∈F,∀n,jJ n x x=J
 |[],[],[],_=>⟨rfl,λx D=>by cases D⟩
 |[],[],_::_,h|[],_::_,A,h|_::_,[],A,h|_::_,_::_,[],h=>by simp[jQ]at h
 |d::ds,k::F,v::A,h=>by
  simp only[ca,jQ]at h;split at h
  .rename_i z;obtain⟨e1,e2⟩:=Mg h;have key:k=v/\∀n,jJ n k k=J:=by
    cases d<;>cases k<;>cases v<;>simp only[vU]at z<;>first|(cases z;done)|skip
    .simp only[af,cF]at z;subst z;exact⟨rfl,λn=>by cases n<;>simp[jJ]⟩
    .split at z
     .rename_i L;have L:=eq_of_beq L;simp only[af,cF]at z;subst z L;exact⟨rfl,λn=>by cases n<;>simp[jJ]⟩
     .cases z
    .simp only[af]at z;have:=w_.1 z;subst this;exact⟨rfl,λn=>by cases n<;>simp[jJ,Ck,z]⟩
   refine ⟨by rw[key.1,e1],λx D n=>?_⟩;rcases bm.1 D with rfl|D
   .exact key.2 n
   .exact e2 x D n
  .cases h
  .cases h
def ady (h:CX E L v=Z J):v= .agg L.toArray/\jJ 10000 (.agg L.toArray) (.agg L.toArray)=J:=by
 unfold CX at h;split at h
 .rename_i F;obtain⟨e1,e2⟩:=Mg h;refine ⟨by rw[e1],?_⟩;rw[jJ];simp only[cr,eg,gJ];rintro⟨x,y⟩ hxy;have D:x=y/\x∈L:=by
   rw[List.mem_iff_getElem?]at hxy;obtain⟨j,z⟩:=hxy;rw[List.getElem?_zip_eq_some]at z;have h1:L[j]? =Z x:=by simpa using z.1
   have h2:L[j]? =Z y:=by simpa using z.2
   rw[h1]at h2;cases h2;exact⟨rfl,bf h1⟩
  rw[<- D.1];exact e2 x D.2 _
 .cases h
def XL {D:TypeId} (z:P.underlying s=Z (.pointer D)) (A:M Addr) (w:World):(Op.equal s (.pointer A) (.pointer U)).run P w= .ok A.isNone w:=by
 have key:∀d,(Op.equalIn (d+1) s (.pointer A) (.pointer U)).run P w= .ok A.isNone w:=λd=>by cases A<;>simp[Op.equalIn,run_underlying z]
 exact key 9999
variable {d:Operand}
def agw {neg:Bool} {op:BinOp} {y:Operand} {N el:TypeId} (F:o.op= .binOp op s d y N) (hop:op=if neg then .neq else .eql) (hy:y= .const (.pointer U)) (hu:P.underlying s=Z (.pointer el)) (x:dB (.zn neg d) e h nx=Z R):fZ P o e.get h.get R.eff:=by
 have key:∀(w:World) (ρ:Operand->Value) (A:M Addr),ρ d= .pointer A->ρ y= .pointer U->(execOp ρ o).run P w= .ok (.value (.bool (A.isNone !=neg))) w:=by
  intro w ρ A h1 h2;unfold execOp;rw[F];simp only[h1,h2];subst hop;cases neg<;>simp[eqGuard,binOp,XL hu]
 have hyv:∀a:Act,a.eval y= .pointer U:=λa=>by rw[hy];rfl
 simp only[dB]at x;split at x
 .rename_i id off D;rw[dx x];refine fZ.reads λφ E h' w a _ hp _=>?_
  have h1:=hp d _ (by rw[F];simp[Op.operands]) D;generalize L:a.eval d=z at h1;cases h1 with
  |H hφ=>exact⟨_,key w a.eval _ L (hyv a),by simpa[raw] using cu.f (.raw _)⟩
 .rename_i cells off D;rw[dx x];refine fZ.reads λφ E h' w a _ hp _=>?_
  have h1:=hp d _ (by rw[F];simp[Op.operands]) D;generalize L:a.eval d=z at h1;cases h1 with
  |f h1=>
   cases h1 with
   |H=>exact⟨_,key w a.eval _ L (hyv a),by simpa[raw] using cu.f (.raw _)⟩
 .rename_i D;rw[dx x];refine fZ.reads λφ E h' w a _ hp _=>?_
  have h1:=eV (hp d _ (by rw[F];simp[Op.operands]) D);exact⟨_,key w a.eval _ h1 (hyv a),by simpa[raw] using cu.f (.raw _)⟩
 .cases x
def rB:∀{A:Y Field} {k:Nat} {ds:Y TypeDesc},l_ P k A=Z ds->l! ds=l! A
 |[],k,ds,h=>by simp only[l_,af]at h;subst h;rfl
 |f::A,k,ds,h=>by
  simp only[l_]at h;split at h
  .rename_i d ds' _ z;split at h
   .cases h;rw[bX,rB z,bX]
   .cases h
  .cases h
def Xf {y:M AV} (h:y.bind (Xg E)=Z L):∃v,y=Z v/\aac v=Z L/\l! L=l! E:=by
 cases y with
 |none=>cases h
 |some v=>
  have h:Xg E v=Z L:=h;unfold Xg at h;split at h
  .rename_i l z;split at h
   .rename_i A;cases h;exact⟨v,rfl,z,eq_of_beq A⟩
   .cases h
  .cases h
def ar8 {kt N:TypeId} {k:Operand} (L:o.op= .lookup s d k aa) (hu:P.underlying s=Z (.map kt N)) (fs:Dn P kt K E) (F:(P.info? N).bind (·.zero)=Z v) (x:dB (.xq E v d k) e h nx=Z R):fZ P o e.get h.get R.eff:=by
 simp only[dB]at x;split at x
 .rename_i id ks hx hkx;obtain⟨yk,hkx,hkl,hkn⟩:=Xf hkx;split at x
  .rename_i es hid;have zrun:∀w:World,(zeroValue N).run P w= .ok v w:=λw=>by
    cases hi:P.info? N with
    |none=>rw[hi]at F;cases F
    |some i=>rw[hi]at F;simp only[aC]at F;simp[zeroValue,typeInfo,hi,F]
   have main:∀r,HO E ks es=Z r->∀(φ:PM) (ds:Nat->Prop) (h':HF) (w:World) (a:Act),h' id=Z ⟨0,.mp es⟩->Ws φ ds h' w a e o->sq φ ds h' w->
    ∃z,(execOp a.eval o).run P w= .ok (.value z) w/\cu φ (tot ds φ h') w (match r with|some z=>z|none=>raw v) z:=by
    intro r hr φ ds h' w a hb' hp hrep;have hrx:=hp d _ (by rw[L];simp[Op.operands]) hx;have hrk:=Lw hkl (hp k _ (by rw[L];simp[Op.operands]) hkx);generalize D:a.eval d=zz at hrx;cases hrx with
    |@mp _ b hφ=>
     obtain⟨k',q1,_,ob,q2,q3⟩:=hrep.at_ id _ hb';rw[hφ]at q1;cases q1;obtain⟨ents,clock,rfl,q4,q5⟩:=q3;have q4:ents.toList.map (·.key)=es.map (·.1):=by unfold Qu at q4;rw[aG rfl]at q4;exact q4
     have hlen:l! K.toList<=ks.toArray.size:=by have:=rB fs.hp;simp only[kX];omega
     have hck:=Yl fs ents.isEmpty hlen w;have hfk:=Bp (P:=P) fs (.agg ks.toArray) ents.toList w;rcases UA fs w es ents.toList 0 q4 r hr with ⟨h1,h2⟩|⟨j,z,m,k',h1,h2,h3,h4⟩
     .subst h1;rw[h2]at hfk;refine ⟨_,?_,.f (.raw v)⟩;unfold execOp;rw[L];simp[J3,run_underlying hu,D,hrk,getObj,ia,q2,hck,hfk,zrun]
     .subst h1;rw[h4]at hfk;obtain⟨_,A,h7⟩:=q5 j _ h2;unfold ZX at A;rw[aG rfl]at A;obtain⟨m',A,rfl⟩:=A;rw[bL]at h3;rw[h3]at A;cases A;refine ⟨_,?_,h7⟩;unfold execOp;rw[L];simp[J3,run_underlying hu,D,hrk,getObj,ia,q2,hck,hfk]
   split at x
   .rename_i z hf;cases x;exact fZ.reads λφ ds h' w a hrd hp hrep=>main _ hf φ ds h' w a (by rw[hrd id (by simp)];exact hid) hp hrep
   .rename_i hf;cases x;exact fZ.reads λφ ds h' w a hrd hp hrep=>main _ hf φ ds h' w a (by rw[hrd id (by simp)];exact hid) hp hrep
   .cases x
  .cases x
 .cases x
def ar3 {kt el:TypeId} {k y:Operand} (N:o.op= .mapUpdate s d k y) (hu:P.underlying s=Z (.map kt el)) (fs:Dn P kt K E) (z:dB (.jh E d k y) e h nx=Z R):fZ P o e.get h.get R.eff:=by
 simp only[dB]at z;split at z
 .rename_i id D v L hkx hy;obtain⟨yk,hkx,hkl,hkn⟩:=Xf hkx;split at z
  .rename_i es hid;split at z
   .rename_i es' hput;cases z;refine fZ.writes hid λφ ds h' w a hrd hb' hp hrep=>?_
    have hrx:=hp d _ (by rw[N];simp[Op.operands]) L;have hrk:=Lw hkl (hp k _ (by rw[N];simp[Op.operands]) hkx);have hry:=hp y _ (by rw[N];simp[Op.operands]) hy;generalize F:a.eval d=zz at hrx;cases hrx with
    |@mp _ b hφ=>
     obtain⟨k',q1,_,ob,q2,q3⟩:=hrep.at_ id _ hb';rw[hφ]at q1;cases q1;obtain⟨ents,clock,rfl,q4,q5⟩:=q3;have q4:ents.toList.map (·.key)=es.map (·.1):=by unfold Qu at q4;rw[aG rfl]at q4;exact q4
     have q5:∀(j:Nat) d,es[j]? =Z d->∃m,ents[j]? =Z m/\cu φ (tot ds φ h') w d.2 m.val:=λj d L=>by
      obtain⟨_,A,g2⟩:=q5 j d L;unfold ZX at A;rw[aG rfl]at A;obtain⟨m,A,rfl⟩:=A;exact⟨m,A,g2⟩
     have HW:∀(es:Y j?) (ents:Array MapEntry) (clock:Nat),ents.toList.map (·.key)=es.map (·.1)->(∀(j:Nat) d,es[j]? =Z d->∃m,ents[j]? =Z m/\cu φ (tot ds φ h') w d.2 m.val)->gw φ (tot ds φ h') w ⟨0,.mp es⟩ (.map ents clock):=λes ents clock A g2=>⟨ents,clock,rfl,by unfold Qu;rw[aG rfl];exact A,λj d L=>by
      obtain⟨m,g3,g4⟩:=g2 j d L;exact⟨_,by unfold ZX;rw[aG rfl];exact⟨m,g3,rfl⟩,g4⟩⟩
     have hck:=Yl fs aa (cs:=D.toArray) (by have:=rB fs.hp;simp only[kX];omega) w;have hfk:=Bp (P:=P) fs (.agg D.toArray) ents.toList w;have hlen:ents.size=l! es:=by have:=ey ah q4;simpa using this
     rcases S9 fs w es es' ents.toList 0 q4 hput with ⟨h1,rfl⟩|⟨j,m,k',v',h1,h2,h3,h4,rfl⟩
     .rw[h1]at hfk;refine ⟨.skip,_,b,.map (ents.push {key:=.agg D.toArray,val:=a.eval y,born:=clock}) (clock+1),?_,hφ,rx q2 (by simp) (by simp),HW _ _ _ (by simp[q4]) λj q x=>?_,undef,.inr ⟨rfl,rfl⟩,.f (.raw _)⟩
      .unfold execOp;rw[N];simp[yK,run_underlying hu,F,hrk,getObj,ia,q2,hck,hfk,setObj]
      .rcases bu j (l! es) with hj|hj
       .rw[bz hj]at x;obtain⟨m,A,g2⟩:=q5 j q x;exact⟨m,by rw[xE,aA (by omega)];exact A,g2⟩
       .rw[bU hj]at x;have hj0:j-l! es=0:=by
         rcases oQ (j-l! es) with h0|h0
         .exact h0
         .rw[bK (by simp;omega)]at x;cases x
        rw[hj0]at x;simp at x;subst x;exact⟨_,by rw[xE,aG (by omega)],hry⟩
     .obtain⟨s2,s1⟩:=ady h4;subst s2;rw[h3]at hfk;rw[bL]at h2;rw[bO]at hfk;have hjl:j<ents.size:=(cz.1 h2).1;have hmk:m.key= .agg D.toArray:=by
       have e1:(ents.toList.map (·.key))[j]? =Z m.key:=by rw[a8,bL,h2];rfl
       rw[q4,a8,h1]at e1;simpa using e1.symm
      refine ⟨.skip,_,b,.map (ents.modify j λe=>{e with key:=.agg D.toArray,val:=a.eval y}) clock,?_,hφ,rx q2 (by simp) (by simp),HW _ _ _ ?_ λi q x=>?_,undef,.inr ⟨rfl,rfl⟩,.f (.raw _)⟩
      .unfold execOp;rw[N];simp[yK,run_underlying hu,F,hrk,getObj,ia,q2,hck,hfk,setObj,h2,hmk,Instr.keyThatStays,s1]
      .apply BU;intro i;simp only[a8,bL,db,ux];have e2:∀i:Nat,(ents[i]?).map (λm:MapEntry=>m.key)=(es[i]?).map (λp:Value×AV=>p.1):=λi=>by
        have:=ey (λl=>l[i]?) q4;simpa[a8,bL] using this
       by_cases hij:j=i
       .subst hij;simp[h2,show j<l! es by omega]
       .simp only[hij,c8];exact e2 i
      .rw[db]at x;rw[ux];by_cases hij:j=i
       .subst hij;simp[show j<l! es by omega]at x;subst x;exact⟨{m with key:=.agg D.toArray,val:=a.eval y},by simp[h2],hry⟩
       .simp only[hij,c8]at x ⊢;exact q5 i q x
   .cases z
  .cases z
 .cases z
def G' {α β:Type} (f:α->β):∀(l:Y α) (j:Nat),(l.map f).eraseIdx j=(l.eraseIdx j).map f
 |[],_|_::_,0=>rfl
 |x::r,j+1=>by simp only[ca,List.eraseIdx_cons_succ,G' f r j]
def are {t2 kt el:TypeId} {k:Operand} (L:o.op= .call {callee:=.builtin .delete,args:=#[d,k],argTypes:=#[s,t2]}) (hu:P.underlying s=Z (.map kt el)) (fs:Dn P kt K E) (x:dB (.xj E d k) e h nx=Z R):fZ P o e.get h.get R.eff:=by
 simp only[dB]at x;split at x
 .rename_i id ks D hkx;obtain⟨yk,hkx,hkl,hkn⟩:=Xf hkx;split at x
  .rename_i es hid;split at x
   .rename_i es' hput;cases x;refine fZ.writes hid λφ ds h' w a hrd N hp hrep=>?_
    have hrx:=hp d _ (by rw[L];simp[Op.operands,dI]) D;have hrk:=Lw hkl (hp k _ (by rw[L];simp[Op.operands,dI]) hkx);generalize A:a.eval d=zz at hrx;cases hrx with
    |@mp _ b hφ=>
     obtain⟨k',q1,_,ob,q2,q3⟩:=hrep.at_ id _ N;rw[hφ]at q1;cases q1;obtain⟨ents,clock,rfl,q4,q5⟩:=q3;have q4:ents.toList.map (·.key)=es.map (·.1):=by unfold Qu at q4;rw[aG rfl]at q4;exact q4
     have q5:∀(j:Nat) d,es[j]? =Z d->∃m,ents[j]? =Z m/\cu φ (tot ds φ h') w d.2 m.val:=λj d D=>by
      obtain⟨_,z,g2⟩:=q5 j d D;unfold ZX at z;rw[aG rfl]at z;obtain⟨m,z,rfl⟩:=z;exact⟨m,z,g2⟩
     have HW:∀(es:Y j?) (ents:Array MapEntry) (clock:Nat),ents.toList.map (·.key)=es.map (·.1)->(∀(j:Nat) d,es[j]? =Z d->∃m,ents[j]? =Z m/\cu φ (tot ds φ h') w d.2 m.val)->gw φ (tot ds φ h') w ⟨0,.mp es⟩ (.map ents clock):=λes ents clock z g2=>⟨ents,clock,rfl,by unfold Qu;rw[aG rfl];exact z,λj d D=>by
      obtain⟨m,g3,g4⟩:=g2 j d D;exact⟨_,by unfold ZX;rw[aG rfl];exact⟨m,g3,rfl⟩,g4⟩⟩
     have hck:=Yl fs ents.isEmpty (cs:=ks.toArray) (by have:=rB fs.hp;simp only[kX];omega) w;have hfk:=Bp (P:=P) fs (.agg ks.toArray) ents.toList w;have hlen:ents.size=l! es:=by have:=ey ah q4;simpa using this
     rcases Ta fs w es es' ents.toList 0 q4 hput with ⟨h1,rfl⟩|⟨j,m,h1,h2,h3,rfl⟩
     .rw[h1]at hfk;refine ⟨.value (.tuple #[]),_,b,.map ents clock,?_,hφ,rx q2 (by simp) (by simp),HW _ _ _ q4 q5,_,.inl rfl,cu.qg (vs:=[]) rfl (by simp)⟩;unfold execOp;rw[L];simp[resolve,invoke,builtin,Builtin.delete_,run_underlying hu,A,hrk,getObj,ia,q2,hck,hfk,setObj]
     .rw[h3]at hfk;rw[bO]at hfk;have hel:(ents.eraseIdxIfInBounds j).toList=ents.toList.eraseIdx j:=by
       unfold Array.eraseIdxIfInBounds;rw[dif_pos (show j<ents.size by omega)];simp
      refine ⟨.value (.tuple #[]),_,b,.map (ents.eraseIdxIfInBounds j) clock,?_,hφ,rx q2 (by simp) (by simp),HW _ _ _ ?_ λi q F=>?_,_,.inl rfl,cu.qg (vs:=[]) rfl (by simp)⟩
      .unfold execOp;rw[L];simp[resolve,invoke,builtin,Builtin.delete_,run_underlying hu,A,hrk,getObj,ia,q2,hck,hfk,setObj]
      .rw[hel,<-G',q4,G']
      .rw[List.getElem?_eraseIdx]at F;rw[<- bL,hel,List.getElem?_eraseIdx,bL,bL];split at F
       .rename_i hij;rw[aG hij];exact q5 i q F
       .rename_i hij;rw[aA hij];exact q5 (i+1) q F
   .cases x
  .cases x
 .cases x
end
variable {R:Type}
def bind_some {β:Type} {x:M R} {f:R->M β} {y:β} (h:x.bind f=Z y):∃a,x=Z a/\f a=Z y:=by
 cases x with
 |none=>cases h
 |some a=>exact⟨a,rfl,h⟩
def map_some {β:Type} {x:M R} {f:R->β} {y:β} (h:x.map f=Z y):∃a,x=Z a/\f a=y:=by
 cases x with
 |none=>cases h
 |some a=>exact⟨a,rfl,by simpa using h⟩
def mr {c:Bool} {x:M R} {y:R} (h:(if c then x else U)=Z y):c=J/\x=Z y:=by
 cases c with
 |true=>exact⟨rfl,by simpa using h⟩
 |false=>simp at h
variable {P:Program} {k:Oper} {i:Nat}
def K6 {e:Dp} {h:m7} {s:O1} {R:Co} (A:cX P k.op=Z s) (F:dB s e h i=Z R):fZ P k e.get h.get R.eff:=by
 unfold cX at A;split at A
 .rename_i x D;cases A;exact ar2 (.inl D) F
 .rename_i x D;cases A;exact ar2 (.inr D) F
 .rename_i c a b D;cases A;exact anq D F
 .rename_i t D;obtain⟨z,h1,A⟩:=bind_some A;obtain⟨h2,A⟩:=mr A;cases A;exact aks D h1 h2 F
 .rename_i t x D;cases A;exact ari D F
 .rename_i t ps D;split at A
  .rename_i fs L;obtain⟨z,h1,A⟩:=bind_some A;obtain⟨h2,A⟩:=mr A;obtain⟨ps',h3,rfl⟩:=map_some A;simp only[au]at h2;exact ZV D h1 h2.1 h3 (.inl ⟨fs,L,h2.2⟩) F
  .rename_i n el L;obtain⟨z,h1,A⟩:=bind_some A;obtain⟨h2,A⟩:=mr A;obtain⟨ps',h3,rfl⟩:=map_some A;simp only[au]at h2;obtain⟨sz,N⟩:=jI.1 h2.2;exact ZV D h1 h2.1 h3 (.inr ⟨n,el,sz,L,N⟩) F
  .cases A
 .rename_i t n ps D;obtain⟨el,h1,A⟩:=bind_some A;obtain⟨z,h2,A⟩:=bind_some A;obtain⟨sz,h3,A⟩:=bind_some A;obtain⟨N,A⟩:=mr A;obtain⟨ps',h5,rfl⟩:=map_some A;simp only[au,cF,bne_iff_ne]at N;exact arh D (tW h1) h2 h3 N.1.1.1 N.1.1.2 N.2 (aZ N.1.2) h5 F
 .rename_i t x D;obtain⟨sz,h1,A⟩:=bind_some A;obtain⟨ag,h2,rfl⟩:=map_some A;exact ant D h1 h2 F
 .rename_i t x v D;obtain⟨sz,h1,rfl⟩:=map_some A;exact akr D h1 F
 .rename_i x D;cases A;exact anr D F
 .rename_i op t x y t' D;split at A
  .cases A;exact am7 D F
  .cases A;exact am7 D F
  .rename_i L;split at A
   .cases A;exact am6 (neg:=aa) D rfl L F
   .cases A;exact am6 (neg:=J) D rfl L F
   .cases A
  .rename_i el L;split at A
   .cases A;exact ZU (neg:=aa) D rfl rfl L F
   .cases A;exact ZU (neg:=J) D rfl rfl L F
   .cases A
  .rename_i el L;split at A
   .cases A;exact agw (neg:=aa) D rfl rfl L F
   .cases A;exact agw (neg:=J) D rfl rfl L F
   .cases A
  .rename_i fs L;obtain⟨ds,h1,A⟩:=bind_some A;unfold Dx at h1;rw[L]at h1;simp only[]at h1;split at h1
   .cases h1
   .rename_i hst;have hst:P.stoodInHeld t=aa:=by simpa using hst
    split at A
    .cases A;exact am5 (neg:=aa) D rfl L hst h1 F
    .cases A;exact am5 (neg:=J) D rfl L hst h1 F
    .cases A
  .cases A
 .rename_i t x D;cases A;exact ar0 D F
 .rename_i t x D;split at A
  .cases A;exact ar1 D F
  .cases A
 .rename_i s' d x D;split at A
  .rename_i o k' h1 h2;cases A;exact ao0 D h1 h2 F
  .cases A
 .rename_i t l c D;obtain⟨el,h1,A⟩:=bind_some A;obtain⟨z,h2,A⟩:=bind_some A;obtain⟨sz,h3,A⟩:=bind_some A;obtain⟨b,h5,A⟩:=bind_some A;obtain⟨N,A⟩:=mr A;simp only[au,cF,bne_iff_ne]at N;cases A;exact ans D (tW h1) h2 h3 h5 N.1.1 N.1.2 N.2 F
 .rename_i t x lo hi mx D;obtain⟨el,h1,A⟩:=bind_some A;obtain⟨sz,h2,rfl⟩:=map_some A;exact aqx D (tW h1) h2 F
 .rename_i t x o D;split at A
  .rename_i fs L;obtain⟨f,h1,A⟩:=bind_some A;obtain⟨sz,h2,A⟩:=bind_some A;obtain⟨h3,A⟩:=mr A;cases A;exact arc D L h1 h2 (by simpa using h3) F
  .cases A
 .rename_i t x o D;split at A
  .rename_i fs L;obtain⟨f,h1,A⟩:=bind_some A;obtain⟨sz,h2,A⟩:=bind_some A;obtain⟨ag,h3,rfl⟩:=map_some A;exact arb D L h1 h2 h3 F
  .cases A
 .rename_i t x nx D;split at A
  .rename_i el L;obtain⟨sz,h1,rfl⟩:=map_some A;exact ara D L h1 F
  .rename_i n el L;obtain⟨sz,h1,rfl⟩:=map_some A;exact anx D L h1 F
  .cases A
 .rename_i t x nx D;split at A
  .rename_i n el L;obtain⟨sz,h1,A⟩:=bind_some A;obtain⟨ag,h2,rfl⟩:=map_some A;exact ar9 D L h1 h2 F
  .rename_i L;cases A;exact anp D L F
  .cases A
 .rename_i x nx D;cases A;exact ard D F
 .rename_i f first caps D
  obtain⟨h1,A⟩:=mr A;cases A;have h2:first=#[]:=by simpa using h1
  subst h2;exact ar5 D F
 .rename_i t D;split at A
  .cases A;exact ar4 D F
  .cases A
 .rename_i t x o ok D;split at A
  .rename_i kt el L;split at A
   .rename_i q z h1 h2;obtain⟨h3,A⟩:=mr A;cases A;exact am4 (str:=aa) D L h1 ⟨q,rfl⟩ h2 F
   .rename_i z h1 h2;obtain⟨h3,A⟩:=mr A;cases A;exact am4 (str:=J) D L h1 rfl h2 F
   .rename_i fs z h1 h2;obtain⟨h3,A⟩:=mr A;simp only[au,cU]at h3;obtain⟨ds,N,rfl⟩:=map_some A;obtain⟨fs',K⟩:=Gw N;rw[h3.2]at D;exact ar8 D L K h2 F
   .cases A
  .cases A
 .rename_i t m o v D;split at A
  .rename_i kt el L;split at A
   .rename_i q h1;cases A;exact am3 (str:=aa) D L h1 ⟨q,rfl⟩ F
   .rename_i h1;cases A;exact am3 (str:=J) D L h1 rfl F
   .obtain⟨ds,N,rfl⟩:=map_some A;obtain⟨fs',K⟩:=Gw N;exact ar3 D L K F
   .cases A
  .cases A
 .rename_i t x D;split at A
  .rename_i L;cases A;exact aqy D L F
  .cases A
 .rename_i x D;cases A;exact aqz D F
 .rename_i c D;obtain⟨callee,args,argTypes⟩:=c;have arr:∀{α:Type} {x:Array α} {l:Y α},x.toList=l->x=l.toArray:=λh=>by rw[<- h]
  unfold Vy at A;simp only[]at A;split at A
  .split at A
   .rename_i x t h1 h2;rw[arr h1,arr h2]at D;split at A
    .rename_i el L;cases A;exact anw D L F
    .rename_i L;cases A;exact anv D L F
    .rename_i o v L;cases A;exact anu D L F
    .cases A
   .cases A
  .split at A
   .rename_i x y h1;rw[arr h1]at D;cases A;exact ar7 D F
   .cases A
  .split at A
   .rename_i x y h1;rw[arr h1]at D;cases A;exact ar6 D F
   .cases A
  .split at A
   .rename_i d x t u h1 h2;rw[arr h1,arr h2]at D;split at A
    .rename_i el el' h1 h2;obtain⟨sz,h3,A⟩:=bind_some A;obtain⟨N,A⟩:=mr A;cases A;exact anz D (tW h1) (tW h2) h3 F
    .cases A
   .cases A
  .split at A
   .rename_i m o t t2 h1 h2;rw[arr h1,arr h2]at D;split at A
    .rename_i kt el L;obtain⟨ds,N,rfl⟩:=map_some A;obtain⟨fs',K⟩:=Gw N;exact are D L K F
    .cases A
   .cases A
  .split at A
   .rename_i x t h1 h2;rw[arr h1,arr h2]at D;obtain⟨el,h3,A⟩:=bind_some A;obtain⟨z,N,A⟩:=bind_some A;obtain⟨sz,h5,A⟩:=bind_some A;obtain⟨h6,A⟩:=mr A;simp only[au,cF,bne_iff_ne,ne_eq]at h6;cases A;exact arf D (tW h3) N h6.1.1 h6.1.2 h6.2 F
   .cases A
  .split at A
   .rename_i s' x t u h1 h2;rw[arr h1,arr h2]at D;split at A
    .rename_i el el' h1 h2;obtain⟨sz,h3,A⟩:=bind_some A;obtain⟨b,N,A⟩:=bind_some A;obtain⟨z,h5,A⟩:=bind_some A;obtain⟨h6,A⟩:=mr A;simp only[au,cF,bne_iff_ne]at h6;cases A;exact arj D (tW h1) (tW h2) h3 N h5 h6.2 h6.1 F
    .cases A
   .cases A
  .cases A
 .cases A
variable {p:Nat->Bool}
def ny :∀{l:Y AV},AV.allL p l=J->∀x∈l,AV.all p x=J
 |[],_,x,d=>by cases d
 |y::l,h,x,d=>by
  simp only[AV.allL,au]at h;rcases bm.1 d with rfl|d
  .exact h.1
  .exact ny h.2 x d
variable {O:Nat->Prop} {v:Value} {V:PM} {y:AV}
def cu.restrict {φ':PM} {O':Nat->Prop} {w:World} (F:∀i k,p i=J->V i=Z k->φ' i=Z k) (ho:∀k,O' k->O k) (h:cu V O w y v):y.all p=J->cu φ' O' w y v:=by
 induction h with
 |f h=>intro _;exact .f (h.ext (O':=O') (Gf.refl O w) λk _ N=>ho k N)
 |H h=>intro hp;exact .H (F _ _ hp h)
 |sl h L hc=>intro hp;exact .sl (F _ _ hp h) L hc
 |G h L hc hsh=>intro hp;exact .G (F _ _ hp h) L hc hsh
 |emp=>intro _;exact .emp
 |qv=>intro _;exact .qv
 |qd h=>intro _;exact .qd (h.ext (O':=O') (Gf.refl O w) λk _ N=>ho k N)
 |mp h=>intro hp;exact .mp (F _ _ hp h)
 |agg D hcl hr z=>intro hp;exact .agg D hcl λj y v d A=>z j y v d A (ny hp y (bf d))
 |qg D hr z=>intro hp;exact .qg D λj y v d A=>z j y v d A (ny hp y (bf d))
 |qy D hr z=>intro hp;exact .qy D λj y v d A=>z j y v d A (ny hp y (bf d))
variable {z:kx}
def gw.restrict {φ':PM} {O':Nat->Prop} {w w':World} (L:∀x v,x.all p=J->cu V O w x v->cu φ' O' w' x v) {o:Obj} (F:z.c.all p=J) (h:gw V O w z o):gw φ' O' w' z o:=by
 unfold gw at h ⊢;cases D:z.c with
 |fz l=>
  rw[D]at h;obtain⟨arr,h1,h2,A⟩:=h;exact⟨arr,h1,h2,λj x b=>by
   obtain⟨a,v,c,d⟩:=A j x b;refine ⟨a,v,c,L _ _ ?_ d⟩;simp only[BC.get]at b;cases N:l[j]? with
   |none=>rw[N]at b;cases b
   |some q=>rw[N]at b;simp at b;subst b;rfl⟩
 |mx l=>
  rw[D]at h F;obtain⟨arr,h1,h2,A⟩:=h;exact⟨arr,h1,h2,λj x b=>by
   obtain⟨a,v,c,d⟩:=A j x b;exact⟨a,v,c,L _ _ (ny F x (bf b)) d⟩⟩
 |mp es=>
  rw[D]at h F;obtain⟨e,c,h1,h2,A⟩:=h;exact⟨e,c,h1,h2,λj x b=>by
   obtain⟨m,a,z⟩:=A j x b;exact⟨m,a,L _ _ (ny F x.2 (cq.2 ⟨x,bf b,rfl⟩)) z⟩⟩
 |it s q=>rw[D]at h;exact h
def agf (m:Nat):ι:=(kY (m+1)).filter λi=>aO m i
variable {j:Nat}
def PA :i∈agf j↔aO j i=J:=by
 unfold agf;rw[HE,oR];constructor
 .exact λh=>h.2
 .intro h;refine ⟨?_,h⟩;have h1:=Nat.ge_two_pow_of_testBit h;have h2:=Nat.lt_two_pow_self (n:=i);omega
def lV (φ:PM) (O:Nat->Prop) (w:World):Y AV->ξ->Prop
 |[],[]=>True
 |x::xs,v::vs=>cu φ O w x v/\lV φ O w xs vs
 |_,_=>False
def lV.length {w:World}:∀{args:Y AV} {vs:ξ},lV V O w args vs->l! vs=l! args
 |[],[],_=>rfl
 |[],_::_,h|_::_,[],h=>h.elim
 |_::_,_::_,h=>by simp[lV.length h.2]
def lV.mono {φ':PM} {O':Nat->Prop} {w w':World} (d:∀x v,x.all p=J->cu V O w x v->cu φ' O' w' x v):∀{args:Y AV} {vs:ξ},AV.allL p args=J->lV V O w args vs->lV φ' O' w' args vs
 |[],[],_,_=>trivial
 |[],_::_,_,h|_::_,[],_,h=>h.elim
 |x::xs,_::_,hp,h=>by
  simp only[AV.allL,au]at hp;exact⟨d _ _ hp.1 h.1,lV.mono d hp.2 h.2⟩
def lV.append {w:World}:∀{xs d:Y AV} {vs z:ξ},lV V O w xs vs->lV V O w d z->lV V O w (xs++d) (vs++z)
 |[],_,[],_,_,h=>h
 |[],_,_::_,_,h,_|_::_,_,[],_,h,_=>h.elim
 |_::_,_,_::_,_,h,h'=>⟨h.1,lV.append h.2 h'⟩
def lV.of {w:World}:∀{xs:Y AV} {vs:ξ},l! vs=l! xs->(∀(j:Nat) x v,xs[j]? =Z x->vs[j]? =Z v->cu V O w x v)->lV V O w xs vs
 |[],[],_,_=>trivial
 |[],_::_,h,_|_::_,[],h,_=>by simp at h
 |x::xs,v::vs,A,h=>⟨h 0 x v rfl rfl,lV.of (by simpa using A) λj x v d z=>h (j+1) x v (by simpa using d) (by simpa using z)⟩
def Gh (P:Program) (f:FuncId):Prop:=∃fn,P.funcs[f]? =Z fn∧fn.body.isNone=aa∧(fn.name== "runtime.NumGoroutine")=aa
variable {S:HF} {N:Act}
def XK {w:World} {e:Dp} (hp:Ws V O S w N e k):∀(xs:Y Operand) (d:Y AV),(∀x∈xs,x∈k.op.operands)->evs e xs=Z d->lV V (tot O V S) w d (xs.map N.eval)
 |[],d,_,h=>by simp only[evs,af]at h;subst h;trivial
 |x::xs,d,hm,h=>by
  simp only[evs]at h;split at h
  .rename_i y z;split at h
   .rename_i ys' hys;cases h;exact⟨hp x y (hm x (c_ ..)) z,XK hp xs ys' (λx A=>hm x (b8 _ A)) hys⟩
   .cases h
  .cases h
variable {f:FuncId}
def Ey (A:Gh P f) (args:Array Value) (w:World):(callFunc f args).run P w= .ok (.enter f args) w:=by
 obtain⟨fn,h1,h2,D⟩:=A;have d:fn.name≠ "runtime.NumGoroutine" :=by simpa using D
 have z:fn.body≠U:=by intro h;rw[h]at h2;cases h2
 simp[callFunc,program,ia,h1,z,d]
def Zn:∀(d:Y FPm) (i:Nat),aat d i=d[i]?
 |[],i=>by simp[aat]
 |f::d,0=>rfl
 |f::d,i+1=>by simp[aat,Zn d i]
def zK (h:FN i j=J) (a:Nat) (d:aO i a=J):aO j a=aa:=by
 unfold FN at h;have h0:i&&&j=0:=av h;have:=Nat.testBit_and i j a;rw[h0,d]at this;simpa using this.symm
structure Ctx where
 n0:Nat
 φ:PM
 E:Nat->Prop
 h:HF
 w:World
def ahf (P:Program) (d:Deferred):Prop:=∀w:World,∃A cap f args,d.target= .fn A cap/\(invoke d.target d.args).run P w= .ok (.enter f args) w/\
 CallsD P f args .returning w λe z w'=>(∃v,e= .returned v)/\z= .returning/\w'=w
structure Cfg (P:Program) (C:Ctx) (nt:Nat) (s:IS) (a:Act) (w:World):Prop where
 ex:∃φ,kf C.φ φ C.h s.h.get C.w w/\sq φ C.E s.h.get w/\Qz φ (tot C.E φ s.h.get) w s.e.get a/\(∀i k,φ i=Z k->i<s.nx)/\∀i k,φ i=Z k->C.φ i=Z k\/C.n0<=i
 low:C.n0<=s.nx
 inert:∀d∈a.defers,ahf P d
 size:a.tmps.size=nt
variable {b:Bool}
def Cfg.bool {C:Ctx} {s:IS} {w:World} (c:Cfg P C i s N w) (ht:s.e.get j=Z (.f (.raw (.bool b)))):N.eval (.tmp j)= .bool b:=by
 obtain⟨φ,_,_,en,_,_⟩:=c.ex;exact eV (en j _ ht)
variable {m:Exit->Act->World->Prop}
def Ek {c:Code} (I:Nat->Act->World->Prop) (round:∀n N w,I n N w->c.wp P (Exit.then (λF w'=>∃Q,Q<n/\I Q F w') m) N w) {n:Nat} {w:World} (h0:I n N w):(Code.loop c).wp P m N w:=by
 have least:∀(n:Nat) (N:Act) (w:World),I n N w->∃Q,I Q N w/\∀k,I k N w->Q<=k:=by
  intro n;induction n using Nat.strongRecOn with
  |_ n L=>
   intro N w z;by_cases d:∃k,k<n/\I k N w
   .obtain⟨k,A,D⟩:=d;exact L k A N w D
   .exact⟨n,z,λk A=>Nat.le_of_not_lt λhlt=>d ⟨k,hlt,A⟩⟩
 have pick:∀N w,∃Q,(∃n,I n N w)->I Q N w/\∀k,I k N w->Q<=k:=λN w=>by
  by_cases d:∃n,I n N w
  .obtain⟨n,z⟩:=d;obtain⟨Q,hm⟩:=least n N w z;exact⟨Q,λ_=>hm⟩
  .exact⟨0,λh=>cN h d⟩
 let μ:Act->World->Nat:=λN w=>Classical.choose (pick N w)
 have hμ:∀N w,(∃n,I n N w)->I (μ N w) N w/\∀k,I k N w->μ N w<=k:=λN w=>Classical.choose_spec (pick N w)
 refine wp_loop (λN w=>∃n,I n N w) μ ⟨n,h0⟩ λN w D=>?_
 refine wp_mono (round (μ N w) N w (hμ N w D).1) λe F w' he=>?_
 cases e with
 |normal=>
  obtain⟨Q,hm,hIm⟩:=he;exact⟨⟨Q,hIm⟩,Nat.lt_of_le_of_lt ((hμ F w' ⟨Q,hIm⟩).2 Q hIm) hm⟩
 |_=>exact he
def Ex.to:Ex->Exit
 |.normal=>.normal
 |.exit id=>.exit id
 |.ret=>.ret
def Sq (P:Program) (inert:FuncId->Bool):Prop:=∀f,inert f=J->Gh P f/\∀(args:Array Value) (w:World),CallsD P f args .returning w λe d w'=>(∃v,e= .returned v)/\d= .returning/\w'=w
def aa3 (tmps:Array Value):ResultVar->Sem Value
 |.tmp t=>pure (tmps.getD t undef)
 |.cell a t=>do
  let ad<-asAddr (tmps.getD a undef)
  loadVar t ad
def WU (fn:Func) (tmps:Array Value):results fn tmps=(do let vs<-fn.results.mapM (aa3 tmps);pure (if h:vs.size=1 then vs[0] else .tuple vs)):=by
 unfold results;congr 2
def EU {fn:Func} {tmps:Array Value} {R:Ending->World->Prop} {w:World} (z:(results fn tmps).run P w= .ok v w) (A:R (.returned v) w):∀(ds:Y Deferred),(∀d∈ds,ahf P d)->Leaves P fn tmps R ds .returning w
 |[],_=>⟨v,z,A⟩
 |d::ds,h=>by
  obtain⟨F,cap,f,args,h1,h2,D⟩:=h d (c_ ..) w;refine ⟨by simp,F,cap,f,args,h1,h2,D.mono ?_⟩;rintro e N w' ⟨⟨L,rfl⟩,rfl,rfl⟩;exact EU z A ds λd hd=>h d (b8 _ hd)
def lV.get {w:World}:∀{xs:Y AV} {vs:ξ},lV V O w xs vs->∀(j:Nat) x,xs[j]? =Z x->∃v,vs[j]? =Z v/\cu V O w x v
 |[],_,_,j,x,d=>by simp at d
 |_::_,[],h,_,_,_=>h.elim
 |y::xs,u::vs,h,j,x,d=>by
  cases j with
  |zero=>simp at d;subst d;exact⟨u,rfl,h.1⟩
  |succ j=>exact lV.get h.2 j x (by simpa using d)
def Vx {d:SF} (h:BK P f=Z d):∃fn c,P.funcs[f]? =Z fn∧fn.body=Z c∧(fn.name== "runtime.NumGoroutine")=aa∧d.code=cK P fn.ntmps c∧w7 P fn.results.toList=Z d.res∧d.nt=fn.ntmps:=by
 unfold BK at h;split at h
 .rename_i fn hf;split at h
  .cases h
  .rename_i A;split at h
   .rename_i c r D z;cases h;exact⟨fn,c,hf,D,by simpa using A,rfl,z,rfl⟩
   .cases h
 .cases h
def ake {b:Value} (h:anj v b=J):v=b:=by
 unfold anj at h;split at h
 .simp at h;rw[h]
 .simp at h;rw[h.1,h.2]
 .rw[w_.1 h]
 .simp only[au]at h;rw[av h.1,av h.2]
 .rfl
 .rename_i x y;simp only[au,Array.isEmpty_iff]at h;rw[h.1,h.2]
 .cases h
def PT.mapO {β:Type} (g:R->M β):PT R->PT β
 |.leaf=>.leaf
 |.node v l r=>.node (v.bind g) (PT.mapO g l) (PT.mapO g r)
def PT.get_mapO {β:Type} (g:R->M β):∀(t:PT R) (i:Nat),(PT.mapO g t).get i=(t.get i).bind g
 |.leaf,i|.node v l r,0=>by simp[PT.mapO,PT.get]
 |.node v l r,j+1=>by
  simp only[PT.mapO,PT.get];split
  .exact PT.get_mapO g l _
  .exact PT.get_mapO g r _
def PT.get_updI (f:Nat->R->R):∀(t:PT R) (a b i:Nat),(PT.updI f a b t).get i=(t.get i).map (f (a*i+b))
 |.leaf,_,_,i=>by simp[PT.updI,PT.get]
 |.node v l r,a,b,0=>by cases v<;>simp[PT.updI,PT.get]
 |.node v l r,a,b,j+1=>by
  simp only[PT.updI,PT.get];split
  .rename_i d;rw[PT.get_updI f l];have:2*a*(j/2)+(a+b)=a*(j+1)+b:=by
    have h2:j=2*(j/2):=by have:=av d;omega
    have z:2*a*(j/2)=a*j:=by rw[wH 2 a,Eh,<-h2]
    rw[z,Nat.mul_add];omega
   rw[this]
  .rename_i d;rw[PT.get_updI f r];have:2*a*(j/2)+(2*a+b)=a*(j+1)+b:=by
    have h1:j%2≠0:=λh=>d (by rw[h];rfl)
    have h2:j=2*(j/2)+1:=by omega
    have z:2*a*(j/2)=a*(2*(j/2)):=by rw[wH 2 a,Eh]
    have A:a*(j+1)=a*(2*(j/2))+2*a:=by
     conv=>lhs;rw[h2]
     rw[Nat.mul_add,Nat.mul_add];omega
    rw[z,A];omega
   rw[this]
def PT.bound :∀(t:PT R),∃B,∀i,B<=i->t.get i=U
 |.leaf=>⟨0,λi _=>rfl⟩
 |.node v l r=>by
  obtain⟨a,z⟩:=PT.bound l;obtain⟨b,d⟩:=PT.bound r;refine ⟨2*(a+b)+3,λi hi=>?_⟩;cases i with
  |zero=>omega
  |succ j=>
   simp only[PT.get];split
   .exact z _ (by omega)
   .exact d _ (by omega)
def PT.ofF (f:Nat->M R):Nat->PT R
 |0=>.leaf
 |n+1=>(PT.ofF f n).set n (f n)
def PT.get_ofF (f:Nat->M R):∀(n i:Nat),(PT.ofF f n).get i=if i<n then f i else U
 |0,i=>by simp[PT.ofF,PT.get]
 |n+1,i=>by
  rw[PT.ofF,PT.get_set,PT.get_ofF f n];by_cases h:i=n
  .subst h;simp
  .rw[aA h];by_cases h2:i<n
   .rw[aG h2,aG (by omega)]
   .rw[aA h2,aA (by omega)]
def jK (i k:Nat):Nat:=2^i*(2*k+1)-1
def nm (i:Nat):Nat:=jK i 0
def owA:Nat->Nat->Nat
 |0,_=>0
 |f+1,m=>if m%2=1 then 0 else owA f (m/2)+1
def ow (n:Nat):Nat:=owA (n+1) (n+1)
def ix (n:Nat):Nat:=(n+1)/2^ow n/2
def Y6:∀(i f k:Nat),i<f->owA f (2^i*(2*k+1))=i
 |0,f+1,k,_=>by rw[owA,aG (by omega)]
 |i+1,f+1,k,h=>by
  have e:2^(i+1)*(2*k+1)=2*(2^i*(2*k+1)):=by rw[Nat.pow_succ,wH (2^i) 2,Eh]
  rw[owA,aA (by omega),e,Nat.mul_div_cancel_left _ (by omega),Y6 i f k (by omega)]
def Y7:∀(f m:Nat),0<m->m<=f->2^owA f m*(2*(m/2^owA f m/2)+1)=m
 |0,m,h0,h=>by omega
 |f+1,m,h0,h=>by
  rw[owA];split
  .rw[Nat.pow_zero,Nat.div_one];omega
  .have d:=Y7 f (m/2) (by omega) (by omega);rw[Nat.pow_succ,wH (2^owA f (m/2)) 2,<-Nat.div_div_eq_div_mul,Eh,d];omega
def Q3 (i k:Nat):0<2^i*(2*k+1):=Nat.mul_pos (Nat.two_pow_pos i) (by omega)
def iL (i k:Nat):ow (jK i k)=i:=by
 have h:=Q3 i k;have h2:i<2^i*(2*k+1):=dA Nat.lt_two_pow_self (Nat.le_mul_of_pos_right _ (by omega));unfold ow jK;rw[Nat.sub_add_cancel h,Y6 _ _ _ h2]
def vN (i k:Nat):ix (jK i k)=k:=by
 have h:=Q3 i k;unfold ix;rw[iL];unfold jK;rw[Nat.sub_add_cancel h,Nat.mul_div_cancel_left _ (Nat.two_pow_pos i)];omega
def lb (n:Nat):jK (ow n) (ix n)=n:=by
 have:=Y7 (n+1) (n+1) (by omega) (cA _);unfold jK ix ow;rw[this];rfl
def pt (h:ix i=0):i=nm (ow i):=by
 have:=lb i;rw[h]at this;exact this.symm
def dq (i:Nat):ow (nm i)=i:=iL i 0
def aqc (i:Nat):ix (nm i)=0:=vN i 0
def uQ {k l:Nat} (h:jK i k=jK j l):i=j/\k=l:=by
 have h1:=ey ow h;have h2:=ey ix h;rw[iL,iL]at h1;rw[vN,vN]at h2;exact⟨h1,h2⟩
def uj (h:nm i=nm j):i=j:=(uQ h).1
def dv (p:Bool) (id sz n:Nat):AV:=if p&&n==0 then .emp else .G (nm id) sz n
def pG (id:Nat) (j:Int):Nat:=jK id (3*j.toNat+1)
def uh (id:Nat) (j sz n:Nat):AV:=if n==0 then .emp else .G (jK id (j+1)) sz n
def Jw:Sb->AV
 |.ob id j off=>.H (pG id j) off
 |.om id j b=>.mp (jK id (3*j.toNat+2+b))
 |.nr id j sz n=>uh id j.toNat sz n
 |.np id j sz i off=>.H (jK id (j.toNat+1)) (i.toNat*sz+off)
 |.nl=>.f (.raw (.map U))
mutual
def cg (h:bk):TV->M AV
 |.f T v=>Z (.f (fO T v))
 |.zk T xs j _ off=>Z (.f (.H (xs.flatMap (bT T)) (j.toNat*T.size+off)))
 |.ql id sz j off=>Z (.H (nm id) (j.toNat*sz+off))
 |.H id off=>Z (.H (nm id) off)
 |.qw id sz n=>Z (.G (nm id) sz n)
 |.G id=>match eu h id with|some (p,sz,n)=>Z (dv p id sz n)|none=>U
 |.zp id j=>match eu h id with|some (_,sz,n)=>Z (.sl (nm id) (j.toNat*sz) (n-j.toNat))|none=>U
 |.emp=>Z .emp
 |.nil=>Z (.f (.raw (.slice U 0 0)))
 |.mp id=>Z (.mp (nm id))
 |.agg l=>match cO h l with|some l'=>Z (.agg l')|none=>U
 |.qg l=>match cO h l with|some l'=>Z (.qg l')|none=>U
 |.qy g l=>match cO h l with|some l'=>Z (.qy g l')|none=>U
 |.undef=>Z (.f (.raw undef))
 |.np=>Z (.f (.raw (.pointer U)))
 |.qv=>Z .qv
 |.qd T xs=>Z (.qd (xs.flatMap (bT T)) (ah xs))
 |.sb s=>Z (Jw s)
def cO (h:bk):Y TV->M (Y AV)
 |[]=>Z []
 |x::r=>match cg h x with
  |some y=>(match cO h r with|some l=>Z (y::l)|none=>U)
  |none=>U
end
def rc:(K:Ty)->K.den->Value
 |.int k,n=>.int k n
 |.str,s=>.string ⟨fh s⟩
 |_,_=>undef
def mpC:(K V:Ty)->Y (K.den×V.den)->BC
 |.st (.pr .str (.int .i64)),.un,es=>.it ⟨fh (Ki es)⟩ (Ja es)
 |K,V,es=>.mp (es.map λp=>(rc K p.1,.f (fO V p.2)))
variable {T:Ty}
def yW {V:Ty} {es:Y (T.den×V.den)} (h:W7 T=J):mpC T V es= .mp (es.map λp=>(rc T p.1,.f (fO V p.2))):=by
 unfold mpC;split
 .cases h
 .rfl
def an3 {V:Ty} {es:Y (T.den×V.den)} {s:ζ} (h:itE T V es=Z (s,i)):mpC T V es= .it ⟨fh s⟩ i:=by
 unfold itE at h;split at h
 .cases h;rfl
 .cases h
def pP:Nat->Y AV->Y j?
 |_,[]=>[]
 |i,v::r=>(.int .i64 (aR i),v)::pP (i+1) r
def EZ:∀(l:Y AV) (i j:Nat),(pP i l)[j]? =(l[j]?).map λv=>(.int .i64 (aR (i+j)),v)
 |[],i,j|v::r,i,0=>rfl
 |v::r,i,j+1=>by
  rw[pP,mL,EZ r (i+1) j,show i+1+j=i+(j+1) from by omega];rfl
def GL (k:Value):∀(l:Y AV) (i:Nat),k∈(pP i l).map (·.1)->x_ k
 |v::r,i,h=>by
  rcases bm.1 h with h|h
  .exact⟨_,h⟩
  .exact GL k r (i+1) h
def PD:∀(l:Y AV) (i:Nat),(pP i l).map (·.2)=l
 |[],_=>rfl
 |v::r,i=>by rw[pP,ca,PD r (i+1)]
def TI (f:AV->AV):∀(l:Y AV) (i:Nat),(pP i l).map (λp=>(p.1,f p.2))=pP i (l.map f)
 |[],_=>rfl
 |v::r,i=>by rw[pP,ca,TI f r (i+1)];rfl
def PF:∀(l:Y AV) (i n:Nat),told (aR (i+n)) (pP i l)=l[n]?
 |[],i,n=>rfl
 |v::r,i,0=>by rw[pP,told,cZ,aG rfl];rfl
 |v::r,i,n+1=>by
  rw[pP,told,aA (λe=>by have:=uf e;omega),show i+(n+1)=i+1+n from by omega,PF r (i+1) n];rfl
def PH (y:AV) (n:Int):∀(l:Y AV) (i:Nat),n<aR i->mN n y (pP i l)=pP i l
 |[],i,_=>rfl
 |v::r,i,h=>by
  simp only[pP,mN];rw[PH y n r (i+1) (Int.lt_trans h (Int.ofNat_lt.2 (nZ i))),aA (λe=>by rw[e]at h;exact Int.lt_irrefl _ h)]
def TG (y:AV):∀(l:Y AV) (i n:Nat),mN (aR (i+n)) y (pP i l)=pP i (l.set n y)
 |[],i,n=>rfl
 |v::r,i,0=>by
  simp only[pP,mN,cZ,NH];rw[PH y (aR i) r (i+1) (Int.ofNat_lt.2 (nZ i)),aG trivial]
 |v::r,i,n+1=>by
  simp only[pP,mN,List.set_cons_succ];rw[aA (λe=>by have:=uf e;omega),show i+(n+1)=i+1+n from by omega,TG y r (i+1) n]
variable {s:TypeId}
def ZY {es:Y j?} {ents:Array MapEntry} (f:AV->AV):Qu s (es.map λp=>(p.1,f p.2)) ents=Qu s es ents:=by unfold Qu;rw[kZ];rfl
def KJ {l:Y R} {x:R} (h:i<l! l):splice l i [x]=l.set i x:=by
 rw[List.set_eq_take_append_cons_drop,aG h];simp[splice]
def aad (k:Γ):Value:=.agg #[.int .i64 k.1,.int .i64 k.2]
def wA (a:Nat) (es:Y e?):Y j?:=es.map λe=>(aad e.1,.H (pG a e.2) 0)
def Mi (a:Nat) (k:Γ) (v:AV):Y e?->Y j?
 |[]=>[(aad k,v)]
 |e::r=>if k=e.1 then (aad k,v)::wA a r else (aad e.1,.H (pG a e.2) 0)::Mi a k v r
def lY (a sz:Nat):Nat->η->Y AV
 |_,[]=>[]
 |k,l::r=>uh a k sz l.toNat::lY a sz (k+1) r
def sC (a:Nat):(F:t_)->F.ty.den->M kx
 |.qc ty,d=>if ah d==0 then U else Z ⟨ty,.mx (fX (λj=>.H (pG a j) 0) d)⟩
 |.qh,es=>Z ⟨0,.mp (wA a es)⟩
 |.rr ty sz,ls=>Z ⟨ty,.mx (lY a sz 0 ls)⟩
 |_,_=>U
def Zr (a:Nat) (k:Γ):(F:t_)->F.ty.den->M (Nat×Bool×Nat)->M kx
 |.qh,es,Z (p,_,_)=>Z ⟨0,.mp (Mi a k (.H (nm p) 0) es)⟩
 |.rr ty sz,ls,Z (r,b,n)=>Z ⟨ty,.mx ((lY a sz 0 ls).set k.1.toNat (dv b r sz n))⟩
 |_,_,_=>U
def GC (es:Y r?):Y j?:=es.map λe=>(.int .i64 e.1,.f (.raw (.bool e.2)))
def vT (id k:Nat) (ty:TypeId) (S:Ty) (o:S.den×Y (Int×Bool)×Y (Int×Bool)):kx:=
 if k%3=0 then ⟨ty,.mx ((bT S o.1).map .f++[.mp (jK id (k+2)),.mp (jK id (k+3))])⟩ else ⟨0,.mp (GC (if k%3=1 then o.2.1 else o.2.2))⟩
def XI (ty:TypeId) (T:Ty) (xs:Y T.den):M kx:=if (l! xs)==0 then U else Z ⟨ty,.fz (xs.flatMap (bT T))⟩
def oK (id k:Nat) (ty:TypeId) (S:Ty) (xs:Y (BR S)):M kx:=(xs[k/3]?).map (vT id k ty S)
def pm (k:Nat) (ty:TypeId) (T:Ty) (xss:Y (Y T.den)):M kx:=(xss[k]?).bind (XI ty T)
def Br (id:Nat) (k:Nat):(F:t_)->F.ty.den->M kx
 |.ar ty S,xs=>oK id k ty S xs
 |.ir ty T,xss=>pm k ty T xss
 |_,_=>U
def wx (id k:Nat):eG->M kx
 |.I F _ x=>Br id k F x
 |.qm F _ x j U=>if k=j.1.toNat then U else Br id k F x
 |.qm F _ x _ (Z _)=>Br id k F x
 |_=>U
def jY (h:bk):eG->M kx
 |.F ty p T xs=>if p&&l! xs==0 then U else Z ⟨ty,.fz (xs.flatMap (bT T))⟩
 |.C (Z ty) l=>match cO h l with|some l'=>Z ⟨ty,.mx l'⟩|none=>U
 |.C U l=>match cO h l with|some l'=>Z ⟨1,.mp (pP 0 l')⟩|none=>U
 |.qj _ _ _=>U
 |.mp K V es=>Z ⟨0,mpC K V es⟩
 |.I F a x=>sC a F x
 |.qm F a x k p=>Zr a k F x p
def fB (e:h_) (h:bk):EF:=λt=>(e.get t).bind (cg h)
def NJ (h:bk) (id:Nat):Nat->eG->M kx
 |0,b=>jY h b
 |k+1,b=>wx id k b
def erHF (h:bk):HF:=λn=>(h.get (ow n)).bind (NJ h (ow n) (ix n))
def bQ (h:bk) (i:Nat):erHF h (nm i)=(h.get i).bind (jY h):=by
 unfold erHF;rw[dq,aqc];rfl
def kU (h:bk) (i k:Nat):erHF h (jK i (k+1))=(h.get i).bind (wx i k):=by
 unfold erHF;rw[iL,vN];rfl
variable {h:bk}
def iR (d:erHF h i=Z z):∃c,h.get (ow i)=Z c/\NJ h (ow i) (ix i) c=Z z:=by
 unfold erHF at d;cases b:h.get (ow i) with
 |none=>rw[b]at d;cases d
 |some c=>rw[b]at d;exact⟨c,rfl,d⟩
def GA:eG->Nat
 |.I (.ar _ _) _ x=>3*ah x
 |.I (.ir _ _) _ x=>ah x
 |.qm (.ar _ _) _ x _ _=>3*ah x
 |.qm (.ir _ _) _ x _ _=>ah x
 |_=>0
def Zs {id:Nat} {F:t_} {x:F.ty.den} (d:Br id i F x=Z z) (a:Nat):i<GA (.I F a x):=by
 cases F with
 |ar ty S=>
  simp only[Br,oK]at d;obtain⟨o,b,_⟩:=dz.1 d;have:=(bq.1 b).1;simp only[GA];omega
 |ir ty T=>
  simp only[Br,pm]at d;obtain⟨o,b,_⟩:=Option.bind_eq_some_iff.1 d;exact (bq.1 b).1
 |_=>cases d
def Zb {c:eG} (d:wx i j c=Z z):j<GA c:=by
 cases c with
 |I F a x=>exact Zs (id:=i) d a
 |qm F a x k p=>
  have:Br i j F x=Z z:=by
   cases p with
   |none=>simp only[wx]at d;split at d;cases d;exact d
   |some q=>exact d
  have:=Zs (id:=i) this a;cases F<;>exact this
 |_=>cases d
def CL (e:h_) (h:bk):Dp:=PT.mapO (cg h) e
def Ch (e:h_) (h:bk):(CL e h).get=fB e h:=by funext t;exact PT.get_mapO _ _ _
def aju (A:∀g c,h.get g=Z c->GA c<=i) (b:erHF h j=Z z):ix j<=i:=by
 obtain⟨c,h1,h2⟩:=iR b;have:=A _ c h1;cases d:ix j with
 |zero=>omega
 |succ k=>
  rw[d]at h2;have:=Zb h2;omega
def Za (h:bk):∃g,∀i c,h.get i=Z c->GA c<=g:=by
 obtain⟨B,F⟩:=PT.bound h;have:∀B,∃g,∀i c,i<B->h.get i=Z c->GA c<=g:=by
  intro B;induction B with
  |zero=>exact⟨0,λi c hi=>by omega⟩
  |succ B D=>
   obtain⟨g,z⟩:=D;cases A:h.get B with
   |none=>exact⟨g,λi c hi d=>by
     by_cases e:i=B
     .subst e;rw[A]at d;cases d
     .exact z i c (by omega) d⟩
   |some b=>exact⟨max g (GA b),λi c hi d=>by
     by_cases e:i=B
     .subst e;rw[A]at d;cases d;omega
     .have:=z i c (by omega) d;omega⟩
 obtain⟨g,z⟩:=this B;refine ⟨g,λi c d=>z i c ?_ d⟩;rcases bu i B with h1|h1
 .exact h1
 .rw[F i h1]at d;cases d
def gD (h:bk):∃H:m7,H.get=erHF h:=by
 obtain⟨B,L⟩:=PT.bound h;obtain⟨g,F⟩:=Za h;refine ⟨PT.ofF (erHF h) (2^B*(2*g+2)),?_⟩;funext n;rw[PT.get_ofF];split
 .rfl
 .rename_i A;cases z:erHF h n with
  |none=>rfl
  |some b=>
   exfalso;obtain⟨c,h1,h2⟩:=iR z;have ho:ow n<B:=by
    rcases bu (ow n) B with d|d
    .exact d
    .rw[L _ d]at h1;cases h1
   have hi:ix n<=g:=by
    have:=F _ c h1;cases D:ix n with
    |zero=>omega
    |succ k=>
     rw[D]at h2;have:=Zb h2;omega
   have he:=lb n;unfold jK at he;have d:2^ow n*(2*ix n+1)<=2^B*(2*g+2):=Nat.mul_le_mul (Nat.pow_le_pow_right (by omega) (by omega)) (by omega);have N:=Q3 (ow n) (ix n);generalize 2^ow n*(2*ix n+1)=p at he d N;generalize 2^B*(2*g+2)=q at A d;omega
variable {u:TV}
def dh {r:Y TV} {l:Y AV} (he:cO h (u::r)=Z l):∃y l',l=y::l'/\cg h u=Z y/\cO h r=Z l':=by
 simp only[cO]at he;split at he
 .rename_i y d;split at he
  .rename_i l' z;simp only[af]at he;exact⟨y,l',he.symm,d,z⟩
  .cases he
 .cases he
def qC {r:Y TV} {l':Y AV} (h1:cg h u=Z y) (h2:cO h r=Z l'):cO h (u::r)=Z (y::l'):=by
 simp only[cO,h1,h2]
def gT :∀{l:Y TV} {l':Y AV},cO h l=Z l'->l! l'=l! l
 |[],l',he=>by simp only[cO,af]at he;subst he;rfl
 |x::r,l',he=>by
  obtain⟨y,d,rfl,_,h2⟩:=dh he;simp[gT h2]
def oM :∀{a b:Y TV} {z b':Y AV},cO h a=Z z->cO h b=Z b'->cO h (a++b)=Z (z++b')
 |[],b,z,b',d,A=>by simp only[cO,af]at d;subst d;exact A
 |x::r,b,z,b',d,A=>by
  obtain⟨y,D,rfl,h1,h2⟩:=dh d;exact qC h1 (oM h2 A)
def DX :∀{a b:Y TV} {l:Y AV},cO h (a++b)=Z l->∃d b',l=d++b'/\cO h a=Z d/\cO h b=Z b'
 |[],b,l,he=>⟨[],l,rfl,rfl,he⟩
 |x::r,b,l,he=>by
  obtain⟨y,D,rfl,h1,h2⟩:=dh he;obtain⟨d,b',rfl,A,z⟩:=DX h2;exact⟨y::d,b',rfl,qC h1 A,z⟩
def Hb :∀{l:Y TV} {l':Y AV} (n:Nat),cO h l=Z l'->cO h (l.take n)=Z (l'.take n)
 |[],l',n,he=>by simp only[cO,af]at he;subst he;simp[cO]
 |x::r,l',n,he=>by
  obtain⟨y,d,rfl,h1,h2⟩:=dh he;cases n with
  |zero=>simp[cO]
  |succ n=>exact qC h1 (Hb n h2)
def Hd :∀{l:Y TV} {l':Y AV} (n:Nat),cO h l=Z l'->cO h (l.drop n)=Z (l'.drop n)
 |[],l',n,he=>by simp only[cO,af]at he;subst he;simp[cO]
 |x::r,l',n,he=>by
  obtain⟨y,d,rfl,h1,h2⟩:=dh he;cases n with
  |zero=>exact he
  |succ n=>simpa using Hd n h2
def oL {l vs:Y TV} {l' vs':Y AV} (off:Nat) (h1:cO h l=Z l') (h2:cO h vs=Z vs'):cO h (splice l off vs)=Z (splice l' off vs'):=by
 unfold splice;rw[gT h2];exact oM (oM (Hb _ h1) h2) (Hd _ h1)
def lK :∀{l:Y TV} {l':Y AV},cO h l=Z l'->∀(j:Nat) x,l[j]? =Z x->∃y,l'[j]? =Z y/\cg h x=Z y
 |[],l',he,j,x,A=>by simp at A
 |x::r,l',he,j,z,d=>by
  obtain⟨y,D,rfl,h1,h2⟩:=dh he;cases j with
  |zero=>simp at d;subst d;exact⟨y,rfl,h1⟩
  |succ j=>simpa using lK h2 j z (by simpa using d)
mutual
def od (h:bk):∀(u:TV),N9 h u=J->∃y,cg h u=Z y
 |.f _ _,_|.zk _ _ _ _ _,_|.ql _ _ _ _,_|.H _ _,_|.qw _ _ _,_=>⟨_,rfl⟩
 |.G id,he|.zp id jj,he=>by
  simp only[N9]at he;cases hr:eu h id with
  |none=>rw[hr]at he;cases he
  |some r=>obtain⟨p,sz,n⟩:=r;exact⟨_,by simp only[cg,hr];rfl⟩
 |.emp,_|.nil,_|.mp _,_=>⟨_,rfl⟩
 |.agg l,he|.qg l,he|.qy g l,he=>by obtain⟨y,hy⟩:=eR h l he;exact⟨_,by simp only[cg,hy];rfl⟩
 |.undef,_|.np,_|.qv,_|.qd _ _,_|.sb _,_=>⟨_,rfl⟩
def eR (h:bk):∀(l:Y TV),lZ h l=J->∃l',cO h l=Z l'
 |[],_=>⟨[],rfl⟩
 |x::r,he=>by
  simp only[lZ,au]at he;obtain⟨y,hy⟩:=od h x he.1;obtain⟨l',hl⟩:=eR h r he.2;exact⟨_,qC hy hl⟩
end
def b9 (h h':bk):Prop:=∀id r,eu h id=Z r->eu h' id=Z r
mutual
def fg {h h':bk} (hk:b9 h h'):∀(u:TV) (y:AV),cg h u=Z y->cg h' u=Z y
 |.f _ _,y,he=>he
 |.zk _ _ _ _ _,y,he=>he
 |.ql _ _ _ _,y,he=>he
 |.H _ _,y,he=>he
 |.qw _ _ _,y,he=>he
 |.G id,y,he|.zp id jj,y,he=>by
  simp only[cg]at he ⊢;split at he
  .rename_i p sz n hr;rw[hk _ _ hr];exact he
  .cases he
 |.emp,y,he=>he
 |.nil,y,he=>he
 |.mp _,y,he=>he
 |.agg l,y,he|.qg l,y,he|.qy g l,y,he=>by
  simp only[cg]at he ⊢;split at he
  .rename_i l' hl;rw[fT hk l l' hl];exact he
  .cases he
 |.undef,y,he=>he
 |.np,y,he=>he
 |.qv,y,he=>he
 |.qd _ _,y,he=>he
 |.sb _,y,he=>he
def fT {h h':bk} (hk:b9 h h'):∀(l:Y TV) (l':Y AV),cO h l=Z l'->cO h' l=Z l'
 |[],l',he=>he
 |x::r,l',he=>by
  obtain⟨y,l2,rfl,h1,h2⟩:=dh he;exact qC (fg hk x y h1) (fT hk r l2 h2)
end
mutual
def mi {h h':bk} (hk:b9 h h'):∀(u:TV),N9 h u=J->N9 h' u=J
 |.f _ _,_|.zk _ _ _ _ _,_|.ql _ _ _ _,_|.H _ _,_|.qw _ _ _,_=>rfl
 |.G id,he|.zp id jj,he=>by
  simp only[N9]at he ⊢;cases hr:eu h id with
  |none=>rw[hr]at he;cases he
  |some r=>rw[hk _ _ hr];rfl
 |.emp,_|.nil,_|.mp _,_=>rfl
 |.agg l,he|.qg l,he|.qy g l,he=>eY hk l he
 |.undef,_|.np,_|.qv,_|.qd _ _,_|.sb _,_=>rfl
def eY {h h':bk} (hk:b9 h h'):∀(l:Y TV),lZ h l=J->lZ h' l=J
 |[],_=>rfl
 |x::r,he=>by
  simp only[lZ,au]at he ⊢;exact⟨mi hk x he.1,eY hk r he.2⟩
end
mutual
def Ha (h:bk):∀(u:TV) (y:AV),cg h u=Z y->N9 h u=J
 |.f _ _,_,_|.zk _ _ _ _ _,_,_|.ql _ _ _ _,_,_|.H _ _,_,_|.qw _ _ _,_,_=>rfl
 |.G id,y,he|.zp id jj,y,he=>by
  simp only[N9,cg]at he ⊢;cases hr:eu h id with
  |none=>rw[hr]at he;cases he
  |some r=>rfl
 |.emp,_,_|.nil,_,_|.mp _,_,_=>rfl
 |.agg l,y,he|.qg l,y,he|.qy g l,y,he=>by
  simp only[cg]at he;split at he
  .rename_i l' hl;exact li h l l' hl
  .cases he
 |.undef,_,_|.np,_,_|.qv,_,_|.qd _ _,_,_|.sb _,_,_=>rfl
def li (h:bk):∀(l:Y TV) (l':Y AV),cO h l=Z l'->lZ h l=J
 |[],_,_=>rfl
 |x::r,l',he=>by
  obtain⟨y,l2,rfl,h1,h2⟩:=dh he;simp only[lZ,au];exact⟨Ha h x y h1,li h r l2 h2⟩
end
mutual
def UF (h h':bk):∀(u:TV),vO u=J->cg h u=cg h' u
 |.f _ _,_|.zk _ _ _ _ _,_|.ql _ _ _ _,_|.H _ _,_|.qw _ _ _,_=>rfl
 |.G id,he=>by cases he
 |.emp,_|.nil,_|.mp _,_=>rfl
 |.agg l,he|.qg l,he=>by simp only[cg];rw[Hc h h' l he]
 |.qy g l,he=>by cases he
 |.undef,_|.np,_|.qv,_|.qd _ _,_=>rfl
 |.sb _,he=>by cases he
def Hc (h h':bk):∀(l:Y TV),rU l=J->cO h l=cO h' l
 |[],_=>rfl
 |x::r,he=>by
  simp only[rU,au]at he;simp only[cO];rw[UF h h' x he.1,Hc h h' r he.2]
end
def Rf (he:cg h u=Z y) (d:u.isC=J):y.isCell=J:=by
 cases u with
 |f T v=>cases T<;>simp only[cg,af]at he<;>subst he<;>first|rfl|(simp [TV.isC,Ty.one]at d)
 |G id=>
  simp only[cg]at he;split at he
  .cases he;unfold dv;split<;>rfl
  .cases he
 |zp id A|agg l|qg l|undef|qv|qd T xs=>cases d
 |qy g l=>
  simp only[cg]at he;split at he
  .cases he;rfl
  .cases he
 |sb s=>simp only[cg,af]at he;subst he;cases s<;>first|rfl|(simp only[Jw,uh];split<;>rfl)
 |_=>simp only[cg,af]at he;subst he;rfl
def tI :∀{l:Y TV} {l':Y AV},cO h l=Z l'->lU l=J->gu l'=J
 |[],l',he,_=>by simp only[cO,af]at he;subst he;rfl
 |x::r,l',he,d=>by
  obtain⟨y,z,rfl,h1,h2⟩:=dh he;simp only[lU,au]at d;simp only[gu,au];exact⟨Rf h1 d.1,tI h2 d.2⟩
def Le (x y:AV):Prop:=∀(φ:PM) (O:Nat->Prop) (w:World) (v:Value),cu φ O w x v->cu φ O w y v
def Le.refl (x:AV):Le x x:=λ_ _ _ _ h=>h
def kE (H H':HF) (x y:AV):Prop:=∀(φ:PM) (E:Nat->Prop) (w:World) (v:Value),sq φ E H w->cu φ (tot E φ H) w x v->cu φ (tot E φ H') w y v
def rq (H H':HF):Prop:=∀i b,H' i=Z b->∃b0,H i=Z b0
def rq.refl (H:HF):rq H H:=λ_ b h=>⟨b,h⟩
def rq.own {H':HF} (d:rq S H') (h:own V H' i):own V S i:=by
 obtain⟨k,b,h1,h2⟩:=h;obtain⟨b0,z⟩:=d k b h1;exact⟨k,b0,z,h2⟩
def rq.tot {H':HF} (d:rq S H') (h:tot O V H' i):tot O V S i:=h.imp id d.own
def cu.dom {H':HF} (d:rq S H') {w:World} (h:cu V (tot O V S) w y v):cu V (tot O V H') w y v:=
 h.ext (λ_ _ h=>h) (Gf.refl _ w) λ_ _ z=>d.tot z
def m6.dom {H':HF} (d:rq S H') {w:World} {x:FV} (h:m6 (tot O V S) w x v):m6 (tot O V H') w x v:=
 h.ext (Gf.refl _ w) λ_ _ z=>d.tot z
def Le.toH {H':HF} (d:rq S H') {x:AV} (h:Le x y):kE S H' x y:=λφ E w v _ z=>(h _ _ _ _ z).dom d
def kE.refl {H':HF} (d:rq S H') (x:AV):kE S H' x x:=(Le.refl x).toH d
def gO (H H':HF):Y AV->Y AV->Prop
 |[],[]=>True
 |x::xs,y::d=>kE H H' x y/\gO H H' xs d
 |_,_=>False
def gO.refl {H':HF} (d:rq S H'):∀l,gO S H' l l
 |[]=>trivial
 |x::r=>⟨kE.refl d x,gO.refl d r⟩
def gO.length {H':HF}:∀{l l':Y AV},gO S H' l l'->l! l'=l! l
 |[],[],_=>rfl
 |[],_::_,h|_::_,[],h=>h.elim
 |_::_,_::_,h=>by simp[gO.length h.2]
def gO.get {H':HF}:∀{l l':Y AV},gO S H' l l'->∀(j:Nat) y,l'[j]? =Z y->∃x,l[j]? =Z x/\kE S H' x y
 |[],[],_,j,y,d=>by simp at d
 |[],_::_,h,_,_,_|_::_,[],h,_,_,_=>h.elim
 |x::xs,z::ys,h,j,y,d=>by
  cases j with
  |zero=>simp at d;subst d;exact⟨x,rfl,h.1⟩
  |succ j=>simpa using gO.get h.2 j y (by simpa using d)
def gO.append {H':HF}:∀{a d b b':Y AV},gO S H' a d->gO S H' b b'->gO S H' (a++b) (d++b')
 |[],[],_,_,_,h=>h
 |[],_::_,_,_,h,_|_::_,[],_,_,h,_=>h.elim
 |_::_,_::_,_,_,h,h'=>⟨h.1,gO.append h.2 h'⟩
def gO.take {H':HF}:∀{a d:Y AV} (n:Nat),gO S H' a d->gO S H' (a.take n) (d.take n)
 |[],[],n,_=>by simp[gO]
 |[],_::_,_,h|_::_,[],_,h=>h.elim
 |_::_,_::_,0,_=>trivial
 |_::_,_::_,n+1,h=>⟨h.1,gO.take n h.2⟩
def gO.drop {H':HF}:∀{a d:Y AV} (n:Nat),gO S H' a d->gO S H' (a.drop n) (d.drop n)
 |[],[],n,_=>by simp[gO]
 |[],_::_,_,h|_::_,[],_,h=>h.elim
 |_::_,_::_,0,h=>h
 |_::_,_::_,n+1,h=>gO.drop n h.2
def gO.splice {H':HF} {a d b b':Y AV} (off:Nat) (h1:gO S H' a d) (h2:gO S H' b b'):gO S H' (splice a off b) (splice d off b'):=by
 unfold AI.splice;rw[h2.length];exact ((h1.take off).append h2).append (h1.drop _)
def fC (H H':HF) (b b':kx):Prop:=∀(φ:PM) (E:Nat->Prop) (w:World) (o:Obj),sq φ E H w->gw φ (tot E φ H) w b o->gw φ (tot E φ H') w b' o
def fC.refl {H':HF} (d:rq S H') (b:kx):fC S H' b b:=λ_ _ _ _ _ h=>h.mono λ_ _ h=>h.dom d
def mF {w:World} {c:BC} {o:Obj} (d:c.isCells=J):gw V O w ⟨s,c⟩ o↔∃arr,o= .cells arr s (0,0)/\u_ V O w c arr:=by
 unfold gw;cases c<;>simp[BC.isCells]at d<;>rfl
def fC.C {H':HF} {c z:BC} (D:c.isCells=J) (d:z.isCells=J) (L:gO S H' c.toMx z.toMx) (hcell:∀x∈z.toMx,x.isCell=J):fC S H' ⟨s,c⟩ ⟨s,z⟩:=by
 intro φ E w o hrep F;rw[mF D]at F;rw[mF d];obtain⟨arr,h1,h2,h3⟩:=F;refine ⟨arr,h1,by rw[BC.len_toMx d,L.length,<-BC.len_toMx D];exact h2,λj x A=>?_⟩;rw[BC.get_toMx d]at A;refine ⟨hcell x (bf A),?_⟩;obtain⟨y,N,hle⟩:=L.get j x A;obtain⟨_,v,h5,h6⟩:=h3 j y (by rw[BC.get_toMx D];exact N);exact⟨v,h5,hle _ _ _ _ hrep h6⟩
def ZJ (ty:M TypeId) (l:Y AV):kx:=match ty with
 |some ty=>⟨ty,.mx l⟩
 |none=>⟨1,.mp (pP 0 l)⟩
def ao4 {es:Y j?} {ents:Array MapEntry}:Qu 1 es ents↔(∀m∈ents.toList,x_ m.key)/\∀k∈es.map (·.1),x_ k:=by
 unfold Qu;rw[aA (by decide)]
def MpV1 {ents:Array MapEntry} {k:Value}:ZX 1 ents j k v↔v=lI k ents.toList:=by
 unfold ZX;rw[aA (by decide)]
def fC.told {H':HF} {l l':Y AV} (L:gO S H' l l'):fC S H' ⟨1,.mp (pP 0 l)⟩ ⟨1,.mp (pP 0 l')⟩:=by
 intro φ E w o hrep F;obtain⟨ents,clock,h1,h2,h3⟩:=F;refine ⟨ents,clock,h1,ao4.2 ⟨(ao4.1 h2).1,λk N=>GL k _ _ N⟩,λj x d=>?_⟩;rw[EZ]at d;cases A:l'[j]? with
 |none=>rw[A]at d;cases d
 |some y=>
  rw[A]at d;cases d;obtain⟨z,D,hle⟩:=L.get j y A;obtain⟨v,h4,h5⟩:=h3 j _ (by rw[EZ,D];rfl);exact⟨v,h4,hle _ _ _ _ hrep h5⟩
def fC.lay {H':HF} (n:Nat):fC S H' ⟨0,.mp []⟩ ⟨1,.mp (pP 0 (aF n (.f (.raw (.slice U 0 0)))))⟩:=by
 intro φ E w o hrep D;obtain⟨ents,clock,h1,h2,L⟩:=D;have h2:ents.toList.map (·.key)=[]:=by unfold Qu at h2;rw[aG rfl]at h2;exact h2
 have A:ents.toList=[]:=List.map_eq_nil_iff.1 h2;refine ⟨ents,clock,h1,ao4.2 ⟨λm hm=>(by rw[A]at hm;cases hm),λk F=>GL k _ _ F⟩,λj x d=>?_⟩;rw[EZ]at d;cases z:(aF n (AV.f (.raw (.slice U 0 0))))[j]? with
 |none=>rw[z]at d;cases d
 |some y=>
  rw[z]at d;cases d;have hm:=bf z;rw[List.mem_replicate]at hm;obtain⟨_,rfl⟩:=hm;exact⟨_,MpV1.2 rfl,by rw[A];exact .f (.raw _)⟩
def fC.eq {H':HF} (d:rq S H') {c D:BC} (A:c.isCells=J) (z:D.isCells=J) (N:c.toMx=D.toMx):fC S H' ⟨s,c⟩ ⟨s,D⟩:=by
 intro φ E w o hrep L;rw[mF A]at L;rw[mF z];obtain⟨arr,h1,h2,h3⟩:=L;refine ⟨arr,h1,by rw[BC.len_toMx z,<-N,<-BC.len_toMx A];exact h2,λj x F=>?_⟩;rw[BC.get_toMx z,<-N,<-BC.get_toMx A]at F;obtain⟨h4,v,h5,h6⟩:=h3 j x F;exact⟨h4,v,h5,h6.dom d⟩
structure JW (H H':HF):Prop where
 dom:rq H H'
 jg:∀i b b',H i=Z b->H' i=Z b'->fC H H' b b'
def JW.refl (H:HF):JW H H:=⟨rq.refl H,λi b b' h h'=>by rw[h]at h';cases h';exact fC.refl (rq.refl H) b⟩
def JW.qn {H':HF} (φ:JW S H') {w:World} (r:sq V O S w):sq V O H' w:=by
 refine ⟨λi j b b' k d F D A=>?_,λi b d=>?_,r.el,λg cells z=>(r.gl g cells z).dom φ.dom⟩
 .obtain⟨b0,q1⟩:=φ.dom i b d;obtain⟨b1,q2⟩:=φ.dom j b' F;exact r.inj i j b0 b1 k q1 q2 D A
 .obtain⟨b0,q1⟩:=φ.dom i b d;obtain⟨k,p1,p2,ob,p3,p4⟩:=r.at_ i b0 q1;exact⟨k,p1,p2,ob,p3,φ.jg i b0 b q1 d V O w ob r p4⟩
def fZ.view {e:EF} {val':AV} {rd d wr' N:ι} {z nw':HF} (ht:fZ P k e S ⟨y,rd,d,z,N⟩) (hsub:∀i∈d,i∈wr'\/i∈rd)
 (F:∀h':HF,(∀i∈rd,h' i=S i)->(∀i∈wr',h' i=S i)->JW (eW h' d z) (eW h' wr' nw')/\kE (eW h' d z) (eW h' wr' nw') y val'):fZ P k e S ⟨val',rd,wr',nw',N⟩:=by
 intro φ E h' w a h1 h2 h3 h4 h5;have D:=ht φ E h' w a h1 (λi hi=>(hsub i hi).elim (h2 i) (h1 i)) h3 h4 h5;obtain⟨V,hle⟩:=F h' h1 h2;refine Sz ?_ D;rintro a' w' ⟨v,φ',rfl,mv,nm',A,rel⟩;exact⟨v,φ',rfl,⟨mv.sub,mv.ext,λo hk L=>mv.qr o hk (V.dom.own L)⟩,nm',V.qn A,hle _ _ _ _ A rel⟩
def Le.nil:Le (.f (.raw (.slice U 0 0))) (.f (.sl [] 0)):=by
 intro φ O w v d;cases d with
 |f d=>cases d;exact .f (.nil U 0 (by unfold maxLen;omega))
def Le.emp:Le .emp (.f (.sl [] 0)):=by
 intro φ O w v d;cases d with
 |emp=>exact .f (.nil _ 0 (by unfold maxLen;omega))
def Le.nilEmp:Le (.f (.raw (.slice U 0 0))) .emp:=by
 intro φ O w v d;cases d with
 |f d=>cases d;exact .emp
def Le.aggF {l:Y FV}:Le (.f (.agg l)) (.agg (l.map .f)):=by
 intro φ O w v z;cases z with
 |f z=>
  cases z with
  |agg _ vs L hcl hrr=>
   refine .agg (by simp[L]) (λx d=>?_) λj x u d F=>?_
   .obtain⟨y,D,rfl⟩:=cq.1 d;exact hcl y D
   .rw[a8]at d;cases A:l[j]? with
    |none=>rw[A]at d;cases d
    |some y=>rw[A]at d;simp at d;subst d;exact .f (hrr j y u A F)
def aeq (l:Y AV):Le (Pz l) (.agg l):=by
 unfold Pz;split
 .rename_i d h;rw[nI h];exact Le.aggF
 .exact Le.refl _
def kE.aggL {H':HF} {l:Y AV} {l':Y FV} (h:gO S H' l (l'.map .f)) (L:∀x∈l',x.isCell=J):kE S H' (.agg l) (.f (.agg l')):=by
 intro φ E w v hrep D;cases D with
 |@agg _ vs F hcl hrr=>
  refine .f (.agg l' vs (by rw[F,<-h.length];simp) L λj y u d A=>?_);obtain⟨x,z,hle⟩:=h.get j (.f y) (by rw[a8,d];rfl);have:=hle φ E w u hrep (hrr j x u z A);cases this with
  |f h=>exact h
def kE.G {H':HF} (d:rq S H') {n:Nat} {cells:Y FV} (h1:S i=Z ⟨s,.fz cells⟩) (h2:H' i=U) (hl:l! cells=n*j):kE S H' (.G i j n) (.f (.sl cells n)):=by
 intro φ E w v r L;cases L with
 |@G _ _ _ c k hφ N hcap hsh=>
  obtain⟨k',q1,q2,_⟩:=r.at_ i _ h1;rw[hφ]at q1;cases q1;obtain⟨arr,p1,p2,p3⟩:=r.cs h1 hφ rfl;have hk:k<w.heap.size:=(cz.1 p1).1;have hlen:l! cells<=arr.size:=by simpa[BC.toMx] using p3
  have hnk:¬tot E φ H' k:=by
   rintro (hE|⟨sz,b,A,D⟩)
   .exact q2 hE
   .obtain⟨b0,g3⟩:=d sz b A;have:=r.inj sz i b0 _ k g3 h1 D hφ;subst this;rw[h2]at A;cases A
  have hget:∀(sz:Nat) x,cells[sz]? =Z x->∃u,arr[sz]? =Z u/\m6 (tot E φ S) w x u:=λsz x z=>by
   have F:sz<l! cells:=(bq.1 z).1;have hja:sz<arr.size:=by omega
   refine ⟨arr[sz],by simp[hja],?_⟩;have:=p2.2.2 sz (.f x) arr[sz] (by simp[BC.toMx,z]) (by
    rw[cP,aG (by simpa[BC.toMx] using F),bL];simp[hja])
   cases this with
   |f h=>exact h
  refine .f (.sl cells n c k 0 (λsz=>(arr[sz]?).getD undef) N hcap hnk hk (λx z=>?_) (λsz F=>?_) (λsz x z=>?_))
  .have:=p2.2.1 (.f x) (by simp only[BC.toMx];exact cq.2 ⟨x,z,rfl⟩);exact this
  .have:sz<arr.size:=by omega
   simp[QD,p1,this]
  .obtain⟨u,A,D⟩:=hget sz x z;rw[A];exact D.dom d
def tV:∀l:Y Xp,Mn l=l.flatMap yf
 |[]=>rfl
 |x::r=>by rw[Mn,tV r];rfl
def Bt:∀l:Y Sx,Mm l=l.flatMap Ae
 |[]=>rfl
 |x::r=>by rw[Mm,Bt r];rfl
def Ml (e:Xp):bT PY (QI e)=yf e:=by
 cases e with
 |mk op n name l=>simp only[PY,QI,bT,yf,Xp.op,Xp.n,Xp.name,Xp.l,tV];rfl
def UQ (x:PY.den):yf (eD x)=bT PY x:=by
 simp only[PY,eD,bT,yf,tV];rfl
def Mk (e:Sx):bT Pn (QH e)=Ae e:=by
 cases e with
 |mk op line name arg index expr body els=>simp only[Pn,QH,bT,Ae,Sx.op,Sx.line,Sx.name,Sx.arg,Sx.index,Sx.expr,Sx.body,Sx.els,tV,Bt];rfl
def UP (x:Pn.den):Ae (pO x)=bT Pn x:=by
 simp only[Pn,pO,bT,Ae,tV,Bt];rfl
def zF (e:Xp):l! (yf e)=4:=by cases e;simp[yf]
def Fo (e:Sx):l! (Ae e)=11:=by cases e;simp[Ae,zF]
def bD:∀(T:Ty) (v:T.den),l! (bT T v)=T.size
 |.int _,_|.bool,_|.str,_|.sl _,_=>rfl
 |.st t,v=>bD t v
 |.pr a b,v=>by simp[bT,Ty.size,bD a,bD b]
 |.un,_=>rfl
 |.ex,v=>zF v
 |.sm,v=>Fo v
def Mo (e:Xp):∀x∈yf e,x.isCell=J:=by
 cases e with
 |mk op n name l=>
  intro x d;simp only[yf,bm,cI,gy]at d;rcases d with rfl|rfl|rfl|rfl<;>rfl
def XN (e:Sx):∀x∈Ae e,x.isCell=J:=by
 cases e with
 |mk op line name arg index expr body els=>
  intro x d;simp only[Ae,bE,bm,cI,gy]at d;rcases d with (d|d)|d
  .rcases d with rfl|rfl|rfl|rfl|rfl<;>rfl
  .exact Mo _ _ d
  .rcases d with rfl|rfl<;>rfl
def pi:∀(T:Ty) (v:T.den),∀x∈bT T v,x.isCell=J
 |.int _,_,x,d|.bool,_,x,d|.str,_,x,d|.sl _,_,x,d=>by simp only[bT,aE]at d;subst d;rfl
 |.st t,v,x,d=>pi t v x d
 |.pr a b,v,x,d=>by
  simp only[bT,bE]at d;exact d.elim (pi a v.1 x) (pi b v.2 x)
 |.un,_,x,d=>by simp[bT]at d
 |.ex,v,x,d=>Mo v x d
 |.sm,v,x,d=>XN v x d
def Fp:∀(T:Ty) (v:T.den),T.one=J->bT T v=[fO T v]/\T.size=1
 |.int _,_,_|.bool,_,_|.str,_,_|.sl _,_,_=>⟨rfl,rfl⟩
 |.st _,_,h|.pr _ _,_,h|.un,_,h|.ex,_,h|.sm,_,h=>by cases h
def r_:∀(T:Ty) (v:T.den),T.one=aa->fO T v= .agg (bT T v)
 |.int _,_,h|.bool,_,h|.str,_,h|.sl _,_,h=>by cases h
 |.st _,_,_|.pr _ _,_,_|.un,_,_|.ex,_,_|.sm,_,_=>rfl
def Cj (T:Ty) (v:T.den):(AV.f (fO T v)).cs=(bT T v).map .f:=by
 cases h:T.one with
 |true=>
  rw[(Fp T v h).1];cases T<;>simp only[Ty.one]at h<;>first|rfl|cases h
 |false=>rw[r_ T v h];rfl
def d9 {f:R->Y FV} (hf:∀x,l! (f x)=i):∀(xs:Y R),l! (xs.flatMap f)=l! xs*i
 |[]=>by simp
 |x::r=>by rw[fR,bG,hf,d9 hf r,bX,iC];omega
def G6 {f:R->Y FV} (hf:∀x,l! (f x)=i):∀(xs:Y R) (j:Nat) (x:R),xs[j]? =Z x->∃r,(xs.flatMap f).drop (j*i)=f x++r
 |[],j,x,h=>by simp at h
 |y::r,j,x,h=>by
  cases j with
  |zero=>simp at h;subst h;exact⟨r.flatMap f,by simp⟩
  |succ j=>
   obtain⟨q,d⟩:=G6 hf r j x (by simpa using h);refine ⟨q,?_⟩;rw[fR,show (j+1)*i=l! (f y)+j*i from by rw[hf,iC];omega,wK];simp[d]
def L7 {f:R->Y FV} (hf:∀x,l! (f x)=i):∀(xs:Y R) (j:Nat) (x z:R),xs[j]? =Z x->∀(off:Nat) (vs:Y FV),off+l! vs<=i->f z=AI.splice (f x) off vs->(xs.set j z).flatMap f=AI.splice (xs.flatMap f) (j*i+off) vs
 |[],j,x,z,h,_,_,_,_=>by simp at h
 |y::r,j,x,z,h,off,vs,hle,d=>by
  cases j with
  |zero=>
   simp at h;subst h;simp only[NH,fR,d,Nat.zero_mul,bO];unfold AI.splice;have D:=hf y;rw[List.take_append,wK];have e1:off-l! (f y)=0:=by omega
   have e2:off+l! vs-l! (f y)=0:=by omega
   rw[e1,e2];simp[gX]
  |succ j=>
   have A:=L7 hf r j x z (by simpa using h) off vs hle d;simp only[List.set_cons_succ,fR,A];unfold AI.splice;have D:=hf y;have e0:(j+1)*i=l! (f y)+j*i:=by rw[hf,iC];omega
   rw[e0,List.take_append,wK];have e1:l! (f y)+j*i+off-l! (f y)=j*i+off:=by omega
   have e2:l! (f y)+j*i+off+l! vs-l! (f y)=j*i+off+l! vs:=by omega
   rw[e1,e2,gi (by omega:l! (f y)<=l! (f y)+j*i+off),tb (by omega:l! (f y)<=l! (f y)+j*i+off+l! vs)];simp[gX]
def mA (T:Ty) (xs:Y T.den):∀x∈xs.flatMap (bT T),x.isCell=J:=λx d=>by
 obtain⟨y,_,h⟩:=sv.1 d;exact pi T y x h
def gU {S:Ty} {v:S.den} {x:T.den} (h:tZ T v=Z x):∃e:S=T,x=e▸v:=by
 unfold tZ at h;split at h
 .rename_i e;simp only[af]at h;exact⟨e,h.symm⟩
 .cases h
def mY (h:bk):∀(n:Nat) (T:Ty) (v:T.den) (l:Y TV),cellsOf n T v=Z l->cO h l=Z ((bT T v).map .f)/\lU l=J
 |0,_,_,_,he=>by simp[cellsOf]at he
 |n+1,.st t,v,l,he=>mY h n t v l he
 |n+1,.pr a b,v,l,he=>by
  simp only[cellsOf]at he;split at he
  .rename_i x y A d;cases he;obtain⟨h1,h2⟩:=mY h n a v.1 x A;obtain⟨D,L⟩:=mY h n b v.2 y d;refine ⟨by rw[bT,da];exact oM h1 D,?_⟩;clear h1 D A d;induction x with
   |nil=>exact L
   |cons z r F=>simp only[lU,au,iE]at h2 ⊢;exact⟨h2.1,F h2.2⟩
  .cases he
 |n+1,.un,v,l,he=>by simp only[cellsOf,af]at he;subst he;exact⟨rfl,rfl⟩
 |n+1,.ex,v,l,he=>by rw[bT,<-Ml];exact mY h n PY (QI v) l he
 |n+1,.sm,v,l,he=>by rw[bT,<-Mk];exact mY h n Pn (QH v) l he
 |n+1,.int k,v,l,he|n+1,.bool,v,l,he|n+1,.str,v,l,he|n+1,.sl t,v,l,he=>by simp only[cellsOf,af]at he;subst he;exact⟨rfl,rfl⟩
def QX (h:y.isCell=J):y.cs=[y]:=by
 cases y with
 |f x=>cases x<;>first|rfl|cases h
 |agg l=>cases h
 |_=>rfl
def IK {l:Y TV} (d:u.cs=Z l) (A:cg h u=Z y):cO h l=Z y.cs/\lU l=J:=by
 have one:(if u.isC then Z [u] else U)=Z l->cO h l=Z y.cs/\lU l=J:=λd=>by
  split at d
  .rename_i D;cases d;exact⟨by rw[QX (Rf A D)];exact qC A rfl,by simp[lU,D]⟩
  .cases d
 cases u with
 |agg q=>
  simp only[TV.cs]at d;split at d
  .rename_i D;cases d;simp only[cg]at A;split at A
   .rename_i l' F;cases A;exact⟨F,D⟩
   .cases A
  .cases d
 |f T x=>
  simp only[TV.cs]at d;simp only[cg,af]at A;subst A;rw[Cj];exact mY h 40 T x l d
 |_=>exact one d
def Ea (h:bk) (H H':HF) (m:Nat):Prop:=∀id,aO m id=J->H (nm id)=erHF h (nm id)/\H' (nm id)=U
def Ea.zero {H':HF}:Ea h S H' 0:=λid hid=>by simp at hid
def Ea.or {H':HF} (g:Ea h S H' (i|||j)):Ea h S H' i/\Ea h S H' j:=
 ⟨λid hid=>g id (by rw[bA,hid];rfl),λid hid=>g id (by rw[bA,hid];simp)⟩
def bC :aO (fV i) j=J↔i=j:=by
 unfold fV;rw[Nat.one_shiftLeft,Nat.testBit_two_pow];simp
section pack
variable {h:bk} {H H':HF}
def zN (d:rq H H') {x:T.den} (A:ij h T u=Z (x,i)) (D:cg h u=Z y) (g:Ea h H H' i):kE H H' y (.f (fO T x))/\l! y.cs=T.size/\(T.one=J->y.isCell=J)/\gO H H' y.cs ((bT T x).map .f):=by
 cases u with
 |f S u=>
  simp only[ij]at A;split at A
  .rename_i z F;simp only[af,aI]at A;obtain⟨rfl,_⟩:=A;obtain⟨e,rfl⟩:=gU F;subst e;simp only[cg,af]at D;subst D;refine ⟨kE.refl d _,by rw[Cj,bS,bD],λho=>?_,by rw[Cj];exact gO.refl d _⟩;cases S<;>simp only[Ty.one]at ho<;>first|rfl|cases ho
  .cases A
 |emp=>
  simp only[ij]at A;split at A
  .simp only[af,aI]at A;obtain⟨rfl,_⟩:=A;simp only[cg,af]at D;subst D;exact⟨Le.emp.toH d,rfl,λ_=>rfl,⟨Le.emp.toH d,trivial⟩⟩
  .cases A
 |nil=>
  simp only[ij]at A;split at A
  .simp only[af,aI]at A;obtain⟨rfl,_⟩:=A;simp only[cg,af]at D;subst D;exact⟨Le.nil.toH d,rfl,λ_=>rfl,⟨Le.nil.toH d,trivial⟩⟩
  .cases A
 |G id=>
  simp only[ij]at A;split at A
  .rename_i ty p S xs hb;split at A
   .rename_i z F;cases A;obtain⟨e,rfl⟩:=gU F;subst e;obtain⟨N,g2⟩:=g id (bC.2 rfl);rw[bQ,hb]at N;simp only[cg,eu,hb,af]at D;subst D;have key:kE H H' (dv p id S.size (l! xs)) (.f (fO (.sl S) xs)):=by
     unfold dv;split
     .rename_i hp;simp only[au,cF]at hp;have:xs=[]:=ef.1 hp.2;subst this;exact Le.emp.toH d
     .rename_i hp;simp only[aC,jY,aA hp]at N;exact kE.G d N g2 (d9 (bD S) xs)
    have L:(dv p id S.size (l! xs)).isCell=J:=by unfold dv;split<;>rfl
    refine ⟨key,by rw[QX L];rfl,λ_=>L,?_⟩;rw[QX L];exact⟨key,trivial⟩
   .cases A
  .cases A
 |_=>simp[ij]at A
def rC (d:rq H H'):∀(n:Nat) (T:Ty) (l:Y TV) (x:T.den) (m:Nat) (r:Y TV) (l':Y AV),eX h n T l=Z (x,m,r)->cO h l=Z l'->Ea h H H' m->∃D A,l'=D++A/\cO h r=Z A/\gO H H' D ((bT T x).map .f)
 |0,_,_,_,_,_,_,hp,_,_=>by simp[eX]at hp
 |n+1,.st t,l,x,m,r,l',hp,z,g=>rC d n t l x m r l' hp z g
 |n+1,.pr a b,l,x,m,r,l',hp,z,g=>by
  simp only[eX]at hp;split at hp
  .rename_i x1 m1 r1 h1;split at hp
   .rename_i x2 m2 r2 h2;simp only[af,aI]at hp;obtain⟨rfl,rfl,rfl⟩:=hp;obtain⟨ga,N⟩:=g.or;obtain⟨D,A,rfl,q1,q2⟩:=rC d n a l x1 m1 r1 l' h1 z ga;obtain⟨L,F,rfl,q3,q4⟩:=rC d n b r1 x2 m2 r2 A h2 q1 N;refine ⟨D++L,F,by simp,q3,?_⟩;rw[bT,da];exact q2.append q4
   .cases hp
  .cases hp
 |n+1,.un,l,x,m,r,l',hp,z,g=>by
  simp only[eX,af,aI]at hp;obtain⟨_,_,rfl⟩:=hp;exact⟨[],l',rfl,z,trivial⟩
 |n+1,.ex,l,x,m,r,l',hp,z,g=>by
  simp only[eX]at hp;split at hp
  .rename_i x1 m1 r1 h1;simp only[af,aI]at hp;obtain⟨rfl,rfl,rfl⟩:=hp;rw[bT,UQ];exact rC d n PY l x1 m1 r1 l' h1 z g
  .cases hp
 |n+1,.sm,l,x,m,r,l',hp,z,g=>by
  simp only[eX]at hp;split at hp
  .rename_i x1 m1 r1 h1;simp only[af,aI]at hp;obtain⟨rfl,rfl,rfl⟩:=hp;rw[bT,UP];exact rC d n Pn l x1 m1 r1 l' h1 z g
  .cases hp
 |n+1,.int k,l,x,m,r,l',hp,z,g|n+1,.bool,l,x,m,r,l',hp,z,g|n+1,.str,l,x,m,r,l',hp,z,g|n+1,.sl t,l,x,m,r,l',hp,z,g=>by
  simp only[eX]at hp;split at hp
  .rename_i c q;split at hp
   .rename_i x1 m1 h1;simp only[af,aI]at hp;obtain⟨rfl,rfl,rfl⟩:=hp;obtain⟨y,A,rfl,q1,q2⟩:=dh z;exact⟨[y],A,rfl,q2,⟨(zN d h1 q1 g).1,trivial⟩⟩
   .cases hp
  .cases hp
def WY (d:rq H H') {l:Y TV} {x:T.den} {l':Y AV} (hp:eX h i T l=Z (x,j,[])) (z:cO h l=Z l') (g:Ea h H H' j):gO H H' l' ((bT T x).map .f):=by
 obtain⟨D,A,rfl,q1,q2⟩:=rC d i T l x j [] l' hp z g;simp only[cO,af]at q1;subst q1;simpa using q2
def Se (d:rq H H') {x:T.den} (A:Dk h T u=Z (x,i)) (D:cg h u=Z y) (g:Ea h H H' i):kE H H' y (.f (fO T x))/\gO H H' y.cs ((bT T x).map .f):=by
 have other:ij h T u=Z (x,i)->kE H H' y (.f (fO T x))/\gO H H' y.cs ((bT T x).map .f):=λA=>by
  obtain⟨h1,_,_,h2⟩:=zN d A D g;exact⟨h1,h2⟩
 cases u with
 |agg l=>
  simp only[Dk]at A;split at A
  .cases A
  .rename_i F;split at A
   .rename_i x1 m1 h1;simp only[af,aI]at A;obtain⟨rfl,rfl⟩:=A;simp only[cg]at D;split at D
    .rename_i l' L;simp only[af]at D;subst D;have:=WY d h1 L g;refine ⟨?_,this⟩;rw[r_ T x1 (by simpa using F)];exact kE.aggL this (pi T x1)
    .cases D
   .cases A
 |_=>exact other A
def EH (d:rq H H') :∀(n:Nat) (l:Y TV) (xs:Y T.den) (m:Nat) (l':Y AV),AW h T n l=Z (xs,m)->cO h l=Z l'->Ea h H H' m->gO H H' l' ((xs.flatMap (bT T)).map .f)/\l! xs=n
 |0,[],xs,m,l',hp,z,g=>by
  simp only[AW,af,aI]at hp;obtain⟨rfl,_⟩:=hp;simp only[cO,af]at z;subst z;exact⟨trivial,rfl⟩
 |0,_::_,xs,m,l',hp,z,g=>by simp[AW]at hp
 |n+1,l,xs,m,l',hp,z,g=>by
  simp only[AW]at hp;split at hp
  .rename_i x1 m1 r1 h1;split at hp
   .rename_i x2 m2 h2;cases hp;obtain⟨F,D⟩:=g.or;obtain⟨L,A,rfl,q1,q2⟩:=rC d 40 T l x1 m1 r1 l' h1 z F;obtain⟨q3,q4⟩:=EH d n r1 x2 m2 A h2 q1 D;refine ⟨?_,by simp[q4]⟩;rw[fR,da];exact q2.append q3
   .cases hp
  .cases hp
def tU (h:bk):∀(n:Nat) (T:Ty) (v:T.den) (off sz:Nat) (A:Bool) (u:TV),nT n T v off sz A=Z u->off+sz<=T.size/\∃y,cg h u=Z (.f y)/\(A=aa->sz=1/\(bT T v)[off]? =Z y)/\(A=J->y= .agg (((bT T v).drop off).take sz))
 |0,_,_,_,_,_,_,d=>by simp[nT]at d
 |n+1,.st t,v,off,sz,A,u,d=>by
  simp only[nT]at d;split at d
  .rename_i z;simp only[au]at z;obtain⟨⟨h1,h2⟩,rfl⟩:=z;have h1:=av h1;have h2:=av h2;subst h1 h2;cases d;refine ⟨by simp[Ty.size],_,rfl,nofun,λ_=>?_⟩;simp only[fO,bT,List.drop_zero];rw[<- bD t v,bW]
  .exact tU h n t v off sz A u d
 |n+1,.pr a b,v,off,sz,A,u,d=>by
  simp only[nT]at d;have hla:=bD a v.1;have hlb:=bD b v.2;split at d
  .rename_i hlt;have hlt:off<a.size:=aZ hlt;obtain⟨h1,y,h2,F,D⟩:=tU h n a v.1 off sz A u d;refine ⟨by simp only[Ty.size];omega,y,h2,λe=>?_,λe=>?_⟩
   .obtain⟨N,L⟩:=F e;exact⟨N,by rw[bT,bz (by omega)];exact L⟩
   .rw[D e,bT];have:((bT a v.1++bT b v.2).drop off).take sz=((bT a v.1).drop off).take sz:=by
     rw[sJ (by omega),iY (by simp;omega)]
    rw[this]
  .rename_i hlt;have hlt:¬off<a.size:=λh=>hlt (ba h)
   obtain⟨h1,y,h2,F,D⟩:=tU h n b v.2 (off-a.size) sz A u d;refine ⟨by simp only[Ty.size];omega,y,h2,λe=>?_,λe=>?_⟩
   .obtain⟨N,L⟩:=F e;exact⟨N,by rw[bT,bU (by omega),hla];exact L⟩
   .rw[D e,bT];have:(bT a v.1++bT b v.2).drop off=(bT b v.2).drop (off-a.size):=by
     rw[wK,hla,tb (by omega)];simp
    rw[this]
 |n+1,.un,v,off,sz,A,u,d=>by simp[nT]at d
 |n+1,.ex,v,off,sz,A,u,d=>by
  simp only[nT]at d;split at d
  .rename_i z;simp only[au]at z;obtain⟨⟨h1,h2⟩,rfl⟩:=z;have h1:=av h1;have h2:=av h2;subst h1 h2;cases d;refine ⟨by simp[Ty.size],_,rfl,nofun,λ_=>?_⟩;simp only[fO,bT,List.drop_zero];rw[<- zF v,bW]
  .obtain⟨h1,y,h2,F,D⟩:=tU h n PY (QI v) off sz A u d;rw[Ml]at F D;exact⟨h1,y,h2,F,D⟩
 |n+1,.sm,v,off,sz,A,u,d=>by
  simp only[nT]at d;split at d
  .rename_i z;simp only[au]at z;obtain⟨⟨h1,h2⟩,rfl⟩:=z;have h1:=av h1;have h2:=av h2;subst h1 h2;cases d;refine ⟨by simp[Ty.size],_,rfl,nofun,λ_=>?_⟩;simp only[fO,bT,List.drop_zero];rw[<- Fo v,bW]
  .obtain⟨h1,y,h2,F,D⟩:=tU h n Pn (QH v) off sz A u d;rw[Mk]at F D;exact⟨h1,y,h2,F,D⟩
 |n+1,.int k,v,off,sz,A,u,d|n+1,.bool,v,off,sz,A,u,d|n+1,.str,v,off,sz,A,u,d|n+1,.sl t,v,off,sz,A,u,d=>by
  simp only[nT]at d;split at d
  .rename_i z;simp only[au,cU]at z;obtain⟨⟨h1,h2⟩,rfl⟩:=z;have h1:=av h1;have h2:=av h2;subst h1 h2;cases d;exact⟨by simp[Ty.size],_,rfl,λ_=>⟨rfl,rfl⟩,nofun⟩
  .cases d
def WH (l vs:Y R) (h:l! vs=l! l):AI.splice l 0 vs=vs:=by
 unfold AI.splice;rw[bO,h,List.drop_length];simp
def S0 (a b vs:Y R) (off:Nat) (h:off+l! vs<=l! a):AI.splice (a++b) off vs=AI.splice a off vs++b:=by
 unfold AI.splice;rw[iY (by omega),sJ (by omega)];simp[gX]
def QM (a b vs:Y R) (off:Nat) (h:l! a<=off):AI.splice (a++b) off vs=a++AI.splice b (off-l! a) vs:=by
 unfold AI.splice;rw[List.take_append,wK,gi h,tb (by omega),show off+l! vs-l! a=off-l! a+l! vs from by omega];simp[gX]
def Qt (H H':HF) (y:AV) (T:Ty) (v z:T.den) (off sz:Nat):Prop:=∃d:Y FV,gO H H' y.cs (d.map .f)/\l! d=sz/\off+sz<=T.size/\bT T z=AI.splice (bT T v) off d/\∀x∈d,x.isCell=J
def Qt.whole {v z:T.den} (h0:i=0) (d:j=T.size) (A:gO H H' y.cs ((bT T z).map .f)):Qt H H' y T v z i j:=by
 subst h0 d;exact⟨bT T z,A,bD T z,by omega,(WH _ _ (by rw[bD,bD])).symm,pi T z⟩
def tK (d:rq H H') (F:cg h u=Z y):∀(n:Nat) (T:Ty) (v:T.den) (off sz:Nat) (z:T.den) (m:Nat),gP h u n T v off sz=Z (z,m)->Ea h H H' m->Qt H H' y T v z off sz
 |0,_,_,_,_,_,_,A,_=>by simp[gP]at A
 |n+1,.st t,v,off,sz,z,m,A,g=>by
  simp only[gP]at A;split at A
  .rename_i q L;split at L
   .rename_i D;simp only[au]at D;simp only[af]at A;subst A;exact .whole (av D.1) (av D.2) (Se d L F g).2
   .cases L
  .exact tK d F n t v off sz z m A g
 |n+1,.pr a b,v,off,sz,z,m,A,g=>by
  simp only[gP]at A;have hla:=bD a v.1;split at A
  .rename_i hlt;split at A
   .rename_i N m1 h1;simp only[af,aI]at A;obtain⟨rfl,rfl⟩:=A;obtain⟨fs,q1,q2,q3,q4,q5⟩:=tK d F n a v.1 off sz N m1 h1 g;refine ⟨fs,q1,q2,by simp only[Ty.size];omega,?_,q5⟩;rw[bT,bT,S0 _ _ _ _ (by omega),q4]
   .cases A
  .rename_i hlt;have hlt:¬off<a.size:=λh=>hlt (ba h)
   split at A
   .rename_i N m1 h1;simp only[af,aI]at A;obtain⟨rfl,rfl⟩:=A;obtain⟨fs,q1,q2,q3,q4,q5⟩:=tK d F n b v.2 (off-a.size) sz N m1 h1 g;refine ⟨fs,q1,q2,by simp only[Ty.size];omega,?_,q5⟩;rw[bT,bT,QM _ _ _ _ (by omega),q4,hla]
   .cases A
 |n+1,.un,v,off,sz,z,m,A,g=>by simp[gP]at A
 |n+1,.ex,v,off,sz,z,m,A,g=>by
  simp only[gP]at A;split at A
  .rename_i q L;split at L
   .rename_i D;simp only[au]at D;simp only[af]at A;subst A;exact .whole (av D.1) (av D.2) (Se d L F g).2
   .cases L
  .split at A
   .rename_i N m1 h1;simp only[af,aI]at A;obtain⟨rfl,rfl⟩:=A;obtain⟨fs,q1,q2,q3,q4,q5⟩:=tK d F n PY (QI v) off sz N m1 h1 g;exact⟨fs,q1,q2,q3,by rw[bT,bT,UQ,q4,Ml],q5⟩
   .cases A
 |n+1,.sm,v,off,sz,z,m,A,g=>by
  simp only[gP]at A;split at A
  .rename_i q L;split at L
   .rename_i D;simp only[au]at D;simp only[af]at A;subst A;exact .whole (av D.1) (av D.2) (Se d L F g).2
   .cases L
  .split at A
   .rename_i N m1 h1;simp only[af,aI]at A;obtain⟨rfl,rfl⟩:=A;obtain⟨fs,q1,q2,q3,q4,q5⟩:=tK d F n Pn (QH v) off sz N m1 h1 g;exact⟨fs,q1,q2,q3,by rw[bT,bT,UP,q4,Mk],q5⟩
   .cases A
 |n+1,.int k,v,off,sz,z,m,A,g|n+1,.bool,v,off,sz,z,m,A,g|n+1,.str,v,off,sz,z,m,A,g|n+1,.sl t,v,off,sz,z,m,A,g=>by
  simp only[gP]at A;split at A
  .rename_i D;simp only[au]at D;exact .whole (av D.1) (av D.2) (zN d A F g).2.2.2
  .cases A
def Nf:∀{a b:ξ},VJ a b=J->a=b
 |[],[],_=>rfl
 |[],_::_,h|_::_,[],h=>by cases h
 |x::xs,y::ys,h=>by
  simp only[VJ,au]at h;rw[ake h.1,Nf h.2]
def J4 (d:rq H H'):∀T:Ty,gO H H' ((uy T).map raw) ((bT T T.zero).map .f)
 |.int k|.bool|.str=>⟨kE.refl d _,trivial⟩
 |.sl t=>⟨Le.nil.toH d,trivial⟩
 |.st t=>J4 d t
 |.pr a b=>by
  simp only[uy,Ty.zero,bT,da];exact (J4 d a).append (J4 d b)
 |.un=>trivial
 |.ex=>⟨kE.refl d _,kE.refl d _,kE.refl d _,Le.nil.toH d,trivial⟩
 |.sm=>⟨kE.refl d _,kE.refl d _,kE.refl d _,kE.refl d _,Le.nil.toH d,kE.refl d _,kE.refl d _,kE.refl d _,Le.nil.toH d,Le.nil.toH d,Le.nil.toH d,trivial⟩
def J9 (d:rq H H') (T:Ty):∀n,gO H H' ((repl (uy T) n).map .f) (((aF n T.zero).flatMap (bT T)).map .f)
 |0=>trivial
 |n+1=>by
  rw[repl,iU,fR,da,da];have h1:=J4 (H:=H) (H':=H') d T;have:((uy T).map .raw).map AV.f=(uy T).map raw:=by rw[kZ];rfl
  rw[this];exact h1.append (J9 d T n)
end pack
structure gV (h:bk) (nx:Nat):Prop where
 C:∀id ty l,h.get id=Z (.C ty l)->lZ h l=J
 low:∀id b,h.get id=Z b->id<nx
def sD (e:h_) (h:bk):Prop:=∀t v,e.get t=Z v->N9 h v=J
structure eL (P:Program) (o:Oper) (still:Bool) (e:h_) (h:bk) (nx:Nat) (v:TV) (rd wr:Nat) (h':bk) (nx':Nat):Prop where
 ex:∃f:Dq,fZ P o (fB e h) (erHF h) f/\(∀y,cg h' v=Z y->f.val=y)/\eW (erHF h) f.wr f.nw=erHF h'/\(∀n∈f.rd,aO rd (ow n)=J)/\(∀n∈f.wr,aO wr (ow n)=J)/\(∀n∈f.N,nx<=ow n/\ow n<nx')
 F:b9 h h'
 inv:gV h' nx'
 jf:nx<=nx'
 st:still=J->rd=0/\wr=0
def iW (P:Program) (o:Oper) (still:Bool) (e:h_) (h:bk) (nx:Nat) (K:KO R) (r:R):Prop:=
 ∃v rd d h' nx',K v rd d h' nx'=Z r/\eL P o still e h nx v rd d h' nx'
def cL {k:b=J->M R} {r:R} (h:chk b k=Z r):∃d:b=J,k d=Z r:=by
 cases b with
 |true=>exact⟨rfl,h⟩
 |false=>cases h
def lT {t f:M R} {r:R} (h:aL b t f=Z r):(b=J/\t=Z r)\/(b=aa/\f=Z r):=by
 cases b with
 |true=>exact .inl ⟨rfl,h⟩
 |false=>exact .inr ⟨rfl,h⟩
def dX {α:Type} {o:M α} {k:α->M R} {r:R} (h:ay o k=Z r):∃x,o=Z x/\k x=Z r:=by
 cases o with
 |some x=>exact⟨x,rfl,h⟩
 |none=>cases h
variable {a:Int}
def mU (h:fm a i=J):0<=a/\a<i/\a.toNat<i:=by
 simp only[fm,dj,fM,au,bB]at h;omega
def fZ.envLe {e e2:EF} {f:Dq} (ht:fZ P k e S f) (hle:∀t y,.tmp t∈k.op.operands->e t=Z y->∃z,e2 t=Z z/\Le z y):fZ P k e2 S f:=by
 intro φ E h' w a h1 h2 L F D;refine ht φ E h' w a h1 h2 (λt d y A=>?_) F D;obtain⟨z,g1,N⟩:=hle t y d A;exact N _ _ _ _ (L t d z g1)
def MX (h:bk) (d:cst v=Z u):cg h u=Z (raw v)/\v.oneCell'=J/\u.isC=J:=by
 unfold cst at d;split at d<;>cases d<;>exact⟨rfl,rfl,rfl⟩
def wZ (h:bk):∀{z:ξ} {l:Y TV},MW z=Z l->cO h l=Z (z.map raw)/\(∀x∈z,x.oneCell'=J)/\lU l=J
 |[],l,d=>by simp only[MW,af]at d;subst d;exact⟨rfl,by simp,rfl⟩
 |v::r,l,d=>by
  simp only[MW]at d;split at d
  .rename_i x l' D F;cases d;obtain⟨h1,h2,h3⟩:=MX h D;obtain⟨h4,N,L⟩:=wZ h F;refine ⟨qC h1 h4,λy A=>?_,by simp[lU,h3,L]⟩;rcases bm.1 A with rfl|A
   .exact h2
   .exact N y A
  .cases d
variable {d:Operand}
def bo {e:h_} (hi:sD e h) (x:dD e d=Z u):∃y,mf (CL e h) d=Z y/\cg h u=Z y:=by
 cases d with
 |tmp t=>
  simp only[dD]at x;obtain⟨y,A⟩:=od h u (hi t u x);refine ⟨y,?_,A⟩;simp only[mf];rw[Ch];simp only[fB,x,aC,A]
 |const c=>
  simp only[dD]at x;unfold ane at x;split at x
  .rename_i vs;split at x
   .rename_i h1;split at x
    .rename_i l F;cases x;refine ⟨.agg (vs.toList.map raw),?_,by simp only[cg,(wZ h F).1]⟩;simp only[mf,Hl,h1,bw];rfl
    .cases x
   .cases x
  .rename_i D;refine ⟨raw c,?_,(MX h x).1⟩;simp only[mf];unfold Hl;split
   .rename_i vs;exact cN rfl (D vs)
   .rfl
 |func g=>
  simp only[dD,af]at x;subst x;exact⟨_,rfl,rfl⟩
 |global g=>
  simp only[dD]at x;cases z:G g with
  |none=>rw[z]at x;cases x
  |some cells=>
   rw[z]at x;cases x;have hcells:cells=EV:=by
    unfold G at z;split at z
    .cases z;rfl
    .cases z
   subst hcells;exact⟨_,by simp only[mf,z];rfl,rfl⟩
def EK {e:h_} (hi:sD e h):∀{xs:Y Operand} {l:Y TV},K5 e xs=Z l->∃l',evs (CL e h) xs=Z l'/\cO h l=Z l'
 |[],l,d=>by simp only[K5,af]at d;subst d;exact⟨[],rfl,rfl⟩
 |x::xs,l,d=>by
  simp only[K5]at d;split at d
  .rename_i y A;split at d
   .rename_i L hys;cases d;obtain⟨z,h1,h2⟩:=bo hi A;obtain⟨l',F,D⟩:=EK hi hys;exact⟨z::l',by simp only[evs,h1,F],qC h2 D⟩
   .cases d
  .cases d
section ops
variable {R:Type} {P:Program} {o:Oper} {e:h_} {h:bk} {nx:Nat} {K:KO R} {r:R}
def eL.pure {s:O1} {st:Bool} (hinv:gV h nx) (a:cX P o.op=Z s) {H:m7} (N:H.get=erHF h) {k:Nat} {y0:AV} {rdl:ι} (L:dB s (CL e h) H k=Z ⟨y0,rdl,[],[],[]⟩) (A:∀y,cg h u=Z y->Le y0 y) (hrd:∀n∈rdl,aO i (ow n)=J) (hst:st=J->i=0):eL P o st e h nx u i 0 h nx:=by
 have ht:=K6 a L;rw[Ch,N]at ht;refine ⟨?_,λ_ _ h=>h,hinv,cA _,λD=>⟨hst D,rfl⟩⟩;have key:∀y,Le y0 y->fZ P o (fB e h) (erHF h) ⟨y,rdl,[],j6 [],[]⟩:=λy hle=>
  fZ.view ht (λrd hi=>by cases hi) λh' _ _=>⟨JW.refl _,hle.toH (rq.refl _)⟩
 cases z:cg h u with
 |none=>exact⟨_,ht,λy d=>by simp at d,by simp[Co.eff,vn],hrd,by simp[Co.eff],by simp[Co.eff]⟩
 |some y=>exact⟨_,key y (A y z),λy' d=>by simpa using d,by simp[vn],hrd,by simp,by simp⟩
def iW.q {s:O1} {st:Bool} (hinv:gV h nx) (D:cX P o.op=Z s) {k:Nat} {y0:AV} (F:∀H:m7,H.get=erHF h->dB s (CL e h) H k=rv y0) (z:∀y,cg h u=Z y->Le y0 y) (A:K u 0 0 h nx=Z r):iW P o st e h nx K r:=by
 obtain⟨H,d⟩:=gD h;exact⟨u,0,0,h,nx,A,eL.pure hinv D d (F H d) z (by simp) λ_=>rfl⟩
def cQ (z:cg h u=Z y):∀y0,cg h u=Z y0->Le y y0:=λy0 d=>by rw[z]at d;cases d;exact Le.refl _
def ads {xs:Y T.den} (D:fm a (l! xs)=J) {sz:Nat} (F:nT 40 T (geti _ xs a) i sz b=Z u):
 ∃y,cg h u=Z (.f y)/\(BC.fz (xs.flatMap (bT T))).sub? (a.toNat*T.size+i) sz b=Z (.f y):=by
 obtain⟨h1,y,h2,h3,h4⟩:=tU h 40 T _ i sz b u F;refine ⟨y,h2,?_⟩;obtain⟨_,_,hlt⟩:=mU D;have A:xs[a.toNat]? =Z (geti _ xs a):=by
  unfold geti;rw[aB,aD hlt];rfl
 obtain⟨q,z⟩:=G6 (bD T) xs a.toNat _ A;have hlen:=d9 (bD T) xs;have hle:(a.toNat+1)*T.size<=l! xs*T.size:=cH _ hlt;rw[iC]at hle;have hl:=bD T (geti _ xs a);cases b with
 |false=>
  obtain⟨N,L⟩:=h3 rfl;subst N;simp only[BC.sub?,BC.get];have:(xs.flatMap (bT T))[a.toNat*T.size+i]? =Z y:=by
   rw[<- im,z,bz (by omega)];exact L
  rw[this];rfl
 |true=>
  simp only[BC.sub?];rw[aG (ba (by omega)),h4 rfl,<-List.drop_drop,z,sJ (by omega),iY (by simp;omega)]
def alj {v:T.den} (z:nT 40 T v i j b=Z u):
 ∃y,cg h u=Z (.f y)/\(BC.fz (bT T v)).sub? i j b=Z (.f y):=by
 obtain⟨h1,y,h2,L,F⟩:=tU h 40 T _ i j b u z;refine ⟨y,h2,?_⟩;have N:=bD T v;cases b with
 |false=>
  obtain⟨D,A⟩:=L rfl;subst D;simp only[BC.sub?,BC.get,A];rfl
 |true=>
  simp only[BC.sub?];rw[aG (ba (by omega)),F rfl]
def YS {l:Y TV} {l':Y AV} (z:cO h l=Z l') (d:WF l i j b=Z u):∃y,cg h u=Z y/\(BC.mx l').sub? i j b=Z y:=by
 cases b with
 |false=>
  simp only[WF]at d;split at d
  .rename_i h1;have h1:=av h1;subst h1;obtain⟨y,h2,D⟩:=lK z i u d;exact⟨y,D,by simp only[BC.sub?,BC.get,h2]⟩
  .cases d
 |true=>
  simp only[WF]at d;split at d
  .rename_i h1;cases d;have h2:=Hb j (Hd i z);exact⟨.agg ((l'.drop i).take j),by simp only[cg,h2],by simp only[BC.sub?,gT z,h1,bw]⟩
  .cases d
def TE (d:lenOf h u=Z i) (z:cg h u=Z y):y.slen=Z i:=by
 unfold lenOf at d;split at d
 .cases d;simp only[cg,af]at z;subst z;rfl
 .cases d;simp only[cg,af]at z;subst z;rfl
 .cases d;simp only[cg,af]at z;subst z;rfl
 .rename_i id;simp only[cg]at z;cases A:eu h id with
  |none=>rw[A]at d;cases d
  |some q=>
   obtain⟨p,sz,m⟩:=q;rw[A]at d z;simp only[af]at d z;subst d z;unfold dv;split
   .rename_i hp;simp only[au,cF]at hp;rw[hp.2];rfl
   .rfl
 .cases d;simp only[cg,af]at z;subst z;rfl
 .cases d;simp only[cg,af]at z;subst z;simp only[Jw,uh];split
  .rename_i hp;rw[cF]at hp;rw[hp];rfl
  .rfl
 .cases d
def F4 (a b:ζ):tH ⟨a.toArray⟩ ⟨b.toArray⟩=decide (a=b):=by
 unfold tH;simp only[Bool.beq_eq_decide_eq]
def akd {op:BinOp} {v:TV} {q:TV->M R} (d:ani op u v q=Z r):∃a b c t,cg h u=Z (raw a)/\cg h v=Z (raw b)/\uY op a b=Z c/\cg h t=Z (raw c)/\q t=Z r:=by
 unfold ani at d;split at d
 .rename_i k a A b;split at d
  .rename_i hkk;have hkk':k=A:=by simpa using hkk
   subst hkk';refine ⟨.int k a,.int k b,?_⟩;cases op<;>simp only[reduceCtorEq]at d<;>first
    |cases d
    |exact⟨_,_,rfl,rfl,(by simp only[uY,cr,bw]<;>rfl),rfl,d⟩
    |(obtain ⟨D,d⟩:=cL d
      have z:(b==(0:Int))=aa:=by simpa using D
      exact⟨_,_,rfl,rfl,by simp only[uY,cr,bw,z,bM,c8],rfl,d⟩)
  .cases d
 .rename_i a b;refine ⟨.string ⟨fh a⟩,.string ⟨fh b⟩,?_⟩;split at d
  .exact⟨.bool (decide ((a:ζ)=b)),_,rfl,rfl,by simp only[uY,F4],rfl,d⟩
  .exact⟨.bool (!decide ((a:ζ)=b)),_,rfl,rfl,by simp only[uY,F4],rfl,d⟩
  .cases d
 .cases d
def ZP :∀{l:Y TV} {xs:Y T.den},yw T l=Z xs->∀k,k<l! l->l[k]? =Z (.f T (xs.getD k T.zero))
 |[],xs,_,k,z=>by simp at z
 |.f S v::r,xs,d,k,z=>by
  simp only[yw]at d;split at d
  .rename_i x A;split at d
   .rename_i l D;cases d;obtain⟨es,ex⟩:=gU A;cases es;subst ex;cases k with
    |zero=>rfl
    |succ k=>simpa using ZP D k (by simpa using z)
   .cases d
  .cases d
 |.zk _ _ _ _ _::r,xs,d,k,z|.ql _ _ _ _::r,xs,d,k,z|.H _ _::r,xs,d,k,z|.qw _ _ _::r,xs,d,k,z|.G _::r,xs,d,k,z|.emp::r,xs,d,k,z|.nil::r,xs,d,k,z|.mp _::r,xs,d,k,z|.agg _::r,xs,d,k,z|.qg _::r,xs,d,k,z|.qy _ _::r,xs,d,k,z|.undef::r,xs,d,k,z|.np::r,xs,d,k,z|.qv::r,xs,d,k,z|.qd _ _::r,xs,d,k,z|.sb _::r,xs,d,k,z=>by simp[yw]at d
def ZO {l:Y TV} {xs:Y T.den} (d:agl l=Z ⟨T,xs⟩):∀k,k<l! l->l[k]? =Z (.f T (xs.getD k T.zero)):=by
 unfold agl at d;split at d
 .split at d
  .rename_i A z;simp only[af]at d;cases d;exact ZP z
  .cases d
 .cases d
variable (hinv:gV h nx) (hi:sD e h)
include hinv hi
variable {X:FuncId->M cD} {W:TypeId->M Ty}
def K_mv {st:Bool} (A:cX P o.op=Z (.mv d)) (x:em X W (.op (.mv d)) e h nx K=Z r):iW P o st e h nx K r:=by
 simp only[em]at x;split at x
 .rename_i v z;obtain⟨y,h1,h2⟩:=bo hi z;exact iW.q (k:=0) hinv A (λH _=>by simp only[dB,h1]) (cQ h2) x
 .cases x
def ap2 {c b:Operand} {st:Bool} (L:cX P o.op=Z (.pick c d b)) (A:em X W (.op (.pick c d b)) e h nx K=Z r):iW P o st e h nx K r:=by
 simp only[em]at A;split at A
 .rename_i t hv;obtain⟨y,h1,h2⟩:=bo hi hv;simp only[cg,af]at h2;subst h2;rcases lT A with ⟨rfl,a⟩|⟨rfl,a⟩
  .split at a
   .rename_i v z;obtain⟨N,F,D⟩:=bo hi z;exact iW.q (k:=0) hinv L (λH _=>by simp only[dB,h1,fO,bw,F]) (cQ D) a
   .cases a
  .split at a
   .rename_i v z;obtain⟨N,F,D⟩:=bo hi z;exact iW.q (k:=0) hinv L (λH _=>by simp only[dB,h1,fO,F,bM,c8]) (cQ D) a
   .cases a
 .cases A
def ap3 {st:Bool} (D:cX P o.op=Z (.zd d)) (z:em X W (.op (.zd d)) e h nx K=Z r):iW P o st e h nx K r:=by
 simp only[em]at z;split at z;all_goals first
  |(rename_i A
    obtain⟨y,h1,h2⟩:=bo hi A;have x:=h2;simp only[cg,af]at h2;subst h2;exact iW.q (k:=0) hinv D (λH _=>by simp only[dB,h1]) (cQ x) z)
  |skip
 .rename_i g cap A;obtain⟨y,h1,h2⟩:=bo hi A;have x:=h2;simp only[cg]at h2;split at h2
  .cases h2;exact iW.q (k:=0) hinv D (λH _=>by simp only[dB,h1]) (cQ x) z
  .cases h2
 .cases z
def as9 {st:Bool} (A:cX P o.op=Z (.not d)) (x:em X W (.op (.not d)) e h nx K=Z r):iW P o st e h nx K r:=by
 simp only[em]at x;split at x
 .rename_i b z;obtain⟨y,h1,h2⟩:=bo hi z;simp only[cg,af]at h2;subst h2;exact iW.q (k:=0) hinv A (λH _=>by simp only[dB,h1,fO];rfl) (cQ rfl) x
 .cases x
def apa {k:IntKind} {st:Bool} (A:cX P o.op=Z (.conv k d)) (x:em X W (.op (.conv k d)) e h nx K=Z r):iW P o st e h nx K r:=by
 simp only[em]at x;split at x
 .rename_i D n z;obtain⟨y,h1,h2⟩:=bo hi z;simp only[cg,af]at h2;subst h2;exact iW.q (k:=0) hinv A (λH _=>by simp only[dB,h1,fO];rfl) (cQ rfl) x
 .cases x
def aso {y:Operand} {st:Bool} (F:cX P o.op=Z (.xz b d y)) (x:em X W (.op (.xz b d y)) e h nx K=Z r):iW P o st e h nx K r:=by
 simp only[em]at x;split at x
 .rename_i a neg D z;obtain⟨y,h1,h2⟩:=bo hi D;obtain⟨N,L,A⟩:=bo hi z;simp only[cg,af]at h2 A;subst h2 A;exact iW.q (k:=0) hinv F (λH _=>by simp only[dB,h1,L,fO];rfl) (cQ rfl) x
 .cases x
def al5 {st:Bool} (F:cX P o.op=Z (.zf b d)) (x:em X W (.op (.zf b d)) e h nx K=Z r):iW P o st e h nx K r:=by
 simp only[em]at x;split at x
 .rename_i z;obtain⟨y,h1,h2⟩:=bo hi z;simp only[cg,af]at h2;subst h2;exact iW.q (k:=0) hinv F (λH _=>by simp only[dB,h1,uS,bw];rfl) (cQ rfl) x
 .rename_i z;obtain⟨y,h1,h2⟩:=bo hi z;simp only[cg,af]at h2;subst h2;exact iW.q (k:=0) hinv F (λH _=>by simp only[dB,h1]) (cQ rfl) x
 .rename_i T xs z;obtain⟨y,h1,h2⟩:=bo hi z;simp only[cg,af]at h2;subst h2;rcases lT x with ⟨D,A⟩|⟨D,A⟩
  .have D:=av D;exact iW.q (k:=0) (y0:=.qv) hinv F (λH _=>by simp only[dB,h1,fO,D]) (cQ rfl) A
  .have D:=iD D;obtain⟨n,L⟩:=Nat.exists_eq_succ_of_ne_zero D;exact iW.q (k:=0) (y0:=raw (.bool b)) hinv F (λH _=>by simp only[dB,h1,fO,L]) (cQ rfl) A
 .rename_i id z;split at x
  .rename_i ty T xs N;obtain⟨y,h1,h2⟩:=bo hi z;simp only[cg,eu,N,dv,eO,bM,c8,af]at h2;subst h2;exact iW.q (k:=0) (y0:=raw (.bool b)) hinv F (λH _=>by simp only[dB,h1]) (cQ rfl) x
  .cases x
 .cases x
def ase {y:Operand} {st:Bool} (F:cX P o.op=Z (.max d y)) (x:em X W (.op (.max d y)) e h nx K=Z r):iW P o st e h nx K r:=by
 simp only[em]at x;split at x
 .rename_i k a k' b D z;obtain⟨y,h1,h2⟩:=bo hi D;obtain⟨N,L,A⟩:=bo hi z;simp only[cg,af]at h2 A;subst h2 A;split at x
  .exact iW.q (k:=0) hinv F (λH _=>by simp only[dB,h1,L,fO];rfl) (cQ rfl) x
  .cases x
 .cases x
def asd {y:Operand} {st:Bool} (F:cX P o.op=Z (.min d y)) (x:em X W (.op (.min d y)) e h nx K=Z r):iW P o st e h nx K r:=by
 simp only[em]at x;split at x
 .rename_i k a k' b D z;obtain⟨y,h1,h2⟩:=bo hi D;obtain⟨N,L,A⟩:=bo hi z;simp only[cg,af]at h2 A;subst h2 A;split at x
  .exact iW.q (k:=0) hinv F (λH _=>by simp only[dB,h1,L,fO];rfl) (cQ rfl) x
  .cases x
 .cases x
def asl {st:Bool} (A:cX P o.op=Z (.jk i d)) (x:em X W (.op (.jk i d)) e h nx K=Z r):iW P o st e h nx K r:=by
 simp only[em]at x;split at x;all_goals first
  |(rename_i z
    obtain⟨y,h1,h2⟩:=bo hi z;simp only[cg,af]at h2;subst h2;exact iW.q (k:=0) hinv A (λH _=>by simp only[dB,h1,ud]) (cQ rfl) x)
  |cases x
def ask {st:Bool} (L:cX P o.op=Z (.fld i j b d)) (x:em X W (.op (.fld i j b d)) e h nx K=Z r):iW P o st e h nx K r:=by
 simp only[em]at x;split at x
 .rename_i l z;split at x
  .rename_i u A;obtain⟨y,h1,h2⟩:=bo hi z;simp only[cg]at h2;split at h2
   .rename_i l' hl;cases h2;obtain⟨y,F,D⟩:=YS hl A;exact iW.q (k:=0) hinv L (λH _=>by simp only[dB,h1,D]) (cQ F) x
   .cases h2
  .cases x
 .rename_i T v z;split at x
  .cases x
  .rename_i ho;split at x
   .rename_i u A;obtain⟨y,h1,h2⟩:=bo hi z;simp only[cg,af]at h2;rw[r_ T v (by simpa using ho)]at h2;subst h2;obtain⟨y,F,D⟩:=alj (h:=h) A;exact iW.q (k:=0) hinv L (λH _=>by simp only[dB,h1,D]) (cQ F) x
   .cases x
 .cases x
def asi {n:Operand} {st:Bool} (hc:cX P o.op=Z (.idx i j b d n)) (x:em X W (.op (.idx i j b d n)) e h nx K=Z r):iW P o st e h nx K r:=by
 simp only[em]at x;split at x
 .rename_i v0 k sz hv L;split at x
  .rename_i T xs hA;obtain⟨N,x⟩:=cL x;cases b with
   |true=>cases hA
   |false=>
   simp only[aqj]at hA;split at hA
   .rename_i hsz;simp only[au,cU]at hsz;have hsz1:=av hsz.1;subst hsz1;split at hA
    .rename_i l hl;split at hA
     .rename_i hn;have hn:=av hn;obtain⟨y,h1,h2⟩:=bo hi hv;obtain⟨y2,h5,D⟩:=bo hi L;simp only[cg,af]at D;subst D;have hj:sz.toNat<l! l:=by
       simp only[au,dj,fM,bB]at N;omega
      have hg:=ZO hA sz.toNat hj;obtain⟨he,_⟩:=IK hl h2;obtain⟨z,A,F⟩:=lK he sz.toNat _ hg;have F:cg h (.f T (geti _ xs sz))=Z z:=F;refine iW.q (k:=0) hinv hc (λH _=>?_) (cQ F) x;cases v0 with
      |agg q=>
       simp only[cg]at h2;split at h2
       .rename_i l' _;cases h2;have A:l'[sz.toNat]? =Z z:=A;simp only[dB,h1,h5,fO,N,bw,BC.sub?,BC.get,Gi,A]
       .cases h2
      |f S u=>
       have ho:S.one=aa:=by
        have:=hsz.2;simpa[TV.isC] using this
       simp only[cg,af]at h2;rw[r_ S u ho]at h2;subst h2;have A:((bT S u).map AV.f)[sz.toNat]? =Z z:=A;rw[a8]at A;simp only[dB,h1,h5,fO,N,bw,BC.sub?,BC.get,Gi,A]
      |_=>simp[TV.cs,TV.isC]at hl hsz
     .cases hA
    .cases hA
   .cases hA
  .split at x
   .rename_i l;obtain⟨N,x⟩:=cL x;split at x
    .rename_i u hs;obtain⟨y,h1,h2⟩:=bo hi hv;obtain⟨y2,h5,D⟩:=bo hi L;simp only[cg,af]at D;subst D;simp only[cg]at h2;split at h2
     .rename_i l' hl;cases h2;obtain⟨y,h3,h4⟩:=YS hl hs;exact iW.q (k:=0) hinv hc (λH _=>by simp only[dB,h1,h5,fO,N,bw,h4]) (cQ h3) x
     .cases h2
    .cases x
   .rename_i T v _;split at x
    .cases x
    .rename_i ho;obtain⟨N,x⟩:=cL x;split at x
     .rename_i u hs;obtain⟨y,h1,h2⟩:=bo hi hv;obtain⟨y2,h5,D⟩:=bo hi L;simp only[cg,af]at D h2;subst D;rw[r_ T v (by simpa using ho)]at h2;subst h2;obtain⟨y,h3,h4⟩:=alj (h:=h) hs;exact iW.q (k:=0) hinv hc (λH _=>by simp only[dB,h1,h5,fO,N,bw,h4]) (cQ h3) x
     .cases x
   .cases x
 .cases x
def ap8 {n:Operand} {st:Bool} (D:cX P o.op=Z (.jq i j d n)) (x:em X W (.op (.jq i j d n)) e h nx K=Z r):iW P o st e h nx K r:=by
 simp only[em]at x;split at x
 .rename_i id off k sz N z;obtain⟨y,h1,h2⟩:=bo hi N;obtain⟨y2,L,F⟩:=bo hi z;simp only[cg,af]at F h2;subst F h2;split at x
  .obtain⟨A,x⟩:=cL x;exact iW.q (k:=0) (y0:=.H (nm id) (off+sz.toNat*j)) hinv D (λH _=>by simp only[dB,h1,L,fO,A,bw]) (cQ (by simp only[cg];rw[Nat.add_comm])) x
  .obtain⟨A,x⟩:=cL x;exact iW.q (k:=0) hinv D (λH _=>by simp only[dB,h1,L,fO,A,bw]) (cQ rfl) x
 .cases x
def asm {st:Bool} (F:cX P o.op=Z (.ext d i)) (x:em X W (.op (.ext d i)) e h nx K=Z r):iW P o st e h nx K r:=by
 simp only[em]at x;split at x
 .rename_i l z;split at x
  .rename_i u A;obtain⟨y,h1,h2⟩:=bo hi z;simp only[cg]at h2;split at h2
   .rename_i l' D;cases h2;obtain⟨y,N,L⟩:=lK D i u A;exact iW.q (k:=0) hinv F (λH _=>by simp only[dB,h1,N]) (cQ L) x
   .cases h2
  .cases x
 .cases x
def ash {st:Bool} (D:cX P o.op=Z (.len d)) (x:em X W (.op (.len d)) e h nx K=Z r):iW P o st e h nx K r:=by
 simp only[em]at x;split at x
 .rename_i v z;split at x
  .rename_i n A;obtain⟨y,h1,h2⟩:=bo hi z;have F:=TE A h2;exact iW.q (k:=0) hinv D (λH _=>by simp only[dB,h1,F];rfl) (cQ rfl) x
  .cases x
 .cases x
def ap6 {st:Bool} (A:cX P o.op=Z (.lens d)) (x:em X W (.op (.lens d)) e h nx K=Z r):iW P o st e h nx K r:=by
 simp only[em]at x;split at x
 .rename_i s z;obtain⟨y,h1,h2⟩:=bo hi z;simp only[cg,af]at h2;subst h2;exact iW.q (k:=0) hinv A (λH _=>by simp only[dB,h1,fO];rfl) (cQ rfl) x
 .cases x
def ap1 {i:Operand} {st:Bool} (hc:cX P o.op=Z (.zr d i)) (x:em X W (.op (.zr d i)) e h nx K=Z r):iW P o st e h nx K r:=by
 simp only[em]at x;split at x
 .rename_i s k j L z;obtain⟨N,x⟩:=cL x;obtain⟨y,h1,h2⟩:=bo hi L;obtain⟨y2,h3,A⟩:=bo hi z;simp only[cg,af]at h2 A;subst h2 A;obtain⟨F,j1,D⟩:=mU N;have e1:dj 0 j=J:=by simp[dj,F]
  have e2:(⟨fh s⟩:ByteArray).data.toList[j.toNat]? =Z (List.getD s j.toNat 0):=by
   show s[j.toNat]? =_;rw[aB,aD D];rfl
  exact iW.q (k:=0) (y0:=raw (.int .u8 (aR (List.getD s j.toNat 0).toNat))) hinv hc (λH _=>by simp only[dB,h1,h3,fO,e1,bw,e2];rfl) (cQ rfl) x
 .cases x
def asj {sz:Operand} {st:Bool} (hc:cX P o.op=Z (.jy i d sz)) (x:em X W (.op (.jy i d sz)) e h nx K=Z r):iW P o st e h nx K r:=by
 simp only[em]at x;split at x
 .rename_i id k j N z;split at x
  .rename_i ty p T xs hb;split at x
   .rename_i A;have A:=av A;obtain⟨D,x⟩:=cL x;obtain⟨y,h1,h2⟩:=bo hi N;obtain⟨y2,h3,F⟩:=bo hi z;simp only[cg,af]at F;subst F;obtain⟨j0,j1,j2⟩:=mU D;have hne:¬((p&&l! xs==0)=J):=by
     simp only[au,cF];omega
    simp only[cg,eu,hb,dv,aA hne,af]at h2;subst h2;have hc1:(T.size==i&&dj 0 j&&fM j (l! xs))=J:=by
     simp only[fm,au]at D;simp[A,D.1,D.2]
    exact iW.q (k:=0) hinv hc (λH _=>by simp only[dB,h1,h3,fO,hc1,bw,cZ]) (cQ rfl) x
   .cases x
  .cases x
 .rename_i T xs k j N z;split at x
  .rename_i A;have A:=av A;obtain⟨D,x⟩:=cL x;obtain⟨y,h1,h2⟩:=bo hi N;obtain⟨y2,h3,F⟩:=bo hi z;simp only[cg,af]at F h2;subst F h2;have L:(dj 0 j&&fM j (ah xs))=J:=D;exact iW.q (k:=0) hinv hc (λH _=>by simp only[dB,h1,h3,fO,L,bw,cZ,A]) (cQ rfl) x
  .cases x
 .rename_i id sz' n k j N z;split at x
  .rename_i A;have A:=av A;subst A;obtain⟨D,x⟩:=cL x;obtain⟨y,h1,h2⟩:=bo hi N;obtain⟨y2,h3,F⟩:=bo hi z;simp only[cg,af]at F h2;subst F h2;have L:(sz'==sz'&&dj 0 j&&fM j n)=J:=by simp only[au]at D ⊢;exact⟨⟨cr _,D.1⟩,D.2⟩
   exact iW.q (k:=0) hinv hc (λH _=>by simp only[dB,h1,h3,fO,L,bw]) (cQ rfl) x
  .cases x
 .cases x
def asc {caps:Y Operand} {st:Bool} (A:cX P o.op=Z (.mkf f caps)) (d:em X W (.op (.mkf f caps)) e h nx K=Z r):iW P o st e h nx K r:=by
 simp only[em]at d;split at d
 .rename_i l z;obtain⟨l',h1,h2⟩:=EK hi z;exact iW.q (k:=0) hinv A (y0:=.qy f l') (λH _=>by simp only[dB,h1]) (cQ (by simp only[cg,h2])) d
 .cases d
def ass {op:BinOp} {y:Operand} {st:Bool} (hc:cX P o.op=Z (.bin op d y)) (x:em X W (.op (.bin op d y)) e h nx K=Z r):iW P o st e h nx K r:=by
 simp only[em]at x;split at x
 .rename_i u v N z;obtain⟨a,b,c,t,h1,h2,h3,h4,h5⟩:=akd (h:=h) x;obtain⟨y,L,F⟩:=bo hi N;obtain⟨y2,D,A⟩:=bo hi z;rw[h1]at F;cases F;rw[h2]at A;cases A;simp only[raw]at L D;exact iW.q (k:=0) hinv hc (λH _=>by simp only[dB,L,D,h3]) (cQ h4) h5
 .cases x
end ops
def iH:eG->M (Bool×p?)
 |.F _ p T xs=>Z (p,T.size,l! xs)
 |.qj p sz n=>Z (p,sz,n)
 |.I F _ x|.qm F _ x _ _=>r9 F x
 |_=>U
def bH (h:bk) (i:Nat):eu h i=(h.get i).bind iH:=by
 unfold eu;cases h.get i with
 |none=>rfl
 |some b=>cases b<;>rfl
def b9.refl (h:bk):b9 h h:=λ_ _ h=>h
def b9.trans {a c:bk} (h1:b9 a h) (h2:b9 h c):b9 a c:=λi r b=>h2 i r (h1 i r b)
def b9.set {b:eG} (z:∀r,eu h i=Z r->iH b=Z r):b9 h (h.set i (Z b)):=λj r d=>by
 rw[bH,PT.get_set];by_cases e:j=i
 .subst e;rw[aG rfl];exact z r d
 .rw[aA e,<-bH];exact d
def Pp {b:eG} {r:Bool×p?} (h:iH b=Z r):iH (uC b)=Z r:=by
 cases b with
 |I F a x|qm F a x k p=>simp only[iH]at h;simp only[uC,h,iH]
 |_=>first|exact h|cases h
def Bd {b:eG} {ty:M TypeId} {l:Y TV} (h:uC b= .C ty l):False:=by
 cases b<;>simp only[uC]at h<;>first|cases h|(split at h<;>cases h)
def Lv (b:eG):∃p s n,uC b= .qj p s n:=by
 cases b with
 |I F a x|qm F a x k p=>simp only[uC];split<;>exact⟨_,_,_,rfl⟩
 |_=>exact⟨_,_,_,rfl⟩
def Me {k:Nat} {b:eG} (d:NJ h i k (uC b)=Z z):False:=by
 obtain⟨p,s,n,e⟩:=Lv b;rw[e]at d;cases k<;>cases d
def iP (m:Nat) (h:bk) (i:Nat):(dM m h).get i=if aO m i then (h.get i).map uC else h.get i:=by
 unfold dM;split
 .rename_i hm;have:=av hm;subst this;simp
 .rw[PT.get_updI];simp only[Nat.one_mul,cZ];cases h.get i with
  |none=>simp
  |some b=>simp only[bx];split<;>rfl
def b9.kill (m:Nat) (h:bk):b9 h (dM m h):=λi r d=>by
 rw[bH]at d ⊢;rw[iP];split
 .cases z:h.get i with
  |none=>rw[z]at d;cases d
  |some b=>rw[z]at d;exact Pp d
 .exact d
def gV.set {nx':Nat} {b:eG} (hi:gV h j) (z:b9 h (h.set i (Z b))) (hlt:i<nx') (hle:j<=nx') (A:∀ty l,b= .C ty l->lZ (h.set i (Z b)) l=J):gV (h.set i (Z b)) nx':=by
 refine ⟨λnx ty l d=>?_,λnx c d=>?_⟩
 .rw[PT.get_set]at d;split at d
  .simp only[af]at d;exact A ty l d
  .exact eY z l (hi.C nx _ l d)
 .rw[PT.get_set]at d;split at d
  .rename_i e;subst e;exact hlt
  .exact dA (hi.low nx c d) hle
def gV.kill (hi:gV h i) (m:Nat):gV (dM m h) i:=by
 refine ⟨λj ty l d=>?_,λj c d=>?_⟩
 .rw[iP]at d;refine eY (b9.kill m h) l (hi.C j ty l ?_);split at d
  .cases z:h.get j with
   |none=>rw[z]at d;cases d
   |some b=>rw[z]at d;exact (Bd (fE d)).elim
  .exact d
 .rw[iP]at d;split at d
  .cases z:h.get j with
   |none=>rw[z]at d;cases d
   |some b=>exact hi.low j b z
  .exact hi.low j c d
def UH {h':bk} (z:b9 h h') {b:eG} (A:∀ty l,b= .C ty l->lZ h l=J):jY h' b=jY h b:=by
 cases b with
 |C ty l=>
  obtain⟨l',d⟩:=eR h l (A ty l rfl);cases ty<;>simp only[jY,d,fT z l l' d]
 |_=>rfl
def mB {h':bk} (d:b9 h h') {b:eG} (z:∀ty l,b= .C ty l->lZ h l=J) (i:Nat):∀k,NJ h' i k b=NJ h i k b
 |0=>UH d z
 |_+1=>rfl
def ab0 {h':bk} (hi:gV h j) (d:b9 h h') (z:h'.get i=h.get i):erHF h' (nm i)=erHF h (nm i):=by
 rw[bQ,bQ,z];cases A:h.get i with
 |none=>rfl
 |some b=>exact UH d λty l e=>hi.C i _ l (by rw[A,e])
def iA (h h':bk):Prop:=∀i k,(h'.get i).bind (wx i k)=(h.get i).bind (wx i k)
def iA.refl (h:bk):iA h h:=λ_ _=>rfl
def iA.trans {a c:bk} (h1:iA a h) (h2:iA h c):iA a c:=λi k=>(h2 i k).trans (h1 i k)
def noM:M eG->Bool
 |some (.I _ _ _)=>aa
 |some (.qm _ _ _ _ _)=>aa
 |_=>J
def Kc {c:M eG} (d:noM c=J) (i k:Nat):c.bind (wx i k)=U:=by
 cases c with
 |none=>rfl
 |some b=>cases b<;>first|rfl|cases d
def iA.set {b:M eG} (h1:noM (h.get i)=J) (h2:noM b=J):iA h (h.set i b):=λj k=>by
 rw[PT.get_set];by_cases e:j=i
 .subst e;rw[aG rfl,Kc h1,Kc h2]
 .rw[aA e]
def iA.at_ {b:M eG} (h1:∀k,b.bind (wx i k)=(h.get i).bind (wx i k)):iA h (h.set i b):=λj k=>by
 rw[PT.get_set];by_cases e:j=i
 .subst e;rw[aG rfl];exact h1 k
 .rw[aA e]
def iA.of {h':bk} (d:∀i,h'.get i=h.get i\/(noM (h.get i)=J/\noM (h'.get i)=J)):iA h h':=λj k=>by
 rcases d j with e|⟨e1,e2⟩
 .rw[e]
 .rw[Kc e1,Kc e2]
def iA.kill (hm:∀m,aO i m=J->∃ty p T xs,h.get m=Z (.F ty p T xs)):iA h (dM i h):=λj k=>by
 rw[iP];split
 .rename_i z;obtain⟨ty,p,T,xs,d⟩:=hm j z;rw[d];rfl
 .rfl
def mg {h':bk} (hi:gV h i) (z:b9 h h') (hm:iA h h') (A:∀nx,j=nm nx->h'.get nx=h.get nx):erHF h' j=erHF h j:=by
 cases d:ix j with
 |zero=>rw[pt d];exact ab0 hi z (A _ (pt d))
 |succ k=>
  have e:=lb j;rw[d]at e;rw[<- e,kU,kU];exact hm _ k
def Mf {h':bk} (hme:iA h h') (b:erHF h' i=Z z):erHF h i=Z z\/∃q d,i=nm q/\h'.get q=Z d/\jY h' d=Z z:=by
 cases A:ix i with
 |zero=>
  obtain⟨d,h1,h2⟩:=iR b;rw[A]at h2;exact .inr ⟨ow i,d,pt A,h1,h2⟩
 |succ k=>
  have e:=lb i;rw[A]at e;rw[<- e,kU]at b ⊢;exact .inl ((hme _ _).symm.trans b)
def Gz (m:Nat):ι:=(agf m).map nm
def o7 :j∈Gz i↔∃m,j=nm m/\aO i m=J:=by
 unfold Gz;rw[cq];constructor
 .rintro⟨m,h1,rfl⟩;exact⟨m,rfl,PA.1 h1⟩
 .rintro⟨m,rfl,h1⟩;exact⟨m,PA.2 h1,rfl⟩
def mR :nm i∈Gz j↔aO j i=J:=by
 rw[o7];constructor
 .rintro⟨m,h1,h2⟩;rw[uj h1];exact h2
 .exact λh=>⟨i,rfl,h⟩
def dG (h:bk) (m:Nat):Prop:=∀i,aO m i=J->∃ty p T xs,h.get i=Z (.F ty p T xs)
def dG.zero (h:bk):dG h 0:=λi hi=>by simp at hi
def dG.or (z:dG h i) (d:dG h j):dG h (i|||j):=λa hi=>by
 rw[bA,jN]at hi;exact hi.elim (z a) (d a)
def nv {v:TV} {x:T.den} (d:ij h T v=Z (x,i)):dG h i:=by
 cases v with
 |f S v|emp|nil=>
  simp only[ij]at d;split at d
  .simp only[af,aI]at d;rw[<- d.2];exact dG.zero h
  .cases d
 |G id=>
  simp only[ij]at d;split at d
  .rename_i ty p S xs A;split at d
   .simp only[af,aI]at d;rw[<- d.2];intro m hi;have:=bC.1 hi;subst this;exact⟨ty,p,S,xs,A⟩
   .cases d
  .cases d
 |_=>simp[ij]at d
def wN :∀(n:Nat) (T:Ty) (l:Y TV) (x:T.den) (m:Nat) (r:Y TV),eX h n T l=Z (x,m,r)->dG h m
 |0,_,_,_,_,_,hp=>by simp[eX]at hp
 |n+1,.st t,l,x,m,r,hp=>wN n t l x m r hp
 |n+1,.pr a b,l,x,m,r,hp=>by
  simp only[eX]at hp;split at hp
  .rename_i x1 m1 r1 h1;split at hp
   .rename_i x2 m2 r2 h2;simp only[af,aI]at hp;obtain⟨_,rfl,_⟩:=hp;exact (wN n a l x1 m1 r1 h1).or (wN n b r1 x2 m2 r2 h2)
   .cases hp
  .cases hp
 |n+1,.un,l,x,m,r,hp=>by
  simp only[eX,af,aI]at hp;obtain⟨_,rfl,_⟩:=hp;exact dG.zero h
 |n+1,.ex,l,x,m,r,hp=>by
  simp only[eX]at hp;split at hp
  .rename_i x1 m1 r1 h1;simp only[af,aI]at hp;obtain⟨_,rfl,_⟩:=hp;exact wN n PY l x1 m1 r1 h1
  .cases hp
 |n+1,.sm,l,x,m,r,hp=>by
  simp only[eX]at hp;split at hp
  .rename_i x1 m1 r1 h1;simp only[af,aI]at hp;obtain⟨_,rfl,_⟩:=hp;exact wN n Pn l x1 m1 r1 h1
  .cases hp
 |n+1,.int k,l,x,m,r,hp|n+1,.bool,l,x,m,r,hp|n+1,.str,l,x,m,r,hp|n+1,.sl t,l,x,m,r,hp=>by
  simp only[eX]at hp;split at hp
  .split at hp
   .rename_i x1 m1 h1;simp only[af,aI]at hp;obtain⟨_,rfl,_⟩:=hp;exact nv h1
   .cases hp
  .cases hp
def ZN {x:T.den} (d:Dk h T u=Z (x,i)):dG h i:=by
 cases u with
 |agg l=>
  simp only[Dk]at d;split at d
  .cases d
  .split at d
   .rename_i x1 m1 h1;simp only[af,aI]at d;obtain⟨_,rfl⟩:=d;exact wN 40 T l x1 m1 [] h1
   .cases d
 |f S u=>exact nv (v:=.f S u) d
 |zk T xs j D off=>exact nv (v:=.zk T xs j D off) d
 |ql id sz j off=>exact nv (v:=.ql id sz j off) d
 |H id off=>exact nv (v:=.H id off) d
 |qw id off z=>exact nv (v:=.qw id off z) d
 |G id=>exact nv (v:=.G id) d
 |emp=>exact nv (v:=.emp) d
 |nil=>exact nv (v:=.nil) d
 |mp id=>exact nv (v:=.mp id) d
 |zp id A=>exact nv (v:=.zp id A) d
 |qg q=>exact nv (v:=.qg q) d
 |qy g q=>exact nv (v:=.qy g q) d
 |undef=>exact nv (v:=.undef) d
 |np=>exact nv (v:=.np) d
 |qv=>exact nv (v:=.qv) d
 |qd S q=>exact nv (v:=.qd S q) d
 |sb q=>exact nv (v:=.sb q) d
def QU :∀(n:Nat) (l:Y TV) (xs:Y T.den) (m:Nat),AW h T n l=Z (xs,m)->dG h m
 |0,[],xs,m,hp=>by simp only[AW,af,aI]at hp;rw[<- hp.2];exact dG.zero h
 |0,_::_,xs,m,hp=>by simp[AW]at hp
 |n+1,l,xs,m,hp=>by
  simp only[AW]at hp;split at hp
  .rename_i x1 m1 r1 h1;split at hp
   .rename_i x2 m2 h2;simp only[af,aI]at hp;obtain⟨_,rfl⟩:=hp;exact (wN 40 T l x1 m1 r1 h1).or (QU n r1 x2 m2 h2)
   .cases hp
  .cases hp
def BX :∀(n:Nat) (T:Ty) (v:T.den) (off sz:Nat) (z:T.den) (m:Nat),gP h u n T v off sz=Z (z,m)->dG h m
 |0,_,_,_,_,_,_,d=>by simp[gP]at d
 |n+1,.st t,v,off,sz,z,m,d=>by
  simp only[gP]at d;split at d
  .rename_i q A;split at A
   .cases d;exact ZN A
   .cases A
  .exact BX n t v off sz z m d
 |n+1,.pr a b,v,off,sz,z,m,d=>by
  simp only[gP]at d;split at d
  .split at d
   .rename_i D m1 h1;simp only[af,aI]at d;obtain⟨_,rfl⟩:=d;exact BX n a v.1 off sz D m1 h1
   .cases d
  .split at d
   .rename_i D m1 h1;simp only[af,aI]at d;obtain⟨_,rfl⟩:=d;exact BX n b v.2 _ sz D m1 h1
   .cases d
 |n+1,.un,v,off,sz,z,m,d=>by simp[gP]at d
 |n+1,.ex,v,off,sz,z,m,d=>by
  simp only[gP]at d;split at d
  .rename_i q A;split at A
   .cases d;exact ZN A
   .cases A
  .split at d
   .rename_i D m1 h1;simp only[af,aI]at d;obtain⟨_,rfl⟩:=d;exact BX n PY _ off sz D m1 h1
   .cases d
 |n+1,.sm,v,off,sz,z,m,d=>by
  simp only[gP]at d;split at d
  .rename_i q A;split at A
   .cases d;exact ZN A
   .cases A
  .split at d
   .rename_i D m1 h1;simp only[af,aI]at d;obtain⟨_,rfl⟩:=d;exact BX n Pn _ off sz D m1 h1
   .cases d
 |n+1,.int k,v,off,sz,z,m,d|n+1,.bool,v,off,sz,z,m,d|n+1,.str,v,off,sz,z,m,d|n+1,.sl t,v,off,sz,z,m,d=>by
  simp only[gP]at d;split at d
  .exact nv d
  .cases d
def vj (hm:dG h j) (d:aO j i=J):∃p sz n,(dM j h).get i=Z (.qj p sz n):=by
 obtain⟨ty,p,T,xs,h1⟩:=hm i d;exact⟨p,T.size,l! xs,by rw[iP,aG d,h1];rfl⟩
section ops
variable {R:Type} {P:Program} {o:Oper} {e:h_} {h:bk} {nx:Nat} {K:KO R} {r:R}
def eI (n:Nat) (b:kx):j6 [(n,b)] n=Z b:=by simp[j6]
def eL.mk' {s:O1} (hc:cX P o.op=Z s) {H:m7} (hH:H.get=erHF h) {k:Nat} {rdl wrl N:ι} {nw:NW} (ha:dB s (CL e h) H k=Z ⟨y,rdl,wrl,nw,N⟩) {h':bk} {wr:Nat} (wr':ι)
 (hsub:∀nx'∈wrl,nx'∈wr') (hsame:∀n,n∉wr'->erHF h' n=erHF h n)
 (hdom:∀nx'∈wr',∀b',erHF h' nx'=Z b'->∃b,(if nx'∈wrl then j6 nw nx' else erHF h nx')=Z b)
 (hblk:∀(H1 H2:HF),rq H1 H2->(∀nx'∈wrl,H1 nx'=j6 nw nx')->(∀nx'∈wr',nx'∉wrl->H1 nx'=erHF h nx')->(∀nx'∈wr',H2 nx'=erHF h' nx')->(∀nx'∈wr',∀b b',H1 nx'=Z b->H2 nx'=Z b'->fC H1 H2 b b')/\∀y0,cg h' u=Z y0->kE H1 H2 y y0)
 (hrd:∀n∈rdl,aO j (ow n)=J) (hwr:∀n∈wr',aO wr (ow n)=J) (hN:∀n∈N,nx<=ow n/\ow n<i) (hrows:b9 h h') (hinv':gV h' i) (hg:nx<=i):eL P o aa e h nx u j wr h' i:=by
 have ht:=K6 hc ha;rw[Ch,hH]at ht;refine ⟨?_,hrows,hinv',hg,nofun⟩;have base:∀(val:AV),(∀y0,cg h' u=Z y0->y0=val)->(cg h' u=U->val=y)->fZ P o (fB e h) (erHF h) ⟨val,rdl,wr',erHF h',N⟩:=by
  intro val hval hnone;refine fZ.view ht (λnx' hi=>.inl (hsub nx' hi)) λh1 hr1 hw1=>?_
  have hd:rq (eW h1 wrl (j6 nw)) (eW h1 wr' (erHF h')):=by
   intro nx' b d;unfold eW at d ⊢;by_cases hi:nx'∈wr'
   .rw[aG hi]at d;obtain⟨b0,A⟩:=hdom nx' hi b d;refine ⟨b0,?_⟩;by_cases a:nx'∈wrl
    .rw[aG a]at A ⊢;exact A
    .rw[aA a]at A ⊢;rw[hw1 nx' hi];exact A
   .rw[aA hi]at d;rw[aA (λa=>hi (hsub nx' a))];exact⟨b,d⟩
  obtain⟨q1,q2⟩:=hblk _ _ hd (λnx' hi=>by unfold eW;rw[aG hi]) (λnx' hi a=>by unfold eW;rw[aA a];exact hw1 nx' hi) (λnx' hi=>by unfold eW;rw[aG hi]);refine ⟨⟨hd,λnx' b b' d D=>?_⟩,?_⟩
  .by_cases hi:nx'∈wr'
   .exact q1 nx' hi b b' d D
   .unfold eW at d D;rw[aA (λa=>hi (hsub nx' a))]at d;rw[aA hi,d]at D;cases D;exact fC.refl hd b
  .cases L:cg h' u with
   |none=>rw[hnone L];exact kE.refl hd _
   |some y0=>rw[<- hval y0 L];exact q2 y0 L
 have hu:eW (erHF h) wr' (erHF h')=erHF h':=by
  funext n;unfold eW;split
  .rfl
  .rename_i hn;exact (hsame n hn).symm
 cases L:cg h' u with
 |none=>exact⟨_,base y (λy0 z=>by rw[L]at z;cases z) (λ_=>rfl),λy0 z=>(by cases z),hu,hrd,hwr,hN⟩
 |some y0=>exact⟨_,base y0 (λy' z=>by rw[L]at z;cases z;rfl) (λhn=>by rw[L]at hn;cases hn),λy' z=>by cases z;rfl,hu,hrd,hwr,hN⟩
def Fl (hi:sD e h):∀(parts:Y m?) (cells cs:Y TV) (cells':Y AV),L_ cells e parts=Z cs->cO h cells=Z cells'->∃cs',Bq cells' (CL e h) parts=Z cs'/\cO h cs=Z cs'/\(lU cells=J->lU cs=J)
 |[],cells,cs,cells',hf,he=>by simp only[L_,af]at hf;subst hf;exact⟨cells',rfl,he,id⟩
 |(off,sz,x)::rest,cells,cs,cells',hf,he=>by
  simp only[L_]at hf;split at hf
  .rename_i v hv;split at hf
   .rename_i q hq;split at hf
    .rename_i D;simp only[au,cF]at D;obtain⟨y,h1,h2⟩:=bo hi hv;obtain⟨F,h4⟩:=IK hq h2;obtain⟨cs',h5,N,L⟩:=Fl hi rest (splice cells off q) cs (splice cells' off y.cs) hf (oL off he F);refine ⟨cs',?_,N,λd=>L ?_⟩
     .simp only[Bq,h1];rw[aG,h5];simp only[au,cF];exact⟨⟨by rw[gT F];exact D.1,by rw[gT he];exact D.2⟩,tI F h4⟩
     .clear h5 N L hf;have app:∀a b:Y TV,lU a=J->lU b=J->lU (a++b)=J:=by
       intro a b d hb;induction a with
       |nil=>exact hb
       |cons z r A=>simp only[lU,au,iE]at d ⊢;exact⟨d.1,A d.2⟩
      have tk:∀(a:Y TV) n,lU a=J->lU (a.take n)=J:=by
       intro a;induction a with
       |nil=>intro n h;simp[lU]
       |cons z r A=>
        intro n h;cases n with
        |zero=>rfl
        |succ n=>simp only[lU,au,xA]at h ⊢;exact⟨h.1,A n h.2⟩
      have dr:∀(a:Y TV) n,lU a=J->lU (a.drop n)=J:=by
       intro a;induction a with
       |nil=>intro n h;simp[lU]
       |cons z r A=>
        intro n h;cases n with
        |zero=>exact h
        |succ n=>simp only[lU,au,xD]at h ⊢;exact A n h.2
      unfold splice;exact app _ _ (app _ _ (tk _ _ d) h4) (dr _ _ d)
    .cases hf
   .cases hf
  .cases hf
variable (hinv:gV h nx) (hi:sD e h)
include hinv hi
variable {X:FuncId->M cD} {W:TypeId->M Ty} {L:ξ}
def al6 {parts:Y m?} {st:Bool} (F:cX P o.op=Z (.build L parts)) (d:em X W (.op (.build L parts)) e h nx K=Z r):iW P o st e h nx K r:=by
 simp only[em]at d;split at d
 .rename_i l D;split at d
  .rename_i cs hf;obtain⟨h1,_,_⟩:=wZ h D;obtain⟨cs',h2,z,_⟩:=Fl hi parts l cs _ hf h1;refine iW.q (k:=0) (y0:=Pz cs') hinv F (λH _=>by simp only[dB,h2]) (λy A=>?_) d;simp only[cg,z,af]at A;subst A;exact aeq cs'
  .cases d
 .cases d
def ap5 (hc:cX P o.op=Z (.load i b d)) (x:em X W (.op (.load i b d)) e h nx K=Z r):iW P o aa e h nx K r:=by
 obtain⟨H,N⟩:=gD h;simp only[em]at x;split at x
 .rename_i id off hv;obtain⟨y,h1,h2⟩:=bo hi hv;simp only[cg,af]at h2;subst h2;split at x
  .rename_i ty l F;split at x
   .rename_i v hs;obtain⟨l',hl⟩:=eR h l (hinv.C id _ l F);obtain⟨y,h3,h4⟩:=YS hl hs;have hg:H.get (nm id)=Z ⟨ty,.mx l'⟩:=by rw[N,bQ,F];simp only[aC,jY,hl]
    exact⟨v,fV id,0,h,nx,x,eL.pure (k:=0) hinv hc N (y0:=y) (rdl:=[nm id]) (by simp only[dB,h1,xa,hg,h4]) (cQ h3) (λn A=>by simp only[aE]at A;subst A;rw[dq];exact bC.2 rfl) nofun⟩
   .cases x
  .cases x
 .rename_i id sz' j off hv;obtain⟨y,h1,h2⟩:=bo hi hv;simp only[cg,af]at h2;subst h2;split at x
  .rename_i ty p T xs F;split at x
   .rename_i hsz;have hsz:=av hsz;obtain⟨L,x⟩:=cL x;split at x
    .rename_i v hs;obtain⟨y,h3,h4⟩:=ads (h:=h) L hs;have hne:¬((p&&l! xs==0)=J):=by
      have:=mU L;simp only[au,cF];omega
     have hg:H.get (nm id)=Z ⟨ty,.fz (xs.flatMap (bT T))⟩:=by rw[N,bQ,F];simp only[aC,jY,aA hne]
     exact⟨v,fV id,0,h,nx,x,eL.pure (k:=0) hinv hc N (y0:=.f y) (rdl:=[nm id]) (by simp only[dB,h1,xa,hg,hsz,h4]) (cQ h3) (λn A=>by simp only[aE]at A;subst A;rw[dq];exact bC.2 rfl) nofun⟩
    .cases x
   .cases x
  .rename_i ty l F;split at x
   .cases x
   .split at x
    .rename_i hsz;simp only[au]at hsz;have e1:=av hsz.1.1;have e2:=av hsz.1.2;have e3:=av hsz.2;subst e1 e2 e3;split at x
     .rename_i T xs hA;obtain⟨L,x⟩:=cL x;obtain⟨l',hl⟩:=eR h l (hinv.C id _ l F);have hg:H.get (nm id)=Z ⟨ty,.mx l'⟩:=by rw[N,bQ,F];simp only[aC,jY,hl]
      have hlt:j.toNat<l! l:=by
       simp only[fm,au,dj,fM,bB]at L;omega
      obtain⟨z,hz1,D⟩:=lK hl j.toNat _ (ZO hA j.toNat hlt);have D:cg h (.f T (geti _ xs j))=Z z:=D;exact⟨_,fV id,0,h,nx,x,eL.pure (k:=0) hinv hc N (y0:=z) (rdl:=[nm id]) (by simp only[dB,h1,xa,hg,BC.sub?,BC.get,Gi,cZ,hz1]) (cQ D) (λn A=>by simp only[aE]at A;subst A;rw[dq];exact bC.2 rfl) nofun⟩
     .cases x
    .cases x
  .cases x
 .rename_i T xs j L off hv;obtain⟨y,h1,h2⟩:=bo hi hv;simp only[cg,af]at h2;subst h2;split at x
  .rename_i v hs;obtain⟨y,h3,h4⟩:=ads (h:=h) L hs;exact iW.q (k:=0) (y0:=.f y) hinv hc (λH _=>by simp only[dB,h1,xa,h4]) (cQ h3) x
  .cases x
 .cases x
def al7 (hc:cX P o.op=Z (.alloc s L)) (N:em X W (.op (.alloc s L)) e h nx K=Z r):iW P o aa e h nx K r:=by
 have _:=hi;obtain⟨H,hH⟩:=gD h;simp only[em]at N;split at N
 .rename_i l hl;obtain⟨_,hz,_⟩:=wZ h hl;have hnone:h.get nx=U:=by
   cases z:h.get nx with
   |none=>rfl
   |some b=>have:=hinv.low nx b z;omega
  have F:b9 h (h.set nx (Z (.C (Z s) l))):=b9.set λr F=>by rw[bH,hnone]at F;cases F
  obtain⟨h1,_,_⟩:=wZ (h.set nx (Z (.C (Z s) l))) hl;have hb':erHF (h.set nx (Z (.C (Z s) l))) (nm nx)=Z ⟨s,.mx (L.map raw)⟩:=by rw[bQ,PT.get_set,aG rfl];simp only[aC,jY,h1]
  refine ⟨_,_,_,_,_,N,eL.mk' hc hH (k:=nm nx) (by simp only[dB];rfl) [nm nx] (λi hi=>hi) (λn A=>?_) (λi hi b' _=>⟨⟨s,.fz (L.map .raw)⟩,?_⟩) (λH1 H2 d hw1 _ hw2=>⟨λi hi b b' z D=>?_,λy hy=>?_⟩) (by simp) ?_ ?_ F (hinv.set F (by omega) (by omega) λty' l' he=>?_) (by omega)⟩
  .refine mg hinv F (iA.set (by rw[hnone];rfl) rfl) λi e=>?_
   subst e;rw[PT.get_set,aA (λe=>A (by rw[e];simp))]
  .rw[aG hi];simp only[aE]at hi;subst hi;simp[j6]
  .simp only[aE]at hi;subst hi;rw[hw1 _ (by simp)]at z;rw[hw2 _ (by simp),hb']at D;rw[eI]at z;simp only[af]at z D;subst z D;refine fC.C rfl rfl ?_ λx hx=>?_
   .simp only[BC.toMx,kZ];exact gO.refl d _
   .simp only[BC.toMx]at hx;obtain⟨q,hq,rfl⟩:=cq.1 hx;exact hz q hq
  .simp only[cg,af]at hy;subst hy;exact kE.refl d _
  .intro n A;simp only[aE]at A;subst A;rw[dq];exact bC.2 rfl
  .intro n A;simp only[aE]at A;subst A;rw[dq];omega
  .cases he;exact li _ _ _ h1
 .cases N
def asr (hc:cX P o.op=Z (.box s d)) (F:em X W (.op (.box s d)) e h nx K=Z r):iW P o aa e h nx K r:=by
 obtain⟨H,hH⟩:=gD h;simp only[em]at F;split at F
 .rename_i v hv;split at F
  .rename_i l hl;obtain⟨y,h1,h2⟩:=bo hi hv;obtain⟨h3,h4⟩:=IK hl h2;have hcell:=tI h3 h4;have hnone:h.get nx=U:=by
    cases L:h.get nx with
    |none=>rfl
    |some b=>have:=hinv.low nx b L;omega
   have z:b9 h (h.set nx (Z (.C (Z s) l))):=b9.set λr z=>by rw[bH,hnone]at z;cases z
   have h5:=fT z l _ h3;have hb':erHF (h.set nx (Z (.C (Z s) l))) (nm nx)=Z ⟨s,.mx y.cs⟩:=by rw[bQ,PT.get_set,aG rfl];simp only[aC,jY,h5]
   refine ⟨_,_,_,_,_,F,eL.mk' hc hH (k:=nm nx) (by simp only[dB,h1,hcell,bw];rfl) [nm nx] (λi hi=>hi) (λn A=>?_) (λi hi b' _=>⟨⟨s,nX y.cs⟩,?_⟩) (λH1 H2 x hw1 _ N=>⟨λi hi b b' L D=>?_,λy hy=>?_⟩) (by simp) ?_ ?_ z (hinv.set z (by omega) (by omega) λty' l' he=>?_) (by omega)⟩
   .refine mg hinv z (iA.set (by rw[hnone];rfl) rfl) λi e=>?_
    subst e;rw[PT.get_set,aA (λe=>A (by rw[e];simp))]
   .rw[aG hi];simp only[aE]at hi;subst hi;simp[j6]
   .simp only[aE]at hi;subst hi;rw[hw1 _ (by simp)]at L;rw[N _ (by simp),hb']at D;rw[eI]at L;simp only[af]at L D;subst L D;obtain⟨q1,q2⟩:=nF y.cs;refine fC.C q2 rfl ?_ λd hx=>?_
    .rw[q1];exact gO.refl x _
    .exact mZ hcell d hx
   .simp only[cg,af]at hy;subst hy;exact kE.refl x _
   .intro n A;simp only[aE]at A;subst A;rw[dq];exact bC.2 rfl
   .intro n A;simp only[aE]at A;subst A;rw[dq];omega
   .cases he;exact li _ _ _ h5
  .cases F
 .cases F
def al4 {l c:Operand} (hcm:FW (W s)=U) (hc:cX P o.op=Z (.zg s i j L l c)) (A:em X W (.op (.zg s i j L l c)) e h nx K=Z r):iW P o aa e h nx K r:=by
 obtain⟨H,hH⟩:=gD h;simp only[em,hcm]at A;split at A
 .rename_i T k a k' b hT hv hv2;split at A
  .rename_i hsz;simp only[au]at hsz;have hs:=av hsz.1;have hz:=Nf hsz.2;subst hs hz;obtain⟨hck,A⟩:=cL A;obtain⟨y,h1,h2⟩:=bo hi hv;obtain⟨y2,h3,h4⟩:=bo hi hv2;simp only[cg,af]at h2 h4;subst h2 h4;have hnone:h.get nx=U:=by
    cases hb:h.get nx with
    |none=>rfl
    |some b=>have:=hinv.low nx b hb;omega
   generalize hB:eG.F s aa T (aF (aS a) T.zero)=B at A;have N:b9 h (h.set nx (Z B)):=b9.set λr N=>by rw[bH,hnone]at N;cases N
   have hb':erHF (h.set nx (Z B)) (nm nx)=Z ⟨s,.fz ((aF (aS a) T.zero).flatMap (bT T))⟩:=by rw[bQ,PT.get_set,aG rfl,<-hB];simp[jY]
   refine ⟨_,_,_,_,_,A,eL.mk' hc hH (k:=nm nx) (by simp only[dB,h1,h3,fO,hck,bw];rfl) [nm nx] (λsz hi=>hi) (λn D=>?_) (λsz hi b' _=>⟨⟨s,.fz (repl (uy T) (aS a))⟩,?_⟩) (λH1 H2 d hw1 _ hw2=>⟨λsz hi b b' hb z=>?_,λy hy=>?_⟩) (by simp) ?_ ?_ N (hinv.set N (by omega) (by omega) λty' l' he=>?_) (by omega)⟩
   .refine mg hinv N (iA.set (by rw[hnone];rfl) (by rw[<- hB];rfl)) λsz e=>?_
    subst e;rw[PT.get_set,aA (λe=>D (by rw[e];simp))]
   .rw[aG hi];simp only[aE]at hi;subst hi;simp[j6]
   .simp only[aE]at hi;subst hi;rw[hw1 _ (by simp)]at hb;rw[hw2 _ (by simp),hb']at z;rw[eI]at hb;simp only[af]at hb z;subst hb z;refine fC.C rfl rfl (J9 d T _) λx hx=>?_
    simp only[BC.toMx]at hx;obtain⟨q,hq,rfl⟩:=cq.1 hx;exact mA T _ q hq
   .simp only[cg,bH,PT.get_set,bw,<-hB,aC,iH,dv,eO,bM,c8,af,cm]at hy;subst hy;exact kE.refl d _
   .intro n D;simp only[aE]at D;subst D;rw[dq];exact bC.2 rfl
   .intro n D;simp only[aE]at D;subst D;rw[dq];omega
   .rw[<- hB]at he;cases he
  .cases A
 .cases A
end ops
def ye {f:R->Y FV} (hf:∀x,l! (f x)=i):∀(xs:Y R) (j:Nat),(xs.take j).flatMap f=(xs.flatMap f).take (j*i)
 |[],j|x::r,0=>by simp
 |x::r,j+1=>by
  rw[xA,fR,fR,ye hf r j,show (j+1)*i=l! (f x)+j*i from by rw[hf,iC];omega,List.take_length_add_append]
def L8 {f:R->Y FV} (hf:∀x,l! (f x)=i):∀(xs:Y R) (j:Nat),(xs.drop j).flatMap f=(xs.flatMap f).drop (j*i)
 |[],j|x::r,0=>by simp
 |x::r,j+1=>by
  rw[xD,fR,L8 hf r j,show (j+1)*i=l! (f x)+j*i from by rw[hf,iC];omega,List.drop_length_add_append]
variable {L:ξ}
def Ti :∀(n:Nat) (x:FV),x∈repl L n->∃v∈L,x= .raw v
 |0,x,h=>by simp[repl]at h
 |n+1,x,h=>by
  rw[repl,bE]at h;rcases h with h|h
  .obtain⟨v,d,rfl⟩:=cq.1 h;exact⟨v,d,rfl⟩
  .exact Ti n x h
def IP:∀l:Y FV,(∀x∈l,x.isCell=J)->gu (l.map .f)=J
 |[],_=>rfl
 |z::r,h=>by simp only[ca,gu,au];exact⟨h z (by simp),IP r λx d=>h x (by simp[d])⟩
section ops
variable {R:Type} {P:Program} {o:Oper} {e:h_} {h:bk} {nx:Nat} {K:KO R} {r:R}
def gV.fresh (hinv:gV h nx):h.get nx=U:=by
 cases d:h.get nx with
 |none=>rfl
 |some b=>have:=hinv.low nx b d;omega
def rq.kill (hinv:gV h nx) (hm:dG h i):rq (erHF h) (erHF (dM i h)):=λn b F=>by
 obtain⟨c,d,z⟩:=iR F;rw[iP]at d;by_cases ht:aO i (ow n)=J
 .obtain⟨N,L,nn,D⟩:=vj hm ht;rw[iP]at D;rw[D]at d;cases d;cases A:ix n with
  |_=>rw[A]at z;cases z
 .rw[aA ht]at d;refine ⟨b,?_⟩;unfold erHF;rw[d];simp only[aC];rw[<- mB (b9.kill i h) (λty l e=>hinv.C (ow n) _ l (by rw[d,e]))];exact z
def dG.lt (hinv:gV h nx) (hm:dG h j) (hi:aO j i=J):i<nx:=by
 obtain⟨_,_,_,_,d⟩:=hm i hi;exact hinv.low i _ d
def eL.new {s:O1} (hinv:gV h nx) (hc:cX P o.op=Z s) {H:m7} (hH:H.get=erHF h) {y0:AV} {rdl:ι} {b0:kx} (ha:dB s (CL e h) H (nm nx)=Z ⟨y0,rdl,[nm nx],[(nm nx,b0)],[nm nx]⟩) {B:eG} {v:TV} {m rd:Nat} (hm:dG h m)
 (hB:∀ty l,B= .C ty l->lZ ((dM m h).set nx (Z B)) l=J)
 (hblk:∀A z,rq A z->Ea h A z m->∀b',jY ((dM m h).set nx (Z B)) B=Z b'->fC A z b0 b')
 (hval:∀A z y,rq A z->Ea h A z m->cg ((dM m h).set nx (Z B)) v=Z y->kE A z y0 y)
 (hrd:∀n∈rdl,aO rd (ow n)=J) (hMem:∀i k,wx i k B=U:=by exact λ_ _=>rfl):eL P o aa e h nx v rd (m|||fV nx) ((dM m h).set nx (Z B)) (nx+1):=by
 have hk:=hinv.kill m;have hme:iA h ((dM m h).set nx (Z B)):=(iA.kill hm).trans (iA.at_ λk=>by rw[hk.fresh];exact hMem nx k);have hr0:=b9.kill m h;have N:b9 (dM m h) ((dM m h).set nx (Z B)):=b9.set λr hr=>by rw[bH,hk.fresh]at hr;cases hr
 have hr:=hr0.trans N;have hgiv:∀i,aO m i=J->erHF ((dM m h).set nx (Z B)) (nm i)=U:=λi hi=>by
  have hlt:=hm.lt hinv hi;obtain⟨p,sz,n,hd⟩:=vj hm hi;rw[bQ,PT.get_set,aA (by omega),hd];rfl
 refine eL.mk' hc hH ha (nm nx::Gz m) (λi hi=>by simp only[aE]at hi;subst hi;simp) (λn D=>?_) (λi hi b' hb'=>?_) (λA z d hw1 hw0 L=>?_) hrd ?_ ?_ hr (hk.set N (by omega) (by omega) hB) (by omega)
 .refine mg hinv hr hme λi e=>?_
  subst e;rw[PT.get_set,aA (λe=>D (by rw[e];simp)),iP,aA];intro hb;exact D (b8 _ (mR.2 hb))
 .rcases bm.1 hi with rfl|hi
  .exact⟨b0,by rw[aG (by simp),eI]⟩
  .obtain⟨j,rfl,hj⟩:=o7.1 hi;rw[hgiv j hj]at hb';cases hb'
 .have g:Ea h A z m:=λi hi=>by
   have hlt:=hm.lt hinv hi;have hmem:nm i∈nm nx::Gz m:=b8 _ (mR.2 hi);exact⟨hw0 _ hmem (λhc=>by simp only[aE]at hc;have:=uj hc;omega),by rw[L _ hmem,hgiv i hi]⟩
  refine ⟨λi hi b b' hb a=>?_,λy hy=>hval A z y d g hy⟩;rcases bm.1 hi with rfl|hi'
  .rw[hw1 _ (by simp),eI]at hb;rw[L _ hi,bQ,PT.get_set,aG rfl]at a;cases hb;exact hblk A z d g b' a
  .obtain⟨j,rfl,hj⟩:=o7.1 hi';rw[L _ hi,hgiv j hj]at a;cases a
 .intro n D;rw[bA];rcases bm.1 D with rfl|D
  .rw[dq,bC.2 rfl];simp
  .obtain⟨j,rfl,hj⟩:=o7.1 D;rw[dq,hj];rfl
 .intro n D;simp only[aE]at D;subst D;rw[dq];omega
def eL.wrt {s:O1} (hinv:gV h nx) (hc:cX P o.op=Z s) {H:m7} (hH:H.get=erHF h) {y0:AV} {rdl:ι} {b0:kx} {k:Nat} (ha:dB s (CL e h) H k=Z ⟨y0,rdl,[nm i],[(nm i,b0)],[]⟩) {B0 B:eG} (hb0:h.get i=Z B0) {v:TV} {m rd:Nat} (hm:dG h m) (hmid:aO m i=aa)
 (hrow:iH B=iH B0) (hB:∀ty l,B= .C ty l->lZ ((dM m h).set i (Z B)) l=J)
 (hblk:∀A z,rq A z->Ea h A z m->∀b',jY ((dM m h).set i (Z B)) B=Z b'->fC A z b0 b')
 (hval:∀A z y,rq A z->Ea h A z m->cg ((dM m h).set i (Z B)) v=Z y->kE A z y0 y)
 (hrd:∀n∈rdl,aO rd (ow n)=J) (hMem:∀k,wx i k B=wx i k B0:=by exact λ_=>rfl):eL P o aa e h nx v rd (m|||fV i) ((dM m h).set i (Z B)) nx:=by
 have hk:=hinv.kill m;have hr0:=b9.kill m h;have hkid:(dM m h).get i=Z B0:=by rw[iP,hmid];simpa using hb0
 have N:b9 (dM m h) ((dM m h).set i (Z B)):=b9.set λr hr=>by rw[bH,hkid]at hr;rw[hrow];exact hr
 have hme:iA h ((dM m h).set i (Z B)):=(iA.kill hm).trans (iA.at_ λk=>by rw[hkid];exact hMem k);have hr:=hr0.trans N;have hgiv:∀id,aO m id=J->erHF ((dM m h).set i (Z B)) (nm id)=U:=λid hi=>by
  have hne:id≠i:=λe=>by rw[e,hmid]at hi;cases hi
  obtain⟨p,sz,n,hd⟩:=vj hm hi;rw[bQ,PT.get_set,aA hne,hd];rfl
 refine eL.mk' hc hH ha (nm i::Gz m) (λid hi=>by simp only[aE]at hi;subst hi;simp) (λn L=>?_) (λid hi b' hb'=>?_) (λA z d hw1 hw0 a=>?_) hrd ?_ (by simp) hr (hk.set N (hinv.low i B0 hb0) (by omega) hB) (by omega)
 .refine mg hinv hr hme λid e=>?_
  subst e;rw[PT.get_set,aA (λe=>L (by rw[e];simp)),iP,aA];intro hb;exact L (b8 _ (mR.2 hb))
 .rcases bm.1 hi with rfl|hi
  .exact⟨b0,by rw[aG (by simp),eI]⟩
  .obtain⟨j,rfl,hj⟩:=o7.1 hi;rw[hgiv j hj]at hb';cases hb'
 .have g:Ea h A z m:=λid hi=>by
   have hne:id≠i:=λe=>by rw[e,hmid]at hi;cases hi
   have hmem:nm id∈nm i::Gz m:=b8 _ (mR.2 hi);exact⟨hw0 _ hmem (λhc=>by simp only[aE]at hc;exact hne (uj hc)),by rw[a _ hmem,hgiv id hi]⟩
  refine ⟨λid hi b b' hb D=>?_,λy hy=>hval A z y d g hy⟩;rcases bm.1 hi with rfl|hi'
  .rw[hw1 _ (by simp),eI]at hb;rw[a _ hi,bQ,PT.get_set,aG rfl]at D;cases hb;exact hblk A z d g b' D
  .obtain⟨j,rfl,hj⟩:=o7.1 hi';rw[a _ hi,hgiv j hj]at D;cases D
 .intro n L;rw[bA];rcases bm.1 L with rfl|L
  .rw[dq,bC.2 rfl];simp
  .obtain⟨j,rfl,hj⟩:=o7.1 L;rw[dq,hj];rfl
def Pq (h:bk) {d:Y TV} (A:MW L=Z d):∀len,cO h (aF len d).flatten=Z ((repl L len).map .f)
 |0=>rfl
 |n+1=>by
  rw[iU,List.flatten_cons,repl,da];refine oM ?_ (Pq h A n);rw[(wZ h A).1];simp only[kZ];rfl
def QQ {H:m7} (hH:H.get=erHF h) {F:Y T.den} (d:Dk h (.sl T) u=Z (F,i)) (A:cg h u=Z y):∃rd,y.row? H T.size=Z ((F.flatMap (bT T)).map .f,l! F,rd)/\∀n∈rd,∃m,n=nm m/\aO i m=J:=by
 have fl:=λD:Y T.den=>d9 (bD T) D
 have tk:∀D:Y T.den,(D.flatMap (bT T)).take (l! D*T.size)=D.flatMap (bT T):=λD=>by rw[<- fl,bW]
 cases u with
 |f S x=>
  simp only[Dk,ij]at d;split at d
  .rename_i z L;simp only[af,aI]at d;obtain⟨rfl,_⟩:=d;obtain⟨e,rfl⟩:=gU L;subst e;simp only[cg,af]at A;subst A;refine ⟨[],?_,by simp⟩;simp only[fO,AV.row?];rw[aG (ba (by rw[fl x];exact cA _)),tk]
  .cases d
 |emp|nil=>
  simp only[Dk,ij,af,aI]at d;obtain⟨rfl,_⟩:=d;simp only[cg,af]at A;subst A;exact⟨[],rfl,by simp⟩
 |G id=>
  simp only[Dk,ij]at d;split at d
  .rename_i ty p S xs hb;split at d
   .rename_i z L;cases d;obtain⟨e,rfl⟩:=gU L;cases e;simp only[cg,eu,hb,af]at A;subst A;unfold dv;split
    .rename_i hp;simp only[au,cF]at hp;have:xs=[]:=ef.1 hp.2;subst this;exact⟨[],rfl,by simp⟩
    .rename_i hp;have hg:H.get (nm id)=Z ⟨ty,.fz (xs.flatMap (bT T))⟩:=by rw[hH,bQ,hb];simp only[aC,jY,aA hp]
     refine ⟨[nm id],?_,λn N=>?_⟩
     .simp only[AV.row?,hg,cr,bw,BC.isCells,BC.len,eg];rw[aG (ba (by rw[fl xs];exact cA _))];simp only[BC.toMx,<-iq,tk]
     .simp only[aE]at N;exact⟨id,N,bC.2 rfl⟩
   .cases d
  .cases d
 |agg l=>simp[Dk,Ty.one]at d
 |_=>simp[Dk,ij]at d
def Xi (d:cg h u=Z y) (z:u.isC=J):gu y.cs=J:=by
 rw[QX (Rf d z)];simp only[gu,Bool.and_true];exact Rf d z
def ab2 (T:Ty) (x:T.den):gu ((bT T x).map .f)=J:=by
 have:∀l:Y FV,(∀x∈l,x.isCell=J)->gu (l.map .f)=J:=by
  intro l d;induction l with
  |nil=>rfl
  |cons z r A=>simp only[ca,gu,au];exact⟨d z (by simp),A λx D=>d x (by simp[D])⟩
 exact this _ (pi T x)
def gE {v:TV} {x:T.den} (d:ij h T v=Z (x,i)) (A:cg h v=Z y):gu y.cs=J:=by
 cases v with
 |f S v=>simp only[cg,af]at A;subst A;rw[Cj];exact ab2 S v
 |emp|nil|G id=>exact Xi A rfl
 |_=>simp[ij]at d
def Kv (D:T.one=J) {x:T.den} (d:ij h T u=Z (x,i)):u.isC=J:=by
 cases u with
 |f S u=>
  simp only[ij]at d;split at d
  .rename_i z A;obtain⟨e,_⟩:=gU A;subst e;exact D
  .cases d
 |emp|nil|G id=>rfl
 |_=>simp[ij]at d
def VP {a b:Y TV} (d:lU a=J) (D:lU b=J):lU (a++b)=J:=by
 induction a with
 |nil=>exact D
 |cons z r A=>simp only[lU,au,iE]at d ⊢;exact⟨d.1,A d.2⟩
def vh:∀(n:Nat) (T:Ty) (l:Y TV) (x:T.den) (m:Nat) (r:Y TV),eX h n T l=Z (x,m,r)->∃a,l=a++r/\lU a=J
 |0,_,_,_,_,_,hp=>by simp[eX]at hp
 |n+1,.st t,l,x,m,r,hp=>vh n t l x m r hp
 |n+1,.pr a b,l,x,m,r,hp=>by
  simp only[eX]at hp;split at hp
  .rename_i x1 m1 r1 h1;split at hp
   .rename_i x2 m2 r2 h2;simp only[af,aI]at hp;obtain⟨_,_,rfl⟩:=hp;obtain⟨D,rfl,z⟩:=vh n a l x1 m1 r1 h1;obtain⟨A,rfl,d⟩:=vh n b r1 x2 m2 r2 h2;exact⟨D++A,by simp,VP z d⟩
   .cases hp
  .cases hp
 |n+1,.un,l,x,m,r,hp=>by
  simp only[eX,af,aI]at hp;obtain⟨_,_,rfl⟩:=hp;exact⟨[],rfl,rfl⟩
 |n+1,.ex,l,x,m,r,hp=>by
  simp only[eX]at hp;split at hp
  .rename_i x1 m1 r1 h1;simp only[af,aI]at hp;obtain⟨_,_,rfl⟩:=hp;exact vh n PY l x1 m1 r1 h1
  .cases hp
 |n+1,.sm,l,x,m,r,hp=>by
  simp only[eX]at hp;split at hp
  .rename_i x1 m1 r1 h1;simp only[af,aI]at hp;obtain⟨_,_,rfl⟩:=hp;exact vh n Pn l x1 m1 r1 h1
  .cases hp
 |n+1,.int k,l,x,m,r,hp|n+1,.bool,l,x,m,r,hp|n+1,.str,l,x,m,r,hp|n+1,.sl t,l,x,m,r,hp=>by
  simp only[eX]at hp;split at hp
  .rename_i c q;split at hp
   .rename_i x1 m1 h1;simp only[af,aI]at hp;obtain⟨_,_,rfl⟩:=hp;exact⟨[c],rfl,by simp[lU,Kv rfl h1]⟩
   .cases hp
  .cases hp
def Ni {x:T.den} (A:Dk h T u=Z (x,i)) (d:cg h u=Z y):gu y.cs=J:=by
 cases u with
 |agg l=>
  simp only[Dk]at A;split at A
  .cases A
  .split at A
   .rename_i x1 m1 h1;obtain⟨a,e,N⟩:=vh 40 T l x1 m1 [] h1;rw[pD]at e;subst e;simp only[cg]at d;split at d
    .rename_i l' F;cases d;exact tI F N
    .cases d
   .cases A
 |f S u=>exact gE (v:=.f S u) A d
 |zk T xs j L off=>exact gE (v:=.zk T xs j L off) A d
 |ql id sz j off=>exact gE (v:=.ql id sz j off) A d
 |H id off=>exact gE (v:=.H id off) A d
 |qw id off z=>exact gE (v:=.qw id off z) A d
 |G id=>exact gE (v:=.G id) A d
 |emp=>exact gE (v:=.emp) A d
 |nil=>exact gE (v:=.nil) A d
 |mp id=>exact gE (v:=.mp id) A d
 |zp id D=>exact gE (v:=.zp id D) A d
 |qg q=>exact gE (v:=.qg q) A d
 |qy g q=>exact gE (v:=.qy g q) A d
 |undef=>exact gE (v:=.undef) A d
 |np=>exact gE (v:=.np) A d
 |qv=>exact gE (v:=.qv) A d
 |qd S q=>exact gE (v:=.qd S q) A d
 |sb q=>exact gE (v:=.sb q) A d
def n_ (A:cg h u=Z y):∀(n:Nat) (T:Ty) (v:T.den) (off sz:Nat) (z:T.den) (m:Nat),gP h u n T v off sz=Z (z,m)->gu y.cs=J
 |0,_,_,_,_,_,_,d=>by simp[gP]at d
 |n+1,.st t,v,off,sz,z,m,d=>by
  simp only[gP]at d;split at d
  .rename_i q D;split at D
   .exact Ni D A
   .cases D
  .exact n_ A n t v off sz z m d
 |n+1,.pr a b,v,off,sz,z,m,d=>by
  simp only[gP]at d;split at d
  .split at d
   .rename_i F m1 h1;exact n_ A n a v.1 off sz F m1 h1
   .cases d
  .split at d
   .rename_i F m1 h1;exact n_ A n b v.2 _ sz F m1 h1
   .cases d
 |n+1,.un,v,off,sz,z,m,d=>by simp[gP]at d
 |n+1,.ex,v,off,sz,z,m,d=>by
  simp only[gP]at d;split at d
  .rename_i q D;split at D
   .exact Ni D A
   .cases D
  .split at d
   .rename_i F m1 h1;exact n_ A n PY _ off sz F m1 h1
   .cases d
 |n+1,.sm,v,off,sz,z,m,d=>by
  simp only[gP]at d;split at d
  .rename_i q D;split at D
   .exact Ni D A
   .cases D
  .split at d
   .rename_i F m1 h1;exact n_ A n Pn _ off sz F m1 h1
   .cases d
 |n+1,.int k,v,off,sz,z,m,d|n+1,.bool,v,off,sz,z,m,d|n+1,.str,v,off,sz,z,m,d|n+1,.sl t,v,off,sz,z,m,d=>by
  simp only[gP]at d;split at d
  .exact gE d A
  .cases d
def Nl (l:Y FV):yA (l.map .f)=Z l:=by
 induction l with
 |nil=>rfl
 |cons x r d=>simp only[ca,yA,d]
def vL (l:Y FV):nX (l.map .f)= .fz l:=by unfold nX;rw[Nl]
def IQ:∀{a b:Y TV},lU a=J->lU b=J->lU (a++b)=J
 |[],_,_,d=>d
 |x::r,b,z,d=>by
  simp only[lU,au]at z;simp only[iE,lU,au];exact⟨z.1,IQ z.2 d⟩
def Ht {d:Y TV} (z:lU d=J):∀n,lU (aF n d).flatten=J
 |0=>rfl
 |n+1=>by rw[iU,List.flatten_cons];exact IQ z (Ht z n)
def ZD {H:m7} (D:H.get=erHF h) {l:Y TV} {l':Y AV} (A:h.get i=Z (.C (Z j) l)) (d:cO h l=Z l') {n sz:Nat} (F:l! l=n*sz):AV.row? H sz (.G (nm i) sz n)=Z (l',n,[nm i]):=by
 have z:H.get (nm i)=Z ⟨j,.mx l'⟩:=by rw[D,bQ,A];simp only[aC,jY,d]
 have hln:=gT d;simp only[AV.row?,cr,bw,z,BC.isCells,eg,BC.len,BC.toMx];rw[aG (ba (by omega)),gi (by omega)]
variable (hinv:gV h nx) (hi:sD e h)
include hinv hi
variable {X:FuncId->M cD} {W:TypeId->M Ty}
def apb {parts:Y m?} (hcm:FW (W s)=U) (hc:cX P o.op=Z (.xx s i j L parts)) (D:em X W (.op (.xx s i j L parts)) e h nx K=Z r):iW P o aa e h nx K r:=by
 obtain⟨H,hH⟩:=gD h;simp only[em,hcm]at D;split at D
 .rename_i T zc hT hz;split at D
  .rename_i N;have N:=av N;subst N;split at D
   .rename_i cs hf;split at D
    .rename_i xs m hp;obtain⟨cs',h1,h2,_⟩:=Fl hi parts _ cs _ hf (Pq h hz j);have hm:=QU j cs xs m hp;refine ⟨_,_,_,_,_,D,eL.new hinv hc hH (y0:=if j=0 then .emp else .G (nm nx) T.size j) (rdl:=[]) (b0:=⟨s,nX cs'⟩) (by simp only[dB,h1]) hm (λ_ _ he=>by cases he) (λH1 H2 d g b' A=>?_) (λH1 H2 y d g z=>?_) (by simp)⟩
     .simp only[jY]at A;split at A
      .cases A
      rw[af]at A;subst A;obtain⟨q1,q2⟩:=nF cs';refine fC.C q2 rfl ?_ λx hx=>?_
      .rw[q1];exact (EH d j cs xs m cs' hp h2 g).1
      .simp only[BC.toMx]at hx;obtain⟨q,F,rfl⟩:=cq.1 hx;exact mA T _ q F
     .simp only[cg,bH,PT.get_set,bw,aC,iH,dv,af]at z;rw[(EH d j cs xs m cs' hp h2 g).2]at z;split at z
      .rename_i F;simp only[au,cF]at F;subst z;rw[aG F.2];exact kE.refl d _
      .rename_i F;subst z;rw[aA (λh0=>F (by subst h0;rfl))];exact kE.refl d _
    .cases D
   .cases D
  .cases D
 .cases D
def Sf {H:m7} (hH:H.get=erHF h) {ty:Operand} {z:Y T.den} {yy:AV} {rdl:ι} (hc:cX P o.op=Z (.app s T.size i ty d)) (h1:mf (CL e h) ty=Z y) (h2:cg h u=Z y) (h3:mf (CL e h) d=Z yy) (h5:yy.row? H T.size=Z ((z.flatMap (bT T)).map .f,l! z,rdl)) (h6:∀n∈rdl,aO j (ow n)=J) (A:akf s T.size i T u z j h nx K=Z r):iW P o aa e h nx K r:=by
 have hfr:=hinv.fresh;have _:=hi;unfold akf at A;have onEmp:∀(rd':Nat),(∀n∈rdl,aO rd' (ow n)=J)->DM y=J->Le y .emp->bh (ah z) i=J->eL P o aa e h nx (.G nx) rd' (fV nx) (h.set nx (Z (.F s J T z))) (nx+1):=by
  intro rd' hrd' he hle hroom;have hr1:b9 h (h.set nx (Z (.F s J T z))):=b9.set λr hr=>by rw[bH,hfr]at hr;cases hr
  have hyb:∀id sz' n,y≠ .G id sz' n:=by rintro id sz' n rfl;cases he
  have L:dB (.app s T.size i ty d) (CL e h) H (nm nx)=if ah z==0 then Z ⟨y,rdl,[],[],[]⟩ else Z ⟨.G (nm nx) T.size (ah z),rdl,[nm nx],[(nm nx,⟨s,nX ((z.flatMap (bT T)).map .f)⟩)],[nm nx]⟩:=by
   simp only[dB,h1,h3,h5];cases y with
   |G id sz' n=>exact cN rfl (hyb id sz' n)
   |qd l n=>cases he
   |_=>simp only[he,hroom,fw,bw]
  by_cases hl:ah z=0
  .rw[hl]at L;simp only[cr,bw]at L;have hnil:z=[]:=ef.1 hl;subst hnil;refine eL.mk' hc hH L [] (by simp) (λn _=>?_) (by simp) (λH1 H2 x _ _ _=>⟨by simp,λyb N=>?_⟩) hrd' (by simp) (by simp) hr1 (hinv.set hr1 (by omega) (by omega) λ_ _ he=>by cases he) (by omega)
   .by_cases D:n=nm nx
    .subst D;rw[bQ,bQ,PT.get_set,aG rfl,hfr];rfl
    .refine mg hinv hr1 (iA.set (by rw[hfr];rfl) rfl) λbytes e=>?_
     subst e;rw[PT.get_set,aA (λe=>D (by rw[e]))]
   .simp only[cg,bH,PT.get_set,bw,aC,iH,dv,lm,cr,fw,af]at N;subst N;exact hle.toH x
  .rw[aA (by simpa using hl)]at L;rw[vL]at L;have key:=eL.new (m:=0) (rd:=rd') hinv hc hH L (B:=.F s J T z) (v:=.G nx) (dG.zero h) (λ_ _ he=>by cases he) (λH1 H2 x g b' hb'=>by
    simp only[jY]at hb';rw[aA (by simpa using hl)]at hb';cases hb';exact fC.refl x _) (λH1 H2 yb x g N=>by
    simp only[cg,bH,PT.get_set,bw,aC,iH,dv]at N;rw[aA (by simpa using hl)]at N;cases N;exact kE.refl x _) hrd'
   rw[wj]at key;exact key
 split at A
 .rename_i id;split at A
  .rename_i ty' p S xs0 hb;split at A
   .rename_i xs hxs;obtain⟨ee,rfl⟩:=gU hxs;cases ee;split at A
    .rename_i hcond;simp only[au,cF,cU]at hcond;obtain⟨rfl,hmid⟩:=hcond;obtain⟨hroom,A⟩:=cL A;simp only[cg,eu,hb,af]at h2;have hidlt:=hinv.low id _ hb;have hne:nx≠id:=by omega
     have hrd:∀n∈rdl,aO (fV id|||j) (ow n)=J:=λn D=>by
      rw[bA,h6 n D];simp
     generalize hh':(h.set id (Z (.qj p T.size (ah xs0)))).set nx (Z (.F ty' p T (xs0++z)))=h' at A;have hrA:b9 h (h.set id (Z (.qj p T.size (ah xs0)))):=b9.set λr hr=>by rw[bH,hb]at hr;exact hr
     have hg2:∀bytes,h'.get bytes=if bytes=nx then Z (.F ty' p T (xs0++z)) else if bytes=id then Z (.qj p T.size (ah xs0)) else h.get bytes:=λbytes=>by rw[<- hh',PT.get_set,PT.get_set]
     have hr:b9 h h':=by
      rw[<- hh'];refine hrA.trans (b9.set λr hr=>?_);rw[bH,PT.get_set,aA hne,hfr]at hr;cases hr
     have hinv':gV h' (nx+1):=by
      refine ⟨λbytes s l hil=>?_,λbytes c hic=>?_⟩
      .rw[hg2]at hil;split at hil
       .cases hil
       .split at hil
        .cases hil
        .exact eY hr l (hinv.C bytes _ l hil)
      .rw[hg2]at hic;split at hic
       .omega
       .split at hic
        .omega
        .have:=hinv.low bytes c hic;omega
     have hme:iA h h':=(iA.of λbytes=>by
      rw[hg2];by_cases e1:bytes=nx
      .rw[aG e1,e1,hfr];exact .inr ⟨rfl,rfl⟩
      .rw[aA e1];by_cases e2:bytes=id
       .rw[aG e2,e2,hb];exact .inr ⟨rfl,rfl⟩
       .rw[aA e2];exact .inl rfl)
     have hsame:∀n,n≠nm nx->n≠nm id->erHF h' n=erHF h n:=λn h1 h2=>mg hinv hr hme λbytes e=>by
      subst e;rw[hg2,aA (λe=>h1 (by rw[e])),aA (λe=>h2 (by rw[e]))]
     have hdead:erHF h' (nm id)=U:=by rw[bQ,hg2,aA (by omega),aG rfl];rfl
     have hnew:erHF h' (nm nx)=if p&&l! (xs0++z)==0 then U else Z ⟨ty',.fz ((xs0++z).flatMap (bT T))⟩:=by rw[bQ,hg2,aG rfl];rfl
     have hval:cg h' (.G nx)=Z (dv p nx T.size (l! (xs0++z))):=by simp only[cg,bH,hg2,bw,aC,iH]
     have hwm:∀n,n=nm nx\/n=nm id->aO (fV id|||fV nx) (ow n)=J:=λn D=>by
      rcases D with rfl|rfl<;>rw[dq,bA,bC.2 rfl]<;>simp
     refine ⟨_,_,_,_,_,A,?_⟩;by_cases hp:(p&&l! xs0==0)=J
     ·
      have hyb:y= .emp:=by rw[<- h2];unfold dv;rw[aG hp]
      subst hyb;simp only[au,cF]at hp;obtain⟨rfl,hl0⟩:=hp;have hnil:xs0=[]:=ef.1 hl0;subst hnil;have hroom':bh (ah z) i=J:=by simpa using hroom
      have L:dB (.app ty' T.size i ty d) (CL e h) H (nm nx)=if ah z==0 then Z ⟨.emp,rdl,[],[],[]⟩ else Z ⟨.G (nm nx) T.size (ah z),rdl,[nm nx],[(nm nx,⟨ty',nX ((z.flatMap (bT T)).map .f)⟩)],[nm nx]⟩:=by
       simp only[dB,h1,h3,h5,DM,hroom',fw,bw]
      have hdead0:erHF h (nm id)=U:=by rw[bQ,hb];rfl
      by_cases hl:ah z=0
      .rw[hl]at L;simp only[cr,bw]at L;have hnil:z=[]:=ef.1 hl;subst hnil;refine eL.mk' hc hH L [] (by simp) (λn _=>?_) (by simp) (λH1 H2 x _ _ _=>⟨by simp,λyb N=>?_⟩) hrd (by simp) (by simp) hr hinv' (by omega)
       .by_cases D:n=nm nx
        .subst D;rw[hnew,bQ,hfr];rfl
        .by_cases hn2:n=nm id
         .subst hn2;rw[hdead,hdead0]
         .exact hsame n D hn2
       .rw[hval]at N;simp only[dv,pD,lm,cr,fw,bw,af]at N;subst N;exact kE.refl x _
      .rw[aA (by simpa using hl),vL]at L;refine eL.mk' hc hH L [nm nx] (λbytes hi=>hi) (λn D=>?_) (λbytes hi b' _=>⟨_,by rw[aG hi];simp only[aE]at hi;subst hi;exact eI _ _⟩) (λH1 H2 x hw1 _ hw2=>⟨λbytes hi u b' hb1 hb2=>?_,λyb N=>?_⟩) hrd (λn D=>hwm n (.inl (by simpa using D))) (λn D=>by simp only[aE]at D;subst D;rw[dq];omega) hr hinv' (by omega)
       .have hn1:n≠nm nx:=by simpa using D
        by_cases hn2:n=nm id
        .subst hn2;rw[hdead,hdead0]
        .exact hsame n hn1 hn2
       .simp only[aE]at hi;subst hi;rw[hw1 _ (by simp),eI]at hb1;rw[hw2 _ (by simp),hnew,aA (by simpa using hl)]at hb2;simp only[af,m8]at hb1 hb2;subst hb1 hb2;exact fC.refl x _
       .rw[hval]at N;simp only[dv,m8]at N;rw[aA (by simpa using hl)]at N;cases N;exact kE.refl x _
     .have hyb:y= .G (nm id) T.size (l! xs0):=by rw[<- h2];unfold dv;rw[aA hp]
      subst hyb;have hg:H.get (nm id)=Z ⟨ty',.fz (xs0.flatMap (bT T))⟩:=by rw[hH,bQ,hb];simp only[aC,jY,aA hp]
      have fl:=d9 (bD T) xs0;have tk:(xs0.flatMap (bT T)).take (l! xs0*T.size)=xs0.flatMap (bT T):=by rw[<- fl,bW]
      have hmem:mem (nm id) rdl=aa:=by
       cases hx:mem (nm id) rdl with
       |false=>rfl
       |true=>
        have hm:=h6 _ (aeu.1 hx);rw[dq,hmid]at hm;cases hm
      have L:dB (.app ty' T.size i ty d) (CL e h) H (nm nx)=Z ⟨.G (nm nx) T.size (l! xs0+l! z),nm id::rdl,[nm nx,nm id],[(nm nx,⟨ty',.fz ((xs0++z).flatMap (bT T))⟩)],[nm nx]⟩:=by
       have hcnd:(T.size==T.size&& !(mem (nm id) rdl)&&(BC.fz (xs0.flatMap (bT T))).isCells&&dK (l! xs0*T.size) (BC.fz (xs0.flatMap (bT T))).len&&ty'==ty'&&bh (l! xs0+l! z) i)=J:=by
        have:dK (l! xs0*T.size) (BC.fz (xs0.flatMap (bT T))).len=J:=ba (by simp only[BC.len];omega);rw[this,hmem,hroom];simp[BC.isCells]
       simp only[dB,h1,h3,h5,hg,hcnd,bw,BC.toMx,<-iq,tk,<-da,vL,xC]
      have hne2:¬((p&&l! (xs0++z)==0)=J):=by
       simp only[au,cF,bG]at hp ⊢;intro hh;exact hp ⟨hh.1,by omega⟩
      refine eL.mk' hc hH L [nm nx,nm id] (λbytes hi=>hi) (λn D=>?_) (λbytes hi b' hb'=>?_) (λH1 H2 x hw1 _ hw2=>⟨λbytes hi u b' hb1 hb2=>?_,λyb N=>?_⟩) (λn D=>?_) (λn D=>hwm n (by simpa using D)) (λn D=>by simp only[aE]at D;subst D;rw[dq];omega) hr hinv' (by omega)
      .simp only[bm,cI,gy,not_or]at D;exact hsame n D.1 D.2
      .simp only[bm,cI,gy]at hi;rcases hi with rfl|rfl
       .exact⟨_,by rw[aG (by simp)];exact eI _ _⟩
       .rw[hdead]at hb';cases hb'
      .simp only[bm,cI,gy]at hi;rcases hi with rfl|rfl
       .rw[hw1 _ (by simp),eI]at hb1;rw[hw2 _ (by simp),hnew,aA hne2]at hb2;simp only[af]at hb1 hb2;subst hb1 hb2;exact fC.refl x _
       .rw[hw2 _ (by simp),hdead]at hb2;cases hb2
      .rw[hval]at N;simp only[dv]at N;rw[aA hne2]at N;simp only[bG,af]at N;subst N;exact kE.refl x _
      .rcases bm.1 D with rfl|D
       .rw[dq,bA,bC.2 rfl];rfl
       .exact hrd n D
    .cases A
   .cases A
  .cases A
 .rename_i S xs1;split at A
  .rename_i hm0;have hm0:=av hm0;subst hm0;split at A
   .rename_i xs hxs;obtain⟨ee,rfl⟩:=gU hxs;cases ee;obtain⟨hroom,A⟩:=cL A;simp only[cg,af]at h2;subst h2;have hr0:rdl=[]:=by
     cases rdl with
     |nil=>rfl
     |cons a q=>have hz:=h6 a (by simp);simp at hz
    subst hr0;have fl:=d9 (bD T) xs1;have tk:(xs1.flatMap (bT T)).take (l! xs1*T.size)=xs1.flatMap (bT T):=by rw[<- fl,bW]
    have hcnd:(dK (l! xs1*T.size) (l! (xs1.flatMap (bT T)))&&bh (l! xs1+l! z) i)=J:=by
     have hroom:bh (l! xs1+l! z) i=J:=hroom;rw[hroom,Bool.and_true];exact ba (by omega)
    rcases lT A with ⟨hl,A⟩|⟨hl,A⟩
    .have hl:=av hl;have hl':(ah z==0)=J:=by rw[hl];rfl
     exact⟨_,0,0,h,nx,A,eL.pure (y0:=.f (.sl (xs1.flatMap (bT T)) (l! xs1))) (k:=nm nx) hinv hc hH (by simp only[dB,h1,h3,h5,hcnd,bw,hl'];rfl) (cQ rfl) (by simp) λ_=>rfl⟩
    .have hl':¬(ah z==0)=J:=λe=>by
      have e:ah z=0:=by simpa using e
      rw[e]at hl;cases hl
     exact⟨_,_,_,_,_,A,eL.new hinv hc hH (y0:=.G (nm nx) T.size (l! xs1+l! z)) (rdl:=[]) (b0:=⟨s,.fz ((xs1++z).flatMap (bT T))⟩) (by
      simp only[dB,h1,h3,h5,hcnd,bw];rw[aA hl',tk,<-da,vL,<-xC]) (B:=.F s aa T (xs1++z)) (v:=.G nx) (dG.zero h) (λ_ _ he=>by cases he) (λH1 H2 x g b' hb'=>by
      simp only[jY,eO,bM,c8,af]at hb';subst hb';exact fC.refl x _) (λH1 H2 yb x g N=>by
      simp only[cg,bH,PT.get_set,bw,aC,iH,dv,eO,bM,c8,bG,af]at N;subst N;exact kE.refl x _) (by simp)⟩
   .cases A
  .cases A
 .obtain⟨hroom,A⟩:=cL A;simp only[cg,af]at h2;subst h2;exact⟨_,_,_,_,_,A,onEmp j h6 rfl (Le.refl _) hroom⟩
 .obtain⟨hroom,A⟩:=cL A;simp only[cg,af]at h2;subst h2;exact⟨_,_,_,_,_,A,onEmp j h6 rfl Le.nilEmp hroom⟩
 .cases A
def apc {ty:Operand} (hcm:FW (W s)=U) (N:cX P o.op=Z (.app s i j ty d)) (x:em X W (.op (.app s i j ty d)) e h nx K=Z r):iW P o aa e h nx K r:=by
 obtain⟨H,D⟩:=gD h;have hfr:=hinv.fresh;simp only[em,hcm]at x;split at x
 .rename_i T b y hT F z;split at x
  .rename_i A;have A:=av A;subst A;split at x
   .rename_i ys m hys;obtain⟨yb,h1,h2⟩:=bo hi F;obtain⟨yy,h3,h4⟩:=bo hi z;obtain⟨rdl,h5,h6⟩:=QQ D hys h4;exact Sf hinv hi D N h1 h2 h3 h5 (λn L=>by obtain⟨sz,rfl,hm⟩:=h6 n L;rw[dq];exact hm) x
   .cases x
  .cases x
 .cases x
def ag7 (xs d:Y T.den):(Wq xs d).flatMap (bT T)=AI.splice (xs.flatMap (bT T)) 0 ((d.flatMap (bT T)).take (jM (l! d) (l! xs)*T.size)):=by
 have _:=hinv;have _:=hi;have fl:=λA:Y T.den=>d9 (bD T) A
 have tk:∀(A:Y T.den) n,(A.flatMap (bT T)).take (n*T.size)=(A.take n).flatMap (bT T):=by
  intro A;induction A with
  |nil=>intro n;simp
  |cons z r D=>
   intro n;cases n with
   |zero=>simp
   |succ n=>rw[fR,xA,fR,iC,List.take_append,bD,gi (by rw[bD];omega),show n*T.size+T.size-T.size=n*T.size from by omega,D n]
 have F:∀(A:Y T.den) n,(A.flatMap (bT T)).drop (n*T.size)=(A.drop n).flatMap (bT T):=by
  intro A;induction A with
  |nil=>intro n;simp
  |cons z r D=>
   intro n;cases n with
   |zero=>simp
   |succ n=>rw[fR,xD,iC,wK,bD,tb (by rw[bD];omega),show n*T.size+T.size-T.size=n*T.size from by omega,D n,m8]
 unfold Wq AI.splice;rw[tk,xC,fl,cv];have e1:d.take (jM (l! d) (l! xs))=d.take (l! xs):=by
  rcases Nat.le_total (l! d) (l! xs) with h|h
  .rw[show jM (l! d) (l! xs)=l! d from HC h,bW,gi h]
  .rw[show jM (l! d) (l! xs)=l! xs from Nat.min_eq_right h]
 rw[e1];have e2:min (jM (l! d) (l! xs)) (l! d)=jM (l! d) (l! xs):=HC (Nat.min_le_left _ _);rw[e2];simp only[List.take_zero,m8,bO];rw[F];congr 1;rcases Nat.le_total (l! d) (l! xs) with h|h
 .rw[show jM (l! d) (l! xs)=l! d from HC h]
 .rw[show jM (l! d) (l! xs)=l! xs from Nat.min_eq_right h,List.drop_length,tb h]
def ap9 {x:Operand} (hc:cX P o.op=Z (.copy i d x)) (D:em X W (.op (.copy i d x)) e h nx K=Z r):iW P o aa e h nx K r:=by
 obtain⟨H,hH⟩:=gD h;simp only[em]at D;split at D
 .rename_i id y hv hv2;split at D
  .rename_i ty p T xs hb;split at D
   .rename_i hs;have hs:=av hs;subst hs;split at D
    .rename_i A m hys;split at D
     .rename_i hcond;simp only[au,cU]at hcond;obtain⟨hmid,rfl⟩:=hcond;obtain⟨yb,h1,h2⟩:=bo hi hv;obtain⟨yy,h3,h4⟩:=bo hi hv2;obtain⟨rdl,h5,h6⟩:=QQ hH hys h4;simp only[cg,eu,hb,dv,eO,bM,c8,af]at h2;subst h2;have fl:=d9 (bD T) xs;have fl2:=d9 (bD T) A;have hg:H.get (nm id)=Z ⟨ty,.fz (xs.flatMap (bT T))⟩:=by rw[hH,bQ,hb];simp[jY]
      have hmem:mem (nm id) rdl=aa:=by
       cases L:mem (nm id) rdl with
       |false=>rfl
       |true=>
        obtain⟨sz,e,hm⟩:=h6 _ (aeu.1 L);rw[<- uj e,hmid]at hm;cases hm
      have hle:jM (l! A) (l! xs)*T.size<=l! xs*T.size:=cH _ (Nat.min_le_right _ _);have ha0:dB (.copy T.size d x) (CL e h) H (nm nx)=Z ⟨raw (.int .i64 (jM (l! A) (l! xs))),nm id::rdl,[nm id],[(nm id,⟨ty,.fz ((Wq xs A).flatMap (bT T))⟩)],[]⟩:=by
       have hcnd:(T.size==T.size&& !(mem (nm id) rdl)&&dK (l! xs*T.size) (BC.fz (xs.flatMap (bT T))).len)=J:=by
        have:dK (l! xs*T.size) (BC.fz (xs.flatMap (bT T))).len=J:=ba (by simp only[BC.len];omega);rw[this,hmem];simp
       have hput:(BC.fz (xs.flatMap (bT T))).put 0 (((A.flatMap (bT T)).map .f).take (jM (l! A) (l! xs)*T.size))=Z (.fz ((Wq xs A).flatMap (bT T))):=by
        rw[<- iq];unfold BC.put;rw[aG]
        .simp only[Nl];rw[ag7 hinv hi]
        .simp only[au];refine ⟨⟨rfl,ba ?_⟩,?_⟩
         .simp only[BC.len,bS,cv];omega
         .have:∀l:Y FV,(∀x∈l,x.isCell=J)->gu (l.map .f)=J:=by
           intro l hl;induction l with
           |nil=>rfl
           |cons z r ih=>simp only[ca,gu,au];exact⟨hl z (by simp),ih λx L=>hl x (by simp[L])⟩
          exact this _ λx L=>mA T A x (il L)
       simp only[dB,h1,h3,hg,h5,hcnd,bw,hput]
      have hrow:iH (.F ty aa T (Wq xs A))=iH (.F ty aa T xs):=by
       have:l! (Wq xs A)=l! xs:=by unfold Wq;rw[bG,cv,lW];omega
       simp only[iH,this]
      have key:=eL.wrt (m:=0) (v:=.f (.int .i64) (aR (jM (ah A) (ah xs)))) (rd:=fV id|||m) hinv hc hH ha0 (B:=.F ty aa T (Wq xs A)) hb (dG.zero h) (by simp) hrow (λ_ _ he=>by cases he) (λH1 H2 d g b' N=>by
       simp only[jY,eO,bM,c8,af]at N;subst N;exact fC.refl d _) (λH1 H2 y d g hy=>by
       simp only[cg,af]at hy;subst hy;exact kE.refl d _) (λn hn=>by
       rcases bm.1 hn with rfl|hn
       .rw[dq,bA,bC.2 rfl];rfl
       .obtain⟨sz,rfl,hm⟩:=h6 n hn;rw[dq,bA,hm];simp)
      rw[wj]at key;exact⟨_,_,_,_,_,D,key⟩
     .cases D
    .cases D
   .cases D
  .cases D
 .cases D
def al3 {v:Operand} (hc:cX P o.op=Z (.store i d v)) (A:em X W (.op (.store i d v)) e h nx K=Z r):iW P o aa e h nx K r:=by
 obtain⟨H,hH⟩:=gD h;simp only[em]at A;split at A
 .rename_i id off y hv hv2;obtain⟨yb,h1,h2⟩:=bo hi hv;obtain⟨L,h3,h4⟩:=bo hi hv2;simp only[cg,af]at h2;subst h2;split at A
  .rename_i ty l N;split at A
   .rename_i cs hcs;split at A
    .rename_i hcond;simp only[au,cF]at hcond;obtain⟨h5,h6⟩:=IK hcs h4;obtain⟨l',hl⟩:=eR h l (hinv.C id _ l N);have hg:H.get (nm id)=Z ⟨ty,.mx l'⟩:=by rw[hH,bQ,N];simp only[aC,jY,hl]
     have hcell:=tI h5 h6;have hlen:L.cs.length=i:=by rw[gT h5];exact hcond.1
     have hput:(BC.mx l').put off L.cs=Z (.mx (splice l' off L.cs)):=by
      unfold BC.put;rw[aG]
      .rfl
      .simp only[au];exact⟨⟨rfl,by simp only[BC.len];rw[hlen,gT hl];exact hcond.2⟩,hcell⟩
     have ha0:dB (.store i d v) (CL e h) H (nm nx)=Z ⟨raw undef,[nm id],[nm id],[(nm id,⟨ty,.mx (splice l' off L.cs)⟩)],[]⟩:=by
      simp only[dB,h1,h3,BP,hg,hlen,cr,bw,hput]
     have hspl:∀h',b9 h h'->cO h' (splice l off cs)=Z (splice l' off L.cs):=λh' hr=>oL off (fT hr l l' hl) (fT hr cs _ h5)
     have hr1:b9 h (h.set id (Z (.C (Z ty) (splice l off cs)))):=b9.set λr hr=>by rw[bH,N]at hr;cases hr
     have key:=eL.wrt (m:=0) (v:=.undef) (rd:=fV id) hinv hc hH ha0 (B:=.C (Z ty) (splice l off cs)) N (dG.zero h) (by simp) rfl (λty' l2 he=>by cases he;exact li _ _ _ (hspl _ hr1)) (λH1 H2 x g b' D=>by
      have:=hspl _ hr1;simp only[dM,eP,bw,jY,this,af]at D;subst D;exact fC.refl x _) (λH1 H2 y x g hy=>by
      simp only[cg,af]at hy;subst hy;exact kE.refl x _) (λn hn=>by simp only[aE]at hn;subst hn;rw[dq];exact bC.2 rfl)
     rw[wj]at key;exact⟨_,_,_,_,_,A,key⟩
    .cases A
   .cases A
  .cases A
 .rename_i id sz' j off y hv hv2;obtain⟨yb,h1,h2⟩:=bo hi hv;obtain⟨L,h3,h4⟩:=bo hi hv2;simp only[cg,af]at h2;subst h2;split at A
  .rename_i ty p T xs N;split at A
   .rename_i hsz;have hsz:=av hsz;subst hsz;obtain⟨hj,A⟩:=cL A;split at A
    .rename_i z m hset;split at A
     .cases A
     .rename_i hmid;have hmid:aO m id=aa:=by simpa using hmid
      have hm:=BX 40 T _ off i z m hset;obtain⟨j0,j1,j2⟩:=mU hj;have hne:¬((p&&xs.length==0)=J):=by simp only[au,cF];omega
      have hne2:¬((p&&(cJ xs j z).length==0)=J):=by unfold cJ;rw[iu];exact hne
      have hg:H.get (nm id)=Z ⟨ty,.fz (xs.flatMap (bT T))⟩:=by rw[hH,bQ,N];simp only[aC,jY,aA hne]
      have fl:=d9 (bD T) xs;have hx:xs[j.toNat]? =Z (geti _ xs j):=by
       unfold geti;rw[aB,aD j2];rfl
      have hle:(j.toNat+1)*T.size<=xs.length*T.size:=cH _ j2;rw[iC]at hle;have hso:∀H1 H2,rq H1 H2->Ea h H1 H2 m->Qt H1 H2 L T (geti _ xs j) z off i:=λH1 H2 x g=>tK x h4 40 T _ off i z m hset g
      have hshape:L.cs.length=i/\off+i<=T.size/\gu L.cs=J:=by
       have d0:rq (erHF h) (erHF (dM m h)):=rq.kill hinv hm;obtain⟨fs,q1,q2,q3,q4,q5⟩:=hso _ _ d0 (λsz hi=>⟨rfl,by
        obtain⟨pp,ss,nn,g3⟩:=vj hm hi;rw[bQ,g3];rfl⟩)
       refine ⟨by rw[<- q2,<-bS (f:=AV.f),q1.length],q3,?_⟩;exact n_ h4 40 T _ off i z m hset
      obtain⟨hlen,hoff,hcell⟩:=hshape;obtain⟨c',hput,hc1,hc2⟩:∃c',(BC.fz (xs.flatMap (bT T))).put (j.toNat*T.size+off) L.cs=Z c'/\c'.toMx=splice ((xs.flatMap (bT T)).map .f) (j.toNat*T.size+off) L.cs/\c'.isCells=J:=by
       unfold BC.put;rw[aG]
       .split
        .rename_i l ys hl hys;simp only[BC.fz.injEq]at hl;subst hl;refine ⟨_,rfl,?_,rfl⟩;rw[nI hys];simp only[BC.toMx];unfold splice;simp[iq,ue]
        .exact⟨_,rfl,rfl,rfl⟩
       .simp only[au];exact⟨⟨rfl,ba (by simp only[BC.len];omega)⟩,hcell⟩
      have ha0:dB (.store i d v) (CL e h) H (nm nx)=Z ⟨raw undef,[nm id],[nm id],[(nm id,⟨ty,c'⟩)],[]⟩:=by
       simp only[dB,h1,h3,BP,hg,hlen,cr,bw,hput]
      have hrow:iH (.F ty p T (cJ xs j z))=iH (.F ty p T xs):=by
       unfold cJ;simp only[iH,iu]
      refine ⟨_,_,_,_,_,A,eL.wrt hinv hc hH ha0 (B:=.F ty p T (cJ xs j z)) N hm hmid hrow (λ_ _ he=>by cases he) (λH1 H2 x g b' D=>?_) (λH1 H2 y x g hy=>?_) (λn hn=>?_)⟩
      .simp only[jY,aA hne2,af]at D;subst D;obtain⟨fs,q1,q2,q3,q4,q5⟩:=hso H1 H2 x g;have hfl:(cJ xs j z).flatMap (bT T)=AI.splice (xs.flatMap (bT T)) (j.toNat*T.size+off) fs:=L7 (bD T) xs j.toNat _ z hx off fs (by omega) q4;refine fC.C hc2 rfl ?_ λd hx=>?_
       .rw[hc1];simp only[BC.toMx];rw[hfl];have:(AI.splice (xs.flatMap (bT T)) (j.toNat*T.size+off) fs).map AV.f=AI.splice ((xs.flatMap (bT T)).map .f) (j.toNat*T.size+off) (fs.map .f):=by unfold AI.splice;simp[iq,ue]
        rw[this];exact (gO.refl x _).splice _ q1
       .simp only[BC.toMx]at hx;obtain⟨q,hq,rfl⟩:=cq.1 hx;exact mA T _ q hq
      .simp only[cg,af]at hy;subst hy;exact kE.refl x _
      .simp only[aE]at hn;subst hn;rw[dq,bA,bC.2 rfl];simp
    .cases A
   .cases A
  .rename_i ty l N;split at A
   .rename_i hsz;simp only[au]at hsz;obtain⟨s1,s2,s3⟩:=hsz;have s1:=av s1;have s2:=av s2;have s3:=av s3;subst s1 s2 s3;obtain⟨hj,A⟩:=cL A;obtain⟨j0,j1,j2⟩:=mU hj;split at A
    .rename_i cs hcs;split at A
     .rename_i hc1;have hc1:=av hc1;obtain⟨h5,h6⟩:=IK hcs h4;obtain⟨l',hl⟩:=eR h l (hinv.C id _ l N);have hg:H.get (nm id)=Z ⟨ty,.mx l'⟩:=by rw[hH,bQ,N];simp only[aC,jY,hl]
      have hcell:=tI h5 h6;have hlen:L.cs.length=1:=by rw[gT h5];exact hc1
      have e0:j.toNat*1+0=j.toNat:=by omega
      rw[e0]at h1;have hput:(BC.mx l').put j.toNat L.cs=Z (.mx (splice l' j.toNat L.cs)):=by
       unfold BC.put;rw[aG]
       .rfl
       .simp only[au];exact⟨⟨rfl,ba (by simp only[BC.len];rw[hlen,gT hl];omega)⟩,hcell⟩
      have ha0:dB (.store 1 d v) (CL e h) H (nm nx)=Z ⟨raw undef,[nm id],[nm id],[(nm id,⟨ty,.mx (splice l' j.toNat L.cs)⟩)],[]⟩:=by
       simp only[dB,h1,h3,BP,hg,hlen,cr,bw,hput]
      have hspl:∀h',b9 h h'->cO h' (splice l j.toNat cs)=Z (splice l' j.toNat L.cs):=λh' hr=>oL j.toNat (fT hr l l' hl) (fT hr cs _ h5)
      have hr1:b9 h (h.set id (Z (.C (Z ty) (splice l j.toNat cs)))):=b9.set λr hr=>by rw[bH,N]at hr;cases hr
      have key:=eL.wrt (m:=0) (v:=.undef) (rd:=fV id) hinv hc hH ha0 (B:=.C (Z ty) (splice l j.toNat cs)) N (dG.zero h) (by simp) rfl (λty' l2 he=>by cases he;exact li _ _ _ (hspl _ hr1)) (λH1 H2 x g b' D=>by
       have:=hspl _ hr1;simp only[dM,eP,bw,jY,this,af]at D;subst D;exact fC.refl x _) (λH1 H2 y x g hy=>by
       simp only[cg,af]at hy;subst hy;exact kE.refl x _) (λn hn=>by simp only[aE]at hn;subst hn;rw[dq];exact bC.2 rfl)
      rw[wj]at key;exact⟨_,_,_,_,_,A,key⟩
     .cases A
    .cases A
   .cases A
  .cases A
 .cases A
def ap4 {l c:Operand} (hc:cX P o.op=Z (.zg s i j L l c)) (A:em X W (.op (.zg s i j L l c)) e h nx K=Z r):iW P o aa e h nx K r:=by
 cases hcm:FW (W s) with
 |none=>exact al4 hinv hi hcm hc A
 |some n=>
  obtain⟨H,hH⟩:=gD h;simp only[em,hcm]at A;split at A
  .rename_i zc k a k' b F hv z;obtain⟨hck,A⟩:=cL A;rw[au]at hck;obtain⟨hcond,N⟩:=hck;have N:=bl N;obtain⟨y,h1,h2⟩:=bo hi hv;obtain⟨y2,h3,h4⟩:=bo hi z;simp only[cg,af]at h2 h4;subst h2 h4;have han:aS a=n:=by rw[N];rfl
   obtain⟨_,_,hzc⟩:=wZ h F;refine ⟨_,_,_,_,_,A,eL.new hinv hc hH (y0:=.G (nm nx) i n) (rdl:=[]) (b0:=⟨s,.fz (repl L n)⟩) (by simp only[dB,h1,h3,fO,hcond,bw,han]) (dG.zero h) (λty' l' he=>?_) (λH1 H2 d g b' D=>?_) (λH1 H2 y d g hy=>?_) (by simp)⟩
   .cases he;exact li _ _ _ (Pq _ F n)
   .simp only[jY,Pq _ F n,af]at D;subst D;refine fC.C rfl rfl (gO.refl d _) λx hx=>?_
    exact mZ (tI (Pq h F n) (Ht hzc n)) x hx
   .simp only[cg,af]at hy;subst hy;exact kE.refl d _
  .cases A
def asq {parts:Y m?} (hc:cX P o.op=Z (.xx s i j L parts)) (A:em X W (.op (.xx s i j L parts)) e h nx K=Z r):iW P o aa e h nx K r:=by
 cases hcm:FW (W s) with
 |none=>exact apb hinv hi hcm hc A
 |some n=>
  obtain⟨H,hH⟩:=gD h;simp only[em,hcm]at A;split at A
  .rename_i zc hz;split at A
   .rename_i cs hf;split at A
    .cases A
    .rename_i N;have N:j≠0:=λe=>N (by rw[e];rfl)
     obtain⟨cs',h1,h2,h3⟩:=Fl hi parts _ cs _ hf (Pq h hz j);obtain⟨_,_,hzc⟩:=wZ h hz;have hcs:=h3 (Ht hzc j);have z:b9 h ((dM 0 h).set nx (Z (.C (Z s) cs))):=(b9.kill 0 h).trans (b9.set λr z=>by rw[bH,(hinv.kill 0).fresh]at z;cases z);have F:=fT z _ _ h2;refine ⟨_,_,_,_,_,A,eL.new hinv hc hH (y0:=.G (nm nx) i j) (rdl:=[]) (b0:=⟨s,nX cs'⟩) (by simp only[dB,h1,aA N]) (dG.zero h) (λty' l' he=>?_) (λH1 H2 d g b' D=>?_) (λH1 H2 y d g hy=>?_) (by simp)⟩
     .cases he;exact li _ _ _ F
     .simp only[jY,F,af]at D;subst D;obtain⟨q1,q2⟩:=nF cs';refine fC.C q2 rfl ?_ λx hx=>?_
      .rw[q1];exact gO.refl d _
      .exact mZ (tI h2 hcs) x hx
     .simp only[cg,af]at hy;subst hy;exact kE.refl d _
   .cases A
  .cases A
def ast {ty:Operand} (hc:cX P o.op=Z (.app s i j ty d)) (z:em X W (.op (.app s i j ty d)) e h nx K=Z r):iW P o aa e h nx K r:=by
 cases hcm:FW (W s) with
 |none=>exact apc hinv hi hcm hc z
 |some n0=>
  obtain⟨H,hH⟩:=gD h;have hfr:=hinv.fresh;simp only[em,hcm]at z;split at z
  .rename_i b y hv hv2;obtain⟨yb,h1,h2⟩:=bo hi hv;obtain⟨yy,h3,h4⟩:=bo hi hv2;unfold alx at z;split at z
   .rename_i id2 sz2 m;simp only[cg,af]at h4;subst h4;split at z
    .rename_i ty2 l2 D;split at z
     .rename_i A;simp only[au,cU]at A;obtain⟨⟨q1,q2⟩,q3⟩:=A;have q1:=av q1;have q2:=av q2;have q3:m≠0:=λe=>by rw[e]at q3;cases q3
      subst q1;obtain⟨L,hl2⟩:=eR h l2 (hinv.C id2 _ l2 D);have hrow:=ZD hH D hl2 q2;split at z
      .rename_i id sz1 n;simp only[cg,af]at h2;subst h2;split at z
       .rename_i ty1 l1 hb1;split at z
        .rename_i A;simp only[au,cU]at A;obtain⟨⟨⟨p1,p2⟩,p3⟩,p4⟩:=A;have p1:=av p1;have p2:=eq_of_beq p2;have p3:=av p3;have p4:id≠id2:=λe=>by rw[e,eP]at p4;cases p4
         subst p1 p2;obtain⟨hroom,z⟩:=cL z;obtain⟨N,hl1⟩:=eR h l1 (hinv.C id _ l1 hb1);have hln:=gT hl1;have hg:H.get (nm id)=Z ⟨ty1,.mx N⟩:=by rw[hH,bQ,hb1];simp only[aC,jY,hl1]
         have hidlt:id<nx:=hinv.low id _ hb1;generalize hB:eG.C (Z ty1) (l1++l2)=B at z;have hd1:b9 h (h.set id (Z (.qj J 0 0))):=b9.set λr F=>by rw[bH,hb1]at F;cases F
         have hd2:b9 (h.set id (Z (.qj J 0 0))) ((h.set id (Z (.qj J 0 0))).set nx (Z B)):=b9.set λr F=>by
          rw[bH,PT.get_set,aA (by omega),hfr]at F;cases F
         have F:=hd1.trans hd2;have hsp:cO ((h.set id (Z (.qj J 0 0))).set nx (Z B)) (l1++l2)=Z (N++L):=fT F _ _ (oM hl1 hl2);have hb':erHF ((h.set id (Z (.qj J 0 0))).set nx (Z B)) (nm nx)=Z ⟨ty1,.mx (N++L)⟩:=by rw[bQ,PT.get_set,aG rfl,<-hB]at *;simp only[aC,jY,hsp]
         have hbd:erHF ((h.set id (Z (.qj J 0 0))).set nx (Z B)) (nm id)=U:=by rw[bQ,PT.get_set,aA (by omega),PT.get_set,aG rfl];rfl
         have hinv1:gV (h.set id (Z (.qj J 0 0))) nx:=hinv.set hd1 hidlt (cA _) (λ_ _ he=>by cases he);have ha:dB (.app ty1 sz1 j ty d) (CL e h) H (nm nx)=Z ⟨.G (nm nx) sz1 (n+m),[nm id,nm id2],[nm nx,nm id],[(nm nx,⟨ty1,nX (N++L)⟩)],[nm nx]⟩:=by
          simp only[dB,h1,h3,hrow,hg];rw[aG (by
           simp only[cr,eg,Bool.and_true,BC.isCells,BC.len,hroom,au,cU];refine ⟨?_,ba (by omega)⟩;simp only[mem,Bool.or_false];cases A:ax (nm id2) (nm id) with
           |false=>rfl
           |true=>exact cN (uj (av A)).symm p4)]
          simp only[BC.toMx,gi (show (l! N)<=n*sz1 by omega)]
         refine ⟨_,_,_,_,_,z,eL.mk' hc hH ha [nm nx,nm id] (λsz hi=>hi) (λq A=>?_) (λsz hi b' hbb=>?_) (λH1 H2 x hw1 _ hw2=>⟨λsz hi b b' hb D=>?_,λy hy=>?_⟩) (λq A=>?_) (λq A=>?_) (λq A=>?_) F (hinv1.set hd2 (by omega) (by omega) λty' l' he=>?_) (by omega)⟩
         .simp only[bm,cI,gy,not_or]at A;refine mg hinv F (iA.of λsz=>by
           by_cases e1:sz=nx
           .rw[e1,hfr,PT.get_set,aG rfl];exact .inr ⟨rfl,by rw[<- hB];rfl⟩
           .rw[PT.get_set,aA e1];by_cases e2:sz=id
            .rw[e2,hb1,PT.get_set,aG rfl];exact .inr ⟨rfl,rfl⟩
            .rw[PT.get_set,aA e2];exact .inl rfl) λsz ei=>?_
          subst ei;rw[PT.get_set,aA (λe=>A.1 (by rw[e])),PT.get_set,aA (λe=>A.2 (by rw[e]))]
         .simp only[bm,cI,gy]at hi;rcases hi with rfl|rfl
          .rw[aG (by simp)];exact⟨_,eI _ _⟩
          .rw[hbd]at hbb;cases hbb
         .simp only[bm,cI,gy]at hi;rcases hi with rfl|rfl
          .rw[hw1 _ (by simp),eI]at hb;rw[hw2 _ (by simp),hb']at D;simp only[af]at hb D;subst hb D;obtain⟨m1,m2⟩:=nF (N++L);exact fC.eq x m2 rfl m1
          .rw[hw2 _ (by simp),hbd]at D;cases D
         .simp only[cg,af]at hy;subst hy;exact kE.refl x _
         .simp only[bm,cI,gy]at A;rw[bA,jN];rcases A with rfl|rfl
          .rw[dq];exact .inl (bC.2 rfl)
          .rw[dq];exact .inr (bC.2 rfl)
         .simp only[bm,cI,gy]at A;rw[bA,jN];rcases A with rfl|rfl
          .rw[dq];exact .inr (bC.2 rfl)
          .rw[dq];exact .inl (bC.2 rfl)
         .simp only[aE]at A;subst A;rw[dq];omega
         .rw[<- hB]at he;cases he;exact li _ _ _ hsp
        .cases z
       .cases z
      .simp only[cg,af]at h2;subst h2;obtain⟨hroom,z⟩:=cL z;have F:b9 h ((dM 0 h).set nx (Z (.C (Z s) l2))):=(b9.kill 0 h).trans (b9.set λr F=>by rw[bH,(hinv.kill 0).fresh]at F;cases F);have h2':=fT F _ _ hl2;refine ⟨_,_,_,_,_,z,eL.new hinv hc hH (y0:=.G (nm nx) sz2 m) (rdl:=[nm id2]) (b0:=⟨s,nX L⟩) (by simp only[dB,h1,h3,hrow];simp[DM,uS,hroom,q3]) (dG.zero h) (λty' l' he=>?_) (λH1 H2 x g b' hb'=>?_) (λH1 H2 y x g hy=>?_) (λn hn=>?_)⟩
       .cases he;exact li _ _ _ h2'
       .simp only[jY,h2',af]at hb';subst hb';obtain⟨p1,p2⟩:=nF L;exact fC.eq x p2 rfl p1
       .simp only[cg,af]at hy;subst hy;exact kE.refl x _
       .simp only[aE]at hn;subst hn;rw[dq];exact bC.2 rfl
      .cases z
     .cases z
    .cases z
   .cases z
  .cases z
def as6 {lo hi' mx:M Operand} (hc:cX P o.op=Z (.slc i d lo hi' mx)) (z:em X W (.op (.slc i d lo hi' mx)) e h nx K=Z r):iW P o aa e h nx K r:=by
 have hfr:=hinv.fresh;simp only[em]at z;split at z
 .rename_i v hv;obtain⟨y,h1,h2⟩:=bo hi hv;split at z
  .split at z
   .rename_i L;obtain⟨n,L⟩:=jI.1 L;have h3:=TE L h2;exact iW.q (k:=0) hinv hc (λH _=>by simp only[dB,h1,h3,Option.isSome_some,bw]) (cQ rfl) z
   .cases z
  .rename_i b;split at z
   .rename_i T xs k j hb;obtain⟨y2,h3,h4⟩:=bo hi hb;simp only[cg,af]at h2 h4;subst h2 h4;split at z
    .rename_i A;have A:=av A;subst A;obtain⟨N,z⟩:=cL z;have hfl:=d9 (bD T) xs;have hcond:(dj 0 j&&dj j (ah xs)&&dK (ah xs*T.size) (l! (xs.flatMap (bT T))))=J:=by
      rw[N,eg];exact ba (by omega)
     simp only[dj,au,bB]at N;have hlen:l! (xs.take j.toNat)=j.toNat:=by rw[cv];omega
     exact iW.q (k:=0) (y0:=.f (.sl ((xs.flatMap (bT T)).take (j.toNat*T.size)) j.toNat)) hinv hc (λH _=>by simp only[dB,h1,h3,fO,hcond,bw]) (cQ (by simp only[cg,fO];rw[ye (bD T),hlen])) z
    .cases z
   .rename_i id k j hb;obtain⟨y2,h3,h4⟩:=bo hi hb;simp only[cg,af]at h4;subst h4;split at z
    .rename_i ty p T xs D;split at z
     .rename_i A;have A:=av A;subst A;obtain⟨N,z⟩:=cL z;obtain⟨H,hH⟩:=gD h;have hj0:=N;simp only[dj,fM,au,bB]at N;have hp:¬((p&&l! xs==0)=J):=by
       simp only[au,cF];omega
      simp only[cg,bH,D,aC,iH,dv,aA hp,af]at h2;subst h2;have hidlt:=hinv.low id _ D;have hne:nx≠id:=by omega
      have hg:H.get (nm id)=Z ⟨ty,.fz (xs.flatMap (bT T))⟩:=by rw[hH,bQ,D];simp only[aC,jY,aA hp]
      have fl:=d9 (bD T) xs;have hcond:(T.size==T.size&&dj 0 j&&dj j (ah xs))=J:=by
       simp only[dj,au,bB,cr,true_and];omega
      have hlen:l! (xs.take j.toNat)=j.toNat:=by rw[cv];omega
      have ha0:dB (.slc T.size d U (Z b) U) (CL e h) H (nm nx)=Z ⟨.G (nm nx) T.size j.toNat,[nm id],[nm nx,nm id],[(nm nx,⟨ty,.fz ((xs.take j.toNat).flatMap (bT T))⟩)],[nm nx]⟩:=by
       have hc2:((BC.fz (xs.flatMap (bT T))).isCells&&dK (ah xs*T.size) (BC.fz (xs.flatMap (bT T))).len)=J:=by
        simp only[BC.isCells,eg,BC.len];exact ba (by omega)
       simp only[dB,h1,h3,fO,hcond,bw,hg,hc2,BC.toMx,<-iq,vL,ye (bD T)]
      generalize hh':(h.set id (Z (.qj p T.size (ah xs)))).set nx (Z (.F ty aa T (dg j.toNat xs)))=h' at z;have hrA:b9 h (h.set id (Z (.qj p T.size (ah xs)))):=b9.set λr hr=>by rw[bH,D]at hr;exact hr
      have hg2:∀sz,h'.get sz=if sz=nx then Z (.F ty aa T (dg j.toNat xs)) else if sz=id then Z (.qj p T.size (ah xs)) else h.get sz:=λsz=>by rw[<- hh',PT.get_set,PT.get_set]
      have hr:b9 h h':=by
       rw[<- hh'];refine hrA.trans (b9.set λr hr=>?_);rw[bH,PT.get_set,aA hne,hfr]at hr;cases hr
      have hinv':gV h' (nx+1):=by
       refine ⟨λsz ty l hil=>?_,λsz c hic=>?_⟩
       .rw[hg2]at hil;split at hil
        .cases hil
        .split at hil
         .cases hil
         .exact eY hr l (hinv.C sz _ l hil)
       .rw[hg2]at hic;split at hic
        .omega
        .split at hic
         .omega
         .have:=hinv.low sz c hic;omega
      have hme:iA h h':=(iA.of λsz=>by
       rw[hg2];by_cases e1:sz=nx
       .rw[aG e1,e1,hfr];exact .inr ⟨rfl,rfl⟩
       .rw[aA e1];by_cases e2:sz=id
        .rw[aG e2,e2,D];exact .inr ⟨rfl,rfl⟩
        .rw[aA e2];exact .inl rfl)
      have hsame:∀n,n≠nm nx->n≠nm id->erHF h' n=erHF h n:=λn h1 h2=>mg hinv hr hme λsz e=>by
       subst e;rw[hg2,aA (λe=>h1 (by rw[e])),aA (λe=>h2 (by rw[e]))]
      have hdead:erHF h' (nm id)=U:=by rw[bQ,hg2,aA (by omega),aG rfl];rfl
      have hnew:erHF h' (nm nx)=Z ⟨ty,.fz ((xs.take j.toNat).flatMap (bT T))⟩:=by rw[bQ,hg2,aG rfl];rfl
      have hval:cg h' (.G nx)=Z (.G (nm nx) T.size j.toNat):=by simp only[cg,bH,hg2,bw,aC,iH,dv,eO,bM,c8,hlen]
      refine ⟨_,_,_,_,_,z,?_⟩;refine eL.mk' hc hH ha0 [nm nx,nm id] (λsz hi=>hi) (λn L=>?_) (λsz hi b' hb'=>?_) (λH1 H2 x hw1 _ hw2=>⟨λsz hi b b' hb1 hb2=>?_,λy hy=>?_⟩) (λn L=>?_) (λn L=>?_) (λn L=>by simp only[aE]at L;subst L;rw[dq];omega) hr hinv' (by omega)
      .simp only[bm,cI,gy,not_or]at L;exact hsame n L.1 L.2
      .simp only[bm,cI,gy]at hi;rcases hi with rfl|rfl
       .exact⟨_,by rw[aG (by simp)];exact eI _ _⟩
       .rw[hdead]at hb';cases hb'
      .simp only[bm,cI,gy]at hi;rcases hi with rfl|rfl
       .rw[hw1 _ (by simp),eI]at hb1;rw[hw2 _ (by simp),hnew]at hb2;simp only[af]at hb1 hb2;subst hb1 hb2;exact fC.refl x _
       .rw[hw2 _ (by simp),hdead]at hb2;cases hb2
      .rw[hval]at hy;cases hy;exact kE.refl x _
      .simp only[aE]at L;subst L;rw[dq];exact bC.2 rfl
      .simp only[bm,cI,gy]at L;rcases L with rfl|rfl<;>rw[dq,bA,bC.2 rfl]<;>simp
     .cases z
    .cases z
   .cases z
  .rename_i b;split at z
   .rename_i T xs k j hb;obtain⟨y2,h3,h4⟩:=bo hi hb;simp only[cg,af]at h2 h4;subst h2 h4;split at z
    .rename_i A;have A:=av A;subst A;obtain⟨N,z⟩:=cL z;have hfl:=d9 (bD T) xs;have hcond:(dj 0 j&&dj j (ah xs)&&dK (ah xs*T.size) (l! (xs.flatMap (bT T))))=J:=by
      rw[N,eg];exact ba (by omega)
     simp only[dj,au,bB]at N;have hlen:l! (xs.drop j.toNat)=ah xs-j.toNat:=by rw[lW]
     have htk:((xs.flatMap (bT T)).drop (j.toNat*T.size)).take ((ah xs-j.toNat)*T.size)=(xs.flatMap (bT T)).drop (j.toNat*T.size):=by
      refine gi ?_;rw[lW,hfl,Nat.sub_mul];exact cA _
     exact iW.q (k:=0) (y0:=.f (.sl ((xs.flatMap (bT T)).drop (j.toNat*T.size)) (ah xs-j.toNat))) hinv hc (λH _=>by simp only[dB,h1,h3,fO,hcond,bw,htk]) (cQ (by simp only[cg,fO];rw[L8 (bD T),hlen])) z
    .cases z
   .rename_i id k j hb;obtain⟨y2,h3,h4⟩:=bo hi hb;simp only[cg,af]at h4;subst h4;split at z
    .rename_i ty p T xs D;split at z
     .rename_i A;have A:=av A;subst A;obtain⟨N,z⟩:=cL z;have hcond:(T.size==T.size&&dj 0 j&&fM j (ah xs))=J:=by
       simp only[au]at N;rw[N.1,N.2,cr];rfl
      simp only[dj,fM,au,bB]at N;have hp:¬((p&&l! xs==0)=J):=by
       simp only[au,cF];omega
      simp only[cg,bH,D,aC,iH,dv,aA hp,af]at h2;subst h2;exact iW.q (k:=0) (y0:=.sl (nm id) (j.toNat*T.size) (ah xs-j.toNat)) hinv hc (λH _=>by simp only[dB,h1,h3,fO,hcond,bw]) (cQ (by simp only[cg,bH,D,aC,iH])) z
     .cases z
    .cases z
   .cases z
  .rename_i b b' hne;split at z
   .rename_i T xs k j k' j' hb hb';obtain⟨y2,h3,h4⟩:=bo hi hb;obtain⟨y3,h5,h6⟩:=bo hi hb';simp only[cg,af]at h2 h4 h6;subst h2 h4 h6;split at z
    .rename_i A;have A:=av A;subst A;obtain⟨N,z⟩:=cL z;have hfl:=d9 (bD T) xs;have hcond:(decide (j=j')&&dj 0 j&&dj j (ah xs)&&dK (ah xs*T.size) (l! (xs.flatMap (bT T))))=J:=by
      rw[N,eg];exact ba (by omega)
     simp only[dj,au,bB]at N;have hlen:l! (xs.take j.toNat)=j.toNat:=by rw[cv];omega
     refine iW.q (k:=0) (y0:=.qd ((xs.flatMap (bT T)).take (j.toNat*T.size)) j.toNat) hinv hc (λH _=>?_) (cQ (by simp only[cg];rw[ye (bD T),hlen])) z;simp only[dB,h1,h3,h5,fO,hcond,bw]
    .cases z
   .cases z
  .cases z
 .cases z
def asp (hc:cX P o.op=Z (.clr i L d)) (A:em X W (.op (.clr i L d)) e h nx K=Z r):iW P o aa e h nx K r:=by
 obtain⟨H,hH⟩:=gD h;simp only[em]at A;split at A
 .rename_i id j hv;split at A
  .rename_i ty p T xs N;split at A
   .rename_i D;simp only[au]at D;obtain⟨⟨D,hz⟩,hco⟩:=D;have D:=av D;have hz:=Nf hz;subst D hz;obtain⟨hj,A⟩:=cL A;simp only[dj,fM,au,bB]at hj;obtain⟨j0,j1⟩:=hj;obtain⟨y,h1,h2⟩:=bo hi hv;simp only[cg,bH,N,aC,iH,af]at h2;subst h2;have hp:¬((p&&xs.length==0)=J):=by
     simp only[au,cF];omega
    have fl:=d9 (bD T) xs;have hg:H.get (nm id)=Z ⟨ty,.fz (xs.flatMap (bT T))⟩:=by rw[hH,bQ,N];simp only[aC,jY,aA hp]
    have hrl:(repl (uy T) (xs.length-j.toNat)).length=(xs.length-j.toNat)*T.size:=by
     have h9:=(J9 (H:=λ_=>U) (H':=λ_=>U) (λn b N=>by cases N) T (xs.length-j.toNat)).length;rw[bS,bS,d9 (bD T),cm]at h9;exact h9.symm
    have hoff:j.toNat*T.size+(xs.length-j.toNat)*T.size=xs.length*T.size:=by rw[<- QF];congr 1;omega
    have hput:(BC.fz (xs.flatMap (bT T))).put (j.toNat*T.size) ((repl (uy T) (xs.length-j.toNat)).map .f)=Z (.fz (splice (xs.flatMap (bT T)) (j.toNat*T.size) (repl (uy T) (xs.length-j.toNat)))):=by
     unfold BC.put;rw[aG]
     .simp only[Nl]
     .simp only[au];refine ⟨⟨rfl,ba ?_⟩,IP _ λq hq=>?_⟩
      .simp only[BC.len,bS];omega
      .obtain⟨v,hv,rfl⟩:=Ti _ q hq;exact gJ.1 hco v hv
    have hblt:dJ 0 (xs.length-j.toNat)=J:=ba (by omega);have ha0:dB (.clr T.size (uy T) d) (CL e h) H (nm nx)=Z ⟨.qg [],[nm id],[nm id],[(nm id,⟨ty,.fz (splice (xs.flatMap (bT T)) (j.toNat*T.size) (repl (uy T) (xs.length-j.toNat)))⟩)],[]⟩:=by
     simp only[dB,h1,hg,hblt,bw,hput]
    have hlen:(dg j.toNat xs++aF (ah xs-j.toNat) T.zero).length=xs.length:=by
     rw[bG,cv,cm];omega
    have hrow:iH (.F ty p T (dg j.toNat xs++aF (ah xs-j.toNat) T.zero))=iH (.F ty p T xs):=by simp only[iH,hlen]
    refine ⟨_,_,_,_,_,A,eL.wrt (m:=0) (v:=.qg []) (rd:=fV id) hinv hc hH ha0 N (dG.zero h) (by simp) hrow (λ_ _ he=>by cases he) (λH1 H2 x g b' z=>?_) (λH1 H2 y x g hy=>?_) (λn hn=>?_)⟩
    .have hp2:¬((p&&(dg j.toNat xs++aF (ah xs-j.toNat) T.zero).length==0)=J):=by rw[hlen];exact hp
     simp only[jY,aA hp2,af]at z;subst z;refine fC.C rfl rfl ?_ λq hq=>?_
     .simp only[BC.toMx];unfold splice;rw[hrl,hoff,<-fl,List.drop_length,pD,xC,ye (bD T),da,da];exact (gO.refl x _).append (J9 x T _)
     .simp only[BC.toMx]at hq;obtain⟨q',hq',rfl⟩:=cq.1 hq;exact mA T _ q' hq'
    .simp only[cg,cO,af]at hy;subst hy;exact kE.refl x _
    .simp only[aE]at hn;subst hn;rw[dq];exact bC.2 rfl
   .cases A
  .cases A
 .cases A
end ops
def Li {V:Ty} {es:Y (T.den×V.den)} (d:mpE T V es=J):es.map (λp=>(rc T p.1,AV.f (fO V p.2)))=[]:=by
 unfold mpE at d;split at d
 .rfl
 .cases d
def W8 {V:Ty} {es:Y (T.den×V.den)} (d:mpE T V es=J):W7 T=J:=by
 unfold mpE at d;split at d
 .rfl
 .cases d
def Ze (d:aab b T=J):W7 T=J:=by
 cases T<;>cases b<;>first|rfl|cases d
def Rb (z:aab b T=J) (k d:T.den):uY .eql (rc T k) (rc T d)=Z (.bool (P1 T k d))/\xY b (rc T k)=J/\fO T k= .raw (rc T k):=by
 cases T<;>cases b<;>first|cases z|skip
 .exact⟨by simp only[uY,rc,P1,cr,bw,af,Ec];exact Bool.beq_eq_decide_eq _ _,rfl,rfl⟩
 .exact⟨by simp only[uY,rc,P1,F4],rfl,rfl⟩
def Lj {str:Bool} {K V:Ty} (z:aab str K=J) (k:K.den):∀es:Y (K.den×V.den),tg (rc K k) (es.map λp=>(rc K p.1,AV.f (fO V p.2)))=Z ((uB k es).map λv=>AV.f (fO V v))
 |[]=>rfl
 |(d,v)::r=>by
  simp only[ca,tg,(Rb z k d).1,uB];cases A:P1 K k d with
  |true=>rfl
  |false=>simp only[bM,c8];exact Lj z k r
def Q7 {str:Bool} {K V:Ty} (z:aab str K=J) (k:K.den) (v:V.den):∀es:Y (K.den×V.den),yY (rc K k) (.f (fO V v)) (es.map λp=>(rc K p.1,AV.f (fO V p.2)))=Z ((vJ k v es).map λp=>(rc K p.1,AV.f (fO V p.2)))
 |[]=>rfl
 |(d,A)::r=>by
  simp only[ca,yY,(Rb z k d).1,vJ];cases D:P1 K k d with
  |true=>rfl
  |false=>simp only[Q7 z k v r,bM,c8,ca]
def aed {ok:Bool} (d:cg h u=Z y):cg h (pkT ok u (.f .bool b))=Z (pkV ok y b):=by
 cases ok with
 |false=>exact d
 |true=>simp only[pkT,pkV,cg,cO,d];rfl
section ops
variable {R:Type} {P:Program} {o:Oper} {e:h_} {h:bk} {nx:Nat} {K:KO R} {r:R}
def Le.aggOf {l:Y FV} (F:∀x∈l,x.isCell=J):Le (.agg (l.map .f)) (.f (.agg l)):=by
 intro φ O w v A;cases A with
 |@agg _ vs D hcl hrr=>
  refine .f (.agg l vs (by simpa using D) F λj y u d z=>?_);have:=hrr j (.f y) u (by rw[a8,d];rfl) z;cases this with
  |f h=>exact h
def Tq (S:Ty) (l:Y TV):M (S.den×Nat×Y TV):=match l with
 |c::r=>(match ij PT.leaf S c with|some (x,m)=>Z (x,m,r)|none=>U)
 |[]=>U
def PC:∀{l l':Y FV},l.map AV.f=l'.map AV.f->l=l'
 |[],[],_=>rfl
 |[],_::_,h|_::_,[],h=>by simp at h
 |x::r,y::r',h=>by
  simp only[ca,fb,AV.f.injEq]at h;rw[h.1,PC h.2]
def KZ (h:bk):∀(ds:Y TypeDesc) (T:Ty),sI ds=Z T->∀(n:Nat) (l:Y TV) (x:T.den) (m:Nat) (r:Y TV),eX PT.leaf n T l=Z (x,m,r)->∀l',cO h l=Z l'->∃D,cO h r=Z D/\l'=(bT T x).map .f++D
 |[],T,hd,n,l,x,m,r,hp,l',hl=>by
  simp only[sI,af]at hd;subst hd;cases n with
  |zero=>simp[eX]at hp
  |succ n=>
   simp only[eX,af,aI]at hp;obtain⟨_,_,rfl⟩:=hp;exact⟨l',hl,rfl⟩
 |d::ds,T,hd,n,l,x,m,r,hp,l',hl=>by
  have plain:∀(S:Ty),S.one=J->(∀t,S≠ .sl t)->∀(v:TV) (a:S.den) (m:Nat) (y:AV),ij PT.leaf S v=Z (a,m)->cg h v=Z y->y= .f (fO S a):=by
   intro S N hns v a m y A hy;cases v with
   |f Q q=>
    simp only[ij]at A;split at A
    .rename_i z hz;simp only[af,aI]at A;obtain⟨rfl,_⟩:=A;obtain⟨e,rfl⟩:=gU hz;subst e;simp only[cg,af]at hy;exact hy.symm
    .cases A
   |emp|nil=>
    cases S with
    |sl t=>exact cN rfl (hns t)
    |_=>simp[ij]at A
   |G id=>simp[ij,PT.get]at A
   |_=>simp[ij]at A
  have one:∀(S:Ty),S.one=J->(∀t,S≠ .sl t)->∀(n:Nat) (l:Y TV) (a:S.den) (m:Nat) (r:Y TV),eX PT.leaf n S l=Z (a,m,r)->∀l',cO h l=Z l'->∃D,cO h r=Z D/\l'=(bT S a).map .f++D:=by
   intro S N hns n l a m r hp l' hl;cases n with
   |zero=>simp[eX]at hp
   |succ n=>
    cases l with
    |nil=>
     cases S with
     |int k|bool|str=>cases hp
     |sl t=>exact cN rfl (hns t)
     |_=>cases N
    |cons c q=>
     have hpp:Tq S (c::q)=Z (a,m,r):=by
      cases S with
      |int k=>simp only[eX]at hp;simp only[Tq];cases F:ij PT.leaf (.int k) c with
       |none=>rw[F]at hp;cases hp
       |some z=>rw[F]at hp;exact hp
      |bool=>simp only[eX]at hp;simp only[Tq];cases F:ij PT.leaf .bool c with
       |none=>rw[F]at hp;cases hp
       |some z=>rw[F]at hp;exact hp
      |str=>simp only[eX]at hp;simp only[Tq];cases F:ij PT.leaf .str c with
       |none=>rw[F]at hp;cases hp
       |some z=>rw[F]at hp;exact hp
      |sl t=>exact cN rfl (hns t)
      |_=>cases N
     simp only[Tq]at hpp;split at hpp
     .rename_i a1 m1 h1;simp only[af,aI]at hpp;obtain⟨rfl,rfl,rfl⟩:=hpp;obtain⟨y,D,rfl,g1,g2⟩:=dh hl;have:=plain S N hns c a1 m1 y h1 g1;subst this;exact⟨D,g2,by rw[(Fp S a1 N).1];rfl⟩
     .cases hpp
  have two:∀(S g:Ty),S.one=J->(∀t,S≠ .sl t)->sI ds=Z g->T= .pr S g->∃D,cO h r=Z D/\l'=(bT T x).map .f++D:=by
   intro S g N hns L e;subst e;cases n with
   |zero=>simp[eX]at hp
   |succ n=>
    simp only[eX]at hp;split at hp
    .rename_i x1 m1 r1 h1;split at hp
     .rename_i x2 m2 r2 h2;simp only[af,aI]at hp;obtain⟨rfl,rfl,rfl⟩:=hp;obtain⟨D,g1,g2⟩:=one S N hns n l x1 m1 r1 h1 l' hl;obtain⟨l3,g3,g4⟩:=KZ h ds g L n r1 x2 m2 r2 h2 D g1;exact⟨l3,g3,by rw[g2,g4,bT,da,gX]⟩
     .cases hp
    .cases hp
  cases d with
  |int k=>
   simp only[sI]at hd;split at hd
   .rename_i g L;simp only[af]at hd;exact two (.int k) g rfl (λt h=>by cases h) L hd.symm
   .cases hd
  |bool=>
   simp only[sI]at hd;split at hd
   .rename_i g L;simp only[af]at hd;exact two .bool g rfl (λt h=>by cases h) L hd.symm
   .cases hd
  |string=>
   simp only[sI]at hd;split at hd
   .rename_i g L;simp only[af]at hd;exact two .str g rfl (λt h=>by cases h) L hd.symm
   .cases hd
  |_=>simp[sI]at hd
def Fn:∀(ds:Y TypeDesc) (T:Ty),sI ds=Z T->∀a b:T.den,jQ ds (bT T a) (bT T b)=Z (P1 T a b)
 |[],T,hd,a,b=>by simp only[sI,af]at hd;subst hd;rfl
 |d::ds,T,hd,a,b=>by
  cases d with
  |int k=>
   simp only[sI]at hd;split at hd
   .rename_i g D;cases hd;have A:=Fn ds g D a.2 b.2;simp only[bT,iE,m8,jQ,vU,cr,bw,P1];cases he:((a.1:Int)==b.1) with
    |true=>have z:(a.1:Int)=b.1:=by simpa using he
           simp only[A,z,aht,eg]
    |false=>have z:¬(a.1:Int)=b.1:=by simpa using he
            simp only[z,Z3,eO]
   .cases hd
  |bool=>
   simp only[sI]at hd;split at hd
   .rename_i g D;cases hd;have A:=Fn ds g D a.2 b.2;simp only[bT,iE,m8,jQ,vU,P1];cases he:((a.1:Bool)==b.1)<;>simp[he,A]
   .cases hd
  |string=>
   simp only[sI]at hd;split at hd
   .rename_i g D;cases hd;have A:=Fn ds g D a.2 b.2;simp only[bT,iE,m8,jQ,vU,P1,F4];cases he:decide ((a.1:ζ)=b.1) with
    |true=>simp only[A,eg]
    |false=>simp only[eO]
   .cases hd
  |_=>simp[sI]at hd
variable {E:Y TypeDesc}
def Qq (d:u.isC=aa) {L:Y TV} (D:u.cs=Z L) (hd:sI E=Z T) {a:T.den} (hp:eX PT.leaf 40 T L=Z (a,i,[])) (A:cg h u=Z y):Le y (.f (.agg (bT T a))):=by
 obtain⟨h1,_⟩:=IK D A;obtain⟨l2,h2,F⟩:=KZ h E T hd 40 L a i [] hp _ h1;simp only[cO,af]at h2;subst h2;rw[pD]at F;cases u with
 |agg l=>
  simp only[cg]at A;split at A
  .rename_i l' _;cases A;have:l'=(bT T a).map .f:=F;rw[this];exact Le.aggOf (pi T a)
  .cases A
 |f S x=>
  simp only[cg,af]at A;subst A;have N:S.one=aa:=d;rw[Cj]at F;have:bT S x=bT T a:=PC F;rw[r_ S x N,this];exact Le.refl _
 |qg l|undef|qv|qd S q=>simp[TV.cs,TV.isC]at D
 |zp id jj=>cases D
 |_=>cases d
variable (hinv:gV h nx) (hi:sD e h)
include hinv hi
variable {X:FuncId->M cD} {W:TypeId->M Ty}
def asn {y:Operand} {st:Bool} (hc:cX P o.op=Z (.jp b E d y)) (A:em X W (.op (.jp b E d y)) e h nx K=Z r):iW P o st e h nx K r:=by
 obtain⟨H,hH⟩:=gD h;simp only[em]at A;split at A
 .rename_i T u v hd hu hv;split at A
  .cases A
  .rename_i hcc;simp only[jN,not_or,Bool.not_eq_true]at hcc;split at A
   .rename_i lu lv hlu hlv;split at A
    .rename_i a m1 neg m2 hpa hpb;obtain⟨yu,h1,h2⟩:=bo hi hu;obtain⟨yv,h3,h4⟩:=bo hi hv;obtain⟨⟨⟨N,L⟩,hc3⟩,hc4⟩:=hcc;have l1:=Qq N hlu hd hpa h2;have l2:=Qq L hlv hd hpb h4;have tmp:∀(z:Operand) (q:TV),dD e z=Z q->q.isC=aa->Xj z=aa->∃t,z= .tmp t:=by
      intro z q x hq hg;cases z with
      |tmp t=>exact⟨t,rfl⟩
      |const c=>
       have x:cst c=Z q:=by
        simp only[dD,ane]at x;split at x
        .cases hg
        .exact x
       have:=(MX h x).2.2;rw[hq]at this;cases this
      |func g=>simp only[dD,af]at x;subst x;cases hq
      |global g=>
       simp only[dD]at x;split at x
       .cases x;cases hq
       .cases x
     obtain⟨t,rfl⟩:=tmp d u hu N hc3;obtain⟨F,rfl⟩:=tmp y v hv L hc4;have same:t=F->bT T a=bT T neg:=by
      intro ht;subst ht;rw[hu]at hv;cases hv;rw[hlu]at hlv;cases hlv;rw[hpa]at hpb;cases hpb;rfl
     let D:Dp:=((CL e h).set t (Z (.f (.agg (bT T a))))).set F (Z (.f (.agg (bT T neg))))
     have e1:mf D (.tmp t)=Z (.f (.agg (bT T a))):=by
      simp only[mf,D,PT.get_set];by_cases ht:t=F
      .rw[aG ht,same ht]
      .rw[aA ht];simp
     have e2:mf D (.tmp F)=Z (.f (.agg (bT T neg))):=by simp only[mf,D,PT.get_set,bw]
     have ha:dB (.jp b E (.tmp t) (.tmp F)) D H 0=Z ⟨raw (.bool (P1 T a neg !=b)),[],[],[],[]⟩:=by
      simp only[dB,e1,e2,Fn E T hd a neg];rfl
     have ht:=K6 hc ha;rw[hH]at ht;have ht2:fZ P o (fB e h) (erHF h) _:=ht.envLe (e2:=fB e h) λs z _ x=>by
      simp only[D,PT.get_set]at x;rw[<- Ch];simp only[mf]at h1 h3;split at x
      .rename_i es;subst es;cases x;exact⟨yv,h3,l2⟩
      .split at x
       .rename_i es;subst es;cases x;exact⟨yu,h1,l1⟩
       .exact⟨z,x,Le.refl _⟩
     refine ⟨_,0,0,h,nx,A,⟨⟨_,ht2,λy hy=>?_,by simp[Co.eff,vn],by simp[Co.eff],by simp[Co.eff],by simp[Co.eff]⟩,λ_ _ h=>h,hinv,cA _,λ_=>⟨rfl,rfl⟩⟩⟩;simp only[cg,af]at hy;exact hy
    .cases A
   .cases A
 .cases A
def asb (F:cX P o.op=Z .mkm) (D:em X W (.op .mkm) e h nx K=Z r):iW P o aa e h nx K r:=by
 have _:=hi;obtain⟨H,L⟩:=gD h;refine ⟨_,_,_,_,_,D,eL.new hinv F L (y0:=.mp (nm nx)) (rdl:=[]) (b0:=⟨0,.mp []⟩) rfl (dG.zero h) (λ_ _ he=>by cases he) (λH1 N d g b' z=>?_) (λH1 N y d g A=>?_) (by simp)⟩
 .cases z;exact fC.refl d _
 .simp only[cg,af]at A;subst A;exact kE.refl d _
def ap7 (N:cX P o.op=Z (.jz d)) (x:em X W (.op (.jz d)) e h nx K=Z r):iW P o aa e h nx K r:=by
 obtain⟨H,D⟩:=gD h;simp only[em]at x;split at x
 .rename_i id F;split at x
  .rename_i K' V es hb;obtain⟨y,h1,h2⟩:=bo hi F;simp only[cg,af]at h2;subst h2;split at x
   case isFalse=>cases x
   rename_i hO;have L:H.get (nm id)=Z ⟨0,.mp (es.map λp=>(rc K' p.1,.f (fO V p.2)))⟩:=by rw[D,bQ,hb];show Z (kx.mk 0 (mpC K' V es))=_;rw[yW hO]
   exact⟨_,_,_,_,_,x,eL.pure (k:=0) hinv N D (y0:=raw (.int .i64 (l! es))) (rdl:=[nm id]) (by simp only[dB,h1,L,bS]) (λy z=>by simp only[cg,af]at z;subst z;exact Le.refl _) (λn A=>by simp only[aE]at A;subst A;rw[dq];exact bC.2 rfl) nofun⟩
  .cases x
 .cases x
def asf {ok:Bool} {k:Operand} (hc:cX P o.op=Z (.jv b ok v d k)) (x:em X W (.op (.jv b ok v d k)) e h nx K=Z r):iW P o aa e h nx K r:=by
 obtain⟨H,hH⟩:=gD h;simp only[em]at x;split at x
 .rename_i id KT D hv hv2;split at x
  .rename_i K' V es hb;split at x
   .rename_i A;obtain⟨y,h1,h2⟩:=bo hi hv;obtain⟨y2,N,h4⟩:=bo hi hv2;simp only[cg,af]at h2 h4;subst h2 h4;simp only[au]at A;have hg:H.get (nm id)=Z ⟨0,.mp (es.map λp=>(rc K' p.1,.f (fO V p.2)))⟩:=by rw[hH,bQ,hb];show Z (kx.mk 0 (mpC K' V es))=_;rw[yW A.2]
    obtain⟨_,hok,henc⟩:=Rb A.1 D D;rw[henc]at N;have hrd:∀n∈[nm id],aO (fV id) (ow n)=J:=λn L=>by simp only[aE]at L;subst L;rw[dq];exact bC.2 rfl
    split at x
    .rename_i hE;split at x
     .rename_i z hz;have hzz:=(MX h hz).1;exact⟨_,_,_,_,_,x,eL.pure (k:=0) hinv hc hH (y0:=pkV ok (raw v) aa) (rdl:=[nm id]) (by simp only[dB,h1,N,hg,hok,bw,Li hE,tg]) (λy F=>by rw[aed hzz]at F;cases F;exact Le.refl _) hrd nofun⟩
     .cases x
    .split at x
     .rename_i kv' g zv hkv hz;split at x
      .rename_i zv' hzv;obtain⟨e1,e2⟩:=gU hkv;cases e1;subst e2;obtain⟨e3,e4⟩:=gU hzv;cases e3;subst e4;have hzz:=(MX h hz).1;simp only[cg,af]at hzz;refine ⟨_,_,_,_,_,x,eL.pure (k:=0) hinv hc hH (y0:=pkV ok (.f (fO _ (vM kv' es zv'))) (aaa kv' es)) (rdl:=[nm id]) ?_ (λy F=>by rw[aed (y:=.f (fO _ (vM kv' es zv'))) rfl]at F;cases F;exact Le.refl _) hrd nofun⟩;simp only[dB,h1,N,hg,hok,bw,Lj A.1];unfold vM aaa;cases hf:uB kv' es with
       |none=>simp only[Option.map_none];rw[hzz]
       |some z=>rfl
      .cases x
     .cases x
   .cases x
  .rename_i l hb;split at x
   .rename_i n hkv;split at x
    case isFalse=>cases x
    rename_i A;simp only[au]at A;split at x
    .rename_i z hlv;obtain⟨e1,e2⟩:=gU hkv;cases e1
     replace e2:n=D:=e2
     subst n;obtain⟨y,h1,h2⟩:=bo hi hv;obtain⟨y2,N,h4⟩:=bo hi hv2;simp only[cg,af]at h2 h4;subst h2 h4;obtain⟨l',hl⟩:=eR h l (hinv.C id _ l hb);obtain⟨y,F,hey⟩:=lK hl _ _ hlv;have hg:H.get (nm id)=Z ⟨1,.mp (pP 0 l')⟩:=by rw[hH,bQ,hb];simp only[aC,jY,hl]
     have ht:told D (pP 0 l')=Z y:=by
      have h0:(0:Int)<=D:=bl A.2.1;have L:(D:Int)=aR (0+aS D):=by rw[bO];exact (Int.toNat_of_nonneg h0).symm
      rw[L,PF];exact F
     have henc:fO (.int .i64) D= .raw (.int .i64 D):=rfl;rw[henc]at N;exact⟨_,_,_,_,_,x,eL.pure (k:=0) hinv hc hH (y0:=y) (rdl:=[nm id]) (by simp only[dB,h1,N,hg,A.1.1,A.1.2.1,A.1.2.2,fw,bw,ht]) (λq hq=>by rw[hey]at hq;cases hq;exact Le.refl _) (λn L=>by simp only[aE]at L;subst L;rw[dq];exact bC.2 rfl) nofun⟩
    .cases x
   .cases x
  .cases x
 .cases x
def asa {k v:Operand} (hc:cX P o.op=Z (.jw b d k v)) (D:em X W (.op (.jw b d k v)) e h nx K=Z r):iW P o aa e h nx K r:=by
 obtain⟨H,hH⟩:=gD h;simp only[em]at D;split at D
 .rename_i id KT z VT vv hv hv2 hv3;split at D
  .rename_i K' V es N;split at D
   .rename_i F;simp only[au]at F;obtain⟨y,h1,h2⟩:=bo hi hv;obtain⟨y2,h3,h4⟩:=bo hi hv2;obtain⟨y3,h5,h6⟩:=bo hi hv3;simp only[cg,af]at h2 h4 h6;subst h2 h4 h6;have hg:H.get (nm id)=Z ⟨0,.mp (es.map λp=>(rc K' p.1,.f (fO V p.2)))⟩:=by rw[hH,bQ,N];show Z (kx.mk 0 (mpC K' V es))=_;rw[yW F.2]
    obtain⟨_,hok,henc⟩:=Rb F.1.1 z z;rw[henc]at h3;have hrd:∀n∈[nm id],aO (fV id) (ow n)=J:=λn hn=>by simp only[aE]at hn;subst hn;rw[dq];exact bC.2 rfl
    split at D
    .rename_i hE;exact⟨_,_,_,_,_,D,eL.wrt (k:=0) (m:=0) (v:=.undef) (rd:=fV id) hinv hc hH (y0:=raw undef) (b0:=⟨0,.mp [(rc KT z,.f (fO VT vv))]⟩) (rdl:=[nm id]) (by simp only[dB,h1,h3,h5,hg,hok,bw,Li hE,yY]) (B:=.mp KT VT [(z,vv)]) N (dG.zero h) (by simp) rfl (λty' l2 he=>by cases he) (λH1 H2 x g b' A=>by simp only[jY,yW (Ze F.1.1),af]at A;subst A;exact fC.refl x _) (λH1 H2 y x g L=>by simp only[cg,af]at L;subst L;exact kE.refl x _) hrd⟩
    .split at D
     .rename_i kv' vv' hkv hvv;obtain⟨e1,e2⟩:=gU hkv;cases e1;subst e2;obtain⟨e3,e4⟩:=gU hvv;cases e3;subst e4;exact⟨_,_,_,_,_,D,eL.wrt (k:=0) (m:=0) (v:=.undef) (rd:=fV id) hinv hc hH (y0:=raw undef) (b0:=⟨0,.mp ((vJ kv' vv' es).map λp=>(rc _ p.1,.f (fO _ p.2)))⟩) (rdl:=[nm id]) (by simp only[dB,h1,h3,h5,hg,hok,bw,Q7 F.1.1]) (B:=.mp _ _ (vJ kv' vv' es)) N (dG.zero h) (by simp) rfl (λty' l2 he=>by cases he) (λH1 H2 x g b' A=>by simp only[jY,yW (Ze F.1.1),af]at A;subst A;exact fC.refl x _) (λH1 H2 y x g L=>by simp only[cg,af]at L;subst L;exact kE.refl x _) hrd⟩
     .cases D
   .cases D
  .cases D
 .rename_i id KT z i hv hv2 hv3;split at D
  .rename_i l N;split at D
   .rename_i n hkv;split at D
    case isFalse=>cases D
    rename_i F;simp only[au]at F;obtain⟨e1,e2⟩:=gU hkv;cases e1
    replace e2:n=z:=e2
    subst n;obtain⟨y,h1,h2⟩:=bo hi hv;obtain⟨y2,h3,h4⟩:=bo hi hv2;obtain⟨y3,h5,h6⟩:=bo hi hv3;simp only[cg,af]at h2 h4;subst h2 h4;obtain⟨l',hl⟩:=eR h l (hinv.C id _ l N);have hg:H.get (nm id)=Z ⟨1,.mp (pP 0 l')⟩:=by rw[hH,bQ,N];simp only[aC,jY,hl]
    have h0:(0:Int)<=z:=bl F.2.1;have h9:(z:Int)<(l! l:Int):=bl F.2.2;have hlen:=gT hl;have hn:(z:Int)=aR (0+aS z):=by rw[bO];exact (Int.toNat_of_nonneg h0).symm
    have ht:mN z y3 (pP 0 l')=pP 0 (splice l' (aS z) [y3]):=by
     rw[KJ (by rw[hlen];exact (Int.toNat_lt h0).2 h9)]
     conv=>lhs;rw[hn]
     exact TG y3 l' 0 _
    have hs:cO h (splice l (aS z) [.G i])=Z (splice l' (aS z) [y3]):=oL _ hl (by simp only[cO,h6]);have hr:b9 h (h.set id (Z (.C U (splice l (aS z) [.G i])))):=b9.set λr hr=>by rw[bH,N]at hr;cases hr
    have henc:fO (.int .i64) z= .raw (.int .i64 z):=rfl;rw[henc]at h3;have hstr:b=aa:=by cases b with
     |false=>rfl
     |true=>cases F.1
    subst hstr;exact⟨_,_,_,_,_,D,eL.wrt (k:=0) (m:=0) (v:=.undef) (rd:=fV id) hinv hc hH (y0:=raw undef) (b0:=⟨1,.mp (pP 0 (splice l' (aS z) [y3]))⟩) (rdl:=[nm id]) (by simp only[dB,h1,h3,h5,hg,ht,bM,c8]) (B:=.C U (splice l (aS z) [.G i])) N (dG.zero h) (by simp) rfl (λty' l2 he=>by cases he;exact li _ _ _ (fT hr _ _ hs)) (λH1 H2 x g b' A=>by
     have A:jY (h.set id (Z (.C U (splice l (aS z) [.G i])))) (.C U (splice l (aS z) [.G i]))=Z b':=A;simp only[jY,fT hr _ _ hs,af]at A;subst A;exact fC.refl x _) (λH1 H2 y x g L=>by simp only[cg,af]at L;subst L;exact kE.refl x _) (λn hn=>by simp only[aE]at hn;subst hn;rw[dq];exact bC.2 rfl)⟩
   .cases D
  .cases D
 .cases D
def as7 (L:cX P o.op=Z (.rng d)) (z:em X W (.op (.rng d)) e h nx K=Z r):iW P o aa e h nx K r:=by
 obtain⟨H,N⟩:=gD h;simp only[em]at z;split at z
 .rename_i s F;obtain⟨y,h1,h2⟩:=bo hi F;simp only[cg,af]at h2;subst h2;refine ⟨_,_,_,_,_,z,eL.new hinv L N (y0:=.H (nm nx) 0) (rdl:=[]) (b0:=⟨0,.it ⟨fh s⟩ 0⟩) (by simp only[dB,h1];rfl) (dG.zero h) (λ_ _ he=>by cases he) (λH1 H2 x g b' A=>?_) (λH1 H2 y x g D=>?_) (by simp)⟩
  .cases A;exact fC.refl x _
  .simp only[cg,af]at D;subst D;exact kE.refl x _
 .cases z
def as8 (hc:cX P o.op=Z (.nxt d)) (z:em X W (.op (.nxt d)) e h nx K=Z r):iW P o aa e h nx K r:=by
 obtain⟨H,L⟩:=gD h;simp only[em]at z;split at z
 .rename_i id hv;split at z
  .rename_i K' V es F;split at z
   .rename_i s p hI;obtain⟨y,h1,h2⟩:=bo hi hv;simp only[cg,af]at h2;subst h2;have hg:H.get (nm id)=Z ⟨0,.it ⟨fh s⟩ p⟩:=by rw[L,bQ,F];show Z (kx.mk 0 (mpC K' V es))=_;rw[an3 hI]
    have hrd:∀n∈[nm id],aO (fV id) (ow n)=J:=λn hn=>by simp only[aE]at hn;subst hn;rw[dq];exact bC.2 rfl
    rcases lT z with ⟨hp,z⟩|⟨hp,z⟩
    .have hp:=aZ hp;have e2:(⟨fh s⟩:ByteArray).data.toList[p]? =Z (List.getD s p 0):=by
      show s[p]? =_;rw[aB,aD hp];rfl
     exact⟨_,_,_,_,_,z,eL.wrt (k:=0) (m:=0) (rd:=fV id) hinv hc L (y0:=.qg [raw (.bool J),raw (.int .i64 p),raw (.int .i32 (QR s p))]) (b0:=⟨0,.it ⟨fh s⟩ (p+Wv s p)⟩) (rdl:=[nm id]) (by simp only[dB,h1,hg,e2];rfl) (B:=.mp nK .un [((s,aR (p+Wv s p)),())]) F (dG.zero h) (by simp) rfl (λty' l2 he=>by cases he) (λH1 N x g b' A=>by cases A;exact fC.refl x _) (λH1 N y x g D=>by cases D;exact kE.refl x _) hrd⟩
    .have hp:l! s<=p:=Nat.not_lt.1 λq=>by rw[show dJ p (l! s)=J from ba q]at hp;cases hp
     have e2:(⟨fh s⟩:ByteArray).data.toList[p]? =U:=by
      show s[p]? =_;exact bK hp
     exact⟨_,_,_,_,_,z,eL.wrt (k:=0) (m:=0) (rd:=fV id) hinv hc L (y0:=.qg [raw (.bool aa)]) (b0:=⟨0,.it ⟨fh s⟩ p⟩) (rdl:=[nm id]) (by simp only[dB,h1,hg,e2]) (B:=.mp nK .un [((s,aR p),())]) F (dG.zero h) (by simp) rfl (λty' l2 he=>by cases he) (λH1 N x g b' A=>by cases A;exact fC.refl x _) (λH1 N y x g D=>by cases D;exact kE.refl x _) hrd⟩
   .cases z
  .cases z
 .cases z
def K_op {s:O1} (D:cX P o.op=Z s) (A:em X W (.op s) e h nx K=Z r):iW P o s.still e h nx K r:=by
 cases s with
 |mv x=>exact K_mv hinv hi D A
 |pick c a b=>exact ap2 hinv hi D A
 |alloc ty z=>exact al7 hinv hi D A
 |box ty x=>exact asr hinv hi D A
 |build z parts=>exact al6 hinv hi D A
 |xx ty sz len z parts=>exact asq hinv hi D A
 |load sz F x=>exact ap5 hinv hi D A
 |store sz x v=>exact al3 hinv hi D A
 |zd x=>exact ap3 hinv hi D A
 |bin op x y=>exact ass hinv hi D A
 |jp neg ds x y=>exact asn hinv hi D A
 |xz neg x y=>exact aso hinv hi D A
 |zf neg x=>exact al5 hinv hi D A
 |not x=>exact as9 hinv hi D A
 |conv k x=>exact apa hinv hi D A
 |zg ty sz bytes z l c=>exact ap4 hinv hi D A
 |slc sz x N L mx=>exact as6 hinv hi D A
 |jk off x=>exact asl hinv hi D A
 |fld off sz F x=>exact ask hinv hi D A
 |jy sz x i=>exact asj hinv hi D A
 |idx n sz F x i=>exact asi hinv hi D A
 |jq n sz x i=>exact ap8 hinv hi D A
 |ext x i=>exact asm hinv hi D A
 |len x=>exact ash hinv hi D A
 |lens x=>exact ap6 hinv hi D A
 |max x y=>exact ase hinv hi D A
 |min x y=>exact asd hinv hi D A
 |zr x i=>exact ap1 hinv hi D A
 |app ty sz bytes s x=>exact ast hinv hi D A
 |copy sz d x=>exact ap9 hinv hi D A
 |clr sz z x=>exact asp hinv hi D A
 |mkf f caps=>exact asc hinv hi D A
 |mkm=>exact asb hinv hi D A
 |rng x=>exact as7 hinv hi D A
 |nxt x=>exact as8 hinv hi D A
 |jz x=>exact ap7 hinv hi D A
 |jv str ok z x k=>exact asf hinv hi D A
 |jw str x k v=>exact asa hinv hi D A
 |_=>simp[em]at A
end ops
mutual
def AV.qx (g:Nat->Nat):AV->AV
 |.f x=>.f x
 |.H id off=>.H (g id) off
 |.sl id off n=>.sl (g id) off n
 |.G id sz n=>.G (g id) sz n
 |.mp id=>.mp (g id)
 |.emp=>.emp
 |.qv=>.qv
 |.qd l n=>.qd l n
 |.agg l=>.agg (AV.renL g l)
 |.qg l=>.qg (AV.renL g l)
 |.qy q l=>.qy q (AV.renL g l)
def AV.renL (g:Nat->Nat):Y AV->Y AV
 |[]=>[]
 |x::r=>x.qx g::AV.renL g r
end
def oc (g:Nat->Nat):∀l,AV.renL g l=l.map (AV.qx g)
 |[]=>rfl
 |x::r=>by rw[AV.renL,oc g r];rfl
def EB (g:Nat->Nat) (x:AV):(x.qx g).isCell=x.isCell:=by cases x<;>rfl
variable {g:Nat->Nat}
def cu.renTo {φ':PM} {w:World} (L:∀i k,V i=Z k->φ' (g i)=Z k) (h:cu V O w y v):cu φ' O w (y.qx g) v:=by
 induction h with
 |f h=>exact .f h
 |H h=>exact .H (L _ _ h)
 |sl h N hc=>exact .sl (L _ _ h) N hc
 |G h N hc hsh=>exact .G (L _ _ h) N hc hsh
 |emp=>exact .emp
 |qv=>exact .qv
 |qd h=>exact .qd h
 |mp h=>exact .mp (L _ _ h)
 |agg F hcl hr A=>
  simp only[AV.qx,oc];refine .agg (by simpa using F) (λy d=>?_) λj y v d D=>?_
  .obtain⟨x,z,rfl⟩:=cq.1 d;rw[EB];exact hcl x z
  .rw[a8]at d;obtain⟨x,z,rfl⟩:=dz.1 d;exact A j x v z D
 |qg F hr A=>
  simp only[AV.qx,oc];refine .qg (by simpa using F) λj y v d D=>?_
  rw[a8]at d;obtain⟨x,z,rfl⟩:=dz.1 d;exact A j x v z D
 |qy F hr A=>
  simp only[AV.qx,oc];refine .qy (by simpa using F) λj y v d D=>?_
  rw[a8]at d;obtain⟨x,z,rfl⟩:=dz.1 d;exact A j x v z D
def cu.renFrom {φ':PM} {w:World} (N:∀i k,p i=J->V (g i)=Z k->φ' i=Z k) (h:cu V O w y v):∀x:AV,x.all p=J->y=x.qx g->cu φ' O w x v:=by
 induction h with
 |f h=>intro x hp e;cases x<;>simp only[AV.qx,reduceCtorEq]at e;cases e;exact .f h
 |H h=>intro x hp e;cases x<;>simp only[AV.qx,reduceCtorEq]at e;cases e;exact .H (N _ _ hp h)
 |sl h hn hc=>intro x hp e;cases x<;>simp only[AV.qx,reduceCtorEq]at e;cases e;exact .sl (N _ _ hp h) hn hc
 |G h hn hc hsh=>intro x hp e;cases x<;>simp only[AV.qx,reduceCtorEq]at e;cases e;exact .G (N _ _ hp h) hn hc hsh
 |emp=>intro x hp e;cases x<;>simp only[AV.qx,reduceCtorEq]at e;exact .emp
 |qv=>intro x hp e;cases x<;>simp only[AV.qx,reduceCtorEq]at e;exact .qv
 |qd h=>intro x hp e;cases x<;>simp only[AV.qx,reduceCtorEq]at e;cases e;exact .qd h
 |mp h=>intro x hp e;cases x<;>simp only[AV.qx,reduceCtorEq]at e;cases e;exact .mp (N _ _ hp h)
 |agg D hcl L A=>
  intro x hp e;cases x<;>simp only[AV.qx,reduceCtorEq]at e;rename_i l;cases e;rw[oc]at D hcl L A;refine .agg (by simpa using D) (λx d=>?_) λj x v d F=>?_
  .have:=hcl (x.qx g) (cq.2 ⟨x,d,rfl⟩);rwa [EB]at this
  .exact A j (x.qx g) v (by rw[a8,d];rfl) F x (ny hp x (bf d)) rfl
 |qg D L A=>
  intro x hp e;cases x<;>simp only[AV.qx,reduceCtorEq]at e;rename_i l;cases e;rw[oc]at D L A;refine .qg (by simpa using D) λj x v d F=>?_
  exact A j (x.qx g) v (by rw[a8,d];rfl) F x (ny hp x (bf d)) rfl
 |qy D L A=>
  intro x hp e;cases x<;>simp only[AV.qx,reduceCtorEq]at e;rename_i l;cases e;rw[oc]at D L A;refine .qy (by simpa using D) λj x v d F=>?_
  exact A j (x.qx g) v (by rw[a8,d];rfl) F x (ny hp x (bf d)) rfl
def BC.qx (g:Nat->Nat):BC->BC
 |.fz l=>.fz l
 |.mx l=>.mx (l.map (AV.qx g))
 |.mp es=>.mp (es.map λp=>(p.1,p.2.qx g))
 |.it s p=>.it s p
def kx.qx (g:Nat->Nat) (b:kx):kx:=⟨b.ty,b.c.qx g⟩
def gw.renTo {φ':PM} {O':Nat->Prop} {w:World} (F:∀x v,cu V O w x v->cu φ' O' w (x.qx g) v) {o:Obj} (h:gw V O w z o):gw φ' O' w (z.qx g) o:=by
 obtain⟨ty,c⟩:=z;unfold gw at h ⊢;simp only[kx.qx];cases c with
 |fz l=>
  simp only[BC.qx];obtain⟨arr,h1,h2,A⟩:=h;refine ⟨arr,h1,h2,λj x b=>?_⟩;obtain⟨a,v,c,d⟩:=A j x b;simp only[BC.get]at b;obtain⟨q,_,rfl⟩:=dz.1 b;exact⟨a,v,c,F _ _ d⟩
 |mx l=>
  simp only[BC.qx];obtain⟨arr,h1,h2,A⟩:=h;refine ⟨arr,h1,by simpa[BC.len] using h2,λj x b=>?_⟩;simp only[BC.get,a8]at b;obtain⟨q,D,rfl⟩:=dz.1 b;obtain⟨a,v,c,d⟩:=A j q D;exact⟨by rw[EB];exact a,v,c,F _ _ d⟩
 |mp es=>
  simp only[BC.qx];obtain⟨e,c,h1,h2,A⟩:=h;refine ⟨e,c,h1,by rw[ZY];exact h2,λj x b=>?_⟩;rw[a8]at b;obtain⟨q,D,rfl⟩:=dz.1 b;obtain⟨m,a,z⟩:=A j q D;exact⟨m,a,F _ _ z⟩
 |it s p=>exact h
def gw.renFrom {φ':PM} {O':Nat->Prop} {w:World} (D:∀x v,x.all p=J->cu V O w (x.qx g) v->cu φ' O' w x v) (F:z.c.all p=J) {o:Obj} (h:gw V O w (z.qx g) o):gw φ' O' w z o:=by
 obtain⟨ty,c⟩:=z;unfold gw at h ⊢;simp only[kx.qx]at h;cases c with
 |fz l=>
  simp only[BC.qx]at h;obtain⟨arr,h1,h2,A⟩:=h;refine ⟨arr,h1,h2,λj x b=>?_⟩;obtain⟨a,v,c,d⟩:=A j x b;simp only[BC.get]at b;obtain⟨q,_,rfl⟩:=dz.1 b;exact⟨a,v,c,D _ _ rfl d⟩
 |mx l=>
  simp only[BC.qx]at h;obtain⟨arr,h1,h2,A⟩:=h;refine ⟨arr,h1,by simpa[BC.len] using h2,λj x b=>?_⟩;simp only[BC.get]at b;obtain⟨a,v,c,d⟩:=A j (x.qx g) (by simp only[BC.get,a8,b];rfl);rw[EB]at a;exact⟨a,v,c,D _ _ (ny F x (bf b)) d⟩
 |mp es=>
  simp only[BC.qx]at h;obtain⟨e,c,h1,h2,A⟩:=h;refine ⟨e,c,h1,by rw[ZY]at h2;exact h2,λj x b=>?_⟩;obtain⟨m,a,z⟩:=A j (x.1,x.2.qx g) (by rw[a8,b];rfl);exact⟨m,a,D _ _ (ny F x.2 (cq.2 ⟨x,bf b,rfl⟩)) z⟩
 |it s p=>exact h
mutual
def AU (g:Nat->Nat):TV->TV
 |.G i=>.G (g i)
 |.zp i j=>.zp (g i) j
 |.agg l=>.agg (lC g l)
 |.qg l=>.qg (lC g l)
 |.qy q l=>.qy q (lC g l)
 |.f T v=>.f T v
 |.zk T xs j h off=>.zk T xs j h off
 |.ql a b c d=>.ql (g a) b c d
 |.H a b=>.H (g a) b
 |.qw a b c=>.qw (g a) b c
 |.emp=>.emp
 |.nil=>.nil
 |.mp i=>.mp (g i)
 |.undef=>.undef
 |.np=>.np
 |.qv=>.qv
 |.qd T xs=>.qd T xs
 |.sb s=>.sb (s.to (g s.id))
def lC (g:Nat->Nat):Y TV->Y TV
 |[]=>[]
 |x::r=>AU g x::lC g r
end
def ve (g:Nat->Nat):∀l,lC g l=l.map (AU g)
 |[]=>rfl
 |x::r=>by rw[lC,ve g r];rfl
def lj (g:Nat->Nat):eG->eG
 |.C ty l=>.C ty (lC g l)
 |.F ty p T xs=>.F ty p T xs
 |.qj p sz n=>.qj p sz n
 |.mp K V es=>.mp K V es
 |.I F a x=>.I F (F.aid (g a)) x
 |.qm F a x k p=>.qm F (F.aid (g a)) x k (p.map λq=>(g q.1,q.2))
def KN (g:Nat->Nat) (b:eG):iH (lj g b)=iH b:=by cases b<;>rfl
def pC (g:Nat->Nat) (n:Nat):Nat:=jK (g (ow n)) (ix n)
def Cf (g:Nat->Nat) (i k:Nat):pC g (jK i k)=jK (g i) k:=by unfold pC;rw[iL,vN]
def Bl (g:Nat->Nat) (i:Nat):pC g (nm i)=nm (g i):=Cf g i 0
def Kr (g:Nat->Nat) (i:Nat) (j:Int):pC g (pG i j)=pG (g i) j:=Cf g i _
def xg (g:Nat->Nat) (n:Nat):ow (pC g n)=g (ow n):=iL _ _
def yZ (g:Nat->Nat) (n:Nat):ix (pC g n)=ix n:=vN _ _
def Tf (g:Nat->Nat) (id j sz n:Nat):(uh id j sz n).qx (pC g)=uh (g id) j sz n:=by
 unfold uh;split
 .rfl
 .simp only[AV.qx,Cf]
def ajs (g:Nat->Nat) (s:Sb):Jw (s.to (g s.id))=(Jw s).qx (pC g):=by
 cases s with
 |nr id j sz n=>simp only[Sb.to,Sb.id,Jw,Tf]
 |_=>simp only[Sb.to,Sb.id,Jw,AV.qx,Kr,Cf]
mutual
def ana {g:Nat->Nat} {h1 h2:bk} (hrow:∀i r,eu h1 i=Z r->eu h2 (g i)=Z r):∀(v:TV) (y:AV),cg h1 v=Z y->cg h2 (AU g v)=Z (y.qx (pC g))
 |.f _ _,y,he|.zk _ _ _ _ _,y,he=>by simp only[cg,af]at he;subst he;rfl
 |.ql _ _ _ _,y,he|.H _ _,y,he|.qw _ _ _,y,he=>by simp only[cg,af]at he;subst he;simp only[AU,cg,AV.qx,Bl]
 |.G id,y,he=>by
  simp only[cg]at he;split at he
  .rename_i p sz n hr;cases he;simp only[AU,cg,hrow id _ hr];unfold dv;split
   .rfl
   .simp only[AV.qx,Bl]
  .cases he
 |.zp id jj,y,he=>by
  simp only[cg]at he;split at he
  .rename_i p sz n hr;cases he;simp only[AU,cg,hrow id _ hr,AV.qx,Bl]
  .cases he
 |.emp,y,he|.nil,y,he=>by simp only[cg,af]at he;subst he;rfl
 |.mp _,y,he=>by simp only[cg,af]at he;subst he;simp only[AU,cg,AV.qx,Bl]
 |.agg l,y,he|.qg l,y,he|.qy q l,y,he=>by
  simp only[cg]at he;split at he
  .rename_i l' hl;cases he;simp only[AU,cg,qB hrow l l' hl,AV.qx]
  .cases he
 |.undef,y,he|.np,y,he|.qv,y,he|.qd _ _,y,he=>by simp only[cg,af]at he;subst he;rfl
 |.sb s,y,he=>by simp only[cg,af]at he;subst he;simp only[AU,cg,ajs]
def qB {g:Nat->Nat} {h1 h2:bk} (hrow:∀i r,eu h1 i=Z r->eu h2 (g i)=Z r):∀(l:Y TV) (l':Y AV),cO h1 l=Z l'->cO h2 (lC g l)=Z (AV.renL (pC g) l')
 |[],l',he=>by simp only[cO,af]at he;subst he;rfl
 |x::r,l',he=>by
  obtain⟨y,l2,rfl,e1,e2⟩:=dh he;exact qC (ana hrow x y e1) (qB hrow r l2 e2)
end
def UN (g:Nat->Nat) (a:Nat) (es:Y e?):(wA a es).map (λp=>(p.1,p.2.qx (pC g)))=wA (g a) es:=by
 unfold wA;rw[kZ];refine nA λe _=>?_
 simp only[Function.comp,AV.qx,Kr]
def UL (g:Nat->Nat) (a:Nat) (k:Γ) (v:AV):∀es:Y e?,(Mi a k v es).map (λp=>(p.1,p.2.qx (pC g)))=Mi (g a) k (v.qx (pC g)) es
 |[]=>rfl
 |e::r=>by
  simp only[Mi];split
  .rw[ca,UN]
  .rw[ca,UL g a k v r];simp only[AV.qx,Kr]
def Gr (g:Nat->Nat) (a sz:Nat):∀(ls:η) (k:Nat),(lY a sz k ls).map (AV.qx (pC g))=lY (g a) sz k ls
 |[],_=>rfl
 |l::r,k=>by simp only[lY,ca,Tf,Gr g a sz r (k+1)]
def aa2 (g:Nat->Nat) (p:Bool) (id sz n:Nat):(dv p id sz n).qx (pC g)=dv p (g id) sz n:=by
 unfold dv;split
 .rfl
 .simp only[AV.qx,Bl]
def aeb (g:Nat->Nat) (a:Nat) (d:η):(d.map λj=>AV.H (pG a j) 0).map (AV.qx (pC g))=d.map λj=>.H (pG (g a) j) 0:=by
 rw[kZ];refine nA λj _=>?_
 simp only[Function.comp,AV.qx,Kr]
def UD (g:Nat->Nat) (a:Nat) (F:t_) (x:F.ty.den):sC (F.aid (g a)) F x=(sC a F x).map (kx.qx (pC g)):=by
 cases F with
 |qc ty=>
  simp only[sC,t_.aid];split
  .rfl
  .exact (ey (λz=>Z (kx.mk ty (.mx z))) (aeb g a x)).symm
 |qh=>exact (ey (λz=>Z (kx.mk 0 (.mp z))) (UN g a x)).symm
 |rr ty sz=>exact (ey (λz=>Z (kx.mk ty (.mx z))) (Gr g a sz x 0)).symm
 |_=>rfl
def aau (g:Nat->Nat) (a:Nat) (k:Γ) (F:t_) (x:F.ty.den) (p:M (Nat×Bool×Nat)):Zr (F.aid (g a)) k F x (p.map λq=>(g q.1,q.2))=(Zr a k F x p).map (kx.qx (pC g)):=by
 cases F with
 |qh=>
  cases p with
  |none=>rfl
  |some q=>
   have:=UL g a k (.H (nm q.1) 0) x;simp only[AV.qx,Bl]at this;exact (ey (λz=>Z (kx.mk 0 (.mp z))) this).symm
 |rr ty sz=>
  cases p with
  |none=>rfl
  |some q=>
   have:=Gr g a sz x 0;simp only[Zr,t_.aid,bx,kx.qx,BC.qx,List.map_set,aa2];exact (ey (λz=>Z (kx.mk ty (.mx (z.set k.1.toNat (dv q.2.1 (g q.1) sz q.2.2))))) this).symm
 |_=>rfl
def aaw (g:Nat->Nat) (k:Nat) (ty:TypeId) (T:Ty) (xss:Y (Y T.den)):pm k ty T xss=(pm k ty T xss).map (kx.qx (pC g)):=by
 unfold pm;cases xss[k]? with
 |none=>rfl
 |some xs=>
  simp only[aC,XI];split<;>rfl
def aax (g:Nat->Nat) (i k:Nat) (ty:TypeId) (S:Ty) (xs:Y (BR S)):oK (g i) k ty S xs=(oK i k ty S xs).map (kx.qx (pC g)):=by
 unfold oK;rw[Option.map_map];congr 1;funext o;simp only[Function.comp,vT];split
 .simp only[kx.qx,BC.qx,da,kZ,ca,wI,AV.qx,Cf];rfl
 .simp only[kx.qx,BC.qx,GC,kZ];rfl
def Ma (g:Nat->Nat) (i k:Nat) (F:t_) (x:F.ty.den):Br (g i) k F x=(Br i k F x).map (kx.qx (pC g)):=by
 cases F with
 |ar ty S=>
  exact aax g i k ty S x
 |ir ty T=>
  exact aaw g k ty T x
 |_=>rfl
def TD (g:Nat->Nat) (i k:Nat) (b:eG):wx (g i) k (lj g b)=(wx i k b).map (kx.qx (pC g)):=by
 cases b with
 |I F a x=>exact Ma g i k F x
 |qm F a x j p=>
  cases p with
  |none=>
   simp only[lj,wx,Option.map_none];split
   .rfl
   .exact Ma g i k F x
  |some q=>exact Ma g i k F x
 |_=>rfl
def ajv {h2:bk} (hrow:∀i r,eu h i=Z r->eu h2 (g i)=Z r) {b:eG} (he:jY h b=Z z):jY h2 (lj g b)=Z (z.qx (pC g)):=by
 cases b with
 |F ty p T xs=>
  simp only[jY]at he;split at he
  .cases he
  .rename_i y;cases he;simp only[lj,jY,aA y];rfl
 |C ty l=>
  cases ty with
  |some ty=>
   simp only[jY]at he;split at he
   .rename_i l' d;cases he;simp only[lj,jY,qB hrow l l' d,oc];rfl
   .cases he
  |none=>
   simp only[jY]at he;split at he
   .rename_i l' d;cases he;simp only[lj,jY,qB hrow l l' d,oc,kx.qx,BC.qx,<-TI]
   .cases he
 |qj p sz n=>cases he
 |mp K V es=>
  simp only[jY,af]at he;subst he;simp only[lj,jY,kx.qx,af,kx.mk.injEq,true_and];unfold mpC;split
  .rfl
  .simp only[BC.qx,kZ];rfl
 |I F a x=>
  simp only[jY]at he;simp only[lj,jY,UD,he,bx]
 |qm F a x k p=>
  simp only[jY]at he;simp only[lj,jY,aau,he,bx]
def Cg {h2:bk} (hrow:∀i r,eu h i=Z r->eu h2 (g i)=Z r) {b:eG} :∀{k:Nat},NJ h i k b=Z z->NJ h2 (g i) k (lj g b)=Z (z.qx (pC g))
 |0,he=>ajv hrow he
 |k+1,he=>by
  simp only[NJ]at he ⊢;rw[TD,he];rfl
def EC (g:Nat->Nat) (a b:Y TV):lC g (a++b)=lC g a++lC g b:=by
 rw[ve,ve,ve,da]
def rf (g:Nat->Nat):∀(n:Nat) (T:Ty) (v:T.den) (l:Y TV),cellsOf n T v=Z l->lC g l=l
 |0,_,_,_,he=>by simp[cellsOf]at he
 |n+1,.st t,v,l,he=>rf g n t v l he
 |n+1,.pr a b,v,l,he=>by
  simp only[cellsOf]at he;split at he
  .rename_i x y z d;cases he;rw[EC,rf g n a v.1 x z,rf g n b v.2 y d]
  .cases he
 |n+1,.un,v,l,he=>by simp only[cellsOf,af]at he;subst he;rfl
 |n+1,.ex,v,l,he=>rf g n PY (QI v) l he
 |n+1,.sm,v,l,he=>rf g n Pn (QH v) l he
 |n+1,.int k,v,l,he|n+1,.bool,v,l,he|n+1,.str,v,l,he|n+1,.sl t,v,l,he=>by simp only[cellsOf,af]at he;subst he;rfl
abbrev Kj:Nat->Nat:=λi=>i
mutual
def ae9 (g:Nat->Nat):∀(p:PV) (x:p.ty.den),oT g p x=(oT Kj p x).map (lC g)
 |.d T,x=>by
  simp only[oT];cases h:cellsOf 40 T x with
  |none=>rfl
  |some l=>simp only[bx,rf g 40 T x l h]
 |.H i o,x|.qw i o z,x=>rfl
 |.qy q ps,x=>by simp only[oT,bx,lC,AU,ve,kZ];rfl
 |.ob i o,x|.G i,x|.mp i,x|.nil,x|.emp,x=>rfl
 |.agg ps,x=>BZ g ps x
def BZ (g:Nat->Nat):∀(ps:Y PV) (x:(PV.tyL ps).den),sF g ps x=(sF Kj ps x).map (lC g)
 |[],x=>rfl
 |p::r,x=>by
  simp only[sF];rw[ae9 g p,BZ g r];cases oT Kj p (Rx p.ty (PV.tyL r) x) with
  |none=>rfl
  |some a=>
   cases sF Kj r (NV p.ty (PV.tyL r) x) with
   |none=>rfl
   |some b=>simp only[bx,EC]
end
def ank (o:M (Y TV)):M TV:=match o with|some l=>Z (.agg l)|none=>U
def agp (g:Nat->Nat) (o:M (Y TV)):ank (o.map (lC g))=(ank o).map (AU g):=by cases o<;>rfl
def ae8 (g:Nat->Nat) (p:PV) (x:p.ty.den):sM g p x=(sM Kj p x).map (AU g):=by
 cases p with
 |agg d=>exact (ey ank (BZ g d x)).trans (agp g _)
 |qy q d=>simp only[sM,bx,AU,ve,kZ];rfl
 |_=>rfl
def vg (g:Nat->Nat):∀(d:Y PV) (x:(PV.tyL d).den),rA g d x=(rA Kj d x).map (lC g)
 |[],x=>rfl
 |p::r,x=>by
  simp only[rA];rw[ae8 g p,vg g r];cases sM Kj p (Rx p.ty (PV.tyL r) x) with
  |none=>rfl
  |some a=>
   cases rA Kj r (NV p.ty (PV.tyL r) x) with
   |_=>rfl
def Yo (ty:M TypeId) (o:M (Y TV)):M (M eG):=match o with|some l=>Z (Z (.C ty l))|none=>U
def Yn (g:Nat->Nat) (ty:M TypeId) (o:M (Y TV)):Yo ty (o.map (lC g))=(Yo ty o).map (ik (lj g)):=by cases o<;>rfl
def aea (g:Nat->Nat) (b:PB) (x:b.ty.den):Ct g b x=(Ct Kj b x).map (ik (lj g)):=by
 cases b with
 |C ty d=>exact (ey (Yo ty) (BZ g d x)).trans (Yn g ty _)
 |I F a=>cases F<;>rfl
 |_=>rfl
def xN (g:Nat->Nat):∀(bs:Y PB) (x:(PB.tyL bs).den),pF g bs x=(pF Kj bs x).map (fX (ik (lj g)))
 |[],x=>rfl
 |b::r,x=>by
  simp only[pF];rw[aea g b,xN g r];cases Ct Kj b (Rx b.ty (PB.tyL r) x) with
  |none=>rfl
  |some a=>
   cases pF Kj r (NV b.ty (PB.tyL r) x) with
   |_=>rfl
def EE (g:Nat->Nat):∀(bs:Y PB) (x:(PB.tyL bs).den) (l:Y (M eG)),pF g bs x=Z l->l! l=l! bs
 |[],x,l,h=>by simp only[pF,af]at h;subst h;rfl
 |b::r,x,l,h=>by
  simp only[pF]at h;split at h
  .split at h
   .rename_i q d;cases h;simp[EE g r _ q d]
   .cases h
  .cases h
def LZ (h:bk) (i j:Nat):(kill h i).get j=if j=i then (h.get i).map uC else h.get j:=by
 unfold kill;cases d:h.get i with
 |none=>
  simp only[Option.map_none];split
  .rename_i e;rw[e,d]
  .rfl
 |some b=>rw[PT.get_set];rfl
def wO (g:Nat->Nat):∀(l:Y (M eG)) (i:Nat) (h:bk) (j:Nat),(∀k,k<l! l->j≠g (i+k))->(CA g i l h).get j=h.get j
 |[],i,h,j,_=>rfl
 |some c::r,i,h,j,d=>by
  rw[CA,wO g r (i+1) _ j (λk z=>by have:=d (k+1) (by simpa using z);rwa [show i+1+k=i+(k+1) from by omega]),PT.get_set,aA];exact d 0 (by simp)
 |none::r,i,h,j,d=>by
  rw[CA,wO g r (i+1) _ j (λk z=>by have:=d (k+1) (by simpa using z);rwa [show i+1+k=i+(k+1) from by omega]),LZ,aA];exact d 0 (by simp)
def wP (g:Nat->Nat):∀(l:Y (M eG)) (i:Nat) (h:bk),(∀a b,a<l! l->b<l! l->g (i+a)=g (i+b)->a=b)->∀(k:Nat) (c:M eG),l[k]? =Z c->(CA g i l h).get (g (i+k))=(match c with|some b=>Z b|none=>(h.get (g (i+k))).map uC)
 |[],i,h,_,k,c,z=>by simp at z
 |o::r,i,h,hinj,k,c,z=>by
  have hinj':∀a b,a<l! r->b<l! r->g (i+1+a)=g (i+1+b)->a=b:=λa b D A e=>by
   have:=hinj (a+1) (b+1) (by simpa using D) (by simpa using A) (by rw[show i+(a+1)=i+1+a from by omega,show i+(b+1)=i+1+b from by omega];exact e);omega
  cases k with
  |zero=>
   simp at z;subst z;have hne:∀k,k<l! r->g (i+0)≠g (i+1+k):=λk z e=>by
    have:=hinj 0 (k+1) (by simp) (by simpa using z) (by rw[show i+(k+1)=i+1+k from by omega];exact e);omega
   cases o with
   |some b=>rw[CA,wO g r (i+1) _ _ hne];simp only[cZ];rw[PT.get_set,aG rfl]
   |none=>rw[CA,wO g r (i+1) _ _ hne];simp only[cZ];rw[LZ,aG rfl]
  |succ k=>
   have d:r[k]? =Z c:=by simpa using z
   have hkl:k<l! r:=(bq.1 d).1;have hne:g (i+(k+1))≠g i:=λe=>by
    have:=hinj (k+1) 0 (by simpa using hkl) (by simp) (by rw[e];rfl);omega
   rw[show i+(k+1)=i+1+k from by omega]at hne ⊢;cases o with
   |some b=>
    rw[CA,wP g r (i+1) _ hinj' k c d];cases c with
    |some _=>rfl
    |none=>simp only[PT.get_set,aA hne]
   |none=>
    rw[CA,wP g r (i+1) _ hinj' k c d];cases c with
    |some _=>rfl
    |none=>simp only[LZ,aA hne]
def zS (h' h:bk):Prop:=∀i r,eu h' i=Z r->eu h i=Z r
section get
variable {h h':bk} {H H':HF} {g:Nat->Nat}
def kE.agg {l l':Y AV} (d:gO H H' l l') (L:∀x∈l',x.isCell=J):kE H H' (.agg l) (.agg l'):=by
 intro φ E w v hrep F;cases F with
 |@agg _ vs hlen hcl hrr=>
  refine .agg (by rw[hlen,<-d.length]) L λj y u z D=>?_
  obtain⟨x,A,hle⟩:=d.get j y z;exact hle φ E w u hrep (hrr j x u A D)
def Te (D:zS h' h) {A:AV} (z:cg h (.G i)=Z y) (d:cg h' (.G i)=Z A):A=y:=by
 simp only[cg]at z d;cases h1:eu h' i with
 |none=>rw[h1]at d;cases d
 |some r=>
  rw[h1]at d;rw[D i r h1]at z;rw[z]at d;cases d;rfl
def KW {g:Nat->Nat}:∀{d:Y p?} {vs:Y TV},KX g d vs=J->vs=d.map λp=>.H (g p.1) p.2
 |[],[],_=>rfl
 |[],_::_,h|_::_,[],h=>by simp[KX]at h
 |(i,o)::r,v::vs,h=>by
  cases v with
  |H A z=>
   simp only[KX,au]at h;rw[ca,<-KW h.2,av h.1.1,av h.1.2]
  |_=>simp[KX]at h
def Ka (h:bk) (g:Nat->Nat):∀d:Y p?,cO h (d.map λp=>.H (g p.1) p.2)=Z (d.map λp=>.H (nm (g p.1)) p.2)
 |[]=>rfl
 |p::r=>by simp only[ca,cO,cg,Ka h g r]
mutual
def ajl (d:rq H H') (hr:zS h' h):∀(p:PV) (l:Y TV) (x:p.ty.den) (m:Nat) (r:Y TV) (cs:Y TV) (l' cs':Y AV),oJ g h p l=Z (x,m,r)->oT g p x=Z cs->cO h l=Z l'->cO h' cs=Z cs'->Ea h H H' m->∃l1 l2,l'=l1++l2/\cO h r=Z l2/\gO H H' l1 cs'
 |.d T,l,x,m,r,cs,l',cs',hg,hp,hl,hc,gv=>by
  obtain⟨l1,l2,e1,e2,e3⟩:=rC d 40 T l x m r l' hg hl gv;have:=(mY h' 40 T x cs hp).1;rw[hc]at this;cases this;exact⟨l1,l2,e1,e2,e3⟩
 |.H i q,l,x,m,r,cs,l',cs',hg,hp,hl,hc,gv=>by
  simp only[oJ]at hg;split at hg
  .rename_i i' o' r';split at hg
   .rename_i hb;simp only[au]at hb;have e1:=av hb.1;have e2:=av hb.2;subst e1 e2;simp only[af,aI]at hg;obtain⟨_,_,rfl⟩:=hg;simp only[oT,af]at hp;subst hp;obtain⟨y,l2,rfl,g1,g2⟩:=dh hl;simp only[cg,af]at g1;subst g1;simp only[cO,cg,af]at hc;subst hc;exact⟨[_],l2,rfl,g2,kE.refl d _,trivial⟩
   .cases hg
  .cases hg
 |.qw i q z,l,x,m,r,cs,l',cs',hg,hp,hl,hc,gv=>by
  simp only[oJ]at hg;split at hg
  .rename_i i' o' z' r';split at hg
   .rename_i hb;simp only[au]at hb;have e1:=av hb.1.1;have e2:=av hb.1.2;have e3:=av hb.2;subst e1 e2 e3;simp only[af,aI]at hg;obtain⟨_,_,rfl⟩:=hg;simp only[oT,af]at hp;subst hp;obtain⟨y,l2,rfl,g1,g2⟩:=dh hl;simp only[cg,af]at g1;subst g1;simp only[cO,cg,af]at hc;subst hc;exact⟨[_],l2,rfl,g2,kE.refl d _,trivial⟩
   .cases hg
  .cases hg
 |.qy q ps,l,x,m,r,cs,l',cs',hg,hp,hl,hc,gv=>by
  simp only[oJ]at hg;split at hg
  .rename_i q' vs r';split at hg
   .rename_i hb;simp only[au]at hb;have e1:=av hb.1;have e2:=KW hb.2;subst e1 e2;simp only[af,aI]at hg;obtain⟨_,_,rfl⟩:=hg;simp only[oT,af]at hp;subst hp;obtain⟨y,l2,rfl,g1,g2⟩:=dh hl;simp only[cg,Ka,af]at g1;subst g1;simp only[cO,cg,Ka,af]at hc;subst hc;exact⟨[_],l2,rfl,g2,kE.refl d _,trivial⟩
   .cases hg
  .cases hg
 |.ob i q,l,x,m,r,cs,l',cs',hg,hp,hl,hc,gv=>by
  simp only[oJ]at hg;split at hg
  .rename_i i' j' o' r';split at hg
   .rename_i hb;simp only[au]at hb;have e1:=av hb.1;have e2:=av hb.2;subst e1 e2;simp only[af,aI]at hg;obtain⟨rfl,_,rfl⟩:=hg;simp only[oT,af]at hp;subst hp;obtain⟨y,l2,rfl,g1,g2⟩:=dh hl;simp only[cg,af]at g1;subst g1;simp only[cO,cg,af]at hc;subst hc;exact⟨[_],l2,rfl,g2,kE.refl d _,trivial⟩
   .cases hg
  .cases hg
 |.G i,l,x,m,r,cs,l',cs',hg,hp,hl,hc,gv=>by
  simp only[oJ]at hg;split at hg
  .rename_i i' r';split at hg
   .rename_i hb;have e1:=av hb;subst e1;simp only[af,aI]at hg;obtain⟨_,_,rfl⟩:=hg;simp only[oT,af]at hp;subst hp;obtain⟨y,l2,rfl,g1,g2⟩:=dh hl;obtain⟨y',l3,rfl,g3,g4⟩:=dh hc;simp only[cO,af]at g4;subst g4;rw[Te hr g1 g3];exact⟨[_],l2,rfl,g2,kE.refl d _,trivial⟩
   .cases hg
  .cases hg
 |.mp i,l,x,m,r,cs,l',cs',hg,hp,hl,hc,gv=>by
  simp only[oJ]at hg;split at hg
  .rename_i i' r';split at hg
   .rename_i hb;have e1:=av hb;subst e1;simp only[af,aI]at hg;obtain⟨_,_,rfl⟩:=hg;simp only[oT,af]at hp;subst hp;obtain⟨y,l2,rfl,g1,g2⟩:=dh hl;simp only[cg,af]at g1;subst g1;simp only[cO,cg,af]at hc;subst hc;exact⟨[_],l2,rfl,g2,kE.refl d _,trivial⟩
   .cases hg
  .cases hg
 |.nil,l,x,m,r,cs,l',cs',hg,hp,hl,hc,gv=>by
  simp only[oJ]at hg;split at hg
  .simp only[af,aI]at hg;obtain⟨_,_,rfl⟩:=hg;simp only[oT,af]at hp;subst hp;obtain⟨y,l2,rfl,g1,g2⟩:=dh hl;simp only[cg,af]at g1;subst g1;simp only[cO,cg,af]at hc;subst hc;exact⟨[_],l2,rfl,g2,kE.refl d _,trivial⟩
  .cases hg
 |.emp,l,x,m,r,cs,l',cs',hg,hp,hl,hc,gv=>by
  simp only[oJ]at hg;split at hg
  .simp only[af,aI]at hg;obtain⟨_,_,rfl⟩:=hg;simp only[oT,af]at hp;subst hp;obtain⟨y,l2,rfl,g1,g2⟩:=dh hl;simp only[cg,af]at g1;subst g1;simp only[cO,cg,af]at hc;subst hc;exact⟨[_],l2,rfl,g2,Le.nilEmp.toH d,trivial⟩
  .simp only[af,aI]at hg;obtain⟨_,_,rfl⟩:=hg;simp only[oT,af]at hp;subst hp;obtain⟨y,l2,rfl,g1,g2⟩:=dh hl;simp only[cg,af]at g1;subst g1;simp only[cO,cg,af]at hc;subst hc;exact⟨[_],l2,rfl,g2,kE.refl d _,trivial⟩
  .cases hg
 |.agg ps,l,x,m,r,cs,l',cs',hg,hp,hl,hc,gv=>Fi d hr ps l x m r cs l' cs' hg hp hl hc gv
def Fi (d:rq H H') (hr:zS h' h):∀(ps:Y PV) (l:Y TV) (x:(PV.tyL ps).den) (m:Nat) (r:Y TV) (cs:Y TV) (l' cs':Y AV),Bk g h ps l=Z (x,m,r)->sF g ps x=Z cs->cO h l=Z l'->cO h' cs=Z cs'->Ea h H H' m->∃l1 l2,l'=l1++l2/\cO h r=Z l2/\gO H H' l1 cs'
 |[],l,x,m,r,cs,l',cs',hg,hp,hl,hc,gv=>by
  simp only[Bk,af,aI]at hg;obtain⟨_,_,rfl⟩:=hg;simp only[sF,af]at hp;subst hp;simp only[cO,af]at hc;subst hc;exact⟨[],l',rfl,hl,trivial⟩
 |p::ps,l,x,m,r,cs,l',cs',hg,hp,hl,hc,gv=>by
  simp only[Bk]at hg;split at hg
  .rename_i x1 m1 r1 h1;split at hg
   .rename_i x2 m2 r2 h2;cases hg;simp only[sF,uW,wL]at hp;split at hp
    .rename_i a ha;split at hp
     .rename_i b hb;cases hp;obtain⟨a',b',rfl,ea,eb⟩:=DX hc;obtain⟨ga,gb⟩:=gv.or;obtain⟨l1,l2,rfl,q1,q2⟩:=ajl d hr p l _ _ _ a l' a' h1 ha hl ea ga;obtain⟨l3,l4,rfl,q3,q4⟩:=Fi d hr ps _ _ _ _ b l2 b' h2 hb q1 eb gb;exact⟨l1++l3,l4,by simp,q3,q2.append q4⟩
     .cases hp
    .cases hp
   .cases hg
  .cases hg
end
mutual
def aa7:∀(p:PV) (x:p.ty.den) (cs:Y TV),oT g p x=Z cs->lU cs=J
 |.d T,x,cs,hp=>(mY PT.leaf 40 T x cs hp).2
 |.H i q,x,cs,hp|.qw i q z,x,cs,hp|.qy q ps,x,cs,hp|.ob i q,x,cs,hp|.G i,x,cs,hp|.mp i,x,cs,hp|.nil,x,cs,hp|.emp,x,cs,hp=>by simp only[oT,af]at hp;subst hp;rfl
 |.agg ps,x,cs,hp=>yP ps x cs hp
def yP:∀(ps:Y PV) (x:(PV.tyL ps).den) (cs:Y TV),sF g ps x=Z cs->lU cs=J
 |[],x,cs,hp=>by simp only[sF,af]at hp;subst hp;rfl
 |p::ps,x,cs,hp=>by
  simp only[sF]at hp;split at hp
  .rename_i a ha;split at hp
   .rename_i b hb;cases hp;exact VP (aa7 p _ a ha) (yP ps _ b hb)
   .cases hp
  .cases hp
end
def ajk (d:rq H H') (hr:zS h' h) {p:PV} {v:TV} {x:p.ty.den} {y':AV} (D:xn g h p v=Z (x,i)) (hp:sM g p x=Z u) (F:cg h v=Z y) (A:cg h' u=Z y') (gv:Ea h H H' i):kE H H' y y':=by
 cases p with
 |d T=>
  simp only[sM,af]at hp;subst hp;simp only[cg,af]at A;subst A;exact (Se d D F gv).1
 |agg ps=>
  simp only[xn]at D;split at D
  .cases D
  .rename_i N;split at D
   .rename_i l hl;split at D
    .rename_i x1 m1 h1;cases D;simp only[sM]at hp;split at hp
     .rename_i cs hcs;cases hp;simp only[cg]at A;split at A
      .rename_i cs' hcs';cases A;obtain⟨e1,e2⟩:=IK hl F;obtain⟨l1,l2,q1,q2,q3⟩:=Fi d hr ps l _ _ [] cs y.cs cs' h1 hcs e1 hcs' gv;simp only[cO,af]at q2;subst q2;rw[pD]at q1;subst q1;have hcell:∀x∈cs',x.isCell=J:=mZ (tI hcs' (yP ps _ cs hcs));cases v with
       |agg q=>
        simp only[cg]at F;split at F
        .cases F;exact kE.agg q3 hcell
        .cases F
       |f S z=>
        simp only[cg,af]at F;subst F;have ho:S.one=aa:=by simpa[TV.isC] using N
        rw[Cj]at q3;rw[r_ S z ho];intro φ E w v hrep hrel;exact kE.agg q3 hcell φ E w v hrep (Le.aggF _ _ _ _ hrel)
       |qg q|undef|qv|qd S q=>simp[TV.cs,TV.isC]at hl
       |sb q=>exact cN rfl N
       |zp id jj=>cases hl
       |_=>simp[TV.isC]at N
      .cases A
     .cases hp
    .cases D
   .cases D
 |H m q=>
  simp only[sM,af]at hp;subst hp;simp only[xn]at D;split at D
  .rename_i h1;simp only[oJ]at h1;split at h1
   .rename_i e;simp only[fb]at e;obtain⟨rfl,_⟩:=e;split at h1
    .rename_i L;simp only[au]at L;have e1:=av L.1;have e2:=av L.2;subst e1 e2;simp only[cg,af]at F A;subst F A;exact kE.refl d _
    .cases h1
   .cases h1
  .cases D
 |qw m q z=>
  simp only[sM,af]at hp;subst hp;simp only[xn]at D;split at D
  .rename_i h1;simp only[oJ]at h1;split at h1
   .rename_i e;simp only[fb]at e;obtain⟨rfl,_⟩:=e;split at h1
    .rename_i L;simp only[au]at L;have e1:=av L.1.1;have e2:=av L.1.2;have e3:=av L.2;subst e1 e2 e3;simp only[cg,af]at F A;subst F A;exact kE.refl d _
    .cases h1
   .cases h1
  .cases D
 |qy q ps=>
  simp only[sM,af]at hp;subst hp;simp only[xn]at D;split at D
  .rename_i h1;simp only[oJ]at h1;split at h1
   .rename_i e;simp only[fb]at e;obtain⟨rfl,_⟩:=e;split at h1
    .rename_i L;simp only[au]at L;have e1:=av L.1;have e2:=KW L.2;subst e1 e2;simp only[cg,Ka,af]at F A;subst F A;exact kE.refl d _
    .cases h1
   .cases h1
  .cases D
 |ob m q=>
  simp only[sM,af]at hp;subst hp;simp only[xn]at D;split at D
  .rename_i h1;simp only[oJ]at h1;split at h1
   .rename_i e;simp only[fb]at e;obtain⟨rfl,_⟩:=e;split at h1
    .rename_i L;simp only[au]at L;have e1:=av L.1;have e2:=av L.2;subst e1 e2;simp only[af,aI]at h1 D;obtain⟨rfl,_⟩:=D;obtain⟨rfl,_⟩:=h1;simp only[cg,af]at F A;subst F A;exact kE.refl d _
    .cases h1
   .cases h1
  .cases D
 |G m=>
  simp only[sM,af]at hp;subst hp;simp only[xn]at D;split at D
  .rename_i h1;simp only[oJ]at h1;split at h1
   .rename_i e;simp only[fb]at e;obtain⟨rfl,_⟩:=e;split at h1
    .rename_i L;have e1:=av L;subst e1;rw[Te hr F A];exact kE.refl d _
    .cases h1
   .cases h1
  .cases D
 |mp m=>
  simp only[sM,af]at hp;subst hp;simp only[xn]at D;split at D
  .rename_i h1;simp only[oJ]at h1;split at h1
   .rename_i e;simp only[fb]at e;obtain⟨rfl,_⟩:=e;split at h1
    .rename_i L;have e1:=av L;subst e1;simp only[cg,af]at F A;subst F A;exact kE.refl d _
    .cases h1
   .cases h1
  .cases D
 |nil=>
  simp only[sM,af]at hp;subst hp;simp only[xn]at D;split at D
  .rename_i h1;simp only[oJ]at h1;split at h1
   .rename_i e;simp only[fb]at e;obtain⟨rfl,_⟩:=e;simp only[cg,af]at F A;subst F A;exact kE.refl d _
   .cases h1
  .cases D
 |emp=>
  simp only[sM,af]at hp;subst hp;simp only[xn]at D;split at D
  .rename_i h1;simp only[oJ]at h1;split at h1
   .rename_i e;simp only[fb]at e;obtain⟨rfl,_⟩:=e;simp only[cg,af]at F A;subst F A;exact Le.nilEmp.toH d
   .rename_i e;simp only[fb]at e;obtain⟨rfl,_⟩:=e;simp only[cg,af]at F A;subst F A;exact kE.refl d _
   .cases h1
  .cases D
def Fh (d:rq H H') (N:zS h' h):∀(F:Y PV) (vs:Y TV) (x:(PV.tyL F).den) (m:Nat) (D:Y TV) (l l':Y AV),Ad g h F vs=Z (x,m)->rA g F x=Z D->cO h vs=Z l->cO h' D=Z l'->Ea h H H' m->gO H H' l l'
 |[],[],x,m,D,l,l',z,hp,L,A,gv=>by
  simp only[rA,af]at hp;subst hp;simp only[cO,af]at L A;subst L A;trivial
 |[],_::_,x,m,D,l,l',z,_,_,_,_|_::_,[],x,m,D,l,l',z,_,_,_,_=>by simp[Ad]at z
 |p::F,v::vs,x,m,D,l,l',z,hp,L,A,gv=>by
  simp only[Ad]at z;split at z
  .rename_i x1 m1 h1;split at z
   .rename_i x2 m2 h2;cases z;simp only[rA,uW,wL]at hp;split at hp
    .rename_i a ha;split at hp
     .rename_i b hb;cases hp;obtain⟨y,l2,rfl,e1,e2⟩:=dh L;obtain⟨y',l3,rfl,e3,e4⟩:=dh A;obtain⟨ga,gb⟩:=gv.or;exact⟨ajk d N h1 ha e1 e3 ga,Fh d N F vs _ _ b l2 l3 h2 hb e2 e4 gb⟩
     .cases hp
    .cases hp
   .cases z
  .cases z
inductive BM (g:Nat->Nat) (h:bk) (m:Nat):eG->eG->Prop
 |F (ty:TypeId) (p:Bool) (T:Ty) (xs:List T.den):BM g h m (.F ty p T xs) (.F ty p T xs)
 |mp (K V:Ty) (es:List (K.den×V.den)):BM g h m (.mp K V es) (.mp K V es)
 |I (F:t_) (a:Nat) (x:F.ty.den):BM g h m (.I F a x) (.I F a x)
 |C (ty:Option TypeId) (ps:List PV) (x:(PV.tyL ps).den) (l l2:List TV) (m':Nat) (hg:Bk g h ps l=Z (x,m',[])) (hp:sF g ps x=Z l2) (hm:∀i,aO m' i=J->aO m i=J):BM g h m (.C ty l) (.C ty l2)
def BM.mono (hm:∀m,aO i m=J->aO j m=J) {b c:eG} (h1:BM g h i b c):BM g h j b c:=by
 cases h1 with
 |F ty p T xs=>exact .F ty p T xs
 |mp K V es=>exact .mp K V es
 |I F a x=>exact .I F a x
 |C ty z x l A m' D hp d=>exact .C ty z x l A m' D hp λm hi=>hm m (d m hi)
def ajm {b:PB} {x:b.ty.den} {c:eG} (d:DW g h i b=Z (x,j)) (hp:Ct g b x=Z (Z c)):∃b0,h.get (g i)=Z b0/\BM g h j b0 c:=by
 cases b with
 |F ty p T=>
  simp only[DW]at d;split at d
  .rename_i ty' p' S xs D;split at d
   .rename_i A;simp only[au,cF]at A;obtain⟨rfl,rfl⟩:=A;split at d
    .rename_i z L;cases d;obtain⟨e,rfl⟩:=gU L;cases e;simp only[Ct,af]at hp;subst hp;exact⟨_,D,.F _ _ _ _⟩
    .cases d
   .cases d
  .cases d
 |qf ty T=>
  simp only[DW]at d;split at d
  .rename_i ty' p' S xs D;split at d
   .rename_i A;have A:ty=ty':=by simpa using A
    subst A;split at d
    .rename_i z L;cases d;obtain⟨e,rfl⟩:=gU L;cases e;simp only[Ct,af]at hp;subst hp;exact⟨_,D,.F _ _ _ _⟩
    .cases d
   .cases d
  .cases d
 |C ty ps=>
  simp only[DW]at d;split at d
  .rename_i ty' l D;split at d
   .rename_i A;have A:ty=ty':=by simpa using A
    subst A;split at d
    .rename_i z m1 L;cases d;simp only[Ct]at hp;split at hp
     .rename_i l2 N;cases hp;exact⟨_,D,.C ty ps _ l l2 _ L N λ_ h=>h⟩
     .cases hp
    .cases d
   .cases d
  .cases d
 |mp K V=>
  simp only[DW]at d;split at d
  .rename_i K' V' es D;split at d
   .rename_i z L;cases d;obtain⟨e,rfl⟩:=gU L;cases e;simp only[Ct,af]at hp;subst hp;exact⟨_,D,.mp _ _ _⟩
   .cases d
  .cases d
 |I F a=>
  simp only[DW]at d;split at d
  .rename_i F' a' z D;split at d
   .rename_i hF;subst hF;split at d
    .rename_i ha;cases d;simp only[Ct,af]at hp;subst hp;rw[av ha];exact⟨_,D,.I _ _ _⟩
    .cases d
   .cases d
  .cases d
 |qk=>simp[Ct]at hp
def L2:∀(bs:Y PB) (i:Nat) (x:(PB.tyL bs).den) (m:Nat) (A:Y (M eG)),C3 g h i bs=Z (x,m)->pF g bs x=Z A->∀(k:Nat) c,A[k]? =Z (Z c)->∃b0,h.get (g (i+k))=Z b0/\BM g h m b0 c
 |[],i,x,m,A,d,hp,k,c,z=>by
  simp only[pF,af]at hp;subst hp;simp at z
 |b::r,i,x,m,A,d,hp,k,c,z=>by
  simp only[C3]at d;split at d
  .rename_i x1 m1 h1;split at d
   .rename_i x2 m2 h2;cases d;simp only[pF,uW,wL]at hp;split at hp
    .rename_i a F;split at hp
     .rename_i q D;cases hp;cases k with
      |zero=>
       simp at z;subst z;obtain⟨b0,e1,e2⟩:=ajm h1 F;exact⟨b0,e1,e2.mono λi hi=>by rw[bA,hi];rfl⟩
      |succ k=>
       obtain⟨b0,e1,e2⟩:=L2 r (i+1) _ _ q h2 D k c (by simpa using z);rw[show i+1+k=i+(k+1) from by omega]at e1;exact⟨b0,e1,e2.mono λi hi=>by rw[bA,hi];simp⟩
     .cases hp
    .cases hp
   .cases d
  .cases d
end get
def Us {σ:PT Nat} (h:σ.get i=Z j):ip σ i=j:=by unfold ip;rw[h]
def YW {σ:PT Nat}:∀(n i acc sm:Nat),adt σ n i acc=Z sm->
 (∀k,k<n->aO acc (ip σ (i+k))=aa)/\(∀a b,a<n->b<n->ip σ (i+a)=ip σ (i+b)->a=b)/\∀q,aO sm q=J↔aO acc q=J\/∃k,k<n/\ip σ (i+k)=q
 |0,i,acc,sm,h=>by
  simp only[adt,af]at h;subst h;exact⟨λk z=>by omega,λa b D=>by omega,λq=>⟨.inl,λd=>d.elim id λ⟨k,z,_⟩=>by omega⟩⟩
 |n+1,i,acc,sm,h=>by
  simp only[adt]at h;split at h
  .rename_i a D;split at h
   .cases h
   .rename_i hna;have hna:aO acc a=aa:=by simpa using hna
    have hga:=Us D;obtain⟨h1,h2,F⟩:=YW n (i+1) (acc|||fV a) sm h;have hne:∀k,k<n->ip σ (i+1+k)≠a/\aO acc (ip σ (i+1+k))=aa:=λk z=>by
     have:=h1 k z;rw[bA,Bool.or_eq_false_iff]at this;refine ⟨λe=>?_,this.1⟩;have A:=this.2;rw[e]at A;rw[bC.2 rfl]at A;cases A
    refine ⟨λk z=>?_,λx y N L hxy=>?_,λq=>?_⟩
    .cases k with
     |zero=>rw[cZ,hga];exact hna
     |succ k=>rw[show i+(k+1)=i+1+k from by omega];exact (hne k (by omega)).2
    .cases x with
     |zero=>
      cases y with
      |zero=>rfl
      |succ y=>
       rw[cZ,hga,show i+(y+1)=i+1+y from by omega]at hxy;exact cN hxy.symm (hne y (by omega)).1
     |succ x=>
      cases y with
      |zero=>
       rw[show i+0=i from rfl,hga,show i+(x+1)=i+1+x from by omega]at hxy;exact cN hxy (hne x (by omega)).1
      |succ y=>
       rw[show i+(x+1)=i+1+x from by omega,show i+(y+1)=i+1+y from by omega]at hxy;have:=h2 x y (by omega) (by omega) hxy;omega
    .rw[F,bA,jN];constructor
     .rintro ((d|d)|⟨k,z,d⟩)
      .exact .inl d
      .exact .inr ⟨0,by omega,by rw[cZ,hga];exact bC.1 d⟩
      .exact .inr ⟨k+1,by omega,by rw[show i+(k+1)=i+1+k from by omega];exact d⟩
     .rintro (d|⟨k,z,d⟩)
      .exact .inl (.inl d)
      .cases k with
       |zero=>rw[cZ,hga]at d;exact .inl (.inr (bC.2 d))
       |succ k=>exact .inr ⟨k,by omega,by rw[show i+1+k=i+(k+1) from by omega];exact d⟩
  .cases h
def Uy {σ:PT Nat}:∀(n:Nat),Zp σ n=J->∀i,i<n->ip σ i=i
 |0,_,i,hi=>by omega
 |n+1,h,i,hi=>by
  simp only[Zp,au]at h;by_cases e:i=n
  .subst e;cases d:σ.get i with
   |none=>rw[d]at h;exact cN h.1 (by simp)
   |some a=>rw[d]at h;rw[Us d];exact av h.1
  .exact Uy n h.2 i (by omega)
structure Kx (np:Nat) (t:Tm) (vs:List TV) (h:bk) (z:t.ty.den) (m:Nat) (σ:PT Nat) (sm:Nat):Prop where
 ex:∃x m1 y m2,z=W9 _ _ x y/\m=m1|||m2/\Ad (ip σ) h t.vs vs=Z (x,m1)/\C3 (ip σ) h 0 t.bs=Z (y,m2)
 inj:∀a b,a<l! t.bs->b<l! t.bs->ip σ a=ip σ b->a=b
 sig:∀q,aO sm q=J↔∃k,k<l! t.bs/\ip σ k=q
 disj:∀i,aO m i=J->aO sm i=aa
 fix:∀i,i<np->ip σ i=i
def xW {t:Tm} {vs:Y TV} {z:t.ty.den} {σ:PT Nat} {sm:Nat} (hm:DK i t vs h=Z ⟨z,j,σ,sm⟩):Kx i t vs h z j σ sm:=by
 unfold DK at hm;rw[Ry]at hm;split at hm
 .rename_i sm' F;split at hm
  .rename_i x m1 h1;split at hm
   .rename_i y m2 h2;split at hm
    .rename_i d;simp only[au]at d;simp only[af,amc.mk.injEq]at hm;obtain⟨rfl,rfl,rfl,rfl⟩:=hm;obtain⟨L,D,A⟩:=YW _ _ _ _ F;simp only[bO]at L D A;exact⟨⟨x,m1,y,m2,rfl,rfl,h1,h2⟩,D,λq=>by rw[A];simp,λnp hi=>zK d.1 np hi,Uy i d.2⟩
    .cases hm
   .cases hm
  .cases hm
 .cases hm
mutual
def zC {g:Nat->Nat} {h:bk}:∀(p:PV) (l:Y TV) (x:p.ty.den) (m:Nat) (r:Y TV),oJ g h p l=Z (x,m,r)->dG h m
 |.d T,l,x,m,r,hg=>wN 40 T l x m r hg
 |.H i q,l,x,m,r,hg|.qw i q z,l,x,m,r,hg|.ob i q,l,x,m,r,hg|.qy q ps,l,x,m,r,hg|.G i,l,x,m,r,hg|.mp i,l,x,m,r,hg=>by
  simp only[oJ]at hg;split at hg
  .split at hg
   .simp only[af,aI]at hg;obtain⟨_,rfl,_⟩:=hg;exact dG.zero h
   .cases hg
  .cases hg
 |.nil,l,x,m,r,hg=>by
  simp only[oJ]at hg;split at hg
  .simp only[af,aI]at hg;obtain⟨_,rfl,_⟩:=hg;exact dG.zero h
  .cases hg
 |.emp,l,x,m,r,hg=>by
  simp only[oJ]at hg;split at hg
  .simp only[af,aI]at hg;obtain⟨_,rfl,_⟩:=hg;exact dG.zero h
  .simp only[af,aI]at hg;obtain⟨_,rfl,_⟩:=hg;exact dG.zero h
  .cases hg
 |.agg ps,l,x,m,r,hg=>Kp ps l x m r hg
def Kp {g:Nat->Nat} {h:bk}:∀(ps:Y PV) (l:Y TV) (x:(PV.tyL ps).den) (m:Nat) (r:Y TV),Bk g h ps l=Z (x,m,r)->dG h m
 |[],l,x,m,r,hg=>by
  simp only[Bk,af,aI]at hg;obtain⟨_,rfl,_⟩:=hg;exact dG.zero h
 |p::ps,l,x,m,r,hg=>by
  simp only[Bk]at hg;split at hg
  .rename_i x1 m1 r1 h1;split at hg
   .rename_i x2 m2 r2 h2;simp only[af,aI]at hg;obtain⟨_,rfl,_⟩:=hg;exact (zC p l x1 m1 r1 h1).or (Kp ps r1 _ _ _ h2)
   .cases hg
  .cases hg
end
def an7 {p:PV} {x:p.ty.den} (A:xn g h p u=Z (x,i)):dG h i:=by
 cases p with
 |d T=>exact ZN A
 |agg D=>
  simp only[xn]at A;split at A
  .cases A
  .split at A
   .split at A
    .rename_i x1 m1 h1;simp only[af,aI]at A;obtain⟨_,rfl⟩:=A;exact Kp D _ _ _ _ h1
    .cases A
   .cases A
 |_=>
  simp only[xn]at A;split at A
  .rename_i h1;simp only[af,aI]at A;obtain⟨_,rfl⟩:=A;exact zC _ _ _ _ _ h1
  .cases A
def Ko :∀(z:Y PV) (vs:Y TV) (x:(PV.tyL z).den) (m:Nat),Ad g h z vs=Z (x,m)->dG h m
 |[],[],x,m,d=>by simp only[Ad,af,aI]at d;obtain⟨_,rfl⟩:=d;exact dG.zero h
 |[],_::_,x,m,d|_::_,[],x,m,d=>by simp[Ad]at d
 |p::z,v::vs,x,m,d=>by
  simp only[Ad]at d;split at d
  .rename_i x1 m1 h1;split at d
   .rename_i x2 m2 h2;simp only[af,aI]at d;obtain⟨_,rfl⟩:=d;exact (an7 h1).or (Ko z vs x2 m2 h2)
   .cases d
  .cases d
def an8 {b:PB} {x:b.ty.den} (d:DW g h i b=Z (x,j)):dG h j:=by
 cases b with
 |C ty z=>
  simp only[DW]at d;split at d
  .split at d
   .split at d
    .rename_i h1;simp only[af,aI]at d;obtain⟨_,rfl⟩:=d;exact Kp z _ _ _ _ h1
    .cases d
   .cases d
  .cases d
 |mp K V=>
  simp only[DW]at d;split at d
  .split at d
   .simp only[af,aI]at d;obtain⟨_,rfl⟩:=d;exact dG.zero h
   .cases d
  .cases d
 |qk=>simp only[DW,af,aI]at d;obtain⟨_,rfl⟩:=d;exact dG.zero h
 |_=>
  simp only[DW]at d;split at d
  .split at d
   .split at d
    .simp only[af,aI]at d;obtain⟨_,rfl⟩:=d;exact dG.zero h
    .cases d
   .cases d
  .cases d
def Kq :∀(bs:Y PB) (i:Nat) (x:(PB.tyL bs).den) (m:Nat),C3 g h i bs=Z (x,m)->dG h m
 |[],i,x,m,d=>by simp only[C3,af,aI]at d;obtain⟨_,rfl⟩:=d;exact dG.zero h
 |b::r,i,x,m,d=>by
  simp only[C3]at d;split at d
  .rename_i x1 m1 h1;split at d
   .rename_i x2 m2 h2;simp only[af,aI]at d;obtain⟨_,rfl⟩:=d;exact (an8 h1).or (Kq r (i+1) x2 m2 h2)
   .cases d
  .cases d
structure pB (t:Tm) (x:t.ty.den) (vs:List TV) (h1:bk) (l1:List (Option eG)):Prop where
 pv:rA Kj t.vs (Rx _ _ x)=Z vs
 pb:pF Kj t.bs (NV _ _ x)=Z l1
 len:l! l1=l! t.bs
 at_:∀i b,h1.get i=Z b↔l1[i]? =Z (Z b)
 ok:lZ h1 vs=J
 lt:rT (l! t.bs) vs=J
 C:∀i ty l,h1.get i=Z (.C ty l)->lZ h1 l=J/\rT (l! t.bs) l=J
 I:∀i F a x,h1.get i=Z (.I F a x)->a<l! t.bs
 nox:∀i F a x k p,h1.get i≠Z (.qm F a x k p)
def aey (l:Y (M eG)) (i:Nat) (b:eG):(CA Kj 0 l PT.leaf).get i=Z b↔l[i]? =Z (Z b):=by
 by_cases hi:i<l! l
 .obtain⟨c,d⟩:∃c,l[i]? =Z c:=⟨l[i],aD hi⟩
  have:=wP Kj l 0 PT.leaf (λa b _ _ e=>by simp only[Kj]at e;omega) i c d;rw[show Kj (0+i)=i from by simp only[Kj];omega]at this;rw[this,d];cases c with
  |some b'=>simp
  |none=>simp[PT.get]
 .rw[wO Kj l 0 PT.leaf i (λk z=>by simp only[Kj];omega),bK (by omega)];simp[PT.get]
def ya {t:Tm} {x:t.ty.den} {vs:Y TV} {h1:bk} (hi:C0 t x=Z (vs,h1)):∃A,pB t x vs h1 A:=by
 unfold C0 at hi;split at hi
 .rename_i D hus;split at hi
  .rename_i h hh;split at hi
   .rename_i d;simp only[au]at d;simp only[af,aI]at hi;obtain⟨rfl,rfl⟩:=hi;unfold Ps at hh;split at hh
    .rename_i A z;simp only[af]at hh;refine ⟨A,hus,z,EE _ _ _ _ z,λi b=>?_,d.1.1,d.1.2,λi ty l hil=>?_,λi F a x hil=>?_,λi F a x k p hil=>?_⟩
     .rw[<- hh];exact aey A i b
     .have:=PT.get_all _ h 1 0 i _ d.2 hil;simpa only[au] using this
     .have:=PT.get_all _ h 1 0 i _ d.2 hil;exact aZ this
     .have:=PT.get_all _ h 1 0 i _ d.2 hil;cases this
    .cases hh
   .cases hi
  .cases hi
 .cases hi
def Pu (nb:Nat) (n:Nat):Bool:=dJ (ow n) nb
def EG :Pu i j=J↔ow j<i:=⟨λh=>aZ h,λh=>ba h⟩
def B7 {k:Nat}:Pu j (jK i k)=J↔i<j:=by rw[EG,iL]
def Gv :Pu j (nm i)=J↔i<j:=by
 rw[EG,dq]
def Tg (h:j<i) (id sz n:Nat):(uh j id sz n).all (Pu i)=J:=by
 unfold uh;split
 .rfl
 .exact B7.2 h
def ajt {s:Sb} (h:s.id<i):(Jw s).all (Pu i)=J:=by
 cases s with
 |nr id j sz n=>exact Tg h _ _ _
 |nl=>rfl
 |_=>exact B7.2 h
mutual
def an2 {nb:Nat} {h:bk}:∀(v:TV) (y:AV),Kf nb v=J->cg h v=Z y->y.all (Pu nb)=J
 |.f _ _,y,_,he|.zk _ _ _ _ _,y,_,he=>by simp only[cg,af]at he;subst he;rfl
 |.ql id _ _ _,y,hl,he|.H id _,y,hl,he|.qw id _ _,y,hl,he=>by simp only[cg,af]at he;subst he;exact Gv.2 (aZ hl)
 |.G id,y,hl,he=>by
  simp only[cg]at he;split at he
  .cases he;unfold dv;split
   .rfl
   .exact Gv.2 (aZ hl)
  .cases he
 |.zp id jj,y,hl,he=>by
  simp only[cg]at he;split at he
  .cases he;exact Gv.2 (aZ hl)
  .cases he
 |.emp,y,_,he|.nil,y,_,he=>by simp only[cg,af]at he;subst he;rfl
 |.mp id,y,hl,he=>by simp only[cg,af]at he;subst he;exact Gv.2 (aZ hl)
 |.agg l,y,hl,he|.qg l,y,hl,he|.qy q l,y,hl,he=>by
  simp only[cg]at he;split at he
  .rename_i l' hl';cases he;exact ti l l' hl hl'
  .cases he
 |.undef,y,_,he|.np,y,_,he|.qv,y,_,he|.qd _ _,y,_,he=>by simp only[cg,af]at he;subst he;rfl
 |.sb s,y,hl,he=>by simp only[cg,af]at he;subst he;exact ajt (aZ hl)
def ti {nb:Nat} {h:bk}:∀(l:Y TV) (l':Y AV),rT nb l=J->cO h l=Z l'->AV.allL (Pu nb) l'=J
 |[],l',_,he=>by simp only[cO,af]at he;subst he;rfl
 |x::r,l',hl,he=>by
  obtain⟨y,l2,rfl,e1,e2⟩:=dh he;simp only[rT,au]at hl;simp only[AV.allL,au];exact⟨an2 x y hl.1 e1,ti r l2 hl.2 e2⟩
end
def Cl :∀{l:Y AV},(∀x∈l,x.all p=J)->AV.allL p l=J
 |[],_=>rfl
 |x::r,h=>by
  simp only[AV.allL,au];exact⟨h x (c_ ..),Cl λy d=>h y (b8 _ d)⟩
def Po (h:j<i) (sz:Nat):∀(ls:η) (k:Nat),∀x∈lY j sz k ls,x.all (Pu i)=J
 |[],_,x,d=>by cases d
 |l::r,k,x,d=>by
  rcases bm.1 d with rfl|d
  .exact Tg h _ _ _
  .exact Po h sz r (k+1) x d
def afx (h:j<i) {F:t_} {x:F.ty.den} (d:sC j F x=Z z):z.c.all (Pu i)=J:=by
 cases F with
 |qc ty=>
  simp only[sC]at d;split at d
  .cases d
  .cases d;refine Cl λy A=>?_
   obtain⟨a,_,rfl⟩:=cq.1 A;exact B7.2 h
 |qh=>
  simp only[sC,af]at d;subst d;refine Cl λy A=>?_
  obtain⟨q,D,rfl⟩:=cq.1 A;obtain⟨e,_,rfl⟩:=cq.1 D;exact B7.2 h
 |rr ty sz=>
  simp only[sC,af]at d;subst d;exact Cl (Po h sz x 0)
 |_=>cases d
def afv (h:i<j) (k:Nat) (ty:TypeId) (S:Ty) (o:BR S):(vT i k ty S o).c.all (Pu j)=J:=by
 unfold vT;split
 .refine Cl λz d=>?_
  rcases bE.1 d with d|d
  .obtain⟨q,_,rfl⟩:=cq.1 d;rfl
  .rcases bm.1 d with rfl|d
   .exact B7.2 h
   .rw[aE.1 d];exact B7.2 h
 .refine Cl λz d=>?_
  obtain⟨q,A,rfl⟩:=cq.1 d;obtain⟨e,_,rfl⟩:=cq.1 A;rfl
def afw (h:i<j) {k:Nat} {F:t_} {x:F.ty.den} (d:Br i k F x=Z z):z.c.all (Pu j)=J:=by
 cases F with
 |ar ty S=>
  simp only[Br,oK]at d;obtain⟨o,_,rfl⟩:=dz.1 d;exact afv h k ty S o
 |ir ty T=>
  simp only[Br,pm]at d;obtain⟨o,_,y⟩:=Option.bind_eq_some_iff.1 d;unfold XI at y;split at y
  .cases y
  .cases y;rfl
 |_=>cases d
def pB.blk_all {t:Tm} {x:t.ty.den} {vs:Y TV} {L:Y (M eG)} (I:pB t x vs h L) {b:eG} (A:h.get i=Z b) (d:jY h b=Z z):z.c.all (Pu (l! t.bs))=J:=by
 cases b with
 |F ty p T xs=>
  simp only[jY]at d;split at d
  .cases d
  .cases d;rfl
 |C ty l=>
  cases ty with
  |some ty=>
   simp only[jY]at d;split at d
   .rename_i l' D;cases d;exact ti l l' (I.C i _ l A).2 D
   .cases d
  |none=>
   simp only[jY]at d;split at d
   .rename_i l' D;cases d;show AV.allL _ ((pP 0 l').map (·.2))=J;rw[PD];exact ti l l' (I.C i _ l A).2 D
   .cases d
 |qj p sz n=>cases d
 |mp K V es=>
  simp only[jY,af]at d;subst d;show BC.all _ (mpC K V es)=J;unfold mpC;split
  .rfl
  .simp only[BC.all,kZ];have key:∀l:Y (K.den×V.den),AV.allL (Pu (l! t.bs)) (l.map ((λx=>x.2)∘λp=>(rc K p.1,AV.f (fO V p.2))))=J:=λl=>by
    induction l with
    |nil=>rfl
    |cons e r N=>simp only[ca,AV.allL,au];exact⟨rfl,N⟩
   exact key es
 |I F a y=>exact afx (I.I i F a y A) d
 |qm F a y k p=>exact cN A (I.nox i F a y k p)
def pB.lt_len {t:Tm} {x:t.ty.den} {vs:Y TV} {d:Y (M eG)} (a:pB t x vs h d) {b:eG} (z:h.get i=Z b):i<l! t.bs:=by
 rw[<- a.len];exact (bq.1 ((a.at_ i b).1 z)).1
def φ1 (nb:Nat) (g:Nat->Nat) (φ:PM):PM:=λn=>if Pu nb n then φ (pC g n) else U
def adc (hi:ow j<i):φ1 i g V j=V (pC g j):=by
 unfold φ1;rw[aG (EG.2 hi)]
def yM {k:Nat} (h:φ1 i g V j=Z k):ow j<i/\V (pC g j)=Z k:=by
 unfold φ1 at h;split at h
 .rename_i hp;exact⟨EG.1 hp,h⟩
 .cases h
def ajn (inj:∀a b,a<i->b<i->g a=g b->a=b) {d:Nat} (h:ow j<i) (h':ow d<i) (e:pC g j=pC g d):j=d:=by
 obtain⟨e1,e2⟩:=uQ e;rw[<- lb j,<-lb d,inj _ _ h h' e1,e2]
def pB.erHF {t:Tm} {x:t.ty.den} {vs:Y TV} {D:Y (M eG)} (I:pB t x vs h D) (L:AI.erHF h i=Z z):ow i<l! t.bs/\z.c.all (Pu (l! t.bs))=J:=by
 obtain⟨c,h2,d⟩:=iR L;have hi:=I.lt_len h2;refine ⟨hi,?_⟩;cases A:ix i with
 |zero=>rw[A]at d;exact I.blk_all h2 d
 |succ k=>
  rw[A]at d;cases c with
  |I F a y=>exact afw hi d
  |qm F a y k p=>exact cN h2 (I.nox _ F a y k p)
  |_=>cases d
structure akp (t:Tm) (x:t.ty.den) (vs:List TV) (h1:bk) (g:Nat->Nat) (φ:PM) (E E':Nat->Prop) (Hv:HF) (w:World):Prop where
 qn:sq (φ1 (l! t.bs) g φ) E' (erHF h1) w
 val:∀x v,x.all (Pu (l! t.bs))=J->cu φ (tot E φ Hv) w (x.qx (pC g)) v->cu (φ1 (l! t.bs) g φ) (tot E' (φ1 (l! t.bs) g φ) (erHF h1)) w x v
 qr:∀k,own (φ1 (l! t.bs) g φ) (erHF h1) k->own φ Hv k
 tot_:∀k,tot E' (φ1 (l! t.bs) g φ) (erHF h1) k->tot E φ Hv k
def sq.toId {t:Tm} {x:t.ty.den} {vs:Y TV} {F:Y (M eG)} (I:pB t x vs h F) (inj:∀a b,a<l! t.bs->b<l! t.bs->g a=g b->a=b) {E':Nat->Prop} {w:World} (r:sq V O S w)
 (hat:∀n y,AI.erHF h n=Z y->S (pC g n)=Z (y.qx (pC g)))
 (hE:∀k,E' k->tot O V S k) (hne:∀n k y,AI.erHF h n=Z y->V (pC g n)=Z k->¬E' k) (hel:∀k,E' k->k<w.heap.size):akp t x vs h g V O E' S w:=by
 have own1:∀k,own (φ1 (l! t.bs) g V) (erHF h) k->own V S k:=by
  rintro k ⟨n,y,h2,h3⟩;obtain⟨hi,A⟩:=yM h3;exact⟨pC g n,_,hat n y h2,A⟩
 have tot1:∀k,tot E' (φ1 (l! t.bs) g V) (erHF h) k->tot O V S k:=λk d=>d.elim (hE k) λh1=>.inr (own1 k h1)
 have val:∀x v,x.all (Pu (l! t.bs))=J->cu V (tot O V S) w (x.qx (pC g)) v->cu (φ1 (l! t.bs) g V) (tot E' (φ1 (l! t.bs) g V) (erHF h)) w x v:=λx v L N=>by
  have h2:cu (φ1 (l! t.bs) g V) (tot O V S) w x v:=cu.renFrom (λi k hp d=>by unfold φ1;rw[aG hp];exact d) N x L rfl;exact h2.ext (λ_ _ h1=>h1) (Gf.refl _ w) λk _ d=>tot1 k d
 refine ⟨⟨λn D b b' k z g2 g3 g4=>?_,λn y z=>?_,hel,λg' cells hg=>(r.gl g' cells hg).ext (Gf.refl _ w) λk _ d=>tot1 k d⟩,val,own1,tot1⟩
 .obtain⟨hi,A⟩:=yM g3;obtain⟨hj,h5⟩:=yM g4;exact ajn inj hi hj (r.inj _ _ _ _ k (hat n _ z) (hat D _ g2) A h5)
 .obtain⟨hi,hall⟩:=I.erHF z;obtain⟨k,p1,p2,ob,p3,p4⟩:=r.at_ _ _ (hat n y z);exact⟨k,by rw[adc hi];exact p1,hne n k y z p1,ob,p3,gw.renFrom val hall p4⟩
def BM.view {L:bk} {H':HF} (d:rq S H') (gv:Ea h S H' i) (hr:zS L h) {b0 c:eG} (hb:BM g h i b0 c) {N:kx} (e0:jY h b0=Z z) (e1:jY L c=Z N):fC S H' z N:=by
 cases hb with
 |C ty ps x l D m' hg hp hm=>
  have key:∀l' cs',cO h l=Z l'->cO L D=Z cs'->gO S H' l' cs'/\∀x∈cs',x.isCell=J:=λl' cs' A y=>by
   obtain⟨l1,l3,q1,q2,q3⟩:=Fi d hr ps l x m' [] D l' cs' hg hp A y λm hi=>gv m (hm m hi)
   simp only[cO,af]at q2;subst q2;rw[pD]at q1;subst q1;exact⟨q3,mZ (tI y (yP ps x D hp))⟩
  cases ty with
  |some ty=>
   simp only[jY]at e0 e1;split at e0
   .rename_i l' A;cases e0;split at e1
    .rename_i cs' y;cases e1;exact fC.C rfl rfl (key _ _ A y).1 (key _ _ A y).2
    .cases e1
   .cases e0
  |none=>
   simp only[jY]at e0 e1;split at e0
   .rename_i l' A;cases e0;split at e1
    .rename_i cs' y;cases e1;exact fC.told (key _ _ A y).1
    .cases e1
   .cases e0
 |_=>
  simp only[jY]at e0 e1;rw[e0]at e1;cases e1;exact fC.refl d z
def BM.erB_some {d:bk} {m:Nat} (hinv:gV h j) {b0 c:eG} (h0:h.get i=Z b0) (D:BM g h m b0 c) (e1:jY d c=Z z):∃y,jY h b0=Z y:=by
 cases D with
 |C ty L x l N m' hg hp hm=>
  obtain⟨l',A⟩:=eR h l (hinv.C i _ l h0);cases ty<;>exact⟨_,by simp only[jY,A];rfl⟩
 |_=>exact⟨z,e1⟩
def BM.mem {b0 c:eG} (d:BM g h i b0 c) (m k:Nat):wx m k b0=wx m k c:=by cases d<;>rfl
def BM.G {b0 c:eG} (d:BM g h i b0 c):iH c=iH b0:=by
 cases d<;>rfl
end
end Go.Proofs.YtlimcnhpkfopcaaGreatDoor.AI
