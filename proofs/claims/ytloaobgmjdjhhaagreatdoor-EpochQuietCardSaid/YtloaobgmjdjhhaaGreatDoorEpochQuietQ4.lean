/-
  Texts of the proof, part 5 of 5: what is used to prove the statement. No condition.
-/
import Derived.Test.YtloaobgmjdjhhaaGreatDoorEpochQuietQ3
import Derived.Deep.Slices
import Derived.OpenShut
import Derived.Below
import Derived.Test.YtloaobgmjdjhhaaGreatDoorProg
import Derived.KernelRfl
import Derived.Recover
import Derived.Test.YtloaobgmjdjhhaaGreatDoorRows
import Derived.LaidMore
namespace Go.Proofs.YtloaobgmjdjhhaaGreatDoor.AI
open Go.RowKit
set_option maxRecDepth 100000
set_option maxHeartbeats 4000000
set_option linter.unusedVariables false
set_option linter.unusedSimpArgs false
open Act renaming put→Nh
open _root_.Array renaming replicate→oE
open _root_.Bool renaming true→J,false→af,and_false→KI
open _root_.Int renaming ofNat_eq_natCast→ak,ofNat→aN,toNat→aP,toNat_natCast→cB
open _root_.List renaming length→ai,replicate→aB,take→dI,range→dR,length_singleton→eP,length_nil→gr,cons_append→gx,nil_append→j8,getElem?_cons_zero→lK,take_succ_cons→vH,replicate_succ→vI
open _root_.Nat renaming beq→aA,testBit→aM,add_zero→cZ,ble→eO,blt→gu
open _root_.Option renaming some→M,none→D,bind_some→aF,map_some→ca,map→ma,getD_some→uK
open _root_.Prod renaming p2→aX,p3→bm,p4→bw,q3→bN,p5→cC,q5→cW,q4→du,p6→eB,q6→fw,p7→kO,q7→lJ,q8→pZ,p8→zM,p9→B_,p10→DR
open Region renaming wanted→iP
open Result renaming andThen_ok→cN
open Sem renaming run_bind→eM,run_pure→oS
open _root_.Sum renaming inr→bW,inl→rN
open Value renaming okWide→Hf
open World renaming cell?→Nc
noncomputable section
theorem zH:∀(l:Y sF) (acc:Nat),O0 l acc=acc|||O0 l 0
 |[],acc=>by simp[O0]
 |o::r,acc=>by
  simp only[O0];cases o.dst with
  |none=>exact zH r acc
  |some d=>simp only[];rw[zH r (acc|||kC d),zH r (0|||kC d),yh,kP]
theorem zW:∀(l:ι) (acc:Nat),K6 l acc=acc|||K6 l 0
 |[],acc=>by simp[K6]
 |k::r,acc=>by simp only[K6];rw[zW r (acc|||kC k),zW r (0|||kC k),yh,kP]
theorem lq:∀(l:Y Adj) (acc:Nat),mD l acc=acc|||mD l 0
 |[],acc=>by simp[mD]
 |.nil k _ _::r,acc=>by simp only[mD];rw[lq r (acc|||kC k),lq r (0|||kC k),yh,kP]
 |.cel _ _ _ _::r,acc=>by simp only[mD];exact lq r acc
 |.mpt _ _ _::r,acc=>by simp only[mD];exact lq r acc
 |.mz _ _::r,acc=>by simp only[mD];exact lq r acc
 |.ren k _::r,acc=>by simp only[mD];rw[lq r (acc|||kC k),lq r (0|||kC k),yh,kP]
 |.pk _ _ _::r,acc=>by simp only[mD];exact lq r acc
theorem iI:∀(c:TC) (acc:Nat),c.asg acc=acc|||c.asg 0
 |.reg ops _,acc=>zH ops acc
 |.seq a b,acc=>by simp only[TC.asg];rw[iI b (a.asg acc),iI b (a.asg 0),iI a acc,kP]
 |.jseq A a b,acc=>by simp only[TC.asg];rw[iI b (a.asg _),iI b (a.asg (K6 A.ks 0)),iI a (K6 A.ks acc),iI a (K6 A.ks 0),zW A.ks acc,kP,kP,kP]
 |.cond _ a b,acc=>by simp only[TC.asg];rw[iI b (a.asg acc),iI b (a.asg 0),iI a acc,kP]
 |.block _ b,acc=>iI b acc
 |.jblock A _ b,acc=>by simp only[TC.asg];rw[iI b (K6 A.ks acc),iI b (K6 A.ks 0),zW A.ks acc,kP]
 |.loop A b,acc=>by simp only[TC.asg];rw[iI b (K6 A.ks acc),iI b (K6 A.ks 0),zW A.ks acc,kP]
 |.defer _ _ t,acc=>by simp[TC.asg]
 |.adj l c,acc=>by simp only[TC.asg];rw[iI c (mD l acc),iI c (mD l 0),lq l acc,kP]
 |.split _ _ _ _ c,acc=>iI c acc
 |.unl _ b,acc=>iI b acc
 |.skip,acc=>by simp[TC.asg]
 |.exit _,acc=>by simp[TC.asg]
 |.ret,acc=>by simp[TC.asg]
 |.bad,acc=>by simp[TC.asg]
theorem vj {c:TC} {acc k:Nat} (h:aM (c.asg 0) k=J):aM (c.asg acc) k=J:=by rw[iI,bp,h];simp
theorem kA {c:TC} {acc k:Nat} (h:aM acc k=J):aM (c.asg acc) k=J:=by rw[iI,bp,h];rfl
theorem Wc:∀{l:ι} {acc k:Nat},k∈l->aM (K6 l acc) k=J
 |[],_,_,h=>by cases h
 |x::r,acc,k,h=>by
  simp only[K6];rcases bh.1 h with rfl|h
  .rw[zW,bp,bp,bV.2 rfl];simp
  .exact Wc h
theorem Sa:∀{l:Y sF} {acc:Nat} {o:sF} {d:Nat},o∈l->o.dst=M d->aM (O0 l acc) d=J
 |[],_,_,_,h,_=>by cases h
 |x::r,acc,o,d,h,hd=>by
  simp only[O0];rcases bh.1 h with rfl|h
  .rw[hd];simp only[];rw[zH,bp,bp,bV.2 rfl];simp
  .exact Sa h hd
theorem Wk:∀{e:iT} {ks:ι} {vs:Y TV},n_ e ks=M vs->vs.length=ks.length/\∀(j k:Nat),ks[j]? =M k->∃v,vs[j]? =M v/\e.get k=M v
 |e,[],vs,h=>by simp only[n_,ah]at h;subst h;exact⟨rfl,by simp⟩
 |e,k::r,vs,h=>by
  simp only[n_]at h;split at h
  .rename_i v hv;split at h
   .rename_i l hl;simp only[ah]at h;subst h;obtain⟨h1,h2⟩:=Wk hl;refine ⟨by simp[h1],λj k' hj=>?_⟩;cases j with
    |zero=>simp at hj;subst hj;exact⟨v,rfl,hv⟩
    |succ j=>simpa using h2 j k' (by simpa using hj)
   .cases h
  .cases h
theorem If {e:iT} {h:bg} (hi:tI e h):∀{ks:ι} {vs:Y TV},n_ e ks=M vs->kX h vs=J
 |[],vs,hg=>by simp only[n_,ah]at hg;subst hg;rfl
 |k::r,vs,hg=>by
  simp only[n_]at hg;split at hg
  .rename_i v hv;split at hg
   .rename_i l hl;simp only[ah]at hg;subst hg;simp only[kX,al];exact⟨hi k v hv,If hi hl⟩
   .cases hg
  .cases hg
theorem Ch:∀{e:iT} {ks:ι} {vs:Y TV},vs.length=ks.length->∀t v,(Xg e ks vs).get t=M v->(∃j:Nat,ks[j]? =M t/\vs[j]? =M v)\/(t∉ks/\e.get t=M v)
 |e,[],[],_,t,v,h=>.inr ⟨by simp,h⟩
 |e,[],_::_,hl,t,v,h=>by simp at hl
 |e,_::_,[],hl,t,v,h=>by simp at hl
 |e,k::r,u::l,hl,t,v,h=>by
  simp only[Xg,PT.get_set]at h;split at h
  .rename_i a;subst a;cases h;exact .inl ⟨0,rfl,rfl⟩
  .rename_i a;rcases Ch (by simpa using hl) t v h with ⟨j,h1,h2⟩|⟨h1,h2⟩
   .exact .inl ⟨j+1,by simpa using h1,by simpa using h2⟩
   .exact .inr ⟨by simp[a,h1],h2⟩
theorem tN {am:Nat} {e:iT}:∀{ks:ι} {k:Nat} {v:TV},(CG am e ks).get k=M v->k∈ks/\e.get k=M v/\uf v=J/\aM am k=af
 |[],k,v,h=>by simp[CG,PT.get]at h
 |x::r,k,v,h=>by
  simp only[CG]at h;split at h
  .rename_i u hu;split at h
   .rename_i hc;simp only[al,eD]at hc;rw[PT.get_set]at h;split at h
    .rename_i a;subst a;cases h;exact⟨by simp,hu,hc.1,hc.2⟩
    .obtain⟨h1,h2⟩:=tN h;exact⟨by simp[h1],h2⟩
   .obtain⟨h1,h2⟩:=tN h;exact⟨by simp[h1],h2⟩
  .obtain⟨h1,h2⟩:=tN h;exact⟨by simp[h1],h2⟩
theorem Ix {am:Nat} {e0 e:iT}:∀{ks:ι},Ht am e0 e ks=J->∀k v,k∈ks->e0.get k=M v->uf v=J->aM am k=af->∃c,e.get k=M c
 |[],_,k,v,h,_,_,_=>by cases h
 |x::r,hc,k,v,h,hv,hf,a=>by
  simp only[Ht,al]at hc;rcases bh.1 h with rfl|h
  .have h1:=hc.1;rw[hv]at h1;simp only[hf,a,Bool.not_true,Bool.false_or]at h1;cases q:e.get k with
   |none=>rw[q]at h1;cases h1
   |some u=>exact⟨u,rfl⟩
  .exact Ix hc.2 k v h hv hf a
section walk
variable {P:Program} {E:Nat->Prop} {nt np:Nat}
theorem Q3 {h:bg} {v:TV} {y:AV} (hn:adi v=J) (a:ci h v=M y):Le y .emp:=by
 cases v with
 |nil=>simp only[ci,ah]at a;subst a;exact Le.nilEmp
 |emp=>simp only[ci,ah]at a;subst a;exact Le.refl _
 |_=>cases hn
theorem WY {φ:PM} {s:TS} {a:Act} {w:World} (c:oR P E nt np φ s a w) (ty:TypeId) (T:Ty):oR P E nt np φ ⟨s.e,s.h.set s.nx (M (.rows ty J T [])),s.nx+1⟩ a w/\bt (s.h.set s.nx (M (.rows ty J T [])))=bt s.h/\bZ s.h (s.h.set s.nx (M (.rows ty J T []))):=by
 have hfr:=c.invH.fresh;have hr:bZ s.h (s.h.set s.nx (M (.rows ty J T []))):=bZ.set λr hr=>by rw[bR,hfr]at hr;cases hr
 have L:bt (s.h.set s.nx (M (.rows ty J T [])))=bt s.h:=by
  funext n;by_cases hn:n=nm s.nx
  .subst hn;rw[bE,bE,PT.get_set,aC rfl,hfr];rfl
  .refine kz c.invH hr λi e=>?_
   subst e;rw[PT.get_set,ay (λe=>hn (by rw[e]))]
 refine ⟨⟨by rw[L];exact c.rep,?_,λn k hk=>zN (c.dom n k hk),iE c.low,c.invH.set hr (qN _) (Nat.le_succ _) (λ_ _ he=>by cases he),?_,c.inert,c.size⟩,L,hr⟩
 .intro t x A;rw[L];simp only[fO]at A;cases he:s.e.get t with
  |none=>rw[he]at A;cases A
  |some q=>
   rw[he]at A;obtain⟨z,U⟩:=pa s.h q (c.invE t q he);simp only[aF,gp hr q z U,ah]at A;subst A;exact c.env t _ (by simp only[fO,he,aF,U])
 .intro t x A;exact mU hr x (c.invE t x A)
theorem yJ {h:bg}:∀{a b:Y TV},kX h a=J->kX h b=J->kX h (a++b)=J
 |[],_,_,hb=>hb
 |x::r,b,c,hb=>by
  simp only[kX,al]at c;simp only[gx,kX,al];exact⟨c.1,yJ c.2 hb⟩
theorem Mf {h:bg}:∀{a:Y TV} (n:Nat),kX h a=J->kX h (a.take n)=J
 |[],n,_=>by simp[kX]
 |x::r,0,_=>rfl
 |x::r,n+1,c=>by
  simp only[kX,al]at c;simp only[vH,kX,al];exact⟨c.1,Mf n c.2⟩
theorem Mg {h:bg}:∀{a:Y TV} (n:Nat),kX h a=J->kX h (a.drop n)=J
 |[],n,_=>by simp[kX]
 |x::r,0,c=>c
 |x::r,n+1,c=>by
  simp only[kX,al]at c;simp only[vJ];exact Mg n c.2
theorem yB {α:Type} {l:Y α} {j:Nat} {x:α} (h:l[j]? =M x):splice l j [x]=l:=by
 have hl:j<l.length:=by
  rcases b7 j l.length with h'|h'
  .exact h'
  .rw[bD h']at h;cases h
 rw[ax hl,ah]at h;unfold splice;subst h;simp
theorem ab5 {φ:PM} {s:TS} {a:Act} {w:World} (c:oR P E nt np φ s a w) {id j:Nat} {cty:I TypeId} {l:Y TV} {v u:TV} (hb:s.h.get id=M (.cells cty l)) (hv:l[j]? =M v) (hn:adi v=J) (hu:ci s.h u=M .emp) (huo:K3 s.h u=J):
 oR P E nt np φ ⟨s.e,s.h.set id (M (.cells cty (splice l j [u]))),s.nx⟩ a w/\B1 np φ φ (bt s.h) (bt (s.h.set id (M (.cells cty (splice l j [u]))))) w w:=by
 have hr:bZ s.h (s.h.set id (M (.cells cty (splice l j [u])))):=bZ.set λr hr=>by rw[bR,hb]at hr;cases hr
 have hlo:=c.invH.cells id _ l hb;obtain⟨L,U⟩:=fd s.h l hlo;have hsp:cJ s.h (splice l j [u])=M (splice L j [.emp]):=pO j U (by simp only[cJ,hu]);have hsp':cJ (s.h.set id (M (.cells cty (splice l j [u])))) (splice l j [u])=M (splice L j [.emp]):=gm hr _ _ hsp;obtain⟨y,hy,hey⟩:=lm U j v hv;have hold:bt s.h (nm id)=M (WF cty L):=by rw[bE,hb];cases cty<;>(simp only[aF,jC,U];rfl)
 have hnew:bt (s.h.set id (M (.cells cty (splice l j [u])))) (nm id)=M (WF cty (splice L j [.emp])):=by
  rw[bE,PT.get_set,aC rfl];cases cty<;>(simp only[aF,jC,hsp'];rfl)
 have hoth:∀n,n≠nm id->bt (s.h.set id (M (.cells cty (splice l j [u])))) n=bt s.h n:=λn hn'=>by
  refine kz c.invH hr λi e=>?_
  subst e;rw[PT.get_set,ay (λe=>hn' (by rw[e]))]
 have hdom:uJ (bt s.h) (bt (s.h.set id (M (.cells cty (splice l j [u]))))):=λn b Z=>by
  by_cases e:n=nm id
  .subst e;exact⟨_,hold⟩
  .rw[hoth n e]at Z;exact⟨b,Z⟩
 have hcell:∀ty,cty=M ty->∀x∈L,x.isCell=J:=λty hty x A=>by
  subst hty;obtain⟨k,hk⟩:=fc A;obtain⟨q,_,_,hat⟩:=c.rep.at_ _ _ hold;unfold Xa at hat;obtain⟨ob,_,hob⟩:=hat;rw[show WF (M ty) L=⟨ty,.mx L⟩ from rfl,pG rfl]at hob;obtain⟨arr,_,hca⟩:=hob;exact (hca.2 k x hk).1
 have hV:G' (bt s.h) (bt (s.h.set id (M (.cells cty (splice l j [u]))))):=⟨hdom,λn b b' h1 h2=>by
  by_cases e:n=nm id
  .subst e;rw[hold]at h1;cases h1;rw[hnew]at h2;cases h2;have hle:ib (bt s.h) (bt (s.h.set id (M (.cells cty (splice l j [u]))))) L (splice L j [.emp]):=by
    have:=ib.splice j (ib.refl hdom L) (b:=[y]) (b':=[.emp]) ⟨(Q3 hn hey).toH hdom,trivial⟩;rw[yB hy]at this;exact this
   cases cty with
   |none=>exact iJ.told hle
   |some ty=>
    refine iJ.cells rfl rfl hle λx A=>?_
    have A:x∈splice L j [.emp]:=A;unfold splice at A;rw[bQ,bQ,aJ]at A;rcases A with (A|A)|A
    .exact hcell ty rfl x (hY A)
    .subst A;rfl
    .exact hcell ty rfl x (List.mem_of_mem_drop A)
  .rw[hoth n e,h1]at h2;cases h2;exact iJ.refl hdom b⟩
 refine ⟨⟨hV.rep c.rep,?_,c.dom,c.low,c.invH.set hr (c.invH.low id _ hb) (bU _) (λty l2 he=>?_),?_,c.inert,c.size⟩,⟨HM.refl _ _,λk _ ho=>hdom.own ho,λ_ _=>rfl⟩⟩
 .intro t x A;simp only[fO]at A;cases he:s.e.get t with
  |none=>rw[he]at A;cases A
  |some q=>
   rw[he]at A;obtain⟨z,hz⟩:=pa s.h q (c.invE t q he);simp only[aF,gp hr q z hz,ah]at A;subst A;exact (c.env t _ (by simp only[fO,he,aF,hz])).dom hdom
 .simp only[io.cells.injEq]at he;obtain⟨_,rfl⟩:=he;refine iZ hr _ ?_;unfold splice;exact yJ (yJ (Mf _ hlo) (by simp only[kX,huo,jE])) (Mg _ hlo)
 .intro t x A;exact mU hr x (c.invE t x A)
theorem oR.congr {φ:PM} {s s':TS} {a:Act} {w:World} (c:oR P E nt np φ s a w) (he:∀t,s'.e.get t=s.e.get t) (hh:∀i,s'.h.get i=s.h.get i) (hn:s'.nx=s.nx):oR P E nt np φ s' a w/\bt s'.h=bt s.h:=by
 have hr:bZ s.h s'.h:=λi r hi=>by rw[bR]at hi ⊢;rw[hh];exact hi
 have A:bt s'.h=bt s.h:=by funext n;exact kz c.invH hr λi _=>hh i
 refine ⟨⟨by rw[A];exact c.rep,?_,by rw[hn];exact c.dom,by rw[hn];exact c.low,⟨λi ty l hg=>?_,λi b hg=>?_⟩,λt v hv=>?_,c.inert,c.size⟩,A⟩
 .intro t x q;rw[A];simp only[fO,he]at q;cases hg:s.e.get t with
  |none=>rw[hg]at q;cases q
  |some v=>
   rw[hg]at q;obtain⟨z,L⟩:=pa s.h v (c.invE t v hg);simp only[aF,gp hr v z L,ah]at q;subst q;exact c.env t _ (by simp only[fO,hg,aF,L])
 .rw[hh]at hg;exact iZ hr l (c.invH.cells i _ l hg)
 .rw[hh]at hg;rw[hn];exact c.invH.low i b hg
 .rw[he]at hv;exact mU hr v (c.invE t v hv)
theorem PA {R:Type} {v:Int} {f:Nat->I R} {r:R}:∀{m i:Nat},spl v f i m=M r->∃j,v=aN j/\f j=M r
 |0,i,h=>by cases h
 |m+1,i,h=>by
  simp only[spl]at h;rcases py h with ⟨h1,h2⟩|⟨_,h2⟩
  .exact⟨i,be h1,h2⟩
  .exact PA h2
theorem Zk {φ:PM} {s s':TS} {a:Act} {w:World} (c:oR P E nt np φ s a w) {k off:Nat} {kd:IntKind} {v:Int} (h1:ZT s k off=M (kd,v)) (h2:Tq s k off kd v=M s'):oR P E nt np φ s' a w/\bt s'.h=bt s.h/\∀t,s'.e.get t=s.e.get t:=by
 unfold ZT at h1;unfold Tq at h2;cases hk:s.e.get k with
 |none=>rw[hk]at h1;cases h1
 |some x=>
  rw[hk]at h1 h2;cases x with
  |f T q=>
   cases T with
   |int kd'=>
    simp only[ah,aD]at h1;obtain⟨rfl,rfl⟩:=h1;simp only[ah]at h2;subst h2;have he:∀t,(s.e.set k (M (.f (.int kd') q))).get t=s.e.get t:=λt=>by
     rw[PT.get_set];split
     .rename_i e;subst e;exact hk.symm
     .rfl
    obtain⟨A,z⟩:=c.congr (s':=⟨s.e.set k (M (.f (.int kd') q)),s.h,s.nx⟩) he (λ_=>rfl) rfl;exact⟨A,z,he⟩
   |_=>cases h1
  |ptr a0 o0=>
   simp only[]at h1 h2;cases hb:s.h.get a0 with
   |none=>rw[hb]at h1;cases h1
   |some b=>
    rw[hb]at h1 h2;cases b with
    |cells ty l=>
     cases ty with
     |none=>cases h1
     |some ty=>
     simp only[]at h1 h2;cases hl:l[o0+off]? with
     |none=>rw[hl]at h1;cases h1
     |some y=>
      rw[hl]at h1;cases y with
      |f T q=>
       cases T with
       |int kd'=>
        simp only[ah,aD]at h1;obtain⟨rfl,rfl⟩:=h1;simp only[ah]at h2;subst h2;have hh:∀i,(s.h.set a0 (M (.cells (M ty) (splice l (o0+off) [.f (.int kd') q])))).get i=s.h.get i:=λi=>by
         rw[PT.get_set];split
         .rename_i e;subst e;rw[hb,yB hl]
         .rfl
        obtain⟨A,z⟩:=c.congr (s':=⟨s.e,s.h.set a0 (M (.cells (M ty) (splice l (o0+off) [.f (.int kd') q]))),s.nx⟩) (λ_=>rfl) hh rfl;exact⟨A,z,λ_=>rfl⟩
       |_=>cases h1
      |_=>cases h1
    |_=>cases h1
  |_=>cases h1
mutual
theorem L8 (id sz n:Nat):∀v:TV,uf v=J->KP id sz n v=v
 |.f _ _,_=>rfl
 |.fel _ _ _ _ _,_=>rfl
 |.emp,_=>rfl
 |.nil,_=>rfl
 |.undef,_=>rfl
 |.np,_=>rfl
 |.anyb,_=>rfl
 |.agg l,h=>by simp only[KP];rw[Bn id sz n l h]
 |.tup l,h=>by simp only[KP];rw[Bn id sz n l h]
 |.pel _ _ _ _,h=>by cases h
 |.ptr _ _,h=>by cases h
 |.csl _ _ _,h=>by cases h
 |.row _,h=>by cases h
 |.rtl _ _,h=>by cases h
 |.mp _,h=>by cases h
 |.clo _ _,h=>by cases h
theorem Bn (id sz n:Nat):∀l:Y TV,qx l=J->Ce id sz n l=l
 |[],_=>rfl
 |x::r,h=>by
  simp only[qx,al]at h;simp only[Ce];rw[L8 id sz n x h.1,Bn id sz n r h.2]
end
section subs
variable {id sz n:Nat} {h h':bg}
mutual
theorem Nr (hr:bZ h h') (hid:eH h' id=M (af,sz,n)):∀(v:TV) (y:AV),ci h v=M y->ci h' (KP id sz n v)=M y
 |.csl i s m,y,he=>by
  simp only[ci,ah]at he;subst he;simp only[KP];split
  .rename_i hq;simp only[al]at hq;have e1:=ar hq.1.1;have e2:=ar hq.1.2;have e3:=ar hq.2;subst e1;subst e2;subst e3;simp only[ci,hid,fG,lA,cz,dT]
  .rfl
 |.agg l,y,he=>by
  simp only[ci]at he;cases hl:cJ h l with
  |none=>rw[hl]at he;cases he
  |some l'=>rw[hl]at he;simp only[KP,ci,vN hr hid l l' hl];exact he
 |.tup l,y,he=>by
  simp only[ci]at he;cases hl:cJ h l with
  |none=>rw[hl]at he;cases he
  |some l'=>rw[hl]at he;simp only[KP,ci,vN hr hid l l' hl];exact he
 |.clo g l,y,he=>by
  simp only[ci]at he;cases hl:cJ h l with
  |none=>rw[hl]at he;cases he
  |some l'=>rw[hl]at he;simp only[KP,ci,vN hr hid l l' hl];exact he
 |.f T v,y,he=>gp hr _ _ he
 |.fel T xs j hj off,y,he=>gp hr _ _ he
 |.pel _ _ _ _,y,he=>gp hr _ _ he
 |.ptr _ _,y,he=>gp hr _ _ he
 |.row _,y,he=>gp hr _ _ he
 |.rtl _ _,y,he=>gp hr _ _ he
 |.emp,y,he=>gp hr _ _ he
 |.nil,y,he=>gp hr _ _ he
 |.mp _,y,he=>gp hr _ _ he
 |.undef,y,he=>gp hr _ _ he
 |.np,y,he=>gp hr _ _ he
 |.anyb,y,he=>gp hr _ _ he
theorem vN (hr:bZ h h') (hid:eH h' id=M (af,sz,n)):∀(l:Y TV) (l':Y AV),cJ h l=M l'->cJ h' (Ce id sz n l)=M l'
 |[],l',he=>by simp only[cJ,ah]at he;subst he;rfl
 |x::r,l',he=>by
  obtain⟨y,l2,rfl,h1,h2⟩:=cY he;simp only[Ce];exact o7 (Nr hr hid x y h1) (vN hr hid r l2 h2)
end
end subs
theorem akv {φ:PM} {s:TS} {a:Act} {w:World} (c:oR P E nt np φ s a w) {T:Ty} {id sz n:Nat} {s':TS} (hp:pkS s T id sz n=M s'):oR P E nt np φ s' a w/\B1 np φ φ (bt s.h) (bt s'.h) w w/\gi 0 s.e s'.e:=by
 unfold pkS at hp;split at hp
 .rename_i ty l hb;split at hp
  .rename_i hs;have hs:=ar hs;subst hs;split at hp
   .rename_i xs m hpk;split at hp
    .cases hp
    .rename_i hmid;simp only[ah]at hp;subst hp;have hm:dQ s.h m:=Nx n l xs m hpk;obtain⟨l',hl⟩:=fd s.h l (c.invH.cells id _ l hb);have hidlt:=c.invH.low id _ hb;have n_:∀i,((PT.updI (λ_ b=>Xe id T.size n b) 1 0 (eA m s.h)).set id (M (.rows ty af T xs))).get i=if i=id then M (.rows ty af T xs) else if aM m i then (s.h.get i).map uT else (s.h.get i).map (Xe id T.size n):=λi=>by
      rw[PT.get_set];by_cases e:i=id
      .rw[aC e,aC e]
      .rw[ay e,ay e,PT.get_updI,jb];split
       .cases hg:s.h.get i with
        |none=>rfl
        |some b=>cases b<;>rfl
       .rfl
     generalize hH2:((PT.updI (λ_ b=>Xe id T.size n b) 1 0 (eA m s.h)).set id (M (.rows ty af T xs)))=h2 at n_ ⊢;have hr:bZ s.h h2:=λi r hi=>by
      rw[bR]at hi ⊢;rw[n_];by_cases e:i=id
      .subst e;rw[hb]at hi;cases hi
      .rw[ay e];cases hg:s.h.get i with
       |none=>rw[hg]at hi;cases hi
       |some b=>
        rw[hg]at hi;split
        .exact Mb hi
        .cases b<;>first|exact hi|cases hi
     have hnone:∀i,aM m i=J->bt h2 (nm i)=D:=λi hi=>by
      have e:i≠id:=λe=>by subst e;exact hmid hi
      obtain⟨ty',p',T',xs',L⟩:=hm i hi;rw[bE,n_,ay e,aC hi,L];rfl
     have hdom:uJ (bt s.h) (bt h2):=λq b hq=>by
      obtain⟨i,cc,rfl,A,h4⟩:=jB hq;rw[bE];rw[n_]at A;by_cases e:i=id
      .subst e;rw[hb];simp only[aF,jC,hl];exact⟨_,rfl⟩
      .rw[ay e]at A;cases hg:s.h.get i with
       |none=>rw[hg]at A;split at A<;>cases A
       |some b0=>
        rw[hg]at A;split at A
        .simp only[ca,ah]at A;subst A;cases b0<;>simp[uT,jC]at h4
        .simp only[ca,ah]at A;subst A;simp only[aF];cases b0 with
         |cells ty0 l0=>
          obtain⟨l0',Z⟩:=fd s.h l0 (c.invH.cells i _ l0 hg);exact⟨WF ty0 l0',by cases ty0<;>(simp only[jC,Z];rfl)⟩
         |rows=>exact⟨_,h4⟩
         |dead=>exact⟨_,h4⟩
         |mp=>exact⟨_,h4⟩
     have giv:DW s.h (bt s.h) (bt h2) m:=λi hi=>⟨rfl,hnone i hi⟩
     obtain⟨hle,hlen⟩:=Ct hdom n l xs m l' hpk hl giv;have hrow:eH h2 id=M (af,T.size,n):=by rw[bR,n_,aC rfl,<-hlen];rfl
     have hV:G' (bt s.h) (bt h2):=⟨hdom,λq b b' A h4=>by
      obtain⟨i,cc,rfl,h5,h6⟩:=jB h4;rw[bE]at A;rw[n_]at h5;by_cases e:i=id
      .subst e;rw[aC rfl]at h5;cases h5;rw[hb]at A;simp only[aF,jC,hl,ah]at A;subst A;simp only[jC,lA,cz,dT,ah]at h6;subst h6;refine iJ.cells rfl rfl hle λx L=>?_
       simp only[BC.toMx]at L;obtain⟨q,hq,rfl⟩:=db.1 L;exact rH T _ q hq
      .rw[ay e]at h5;cases hg:s.h.get i with
       |none=>rw[hg]at h5;split at h5<;>cases h5
       |some b0=>
        rw[hg]at h5 A;split at h5
        .simp only[ca,ah]at h5;subst h5;cases b0<;>simp[uT,jC]at h6
        .simp only[ca,ah]at h5;subst h5;have:b=b':=by
          simp only[aF]at A;cases b0 with
          |cells ty0 l0=>
           obtain⟨l0',Z⟩:=fd s.h l0 (c.invH.cells i _ l0 hg);cases ty0<;>
            (simp only[jC,Z,ah]at A
             simp only[Xe,jC,vN hr hrow l0 l0' Z,ah]at h6;rw[<- A,<-h6])
          |rows ty1 p1 T1 xs1=>
           have h3':jC h2 (.rows ty1 p1 T1 xs1)=M b:=A;exact j7 (h3'.symm.trans h6)
          |dead p1 s1 n1=>
           have h3':jC h2 (.dead p1 s1 n1)=M b:=A;exact j7 (h3'.symm.trans h6)
          |mp K1 V1 es1=>
           have h3':jC h2 (.mp K1 V1 es1)=M b:=A;exact j7 (h3'.symm.trans h6)
         subst this;exact iJ.refl hdom b⟩
     refine ⟨⟨hV.rep c.rep,?_,c.dom,c.low,⟨λi ty' l2 hg=>?_,λi b hg=>?_⟩,?_,c.inert,c.size⟩,⟨HM.refl _ _,λk _ hk=>hdom.own hk,λ_ _=>rfl⟩,?_⟩
     .intro t x L;simp only[fO,PT.get_updI]at L;cases he:s.e.get t with
      |none=>rw[he]at L;cases L
      |some v=>
       rw[he]at L;obtain⟨z,hz⟩:=pa s.h v (c.invE t v he);simp only[ca,aF,Nr hr hrow v z hz,ah]at L;subst L;exact (c.env t _ (by simp only[fO,he,aF,hz])).dom hdom
     .rw[n_]at hg;by_cases e:i=id
      .rw[aC e]at hg;cases hg
      .rw[ay e]at hg;cases hg0:s.h.get i with
       |none=>rw[hg0]at hg;split at hg<;>cases hg
       |some b0=>
        rw[hg0]at hg;split at hg
        .simp only[ca,ah]at hg;cases b0<;>simp[uT]at hg
        .simp only[ca,ah]at hg;cases b0 with
         |cells ty0 l0=>
          simp only[Xe,io.cells.injEq]at hg;obtain⟨_,rfl⟩:=hg;obtain⟨l0',Z⟩:=fd s.h l0 (c.invH.cells i _ l0 hg0);exact j6 _ _ _ (vN hr hrow l0 l0' Z)
         |_=>cases hg
     .rw[n_]at hg;by_cases e:i=id
      .subst e;exact hidlt
      .rw[ay e]at hg;cases hg0:s.h.get i with
       |none=>rw[hg0]at hg;split at hg<;>cases hg
       |some b0=>exact c.invH.low i b0 hg0
     .intro t x L;simp only[PT.get_updI]at L;cases he:s.e.get t with
      |none=>rw[he]at L;cases L
      |some v=>
       rw[he]at L;simp only[ca,ah]at L;subst L;obtain⟨z,hz⟩:=pa s.h v (c.invE t v he);exact EL _ _ _ (Nr hr hrow v z hz)
     .intro k _ v' U;simp only[PT.get_updI]at U;cases he:s.e.get k with
      |none=>rw[he]at U;cases U
      |some v=>
       rw[he]at U;simp only[ca,ah]at U;subst U;exact⟨v,rfl,λhf=>L8 _ _ _ v hf⟩
   .cases hp
  .cases hp
 .cases hp
theorem akp {φ:PM} {s:TS} {a:Act} {w:World} (c:oR P E nt np φ s a w) {k off:Nat} {s':TS} (h:LR s (.ren k off)=M s'):∃φ',oR P E nt np φ' s' a w/\B1 np φ φ' (bt s.h) (bt s'.h) w w/\gi (mD [.ren k off] 0) s.e s'.e:=by
 simp only[LR]at h;split at h
 .rename_i b o hk;split at h
  .rename_i cty l hb;split at h
   .rename_i id hv;split at h
    .rename_i ty p T xs L;simp only[ah]at h;subst h;have hfr:=c.invH.fresh;have hidlt:=c.invH.low id _ L;have hblt:=c.invH.low b _ hb;have hbid:b≠id:=λe=>by rw[e,L]at hb;cases hb
     have hbn:b≠s.nx:=by omega
     have hin:id≠s.nx:=by omega
     generalize hh2:(((s.h.set id (M (.dead p T.size xs.length))).set s.nx (M (.rows ty p T xs))).set b (M (.cells (M cty) (splice l (o+off) [.row s.nx]))))=h2;have n_:∀i,h2.get i=if i=b then M (.cells (M cty) (splice l (o+off) [.row s.nx])) else if i=s.nx then M (.rows ty p T xs) else if i=id then M (.dead p T.size xs.length) else s.h.get i:=λi=>by
      rw[<- hh2,PT.get_set,PT.get_set,PT.get_set]
     have hr:bZ s.h h2:=λi r hi=>by
      rw[bR]at hi ⊢;rw[n_];by_cases e1:i=b
      .subst e1;rw[hb]at hi;cases hi
      .rw[ay e1];by_cases e2:i=s.nx
       .subst e2;rw[hfr]at hi;cases hi
       .rw[ay e2];by_cases e3:i=id
        .subst e3;rw[aC rfl];rw[L]at hi;exact hi
        .rw[ay e3];exact hi
     have hlo:=c.invH.cells b _ l hb;obtain⟨l',hl'⟩:=fd s.h l hlo;have hrow:ci h2 (.row s.nx)=M (fG p s.nx T.size xs.length):=by
      simp only[ci,bR,n_];rw[ay hbn.symm];simp only[bF,aF,mR]
     have hsp:cJ h2 (splice l (o+off) [.row s.nx])=M (splice l' (o+off) [fG p s.nx T.size xs.length]):=pO _ (gm hr _ _ hl') (by simp only[cJ,hrow]);obtain⟨y,hy,hey⟩:=lm hl' _ _ hv;have hy0:y=fG p id T.size xs.length:=by
      simp only[ci,bR,L,aF,mR,ah]at hey;exact hey.symm
     subst hy0;have hold:bt s.h (nm b)=M ⟨cty,.mx l'⟩:=by rw[bE,hb];simp only[aF,jC,hl']
     have hnew:bt h2 (nm b)=M ⟨cty,.mx (splice l' (o+off) [fG p s.nx T.size xs.length])⟩:=by
      rw[bE,n_,aC rfl];simp only[aF,jC,hsp]
     have hdead:bt h2 (nm id)=D:=by rw[bE,n_,ay hbid.symm,ay hin,aC rfl];rfl
     have hnx2:bt h2 (nm s.nx)=if p&&xs.length==0 then D else M ⟨ty,.fz (xs.flatMap (bS T))⟩:=by rw[bE,n_,ay hbn.symm,aC rfl];rfl
     have hid0:bt s.h (nm id)=if p&&xs.length==0 then D else M ⟨ty,.fz (xs.flatMap (bS T))⟩:=by rw[bE,L];rfl
     have hoth:∀n,n≠nm b->n≠nm s.nx->n≠nm id->bt h2 n=bt s.h n:=λn e1 e2 e3=>kz c.invH hr λi e=>by
      subst e;rw[n_,ay (λe=>e1 (by rw[e])),ay (λe=>e2 (by rw[e])),ay (λe=>e3 (by rw[e]))]
     have hnb:nm b≠nm s.nx:=λe=>hbn (kY e)
     have hbi:nm b≠nm id:=λe=>hbid (kY e)
     have hni:nm s.nx≠nm id:=λe=>hin (kY e).symm
     have hinv:ml h2 (s.nx+1):=by
      refine ⟨λi ty2 l2 hil=>?_,λi q hiq=>?_⟩
      .rw[n_]at hil;split at hil
       .simp only[ah,io.cells.injEq]at hil;obtain⟨_,rfl⟩:=hil;exact j6 _ _ _ hsp
       .split at hil
        .cases hil
        .split at hil
         .cases hil
         .exact iZ hr l2 (c.invH.cells i _ l2 hil)
      .rw[n_]at hiq;split at hiq
       .omega
       .split at hiq
        .omega
        .split at hiq
         .omega
         .have:=c.invH.low i q hiq;omega
     have hE:∀t x,fO s.e h2 t=M x->fO s.e s.h t=M x:=λt x A=>by
      simp only[fO]at A ⊢;cases he:s.e.get t with
      |none=>rw[he]at A;cases A
      |some q=>
       rw[he]at A;obtain⟨z,hz⟩:=pa s.h q (c.invE t q he);simp only[aF,gp hr q z hz,ah]at A;subst A;simp only[aF,hz]
     by_cases hp:(p&&xs.length==0)=J
     ·
      have hH:bt h2=bt s.h:=by
       funext n;by_cases e1:n=nm b
       .subst e1;rw[hold,hnew];have:fG p s.nx T.size xs.length=fG p id T.size xs.length:=by unfold fG;rw[aC hp,aC hp]
        rw[this,yB hy]
       .by_cases e2:n=nm s.nx
        .subst e2;rw[hnx2,aC hp,bE,hfr];rfl
        .by_cases e3:n=nm id
         .subst e3;rw[hdead,hid0,aC hp]
         .exact hoth n e1 e2 e3
      refine ⟨φ,⟨by rw[hH];exact c.rep,λt x A=>by rw[hH];exact c.env t x (hE t x A),λn q hq=>zN (c.dom n q hq),iE c.low,hinv,λt x A=>mU hr x (c.invE t x A),c.inert,c.size⟩,by rw[hH];exact B1.refl _ _ _ _,gi.refl _ _⟩
     .have hid1:bt s.h (nm id)=M ⟨ty,.fz (xs.flatMap (bS T))⟩:=by rw[hid0,ay hp]
      obtain⟨kk,k1,k2,ob,k3,k4⟩:=c.rep.at_ _ _ hid1;have hφn:φ (nm s.nx)=D:=by
       cases hq:φ (nm s.nx) with
       |none=>rfl
       |some q=>have:=c.dom _ q hq;rw[dS]at this;omega
      let nw:HF:=λn=>if n=nm s.nx then M ⟨ty,.fz (xs.flatMap (bS T))⟩ else D
      have hsh:Fa w w kk ob:=⟨rfl,rfl,rfl,rfl,k3,λ_ _=>rfl,λ_=>rfl⟩
      obtain⟨φ',p1,p2,p3,p4⟩:=c.rep.wren hid1 k1 hφn hsh k4 nw (by simp[nw]) (by simp only[nw];rw[ay hni.symm]);have hb1:eV (bt s.h) [nm s.nx,nm id] nw (nm b)=M ⟨cty,.mx l'⟩:=by
       unfold eV;rw[ay (by simp[hnb,hbi]),hold]
      obtain⟨kb,b1,b2,ob2,b3,b4⟩:=p4.at_ _ _ hb1;have hlt:o+off<l'.length:=by
       rcases b7 (o+off) l'.length with h'|h'
       .exact h'
       .rw[bD h']at hy;cases hy
      have hob:jd φ' (tot E φ' (eV (bt s.h) [nm s.nx,nm id] nw)) w ⟨cty,.mx (splice l' (o+off) [fG p s.nx T.size xs.length])⟩ ob2:=by
       rw[pG rfl]at b4 ⊢;obtain⟨arr,a1,a2⟩:=b4;refine ⟨arr,a1,?_⟩;unfold vk at a2 ⊢;refine ⟨by simp only[BC.len]at a2 ⊢;rw[oF (by simp;omega)];exact a2.1,λj x A=>?_⟩;simp only[BC.get]at A a2;rw[mQ (by simp;omega)]at A;split at A
       .exact a2.2 j x A
       .split at A
        .rename_i h3 U;simp only[eP]at U;have hj:j=o+off:=by omega
         subst hj;simp only[Nat.sub_self,lK,ah]at A;subst A;obtain⟨_,v,a3,a4⟩:=a2.2 _ _ hy;unfold fG at a4 ⊢;rw[ay hp]at a4 ⊢;refine ⟨rfl,v,a3,?_⟩;cases a4 with
         |@row _ _ _ cc q hφq hn hc hs2=>
          have:=p2.sub _ _ k1;rw[this,ah]at hφq;subst hφq;exact .row p1 hn hc hs2
        .exact a2.2 j x A
      obtain⟨q1,q2⟩:=p4.wset hb1 b1 (⟨rfl,rfl,rfl,rfl,b3,λ_ _=>rfl,λ_=>rfl⟩:Fa w w kb ob2) hob (λn=>if n=nm b then M ⟨cty,.mx (splice l' (o+off) [fG p s.nx T.size xs.length])⟩ else D) (by simp);have hH:eV (eV (bt s.h) [nm s.nx,nm id] nw) [nm b] (λn=>if n=nm b then M ⟨cty,.mx (splice l' (o+off) [fG p s.nx T.size xs.length])⟩ else D)=bt h2:=by
       funext n;by_cases e1:n=nm b
       .subst e1;rw[hnew];simp[eV]
       .by_cases e2:n=nm s.nx
        .subst e2;rw[hnx2,ay hp];simp[eV,nw,hnb.symm]
        .by_cases e3:n=nm id
         .subst e3;rw[hdead];simp[eV,nw,hbi.symm,hni.symm]
         .rw[hoth n e1 e2 e3];simp[eV,e1,e2,e3]
      rw[hH]at q1 q2;have m:=p2.trans q1;refine ⟨φ',⟨q2,λt x A=>m.keep (c.env t x (hE t x A)),λn q hq=>?_,iE c.low,hinv,λt x A=>mU hr x (c.invE t x A),c.inert,c.size⟩,⟨HM.refl _ _,m.own_,λi hi=>?_⟩,gi.refl _ _⟩
      .rcases p3 n q hq with U|U
       .exact zN (c.dom n q U)
       .simp only[aJ]at U;subst U;rw[dS];exact qN _
      .cases hq:φ' (nm i) with
       |none=>
        cases hq2:φ (nm i) with
        |none=>rfl
        |some z=>rw[p2.sub _ _ hq2]at hq;cases hq
       |some z=>
        rcases p3 _ _ hq with U|U
        .exact U.symm
        .simp only[aJ]at U;have:=kY U;have:=c.low;omega
    .cases h
   .cases h
  .cases h
 .rename_i id hk;split at h
  .rename_i ty p T xs L;simp only[ah]at h;subst h;have hfr:=c.invH.fresh;have hidlt:=c.invH.low id _ L;have hin:id≠s.nx:=by omega
   generalize hh2:((s.h.set id (M (.dead p T.size xs.length))).set s.nx (M (.rows ty p T xs)))=h2;have n_:∀i,h2.get i=if i=s.nx then M (.rows ty p T xs) else if i=id then M (.dead p T.size xs.length) else s.h.get i:=λi=>by
    rw[<- hh2,PT.get_set,PT.get_set]
   have hr:bZ s.h h2:=λi r hi=>by
    rw[bR]at hi ⊢;rw[n_];by_cases e2:i=s.nx
    .subst e2;rw[hfr]at hi;cases hi
    .rw[ay e2];by_cases e3:i=id
     .subst e3;rw[aC rfl];rw[L]at hi;exact hi
     .rw[ay e3];exact hi
   have hrow:ci h2 (.row s.nx)=M (fG p s.nx T.size xs.length):=by
    simp only[ci,bR,n_,bF,aF,mR]
   have hrow0:ci s.h (.row id)=M (fG p id T.size xs.length):=by
    simp only[ci,bR,L,aF,mR]
   have hdead:bt h2 (nm id)=D:=by rw[bE,n_,ay hin,aC rfl];rfl
   have hnx2:bt h2 (nm s.nx)=if p&&xs.length==0 then D else M ⟨ty,.fz (xs.flatMap (bS T))⟩:=by rw[bE,n_,aC rfl];rfl
   have hid0:bt s.h (nm id)=if p&&xs.length==0 then D else M ⟨ty,.fz (xs.flatMap (bS T))⟩:=by rw[bE,L];rfl
   have hoth:∀n,n≠nm s.nx->n≠nm id->bt h2 n=bt s.h n:=λn e2 e3=>kz c.invH hr λi e=>by
    subst e;rw[n_,ay (λe=>e2 (by rw[e])),ay (λe=>e3 (by rw[e]))]
   have hni:nm s.nx≠nm id:=λe=>hin (kY e).symm
   have hinv:ml h2 (s.nx+1):=by
    refine ⟨λi ty2 l2 hil=>?_,λi q hiq=>?_⟩
    .rw[n_]at hil;split at hil
     .cases hil
     .split at hil
      .cases hil
      .exact iZ hr l2 (c.invH.cells i _ l2 hil)
    .rw[n_]at hiq;split at hiq
     .omega
     .split at hiq
      .omega
      .have:=c.invH.low i q hiq;omega
   have hE:∀t x,t≠k->fO (s.e.set k (M (.row s.nx))) h2 t=M x->fO s.e s.h t=M x:=λt x ht A=>by
    simp only[fO,PT.get_set]at A ⊢;rw[ay ht]at A;cases he:s.e.get t with
    |none=>rw[he]at A;cases A
    |some q=>
     rw[he]at A;obtain⟨z,hz⟩:=pa s.h q (c.invE t q he);simp only[aF,gp hr q z hz,ah]at A;subst A;simp only[aF,hz]
   have hIE:tI (s.e.set k (M (.row s.nx))) h2:=λt x A=>by
    simp only[PT.get_set]at A;split at A
    .cases A;exact EL _ _ _ hrow
    .exact mU hr x (c.invE t x A)
   have hKp:gi (mD [.ren k off] 0) s.e (s.e.set k (M (.row s.nx))):=λt ht v' hv'=>by
    simp only[PT.get_set]at hv';split at hv'
    .rename_i et;subst et;simp only[mD]at ht;rw[bp,bV.2 rfl]at ht;simp at ht
    .exact⟨v',hv',λ_=>rfl⟩
   have Z:=c.env k (fG p id T.size xs.length) (by simp only[fO,hk,aF,hrow0]);by_cases hp:(p&&xs.length==0)=J
   .have hH:bt h2=bt s.h:=by
     funext n;by_cases e2:n=nm s.nx
     .subst e2;rw[hnx2,aC hp,bE,hfr];rfl
     .by_cases e3:n=nm id
      .subst e3;rw[hdead,hid0,aC hp]
      .exact hoth n e2 e3
    have hsame:fG p s.nx T.size xs.length=fG p id T.size xs.length:=by unfold fG;rw[aC hp,aC hp]
    refine ⟨φ,⟨by rw[hH];exact c.rep,λt x A=>?_,λn q hq=>zN (c.dom n q hq),iE c.low,hinv,hIE,c.inert,c.size⟩,by rw[hH];exact B1.refl _ _ _ _,hKp⟩;rw[hH];by_cases ht:t=k
    .subst ht;simp only[fO,PT.get_set,bF,aF,hrow,ah]at A;subst A;rw[hsame];exact Z
    .exact c.env t x (hE t x ht A)
   .have hid1:bt s.h (nm id)=M ⟨ty,.fz (xs.flatMap (bS T))⟩:=by rw[hid0,ay hp]
    obtain⟨kk,k1,k2,ob,k3,k4⟩:=c.rep.at_ _ _ hid1;have hφn:φ (nm s.nx)=D:=by
     cases hq:φ (nm s.nx) with
     |none=>rfl
     |some q=>have:=c.dom _ q hq;rw[dS]at this;omega
    let nw:HF:=λn=>if n=nm s.nx then M ⟨ty,.fz (xs.flatMap (bS T))⟩ else D
    have hsh:Fa w w kk ob:=⟨rfl,rfl,rfl,rfl,k3,λ_ _=>rfl,λ_=>rfl⟩
    obtain⟨φ',p1,p2,p3,p4⟩:=c.rep.wren hid1 k1 hφn hsh k4 nw (by simp[nw]) (by simp only[nw];rw[ay hni.symm]);have hH:eV (bt s.h) [nm s.nx,nm id] nw=bt h2:=by
     funext n;by_cases e2:n=nm s.nx
     .subst e2;rw[hnx2,ay hp];simp[eV,nw]
     .by_cases e3:n=nm id
      .subst e3;rw[hdead];simp[eV,nw,hni.symm]
      .rw[hoth n e2 e3];simp[eV,e2,e3]
    rw[hH]at p2 p4;refine ⟨φ',⟨p4,λt x A=>?_,λn q hq=>?_,iE c.low,hinv,hIE,c.inert,c.size⟩,⟨HM.refl _ _,p2.own_,λi hi=>?_⟩,hKp⟩
    .by_cases ht:t=k
     .subst ht;simp only[fO,PT.get_set,bF,aF,hrow,ah]at A;subst A;unfold fG at Z ⊢;rw[ay hp]at Z ⊢;generalize a.tmps.getD t undef=z at Z;cases Z with
      |@row _ _ _ cc q hφq hn hc hs2=>
       rw[k1,ah]at hφq;subst hφq;exact .row p1 hn hc hs2
     .exact p2.keep (c.env t x (hE t x ht A))
    .rcases p3 n q hq with U|U
     .exact zN (c.dom n q U)
     .simp only[aJ]at U;subst U;rw[dS];exact qN _
    .cases hq:φ' (nm i) with
     |none=>
      cases hq2:φ (nm i) with
      |none=>rfl
      |some z=>rw[p2.sub _ _ hq2]at hq;cases hq
     |some z=>
      rcases p3 _ _ hq with U|U
      .exact U.symm
      .simp only[aJ]at U;have:=kY U;have:=c.low;omega
  .cases h
 .cases h
theorem aib {φ:PM} {s:TS} {a:Act} {w:World} (c:oR P E nt np φ s a w) {ad:Adj} {s':TS} (h:LR s ad=M s') (hnr:∀k off,ad≠ .ren k off):oR P E nt np φ s' a w/\B1 np φ φ (bt s.h) (bt s'.h) w w/\gi (mD [ad] 0) s.e s'.e:=by
 cases ad with
 |ren k off=>exact ct rfl (hnr k off)
 |nil k ty T=>
  simp only[LR]at h;split at h
  .rename_i v hv;split at h
   .rename_i hn;simp only[ah]at h;subst h;obtain⟨L,Z,hr⟩:=WY c ty T;refine ⟨⟨L.rep,?_,L.dom,L.low,L.invH,?_,L.inert,L.size⟩,by rw[Z];exact B1.refl _ _ _ _,?_⟩
    .intro t x A;simp only[fO,PT.get_set]at A;split at A
     .rename_i et;subst et;simp only[aF,ci,bR,PT.get_set,bF,mR,fG,gr,cS,jE,ah]at A;subst A;obtain⟨z,U⟩:=pa s.h v (c.invE _ v hv);rw[Z];exact Q3 hn U _ _ _ _ (c.env _ _ (by simp only[fO,hv,aF,U]))
     .exact L.env t x A
    .intro t x A;simp only[PT.get_set]at A;split at A
     .cases A;simp only[K3,bR,PT.get_set,bF];rfl
     .exact L.invE t x A
    .intro t ht v' hv';simp only[PT.get_set]at hv';split at hv'
     .rename_i et;subst et;simp only[mD]at ht;rw[bp,bV.2 rfl]at ht;simp at ht
     .exact⟨v',hv',λ_=>rfl⟩
   .simp only[ah]at h;subst h;exact⟨c,B1.refl _ _ _ _,gi.refl _ _⟩
  .cases h
 |cel k off ty T=>
  simp only[LR]at h;split at h
  .rename_i id o hk;split at h
   .rename_i cty l hb;split at h
    .rename_i v hv;split at h
     .rename_i hn;simp only[ah]at h;subst h;obtain⟨L,Z,hr⟩:=WY c ty T;have hid:id≠s.nx:=λe=>by have:=c.invH.low id _ hb;omega
      obtain⟨c2,t2⟩:=ab5 L (id:=id) (cty:=cty) (l:=l) (v:=v) (u:=.row s.nx) (by show (s.h.set s.nx _).get id=_;rw[PT.get_set,ay hid];exact hb) hv hn (by simp only[ci,bR,PT.get_set,bF,aF,mR,fG,gr,cS,jE]) (by simp only[K3,bR,PT.get_set,bF];rfl);exact⟨c2,by rw[<- Z];exact t2,gi.refl _ _⟩
     .simp only[ah]at h;subst h;exact⟨c,B1.refl _ _ _ _,gi.refl _ _⟩
    .cases h
   .cases h
  .cases h
 |mpt k K V=>
  simp only[LR]at h;split at h
  .rename_i id hk;split at h
   .rename_i K' V' es hb;split at h
    .rename_i hE;simp only[ah]at h;subst h;have hr:bZ s.h (s.h.set id (M (.mp K V []))):=bZ.set λr hr=>by rw[bR,hb]at hr;cases hr
     have Z:bt (s.h.set id (M (.mp K V [])))=bt s.h:=by
      funext n;by_cases hn:n=nm id
      .subst hn;rw[bE,bE,PT.get_set,aC rfl,hb];simp only[aF,jC,yM (ZI (uB.1 hE).1),yM (uB.1 hE).2,NG (uB.1 hE).1,List.map_nil]
      .refine kz c.invH hr λi e=>?_
       subst e;rw[PT.get_set,ay (λe=>hn (by rw[e]))]
     refine ⟨⟨by rw[Z];exact c.rep,?_,c.dom,c.low,c.invH.set hr (c.invH.low id _ hb) (bU _) (λ_ _ he=>by cases he),λt x A=>mU hr x (c.invE t x A),c.inert,c.size⟩,by rw[Z];exact B1.refl _ _ _ _,gi.refl _ _⟩;intro t x A;rw[Z];simp only[fO]at A;cases he:s.e.get t with
     |none=>rw[he]at A;cases A
     |some q=>
      rw[he]at A;obtain⟨z,U⟩:=pa s.h q (c.invE t q he);simp only[aF,gp hr q z U,ah]at A;subst A;exact c.env t _ (by simp only[fO,he,aF,U])
    .simp only[ah]at h;subst h;exact⟨c,B1.refl _ _ _ _,gi.refl _ _⟩
   .cases h
  .cases h
 |mz k n=>
  simp only[LR]at h;split at h
  .rename_i id hk;split at h
   .rename_i K' V' es hb;split at h
    .rename_i hE;simp only[ah]at h;subst h;have hr:bZ s.h (s.h.set id (M (.cells D (aB n .nil)))):=bZ.set λr hr=>by rw[bR,hb]at hr;cases hr
     have hold:bt s.h (nm id)=M ⟨0,.mp []⟩:=by rw[bE,hb];simp only[aF,jC,yM (ZI hE),NG hE,List.map_nil]
     have hvs:∀(h:bg) m,cJ h (aB m .nil)=M (aB m (.f (.raw (.slice D 0 0)))):=λh m=>by
      induction m with
      |zero=>rfl
      |succ m ih=>rw[vI,vI];simp only[cJ,ci,ih]
     have hnew:bt (s.h.set id (M (.cells D (aB n .nil)))) (nm id)=M ⟨1,.mp (oO 0 (aB n (.f (.raw (.slice D 0 0)))))⟩:=by
      rw[bE,PT.get_set,aC rfl];simp only[aF,jC,hvs]
     have hoth:∀q,q≠nm id->bt (s.h.set id (M (.cells D (aB n .nil)))) q=bt s.h q:=λq hn'=>kz c.invH hr λi e=>by
      subst e;rw[PT.get_set,ay (λe=>hn' (by rw[e]))]
     have hdom:uJ (bt s.h) (bt (s.h.set id (M (.cells D (aB n .nil))))):=λq b hb'=>by
      by_cases e:q=nm id
      .subst e;exact⟨_,hold⟩
      .rw[hoth q e]at hb';exact⟨b,hb'⟩
     have hV:G' (bt s.h) (bt (s.h.set id (M (.cells D (aB n .nil))))):=⟨hdom,λq b b' h1 h2=>by
      by_cases e:q=nm id
      .subst e;rw[hold]at h1;cases h1;rw[hnew]at h2;cases h2;exact iJ.lay n
      .rw[hoth q e,h1]at h2;cases h2;exact iJ.refl hdom b⟩
     refine ⟨⟨hV.rep c.rep,?_,c.dom,c.low,c.invH.set hr (c.invH.low id _ hb) (bU _) (λty l2 he=>?_),λt x A=>mU hr x (c.invE t x A),c.inert,c.size⟩,⟨HM.refl _ _,λk _ ho=>hdom.own ho,λ_ _=>rfl⟩,gi.refl _ _⟩
     .intro t x A;simp only[fO]at A;cases he:s.e.get t with
      |none=>rw[he]at A;cases A
      |some q=>
       rw[he]at A;obtain⟨z,U⟩:=pa s.h q (c.invE t q he);simp only[aF,gp hr q z U,ah]at A;subst A;exact (c.env t _ (by simp only[fO,he,aF,U])).dom hdom
     .simp only[io.cells.injEq]at he;obtain⟨_,rfl⟩:=he;exact j6 _ _ _ (hvs _ n)
    .cases h
   .simp only[ah]at h;subst h;exact⟨c,B1.refl _ _ _ _,gi.refl _ _⟩
  .cases h
 |pk k off T=>
  simp only[LR]at h;split at h
  .obtain⟨h1,h2,h3⟩:=akv c h;exact⟨h1,h2,h3.mono λk hk=>by simp at hk⟩
  .cases h
theorem aia {φ:PM} {s:TS} {a:Act} {w:World} (c:oR P E nt np φ s a w) {q:Adj} {s':TS} (h:LR s q=M s'):∃φ',oR P E nt np φ' s' a w/\B1 np φ φ' (bt s.h) (bt s'.h) w w/\gi (mD [q] 0) s.e s'.e:=by
 by_cases hn:∃k off,q= .ren k off
 .obtain⟨k,off,rfl⟩:=hn;exact akp c h
 .exact⟨φ,aib c h λk off e=>hn ⟨k,off,e⟩⟩
theorem Vi {φ:PM} {a:Act} {w:World}:∀{l:Y Adj} {s s':TS},oR P E nt np φ s a w->Yi s l=M s'->∃φ',oR P E nt np φ' s' a w/\B1 np φ φ' (bt s.h) (bt s'.h) w w/\gi (mD l 0) s.e s'.e
 |[],s,s',c,h=>by simp only[Yi,ah]at h;subst h;exact⟨φ,c,B1.refl _ _ _ _,gi.refl _ _⟩
 |z::r,s,s',c,h=>by
  simp only[Yi]at h;split at h
  .rename_i s1 h1;obtain⟨φ1,U,t1,k1⟩:=aia c h1;obtain⟨φ2,L,A,k2⟩:=Vi U h;refine ⟨φ2,L,t1.trans A,(k1.mono ?_).trans (k2.mono ?_)⟩
   .intro k hk;cases z with
    |nil q ty T=>simp only[mD]at hk ⊢;rw[lq,bp,hk];rfl
    |cel q off ty T=>simp[mD]at hk
    |mpt q K V=>simp[mD]at hk
    |mz q n=>simp[mD]at hk
    |pk q off T=>simp[mD]at hk
    |ren q off=>simp only[mD]at hk ⊢;rw[lq,bp,hk];rfl
   .intro k hk;cases z with
    |nil q ty T=>simp only[mD];rw[lq,bp,hk];simp
    |cel q off ty T=>simp only[mD];exact hk
    |mpt q K V=>simp only[mD];exact hk
    |mz q n=>simp only[mD];exact hk
    |pk q off T=>simp only[mD];exact hk
    |ren q off=>simp only[mD];rw[lq,bp,hk];simp
  .cases h
mutual
theorem QU {h:bg}:∀(v:TV) (y:AV),uf v=J->ci h v=M y->y.all (λ_=>af)=J
 |.f _ _,y,_,he=>by simp only[ci,ah]at he;subst he;rfl
 |.fel _ _ _ _ _,y,_,he=>by simp only[ci,ah]at he;subst he;rfl
 |.emp,y,_,he=>by simp only[ci,ah]at he;subst he;rfl
 |.nil,y,_,he=>by simp only[ci,ah]at he;subst he;rfl
 |.undef,y,_,he=>by simp only[ci,ah]at he;subst he;rfl
 |.np,y,_,he=>by simp only[ci,ah]at he;subst he;rfl
 |.anyb,y,_,he=>by simp only[ci,ah]at he;subst he;rfl
 |.agg l,y,hl,he=>by
  simp only[ci]at he;split at he
  .rename_i l' hl';simp only[ah]at he;subst he;exact EH l l' hl hl'
  .cases he
 |.tup l,y,hl,he=>by
  simp only[ci]at he;split at he
  .rename_i l' hl';simp only[ah]at he;subst he;exact EH l l' hl hl'
  .cases he
 |.pel _ _ _ _,_,h,_=>by cases h
 |.ptr _ _,_,h,_=>by cases h
 |.csl _ _ _,_,h,_=>by cases h
 |.row _,_,h,_=>by cases h
 |.rtl _ _,_,h,_=>by cases h
 |.mp _,_,h,_=>by cases h
 |.clo _ _,_,h,_=>by cases h
theorem EH {h:bg}:∀(l:Y TV) (l':Y AV),qx l=J->cJ h l=M l'->AV.allL (λ_=>af) l'=J
 |[],l',_,he=>by simp only[cJ,ah]at he;subst he;rfl
 |x::r,l',hl,he=>by
  obtain⟨y,l2,rfl,e1,e2⟩:=cY he;simp only[qx,al]at hl;simp only[AV.allL,al];exact⟨QU x y hl.1 e1,EH r l2 hl.2 e2⟩
end
mutual
theorem Wm (h:bg):∀(v:TV),uf v=J->K3 h v=J
 |.f _ _,_=>rfl
 |.fel _ _ _ _ _,_=>rfl
 |.emp,_=>rfl
 |.nil,_=>rfl
 |.undef,_=>rfl
 |.np,_=>rfl
 |.anyb,_=>rfl
 |.agg l,hl=>I8 h l hl
 |.tup l,hl=>I8 h l hl
 |.pel _ _ _ _,h=>by cases h
 |.ptr _ _,h=>by cases h
 |.csl _ _ _,h=>by cases h
 |.row _,h=>by cases h
 |.rtl _ _,h=>by cases h
 |.mp _,h=>by cases h
 |.clo _ _,h=>by cases h
theorem I8 (h:bg):∀(l:Y TV),qx l=J->kX h l=J
 |[],_=>rfl
 |x::r,hl=>by
  simp only[qx,al]at hl;simp only[kX,al];exact⟨Wm h x hl.1,I8 h r hl.2⟩
end
structure Seen (np:Nat) (t:Tm) (x:t.ty.den) (us:List TV) (h1:bg) (φ φ':PM) (H:HF) (E:Nat->Prop) (w:World) (la lu:List AV):Prop where
 rep:qX φ' E (bt h1) w
 val:∀(j:Nat) y v,lu[j]? =M y->∃z,la[j]? =M z/\(cM φ (tot E φ H) w z v->cM φ' (tot E φ' (bt h1)) w y v)
 len:lu.length=la.length
 tot_:∀k,tot E φ' (bt h1) k->tot E φ H k
 own_:∀k,own φ' (bt h1) k->own φ H k
 dom:∀n k,φ' n=M k->ow n<t.bs.length
 par:∀i,i<np->i<t.bs.length->φ' (nm i)=φ (nm i)
theorem KW {t:Tm} {x:t.ty.den} {us:Y TV} {h1:bg} {l1:Y (I io)} (A:qK t x us h1 l1) {h:bg} {nx:Nat} (hinv:ml h nx) {vs:Y TV} {m:Nat} {σ:PT Nat} {sm:Nat} (B:HL np t vs h x m σ sm) {la:Y AV} (hla:cJ h vs=M la) {φ:PM} {w:World} (r:qX φ E (bt h) w):∃φ' lu,cJ h1 us=M lu/\Seen np t x us h1 φ φ' (bt h) E w la lu:=by
 obtain⟨x1,m1,x2,m2,hx,hmm,gv,gb⟩:=B.ex;have hmr:dQ h m:=by rw[hmm];exact (Hw _ _ _ _ gv).or (Hy _ _ _ _ gb)
 have pvg:qa (il σ) t.vs x1=M (kM (il σ) us):=by
  have L:=tK (il σ) t.vs x1;have s:=A.pv;rw[hx,tD]at s;rw[L,s];rfl
 have pbg:oG (il σ) t.bs x2=M (l1.map (ma (lP (il σ)))):=by
  have L:=vP (il σ) t.bs x2;have s:=A.pb;rw[hx,uO]at s;rw[L,s];rfl
 have hbm:∀i b,l1[i]? =M (M b)->∃b0,h.get (il σ i)=M b0/\BM (il σ) h m b0 (lP (il σ) b):=λi b hb=>by
  obtain⟨b0,U,Z⟩:=I6 t.bs 0 x2 m2 _ gb pbg i (lP (il σ) b) (by rw[ba,hb];rfl);rw[bG]at U;exact⟨b0,U,Z.mono λj hj=>by rw[hmm,bp,hj];simp⟩
 let hv:bg:=An (il σ) 0 (l1.map (ma (lP (il σ)))) PT.leaf
 have hv_at:∀i b,l1[i]? =M (M b)->hv.get (il σ i)=M (lP (il σ) b):=λi b hb=>by
  have:=uS (il σ) (l1.map (ma (lP (il σ)))) 0 PT.leaf (λa b ha hb=>by
   simp only[bx,A.len]at ha hb;simp only[bG];exact B.inj a b ha hb) i (M (lP (il σ) b)) (by rw[ba,hb];rfl)
  rw[bG]at this;exact this
 have hv_ex:∀j c,hv.get j=M c->∃i b,l1[i]? =M (M b)/\j=il σ i/\c=lP (il σ) b:=λj c hj=>by
  by_cases hex:∃i,i<l1.length/\j=il σ i
  .obtain⟨i,hi,rfl⟩:=hex;have hcc:=ax hi;cases hcv:l1[i] with
   |some b=>rw[hcv]at hcc;rw[hv_at i b hcc]at hj;cases hj;exact⟨i,b,hcc,rfl,rfl⟩
   |none=>
    rw[hcv]at hcc;have:=uS (il σ) (l1.map (ma (lP (il σ)))) 0 PT.leaf (λa b ha hb=>by
     simp only[bx,A.len]at ha hb;simp only[bG];exact B.inj a b ha hb) i D (by rw[ba,hcc];rfl)
    rw[bG]at this;have hj':(An (il σ) 0 (l1.map (ma (lP (il σ)))) PT.leaf).get (il σ i)=M c:=hj;rw[this]at hj';simp[PT.get]at hj'
  .have:hv.get j=(PT.leaf:bg).get j:=uR (il σ) _ 0 _ j λk hk=>by
    simp only[bx]at hk;rw[bG];exact λe=>hex ⟨k,hk,e⟩
   rw[this]at hj;simp[PT.get]at hj
 have rows_in:xF hv h:=λj q hq=>by
  rw[bR]at hq ⊢;cases hc:hv.get j with
  |none=>rw[hc]at hq;cases hq
  |some c=>
   rw[hc]at hq;obtain⟨i,b,U,rfl,rfl⟩:=hv_ex j c hc;obtain⟨b0,Z,q3⟩:=hbm i b U;rw[Z];simp only[aF]at hq ⊢;rw[<- q3.row];exact hq
 have rows_h1:∀i q,eH h1 i=M q->eH hv (il σ i)=M q:=λi q hq=>by
  rw[bR]at hq ⊢;cases hb:h1.get i with
  |none=>rw[hb]at hq;cases hq
  |some b=>
   rw[hb]at hq;rw[hv_at i b ((A.at_ i b).1 hb)];simp only[aF,H3]at hq ⊢;exact hq
 have hd:uJ (bt h) (bt hv):=λn y hy=>by
  obtain⟨j,c,rfl,L,s⟩:=jB hy;obtain⟨i,b,U,rfl,rfl⟩:=hv_ex j c L;obtain⟨b0,Z,q3⟩:=hbm i b U;obtain⟨y0,hy0⟩:=BM.erB_some hinv Z q3 s;exact⟨y0,by rw[bE,Z];exact hy0⟩
 have gvv:DW h (bt h) (bt hv) m:=λi hi=>⟨rfl,by
  cases hc:bt hv (nm i) with
  |none=>rfl
  |some y=>
   obtain⟨j,c,e,L,s⟩:=jB hc;have:=kY e;subst this;obtain⟨k,b,U,rfl,rfl⟩:=hv_ex i c L;have hk:k<t.bs.length:=by rw[<- A.len];exact (bi.1 U).1
   have h5:=B.disj _ hi;rw[(B.sig _).2 ⟨k,hk,rfl⟩]at h5;cases h5⟩
 have V:G' (bt h) (bt hv):=⟨hd,λn b b' hb hb'=>by
  obtain⟨j,c,rfl,L,s⟩:=jB hb';obtain⟨i,bb,U,rfl,rfl⟩:=hv_ex j c L;obtain⟨b0,Z,q3⟩:=hbm i bb U;rw[bE,Z]at hb;exact BM.view hd gvv rows_in q3 hb s⟩
 have rv:=V.rep r;have T:aew t x us h1 (il σ) φ E E (bt hv) w:=by
  refine qX.toId A B.inj rv (λi b yb hb hyb=>?_) (λk hk=>.inl hk) (λi k b hi L s hE=>?_) rv.el
  .rw[bE,hv_at i b ((A.at_ i b).1 hb)];exact C1 rows_h1 hyb
  .obtain⟨k',p1,p2,_⟩:=rv.at_ _ _ L;rw[s]at p1;cases p1;exact p2 hE
 obtain⟨lu,hlu⟩:=fd h1 us A.ok;have hlug:cJ hv (kM (il σ) us)=M (AV.renL (Hz (il σ)) lu):=o6 rows_h1 us lu hlu;have hle:=CV hd rows_in t.vs vs x1 m1 _ la _ gv pvg hla hlug (λi hi=>gvv i (by rw[hmm,bp,hi];rfl));have hall:=rT us lu A.lt hlu;refine ⟨_,lu,hlu,T.rep,λj y v hy=>?_,?_,λk hk=>hd.tot (T.tot_ k hk),λk hk=>hd.own (T.own_ k hk),λn k hk=>?_,λi hi hb=>?_⟩
 .rw[mT]at hle;obtain⟨z,hz,hlz⟩:=hle.get j (y.ren (Hz (il σ))) (by rw[ba,hy];rfl);exact⟨z,hz,λhr=>T.val y v (mi hall y (aZ hy)) (hlz _ _ _ _ r hr)⟩
 .have:=hle.length;rw[mT,bx]at this;exact this
 .obtain⟨i,hi,rfl,_⟩:=wU hk;rw[dS];exact hi
 .rw[Y2 hb,B.fix i hi]
theorem NP {φ:PM} {s':TS} {a:Act} {w:World} (c:oR P E nt np φ s' a w) {A:YY} {am:Nat} {s0 s1:TS} {x:A.D} (q:Lt np A am s0 s'=M x) (hs:Gx A am s0 x=M s1)
 (hk:∀k,k∈A.keep->k∉A.ks->∀v,s0.e.get k=M v->uf v=J->aM am k=af->∀U,s'.e.get k=M U->U=v):∃φ',oR P E nt np φ' s1 a w/\B1 np φ φ' (bt s'.h) (bt s1.h) w w:=by
 unfold Lt at q;split at q
 .rename_i hc;simp only[al]at hc;have hnp:=a8 hc.1;split at q
  .rename_i s2 h2;obtain⟨φ2,c2,t2,_⟩:=Vi c h2;split at q
   .rename_i vs hvs;split at q
    .rename_i z m σ sm hM;simp only[ah]at q;subst q;have B:=vY hM;unfold Gx at hs;split at hs
     .rename_i us h1 hi;obtain⟨l1,H⟩:=wa hi;split at hs
      .rename_i hlen;have hlen:=ar hlen;simp only[ah]at hs;subst hs;obtain⟨g1,g2⟩:=Wk hvs;have hvok:kX s2.h vs=J:=If c2.invE hvs;obtain⟨la,hla⟩:=fd s2.h vs hvok;obtain⟨φ',lu,hlu,S⟩:=KW (E:=E) H c2.invH B hla c2.rep;refine ⟨φ',⟨S.rep,?_,S.dom,hnp,⟨λi ty l hl=>(H.cells i _ l hl).1,λi b hb=>H.lt_len hb⟩,?_,c.inert,c.size⟩,t2.trans ⟨HM.refl _ _,λk _ h=>S.own_ k h,λi hi=>S.par i hi (by omega)⟩⟩
       .intro t y s;simp only[fO]at s;cases ht:(Xg (CG am s0.e A.keep) A.ks us).get t with
        |none=>rw[ht]at s;cases s
        |some v=>
         rw[ht]at s;simp only[aF]at s;rcases Ch hlen t v ht with ⟨j,q1,L⟩|⟨q1,L⟩
         .obtain⟨y',p1,p2⟩:=lm hlu j v L;rw[s]at p2;cases p2;obtain⟨z,p3,p4⟩:=S.val j y (a.tmps.getD t undef) p1;refine p4 ?_;obtain⟨v0,p5,p6⟩:=g2 j t q1;obtain⟨z',p7,p8⟩:=lm hla j v0 p5;rw[p3]at p7;cases p7;exact c2.env t _ (by simp only[fO,p6,aF,p8])
         .obtain⟨k1,k2,k3,k4⟩:=tN L;obtain⟨U,k5⟩:=Ix hc.2 t v k1 k2 k3 k4;have:=hk t k1 q1 v k2 k3 k4 U k5;subst this;have h3:=c.env t y (by simp only[fO,k5,aF];rw[Q4 s'.h h1 U k3];exact s);exact h3.restrict (p:=λ_=>af) (λi k hi _=>by cases hi) (λk hk=>by
           have Z:=S.tot_ k hk;rcases Z with Z|Z
           .exact .inl Z
           .exact .inr (by
             have hkl:k<w.heap.size:=by
              obtain⟨n,b,e1,e2⟩:=Z;obtain⟨k',p1,_,ob,p3,_⟩:=c2.rep.at_ n b e1;rw[e2]at p1;cases p1;exact (cA.1 p3).1
             exact t2.own_ k hkl Z)) (QU U y k3 s)
       .intro t v hv;rcases Ch hlen t v hv with ⟨j,q1,L⟩|⟨q1,L⟩
        .obtain⟨y',_,p2⟩:=lm hlu j v L;exact EL _ _ _ p2
        .exact Wm _ v (tN L).2.2.1
      .cases hs
     .cases hs
    .cases q
   .cases q
  .cases q
 .cases q
theorem D7 {A:YY} {am:Nat} {a s1:TS} {x:A.D} (hs:Gx A am a x=M s1):gi (K6 A.ks 0) a.e s1.e/\∀k,k∉A.ks->∀v,s1.e.get k=M v->a.e.get k=M v:=by
 unfold Gx at hs;split at hs
 .rename_i us h1 hi;split at hs
  .rename_i hlen;have hlen:=ar hlen;simp only[ah]at hs;subst hs;have key:∀k,k∉A.ks->∀v,(Xg (CG am a.e A.keep) A.ks us).get k=M v->a.e.get k=M v:=λk hk v hv=>by
    rcases Ch hlen k v hv with ⟨j,s,_⟩|⟨_,q⟩
    .exact ct (aZ s) hk
    .exact (tN q).2.1
   refine ⟨λk hk c hv=>?_,key⟩;have hnk:k∉A.ks:=λhm=>by rw[Wc hm]at hk;cases hk
   exact⟨c,key k hnk c hv,λ_=>rfl⟩
  .cases hs
 .cases hs
end walk
inductive Er:TC->SC->Prop
 |skip:Er .skip .skip
 |reg (ops:List sF) (prs:List (Nat×Nat)):Er (.reg ops prs) (.reg ops prs)
 |seq {a b:TC} {a' b':SC}:Er a a'->Er b b'->Er (.seq a b) (.seq a' b')
 |jseq (A:YY) {a b:TC} {a' b':SC}:Er a a'->Er b b'->Er (.jseq A a b) (.seq a' b')
 |cond (c:Nat) {a b:TC} {a' b':SC}:Er a a'->Er b b'->Er (.cond c a b) (.cond c a' b')
 |block (id:Nat) {b:TC} {b':SC}:Er b b'->Er (.block id b) (.block id b')
 |jblock (A:YY) (id:Nat) {b:TC} {b':SC}:Er b b'->Er (.jblock A id b) (.block id b')
 |loop (A:YY) {b:TC} {b':SC}:Er b b'->Er (.loop A b) (.loop b')
 |exit (id:Nat):Er (.exit id) (.exit id)
 |ret:Er .ret .ret
 |defer (f:FuncId) (c:List Operand) (t:Nat):Er (.defer f c t) (.defer f c t)
 |adj (l:List Adj) {c:TC} {c':SC}:Er c c'->Er (.adj l c) c'
 |split (k off lo n:Nat) {c:TC} {c':SC}:Er c c'->Er (.split k off lo n c) c'
 |unl (n:Nat) {b:TC} {b':SC}:Er b b'->Er (.unl n b) (.loop b')
 |bad (c:SC):Er .bad c
theorem B' {H:PT abx} {n:Nat} {c:TC} {c':SC} (h:Er c c'):Er (HP H n c) c':=by
 unfold HP;split
 .exact .adj _ h
 .exact .split _ _ _ _ h
 .exact h
theorem xA (H:PT abx):∀(c:SC) (n:Nat),Er (Dr H c n).1 c
 |.skip,n=>B' .skip
 |.reg o p,n=>B' (.reg o p)
 |.seq a b,n=>by
  have h1:=xA H a (n+1);have h2:=xA H b (Dr H a (n+1)).2;simp only[Dr];split
  .exact .jseq _ h1 h2
  .exact .seq h1 h2
 |.cond c a b,n=>by
  have h1:=xA H a (n+1);have h2:=xA H b (Dr H a (n+1)).2;simp only[Dr];exact B' (.cond c h1 h2)
 |.block id b,n=>by
  have h1:=xA H b (n+1);simp only[Dr];split
  .exact .jblock _ id h1
  .exact .block id h1
 |.loop b,n=>by
  have h1:=xA H b (n+1);simp only[Dr];split
  .exact .loop _ h1
  .exact .unl _ h1
  .exact .bad _
 |.exit id,n=>B' (.exit id)
 |.ret,n=>B' .ret
 |.defer f c t,n=>.defer f c t
 |.bad,n=>.bad _
theorem Xr {σ R:Type} {step:σ->I (σ⊕R)} {x:σ} {r:R} (h:iter step x=M r):∃n,iterN step n x=M r:=by
 unfold iter at h;split at h
 .exact⟨_,h⟩
 .cases h
theorem Wf {α R:Type} {o:I (R⊕α)} {k:α->I R} {r:R} (h:jn o k=M r):(∃x,o=M (.inr x)/\k x=M r)\/o=M (.inl r):=by
 unfold jn at h;split at h
 .exact .inl ⟨_,rfl,h⟩
 .cases h;exact .inr rfl
 .cases h
section inv
variable {P:Program} {nt:Nat}
theorem zB (id:Nat) (ops:Array Oper) (a:Bool):cj P nt (.region id ops a)= .bad\/
 ((ops.toList.all λo=>match o.dst with|some d=>decide (d<nt)|none=>J)=J/\
   ((∃f caps t,Dq ops a=M (f,caps,t)/\cj P nt (.region id ops a)= .defer f caps t)\/
    ∃l prs,rZ P ops ops.toList=M l/\Me ops l=M prs/\cj P nt (.region id ops a)= .reg l prs)):=by
 simp only[cj];split
 .rename_i hd;split
  .rename_i f caps t h;exact .inr ⟨hd,.inl ⟨f,caps,t,h,rfl⟩⟩
  .split
   .rename_i l hl;split
    .rename_i prs hp;exact .inr ⟨hd,.inr ⟨l,prs,hl,hp,rfl⟩⟩
    .exact .inl rfl
   .exact .inl rfl
 .exact .inl rfl
def Eb:Code->Bool
 |.cond (.const (.bool _)) _ _=>af
 |_=>J
theorem kj (P:Program) (nt:Nat) (c:Code):∃c',Eb c'=J/\cj P nt c'=cj P nt c/\∀Q a w,c'.wp P Q a w->c.wp P Q a w:=by
 have self:∀c:Code,Eb c=J->∃c',Eb c'=J/\cj P nt c'=cj P nt c/\∀Q a w,c'.wp P Q a w->c.wp P Q a w:=λc h=>⟨c,h,rfl,λ_ _ _ h=>h⟩
 induction c with
 |cond o x y ihx ihy=>
  cases o with
  |const v=>
   cases v with
   |bool b=>
    cases b with
    |true=>
     obtain⟨c',h1,h2,q⟩:=ihx;exact⟨c',h1,h2,λQ a w h=>wp_cond_true rfl (q Q a w h)⟩
    |false=>
     obtain⟨c',h1,h2,q⟩:=ihy;exact⟨c',h1,h2,λQ a w h=>wp_cond_false rfl (q Q a w h)⟩
   |_=>exact self _ rfl
  |_=>exact self _ rfl
 |_=>exact self _ rfl
theorem Fu {α:Prop} {o:Operand} {x y:Code} {sc:SC} (hn:Eb (.cond o x y)=J) (h:cj P nt (.cond o x y)=sc) (h1:sc≠ .bad) (h2:∀t a b,sc≠ .cond t a b):α:=by
 cases o with
 |tmp q=>exact (h2 _ _ _ h.symm).elim
 |const v=>cases v<;>first|exact (h1 h.symm).elim|cases hn
 |global g=>exact (h1 h.symm).elim
 |func f=>exact (h1 h.symm).elim
theorem adl {c:Code} {sl:Y sF} {prs:Y (Nat×Nat)} (hn:Eb c=J) (h:cj P nt c= .reg sl prs):∃id ops a,c= .region id ops a/\(ops.toList.all λo=>match o.dst with|some d=>decide (d<nt)|none=>J)=J/\rZ P ops ops.toList=M sl/\Me ops sl=M prs:=by
 cases c with
 |region id ops a=>
  rcases zB (P:=P) (nt:=nt) id ops a with h1|⟨hd,⟨f,caps,t,_,h1⟩|⟨l,p,h2,q,h1⟩⟩
  .rw[h1]at h;cases h
  .rw[h1]at h;cases h
  .rw[h1]at h;cases h;exact⟨id,ops,a,rfl,hd,h2,q⟩
 |cond o x y=>exact Fu hn h (by simp) (by simp)
 |_=>simp[cj]at h
theorem Xs {c:Code} {f:FuncId} {caps:Y Operand} {t:Nat} (hn:Eb c=J) (h:cj P nt c= .defer f caps t):∃id ops a,c= .region id ops a/\(ops.toList.all λo=>match o.dst with|some d=>decide (d<nt)|none=>J)=J/\Dq ops a=M (f,caps,t):=by
 cases c with
 |region id ops a=>
  rcases zB (P:=P) (nt:=nt) id ops a with h1|⟨hd,⟨f',caps',t',h2,h1⟩|⟨l,p,h2,q,h1⟩⟩
  .rw[h1]at h;cases h
  .rw[h1]at h;cases h;exact⟨id,ops,a,rfl,hd,h2⟩
  .rw[h1]at h;cases h
 |cond o x y=>exact Fu hn h (by simp) (by simp)
 |_=>simp[cj]at h
theorem pi {c:Code} {sc:SC} (h:cj P nt c=sc) (h1:sc≠ .bad) (h2:∀a b,sc≠ .reg a b) (z:∀a b t,sc≠ .defer a b t):∀id ops s,c≠ .region id ops s:=by
 rintro id ops s rfl;rcases zB (P:=P) (nt:=nt) id ops s with q|⟨_,⟨f,caps,t,_,q⟩|⟨l,p,_,_,q⟩⟩<;>rw[q]at h
 .exact h1 h.symm
 .exact z _ _ _ h.symm
 .exact h2 _ _ h.symm
theorem ZQ {c:Code} (hn:Eb c=J) (h:cj P nt c= .skip):c= .skip:=by
 have a:=pi h (by simp) (by simp) (by simp);cases c with
 |skip=>rfl
 |region id ops q=>exact ct rfl (a id ops q)
 |cond o x y=>exact Fu hn h (by simp) (by simp)
 |_=>simp[cj]at h
theorem adk {c:Code} (hn:Eb c=J) (h:cj P nt c= .ret):c= .ret:=by
 have a:=pi h (by simp) (by simp) (by simp);cases c with
 |ret=>rfl
 |region id ops q=>exact ct rfl (a id ops q)
 |cond o x y=>exact Fu hn h (by simp) (by simp)
 |_=>simp[cj]at h
theorem ZR {c:Code} {i:Nat} (hn:Eb c=J) (h:cj P nt c= .exit i):c= .exit i:=by
 have a:=pi h (by simp) (by simp) (by simp);cases c with
 |exit id=>simp[cj]at h;rw[h]
 |region id ops q=>exact ct rfl (a id ops q)
 |cond o x y=>exact Fu hn h (by simp) (by simp)
 |_=>simp[cj]at h
theorem Wg {c:Code} {a b:SC} (hn:Eb c=J) (h:cj P nt c= .seq a b):∃x y,c= .seq x y/\cj P nt x=a/\cj P nt y=b:=by
 have q:=pi h (by simp) (by simp) (by simp);cases c with
 |seq x y=>simp[cj]at h;exact⟨x,y,rfl,h.1,h.2⟩
 |region id ops s=>exact ct rfl (q id ops s)
 |cond o x y=>exact Fu hn h (by simp) (by simp)
 |_=>simp[cj]at h
theorem ZS {c:Code} {t:Nat} {a b:SC} (hn:Eb c=J) (h:cj P nt c= .cond t a b):∃x y,c= .cond (.tmp t) x y/\cj P nt x=a/\cj P nt y=b:=by
 have s:=pi h (by simp) (by simp) (by simp);cases c with
 |cond o x y=>
  cases o with
  |tmp q=>simp[cj]at h;obtain⟨rfl,h1,h2⟩:=h;exact⟨x,y,rfl,h1,h2⟩
  |const v=>cases v<;>first|(simp [cj]at h;done)|cases hn
  |_=>simp[cj]at h
 |region id ops z=>exact ct rfl (s id ops z)
 |_=>simp[cj]at h
theorem Mt {c:Code} {id:Nat} {b:SC} (hn:Eb c=J) (h:cj P nt c= .block id b):∃y,c= .block id y/\cj P nt y=b:=by
 have a:=pi h (by simp) (by simp) (by simp);cases c with
 |block i y=>simp[cj]at h;obtain⟨rfl,h1⟩:=h;exact⟨y,rfl,h1⟩
 |region id ops q=>exact ct rfl (a id ops q)
 |cond o x y=>exact Fu hn h (by simp) (by simp)
 |_=>simp[cj]at h
theorem Qd {c:Code} {b:SC} (hn:Eb c=J) (h:cj P nt c= .loop b):∃y,c= .loop y/\cj P nt y=b:=by
 have a:=pi h (by simp) (by simp) (by simp);cases c with
 |loop y=>simp[cj]at h;exact⟨y,rfl,h⟩
 |region id ops q=>exact ct rfl (a id ops q)
 |cond o x y=>exact Fu hn h (by simp) (by simp)
 |_=>simp[cj]at h
end inv
def agu {R:Type} (P:Program) (E:Nat->Prop) (nt np:Nat) (φ:PM) (s:TS) (w:World) (am:Nat) (K:Ex->TS->I R) (r:R):Exit->Act->World->Prop:=
 λe a' w'=>∃ex s' φ',e=ex.to/\K ex s'=M r/\oR P E nt np φ' s' a' w'/\B1 np φ φ' (bt s.h) (bt s'.h) w w'/\gi am s.e s'.e
theorem oR.bool {P:Program} {E:Nat->Prop} {nt np:Nat} {φ:PM} {s:TS} {a:Act} {w:World} (c:oR P E nt np φ s a w) {t:Nat} {b:Bool} (ht:s.e.get t=M (.f .bool b)):a.eval (.tmp t)= .bool b:=
 fm (c.env t _ (by simp only[fO,ht,aF,ci];rfl))
theorem oR.anyb {P:Program} {E:Nat->Prop} {nt np:Nat} {φ:PM} {s:TS} {a:Act} {w:World} (c:oR P E nt np φ s a w) {t:Nat} (ht:s.e.get t=M .anyb):∃b,a.eval (.tmp t)= .bool b:=by
 have:=c.env t .anyb (by simp only[fO,ht,aF,ci]);show ∃b,a.tmps.getD t undef= .bool b;generalize a.tmps.getD t undef=z at this;cases this with
 |anyb=>exact⟨_,rfl⟩
theorem Yg {R:Type} {a b:I R} {r:R} (h:E6 a b=M r):a=M r/\b=M r:=by
 unfold E6 at h;split at h
 .rename_i e;exact⟨h,by rw[<- e];exact h⟩
 .cases h
theorem ah9 {P:Program} {E:Nat->Prop} {nt np:Nat} {con:FuncId->I cq} {b_:TypeId->I Ty} {inert:FuncId->Bool} (hm:P.follows .mixedOrders=J) (hcon:KC P con) (hin:Kz P inert):
 ∀{tc:TC} {sc:SC},Er tc sc->∀(c:Code),cj P nt c=sc->∀(R:Type) (s:TS) (K:Ex->TS->I R) (r:R),o_ np con b_ inert tc s K=M r->∀(φ:PM) (a:Act) (w:World),oR P E nt np φ s a w->c.wp P (agu P E nt np φ s w (tc.asg 0) K r) a w:=by
 intro tc sc hE;induction hE with
 |skip=>
  intro c hc R s K r h φ a w g;obtain⟨c',hn,z,hsim⟩:=kj P nt c;refine hsim _ _ _ ?_;rw[<- z]at hc;rw[ZQ hn hc];exact wp_skip ⟨.normal,s,φ,rfl,h,g,B1.refl _ _ _ _,gi.refl _ _⟩
 |reg ops prs=>
  intro c hc R s K r h φ a w g;obtain⟨c',hn,z,hsim⟩:=kj P nt c;refine hsim _ _ _ ?_;rw[<- z]at hc;obtain⟨id,os,dr,rfl,h1,h2,h3⟩:=adl hn hc;simp only[o_]at h;refine Zo (K:=λs'=>K .normal s') hm hcon g (am:=O0 ops 0) (λj o d ho hd=>?_) h1 h2 h3 h λa' w' s' φ' q1 L q3 q4=>⟨.normal,s',φ',rfl,q1,L,q3,q4⟩
  have hmem:o∈os.toList:=by have:=Array.mem_of_getElem? ho;simpa using this
  have key:∀(rest:Y Oper) (sl:Y sF),rZ P os rest=M sl->∀o∈rest,∃so∈sl,so.dst=o.dst:=by
   intro rest;induction rest with
   |nil=>intro sl _ o ho;cases ho
   |cons x rest ih=>
    intro sl hsl o ho;simp only[rZ]at hsl;split at hsl
    .rename_i l hl;have:∃so,sl=so::l/\so.dst=x.dst:=by
      split at hsl
      .simp only[ah]at hsl;exact⟨_,hsl.symm,rfl⟩
      .split at hsl
       .simp only[ah]at hsl;exact⟨_,hsl.symm,rfl⟩
       .cases hsl
     obtain⟨so,rfl,hso⟩:=this;rcases bh.1 ho with rfl|ho
     .exact⟨so,by simp,hso⟩
     .obtain⟨q,hq,hq2⟩:=ih l hl o ho;exact⟨q,by simp[hq],hq2⟩
    .cases hsl
  obtain⟨so,hso,hd2⟩:=key os.toList ops h2 o hmem;exact Sa hso (by rw[hd2];exact hd)
 |@seq x y x' y' _ _ ihx ihy=>
  intro c hc R s K r h φ a w g;obtain⟨c',hn,z,hsim⟩:=kj P nt c;refine hsim _ _ _ ?_;rw[<- z]at hc;obtain⟨cx,cy,rfl,h1,h2⟩:=Wg hn hc;simp only[o_]at h;refine wp_seq (wp_mono (ihx cx h1 R s _ r h φ a w g) ?_);rintro e a' w' ⟨ex,s',φ',rfl,hk,g',st,U⟩;have kp':gi ((TC.seq x y).asg 0) s.e s'.e:=U.mono λk hk=>by simp only[TC.asg];exact kA hk
  cases ex with
  |normal=>
   refine wp_mono (ihy cy h2 R s' K r hk φ' a' w' g') ?_;rintro e2 a2 w2 ⟨ex2,s2,φ2,rfl,hk2,g2,Zg,kp2⟩;exact⟨ex2,s2,φ2,rfl,hk2,g2,st.trans Zg,kp'.trans (kp2.mono λk hk=>by simp only[TC.asg];exact vj hk)⟩
  |exit id=>exact⟨.exit id,s',φ',rfl,hk,g',st,kp'⟩
  |ret=>exact⟨.ret,s',φ',rfl,hk,g',st,kp'⟩
 |@jseq A x y x' y' _ _ ihx ihy=>
  intro c hc R s K r h φ a w g;obtain⟨c',hn,z,hsim⟩:=kj P nt c;refine hsim _ _ _ ?_;rw[<- z]at hc;obtain⟨cx,cy,rfl,h1,h2⟩:=Wg hn hc;simp only[o_]at h;have sub1:∀k,aM (x.asg 0) k=J->aM ((TC.jseq A x y).asg 0) k=J:=λk hk=>by simp only[TC.asg];exact kA (vj hk)
  have sub2:∀k,aM (y.asg 0) k=J->aM ((TC.jseq A x y).asg 0) k=J:=λk hk=>by simp only[TC.asg];exact vj hk
  have sub3:∀k,aM (K6 A.ks 0) k=J->aM ((TC.jseq A x y).asg 0) k=J:=λk hk=>by simp only[TC.asg];exact kA (kA hk)
  rcases Wf h with ⟨d,h3,h4⟩|h3
  .refine wp_seq (wp_mono (ihx cx h1 _ s _ _ h3 φ a w g) ?_);rintro e a' w' ⟨ex,s',φ',rfl,hk,g',st,U⟩;cases ex with
   |normal=>
    simp only[]at hk;obtain⟨d',q1,L⟩:=dJ hk;simp only[ah,Sum.inr.injEq]at L;subst L;split at h4
    .rename_i s1 hs1;obtain⟨φ1,g1,HY⟩:=NP g' q1 hs1 λk _ _ v hv hf ha v' Z=>by
      obtain⟨v0,e1,e2⟩:=U k ha v' Z;rw[hv]at e1;cases e1;exact e2 hf
     refine wp_mono (ihy cy h2 R s1 K r h4 φ1 a' w' g1) ?_;rintro e2 a2 w2 ⟨ex2,s2,φ2,rfl,hk2,g2,Zg,kp2⟩;exact⟨ex2,s2,φ2,rfl,hk2,g2,(st.trans HY).trans Zg,((D7 hs1).1.mono sub3).trans (kp2.mono sub2)⟩
    .cases h4
   |exit id=>simp only[]at hk;obtain⟨_,_,L⟩:=dJ hk;simp at L
   |ret=>simp only[]at hk;obtain⟨_,_,L⟩:=dJ hk;simp at L
  .refine wp_seq (wp_mono (ihx cx h1 _ s _ _ h3 φ a w g) ?_);rintro e a' w' ⟨ex,s',φ',rfl,hk,g',st,U⟩;cases ex with
   |normal=>simp only[]at hk;obtain⟨_,_,L⟩:=dJ hk;simp at L
   |exit id=>
    simp only[]at hk;obtain⟨r',q1,L⟩:=dJ hk;simp only[ah,Sum.inl.injEq]at L;subst L;exact⟨.exit id,s',φ',rfl,q1,g',st,U.mono sub1⟩
   |ret=>
    simp only[]at hk;obtain⟨r',q1,L⟩:=dJ hk;simp only[ah,Sum.inl.injEq]at L;subst L;exact⟨.ret,s',φ',rfl,q1,g',st,U.mono sub1⟩
 |@cond t x y x' y' _ _ ihx ihy=>
  intro c hc R s K r h φ a w g;obtain⟨c',hn,z,hsim⟩:=kj P nt c;refine hsim _ _ _ ?_;rw[<- z]at hc;obtain⟨cx,cy,rfl,h1,h2⟩:=ZS hn hc;simp only[o_]at h;split at h
  .rename_i b hb;rcases py h with ⟨rfl,h⟩|⟨rfl,h⟩
   .refine wp_cond_true (g.bool hb) (wp_mono (ihx cx h1 R s K r h φ a w g) ?_);rintro e a' w' ⟨ex,s',φ',rfl,hk,g',st,U⟩;exact⟨ex,s',φ',rfl,hk,g',st,U.mono λk hk=>by simp only[TC.asg];exact kA hk⟩
   .refine wp_cond_false (g.bool hb) (wp_mono (ihy cy h2 R s K r h φ a w g) ?_);rintro e a' w' ⟨ex,s',φ',rfl,hk,g',st,U⟩;exact⟨ex,s',φ',rfl,hk,g',st,U.mono λk hk=>by simp only[TC.asg];exact vj hk⟩
  .rename_i hb;obtain⟨ha,hbb⟩:=Yg h;obtain⟨bv,hbv⟩:=g.anyb hb;cases bv with
   |true=>
    refine wp_cond_true hbv (wp_mono (ihx cx h1 R s K r ha φ a w g) ?_);rintro e a' w' ⟨ex,s',φ',rfl,hk,g',st,U⟩;exact⟨ex,s',φ',rfl,hk,g',st,U.mono λk hk=>by simp only[TC.asg];exact kA hk⟩
   |false=>
    refine wp_cond_false hbv (wp_mono (ihy cy h2 R s K r hbb φ a w g) ?_);rintro e a' w' ⟨ex,s',φ',rfl,hk,g',st,U⟩;exact⟨ex,s',φ',rfl,hk,g',st,U.mono λk hk=>by simp only[TC.asg];exact vj hk⟩
  .cases h
 |@block id b b' _ ih=>
  intro c hc R s K r h φ a w g;obtain⟨c',hn,z,hsim⟩:=kj P nt c;refine hsim _ _ _ ?_;rw[<- z]at hc;obtain⟨cb,rfl,h1⟩:=Mt hn hc;simp only[o_]at h;refine wp_block (wp_mono (ih cb h1 R s _ r h φ a w g) ?_);rintro e a' w' ⟨ex,s',φ',rfl,hk,g',st,U⟩;cases ex with
  |normal=>exact⟨.normal,s',φ',rfl,hk,g',st,U⟩
  |ret=>exact⟨.ret,s',φ',rfl,hk,g',st,U⟩
  |exit i=>
   simp only[Ex.to,Exit.inBlock];simp only[]at hk;split at hk
   .rename_i hb;rw[aC (ar hb)];exact⟨.normal,s',φ',rfl,hk,g',st,U⟩
   .rename_i hb;rw[ay (λe=>hb (by rw[e];exact rO id))];exact⟨.exit i,s',φ',rfl,hk,g',st,U⟩
 |@jblock A id b b' _ ih=>
  intro c hc R s K r h φ a w g;obtain⟨c',hn,z,hsim⟩:=kj P nt c;refine hsim _ _ _ ?_;rw[<- z]at hc;obtain⟨cb,rfl,h1⟩:=Mt hn hc;simp only[o_]at h;have sub1:∀k,aM (b.asg 0) k=J->aM ((TC.jblock A id b).asg 0) k=J:=λk hk=>by simp only[TC.asg];exact vj hk
  have sub3:∀k,aM (K6 A.ks 0) k=J->aM ((TC.jblock A id b).asg 0) k=J:=λk hk=>by simp only[TC.asg];exact kA hk
  rcases Wf h with ⟨d,h3,h4⟩|h3
  .refine wp_block (wp_mono (ih cb h1 _ s _ _ h3 φ a w g) ?_);rintro e a' w' ⟨ex,s',φ',rfl,hk,g',st,U⟩;have fin:av (Lt np A (b.asg 0) s s') (λx=>M (bW (α:=R) x))=M (bW d)->agu P E nt np φ s w ((TC.jblock A id b).asg 0) K r .normal a' w':=by
    intro hk;obtain⟨d',q1,L⟩:=dJ hk;simp only[ah,Sum.inr.injEq]at L;subst L;split at h4
    .rename_i s1 hs1;obtain⟨φ1,g1,HY⟩:=NP g' q1 hs1 λk _ _ v hv hf ha v' Z=>by
      obtain⟨v0,e1,e2⟩:=U k ha v' Z;rw[hv]at e1;cases e1;exact e2 hf
     exact⟨.normal,s1,φ1,rfl,h4,g1,st.trans HY,(D7 hs1).1.mono sub3⟩
    .cases h4
   cases ex with
   |normal=>exact fin hk
   |ret=>simp only[]at hk;obtain⟨_,_,L⟩:=dJ hk;simp at L
   |exit i=>
    simp only[Ex.to,Exit.inBlock];simp only[]at hk;split at hk
    .rename_i hb;rw[aC (ar hb)];exact fin hk
    .obtain⟨_,_,L⟩:=dJ hk;simp at L
  .refine wp_block (wp_mono (ih cb h1 _ s _ _ h3 φ a w g) ?_);rintro e a' w' ⟨ex,s',φ',rfl,hk,g',st,U⟩;cases ex with
   |normal=>simp only[]at hk;obtain⟨_,_,L⟩:=dJ hk;simp at L
   |ret=>
    simp only[]at hk;obtain⟨r',q1,L⟩:=dJ hk;simp only[ah,Sum.inl.injEq]at L;subst L;exact⟨.ret,s',φ',rfl,q1,g',st,U.mono sub1⟩
   |exit i=>
    simp only[Ex.to,Exit.inBlock];simp only[]at hk;split at hk
    .obtain⟨_,_,L⟩:=dJ hk;simp at L
    .rename_i hb;rw[ay (λe=>hb (by rw[e];exact rO id))];obtain⟨r',q1,L⟩:=dJ hk;simp only[ah,Sum.inl.injEq]at L;subst L;exact⟨.exit i,s',φ',rfl,q1,g',st,U.mono sub1⟩
 |@loop A b b' _ ih=>
  intro c hc R s K r h φ a w g;obtain⟨c',hn,z,hsim⟩:=kj P nt c;refine hsim _ _ _ ?_;rw[<- z]at hc;obtain⟨cb,rfl,h1⟩:=Qd hn hc;simp only[o_]at h;obtain⟨x0,hx0,h⟩:=dJ h;obtain⟨n,hn⟩:=Xr h;have sub1:∀k,aM (b.asg 0) k=J->aM ((TC.loop A b).asg 0) k=J:=λk hk=>by simp only[TC.asg];exact vj hk
  have sub3:∀k,aM (K6 A.ks 0) k=J->aM ((TC.loop A b).asg 0) k=J:=λk hk=>by simp only[TC.asg];exact kA hk
  obtain⟨step,hstep⟩:∃step:A.D->I (A.D⊕R),step=λx=>(match Gx A (b.asg 0) s x with
   |some s'=>o_ np con b_ inert b s' λex s'=>(match ex with
    |.normal=>av (Lt np A (b.asg 0) s s') λy=>M (rN y)
    |ex=>av (K ex s') λr=>M (bW r))
   |none=>D):=⟨_,rfl⟩
  have hn:iterN step n x0=M r:=by rw[hstep];exact hn
  have stepEq:∀x,step x=(match Gx A (b.asg 0) s x with
   |some s'=>o_ np con b_ inert b s' λex s'=>(match ex with
    |.normal=>av (Lt np A (b.asg 0) s s') λy=>M (rN y)
    |ex=>av (K ex s') λr=>M (bW r))
   |none=>D):=λx=>by rw[hstep]
  let Inv:Nat->Act->World->Prop:=λn a w'=>∃x s1 φ1,iterN step n x=M r/\Gx A (b.asg 0) s x=M s1/\oR P E nt np φ1 s1 a w'/\B1 np φ φ1 (bt s.h) (bt s1.h) w w'
  have head:∀(n:Nat) (x:A.D),iterN step n x=M r->∃s1,Gx A (b.asg 0) s x=M s1:=by
   intro n x hn;cases n with
   |zero=>cases hn
   |succ n=>
    simp only[iterN]at hn;cases hr:Gx A (b.asg 0) s x with
    |some s1=>exact⟨s1,rfl⟩
    |none=>rw[stepEq,hr]at hn;cases hn
  refine Ca Inv ?_ (n:=n) ?_
  .rintro n a1 w1 ⟨x,s1,φ1,hi,hr,g1,HY⟩;cases n with
   |zero=>cases hi
   |succ n=>
    simp only[iterN]at hi;have hse:=stepEq x;rw[hr]at hse;simp only[]at hse;obtain⟨kp1,kp1'⟩:=D7 hr;split at hi
    .rename_i y hy;rw[hy]at hse;refine wp_mono (ih cb h1 _ s1 _ _ hse.symm φ1 a1 w1 g1) ?_;rintro e a' w' ⟨ex,s',φ',rfl,hk,g',st,U⟩;cases ex with
     |normal=>
      simp only[]at hk;obtain⟨d',q1,L⟩:=dJ hk;simp only[ah,Sum.inl.injEq]at L;subst L;obtain⟨s2,hs2⟩:=head n d' hi;obtain⟨φ2,g2,Zg⟩:=NP g' q1 hs2 λk hkk hks v hv hf ha v' Z=>by
       obtain⟨v0,e1,e2⟩:=U k ha v' Z;have:=kp1' k hks v0 e1;rw[hv]at this;cases this;exact e2 hf
      exact⟨n,by omega,d',s2,φ2,hi,hs2,g2,(HY.trans st).trans Zg⟩
     |exit id=>simp only[]at hk;obtain⟨_,_,L⟩:=dJ hk;simp at L
     |ret=>simp only[]at hk;obtain⟨_,_,L⟩:=dJ hk;simp at L
    .rename_i r' hy;cases hi;rw[hy]at hse;refine wp_mono (ih cb h1 _ s1 _ _ hse.symm φ1 a1 w1 g1) ?_;rintro e a' w' ⟨ex,s',φ',rfl,hk,g',st,U⟩;cases ex with
     |normal=>simp only[]at hk;obtain⟨_,_,L⟩:=dJ hk;simp at L
     |exit id=>
      simp only[]at hk;obtain⟨r',q1,L⟩:=dJ hk;simp only[ah,Sum.inr.injEq]at L;subst L;exact⟨.exit id,s',φ',rfl,q1,g',HY.trans st,(kp1.mono sub3).trans (U.mono sub1)⟩
     |ret=>
      simp only[]at hk;obtain⟨r',q1,L⟩:=dJ hk;simp only[ah,Sum.inr.injEq]at L;subst L;exact⟨.ret,s',φ',rfl,q1,g',HY.trans st,(kp1.mono sub3).trans (U.mono sub1)⟩
    .cases hi
  .obtain⟨s1,hs1⟩:=head n x0 hn;obtain⟨φ1,g1,HY⟩:=NP g hx0 hs1 λk _ _ v hv _ _ v' Z=>by rw[hv]at Z;cases Z;rfl
   exact⟨x0,s1,φ1,hn,hs1,g1,HY⟩
 |exit id=>
  intro c hc R s K r h φ a w g;obtain⟨c',hn,z,hsim⟩:=kj P nt c;refine hsim _ _ _ ?_;rw[<- z]at hc;rw[ZR hn hc];exact wp_exit ⟨.exit id,s,φ,rfl,h,g,B1.refl _ _ _ _,gi.refl _ _⟩
 |ret=>
  intro c hc R s K r h φ a w g;obtain⟨c',hn,z,hsim⟩:=kj P nt c;refine hsim _ _ _ ?_;rw[<- z]at hc;rw[adk hn hc];exact wp_ret ⟨.ret,s,φ,rfl,h,g,B1.refl _ _ _ _,gi.refl _ _⟩
 |defer f caps t=>
  intro c hc R s K r h φ a w g;obtain⟨c',hn,z,hsim⟩:=kj P nt c;refine hsim _ _ _ ?_;rw[<- z]at hc;obtain⟨id,ops,dr,rfl,h1,h2⟩:=Xs hn hc;simp only[o_]at h;split at h
  .rename_i l hl;split at h
   .rename_i hi;obtain⟨l',e1,e2⟩:=yH g.invE hl;obtain⟨H,hH⟩:=jS s.h;have lowN:∀n k,φ n=M k->n<2*s.nx+2:=λn k hk=>by have:=g.dom n k hk;unfold ow at this;omega
    have cfg:Cfg P ⟨2*s.nx+2,φ,E,bt s.h,w⟩ nt ⟨Jg s.e s.h,H,2*s.nx+2,0⟩ a w:=by
     refine ⟨⟨φ,?_,?_,?_,lowN,λi k hk=>.inl hk⟩,bU _,g.inert,g.size⟩
     .rw[hH];exact je.refl _ _ _
     .rw[hH];exact g.rep
     .rw[hH,uY];exact g.env
    refine Ri hin cfg h1 h2 e1 hi λa' w' c'=>?_
    obtain⟨φ',m',r',en',dm',d0'⟩:=c'.ex;have hφ:φ'=φ:=by
     funext n;cases hx:φ n with
     |some k=>exact m'.sub n k hx
     |none=>
      cases hy:φ' n with
      |none=>rfl
      |some k=>
       rcases d0' n k hy with h3|h3
       .have h3:φ n=M k:=h3;rw[hx]at h3;cases h3
       .have h4:n<2*s.nx+2:=dm' n k hy;have h5:2*s.nx+2<=n:=h3;omega
    subst hφ;simp only[hH]at m' r' en';refine ⟨.normal,_,φ',rfl,h,⟨r',?_,g.dom,g.low,g.invH,?_,c'.inert,c'.size⟩,⟨m'.ext,m'.own_,λ_ _=>rfl⟩,?_⟩
    .intro u x hx;refine en' u x ?_;simp only[fO,PT.get_set]at hx;simp only[zJ.put,PT.get_set];split at hx
     .rename_i eu;rw[aC eu];simp only[aF,ci,e2,ah]at hx;rw[hx]
     .rename_i eu;rw[ay eu,uY];exact hx
    .intro u x hx;simp only[PT.get_set]at hx;split at hx
     .cases hx;simp only[K3];exact j6 _ _ _ e2
     .exact g.invE u x hx
    .intro k hk v' Z;simp only[PT.get_set]at Z;split at Z
     .rename_i ek;subst ek;simp only[TC.asg]at hk;rw[bp,bV.2 rfl]at hk;simp at hk
     .exact⟨v',Z,λ_=>rfl⟩
   .cases h
  .cases h
 |@adj l tc' sc' _ ih=>
  intro c hc R s K r h φ a w g;obtain⟨c',hn,z,hsim⟩:=kj P nt c;refine hsim _ _ _ ?_;rw[<- z]at hc;simp only[o_]at h;split at h
  .rename_i s1 hs1;obtain⟨φ1,g1,HY,kp1⟩:=Vi g hs1;refine wp_mono (ih c' hc R s1 K r h φ1 a w g1) ?_;rintro e a' w' ⟨ex,s',φ',rfl,hk,g',st,U⟩;exact⟨ex,s',φ',rfl,hk,g',HY.trans st,(kp1.mono λk hk=>by simp only[TC.asg];exact kA hk).trans (U.mono λk hk=>by simp only[TC.asg];exact vj hk)⟩
  .cases h
 |@split k off lo n tc' sc' _ ih=>
  intro c hc R s K r h φ a w g;obtain⟨c',hn,z,hsim⟩:=kj P nt c;refine hsim _ _ _ ?_;rw[<- z]at hc;simp only[o_]at h;split at h
  .rename_i kd v hv;obtain⟨j,hj,h2⟩:=PA h;subst hj;split at h2
   .rename_i s1 hs1;obtain⟨g1,hH,he⟩:=Zk g hv hs1;refine wp_mono (ih c' hc R s1 K r h2 φ a w g1) ?_;rintro e a' w' ⟨ex,s',φ',rfl,hk,g',st,U⟩;exact⟨ex,s',φ',rfl,hk,g',by rw[<- hH];exact st,λk hk v' Z=>by
     obtain⟨v,q1,L⟩:=U k hk v' Z;exact⟨v,by rw[<- he];exact q1,L⟩⟩
   .cases h2
  .cases h
 |@unl n b b' _ ih=>
  intro c hc R s K r h φ a w g;obtain⟨c',hn,z,hsim⟩:=kj P nt c;refine hsim _ _ _ ?_;rw[<- z]at hc;obtain⟨cb,rfl,h1⟩:=Qd hn hc;simp only[o_]at h
  let Inv:Nat->Act->World->Prop:=λm a w'=>∃s1 φ1,aco (λs K=>o_ np con b_ inert b s K) m s1 K=M r/\oR P E nt np φ1 s1 a w'/\B1 np φ φ1 (bt s.h) (bt s1.h) w w'/\gi (b.asg 0) s.e s1.e
  refine Ca Inv ?_ (n:=n) ⟨s,φ,h,g,B1.refl _ _ _ _,gi.refl _ _⟩;rintro m a1 w1 ⟨s1,φ1,hi,g1,HY,kp1⟩;cases m with
  |zero=>cases hi
  |succ m=>
   simp only[aco]at hi;refine wp_mono (ih cb h1 R s1 _ r hi φ1 a1 w1 g1) ?_;rintro e a' w' ⟨ex,s',φ',rfl,hk,g',st,U⟩;cases ex with
   |normal=>exact⟨m,qN m,s',φ',hk,g',HY.trans st,kp1.trans U⟩
   |exit id=>exact⟨.exit id,s',φ',rfl,hk,g',HY.trans st,kp1.trans U⟩
   |ret=>exact⟨.ret,s',φ',rfl,hk,g',HY.trans st,kp1.trans U⟩
 |bad sc'=>
  intro c hc R s K r h;simp[o_]at h
theorem Nv {P:Program} {φ:PM} {E:Nat->Prop} {s:TS} {a:Act} {w:World} (hinv:ml s.h s.nx) (hiE:tI s.e s.h) (r:qX φ E (bt s.h) w) (en:M8 φ (tot E φ (bt s.h)) w (fO s.e s.h) a):∀(rs:Y ResultVar) (rvs:Y RV) (l:Y TV),vh P rs=M rvs->Ts s rvs=M l->
 ∃la vs,cJ s.h l=M la/\(rs.mapM (Xi a.tmps)).run P w= .ok vs w/\ka φ (tot E φ (bt s.h)) w la vs
 |[],rvs,l,hc,hr=>by
  simp only[vh,ah]at hc;subst hc;simp only[Ts,ah]at hr;subst hr;exact⟨[],[],rfl,by simp,trivial⟩
 |.tmp t::rs,rvs,l,hc,hr=>by
  simp only[vh]at hc;split at hc
  .rename_i rvs' hrs;simp only[ah]at hc;subst hc;simp only[Ts]at hr;split at hr
   .rename_i v hv;split at hr
    .rename_i A c;simp only[ah]at hr;subst hr;obtain⟨la,vs,h0,h1,h2⟩:=Nv hinv hiE r en rs rvs' A hrs c;simp only[rvT]at hv;obtain⟨y,U⟩:=pa s.h v (hiE t v hv);refine ⟨y::la,a.tmps.getD t undef::vs,o7 U h0,?_,en t y (by simp only[fO,hv,aF,U]),h2⟩;simp only[List.mapM_cons,eM,Xi,oS,cN];show ((rs.mapM (Xi a.tmps)).run P w).andThen _=_;rw[h1];rfl
    .cases hr
   .cases hr
  .cases hc
 |.cell ad t::rs,rvs,l,hc,hr=>by
  simp only[vh]at hc;split at hc
  .rename_i rvs' sz ag hrs hsz hag;simp only[ah]at hc;subst hc;simp only[Ts]at hr;split at hr
   .rename_i v hv;split at hr
    .rename_i A c;simp only[ah]at hr;subst hr;obtain⟨la,vs,h0,h1,h2⟩:=Nv hinv hiE r en rs rvs' A hrs c;simp only[rvT]at hv;split at hv
     .rename_i id off hp;split at hv
      .rename_i ty q hb;obtain⟨q',z⟩:=fd s.h q (hinv.cells id _ q hb);obtain⟨y,e1,e2⟩:=VK z hv;obtain⟨H,Z⟩:=jS s.h;have hR:DH H sz ag (.ptr (nm id) off)=M ⟨y,[nm id],[],[],[]⟩:=by
        have hg:H.get (nm id)=M ⟨ty,.mx q'⟩:=by rw[Z,bE,hb];simp only[aF,jC,z]
        simp only[DH,hg,e2]
       obtain⟨_,_,_,h3⟩:=Se (P:=P) hsz hag hR;obtain⟨qq,L,h4,h5,h6⟩:=h3 φ E (bt s.h) w _ (λi _=>by rw[Z]) r (en ad _ (by simp only[fO,hp,aF,ci]));refine ⟨y::la,L::vs,o7 e1 h0,?_,h6,h2⟩;have hone:(Xi a.tmps (.cell ad t)).run P w= .ok L w:=by
        simp only[Xi,eM,h4,asAddr,oS,cN,h5]
       rw[List.mapM_cons];simp only[eM,hone,cN,h1,oS]
      .cases hv
     .cases hv
    .cases hr
   .cases hr
  .cases hc
theorem E8:∀(args:Y TV) (k t:Nat) (x:TV),(Km k args).get t=M x->k<=t/\args[t-k]? =M x
 |[],k,t,x,h=>by simp[Km,PT.get]at h
 |y::args,k,t,x,h=>by
  rw[Km,PT.get_set]at h;split at h
  .rename_i hk;subst hk;cases h;exact⟨bU _,by simp⟩
  .obtain⟨h1,h2⟩:=E8 args (k+1) t x h;refine ⟨by omega,?_⟩;rw[show t-k=t-(k+1)+1 from by omega];simpa using h2
theorem ZA {h:bg} {l:Y TV} (c:kX h l=J) {j:Nat} {v:TV} (hj:l[j]? =M v):K3 h v=J:=by
 obtain⟨q,hl⟩:=fd h l c;obtain⟨y,_,a⟩:=lm hl j v hj;exact EL _ _ _ a
theorem Th {P:Program} {con:FuncId->I cq} {b_:TypeId->I Ty} {inert:FuncId->Bool} (hm:P.follows .mixedOrders=J) (hcon:KC P con) (hin:Kz P inert) {f:FuncId} {Z:SF} (hf:zC P f=M Z) (A:FT) (m:A.pre.ty.den->I A.post.ty.den) (hmod:∀x y,m x=M y->Zb con b_ inert (M Z) A x=M y):pR P f ⟨A.pre,A.post,m⟩:=by
 obtain⟨fn,c,hfn,hb,hnm,hcode,hres,hnt⟩:=RZ hf;refine ⟨⟨fn,hfn,by rw[hb];rfl,hnm⟩,λx y hxy vs hp l1 rs hq l2 la lr B K hla hlr φ E w us hrep hrel hdom=>?_⟩;have ht:=hmod x y hxy;unfold Zb at ht;simp only[]at ht;split at ht
 .rename_i args h hins;obtain⟨l1',I'⟩:=wa hins;have e1:args=vs:=by have h1:=B.pv;have h2:=I'.pv;rw[h1]at h2;cases h2;rfl
  have e2:l1'=l1:=by have h1:=B.pb;have h2:=I'.pb;rw[h1]at h2;cases h2;rfl
  subst e1;subst e2;have hget:∀i,h.get i=hp.get i:=λi=>by
   cases L:hp.get i with
   |some b=>exact (I'.at_ i b).2 ((B.at_ i b).1 L)
   |none=>
    cases h4:h.get i with
    |none=>rfl
    |some b=>have:=(B.at_ i b).2 ((I'.at_ i b).1 h4);rw[L]at this;cases this
  have hrow:∀i,eH h i=eH hp i:=λi=>by rw[bR,bR,hget]
  have herH:bt h=bt hp:=by
   funext n;by_cases hn:∃i,n=nm i
   .obtain⟨i,rfl⟩:=hn;rw[bE,bE,hget];cases L:hp.get i with
    |none=>rfl
    |some b=>
     simp only[aF];refine Jh (λi r hr=>by rw[hrow];exact hr) λty l e=>?_
     exact (B.cells i _ l (by rw[L,e])).1
   .rw[wu _ hn,wu _ hn]
  have hla':cJ h args=M la:=gm (λi r hr=>by rw[hrow];exact hr) args la hla;split at ht
  .rename_i hle;simp only[al]at hle;have hle2:=a8 hle.2;have hle:=a8 hle.1;have hlen:=hrel.length;have hargl:args.length=la.length:=(gI hla).symm;refine calls_of_wp_defers hfn hb ?_;have hcfg:oR P E fn.ntmps A.pre.bs.length φ ⟨Km 0 args,h,A.pre.bs.length⟩ {tmps:=us.toArray++oE (fn.ntmps-us.toArray.size) undef,defers:=[]} w:=by
    refine ⟨by rw[herH];exact hrep,?_,hdom,bU _,⟨λi ty l hl=>(I'.cells i _ l hl).1,λi b hbb=>I'.lt_len hbb⟩,?_,by simp,by simp;omega⟩
    .intro t z a;simp only[fO]at a;cases s:(Km 0 args).get t with
     |none=>rw[s]at a;cases a
     |some v0=>
      rw[s]at a;obtain⟨_,h2⟩:=E8 args 0 t v0 s;rw[Nat.sub_zero]at h2;obtain⟨y0,U,q⟩:=lm hla' t v0 h2;simp only[aF]at a;rw[a]at q;cases q;obtain⟨v,L,h4⟩:=hrel.get t z U;have hlt:t<us.length:=(bi.1 L).1;have:(us.toArray++oE (fn.ntmps-us.toArray.size) undef).getD t undef=v:=by
       rw[gJ,Array.getElem?_append];simp only[s8,hlt,bF,kB,L,uK]
      show cM φ _ w z ((us.toArray++oE (fn.ntmps-us.toArray.size) undef).getD t undef);rw[this,herH];exact h4
    .intro t v0 hv0;obtain⟨_,h2⟩:=E8 args 0 t v0 hv0;exact ZA I'.ok h2
   refine wp_mono (ah9 (E:=E) hm hcon hin (xA A.hints Z.code 0) c hcode.symm _ _ _ _ ht φ _ w hcfg) ?_;rintro e a' w' ⟨ex,s',φ',rfl,hk,g',st,_⟩;have fin:(match Ts s' Z.res with
    |some l=>(match Ef A.pre.bs.length A.post l s'.h with
     |some ⟨y,_,_,_⟩=>(match CI A.post y with|some _=>M y|none=>D)
     |none=>D)
    |none=>D)=M y->Leaves P fn a'.tmps (λen w'=>∃v φ',en= .returned v/\HM (own φ (bt hp)) w w'/\(∀k,k<w.heap.size->own φ' (bt hq) k->own φ (bt hp) k)/\(∀i,i<A.pre.bs.length->φ' (nm i)=φ (nm i))/\qX φ' E (bt hq) w'/\cM φ' (tot E φ' (bt hq)) w' (DZ lr) v) a'.defers .returning w':=by
    intro hk;split at hk
    .rename_i l hl;split at hk
     .rename_i y' m' σ sm hM;split at hk
      .simp only[ah]at hk;subst hk;obtain⟨lo,rvs,q0,U,q⟩:=Nv g'.invH g'.invE g'.rep g'.env fn.results.toList Z.res l hres hl;have H:=vY hM;obtain⟨φ2,lu,hlu,S⟩:=KW (np:=A.pre.bs.length) (E:=E) K g'.invH H q0 g'.rep;rw[hlr]at hlu;cases hlu;have hresults:(results fn a'.tmps).run P w'= .ok (if h:rvs.toArray.size=1 then rvs.toArray[0] else .tuple rvs.toArray) w':=by
        rw[Tu,Array.mapM_eq_mapM_toList];simp only[eM,Sem.run_map,U,cN,oS]
       have hrl:ka φ2 (tot E φ2 (bt hq)) w' lr rvs:=by
        refine ka.of (by rw[q.length,S.len]) λj z v a hv=>?_
        obtain⟨z0,p1,p2⟩:=S.val j z v a;obtain⟨v',p3,p4⟩:=q.get j z0 p1;rw[hv]at p3;cases p3;exact p2 p4
       have hval:cM φ2 (tot E φ2 (bt hq)) w' (DZ lr) (if h:rvs.toArray.size=1 then rvs.toArray[0] else .tuple rvs.toArray):=by
        have hll:=hrl.length;clear hlr S;cases lr with
        |nil=>
         cases rvs with
         |nil=>exact cM.tup (vs:=[]) rfl (by intro j x v s;simp at s)
         |cons _ _=>exact hrl.elim
        |cons z lr=>
         cases rvs with
         |nil=>exact hrl.elim
         |cons v rvs=>
          cases lr with
          |nil=>
           cases rvs with
           |nil=>exact hrl.1
           |cons _ _=>exact hrl.2.elim
          |cons y l=>
           cases rvs with
           |nil=>exact hrl.2.elim
           |cons u rvs=>
            rw[dif_neg (by simp)];refine cM.tup (vs:=v::u::rvs) (by simpa using hll) λj x' v' s hv=>?_
            obtain⟨v'',U,q⟩:=hrl.get j x' s;rw[hv]at U;cases U;exact q
       have st':B1 A.pre.bs.length φ φ' (bt hp) (bt s'.h) w w':=by rw[<- herH];exact st
       refine Cz hresults ⟨_,φ2,rfl,st'.ext,λk hk ho=>st'.own_ k hk (S.own_ k ho),λi hi=>?_,S.rep,hval⟩ a'.defers g'.inert;rw[S.par i hi (dB hi hle2),st'.par i hi]
      .cases hk
     .cases hk
    .cases hk
   cases ex with
   |normal=>exact fin hk
   |ret=>exact fin hk
   |exit id=>cases hk
  .cases ht
 .cases ht
def UZ:Y (FuncId×cq)->FuncId->I cq
 |[],_=>D
 |(g,c)::r,f=>if aA g f then M c else UZ r f
def S8 (P:Program):Y (FuncId×cq)->Prop
 |[]=>True
 |p::r=>aH P p.1 p.2/\S8 P r
theorem WC {P:Program}:∀{l:Y (FuncId×cq)},S8 P l->KC P (UZ l)
 |[],_,f,c,h=>by simp[UZ]at h
 |(g,d)::r,a,f,c,h=>by
  simp only[UZ]at h;split at h
  .rename_i hb;have:=ar hb;subst this;cases h;exact a.1
  .exact WC a.2 f c h
theorem QL {P:Program} {inert:FuncId->Bool} (hm:P.follows .mixedOrders=J) (hin:Kz P inert) {l:Y (FuncId×cq)} (a:S8 P l) {b_:TypeId->I Ty} {f:FuncId} {z:FT} {m:z.pre.ty.den->I z.post.ty.den} (hs:(zC P f).isSome=J) (he:∀x,Zb (UZ l) b_ inert (zC P f) z x=m x):pR P f ⟨z.pre,z.post,m⟩:=by
 obtain⟨c,hf⟩:=iQ.1 hs;exact Th hm (WC a) hin hf z m λx y hxy=>by rw[<- hf,he];exact hxy
theorem pR.sub {P:Program} {f:FuncId} {pre post:Tm} {m m':pre.ty.den->I post.ty.den} (h:pR P f ⟨pre,post,m⟩) (hs:∀x y,m' x=M y->m x=M y):pR P f ⟨pre,post,m'⟩:=
 ⟨h.callable,λx y hxy=>h.calls x y (hs x y hxy)⟩
theorem aH.sub {P:Program} {f:FuncId} {pre post:Tm} {m m':pre.ty.den->I post.ty.den} (h:aH P f ⟨pre,post,m⟩) (hb:eO pre.bs.length post.bs.length=J) (hs:∀x y,m' x=M y->m x=M y):aH P f ⟨pre,post,m'⟩:=
 ((h.holds hb).sub hs).toC hb
theorem rK {α:Type} {b:Nat}:∀(x y:Y α),chk (a_ (ai x) b) (λ_=>M x)=M y->aG (aA (ai x) 0) (E6 (M ([]:Y α)) (chk (a_ (ai ([]:Y α)+ai x) b) λ_=>(M (([]:Y α)++x)))) (chk (a_ (ai ([]:Y α)+ai x) b) λ_=>(M (([]:Y α)++x)))=M y:=by
 intro x y h;rw[j8,gr,bG,h];cases x with
 |nil=>
  obtain⟨_,h⟩:=dZ h;cases h;show E6 (M []) (M [])=_;unfold E6;rw[aC rfl]
 |cons a r=>rfl
theorem Ul {P:Program} {f:FuncId} {pre post:Tm} (hs:(zC P f).isSome=J):pR P f ⟨pre,post,λ_=>D⟩:=by
 obtain⟨a,hf⟩:=iQ.1 hs;obtain⟨fn,c,hfn,hb,hnm,_⟩:=RZ hf;exact⟨⟨fn,hfn,by rw[hb];rfl,hnm⟩,λx y h=>by cases h⟩
theorem pR.orElse {P:Program} {f:FuncId} {pre post:Tm} {m m':pre.ty.den->I post.ty.den} (h:pR P f ⟨pre,post,m⟩) (h':pR P f ⟨pre,post,m'⟩):pR P f ⟨pre,post,λx=>match m x with|some y=>M y|none=>m' x⟩:=
 ⟨h.callable,λx y hxy=>by
   cases hm:m x with
   |some z=>rw[show (cq.m ⟨pre,post,λx=>match m x with|some y=>M y|none=>m' x⟩ x)=M z by show (match m x with|some y=>M y|none=>m' x)=M z;rw[hm]]at hxy;cases hxy;exact h.calls x _ hm
   |none=>rw[show (cq.m ⟨pre,post,λx=>match m x with|some y=>M y|none=>m' x⟩ x)=m' x by show (match m x with|some y=>M y|none=>m' x)=m' x;rw[hm]]at hxy;exact h'.calls x y hxy⟩
theorem aH.orE {P:Program} {f:FuncId} {pre post:Tm} {m m':pre.ty.den->I post.ty.den} (hb:eO pre.bs.length post.bs.length=J) (h:aH P f ⟨pre,post,m⟩) (h':aH P f ⟨pre,post,m'⟩):aH P f ⟨pre,post,λx=>AI.orE (m x) (m' x)⟩:=by
 have e:(λx=>AI.orE (m x) (m' x))=λx=>match m x with|some y=>M y|none=>m' x:=by funext x;cases m x<;>rfl
 rw[e];exact ((h.holds hb).orElse (h'.holds hb)).toC hb
def Y9 (P:Program) (f:Ty->TypeId->Bool):Y Field->Nat->Ty->Bool
 |[],_,.un=>J
 |[x],off,T=>aA x.offset off&&f T x.type&&aA (P.cellsOf x.type) T.size
 |x::y::r,off,.pr a b=>aA x.offset off&&f a x.type&&aA (P.cellsOf x.type) a.size&&Y9 P f (y::r) (off+a.size) b
 |_,_,_=>af
def Tg (P:Program) (f:Ty->TypeId->Bool) (e:TypeId):Nat->Ty->Bool
 |1,T=>f T e&&aA (P.cellsOf e) T.size
 |m+2,.pr a b=>f a e&&aA (P.cellsOf e) a.size&&Tg P f e (m+1) b
 |_,_=>af
def Bl (P:Program):Nat->Ty->TypeId->Bool
 |0,_,_=>af
 |n+1,T,t=>match T,P.underlying t with
  |.int k,M (.int k')=>k==k'
  |.bool,M .bool=>J
  |.str,M .string=>J
  |.sl U,M (.slice e)=>Bl P n U e&&aA (P.cellsOf e) U.size&&gu 0 U.size
  |.st U,M (.struct fs)=>Y9 P (Bl P n) fs.toList 0 U&&aA (P.cellsOf t) U.size
  |.st U,M (.array m e)=>Tg P (Bl P n) e m U&&aA (P.cellsOf t) U.size
  |_,_=>af
def VD:(T:Ty)->T.den->Prop
 |.int k,n=>(Lit.int k n).wf=J
 |.str,s=>ai s<=maxLen
 |.sl U,xs=>ai xs<=maxLen/\∀x∈(xs:Y U.den),VD U x
 |.st t,v=>VD t v
 |.pr a b,v=>VD a v.1/\VD b v.2
 |_,_=>True
def Ku (W:World) (T:Ty) (x:T.den) (cs:ξ):Prop:=cs.length=T.size/\∀(j:Nat) y v,(bS T x)[j]? =M y->cs[j]? =M v->nH (λ_=>False) W y v
theorem Kb {α:Type} (z:α) (P:Nat->α->Prop):∀n:Nat,(∀i,i<n->∃a,P i a)->∃l:Y α,l.length=n/\∀i x,l[i]? =M x->P i x
 |0,_=>⟨[],rfl,λi x h=>by simp at h⟩
 |n+1,h=>by
  obtain⟨l,hl,hp⟩:=Kb z P n (λi hi=>h i (by omega));obtain⟨a,q⟩:=h n (by omega);refine ⟨l++[a],by simp[hl],λi x c=>?_⟩;by_cases hi:i<l.length
  .rw[bP hi]at c;exact hp i x c
  .rw[b8 (by omega)]at c;by_cases h0:i-l.length=0
   .rw[h0]at c;simp at c;subst c;rw[show i=n from by omega];exact q
   .rw[bD (by simp;omega)]at c;cases c
theorem Addr.add_plain {a:Addr} (h:a.spot=D) (n:Nat):a.add n=⟨a.block,a.off+n,D⟩:=by
 unfold Addr.add;split
 .rename_i h0;subst h0;cases a;simp at h;subst h;rfl
 .rfl
theorem Yc {w:World} {a:Addr} {v:Value} (h:w.cell? a=M v):a.spot=D:=by
 unfold Nc at h;split at h
 .split at h
  .cases h
  .rename_i hs;cases hh:a.spot with
   |none=>rfl
   |some _=>simp[hh]at hs
 .cases h
theorem Ku.sub {W:World} {T:Ty} {x:T.den} {cs:ξ} {off n:Nat} (h:Ku W T x ((cs.drop off).take n)) (hn:n=T.size) (hl:off+n<=cs.length):∀(j:Nat) y v,(bS T x)[j]? =M y->cs[off+j]? =M v->nH (λ_=>False) W y v:=λj y v a hv=>by
 refine h.2 j y v a ?_;have hj:j<T.size:=by have:=(bi.1 a).1;rwa [bB]at this
 rw[cP,aC (by omega),hZ];exact hv
section
variable {H:Type} {enc:TypeId×Value->H} {P:Program} {W:World} {base:Nat} {sp:Nat->Bool} {hd:Bool}
theorem V2 {f:Ty->TypeId->Bool} {m:Nat} (s:∀(T:Ty) (t:TypeId) (cs:ξ) x,f T t=J->DataW.trod enc P W base sp hd m t cs=M x->∃v,Ku W T v cs/\VD T v) (cs:ξ) (ts:Y (DataW H×Y MemPlace)):
 ∀(fs:Y Field) (off k:Nat) (T:Ty),Y9 P f fs off T=J->off+T.size<=cs.length->(∀(i:Nat) (fl:Field),fs[i]? =M fl->∃z,DataW.trod enc P W base sp hd m fl.type ((cs.drop fl.offset).take (P.cellsOf fl.type))=M z)->
 ∃v,(∀(j:Nat) y u,(bS T v)[j]? =M y->cs[off+j]? =M u->nH (λ_=>False) W y u)/\VD T v
 |[],off,k,.un,_,_,_=>⟨(),λj y u c=>by simp[bS]at c,trivial⟩
 |[x],off,k,T,h,hl,hg=>by
  simp only[Y9,al]at h;obtain⟨⟨h1,h2⟩,q⟩:=h;have h1:=ar h1;have q:=ar q;obtain⟨z,A⟩:=hg 0 x rfl;obtain⟨v,hv,U⟩:=s T _ _ _ h2 A;rw[h1]at hv;exact⟨v,hv.sub q (by omega),U⟩
 |x::x'::r,off,k,.pr a b,h,hl,hg=>by
  simp only[Y9,al]at h;obtain⟨⟨⟨h1,h2⟩,q⟩,h4⟩:=h;have h1:=ar h1;have q:=ar q;simp only[Ty.size]at hl;obtain⟨z,A⟩:=hg 0 x rfl;obtain⟨v,hv,U⟩:=s a _ _ _ h2 A;rw[h1]at hv;have hv:=hv.sub q (by omega);obtain⟨v',Z,L⟩:=V2 s cs ts (x'::r) (off+a.size) (k+1) b h4 (by omega) (λi fl hi=>hg (i+1) fl (by simpa using hi));refine ⟨(v,v'),λj y u c hu=>?_,U,L⟩;simp only[bS]at c;by_cases hj:j<a.size
  .rw[bP (by rw[bB];exact hj)]at c;exact hv j y u c hu
  .rw[b8 (by rw[bB];omega),bB]at c;exact Z _ y u c (by rw[show off+a.size+(j-a.size)=off+j from by omega];exact hu)
theorem V3 {f:Ty->TypeId->Bool} {m:Nat} {e:TypeId} (q:∀(T:Ty) (t:TypeId) (cs:ξ) x,f T t=J->DataW.trod enc P W base sp hd m t cs=M x->∃v,Ku W T v cs/\VD T v) (cs:ξ):
 ∀(n i:Nat) (T:Ty),Tg P f e n T=J->i*P.cellsOf e+T.size<=cs.length->(∀j,j<n->∃z,DataW.trod enc P W base sp hd m e ((cs.drop ((i+j)*P.cellsOf e)).take (P.cellsOf e))=M z)->
 ∃v,(∀(j:Nat) y u,(bS T v)[j]? =M y->cs[i*P.cellsOf e+j]? =M u->nH (λ_=>False) W y u)/\VD T v
 |0,i,T,h,_,_=>by unfold Tg at h;cases h
 |1,i,T,h,hl,hg=>by
  simp only[Tg,al]at h;have Z:=ar h.2;obtain⟨z,s⟩:=hg 0 (by omega);obtain⟨v,hv,L⟩:=q T _ _ _ h.1 s;rw[cZ]at hv;exact⟨v,hv.sub Z (by omega),L⟩
 |n+2,i,T,h,hl,hg=>by
  cases T with
  |pr a b=>
   simp only[Tg,al]at h;obtain⟨⟨h1,h2⟩,h4⟩:=h;have Z:=ar h2;simp only[Ty.size]at hl;obtain⟨z,s⟩:=hg 0 (by omega);obtain⟨v,hv,L⟩:=q a _ _ _ h1 s;rw[cZ]at hv;have hv:=hv.sub Z (by omega);obtain⟨v',U,A⟩:=V3 q cs (n+1) (i+1) b h4 (by rw[Nf,Nat.one_mul];omega) (λj hj=>by have:=hg (j+1) (by omega);rwa [show i+(j+1)=i+1+j from by omega]at this);refine ⟨(v,v'),λj y u c hu=>?_,L,A⟩;simp only[bS]at c;by_cases hj:j<a.size
   .rw[bP (by rw[bB];exact hj)]at c;exact hv j y u c hu
   .rw[b8 (by rw[bB];omega),bB]at c;exact U _ y u c (by rw[Nf,Nat.one_mul,show i*P.cellsOf e+P.cellsOf e+(j-a.size)=i*P.cellsOf e+j from by omega];exact hu)
  |_=>unfold Tg at h;cases h
theorem Hp:∀(n:Nat) (T:Ty) (t:TypeId) (fuel:Nat) (cs:ξ) x,Bl P n T t=J->(∀b,sp b=J)->DataW.trod enc P W base sp hd fuel t cs=M x->∃v,Ku W T v cs/\VD T v
 |0,_,_,_,_,_,h,_,_=>by unfold Bl at h;cases h
 |n+1,T,t,fuel,cs,x,h,hsp,ht=>by
  unfold Bl at h;split at h
  .rename_i k k' hu;have hk:=eq_of_beq h;subst hk;obtain⟨m,rfl,_,A⟩:=DataW.trod_int hu ht;refine ⟨m,⟨rfl,λj y v c hv=>?_⟩,A⟩;cases j with
   |zero=>simp[bS]at c hv;subst c hv;exact .raw _
   |succ j=>simp[bS]at c
  .rename_i hu;obtain⟨b,rfl,_⟩:=DataW.trod_bool hu ht;refine ⟨b,⟨rfl,λj y v c hv=>?_⟩,trivial⟩;cases j with
   |zero=>simp[bS]at c hv;subst c hv;exact .raw _
   |succ j=>simp[bS]at c
  .rename_i hu;obtain⟨s,rfl,_,hs⟩:=DataW.trod_string hu ht;refine ⟨s.data.toList,⟨rfl,λj y v c hv=>?_⟩,by simpa[VD] using hs⟩;cases j with
   |zero=>simp[bS]at c hv;subst c hv;exact .raw _
   |succ j=>simp[bS]at c
  .rename_i U e hu;simp only[al]at h;obtain⟨⟨h1,h2⟩,h3⟩:=h;have h2:=ar h2;have h3:0<U.size:=a8 h3;rcases Go.Deep.open_slice hu ht with ⟨rfl,_⟩|⟨a,len,cap,m,k,z,Pl,rfl,hb,hl,hm,hmm,_,hi⟩
   .refine ⟨[],⟨rfl,λj y v c hv=>?_⟩,by simp[VD]⟩;cases j with
    |zero=>simp[bS]at c hv;subst c hv;exact .nil _ _ (by unfold maxLen;omega)
    |succ j=>simp[bS]at c
   .rw[hsp,aC rfl]at hmm;rw[h2]at hi;obtain⟨xs,hx1,Z⟩:=Kb U.zero (λi (v:U.den)=>∃cs',W.cells? base (a.add (i*U.size)) U.size=M cs'/\Ku W U v cs'/\VD U v) len (λi hil=>by
     obtain⟨cs',hc,htt⟩:=hi i (by omega);obtain⟨v,hv,A⟩:=Hp n U e k cs' _ h1 hsp htt;exact⟨v,cs',hc,hv,A⟩)
    refine ⟨xs,⟨rfl,λj y v c hv=>?_⟩,by show ai xs<=maxLen;omega,λy c=>?_⟩
    .cases j with
     |succ j=>simp[bS]at c
     |zero=>
      simp[bS]at c hv;subst c hv;by_cases h0:len=0
      .have:xs=[]:=gP.1 (by omega);subst this;subst h0;exact .nil _ _ hm
      .obtain⟨x0,hx0⟩:∃x0,xs[0]? =M x0:=⟨xs[0]'(by omega),ax (by omega)⟩
       obtain⟨cs0,hc0,_⟩:=Z 0 x0 hx0;obtain⟨_,hcl0,hat0⟩:=World.cells?_some hc0;have hca:=hat0 0 h3;rw[ax (by omega)]at hca;have hspot:a.spot=D:=by
        have:=Yc hca;simpa[Addr.add] using this
       have hblk:=World.block_lt_of_cell? W _ hca;rw[Nat.zero_mul,Addr.add_plain hspot,Addr.add_plain rfl]at hca hblk;have hcell:∀(i j:Nat) x,xs[i]? =M x->j<U.size->∃cs',W.cell? ⟨a.block,a.off+(i*U.size+j),D⟩=cs'[j]? /\j<cs'.length/\Ku W U x cs':=λi j x hx hj=>by
        obtain⟨cs',hc,hr,_⟩:=Z i x hx;obtain⟨_,hcl,hat⟩:=World.cells?_some hc;have:=hat j hj;rw[Addr.add_plain hspot,Addr.add_plain rfl,sI]at this;exact⟨cs',this,by omega,hr⟩
       have hflat:∀j,j<xs.length*U.size->∃x,xs[j/U.size]? =M x/\j%U.size<U.size/\j=j/U.size*U.size+j%U.size:=λj hj=>by
        have h5:j/U.size<xs.length:=Nat.div_lt_of_lt_mul (by rw[Hi];exact hj);exact⟨xs[j/U.size],ax h5,Nat.mod_lt _ h3,by rw[Hi];exact (Nat.div_add_mod j U.size).symm⟩
       have hlen:(List.flatMap (bS U) xs).length=xs.length*U.size:=fJ (bB U) xs;obtain⟨ab,ao,az⟩:=a;cases hspot;rw[<- hx1];refine .sl (List.flatMap (bS U) xs) xs.length cap ab ao (λj=>(W.cell? ⟨ab,ao+j,D⟩).getD undef) (by omega) hm (λh=>h) hblk (rH U xs) (λj hj=>?_) (λj y c=>?_)
       .obtain⟨x,hx,hjs,hje⟩:=hflat j (by omega);obtain⟨cs',g1,g2,_⟩:=hcell _ _ x hx hjs;rw[<- hje]at g1;simp only[g1,ax g2,uK]
       .have hj:j<xs.length*U.size:=by rw[<- hlen];exact (bi.1 c).1
        obtain⟨x,hx,hjs,hje⟩:=hflat j hj;obtain⟨cs',g1,g2,g3⟩:=hcell _ _ x hx hjs;rw[<- hje]at g1;simp only[g1];rw[ax g2];refine g3.2 (j%U.size) y _ ?_ (ax g2);obtain⟨r,hr⟩:=EI (bB U) xs (j/U.size) x hx;have:((List.flatMap (bS U) xs).drop (j/U.size*U.size))[j%U.size]? =M y:=by rw[hZ,<-hje];exact c
        rw[hr,bP (by rw[bB];exact hjs)]at this;exact this
    .obtain⟨i,L⟩:=fc c;obtain⟨_,_,_,A⟩:=Z i y L;exact A
  .rename_i U fs hu;simp only[al]at h;have h2:=ar h.2;obtain⟨xs,m,rfl,_,hl,hxl,hg⟩:=DataW.trod_struct hu ht;obtain⟨v,hv,A⟩:=V2 (f:=Bl P n) (m:=m) (λT t cs x h1 h2=>Hp n T t m cs x h1 hsp h2) cs xs fs.toList 0 0 U h.1 (by omega) (λi fl hi=>by
    have L:fs[i]? =M fl:=by simpa using hi
    have:=hg i fl L;have hlt:i<xs.length:=by rw[hxl];exact (cA.1 L).1
    rw[ax hlt]at this;exact⟨_,this⟩)
   exact⟨v,⟨by rw[hl,h2];rfl,λj y u c hu=>hv j y u c (by rw[bG];exact hu)⟩,A⟩
  .rename_i U m e hu;simp only[al]at h;have h2:=ar h.2;obtain⟨xs,q,rfl,_,hl,hxl,hg⟩:=DataW.trod_array hu ht;obtain⟨v,hv,A⟩:=V3 (f:=Bl P n) (m:=q) (λT t cs x h1 h2=>Hp n T t q cs x h1 hsp h2) cs m 0 U h.1 (by omega) (λj hj=>by
    have:=hg j hj;rw[ax (by omega)]at this;rw[bG];exact⟨_,this⟩)
   exact⟨v,⟨by rw[hl,h2];rfl,λj y u c hu=>hv j y u c (by rw[Nat.zero_mul,bG];exact hu)⟩,A⟩
  .cases h
theorem P3 {n:Nat} {T:Ty} {t:TypeId} {v:Value} {r:Reach} {bs:Nat} (a:Bl P n T t=J) (h1:T.one=J) (h:Hf P W r bs t v):v.cells.toList=[v]:=by
 cases n with
 |zero=>unfold Bl at a;cases a
 |succ n=>
  unfold Bl at a;unfold Hf at h;cases v with
  |agg cs=>
   exfalso;split at a<;>rename_i hu<;>first|(rw [hu]at h;simp only[]at h;unfold Cell.okWide at h;rw[hu]at h;unfold Cell.ok at h;rw[hu]at h;simp at h)|cases h1|cases a
  |_=>rfl
theorem Tx {n:Nat} {T:Ty} {t:TypeId} {v:Value} {r:Reach} {bs:Nat} (a:Bl P n T t=J) (h1:T.one=af) (h:Hf P W r bs t v):∃cs,v= .agg cs:=by
 cases n with
 |zero=>unfold Bl at a;cases a
 |succ n=>
  unfold Bl at a;unfold Hf at h;split at a<;>rename_i hu<;>first|(rw [hu]at h;obtain⟨cs,h,_⟩:=h;exact⟨cs,h⟩)|cases h1|cases a
theorem open_arg {n:Nat} {T:Ty} {t:TypeId} {v:Value} {d:DataW H} {ps:Y MemPlace} {r:Reach} {bs:Nat} (c:Bl P n T t=J) (hsp:∀b,sp b=J) (hok:Hf P W r bs t v) (h:DataW.Trod enc P W base sp hd t v d ps):∃x,nH (λ_=>False) W (gB T x) v/\VD T x:=by
 obtain⟨fuel,hf⟩:=h;obtain⟨x,a,s⟩:=Hp n T t fuel _ _ c hsp hf;refine ⟨x,?_,s⟩;by_cases h1:T.one=J
 .obtain⟨e1,e2⟩:=C4 T x h1;exact a.2 0 _ v (by rw[e1];rfl) (by rw[P3 c h1 hok];rfl)
 .obtain⟨cs,rfl⟩:=Tx c (by simpa using h1) hok;rw[qD T x (by simpa using h1)];have hl:cs.toList.length=(bS T x).length:=by rw[bB];exact a.1
  have:=nH.agg (O:=λ_=>False) (w:=W) (bS T x) cs.toList hl (oa T x) (λj y u q hu=>a.2 j y u q hu);simpa using this
end
theorem WL {z:Int} (h:(Lit.int .u8 z).wf=J):0<=z/\z<=255:=⟨be (uB.1 h).1,be (uB.1 h).2⟩
theorem aic {w:WT} {l:Y ET} (c:TR (w,l)) {a:Nat} (q:a<l.length) (h:Vj (dE l a)=J):(eN l a).2.2.1=((dE l a).ob:Int):=(FF c q).ob (by rcases be h with h|h<;>rw[h]<;>decide)
abbrev Sh:Type:=(ν)×(ν)×η
def yk (l:η) (t:Nat) (n:Int):η:=(l++aB (t+1-l.length) 0).set t n
theorem Cj (l:η) (t:Nat) (n:Int):(yk l t n).length=max l.length (t+1):=by unfold yk;rw[ia,bk,bY];omega
theorem yD (l:η) (t:Nat) (n:Int) (u:Nat):(yk l t n).getD u 0=if t=u then n else l.getD u 0:=by
 unfold yk;rw[qC,bk,bY];by_cases h:t=u
 .rw[aC ⟨h,by omega⟩,aC h]
 .rw[ay λq=>h q.1,ay h,au,au,List.getElem?_append];split
  .rfl
  .rename_i q;rw[gQ,bD (by omega:l.length<=u)];split<;>rfl
theorem VS (l:η) (t:Nat) (n:Int):yk l t n≠[]:=λh=>by
 have:=Cj l t n;rw[h]at this;simp only[gr]at this;omega
def Oo (c:η) (e:ν):Bool:=decide (e.1<=c.getD e.2.toNat 0)
def lqQ (a c:η):Bool:= @decide (∀u:Nat,a.getD u 0<=c.getD u 0) (Classical.propDecidable _)
theorem ag7 {a c:η}:lqQ a c=J↔∀u:Nat,a.getD u 0<=c.getD u 0:=by unfold lqQ;exact @decide_eq_true_iff _ (Classical.propDecidable _)
theorem aad {w:WT} {l:Y ET} {a j:Nat}:Oo (vi w l j) (epN l a)=J↔M9 w l a j:=by unfold Oo epN M9;simp only[bL,cB]
def rdF (s:Sh) (c:η) (t:Nat):Sh×Bool:=
 (if s.2.2≠[] then (s.1,s.2.1,yk s.2.2 t (c.getD t 0)) else if s.2.1.1=0\/Oo c s.2.1=J then (s.1,(c.getD t 0,(t:Int)),[]) else (s.1,(0,0),yk (yk [] s.2.1.2.toNat s.2.1.1) t (c.getD t 0)),!Oo c s.1)
def wrF (s:Sh) (c:η) (t:Nat):Sh×Bool:=(((c.getD t 0,(t:Int)),(0,0),[]),!(Oo c s.1&&(Oo c s.2.1&&lqQ s.2.2 c)))
def Ta (l:Y ET) (o k:Nat):Bool:=Vj (dE l k)&&decide ((dE l k).ob=o)
theorem alp {l:Y ET} {o k:Nat}:Ta l o k=J↔((dE l k).k=3\/(dE l k).k=4)/\(dE l k).ob=o:=by unfold Ta Vj;rw[al,bL,bL]
def D5 (w:WT) (l:Y ET) (s:Sh) (j:Nat):Sh×Bool:=if (dE l j).k=3 then rdF s (vi w l j) (dE l j).th else wrF s (vi w l j) (dE l j).th
def KV (w:WT) (l:Y ET) (o:Nat):Nat->Sh
 |0=>((0,0),(0,0),[])
 |i+1=>if Ta l o i=J then (D5 w l (KV w l o i) i).1 else KV w l o i
def raF (w:WT) (l:Y ET) (o i:Nat):Bool:=Ta l o i&&(D5 w l (KV w l o i) i).2
def GZ (w:WT) (l:Y ET) (o:Nat):Nat->Int
 |0=> -1
 |i+1=>if raF w l o i=J/\GZ w l o i<0 then i else GZ w l o i
theorem aa8 (w:WT) (l:Y ET) (o:Nat):∀i:Nat,-1<=GZ w l o i/\GZ w l o i<i
 |0=>by rw[GZ];omega
 |i+1=>by have:=aa8 w l o i;rw[GZ];split<;>omega
theorem Jc {w:WT} {l:Y ET} {o k:Nat} (h:0<=GZ w l o k):∀m:Nat,GZ w l o (k+m)=GZ w l o k
 |0=>rfl
 |m+1=>by rw[show k+(m+1)=(k+m)+1 from rfl,GZ,Jc h m,ay λq=>by omega]
theorem ahs {w:WT} {l:Y ET} {o i n:Nat} (hi:i<n) (c:Ta l o i=J) (h:GZ w l o n<0\/(i:Int)<=GZ w l o n):(D5 w l (KV w l o i) i).2=decide ((i:Int)=GZ w l o n):=by
 have h0:=aa8 w l o i;have neg:GZ w l o i<0:=by
  by_cases q:0<=GZ w l o i
  .have:=Jc q (n-i);rw[show i+(n-i)=n by omega]at this;omega
  .omega
 have hr:raF w l o i=(D5 w l (KV w l o i) i).2:=by unfold raF;rw[c];rfl
 rw[<- hr];cases hq:raF w l o i with
 |true=>
  have h1:GZ w l o (i+1)=i:=by rw[GZ,aC ⟨hq,neg⟩]
  have:=Jc (w:=w) (l:=l) (o:=o) (k:=i+1) (by omega) (n-(i+1));rw[show i+1+(n-(i+1))=n by omega,h1]at this;rw[this];simp
 |false=>
  symm
  rw[decide_eq_false_iff_not];intro q;have key:∀m:Nat,i+1+m<=n->GZ w l o (i+1+m)≠(i:Int):=by
   intro m;induction m with
   |zero=>intro _;rw[cZ,GZ,ay λq=>by rw[hq]at q;exact ct q.1 (by decide)];omega
   |succ m a=>
    intro hm;have:=a (by omega);rw[show i+1+(m+1)=(i+1+m)+1 from rfl,GZ];split
    .omega
    .exact this
  have:=key (n-(i+1)) (by omega);rw[show i+1+(n-(i+1))=n by omega]at this;exact this q.symm
abbrev Y0 (l:Y ET) (o k:Nat):Prop:=(dE l k).k=4/\(dE l k).ob=o
abbrev ldO (l:Y ET) (o k:Nat):Prop:=(dE l k).k=3/\(dE l k).ob=o
def WV (l:Y ET) (o i k:Nat):Prop:=k<i/\ldO l o k/\∀a,k<a->a<i->¬Y0 l o a
structure FTe (w:WT) (l:List ET) (o i:Nat) (s:Sh):Prop where
 W:(s.1=(0,0)/\∀b,b<i->¬Y0 l o b)\/∃a,a<i/\Y0 l o a/\s.1=epN l a/\∀b,a<b->b<i->¬Y0 l o b
 R:s.2.2=[]->(s.2.1=(0,0)/\∀b,¬WV l o i b)\/∃r,WV l o i r/\s.2.1=epN l r/\∀b,WV l o i b->b=r\/b<r/\M9 w l b r
 Z:s.2.2≠[]->s.2.1=(0,0)
 V:s.2.2≠[]->∀u:Nat,s.2.2.getD u 0=0\/∃r,WV l o i r/\(dE l r).th=u/\s.2.2.getD u 0=(Dy l u r:Int)+1
 U:s.2.2≠[]->∀b,WV l o i b->∃r,WV l o i r/\s.2.2.getD (dE l r).th 0=(Dy l (dE l r).th r:Int)+1/\(b=r\/b<r/\M9 w l b r)
theorem ab4 {l:Y ET} {o i:Nat} (hs:¬Y0 l o i) {b:Nat}:WV l o (i+1) b↔WV l o i b\/b=i/\ldO l o i:=by
 constructor
 .rintro⟨h1,h2,c⟩;by_cases q:b=i
  .subst q;exact .inr ⟨rfl,h2⟩
  .exact .inl ⟨by omega,h2,λa x y=>c a x (by omega)⟩
 .rintro (⟨h1,h2,c⟩|⟨rfl,h⟩)
  .exact⟨by omega,h2,λa x y=>by
    by_cases q:a=i
    .subst q;exact hs
    .exact c a x (by omega)⟩
  .exact⟨by omega,h,λa x y=>by omega⟩
theorem ai9 {l:Y ET} {o i:Nat} (hs:Y0 l o i) (b:Nat):¬WV l o (i+1) b:=λ⟨h1,h2,a⟩=>by
 by_cases q:b=i
 .subst q;have:=hs.1;have:=h2.1;omega
 .exact a i (by omega) (by omega) hs
theorem FTe.zero (w:WT) (l:Y ET) (o:Nat):FTe w l o 0 ((0,0),(0,0),[]):=⟨.inl ⟨rfl,λb h=>by omega⟩,λ_=>.inl ⟨rfl,λb h=>by have:=h.1;omega⟩,λh=>ct rfl h,λh=>ct rfl h,λh=>ct rfl h⟩
theorem FTe.skip {w:WT} {l:Y ET} {o i:Nat} {s:Sh} (f:FTe w l o i s) (h:Ta l o i=af):FTe w l o (i+1) s:=by
 have h:¬Ta l o i=J:=by rw[h];decide
 rw[alp]at h;have c:¬Y0 l o i:=λq=>h ⟨.inr q.1,q.2⟩
 have z:¬ldO l o i:=λq=>h ⟨.inl q.1,q.2⟩
 have e:∀b,WV l o (i+1) b↔WV l o i b:=λb=>by rw[ab4 c];exact or_iff_left λq=>z q.2
 refine ⟨?_,?_,f.Z,?_,?_⟩
 .rcases f.W with ⟨h1,h2⟩|⟨a,h1,h2,L,A⟩
  .exact .inl ⟨h1,λb hb=>by
    by_cases q:b=i
    .subst q;exact c
    .exact h2 b (by omega)⟩
  .exact .inr ⟨a,by omega,h2,L,λb x y=>by
    by_cases q:b=i
    .subst q;exact c
    .exact A b x (by omega)⟩
 .simp only[e];exact f.R
 .simp only[e];exact f.V
 .simp only[e];exact f.U
theorem FTe.store {w:WT} {l:Y ET} (a:TR (w,l)) {o i:Nat} {s:Sh} (hi:i<l.length) (h:Y0 l o i):FTe w l o (i+1) (D5 w l s i).1:=by
 unfold D5 wrF;rw[ay (by have:=h.1;omega)];refine ⟨.inr ⟨i,by omega,h,?_,λb x y=>by omega⟩,λ_=>.inl ⟨rfl,λb=>ai9 h b⟩,λq=>ct rfl q,λq=>ct rfl q,λq=>ct rfl q⟩;dsimp only;rw[HE a hi];rfl
theorem FTe.load {w:WT} {l:Y ET} (z:TR (w,l)) {o i:Nat} {s:Sh} (f:FTe w l o i s) (hi:i<l.length) (h:ldO l o i):FTe w l o (i+1) (D5 w l s i).1:=by
 have n4:¬Y0 l o i:=λq=>by have:=h.1;have:=q.1;omega
 have e:∀b,WV l o (i+1) b↔WV l o i b\/b=i:=λb=>by rw[ab4 n4];exact or_congr_right ⟨λq=>q.1,λq=>⟨q,h⟩⟩
 have own:=HE z hi;have fW:(s.1=(0,0)/\∀b,b<i+1->¬Y0 l o b)\/∃a,a<i+1/\Y0 l o a/\s.1=epN l a/\∀b,a<b->b<i+1->¬Y0 l o b:=by
  rcases f.W with ⟨h1,h2⟩|⟨a,h1,h2,c,h4⟩
  .exact .inl ⟨h1,λb hb=>by
    by_cases q:b=i
    .subst q;exact n4
    .exact h2 b (by omega)⟩
  .exact .inr ⟨a,by omega,h2,c,λb x y=>by
    by_cases q:b=i
    .subst q;exact n4
    .exact h4 b x (by omega)⟩
 unfold D5 rdF;rw[aC h.1];by_cases hl:s.2.2≠[]
 .rw[aC hl];refine ⟨fW,λq=>ct q (VS _ _ _),λ_=>f.Z hl,λ_ u=>?_,λ_ b hb=>?_⟩
  .dsimp only;rw[yD];by_cases q:(dE l i).th=u
   .rw[aC q,own];exact .inr ⟨i,(e i).2 (.inr rfl),q,by rw[q]⟩
   .rw[ay q];rcases f.V hl u with h1|⟨r,h1,h2⟩
    .exact .inl h1
    .exact .inr ⟨r,(e r).2 (.inl h1),h2⟩
  .have new:∃r,WV l o (i+1) r/\(yk s.2.2 (dE l i).th ((vi w l i).getD (dE l i).th 0)).getD (dE l r).th 0=(Dy l (dE l r).th r:Int)+1/\r=i:=⟨i,(e i).2 (.inr rfl),by rw[yD,aC rfl,own],rfl⟩
   rcases (e b).1 hb with hb|rfl
   .obtain⟨r,h1,h2,c⟩:=f.U hl b hb;by_cases q:(dE l i).th=(dE l r).th
    .obtain⟨r',n1,n2,rfl⟩:=new;have hri:=h1.1;have c1:=M9.own z hri hi q.symm;refine ⟨r',n1,n2,.inr ?_⟩;rcases c with rfl|⟨c,h4⟩
     .exact⟨hri,c1⟩
     .exact⟨by omega,h4.trans z (by omega) (by omega) hi c1⟩
    .exact⟨r,(e r).2 (.inl h1),by dsimp only;rw[yD,ay q];exact h2,c⟩
   .obtain⟨r,n1,n2,n3⟩:=new;exact⟨r,n1,n2,.inl n3.symm⟩
 .rw[ay hl];have hl:s.2.2=[]:=Classical.not_not.1 hl;by_cases hc:s.2.1.1=0\/Oo (vi w l i) s.2.1=J
  .rw[aC hc];refine ⟨fW,λ_=>.inr ⟨i,(e i).2 (.inr rfl),by dsimp only;rw[own];rfl,λb hb=>?_⟩,λq=>ct rfl q,λq=>ct rfl q,λq=>ct rfl q⟩;rcases (e b).1 hb with hb|rfl
   .rcases f.R hl with ⟨_,h2⟩|⟨r,h1,h2,c⟩
    .exact ct hb (h2 b)
    .have hri:=h1.1;rw[h2]at hc;have cr:M9 w l r i:=by
      rcases hc with hc|hc
      .exfalso;unfold epN at hc;dsimp only at hc;omega
      .exact aad.1 hc
     rcases c b hb with rfl|⟨h4,h5⟩
     .exact .inr ⟨hri,cr⟩
     .exact .inr ⟨by omega,h5.trans z (by omega) (by omega) hi cr⟩
   .exact .inl rfl
  .rw[ay hc];have A:=not_or.1 hc;rcases f.R hl with ⟨h1,_⟩|⟨r,h1,h2,c⟩
   .exact ct (by rw[h1]) A.1
   .have hri:=h1.1;have nc:¬M9 w l r i:=λq=>A.2 (by rw[h2];exact aad.2 q)
    have nt:¬(dE l r).th=(dE l i).th:=λq=>nc (M9.own z hri hi q)
    have et:s.2.1.2.toNat=(dE l r).th:=by rw[h2];unfold epN;dsimp only;omega
    have ev:s.2.1.1=(Dy l (dE l r).th r:Int)+1:=by rw[h2];rfl
    have g:∀u,(yk (yk [] s.2.1.2.toNat s.2.1.1) (dE l i).th ((vi w l i).getD (dE l i).th 0)).getD u 0=if (dE l i).th=u then (Dy l (dE l i).th i:Int)+1 else if (dE l r).th=u then (Dy l (dE l r).th r:Int)+1 else 0:=λu=>by
     rw[yD,yD,own,et,ev];simp
    refine ⟨fW,λq=>ct q (VS _ _ _),λ_=>rfl,λ_ u=>?_,λ_ b hb=>?_⟩
    .dsimp only;rw[g];by_cases q:(dE l i).th=u
     .rw[aC q];exact .inr ⟨i,(e i).2 (.inr rfl),q,by rw[q]⟩
     .rw[ay q];by_cases L:(dE l r).th=u
      .rw[aC L];exact .inr ⟨r,(e r).2 (.inl h1),L,by rw[L]⟩
      .rw[ay L];exact .inl rfl
    .rcases (e b).1 hb with hb|rfl
     .exact⟨r,(e r).2 (.inl h1),by dsimp only;rw[g,ay λq=>nt q.symm,aC rfl],c b hb⟩
     .exact⟨b,(e b).2 (.inr rfl),by dsimp only;rw[g,aC rfl],.inl rfl⟩
abbrev W9:Ty:=(.st (.pr jw (.pr jw (.sl aL))))
abbrev Kg1:Ty:=(.st (.pr DN (.pr DN DN)))
abbrev Kg2:Ty:=(.pr aL (.pr aL .un))
abbrev Yj:=(ν×(ν)×η)
abbrev Yg1:=(η×(η)×(η)×(η)×η)
def xo (it:Ad) (x:η×η):I (Bool):=
 (it (Int) _ (λa=>(bA a (gL (aV x.1) (aV x.2)) (av (gG (x.1,a)) λq=>(av (gG (x.2,a)) λc=>(bA c q (aE af) (cR (cH a))))) (aE J))) 0)
def BA (x:η×η):I (Bool):=xo @iter x
def pu (x:η×η):I (Bool):=xo @gH x
def gW (x:Int):I (Bool):=
 (jn (jG 0 x (aE (fK x 4)) (aE af)) λa=>(M a))
def ku (x:Yj×(η)×Int):I (Yj×Bool):=
 (jn (α:=Bool×Yj×Int×Int×Int×Int) (av (gW x.2.2) λy2=>(aG (!y2) (aE (J,x.1,0,0,0,0)) (av (gW x.1.1.2) λZ=>(aG (!Z) (aE (J,x.1,0,0,0,0)) (av (gW x.1.2.1.2) λU=>(aE ((!U),x.1,0,0,0,0))))))) λa=>(aG a.1 (M (((0,0),(0,0),([]:η)),af)) (av (gG x.2) λq=>(bA 0 (aV a.2.1.2.2) (bH (cX 0 (gL (aV a.2.1.2.2) (cH x.2.2))&&cX (gL (aV a.2.1.2.2) (cH x.2.2)) (gL (aV a.2.1.2.2) (cH x.2.2))&&a_ (aP (gL (aV a.2.1.2.2) (cH x.2.2))) 8) (ck (fD x.2.2 (ai (MZ (aB (aP (gL (aV a.2.1.2.2) (cH x.2.2))) (0:Int)) a.2.1.2.2))) (av (fh (x.2.1,a.2.1.1)) λL=>(M ((a.2.1.1,a.2.1.2.1,(cF (MZ (aB (aP (gL (aV a.2.1.2.2) (cH x.2.2))) (0:Int)) a.2.1.2.2) x.2.2 q)),(!L)))))) (jn (bf a.2.1.2.1.1 0 (aE (J,a.2.1,a.2.2,a.2.1.1.1,a.2.1.1.2,a.2.1.2.1)) (av (fh (x.2.1,a.2.1.2.1)) λA=>(aE (A,a.2.1,a.2.2,a.2.1.1.1,a.2.1.1.2,a.2.1.2.1)))) λc=>(aG c.1 (av (fh (x.2.1,c.2.1.1)) λz=>(M (((c.p3,c.p4),(q,x.2.2),([]:η)),(!z)))) (bH (cX 0 (bl .i64 ((gL c.2.1.2.1.2 x.2.2)+1))&&cX (bl .i64 ((gL c.2.1.2.1.2 x.2.2)+1)) (bl .i64 ((gL c.2.1.2.1.2 x.2.2)+1))&&a_ (aP (bl .i64 ((gL c.2.1.2.1.2 x.2.2)+1))) 8) (ck (fD c.2.1.2.1.2 (ai (aB (aP (bl .i64 ((gL c.2.1.2.1.2 x.2.2)+1))) (0:Int)))) (ck (fD x.2.2 (ai (cF (aB (aP (bl .i64 ((gL c.2.1.2.1.2 x.2.2)+1))) (0:Int)) c.2.1.2.1.2 c.2.1.2.1.1))) (av (fh (x.2.1,c.2.1.1)) λs=>(M (((c.p3,c.p4),(0,0),(cF (cF (aB (aP (bl .i64 ((gL c.2.1.2.1.2 x.2.2)+1))) (0:Int)) c.2.1.2.1.2 c.2.1.2.1.1) x.2.2 q)),(!s)))))))))))))
def ju (x:Yj×(η)×Int):I (Yj×Bool):=
 (jn (α:=Bool×Yj×Int×Int×Int×Int) (av (gW x.2.2) λU=>(aG (!U) (aE (J,x.1,0,0,0,0)) (av (gW x.1.1.2) λL=>(aG (!L) (aE (J,x.1,0,0,0,0)) (av (gW x.1.2.1.2) λA=>(aE ((!A),x.1,0,0,0,0))))))) λa=>(aG a.1 (M (((0,0),(0,0),([]:η)),af)) (jn (av (fh (x.2.1,a.2.1.1)) λz=>(aG z (av (fh (x.2.1,a.2.1.2.1)) λs=>(aG s (av (pu (a.2.1.2.2,x.2.1)) λq=>(aE (q,a.2.2))) (aE (af,a.2.2)))) (aE (af,a.2.2)))) λZ=>(av (gG x.2) λc=>(M (((c,x.2.2),(0,0),([]:η)),(!Z.1)))))))
def oN (x:fZ×Y kJ):I (η×(Y Yj)×Int):=
 (av (nz x) λy1=>(jf y1.2 0 (M (([]:η),([]:Y Yj),y1.2)) (jn (α:=(fZ×Y kJ)×(η)×(η)×(η)×(η)×η) (iter (σ:=Int×(fZ×Y kJ)×(η)×(η)×(η)×(η)×η) (λs=>(bA s.1 (aV x.2) (jn (α:=(fZ×Y kJ)×(η)×(η)×(η)×(η)×η) (bO kh x.2 s.1 λz5=>(jn (bf z5.2.1 3 (aE (J,s.2.1,z5,s.2.2)) (aE ((decide ((z5.2.1:Int)=4)),s.2.1,z5,s.2.2))) λc=>(aG c.1 (bf c.p2.p2 0 (bH (a_ (ai c.p3+ai ([s.1])) 8) (aE (c.2.1,(c.p3++([s.1])),c.q4))) (bf c.p2.p2 1 (bH (a_ (ai c.p4+ai ([s.1])) 8) (aE (c.2.1,c.p3,(c.p4++([s.1])),c.q5))) (bf c.p2.p2 2 (bH (a_ (ai c.p5+ai ([s.1])) 8) (aE (c.2.1,c.p3,c.p4,(c.p5++([s.1])),c.q6))) (bf c.p2.p2 3 (bH (a_ (ai c.p6+ai ([s.1])) 8) (aE (c.2.1,c.p3,c.p4,c.p5,(c.p6++([s.1])),c.q7))) (bf c.p2.p2 4 (bH (a_ (ai c.q7+ai ([s.1])) 8) (aE (c.2.1,c.p3,c.p4,c.p5,c.p6,(c.q7++([s.1]))))) D))))) (aE (c.2.1,c.q3))))) λx4=>(cR ((cH s.1),x4))) (aE (bW s.2)))) (0,x,([]:η),([]:η),([]:η),([]:η),([]:η))) λA=>(bH (cX 0 (aV A.1.1.1)&&cX (aV A.1.1.1) (aV A.1.1.1)&&a_ (aP (aV A.1.1.1)) 8) (bH (cX 0 (aV A.1.1.1)&&cX (aV A.1.1.1) (aV A.1.1.1)&&a_ (aP (aV A.1.1.1)) 56) (iter (σ:=Int×(fZ×Y kJ)×Yg1×(η)×Y Yj) (λa=>(bA a.1 (aV A.1.1.1) (jn (α:=(fZ×Y kJ)×Yg1×(η)×Y Yj) (bO kN A.1.1.1 a.1 λz9=>(ck (fD a.1 (ai a.p3)) (aG z9.p3 (aE (a.2.1,a.p2,(cF a.p3 a.1 (-1)),a.q4)) (jn (α:=(η×Int×Int)×(fZ×Y kJ)×Yg1×(η)×Y Yj) (bf a.1 0 (aE ((a.p2.1,(aV a.p2.1),0),a.2.1,a.p2,(cF a.p3 a.1 (-1)),a.q4)) (bf a.1 1 (aE ((a.p2.2.1,(aV a.p2.2.1),0),a.2.1,a.p2,(cF a.p3 a.1 (-1)),a.q4)) (bf a.1 2 (aE ((a.p2.p2,(aV a.p2.p2),0),a.2.1,a.p2,(cF a.p3 a.1 (-1)),a.q4)) (bf a.1 3 (aE ((a.p2.p3,(aV a.p2.p3),0),a.2.1,a.p2,(cF a.p3 a.1 (-1)),a.q4)) (bf a.1 4 (aE ((a.p2.q4,(aV a.p2.q4),0),a.2.1,a.p2,(cF a.p3 a.1 (-1)),a.q4)) D))))) λZ=>(iter (σ:=Int×(fZ×Y kJ)×Yg1×(η)×Y Yj) (λq=>(bA q.1 Z.1.2.1 (jn (bO aL Z.1.1 q.1 λL=>(jn (bO kh q.2.1.2 L λz15=>(bf z15.2.1 3 (kW W9 q.q4 a.1 λz16=>(bO (.sl aL) y1.1 L λz17=>(av (ku (z16,z17,z15.1)) λy18=>(ck (fD a.1 (ai q.q4)) (aE (y18.2,q.2.1,q.p2,q.p3,(cF q.q4 a.1 y18.1))))))) (kW W9 q.q4 a.1 λz19=>(bO (.sl aL) y1.1 L λz20=>(av (ju (z19,z20,z15.1)) λy21=>(ck (fD a.1 (ai q.q4)) (aE (y21.2,q.2.1,q.p2,q.p3,(cF q.q4 a.1 y21.1))))))))) λU=>(jn (aG U.1 (kW aL U.p3 a.1 λz23=>(aE ((fK z23 0),U.2))) (aE (af,U.2))) λz=>(aG z.1 (ck (fD a.1 (ai z.p3)) (aE (z.2.1,z.p2,(cF z.p3 a.1 L),z.q4))) (aE z.2))))) λx12=>(cR ((cH q.1),x12))) (aE (bW q.2)))) (Z.1.2.2,Z.2)))))) λx8=>(cR ((cH a.1),x8))) (aE (a.p3,a.q4,0)))) (0,A.1,A.2,(aB (aP (aV A.1.1.1)) (0:Int)),(aB (aP (aV A.1.1.1)) (((0,0),((0,0),[])):ν×(ν)×η)))))))))
def qp (x:fZ×Y kJ):I hP:=
 (av (oN x) λa=>(M (a.1,a.2.2)))
def tm (x:Unit):I (Bool):=
 (av (ku (((0,0),(0,0),([]:η)),[0,3],1)) λc=>(av (ku (c.1,[2,0],0)) λa=>(av (ju (a.1,[3,2],0)) λz=>(av (ju (a.1,[3,3],0)) λs=>(jn (α:=Bool) (aG (!c.2) (aG (!a.2) (aG z.2 (aG (!s.2) (aG (Pk Kg2 (c.1.2.1.1,c.1.2.1.2,()) (3,1,()) !=af) (av (Ee (a.1.2.2,[2,3])) λq=>(aG q (aE (decide (((aV a.1.2.2):Int)=2))) (aE af))) (aE af)) (aE af)) (aE af)) (aE af)) (aE af)) λA=>(M A))))))
def kr (x:η×(η)×η):I (Bool):=
 (av (lh (x,40)) λA=>(av (qp A) λL=>(av (nz A) λy3=>(jn (jf L.2 0 (aE (J,A)) (jf y3.2 0 (aE (J,A)) (jf (aV L.1) (aV A.1.1) (aE (J,A)) (aE ((!decide (((aV y3.1):Int)=(aV A.2))),A))))) λq=>(aG q.1 (M af) (bH (cX 0 (aV q.2.1.1)&&cX (aV q.2.1.1) (aV q.2.1.1)&&a_ (aP (aV q.2.1.1)) 56) (iter (σ:=Int×(fZ×Y kJ)×Y Yj) (λc=>(bA c.1 (aV q.2.2) (jn (bO kh q.2.2 c.1 λz=>(jn (av (pH z) λy9=>(aG (!y9) (aE (J,c.2.1,c.2.2,z)) (bO kN c.2.1.1.1 z.p2 λz10=>(aG z10.2.2.2.1 (aE (J,c.2.1,c.2.2,z)) (bO aL L.1 z.p2 λz11=>(jG 0 z11 (bO aL L.1 z.p2 λz12=>(aE ((fK z12 c.1),c.2.1,c.2.2,z))) (aE (af,c.2.1,c.2.2,z)))))))) λa=>(aG a.1 (aE (a.2.1,a.p2)) (jn (bf a.p4 3 (kW W9 a.p2 a.p5 λz14=>(bO (.sl aL) y3.1 c.1 λz15=>(av (ku (z14,z15,a.p3)) λZ=>(ck (fD a.p5 (ai a.p2)) (aE (Z.2,a.2.1,(cF a.p2 a.p5 Z.1),a.q3)))))) (kW W9 a.p2 a.p5 λz17=>(bO (.sl aL) y3.1 c.1 λz18=>(av (ju (z17,z18,a.p3)) λU=>(ck (fD a.p5 (ai a.p2)) (aE (U.2,a.2.1,(cF a.p2 a.p5 U.1),a.q3))))))) λs=>(bO aL L.1 s.p5 λz20=>(aG ((s.1==(decide ((c.1:Int)=z20))) !=J) (cR (bW af)) (aE (s.2.1,s.p2)))))))) λx6=>(cR ((cH c.1),x6))) (av (av (tm ()) λy21=>(M y21)) λr=>M (bW r)))) (0,q.2,(aB (aP (aV q.2.1.1)) (((0,0),((0,0),[])):ν×(ν)×η))))))))))
theorem pE {n:Nat} (h:n<4):gW (n:Int)=M J:=by
 refine cG ?_;unfold gW jG aE;refine aU (λx=>x=J) ?_ λx a=>aj a
 exact fH (λ_=>aj (qw.2 (by omega))) λh=>ct h (by omega)
theorem Ae (c:η) (e:ν) (h:0<=e.2):fh (c,e)=M (Oo c e):=by
 obtain⟨a,b⟩:=e;obtain⟨u,rfl⟩:∃u:Nat,b=u:=⟨b.toNat,(fE h).symm⟩
 rw[Vy];unfold Oo;rw[cB]
theorem aiw (a c:η) (s:a.length<=1000) (hc:c.length<=1000):pu (a,c)=M (lqQ a c):=by
 refine cG ?_;unfold pu xo bA aV cR aE cH;refine jr (max a.length c.length) (by omega) (λi x=>x=(i:Int)/\∀v,v<i->a.getD v 0<=c.getD v 0) ?_ ?_ ⟨rfl,λv h=>by omega⟩
 .rintro i x hi ⟨rfl,h⟩;simp only[qu];refine dz (aS (xI a i) (aS (xI c i) (bK (λg=>aj ?_) λg=>aj ?_)))
  .show af=lqQ a c
   symm;rw[Ng];intro q
   have:=ag7.1 q i;omega
  .refine ⟨gU (by omega),λv hv=>?_⟩;by_cases e:v=i
   .subst e;exact g
   .exact h v (by omega)
 .rintro x ⟨rfl,h⟩;simp only[qu];refine dt (aj ?_);show J=lqQ a c
  symm;rw[ag7];intro v
  by_cases hv:v<max a.length c.length
  .exact h v hv
  .rw[au,au,bD (by omega),bD (by omega)];exact dj _
theorem aed (l:η) (t:Nat) (n:Int):cF (MZ (aB (max l.length (t+1)) (0:Int)) l) (t:Int) n=yk l t n:=by
 rw[J4 _ _ (by omega),dP];unfold yk;rw[show max l.length (t+1)-l.length=t+1-l.length by omega]
theorem acy (u t:Nat) (p n:Int):cF (cF (aB (max u t+1) (0:Int)) (u:Int) p) (t:Int) n=yk (yk [] u p) t n:=by
 have e:aB (max u t+1) (0:Int)=aB (u+1) 0++aB (t+1-(u+1)) 0:=by rw[List.replicate_append_replicate];congr 1;omega
 rw[dP,dP,e,List.set_append_left _ _ (by rw[bY];omega)];unfold yk;simp only[j8,gr,ia,bY,Nat.sub_zero]
structure So (s:Sh):Prop where
 a0:0<=s.1.2
 a1:s.1.2<4
 b0:0<=s.2.1.2
 b1:s.2.1.2<4
 len:s.2.2.length<=4
theorem So.zero:So ((0,0),(0,0),[]):=⟨by decide,by decide,by decide,by decide,iD _⟩
theorem akr {s:Sh} (h:So s) (c:η) {t:Nat} (ht:t<4):So (rdF s c t).1:=by
 obtain⟨h1,h2,q,a,z⟩:=h;unfold rdF;dsimp only;split
 .exact⟨h1,h2,q,a,by dsimp only;rw[Cj];omega⟩
 split
 .exact⟨h1,h2,by dsimp only;omega,by dsimp only;omega,iD _⟩
 .refine ⟨h1,h2,dj 0,(by decide:(0:Int)<4),?_⟩;dsimp only;rw[Cj,Cj,gr];omega
theorem akk (s:Sh) (c:η) {t:Nat} (ht:t<4):So (wrF s c t).1:=by
 unfold wrF;exact⟨by dsimp only;omega,by dsimp only;omega,dj 0,(by decide:(0:Int)<4),iD _⟩
theorem af2 {s:Sh} (h:So s) {c:η} (hc:c.length<=4) {t:Nat} (ht:t<4):ku (s,c,(t:Int))=M (rdF s c t):=by
 obtain⟨h1,h2,A,h4,Z⟩:=h;obtain⟨⟨a,b⟩,⟨p,q⟩,r⟩:=s;dsimp only at h1 h2 A h4 Z;obtain⟨u,rfl⟩:∃u:Nat,b=u:=⟨b.toNat,(fE h1).symm⟩
 obtain⟨v,rfl⟩:∃v:Nat,q=v:=⟨q.toNat,(fE A).symm⟩
 refine cG ?_;unfold ku bm bw ck bf bA bH aV aE cH;refine aU (λx=>x.1=af/\x.2.1=((a,(u:Int)),(p,(v:Int)),r)) ?_ ?_
 .exact aS (pE ht) (c7 (aS (pE (show u<4 by omega)) (c7 (aS (pE (show v<4 by omega)) (aj ⟨rfl,rfl⟩)))))
 rintro⟨b0,s',z⟩ ⟨e1,e2⟩;dsimp only at e1 e2;subst e1;subst e2;refine c7 (aS (xI c t) ?_);have L:fh (c,(a,(u:Int)))=M (Oo c (a,(u:Int))):=Ae _ _ h1;have cr:fh (c,(p,(v:Int)))=M (Oo c (p,(v:Int))):=Ae _ _ A;have m1:gL (aN r.length) (bl .i64 ((t:Int)+1))=((max r.length (t+1):Nat):Int):=by rw[gU (by omega)];exact qu _ _
 have m2:bl .i64 (gL (v:Int) (t:Int)+1)=((max v t+1:Nat):Int):=by rw[show gL (v:Int) (t:Int)=((max v t:Nat):Int) from qu v t];exact gU (by omega)
 refine bK (λg=>?_) λg=>?_
 .have g:r≠[]:=λq=>by subst q;exact ct g (Int.lt_irrefl 0)
  dsimp only;rw[m1];refine cV (cV (dx (by omega) (dx (by omega) (bc (by omega) (by omega) ?_))));have k:=aed r t (c.getD t 0);have U:(MZ (aB (max r.length (t+1)) (0:Int)) r).length=max r.length (t+1):=by rw[J4 _ _ (by omega),bk,bY];omega
  rw[cB];refine aO (by omega) (by rw[U];omega) (aO (by omega) (by rw[U];omega) (aS L (aj ?_)));rw[k];unfold rdF;dsimp only;rw[aC g]
 .have g:r=[]:=List.eq_nil_of_length_eq_zero (by dsimp only[ak]at g;omega);subst g;have rd:rdF ((a,(u:Int)),(p,(v:Int)),[]) c t=(if p=0\/Oo c (p,(v:Int))=J then ((a,(u:Int)),(c.getD t 0,(t:Int)),[]) else ((a,(u:Int)),(0,0),yk (yk [] v p) t (c.getD t 0)),!Oo c (a,(u:Int))):=by
   unfold rdF;dsimp only;rw[ay λq=>q rfl,cB]
  rw[rd];refine aU (λx=>x.1=(decide (p=0)||Oo c (p,(v:Int)))/\x.2.1=((a,(u:Int)),(p,(v:Int)),[])/\x.2.2.2=(a,(u:Int),(p,(v:Int)))) ?_ ?_
  .refine aK (λg=>aj ⟨?_,rfl,rfl⟩) λg=>aS cr (aj ⟨?_,rfl,rfl⟩)
   .have g:p=0:=g;dsimp only;rw[aR g];rfl
   .have g:¬p=0:=g;dsimp only;rw[bz g];rfl
  rintro⟨x1,x2,x3,x4⟩ ⟨e1,e2,e3⟩;dsimp only at e1 e2 e3;subst e1;subst e2;subst e3;refine aQ (λg=>?_) λg=>?_
  .have g:p=0\/Oo c (p,(v:Int))=J:=by simpa using g
   rw[aC g];exact aS L (aj rfl)
  .have g:¬(p=0\/Oo c (p,(v:Int))=J):=by
    have g:(decide (p=0)||Oo c (p,(v:Int)))=af:=g;rw[Bool.or_eq_false_iff,decide_eq_false_iff_not]at g;rintro (q|q)
    .exact g.1 q
    .rw[q]at g;exact ct g.2 (by decide)
   rw[ay g];dsimp only;rw[m2];refine cV (cV (dx (by omega) (dx (by omega) (bc (by omega) (by omega) ?_))));rw[cB];refine aO (by omega) (by rw[bY];omega) (aO (by omega) (by rw[bY];omega) ?_);refine aO (by omega) (by rw[bT,bY];omega) (aO (by omega) (by rw[bT,bY];omega) (aS L (aj ?_)));rw[acy]
theorem abb {s:Sh} (h:So s) {c:η} (hc:c.length<=4) {t:Nat} (ht:t<4):ju (s,c,(t:Int))=M (wrF s c t):=by
 obtain⟨h1,h2,L,Z,U⟩:=h;obtain⟨⟨a,b⟩,⟨p,q⟩,r⟩:=s;dsimp only at h1 h2 L Z U;obtain⟨u,rfl⟩:∃u:Nat,b=u:=⟨b.toNat,(fE h1).symm⟩
 obtain⟨v,rfl⟩:∃v:Nat,q=v:=⟨q.toNat,(fE L).symm⟩
 refine cG ?_;unfold ju aE;refine aU (λx=>x.1=af/\x.2.1=((a,(u:Int)),(p,(v:Int)),r)) ?_ ?_
 .exact aS (pE ht) (c7 (aS (pE (show u<4 by omega)) (c7 (aS (pE (show v<4 by omega)) (aj ⟨rfl,rfl⟩)))))
 rintro⟨b0,s',z⟩ ⟨e1,e2⟩;dsimp only at e1 e2;subst e1;subst e2;refine c7 (aU (λx=>x.1=(Oo c (a,(u:Int))&&(Oo c (p,(v:Int))&&lqQ r c))) ?_ ?_)
 .refine aS (Ae _ _ h1) (aQ (λg=>?_) λg=>aj ?_)
  .refine aS (Ae _ _ L) (aQ (λA=>?_) λA=>aj ?_)
   .refine aS (aiw r c (by omega) (by omega)) (aj ?_);dsimp only at g A ⊢;rw[g,A];rfl
   .dsimp only at g A ⊢;rw[g,A];rfl
  .dsimp only at g ⊢;rw[g];rfl
 .rintro⟨x1,z2⟩ e;dsimp only at e;subst e;exact aS (xI c t) (aj rfl)
def Ac (l:Y ET) (o:Nat):Nat->η
 |0=>[]
 |n+1=>if Ta l o n=J then Ac l o n++[(n:Int)] else Ac l o n
theorem O5 (l:Y ET) (o:Nat):∀n,(Ac l o n).length<=n
 |0=>bU _
 |n+1=>by
  have:=O5 l o n;rw[Ac];split
  .rw[bk,eP];omega
  .omega
theorem HK {l:Y ET} {o:Nat} {z:Int}:∀n,z∈Ac l o n->∃j:Nat,z=j/\j<n/\Ta l o j=J
 |0,h=>by cases h
 |n+1,h=>by
  rw[Ac]at h;split at h
  .rename_i q;rcases bQ.1 h with h|h
   .obtain⟨j,h1,h2,a⟩:=HK n h;exact⟨j,h1,by omega,a⟩
   .rw[aJ]at h;exact⟨n,h,by omega,q⟩
  .obtain⟨j,h1,h2,a⟩:=HK n h;exact⟨j,h1,by omega,a⟩
abbrev Ni:Sh:=((0,0),(0,0),[])
def stS (w:WT) (l:Y ET) (x:Sh×Int) (z:Int):Sh×Int:=((D5 w l x.1 z.toNat).1,if (D5 w l x.1 z.toNat).2=J/\x.2<0 then z else x.2)
theorem QZ (w:WT) (l:Y ET) (o:Nat):∀n,(Ac l o n).foldl (stS w l) (Ni,-1)=(KV w l o n,GZ w l o n)
 |0=>rfl
 |n+1=>by
  rw[Ac,KV,GZ];have a:=QZ w l o n;unfold raF;by_cases q:Ta l o n=J
  .rw[aC q,aC q,eC,a,q,jD];unfold stS;dsimp only[List.foldl];rw[cB]
  .rw[ay q,ay q,a,ay];rintro⟨h,_⟩;rw[al]at h;exact q h.1
theorem afx {w:WT} {l:Y ET} {s:Sh} {j:Nat} (h:So s) (ht:(dE l j).th<4):So (D5 w l s j).1:=by
 unfold D5;split
 .exact akr h _ ht
 .exact akk _ _ ht
theorem aa6 {w:WT} {l:Y ET} (ht:∀j,j<l.length->(dE l j).th<4):∀(y:η) (x:Sh×Int),(∀z∈y,∃j:Nat,z=j/\j<l.length)->So x.1->So (y.foldl (stS w l) x).1
 |[],_,_,h=>h
 |z::y,x,a,h=>by
  obtain⟨j,rfl,hj⟩:=a z (c4 ..);exact aa6 ht y _ (λz q=>a z (cE _ q)) (afx h (ht j hj))
theorem Zj {w:WT} {l:Y ET} (ht:∀j,j<l.length->(dE l j).th<4) (o:Nat):∀n,n<=l.length->So (KV w l o n)
 |0,_=>So.zero
 |n+1,h=>by
  rw[KV];split
  .exact afx (Zj ht o n (by omega)) (ht n (by omega))
  .exact Zj ht o n (by omega)
theorem Nn {w:WT} {l:Y ET} (a:TR (w,l)) (j:Nat) (h:j<l.length):(dE l j).th<4:=(Jf a h).th4
theorem Zf {w:WT} {l:Y ET} (a:TR (w,l)) {j:Nat} (h:j<l.length) {s:Sh} (hs:So s) (hk:(dE l j).k=3):ku (s,vi w l j,(eN l j).1)=M (D5 w l s j):=by
 rw[(FF a h).th,af2 hs (aan a h).1 (Nn a j h)];unfold D5;rw[aC hk]
theorem Ze {w:WT} {l:Y ET} (a:TR (w,l)) {j:Nat} (h:j<l.length) {s:Sh} (hs:So s) (hk:¬(dE l j).k=3):ju (s,vi w l j,(eN l j).1)=M (D5 w l s j):=by
 rw[(FF a h).th,abb hs (aan a h).1 (Nn a j h)];unfold D5;rw[ay hk]
theorem NL {w:WT} {l:Y ET} (a:TR (w,l)) {j:Nat} (h:j<l.length):(eN l j).2.1=3↔(dE l j).k=3:=by rw[(FF a h).k];omega
theorem ag4 {w:WT} {l:Y ET} (a:TR (w,l)) {j:Nat} (h:j<l.length) (q:Vj (dE l j)=J):(eN l j).2.2.1=((dE l j).ob:Int)/\(dE l j).ob<5:=by
 refine ⟨aic a h q,?_⟩;have:=((Jf a h).ce (be q)).2;rw[a.wx.c]at this;exact this
theorem ab6 {e:EV} {z:Int} (a:z=(e.k:Int)):Vj e=(decide (z=3)||decide (z=4)):=by
 subst a;unfold Vj;rw[Bool.eq_iff_iff];simp;omega
abbrev O4 (l:Y ET) (n:Nat):η×η×η×η×η:=(Ac l 0 n,Ac l 1 n,Ac l 2 n,Ac l 3 n,Ac l 4 n)
theorem acr {α:Type} {n:Nat} {f:Nat->α} {z:α} {i:Nat} (h:f i=z):tA n f z (i+1)=tA n f z i:=by
 unfold tA;refine mm λk _=>?_
 by_cases e:k=i
 .subst e;rw[aC (by omega),ay (by omega),h]
 .by_cases g:k<i
  .rw[aC g,aC (by omega)]
  .rw[ay g,ay (by omega)]
theorem acq {α:Type} {n:Nat} {f:Nat->α} {z:α} {i:Nat} (h:i<n):(tA n f z i).set i z=tA n f z i:=by
 apply dg
 .simp
 intro k h1 h2;rw[qO];split
 .rename_i e;subst e;simp only[tA,mO,kK,wR,dT]
 .rfl
def DX (w:WT) (l:Y ET) (k:Nat):Int:=if yw w.1 k=J then -1 else GZ w l k l.length
def Vr (w:WT) (l:Y ET) (k:Nat):Sh:=if yw w.1 k=J then Ni else KV w l k l.length
theorem XP {w:WT} {l:Y ET} (A:TR (w,l)):oN (w,l)=M ((dR 5).map (DX w l),(dR 5).map (Vr w l),0):=by
 have hl:=A.len;dsimp only at hl;have hw:w.1.length=5:=by rw[A.wx.c];rfl
 have L:aN w.1.length=5:=by rw[hw];rfl
 refine cG ?_;unfold oN aX bm bw cC eB bN du cW fw lJ ck bf bA jf bH bO kW aV cR aE cH;refine aS (Na A) (c7 (aU (λx=>x=((w,l),O4 l l.length)) ?_ ?_))
 .refine cf l.length (λi x=>x=((i:Int),(w,l),O4 l i)) ?_ ?_ rfl
  .rintro i x hi rfl;refine dz (aU (λx=>x=((w,l),O4 l (i+1))) (cI (aT ?_)) ?_)
   .refine aU (λx=>x=(Vj (dE l i),(w,l),eN l i,O4 l i)) ?_ ?_
    .refine aK (λg=>aj ?_) λg=>aj ?_
     .have g:(eN l i).2.1=3:=g;dsimp only;rw[ab6 (FF A hi).k,aR g];rfl
     .have g:¬(eN l i).2.1=3:=g;dsimp only;rw[ab6 (FF A hi).k,bz g,Bool.false_or]
    rintro x rfl;refine aQ (λg=>?_) λg=>?_
    .obtain⟨h1,h2⟩:=ag4 A hi g;have e:∀k,Ac l k (i+1)=if (dE l i).ob=k then Ac l k i++[(i:Int)] else Ac l k i:=λk=>by
      rw[Ac,Ta];dsimp only at g;rw[g,jD];simp only[bL]
     have hk:∀k,(Ac l k i).length<=400:=λk=>by have:=O5 l k i;omega
     dsimp only;rw[h1];have Z:(dE l i).ob=0\/(dE l i).ob=1\/(dE l i).ob=2\/(dE l i).ob=3\/(dE l i).ob=4:=by omega
     have r:∀k,(Ac l k i).length+[(i:Int)].length<=1000:=λk=>by have:=hk k;rw[eP];omega
     rcases Z with o|o|o|o|o
     .rw[o];exact qT (bc (by have:=r 0;omega) (by omega) (aj (by rw[O4,e,e,e,e,e,o];rfl)))
     .rw[o];exact c7 (qT (bc (by have:=r 1;omega) (by omega) (aj (by rw[O4,e,e,e,e,e,o];rfl))))
     .rw[o];exact c7 (c7 (qT (bc (by have:=r 2;omega) (by omega) (aj (by rw[O4,e,e,e,e,e,o];rfl)))))
     .rw[o];exact c7 (c7 (c7 (qT (bc (by have:=r 3;omega) (by omega) (aj (by rw[O4,e,e,e,e,e,o];rfl))))))
     .rw[o];exact c7 (c7 (c7 (c7 (qT (bc (by have:=r 4;omega) (by omega) (aj (by rw[O4,e,e,e,e,e,o];rfl)))))))
    .have e:∀k,Ac l k (i+1)=Ac l k i:=λk=>by
      rw[Ac,Ta];dsimp only at g;rw[g,lA];rfl
     refine aj ?_;show ((w,l),O4 l i)=((w,l),O4 l (i+1))
     unfold O4;rw[e,e,e,e,e]
   .rintro x rfl;refine aj ?_;dsimp only;rw[gU (by omega)]
  .rintro x rfl;exact dt (aj rfl)
 rintro x rfl;dsimp only;refine cV (cV (dx (by rw[L];omega) (dx (dj _) (bc (by rw[L];decide) (by omega) ?_))));refine cV (cV (dx (by rw[L];omega) (dx (dj _) (bc (by rw[L];decide) (by omega) ?_))));refine cf 5 (λi x=>x=((i:Int),(w,l),O4 l l.length,tA 5 (DX w l) 0 i,tA 5 (Vr w l) Ni i)) ?_ ?_ ?_
 .rintro i x hi rfl;refine dz ?_ (by dsimp only[ak];omega);refine aU (λx=>x=((w,l),O4 l l.length,tA 5 (DX w l) 0 (i+1),tA 5 (Vr w l) Ni (i+1))) (cI (aT ?_)) ?_
  .refine aO (by dsimp only;omega) (by dsimp only;rw[yA];omega) (aO (by dsimp only;omega) (by dsimp only;rw[yA];omega) ?_);have ev:(aI (T:=L6) w.1 (i:Int)).2.2.2.1=yw w.1 i:=by rw[Od];rfl
   refine aQ (λg=>?_) λg=>?_
   .have g:yw w.1 i=J:=by rw[<- ev];exact g
    have f1:DX w l i= -1:=by unfold DX;rw[aC g]
    have s1:Vr w l i=Ni:=by unfold Vr;rw[aC g]
    refine aj ?_;dsimp only;rw[dP,<-f1,Np (by omega),acr s1]
   .have g:¬yw w.1 i=J:=by rw[<- ev];rw[show (aI (T:=L6) w.1 (i:Int)).2.2.2.1=af from g];decide
    have f1:DX w l i=GZ w l i l.length:=by unfold DX;rw[ay g]
    have s1:Vr w l i=KV w l i l.length:=by unfold Vr;rw[ay g]
    refine aU (λx=>x=((Ac l i l.length,aN (Ac l i l.length).length,0),(w,l),O4 l l.length,(tA 5 (DX w l) 0 i).set i (-1),tA 5 (Vr w l) Ni i)) ?_ ?_
    .dsimp only;rw[dP];have Z:i=0\/i=1\/i=2\/i=3\/i=4:=by omega
     rcases Z with o|o|o|o|o
     .subst o;exact qT (aj rfl)
     .subst o;exact c7 (qT (aj rfl))
     .subst o;exact c7 (c7 (qT (aj rfl)))
     .subst o;exact c7 (c7 (c7 (qT (aj rfl))))
     .subst o;exact c7 (c7 (c7 (c7 (qT (aj rfl)))))
    rintro x rfl;have hal:=O5 l i l.length;have TO:∀z∈Ac l i l.length,∃j:Nat,z=j/\j<l.length:=λz U=>by obtain⟨j,a,b,_⟩:=HK _ U;exact⟨j,a,b⟩
    refine cf (Ac l i l.length).length (λp x=>x=((p:Int),(w,l),O4 l l.length,(tA 5 (DX w l) 0 i).set i (((Ac l i l.length).take p).foldl (stS w l) (Ni,-1)).2,(tA 5 (Vr w l) Ni i).set i (((Ac l i l.length).take p).foldl (stS w l) (Ni,-1)).1)) ?_ ?_ ?_
    .rintro p x hp rfl;obtain⟨z,U⟩:∃z,(Ac l i l.length)[p]? =M z:=⟨_,ax hp⟩
     obtain⟨j,rfl,hj,haj⟩:=HK _ (aZ U);have tk:(Ac l i l.length).take (p+1)=(Ac l i l.length).take p++[(j:Int)]:=by rw[List.take_add_one,U];rfl
     have gz:aI (T:=.int .i64) (Ac l i l.length) (p:Int)=(j:Int):=by
      unfold aI;rw[cB,au,U];rfl
     have fB:So (((Ac l i l.length).take p).foldl (stS w l) (Ni,-1)).1:=aa6 (Nn A) _ _ (λz q=>TO z (hY q)) So.zero;rw[tk,eC];generalize ((Ac l i l.length).take p).foldl (stS w l) (Ni,-1)=f at fB ⊢;obtain⟨fs,fi⟩:=f;dsimp only at fB;have fS:List.foldl (stS w l) (fs,fi) [(j:Int)]=((D5 w l fs j).1,if (D5 w l fs j).2=J/\fi<0 then (j:Int) else fi):=by dsimp only[List.foldl];unfold stS;dsimp only;rw[cB]
     rw[fS];have sg:aI (T:=.st (.pr (.st (.pr (.int .i64) (.int .i64))) (.pr (.st (.pr (.int .i64) (.int .i64))) (.sl (.int .i64))))) ((tA 5 (Vr w l) Ni i).set i fs) (i:Int)=fs:=by
      unfold aI;rw[cB,au,List.getElem?_set_self (by rw[yA];omega)];rfl
     have fg:aI (T:=.int .i64) ((tA 5 (DX w l) 0 i).set i fi) (i:Int)=fi:=by
      unfold aI;rw[cB,au,List.getElem?_set_self (by rw[yA];omega)];rfl
     refine dz ?_;refine aU (λx=>x=((w,l),O4 l l.length,(tA 5 (DX w l) 0 i).set i (if (D5 w l fs j).2=J/\fi<0 then (j:Int) else fi),(tA 5 (Vr w l) Ni i).set i (D5 w l fs j).1)) (cI (aT ?_)) ?_
     .rw[gz];refine aU (λx=>x=((D5 w l fs j).2,(w,l),O4 l l.length,(tA 5 (DX w l) 0 i).set i fi,(tA 5 (Vr w l) Ni i).set i (D5 w l fs j).1)) (cI (aT ?_)) ?_
      .have ls:((tA 5 (Vr w l) Ni i).set i fs).length=5:=by rw[ia,yA]
       have s:((i:Nat):Int)<(((tA 5 (Vr w l) Ni i).set i fs).length:Int):=by rw[ls];omega
       refine aK (λg=>?_) λg=>?_
       .have g:(dE l j).k=3:=(NL A hj).1 g;refine aO (by omega) s (aO (by omega) s (aT ?_));refine aO (by omega) (by rw[bx,dc];omega) (aT ?_);dsimp only;rw[sg,Dv hj];refine aS (Zf A hj fB g) (aO (by omega) s (aO (by omega) s (aj ?_)));dsimp only;rw[dP,List.set_set]
       .have g:¬(dE l j).k=3:=λq=>g ((NL A hj).2 q)
        refine aO (by omega) s (aO (by omega) s (aT ?_));refine aO (by omega) (by rw[bx,dc];omega) (aT ?_);dsimp only;rw[sg,Dv hj];refine aS (Ze A hj fB g) (aO (by omega) s (aO (by omega) s (aj ?_)));dsimp only;rw[dP,List.set_set]
      rintro x rfl;have lf:((tA 5 (DX w l) 0 i).set i fi).length=5:=by rw[ia,yA]
      have s:((i:Nat):Int)<(((tA 5 (DX w l) 0 i).set i fi).length:Int):=by rw[lf];omega
      refine aU (λx=>x=(decide ((D5 w l fs j).2=J/\fi<0),(w,l),O4 l l.length,(tA 5 (DX w l) 0 i).set i fi,(tA 5 (Vr w l) Ni i).set i (D5 w l fs j).1)) ?_ ?_
      .refine aQ (λg=>?_) λg=>aj ?_
       .refine aO (by dsimp only;omega) s (aO (by dsimp only;omega) s (aT (aj ?_)));dsimp only at g ⊢;rw[fg,g];unfold fK;simp
       .dsimp only at g ⊢;rw[g];simp
      rintro x rfl;refine aQ (λg=>?_) λg=>aj ?_
      .refine aO (by dsimp only;omega) s (aO (by dsimp only;omega) s (aj ?_));dsimp only;rw[dP,List.set_set,aC (be g)]
      .dsimp only;rw[ay (Bk g)]
     rintro x rfl;refine aj ?_;dsimp only;rw[gU (by omega)]
    .rintro x rfl;rw[cO,QZ];refine dt (aj ?_);dsimp only;rw[<- f1,<-s1,Np (by omega),Np (by omega)]
    .dsimp only[dI,List.foldl];rw[acq (by omega)];rfl
  .rintro x rfl;refine aj ?_;dsimp only;rw[gU (by omega)]
 .rintro x rfl;refine dt (aj ?_) (by dsimp only[ak];omega);dsimp only;rw[Tj,Tj]
 .rw[No,No,L];rfl
theorem abz {w:WT} {l:Y ET} (a:TR (w,l)):qp (w,l)=M ((dR 5).map (DX w l),0):=by
 refine cG ?_;unfold qp;exact aS (XP a) (aj rfl)
abbrev tShT:Ty:=.st (.pr (.st (.pr (.int .i64) (.int .i64))) (.pr (.st (.pr (.int .i64) (.int .i64))) (.sl (.int .i64))))
theorem XM {f:Nat->Int} {k:Nat} (h:k<5):aI (T:=.int .i64) ((dR 5).map f) (k:Int)=f k:=by
 unfold aI;rw[cB,au,ba,Gv h];rfl
theorem ai0 {w:WT} {l:Y ET} (a:TR (w,l)):w.1.length=5:=by rw[a.wx.c];rfl
theorem aeq {l:Y ET} {i k:Nat} (h:Vj (dE l i)=af\/¬(dE l i).ob=k):Ta l k i=af:=by
 unfold Ta;rcases h with h|h
 .rw[h];rfl
 .rw[bz h,KI]
theorem VR {w:WT} {l:Y ET} {i k:Nat} (h:Vj (dE l i)=af\/¬(dE l i).ob=k):KV w l k (i+1)=KV w l k i:=by rw[KV,aeq h];rfl
def QvI (w:WT) (l:Y ET) (i:Nat) (s:Y Sh):Prop:=s.length=5/\∀k,k<5->¬yw w.1 k=J->(DX w l k<0\/(i:Int)<=DX w l k)->s.getD k Ni=KV w l k i
theorem QvI.skip {w:WT} {l:Y ET} {i:Nat} {s:Y Sh} (h:QvI w l i s) (hs:∀k,k<5->¬yw w.1 k=J->(DX w l k<0\/((i+1:Nat):Int)<=DX w l k)->Vj (dE l i)=af\/¬(dE l i).ob=k):QvI w l (i+1) s:=
 ⟨h.1,λk a b c=>by rw[VR (hs k a b c)];exact h.2 k a b (by omega)⟩
theorem QvI.put {w:WT} {l:Y ET} {i:Nat} {s:Y Sh} (h:QvI w l i s) {k:Nat} (hk:k<5) (A:(dE l i).ob=k) (L:Vj (dE l i)=J):QvI w l (i+1) (s.set k (D5 w l (KV w l k i) i).1):=by
 refine ⟨by rw[ia];exact h.1,λq a b c=>?_⟩;rw[au,jW];have z:k<s.length:=by rw[h.1];exact hk
 by_cases e:k=q
 .subst e;rw[aC rfl,aC z];rw[KV,Ta,L,A,aR rfl];rfl
 .rw[ay e,<-au,VR (.inr (by omega))];exact h.2 q a b (by omega)
theorem aep:tm ()=M J:=by kernel_rfl
theorem Ff (a b c:η) (ha:a.length<=9223372036854775807) (hx:∀z∈a,0<=z/\z<=255) (hc:c.length<=9223372036854775807) (hy:∀z∈c,0<=z/\z<=255):Ok (kr (a,b,c)) λy=>y=J:=by
 unfold kr aX bm bw cC bN ck bf bA jG jf bH bO kW aV cR aE cH;refine aw (P:=TR) (O7 a b c 40 (by omega) (by omega) ha hx hc hy) ?_;rintro⟨w,l⟩ A;have hl:=A.len;dsimp only at hl;have Z:=ai0 A;have L:aN w.1.length=5:=by rw[Z];rfl
 refine aS (abz A) (aS (Na A) (aU (λx=>x=(af,(w,l))) ?_ ?_))
 .refine c7 (c7 (b9 (λq=>ct ?_ q) λ_=>aj ?_))
  .dsimp only;rw[L,bx,dc];rfl
  .dsimp only;rw[bx,dc];simp
 rintro x rfl;refine c7 ?_;dsimp only;refine cV (cV (dx (by rw[L];omega) (dx (dj _) (bc (by rw[L];decide) (by omega) ?_))));refine cf l.length (λi x=>x.1=(i:Int)/\x.2.1=(w,l)/\QvI w l i x.2.2) ?_ ?_ ?_
 .rintro i ⟨x1,x2,s⟩ hi ⟨e1,e2,hq⟩;dsimp only at e1 e2 hq;subst e1;subst e2;refine dz (aU (λx=>x.1=(w,l)/\QvI w l (i+1) x.2) (cI (aT ?_)) ?_)
  .by_cases g:Vj (dE l i)=J
   .obtain⟨h1,h2⟩:=ag4 A hi g;have ev:(aI (T:=L6) w.1 ((dE l i).ob:Int)).2.2.2.1=yw w.1 (dE l i).ob:=by rw[Od];rfl
    have ge:aI (T:=.int .i64) ((dR 5).map (DX w l)) ((dE l i).ob:Int)=DX w l (dE l i).ob:=XM h2;by_cases v:yw w.1 (dE l i).ob=J
    .refine aU (λx=>x.1=J/\x.2.1=(w,l)/\x.2.2.1=s) ?_ ?_
     .refine aS (DQ A hi) ?_;rw[g];refine c7 ?_;dsimp only;rw[h1];refine aO (by omega) (by rw[Z];omega) (aT ?_);rw[ev,v];exact qT (aj ⟨rfl,rfl,rfl⟩)
     rintro⟨y1,y2,y3,y4⟩ ⟨e1,e2,e3⟩;dsimp only at e1 e2 e3;subst e1;subst e2;subst e3;exact qT (aj ⟨rfl,hq.skip λk a b c=>.inr λq=>b (by rw[<- q];exact v)⟩)
    have fX:DX w l (dE l i).ob=GZ w l (dE l i).ob l.length:=by unfold DX;rw[ay v]
    by_cases f:0<=DX w l (dE l i).ob/\DX w l (dE l i).ob<(i:Int)
    .refine aU (λx=>x.1=J/\x.2.1=(w,l)/\x.2.2.1=s) ?_ ?_
     .refine aS (DQ A hi) ?_;rw[g];refine c7 ?_;dsimp only;rw[h1];refine aO (by omega) (by rw[Z];omega) (aT ?_);rw[ev];refine fA (by simpa using v) ?_;refine aO (by omega) (by rw[bx,dc];omega) (aT ?_);rw[ge];refine fH (λ_=>?_) λq=>ct q (by omega)
      refine aO (by omega) (by rw[bx,dc];omega) (aT (aj ⟨?_,rfl,rfl⟩));exact qw.2 f.2
     rintro⟨y1,y2,y3,y4⟩ ⟨e1,e2,e3⟩;dsimp only at e1 e2 e3;subst e1;subst e2;subst e3;refine qT (aj ⟨rfl,hq.skip λk a b c=>.inr λq=>?_⟩);rw[q]at f;omega
    have f':DX w l (dE l i).ob<0\/(i:Int)<=DX w l (dE l i).ob:=by omega
    refine aU (λx=>x=(af,(w,l),s,eN l i)) ?_ ?_
    .refine aS (DQ A hi) ?_;rw[g];refine c7 ?_;dsimp only;rw[h1];refine aO (by omega) (by rw[Z];omega) (aT ?_);rw[ev];refine fA (by simpa using v) ?_;refine aO (by omega) (by rw[bx,dc];omega) (aT ?_);rw[ge];refine fH (λq=>?_) λq=>aj rfl
     refine aO (by omega) (by rw[bx,dc];omega) (aT (aj ?_));rw[fY.2 (by omega)]
    rintro x rfl;refine c7 ?_;have sh:s.getD (dE l i).ob Ni=KV w l (dE l i).ob i:=hq.2 _ h2 v f';have sg:aI (T:=tShT) s ((dE l i).ob:Int)=KV w l (dE l i).ob i:=by unfold aI;rw[cB];exact sh
    have fB:=Zj (w:=w) (Nn A) (dE l i).ob i (by omega);have is:=ahs (w:=w) (l:=l) (o:=(dE l i).ob) (i:=i) (n:=l.length) hi (by unfold Ta;rw[g,aR rfl];rfl) (by rw[<- fX];exact f');have U:(((dE l i).ob:Nat):Int)<(s.length:Int):=by rw[hq.1];omega
    refine aU (λx=>x=((D5 w l (KV w l (dE l i).ob i) i).2,(w,l),s.set (dE l i).ob (D5 w l (KV w l (dE l i).ob i) i).1,eN l i)) ?_ ?_
    .dsimp only;rw[h1];refine aK (λk=>?_) λk=>?_
     .have k:(dE l i).k=3:=(NL A hi).1 k;refine aO (by omega) U (aO (by omega) U (aT (aO (by omega) (by rw[bx,dc];omega) (aT ?_))));rw[sg,Dv hi];refine aS (Zf A hi fB k) (aO (by omega) U (aO (by omega) U (aj ?_)));rw[dP]
     .have k:¬(dE l i).k=3:=λq=>k ((NL A hi).2 q)
      refine aO (by omega) U (aO (by omega) U (aT (aO (by omega) (by rw[bx,dc];omega) (aT ?_))));rw[sg,Dv hi];refine aS (Ze A hi fB k) (aO (by omega) U (aO (by omega) U (aj ?_)));rw[dP]
    rintro x rfl;dsimp only;rw[h1];refine aO (by omega) (by rw[bx,dc];omega) (aT ?_);rw[ge,is,fX];refine fA ?_ (aj ⟨rfl,hq.put h2 rfl g⟩);simp
   .have g:Vj (dE l i)=af:=by simpa using g
    refine aU (λx=>x.1=J/\x.2.1=(w,l)/\x.2.2.1=s) ?_ ?_
    .refine aS (DQ A hi) ?_;rw[g];exact qT (aj ⟨rfl,rfl,rfl⟩)
    rintro⟨y1,y2,y3,y4⟩ ⟨e1,e2,e3⟩;dsimp only at e1 e2 e3;subst e1;subst e2;subst e3;exact qT (aj ⟨rfl,hq.skip λk a b c=>.inl g⟩)
  .rintro⟨y1,y2⟩ ⟨e1,e2⟩;dsimp only at e1 e2;subst e1;exact aj ⟨gU (by omega),rfl,e2⟩
 .rintro⟨x1,x2,s⟩ ⟨e1,e2,hq⟩;dsimp only at e1 e2;subst e1;subst e2;exact dt (aS (x:=J) (cG (aS aep (aj rfl))) (aj rfl))
 .refine ⟨rfl,rfl,?_⟩;dsimp only;rw[L];refine ⟨by simp,λk a b c=>?_⟩;rw[au,gQ];split<;>rfl
theorem EpochQuiet_law (x:η×η×η) (w:VD (.st (.pr (.sl (.int .u8)) (.pr (.sl (.int .u8)) (.sl (.int .u8))))) x):kr x=M J:=by
 obtain⟨a,b,c⟩:=x;obtain⟨⟨l0,w0⟩,_,⟨l2,s⟩⟩:=w;obtain⟨y,h,rfl⟩:=Ff a b c l0 (λz q=>WL (w0 z q)) l2 (λz q=>WL (s z q));exact h
def inert (f:FuncId):Bool:=aA f 63
theorem Qf:∃a,Tryz.prog.underlying 20=M (.interface a):=⟨#[],by kernel_rfl⟩
theorem ZV (w:World):(Op.equal 20 .nilIface .nilIface).run Tryz.prog w= .ok J w:=by
 obtain⟨a,hu⟩:=Qf;have key:∀d,(Op.equalIn (d+1) 20 .nilIface .nilIface).run Tryz.prog w= .ok J w:=λd=>by simp[Op.equalIn,run_underlying hu]
 exact key 9999
theorem Zy {P:Program} {ops:Array Oper} {Q:Exit->Act->Y Frame->World->Prop} {i:Nat} {rest:ι} {a:Act} {cs:Y Frame} {w w':World} {o:Oper} (q:ops[i]? =M o) (c:o.guard=D) (hr:(execOp a.eval o).run P w= .ok .recover w') (hn:recoverD cs=D) (h:wpOpsS P ops Q rest (a.put o.dst .nilIface) cs w'):wpOpsS P ops Q (i::rest) a cs w:=by
 have c:iP o (yielded ops a.tmps)=J:=by unfold iP;rw[c]
 simp only[wpOpsS,q,c,bF,hr,hn];exact h
theorem Zx {P:Program} {ops:Array Oper} {Q:Exit->Act->Y Frame->World->Prop} {i:Nat} {rest:ι} {a:Act} {cs:Y Frame} {w w':World} {o:Oper} {v:Value} (q:ops[i]? =M o) (c:o.guard=D) (hr:(execOp a.eval o).run P w= .ok (.value v) w') (h:wpOpsS P ops Q rest (a.put o.dst v) cs w'):wpOpsS P ops Q (i::rest) a cs w:=by
 have c:iP o (yielded ops a.tmps)=J:=by unfold iP;rw[c]
 simp only[wpOpsS,q,c,bF,hr];exact h
theorem Qe:Kz Tryz.prog inert:=by
 intro f hf;have hf:f=63:=ar hf;subst hf;refine ⟨⟨Tryz.f63,Tryz.func63,by kernel_rfl,by kernel_rfl⟩,λargs w=>?_⟩;refine callsD_of_wpS Tryz.func63 rfl λc₀ cs hu=>?_
 refine wpS_seq (wpS_region ?_);generalize ht:(args++oE (Tryz.f63.ntmps-args.size) undef)=T;have hs:5<=T.size:=by
  rw[<- ht];simp only[Array.size_append,Array.size_replicate];have:Tryz.f63.ntmps=5:=rfl;omega
 have hr:recoverD (c₀::cs)=D:=by simp[recoverD,hu]
 refine Zy (i:=0) (rest:=[1]) rfl rfl (w':=w) ?_ hr ?_
 .simp[execOp,resolve,invoke,builtin]
 refine Zx (v:=.bool af) rfl rfl (w':=w) ?_ ?_
 .have hv:Act.eval (Nh {tmps:=T,defers:=[]} (M 2) .nilIface) (.tmp 2)= .nilIface:=by
   simp[Act.eval,Nh,show 2<T.size by omega]
  have h2:=ZV w;have hcst:Act.eval (Nh {tmps:=T,defers:=[]} (M 2) .nilIface) (.const .nilIface)= .nilIface:=rfl;show (execOp (Act.eval (Nh {tmps:=T,defers:=[]} (M 2) .nilIface)) _).run _ w=_;simp[execOp,hv,hcst,eqGuard,binOp,h2]
 show Exit.thenS _ _ .normal _ _ _;refine wpS_cond (t:=af) ?_ ?_
 .simp[Act.eval,Nh,show 3<T.size by omega]
 refine wpS_of_wp (wp_skip ?_);have hres:Tryz.f63.results=#[]:=rfl;exact⟨rfl,c₀.mode,rfl,.tuple #[],by simp[results,hres],⟨_,rfl⟩,hu,rfl⟩
def dV {α:Type}:Y (Nat×α)->PT α
 |[]=>.leaf
 |p::r=>(dV r).set p.1 (M p.2)
noncomputable abbrev Pg:Program:=Tryz.prog
def cn (y:FT) (m:y.pre.ty.den->I y.post.ty.den):cq:=⟨y.pre,y.post,m⟩
theorem al5:Pg.follows .mixedOrders=J:=by kernel_rfl
theorem ac {f:FuncId} {c:cq} {l:Y (FuncId×cq)} (h:aH Pg f c) (t:S8 Pg l):S8 Pg ((f,c)::l):=⟨h,t⟩
theorem an:S8 Pg []:=trivial
inductive OI {R:Type}:Option R->Option R->Prop where
 |rfl {a:Option R}:OI a a
 |chk {b:Bool} {k k':Option R} (h:lH k k'):OI (chk b λ_=>k) (chk b λ_=>k')
 |aG {b:Bool} {t f t' f':Option R} (h1:lH t t') (h2:lH f f'):OI (aG b t f) (aG b t' f')
 |lt {α:Type} {x:α} {k k':α->Option R} (h:∀y,lH (k y) (k' y)):OI (lt x k) (lt x k')
 |jn {α:Type} {o o':Option (R⊕α)} {k k':α->Option R} (h:lH o o') (hk:∀x,lH (k x) (k' x)):OI (jn o k) (jn o' k')
 |av {α:Type} {o o':Option α} {k k':α->Option R} (h:lH o o') (hk:∀x,lH (k x) (k' x)):OI (av o k) (av o' k')
 |iter {σ:Type} {f g:σ->Option (σ⊕R)} {x:σ} (h:∀x,lH (f x) (g x)):OI (gH f x) (iter g x)
theorem OI.o {R:Type} {a b:I R} (h:OI a b):lH a b:=by
 cases h with
 |rfl=>exact lH.rfl
 |chk h=>exact lH.chk h
 |aG h g=>exact lH.bcase h g
 |lt h=>exact lH.lt h
 |jn h g=>exact lH.jn h g
 |av h g=>exact lH.obind h g
 |iter h=>exact lH.iter h
theorem mk {f:FuncId} (y:FT) (m:y.pre.ty.den->I y.post.ty.den) {l:Y (FuncId×cq)} (c:S8 Pg l) (a:TypeId->I Ty) (he:∀x,Zb (UZ l) a inert (zC Pg f) y x=m x:=by intro x;kernel_rfl) (hs:(zC Pg f).isSome=J:=by kernel_rfl) (hb:eO y.pre.bs.length y.post.bs.length=J:=by kernel_rfl):aH Pg f (cn y m):=(QL al5 Qe c hs he).toC hb
theorem zV {f:FuncId} (y:FT) (m n:y.pre.ty.den->I y.post.ty.den) (c:∀x,lH (m x) (n x)) {l:Y (FuncId×cq)} (q:S8 Pg l) (a:TypeId->I Ty) (he:∀x,Zb (UZ l) a inert (zC Pg f) y x=n x:=by intro x;kernel_rfl) (hs:(zC Pg f).isSome=J:=by kernel_rfl) (hb:eO y.pre.bs.length y.post.bs.length=J:=by kernel_rfl):aH Pg f (cn y m):=((QL al5 Qe q hs he).sub c).toC hb
theorem Mj {f:FuncId} (y:FT) (hs:(zC Pg f).isSome=J:=by kernel_rfl) (hb:eO y.pre.bs.length y.post.bs.length=J:=by kernel_rfl):aH Pg f (cn y λ_=>D):=(Ul hs).toC hb
abbrev uI:Y PV:=[.d aL,.d aL,.d aL,.d aL,.d aL,.nil,.nil]
abbrev vD:Y PV:=[.nil,.d aL,.nil,.nil,.nil,.nil,.nil]
abbrev ah0:Y PV:=[.ptr 1 0,.d aL,.d aL,.d .bool,.d .bool,.d .bool,.d .bool,.row 4]
abbrev ah4:Y PV:=[.d aL,.d aL,.d .str,.d .str,.nil,.d aL,.d aL,.d .str,.nil,.nil,.nil]
abbrev La2:Y PB:=[.cells 214 ah0,.cells 90 [.d yp],.gone,.cells 220 ah4,.rowsP 9 .str]
abbrev M6:Y PV:=[.ptr 0 0,.ptr 1 0,.ptr 2 0,.ptr 3 0,.ptr 4 0,.ptr 5 0,.ptr 6 0,.ptr 7 0,.d .bool]
abbrev La4:Y PB:=[.cells 206 [.d (.sl kN),.d (.sl rL),.d (.sl mj),.d (.sl .str),.d (.sl .str),.d (.sl pA),.d (.sl .str),.row 2,.d aL,.d aL],.gone,.rows 210 J qP]
abbrev La5:Y PB:=[.cells 206 [.d (.sl kN),.d (.sl rL),.d (.sl mj),.d (.sl .str),.d (.sl .str),.d (.sl pA),.d (.sl .str),.row 1,.d aL,.d aL],.rows 210 J qP]
abbrev La6:Y PV:=[.d aL,.row 11,.row 12,.d aL]
abbrev La7:Y PB:=[.cells 159 [.nil,.nil],.cells 214 [.ptr 5 0,.d aL,.d aL,.d .bool,.d .bool,.d .bool,.d .bool,.row 6],.cells 159 [.d (.sl Gu),.row 7],.rows 9 af .str,.cells 204 [.d .str,.d aL,.row 8,.row 9],.cells 90 [.d yp],.rowsP 9 .str,.rows 204 J sT,.rows 9 af .str,.rows 220 J .sm]
abbrev La8:Y PB:=[.cells 245 [.d (.sl Gu),.d (.sl sT),.d aL,.row 1,.row 6,.row 7],.rowsP 220 .sm,.gone,.gone,.cells 220 [.d .sm],.cells 159 [.d M7],.rows 9 J .str,.rows 9 J .str]
abbrev La9:Y PV:=[.d (.sl ec),.d aL,.d pY,.d (.sl ij),.row 8,.row 9,.csl 10 4 4]
abbrev afd:Y PB:=[.cells 107 [.d (.sl ec),.d aL,.d pY,.d (.sl ij),.row 6,.row 7,.csl 8 4 4],.cells 162 [.d jw],.cells 107 vD,.cells 57 uI,.cells 57 [.d kh],.cells 197 [.d eX],.rows 2 J aL,.rows 2 J aL,.cells 197 [.d eX,.d eX,.d eX,.d eX]]
abbrev ah1:Y PV:=[.ptr 1 0,.d aL,.d aL,.d .bool,.d .bool,.d .bool,.d .bool,.row 2]
abbrev Pa:Y PV:=[.d DN,.d aL]
abbrev Vw:Y PB:=[.cells 214 ah1,.cells 90 Pa,.rowsP 9 .str]
abbrev LZ:Y PV:=[.ptr 0 0,.ptr 1 0,.ptr 2 0,.ptr 3 0,.ptr 4 0,.ptr 5 0,.ptr 6 0,.ptr 7 0,.d aL]
abbrev aj9:Y PV:=[.d (.sl ec),.d aL,.d pY,.d (.sl ij),.row 8,.row 9,.csl 10 4 3]
abbrev ajt:Y PB:=[.cells 112 [.d uz],.cells 107 aj9,.cells 162 [.d jw],.cells 107 vD,.cells 57 uI,.cells 57 [.d kh],.cells 197 La6,.cells 210 [.d qP],.rows 2 J aL,.rows 2 J aL,.cells 197 [.d aL,.row 11,.row 12,.d aL,.d eX,.d eX],.rows 2 J aL,.rows 36 J (.sl aL)]
abbrev ajs:Y PB:=[.cells 112 [.d uz],.cells 107 aj9,.cells 162 [.d jw],.cells 107 vD,.cells 57 uI,.cells 57 [.d kh],.cells 197 La6,.cells 210 [.d qP],.rows 2 J aL,.rows 2 J aL,.cells 197 [.d eX,.d aL,.row 11,.row 12,.d aL,.d eX],.rows 2 J aL,.rows 36 J (.sl aL)]
abbrev ajr:Y PB:=[.cells 112 [.d uz],.cells 107 aj9,.cells 162 [.d jw],.cells 107 vD,.cells 57 uI,.cells 57 [.d kh],.cells 197 La6,.cells 210 [.d qP],.rows 2 J aL,.rows 2 J aL,.cells 197 [.d eX,.d eX,.d aL,.row 11,.row 12,.d aL],.rows 2 J aL,.rows 36 J (.sl aL)]
abbrev ah3:Y PV:=[.d (.sl ec),.d aL,.d pY,.d (.sl ij),.row 8,.row 9,.csl 10 4 2]
abbrev ajq:Y PB:=[.cells 112 [.d uz],.cells 107 ah3,.cells 162 [.d jw],.cells 107 vD,.cells 57 uI,.cells 57 [.d kh],.cells 197 La6,.cells 210 [.d qP],.rows 2 J aL,.rows 2 J aL,.cells 197 [.d aL,.row 11,.row 12,.d aL,.d eX],.rows 2 J aL,.rows 36 J (.sl aL)]
abbrev ajp:Y PB:=[.cells 112 [.d uz],.cells 107 ah3,.cells 162 [.d jw],.cells 107 vD,.cells 57 uI,.cells 57 [.d kh],.cells 197 La6,.cells 210 [.d qP],.rows 2 J aL,.rows 2 J aL,.cells 197 [.d eX,.d aL,.row 11,.row 12,.d aL],.rows 2 J aL,.rows 36 J (.sl aL)]
abbrev YH:Y PB:=[.cells 245 [.d (.sl Gu),.d (.sl sT),.d aL,.row 1,.row 4,.row 5],.rowsP 220 .sm,.gone,.gone,.rows 9 J .str,.rows 9 J .str]
abbrev LY:Y PV:=[.ptr 0 0,.ptr 1 0,.ptr 2 0,.ptr 3 0,.ptr 4 0,.ptr 5 0,.ptr 6 0,.d .bool]
abbrev hX:Y PV:=[.ptr 0 0,.d .bool]
abbrev YG:Y PB:=[.cells 245 [.d (.sl Gu),.d (.sl sT),.d aL,.row 1,.row 2,.row 3],.rowsP 220 .sm,.rows 9 J .str,.rows 9 J .str]
abbrev ajo:Y PB:=[.cells 112 [.d uz],.cells 107 [.d (.sl ec),.d aL,.d pY,.d (.sl ij),.row 8,.row 9,.csl 10 4 1],.cells 162 [.d jw],.cells 107 vD,.cells 57 uI,.cells 57 [.d kh],.cells 197 La6,.cells 210 [.d qP],.rows 2 J aL,.rows 2 J aL,.cells 197 La6,.rows 2 J aL,.rows 36 J (.sl aL)]
abbrev LX:Y PV:=[.ptr 0 0,.ptr 1 0,.ptr 2 0,.ptr 3 0,.ptr 4 0,.ptr 5 0,.ptr 6 0]
abbrev ajn:Y PB:=[.cells 112 [.d uz],.cells 107 La9,.cells 162 [.d jw],.cells 107 vD,.cells 57 uI,.cells 57 [.d kh],.cells 197 La6,.cells 210 [.d qP],.rows 2 J aL,.rows 2 J aL,.cells 197 [.d aL,.row 11,.row 12,.d aL,.d eX,.d eX,.d eX],.rows 2 J aL,.rows 36 J (.sl aL)]
abbrev ajm:Y PB:=[.cells 112 [.d uz],.cells 107 La9,.cells 162 [.d jw],.cells 107 vD,.cells 57 uI,.cells 57 [.d kh],.cells 197 La6,.cells 210 [.d qP],.rows 2 J aL,.rows 2 J aL,.cells 197 [.d eX,.d aL,.row 11,.row 12,.d aL,.d eX,.d eX],.rows 2 J aL,.rows 36 J (.sl aL)]
abbrev ajl:Y PB:=[.cells 112 [.d uz],.cells 107 La9,.cells 162 [.d jw],.cells 107 vD,.cells 57 uI,.cells 57 [.d kh],.cells 197 La6,.cells 210 [.d qP],.rows 2 J aL,.rows 2 J aL,.cells 197 [.d eX,.d eX,.d aL,.row 11,.row 12,.d aL,.d eX],.rows 2 J aL,.rows 36 J (.sl aL)]
abbrev ajk:Y PB:=[.cells 112 [.d uz],.cells 107 La9,.cells 162 [.d jw],.cells 107 vD,.cells 57 uI,.cells 57 [.d kh],.cells 197 La6,.cells 210 [.d qP],.rows 2 J aL,.rows 2 J aL,.cells 197 [.d eX,.d eX,.d eX,.d aL,.row 11,.row 12,.d aL],.rows 2 J aL,.rows 36 J (.sl aL)]
abbrev Ky:Y PB:=[.cells 31 [.d oC],.cells 99 [.d iU],.cells 57 [.d kh],.cells 99 vD]
abbrev LW:Y PV:=[.ptr 0 0,.ptr 1 0,.ptr 2 0,.ptr 3 0,.ptr 4 0,.ptr 5 0]
abbrev ajj:Y PB:=[.cells 107 [.d (.sl ec),.d aL,.d pY,.d (.sl ij),.row 6,.row 7,.csl 8 4 3],.cells 162 [.d jw],.cells 107 vD,.cells 57 uI,.cells 57 [.d kh],.cells 197 [.d eX],.rows 2 J aL,.rows 2 J aL,.cells 197 [.d eX,.d eX,.d eX]]
abbrev Su:Y PV:=[.d (.sl ec),.d aL,.d pY,.d (.sl ij),.row 7,.row 8,.csl 9 4 4]
abbrev qQ:Y PV:=[.ptr 0 0,.ptr 1 0,.d .bool]
abbrev zI:Y PV:=[.ptr 0 0,.ptr 1 0,.ptr 2 0,.ptr 3 0,.d .bool]
abbrev af6:Y PV:=[.nil,.nil,.nil,.nil,.nil,.nil]
abbrev aji:Y PB:=[.cells 159 [.d M7],.cells 31 af6,.cells 31 [.row 4,.row 5,.row 6,.row 7,.nil,.nil],.cells 248 [.d Gu],.rows 60 J kN,.rows 137 J rL,.rows 130 J mj,.rows 9 J .str]
abbrev abm:Y PV:=[.nil,.nil,.nil,.nil,.nil,.nil,.nil]
abbrev ami:Y PV:=[.d (.sl kN),.d (.sl rL),.d (.sl mj),.d (.sl .str),.d (.sl .str),.d (.sl pA),.row 5]
abbrev amv:Y PB:=[.cells 159 [.d M7],.cells 112 abm,.cells 112 ami,.cells 206 [.d (.sl kN),.d (.sl rL),.d (.sl mj),.d (.sl .str),.d (.sl .str),.d (.sl pA),.d (.sl .str),.row 6,.d aL,.d aL],.cells 193 [.d aL,.row 6],.rows 193 J wO,.rows 210 J qP]
abbrev Hc:Y PV:=[.row 0,.d aL,.row 1,.row 2]
abbrev ajh:Y PB:=[.cells 90 [.d yp],.cells 99 [.d iU],.cells 31 [.d oC],.rows 57 J kh,.cells 36 [.row 5,.row 6,.row 7,.row 8],.rows 3 J aL,.rows 3 J aL,.rows 3 J aL,.rows 3 J aL]
abbrev Fd:Y PV:=[.ptr 0 0,.ptr 1 0,.ptr 2 0,.d aL]
abbrev Kx:Y PV:=[.d aL,.d (.sl aL),.d vE,.d aL]
abbrev YF:Y PV:=[.d (.sl ec),.d aL,.d pY,.d (.sl ij),.row 7,.row 8,.csl 9 4 3]
abbrev ajg:Y PB:=[.cells 90 [.d yp],.cells 99 [.d iU],.cells 31 [.d oC],.cells 36 [.row 4,.row 5,.row 6,.row 7],.rows 3 J aL,.rows 3 J aL,.rows 3 J aL,.rows 3 J aL]
abbrev DM:Y PV:=[.ptr 0 0,.ptr 1 0,.ptr 2 0,.d .bool]
abbrev xG:Y PV:=[.ptr 0 0,.ptr 1 0,.d aL]
abbrev Kw:Y PV:=[.d aL,.row 10,.row 11,.d aL]
abbrev af5:Y PV:=[.d aL,.row 0,.row 1,.d aL]
abbrev W7:Y PV:=[.d aL,.nil,.nil,.d aL]
abbrev ajf:Y PB:=[.rows 2 J aL,.rows 36 J (.sl aL),.cells 210 [.d qP],.cells 197 af5,.cells 197 W7]
abbrev aje:Y PB:=[.cells 245 [.d (.sl Gu),.d (.sl sT),.d aL,.row 4,.row 5,.row 6],.gone,.gone,.gone,.rowsP 220 .sm,.rows 9 J .str,.rows 9 J .str]
abbrev B4:Y PV:=[.nil,.d aL,.nil,.nil]
abbrev ajd:Y PB:=[.cells 96 [.row 2,.d aL,.row 3,.row 4],.cells 96 B4,.rows 176 J ec,.rows 4 J .bool,.rows 178 J ij]
abbrev Kv:Y PV:=[.ptr 0 0,.ptr 3 0,.d .bool]
abbrev amu:Y PB:=[.cells 107 [.d (.sl ec),.d aL,.d pY,.d (.sl ij),.row 6,.row 7,.csl 8 4 2],.cells 162 [.d jw],.cells 107 vD,.cells 57 uI,.cells 57 [.d kh],.cells 197 [.d eX],.rows 2 J aL,.rows 2 J aL,.cells 197 [.d eX,.d eX]]
abbrev amt:Y PB:=[.cells 34 abm,.cells 90 [.d yp],.cells 34 ami,.cells 99 [.d iU],.rows 57 af kh,.rows 57 J kh]
abbrev pW:Y PB:=[.cells 31 [.d oC]]
abbrev ams:Y PB:=[.cells 90 [.d yp],.cells 99 [.d iU],.cells 31 [.d oC],.rows 57 J kh,.cells 36 [.row 7,.row 8,.row 9,.row 10],.cells 57 [.d kh],.cells 99 [.d iU],.rows 3 J aL,.rows 3 J aL,.rows 3 J aL,.rows 3 J aL]
abbrev amr:Y PB:=[.cells 31 af6,.cells 31 [.row 2,.row 3,.row 4,.row 5,.row 6,.row 7],.rows 60 af kN,.rows 137 af rL,.rows 130 af mj,.rows 9 af .str,.rows 9 af .str,.rows 139 J pA]
abbrev wN:Y PV:=[.ptr 0 0,.d aL]
abbrev abl:Y PV:=[.row 2,.row 3,.row 4,.row 5]
abbrev amq:Y PB:=[.cells 90 [.d yp],.cells 36 abl,.rows 3 J aL,.rows 3 J aL,.rows 3 J aL,.rows 3 J aL,.cells 57 uI,.cells 57 [.d aL,.d aL,.d aL,.d aL,.d aL,.d (.sl aL),.nil]]
abbrev afc:Y PV:=[.d (.sl ec),.d aL,.d pY,.d (.sl ij),.row 7,.row 8,.csl 9 4 2]
abbrev LV:Y PV:=[.d vF,.d kh,.d .bool]
abbrev amp:Y PB:=[.cells 90 [.d yp],.cells 36 abl,.rows 3 J aL,.rows 3 J aL,.rows 3 J aL,.rows 3 J aL,.cells 99 [.d iU],.cells 31 [.d oC],.cells 57 uI,.cells 57 uI]
abbrev amo:Y PB:=[.cells 159 [.d M7],.cells 31 af6,.cells 31 [.row 3,.row 4,.row 5,.row 6,.nil,.nil],.rows 60 J kN,.rows 137 J rL,.rows 130 J mj,.rows 9 J .str]
abbrev ajc:Y PV:=[.d (.sl ec),.d aL,.d pY,.d (.sl ij),.row 3,.row 4,.row 5]
abbrev LU:Y PV:=[.d uz,.d vF,.d jw]
abbrev ajb:Y PB:=[.rows 176 J ec,.rows 4 J .bool,.rows 178 J ij,.cells 96 Hc,.rows 3 J aL]
abbrev abp:Y PV:=[.row 3,.d aL,.row 4,.row 5]
abbrev amn:Y PB:=[.cells 31 [.d oC],.cells 96 abp,.cells 96 B4,.rows 176 J ec,.rows 4 J .bool,.rows 178 J ij]
abbrev vC:Y PV:=[.d aL,.d aL]
abbrev aja:Y PB:=[.rows 57 J kh,.cells 112 [.d uz],.cells 107 [.d vF],.cells 107 vD]
abbrev amm:Y PB:=[.cells 193 [.d wO],.cells 197 [.d aL,.row 3,.row 4,.d aL],.cells 197 W7,.rows 2 J aL,.rows 36 J (.sl aL)]
abbrev aml:Y PB:=[.cells 214 ah0,.cells 90 [.d yp],.gone,.rows 220 J .sm,.rowsP 9 .str]
abbrev aj8:Y PV:=[.ptr 1 0,.d aL,.d aL,.d .bool,.d .bool,.d .bool,.d .bool,.row 3]
abbrev amk:Y PB:=[.cells 57 uI,.cells 197 [.d eX],.cells 210 [.d qP],.cells 57 [.d aL,.d aL,.d aL,.d aL,.d aL,.row 4,.nil],.rows 3 J aL]
abbrev O_:Y PB:=[.cells 220 [.d .sm]]
abbrev afb:Y PV:=[.agg [.agg Hc,.row 3,.row 4,.csl 5 4 4]]
abbrev St:Y PB:=[.cells 159 [.d M7]]
abbrev aj7:Y PB:=[.cells 31 [.d oC],.cells 193 [.d wO],.cells 210 [.d qP]]
abbrev afa:Y PB:=[.cells 159 [.d M7],.cells 204 [.d sT]]
abbrev af9:Y PB:=[.cells 159 [.d M7],.cells 218 [.d .ex]]
abbrev aj6:Y PB:=[.rows 176 J ec,.rows 4 J .bool,.rows 178 J ij]
abbrev aj5:Y PB:=[.cells 31 [.d oC],.rows 9 J .str,.cells 60 [.d kN]]
abbrev af8:Y PB:=[.cells 31 [.d oC],.cells 210 [.d qP]]
abbrev af7:Y PV:=[.ptr 0 0,.ptr 4 0,.ptr 5 0,.d .bool]
abbrev aj4:Y PV:=[.ptr 0 0,.ptr 1 0,.ptr 2 0,.ptr 3 0,.ptr 4 0,.d aL]
abbrev Vv:Y PB:=[.cells 31 [.d oC],.cells 96 [.d Hd]]
abbrev aj3:Y PB:=[.cells 90 [.d yp],.rows 3 J aL,.rows 3 J aL]
abbrev YE:Y PB:=[.cells 31 [.d oC],.rows 9 J .str]
abbrev aj2:Y PB:=[.cells 57 [.d kh],.cells 99 vD,.cells 99 ajc,.rows 2 J aL,.rows 2 J aL,.rows 3 J aL]
abbrev amj:Y PB:=[.cells 90 Pa,.cells 36 abl,.rows 3 J aL,.rows 3 J aL,.rows 3 J aL,.rows 3 J aL]
abbrev Hb:Y PV:=[.d (.sl aL),.d aL]
abbrev Ss:Y PV:=[.ptr 0 0,.row 1,.d aL]
abbrev YD:Y PB:=[.cells 248 [.d Gu]]
abbrev YC:Y PB:=[.cells 90 [.d yp]]
abbrev aj1:Y PV:=[.agg [.agg Hc,.row 3,.row 4,.csl 5 4 3]]
abbrev Sr:Y PB:=[.cells 90 Pa]
abbrev abu:Y PB:=[.rows 2 J aL,.rows 36 J (.sl aL)]
abbrev abt:Y PB:=[.cells 112 [.d uz],.cells 107 [.d vF]]
abbrev abs:Y PB:=[.cells 31 [.d oC],.cells 193 [.d wO]]
abbrev qY:Y PV:=[.d (.sl aL)]
abbrev abr:Y PV:=[.ptr 0 0,.ptr 1 0,.ptr 2 0,.ptr 3 0]
abbrev ah2:Y PV:=[.d (.sl ec),.d aL,.d pY,.d (.sl ij),.row 7,.row 8,.csl 9 4 1]
abbrev abq:Y PB:=[.cells 96 [.d Hd],.rows 3 J aL]
abbrev Sv:Y PV:=[.ptr 0 0,.d aL,.d aL]
def tyT:PT Ty:=dV [(2,aL),(3,aL),(4,.bool),(9,.str),(36,(.sl aL)),(50,jw),(52,(.st (.pr jw (.pr jw (.sl aL))))),(57,kh),(60,kN),(67,jw),(93,pY),(130,mj),(137,rL),(139,pA),(162,jw),(176,ec),(178,ij),(193,wO),(197,eX),(204,sT),(210,qP),(218,.ex),(220,.sm),(248,Gu)]
def b_ (t:TypeId):I Ty:=tyT.get t
def AO:FT:=⟨⟨[],[]⟩,⟨[.d (.sl .str)],[]⟩,.leaf⟩
def LD:cq:=cn AO kE
def zk:FT:=⟨⟨[.d .str],[]⟩,⟨[.d .bool],[]⟩,dV [(8,(.j ⟨[0,3],[4],⟨[.d aL],[]⟩,[]⟩))]⟩
def J3:cq:=cn zk jL
def Gh:FT:=⟨⟨[.d (.int .u8)],[]⟩,⟨[.d .bool],[]⟩,dV [(2,(.j ⟨[],[2],⟨[.d .bool],[]⟩,[]⟩))]⟩
def RX:cq:=cn Gh lE
def JK:FT:=⟨⟨[.d (.int .u8)],[]⟩,⟨[.d .bool],[]⟩,dV [(2,(.j ⟨[],[2],⟨[.d .bool],[]⟩,[]⟩))]⟩
def UX:cq:=cn JK ru
def JJ:FT:=⟨⟨[.d (.int .u8)],[]⟩,⟨[.d .bool],[]⟩,dV [(2,(.j ⟨[],[2],⟨[.d .bool],[]⟩,[]⟩))]⟩
def UW:cq:=cn JJ po
def Gi:FT:=⟨⟨[.d .str],[]⟩,⟨[.d .bool],[]⟩,dV [(3,(.j ⟨[0],[21],⟨[.d .bool],[]⟩,[]⟩)),(14,(.j ⟨[0],[3],⟨[.d aL],[]⟩,[]⟩))]⟩
def RY:cq:=cn Gi fk
def JE:FT:=⟨⟨[.d .bool],[]⟩,⟨[.d aL],[]⟩,.leaf⟩
def UO:cq:=cn JE f_
def JF:FT:=⟨⟨vC,[]⟩,⟨[.d aL,.d .bool],[]⟩,.leaf⟩
def UP:cq:=cn JF ub
def Gb:FT:=⟨⟨[.d aL,.d aL,.d aL],[]⟩,⟨[.d aL,.d .bool],[]⟩,dV [(91,(.j ⟨[],[6,7],⟨[.d aL,.d .bool],[]⟩,[]⟩)),(97,(.j ⟨[],[6,7],⟨[.d aL,.d .bool],[]⟩,[]⟩))]⟩
def RP:cq:=cn Gb sj
def JG:FT:=⟨⟨vC,[]⟩,⟨[.d aL],[]⟩,dV [(12,(.j ⟨[],[5],⟨[.d aL],[]⟩,[]⟩))]⟩
def UQ:cq:=cn JG rn
def AM:FT:=⟨⟨[.d aL],[]⟩,⟨[.d aL],[]⟩,dV [(4,(.j ⟨[0],[3],⟨[.d .bool],[]⟩,[]⟩)),(10,(.j ⟨[0],[10],⟨[.d .bool],[]⟩,[]⟩)),(16,(.j ⟨[],[17],⟨[.d .bool],[]⟩,[]⟩))]⟩
def LC:cq:=cn AM mw
def o9:FT:=⟨⟨[.d .ex],[]⟩,⟨[.d .bool],[]⟩,dV [(2,(.j ⟨[],[1,3],⟨hX,[.cells 218 [.d .ex]]⟩,[]⟩)),(5,(.j ⟨[],[1,50],⟨hX,[.cells 218 [.d .ex]]⟩,[]⟩)),(16,(.j ⟨[],[1,4],⟨wN,[.cells 218 [.d .ex]]⟩,[]⟩))]⟩
def G3:cq:=cn o9 jg
def GF (n:Nat):cq:=cn o9 (ii n)
def JI:FT:=⟨⟨[.d .ex],[]⟩,⟨[.d .bool],[]⟩,dV [(2,(.j ⟨[],[2],⟨[.d .bool],[]⟩,[]⟩))]⟩
def UV:cq:=cn JI pn
def sS:FT:=⟨⟨[.d .sm],[]⟩,⟨[.d .bool],[]⟩,dV [(3,(.j ⟨[],[1,13],⟨hX,O_⟩,[]⟩)),(10,(.j ⟨[],[1,3],⟨hX,O_⟩,[]⟩)),(13,(.j ⟨[],[1,47],⟨hX,O_⟩,[]⟩)),(21,(.j ⟨[],[1,66],⟨hX,O_⟩,[]⟩)),(29,(.j ⟨[],[1,95],⟨hX,O_⟩,[]⟩)),(36,(.j ⟨[],[1,4],⟨hX,O_⟩,[]⟩)),(39,(.j ⟨[],[1,130],⟨hX,O_⟩,[]⟩)),(46,(.j ⟨[],[1,5],⟨hX,O_⟩,[]⟩)),(49,(.j ⟨[],[1,157],⟨hX,O_⟩,[]⟩)),(56,(.j ⟨[],[2],⟨[.d .bool],[]⟩,[]⟩))]⟩
def GD (n:Nat):cq:=cn sS (eE n)
def oc:FT:=⟨⟨[.d (.sl .sm)],[]⟩,⟨[.d .bool],[]⟩,dV [(6,(.j ⟨[0],[3],⟨[.d aL],[]⟩,[]⟩))]⟩
def EY:cq:=cn oc nQ
def Ej (n:Nat):cq:=cn oc (dD n)
def xX:FT:=⟨⟨[.d Gu],[]⟩,⟨[.d .bool],[]⟩,dV [(3,(.j ⟨[],[1,31],⟨hX,YD⟩,[]⟩)),(11,(.j ⟨[],[1,50],⟨hX,YD⟩,[]⟩)),(18,(.j ⟨[],[2],⟨[.d .bool],[]⟩,[]⟩))]⟩
def G2:cq:=cn xX kc
def Gg:FT:=⟨⟨[.d M7],[]⟩,⟨[.d .bool],[]⟩,dV [(6,(.j ⟨[],[1,3],⟨wN,St⟩,[]⟩)),(27,(.j ⟨[],[1,4],⟨wN,St⟩,[]⟩)),(42,(.j ⟨[4],[1,5,6],⟨xG,afa⟩,[]⟩)),(59,(.j ⟨[4],[1,56],⟨hX,St⟩,[]⟩))]⟩
def RW:cq:=cn Gg pK
def Wz:FT:=⟨⟨[.d (.sl .str),.d .str],[]⟩,⟨[.d aL],[]⟩,dV [(6,(.j ⟨[0,1],[5],⟨[.d aL],[]⟩,[]⟩))]⟩
def aec:cq:=cn Wz ja
def Gf:FT:=⟨⟨[.d (.sl Gu),.d .str],[]⟩,⟨[.d aL],[]⟩,dV [(6,(.j ⟨[0,1],[5],⟨[.d aL],[]⟩,[]⟩))]⟩
def RU:cq:=cn Gf ig
def AL:FT:=⟨⟨[.d (.sl sT),.d .str],[]⟩,⟨[.d aL],[]⟩,dV [(6,(.j ⟨[0,1],[5],⟨[.d aL],[]⟩,[]⟩))]⟩
def LB:cq:=cn AL gV
def Ge:FT:=⟨⟨[.d M7,.d aL,.d .str],[]⟩,⟨[.d aL],[]⟩,dV [(3,(.j ⟨[2],[3,27],⟨hX,St⟩,[]⟩)),(52,(.j ⟨[7],[3,56],⟨hX,St⟩,[]⟩))]⟩
def RQ:cq:=cn Ge pJ
def MO:FT:=⟨⟨[.d M7,.d aL,.d .str,.d aL,.d aL],[]⟩,⟨[.d aL],[]⟩,dV [(13,(.j ⟨[],[25],⟨[.d .bool],[]⟩,[]⟩))]⟩
def X5:cq:=cn MO gF
def xx:FT:=⟨⟨[.d .ex],[]⟩,⟨vC,[]⟩,dV [(8,(.j ⟨[],[1,4,5,6],⟨[.ptr 0 0,.d aL,.d aL,.d aL],[.cells 218 [.d .ex]]⟩,[]⟩))]⟩
def UT:cq:=cn xx BE
def TX (n:Nat):cq:=cn xx (nC n)
def xw:FT:=⟨⟨[.d M7,.d aL,.d .ex],[]⟩,⟨[.d aL],[]⟩,dV [(7,(.j ⟨[1],[3,5,7],⟨xG,af9⟩,[]⟩)),(21,(.j ⟨[1],[3,5,7,8],⟨[.ptr 0 0,.ptr 1 0,.d aL,.d aL],af9⟩,[]⟩)),(23,(.j ⟨[1,7,8],[3,5,33],⟨qQ,af9⟩,[]⟩))]⟩
def UR:cq:=cn xw BD
def TW (n:Nat):cq:=cn xw (nB n)
def MP:FT:=⟨⟨[.d M7,.d aL,.d .ex],[]⟩,⟨[.d aL],[]⟩,dV [(13,(.j ⟨[1],[3,5,22],⟨qQ,af9⟩,[]⟩))]⟩
def X6:cq:=cn MP mr
def Dh:FT:=⟨⟨[.d .bool],[]⟩,⟨[.d aL],[]⟩,.leaf⟩
def OH:cq:=cn Dh c5
def Wy:FT:=⟨⟨vC,[]⟩,⟨[.d aL],[]⟩,.leaf⟩
def aeb:cq:=cn Wy i_
def wC:FT:=⟨⟨[.ptr 0 0,.d aL,.d aL,.d .str],YG⟩,⟨[.d .bool],YG⟩,dV [(6,(.j ⟨[1,2,3],[0,9],⟨wN,YG⟩,[]⟩)),(17,(.j ⟨[1,2,3,9],[0,46],⟨hX,YG⟩,[]⟩))]⟩
def EX:cq:=cn wC dW
def AK:FT:=⟨⟨[.ptr 0 0,.d .sm],YG⟩,⟨[.d aL],YH⟩,dV [(1,(.a [.ren 0 4,.ren 0 5])),(28,(.j ⟨[6,7,8,9,30],[0,3,5,67],⟨af7,La8⟩,[]⟩)),(41,(.j ⟨[],[4],⟨[.d aL],YH⟩,[]⟩)),(44,(.j ⟨[6,7,8,9,30],[0,3,5,91],⟨af7,La8⟩,[]⟩)),(51,(.j ⟨[],[4],⟨[.d aL],YH⟩,[]⟩)),(63,(.j ⟨[],[4],⟨[.d aL],YH⟩,[]⟩)),(66,(.j ⟨[6,7,8,9,30],[0,3,5,119],⟨af7,La8⟩,[]⟩)),(89,(.j ⟨[],[4],⟨[.d aL],YH⟩,[]⟩)),(108,(.j ⟨[],[0,3,187],⟨[.ptr 0 0,.ptr 4 0,.d .bool],[.cells 245 [.d (.sl Gu),.d (.sl sT),.d aL,.row 1,.row 5,.row 6],.rowsP 220 .sm,.gone,.gone,.cells 220 [.d .sm],.rows 9 J .str,.rows 9 J .str]⟩,[]⟩)),(131,(.j ⟨[],[4],⟨[.d aL],YH⟩,[]⟩)),(137,(.j ⟨[6],[0,3,5,14],⟨[.ptr 0 0,.ptr 4 0,.ptr 5 0,.d aL],La8⟩,[]⟩)),(139,(.j ⟨[6],[0,3,5,14],⟨[.ptr 0 0,.ptr 4 0,.ptr 5 0,.d aL],La8⟩,[]⟩)),(140,(.j ⟨[6,14],[0,3,5,253],⟨af7,La8⟩,[]⟩))]⟩
def Lz:cq:=cn AK mq
def rY:FT:=⟨⟨[.ptr 0 0,.d (.sl .sm)],YG⟩,⟨vC,aje⟩,dV [(1,(.a [.ren 0 3,.ren 0 4,.ren 0 5])),(6,(.j ⟨[1],[0,6],⟨wN,aje⟩,[]⟩)),(19,(.j ⟨[1,6],[0,7,8],⟨[.ptr 0 0,.ptr 4 0,.d aL],[.cells 245 [.d (.sl Gu),.d (.sl sT),.d aL,.row 5,.row 6,.row 7],.gone,.gone,.gone,.cells 220 [.d .sm],.rowsP 220 .sm,.rows 9 J .str,.rows 9 J .str]⟩,[]⟩)),(37,(.j ⟨[1,6],[0,8,9],⟨Sv,aje⟩,[]⟩))]⟩
def LA:cq:=cn rY vu
def K9 (n:Nat):cq:=cn rY (iH n)
def xy:FT:=⟨⟨[.d (.sl .sm)],[]⟩,⟨[.d aL],[]⟩,dV [(8,(.j ⟨[0],[3,4],⟨vC,[]⟩,[]⟩))]⟩
def UU:cq:=cn xy BF
def TY (n:Nat):cq:=cn xy (nD n)
def JH:FT:=⟨⟨[.d (.sl Gu)],[]⟩,⟨vC,[]⟩,dV [(8,(.j ⟨[0],[4,5,6,7,8],⟨[.d aL,.d aL,.d aL,.d aL,.d aL],[]⟩,[]⟩)),(16,(.j ⟨[0,8],[4,5,6,7],⟨[.d aL,.d aL,.d aL,.d aL],[]⟩,[]⟩)),(38,(.j ⟨[0,8],[4,5,6,7,9],⟨[.d aL,.d aL,.d aL,.d aL,.ptr 0 0],YD⟩,[]⟩)),(39,(.j ⟨[0,4,5,6,7,8,36],[9,39],⟨hX,YD⟩,[]⟩)),(47,(.j ⟨[0,4,5,6,7,8,36],[9,47],⟨hX,YD⟩,[]⟩)),(61,(.j ⟨[0,4,5,6,7,8],[9,69],⟨hX,YD⟩,[]⟩))]⟩
def US:cq:=cn JH rq
def Dg:FT:=⟨⟨[.d M7],[]⟩,⟨vC,[]⟩,dV [(6,(.j ⟨[],[1,4],⟨wN,St⟩,[]⟩)),(17,(.j ⟨[4],[1,5,37],⟨qQ,afa⟩,[]⟩)),(29,(.j ⟨[],[1,6],⟨wN,St⟩,[]⟩)),(51,(.j ⟨[6],[1,7,8],⟨xG,afa⟩,[]⟩)),(62,(.j ⟨[6,8],[1,7,90],⟨qQ,afa⟩,[]⟩))]⟩
def OG:cq:=cn Dg nP
def Di:FT:=⟨⟨[.d M7],[]⟩,⟨vC,[]⟩,dV [(44,(.j ⟨[],[1,8,9],⟨Sv,St⟩,[]⟩)),(67,(.a [.cel 10 3 220 .sm,.cel 10 4 9 .str,.cel 10 5 9 .str])),(69,(.j ⟨[],[1,10,11],⟨xG,[.cells 159 [.d M7],.cells 245 [.d (.sl Gu),.d (.sl sT),.d aL,.row 2,.row 3,.row 4],.rowsP 220 .sm,.rows 9 J .str,.rows 9 J .str]⟩,[]⟩))]⟩
def OJ:cq:=cn Di fx
def xv:FT:=⟨⟨[.row 0,.d aL,.d aL,.d (.sl .sm)],[.rows 139 J pA]⟩,⟨[.row 1,.d aL],[.gone,.rows 139 J pA]⟩,dV [(1,(.a [.ren 0 0])),(6,(.j ⟨[1,3],[0,2,10],⟨[.row 1,.d aL,.d aL],[.gone,.rows 139 J pA]⟩,[]⟩)),(25,(.a [.nil 8 139 pA]))]⟩
def UI:cq:=cn xv Il
def TU (n:Nat):cq:=cn xv (px n)
def F_:FT:=⟨⟨[.d (.sl rL),.d .str],[]⟩,⟨[.d aL],[]⟩,dV [(6,(.j ⟨[0,1],[5],⟨[.d aL],[]⟩,[]⟩))]⟩
def RM:cq:=cn F_ ko
def Ga:FT:=⟨⟨[.d oC,.d .str],[]⟩,⟨[.d aL],[]⟩,dV [(6,(.j ⟨[1],[2,5],⟨wN,pW⟩,[]⟩))]⟩
def RO:cq:=cn Ga lD
def JB:FT:=⟨⟨[.d M7],[]⟩,⟨[.d oC],[]⟩,dV [(18,(.j ⟨[],[1,2,3,6],⟨Fd,amo⟩,[.cel 3 0 60 kN,.cel 3 1 137 rL,.cel 3 2 130 mj,.cel 3 3 9 .str]⟩)),(31,(.j ⟨[6],[1,2,3],⟨[.ptr 0 0,.ptr 1 0,.ptr 2 0],amo⟩,[]⟩)),(32,(.j ⟨[6,31],[1,2,3,7,39],⟨zI,aji⟩,[]⟩)),(42,(.j ⟨[6],[1,2,3,7,8],⟨[.ptr 0 0,.ptr 1 0,.ptr 2 0,.ptr 3 0,.d aL],aji⟩,[]⟩)),(53,(.j ⟨[6,31],[1,2,3,7,65],⟨zI,aji⟩,[]⟩)),(69,(.a [.cel 3 5 139 pA])),(71,(.j ⟨[],[1,2,3,9],⟨Fd,[.cells 159 [.d M7],.cells 31 af6,.cells 31 [.row 3,.row 4,.row 5,.row 6,.row 7,.row 8],.rows 60 J kN,.rows 137 J rL,.rows 130 J mj,.rows 9 J .str,.rows 9 J .str,.rows 139 J pA]⟩,[.cel 3 4 9 .str]⟩))]⟩
def UM:cq:=cn JB ua
def Jy:FT:=⟨⟨[.d oC],[]⟩,⟨[.d (.sl .str),.d .bool],[]⟩,dV [(8,(.j ⟨[],[1,4,5],⟨Ss,YE⟩,[.nil 4 9 .str]⟩)),(15,(.j ⟨[],[1,4,5],⟨Ss,YE⟩,[]⟩)),(37,(.j ⟨[5],[1,4,6,51],⟨[.ptr 0 0,.row 1,.ptr 2 0,.d .bool],aj5⟩,[]⟩)),(48,(.j ⟨[5],[1,4,6,7],⟨[.ptr 0 0,.row 1,.ptr 2 0,.d aL],aj5⟩,[]⟩)),(59,(.j ⟨[5,7],[1,4,6,93],⟨[.ptr 0 0,.row 1,.ptr 2 0,.d .bool],aj5⟩,[]⟩)),(72,(.j ⟨[],[1,4,9],⟨Ss,YE⟩,[]⟩)),(87,(.j ⟨[],[1,4,10],⟨Ss,YE⟩,[]⟩))]⟩
def UJ:cq:=cn Jy pl
def xW:FT:=⟨⟨[.d oC],[]⟩,⟨[.d .bool],[]⟩,dV [(3,(.j ⟨[],[1,49],⟨hX,pW⟩,[]⟩)),(24,(.j ⟨[3],[1,5],⟨wN,pW⟩,[]⟩)),(33,(.j ⟨[3,5],[1,79],⟨hX,pW⟩,[]⟩)),(45,(.j ⟨[],[1,6],⟨wN,pW⟩,[]⟩)),(56,(.j ⟨[6],[1,109],⟨hX,pW⟩,[]⟩)),(68,(.j ⟨[],[1,8],⟨wN,pW⟩,[]⟩)),(76,(.j ⟨[8],[1],⟨[.ptr 0 0],pW⟩,[]⟩)),(80,(.j ⟨[8],[1,9,132],⟨qQ,[.cells 31 [.d oC],.cells 139 [.d pA]]⟩,[]⟩)),(87,(.j ⟨[8],[1,9,146],⟨qQ,[.cells 31 [.d oC],.cells 139 [.d pA]]⟩,[]⟩)),(90,(.j ⟨[8],[1,165],⟨hX,pW⟩,[]⟩))]⟩
def G1:cq:=cn xW ie
def zj:FT:=⟨⟨[.d qP],[]⟩,⟨qY,[]⟩,dV [(6,(.j ⟨[4],[1,5],⟨hX,[.cells 210 [.d qP]]⟩,[]⟩)),(24,(.j ⟨[4],[1,13],⟨hX,[.cells 210 [.d qP]]⟩,[]⟩)),(46,(.j ⟨[4],[1,37],⟨hX,[.cells 210 [.d qP]]⟩,[]⟩))]⟩
def J2:cq:=cn zj jK
def F':FT:=⟨⟨[.d aL],[]⟩,⟨[.d .bool],[]⟩,dV [(2,(.j ⟨[],[2],⟨[.d .bool],[]⟩,[]⟩))]⟩
def RN:cq:=cn F' pI
def Jz:FT:=⟨⟨[.d (.sl qP),.d aL],[]⟩,⟨[.d .bool],[]⟩,dV [(6,(.j ⟨[0],[1,5],⟨vC,[]⟩,[]⟩)),(14,(.j ⟨[0,5],[1],⟨[.d aL],[]⟩,[]⟩)),(16,(.j ⟨[0,1,5],[19],⟨[.d .bool],[]⟩,[]⟩))]⟩
def UK:cq:=cn Jz pm
def Wx:FT:=⟨⟨vC,[]⟩,⟨[.d .bool],[]⟩,dV [(2,(.j ⟨[],[4],⟨[.d .bool],[]⟩,[]⟩))]⟩
def aea:cq:=cn Wx js
def JA:FT:=⟨⟨[.d oC,.d aL,.d aL],[]⟩,⟨[.d .bool],[]⟩,dV [(2,(.j ⟨[],[6],⟨[.d .bool],[]⟩,[]⟩))]⟩
def UL:cq:=cn JA nu
def Dd:FT:=⟨⟨[.d oC,.d qP],[]⟩,⟨[.d .bool],[]⟩,dV [(9,(.j ⟨[],[4],⟨[.d .bool],[]⟩,[]⟩)),(15,(.j ⟨[],[4],⟨[.d .bool],[]⟩,[]⟩)),(30,(.j ⟨[6],[2,3,59],⟨qQ,af8⟩,[]⟩)),(37,(.j ⟨[],[4],⟨[.d .bool],[]⟩,[]⟩)),(40,(.j ⟨[6],[2,3,78],⟨qQ,af8⟩,[]⟩)),(55,(.j ⟨[],[4],⟨[.d .bool],[]⟩,[]⟩)),(58,(.j ⟨[6],[2,3,98],⟨qQ,af8⟩,[]⟩)),(72,(.j ⟨[6],[2,3,108],⟨qQ,af8⟩,[]⟩)),(97,(.j ⟨[],[4],⟨[.d .bool],[]⟩,[]⟩)),(103,(.j ⟨[],[4],⟨[.d .bool],[]⟩,[]⟩))]⟩
def OD:cq:=cn Dd lX
def wB:FT:=⟨⟨[.d oC,.d aL,.d wO],[]⟩,⟨[.d .bool],[]⟩,dV [(5,(.j ⟨[1,7],[3,5,26],⟨qQ,abs⟩,[]⟩)),(16,(.j ⟨[1,7],[3,5,8],⟨xG,abs⟩,[]⟩)),(28,(.j ⟨[1,7,8],[3,5,9,67],⟨DM,aj7⟩,[]⟩)),(36,(.j ⟨[1,7,8],[3,5,9,100],⟨DM,aj7⟩,[]⟩)),(44,(.j ⟨[1,7,8],[3,5,9,122],⟨DM,aj7⟩,[]⟩)),(56,(.j ⟨[1,7,8,10],[3,5,11],⟨xG,abs⟩,[]⟩))]⟩
def EW:cq:=cn wB iv
def JD:FT:=⟨⟨[.d uz],[]⟩,⟨[.d .bool],[]⟩,dV [(3,(.j ⟨[],[1,17],⟨hX,[.cells 112 [.d uz]]⟩,[]⟩)),(14,(.j ⟨[],[1,3],⟨wN,[.cells 112 [.d uz]]⟩,[]⟩))]⟩
def UN:cq:=cn JD jJ
def De:FT:=⟨⟨[.ptr 0 0,.d qP],La5⟩,⟨[],La4⟩,.leaf⟩
def OE:cq:=cn De cD
def qF:FT:=⟨⟨[.ptr 0 0,.d .ex,.d aL],La5⟩,⟨[],La4⟩,dV [(2,(.j ⟨[],[],⟨[],La4⟩,[]⟩))]⟩
def J0:cq:=cn qF iM
def Iu (n:Nat):cq:=cn qF (iN n)
def xV:FT:=⟨⟨[.ptr 0 0,.d .sm],La5⟩,⟨[],La4⟩,.leaf⟩
def G0:cq:=cn xV md
def AJ:FT:=⟨⟨[.ptr 0 0,.d .str],La5⟩,⟨[.d aL],La5⟩,dV [(6,(.j ⟨[1],[0,5],⟨wN,La5⟩,[]⟩))]⟩
def Ly:cq:=cn AJ jy
def qG:FT:=⟨⟨[.ptr 0 0,.d (.sl .sm)],La5⟩,⟨[],La4⟩,dV [(1,(.a [.ren 0 7])),(3,(.j ⟨[1],[0,4],⟨wN,La4⟩,[]⟩))]⟩
def J1:cq:=cn qG t_
def Iv (n:Nat):cq:=cn qG (dL n)
def vA:FT:=⟨⟨[.ptr 0 0,.d .sm],La5⟩,⟨[],La4⟩,dV [(1,(.a [.ren 0 7])),(10,(.j ⟨[],[],⟨[],La4⟩,[]⟩)),(15,(.j ⟨[4,25],[0,3,31],⟨[.ptr 0 0,.ptr 2 0,.d .bool],[.cells 206 [.d (.sl kN),.d (.sl rL),.d (.sl mj),.d (.sl .str),.d (.sl .str),.d (.sl pA),.d (.sl .str),.row 3,.d aL,.d aL],.gone,.cells 220 [.d .sm],.rows 210 J qP]⟩,[]⟩))]⟩
def K7 (n:Nat):cq:=cn vA (eR n)
def qH:FT:=⟨⟨[.ptr 0 0,.d .sm],La5⟩,⟨[],La4⟩,.leaf⟩
def CC (n:Nat):cq:=cn qH (c8 n)
def sR:FT:=⟨⟨[.ptr 0 0,.d .sm,.d aL,.d aL,.d aL],La5⟩,⟨[],La4⟩,.leaf⟩
def GA (n:Nat):cq:=cn sR (dG n)
def Df:FT:=⟨⟨[.d M7],[]⟩,⟨[.d uz,.d aL,.d aL],[]⟩,dV [(20,(.j ⟨[],[1,2,7,8,9],⟨[.ptr 0 0,.ptr 1 0,.ptr 2 0,.d aL,.d aL],[.cells 159 [.d M7],.cells 112 abm,.cells 112 [.d (.sl kN),.d (.sl rL),.d (.sl mj),.d (.sl .str),.d (.sl .str),.d (.sl pA),.row 3],.rows 193 J wO]⟩,[.cel 7 6 193 wO]⟩)),(32,(.a [.cel 10 7 210 qP])),(45,(.j ⟨[8,9],[1,2,7,10,11,12],⟨aj4,amv⟩,[]⟩)),(59,(.j ⟨[8,9,12,13],[1,2,7,10,11,14],⟨aj4,amv⟩,[]⟩))]⟩
def OF:cq:=cn Df qm
def Re:FT:=⟨⟨Hb,[]⟩,⟨[.d .bool],[]⟩,dV [(6,(.j ⟨[0,1],[5],⟨[.d aL],[]⟩,[]⟩))]⟩
def aah:cq:=cn Re ql
def Rd:FT:=⟨⟨Hb,[]⟩,⟨qY,[]⟩,dV [(6,(.j ⟨[0,1],[5],⟨[.d aL],[]⟩,[]⟩)),(8,(.j ⟨[0,1,5],[18],⟨[.d .bool],[]⟩,[]⟩)),(16,(.j ⟨[0,1,5],[32],⟨[.d .bool],[]⟩,[]⟩))]⟩
def aag:cq:=cn Rd vW
def Jx:FT:=⟨⟨[.d (.sl aL),.d (.sl aL)],[]⟩,⟨qY,[]⟩,dV [(8,(.j ⟨[0,1],[5,6],⟨Hb,[]⟩,[]⟩)),(23,(.j ⟨[1],[5,7],⟨Hb,[]⟩,[]⟩))]⟩
def UH:cq:=cn Jx rm
def AH:FT:=⟨⟨[.d aL],[]⟩,⟨[.d aL],[]⟩,dV [(3,(.j ⟨[0],[8],⟨[.d .bool],[]⟩,[]⟩))]⟩
def Lx:cq:=cn AH mo
def MN:FT:=⟨⟨[.d eX],[]⟩,⟨[.agg af5],abu⟩,dV [(8,(.j ⟨[],[1,2,3,4],⟨Fd,[.cells 197 [.d eX],.cells 197 W7,.cells 197 [.d aL,.row 3,.row 4,.d aL],.rows 2 J aL,.rows 36 J (.sl aL)]⟩,[.cel 3 2 36 (.sl aL)]⟩))]⟩
def X4:cq:=cn MN ch
def MM:FT:=⟨⟨[.d qP,.agg af5],abu⟩,⟨[.agg af5,.d .bool],abu⟩,dV [(8,(.j ⟨[6],[2,3,4,7],⟨[.ptr 2 0,.ptr 3 0,.ptr 4 0,.d aL],ajf⟩,[]⟩)),(17,(.j ⟨[6,7],[2,3,4,33],⟨[.ptr 2 0,.ptr 3 0,.ptr 4 0,.d .bool],ajf⟩,[]⟩)),(32,(.j ⟨[],[2,3,4,8,9,10],⟨[.ptr 2 0,.ptr 3 0,.ptr 4 0,.d aL,.d .bool,.d (.sl aL)],ajf⟩,[]⟩))]⟩
def X3:cq:=cn MM vV
def F9:FT:=⟨⟨[.d wO,.d eX],[]⟩,⟨[.d eX,.d .bool],[]⟩,dV [(3,(.j ⟨[],[2,3,4,23],⟨DM,[.cells 193 [.d wO],.cells 197 [.d eX],.cells 197 W7]⟩,[]⟩)),(16,(.j ⟨[],[2,3,4,6],⟨Fd,amm⟩,[]⟩)),(26,(.j ⟨[6],[2,3,4,44],⟨DM,amm⟩,[]⟩))]⟩
def RL:cq:=cn F9 nl
def Jv:FT:=⟨⟨[.d oC],[]⟩,⟨[.d Hd],[]⟩,dV [(8,(.j ⟨[],[1,2,3,4],⟨Fd,[.cells 31 [.d oC],.cells 96 B4,.cells 96 [.row 3,.d aL,.nil,.nil],.rows 176 J ec]⟩,[.cel 3 0 176 ec]⟩)),(23,(.j ⟨[],[1,2,3,5],⟨Fd,[.cells 31 [.d oC],.cells 96 B4,.cells 96 [.row 3,.d aL,.row 4,.nil],.rows 176 J ec,.rows 4 J .bool]⟩,[.cel 3 2 4 .bool]⟩)),(38,(.j ⟨[],[1,2,3,6],⟨Fd,[.cells 31 [.d oC],.cells 96 B4,.cells 96 abp,.rows 176 J ec,.rows 4 J .bool,.rows 178 J ij]⟩,[.cel 3 3 178 ij]⟩)),(49,(.j ⟨[6],[1,2,3,7],⟨abr,[.cells 31 [.d oC],.cells 96 B4,.cells 96 [.row 4,.d aL,.row 5,.row 6],.cells 178 [.d ij],.rows 176 J ec,.rows 4 J .bool,.rows 178 J ij]⟩,[]⟩))]⟩
def UF:cq:=cn Jv rj
def MJ:FT:=⟨⟨[.d oC,.d Hd],[]⟩,⟨[.d .bool],[]⟩,dV [(6,(.j ⟨[],[2,3,5],⟨xG,Vv⟩,[]⟩)),(15,(.j ⟨[5],[2,3,31],⟨qQ,Vv⟩,[]⟩)),(23,(.j ⟨[],[4],⟨[.d .bool],[]⟩,[]⟩))]⟩
def X1:cq:=cn MJ rk
def Ww:FT:=⟨⟨vC,[]⟩,⟨[.d .bool],[]⟩,dV [(2,(.j ⟨[],[4],⟨[.d .bool],[]⟩,[]⟩))]⟩
def ae9:cq:=cn Ww qj
def Ju:FT:=⟨⟨[.d oC,.d aL,.d aL],[]⟩,⟨[.d .bool],[]⟩,dV [(6,(.j ⟨[2,7],[3,8],⟨hX,pW⟩,[]⟩)),(36,(.j ⟨[2,7],[3,18],⟨hX,pW⟩,[]⟩)),(46,(.j ⟨[2,7],[3,26],⟨hX,pW⟩,[]⟩)),(53,(.j ⟨[],[6],⟨[.d .bool],[]⟩,[]⟩)),(56,(.j ⟨[2,7],[3,43],⟨hX,pW⟩,[]⟩)),(71,(.j ⟨[],[6],⟨[.d .bool],[]⟩,[]⟩)),(74,(.j ⟨[2,7],[3,61],⟨hX,pW⟩,[]⟩)),(92,(.j ⟨[2,7],[3,71],⟨hX,pW⟩,[]⟩)),(102,(.j ⟨[2],[3,79],⟨hX,pW⟩,[]⟩))]⟩
def UE:cq:=cn Ju t8
def Dc:FT:=⟨⟨[.d oC,.d Hd,.d aL,.d aL,.d aL],[]⟩,⟨[.d .bool],[]⟩,dV [(3,(.j ⟨[2,3,4],[5,6,30],⟨qQ,Vv⟩,[]⟩)),(25,(.j ⟨[],[10],⟨[.d .bool],[]⟩,[]⟩)),(50,(.j ⟨[],[10],⟨[.d .bool],[]⟩,[]⟩)),(56,(.j ⟨[],[10],⟨[.d .bool],[]⟩,[]⟩)),(59,(.j ⟨[2,4,70],[5,6,11,119],⟨DM,[.cells 31 [.d oC],.cells 96 [.d Hd],.cells 178 [.d ij]]⟩,[]⟩)),(99,(.j ⟨[2,4,70],[5,6,160],⟨qQ,Vv⟩,[]⟩)),(116,(.j ⟨[],[10],⟨[.d .bool],[]⟩,[]⟩)),(122,(.j ⟨[],[10],⟨[.d .bool],[]⟩,[]⟩))]⟩
def OC:cq:=cn Dc kn
def Db:FT:=⟨⟨[.d Hd,.d aL],[]⟩,⟨qY,[]⟩,dV [(8,(.j ⟨[1],[2,5,6],⟨Ss,abq⟩,[.nil 5 3 aL]⟩)),(16,(.j ⟨[1,6],[2,5],⟨[.ptr 0 0,.row 1],abq⟩,[]⟩)),(17,(.j ⟨[1,6],[2,5,30],⟨[.ptr 0 0,.row 1,.d .bool],abq⟩,[]⟩))]⟩
def OA:cq:=cn Db nO
def Da:FT:=⟨⟨Hb,[]⟩,⟨qY,[]⟩,dV [(8,(.j ⟨[0,1],[5,6],⟨[.row 0,.d aL],[.rows 3 J aL]⟩,[.nil 5 3 aL]⟩)),(16,(.j ⟨[0,1,6],[5],⟨[.row 0],[.rows 3 J aL]⟩,[]⟩))]⟩
def Oz:cq:=cn Da qi
def ML:FT:=⟨⟨[.d Hd],[]⟩,⟨[.agg Hc],aj6⟩,dV [(8,(.j ⟨[],[1,2,3,4],⟨Fd,[.cells 96 [.d Hd],.cells 96 B4,.cells 96 abp,.rows 176 J ec,.rows 4 J .bool,.rows 178 J ij]⟩,[.cel 3 0 176 ec]⟩))]⟩
def X2:cq:=cn ML iu
def mB:FT:=⟨⟨[.agg Hc,.d aL],aj6⟩,⟨qY,aj6⟩,dV [(8,(.j ⟨[1],[2,5,6],⟨[.ptr 3 0,.row 4,.d aL],ajb⟩,[.nil 5 3 aL]⟩)),(16,(.j ⟨[1,6],[2,5],⟨[.ptr 3 0,.row 4],ajb⟩,[]⟩)),(17,(.j ⟨[1,6],[2,5,30],⟨[.ptr 3 0,.row 4,.d .bool],ajb⟩,[]⟩))]⟩
def Lw:cq:=cn mB mn
def JZ:cq:=⟨mB.pre,⟨mB.post.vs,[]⟩,jI⟩
def Jw:FT:=⟨⟨[.d oC,.d Hd,.d aL,.d aL,.d aL,.d aL],[]⟩,⟨[.d Hd,.d aL,.d .bool],[]⟩,dV [(17,(.j ⟨[],[7,12,15],⟨xG,ajd⟩,[]⟩)),(26,(.j ⟨[2,4,5,15,30],[6,7,12,45],⟨DM,amn⟩,[]⟩)),(34,(.j ⟨[2,4,5,15,30],[6,7,12,54],⟨DM,amn⟩,[]⟩)),(90,(.j ⟨[],[7,12,17],⟨xG,ajd⟩,[]⟩)),(109,(.j ⟨[18],[7,12,19],⟨xG,ajd⟩,[]⟩))]⟩
def UG:cq:=cn Jw pj
def Jt:FT:=⟨⟨[.d uz],[]⟩,⟨[.d vF],[]⟩,dV [(16,(.j ⟨[],[1,2,3,4],⟨Fd,[.cells 112 [.d uz],.cells 107 vD,.cells 107 [.d (.sl ec),.d aL,.d pY,.d (.sl ij),.row 3,.nil,.nil],.rows 2 J aL]⟩,[.cel 3 4 2 aL]⟩)),(31,(.j ⟨[],[1,2,3,5],⟨Fd,[.cells 112 [.d uz],.cells 107 vD,.cells 107 [.d (.sl ec),.d aL,.d pY,.d (.sl ij),.row 3,.row 4,.nil],.rows 2 J aL,.rows 2 J aL]⟩,[.cel 3 5 2 aL]⟩)),(46,(.j ⟨[],[1,2,3,6],⟨Fd,[.cells 112 [.d uz],.cells 107 vD,.cells 107 ajc,.rows 2 J aL,.rows 2 J aL,.rows 197 J eX]⟩,[.cel 3 6 197 eX]⟩))]⟩
def UD:cq:=cn Jt t7
def MI:FT:=⟨⟨[.d uz,.d vF],[]⟩,⟨[.d .bool],[]⟩,dV [(3,(.j ⟨[],[2,3,46],⟨qQ,abt⟩,[]⟩)),(14,(.j ⟨[],[2,3,5],⟨xG,abt⟩,[]⟩)),(25,(.j ⟨[5],[2,3,97],⟨qQ,abt⟩,[]⟩))]⟩
def XZ:cq:=cn MI vU
def MG:FT:=⟨⟨[.d aL],[]⟩,⟨[.d aL],[]⟩,dV [(5,(.j ⟨[0],[3,10],⟨[.row 0,.d .bool],[.rows 3 af aL]⟩,[]⟩))]⟩
def XX:cq:=cn MG vS
def FK:FT:=⟨⟨[.d qP,.d eX],[]⟩,⟨[.d aL],[]⟩,dV [(6,(.j ⟨[6],[2,3,7],⟨qQ,[.cells 210 [.d qP],.cells 197 [.d eX]]⟩,[]⟩)),(28,(.j ⟨[],[2,40],⟨hX,[.cells 210 [.d qP]]⟩,[]⟩))]⟩
def Rq:cq:=cn FK sd
def C':FT:=⟨⟨[.d uz,.d vF,.d aL],[]⟩,⟨[.d kh,.d .bool],[]⟩,dV [(3,(.j ⟨[2],[3,4,6,25],⟨DM,[.cells 112 [.d uz],.cells 107 [.d vF],.cells 57 uI]⟩,[]⟩)),(54,(.j ⟨[],[6,8,9,10],⟨abr,amk⟩,[.cel 10 5 3 aL]⟩)),(59,(.j ⟨[],[6,8,9,10,98],⟨zI,[.cells 57 uI,.cells 197 [.d eX],.cells 210 [.d qP],.cells 57 uI]⟩,[]⟩)),(68,(.j ⟨[],[6,10],⟨[.ptr 0 0,.ptr 1 0],[.cells 57 uI,.cells 57 [.d aL,.d aL,.d aL,.d aL,.d aL,.row 2,.row 3],.rows 3 J aL,.rows 3 J aL]⟩,[.cel 10 6 3 aL]⟩)),(69,(.j ⟨[],[6,8,9,10,123],⟨zI,amk⟩,[]⟩))]⟩
def Oy:cq:=cn C' nN
def Jr:FT:=⟨⟨[.d oC],[]⟩,⟨[.d iU],[]⟩,dV [(8,(.j ⟨[],[1,2,3,4],⟨Fd,[.cells 31 [.d oC],.cells 99 vD,.cells 99 ajc,.rows 2 J aL,.rows 2 af aL,.rows 3 af aL]⟩,[.cel 3 4 2 aL]⟩))]⟩
def UB:cq:=cn Jr mW
def MF:FT:=⟨⟨[.d oC,.d iU],[]⟩,⟨[.d .bool],[]⟩,dV [(2,(.j ⟨[],[4],⟨[.d .bool],[]⟩,[]⟩))]⟩
def XW:cq:=cn MF vR
def Wv:FT:=⟨⟨vC,[]⟩,⟨[.d .bool],[]⟩,dV [(2,(.j ⟨[],[4],⟨[.d .bool],[]⟩,[]⟩))]⟩
def ae8:cq:=cn Wv Cx
def C_:FT:=⟨⟨Hb,[]⟩,⟨[.d .bool],[]⟩,dV [(6,(.j ⟨[0,1],[5],⟨[.d aL],[]⟩,[]⟩)),(15,(.j ⟨[0,1,5],[40],⟨[.d .bool],[]⟩,[]⟩))]⟩
def Ox:cq:=cn C_ nM
def Jp:FT:=⟨⟨[.d iU,.d kh],[]⟩,⟨[.d .bool],[]⟩,dV [(21,(.j ⟨[],[4],⟨[.d .bool],[]⟩,[]⟩)),(24,(.j ⟨[7],[2,3,40],⟨qQ,[.cells 99 [.d iU],.cells 57 [.d kh]]⟩,[]⟩)),(47,(.j ⟨[],[4],⟨[.d .bool],[]⟩,[]⟩))]⟩
def Uz:cq:=cn Jp tY
def MD:FT:=⟨⟨[.d oC,.d iU,.d kh],[]⟩,⟨[.d iU,.d .bool],[]⟩,dV [(3,(.j ⟨[],[3,4,5,6,46],⟨zI,Ky⟩,[]⟩)),(10,(.j ⟨[],[3,4,5,6],⟨abr,Ky⟩,[]⟩)),(11,(.j ⟨[],[3,4,5,6,55],⟨zI,Ky⟩,[]⟩)),(21,(.j ⟨[],[3,4,5,6,78],⟨zI,Ky⟩,[]⟩)),(28,(.j ⟨[],[3,4,5,6,8],⟨zI,Ky⟩,[]⟩)),(31,(.j ⟨[],[3,4,5,6,110],⟨zI,Ky⟩,[]⟩)),(39,(.j ⟨[],[3,4,5,6,125],⟨zI,Ky⟩,[]⟩)),(47,(.j ⟨[],[3,4,5,6,154],⟨zI,Ky⟩,[]⟩)),(58,(.j ⟨[],[3,4,5,6,9,10],⟨aj4,[.cells 31 [.d oC],.cells 99 [.d iU],.cells 57 [.d kh],.cells 99 vD,.cells 99 [.nil,.d aL,.nil,.nil,.row 5,.row 6,.row 7],.rows 2 J aL,.rows 2 J aL,.rows 3 J aL]⟩,[]⟩)),(66,(.j ⟨[],[5,6,9],⟨[.ptr 0 0,.ptr 1 0,.ptr 2 0],aj2⟩,[]⟩)),(72,(.j ⟨[],[5,6,9],⟨[.ptr 0 0,.ptr 1 0,.ptr 2 0],aj2⟩,[]⟩))]⟩
def XV:cq:=cn MD ri
def Jq:FT:=⟨⟨[.d (.sl kh),.d aL,.d aL,.d (.sl aL)],[]⟩,⟨[.d .bool],[]⟩,dV [(6,(.j ⟨[0,1,2,3],[9],⟨[.d aL],[]⟩,[]⟩)),(23,(.j ⟨[0,1,2,3,9],[10,11,12],⟨[.d aL,.d .bool,.d aL],[]⟩,[]⟩)),(31,(.j ⟨[0,1,2,3,9,12],[10,11],⟨[.d aL,.d .bool],[]⟩,[]⟩)),(38,(.j ⟨[0,1,2,3,9,10,12],[11],⟨[.d .bool],[]⟩,[]⟩))]⟩
def UA:cq:=cn Jq rh
def Js:FT:=⟨⟨[.d og],[]⟩,⟨vC,[]⟩,dV [(24,(.j ⟨[],[1,4,5],⟨xG,[.cells 34 [.d og],.cells 99 [.d iU]]⟩,[]⟩)),(38,(.j ⟨[5],[1,4,7,63],⟨DM,[.cells 34 [.d og],.cells 99 [.d iU],.cells 99 [.d iU]]⟩,[]⟩))]⟩
def UC:cq:=cn Js tZ
def F8:FT:=⟨⟨[.d vF],[]⟩,⟨[.agg [.agg Hc,.row 3,.row 4,.csl 5 4 1]],[.rows 176 J ec,.rows 4 J .bool,.rows 178 J ij,.rows 2 J aL,.rows 2 J aL,.cells 197 [.d aL,.row 6,.row 7,.d aL],.rows 2 J aL,.rows 36 J (.sl aL)]⟩,dV [(8,(.u 2))]⟩
def RK:cq:=cn F8 nk
def FX:FT:=⟨⟨LU,[]⟩,⟨LV,[]⟩,dV [(27,(.s 5 0 0 1)),(37,(.j ⟨[],[3,4,5,6,7,9,14,15,16],⟨LZ,ajo⟩,[]⟩)),(38,(.j ⟨[16,77],[3,4,5,6,7,9,14,15,78],⟨M6,ajo⟩,[]⟩)),(83,(.j ⟨[16],[3,4,5,6,7,9,14],⟨LX,[.cells 112 [.d uz],.cells 107 ah2,.cells 162 [.d jw],.cells 107 vD,.cells 57 uI,.cells 57 [.d kh],.cells 197 Kw,.rows 2 J aL,.rows 2 J aL,.cells 197 Kw,.rows 2 J aL,.rows 36 J (.sl aL)]⟩,[]⟩)),(84,(.j ⟨[16],[3,4,5,6,7,9,14,15,154],⟨M6,ajo⟩,[]⟩)),(95,(.j ⟨[],[4,5,6,7,9,14],⟨LW,[.cells 107 [.d (.sl ec),.d aL,.d pY,.d (.sl ij),.row 6,.row 7,.csl 8 4 1],.cells 162 [.d jw],.cells 107 vD,.cells 57 uI,.cells 57 [.d kh],.cells 197 [.d eX],.rows 2 J aL,.rows 2 J aL,.cells 197 [.d eX]]⟩,[]⟩)),(96,(.j ⟨[],[3,4,5,6,7,9,14,183],⟨LY,[.cells 112 [.d uz],.cells 107 ah2,.cells 162 [.d jw],.cells 107 vD,.cells 57 uI,.cells 57 [.d kh],.cells 197 Kx,.rows 2 J aL,.rows 2 J aL,.cells 197 Kx]⟩,[]⟩)),(102,(.s 5 0 0 1)),(104,(.a [.pk 4 6 eX]))]⟩
def RA:cq:=cn FX gh
def F7:FT:=⟨⟨[.d vF],[]⟩,⟨[.agg [.agg Hc,.row 3,.row 4,.csl 5 4 2]],[.rows 176 J ec,.rows 4 J .bool,.rows 178 J ij,.rows 2 J aL,.rows 2 J aL,.cells 197 [.d aL,.row 6,.row 7,.d aL,.d eX],.rows 2 J aL,.rows 36 J (.sl aL)]⟩,dV [(8,(.u 3))]⟩
def RJ:cq:=cn F7 nj
def FW:FT:=⟨⟨LU,[]⟩,⟨LV,[]⟩,dV [(27,(.s 5 0 0 1)),(37,(.j ⟨[],[3,4,5,6,7,9,14,15,16],⟨LZ,ajq⟩,[]⟩)),(38,(.j ⟨[16,77],[3,4,5,6,7,9,14,15,78],⟨M6,ajq⟩,[]⟩)),(83,(.j ⟨[16],[3,4,5,6,7,9,14],⟨LX,[.cells 112 [.d uz],.cells 107 afc,.cells 162 [.d jw],.cells 107 vD,.cells 57 uI,.cells 57 [.d kh],.cells 197 Kw,.rows 2 J aL,.rows 2 J aL,.cells 197 [.d aL,.row 10,.row 11,.d aL,.d eX],.rows 2 J aL,.rows 36 J (.sl aL)]⟩,[]⟩)),(84,(.j ⟨[16],[3,4,5,6,7,9,14,15,154],⟨M6,ajq⟩,[]⟩)),(95,(.j ⟨[],[4,5,6,7,9,14],⟨LW,amu⟩,[]⟩)),(96,(.j ⟨[],[3,4,5,6,7,9,14,183],⟨LY,[.cells 112 [.d uz],.cells 107 afc,.cells 162 [.d jw],.cells 107 vD,.cells 57 uI,.cells 57 [.d kh],.cells 197 Kx,.rows 2 J aL,.rows 2 J aL,.cells 197 [.d aL,.d (.sl aL),.d vE,.d aL,.d eX]]⟩,[]⟩)),(102,(.s 5 0 0 1)),(104,(.a [.pk 4 6 eX]))]⟩
def Rz:cq:=cn FW gE
def F6:FT:=⟨⟨[.d vF],[]⟩,⟨[.agg [.agg Hc,.row 3,.row 4,.csl 5 4 2]],[.rows 176 J ec,.rows 4 J .bool,.rows 178 J ij,.rows 2 J aL,.rows 2 J aL,.cells 197 [.d eX,.d aL,.row 6,.row 7,.d aL],.rows 2 J aL,.rows 36 J (.sl aL)]⟩,dV [(8,(.u 3))]⟩
def RI:cq:=cn F6 nh
def FU:FT:=⟨⟨LU,[]⟩,⟨LV,[]⟩,dV [(27,(.s 5 0 1 1)),(37,(.j ⟨[],[3,4,5,6,7,9,14,15,16],⟨LZ,ajp⟩,[]⟩)),(38,(.j ⟨[16,77],[3,4,5,6,7,9,14,15,78],⟨M6,ajp⟩,[]⟩)),(83,(.j ⟨[16],[3,4,5,6,7,9,14],⟨LX,[.cells 112 [.d uz],.cells 107 afc,.cells 162 [.d jw],.cells 107 vD,.cells 57 uI,.cells 57 [.d kh],.cells 197 Kw,.rows 2 J aL,.rows 2 J aL,.cells 197 [.d eX,.d aL,.row 10,.row 11,.d aL],.rows 2 J aL,.rows 36 J (.sl aL)]⟩,[]⟩)),(84,(.j ⟨[16],[3,4,5,6,7,9,14,15,154],⟨M6,ajp⟩,[]⟩)),(95,(.j ⟨[],[4,5,6,7,9,14],⟨LW,amu⟩,[]⟩)),(96,(.j ⟨[],[3,4,5,6,7,9,14,183],⟨LY,[.cells 112 [.d uz],.cells 107 afc,.cells 162 [.d jw],.cells 107 vD,.cells 57 uI,.cells 57 [.d kh],.cells 197 Kx,.rows 2 J aL,.rows 2 J aL,.cells 197 [.d eX,.d aL,.d (.sl aL),.d vE,.d aL]]⟩,[]⟩)),(102,(.s 5 0 1 1)),(104,(.a [.pk 4 6 eX]))]⟩
def Ry:cq:=cn FU gg
def F5:FT:=⟨⟨[.d vF],[]⟩,⟨aj1,[.rows 176 J ec,.rows 4 J .bool,.rows 178 J ij,.rows 2 J aL,.rows 2 J aL,.cells 197 [.d aL,.row 6,.row 7,.d aL,.d eX,.d eX],.rows 2 J aL,.rows 36 J (.sl aL)]⟩,dV [(8,(.u 4))]⟩
def RH:cq:=cn F5 ng
def FR:FT:=⟨⟨LU,[]⟩,⟨LV,[]⟩,dV [(27,(.s 5 0 0 1)),(37,(.j ⟨[],[3,4,5,6,7,9,14,15,16],⟨LZ,ajt⟩,[]⟩)),(38,(.j ⟨[16,77],[3,4,5,6,7,9,14,15,78],⟨M6,ajt⟩,[]⟩)),(83,(.j ⟨[16],[3,4,5,6,7,9,14],⟨LX,[.cells 112 [.d uz],.cells 107 YF,.cells 162 [.d jw],.cells 107 vD,.cells 57 uI,.cells 57 [.d kh],.cells 197 Kw,.rows 2 J aL,.rows 2 J aL,.cells 197 [.d aL,.row 10,.row 11,.d aL,.d eX,.d eX],.rows 2 J aL,.rows 36 J (.sl aL)]⟩,[]⟩)),(84,(.j ⟨[16],[3,4,5,6,7,9,14,15,154],⟨M6,ajt⟩,[]⟩)),(95,(.j ⟨[],[4,5,6,7,9,14],⟨LW,ajj⟩,[]⟩)),(96,(.j ⟨[],[3,4,5,6,7,9,14,183],⟨LY,[.cells 112 [.d uz],.cells 107 YF,.cells 162 [.d jw],.cells 107 vD,.cells 57 uI,.cells 57 [.d kh],.cells 197 Kx,.rows 2 J aL,.rows 2 J aL,.cells 197 [.d aL,.d (.sl aL),.d vE,.d aL,.d eX,.d eX]]⟩,[]⟩)),(102,(.s 5 0 0 1)),(104,(.a [.pk 4 6 eX]))]⟩
def Rx:cq:=cn FR jx
def F4:FT:=⟨⟨[.d vF],[]⟩,⟨aj1,[.rows 176 J ec,.rows 4 J .bool,.rows 178 J ij,.rows 2 J aL,.rows 2 J aL,.cells 197 [.d eX,.d aL,.row 6,.row 7,.d aL,.d eX],.rows 2 J aL,.rows 36 J (.sl aL)]⟩,dV [(8,(.u 4))]⟩
def RG:cq:=cn F4 ne
def FP:FT:=⟨⟨LU,[]⟩,⟨LV,[]⟩,dV [(27,(.s 5 0 1 1)),(37,(.j ⟨[],[3,4,5,6,7,9,14,15,16],⟨LZ,ajs⟩,[]⟩)),(38,(.j ⟨[16,77],[3,4,5,6,7,9,14,15,78],⟨M6,ajs⟩,[]⟩)),(83,(.j ⟨[16],[3,4,5,6,7,9,14],⟨LX,[.cells 112 [.d uz],.cells 107 YF,.cells 162 [.d jw],.cells 107 vD,.cells 57 uI,.cells 57 [.d kh],.cells 197 Kw,.rows 2 J aL,.rows 2 J aL,.cells 197 [.d eX,.d aL,.row 10,.row 11,.d aL,.d eX],.rows 2 J aL,.rows 36 J (.sl aL)]⟩,[]⟩)),(84,(.j ⟨[16],[3,4,5,6,7,9,14,15,154],⟨M6,ajs⟩,[]⟩)),(95,(.j ⟨[],[4,5,6,7,9,14],⟨LW,ajj⟩,[]⟩)),(96,(.j ⟨[],[3,4,5,6,7,9,14,183],⟨LY,[.cells 112 [.d uz],.cells 107 YF,.cells 162 [.d jw],.cells 107 vD,.cells 57 uI,.cells 57 [.d kh],.cells 197 Kx,.rows 2 J aL,.rows 2 J aL,.cells 197 [.d eX,.d aL,.d (.sl aL),.d vE,.d aL,.d eX]]⟩,[]⟩)),(102,(.s 5 0 1 1)),(104,(.a [.pk 4 6 eX]))]⟩
def Rw:cq:=cn FP iL
def F3:FT:=⟨⟨[.d vF],[]⟩,⟨aj1,[.rows 176 J ec,.rows 4 J .bool,.rows 178 J ij,.rows 2 J aL,.rows 2 J aL,.cells 197 [.d eX,.d eX,.d aL,.row 6,.row 7,.d aL],.rows 2 J aL,.rows 36 J (.sl aL)]⟩,dV [(8,(.u 4))]⟩
def RF:cq:=cn F3 m_
def FO:FT:=⟨⟨LU,[]⟩,⟨LV,[]⟩,dV [(27,(.s 5 0 2 1)),(37,(.j ⟨[],[3,4,5,6,7,9,14,15,16],⟨LZ,ajr⟩,[]⟩)),(38,(.j ⟨[16,77],[3,4,5,6,7,9,14,15,78],⟨M6,ajr⟩,[]⟩)),(83,(.j ⟨[16],[3,4,5,6,7,9,14],⟨LX,[.cells 112 [.d uz],.cells 107 YF,.cells 162 [.d jw],.cells 107 vD,.cells 57 uI,.cells 57 [.d kh],.cells 197 Kw,.rows 2 J aL,.rows 2 J aL,.cells 197 [.d eX,.d eX,.d aL,.row 10,.row 11,.d aL],.rows 2 J aL,.rows 36 J (.sl aL)]⟩,[]⟩)),(84,(.j ⟨[16],[3,4,5,6,7,9,14,15,154],⟨M6,ajr⟩,[]⟩)),(95,(.j ⟨[],[4,5,6,7,9,14],⟨LW,ajj⟩,[]⟩)),(96,(.j ⟨[],[3,4,5,6,7,9,14,183],⟨LY,[.cells 112 [.d uz],.cells 107 YF,.cells 162 [.d jw],.cells 107 vD,.cells 57 uI,.cells 57 [.d kh],.cells 197 Kx,.rows 2 J aL,.rows 2 J aL,.cells 197 [.d eX,.d eX,.d aL,.d (.sl aL),.d vE,.d aL]]⟩,[]⟩)),(102,(.s 5 0 2 1)),(104,(.a [.pk 4 6 eX]))]⟩
def Rv:cq:=cn FO ic
def F1:FT:=⟨⟨[.d vF],[]⟩,⟨afb,[.rows 176 J ec,.rows 4 J .bool,.rows 178 J ij,.rows 2 J aL,.rows 2 J aL,.cells 197 [.d aL,.row 6,.row 7,.d aL,.d eX,.d eX,.d eX],.rows 2 J aL,.rows 36 J (.sl aL)]⟩,dV [(8,(.u 5))]⟩
def RE:cq:=cn F1 m8
def dC:FT:=⟨⟨LU,[]⟩,⟨LV,[]⟩,dV [(27,(.s 5 0 0 1)),(37,(.j ⟨[],[3,4,5,6,7,9,14,15,16],⟨LZ,ajn⟩,[]⟩)),(38,(.j ⟨[16,77],[3,4,5,6,7,9,14,15,78],⟨M6,ajn⟩,[]⟩)),(83,(.j ⟨[16],[3,4,5,6,7,9,14],⟨LX,[.cells 112 [.d uz],.cells 107 Su,.cells 162 [.d jw],.cells 107 vD,.cells 57 uI,.cells 57 [.d kh],.cells 197 Kw,.rows 2 J aL,.rows 2 J aL,.cells 197 [.d aL,.row 10,.row 11,.d aL,.d eX,.d eX,.d eX],.rows 2 J aL,.rows 36 J (.sl aL)]⟩,[]⟩)),(84,(.j ⟨[16],[3,4,5,6,7,9,14,15,154],⟨M6,ajn⟩,[]⟩)),(95,(.j ⟨[],[4,5,6,7,9,14],⟨LW,afd⟩,[]⟩)),(96,(.j ⟨[],[3,4,5,6,7,9,14,183],⟨LY,[.cells 112 [.d uz],.cells 107 Su,.cells 162 [.d jw],.cells 107 vD,.cells 57 uI,.cells 57 [.d kh],.cells 197 Kx,.rows 2 J aL,.rows 2 J aL,.cells 197 [.d aL,.d (.sl aL),.d vE,.d aL,.d eX,.d eX,.d eX]]⟩,[]⟩)),(102,(.s 5 0 0 1)),(104,(.a [.pk 4 6 eX]))]⟩
def Ru:cq:=cn dC mY
def F0:FT:=⟨⟨[.d vF],[]⟩,⟨afb,[.rows 176 J ec,.rows 4 J .bool,.rows 178 J ij,.rows 2 J aL,.rows 2 J aL,.cells 197 [.d eX,.d aL,.row 6,.row 7,.d aL,.d eX,.d eX],.rows 2 J aL,.rows 36 J (.sl aL)]⟩,dV [(8,(.u 5))]⟩
def RD:cq:=cn F0 m7
def FN:FT:=⟨⟨LU,[]⟩,⟨LV,[]⟩,dV [(27,(.s 5 0 1 1)),(37,(.j ⟨[],[3,4,5,6,7,9,14,15,16],⟨LZ,ajm⟩,[]⟩)),(38,(.j ⟨[16,77],[3,4,5,6,7,9,14,15,78],⟨M6,ajm⟩,[]⟩)),(83,(.j ⟨[16],[3,4,5,6,7,9,14],⟨LX,[.cells 112 [.d uz],.cells 107 Su,.cells 162 [.d jw],.cells 107 vD,.cells 57 uI,.cells 57 [.d kh],.cells 197 Kw,.rows 2 J aL,.rows 2 J aL,.cells 197 [.d eX,.d aL,.row 10,.row 11,.d aL,.d eX,.d eX],.rows 2 J aL,.rows 36 J (.sl aL)]⟩,[]⟩)),(84,(.j ⟨[16],[3,4,5,6,7,9,14,15,154],⟨M6,ajm⟩,[]⟩)),(95,(.j ⟨[],[4,5,6,7,9,14],⟨LW,afd⟩,[]⟩)),(96,(.j ⟨[],[3,4,5,6,7,9,14,183],⟨LY,[.cells 112 [.d uz],.cells 107 Su,.cells 162 [.d jw],.cells 107 vD,.cells 57 uI,.cells 57 [.d kh],.cells 197 Kx,.rows 2 J aL,.rows 2 J aL,.cells 197 [.d eX,.d aL,.d (.sl aL),.d vE,.d aL,.d eX,.d eX]]⟩,[]⟩)),(102,(.s 5 0 1 1)),(104,(.a [.pk 4 6 eX]))]⟩
def Rt:cq:=cn FN mX
def FZ:FT:=⟨⟨[.d vF],[]⟩,⟨afb,[.rows 176 J ec,.rows 4 J .bool,.rows 178 J ij,.rows 2 J aL,.rows 2 J aL,.cells 197 [.d eX,.d eX,.d aL,.row 6,.row 7,.d aL,.d eX],.rows 2 J aL,.rows 36 J (.sl aL)]⟩,dV [(8,(.u 5))]⟩
def RC:cq:=cn FZ m6
def FM:FT:=⟨⟨LU,[]⟩,⟨LV,[]⟩,dV [(27,(.s 5 0 2 1)),(37,(.j ⟨[],[3,4,5,6,7,9,14,15,16],⟨LZ,ajl⟩,[]⟩)),(38,(.j ⟨[16,77],[3,4,5,6,7,9,14,15,78],⟨M6,ajl⟩,[]⟩)),(83,(.j ⟨[16],[3,4,5,6,7,9,14],⟨LX,[.cells 112 [.d uz],.cells 107 Su,.cells 162 [.d jw],.cells 107 vD,.cells 57 uI,.cells 57 [.d kh],.cells 197 Kw,.rows 2 J aL,.rows 2 J aL,.cells 197 [.d eX,.d eX,.d aL,.row 10,.row 11,.d aL,.d eX],.rows 2 J aL,.rows 36 J (.sl aL)]⟩,[]⟩)),(84,(.j ⟨[16],[3,4,5,6,7,9,14,15,154],⟨M6,ajl⟩,[]⟩)),(95,(.j ⟨[],[4,5,6,7,9,14],⟨LW,afd⟩,[]⟩)),(96,(.j ⟨[],[3,4,5,6,7,9,14,183],⟨LY,[.cells 112 [.d uz],.cells 107 Su,.cells 162 [.d jw],.cells 107 vD,.cells 57 uI,.cells 57 [.d kh],.cells 197 Kx,.rows 2 J aL,.rows 2 J aL,.cells 197 [.d eX,.d eX,.d aL,.d (.sl aL),.d vE,.d aL,.d eX]]⟩,[]⟩)),(102,(.s 5 0 2 1)),(104,(.a [.pk 4 6 eX]))]⟩
def Rs:cq:=cn FM lB
def FY:FT:=⟨⟨[.d vF],[]⟩,⟨afb,[.rows 176 J ec,.rows 4 J .bool,.rows 178 J ij,.rows 2 J aL,.rows 2 J aL,.cells 197 [.d eX,.d eX,.d eX,.d aL,.row 6,.row 7,.d aL],.rows 2 J aL,.rows 36 J (.sl aL)]⟩,dV [(8,(.u 5))]⟩
def RB:cq:=cn FY mZ
def FL:FT:=⟨⟨LU,[]⟩,⟨LV,[]⟩,dV [(27,(.s 5 0 3 1)),(37,(.j ⟨[],[3,4,5,6,7,9,14,15,16],⟨LZ,ajk⟩,[]⟩)),(38,(.j ⟨[16,77],[3,4,5,6,7,9,14,15,78],⟨M6,ajk⟩,[]⟩)),(83,(.j ⟨[16],[3,4,5,6,7,9,14],⟨LX,[.cells 112 [.d uz],.cells 107 Su,.cells 162 [.d jw],.cells 107 vD,.cells 57 uI,.cells 57 [.d kh],.cells 197 Kw,.rows 2 J aL,.rows 2 J aL,.cells 197 [.d eX,.d eX,.d eX,.d aL,.row 10,.row 11,.d aL],.rows 2 J aL,.rows 36 J (.sl aL)]⟩,[]⟩)),(84,(.j ⟨[16],[3,4,5,6,7,9,14,15,154],⟨M6,ajk⟩,[]⟩)),(95,(.j ⟨[],[4,5,6,7,9,14],⟨LW,afd⟩,[]⟩)),(96,(.j ⟨[],[3,4,5,6,7,9,14,183],⟨LY,[.cells 112 [.d uz],.cells 107 Su,.cells 162 [.d jw],.cells 107 vD,.cells 57 uI,.cells 57 [.d kh],.cells 197 Kx,.rows 2 J aL,.rows 2 J aL,.cells 197 [.d eX,.d eX,.d eX,.d aL,.d (.sl aL),.d vE,.d aL]]⟩,[]⟩)),(102,(.s 5 0 3 1)),(104,(.a [.pk 4 6 eX]))]⟩
def Rr:cq:=cn FL km
def X0:cq:=cn dC zU
def MH:FT:=⟨⟨[.d uz,.d vF,.nil,.d (.sl jw)],[]⟩,⟨[.d (.sl kh),.d vF],[]⟩,dV [(1,(.a [.nil 2 57 kh])),(6,(.j ⟨[3],[2,4,5,9,10],⟨[.row 0,.ptr 1 0,.ptr 2 0,.ptr 3 0,.d aL],aja⟩,[]⟩)),(8,(.j ⟨[3,10],[2,4,5,9,22],⟨[.row 0,.ptr 1 0,.ptr 2 0,.ptr 3 0,.d .bool],aja⟩,[]⟩)),(14,(.j ⟨[3,10],[2,4,5,9],⟨[.row 0,.ptr 1 0,.ptr 2 0,.ptr 3 0],aja⟩,[]⟩))]⟩
def XY:cq:=cn MH vT
def Rc:FT:=⟨⟨[.d uz,.d (.sl jw)],[]⟩,⟨[.d og,.d vF],[]⟩,.leaf⟩
def aaf:cq:=cn Rc yL
def ya:FT:=⟨⟨wN,Sr⟩,⟨[.d aL],Sr⟩,dV [(3,(.j ⟨[1],[0,18],⟨hX,YC⟩,[]⟩))]⟩
def G7:cq:=cn ya bu
def MQ:FT:=⟨⟨[.d aL],[]⟩,⟨[.d .ex],[]⟩,.leaf⟩
def X_:cq:=cn MQ ry
def JL:FT:=⟨⟨[.d .str],[]⟩,⟨[.d .ex],[]⟩,.leaf⟩
def U2:cq:=cn JL pq
def Dk:FT:=⟨⟨[.d aL,.d .ex,.d .ex],[]⟩,⟨[.d .ex],[]⟩,.leaf⟩
def ON:cq:=cn Dk nR
def Dl:FT:=⟨⟨[.d .str,.d .ex],[]⟩,⟨[.d .sm],[]⟩,.leaf⟩
def OO:cq:=cn Dl jt
def Gj:FT:=⟨⟨[],[]⟩,⟨[.d (.sl Gu)],[]⟩,.leaf⟩
def R3:cq:=cn Gj sk
def AX:FT:=⟨⟨[.d DN],[]⟩,⟨[.d (.sl jw)],[]⟩,dV [(8,(.j ⟨[0],[3,4],⟨[.row 0,.d aL],[.rows 162 J jw]⟩,[.nil 3 162 jw]⟩))]⟩
def LL:cq:=cn AX oM
def od:FT:=⟨⟨wN,Vw⟩,⟨[.d .ex],Vw⟩,dV [(8,(.j ⟨[1,6],[0,4,5,14],⟨[.ptr 0 0,.ptr 3 0,.row 4,.d .bool],[.cells 214 ah1,.cells 90 [.d yp],.rowsP 9 .str,.cells 218 [.d aL,.d aL,.d .str,.nil],.rows 9 af .str]⟩,[]⟩))]⟩
def E3:cq:=cn od fe
def El (n:Nat):cq:=cn od (iy n)
def vb:FT:=⟨⟨[.ptr 0 0,.d .str],Vw⟩,⟨[.d .bool],Vw⟩,.leaf⟩
def DA:cq:=cn vb eQ
def mK:FT:=⟨⟨Sv,Vw⟩,⟨[.row 4],[.cells 214 aj8,.cells 90 Pa,.gone,.rowsP 9 .str,.rows 220 J .sm]⟩,dV [(1,(.a [.ren 0 7])),(8,(.j ⟨[1,2],[0,7,8],⟨[.ptr 0 0,.row 3,.d aL],aml⟩,[.nil 7 220 .sm]⟩)),(10,(.j ⟨[1,2,8],[0,7,22],⟨[.ptr 0 0,.row 3,.d .bool],aml⟩,[]⟩)),(21,(.a [.nil 6 220 .sm]))]⟩
def Dz:cq:=cn mK qn
def CD (n:Nat):cq:=cn mK (dH n)
def rI:FT:=⟨⟨wN,Vw⟩,⟨[.d .sm],[.cells 214 aj8,.cells 90 Pa,.gone,.rowsP 9 .str]⟩,dV [(1,(.a [.ren 0 7])),(6,(.j ⟨[1,5],[0,4,6],⟨Kv,La2⟩,[]⟩)),(28,(.j ⟨[1,5,6],[0,4,74],⟨Kv,La2⟩,[]⟩)),(33,(.j ⟨[],[4,7],⟨[.ptr 3 0,.ptr 4 0],[.cells 214 [.ptr 1 0,.d aL,.d aL,.d .bool,.d .bool,.d .bool,.d .bool,.row 5],.cells 90 [.d yp],.gone,.cells 220 ah4,.cells 220 [.d aL,.d aL,.d .str,.d .str,.nil,.d aL,.d aL,.d .str,.d (.sl .ex),.row 6,.row 7],.rowsP 9 .str,.rows 220 J .sm,.rows 220 J .sm]⟩,[.cel 7 10 220 .sm]⟩)),(42,(.j ⟨[1,5,6],[0,4,100],⟨Kv,La2⟩,[]⟩)),(56,(.j ⟨[1,5,6],[0,4,133],⟨Kv,La2⟩,[]⟩)),(64,(.j ⟨[1,5,6],[0,4,165],⟨Kv,La2⟩,[]⟩)),(70,(.j ⟨[1,5,6],[0,4,188],⟨Kv,La2⟩,[]⟩)),(82,(.j ⟨[1,5,6],[0,4,210],⟨Kv,La2⟩,[]⟩)),(94,(.j ⟨[5,6],[0,4,235],⟨Kv,La2⟩,[]⟩)),(100,(.j ⟨[5],[0,4,258],⟨Kv,La2⟩,[]⟩)),(106,(.j ⟨[5],[0,4,278],⟨Kv,La2⟩,[]⟩)),(114,(.j ⟨[],[0,4,308],⟨Kv,La2⟩,[]⟩))]⟩
def Ek (n:Nat):cq:=cn rI (eJ n)
def qI:FT:=⟨⟨[.ptr 0 0,.d .str,.d aL],Vw⟩,⟨[.d (.sl .sm)],[.cells 214 aj8,.cells 90 Pa,.gone,.rowsP 9 .str]⟩,.leaf⟩
def CE (n:Nat):cq:=cn qI (dY n)
def AW:FT:=⟨⟨[.d DN],[]⟩,⟨[.d M7],[]⟩,dV [(5,(.a [.cel 3 7 9 .str])),(14,(.j ⟨[5],[2,3,4,6,7],⟨[.ptr 0 0,.ptr 1 0,.ptr 2 0,.row 3,.d aL],[.cells 159 [.nil,.nil],.cells 214 [.ptr 4 0,.d aL,.d aL,.d .bool,.d .bool,.d .bool,.d .bool,.row 5],.cells 159 [.d (.sl Gu),.row 6],.rows 9 af .str,.cells 90 [.d yp],.rowsP 9 .str,.rows 204 J sT]⟩,[.cel 4 1 204 sT]⟩)),(27,(.j ⟨[5,7],[2,3,4,6,8],⟨[.ptr 0 0,.ptr 1 0,.ptr 2 0,.row 3,.ptr 4 0],La7⟩,[.cel 8 3 220 .sm]⟩)),(34,(.j ⟨[5,7],[2,3,4,6,8,9],⟨[.ptr 0 0,.ptr 1 0,.ptr 2 0,.row 3,.ptr 4 0,.d aL],La7⟩,[.cel 8 3 220 .sm]⟩)),(48,(.j ⟨[5,7],[2,3,4,6,8],⟨[.ptr 0 0,.ptr 1 0,.ptr 2 0,.row 3,.ptr 4 0],La7⟩,[]⟩)),(49,(.j ⟨[5,7],[2,3,4,6,8,79],⟨[.ptr 0 0,.ptr 1 0,.ptr 2 0,.row 3,.ptr 4 0,.d .bool],La7⟩,[]⟩))]⟩
def LK:cq:=cn AW oL
def JM:FT:=⟨⟨[.d DN],[]⟩,⟨[.d uz],[]⟩,.leaf⟩
def U3:cq:=cn JM xd
def Gk:FT:=⟨⟨[.d DN,.d DN],[]⟩,⟨[.d og],[]⟩,.leaf⟩
def R4:cq:=cn Gk sq
def C8:FT:=⟨⟨[],[]⟩,⟨[.d oC],[]⟩,dV [(8,(.j ⟨[21],[0,1,22],⟨xG,amr⟩,[.cel 1 5 139 pA]⟩)),(22,(.j ⟨[2,21,22],[0,1,3],⟨xG,amr⟩,[]⟩))]⟩
def Ov:cq:=cn C8 nL
def zh:FT:=⟨⟨[.d iU],[]⟩,⟨qY,[]⟩,dV [(8,(.j ⟨[8,9],[3,10],⟨[.row 0,.d aL],[.rows 3 J aL]⟩,[.nil 3 3 aL]⟩)),(16,(.j ⟨[8,9,10],[3],⟨[.row 0],[.rows 3 J aL]⟩,[]⟩))]⟩
def JX:cq:=cn zh k_
def C6:FT:=⟨⟨[],[]⟩,⟨qY,[]⟩,.leaf⟩
def Ot:cq:=cn C6 tj
def AG:FT:=⟨⟨Sv,Sr⟩,⟨[.d aL],Sr⟩,dV [(6,(.j ⟨[2,7],[0,8],⟨hX,YC⟩,[]⟩)),(16,(.j ⟨[2,7],[0,16],⟨hX,YC⟩,[]⟩)),(26,(.j ⟨[2,7],[0,21],⟨hX,YC⟩,[]⟩)),(44,(.j ⟨[2,7],[0,26],⟨hX,YC⟩,[]⟩)),(70,(.j ⟨[2],[0,33],⟨hX,YC⟩,[]⟩))]⟩
def Lv:cq:=cn AG oI
def C5:FT:=⟨⟨[.ptr 0 0,.d iU,.d aL,.d aL],Sr⟩,⟨[.d aL],Sr⟩,dV [(18,(.j ⟨[10],[0,5,24],⟨qQ,[.cells 90 [.d yp],.cells 99 [.d iU]]⟩,[]⟩))]⟩
def Oq:cq:=cn C5 qf
def FH:FT:=⟨⟨[.ptr 0 0,.row 1],[.cells 90 Pa,.rows 3 J aL]⟩,⟨qY,[.cells 90 Pa,.rows 3 J aL]⟩,dV [(8,(.j ⟨[9],[0,1,5,8,10],⟨[.ptr 0 0,.row 1,.row 2,.row 1,.d aL],aj3⟩,[.nil 5 3 aL]⟩)),(16,(.j ⟨[9,10],[0,1,5,8],⟨[.ptr 0 0,.row 1,.row 2,.row 1],aj3⟩,[]⟩)),(19,(.j ⟨[7,9,10],[0,1,5,8,24],⟨[.ptr 0 0,.row 1,.row 2,.row 1,.d .bool],aj3⟩,[]⟩))]⟩
def Rn:cq:=cn FH gD
def C7:FT:=⟨⟨[.ptr 0 0,.d iU,.d oC,.csl 1 1 4],amj⟩,⟨[.d kh],amj⟩,dV [(8,(.j ⟨[9],[0,3,5,6,8,11],⟨[.ptr 0 0,.csl 1 1 4,.ptr 6 0,.ptr 7 0,.ptr 8 0,.ptr 9 0],amp⟩,[]⟩)),(9,(.j ⟨[9],[0,3,5,6,8,11,36],⟨[.ptr 0 0,.csl 1 1 4,.ptr 6 0,.ptr 7 0,.ptr 8 0,.ptr 9 0,.d .bool],amp⟩,[]⟩)),(18,(.j ⟨[9],[0,3,8,11],⟨[.ptr 0 0,.csl 1 1 4,.ptr 6 0,.ptr 7 0],amq⟩,[]⟩)),(19,(.j ⟨[9],[0,3,8,11,74],⟨[.ptr 0 0,.csl 1 1 4,.ptr 6 0,.ptr 7 0,.d .bool],[.cells 90 [.d yp],.cells 36 abl,.rows 3 J aL,.rows 3 J aL,.rows 3 J aL,.rows 3 J aL,.cells 57 uI,.cells 57 uI]⟩,[]⟩)),(22,(.s 9 0 0 4)),(24,(.j ⟨[],[8,11],⟨[.ptr 6 0,.ptr 7 0],[.cells 90 [.d yp],.cells 36 abl,.rows 3 J aL,.rows 3 J aL,.rows 3 J aL,.rows 3 J aL,.cells 57 uI,.cells 57 [.d aL,.d aL,.d aL,.d aL,.d aL,.d (.sl aL),.d (.sl aL)]]⟩,[]⟩)),(25,(.j ⟨[9],[0,3,8,11,89],⟨[.ptr 0 0,.csl 1 1 4,.ptr 6 0,.ptr 7 0,.d .bool],amq⟩,[]⟩)),(28,(.s 9 0 0 4))]⟩
def Ou:cq:=cn C7 qg
def FI:FT:=⟨⟨[.ptr 0 0,.d iU,.d oC,.d aL,.d .bool],Sr⟩,⟨[.d (.sl kh)],Sr⟩,dV [(8,(.a [.cel 12 0 3 aL,.cel 12 1 3 aL,.cel 12 2 3 aL,.cel 12 3 3 aL])),(9,(.j ⟨[3,11],[0,6,7,12],⟨[.ptr 0 0,.ptr 1 0,.ptr 2 0,.csl 3 1 4],ajg⟩,[]⟩)),(10,(.u 5)),(18,(.j ⟨[3,4,11,22,23],[0,6,7,12],⟨[.ptr 0 0,.ptr 1 0,.ptr 2 0,.csl 3 1 4],ajg⟩,[]⟩)),(21,(.j ⟨[3,4,11,13,22,23],[0,6,7,12,39],⟨[.ptr 0 0,.ptr 1 0,.ptr 2 0,.csl 3 1 4,.d .bool],ajg⟩,[]⟩)),(29,(.j ⟨[3],[0,6,7,11,12],⟨[.ptr 0 0,.ptr 1 0,.ptr 2 0,.row 3,.csl 4 1 4],ajh⟩,[.nil 11 57 kh]⟩)),(31,(.j ⟨[3],[0,6,7,11,12,65],⟨[.ptr 0 0,.ptr 1 0,.ptr 2 0,.row 3,.csl 4 1 4,.d .bool],ajh⟩,[]⟩)),(36,(.j ⟨[3],[0,6,7,11,12],⟨[.ptr 0 0,.ptr 1 0,.ptr 2 0,.row 3,.csl 4 1 4],ajh⟩,[]⟩)),(47,(.j ⟨[3],[0,6,7,11,12,14,15],⟨[.ptr 0 0,.ptr 1 0,.ptr 2 0,.row 3,.csl 4 1 4,.ptr 5 0,.ptr 6 0],ams⟩,[]⟩)),(48,(.j ⟨[3],[0,6,7,11,12,14,15,87],⟨[.ptr 0 0,.ptr 1 0,.ptr 2 0,.row 3,.csl 4 1 4,.ptr 5 0,.ptr 6 0,.d .bool],ams⟩,[]⟩)),(51,(.s 14 0 0 4))]⟩
def Ro:cq:=cn FI sa
def C9:FT:=⟨⟨Pa,[]⟩,⟨[.d og],[]⟩,dV [(2,(.j ⟨[1],[0,4],⟨[.d DN,.ptr 0 0],[.cells 34 abm]⟩,[]⟩)),(22,(.j ⟨[1,9],[4,5,6,7,8,10],⟨[.ptr 0 0,.ptr 1 0,.ptr 2 0,.ptr 3 0,.row 4,.d aL],[.cells 34 abm,.cells 90 [.d yp],.cells 34 [.d (.sl kN),.d (.sl rL),.d (.sl mj),.d (.sl .str),.d (.sl .str),.d (.sl pA),.nil],.cells 99 [.d iU],.rows 57 af kh]⟩,[]⟩)),(37,(.j ⟨[1,48],[4,5,6,7,47,49],⟨[.ptr 0 0,.ptr 1 0,.ptr 2 0,.ptr 3 0,.row 4,.d aL],amt⟩,[.cel 6 6 57 kh]⟩)),(45,(.j ⟨[1,48,49],[4,5,6,7,47],⟨[.ptr 0 0,.ptr 1 0,.ptr 2 0,.ptr 3 0,.row 4],amt⟩,[]⟩))]⟩
def Ow:cq:=cn C9 qh
def wA:FT:=⟨⟨[.d (.st (.pr DN (.pr DN DN))),.d aL],[]⟩,⟨[.d og],[]⟩,.leaf⟩
def EU:cq:=cn wA lh
theorem Li:aH Pg 174 LD:=mk AO kE an b_
theorem IL:aH Pg 149 J3:=mk zk jL (ac Li an) b_
theorem Fy:aH Pg 148 RX:=mk Gh lE an b_
theorem Uk:aH Pg 175 UX:=mk JK ru an b_
theorem Uj:aH Pg 150 UW:=mk JJ po (ac Fy (ac Uk an)) b_
theorem sw:aH Pg 119 RY:=mk Gi fk (ac Fy (ac IL (ac Uj an))) b_
theorem IK:aH Pg 227 UO:=mk JE f_ an b_
theorem Uc:aH Pg 211 UP:=mk JF ub (ac IK an) b_
theorem QI:aH Pg 213 RP:=mk Gb sj (ac IK an) b_
theorem Ud:aH Pg 210 UQ:=mk JG rn an b_
theorem Lh:aH Pg 234 LC:=mk AM mw an b_
theorem wj:∀n:Nat,aH Pg 228 (GF n)
 |0=>Mj o9
 |n+1=>mk o9 (mh (ii n)) (ac sw (ac (wj n) (ac Lh an))) b_
theorem xN:aH Pg 228 G3:=(wj fuel)
theorem Ui:aH Pg 229 UV:=mk JI pn an b_
theorem rD:∀n:Nat,aH Pg 214 (GD n)/\aH Pg 184 (Ej n)
 |0=>⟨Mj sS,Mj oc⟩
 |n+1=>⟨mk sS (kg (eE n) (dD n)) (ac sw (ac (rD n).2 (ac xN (ac Ui an)))) b_,mk oc (jA (eE n) (dD n)) (ac (rD n).1 an) b_⟩
theorem Ez:aH Pg 184 EY:=(rD fuel).2
theorem GM:aH Pg 183 G2:=mk xX kc (ac sw an) b_
theorem QK:aH Pg 157 RW:=mk Gg pK (ac sw (ac GM (ac Ez an))) b_
theorem uV:aH Pg 120 aec:=mk Wz ja an b_
theorem uU:aH Pg 185 RU:=mk Gf ig an b_
theorem vx:aH Pg 186 LB:=mk AL gV an b_
theorem QJ:aH Pg 230 RQ:=mk Ge pJ (ac uV (ac uU (ac vx an))) b_
theorem Mu:aH Pg 217 X5:=mk MO gF (ac QJ an) b_
theorem FB:∀n:Nat,aH Pg 231 (TX n)
 |0=>Mj xx
 |n+1=>mk xx (uk (nC n)) (ac (FB n) an) b_
theorem Ug:aH Pg 231 UT:=(FB fuel)
theorem FA:∀n:Nat,aH Pg 232 (TW n)
 |0=>Mj xw
 |n+1=>mk xw (uj (nB n)) (ac Mu (ac (FA n) an)) b_
theorem Ue:aH Pg 232 UR:=(FA fuel)
theorem XB:aH Pg 218 X6:=mk MP mr (ac xN (ac Ug (ac Ue an))) b_
theorem N_:aH Pg 219 OH:=mk Dh c5 an b_
theorem adp:aH Pg 216 aeb:=mk Wy i_ an b_
theorem Ey:aH Pg 215 EX:=mk wC dW an b_
theorem Lf:aH Pg 187 Lz:=mk AK mq (ac uV (ac uU (ac vx (ac Ey (ac adp (ac Mu (ac XB (ac N_ an)))))))) b_
theorem yV:∀n:Nat,aH Pg 161 (K9 n)
 |0=>Mj rY
 |n+1=>mk rY (mA (iH n)) (ac (yV n) (ac Lf an)) b_
theorem Lg:aH Pg 161 LA:=(yV fuel)
theorem FC:∀n:Nat,aH Pg 160 (TY n)
 |0=>Mj xy
 |n+1=>mk xy (ul (nD n)) (ac (FC n) an) b_
theorem Uh:aH Pg 160 UU:=(FC fuel)
theorem Uf:aH Pg 158 US:=mk JH rq (ac uU an) b_
theorem N9:aH Pg 159 OG:=mk Dg nP (ac uV (ac uU (ac vx an))) b_
theorem xh:aH Pg 123 OJ:=mk Di fx (ac QK (ac Uf (ac N9 (ac Uh (ac Lg an))))) b_
theorem Fz:∀n:Nat,aH Pg 163 (TU n)
 |0=>Mj xv
 |n+1=>mk xv (xj (px n)) (ac (Fz n) an) b_
theorem T8:aH Pg 163 UI:=(Fz fuel)
theorem Fv:aH Pg 162 RM:=mk F_ ko an b_
theorem Fx:aH Pg 220 RO:=mk Ga lD an b_
theorem Ub:aH Pg 124 UM:=mk JB ua (ac xh (ac Fv (ac T8 an))) b_
theorem T9:aH Pg 118 UJ:=mk Jy pl an b_
theorem xM:aH Pg 79 G1:=mk xW ie (ac T9 (ac sw (ac uV an))) b_
theorem uh:aH Pg 127 J2:=mk zj jK an b_
theorem Fw:aH Pg 177 RN:=mk F' pI an b_
theorem T_:aH Pg 152 UK:=mk Jz pm (ac Fw an) b_
theorem N7:aH Pg 153 aea:=mk Wx js an b_
theorem Ua:aH Pg 176 UL:=mk JA nu (ac N7 an) b_
theorem N6:aH Pg 151 OD:=mk Dd lX (ac N7 (ac Ua an)) b_
theorem Ew:aH Pg 121 EW:=mk wB iv (ac uh (ac N6 (ac T_ (ac N7 an)))) b_
theorem BQ:aH Pg 81 UN:=mk JD jJ (ac xM (ac Ew an)) b_
theorem nX:aH Pg 126 OE:=mk De cD an b_
theorem xP:∀n:Nat,aH Pg 192 (Iu n)
 |0=>Mj qF
 |n+1=>mk qF (qz (iN n)) (ac uV (ac nX (ac (xP n) (ac Fx an)))) b_
theorem ug:aH Pg 192 J0:=(xP fuel)
theorem GJ:aH Pg 188 G0:=mk xV md (ac uV (ac nX (ac ug (ac Fx an)))) b_
theorem Ld:aH Pg 191 Ly:=mk AJ jy an b_
theorem kf:∀n:Nat,aH Pg 125 (Iv n)/\aH Pg 164 (K7 n)/\aH Pg 189 (CC n)/\aH Pg 190 (GA n)
 |0=>⟨Mj qG,Mj vA,Mj qH,Mj sR⟩
 |n+1=>⟨mk qG (qA (dL n) (eR n) (c8 n) (dG n)) (ac (kf n).2.1 an) b_,mk vA (rW (dL n) (eR n) (c8 n) (dG n)) (ac uV (ac nX (ac Fv (ac GJ (ac (kf n).2.2.1 (ac (kf n).2.2.2 (ac Ld (ac ug an)))))))) b_,mk qH (mG (dL n) (eR n) (c8 n) (dG n)) (ac (kf n).1 (ac nX (ac ug an))) b_,mk sR (oZ (dL n) (eR n) (c8 n) (dG n)) (ac (kf n).1 (ac nX an)) b_⟩
theorem IJ:aH Pg 125 J1:=(kf fuel).1
theorem N8:aH Pg 84 OF:=mk Df qm (ac xh (ac Ub (ac IJ (ac nX (ac uh an))))) b_
theorem II:aH Pg 109 aah:=mk Re ql an b_
theorem Z2:aH Pg 146 aag:=mk Rd vW an b_
theorem IH:aH Pg 112 UH:=mk Jx rm (ac Z2 an) b_
theorem Lc:aH Pg 212 Lx:=mk AH mo an b_
theorem ll:aH Pg 181 X4:=mk MN ch an b_
theorem XA:aH Pg 182 X3:=mk MM vV (ac IH (ac uh (ac Uc (ac Lc (ac QI an))))) b_
theorem jz:aH Pg 156 RL:=mk F9 nl (ac Fw (ac ll (ac XA an))) b_
theorem IG:aH Pg 71 UF:=mk Jv rj an b_
theorem Ev:aH Pg 106 X1:=mk MJ rk an b_
theorem Wi:aH Pg 107 ae9:=mk Ww qj an b_
theorem T7:aH Pg 108 UE:=mk Ju t8 (ac Wi an) b_
theorem CK:aH Pg 74 OC:=mk Dc kn (ac Ev (ac Wi (ac T7 (ac II an)))) b_
theorem N5:aH Pg 110 OA:=mk Db nO an b_
theorem N3:aH Pg 113 Oz:=mk Da qi an b_
theorem lj:aH Pg 111 X2:=mk ML iu an b_
theorem Lb:aH Pg 110 Lw:=mk mB mn an b_
theorem IF:aH Pg 110 JZ:= @aH.ro Pg 110 mB.pre mB.post.vs mn jI (Lb.holds rfl) rfl (λx _ h=>by rw[show jI x=av (mn x) λy=>same y.2 x.2 (M y.1) from rfl]at h;exact h)
theorem jN:aH Pg 77 UG:=mk Jw pj (ac CK (ac II (ac IF (ac lj (ac IH (ac N3 an)))))) b_
theorem T6:aH Pg 83 UD:=mk Jt t7 (ac IG (ac BQ an)) b_
theorem Xy:aH Pg 178 XZ:=mk MI vU (ac BQ (ac Ev an)) b_
theorem Xw:aH Pg 179 XX:=mk MG vS an b_
theorem Qj:aH Pg 180 Rq:=mk FK sd (ac Ud an) b_
theorem iG:aH Pg 154 Oy:=mk C' nN (ac Xy (ac Xw (ac Qj an))) b_
theorem IE:aH Pg 39 UB:=mk Jr mW (ac IG an) b_
theorem Xv:aH Pg 72 XW:=mk MF vR (ac Ev an) b_
theorem ado:aH Pg 73 ae8:=mk Wv Cx an b_
theorem N2:aH Pg 75 Ox:=mk C_ nM an b_
theorem T3:aH Pg 76 Uz:=mk Jp tY (ac II (ac N5 an)) b_
theorem Eu:aH Pg 41 XV:=mk MD ri (ac Xv (ac ado (ac CK (ac N2 (ac T3 (ac jN an)))))) b_
theorem T4:aH Pg 80 UA:=mk Jq rh an b_
theorem T5:aH Pg 43 UC:=mk Js tZ (ac IE (ac Eu (ac xM (ac T4 an)))) b_
def L4 (t:TypeId):I Ty:=if aA t 197 then M (.pr .un eX) else b_ t
theorem QH:aH Pg 155 RK:=mk F8 nk (ac lj (ac ll an)) L4
theorem Qt:aH Pg 122 RA:=mk FX gh (ac jN (ac iG (ac QH (ac jz an)))) L4
theorem QF:aH Pg 155 RJ:=mk F7 nj (ac lj (ac ll an)) L4
theorem Qs:aH Pg 122 Rz:=mk FW gE (ac jN (ac iG (ac QF (ac jz an)))) L4
theorem QE:aH Pg 155 RI:=mk F6 nh (ac lj (ac ll an)) L4
theorem Qr:aH Pg 122 Ry:=mk FU gg (ac jN (ac iG (ac QE (ac jz an)))) L4
theorem QD:aH Pg 155 RH:=mk F5 ng (ac lj (ac ll an)) L4
theorem Qq:aH Pg 122 Rx:=mk FR jx (ac jN (ac iG (ac QD (ac jz an)))) L4
theorem Qz:aH Pg 155 RG:=mk F4 ne (ac lj (ac ll an)) L4
theorem Qp:aH Pg 122 Rw:=mk FP iL (ac jN (ac iG (ac Qz (ac jz an)))) L4
theorem Qy:aH Pg 155 RF:=mk F3 m_ (ac lj (ac ll an)) L4
theorem Qo:aH Pg 122 Rv:=mk FO ic (ac jN (ac iG (ac Qy (ac jz an)))) L4
theorem Qx:aH Pg 155 RE:=mk F1 m8 (ac lj (ac ll an)) L4
theorem Qn:aH Pg 122 Ru:=mk dC mY (ac jN (ac iG (ac Qx (ac jz an)))) L4
theorem Qw:aH Pg 155 RD:=mk F0 m7 (ac lj (ac ll an)) L4
theorem Qm:aH Pg 122 Rt:=mk FN mX (ac jN (ac iG (ac Qw (ac jz an)))) L4
theorem Qv:aH Pg 155 RC:=mk FZ m6 (ac lj (ac ll an)) L4
theorem Ql:aH Pg 122 Rs:=mk FM lB (ac jN (ac iG (ac Qv (ac jz an)))) L4
theorem Qu:aH Pg 155 RB:=mk FY mZ (ac lj (ac ll an)) L4
theorem Qk:aH Pg 122 Rr:=mk FL km (ac jN (ac iG (ac Qu (ac jz an)))) L4
theorem Xz:aH Pg 122 X0:=(aH.orE (pre:=dC.pre) (post:=dC.post) (m:=mY) (m':=(λx=>orE (mX x) ((λx=>orE (lB x) ((λx=>orE (km x) ((λx=>orE (jx x) ((λx=>orE (iL x) ((λx=>orE (ic x) ((λx=>orE (gE x) ((λx=>orE (gg x) (gh x)) x)) x)) x)) x)) x)) x)) x))) rfl Qn (aH.orE (pre:=dC.pre) (post:=dC.post) (m:=mX) (m':=(λx=>orE (lB x) ((λx=>orE (km x) ((λx=>orE (jx x) ((λx=>orE (iL x) ((λx=>orE (ic x) ((λx=>orE (gE x) ((λx=>orE (gg x) (gh x)) x)) x)) x)) x)) x)) x))) rfl Qm (aH.orE (pre:=dC.pre) (post:=dC.post) (m:=lB) (m':=(λx=>orE (km x) ((λx=>orE (jx x) ((λx=>orE (iL x) ((λx=>orE (ic x) ((λx=>orE (gE x) ((λx=>orE (gg x) (gh x)) x)) x)) x)) x)) x))) rfl Ql (aH.orE (pre:=dC.pre) (post:=dC.post) (m:=km) (m':=(λx=>orE (jx x) ((λx=>orE (iL x) ((λx=>orE (ic x) ((λx=>orE (gE x) ((λx=>orE (gg x) (gh x)) x)) x)) x)) x))) rfl Qk (aH.orE (pre:=dC.pre) (post:=dC.post) (m:=jx) (m':=(λx=>orE (iL x) ((λx=>orE (ic x) ((λx=>orE (gE x) ((λx=>orE (gg x) (gh x)) x)) x)) x))) rfl Qq (aH.orE (pre:=dC.pre) (post:=dC.post) (m:=iL) (m':=(λx=>orE (ic x) ((λx=>orE (gE x) ((λx=>orE (gg x) (gh x)) x)) x))) rfl Qp (aH.orE (pre:=dC.pre) (post:=dC.post) (m:=ic) (m':=(λx=>orE (gE x) ((λx=>orE (gg x) (gh x)) x))) rfl Qo (aH.orE (pre:=dC.pre) (post:=dC.post) (m:=gE) (m':=(λx=>orE (gg x) (gh x))) rfl Qs (aH.orE (pre:=dC.pre) (post:=dC.post) (m:=gg) (m':=gh) rfl Qr Qt)))))))))
theorem Xx:aH Pg 82 XY:=mk MH vT (ac Xz an) b_
theorem Z1:aH Pg 44 aaf:=mk Rc yL (ac BQ (ac Xx (ac T6 an))) b_
theorem fM:aH Pg 40 G7:=mk ya bu an b_
theorem EB:aH Pg 131 X_:=mk MQ ry an b_
theorem IW:aH Pg 195 U2:=mk JL pq an b_
theorem CR:aH Pg 194 ON:=mk Dk nR an b_
theorem CS:aH Pg 130 OO:=mk Dl jt an b_
theorem QM:aH Pg 128 R3:=mk Gj sk an b_
theorem Lo:aH Pg 46 LL:=mk AX oM an b_
theorem uW:∀n:Nat,aH Pg 193 (El n)
 |0=>Mj od
 |n+1=>mk od (nZ (iy n)) (ac fM (ac EB (ac (uW n) (ac CR (ac IW an))))) b_
theorem EC:aH Pg 193 E3:=(uW fuel)
theorem CQ:aH Pg 196 DA:=mk vb eQ (ac uV an) b_
theorem jO:∀n:Nat,aH Pg 129 (CD n)/\aH Pg 165 (Ek n)/\aH Pg 197 (CE n)
 |0=>⟨Mj mK,Mj rI,Mj qI⟩
 |n+1=>⟨mk mK (mI (dH n) (eJ n) (dY n)) (ac (jO n).2.1 an) b_,mk rI (nY (dH n) (eJ n) (dY n)) (ac fM (ac (jO n).1 (ac CS (ac EB (ac EC (ac CR (ac IW (ac CQ (ac (jO n).2.2 an))))))))) b_,mk qI (mJ (dH n) (eJ n) (dY n)) (ac fM (ac (jO n).1 an)) b_⟩
theorem CP:aH Pg 129 Dz:=(jO fuel).1
theorem Ln:aH Pg 85 LK:=mk AW oL (ac fM (ac xh (ac QM (ac CP (ac CS (ac EB an)))))) b_
theorem Um:aH Pg 45 U3:=mk JM xd (ac N8 (ac Ln an)) b_
theorem QN:aH Pg 21 R4:=mk Gk sq (ac Z1 (ac Um (ac Lo an))) b_
theorem NY:aH Pg 38 Ov:=mk C8 nL an b_
theorem IB:aH Pg 147 JX:=mk zh k_ an b_
theorem NU:aH Pg 114 Ot:=mk C6 tj an b_
theorem La:aH Pg 115 Lv:=mk AG oI (ac fM an) b_
theorem NT:aH Pg 116 Oq:=mk C5 qf (ac fM (ac IB an)) b_
theorem Qg:aH Pg 117 Rn:=mk FH gD (ac fM an) b_
theorem NX:aH Pg 78 Ou:=mk C7 qg (ac fM (ac NU (ac La (ac NT (ac Qg an))))) b_
def tv1 (t:TypeId):I Ty:=if aA t 36 then M (.pr .un (.pr .un (.pr .un (.pr .un (.pr .un (.sl aL)))))) else b_ t
theorem Qh:aH Pg 42 Ro:=mk FI sa (ac fM (ac Eu (ac NX an))) tv1
theorem NZ:aH Pg 20 Ow:=mk C9 qh (ac NY (ac IE (ac fM (ac Eu (ac Qh (ac T5 an)))))) b_
theorem Et:aH Pg 7 EU:=mk wA lh (ac NZ (ac QN an)) b_
abbrev aj0:Y PV:=[.row 1,.row 2,.row 3,.row 4,.row 5,.row 6,.d (.sl aL),.row 7,.row 8]
abbrev Ld0:Y PB:=[.cells 78 aj0,.rows 36 af (.sl aL),.rows 36 af (.sl aL),.rows 36 af (.sl aL),.rows 36 af (.sl aL),.rows 36 af (.sl aL),.rows 36 af (.sl aL),.rows 36 af (.sl aL),.rows 3 J aL,.rows 3 af aL]
abbrev Ld4:Y PV:=[.d aL,.d aL,.d aL,.d aL,.d aL,.d (.sl aL),.d (.sl aL)]
abbrev Ld3:Y PV:=[.d (.sl kN),.d (.sl rL),.d (.sl mj),.d (.sl .str),.d (.sl .str),.d (.sl pA)]
abbrev Ld1:Y PB:=[.cells 57 Ld4,.cells 78 [.row 3,.row 4,.row 5,.row 6,.row 7,.row 8,.d (.sl aL),.row 9,.row 10],.cells 31 Ld3,.rows 36 af (.sl aL),.rows 36 af (.sl aL),.rows 36 af (.sl aL),.rows 36 af (.sl aL),.rows 36 af (.sl aL),.rows 36 af (.sl aL),.rows 36 af (.sl aL),.rows 3 J aL]
abbrev Ld2:Y PB:=[.cells 78 aj0,.rows 36 af (.sl aL),.rows 36 af (.sl aL),.rows 36 af (.sl aL),.rows 36 af (.sl aL),.rows 36 af (.sl aL),.rows 36 af (.sl aL),.rows 36 af (.sl aL),.rows 3 J aL,.rows 3 af aL,.cells 57 Ld4]
abbrev Ld5:Y PB:=[.rows 176 af ec,.rows 4 J .bool,.rows 178 J ij,.cells 96 Hc]
abbrev Ld6:Y PB:=[.rows 176 af ec,.rows 4 J .bool,.rows 178 J ij]
abbrev W6:Y PB:=[.rows 3 J aL]
abbrev Ld8:Y PB:=[.cells 99 [.d iU],.cells 57 [.d kh],.cells 226 [.d Kd1]]
abbrev Ld9:Y PB:=[.rows 3 J aL,.cells 3 [.d aL]]
abbrev amg:Y PB:=[.cells 31 [.d oC],.cells 96 [.row 4,.d aL,.row 5,.row 6],.cells 3 [.d aL],.cells 96 B4,.rows 176 af ec,.rows 4 J .bool,.rows 178 J ij]
abbrev O9:Y PB:=[.rows 3 af aL]
abbrev amf:Y PB:=[.cells 96 B4,.cells 96 [.row 2,.d aL,.row 3,.row 4],.rows 176 af ec,.rows 4 af .bool,.rows 178 af ij]
abbrev Sq:Y PV:=[.row 0,.d aL]
abbrev abk:Y PB:=[.rows 36 af (.sl aL)]
abbrev aiz:Y PB:=[.rows 36 af (.sl aL),.rows 3 af aL]
abbrev YB:Y PB:=[.cells 57 [.d kh]]
abbrev af4:Y PV:=[.d (.sl aL),.d (.sl aL)]
abbrev aiy:Y PV:=[.ptr 0 0,.ptr 1 0,.ptr 2 0]
def MU:FT:=⟨⟨Hb,[]⟩,⟨[.d aL],[]⟩,dV [(3,(.j ⟨[0,1],[12],⟨[.d .bool],[]⟩,[]⟩))]⟩
def Ye:cq:=cn MU gG
def Gn:FT:=⟨⟨af4,[]⟩,⟨qY,[]⟩,dV [(8,(.j ⟨[0,1,14],[5,15],⟨Sq,O9⟩,[]⟩))]⟩
def R9:cq:=cn Gn lG
def Wu:FT:=⟨⟨Hb,[]⟩,⟨[.d aL],[]⟩,dV [(3,(.j ⟨[0,1],[12],⟨[.d .bool],[]⟩,[]⟩))]⟩
def ae7:cq:=cn Wu Hs
def WA:FT:=⟨⟨qY,[]⟩,⟨qY,[]⟩,.leaf⟩
def DE:cq:=cn WA NJ
def ai2:cq:=⟨DE.pre,DE.post,BH⟩
def JO:FT:=⟨⟨[.d vE],[]⟩,⟨[.row 0],abk⟩,dV [(8,(.j ⟨[9,10],[3,11],⟨Sq,abk⟩,[]⟩))]⟩
def U5:cq:=cn JO iw
def Rl:FT:=⟨⟨qY,[]⟩,⟨[.row 0],W6⟩,dV [(8,(.a [.nil 2 3 aL])),(12,(.a [.nil 2 3 aL]))]⟩
def zE:cq:=cn Rl Ip
def aek:cq:=⟨zE.pre,zE.post,oY⟩
def JP:FT:=⟨⟨[.d Kd0],[]⟩,⟨[.agg [.row 0,.row 1,.row 2,.row 3,.row 4,.row 5,.d (.sl aL),.row 6,.row 7]],[.rows 36 af (.sl aL),.rows 36 af (.sl aL),.rows 36 af (.sl aL),.rows 36 af (.sl aL),.rows 36 af (.sl aL),.rows 36 af (.sl aL),.rows 36 af (.sl aL),.rows 3 J aL]⟩,.leaf⟩
def U6:cq:=cn JP ud
def MR:FT:=⟨⟨Sq,abk⟩,⟨qY,abk⟩,dV [(3,(.j ⟨[1],[0,12],⟨[.row 0,.d .bool],abk⟩,[]⟩))]⟩
def X':cq:=cn MR tM
def JQ:FT:=⟨⟨aiy,Ld1⟩,⟨[.d vE],Ld1⟩,dV [(18,(.j ⟨[6],[0,1,2,25],⟨DM,Ld1⟩,[]⟩))]⟩
def U7:cq:=cn JQ ue
def MT:FT:=⟨⟨[.d oC],[]⟩,⟨[.d Kd0],[]⟩,dV [(8,(.j ⟨[40],[2,3,41],⟨xG,[.cells 78 [.nil,.nil,.nil,.nil,.nil,.nil,.nil,.nil,.nil],.cells 78 [.row 2,.row 3,.row 4,.row 5,.row 6,.row 7,.nil,.row 8,.row 9],.rows 36 af (.sl aL),.rows 36 af (.sl aL),.rows 36 af (.sl aL),.rows 36 af (.sl aL),.rows 36 af (.sl aL),.rows 36 af (.sl aL),.rows 36 af (.sl aL),.rows 3 af aL]⟩,[]⟩))]⟩
def Yb:cq:=cn MT pM
def Gm:FT:=⟨⟨Hb,[]⟩,⟨[.row 0],O9⟩,dV [(4,(.j ⟨[0,1,5],[6],⟨[.d .bool],[]⟩,[]⟩)),(6,(.j ⟨[0,1,6],[5],⟨[.d aL],[]⟩,[]⟩)),(16,(.j ⟨[],[7],⟨[.row 0],O9⟩,[]⟩)),(17,(.j ⟨[1],[7,33],⟨[.row 0,.d .bool],O9⟩,[]⟩))]⟩
def R8:cq:=cn Gm su
def wE:FT:=⟨⟨[.row 0],O9⟩,⟨qY,O9⟩,.leaf⟩
def aat:cq:=cn wE v7
def aej:cq:=⟨wE.pre,⟨wE.post.vs,[]⟩,uQ⟩
def Ab:FT:=⟨⟨[.d (.sl aL),.row 0],O9⟩,⟨qY,O9⟩,dV [(8,(.j ⟨[0,14],[1,5,15],⟨[.row 0,.row 1,.d aL],[.rows 3 af aL,.rows 3 af aL]⟩,[]⟩))]⟩
def aeh:cq:=cn Ab tw
def ai1:cq:=⟨Ab.pre,⟨Ab.post.vs,[]⟩,BG⟩
def JN:FT:=⟨⟨[.row 0,.d aL,.row 1],aiz⟩,⟨[],aiz⟩,dV [(0,(.j ⟨[1],[0,2,13],⟨[.row 0,.row 1,.d .bool],aiz⟩,[]⟩))]⟩
def U4:cq:=cn JN lY
def Rf:FT:=⟨⟨[.ptr 0 0,.d aL,.row 9],Ld0⟩,⟨[],Ld0⟩,.leaf⟩
def aao:cq:=cn Rf vX
def MS:FT:=⟨⟨[.d oC,.ptr 0 0,.d kh,.row 9],Ld0⟩,⟨[],Ld0⟩,dV [(6,(.j ⟨[],[],⟨[],Ld0⟩,[]⟩)),(11,(.j ⟨[20],[1,3,4,6,32],⟨[.ptr 0 0,.row 9,.ptr 10 0,.ptr 11 0,.d .bool],[.cells 78 aj0,.rows 36 af (.sl aL),.rows 36 af (.sl aL),.rows 36 af (.sl aL),.rows 36 af (.sl aL),.rows 36 af (.sl aL),.rows 36 af (.sl aL),.rows 36 af (.sl aL),.rows 3 J aL,.rows 3 af aL,.cells 31 Ld3,.cells 57 Ld4]⟩,[]⟩)),(48,(.j ⟨[],[1,3,6,129],⟨[.ptr 0 0,.row 9,.ptr 10 0,.d .bool],Ld2⟩,[]⟩)),(59,(.j ⟨[141],[1,3,6,140,142],⟨[.ptr 0 0,.row 9,.ptr 10 0,.row 8,.d aL],Ld2⟩,[]⟩)),(67,(.j ⟨[141,142],[1,3,6,140],⟨[.ptr 0 0,.row 9,.ptr 10 0,.row 8],Ld2⟩,[]⟩))]⟩
def Ya:cq:=cn MS rz
def Rg:FT:=⟨⟨[.d oC,.d Kd0,.d kh],[]⟩,⟨[.d Kd0,.row 0],O9⟩,dV [(14,(.j ⟨[22,23],[3,5,6,7,24],⟨[.ptr 0 0,.ptr 1 0,.ptr 2 0,.ptr 3 0,.d aL],[.cells 31 Ld3,.cells 57 Ld4,.cells 78 [.row 4,.row 5,.row 6,.row 7,.row 8,.row 9,.d (.sl aL),.row 10,.row 11],.cells 36 qY,.rows 36 af (.sl aL),.rows 36 af (.sl aL),.rows 36 af (.sl aL),.rows 36 af (.sl aL),.rows 36 af (.sl aL),.rows 36 af (.sl aL),.rows 36 af (.sl aL),.rows 3 J aL]⟩,[]⟩))]⟩
def aap:cq:=cn Rg sr
def Rb:FT:=⟨⟨af4,[]⟩,⟨[.d .bool],[]⟩,dV [(6,(.j ⟨[0,1],[5],⟨[.d aL],[]⟩,[]⟩))]⟩
def aae:cq:=cn Rb vQ
def MC:FT:=⟨⟨af4,[]⟩,⟨[.d .bool],[]⟩,dV [(2,(.j ⟨[],[4],⟨[.d .bool],[]⟩,[]⟩))]⟩
def XU:cq:=cn MC Ee
def wz:FT:=⟨⟨[.d .str],[]⟩,⟨[.d .bool],[]⟩,dV [(6,(.j ⟨[0,5],[6],⟨[.d aL],[]⟩,[]⟩))]⟩
def ES:cq:=cn wz k9
def AF:FT:=⟨⟨[.d .str],[]⟩,⟨[.d .bool],[]⟩,dV [(3,(.j ⟨[0],[16],⟨[.d .bool],[]⟩,[]⟩)),(14,(.j ⟨[],[18],⟨[.ptr 0 0],[.mp mj .un]⟩,[]⟩)),(24,(.j ⟨[],[18],⟨[.ptr 0 0],[.mp mj .un]⟩,[]⟩)),(25,(.j ⟨[3,4],[18,23],⟨hX,[.mp mj .un]⟩,[]⟩)),(29,(.j ⟨[],[18,38],⟨hX,[.mp mj .un]⟩,[]⟩))]⟩
def Lu:cq:=cn AF oH
def JU:FT:=⟨⟨Hb,[]⟩,⟨[.d aL],[]⟩,dV [(6,(.j ⟨[0,1,7],[8],⟨[.d aL],[]⟩,[]⟩))]⟩
def Vb:cq:=cn JU rA
def Bb:FT:=⟨⟨Hb,[]⟩,⟨[.d .bool],[]⟩,.leaf⟩
def LQ:cq:=cn Bb kG
def Ba:FT:=⟨⟨[.d (.sl aL),.d jw],[]⟩,⟨[.d .bool],[]⟩,.leaf⟩
def LP:cq:=cn Ba fh
def yc:FT:=⟨⟨vC,[]⟩,⟨[.d .bool],[]⟩,dV [(2,(.j ⟨[],[4],⟨[.d .bool],[]⟩,[]⟩))]⟩
def G8:cq:=cn yc sL
def yd:FT:=⟨⟨[.d oC,.d aL,.d .bool],[]⟩,⟨[.d .bool],[]⟩,dV [(2,(.j ⟨[],[6],⟨[.d .bool],[]⟩,[]⟩))]⟩
def G9:cq:=cn yd sM
def s6:FT:=⟨⟨[.d (.sl kN)],[]⟩,⟨[.d (.sl .str),.d .bool],[]⟩,dV [(8,(.j ⟨[0],[4,5],⟨Sq,[.rows 9 J .str]⟩,[.nil 4 9 .str]⟩)),(15,(.j ⟨[0],[4,5],⟨Sq,[.rows 9 J .str]⟩,[]⟩)),(37,(.j ⟨[0,5],[4,6,49],⟨[.row 0,.ptr 1 0,.d .bool],[.rows 9 J .str,.cells 60 [.d kN]]⟩,[]⟩)),(48,(.j ⟨[0,5,51],[4,6,52],⟨[.row 0,.ptr 1 0,.d aL],[.rows 9 J .str,.cells 60 [.d kN]]⟩,[]⟩))]⟩
def Aw:cq:=cn s6 h_
def s5:FT:=⟨⟨[.d oC,.d (.sl .str)],[]⟩,⟨[.d .bool],[]⟩,dV [(10,(.j ⟨[17,18],[2,5,19],⟨Ss,YE⟩,[]⟩)),(27,(.j ⟨[30,31],[2,5,32],⟨Ss,YE⟩,[]⟩)),(50,(.j ⟨[52],[10,51,53],⟨[.mp 0,.row 1,.d aL],[.mp .str .bool,.rows 9 J .str]⟩,[.mpt 10 .str .bool]⟩)),(62,(.j ⟨[12,52,53],[10,51,64],⟨[.mp 0,.row 1,.d .bool],[.mp .str .bool,.rows 9 J .str]⟩,[.mpt 10 .str .bool]⟩))]⟩
def Av:cq:=cn s5 dN
def sZ:FT:=⟨⟨[.d oC],[]⟩,⟨[.d .bool],[]⟩,dV [(8,(.j ⟨[8,9],[1,3,4,10],⟨[.ptr 0 0,.d aL,.d aL,.d aL],pW⟩,[]⟩)),(20,(.j ⟨[3,4,8,9,10],[1,6,25],⟨qQ,[.cells 31 [.d oC],.cells 139 [.d pA]]⟩,[]⟩)),(27,(.j ⟨[8,9,10],[1,3,4,6],⟨[.ptr 0 0,.d aL,.d aL,.ptr 1 0],[.cells 31 [.d oC],.cells 139 [.d pA]]⟩,[]⟩))]⟩
def Au:cq:=cn sZ gd
def s7:FT:=⟨⟨[.d oC],[]⟩,⟨[.d .bool],[]⟩,dV [(3,(.j ⟨[],[1,34],⟨hX,pW⟩,[]⟩)),(11,(.j ⟨[],[1,44],⟨hX,pW⟩,[]⟩)),(21,(.j ⟨[],[1,58],⟨hX,pW⟩,[]⟩)),(32,(.j ⟨[60,61],[1,62],⟨wN,pW⟩,[]⟩))]⟩
def Ax:cq:=cn s7 dO
def AU:FT:=⟨⟨[.d oC],[]⟩,⟨[.d Hd],[]⟩,dV [(8,(.j ⟨[20],[2,3,21],⟨xG,amf⟩,[]⟩)),(21,(.j ⟨[],[2,3],⟨[.ptr 0 0,.ptr 1 0],amf⟩,[]⟩))]⟩
def LI:cq:=cn AU oK
def uZ:FT:=⟨⟨[.d oC],[]⟩,⟨[.d iU],[]⟩,dV [(8,(.j ⟨[22,23],[2,3,24],⟨xG,[.cells 99 vD,.cells 99 [.d (.sl ec),.d aL,.d pY,.d (.sl ij),.row 2,.row 3,.row 4],.rows 2 af aL,.rows 2 af aL,.rows 3 af aL]⟩,[]⟩))]⟩
def Dt:cq:=cn uZ di
def sC:FT:=⟨⟨[.d pY,.d kh],[]⟩,⟨[.d .bool],[]⟩,dV [(6,(.j ⟨[0,13],[14],⟨[.d aL],[]⟩,[]⟩)),(20,(.j ⟨[0,13,14,17,18],[19],⟨[.d aL],[]⟩,[]⟩)),(31,(.j ⟨[0,13,14,17,18,19],[37],⟨[.d .bool],[]⟩,[]⟩))]⟩
def zA:cq:=cn sC cg
def zl:FT:=⟨⟨vC,[]⟩,⟨[.d .bool],[]⟩,dV [(2,(.j ⟨[],[4],⟨[.d .bool],[]⟩,[]⟩))]⟩
def J5:cq:=cn zl e_
def xY:FT:=⟨⟨[.d oC,.d aL,.d aL],[]⟩,⟨[.d .bool],[]⟩,dV [(6,(.j ⟨[2,7],[3,8],⟨hX,pW⟩,[]⟩)),(36,(.j ⟨[2,7],[3,18],⟨hX,pW⟩,[]⟩)),(46,(.j ⟨[2,7],[3,26],⟨hX,pW⟩,[]⟩)),(53,(.j ⟨[],[6],⟨[.d .bool],[]⟩,[]⟩)),(56,(.j ⟨[2,7],[3,43],⟨hX,pW⟩,[]⟩)),(71,(.j ⟨[],[6],⟨[.d .bool],[]⟩,[]⟩)),(74,(.j ⟨[2,7],[3,61],⟨hX,pW⟩,[]⟩)),(92,(.j ⟨[2,7],[3,71],⟨hX,pW⟩,[]⟩)),(102,(.j ⟨[2],[3,79],⟨hX,pW⟩,[]⟩))]⟩
def G4:cq:=cn xY me
def Dj:FT:=⟨⟨[.d oC,.d Hd],[]⟩,⟨[.d .bool],[]⟩,dV [(3,(.j ⟨[],[2,31],⟨hX,pW⟩,[]⟩)),(14,(.j ⟨[33,34],[2,35],⟨wN,pW⟩,[]⟩))]⟩
def OK:cq:=cn Dj kq
def AS:FT:=⟨⟨[.d oC,.d Hd,.d aL,.d aL,.d aL],[]⟩,⟨[.d .bool],[]⟩,dV [(15,(.j ⟨[],[10],⟨[.d .bool],[]⟩,[]⟩)),(21,(.j ⟨[],[10],⟨[.d .bool],[]⟩,[]⟩)),(24,(.j ⟨[2,4,11],[5,6,60],⟨qQ,Vv⟩,[]⟩)),(64,(.j ⟨[2,4,11],[5,6,109],⟨qQ,Vv⟩,[]⟩)),(81,(.j ⟨[],[10],⟨[.d .bool],[]⟩,[]⟩)),(87,(.j ⟨[],[10],⟨[.d .bool],[]⟩,[]⟩))]⟩
def LG:cq:=cn AS oJ
def xZ:FT:=⟨⟨[.d oC,.d Hd,.d aL,.d aL,.d aL],[]⟩,⟨[.d .bool],[]⟩,dV [(3,(.j ⟨[2,3,4],[5,6,30],⟨qQ,Vv⟩,[]⟩)),(25,(.j ⟨[],[10],⟨[.d .bool],[]⟩,[]⟩)),(29,(.j ⟨[],[10],⟨[.d .bool],[]⟩,[]⟩))]⟩
def G5:cq:=cn xZ jh
def ww:FT:=⟨⟨[.d oC,.d iU],[]⟩,⟨[.d .bool],[]⟩,dV [(2,(.j ⟨[],[4],⟨[.d .bool],[]⟩,[]⟩))]⟩
def EQ:cq:=cn ww kZ
def uu:FT:=⟨⟨[.d oC,.d kh],[]⟩,⟨[.d .bool],[]⟩,dV [(3,(.j ⟨[],[2,3,12],⟨qQ,[.cells 31 [.d oC],.cells 57 [.d kh]]⟩,[]⟩)),(10,(.j ⟨[],[4],⟨[.d .bool],[]⟩,[]⟩))]⟩
def BU:cq:=cn uu jH
def qE:FT:=⟨⟨[.d oC,.d iU,.d kh],[]⟩,⟨[.d .bool],[]⟩,dV [(2,(.j ⟨[],[4,5,7],⟨qQ,[.cells 99 [.d iU],.cells 57 [.d kh]]⟩,[]⟩)),(4,(.j ⟨[],[4,5,8],⟨aiy,Ld8⟩,[]⟩)),(10,(.j ⟨[51],[4,5,8,52],⟨Fd,Ld8⟩,[]⟩)),(22,(.j ⟨[10,51,52],[4,5,8,64],⟨DM,Ld8⟩,[]⟩)),(34,(.j ⟨[51,52,65,66],[4,5,8,11,67],⟨[.ptr 0 0,.ptr 1 0,.ptr 2 0,.d aL,.d aL],Ld8⟩,[]⟩)),(46,(.j ⟨[13,51,52,65,66,67],[4,5,8,83],⟨DM,Ld8⟩,[]⟩))]⟩
def xB:cq:=cn qE eY
def ut:FT:=⟨⟨[.d iU,.d kh],[]⟩,⟨[.d .bool],[]⟩,dV [(21,(.j ⟨[],[4],⟨[.d .bool],[]⟩,[]⟩)),(24,(.j ⟨[13],[2,3,46],⟨qQ,[.cells 99 [.d iU],.cells 57 [.d kh]]⟩,[]⟩)),(43,(.j ⟨[53,54],[3,5,6,55],⟨[.ptr 0 0,.d aL,.d .bool,.d aL],YB⟩,[]⟩)),(51,(.j ⟨[53,54,55],[3,5,6],⟨[.ptr 0 0,.d aL,.d .bool],YB⟩,[]⟩)),(54,(.j ⟨[5,6,7,53,54,55],[3,69],⟨hX,YB⟩,[]⟩)),(62,(.j ⟨[],[4],⟨[.d .bool],[]⟩,[]⟩)),(74,(.j ⟨[94,95],[3,9,96],⟨Sv,YB⟩,[]⟩)),(82,(.j ⟨[94,95,96],[3,9],⟨wN,YB⟩,[]⟩)),(85,(.j ⟨[9,94,95,96],[3,109],⟨hX,YB⟩,[]⟩))]⟩
def BT:cq:=cn ut gA
def AQ:FT:=⟨⟨[.d ij,.d aL],[]⟩,⟨[.d .bool],[]⟩,dV [(2,(.j ⟨[],[4],⟨[.d .bool],[]⟩,[]⟩))]⟩
def LF:cq:=cn AQ my
def Rm:FT:=⟨⟨[.d pY],[]⟩,⟨[.d pY],[]⟩,.leaf⟩
def zF:cq:=cn Rm Ir
def ael:cq:=⟨zF.pre,zF.post,NI⟩
def MY:FT:=⟨⟨[.d pY],[]⟩,⟨[.row 0],[.rows 4 J .bool]⟩,dV [(8,(.a [.nil 2 4 .bool])),(12,(.a [.nil 2 4 .bool]))]⟩
def wI:cq:=cn MY Ei
def aav:cq:=⟨wI.pre,wI.post,Iq⟩
def Rk:FT:=⟨⟨[.d (.sl ij)],[]⟩,⟨[.d (.sl ij)],[]⟩,.leaf⟩
def zD:cq:=cn Rk Io
def aei:cq:=⟨zD.pre,zD.post,NH⟩
def MW:FT:=⟨⟨[.d (.sl ij)],[]⟩,⟨[.row 0],[.rows 178 J ij]⟩,dV [(8,(.a [.nil 2 178 ij])),(12,(.a [.nil 2 178 ij]))]⟩
def wG:cq:=cn MW Eg
def aas:cq:=⟨wG.pre,wG.post,In⟩
def MX:FT:=⟨⟨qY,[]⟩,⟨[.row 0],[.rows 2 J aL]⟩,dV [(8,(.a [.nil 2 2 aL])),(12,(.a [.nil 2 2 aL]))]⟩
def wH:cq:=cn MX Eh
def aau:cq:=⟨wH.pre,wH.post,yO⟩
def AT:FT:=⟨⟨[.d Hd],[]⟩,⟨[.agg Hc],Ld6⟩,dV [(8,(.j ⟨[11,12],[1,2,3,13],⟨[.ptr 0 0,.ptr 1 0,.row 2,.d aL],[.cells 96 [.d Hd],.cells 96 B4,.rows 176 af ec]⟩,[]⟩))]⟩
def LH:cq:=cn AT kF
def zm:FT:=⟨⟨[.agg Hc,.d aL,.d aL],Ld6⟩,⟨[.d aL],Ld6⟩,dV [(8,(.j ⟨[1,2,12],[3,7,11,13],⟨[.ptr 3 0,.d aL,.row 2,.d aL],Ld5⟩,[]⟩)),(16,(.j ⟨[1,2,12,13],[3,7,11],⟨[.ptr 3 0,.d aL,.row 2],Ld5⟩,[]⟩)),(19,(.j ⟨[1,2,7,8,12,13],[3,11,29],⟨[.ptr 3 0,.row 2,.d .bool],Ld5⟩,[]⟩)),(25,(.j ⟨[7],[],⟨[],Ld6⟩,[]⟩))]⟩
def J6:cq:=cn zm jM
def u_:FT:=⟨⟨[.agg Hc,.d aL],Ld6⟩,⟨[.d aL],Ld6⟩,dV [(8,(.j ⟨[1,10],[2,5,9,11],⟨[.ptr 3 0,.d aL,.row 2,.d aL],Ld5⟩,[]⟩)),(16,(.j ⟨[1,10,11],[2,5,9],⟨[.ptr 3 0,.d aL,.row 2],Ld5⟩,[]⟩))]⟩
def Dx:cq:=cn u_ gY
def zu:FT:=⟨⟨[.d aL],[]⟩,⟨[.d .bool],[]⟩,.leaf⟩
def Ke:cq:=cn zu qr
def A_:FT:=⟨⟨vC,[]⟩,⟨[.d .bool],[]⟩,dV [(2,(.j ⟨[],[4],⟨[.d .bool],[]⟩,[]⟩))]⟩
def LO:cq:=cn A_ vw
def wD:FT:=⟨⟨[.d (.int .u64)],[]⟩,⟨[.d aL],[]⟩,.leaf⟩
def E0:cq:=cn wD rx
def zq:FT:=⟨⟨[.d (.int .u64)],[]⟩,⟨[.d aL],[]⟩,.leaf⟩
def J_:cq:=cn zq uc
def oo:FT:=⟨⟨[.row 0,.d aL,.d aL],W6⟩,⟨[],W6⟩,dV [(3,(.j ⟨[1,2],[0,6],⟨Sq,W6⟩,[]⟩)),(15,(.j ⟨[1,2,6],[0,7],⟨Sq,W6⟩,[]⟩)),(17,(.j ⟨[1,2,6,7],[0,30],⟨[.row 0,.d .bool],W6⟩,[]⟩))]⟩
def uG:cq:=cn oo fV
def sY:FT:=⟨⟨[.row 0,.d aL,.d aL,.d aL],W6⟩,⟨[],W6⟩,dV [(5,(.j ⟨[],[0,1,2,3,8,9],⟨[.row 0,.d aL,.d aL,.d aL,.d .bool,.d .bool],W6⟩,[]⟩))]⟩
def At:cq:=cn sY jp
def MV:FT:=⟨⟨[.row 0],W6⟩,⟨[],W6⟩,.leaf⟩
def Yf:cq:=cn MV vZ
def Ds:FT:=⟨⟨[.row 0],W6⟩,⟨[.row 0],W6⟩,dV [(14,(.j ⟨[],[0,3],⟨Sq,W6⟩,[]⟩))]⟩
def OY:cq:=cn Ds lZ
def x_:FT:=⟨⟨[.d aL,.ptr 0 0],[.cells 3 [.d aL]]⟩,⟨[.d .bool],[.cells 3 [.d aL]]⟩,.leaf⟩
def G6:cq:=cn x_ oX
def zw:FT:=⟨⟨[.row 0,.clo 143 1 0],Ld9⟩,⟨[.d aL],Ld9⟩,dV [(6,(.j ⟨[7],[0,1,8],⟨[.row 0,.clo 143 1 0,.d aL],Ld9⟩,[]⟩))]⟩
def Kf:cq:=cn zw nA
def ye:FT:=⟨⟨[.row 0,.clo 143 1 0],Ld9⟩,⟨[.row 2],[.gone,.cells 3 [.d aL],.rows 3 af aL]⟩,dV [(16,(.j ⟨[],[0,1,5,6],⟨[.row 0,.clo 143 1 0,.d aL,.d aL],Ld9⟩,[]⟩)),(24,(.j ⟨[6],[0,1,5],⟨[.row 0,.clo 143 1 0,.d aL],Ld9⟩,[]⟩))]⟩
def G_:cq:=cn ye ji
def nF:FT:=⟨⟨[.d oC,.d Hd,.d aL,.d aL,.d aL,.d aL],[]⟩,⟨[.d Hd,.d aL,.d .bool],[]⟩,dV [(17,(.j ⟨[],[7,12,15],⟨xG,[.cells 96 [.row 2,.d aL,.row 3,.row 4],.cells 96 B4,.rows 176 af ec,.rows 4 J .bool,.rows 178 J ij]⟩,[]⟩)),(26,(.j ⟨[4,5,15,27],[6,7,8,12,42],⟨zI,amg⟩,[]⟩)),(34,(.j ⟨[4,5,15,27],[6,7,8,12,51],⟨zI,amg⟩,[]⟩))]⟩
def J9:cq:=cn nF gZ
def zn:FT:=⟨⟨[.d Hd],[]⟩,⟨[.agg [.csl 0 2 3,.d aL,.d pY,.d (.sl ij)]],[.cells 176 [.d aL,.row 1,.d aL,.row 2,.d aL,.row 3],.rows 3 J aL,.rows 3 J aL,.rows 3 J aL]⟩,dV [(7,(.j ⟨[],[1,2,3],⟨[.ptr 0 0,.ptr 1 0,.csl 2 2 3],[.cells 96 [.d Hd],.cells 96 B4,.cells 176 [.d aL,.row 3,.d aL,.row 4,.d aL,.row 5],.rows 3 J aL,.rows 3 J aL,.rows 3 J aL]⟩,[.cel 3 1 3 aL,.cel 3 3 3 aL,.cel 3 5 3 aL]⟩)),(8,(.u 4))]⟩
def J7:cq:=cn zn ny
def zo:FT:=⟨⟨[.d oC,.d Hd,.d aL,.d aL,.d aL,.d aL],[]⟩,⟨[.d Hd,.d aL,.d .bool],[]⟩,dV [(17,(.j ⟨[],[7,12,15],⟨xG,[.cells 96 [.csl 2 2 3,.d aL,.d pY,.d (.sl ij)],.cells 96 B4,.cells 176 [.d ec,.d ec,.d aL,.row 3],.rowsP 3 aL]⟩,[]⟩)),(26,(.j ⟨[4,5,15,27],[6,7,8,12,42],⟨zI,[.cells 31 [.d oC],.cells 96 [.csl 4 2 3,.d aL,.d pY,.d (.sl ij)],.cells 3 [.d aL],.cells 96 B4,.cells 176 [.d aL,.row 5,.d aL,.row 6,.d aL,.row 7],.rows 3 J aL,.rows 3 J aL,.rows 3 J aL]⟩,[]⟩)),(33,(.s 4 0 0 0)),(34,(.j ⟨[4,5,15,27],[6,7,8,12,51],⟨zI,[.cells 31 [.d oC],.cells 96 [.csl 4 2 3,.d aL,.d pY,.d (.sl ij)],.cells 3 [.d aL],.cells 96 B4,.cells 176 [.d aL,.d (.sl aL),.d aL,.d (.sl aL),.d aL,.row 5],.rows 3 J aL]⟩,[]⟩)),(41,(.s 4 0 0 0)),(46,(.s 4 0 0 3)),(53,(.s 4 0 0 3)),(74,(.s 4 0 0 0)),(80,(.s 4 0 0 0)),(100,(.a [.pk 7 0 ec]))]⟩
def J8:cq:=cn zo li
def LJ:cq:=cn nF rS
def wy:FT:=⟨⟨[.d oC,.d iU,.d kh],[]⟩,⟨[.d iU,.d .bool],[]⟩,dV [(3,(.j ⟨[],[3,4,5,6,39],⟨zI,Ky⟩,[]⟩)),(11,(.j ⟨[],[3,4,5,6,70],⟨zI,Ky⟩,[]⟩)),(20,(.j ⟨[],[3,4,5,6,8],⟨[.ptr 0 0,.ptr 1 0,.ptr 2 0,.ptr 3 0,.d aL],Ky⟩,[]⟩)),(41,(.j ⟨[],[5,6,12],⟨aiy,aj2⟩,[]⟩))]⟩
def ER:cq:=cn wy fU
def ux:FT:=⟨⟨[.d og],[]⟩,⟨vC,[]⟩,dV [(26,(.j ⟨[27,28],[1,4,5,29],⟨[.ptr 0 0,.ptr 1 0,.csl 2 1 1,.d aL],[.cells 34 [.d og],.cells 99 [.d iU],.cells 93 [.row 3],.rows 4 J .bool]⟩,[.cel 5 0 4 .bool]⟩)),(40,(.j ⟨[6,27,28,29],[1,4,5,7,8,53],⟨[.ptr 0 0,.ptr 1 0,.csl 2 1 1,.ptr 3 0,.ptr 4 0,.d .bool],[.cells 34 [.d og],.cells 99 [.d iU],.cells 93 [.row 5],.cells 57 [.d kh],.cells 99 [.d iU],.rows 4 J .bool]⟩,[]⟩)),(41,(.s 7 0 0 1)),(47,(.j ⟨[27,28,29],[1,4,5,8],⟨[.ptr 0 0,.ptr 1 0,.csl 2 1 1,.ptr 3 0],[.cells 34 [.d og],.cells 99 [.d iU],.cells 93 [.row 4],.cells 99 [.d iU],.rows 4 J .bool]⟩,[]⟩)),(48,(.s 7 0 0 1))]⟩
def BY:cq:=cn ux eo
def uw:FT:=⟨⟨[.d og],[]⟩,⟨vC,[]⟩,dV [(26,(.j ⟨[27,28],[1,4,5,29],⟨[.ptr 0 0,.ptr 1 0,.csl 2 1 2,.d aL],[.cells 34 [.d og],.cells 99 [.d iU],.cells 93 [.row 3,.row 4],.rows 4 J .bool,.rows 4 J .bool]⟩,[.cel 5 0 4 .bool,.cel 5 1 4 .bool]⟩)),(40,(.j ⟨[6,27,28,29],[1,4,5,7,8,53],⟨[.ptr 0 0,.ptr 1 0,.csl 2 1 2,.ptr 3 0,.ptr 4 0,.d .bool],[.cells 34 [.d og],.cells 99 [.d iU],.cells 93 [.row 5,.row 6],.cells 57 [.d kh],.cells 99 [.d iU],.rows 4 J .bool,.rows 4 J .bool]⟩,[]⟩)),(41,(.s 7 0 0 2)),(47,(.j ⟨[27,28,29],[1,4,5,8],⟨[.ptr 0 0,.ptr 1 0,.csl 2 1 2,.ptr 3 0],[.cells 34 [.d og],.cells 99 [.d iU],.cells 93 [.row 4,.row 5],.cells 99 [.d iU],.rows 4 J .bool,.rows 4 J .bool]⟩,[]⟩)),(48,(.s 7 0 0 2))]⟩
def BX:cq:=cn uw dk
def uv:FT:=⟨⟨[.d og],[]⟩,⟨vC,[]⟩,dV [(26,(.j ⟨[27,28],[1,4,5,29],⟨[.ptr 0 0,.ptr 1 0,.csl 2 1 3,.d aL],[.cells 34 [.d og],.cells 99 [.d iU],.cells 93 [.row 3,.row 4,.row 5],.rows 4 J .bool,.rows 4 J .bool,.rows 4 J .bool]⟩,[.cel 5 0 4 .bool,.cel 5 1 4 .bool,.cel 5 2 4 .bool]⟩)),(40,(.j ⟨[6,27,28,29],[1,4,5,7,8,53],⟨[.ptr 0 0,.ptr 1 0,.csl 2 1 3,.ptr 3 0,.ptr 4 0,.d .bool],[.cells 34 [.d og],.cells 99 [.d iU],.cells 93 [.row 5,.row 6,.row 7],.cells 57 [.d kh],.cells 99 [.d iU],.rows 4 J .bool,.rows 4 J .bool,.rows 4 J .bool]⟩,[]⟩)),(41,(.s 7 0 0 3)),(47,(.j ⟨[27,28,29],[1,4,5,8],⟨[.ptr 0 0,.ptr 1 0,.csl 2 1 3,.ptr 3 0],[.cells 34 [.d og],.cells 99 [.d iU],.cells 93 [.row 4,.row 5,.row 6],.cells 99 [.d iU],.rows 4 J .bool,.rows 4 J .bool,.rows 4 J .bool]⟩,[]⟩)),(48,(.s 7 0 0 3))]⟩
def BW:cq:=cn uv dK
def eZ:FT:=⟨⟨[.d og],[]⟩,⟨vC,[]⟩,dV [(26,(.j ⟨[27,28],[1,4,5,29],⟨[.ptr 0 0,.ptr 1 0,.csl 2 1 4,.d aL],[.cells 34 [.d og],.cells 99 [.d iU],.cells 93 [.row 3,.row 4,.row 5,.row 6],.rows 4 J .bool,.rows 4 J .bool,.rows 4 J .bool,.rows 4 J .bool]⟩,[.cel 5 0 4 .bool,.cel 5 1 4 .bool,.cel 5 2 4 .bool,.cel 5 3 4 .bool]⟩)),(40,(.j ⟨[6,27,28,29],[1,4,5,7,8,53],⟨[.ptr 0 0,.ptr 1 0,.csl 2 1 4,.ptr 3 0,.ptr 4 0,.d .bool],[.cells 34 [.d og],.cells 99 [.d iU],.cells 93 [.row 5,.row 6,.row 7,.row 8],.cells 57 [.d kh],.cells 99 [.d iU],.rows 4 J .bool,.rows 4 J .bool,.rows 4 J .bool,.rows 4 J .bool]⟩,[]⟩)),(41,(.s 7 0 0 4)),(47,(.j ⟨[27,28,29],[1,4,5,8],⟨[.ptr 0 0,.ptr 1 0,.csl 2 1 4,.ptr 3 0],[.cells 34 [.d og],.cells 99 [.d iU],.cells 93 [.row 4,.row 5,.row 6,.row 7],.cells 99 [.d iU],.rows 4 J .bool,.rows 4 J .bool,.rows 4 J .bool,.rows 4 J .bool]⟩,[]⟩)),(48,(.s 7 0 0 4))]⟩
def BV:cq:=cn eZ em
def Du:cq:=cn eZ mE
def JR:FT:=⟨⟨[.d og],[]⟩,⟨[.d vE,.d aL],[]⟩,dV [(20,(.j ⟨[25,26],[1,6,7,27],⟨[.ptr 0 0,.ptr 1 0,.row 2,.d aL],[.cells 34 [.d og],.cells 78 [.d Kd0],.rows 36 af (.sl aL)]⟩,[]⟩))]⟩
def U8:cq:=cn JR nz
theorem tP:aH Pg 33 Ye:=mk MU gG an b_
theorem P4 x:lH (lG x) (yK x):=by
 unfold lG yK uX ck bA bH aV cR aE cH;with_reducible repeat' first|(refine OI.o ?_;constructor)|intro _
theorem QP:aH Pg 67 R9:=zV Gn lG yK P4 (ac tP an) b_
theorem adn:aH Pg 56 ae7:=mk Wu Hs an b_
theorem adt:aH Pg 102 DE:=mk WA NJ an b_
theorem aa1:aH Pg 102 ai2:= @aH.sub Pg 102 DE.pre DE.post NJ BH adt rfl (λx y h=>rK (b:=8) x y h)
theorem Tz x:lH (iw x) (By x):=by
 unfold iw By xk ck bA wS bH aV cR aE cH;with_reducible repeat' first|(refine OI.o ?_;constructor)|intro _
theorem Uo:aH Pg 103 U5:=zV JO iw By Tz (ac aa1 an) b_
theorem Z9:aH Pg 102 zE:=mk Rl Ip an b_
theorem Oc:aH Pg 102 aek:= @aH.sub Pg 102 zE.pre zE.post Ip oY Z9 rfl (λx y h=>rK (b:=8) x y h)
theorem Up:aH Pg 64 U6:=mk JP ud (ac Oc (ac Uo an)) b_
theorem XC:aH Pg 66 X':=mk MR tM an b_
theorem Uq:aH Pg 65 U7:=mk JQ ue (ac XC an) b_
theorem Xm x:lH (pM x) (Ed x):=by
 unfold pM Ed zY aX bm bw cC eB kO pZ ck bA bH aV cR aE cH;with_reducible repeat' first|(refine OI.o ?_;constructor)|intro _
theorem XE:aH Pg 30 Yb:=zV MT pM Ed Xm an b_
theorem QO:aH Pg 68 R8:=mk Gm su an b_
theorem Z8:aH Pg 102 aat:=mk wE v7 an b_
theorem Wj:aH Pg 102 aej:= @aH.ro Pg 102 wE.pre wE.post.vs v7 uQ (Z8.holds rfl) rfl (λx _ h=>by rw[show uQ x=av (v7 x) λy=>same y.2 x (M y.1) from gR (av _) (funext λ_=>PH ..)]at h;exact h)
theorem ad8 x:lH (tw x) (NF x):=by
 unfold tw NF HA ck bA bH aV cR aE cH;with_reducible repeat' first|(refine OI.o ?_;constructor)|intro _
theorem adq:aH Pg 67 aeh:=zV Ab tw NF ad8 (ac tP an) b_
theorem Z5:aH Pg 67 ai1:= @aH.ro Pg 67 Ab.pre Ab.post.vs tw BG (adq.holds rfl) rfl (λx _ h=>by rw[show BG x=av (tw x) λy=>same y.2 x.2 (M y.1) from gR (av _) (funext λ_=>PH ..)]at h;exact h)
theorem Un:aH Pg 104 U4:=mk JN lY (ac Z5 an) b_
theorem Z3:aH Pg 105 aao:=mk Rf vX (ac Wj an) b_
theorem Xl x:lH (rz x) (Ec x):=by
 unfold rz Ec zX DR Prod.p11 Prod.p12 Prod.p13 Prod.p14 Prod.p15 Prod.p16 Prod.p17 aX bm bw cC eB kO zM B_ Prod.q10 Prod.q16 Prod.q17 Prod.q18 cW lJ Prod.q9 ck bf bA jG wS bH aV cR aE cH;with_reducible repeat' first|(refine OI.o ?_;constructor)|intro _
theorem XD:aH Pg 69 Ya:=zV MS rz Ec Xl (ac Z5 (ac Wj (ac Un (ac Z3 an)))) b_
theorem ZB x:lH (sr x) (Ik x):=by
 unfold sr Ik CU DR Prod.p11 aX bm bw cC eB kO zM B_ Prod.q11 Prod.q12 cW fw pZ Prod.q9 ck bA wS bH aV cR cH;with_reducible repeat' first|(refine OI.o ?_;constructor)|intro _
theorem Z4:aH Pg 31 aap:=zV Rg sr Ik ZB (ac Up (ac Uq (ac QP (ac QO (ac XD an))))) b_
theorem Zw x:lH (vQ x) (Ij x):=by
 unfold vQ Ij I0 bA aV cR aE cH;with_reducible repeat' first|(refine OI.o ?_;constructor)|intro _
theorem Z0:aH Pg 55 aae:=zV Rb vQ Ij Zw (ac adn an) b_
theorem Xu:aH Pg 25 XU:=mk MC Ee (ac Z0 an) b_
theorem Ea x:lH (k9 x) (rf x):=by
 unfold k9 rf rE DR Prod.p11 Prod.p12 Prod.p13 Prod.p14 Prod.p15 Prod.p16 Prod.p17 Prod.p18 Prod.p19 aX Prod.p20 bm bw cC eB kO zM B_ Prod.q21 bA bH cR aE cH;with_reducible repeat' first|(refine OI.o ?_;constructor)|intro _
theorem Es:aH Pg 166 ES:=zV wz k9 rf Ea an b_
theorem KY x:lH (oH x) (vo x):=by
 unfold oH vo vy bf bA jG bH aV cR aE;with_reducible repeat' first|(refine OI.o ?_;constructor)|intro _
theorem K_:aH Pg 133 Lu:=zV AF oH vo KY (ac Es an) b_
theorem TE x:lH (rA x) (BB x):=by
 unfold rA BB xq bf bA bO aV cR aE cH;with_reducible repeat' first|(refine OI.o ?_;constructor)|intro _
theorem Us:aH Pg 198 Vb:=zV JU rA BB TE an b_
theorem Lr:aH Pg 167 LQ:=mk Bb kG (ac Us an) b_
theorem AC:aH Pg 34 LP:=mk Ba fh (ac tP an) b_
theorem GR:aH Pg 134 G8:=mk yc sL an b_
theorem GU:aH Pg 92 G9:=mk yd sM (ac GR an) b_
theorem Al x:lH (h_ x) (ox x):=by
 unfold h_ ox oB aX bm bw cC du fw bf bA jf bH bO aV cR aE cH;with_reducible repeat' first|(refine OI.o ?_;constructor)|intro _
theorem Ar:aH Pg 90 Aw:=zV s6 h_ ox Al an b_
theorem Ak x:lH (dN x) (ov x):=by
 unfold dN ov oA aX bm bw bA bH bO kW aV cR aE cH;with_reducible repeat' first|(refine OI.o ?_;constructor)|intro _
theorem Aq:aH Pg 91 Av:=zV s5 dN ov Ak (ac K_ an) b_
theorem Aj x:lH (gd x) (ou x):=by
 unfold gd ou kT aX bm cC cW bA jf bO aV cR aE cH;with_reducible repeat' first|(refine OI.o ?_;constructor)|intro _
theorem Ap:aH Pg 93 Au:=zV sZ gd ou Aj an b_
theorem Am x:lH (dO x) (oy x):=by
 unfold dO oy kU aX bm cC cW bA bO aV cR aE cH;with_reducible repeat' first|(refine OI.o ?_;constructor)|intro _
theorem kS:aH Pg 59 Ax:=zV s7 dO oy Am (ac Ar (ac Aq (ac GU (ac Ap an)))) b_
theorem K2 x:lH (oK x) (vq x):=by
 unfold oK vq vz aX bm bw bN du cW ck bA bH aV cR aE cH;with_reducible repeat' first|(refine OI.o ?_;constructor)|intro _
theorem Ll:aH Pg 94 LI:=zV AU oK vq K2 an b_
theorem Cu x:lH (di x) (qd x):=by
 unfold di qd qy aX bm bw du bA bH bO aV cR aE cH;with_reducible repeat' first|(refine OI.o ?_;constructor)|intro _
theorem mF:aH Pg 60 Dt:=zV uZ di qd Cu (ac Ll an) b_
theorem yG x:lH (cg x) (mV x):=by
 unfold cg mV ky eB lJ bA jG bH bO aV cR aE cH;with_reducible repeat' first|(refine OI.o ?_;constructor)|intro _
theorem kx:aH Pg 62 zA:=zV sC cg mV yG an b_
theorem ui:aH Pg 136 J5:=mk zl e_ an b_
theorem GP:aH Pg 137 G4:=mk xY me (ac ui an) b_
theorem Ny x:lH (kq x) (xa x):=by
 unfold kq xa tC aX bm bw du bA jf bO aV cR aE cH;with_reducible repeat' first|(refine OI.o ?_;constructor)|intro _
theorem CO:aH Pg 135 OK:=zV Dj kq xa Ny (ac ui an) b_
theorem Lj:aH Pg 138 LG:=mk AS oJ (ac Lr an) b_
theorem sN:aH Pg 96 G5:=mk xZ jh (ac CO (ac ui (ac GP (ac Lj an)))) b_
theorem Ep:aH Pg 95 EQ:=mk ww kZ (ac CO an) b_
theorem BK:aH Pg 97 BU:=mk uu jH an b_
theorem w_ x:lH (eY x) (lU x):=by
 unfold eY lU jv aX bm bw cC bN du fw bf bA jG bH bO aV cR aE cH;with_reducible repeat' first|(refine OI.o ?_;constructor)|intro _
theorem xg:aH Pg 98 xB:=zV qE eY lU w_ an b_
theorem Br x:lH (gA x) (pd x):=by
 unfold gA pd l7 aX bm bw cC bN bf bA bO aV cR aE cH;with_reducible repeat' first|(refine OI.o ?_;constructor)|intro _
theorem BJ:aH Pg 99 BT:=zV ut gA pd Br an b_
theorem AA:aH Pg 173 LF:=mk AQ my an b_
theorem aa0:aH Pg 168 zF:=mk Rm Ir an b_
theorem ads:aH Pg 168 ael:= @aH.sub Pg 168 zF.pre zF.post Ir NI aa0 rfl (λx y h=>rK (b:=1) x y h)
theorem XI:aH Pg 168 wI:=mk MY Ei an b_
theorem Z':aH Pg 168 aav:= @aH.sub Pg 168 wI.pre wI.post Ei Iq XI rfl (λx y h=>rK (b:=1) x y h)
theorem Z7:aH Pg 169 zD:=mk Rk Io an b_
theorem adr:aH Pg 169 aei:= @aH.sub Pg 169 zD.pre zD.post Io NH Z7 rfl (λx y h=>rK (b:=24) x y h)
theorem XG:aH Pg 169 wG:=mk MW Eg an b_
theorem Z6:aH Pg 169 aas:= @aH.sub Pg 169 wG.pre wG.post Eg In XG rfl (λx y h=>rK (b:=24) x y h)
theorem XH:aH Pg 101 wH:=mk MX Eh an b_
theorem Z_:aH Pg 101 aau:= @aH.sub Pg 101 wH.pre wH.post Eh yO XH rfl (λx y h=>rK (b:=8) x y h)
theorem K0 x:lH (kF x) (vp x):=by
 unfold kF vp rX aX bN ck bA bH bO aV cR cH;with_reducible repeat' first|(refine OI.o ?_;constructor)|intro _
theorem Lk:aH Pg 139 LH:=zV AT kF vp K0 (ac aa1 (ac Z' (ac Z6 an))) b_
theorem Ie x:lH (jM x) (tW x):=by
 unfold jM tW qB aX bm bN ck bA jG kW aV cR aE cH;with_reducible repeat' first|(refine OI.o ?_;constructor)|intro _
theorem IP:aH Pg 144 J6:=zV zm jM tW Ie (ac AA an) b_
theorem Cv x:lH (gY x) (qe x):=by
 unfold gY qe mH aX bm bN du ck bA kW aV cR aE cH;with_reducible repeat' first|(refine OI.o ?_;constructor)|intro _
theorem CM:aH Pg 145 Dx:=zV u_ gY qe Cv (ac AA an) b_
theorem IY:aH Pg 226 Ke:=mk zu qr an b_
theorem Lq:aH Pg 205 LO:=mk A_ vw (ac IY an) b_
theorem EA:aH Pg 209 E0:=mk wD rx an b_
theorem IV:aH Pg 171 J_:=mk zq uc (ac EA an) b_
theorem uD x:lH (fV x) (j9 x):=by
 unfold fV j9 j_ ck bA kW cR aE cH;with_reducible repeat' first|(refine OI.o ?_;constructor)|intro _
theorem uE:aH Pg 199 uG:=zV oo fV j9 uD (ac Lq an) b_
theorem Ai x:lH (jp x) (oq x):=by
 unfold jp oq oz aX bm bf jG bH aE;with_reducible repeat' first|(refine OI.o ?_;constructor)|intro _
theorem Ao:aH Pg 170 At:=zV sY jp oq Ai (ac uE an) b_
theorem XF:aH Pg 140 Yf:=mk MV vZ (ac Ao (ac IV an)) b_
theorem NC x:lH (lZ x) (xc x):=by
 unfold lZ xc xr bf bA bH kW aV cR aE cH;with_reducible repeat' first|(refine OI.o ?_;constructor)|intro _
theorem Ob:aH Pg 141 OY:=zV Ds lZ xc NC an b_
theorem xO:aH Pg 143 G6:=mk x_ oX an b_
theorem Ih x:lH (nA x) (tX x):=by
 unfold nA tX uq bA kW aV cR aE cH;with_reducible repeat' first|(refine OI.o ?_;constructor)|intro _
theorem IZ:aH Pg 172 Kf:=zV zw nA tX Ih (ac xO an) b_
theorem Gy x:lH (ji x) (sK x):=by
 unfold ji sK sP ck bf bA bH kW aV cR aE cH;with_reducible repeat' first|(refine OI.o ?_;constructor)|intro _
theorem GV:aH Pg 142 G_:=zV ye ji sK Gy (ac xO (ac IZ an)) b_
theorem IU:aH Pg 100 J9:=mk nF gZ (ac sN (ac Lk (ac IP (ac CM an)))) b_
def tv2 (t:TypeId):I Ty:=if aA t 176 then M (.pr .un (.pr .un (.pr .un (.pr .un ec)))) else b_ t
theorem IQ:aH Pg 139 J7:=mk zn ny (ac Oc (ac ads (ac adr an))) tv2
theorem IR:aH Pg 100 J8:=mk zo li (ac sN (ac IQ (ac XF (ac Ob (ac GV an))))) tv2
theorem Lm:aH Pg 100 LJ:=(aH.orE (pre:=nF.pre) (post:=nF.post) (m:=gZ) (m':=li) rfl IU IR)
theorem nW:aH Pg 61 ER:=mk wy fU (ac Ep (ac sN (ac BK (ac xg (ac BJ (ac Lm (ac Z_ (ac Oc an)))))))) b_
def tv3 (t:TypeId):I Ty:=if aA t 93 then M (.pr .un (.pr .un pY)) else b_ t
theorem Bv x:lH (eo x) (ph x):=by
 unfold eo ph l8 aX bm bw bN cW bf bA bH bO aV cR aE cH;with_reducible repeat' first|(refine OI.o ?_;constructor)|intro _
theorem BP:aH Pg 29 BY:=zV ux eo ph Bv (ac kS (ac mF (ac nW (ac kx an)))) tv3
def tv4 (t:TypeId):I Ty:=if aA t 93 then M (.pr .un (.pr .un (.pr .un pY))) else b_ t
theorem Bu x:lH (dk x) (pg x):=by
 unfold dk pg jR aX bm bw cC bN du fw bf bA bH bO aV cR aE cH;with_reducible repeat' first|(refine OI.o ?_;constructor)|intro _
theorem BO:aH Pg 29 BX:=zV uw dk pg Bu (ac kS (ac mF (ac nW (ac kx an)))) tv4
def tv5 (t:TypeId):I Ty:=if aA t 93 then M (.pr .un (.pr .un (.pr .un (.pr .un pY)))) else b_ t
theorem Bt x:lH (dK x) (pf x):=by
 unfold dK pf jQ aX bm bw cC eB bN cW fw lJ bf bA bH bO aV cR aE cH;with_reducible repeat' first|(refine OI.o ?_;constructor)|intro _
theorem BN:aH Pg 29 BW:=zV uv dK pf Bt (ac kS (ac mF (ac nW (ac kx an)))) tv5
def tv6 (t:TypeId):I Ty:=if aA t 93 then M (.pr .un (.pr .un (.pr .un (.pr .un (.pr .un pY))))) else b_ t
theorem Bs x:lH (em x) (pe x):=by
 unfold em pe jP aX bm bw cC eB kO bN fw lJ pZ bf bA bH bO aV cR aE cH;with_reducible repeat' first|(refine OI.o ?_;constructor)|intro _
theorem BL:aH Pg 29 BV:=zV eZ em pe Bs (ac kS (ac mF (ac nW (ac kx an)))) tv6
theorem CJ:aH Pg 29 Du:=(aH.orE (pre:=eZ.pre) (post:=eZ.post) (m:=em) (m':=(λx=>orE (dK x) ((λx=>orE (dk x) (eo x)) x))) rfl BL (aH.orE (pre:=eZ.pre) (post:=eZ.post) (m:=dK) (m':=(λx=>orE (dk x) (eo x))) rfl BN (aH.orE (pre:=eZ.pre) (post:=eZ.post) (m:=dk) (m':=eo) rfl BO BP)))
theorem TA x:lH (nz x) (Bz x):=by
 unfold nz Bz xl aX bN ck bA jf bH bO aV cR aE cH;with_reducible repeat' first|(refine OI.o ?_;constructor)|intro _
theorem IX:aH Pg 15 U8:=zV JR nz Bz TA (ac CJ (ac XE (ac Z4 an))) b_
def FJ:FT:=⟨⟨[.d kh],[]⟩,⟨[.d .bool],[]⟩,dV [(2,(.j ⟨[],[2],⟨[.d .bool],[]⟩,[]⟩))]⟩
def Rp:cq:=cn FJ pH
theorem Qi:aH Pg 16 Rp:=mk FJ pH an b_
abbrev Lg9:Y PV:=[.d (.sl aL),.d (.sl aL),.d (.sl aL),.d (.sl aL),.d (.sl aL)]
abbrev Lg0:Y PB:=[.cells 34 [.d og],.cells D Lg9,.rows 3 af aL,.rows 52 af W9]
abbrev Lg1:Y PV:=[.d aL,.d aL,.d aL,.d aL,.nil]
abbrev Lg2:Y PB:=[.cells 34 [.d og],.cells D [.row 2,.row 3,.row 4,.row 5,.row 6],.rows 3 J aL,.rows 3 J aL,.rows 3 J aL,.rows 3 J aL,.rows 3 J aL]
abbrev Lg3:Y PB:=[.cells 34 [.d og],.rows 52 af W9,.cells 57 [.d kh]]
abbrev Lg4:Y PB:=[.cells 34 [.d og],.rows 52 af W9]
abbrev Lg5:Y PV:=[.d W9,.d (.sl aL),.d aL]
abbrev Lg7:Y PB:=[.cells 34 [.d og]]
abbrev Lg8:Y PV:=[.ptr 0 0,.row 1,.ptr 2 0,.d .bool]
def JS:FT:=⟨⟨af4,[]⟩,⟨[.d .bool],[]⟩,dV [(6,(.j ⟨[0,1,10],[11],⟨[.d aL],[]⟩,[]⟩))]⟩
def Va:cq:=cn JS pu
def AY:FT:=⟨⟨[.d aL],[]⟩,⟨[.d .bool],[]⟩,dV [(2,(.j ⟨[],[2],⟨[.d .bool],[]⟩,[]⟩))]⟩
def LM:cq:=cn AY gW
def Gl:FT:=⟨⟨Lg5,[]⟩,⟨[.d W9,.d .bool],[]⟩,dV [(3,(.j ⟨[1,2],[3,6,26],⟨qQ,[.cells 52 [.d W9],.cells 52 Lg1]⟩,[]⟩)),(24,(.j ⟨[1,2,8],[3,6,9,83],⟨DM,[.cells 52 [.d W9],.cells 52 Lg1,.cells 52 Lg1]⟩,[]⟩))]⟩
def R5:cq:=cn Gl ku
def Do:FT:=⟨⟨Lg5,[]⟩,⟨[.d W9,.d .bool],[]⟩,dV [(3,(.j ⟨[1,2],[3,6,25],⟨qQ,[.cells 52 [.d W9],.cells 52 Lg1]⟩,[]⟩)),(10,(.j ⟨[1,2],[6,8],⟨hX,[.cells 52 Lg1]⟩,[]⟩))]⟩
def OU:cq:=cn Do ju
def AZ:FT:=⟨⟨[.d og],[]⟩,⟨[.d (.sl aL),.d (.sl W9),.d aL],[]⟩,dV [(14,(.j ⟨[5],[1,7],⟨[.ptr 0 0,.mp 1],[.cells 34 [.d og],.cells D Lg9]⟩,[.mz 7 5]⟩)),(18,(.j ⟨[5,28,29],[1,7,30],⟨[.ptr 0 0,.mp 1,.d aL],Lg2⟩,[.mz 7 5,.cel 7 0 3 aL,.cel 7 1 3 aL,.cel 7 2 3 aL,.cel 7 3 3 aL,.cel 7 4 3 aL]⟩)),(26,(.j ⟨[5,28,29,30],[1,7],⟨[.ptr 0 0,.mp 1],Lg2⟩,[.mz 7 5]⟩)),(29,(.j ⟨[5,8,28,29,30],[1,7,9,42],⟨[.ptr 0 0,.mp 1,.ptr 2 0,.d .bool],[.cells 34 [.d og],.cells D [.row 3,.row 4,.row 5,.row 6,.row 7],.cells 57 [.d kh],.rows 3 J aL,.rows 3 J aL,.rows 3 J aL,.rows 3 J aL,.rows 3 J aL]⟩,[.mz 7 5]⟩)),(32,(.s 9 2 0 5)),(43,(.j ⟨[5,66,67],[1,7,10,11,68],⟨[.ptr 0 0,.mp 1,.row 2,.row 3,.d aL],Lg0⟩,[.mz 7 5]⟩)),(51,(.j ⟨[5,66,67,68],[1,7,10,11],⟨[.ptr 0 0,.mp 1,.row 2,.row 3],Lg0⟩,[.mz 7 5]⟩)),(62,(.j ⟨[5,12,66,67,68],[1,7,10,11,80,81,82],⟨[.ptr 0 0,.mp 1,.row 2,.row 3,.d (.sl aL),.d aL,.d aL],Lg0⟩,[.mz 7 5]⟩)),(63,(.s 12 0 0 5)),(65,(.j ⟨[5,12,66,67,68,80,81],[1,7,10,11,82],⟨[.ptr 0 0,.mp 1,.row 2,.row 3,.d aL],Lg0⟩,[.mz 7 5]⟩)),(73,(.j ⟨[5,12,66,67,68,80,81,82],[1,7,10,11],⟨[.ptr 0 0,.mp 1,.row 2,.row 3],Lg0⟩,[.mz 7 5]⟩)),(78,(.j ⟨[5,12,15,66,67,68,80,81,82],[1,7,10,11,16],⟨[.ptr 0 0,.mp 1,.row 2,.row 3,.d .bool],Lg0⟩,[.mz 7 5]⟩)),(86,(.j ⟨[5,12,15,66,67,68,80,81,82],[1,7,10,11,135],⟨[.ptr 0 0,.mp 1,.row 2,.row 3,.d .bool],Lg0⟩,[.mz 7 5]⟩))]⟩
def LN:cq:=cn AZ oN
def Dp:FT:=⟨⟨[.d og],[]⟩,⟨Hb,[]⟩,.leaf⟩
def OV:cq:=cn Dp qp
def Dm:FT:=⟨⟨[],[]⟩,⟨[.d .bool],[]⟩,dV [(10,(.j ⟨[],[0],⟨[.d .bool],[]⟩,[]⟩))]⟩
def OQ:cq:=cn Dm tm
def ve:FT:=⟨⟨[.d Kg1],[]⟩,⟨[.d .bool],[]⟩,dV [(9,(.j ⟨[4,6],[3,46],⟨hX,Lg7⟩,[]⟩)),(22,(.j ⟨[4,6,53,54],[3,8,55],⟨Ss,Lg4⟩,[]⟩)),(30,(.j ⟨[4,6,53,54,55],[3,8],⟨[.ptr 0 0,.row 1],Lg4⟩,[]⟩)),(34,(.j ⟨[4,6,9,53,54,55],[3,8,10,89],⟨Lg8,Lg3⟩,[]⟩)),(41,(.j ⟨[4,6,9,53,54,55],[3,8,10,11],⟨Lg8,Lg3⟩,[]⟩))]⟩
def DB:cq:=cn ve kr
theorem TB x:lH (pu x) (BA x):=by
 unfold pu BA xo bA aV cR aE cH;with_reducible repeat' first|(refine OI.o ?_;constructor)|intro _
theorem Ur:aH Pg 35 Va:=zV JS pu BA TB (ac tP an) b_
theorem AB:aH Pg 32 LM:=mk AY gW an b_
theorem yW:aH Pg 17 R5:=mk Gl ku (ac AB (ac tP (ac AC an))) b_
theorem xi:aH Pg 18 OU:=mk Do ju (ac AB (ac tP (ac AC (ac Ur an)))) b_
theorem Lp:aH Pg 22 LN:=mk AZ oN (ac IX (ac yW (ac xi an))) b_
theorem Oa:aH Pg 8 OV:=mk Dp qp (ac Lp an) b_
theorem N':aH Pg 11 OQ:=mk Dm tm (ac yW (ac xi (ac Xu an))) b_
theorem hlaw24_EpochQuiet:aH Pg 5 DB:=mk ve kr (ac Et (ac Oa (ac N' (ac IX (ac Qi (ac yW (ac xi an))))))) b_
theorem run_law {P:Program} {f:FuncId} {pre:Tm} {m:pre.ty.den->I (Tm.ty ⟨[.d .bool],[]⟩).den} (sp:pR P f ⟨pre,⟨[.d .bool],[]⟩,m⟩) (h0:pre.bs.length=0) {x:pre.ty.den} (a:m x=M J) {vs:Y TV} {hp:bg} (hi:CI pre x=M (vs,hp)) {la:Y AV} (hla:cJ hp vs=M la)
 {W:World} {us:ξ} (hg:∀g cells,G g=M cells->nH (λ_=>False) W (.ptr cells 0) (.pointer (M ⟨g,0,D⟩))) (hrel:ka (λ_=>D) (λ_=>False) W la us):
 Calls P f us.toArray W λe w'=>e= .returned (.bool J)/\Below W.heap.size W w':=by
 obtain⟨l1,y⟩:=wa hi;obtain⟨l2,z⟩:=wa (t:=⟨[.d .bool],[]⟩) (x:=J) (vs:=[.f .bool J]) (h1:=PT.leaf) rfl;have hn:bt hp=λ_=>D:=by
  funext n;cases hb:bt hp n with
  |none=>rfl
  |some b=>
   obtain⟨i,c,rfl,h1,_⟩:=jB hb;have:=y.lt_len h1;omega
 have own0:∀(φ:PM) k,¬own φ (bt hp) k:=by rintro φ k ⟨i,b,h1,_⟩;rw[hn]at h1;cases h1
 have htot:tot (λ_=>False) (λ_=>D) (bt hp)=λ_=>False:=by
  funext k;exact propext ⟨λh=>h.elim id λh=>ct h (own0 _ k),λh=>h.elim⟩
 refine Calls.mono (sp.calls x J a vs hp l1 _ PT.leaf l2 la _ y z hla rfl (λ_=>D) (λ_=>False) W us ⟨(λi j b b' k h1=>by rw[hn]at h1;cases h1),(λi b h1=>by rw[hn]at h1;cases h1),(λk h=>h.elim),(λg cells h=>by rw[htot];exact hg g cells h)⟩ (by rw[htot];exact hrel) (λn k h=>by cases h)) ?_;rintro en w' ⟨v,φ',rfl,he,_,_,_,hv⟩;refine ⟨?_,⟨he.os,he.tape,he.output,he.size,λk hk=>he.blk k hk (own0 _ k)⟩⟩;have hv:cM φ' _ w' (.f (.raw (.bool J))) v:=hv;cases hv with
 |f h=>cases h;rfl
theorem gKw:Tryz.prog.globalNamed "interleave/token.keywords" =M 0:=by kernel_rfl
theorem tKw:(Tryz.prog.globals[0]?).map (·.type)=M 278:=by kernel_rfl
theorem kw_of_laid {W:World} (h:laidMetH Tryz.prog [("interleave/token.keywords",Rows.laid_interleave_token_keywords)] W):∀g cells,G g=M cells→nH (λ_=>False) W (.ptr cells 0) (.pointer (M ⟨g,0,D⟩)):=by
 intro g cells z;unfold G at z;split at z
 .rename_i hg;have hg:=eq_of_beq hg;subst hg;cases z;rw[MakeChecks.laidMetH_plain _ _ _ (by kernel_rfl)]at h;obtain⟨ps,⟨g0,t0,cs0,f0,p0,q0,q,L,A,U,_,_⟩,_,_⟩:=h;obtain rfl:=j7 (gKw.symm.trans q);obtain rfl:=j7 (tKw.symm.trans L);obtain⟨xs,m1,rfl,c,hlen,hn,hel⟩:=DataW.trod_array Tryz.underlying278 U;have c1:Tryz.prog.cellsOf 9=1:=by kernel_rfl
  have Z:Tryz.prog.cellsOf 278=22:=by kernel_rfl
  rw[Z]at hlen;simp only[aD,Rows.laid_interleave_token_keywords,DataW.agg.injEq]at c;have hxs:=c.1;have hcell:∀j,j<22→∃l,(xs.map (·.1))[j]? =M (.lit (.string l))∧W.cell? ⟨0,j,D⟩=M (.string ⟨l.toArray⟩):=λj hj=>by
   have h1:=hel j hj;rw[c1,Nat.mul_one]at h1;rw[ax (by omega)]at h1;obtain⟨s,e1,e2,_⟩:=DataW.trod_string Tryz.underlying9 h1;refine ⟨s.data.toList,?_,?_⟩
   .rw[ba,ax (by omega),ca,e2]
   .have:=World.var?_cell q A j;rw[this];have h2:cs0.toList[j]? =M (.string s):=by
     have:((cs0.toList.drop j).take 1)[0]? =M (.string s):=by rw[e1];rfl
     rw[cP,aC (by omega),hZ]at this;simpa using this
    rw[← co,h2]
  have hb:0<W.heap.size:=by
   obtain⟨l,_,h2⟩:=hcell 0 (by omega);exact World.block_lt_of_cell? W _ h2
  refine .ptr CA 0 0 0 (λj=>(W.cell? ⟨0,j,D⟩).getD undef) (λh=>h) hb (λx a=>?_) (λj hj=>?_) (λj x a=>?_)
  .simp only[CA,bh,cu,gj]at a;rcases a with rfl|rfl|rfl|rfl|rfl|rfl|rfl|rfl|rfl|rfl|rfl|rfl|rfl|rfl|rfl|rfl|rfl|rfl|rfl|rfl|rfl|rfl<;>rfl
  .obtain⟨l,_,h2⟩:=hcell j hj;rw[bG,h2];rfl
  .have hj:j<22:=(bi.1 a).1;obtain⟨l,h1,h2⟩:=hcell j hj;rw[← hxs]at h1;have:x= .raw (.string ⟨l.toArray⟩):=by
    rcases j with _|_|_|_|_|_|_|_|_|_|_|_|_|_|_|_|_|_|_|_|_|_|j;all_goals first|(simp only[lK,List.getElem?_cons_succ,ah,DataW.lit.injEq,Lit.string.injEq,CA]at h1 a;subst h1;subst a;rfl)|omega
   rw[this,h2];exact .raw _
 .cases z
end
end Go.Proofs.YtloaobgmjdjhhaaGreatDoor.AI
