/-
  Texts of the proof, part 3 of 6: what is used to prove the statement. No condition.
-/
import Derived.Test.YtononplakadipaaGreatDoorFirstRacePredictedQ1
import Derived.Test.YtononplakadipaaGreatDoorProg
import Derived.KernelRfl
import Derived.Recover
namespace Go.Proofs.YtononplakadipaaGreatDoor.AI
open Go.RowKit
set_option maxRecDepth 100000
set_option maxHeartbeats 4000000
set_option linter.unusedVariables false
set_option linter.unusedSimpArgs false
set_option linter.defProp false
open Act renaming put→Uf
open _root_.Array renaming replicate→lQ,mapM_eq_mapM_toList→Sf
open _root_.Bool renaming true→J,false→af
open Deferred renaming ofValue→GW
open _root_.Int renaming ofNat_eq_natCast→ax,toNat→aL,ofNat→aZ,reduceEq→bP,toNat_natCast→dH,reduceNeg→dP,tmod→vE,le_trans→yd,natCast_zero→GU
open _root_.List renaming length→l!,length→ah,replicate→aA,length_singleton→bJ,take→cG,range→dV,cons_append→gj,length_nil→jB,nil_append→lP,drop→oR,take_succ_cons→zu,getElem_of_mem→zB,set→Eg
open _root_.Nat renaming beq→aB,testBit→aF,ble→di,blt→dE,mod_eq_of_lt→ml
open Oper renaming wp→Ec
open _root_.Option renaming some→Z,none→U,bind_some→aH,map_some→cj,map→jY
open _root_.Prod renaming a→bf,b→bB,c→bN,d→cg,e→cM,h→dh,f→dD,g→gE,i→iD,j→qY,l→sL,n→xZ,p8→Eb,m→I4,k→MJ
open Region renaming wanted→ko
open Result renaming andThen_ok→cI
open Sem renaming run_bind→fA,run_pure→oA
open _root_.Sum renaming inr→bR,inl→lB
noncomputable section
def D6:∀(l:Y pt) (acc:Nat),V5 l acc=acc|||V5 l 0
 |[],acc=>by simp[V5]
 |o::r,acc=>by
  simp only[V5];cases o.dst with
  |none=>exact D6 r acc
  |some d=>simp only[];rw[D6 r (acc|||kZ d),D6 r (0|||kZ d),I6,mq]
def Ew:∀(l:ι) (acc:Nat),Q9 l acc=acc|||Q9 l 0
 |[],acc=>by simp[Q9]
 |k::r,acc=>by simp only[Q9];rw[Ew r (acc|||kZ k),Ew r (0|||kZ k),I6,mq]
def mP:∀(l:Y Adj) (acc:Nat),qI l acc=acc|||qI l 0
 |[],acc=>by simp[qI]
 |.nil k _ _::r,acc=>by simp only[qI];rw[mP r (acc|||kZ k),mP r (0|||kZ k),I6,mq]
 |.zk _ _ _ _::r,acc|.mpt _ _ _::r,acc=>by exact mP r acc
 |.qz k _::r,acc=>by simp only[qI];rw[mP r (acc|||kZ k),mP r (0|||kZ k),I6,mq]
 |.pk _ _ _::r,acc|.tak _ _::r,acc=>by exact mP r acc
def j_:∀(c:TC) (acc:Nat),c.asg acc=acc|||c.asg 0
 |.jy ops _,acc=>D6 ops acc
 |.seq a b,acc=>by simp[TC.asg];rw[j_ b (a.asg acc),j_ b (a.asg 0),j_ a acc,mq]
 |.jx A a b,acc=>by simp[TC.asg];rw[j_ b (a.asg _),j_ b (a.asg (Q9 A.ks 0)),j_ a (Q9 A.ks acc),j_ a (Q9 A.ks 0),Ew A.ks acc,mq,mq,mq]
 |.cond _ a b,acc=>by simp[TC.asg];rw[j_ b (a.asg acc),j_ b (a.asg 0),j_ a acc,mq]
 |.block _ b,acc=>j_ b acc
 |.zg A _ b,acc|.loop A b,acc=>by simp[TC.asg];rw[j_ b (Q9 A.ks acc),j_ b (Q9 A.ks 0),Ew A.ks acc,mq]
 |.defer _ _ t,acc=>by simp[TC.asg]
 |.adj l c,acc=>by simp[TC.asg];rw[j_ c (qI l acc),j_ c (qI l 0),mP l acc,mq]
 |.split _ _ _ _ c,acc=>j_ c acc
 |.unl _ b,acc=>j_ b acc
 |.skip,acc|.exit _,acc|.ret,acc|.jq,acc=>by simp[TC.asg]
variable {i m:Nat}
def yG {c:TC} (h:aF (c.asg 0) m=J):aF (c.asg i) m=J:=by rw[j_,bt,h];simp
def md {c:TC} (h:aF i m=J):aF (c.asg i) m=J:=by rw[j_,bt,h];rfl
def afy:∀{l:ι} {acc k:Nat},k∈l->aF (Q9 l acc) k=J
 |[],_,_,h=>by cases h
 |x::r,acc,k,h=>by
  simp[Q9];rcases bc.1 h with rfl|h;rw[Ew,bt,bt,b7.2 rfl];simp;exact afy h
def Zr:∀{l:Y pt} {acc:Nat} {o:pt} {d:Nat},o∈l->o.dst=Z d->aF (V5 l acc) d=J
 |[],_,_,_,h,_=>by cases h
 |x::r,acc,o,d,h,hd=>by
  simp[V5];rcases bc.1 h with rfl|h;rw[hd];rw[D6,bt,bt,b7.2 rfl];simp;exact Zr h hd
def agc:∀{e:iW} {q:ι} {vs:Y TV},pd e q=Z vs->l! vs=l! q/\∀(j k:Nat),q[j]? =Z k->∃v,vs[j]? =Z v/\e.get k=Z v
 |e,[],vs,h=>by cases h;exact⟨rfl,b8⟩
 |e,k::r,vs,h=>by
  simp[pd]at h;split at h;rename_i v I;split at h;rename_i l hl;cases h;let⟨h1,h2⟩:=agc hl;refine ⟨by simp[h1],λj A hj=>?_⟩;cases j with
  |zero=>simp at hj;subst hj;exact⟨v,rfl,I⟩
  |succ j=>simpa using h2 j A cf
  cases h;cases h
variable {h:ba}
def NK {e:iW} (hi:tZ e h):∀{A:ι} {vs:Y TV},pd e A=Z vs->mo h vs=J
 |[],vs,q=>by cases q;rfl
 |k::r,vs,q=>by
  simp[pd]at q;split at q;rename_i v I;split at q;rename_i l hl;cases q;simp[mo,ar];exact⟨hi k v I,NK hi hl⟩;cases q;cases q
def Hh:∀{e:iW} {q:ι} {vs:Y TV},l! vs=l! q->∀t v,(ahx e q vs).get t=Z v->(∃j:Nat,q[j]? =Z t/\vs[j]? =Z v)\/(t∉q/\e.get t=Z v)
 |e,[],[],_,t,v,h=>.inr ⟨b8,h⟩
 |e,[],_::_,A,t,v,h|e,_::_,[],A,t,v,h=>by simp at A
 |e,k::r,u::l,A,t,v,h=>by
  simp[ahx,PT.get_set]at h;split at h;rename_i I;subst I;cases h;exact .inl ⟨0,rfl,rfl⟩;rename_i I;rcases Hh cf t v h with ⟨j,h1,h2⟩|⟨h1,h2⟩;exact .inl ⟨j+1,by simpa using h1,by simpa using h2⟩
  grind
def wS {e:iW}:∀{q:ι} {k:Nat} {v:TV},(HM i e q).get k=Z v->k∈q/\e.get k=Z v/\xu v=J/\aF i k=af
 |[],k,v,h=>by simp[HM,PT.get]at h
 |x::r,k,v,h=>by
  simp[HM]at h;split at h;rename_i u A;split at h;rename_i I;rw[PT.get_set]at h;split at h
  grind
  let⟨h1,h2⟩:=wS h;exact⟨by simp[h1],h2⟩;let⟨h1,h2⟩:=wS h;exact⟨by simp[h1],h2⟩;let⟨h1,h2⟩:=wS h;exact⟨by simp[h1],h2⟩
def N8 {e0 e:iW}:∀{q:ι},MX i e0 e q=J->∀k v,k∈q->e0.get k=Z v->xu v=J->aF i k=af->∃I,e.get k=Z I
 |[],_,k,v,h,_,_,_=>by cases h
 |x::r,A,k,v,h,hv,hf,ha=>by
  simp[MX,ar]at A;rcases bc.1 h with rfl|h
  grind
  exact N8 A.2 k v h hv hf ha
section walk
variable {P:Program} {E:Nat->Prop} {nt np:Nat}
variable {y:AV} {u:TV}
def Yk (A:asl u=J) (q:dg h u=Z y):Le y .emp:=by
 cases u with
 |nil=>cases q;exact Le.nilEmp
 |emp=>cases q;exact Le.refl _
 |_=>cases A
variable {T:PM} {F:Act} {W:World}
def ahk {s:TS} (c:mR P E nt np T s F W) (ty:TypeId) (φ:Ty):mR P E nt np T ⟨s.e,s.h.set s.nx (Z (.H ty J φ [])),s.nx+1⟩ F W/\erHF (s.h.set s.nx (Z (.H ty J φ [])))=erHF s.h/\cz s.h (s.h.set s.nx (Z (.H ty J φ []))):=by
 have hfr:=c.qx.fresh;have I:cz s.h (s.h.set s.nx (Z (.H ty J φ []))):=cz.set λr I=>by rw[bS,hfr]at I;cases I
 have hH:erHF (s.h.set s.nx (Z (.H ty J φ [])))=erHF s.h:=by
  funext n;by_cases hn:n=nm s.nx;subst hn;rw[ct,ct,PT.get_set,aD rfl,hfr];rfl;refine nF c.qx I (jM.set (by rw[hfr];rfl) rfl) λi e=>?_
  subst e;rw[PT.get_set,av (λe=>hn (by rw[e]))]
 refine ⟨⟨by rw[hH];exact c.zf,?_,λn k hk=>wv (c.dom n k hk),gX c.low,c.qx.set I (tR _) (Nat.le_succ _) (λ_ _ he=>by cases he),?_,c.inert,c.size⟩,hH,I⟩;intro t x A;rw[hH];simp[gV]at A;cases he:s.e.get t with
 |none=>rw[he]at A;cases A
 |some q=>
  rw[he]at A;let⟨z,hz⟩:=rE s.h q (c.qc t q he);simp[aH,gP I q z hz,al]at A;subst A;exact c.env t _ (by simp[gV,he,aH,hz])
 intro t x A;exact oW I x (c.qc t x A)
def C6 :∀{a b:Y TV},mo h a=J->mo h b=J->mo h (a++b)=J
 |[],_,_,q=>q
 |x::r,b,A,q=>by
  simp[mo,ar]at A;simp[gj,mo,ar];exact⟨A.1,C6 A.2 q⟩
def Sz :∀{a:Y TV} (n:Nat),mo h a=J->mo h (a.take n)=J
 |[],n,_=>by simp[mo]
 |x::r,0,_=>rfl
 |x::r,n+1,q=>by
  simp[mo,ar]at q;simp[zu,mo,ar];exact⟨q.1,Sz n q.2⟩
def SA :∀{a:Y TV} (n:Nat),mo h a=J->mo h (a.drop n)=J
 |[],n,_=>by simp[mo]
 |x::r,0,q=>q
 |x::r,n+1,q=>by
  simp[mo,ar]at q;exact SA n q.2
variable {R:Type}
def CY {l:Y R} {x:R} (h:l[i]? =Z x):splice l i [x]=l:=by
 have q:i<l! l:=cf;rw[aI q,al]at h;unfold splice;subst h;simp
def aps {s:TS} (c:mR P E nt np T s F W) {id:Nat} {cty:aj TypeId} {l:Y TV} {v:TV} (hb:s.h.get id=Z (.G cty l)) (hv:l[i]? =Z v) (hn:asl v=J) (hu:dg s.h u=Z .emp) (huo:SD s.h u=J):
 mR P E nt np T ⟨s.e,s.h.set id (Z (.G cty (splice l i [u]))),s.nx⟩ F W/\CW np T T (erHF s.h) (erHF (s.h.set id (Z (.G cty (splice l i [u]))))) W W:=by
 have hr:cz s.h (s.h.set id (Z (.G cty (splice l i [u])))):=cz.set λr hr=>by rw[bS,hb]at hr;cases hr
 have hlo:=c.qx.G id _ l hb;let⟨I,hl'⟩:=gY s.h l hlo;have hsp:dx s.h (splice l i [u])=Z (splice I i [.emp]):=yz i hl' (by simp[dx,hu]);have hsp':dx (s.h.set id (Z (.G cty (splice l i [u])))) (splice l i [u])=Z (splice I i [.emp]):=kB hr _ _ hsp;let⟨y,hy,hey⟩:=nO hl' i v hv;have hold:erHF s.h (nm id)=Z (ap8 cty I):=by rw[ct,hb];cases cty<;>(simp [aH,mT,hl'];rfl)
 have hnew:erHF (s.h.set id (Z (.G cty (splice l i [u])))) (nm id)=Z (ap8 cty (splice I i [.emp])):=by
  rw[ct,PT.get_set,aD rfl];cases cty<;>(simp [aH,mT,hsp'];rfl)
 have hoth:∀n,n≠nm id->erHF (s.h.set id (Z (.G cty (splice l i [u])))) n=erHF s.h n:=λn hn'=>by
  refine nF c.qx hr (jM.set (by rw[hb];rfl) rfl) λj e=>?_
  subst e;rw[PT.get_set,av (λe=>hn' (by rw[e]))]
 have hdom:vF (erHF s.h) (erHF (s.h.set id (Z (.G cty (splice l i [u]))))):=λn b hb'=>cf
 have hcell:∀ty,cty=Z ty->∀x∈I,x.isCell=J:=λty hty x A=>by
  subst hty;let⟨k,hk⟩:=eC A;let⟨q,_,_,hat⟩:=c.zf.at_ _ _ hold;let⟨ob,_,hob⟩:=hat;let⟨arr,_,hca⟩:=hob;exact (hca.2 k x hk).1
 have hV:Qp (erHF s.h) (erHF (s.h.set id (Z (.G cty (splice l i [u]))))):=⟨hdom,λn b b' h1 h2=>by
  by_cases e:n=nm id;subst e;rw[hold]at h1;cases h1;rw[hnew]at h2;cases h2;have hle:iY (erHF s.h) (erHF (s.h.set id (Z (.G cty (splice l i [u]))))) I (splice I i [.emp]):=by
   have:=iY.splice i (iY.refl hdom I) (b:=[y]) (b':=[.emp]) ⟨(Yk hn hey).toH hdom,trivial⟩;rw[CY hy]at this;exact this
  cases cty with
  |none=>exact iQ.none
  |some ty=>
   refine iQ.G rfl rfl hle λx A=>?_
   have A:x∈splice I i [.emp]:=A;unfold splice at A;rw[bz,bz,aG]at A;rcases A with (A|A)|A
   grind
   subst A;rfl
   grind
  rw[hoth n e,h1]at h2;cases h2;exact iQ.refl hdom b⟩
 refine ⟨⟨hV.zf c.zf,?_,c.dom,c.low,c.qx.set hr (c.qx.low id _ hb) (bg _) (λty l2 he=>?_),?_,c.inert,c.size⟩,⟨GP.refl _ _,λk _ ho=>hdom.own ho,λ_ _=>rfl⟩⟩;intro t x A;simp[gV]at A;cases he:s.e.get t with
 |none=>rw[he]at A;cases A
 |some q=>
  rw[he]at A;let⟨z,hz⟩:=rE s.h q (c.qc t q he);simp[aH,gP hr q z hz,al]at A;subst A;exact (c.env t _ (by simp[gV,he,aH,hz])).dom hdom
 simp[gi.G.injEq]at he;obtain⟨_,rfl⟩:=he;refine io hr _ ?_;exact C6 (C6 (Sz _ hlo) (by simp only[mo,huo,r8])) (SA _ hlo);intro t x A;exact oW hr x (c.qc t x A)
def mR.congr {s s':TS} (c:mR P E nt np T s F W) (he:∀t,s'.e.get t=s.e.get t) (hh:∀i,s'.h.get i=s.h.get i) (hn:s'.nx=s.nx):mR P E nt np T s' F W/\erHF s'.h=erHF s.h:=by
 have I:cz s.h s'.h:=λi r hi=>by rw[bS]at hi ⊢;rw[hh];exact hi
 have hH:erHF s'.h=erHF s.h:=by funext n;exact nF c.qx I (λi k=>by rw[hh]) λi _=>hh i
 refine ⟨⟨by rw[hH];exact c.zf,?_,by rw[hn];exact c.dom,by rw[hn];exact c.low,⟨λi ty l q=>?_,λi b q=>?_⟩,λt v hv=>?_,c.inert,c.size⟩,hH⟩;intro t x A;rw[hH];simp[gV,he]at A;cases q:s.e.get t with
 |none=>rw[q]at A;cases A
 |some v=>
  rw[q]at A;let⟨z,hz⟩:=rE s.h v (c.qc t v q);simp[aH,gP I v z hz,al]at A;subst A;exact c.env t _ (by simp[gV,q,aH,hz])
 rw[hh]at q;exact io I l (c.qx.G i _ l q);rw[hh]at q;rw[hn];exact c.qx.low i b q;rw[he]at hv;exact oW I v (c.qc t v hv)
variable {a:Int}
def WG {f:Nat->aj R} {r:R}:∀{m i:Nat},spl a f i m=Z r->∃j,a=aZ j/\f j=Z r
 |0,i,h=>by cases h
 |m+1,i,h=>by
  rcases pq h with ⟨h1,h2⟩|⟨_,h2⟩
  grind
  exact WG h2
def am0 {s s':TS} (c:mR P E nt np T s F W) {kd:IntKind} {v:Int} (h1:anf s i m=Z (kd,v)) (h2:aa1 s i m kd v=Z s'):mR P E nt np T s' F W/\erHF s'.h=erHF s.h/\∀t,s'.e.get t=s.e.get t:=by
 unfold anf at h1;unfold aa1 at h2;cases hk:s.e.get i with
 |none=>rw[hk]at h1;cases h1
 |some x=>
  rw[hk]at h1 h2;cases x with
  |f φ q=>
   cases φ with
   |int kd'=>
    simp[al,aT]at h1;obtain⟨rfl,rfl⟩:=h1;cases h2;have he:∀t,(s.e.set i (Z (.f (.int kd') q))).get t=s.e.get t:=λt=>by
     rw[PT.get_set];split
     grind
     rfl
    let⟨g1,g2⟩:=c.congr (s':=⟨s.e.set i (Z (.f (.int kd') q)),s.h,s.nx⟩) he (λ_=>rfl) rfl;exact⟨g1,g2,he⟩
   |_=>cases h1
  |K a0 A=>
   simp[]at h1 h2;cases hb:s.h.get a0 with
   |none=>rw[hb]at h1;cases h1
   |some b=>
    rw[hb]at h1 h2;cases b with
    |G ty l=>
     cases ty with
     |none=>cases h1
     |some ty=>
     simp only[]at h1 h2;cases I:l[A+m]? with
     |none=>rw[I]at h1;cases h1
     |some y=>
      rw[I]at h1;cases y with
      |f φ q=>
       cases φ with
       |int kd'=>
        simp[al,aT]at h1;obtain⟨rfl,rfl⟩:=h1;cases h2;have hh:∀k,(s.h.set a0 (Z (.G (Z ty) (splice l (A+m) [.f (.int kd') q])))).get k=s.h.get k:=λk=>by
         rw[PT.get_set];split;rename_i e;subst e;rw[hb,CY I];rfl
        let⟨g1,g2⟩:=c.congr (s':=⟨s.e,s.h.set a0 (Z (.G (Z ty) (splice l (A+m) [.f (.int kd') q]))),s.nx⟩) (λ_=>rfl) hh rfl;exact⟨g1,g2,λ_=>rfl⟩
       |_=>cases h1
      |_=>cases h1
    |_=>cases h1
  |_=>cases h1
mutual
def Sl (id sz n:Nat):∀v:TV,xu v=J->QX id sz n v=v
 |.f _ _,_|.zm _ _ _ _ _,_|.emp,_|.nil,_|.undef,_|.np,_|.qj,_=>rfl
 |.agg l,h|.qd l,h=>by simp[QX];rw[FZ id sz n l h]
 |.ql _ _ _ _,h|.K _ _,h|.qp _ _ _,h|.I _,h|.zh _ _,h|.mp _,h|.qn _ _,h|.qy _ _,h|.sb _,h=>by cases h
def FZ (id sz n:Nat):∀l:Y TV,tq l=J->KA id sz n l=l
 |[],_=>rfl
 |x::r,h=>by
  simp[tq,ar]at h;simp only[KA];rw[Sl id sz n x h.1,FZ id sz n r h.2]
end
section subs
variable {id sz n:Nat} {h h':ba}
mutual
def Up (hr:cz h h') (hid:e_ h' id=Z (af,sz,n)):∀(v:TV) (y:AV),dg h v=Z y->dg h' (QX id sz n v)=Z y
 |.qp i s m,y,he=>by
  cases he;simp only[QX];split;rename_i hq;simp only[ar]at hq;have e1:=au hq.1.1;have e2:=au hq.1.2;have e3:=au hq.2;subst e1 e2 e3;simp[dg,hid,eM,tU,cE,dQ];rfl
 |.agg l,y,he|.qd l,y,he|.qy g l,y,he=>by
  simp[dg]at he;cases hl:dx h l with
  |none=>rw[hl]at he;cases he
  |some l'=>rw[hl]at he;simp only[QX,dg,zJ hr hid l l' hl];exact he
 |.f T v,y,he|.zm T xs j hj off,y,he|.ql _ _ _ _,y,he|.K _ _,y,he|.I _,y,he|.zh _ _,y,he|.emp,y,he|.nil,y,he|.mp _,y,he|.undef,y,he|.np,y,he|.qj,y,he|.qn _ _,y,he|.sb _,y,he=>gP hr _ _ he
def zJ (hr:cz h h') (hid:e_ h' id=Z (af,sz,n)):∀(l:Y TV) (l':Y AV),dx h l=Z l'->dx h' (KA id sz n l)=Z l'
 |[],l',he=>by cases he;rfl
 |x::r,l',he=>by
  obtain⟨y,l2,rfl,h1,h2⟩:=c7 he;exact rq (Up hr hid x y h1) (zJ hr hid r l2 h2)
end
end subs
def aCp {s:TS} (c:mR P E nt np T s F W) {φ:Ty} {n:Nat} {s':TS} (hp:pkS s φ i m n=Z s'):mR P E nt np T s' F W/\CW np T T (erHF s.h) (erHF s'.h) W W/\iB 0 s.e s'.e:=by
 unfold pkS at hp;split at hp;rename_i ty l hb;let⟨hs,hp⟩:=dO hp;have hs:=au hs;subst hs;split at hp;rename_i xs sz hpk;split at hp;cases hp;rename_i hmid;cases hp;have hm:eh s.h sz:=UG n l xs sz hpk;let⟨l',hl⟩:=gY s.h l (c.qx.G i _ l hb);have hidlt:=c.qx.low i _ hb;have pd:∀id,((PT.updI (λ_ b=>Z9 i φ.size n b) 1 0 (eP sz s.h)).set i (Z (.H ty af φ xs))).get id=if id=i then Z (.H ty af φ xs) else if aF sz id then (s.h.get id).map vZ else (s.h.get id).map (Z9 i φ.size n):=λid=>by
  rw[PT.get_set];by_cases e:id=i;rw[aD e,aD e];rw[av e,av e,PT.get_updI,jU];split;cases A:s.h.get id with
  |none=>rfl
  |some b=>
   let⟨p1,s1,n1,e1⟩:=N7 b;simp only[cj,e1,Z9]
  rfl
 generalize hH2:((PT.updI (λ_ b=>Z9 i φ.size n b) 1 0 (eP sz s.h)).set i (Z (.H ty af φ xs)))=h2 at pd ⊢;have hr:cz s.h h2:=λid r hi=>by
  rw[bS]at hi ⊢;rw[pd];by_cases e:id=i;subst e;rw[hb]at hi;cases hi;rw[av e];cases A:s.h.get id with
  |none=>rw[A]at hi;cases hi
  |some b=>
   rw[A]at hi;split;exact Ss hi;cases b<;>first|exact hi|cases hi
 have hnone:∀id,aF sz id=J->erHF h2 (nm id)=U:=λid hi=>by
  have e:id≠i:=λe=>by subst e;exact hmid hi
  let⟨ty',p',T',xs',hx⟩:=hm id hi;rw[ct,pd,av e,aD hi,hx];rfl
 have hme:jM s.h h2:=λid k=>by
  rw[pd];by_cases e:id=i;rw[aD e,e,hb];rfl;rw[av e];split;rename_i hmi;let⟨ty',p',T',xs',hx⟩:=hm id hmi;rw[hx];rfl;cases A:s.h.get id with
  |none=>rfl
  |some b=>cases b<;>rfl
 have hdom:vF (erHF s.h) (erHF h2):=λq b hq=>by
  rcases OZ hme hq with h0|⟨id,cc,rfl,I,h4⟩;exact⟨b,h0⟩;rw[ct];rw[pd]at I;by_cases e:id=i;subst e;rw[hb];simp only[aH,mT,hl];exact⟨_,rfl⟩;rw[av e]at I;cases A:s.h.get id with
  |none=>rw[A]at I;split at I<;>cases I
  |some b0=>
   rw[A]at I;split at I
   grind
   cases I;simp only[aH];cases b0 with
   |G ty0 l0=>
    let⟨l0',hl0⟩:=gY s.h l0 (c.qx.G id _ l0 A);exact⟨ap8 ty0 l0',by cases ty0<;>(simp only[mT,hl0];rfl)⟩
   |_=>exact⟨_,h4⟩
 have giv:Jd s.h (erHF s.h) (erHF h2) sz:=λid hi=>⟨rfl,hnone id hi⟩
 let⟨hle,hlen⟩:=Hs hdom n l xs sz l' hpk hl giv;have hrow:e_ h2 i=Z (af,φ.size,n):=by rw[bS,pd,aD rfl,<-hlen];rfl
 have hV:Qp (erHF s.h) (erHF h2):=⟨hdom,λq b b' I h4=>by
  rcases OZ hme h4 with h0|⟨id,cc,rfl,h5,h6⟩;rw[I]at h0;cases h0;exact iQ.refl hdom _;rw[ct]at I;rw[pd]at h5;by_cases e:id=i;subst e;rw[aD rfl]at h5;cases h5;rw[hb]at I;simp only[aH,mT,hl,al]at I;subst I;cases h6;refine iQ.G rfl rfl hle λx hx=>?_
  simp only[BC.toMx]at hx;obtain⟨q,hq,rfl⟩:=cF.1 hx;exact uF φ _ q hq;rw[av e]at h5;cases A:s.h.get id with
  |none=>rw[A]at h5;split at h5<;>cases h5
  |some b0=>
   rw[A]at h5 I;split at h5
   grind
   cases h5;have:b=b':=by
    simp only[aH]at I;cases b0 with
    |G ty0 l0=>
     let⟨l0',hl0⟩:=gY s.h l0 (c.qx.G id _ l0 A);cases ty0<;>
      (simp only[mT,hl0,al]at I
       simp only[Z9,mT,zJ hr hrow l0 l0' hl0,al]at h6;rw[<- I,<-h6])
    |H ty1 p1 T1 xs1=>
     have h3':mT h2 (.H ty1 p1 T1 xs1)=Z b:=I;exact gH (h3'.symm.trans h6)
    |qw p1 s1 n1=>
     have h3':mT h2 (.qw p1 s1 n1)=Z b:=I;exact gH (h3'.symm.trans h6)
    |mp K1 V1 es1=>
     have h3':mT h2 (.mp K1 V1 es1)=Z b:=I;exact gH (h3'.symm.trans h6)
    |qf F1 a1 x1=>
     have h3':mT h2 (.qf F1 a1 x1)=Z b:=I;exact gH (h3'.symm.trans h6)
    |zj F1 a1 x1 k1 p1=>
     have h3':mT h2 (.zj F1 a1 x1 k1 p1)=Z b:=I;exact gH (h3'.symm.trans h6)
   subst this;exact iQ.refl hdom b⟩
 refine ⟨⟨hV.zf c.zf,?_,c.dom,c.low,⟨λid ty' l2 A=>?_,λid b A=>?_⟩,?_,c.inert,c.size⟩,⟨GP.refl _ _,λk _ hk=>hdom.own hk,λ_ _=>rfl⟩,?_⟩;intro t x hx;simp only[gV,PT.get_updI]at hx;cases he:s.e.get t with
 |none=>rw[he]at hx;cases hx
 |some v=>
  rw[he]at hx;let⟨z,hz⟩:=rE s.h v (c.qc t v he);simp only[cj,aH,Up hr hrow v z hz,al]at hx;subst hx;exact (c.env t _ (by simp only[gV,he,aH,hz])).dom hdom
 rw[pd]at A;by_cases e:id=i;rw[aD e]at A;cases A;rw[av e]at A;cases hg0:s.h.get id with
 |none=>rw[hg0]at A;split at A<;>cases A
 |some b0=>
  rw[hg0]at A;split at A;simp only[cj,al]at A;exact (De A).elim;simp only[cj,al]at A;cases b0 with
  |G ty0 l0=>
   simp only[Z9,gi.G.injEq]at A;obtain⟨_,rfl⟩:=A;let⟨l0',hl0⟩:=gY s.h l0 (c.qx.G id _ l0 hg0);exact oH _ _ _ (zJ hr hrow l0 l0' hl0)
  |_=>cases A
 rw[pd]at A;by_cases e:id=i;subst e;exact hidlt;rw[av e]at A;cases hg0:s.h.get id with
 |none=>rw[hg0]at A;split at A<;>cases A
 |some b0=>exact c.qx.low id b0 hg0
 intro t x hx;simp only[PT.get_updI]at hx;cases he:s.e.get t with
 |none=>rw[he]at hx;cases hx
 |some v=>
  rw[he]at hx;cases hx;let⟨z,hz⟩:=rE s.h v (c.qc t v he);exact J7 _ _ _ (Up hr hrow v z hz)
 intro k _ v' hv';simp only[PT.get_updI]at hv';cases he:s.e.get k with
 |none=>rw[he]at hv';cases hv'
 |some v=>
  rw[he]at hv';cases hv';exact⟨v,rfl,λhf=>Sl _ _ _ v hf⟩
 cases hp;cases hp
def aCl {s:TS} (c:mR P E nt np T s F W) {s':TS} (h:R1 s (.qz i m)=Z s'):∃φ',mR P E nt np φ' s' F W/\CW np T φ' (erHF s.h) (erHF s'.h) W W/\iB (qI [.qz i m] 0) s.e s'.e:=by
 simp only[R1]at h;split at h;rename_i b o hk;split at h;rename_i cty l hb;split at h;rename_i id hv;split at h;rename_i ty p φ xs hr0;cases h;have hfr:=c.qx.fresh;have hidlt:=c.qx.low id _ hr0;have hblt:=c.qx.low b _ hb;have hbid:b≠id:=λe=>by rw[e,hr0]at hb;cases hb
 have hbn:b≠s.nx:=M;have hin:id≠s.nx:=M;generalize hh2:(((s.h.set id (Z (.qw p φ.size (l! xs)))).set s.nx (Z (.H ty p φ xs))).set b (Z (.G (Z cty) (splice l (o+m) [.I s.nx]))))=h2;have pd:∀k,h2.get k=if k=b then Z (.G (Z cty) (splice l (o+m) [.I s.nx])) else if k=s.nx then Z (.H ty p φ xs) else if k=id then Z (.qw p φ.size (l! xs)) else s.h.get k:=λk=>by
  rw[<- hh2,PT.get_set,PT.get_set,PT.get_set]
 have hr:cz s.h h2:=λk r hi=>by
  rw[bS]at hi ⊢;rw[pd];by_cases e1:k=b;subst e1;rw[hb]at hi;cases hi;rw[av e1];by_cases e2:k=s.nx;subst e2;rw[hfr]at hi;cases hi;rw[av e2];by_cases e3:k=id;subst e3;rw[aD rfl];rw[hr0]at hi;exact hi;rw[av e3];exact hi
 have hlo:=c.qx.G b _ l hb;let⟨l',hl'⟩:=gY s.h l hlo;have hrow:dg h2 (.I s.nx)=Z (eM p s.nx φ.size (l! xs)):=by
  simp only[dg,bS,pd];rw[av hbn.symm];simp only[bC,aH,lj]
 have hsp:dx h2 (splice l (o+m) [.I s.nx])=Z (splice l' (o+m) [eM p s.nx φ.size (l! xs)]):=yz _ (kB hr _ _ hl') (by simp only[dx,hrow]);let⟨y,hy,hey⟩:=nO hl' _ _ hv;have hy0:y=eM p id φ.size (l! xs):=by
  simp only[dg,bS,hr0,aH,lj,al]at hey;exact hey.symm
 subst hy0;have hold:erHF s.h (nm b)=Z ⟨cty,.mx l'⟩:=by rw[ct,hb];simp only[aH,mT,hl']
 have hnew:erHF h2 (nm b)=Z ⟨cty,.mx (splice l' (o+m) [eM p s.nx φ.size (l! xs)])⟩:=by
  rw[ct,pd,aD rfl];simp only[aH,mT,hsp]
 have hdead:erHF h2 (nm id)=U:=by rw[ct,pd,av hbid.symm,av hin,aD rfl];rfl
 have hnx2:erHF h2 (nm s.nx)=if p&&l! xs==0 then U else Z ⟨ty,.fz (xs.flatMap (bQ φ))⟩:=by rw[ct,pd,av hbn.symm,aD rfl];rfl
 have hid0:erHF s.h (nm id)=if p&&l! xs==0 then U else Z ⟨ty,.fz (xs.flatMap (bQ φ))⟩:=by rw[ct,hr0];rfl
 have hoth:∀n,n≠nm b->n≠nm s.nx->n≠nm id->erHF h2 n=erHF s.h n:=λn e1 e2 e3=>nF c.qx hr (jM.of λk=>by
  rw[pd];by_cases f1:k=b;rw[aD f1,f1,hb];exact .inr ⟨rfl,rfl⟩;rw[av f1];by_cases f2:k=s.nx;rw[aD f2,f2,hfr];exact .inr ⟨rfl,rfl⟩;rw[av f2];by_cases f3:k=id;rw[aD f3,f3,hr0];exact .inr ⟨rfl,rfl⟩;rw[av f3];exact .inl rfl) λk e=>by
  subst e;rw[pd,av (λe=>e1 (by rw[e])),av (λe=>e2 (by rw[e])),av (λe=>e3 (by rw[e]))]
 have hnb:nm b≠nm s.nx:=λe=>hbn (A_ e)
 have hbi:nm b≠nm id:=λe=>hbid (A_ e)
 have hni:nm s.nx≠nm id:=λe=>hin (A_ e).symm
 have hinv:kR h2 (s.nx+1):=by
  refine ⟨λk ty2 l2 hil=>?_,λk q hiq=>?_⟩;rw[pd]at hil;split at hil;simp only[al,gi.G.injEq]at hil;obtain⟨_,rfl⟩:=hil;exact oH _ _ _ hsp;split at hil;cases hil;split at hil;cases hil;exact io hr l2 (c.qx.G k _ l2 hil);rw[pd]at hiq;split at hiq;omega;split at hiq;omega;split at hiq;omega;have:=c.qx.low k q hiq;omega
 have hE:∀t x,gV s.e h2 t=Z x->gV s.e s.h t=Z x:=λt x A=>by
  simp only[gV]at A ⊢;cases he:s.e.get t with
  |none=>rw[he]at A;cases A
  |some q=>
   rw[he]at A;let⟨z,hz⟩:=rE s.h q (c.qc t q he);simp only[aH,gP hr q z hz,al]at A;subst A;simp only[aH,hz]
 by_cases hp:(p&&l! xs==0)=J;have hH:erHF h2=erHF s.h:=by
  funext n;by_cases e1:n=nm b;subst e1;rw[hold,hnew];have:eM p s.nx φ.size (l! xs)=eM p id φ.size (l! xs):=by unfold eM;rw[aD hp,aD hp]
  rw[this,CY hy];by_cases e2:n=nm s.nx;subst e2;rw[hnx2,aD hp,ct,hfr];rfl;by_cases e3:n=nm id;subst e3;rw[hdead,hid0,aD hp];exact hoth n e1 e2 e3
 refine ⟨T,⟨by rw[hH];exact c.zf,λt x A=>by rw[hH];exact c.env t x (hE t x A),λn q hq=>wv (c.dom n q hq),gX c.low,hinv,λt x A=>oW hr x (c.qc t x A),c.inert,c.size⟩,by rw[hH];exact CW.refl _ _ _ _,iB.refl _ _⟩;have hid1:erHF s.h (nm id)=Z ⟨ty,.fz (xs.flatMap (bQ φ))⟩:=by rw[hid0,av hp]
 let⟨kk,k1,k2,ob,k3,k4⟩:=c.zf.at_ _ _ hid1;have hφn:T (nm s.nx)=U:=by
  cases hq:T (nm s.nx) with
  |none=>rfl
  |some q=>have:=c.dom _ q hq;rw[eH]at this;omega
 let nw:HF:=λn=>if n=nm s.nx then Z ⟨ty,.fz (xs.flatMap (bQ φ))⟩ else U
 have hsh:Kt W W kk ob:=⟨rfl,rfl,rfl,rfl,k3,λ_ _=>rfl,λ_=>rfl⟩
 let⟨φ',p1,p2,p3,p4⟩:=c.zf.wren hid1 k1 hφn hsh k4 nw (by simp[nw]) (by simp only[nw];rw[av hni.symm]);have hb1:eD (erHF s.h) [nm s.nx,nm id] nw (nm b)=Z ⟨cty,.mx l'⟩:=by
  unfold eD;rw[av (by simp[hnb,hbi]),hold]
 let⟨kb,b1,b2,ob2,b3,b4⟩:=p4.at_ _ _ hb1;have hlt:o+m<l! l':=by
  rcases co (o+m) (l! l') with h'|h';exact h';rw[eT h']at hy;cases hy
 have hob:kn φ' (tot E φ' (eD (erHF s.h) [nm s.nx,nm id] nw)) W ⟨cty,.mx (splice l' (o+m) [eM p s.nx φ.size (l! xs)])⟩ ob2:=by
  rw[uX rfl]at b4 ⊢;let⟨arr,a1,a2⟩:=b4;refine ⟨arr,a1,?_⟩;unfold yI at a2 ⊢;refine ⟨by simp only[BC.len]at a2 ⊢;rw[qL ye];exact a2.1,λj x A=>?_⟩;simp only[BC.get]at A a2;rw[rD ye]at A;split at A;exact a2.2 j x A;split at A;rename_i h3 h4;simp only[bJ]at h4;have hj:j=o+m:=M;subst hj;simp only[Nat.sub_self,List.getElem?_cons_zero,al]at A;subst A;let⟨_,v,a3,a4⟩:=a2.2 _ _ hy;unfold eM at a4 ⊢;rw[av hp]at a4 ⊢;refine ⟨rfl,v,a3,?_⟩;cases a4 with
  |@I _ _ _ cc q hφq hn hc hs2=>
   have:=p2.sub _ _ k1;rw[this,al]at hφq;subst hφq;exact .I p1 hn hc hs2
  exact a2.2 j x A
 let⟨q1,q2⟩:=p4.wset hb1 b1 (⟨rfl,rfl,rfl,rfl,b3,λ_ _=>rfl,λ_=>rfl⟩:Kt W W kb ob2) hob (λn=>if n=nm b then Z ⟨cty,.mx (splice l' (o+m) [eM p s.nx φ.size (l! xs)])⟩ else U) b8;have hH:eD (eD (erHF s.h) [nm s.nx,nm id] nw) [nm b] (λn=>if n=nm b then Z ⟨cty,.mx (splice l' (o+m) [eM p s.nx φ.size (l! xs)])⟩ else U)=erHF h2:=by
  funext n;by_cases e1:n=nm b;subst e1;rw[hnew];simp[eD];by_cases e2:n=nm s.nx;subst e2;rw[hnx2,av hp];simp[eD,nw,hnb.symm];by_cases e3:n=nm id;subst e3;rw[hdead];simp[eD,nw,hbi.symm,hni.symm];rw[hoth n e1 e2 e3];simp[eD,e1,e2,e3]
 rw[hH]at q1 q2;have off:=p2.trans q1;refine ⟨φ',⟨q2,λt x A=>off.zq (c.env t x (hE t x A)),λn q hq=>?_,gX c.low,hinv,λt x A=>oW hr x (c.qc t x A),c.inert,c.size⟩,⟨GP.refl _ _,off.qr,λk hi=>?_⟩,iB.refl _ _⟩;rcases p3 n q hq with h4|h4;exact wv (c.dom n q h4);simp only[aG]at h4;subst h4;rw[eH];exact tR _;cases hq:φ' k with
 |none=>
  cases hq2:T k with
  |none=>rfl
  |some z=>rw[p2.sub _ _ hq2]at hq;cases hq
 |some z=>
  rcases p3 _ _ hq with h4|h4;exact h4.symm;simp only[aG]at h4;subst h4;rw[eH]at hi;have:=c.low;omega
 cases h;cases h;cases h;rename_i id hk;split at h;rename_i ty p φ xs hr0;cases h;have hfr:=c.qx.fresh;have hidlt:=c.qx.low id _ hr0;have hin:id≠s.nx:=M;generalize hh2:((s.h.set id (Z (.qw p φ.size (l! xs)))).set s.nx (Z (.H ty p φ xs)))=h2;have pd:∀k,h2.get k=if k=s.nx then Z (.H ty p φ xs) else if k=id then Z (.qw p φ.size (l! xs)) else s.h.get k:=λk=>by
  rw[<- hh2,PT.get_set,PT.get_set]
 have hr:cz s.h h2:=λk r hi=>by
  rw[bS]at hi ⊢;rw[pd];by_cases e2:k=s.nx;subst e2;rw[hfr]at hi;cases hi;rw[av e2];by_cases e3:k=id;subst e3;rw[aD rfl];rw[hr0]at hi;exact hi;rw[av e3];exact hi
 have hrow:dg h2 (.I s.nx)=Z (eM p s.nx φ.size (l! xs)):=by
  simp only[dg,bS,pd,bC,aH,lj]
 have hrow0:dg s.h (.I id)=Z (eM p id φ.size (l! xs)):=by
  simp only[dg,bS,hr0,aH,lj]
 have hdead:erHF h2 (nm id)=U:=by rw[ct,pd,av hin,aD rfl];rfl
 have hnx2:erHF h2 (nm s.nx)=if p&&l! xs==0 then U else Z ⟨ty,.fz (xs.flatMap (bQ φ))⟩:=by rw[ct,pd,aD rfl];rfl
 have hid0:erHF s.h (nm id)=if p&&l! xs==0 then U else Z ⟨ty,.fz (xs.flatMap (bQ φ))⟩:=by rw[ct,hr0];rfl
 have hoth:∀n,n≠nm s.nx->n≠nm id->erHF h2 n=erHF s.h n:=λn e2 e3=>nF c.qx hr (jM.of λk=>by
  rw[pd];by_cases f2:k=s.nx;rw[aD f2,f2,hfr];exact .inr ⟨rfl,rfl⟩;rw[av f2];by_cases f3:k=id;rw[aD f3,f3,hr0];exact .inr ⟨rfl,rfl⟩;rw[av f3];exact .inl rfl) λk e=>by
  subst e;rw[pd,av (λe=>e2 (by rw[e])),av (λe=>e3 (by rw[e]))]
 have hni:nm s.nx≠nm id:=λe=>hin (A_ e).symm
 have hinv:kR h2 (s.nx+1):=by
  refine ⟨λk ty2 l2 hil=>?_,λk q hiq=>?_⟩;rw[pd]at hil;split at hil;cases hil;split at hil;cases hil;exact io hr l2 (c.qx.G k _ l2 hil);rw[pd]at hiq;split at hiq;omega;split at hiq;omega;have:=c.qx.low k q hiq;omega
 have hE:∀t x,t≠i->gV (s.e.set i (Z (.I s.nx))) h2 t=Z x->gV s.e s.h t=Z x:=λt x ht A=>by
  simp only[gV,PT.get_set]at A ⊢;rw[av ht]at A;cases he:s.e.get t with
  |none=>rw[he]at A;cases A
  |some q=>
   rw[he]at A;let⟨z,hz⟩:=rE s.h q (c.qc t q he);simp only[aH,gP hr q z hz,al]at A;subst A;simp only[aH,hz]
 have hIE:tZ (s.e.set i (Z (.I s.nx))) h2:=λt x A=>by
  simp only[PT.get_set]at A;split at A;cases A;exact J7 _ _ _ hrow;exact oW hr x (c.qc t x A)
 have hKp:iB (qI [.qz i m] 0) s.e (s.e.set i (Z (.I s.nx))):=λt ht v' hv'=>by
  simp only[PT.get_set]at hv';split at hv';rename_i et;subst et;simp only[qI]at ht;rw[bt,b7.2 rfl]at ht;simp at ht;exact⟨v',hv',λ_=>rfl⟩
 have hk0:=c.env i (eM p id φ.size (l! xs)) (by simp only[gV,hk,aH,hrow0]);by_cases hp:(p&&l! xs==0)=J;have hH:erHF h2=erHF s.h:=by
  funext n;by_cases e2:n=nm s.nx;subst e2;rw[hnx2,aD hp,ct,hfr];rfl;by_cases e3:n=nm id;subst e3;rw[hdead,hid0,aD hp];exact hoth n e2 e3
 have hsame:eM p s.nx φ.size (l! xs)=eM p id φ.size (l! xs):=by unfold eM;rw[aD hp,aD hp]
 refine ⟨T,⟨by rw[hH];exact c.zf,λt x A=>?_,λn q hq=>wv (c.dom n q hq),gX c.low,hinv,hIE,c.inert,c.size⟩,by rw[hH];exact CW.refl _ _ _ _,hKp⟩;rw[hH];by_cases ht:t=i;subst ht;simp only[gV,PT.get_set,bC,aH,hrow,al]at A;subst A;rw[hsame];exact hk0;exact c.env t x (hE t x ht A);have hid1:erHF s.h (nm id)=Z ⟨ty,.fz (xs.flatMap (bQ φ))⟩:=by rw[hid0,av hp]
 let⟨kk,k1,k2,ob,k3,k4⟩:=c.zf.at_ _ _ hid1;have hφn:T (nm s.nx)=U:=by
  cases hq:T (nm s.nx) with
  |none=>rfl
  |some q=>have:=c.dom _ q hq;rw[eH]at this;omega
 let nw:HF:=λn=>if n=nm s.nx then Z ⟨ty,.fz (xs.flatMap (bQ φ))⟩ else U
 have hsh:Kt W W kk ob:=⟨rfl,rfl,rfl,rfl,k3,λ_ _=>rfl,λ_=>rfl⟩
 let⟨φ',p1,p2,p3,p4⟩:=c.zf.wren hid1 k1 hφn hsh k4 nw (by simp[nw]) (by simp only[nw];rw[av hni.symm]);have hH:eD (erHF s.h) [nm s.nx,nm id] nw=erHF h2:=by
  funext n;by_cases e2:n=nm s.nx;subst e2;rw[hnx2,av hp];simp[eD,nw];by_cases e3:n=nm id;subst e3;rw[hdead];simp[eD,nw,hni.symm];rw[hoth n e2 e3];simp[eD,e2,e3]
 rw[hH]at p2 p4;refine ⟨φ',⟨p4,λt x A=>?_,λn q hq=>?_,gX c.low,hinv,hIE,c.inert,c.size⟩,⟨GP.refl _ _,p2.qr,λk hi=>?_⟩,hKp⟩;by_cases ht:t=i;subst ht;simp only[gV,PT.get_set,bC,aH,hrow,al]at A;subst A;unfold eM at hk0 ⊢;rw[av hp]at hk0 ⊢;generalize F.tmps.getD t undef=z at hk0;cases hk0 with
 |@I _ _ _ cc q hφq hn hc hs2=>
  rw[k1,al]at hφq;subst hφq;exact .I p1 hn hc hs2
 exact p2.zq (c.env t x (hE t x ht A));rcases p3 n q hq with h4|h4;exact wv (c.dom n q h4);simp only[aG]at h4;subst h4;rw[eH];exact tR _;cases hq:φ' k with
 |none=>
  cases hq2:T k with
  |none=>rfl
  |some z=>rw[p2.sub _ _ hq2]at hq;cases hq
 |some z=>
  rcases p3 _ _ hq with h4|h4;exact h4.symm;simp only[aG]at h4;subst h4;rw[eH]at hi;have:=c.low;omega
 cases h;cases h
def azk {s:TS} (c:mR P E nt np T s F W) {ad:Adj} {s':TS} (h:R1 s ad=Z s') (hnr:∀k off,ad≠ .qz k off) (hnt:∀k off,ad≠ .tak k off):mR P E nt np T s' F W/\CW np T T (erHF s.h) (erHF s'.h) W W/\iB (qI [ad] 0) s.e s'.e:=by
 cases ad with
 |qz k off=>exact bi rfl (hnr k off)
 |tak k off=>exact bi rfl (hnt k off)
 |nil k ty φ=>
  simp only[R1]at h;split at h;rename_i v hv;split at h;rename_i hn;cases h;let⟨c1,hH,hr⟩:=ahk c ty φ;refine ⟨⟨c1.zf,?_,c1.dom,c1.low,c1.qx,?_,c1.inert,c1.size⟩,by rw[hH];exact CW.refl _ _ _ _,?_⟩;intro t x A;simp only[gV,PT.get_set]at A;split at A;rename_i et;subst et;simp only[aH,dg,bS,PT.get_set,bC,lj,eM,jB,dA,r8,al]at A;subst A;let⟨z,hz⟩:=rE s.h v (c.qc _ v hv);rw[hH];exact Yk hn hz _ _ _ _ (c.env _ _ (by simp only[gV,hv,aH,hz]));exact c1.env t x A;intro t x A;simp only[PT.get_set]at A;split at A;cases A;simp only[SD,bS,PT.get_set,bC];rfl;exact c1.qc t x A;intro t ht v' hv';simp only[PT.get_set]at hv';split at hv';rename_i et;subst et;simp only[qI]at ht;rw[bt,b7.2 rfl]at ht;simp at ht;exact⟨v',hv',λ_=>rfl⟩;cases h;exact⟨c,CW.refl _ _ _ _,iB.refl _ _⟩;cases h
 |zk k off ty φ=>
  simp only[R1]at h;split at h;rename_i id o hk;split at h;rename_i cty l hb;split at h;rename_i v hv;split at h;rename_i hn;cases h;let⟨c1,hH,hr⟩:=ahk c ty φ;have hid:id≠s.nx:=λe=>by have:=c.qx.low id _ hb;omega
  let⟨c2,t2⟩:=aps c1 (id:=id) (cty:=cty) (l:=l) (v:=v) (u:=.I s.nx) (by show (s.h.set s.nx _).get id=_;rw[PT.get_set,av hid];exact hb) hv hn (by simp only[dg,bS,PT.get_set,bC,aH,lj,eM,jB,dA,r8]) (by simp only[SD,bS,PT.get_set,bC];rfl);exact⟨c2,by rw[<- hH];exact t2,iB.refl _ _⟩;cases h;exact⟨c,CW.refl _ _ _ _,iB.refl _ _⟩;cases h;cases h;cases h
 |mpt k K V=>
  simp only[R1]at h;split at h;rename_i id hk;split at h;rename_i K' V' es hb;split at h;rename_i hE;cases h;have hr:cz s.h (s.h.set id (Z (.mp K V []))):=cz.set λr hr=>by rw[bS,hb]at hr;cases hr
  have hH:erHF (s.h.set id (Z (.mp K V [])))=erHF s.h:=by
   funext n;by_cases hn:n=nm id;subst hn;rw[ct,ct,PT.get_set,aD rfl,hb];simp only[aH,mT,Jz (ayg (i_.1 hE).1),Jz (i_.1 hE).2,aam (i_.1 hE).1,List.map_nil];refine nF c.qx hr (jM.set (by rw[hb];rfl) rfl) λi e=>?_
   subst e;rw[PT.get_set,av (λe=>hn (by rw[e]))]
  refine ⟨⟨by rw[hH];exact c.zf,?_,c.dom,c.low,c.qx.set hr (c.qx.low id _ hb) (bg _) (λ_ _ he=>by cases he),λt x A=>oW hr x (c.qc t x A),c.inert,c.size⟩,by rw[hH];exact CW.refl _ _ _ _,iB.refl _ _⟩;intro t x A;rw[hH];simp only[gV]at A;cases he:s.e.get t with
  |none=>rw[he]at A;cases A
  |some q=>
   rw[he]at A;let⟨z,hz⟩:=rE s.h q (c.qc t q he);simp only[aH,gP hr q z hz,al]at A;subst A;exact c.env t _ (by simp only[gV,he,aH,hz])
  cases h;exact⟨c,CW.refl _ _ _ _,iB.refl _ _⟩;cases h;cases h
 |pk k off φ=>
  simp only[R1]at h;split at h;let⟨h1,h2,h3⟩:=aCp c h;exact⟨h1,h2,h3.mono λk hk=>by simp at hk⟩;cases h
def azj {s:TS} (c:mR P E nt np T s F W) {A:Adj} {s':TS} (h:R1 s A=Z s'):∃φ',mR P E nt np φ' s' F W/\CW np T φ' (erHF s.h) (erHF s'.h) W W/\iB (qI [A] 0) s.e s'.e:=by
 by_cases I:∃k off,A= .qz k off;obtain⟨k,off,rfl⟩:=I;exact aCl c h;by_cases q:∃k off,A= .tak k off;obtain⟨k,off,rfl⟩:=q;simp[R1]at h;split at h;let⟨he,φ',h1,h2⟩:=axq c h;exact⟨φ',h1,h2,by rw[he];exact iB.refl _ _⟩;cases h;exact⟨T,azk c h (λk off e=>I ⟨k,off,e⟩) λk off e=>q ⟨k,off,e⟩⟩
def V9 {φ:PM} {a:Act} {w:World}:∀{l:Y Adj} {s s':TS},mR P E nt np φ s a w->ae1 s l=Z s'->∃φ',mR P E nt np φ' s' a w/\CW np φ φ' (erHF s.h) (erHF s'.h) w w/\iB (qI l 0) s.e s'.e
 |[],s,s',c,h=>by cases h;exact⟨φ,c,CW.refl _ _ _ _,iB.refl _ _⟩
 |A::r,s,s',c,h=>by
  simp[ae1]at h;split at h;rename_i s1 h1;let⟨φ1,c1,t1,k1⟩:=azj c h1;let⟨φ2,c2,I,k2⟩:=V9 c1 h;refine ⟨φ2,c2,t1.trans I,(k1.mono ?_).trans (k2.mono ?_)⟩;intro k hk;cases A with
  |nil q ty T|qz q off=>simp[qI]at hk ⊢;rw[mP,bt,hk];rfl
  |_=>simp[qI]at hk
  intro k hk;cases A with
  |nil q ty T|qz q off=>simp[qI];rw[mP,bt,hk];simp
  |_=>simp[qI];exact hk
  cases h
mutual
def X9 {h:ba}:∀(v:TV) (y:AV),xu v=J->dg h v=Z y->y.all (λ_=>af)=J
 |.f _ _,y,_,he|.zm _ _ _ _ _,y,_,he|.emp,y,_,he|.nil,y,_,he|.undef,y,_,he|.np,y,_,he|.qj,y,_,he=>by cases he;rfl
 |.agg l,y,hl,he=>by
  simp[dg]at he;split at he;rename_i l' hl';cases he;exact J3 l l' hl hl';cases he
 |.qd l,y,hl,he=>by
  simp[dg]at he;split at he;rename_i l' hl';simp[al]at he;subst he;exact J3 l l' hl hl';cases he
 |.ql _ _ _ _,_,h,_|.K _ _,_,h,_|.qp _ _ _,_,h,_|.I _,_,h,_|.zh _ _,_,h,_|.mp _,_,h,_|.qn _ _,_,h,_|.qy _ _,_,h,_=>by cases h
def J3 {h:ba}:∀(l:Y TV) (l':Y AV),tq l=J->dx h l=Z l'->AV.allL (λ_=>af) l'=J
 |[],l',_,he=>by cases he;rfl
 |x::r,l',hl,he=>by
  obtain⟨y,l2,rfl,e1,e2⟩:=c7 he;simp[tq,ar]at hl;simp[AV.allL,ar];exact⟨X9 x y hl.1 e1,J3 r l2 hl.2 e2⟩
end
mutual
def agi (h:ba):∀(v:TV),xu v=J->SD h v=J
 |.f _ _,_|.zm _ _ _ _ _,_|.emp,_|.nil,_|.undef,_|.np,_|.qj,_=>rfl
 |.agg l,hl|.qd l,hl=>OM h l hl
 |.ql _ _ _ _,h|.K _ _,h|.qp _ _ _,h|.I _,h|.zh _ _,h|.mp _,h|.qn _ _,h|.qy _ _,h=>by cases h
def OM (h:ba):∀(l:Y TV),tq l=J->mo h l=J
 |[],_=>rfl
 |x::r,hl=>by
  simp[tq,ar]at hl;simp[mo,ar];exact⟨agi h x hl.1,OM h r hl.2⟩
end
structure Seen (np:Nat) (t:Tm) (x:t.ty.den) (us:List TV) (h1:ba) (φ φ':PM) (H:HF) (E:Nat->Prop) (w:World) (la lu:List AV):Prop where
 zf:rA φ' E (erHF h1) w
 val:∀(j:Nat) y v,lu[j]? =Z y->∃z,la[j]? =Z z/\(cC φ (tot E φ H) w z v->cC φ' (tot E φ' (erHF h1)) w y v)
 len:l! lu=l! la
 tot_:∀k,tot E φ' (erHF h1) k->tot E φ H k
 qr:∀k,own φ' (erHF h1) k->own φ H k
 dom:∀n k,φ' n=Z k->ow n<l! t.bs
 par:∀n,ow n<np->ow n<l! t.bs->φ' n=φ n
variable {r:Y TV} {C:Y AV}
def QZ {t:Tm} {x:t.ty.den} {h1:ba} {l1:Y (aj gi)} (I:pw t x r h1 l1) (hinv:kR h i) {vs:Y TV} {σ:PT Nat} {sm:Nat} (A:Nb np t vs h x m σ sm) (hla:dx h vs=Z C) (us:rA T E (erHF h) W):∃φ' lu,dx h1 r=Z lu/\Seen np t x r h1 T φ' (erHF h) E W C lu:=by
 let⟨x1,m1,x2,m2,hx,hmm,gv,gb⟩:=A.ex;have pvg:sP (ju σ) t.vs x1=Z (l_ (ju σ) r):=by
  have h3:=wO (ju σ) t.vs x1;have h4:=I.pv;rw[hx,wF]at h4;rw[h3,h4];rfl
 have pbg:uV (ju σ) t.bs x2=Z (l1.map (jY (lJ (ju σ)))):=by
  have h3:=zO (ju σ) t.bs x2;have h4:=I.pb;rw[hx,yf]at h4;rw[h3,h4];rfl
 have hbm:∀nx b,l1[nx]? =Z (Z b)->∃b0,h.get (ju σ nx)=Z b0/\BM (ju σ) h m b0 (lJ (ju σ) b):=λnx b hb=>by
  let⟨b0,q1,q2⟩:=OK t.bs 0 x2 m2 _ gb pbg nx (lJ (ju σ) b) cf;rw[bV]at q1;exact⟨b0,q1,q2.mono λj hj=>by rw[hmm,bt,hj];simp⟩
 let hv:ba:=EY (ju σ) 0 (l1.map (jY (lJ (ju σ)))) PT.leaf
 have hv_at:∀nx b,l1[nx]? =Z (Z b)->hv.get (ju σ nx)=Z (lJ (ju σ) b):=λnx b hb=>by
  have:=yn (ju σ) (l1.map (jY (lJ (ju σ)))) 0 PT.leaf (λa b ha hb=>by
   simp only[bL,I.len]at ha hb;simp only[bV];exact A.inj a b ha hb) nx (Z (lJ (ju σ) b)) cf
  grind
 have hv_ex:∀j c,hv.get j=Z c->∃nx b,l1[nx]? =Z (Z b)/\j=ju σ nx/\c=lJ (ju σ) b:=λj c hj=>by
  by_cases hex:∃nx,nx<l1.length/\j=ju σ nx;obtain⟨nx,hi,rfl⟩:=hex;have hcc:=aI hi;cases hcv:l1[nx] with
  |some b=>rw[hcv]at hcc;rw[hv_at nx b hcc]at hj;cases hj;exact⟨nx,b,hcc,rfl,rfl⟩
  |none=>
   rw[hcv]at hcc;have:=yn (ju σ) (l1.map (jY (lJ (ju σ)))) 0 PT.leaf (λa b ha hb=>by
    simp only[bL,I.len]at ha hb;simp only[bV];exact A.inj a b ha hb) nx U cf
   rw[bV]at this;have hj':(EY (ju σ) 0 (l1.map (jY (lJ (ju σ)))) PT.leaf).get (ju σ nx)=Z c:=hj;rw[this]at hj';simp[PT.get]at hj'
  have:hv.get j=(PT.leaf:ba).get j:=ym (ju σ) _ 0 _ j λk hk=>by
   grind
  rw[this]at hj;simp[PT.get]at hj
 have rows_in:BK hv h:=λj q hq=>by
  rw[bS]at hq ⊢;cases hc:hv.get j with
  |none=>rw[hc]at hq;cases hq
  |some c=>
   rw[hc]at hq;obtain⟨nx,b,q1,rfl,rfl⟩:=hv_ex j c hc;let⟨b0,q2,q3⟩:=hbm nx b q1;rw[q2];simp only[aH]at hq ⊢;rw[<- q3.I];exact hq
 have rows_h1:∀nx q,e_ h1 nx=Z q->e_ hv (ju σ nx)=Z q:=λnx q hq=>by
  rw[bS]at hq ⊢;cases hb:h1.get nx with
  |none=>rw[hb]at hq;cases hq
  |some b=>
   rw[hb]at hq;rw[hv_at nx b ((I.at_ nx b).1 hb)];simp only[aH,Nr]at hq ⊢;exact hq
 have hd:vF (erHF h) (erHF hv):=λn y hy=>by
  let⟨c,h3,h4⟩:=jA hy;obtain⟨nx,b,q1,e,rfl⟩:=hv_ex _ c h3;let⟨b0,q2,q3⟩:=hbm nx b q1;unfold erHF;rw[e,q2];rw[e]at h4;cases hk:ix n with
  |zero=>
   rw[hk]at h4;exact BM.erB_some hinv q2 q3 h4
  |succ k=>
   rw[hk]at h4;exact⟨y,(q3.mem _ _).trans h4⟩
 have gvv:Jd h (erHF h) (erHF hv) m:=λnx hi=>⟨rfl,by
  cases hc:erHF hv (nm nx) with
  |none=>rfl
  |some y=>
   let⟨c,h3,h4⟩:=jA hc;rw[eH]at h3;obtain⟨k,b,q1,rfl,rfl⟩:=hv_ex nx c h3;have hk:k<t.bs.length:=by rw[<- I.len];exact (bG.1 q1).1
   have h5:=A.disj _ hi;rw[(A.sig _).2 ⟨k,hk,rfl⟩]at h5;cases h5⟩
 have V:Qp (erHF h) (erHF hv):=⟨hd,λn b b' hb hb'=>by
  let⟨c,h3,h4⟩:=jA hb';obtain⟨nx,bb,q1,e,rfl⟩:=hv_ex _ c h3;let⟨b0,q2,q3⟩:=hbm nx bb q1;unfold erHF at hb;rw[e,q2]at hb;rw[e]at h4;have hb:Te h (ju σ nx) (ix n) b0=Z b:=hb;cases hk:ix n with
  |zero=>
   rw[hk]at h4 hb;exact BM.view hd gvv rows_in q3 hb h4
  |succ k=>
   rw[hk]at h4 hb;have:=(q3.mem _ _).symm.trans hb;have h4:Bc (ju σ nx) k (lJ (ju σ) bb)=Z b':=h4;rw[h4]at this;cases this;exact iQ.refl hd _⟩
 have rv:=V.zf us;have φ:auj t x r h1 (ju σ) T E E (erHF hv) W:=by
  have hat:∀n y,erHF h1 n=Z y->erHF hv (sF (ju σ) n)=Z (y.qz (sF (ju σ))):=λn y hn=>by
   let⟨b,hb,hyb⟩:=jA hn;unfold erHF;rw[yL,Bj,hv_at _ b ((I.at_ _ b).1 hb)];exact ED rows_h1 hyb
  refine rA.toId I A.inj rv hat (λk hk=>.inl hk) (λn k y hn h4 hE=>?_) rv.el;let⟨k',p1,p2,_⟩:=rv.at_ _ _ (hat n y hn)
  grind
 let⟨lu,hlu⟩:=gY h1 r I.ok;have hlug:dx hv (l_ (ju σ) r)=Z (AV.renL (sF (ju σ)) lu):=rn rows_h1 r lu hlu;have hle:=H7 hd rows_in t.vs vs x1 m1 _ C _ gv pvg hla hlug (λnx hi=>gvv nx cf);have hall:=wA r lu I.lt hlu;refine ⟨_,lu,hlu,φ.zf,λj y v hy=>?_,?_,λk hk=>hd.tot (φ.tot_ k hk),λk hk=>hd.own (φ.qr k hk),λn k hk=>(AO hk).1,λnx hi hb=>?_⟩;rw[oV]at hle;let⟨z,hz,hlz⟩:=hle.get j (y.qz (sF (ju σ))) cf;exact⟨z,hz,λhr=>φ.val y v (nS hall y (bh hy)) (hlz _ _ _ _ us hr)⟩;have:=iY.length hle;rw[oV,bL]at this;exact this;rw[al5 hb];unfold sF;rw[A.fix _ hi,my]
def UW {s':TS} (c:mR P E nt np T s' F W) {A:Ann} {s0 s1:TS} {x:A.D} (q:Rw np A i s0 s'=Z x) (hs:L4 A i s0 x=Z s1)
 (hk:∀k,k∈A.zq->k∉A.ks->∀v,s0.e.get k=Z v->xu v=J->aF i k=af->∀v',s'.e.get k=Z v'->v'=v):∃φ',mR P E nt np φ' s1 F W/\CW np T φ' (erHF s'.h) (erHF s1.h) W W:=by
 unfold Rw at q;let⟨hc,q⟩:=dO q;simp only[ar]at hc;have hnp:=aY hc.1;split at q;rename_i s2 h2;let⟨φ2,c2,t2,_⟩:=V9 c h2;split at q;rename_i vs hvs;split at q;rename_i z m σ sm hM;cases q;have B:=zX hM;unfold L4 at hs;split at hs;rename_i us h1 hi;let⟨l1,I⟩:=Ab hi;let⟨hlen,hs⟩:=dO hs;have hlen:=au hlen;cases hs;let⟨g1,g2⟩:=agc hvs;have hvok:mo s2.h vs=J:=NK c2.qc hvs;let⟨la,hla⟩:=gY s2.h vs hvok;let⟨φ',lu,hlu,S⟩:=QZ (E:=E) I c2.qx B hla c2.zf;refine ⟨φ',⟨S.zf,?_,S.dom,hnp,⟨λam ty l hl=>(I.G am _ l hl).1,λam b hb=>I.lt_len hb⟩,?_,c.inert,c.size⟩,t2.trans ⟨GP.refl _ _,λk _ h=>S.qr k h,λam hi=>S.par am hi M⟩⟩;intro t y hy;simp[gV]at hy;cases ht:(ahx (HM i s0.e A.zq) A.ks us).get t with
 |none=>rw[ht]at hy;cases hy
 |some v=>
  rw[ht]at hy;simp[aH]at hy;rcases Hh hlen t v ht with ⟨j,q1,q2⟩|⟨q1,q2⟩;let⟨y',p1,p2⟩:=nO hlu j v q2;rw[hy]at p2;cases p2;let⟨z,p3,p4⟩:=S.val j y (F.tmps.getD t undef) p1;refine p4 ?_;let⟨v0,p5,p6⟩:=g2 j t q1;let⟨z',p7,p8⟩:=nO hla j v0 p5;rw[p3]at p7;cases p7;exact c2.env t _ (by simp[gV,p6,aH,p8]);let⟨k1,k2,k3,k4⟩:=wS q2;let⟨v',k5⟩:=N8 hc.2 t v k1 k2 k3 k4;have:=hk t k1 q1 v k2 k3 k4 v' k5;subst this;have h3:=c.env t y (by simp[gV,k5,aH];rw[Yl s'.h h1 v' k3];exact hy);exact h3.restrict (p:=λ_=>af) (λam k hi _=>by cases hi) (λk hk=>by
   have h4:=S.tot_ k hk;rcases h4 with h4|h4;exact .inl h4;exact .inr (by
    have hkl:k<W.heap.size:=by
     let⟨n,b,e1,e2⟩:=h4;let⟨k',p1,_,ob,p3,_⟩:=c2.zf.at_ n b e1
     grind
    exact t2.qr k hkl h4)) (X9 v' y k3 hy)
 intro t v hv;rcases Hh hlen t v hv with ⟨j,q1,q2⟩|⟨q1,q2⟩;let⟨y',_,p2⟩:=nO hlu j v q2;exact J7 _ _ _ p2;exact agi _ v (wS q2).2.2.1;cases hs;cases q;cases q;cases q
def Jk {A:Ann} {I s1:TS} {x:A.D} (q:L4 A i I x=Z s1):iB (Q9 A.ks 0) I.e s1.e/\∀k,k∉A.ks->∀v,s1.e.get k=Z v->I.e.get k=Z v:=by
 unfold L4 at q;split at q;rename_i us h1 hi;let⟨hlen,q⟩:=dO q;have hlen:=au hlen;cases q;have key:∀k,k∉A.ks->∀v,(ahx (HM i I.e A.zq) A.ks us).get k=Z v->I.e.get k=Z v:=λk hk v hv=>by
  rcases Hh hlen k v hv with ⟨j,q1,_⟩|⟨_,q2⟩
  grind
  exact (wS q2).2.1
 refine ⟨λk hk v' hv=>?_,key⟩;have hnk:k∉A.ks:=λhm=>by rw[afy hm]at hk;cases hk
 grind
 cases q
end walk
inductive Er:TC->SC->Prop
 |skip:Er .skip .skip
 |jy (ops:List pt) (prs:List (Nat×Nat)):Er (.jy ops prs) (.jy ops prs)
 |seq {a b:TC} {a' b':SC}:Er a a'->Er b b'->Er (.seq a b) (.seq a' b')
 |jx (A:Ann) {a b:TC} {a' b':SC}:Er a a'->Er b b'->Er (.jx A a b) (.seq a' b')
 |cond (c:Nat) {a b:TC} {a' b':SC}:Er a a'->Er b b'->Er (.cond c a b) (.cond c a' b')
 |block (id:Nat) {b:TC} {b':SC}:Er b b'->Er (.block id b) (.block id b')
 |zg (A:Ann) (id:Nat) {b:TC} {b':SC}:Er b b'->Er (.zg A id b) (.block id b')
 |loop (A:Ann) {b:TC} {b':SC}:Er b b'->Er (.loop A b) (.loop b')
 |exit (id:Nat):Er (.exit id) (.exit id)
 |ret:Er .ret .ret
 |defer (f:FuncId) (c:List Operand) (t:Nat):Er (.defer f c t) (.defer f c t)
 |adj (l:List Adj) {c:TC} {c':SC}:Er c c'->Er (.adj l c) c'
 |split (k off lo n:Nat) {c:TC} {c':SC}:Er c c'->Er (.split k off lo n c) c'
 |unl (n:Nat) {b:TC} {b':SC}:Er b b'->Er (.unl n b) (.loop b')
 |jq (c:SC):Er .jq c
def G9 {H:PT aqh} {c:TC} {q:SC} (h:Er c q):Er (Ng H i c) q:=by
 unfold Ng;split;exact .adj _ h;exact .split _ _ _ _ h;exact h
def BF (H:PT aqh):∀(c:SC) (n:Nat),Er (Ka H c n).1 c
 |.skip,n=>G9 .skip
 |.jy o p,n=>G9 (.jy o p)
 |.seq a b,n=>by
  have h1:=BF H a (n+1);have h2:=BF H b (Ka H a (n+1)).2;simp[Ka];split;exact .jx _ h1 h2;exact .seq h1 h2
 |.cond c a b,n=>by
  have h1:=BF H a (n+1);have h2:=BF H b (Ka H a (n+1)).2;exact G9 (.cond c h1 h2)
 |.block id b,n=>by
  have h1:=BF H b (n+1);simp[Ka];split;exact .zg _ id h1;exact .block id h1
 |.loop b,n=>by
  have h1:=BF H b (n+1);simp[Ka];split;exact .loop _ h1;exact .unl _ h1;exact .jq _
 |.exit id,n=>G9 (.exit id)
 |.ret,n=>G9 .ret
 |.defer f c t,n=>.defer f c t
 |.jq,n=>.jq _
variable {R:Type}
def aii {σ:Type} {step:σ->aj (σ⊕R)} {x:σ} {r:R} (h:iter step x=Z r):∃n,iterN step n x=Z r:=by
 unfold iter at h;split at h;exact⟨_,h⟩;cases h
def ag3 {α:Type} {o:aj (R⊕α)} {k:α->aj R} {r:R} (h:jn o k=Z r):(∃x,o=Z (.inr x)/\k x=Z r)\/o=Z (.inl r):=by
 unfold jn at h
 grind
section inv
variable {P:Program} {nt:Nat}
def DU (id:Nat) (ops:Array Oper) (q:Bool):bq P nt (.region id ops q)= .jq\/
 ((ops.toList.all λo=>match o.dst with|some d=>decide (d<nt)|none=>J)=J/\
   ((∃f caps t,IC ops q=Z (f,caps,t)/\bq P nt (.region id ops q)= .defer f caps t)\/
    ∃l prs,rz P ops ops.toList=Z l/\NC ops l=Z prs/\bq P nt (.region id ops q)= .jy l prs)):=by
 simp[bq]
 grind
def Jv:Code->Bool
 |.cond (.const (.bool _)) _ _=>af
 |_=>J
def l8 (P:Program) (nt:Nat) (c:Code):∃q,Jv q=J/\bq P nt q=bq P nt c/\∀Q a w,q.wp P Q a w->c.wp P Q a w:=by
 have self:∀c:Code,Jv c=J->∃q,Jv q=J/\bq P nt q=bq P nt c/\∀Q a w,q.wp P Q a w->c.wp P Q a w:=λc h=>⟨c,h,rfl,λ_ _ _ h=>h⟩
 induction c with
 |cond o x y ihx ihy=>
  cases o with
  |const v=>
   cases v with
   |bool b=>
    cases b with
    |true=>
     let⟨q,h1,h2,A⟩:=ihx;exact⟨q,h1,h2,λQ a w h=>wp_cond_true rfl (A Q a w h)⟩
    |false=>
     let⟨q,h1,h2,A⟩:=ihy;exact⟨q,h1,h2,λQ a w h=>wp_cond_false rfl (A Q a w h)⟩
   |_=>exact self _ rfl
  |_=>exact self _ rfl
 |_=>exact self _ rfl
variable {s:Operand}
def KL {α:Prop} {x y:Code} {sc:SC} (A:Jv (.cond s x y)=J) (h:bq P nt (.cond s x y)=sc) (h1:sc≠ .jq) (h2:∀t a b,sc≠ .cond t a b):α:=by
 cases s with
 |tmp q=>exact (h2 _ _ _ h.symm).elim
 |const v=>cases v<;>first|exact (h1 h.symm).elim|cases A
 |_=>exact (h1 h.symm).elim
def asn {c:Code} {sl:Y pt} {prs:Y n!} (A:Jv c=J) (h:bq P nt c= .jy sl prs):∃id ops q,c= .region id ops q/\(ops.toList.all λo=>match o.dst with|some d=>decide (d<nt)|none=>J)=J/\rz P ops ops.toList=Z sl/\NC ops sl=Z prs:=by
 cases c with
 |region id ops q=>
  rcases DU (P:=P) (nt:=nt) id ops q with h1|⟨hd,⟨f,caps,t,_,h1⟩|⟨l,p,h2,I,h1⟩⟩;rw[h1]at h;cases h;rw[h1]at h;cases h
  grind
 |cond o x y=>exact KL A h b8 b8
 |_=>simp[bq]at h
variable {f:FuncId}
def aij {c:Code} {caps:Y Operand} (A:Jv c=J) (h:bq P nt c= .defer f caps i):∃id ops q,c= .region id ops q/\(ops.toList.all λo=>match o.dst with|some d=>decide (d<nt)|none=>J)=J/\IC ops q=Z (f,caps,i):=by
 cases c with
 |region id ops q=>
  rcases DU (P:=P) (nt:=nt) id ops q with h1|⟨hd,⟨f',caps',I,h2,h1⟩|⟨l,p,h2,h3,h1⟩⟩;rw[h1]at h;cases h
  grind
  rw[h1]at h;cases h
 |cond o x y=>exact KL A h b8 b8
 |_=>simp[bq]at h
def rG {c:Code} {sc:SC} (h:bq P nt c=sc) (h1:sc≠ .jq) (h2:∀a b,sc≠ .jy a b) (I:∀a b t,sc≠ .defer a b t):∀id ops A,c≠ .region id ops A:=by
 rintro id ops A rfl;rcases DU (P:=P) (nt:=nt) id ops A with q|⟨_,⟨f,caps,t,_,q⟩|⟨l,p,_,_,q⟩⟩<;>rw[q]at h;exact h1 h.symm;exact I _ _ _ h.symm;exact h2 _ _ h.symm
def anb {c:Code} (q:Jv c=J) (h:bq P nt c= .skip):c= .skip:=by
 have nr:=rG h b8 b8 b8;cases c with
 |skip=>rfl
 |region id ops A=>exact bi rfl (nr id ops A)
 |cond o x y=>exact KL q h b8 b8
 |_=>simp[bq]at h
def asm {c:Code} (q:Jv c=J) (h:bq P nt c= .ret):c= .ret:=by
 have nr:=rG h b8 b8 b8;cases c with
 |ret=>rfl
 |region id ops A=>exact bi rfl (nr id ops A)
 |cond o x y=>exact KL q h b8 b8
 |_=>simp[bq]at h
def anc {c:Code} (q:Jv c=J) (h:bq P nt c= .exit i):c= .exit i:=by
 have nr:=rG h b8 b8 b8;cases c with
 |exit id=>simp[bq]at h;rw[h]
 |region id ops A=>exact bi rfl (nr id ops A)
 |cond o x y=>exact KL q h b8 b8
 |_=>simp[bq]at h
def ag5 {c:Code} {a b:SC} (q:Jv c=J) (h:bq P nt c= .seq a b):∃x y,c= .seq x y/\bq P nt x=a/\bq P nt y=b:=by
 have nr:=rG h b8 b8 b8;cases c with
 |seq x y=>simp[bq]at h;exact⟨x,y,rfl,h.1,h.2⟩
 |region id ops A=>exact bi rfl (nr id ops A)
 |cond o x y=>exact KL q h b8 b8
 |_=>simp[bq]at h
def ane {c:Code} {a b:SC} (A:Jv c=J) (h:bq P nt c= .cond i a b):∃x y,c= .cond (.tmp i) x y/\bq P nt x=a/\bq P nt y=b:=by
 have nr:=rG h b8 b8 b8;cases c with
 |cond o x y=>
  cases o with
  |tmp q=>simp[bq]at h;obtain⟨rfl,h1,h2⟩:=h;exact⟨x,y,rfl,h1,h2⟩
  |const v=>cases v<;>first|(simp [bq]at h;done)|cases A
  |_=>simp[bq]at h
 |region id ops I=>exact bi rfl (nr id ops I)
 |_=>simp[bq]at h
def S0 {c:Code} {b:SC} (q:Jv c=J) (h:bq P nt c= .block i b):∃y,c= .block i y/\bq P nt y=b:=by
 have nr:=rG h b8 b8 b8;cases c with
 |block id y=>simp[bq]at h;obtain⟨rfl,h1⟩:=h;exact⟨y,rfl,h1⟩
 |region i ops A=>exact bi rfl (nr i ops A)
 |cond o x y=>exact KL q h b8 b8
 |_=>simp[bq]at h
def Xs {c:Code} {b:SC} (q:Jv c=J) (h:bq P nt c= .loop b):∃y,c= .loop y/\bq P nt y=b:=by
 have nr:=rG h b8 b8 b8;cases c with
 |loop y=>simp[bq]at h;exact⟨y,rfl,h⟩
 |region id ops A=>exact bi rfl (nr id ops A)
 |cond o x y=>exact KL q h b8 b8
 |_=>simp[bq]at h
end inv
def ax9 (P:Program) (E:Nat->Prop) (nt np:Nat) (φ:PM) (s:TS) (w:World) (am:Nat) (K:Ex->TS->aj R) (r:R):Exit->Act->World->Prop:=
 λe q w'=>∃ex s' φ',e=ex.to/\K ex s'=Z r/\mR P E nt np φ' s' q w'/\CW np φ φ' (erHF s.h) (erHF s'.h) w w'/\iB am s.e s'.e
variable {P:Program} {b:Bool} {O:Nat->Prop} {T:PM} {F:Act} {W:World}
def mR.bool {s:TS} (c:mR P O i m T s F W) {t:Nat} (ht:s.e.get t=Z (.f .bool b)):F.eval (.tmp t)= .bool b:=
 dX (c.env t _ (by simp[gV,ht,aH,dg];rfl))
def mR.qj {s:TS} (c:mR P O i m T s F W) {t:Nat} (ht:s.e.get t=Z .qj):∃b,F.eval (.tmp t)= .bool b:=by
 have:=c.env t .qj (by simp[gV,ht,aH,dg]);show ∃b,F.tmps.getD t undef= .bool b;generalize F.tmps.getD t undef=z at this;cases this with
 |qj=>exact⟨_,rfl⟩
def ak5 {a b:aj R} {r:R} (h:IR a b=Z r):a=Z r/\b=Z r:=by
 unfold IR at h
 grind
variable {f:FuncId} {E:Array Oper} {B:Exit->Act->World->Prop}
def atl {inert:FuncId->Bool} (hin:D_ P inert) (ha:∀d∈F.defers,ZQ P d) (hs:F.tmps.size=i) {caps:Y Operand} {t:Nat} (hd:(E.toList.all λo=>match o.dst with|some d=>decide (d<i)|none=>J)=J) (hdf:IC E b=Z (f,caps,t)) (hi:inert f=J) 
 (hQ:∀a',(∀u,u≠t->a'.tmps.getD u undef=F.tmps.getD u undef)->(∀d∈a'.defers,ZQ P d)->a'.tmps.size=i->B .normal a' W):(Code.region m E b).wp P B F W:=by
 unfold IC at hdf;split at hdf;rename_i p q hops;split at hdf;rename_i f' first caps' t1 cl hpo hpg hpd hqo hqg hqd
 split at hdf;rename_i t2 hcl hca;let⟨hcond,hdf⟩:=dO hdf;simp only[ar]at hcond;let⟨h1,h2⟩:=hcond;have h1:=au h1;have h2:first=#[]:=cf
 simp only[al,aT]at hdf;obtain⟨rfl,rfl,rfl⟩:=hdf;subst h1 h2;have hops':E=#[p,q]:=cf;let⟨hcb,hincalls⟩:=hin f' hi;have htn:t1<i:=cf
 let A:Value:=.func (.func f') #[] (caps'.map F.eval)
 refine wp_region ?_;have hr2:dV E.size=[0,1]:=by rw[hops'];rfl
 rw[hr2];have e0:E[0]? =Z p:=cf;have e1:E[1]? =Z q:=cf;rw[wpOps_cons];have hexec1:(execOp F.eval p).run P W= .ok (.value A) W:=by
  unfold execOp;rw[hpo];simp[Instr.makeFunc,A]
 have w1:ko p (yielded E F.tmps)=J:=by unfold ko;rw[hpg]
 unfold wpOp;simp only[e0,w1,bC];left;unfold Ec;rw[hexec1];show wpOps P E B [1] (F.put p.dst A) W;rw[wpOps_cons];unfold wpOp;have w2:ko q (yielded E (F.put p.dst A).tmps)=J:=by unfold ko;rw[hqg]
 simp only[e1,w2,bC];left;have pg:∀u,(F.put p.dst A).tmps.getD u undef=if p.dst=Z u then A else F.tmps.getD u undef:=λu=>W7 (by intro d I;rw[hpd]at I;cases I;rw[hs];exact htn)
 have heval:(F.put p.dst A).eval (.tmp t1)=A:=by
  show (F.put p.dst A).tmps.getD t1 undef=A;rw[pg,aD hpd]
 have hargs:cl.args=#[]:=cf;have hexec2:(execOp (F.put p.dst A).eval q).run P W= .ok (.defer {target:=.fn (.func f') (caps'.map F.eval),args:=#[]}) W:=by
  unfold execOp;rw[hqo];simp[resolve,hcl,heval,A,GW,hargs]
 unfold Ec;rw[hexec2];show wpOps P E B [] _ W;refine hQ _ (λu hu=>?_) (λd I=>?_) ?_;rw[hqd];show (F.put p.dst A).tmps.getD u undef=_;rw[pg,av (by rw[hpd];intro e;cases e;exact hu rfl)];rw[hqd]at I;have hd'':d={target:=.fn (.func f') (caps'.map F.eval),args:=#[]}\/d∈(F.put p.dst A).defers:=by
  simpa[Uf] using I
 rcases hd'' with rfl|hd'';intro w0;refine ⟨_,_,f',caps'.map F.eval,rfl,?_,hincalls _ w0⟩;simp[invoke,sO hcb];rw[Nv]at hd'';exact ha d hd'';rw[hqd];show (F.put p.dst A).tmps.size=i;rw[W6];exact hs;cases hdf;cases hdf;cases hdf
variable {X:FuncId->aj cu} {V:TypeId->aj Ty}
def axm {E:Nat->Prop} {inert:FuncId->Bool} (hm:P.follows .mixedOrders=J) (hcon:I3 P X) (hin:D_ P inert):
 ∀{tc:TC} {sc:SC},Er tc sc->∀(c:Code),bq P i c=sc->∀(R:Type) (s:TS) (K:Ex->TS->aj R) (r:R),rC m X V inert tc s K=Z r->∀(φ:PM) (a:Act) (w:World),mR P E i m φ s a w->c.wp P (ax9 P E i m φ s w (tc.asg 0) K r) a w:=by
 intro tc sc hE;induction hE with
 |skip=>
  intro c hc R s K r h φ a w g;let⟨c',hn,I,hsim⟩:=l8 P i c;refine hsim _ _ _ ?_;rw[<- I]at hc;rw[anb hn hc];exact wp_skip ⟨.normal,s,φ,rfl,h,g,CW.refl _ _ _ _,iB.refl _ _⟩
 |jy ops prs=>
  intro c hc R s K r h φ a w g;let⟨c',hn,I,hsim⟩:=l8 P i c;refine hsim _ _ _ ?_;rw[<- I]at hc;obtain⟨id,os,dr,rfl,h1,h2,h3⟩:=asn hn hc;simp only[rC]at h;refine am9 (K:=λs'=>K .normal s') hm hcon g (am:=V5 ops 0) (λj o d ho hd=>?_) h1 h2 h3 h λa' w' s' φ' q1 q2 q3 q4=>⟨.normal,s',φ',rfl,q1,q2,q3,q4⟩
  have hmem:o∈os.toList:=by have:=Array.mem_of_getElem? ho;simpa using this
  have key:∀(rest:Y Oper) (sl:Y pt),rz P os rest=Z sl->∀o∈rest,∃so∈sl,so.dst=o.dst:=by
   intro rest;induction rest with
   |nil=>intro sl _ o ho;cases ho
   |cons x rest ih=>
    intro sl hsl o ho;simp only[rz]at hsl;split at hsl;rename_i l hl;have:∃so,sl=so::l/\so.dst=x.dst:=by
     split at hsl;simp only[al]at hsl;exact⟨_,hsl.symm,rfl⟩;split at hsl;simp only[al]at hsl;exact⟨_,hsl.symm,rfl⟩;cases hsl
    obtain⟨so,rfl,hso⟩:=this;rcases bc.1 ho with rfl|ho;exact⟨so,b8,hso⟩;let⟨q,hq,hq2⟩:=ih l hl o ho;exact⟨q,by simp[hq],hq2⟩;cases hsl
  let⟨so,hso,hd2⟩:=key os.toList ops h2 o hmem;exact Zr hso (by rw[hd2];exact hd)
 |@seq x y x' y' _ _ ihx ihy=>
  intro c hc R s K r h φ a w g;let⟨c',hn,I,hsim⟩:=l8 P i c;refine hsim _ _ _ ?_;rw[<- I]at hc;obtain⟨cx,cy,rfl,h1,h2⟩:=ag5 hn hc;simp only[rC]at h;refine wp_seq (wp_mono (ihx cx h1 R s _ r h φ a w g) ?_);rintro e a' w' ⟨ex,s',φ',rfl,hk,g',st,kp⟩;have kp':iB ((TC.seq x y).asg 0) s.e s'.e:=kp.mono λk hk=>by simp only[TC.asg];exact md hk
  cases ex with
  |normal=>
   refine wp_mono (ihy cy h2 R s' K r hk φ' a' w' g') ?_;rintro e2 a2 w2 ⟨ex2,s2,φ2,rfl,hk2,g2,st2,kp2⟩;exact⟨ex2,s2,φ2,rfl,hk2,g2,st.trans st2,kp'.trans (kp2.mono λk hk=>by simp only[TC.asg];exact yG hk)⟩
  |exit id=>exact⟨.exit id,s',φ',rfl,hk,g',st,kp'⟩
  |ret=>exact⟨.ret,s',φ',rfl,hk,g',st,kp'⟩
 |@jx A x y x' y' _ _ ihx ihy=>
  intro c hc R s K r h φ a w g;let⟨c',hn,I,hsim⟩:=l8 P i c;refine hsim _ _ _ ?_;rw[<- I]at hc;obtain⟨cx,cy,rfl,h1,h2⟩:=ag5 hn hc;simp only[rC]at h;have sub1:∀k,aF (x.asg 0) k=J->aF ((TC.jx A x y).asg 0) k=J:=λk hk=>by simp only[TC.asg];exact md (yG hk)
  have sub2:∀k,aF (y.asg 0) k=J->aF ((TC.jx A x y).asg 0) k=J:=λk hk=>by simp only[TC.asg];exact yG hk
  have sub3:∀k,aF (Q9 A.ks 0) k=J->aF ((TC.jx A x y).asg 0) k=J:=λk hk=>by simp only[TC.asg];exact md (md hk)
  rcases ag3 h with ⟨d,h3,h4⟩|h3;refine wp_seq (wp_mono (ihx cx h1 _ s _ _ h3 φ a w g) ?_);rintro e a' w' ⟨ex,s',φ',rfl,hk,g',st,kp⟩;cases ex with
  |normal=>
   simp only[]at hk;let⟨d',q1,q2⟩:=em hk;cases q2;split at h4;rename_i s1 hs1;let⟨φ1,g1,Np⟩:=UW g' q1 hs1 λk _ _ v hv hf ha v' hv'=>by
    let⟨v0,e1,e2⟩:=kp k ha v' hv';rw[hv]at e1;cases e1;exact e2 hf
   refine wp_mono (ihy cy h2 R s1 K r h4 φ1 a' w' g1) ?_;rintro e2 a2 w2 ⟨ex2,s2,φ2,rfl,hk2,g2,st2,kp2⟩;exact⟨ex2,s2,φ2,rfl,hk2,g2,(st.trans Np).trans st2,((Jk hs1).1.mono sub3).trans (kp2.mono sub2)⟩;cases h4
  |_=>simp only[]at hk;let⟨_,_,q2⟩:=em hk;simp at q2
  refine wp_seq (wp_mono (ihx cx h1 _ s _ _ h3 φ a w g) ?_);rintro e a' w' ⟨ex,s',φ',rfl,hk,g',st,kp⟩;cases ex with
  |normal=>simp only[]at hk;let⟨_,_,q2⟩:=em hk;simp at q2
  |exit id=>
   simp only[]at hk;let⟨r',q1,q2⟩:=em hk;cases q2;exact⟨.exit id,s',φ',rfl,q1,g',st,kp.mono sub1⟩
  |ret=>
   simp only[]at hk;let⟨r',q1,q2⟩:=em hk;cases q2;exact⟨.ret,s',φ',rfl,q1,g',st,kp.mono sub1⟩
 |@cond t x y x' y' _ _ ihx ihy=>
  intro c hc R s K r h φ a w g;let⟨c',hn,I,hsim⟩:=l8 P i c;refine hsim _ _ _ ?_;rw[<- I]at hc;obtain⟨cx,cy,rfl,h1,h2⟩:=ane hn hc;simp only[rC]at h;split at h;rename_i b hb;rcases pq h with ⟨rfl,h⟩|⟨rfl,h⟩;refine wp_cond_true (g.bool hb) (wp_mono (ihx cx h1 R s K r h φ a w g) ?_);rintro e a' w' ⟨ex,s',φ',rfl,hk,g',st,kp⟩;exact⟨ex,s',φ',rfl,hk,g',st,kp.mono λk hk=>by simp only[TC.asg];exact md hk⟩;refine wp_cond_false (g.bool hb) (wp_mono (ihy cy h2 R s K r h φ a w g) ?_);rintro e a' w' ⟨ex,s',φ',rfl,hk,g',st,kp⟩;exact⟨ex,s',φ',rfl,hk,g',st,kp.mono λk hk=>by simp only[TC.asg];exact yG hk⟩;rename_i hb;let⟨ha,hbb⟩:=ak5 h;let⟨bv,hbv⟩:=g.qj hb;cases bv with
  |true=>
   refine wp_cond_true hbv (wp_mono (ihx cx h1 R s K r ha φ a w g) ?_);rintro e a' w' ⟨ex,s',φ',rfl,hk,g',st,kp⟩;exact⟨ex,s',φ',rfl,hk,g',st,kp.mono λk hk=>by simp only[TC.asg];exact md hk⟩
  |false=>
   refine wp_cond_false hbv (wp_mono (ihy cy h2 R s K r hbb φ a w g) ?_);rintro e a' w' ⟨ex,s',φ',rfl,hk,g',st,kp⟩;exact⟨ex,s',φ',rfl,hk,g',st,kp.mono λk hk=>by simp only[TC.asg];exact yG hk⟩
  cases h
 |@block id b b' _ ih=>
  intro c hc R s K r h φ a w g;let⟨c',hn,I,hsim⟩:=l8 P i c;refine hsim _ _ _ ?_;rw[<- I]at hc;obtain⟨cb,rfl,h1⟩:=S0 hn hc;simp only[rC]at h;refine wp_block (wp_mono (ih cb h1 R s _ r h φ a w g) ?_);rintro e a' w' ⟨ex,s',φ',rfl,hk,g',st,kp⟩;cases ex with
  |normal=>exact⟨.normal,s',φ',rfl,hk,g',st,kp⟩
  |ret=>exact⟨.ret,s',φ',rfl,hk,g',st,kp⟩
  |exit nt=>
   simp only[Ex.to,Exit.inBlock];simp only[]at hk;split at hk;rename_i hb;rw[aD (au hb)];exact⟨.normal,s',φ',rfl,hk,g',st,kp⟩;rename_i hb;rw[av (λe=>hb (by rw[e];exact x_ id))];exact⟨.exit nt,s',φ',rfl,hk,g',st,kp⟩
 |@zg A id b b' _ ih=>
  intro c hc R s K r h φ a w g;let⟨c',hn,I,hsim⟩:=l8 P i c;refine hsim _ _ _ ?_;rw[<- I]at hc;obtain⟨cb,rfl,h1⟩:=S0 hn hc;simp only[rC]at h;have sub1:∀k,aF (b.asg 0) k=J->aF ((TC.zg A id b).asg 0) k=J:=λk hk=>by simp only[TC.asg];exact yG hk
  have sub3:∀k,aF (Q9 A.ks 0) k=J->aF ((TC.zg A id b).asg 0) k=J:=λk hk=>by simp only[TC.asg];exact md hk
  rcases ag3 h with ⟨d,h3,h4⟩|h3;refine wp_block (wp_mono (ih cb h1 _ s _ _ h3 φ a w g) ?_);rintro e a' w' ⟨ex,s',φ',rfl,hk,g',st,kp⟩;have fin:aw (Rw m A (b.asg 0) s s') (λx=>Z (bR (α:=R) x))=Z (bR d)->ax9 P E i m φ s w ((TC.zg A id b).asg 0) K r .normal a' w':=by
   intro hk;let⟨d',q1,q2⟩:=em hk;simp only[al,Sum.inr.injEq]at q2;subst q2;split at h4;rename_i s1 hs1;let⟨φ1,g1,Np⟩:=UW g' q1 hs1 λk _ _ v hv hf ha v' hv'=>by
    let⟨v0,e1,e2⟩:=kp k ha v' hv';rw[hv]at e1;cases e1;exact e2 hf
   exact⟨.normal,s1,φ1,rfl,h4,g1,st.trans Np,(Jk hs1).1.mono sub3⟩;cases h4
  cases ex with
  |normal=>exact fin hk
  |ret=>simp only[]at hk;let⟨_,_,q2⟩:=em hk;simp at q2
  |exit nt=>
   simp only[Ex.to,Exit.inBlock];simp only[]at hk;split at hk;rename_i hb;rw[aD (au hb)];exact fin hk;let⟨_,_,q2⟩:=em hk;simp at q2
  refine wp_block (wp_mono (ih cb h1 _ s _ _ h3 φ a w g) ?_);rintro e a' w' ⟨ex,s',φ',rfl,hk,g',st,kp⟩;cases ex with
  |normal=>simp only[]at hk;let⟨_,_,q2⟩:=em hk;simp at q2
  |ret=>
   simp only[]at hk;let⟨r',q1,q2⟩:=em hk;simp only[al,Sum.inl.injEq]at q2;subst q2;exact⟨.ret,s',φ',rfl,q1,g',st,kp.mono sub1⟩
  |exit nt=>
   simp only[Ex.to,Exit.inBlock];simp only[]at hk;split at hk;let⟨_,_,q2⟩:=em hk;simp at q2;rename_i hb;rw[av (λe=>hb (by rw[e];exact x_ id))];let⟨r',q1,q2⟩:=em hk;cases q2;exact⟨.exit nt,s',φ',rfl,q1,g',st,kp.mono sub1⟩
 |@loop A b b' _ ih=>
  intro c hc R s K r h φ a w g;let⟨c',hn,I,hsim⟩:=l8 P i c;refine hsim _ _ _ ?_;rw[<- I]at hc;obtain⟨cb,rfl,h1⟩:=Xs hn hc;simp only[rC]at h;let⟨x0,hx0,h⟩:=em h;let⟨n,hn⟩:=aii h;have sub1:∀k,aF (b.asg 0) k=J->aF ((TC.loop A b).asg 0) k=J:=λk hk=>by simp only[TC.asg];exact yG hk
  have sub3:∀k,aF (Q9 A.ks 0) k=J->aF ((TC.loop A b).asg 0) k=J:=λk hk=>by simp only[TC.asg];exact md hk
  obtain⟨step,hstep⟩:∃step:A.D->aj (A.D⊕R),step=λx=>(match L4 A (b.asg 0) s x with
   |some s'=>rC m X V inert b s' λex s'=>(match ex with
    |.normal=>aw (Rw m A (b.asg 0) s s') λy=>Z (lB y)
    |ex=>aw (K ex s') λr=>Z (bR r))
   |none=>U):=⟨_,rfl⟩
  have hn:iterN step n x0=Z r:=by rw[hstep];exact hn
  have stepEq:∀x,step x=(match L4 A (b.asg 0) s x with
   |some s'=>rC m X V inert b s' λex s'=>(match ex with
    |.normal=>aw (Rw m A (b.asg 0) s s') λy=>Z (lB y)
    |ex=>aw (K ex s') λr=>Z (bR r))
   |none=>U):=λx=>by rw[hstep]
  let Inv:Nat->Act->World->Prop:=λn a w'=>∃x s1 φ1,iterN step n x=Z r/\L4 A (b.asg 0) s x=Z s1/\mR P E i m φ1 s1 a w'/\CW m φ φ1 (erHF s.h) (erHF s1.h) w w'
  have head:∀(n:Nat) (x:A.D),iterN step n x=Z r->∃s1,L4 A (b.asg 0) s x=Z s1:=by
   intro n x hn;cases n with
   |zero=>cases hn
   |succ n=>
    simp only[iterN]at hn;cases hr:L4 A (b.asg 0) s x with
    |some s1=>exact⟨s1,rfl⟩
    |none=>rw[stepEq,hr]at hn;cases hn
  refine AQ Inv ?_ (n:=n) ?_;rintro n a1 w1 ⟨x,s1,φ1,hi,hr,g1,Np⟩;cases n with
  |zero=>cases hi
  |succ n=>
   simp only[iterN]at hi;have hse:=stepEq x;rw[hr]at hse;simp only[]at hse;let⟨kp1,kp1'⟩:=Jk hr;split at hi;rename_i y hy;rw[hy]at hse;refine wp_mono (ih cb h1 _ s1 _ _ hse.symm φ1 a1 w1 g1) ?_;rintro e a' w' ⟨ex,s',φ',rfl,hk,g',st,kp⟩;cases ex with
   |normal=>
    simp only[]at hk;let⟨d',q1,q2⟩:=em hk;simp only[al,Sum.inl.injEq]at q2;subst q2;let⟨s2,hs2⟩:=head n d' hi;let⟨φ2,g2,st2⟩:=UW g' q1 hs2 λk hkk hks v hv hf ha v' hv'=>by
     let⟨v0,e1,e2⟩:=kp k ha v' hv';have:=kp1' k hks v0 e1;rw[hv]at this;cases this;exact e2 hf
    exact⟨n,M,d',s2,φ2,hi,hs2,g2,(Np.trans st).trans st2⟩
   |_=>simp only[]at hk;let⟨_,_,q2⟩:=em hk;simp at q2
   rename_i r' hy;cases hi;rw[hy]at hse;refine wp_mono (ih cb h1 _ s1 _ _ hse.symm φ1 a1 w1 g1) ?_;rintro e a' w' ⟨ex,s',φ',rfl,hk,g',st,kp⟩;cases ex with
   |normal=>simp only[]at hk;let⟨_,_,q2⟩:=em hk;simp at q2
   |exit id=>
    simp only[]at hk;let⟨r',q1,q2⟩:=em hk;cases q2;exact⟨.exit id,s',φ',rfl,q1,g',Np.trans st,(kp1.mono sub3).trans (kp.mono sub1)⟩
   |ret=>
    simp only[]at hk;let⟨r',q1,q2⟩:=em hk;cases q2;exact⟨.ret,s',φ',rfl,q1,g',Np.trans st,(kp1.mono sub3).trans (kp.mono sub1)⟩
   cases hi
  let⟨s1,hs1⟩:=head n x0 hn;let⟨φ1,g1,Np⟩:=UW g hx0 hs1 λk _ _ v hv _ _ v' hv'=>by rw[hv]at hv';cases hv';rfl
  exact⟨x0,s1,φ1,hn,hs1,g1,Np⟩
 |exit id=>
  intro c hc R s K r h φ a w g;let⟨c',hn,I,hsim⟩:=l8 P i c;refine hsim _ _ _ ?_;rw[<- I]at hc;rw[anc hn hc];exact wp_exit ⟨.exit id,s,φ,rfl,h,g,CW.refl _ _ _ _,iB.refl _ _⟩
 |ret=>
  intro c hc R s K r h φ a w g;let⟨c',hn,I,hsim⟩:=l8 P i c;refine hsim _ _ _ ?_;rw[<- I]at hc;rw[asm hn hc];exact wp_ret ⟨.ret,s,φ,rfl,h,g,CW.refl _ _ _ _,iB.refl _ _⟩
 |defer f caps t=>
  intro c hc R s K r h φ a w g;let⟨c',hn,I,hsim⟩:=l8 P i c;refine hsim _ _ _ ?_;rw[<- I]at hc;obtain⟨id,ops,dr,rfl,h1,h2⟩:=aij hn hc;simp only[rC]at h;let⟨hi,h⟩:=dO h;refine atl hin g.inert g.size h1 h2 hi λa' d1 d2 d3=>⟨.normal,_,φ,rfl,h,⟨g.zf,λu x hx=>?_,g.dom,g.low,g.qx,λu x hx=>?_,d2,d3⟩,CW.refl _ _ _ _,λk hk v' hv'=>?_⟩
  simp only[gV,PT.get_set]at hx;split at hx;cases hx;rename_i hu;rw[d1 u hu];exact g.env u x hx;simp only[PT.get_set]at hx;split at hx;cases hx;exact g.qc u x hx;simp only[PT.get_set]at hv';split at hv';cases hv';exact⟨v',hv',λ_=>rfl⟩
 |@adj l tc' sc' _ ih=>
  intro c hc R s K r h φ a w g;let⟨c',hn,I,hsim⟩:=l8 P i c;refine hsim _ _ _ ?_;rw[<- I]at hc;simp only[rC]at h;split at h;rename_i s1 hs1;let⟨φ1,g1,Np,kp1⟩:=V9 g hs1;refine wp_mono (ih c' hc R s1 K r h φ1 a w g1) ?_;rintro e a' w' ⟨ex,s',φ',rfl,hk,g',st,kp⟩;exact⟨ex,s',φ',rfl,hk,g',Np.trans st,(kp1.mono λk hk=>by simp only[TC.asg];exact md hk).trans (kp.mono λk hk=>by simp only[TC.asg];exact yG hk)⟩;cases h
 |@split k off lo n tc' sc' _ ih=>
  intro c hc R s K r h φ a w g;let⟨c',hn,I,hsim⟩:=l8 P i c;refine hsim _ _ _ ?_;rw[<- I]at hc;simp only[rC]at h;split at h;rename_i kd v hv;let⟨j,hj,h2⟩:=WG h;subst hj;split at h2;rename_i s1 hs1;let⟨g1,hH,he⟩:=am0 g hv hs1;refine wp_mono (ih c' hc R s1 K r h2 φ a w g1) ?_;rintro e a' w' ⟨ex,s',φ',rfl,hk,g',st,kp⟩;exact⟨ex,s',φ',rfl,hk,g',by rw[<- hH];exact st,λk hk v' hv'=>by
   let⟨v,q1,q2⟩:=kp k hk v' hv';exact⟨v,by rw[<- he];exact q1,q2⟩⟩
  cases h2;cases h
 |@unl n b b' _ ih=>
  intro c hc R s K r h φ a w g;let⟨c',hn,I,hsim⟩:=l8 P i c;refine hsim _ _ _ ?_;rw[<- I]at hc;obtain⟨cb,rfl,h1⟩:=Xs hn hc;simp only[rC]at h
  let Inv:Nat->Act->World->Prop:=λnp a w'=>∃s1 φ1,ara (λs K=>rC m X V inert b s K) np s1 K=Z r/\mR P E i m φ1 s1 a w'/\CW m φ φ1 (erHF s.h) (erHF s1.h) w w'/\iB (b.asg 0) s.e s1.e
  refine AQ Inv ?_ (n:=n) ⟨s,φ,h,g,CW.refl _ _ _ _,iB.refl _ _⟩;rintro np a1 w1 ⟨s1,φ1,hi,g1,Np,kp1⟩;cases np with
  |zero=>cases hi
  |succ np=>
   simp only[ara]at hi;refine wp_mono (ih cb h1 R s1 _ r hi φ1 a1 w1 g1) ?_;rintro e a' w' ⟨ex,s',φ',rfl,hk,g',st,kp⟩;cases ex with
   |normal=>exact⟨np,tR np,s',φ',hk,g',Np.trans st,kp1.trans kp⟩
   |exit id=>exact⟨.exit id,s',φ',rfl,hk,g',Np.trans st,kp1.trans kp⟩
   |ret=>exact⟨.ret,s',φ',rfl,hk,g',Np.trans st,kp1.trans kp⟩
 |jq sc'=>
  intro c hc R s K r h;simp[rC]at h
def Ux {s:TS} (hinv:kR s.h s.nx) (hiE:tZ s.e s.h) (r:rA T O (erHF s.h) W) (en:QF T (tot O T (erHF s.h)) W (gV s.e s.h) F):∀(rs:Y ResultVar) (rvs:Y RV) (l:Y TV),rx P rs=Z rvs->aa2 s rvs=Z l->
 ∃la vs,dx s.h l=Z la/\(rs.mapM (UA F.tmps)).run P W= .ok vs W/\km T (tot O T (erHF s.h)) W la vs
 |[],rvs,l,I,A=>by
  cases I;cases A;exact⟨[],[],rfl,b8,trivial⟩
 |.tmp t::rs,rvs,l,I,A=>by
  simp[rx]at I;split at I;rename_i rvs' hrs;cases I;simp[aa2]at A;split at A;rename_i v hv;split at A;rename_i l' hl';cases A;let⟨la,vs,h0,h1,h2⟩:=Ux hinv hiE r en rs rvs' l' hrs hl';simp[rvT]at hv;let⟨y,hy⟩:=rE s.h v (hiE t v hv);refine ⟨y::la,F.tmps.getD t undef::vs,rq hy h0,?_,en t y (by simp[gV,hv,aH,hy]),h2⟩;simp[List.mapM_cons,fA,UA,oA,cI];simp_all;cases A;cases A;cases I
 |.cell ad t::rs,rvs,l,I,A=>by
  simp[rx]at I;split at I;rename_i rvs' sz ag hrs hsz hag;simp[al]at I;subst I;simp[aa2]at A;split at A;rename_i v hv;split at A;rename_i l' hl';simp[al]at A;subst A;let⟨la,vs,h0,h1,h2⟩:=Ux hinv hiE r en rs rvs' l' hrs hl';simp[rvT]at hv;split at hv;rename_i id off hp;split at hv;rename_i ty q hb;let⟨q',hq'⟩:=gY s.h q (hinv.G id _ q hb);let⟨y,e1,e2⟩:=aw1 hq' hv;let⟨H,hH⟩:=jW s.h;have hR:Ax H sz ag (.K (nm id) off)=Z ⟨y,[nm id],[],[],[]⟩:=by
   have hg:H.get (nm id)=Z ⟨ty,.mx q'⟩:=by rw[hH,ct,hb];simp[aH,mT,hq']
   simp[Ax,hg,e2]
  let⟨_,_,_,h3⟩:=Ql (P:=P) hsz hag hR;let⟨qq,v',h4,h5,h6⟩:=h3 T O (erHF s.h) W _ (λi _=>by rw[hH]) r (en ad _ (by simp[gV,hp,aH,dg]));refine ⟨y::la,v'::vs,rq e1 h0,?_,h6,h2⟩;have hone:(UA F.tmps (.cell ad t)).run P W= .ok v' W:=by
   simp[UA,fA,h4,asAddr,oA,cI,h5]
  simp_all;cases hv;cases hv;cases A;cases A;cases I
def Kr:∀(args:Y TV) (k t:Nat) (x:TV),(Qj k args).get t=Z x->k<=t/\args[t-k]? =Z x
 |[],k,t,x,h=>by simp[Qj,PT.get]at h
 |y::args,k,t,x,h=>by
  rw[Qj,PT.get_set]at h;split at h
  grind
  let⟨h1,h2⟩:=Kr args (k+1) t x h
  grind
variable {r:Y TV} {u:TV}
def amn (A:mo h r=J) (hj:r[i]? =Z u):SD h u=J:=by
 let⟨l',I⟩:=gY h r A;let⟨y,_,q⟩:=nO I i u hj;exact J7 _ _ _ q
def Z8 {inert:FuncId->Bool} (hm:P.follows .mixedOrders=J) (hcon:I3 P X) (hin:D_ P inert) {sf:SF} (hf:Cn P f=Z sf) (D:FT) (m:D.pre.ty.den->aj D.post.ty.den) (hmod:∀x y,m x=Z y->alo X V inert (Z sf) D x=Z y):qV P f ⟨D.pre,D.post,m⟩:=by
 let⟨fn,c,hfn,hb,hnm,hcode,hres,hnt⟩:=PY hf;refine ⟨⟨fn,hfn,by rw[hb];rfl,hnm⟩,λx y hxy vs hp l1 rs hq l2 la lr I B hla hlr φ E w us hrep hrel hdom=>?_⟩;have ht:=hmod x y hxy;unfold alo at ht;simp only[]at ht;split at ht;rename_i args h hins;let⟨l1',I'⟩:=Ab hins;have e1:args=vs:=by have h1:=I.pv;have h2:=I'.pv;rw[h1]at h2;cases h2;rfl
 have e2:l1'=l1:=by have h1:=I.pb;have h2:=I'.pb;rw[h1]at h2;cases h2;rfl
 subst e1 e2;have hget:∀i,h.get i=hp.get i:=λi=>by
  cases h3:hp.get i with
  |some b=>exact (I'.at_ i b).2 ((I.at_ i b).1 h3)
  |none=>
   cases h4:h.get i with
   |none=>rfl
   |some b=>have:=(I.at_ i b).2 ((I'.at_ i b).1 h4);rw[h3]at this;cases this
 have hrow:∀i,e_ h i=e_ hp i:=λi=>by rw[bS,bS,hget]
 have herH:erHF h=erHF hp:=by
  funext n;unfold erHF;rw[hget];cases h3:hp.get (ow n) with
  |none=>rfl
  |some b=>
   simp only[aH];refine xF (λi r hr=>by rw[hrow];exact hr) (λty l e=>?_) _ _;exact (I.G _ _ l (by rw[h3,e])).1
 have hla':dx h args=Z la:=kB (λi r hr=>by rw[hrow];exact hr) args la hla;let⟨hle,ht⟩:=dO ht;simp only[ar]at hle;have hle2:=aY hle.2;have hle:=aY hle.1;have hlen:=km.length hrel;have hargl:args.length=la.length:=(kW hla).symm;refine calls_of_wp_defers hfn hb ?_;have hcfg:mR P E fn.ntmps D.pre.bs.length φ ⟨Qj 0 args,h,D.pre.bs.length⟩ {tmps:=us.toArray++lQ (fn.ntmps-us.toArray.size) undef,defers:=[]} w:=by
  refine ⟨by rw[herH];exact hrep,?_,hdom,bg _,⟨λi ty l hl=>(I'.G i _ l hl).1,λi b hbb=>I'.lt_len hbb⟩,?_,b8,ye⟩;intro t z q;simp only[gV]at q;cases hx:(Qj 0 args).get t with
  |none=>rw[hx]at q;cases q
  |some v0=>
   rw[hx]at q;let⟨_,h2⟩:=Kr args 0 t v0 hx;rw[Nat.sub_zero]at h2;let⟨y0,q1,q2⟩:=nO hla' t v0 h2;simp only[aH]at q;rw[q]at q2;cases q2;let⟨v,h3,h4⟩:=hrel.get t z q1;have hlt:t<us.length:=(bG.1 h3).1;have:(us.toArray++lQ (fn.ntmps-us.toArray.size) undef).getD t undef=v:=by
    rw[iK,Array.getElem?_append]
    grind
   grind
  intro t v0 hv0;let⟨_,h2⟩:=Kr args 0 t v0 hv0;exact amn I'.ok h2
 refine wp_mono (axm (E:=E) hm hcon hin (BF D.hints sf.code 0) c hcode.symm _ _ _ _ ht φ _ w hcfg) ?_;rintro e a' w' ⟨ex,s',φ',rfl,hk,g',st,_⟩;have fin:∀(s':TS) (φ':PM),mR P E fn.ntmps D.pre.bs.length φ' s' a' w'->CW D.pre.bs.length φ φ' (erHF h) (erHF s'.h) w w'->(match aa2 s' sf.res with
  |some l=>(match Gh D.pre.bs.length D.post l s'.h with
   |some ⟨y,_,_,_⟩=>(match Fn D.post y with|some _=>Z y|none=>U)
   |none=>U)
  |none=>U)=Z y->Leaves P fn a'.tmps (λen w'=>∃v φ',en= .returned v/\GP (own φ (erHF hp)) w w'/\(∀k,k<w.heap.size->own φ' (erHF hq) k->own φ (erHF hp) k)/\(∀n,ow n<D.pre.bs.length->φ' n=φ n)/\rA φ' E (erHF hq) w'/\cC φ' (tot E φ' (erHF hq)) w' (Cu lr) v) a'.defers .returning w':=by
  intro s' φ' g' st hk;split at hk;rename_i l hl;split at hk;rename_i y' m' σ sm hM;split at hk;cases hk;let⟨lo,rvs,q0,q1,q2⟩:=Ux g'.qx g'.qc g'.zf g'.env fn.results.toList sf.res l hres hl;have A:=zX hM;let⟨φ2,lu,hlu,S⟩:=QZ (np:=D.pre.bs.length) (E:=E) B g'.qx A q0 g'.zf;rw[hlr]at hlu;cases hlu;have hresults:(results fn a'.tmps).run P w'= .ok (if h:rvs.toArray.size=1 then rvs.toArray[0] else .tuple rvs.toArray) w':=by
   rw[Ns,Sf];simp only[fA,Sem.run_map,q1,cI,oA]
  have hrl:km φ2 (tot E φ2 (erHF hq)) w' lr rvs:=by
   refine km.of (by rw[q2.length,S.len]) λj z v q hv=>?_
   let⟨z0,p1,p2⟩:=S.val j z v q;let⟨v',p3,p4⟩:=q2.get j z0 p1;rw[hv]at p3;cases p3;exact p2 p4
  have hval:cC φ2 (tot E φ2 (erHF hq)) w' (Cu lr) (if h:rvs.toArray.size=1 then rvs.toArray[0] else .tuple rvs.toArray):=by
   have hll:=km.length hrl;clear hlr S;cases lr with
   |nil=>
    cases rvs with
    |nil=>exact cC.qd (vs:=[]) rfl (by intro j x v hx;simp at hx)
    |cons _ _=>exact hrl.elim
   |cons z lr=>
    cases rvs with
    |nil=>exact hrl.elim
    |cons v rvs=>
     cases lr with
     |nil=>
      cases rvs with
      |nil=>exact hrl.1
      |cons _ _=>exact hrl.2.elim
     |cons y l=>
      cases rvs with
      |nil=>exact hrl.2.elim
      |cons u rvs=>
       rw[dif_neg b8];refine cC.qd (vs:=v::u::rvs) (by simpa using hll) λj x' v' hx hv=>?_
       let⟨v'',q1,q2⟩:=hrl.get j x' hx;rw[hv]at q1;cases q1;exact q2
  have st':CW D.pre.bs.length φ φ' (erHF hp) (erHF s'.h) w w':=by rw[<- herH];exact st
  refine Bf hresults ⟨_,φ2,rfl,st'.ext,λk hk ho=>st'.qr k hk (S.qr k ho),λi hi=>?_,S.zf,hval⟩ a'.defers g'.inert;rw[S.par i hi (db hi hle2),st'.par i hi];cases hk;cases hk;cases hk
 have fin2:(match ae1 s' (aD6 D) with
  |some s=>(match aa2 s sf.res with
   |some l=>(match Gh D.pre.bs.length D.post l s.h with
    |some ⟨y,_,_,_⟩=>(match Fn D.post y with|some _=>Z y|none=>U)
    |none=>U)
   |none=>U)
  |none=>U)=Z y->Leaves P fn a'.tmps (λen w'=>∃v φ',en= .returned v/\GP (own φ (erHF hp)) w w'/\(∀k,k<w.heap.size->own φ' (erHF hq) k->own φ (erHF hp) k)/\(∀n,ow n<D.pre.bs.length->φ' n=φ n)/\rA φ' E (erHF hq) w'/\cC φ' (tot E φ' (erHF hq)) w' (Cu lr) v) a'.defers .returning w':=by
  intro hk;split at hk;rename_i s2 ha;let⟨φ3,c3,t3,_⟩:=V9 g' ha;exact fin s2 φ3 c3 (st.trans t3) hk;cases hk
 cases ex with
 |exit id=>cases hk
 |_=>exact fin2 hk
 cases ht
abbrev z?:=FuncId×cu
def ad7:Y z?->FuncId->aj cu
 |[],_=>U
 |(g,c)::r,f=>if aB g f then Z c else ad7 r f
def Sd (P:Program):Y z?->Prop
 |[]=>True
 |p::r=>aM P (p.1%65536) p.2/\Sd P r
def ah2 :∀{l:Y z?},Sd P l->I3 P (ad7 l)
 |[],_,f,c,h=>by simp[ad7]at h
 |(g,d)::r,q,f,c,h=>by
  simp only[ad7]at h;split at h;rename_i A;have:=au A;subst this;cases h;exact q.1;exact ah2 q.2 f c h
def XU {inert:FuncId->Bool} (hm:P.follows .mixedOrders=J) (hin:D_ P inert) {l:Y z?} (A:Sd P l) {D:FT} {m:D.pre.ty.den->aj D.post.ty.den} (q:(Cn P f).isSome=J) (he:∀x,alo (ad7 l) V inert (Cn P f) D x=m x):qV P f ⟨D.pre,D.post,m⟩:=by
 let⟨I,hf⟩:=kq.1 q;exact Z8 hm (ah2 A) hin hf D m λx y hxy=>by rw[<- hf,he];exact hxy
def qV.sub {pre post:Tm} {m m':pre.ty.den->aj post.ty.den} (h:qV P f ⟨pre,post,m⟩) (q:∀x y,m' x=Z y->m x=Z y):qV P f ⟨pre,post,m'⟩:=
 ⟨h.qh,λx y hxy=>h.calls x y (q x y hxy)⟩
def aM.sub {P:Program} {f:FuncId} {pre post:Tm} {m m':pre.ty.den->aj post.ty.den} (h:aM P f ⟨pre,post,m⟩) (q:di (l! pre.bs) (l! post.bs)=J) (A:∀x y,m' x=Z y->m x=Z y):aM P f ⟨pre,post,m'⟩:=
 ((h.holds q).sub A).toC q
def sA {b:Nat}:∀(x y:Y R),chk (bk (ah x) b) (λ_=>Z x)=Z y->aK (aB (ah x) 0) (IR (Z ([]:Y R)) (chk (bk (ah ([]:Y R)+ah x) b) λ_=>(Z (([]:Y R)++x)))) (chk (bk (ah ([]:Y R)+ah x) b) λ_=>(Z (([]:Y R)++x)))=Z y:=by
 intro x y h;rw[lP,jB,bV,h];cases x with
 |nil=>
  let⟨_,h⟩:=c8 h;cases h;show IR (Z []) (Z [])=_;unfold IR;rw[aD rfl]
 |cons a r=>rfl
def U9 {T:Ty} {v:T.den} (sp:aus P f [] PT.leaf 0 ⟨.f (iu T v),PT.leaf,0,0⟩) (m:(Tm.ty ⟨[],[]⟩).den->aj (Tm.ty ⟨[.d T],[]⟩).den) (hm:∀x y,m x=Z y->sP MY [.d T] (Vh (PV.tyL [.d T]) (PB.tyL []) y)=Z [.f T v]):qV P f ⟨⟨[],[]⟩,⟨[.d T],[]⟩,m⟩:=by
 refine ⟨sp.qh,λx y hxy vs hp l1 rs hq l2 la lr I A hla hlr φ E w q hrep hrel hdom=>?_⟩;have hv:vs=[]:=by have:=I.pv;simp only[sP,al]at this;exact this.symm
 subst hv;cases hla;have hrs:rs=[.f T v]:=by
  have h1:=A.pv
  grind
 subst hrs;cases hlr;have noH:∀{h1:ba} {t:Tm} {z:t.ty.den} {q:Y TV} {l:Y (aj gi)},pw t z q h1 l->l! t.bs=0->erHF h1=(PT.leaf:iN).get:=by
  intro h1 t z q l I h0;funext n;cases hb:erHF h1 n with
  |none=>rfl
  |some b=>
   let⟨c,h3,_⟩:=jA hb;have:=I.lt_len h3;omega
 have e1:=noH I rfl;have e2:=noH A rfl;rw[e1]at hrep hrel ⊢;rw[e2];cases q with
 |cons _ _=>exact hrel.elim
 |nil=>
  have hφ:∀i k,φ i=Z k->i<0:=λi k hk=>cf
  refine Calls.mono (sp.calls φ E w [] hrep trivial hφ) ?_;rintro en w' ⟨u,φ',rfl,mv,rp,rv',nm'⟩;refine ⟨u,φ',rfl,mv.ext,mv.qr,λi hi=>by simp at hi,rp,rv'⟩
def abo {pre post:Tm} (q:(Cn P f).isSome=J):qV P f ⟨pre,post,λ_=>U⟩:=by
 let⟨I,hf⟩:=kq.1 q;let⟨fn,c,hfn,A,hnm,_⟩:=PY hf;exact⟨⟨fn,hfn,by rw[A];rfl,hnm⟩,λx y h=>by cases h⟩
def qV.orElse {pre post:Tm} {m m':pre.ty.den->aj post.ty.den} (h:qV P f ⟨pre,post,m⟩) (h':qV P f ⟨pre,post,m'⟩):qV P f ⟨pre,post,λx=>match m x with|some y=>Z y|none=>m' x⟩:=
 ⟨h.qh,λx y hxy=>by
   cases hm:m x with
   |some z=>rw[show (cu.m ⟨pre,post,λx=>match m x with|some y=>Z y|none=>m' x⟩ x)=Z z by show (match m x with|some y=>Z y|none=>m' x)=Z z;rw[hm]]at hxy;cases hxy;exact h.calls x _ hm
   |none=>rw[show (cu.m ⟨pre,post,λx=>match m x with|some y=>Z y|none=>m' x⟩ x)=m' x by show (match m x with|some y=>Z y|none=>m' x)=m' x;rw[hm]]at hxy;exact h'.calls x y hxy⟩
def aM.orE {pre post:Tm} {m m':pre.ty.den->aj post.ty.den} (q:di (l! pre.bs) (l! post.bs)=J) (h:aM P f ⟨pre,post,m⟩) (h':aM P f ⟨pre,post,m'⟩):aM P f ⟨pre,post,λx=>AI.orE (m x) (m' x)⟩:=by
 have e:(λx=>AI.orE (m x) (m' x))=λx=>match m x with|some y=>Z y|none=>m' x:=by funext x;cases m x<;>rfl
 rw[e];exact ((h.holds q).orElse (h'.holds q)).toC q
def inert (f:FuncId):Bool:=aB f 83
def Xt:∃ms,Tryz.prog.underlying 20=Z (.interface ms):=⟨#[],by kernel_rfl⟩
def ani (w:World):(Op.equal 20 .nilIface .nilIface).run Tryz.prog w= .ok J w:=by
 let⟨ms,q⟩:=Xt;have key:∀d,(Op.equalIn (d+1) 20 .nilIface .nilIface).run Tryz.prog w= .ok J w:=λd=>by simp[Op.equalIn,run_underlying q]
 exact key 9999
variable {d:Oper}
def aml {Q:Exit->Act->Y Frame->World->Prop} {rest:ι} {cs:Y Frame} {w':World} (I:E[i]? =Z d) (q:d.guard=U) (A:(execOp F.eval d).run P W= .ok .recover w') (hn:recoverD cs=U) (h:wpOpsS P E Q rest (F.put d.dst .nilIface) cs w'):wpOpsS P E Q (i::rest) F cs W:=by
 have q:ko d (yielded E F.tmps)=J:=by unfold ko;rw[q]
 simp only[wpOpsS,I,q,bC,A,hn];exact h
variable {v:Value}
def amk {Q:Exit->Act->Y Frame->World->Prop} {rest:ι} {cs:Y Frame} {w':World} (I:E[i]? =Z d) (q:d.guard=U) (A:(execOp F.eval d).run P W= .ok (.value v) w') (h:wpOpsS P E Q rest (F.put d.dst v) cs w'):wpOpsS P E Q (i::rest) F cs W:=by
 have q:ko d (yielded E F.tmps)=J:=by unfold ko;rw[q]
 simp only[wpOpsS,I,q,bC,A];exact h
def Oc:D_ Tryz.prog inert:=by
 intro f hf;have hf:f=83:=au hf;subst hf;refine ⟨⟨Tryz.f83,Tryz.func83,by kernel_rfl,by kernel_rfl⟩,λargs w=>?_⟩;refine callsD_of_wpS Tryz.func83 rfl λc₀ cs q=>?_
 refine wpS_seq (wpS_region ?_);generalize ht:(args++lQ (Tryz.f83.ntmps-args.size) undef)=T;have hs:5<=T.size:=by
  rw[<- ht];simp only[Array.size_append,Array.size_replicate];have:Tryz.f83.ntmps=5:=rfl;omega
 have I:recoverD (c₀::cs)=U:=by simp[recoverD,q]
 refine aml (i:=0) (rest:=[1]) rfl rfl (w':=w) ?_ I ?_;simp[execOp,resolve,invoke,builtin];refine amk (v:=.bool af) rfl rfl (w':=w) ?_ ?_;have A:Act.eval (Uf {tmps:=T,defers:=[]} (Z 2) .nilIface) (.tmp 2)= .nilIface:=by
  simp[Act.eval,Uf,show 2<T.size by omega]
 have h2:=ani w;have hcst:Act.eval (Uf {tmps:=T,defers:=[]} (Z 2) .nilIface) (.const .nilIface)= .nilIface:=rfl;show (execOp (Act.eval (Uf {tmps:=T,defers:=[]} (Z 2) .nilIface)) _).run _ w=_;simp[execOp,A,hcst,eqGuard,binOp,h2];show Exit.thenS _ _ .normal _ _ _;refine wpS_cond (t:=af) ?_ ?_;simp[Act.eval,Uf,show 3<T.size by omega];refine wpS_of_wp (wp_skip ?_);have hres:Tryz.f83.results=#[]:=rfl;exact⟨rfl,c₀.mode,rfl,.tuple #[],by simp[results,hres],⟨_,rfl⟩,q,rfl⟩
def dT :Y (Nat×R)->PT R
 |[]=>.leaf
 |p::r=>(dT r).set p.1 (Z p.2)
noncomputable abbrev Pg:Program:=Tryz.prog
def cn (D:FT) (m:D.pre.ty.den->aj D.post.ty.den):cu:=⟨D.pre,D.post,m⟩
def ayp:Pg.follows .mixedOrders=J:=by kernel_rfl
def ac {c:cu} {l:Y z?} (h:aM Pg f c) (t:Sd Pg l) (hf:dE f 65536=J:=by rfl):Sd Pg ((f,c)::l):=⟨by rw[ml (aph hf)];exact h,t⟩
def ac2 {c:cu} {l:Y z?} (q:FuncId) (A:q%65536=f) (h:aM Pg f c) (t:Sd Pg l):Sd Pg ((q,c)::l):=⟨by rw[A];exact h,t⟩
def an:Sd Pg []:=trivial
inductive OI {R:Type}:Option R->Option R->Prop where
 |rfl {a:Option R}:OI a a
 |chk {b:Bool} {k k':Option R} (h:nU k k'):OI (chk b λ_=>k) (chk b λ_=>k')
 |aK {b:Bool} {t f t' f':Option R} (h1:nU t t') (h2:nU f f'):OI (aK b t f) (aK b t' f')
 |lt {α:Type} {x:α} {k k':α->Option R} (h:∀y,nU (k y) (k' y)):OI (lt x k) (lt x k')
 |jn {α:Type} {o o':Option (R⊕α)} {k k':α->Option R} (h:nU o o') (hk:∀x,nU (k x) (k' x)):OI (jn o k) (jn o' k')
 |aw {α:Type} {o o':Option α} {k k':α->Option R} (h:nU o o') (hk:∀x,nU (k x) (k' x)):OI (aw o k) (aw o' k')
 |iter {σ:Type} {f g:σ->Option (σ⊕R)} {x:σ} (h:∀x,nU (f x) (g x)):OI (jG f x) (iter g x)
def OI.o {a b:aj R} (h:OI a b):nU a b:=by
 cases h with
 |rfl=>exact nU.rfl
 |chk h=>exact nU.chk h
 |aK h g=>exact nU.bcase h g
 |lt h=>exact nU.lt h
 |jn h g=>exact nU.jn h g
 |aw h g=>exact nU.obind h g
 |iter h=>exact nU.iter h
def mk (D:FT) (m:D.pre.ty.den->aj D.post.ty.den) {l:Y z?} (ha:Sd Pg l) (q:TypeId->aj Ty) (he:∀x,alo (ad7 l) q inert (Cn Pg f) D x=m x:=by intro x;kernel_rfl) (A:(Cn Pg f).isSome=J:=by kernel_rfl) (I:di (l! D.pre.bs) (l! D.post.bs)=J:=by kernel_rfl):aM Pg f (cn D m):=(XU ayp Oc ha A he).toC I
def Gg (D:FT) (m n:D.pre.ty.den->aj D.post.ty.den) (I:∀x,nU (m x) (n x)) {l:Y z?} (ha:Sd Pg l) (q:TypeId->aj Ty) (he:∀x,alo (ad7 l) q inert (Cn Pg f) D x=n x:=by intro x;kernel_rfl) (A:(Cn Pg f).isSome=J:=by kernel_rfl) (hb:di (l! D.pre.bs) (l! D.post.bs)=J:=by kernel_rfl):aM Pg f (cn D m):=((XU ayp Oc ha A he).sub I).toC hb
def SK (D:FT) (q:(Cn Pg f).isSome=J:=by kernel_rfl) (A:di (l! D.pre.bs) (l! D.post.bs)=J:=by kernel_rfl):aM Pg f (cn D λ_=>U):=(abo q).toC A
@[simp] theorem fg (t f:aj R):aK J t f=t:=Eq.trans rfl rfl
@[simp] theorem gf (t f:aj R):aK af t f=f:=Eq.trans rfl rfl
@[simp] theorem chk_t (k:J=J->aj R):chk J k=k rfl:=Eq.trans rfl rfl
def cP (h:b=J) (k:aj R):chk b (λ_=>k)=k:=by cases b with|true=>rfl|false=>cases h
@[simp] theorem d6 {α:Type} (x:α) (k:α->aj R):aw (Z x) k=k x:=Eq.trans rfl rfl
@[simp] theorem oO {α:Type} (x:α) (k:α->aj R):jn (Z (.inr x)) k=k x:=Eq.trans rfl rfl
@[simp] theorem jn_l {α:Type} (r:R) (k:α->aj R):jn (Z (.inl r)) k=Z r:=Eq.trans rfl rfl
def ask {σ:Type} {f:σ->aj (σ⊕R)} {x:σ} {r:R} (h:iterN f i x=Z r) (q:i<=18446744073709551616):jG f x=Z r:=Di h q
def Dh {σ:Type} {f:σ->aj (σ⊕R)} (n:Nat) (A:n<18446744073709551616) (st:Nat->σ) {r:R} (h0:∀i,i<n->f (st i)=Z (.inl (st (i+1)))) (h1:f (st n)=Z (.inr r)):jG f (st 0)=Z r:=by
 have key:∀k i,i+k=n->iterN f (k+1) (st i)=Z r:=by
  intro k;induction k with
  |zero=>intro i hi;have:i=n:=M
         subst this;simp[iterN,h1]
  |succ k q=>intro i hi;rw[iterN,h0 i M];exact q (i+1) M
 exact ask (key n 0 M) M
variable {a:Int}
@[simp] theorem ank {b:Int}:cN a b=J↔a<=b:=by unfold cN;simp
@[simp] theorem anj {b:Int}:hY a b=J↔a<b:=by unfold hY;simp
def t7 {b:Int} (h:a<=b):cN a b=J:=ank.2 h
def Ac {b:Int} (h:a<b):hY a b=J:=anj.2 h
def anl {b:Int} (h:b<a):cN a b=af:=by unfold cN;simp;omega
def Dl {b:Int} (h:b<=a):hY a b=af:=by unfold hY;simp;omega
def aD2 (h0:0<=a) (h1:a<i):fO a i=J:=by unfold fO;rw[t7 h0,Ac h1];rfl
def dC (h1:i<m):fO (i:Int) m=J:=aD2 M M
def AT (h0:i<=1099511627776) (h1:i*m<=1099511627776):bk i m=J:=by
 unfold bk;rw[bj h0,bj h1];rfl
def avv (h0: -9223372036854775808<=a) (h1:a<=9223372036854775807):aU .i64 a=a:=by
 rw[Ei];unfold Nh;simp only[];rw[t7 h0,t7 h1];rfl
def uf (h:i<m) (q:m<=1099511627776):aU .i64 ((i:Int)+1)=((i+1:Nat):Int):=by
 rw[avv M M];omega
def Dj (a b:Nat):mJ (aZ a) (aZ b)=((max a b:Nat):Int):=by
 unfold mJ;by_cases h:a<b;rw[Ac ye,aD rfl];simp;omega;rw[Dl ye];simp;omega
def Ae {T:Ty} (xs:Y T.den) (i:Nat):aE _ xs (i:Int)=xs.getD i T.zero:=by unfold aE;simp
def vQ (xs:Y η) (i:Nat):aE (.sl (.int .i64)) xs (i:Int)=xs.getD i []:=Ae (T:=.sl (.int .i64)) xs i
def ayq (xs:η) (i:Nat):aE (.int .i64) xs (i:Int)=xs.getD i 0:=Ae (T:=.int .i64) xs i
def hZ (xs:Y R) (i:Nat) (x:R):bW xs (i:Int) x=xs.set i x:=by unfold bW;simp
abbrev aO:Ty:=(.int .i64)
abbrev mS:Ty:=(.st (.pr .str (.pr aO (.pr aO (.pr .bool aO)))))
abbrev tY:Ty:=(.st (.pr .str .bool))
abbrev rZ:Ty:=(.st (.pr aO (.pr aO aO)))
abbrev rB:Ty:=(.st (.pr (.sl mS) (.pr (.sl tY) (.pr (.sl itK) (.pr (.sl .str) (.pr (.sl .str) (.sl rZ)))))))
abbrev ze:Ty:=(.sl (.sl aO))
abbrev gh:Ty:=(.st (.pr aO (.pr (.sl aO) (.pr ze aO))))
abbrev tV:Ty:=(.st (.pr aO (.pr aO (.pr aO (.pr aO (.pr aO aO))))))
abbrev dU:Ty:=(.st (.pr aO (.sl aO)))
abbrev pu:Ty:=(.sl .bool)
abbrev iH:Ty:=(.st (.pr aO (.pr aO .bool)))
abbrev AL:Ty:=(.st (.pr (.sl dU) (.pr aO (.pr pu (.sl iH)))))
abbrev iP:Ty:=(.st (.pr aO (.pr aO (.pr aO (.pr aO (.pr aO (.pr (.sl aO) (.sl aO))))))))
abbrev LS:Ty:=(.st (.pr aO (.pr aO (.pr .str (.pr aO (.pr aO .str))))))
abbrev vW:Ty:=(.st (.pr .str (.pr aO (.pr (.sl .str) (.sl .sm)))))
abbrev T8:Ty:=(.st (.pr (.sl LS) (.sl vW)))
abbrev AC:Ty:=(.st (.pr aO (.sl tV)))
abbrev xK:Ty:=(.st (.pr rB (.sl AC)))
abbrev zo:Ty:=(.st (.pr AL (.pr (.sl aO) (.pr (.sl aO) (.sl gh)))))
abbrev gW:Ty:=(.st (.pr aO aO))
abbrev rY:Ty:=(.st (.pr AL (.pr (.sl aO) (.pr (.sl aO) (.sl aO)))))
abbrev Qz:Ty:=(.sl (.int .u8))
abbrev aec:Ty:=(.st (.pr Qz aO))
abbrev AB:Ty:=(.st (.pr rB (.sl iP)))
abbrev k?:=Int×Int×Bool×Int
abbrev Zy:=(ζ×k?)
abbrev pW:=(Y Zy)
abbrev v?:=ζ×Bool
abbrev mU:=(Y v?)
abbrev lA:=(ζ×Int)
abbrev dK:=(Y ζ)
abbrev b!:=pW×mU×(Y lA)×dK×dK×Y π
abbrev kX:=b!
abbrev g!:=Int×Int
abbrev uT:=(pW×mU×(Y lA)×dK×dK×(Y π)×dK×g!)
abbrev d!:=Int×η
abbrev kc:=(Y d!)
abbrev c!:=Int×Int×Bool
abbrev ey:=c!
abbrev g?:=(θ)×Y ey
abbrev q!:=kc×Int×g?
abbrev mj:=q!
abbrev j!:=Int×(η)×(Y η)×Int
abbrev y_:=j!
abbrev mQ:=(ω)
abbrev b?:=Int×Int×Int×Int×Int×(η)×η
abbrev rW:=b?
abbrev A?:=Int×Int×(ζ)×Int×Int×ζ
abbrev azn:=A?
abbrev Az:=(Y azn)
abbrev Ay:=(ζ×Int×dK×Y Sx)
abbrev K!:=Bool×Bool
abbrev U!:=Int×Int×Bool×Bool×K!
abbrev G4:=U!
abbrev y!:=kX×Y (Int×Y mQ)
abbrev G3:=y!
abbrev R4:=(υ)
abbrev e?:=mj×(η)×(η)×Y y_
abbrev BJ:=e?
abbrev p?:=η×Int
abbrev sH:=p?
abbrev ae5:=(Int×Int×(ζ)×(ζ)×Int×Int×ζ)
abbrev AA:=(Az×(Y Ay)×Int)
abbrev n?:=(η)×(η)×η
abbrev Q?:=mj×n?
abbrev rX:=Q?
abbrev Zz:=(Bool×Y ζ)
abbrev Ya23:=(Int×Int×y_×y_×j!)
abbrev Ya24:=(y_×Int×Int×y_×j!)
abbrev W!:=Int×Int×j!
abbrev Ya25:=(y_×y_×W!)
abbrev h?:=G4×sH×Bool×Y ζ
abbrev apx:=((Y Sx)×h?)
abbrev Ya27:=(Int×Int×y_×j!)
abbrev Ya28:=(y_×W!)
abbrev Ya29:=W!
abbrev W?:=Int×h?
abbrev ak9:=W?
abbrev apw:=(Sx×h?)
abbrev c?:=AA×(Bool×Y Sx)×dK×Y ζ
abbrev aui:=(ν×c?)
abbrev e!:=uT×Y mQ
abbrev R3:=(Sx×e!)
abbrev I0:=(BJ×rW×Bool)
abbrev U?:=(Sx×Int×Int×Int)×e!
abbrev apv:=U?
abbrev auh:=(ν×h?)
abbrev aug:=(lA×h?)
abbrev ak8:=(G4×sH×Zz×Y Sx)
abbrev auf:=(Xp×h?)
abbrev Ya42:=(y_×y_×y_×g!)
abbrev apu:=((Y Sx)×e!)
abbrev a8 {α:Type} (l:Y α):Int:=aZ (ah l)
abbrev cH (n:Int):Int:=aU .i64 (n+1)
abbrev aJ {R α:Type} (x:α):aj (R⊕α):=Z (bR x)
abbrev cW {R α:Type} (x:R):aj (R⊕α):=Z (lB x)
abbrev bM {R:Type} (T:Ty) (l:Y T.den) (j:Int) (k:T.den->aj R):aj R:=chk (fO j (ah l)) λ_=>lt (aE T l j) k
abbrev nI {R:Type} (T:Ty) (l:Y T.den) (j:Int) (k:T.den->aj R):aj R:=chk (fO j (ah l)) λ_=>chk (fO j (ah l)) λ_=>lt (aE T l j) k
abbrev vI {R α:Type} (j:Int) (l:Y α) (k:aj R):aj R:=chk (fO j (ah l)) λ_=>k
abbrev bT {R:Type} (b:Bool) (k:aj R):aj R:=chk b λ_=>k
abbrev bp {R:Type} (a b:Int) (t f:aj R):aj R:=aK (decide (a=b)) t f
abbrev jP {R:Type} (a b:Int) (t f:aj R):aj R:=aK (!decide (a=b)) t f
abbrev bO {R:Type} (a b:Int) (t f:aj R):aj R:=aK (hY a b) t f
abbrev jO {R:Type} (a b:Int) (t f:aj R):aj R:=aK (cN a b) t f
def ck (b:Bool) (k:aj R):aj R:=chk b λ_=>chk b λ_=>k
def fo (s:Sx):Sx:=pL (Sx.op s,Sx.line s,Sx.name s,Sx.arg s,Sx.index s,fm (Xp.op (Sx.expr s),Xp.n (Sx.expr s),Xp.name (Sx.expr s),Xp.l (Sx.expr s)),Sx.body s,Sx.els s)
def me (x:Unit):aj dK:=
 (Z ([[118,97,114],[118,111,108,97,116,105,108,101],[109,117,116,101,120],[114,119,108,111,99,107],[99,111,110,100],[102,117,116,117,114,101],[116,104,114,101,97,100],[105,102],[101,108,115,101],[119,104,105,108,101],[108,111,99,107],[114,101,97,100],[119,114,105,116,101],[116,114,97,110,115,97,99,116,105,111,110],[97,116,111,109,105,99],[119,97,105,116],[110,111,116,105,102,121],[110,111,116,105,102,121,97,108,108],[115,112,97,119,110],[106,111,105,110],[115,101,116],[103,101,116]]))
def mF (x:ζ):aj (Bool):=
 (aw (me ()) λq=>(iter (σ:=Int) (λx2=>(bO x2 (a8 q) (bM (.str) q x2 λA=>(aK (decide ((A:ζ)=x)) (aJ J) (cW (cH x2)))) (aJ af))) 0))
def mY (x:Int):aj (Bool):=
 (jn (jO 97 x (jO x 122 (aJ J) (jO 65 x (aJ (cN x 90)) (aJ af))) (jO 65 x (aJ (cN x 90)) (aJ af))) λx1=>(Z x1))
def uu (x:Int):aj (Bool):=
 (jn (jO 48 x (aJ (cN x 57)) (aJ af)) λx1=>(Z x1))
def rP (x:Int):aj (Bool):=
 (jn (aw (mY x) λA=>(aK A (aJ J) (aw (uu x) λq=>(aK q (aJ J) (aJ (decide ((x:Int)=95))))))) λx1=>(Z x1))
def gL (x:ζ):aj (Bool):=
 (jn (bO (a8 x) 1 (aJ J) (bO 12 (a8 x) (aJ J) (vI 0 x (aw (mY (tW x 0)) λy2=>(aK (!y2) (aJ J) (aw (mF x) λI=>(aJ I))))))) λx1=>(aK x1 (Z af) (iter (σ:=Int) (λq=>(bO q (a8 x) (vI q x (aw (rP (tW x q)) λA=>(aK (!A) (aJ af) (cW (cH q))))) (aJ J))) 0)))
def ie (x:Bool):aj (Int):=
 (aK x (Z 1) (Z 0))
abbrev i?:=Int×Bool
def xl (x:ν):aj i?:=
 (bp x.1 4 (Z ((aU .i64 (0-x.2)),J)) (bp x.1 5 (aw (ie (decide ((x.2:Int)=0))) λq=>(Z (q,J))) (Z (0,af))))
def vi (x:π):aj i?:=
 (bp x.1 6 (Z ((aU .i64 (x.2.1+x.2.2)),J)) (bp x.1 7 (Z ((aU .i64 (x.2.1-x.2.2)),J)) (bp x.1 8 (Z ((aU .i64 (x.2.1*x.2.2)),J)) (bp x.1 9 (bp x.2.2 0 (Z (0,J)) (bT (!decide ((x.2.2:Int)=0)) (Z ((aU .i64 (Int.tdiv x.2.1 x.2.2)),J)))) (bp x.1 10 (bp x.2.2 0 (Z (0,J)) (bT (!decide ((x.2.2:Int)=0)) (Z ((vE x.2.1 x.2.2),J)))) (bp x.1 11 (aw (ie (decide ((x.2.1:Int)=x.2.2))) λy1=>(Z (y1,J))) (bp x.1 12 (aw (ie (!decide ((x.2.1:Int)=x.2.2))) λy2=>(Z (y2,J))) (bp x.1 13 (aw (ie (hY x.2.1 x.2.2)) λy3=>(Z (y3,J))) (bp x.1 14 (aw (ie (cN x.2.1 x.2.2)) λy4=>(Z (y4,J))) (bp x.1 15 (aw (ie (hY x.2.2 x.2.1)) λy5=>(Z (y5,J))) (bp x.1 16 (aw (ie (cN x.2.2 x.2.1)) λy6=>(Z (y6,J))) (bp x.1 17 (jn (jP x.2.1 0 (aw (ie (!decide ((x.2.2:Int)=0))) λy8=>(aJ (y8,J))) (aw (ie af) λy9=>(aJ (y9,J)))) λx7=>(Z x7)) (bp x.1 18 (jn (jP x.2.1 0 (aw (ie J) λA=>(aJ (A,J))) (aw (ie (!decide ((x.2.2:Int)=0))) λq=>(aJ (q,J)))) λI=>(Z I)) (Z (0,af)))))))))))))))
def xm (x:ν):aj (Int):=
 (bO x.2 1 (Z 0) (bT (!decide ((x.2:Int)=0)) (jn (bO (vE x.1 x.2) 0 (aJ (aU .i64 ((vE x.1 x.2)+x.2))) (aJ (vE x.1 x.2))) λx1=>(Z x1))))
def oe (x:Int):aj (Int):=
 (jn (bp x 1 (aJ J) (aJ (decide ((x:Int)=2)))) λx1=>(aK x1 (Z 0) (jn (jO 3 x (aJ (cN x 5)) (aJ af)) λx2=>(aK x2 (Z 1) (jn (jO 6 x (aJ (cN x 18)) (aJ af)) λq=>(aK q (Z 2) (Z (-1))))))))
def rm (rr02_ShapedExpr:Xp->aj (Bool)) (x:Xp):aj (Bool):=
 (jn (bp (Xp.op x) 2 (aJ (J,fm ((Xp.op x),(Xp.n x),(Xp.name x),(Xp.l x)))) (aJ ((decide (((Xp.op x):Int)=3)),fm ((Xp.op x),(Xp.n x),(Xp.name x),(Xp.l x))))) λx1=>(jn (α:=Bool×Xp) (aw (oe (Xp.op x1.2)) λy3=>(jP y3 (aZ (ah (Xp.l x1.2))) (aJ (J,fm ((Xp.op x1.2),(Xp.n x1.2),(Xp.name x1.2),(Xp.l x1.2)))) (aK ((x1.1==(!decide (((Xp.name x1.2):ζ)=([])))) !=J) (aJ (J,fm ((Xp.op x1.2),(Xp.n x1.2),(Xp.name x1.2),(Xp.l x1.2)))) (aK x1.1 (aw (gL (Xp.name x1.2)) λy4=>(aK (!y4) (aJ (J,fm ((Xp.op x1.2),(Xp.n x1.2),(Xp.name x1.2),(Xp.l x1.2)))) (bO (Xp.n x1.2) 0 (aJ (J,fm ((Xp.op x1.2),(Xp.n x1.2),(Xp.name x1.2),(Xp.l x1.2)))) (jP (Xp.op x1.2) 1 (aJ ((!decide (((Xp.n x1.2):Int)=0)),fm ((Xp.op x1.2),(Xp.n x1.2),(Xp.name x1.2),(Xp.l x1.2)))) (aJ (af,fm ((Xp.op x1.2),(Xp.n x1.2),(Xp.name x1.2),(Xp.l x1.2)))))))) (bO (Xp.n x1.2) 0 (aJ (J,fm ((Xp.op x1.2),(Xp.n x1.2),(Xp.name x1.2),(Xp.l x1.2)))) (jP (Xp.op x1.2) 1 (aJ ((!decide (((Xp.n x1.2):Int)=0)),fm ((Xp.op x1.2),(Xp.n x1.2),(Xp.name x1.2),(Xp.l x1.2)))) (aJ (af,fm ((Xp.op x1.2),(Xp.n x1.2),(Xp.name x1.2),(Xp.l x1.2)))))))))) λx2=>(aK x2.1 (Z af) (iter (σ:=Int×Xp) (λq=>(bO q.1 (aZ (ah (Xp.l q.2))) (bM (.ex) (Xp.l q.2) q.1 λA=>(aw (rr02_ShapedExpr A) λI=>(aK (!I) (aJ af) (cW ((cH q.1),fm ((Xp.op q.2),(Xp.n q.2),(Xp.name q.2),(Xp.l q.2))))))) (aJ J))) (0,fm ((Xp.op x2.2),(Xp.n x2.2),(Xp.name x2.2),(Xp.l x2.2)))))))
def jH:Nat->Xp->aj (Bool)
 |0,_=>U
 |n+1,x=>rm (jH n) x
def Dz (n:Nat) (x:Xp):jH (n+1) x=rm (jH n) x:=rfl
def kD (x:Xp):aj (Bool):=jH ii x
def rN (x:Xp):aj (Bool):=
 (jn (α:=Bool) (bp (Xp.op x) 0 (bp (Xp.n x) 0 (aK (decide (((Xp.name x):ζ)=([]))) (aJ (decide (((aZ (ah (Xp.l x))):Int)=0))) (aJ af)) (aJ af)) (aJ af)) λx1=>(Z x1))
def lZ (rr02_ShapedStmt:Sx->aj (Bool)) (rr02_ShapedStmts:(Y Sx)->aj (Bool)) (x:Sx):aj (Bool):=
 (jn (bO (Sx.op x) 1 (aJ (J,fo x)) (aJ ((hY 15 (Sx.op x)),fo x))) λx1=>(aK x1.1 (Z af) (jn (bp (Sx.op x1.2) 2 (aJ (J,fo x1.2)) (bp (Sx.op x1.2) 3 (aJ (J,fo x1.2)) (bp (Sx.op x1.2) 7 (aJ (J,fo x1.2)) (aJ ((decide (((Sx.op x1.2):Int)=8)),fo x1.2))))) λx2=>(jn (α:=Bool×Sx) (aK x2.1 (aK (!decide (((Sx.name x2.2):ζ)=([]))) (aJ (J,fo x2.2)) (aK (!x2.1) (aw (gL (Sx.name x2.2)) λy4=>(aJ ((!y4),fo x2.2))) (aJ (af,fo x2.2)))) (aK (!x2.1) (aw (gL (Sx.name x2.2)) λy5=>(aJ ((!y5),fo x2.2))) (aJ (af,fo x2.2)))) λx3=>(aK x3.1 (Z af) (jn (α:=Bool×Sx) (bp (Sx.op x3.2) 15 (aw (gL (Sx.arg x3.2)) λy7=>(aK (!y7) (aJ (J,fo x3.2)) (jP (Sx.op x3.2) 15 (aJ ((!decide (((Sx.arg x3.2):ζ)=([]))),fo x3.2)) (aJ (af,fo x3.2))))) (jP (Sx.op x3.2) 15 (aJ ((!decide (((Sx.arg x3.2):ζ)=([]))),fo x3.2)) (aJ (af,fo x3.2)))) λI=>(aK I.1 (Z af) (jn (bO 1 (aZ (ah (Sx.index I.2))) (aJ (J,fo I.2)) (jP (Sx.op I.2) 1 (bO 0 (aZ (ah (Sx.index I.2))) (aJ (J,fo I.2)) (bp (aZ (ah (Sx.index I.2))) 1 (bM (.ex) (Sx.index I.2) 0 λz9=>(aw (kD z9) λy10=>(aJ ((!y10),fo I.2)))) (aJ (af,fo I.2)))) (bp (aZ (ah (Sx.index I.2))) 1 (bM (.ex) (Sx.index I.2) 0 λz11=>(aw (kD z11) λy12=>(aJ ((!y12),fo I.2)))) (aJ (af,fo I.2))))) λx8=>(aK x8.1 (Z af) (jn (bp (Sx.op x8.2) 1 (aJ (J,fo x8.2)) (bp (Sx.op x8.2) 2 (aJ (J,fo x8.2)) (bp (Sx.op x8.2) 3 (aJ (J,fo x8.2)) (aJ ((decide (((Sx.op x8.2):Int)=14)),fo x8.2))))) λq=>(jn (aK q.1 (aw (kD (fm ((Xp.op (Sx.expr q.2)),(Xp.n (Sx.expr q.2)),(Xp.name (Sx.expr q.2)),(Xp.l (Sx.expr q.2))))) λy15=>(aK (!y15) (aJ (J,fo q.2)) (aK (!q.1) (aw (rN (fm ((Xp.op (Sx.expr q.2)),(Xp.n (Sx.expr q.2)),(Xp.name (Sx.expr q.2)),(Xp.l (Sx.expr q.2))))) λy16=>(aJ ((!y16),fo q.2))) (aJ (af,fo q.2))))) (aK (!q.1) (aw (rN (fm ((Xp.op (Sx.expr q.2)),(Xp.n (Sx.expr q.2)),(Xp.name (Sx.expr q.2)),(Xp.l (Sx.expr q.2))))) λy17=>(aJ ((!y17),fo q.2))) (aJ (af,fo q.2)))) λx14=>(aK x14.1 (Z af) (jn (jO 2 (Sx.op x14.2) (aJ ((cN (Sx.op x14.2) 8),fo x14.2)) (aJ (af,fo x14.2))) λA=>(jn (aK (!A.1) (bO 0 (aZ (ah (Sx.body A.2))) (aJ (J,fo A.2)) (jP (Sx.op A.2) 2 (aJ ((hY 0 (aZ (ah (Sx.els A.2)))),fo A.2)) (aJ (af,fo A.2)))) (jP (Sx.op A.2) 2 (aJ ((hY 0 (aZ (ah (Sx.els A.2)))),fo A.2)) (aJ (af,fo A.2)))) λx19=>(aK x19.1 (Z af) (jn (aw (rr02_ShapedStmts (Sx.body x19.2)) λy21=>(aK y21 (aw (rr02_ShapedStmts (Sx.els x19.2)) λy22=>(aJ y22)) (aJ af))) λx20=>(Z x20)))))))))))))))))
def mM (rr02_ShapedStmt:Sx->aj (Bool)) (rr02_ShapedStmts:(Y Sx)->aj (Bool)) (x:Y Sx):aj (Bool):=
 (iter (σ:=Int) (λx1=>(bO x1 (a8 x) (vI x1 x (aw (rr02_ShapedStmt (aE (.sm) x x1)) λq=>(aK (!q) (aJ af) (cW (cH x1))))) (aJ J))) 0)
mutual
def fP:Nat->Sx->aj (Bool)
 |0,_=>U
 |n+1,x=>lZ (fP n) (dY n) x
def dY:Nat->(Y Sx)->aj (Bool)
 |0,_=>U
 |n+1,x=>mM (fP n) (dY n) x
end
def Dy (n:Nat) (x:Sx):fP (n+1) x=lZ (fP n) (dY n) x:=rfl
def CC (n:Nat) (x:Y Sx):dY (n+1) x=mM (fP n) (dY n) x:=rfl
def pH (x:Y Sx):aj (Bool):=dY ii x
def nM (x:A?):aj (Bool):=
 (jn (bO x.1 1 (aJ (J,x)) (bO 6 x.1 (aJ (J,x)) (aw (gL x.a) λI=>(aK (!I) (aJ (J,x)) (bO x.b 0 (aJ (J,x)) (jP x.1 1 (aJ ((!decide ((x.b:Int)=0)),x)) (aJ (af,x)))))))) λx1=>(aK x1.1 (Z af) (jn (α:=Bool×A?) (bp x1.2.1 5 (aw (gL x1.i) λA=>(aK (!A) (aJ (J,x1.2)) (jP x1.2.1 5 (aJ ((!decide ((x1.i:ζ)=([]))),x1.2)) (aJ (af,x1.2))))) (jP x1.2.1 5 (aJ ((!decide ((x1.i:ζ)=([]))),x1.2)) (aJ (af,x1.2)))) λq=>(aK q.1 (Z af) (jn (α:=Bool) (bO (-9223372036854775808) q.e (bp q.e 0 (aJ J) (bp q.2.1 1 (aJ J) (aJ (decide ((q.2.1:Int)=2))))) (aJ af)) λx5=>(Z x5))))))
abbrev y?:=Az×Y Ay
abbrev J!:=Int×(Az×Y Ay)×(ζ)×Int×dK×Y Sx
def sg (x:y?):aj (Bool):=
 (iter (σ:=Int×y?) (λx1=>(bO x1.1 (a8 x1.2.1) (bM LS x1.2.1 x1.1 λz2=>(aw (nM z2) λy3=>(aK (!y3) (aJ af) (cW ((cH x1.1),x1.2))))) (aw (iter (σ:=Int×y?) (λA=>(bO A.1 (a8 A.2.2) (bM vW A.2.2 A.1 λz5=>(iter (σ:=J!) (λq=>(bO q.1 (a8 q.c) (bM (.str) q.c q.1 λz7=>(aw (gL z7) λy8=>(aK (!y8) (aJ (bR af)) (cW ((cH q.1),q.2))))) (aw (jn (aw (gL q.a) λy10=>(aK (!y10) (aJ (J,q.2.1)) (aw (pH q.h) λI=>(aJ ((!I),q.2.1))))) λx9=>(aK x9.1 (aJ af) (cW ((cH A.1),x9.2)))) λr=>Z (bR r)))) (0,A.2,z5))) (aJ (hY 0 (a8 A.2.2))))) (0,x1.2)) λr=>Z (bR r)))) (0,x))
def kP (x:dK×ζ):aj (Int):=
 (iter (σ:=Int) (λx1=>(bO x1 (a8 x.1) (bM (.str) x.1 x1 λq=>(aK (decide ((q:ζ)=x.2)) (aJ x1) (cW (cH x1)))) (aJ (-1)))) 0)
def ki (x:Az×ζ):aj (Int):=
 (iter (σ:=Int) (λx1=>(bO x1 (a8 x.1) (bM LS x.1 x1 λq=>(aK (decide ((q.2.2.1:ζ)=x.2)) (aJ x1) (cW (cH x1)))) (aJ (-1)))) 0)
def j6 (x:(Y Ay)×ζ):aj (Int):=
 (iter (σ:=Int) (λx1=>(bO x1 (a8 x.1) (bM vW x.1 x1 λq=>(aK (decide ((q.1:ζ)=x.2)) (aJ x1) (cW (cH x1)))) (aJ (-1)))) 0)
def vj (x:(Az×Y Ay)×Int×ζ):aj (Int):=
 (jn (jO 0 x.2.1 (bO x.2.1 (a8 x.1.2) (bM vW x.1.2 x.2.1 λz2=>(aw (kP (z2.2.2.1,x.2.2)) λy3=>(aJ ((cN 0 y3),x.1)))) (aJ (af,x.1))) (aJ (af,x.1))) λx1=>(aK x1.1 (Z 8) (aw (ki (x1.2.1,x.2.2)) λA=>(bO A 0 (aw (j6 (x1.2.2,x.2.2)) λy5=>(jO 0 y5 (Z 7) (Z 0))) (vI A x1.2.1 (lt ((aE LS x1.2.1 A).1) λq=>(bp q 1 (bM LS x1.2.1 A λz7=>(jP z7.2.2.2.1 0 (Z 2) (Z 1))) (bp q 2 (Z 1) (jn (bp q 3 (aJ ((decide ((q:Int)=3)),x1.2)) (bp q 4 (aJ ((decide ((q:Int)=4)),x1.2)) (bp q 5 (aJ ((decide ((q:Int)=5)),x1.2)) (aJ ((decide ((q:Int)=6)),x1.2))))) λI=>(aK I.1 (bM LS I.2.1 A λz9=>(Z z9.1)) (Z 9)))))))))))
def ja (x:(Az×Y Ay)×Int×(ζ)×g!):aj (Int):=
 (aw (vj (x.1,x.2.1,x.a)) λq=>(bp q 0 (Z 5) (jn (jP q x.b (aJ (!decide ((q:Int)=x.f))) (aJ af)) λx2=>(aK x2 (Z 6) (Z 0)))))
def Bo (rr04_Nodes:Xp->aj ν) (x:Xp):aj ν:=
 (iter (σ:=(π)×Xp) (λx1=>(bO x1.1.2.2 (aZ (ah (Xp.l x1.2))) (bM (.ex) (Xp.l x1.2) x1.1.2.2 λA=>(aw (rr04_Nodes A) λq=>(cW (((aU .i64 (x1.1.1+q.1)),(mJ x1.1.2.1 q.2),(cH x1.1.2.2)),fm ((Xp.op x1.2),(Xp.n x1.2),(Xp.name x1.2),(Xp.l x1.2)))))) (aJ (x1.1.1,(cH x1.1.2.1))))) ((1,0,0),fm ((Xp.op x),(Xp.n x),(Xp.name x),(Xp.l x))))
def pi:Nat->Xp->aj ν
 |0,_=>U
 |n+1,x=>Bo (pi n) x
def Ml (n:Nat) (x:Xp):pi (n+1) x=Bo (pi n) x:=rfl
def Ge (x:Xp):aj ν:=pi ii x
abbrev t?:=(Az×Y Ay)×Int×Xp
def xC (rr04_names:t?->aj (Int)) (x:t?):aj (Int):=
 (jn (α:=Int×(Az×Y Ay)×Xp) (bp (Xp.op x.2.2) 2 (aw (ja (x.1,x.2.1,(Xp.name x.2.2),8,1)) λy2=>(aJ (y2,x.1,fm ((Xp.op x.2.2),(Xp.n x.2.2),(Xp.name x.2.2),(Xp.l x.2.2))))) (bp (Xp.op x.2.2) 3 (aw (ja (x.1,x.2.1,(Xp.name x.2.2),2,2)) λy3=>(aJ (y3,x.1,fm ((Xp.op x.2.2),(Xp.n x.2.2),(Xp.name x.2.2),(Xp.l x.2.2))))) (aJ (0,x.1,fm ((Xp.op x.2.2),(Xp.n x.2.2),(Xp.name x.2.2),(Xp.l x.2.2)))))) λx1=>(iter (σ:=(ν)×(Az×Y Ay)×Xp) (λq=>(jn (bO q.1.2 (aZ (ah (Xp.l q.2.2))) (aJ ((decide ((q.1.1:Int)=0)),q.2.1,fm ((Xp.op q.2.2),(Xp.n q.2.2),(Xp.name q.2.2),(Xp.l q.2.2)))) (aJ (af,q.2.1,fm ((Xp.op q.2.2),(Xp.n q.2.2),(Xp.name q.2.2),(Xp.l q.2.2))))) λA=>(aK A.1 (bM (.ex) (Xp.l A.2.2) q.1.2 λI=>(aw (rr04_names (A.2.1,x.2.1,I)) λy7=>(cW ((y7,(cH q.1.2)),A.2.1,fm ((Xp.op A.2.2),(Xp.n A.2.2),(Xp.name A.2.2),(Xp.l A.2.2)))))) (aJ q.1.1)))) ((x1.1,0),x1.2.1,fm ((Xp.op x1.2.2),(Xp.n x1.2.2),(Xp.name x1.2.2),(Xp.l x1.2.2)))))
def ph:Nat->(t?)->aj (Int)
 |0,_=>U
 |n+1,x=>xC (ph n) x
def B_ (n:Nat) (x:t?):ph (n+1) x=xC (ph n) x:=rfl
def Gb (x:t?):aj (Int):=ph ii x
def pG (x:t?):aj (Int):=
 (aw (kD (fm ((Xp.op x.2.2),(Xp.n x.2.2),(Xp.name x.2.2),(Xp.l x.2.2)))) λy1=>(aK (!y1) (Z 3) (aw (Ge (fm ((Xp.op x.2.2),(Xp.n x.2.2),(Xp.name x.2.2),(Xp.l x.2.2)))) λA=>(jn (bO 24 A.1 (aJ (J,x.1,fm ((Xp.op x.2.2),(Xp.n x.2.2),(Xp.name x.2.2),(Xp.l x.2.2)))) (aJ ((hY 6 A.2),x.1,fm ((Xp.op x.2.2),(Xp.n x.2.2),(Xp.name x.2.2),(Xp.l x.2.2))))) λq=>(aK q.1 (Z 2) (aw (Gb (q.2.1,x.2.1,fm ((Xp.op q.2.2),(Xp.n q.2.2),(Xp.name q.2.2),(Xp.l q.2.2)))) λI=>(Z I)))))))
def dt (x:Bool):aj (Int):=
 (aK x (Z 7) (Z 0))
def kA (x:ν):aj (Int):=
 (jP x.1 0 (Z x.1) (Z x.2))
abbrev O?:=Int×c?
def e9 (x:(Int×Int×ζ)×c?):aj (Bool×c?):=
 (iter (σ:=O?) (λx1=>(bO x1.1 (a8 x1.a.2) (nI (.sm) x1.a.2 x1.1 λq=>(jn (α:=Bool×c?) (bp (Sx.op q) x.1.1 (aK (decide ((x.1.2.2:ζ)=([]))) (aJ (J,x1.2)) (aJ ((decide (((Sx.name q):ζ)=x.1.2.2)),x1.2))) (bp (Sx.op q) x.1.2.1 (aK (decide ((x.1.2.2:ζ)=([]))) (aJ (J,x1.2)) (aJ ((decide (((Sx.name q):ζ)=x.1.2.2)),x1.2))) (aJ (af,x1.2)))) λA=>(aK A.1 (aJ (J,A.2)) (cW ((cH x1.1),A.2))))) (aJ (af,x1.2)))) (0,x.2))
abbrev E?:=Int×AA×(Bool×Y Sx)×Sx×(Az×Y Ay)×dK×Y ζ
def oc (x:Sx×c?):aj O?:=
 (aw (e9 ((7,7,[]),x.2)) λy1=>(bT (aB (ah x.f) (ah y1.f)&&(aB (ah x.b) (ah y1.b)&&(((x.a.1==y1.a.1)&&J)&&aB (ah x.a.2) (ah y1.a.2)&&J))) (aw (e9 ((8,8,[]),y1.2)) λy2=>(bT (aB (ah y1.f) (ah y2.f)&&(aB (ah y1.b) (ah y2.b)&&(((y1.a.1==y2.a.1)&&J)&&aB (ah y1.a.2) (ah y2.a.2)&&J))) (aw (e9 ((3,3,[]),y2.2)) λy3=>(bT (aB (ah y2.f) (ah y3.f)&&(aB (ah y2.b) (ah y3.b)&&(((y2.a.1==y3.a.1)&&J)&&aB (ah y2.a.2) (ah y3.a.2)&&J))) (bp (Sx.op x.1) 1 (bp (aZ (ah (Sx.index x.1))) 0 (aw (ja ((x.2.1.1,x.2.1.2.1),x.2.1.2.2,(Sx.name x.1),8,1)) λy4=>(aw (pG ((x.2.1.1,x.2.1.2.1),x.2.1.2.2,fm ((Xp.op (Sx.expr x.1)),(Xp.n (Sx.expr x.1)),(Xp.name (Sx.expr x.1)),(Xp.l (Sx.expr x.1))))) λy5=>(aw (kA (y4,y5)) λy6=>(Z (y6,y3.2))))) (aw (ja ((x.2.1.1,x.2.1.2.1),x.2.1.2.2,(Sx.name x.1),2,2)) λy7=>(bM (.ex) (Sx.index x.1) 0 λz8=>(aw (pG ((x.2.1.1,x.2.1.2.1),x.2.1.2.2,z8)) λy9=>(aw (pG ((x.2.1.1,x.2.1.2.1),x.2.1.2.2,fm ((Xp.op (Sx.expr x.1)),(Xp.n (Sx.expr x.1)),(Xp.name (Sx.expr x.1)),(Xp.l (Sx.expr x.1))))) λy10=>(aw (kA (y9,y10)) λy11=>(aw (kA (y7,y11)) λy12=>(Z (y12,y3.2))))))))) (jn (bp (Sx.op x.1) 2 (aJ ((decide (((Sx.op x.1):Int)=2)),y3.2.1,y3.a,fo x.1,(x.2.1.1,x.2.1.2.1),y3.d)) (aJ ((decide (((Sx.op x.1):Int)=3)),y3.2.1,y3.a,fo x.1,(x.2.1.1,x.2.1.2.1),y3.d))) λI=>(aK I.1 (aw (pG (I.c,x.2.1.2.2,fm ((Xp.op (Sx.expr I.b)),(Xp.n (Sx.expr I.b)),(Xp.name (Sx.expr I.b)),(Xp.l (Sx.expr I.b))))) λy14=>(Z (y14,I.2.1,I.a,I.h))) (bp (Sx.op x.1) 4 (jn (α:=O?) (aw (ja (I.c,x.2.1.2.2,(Sx.name I.b),3,3)) λy16=>(aK y1.1 (aw (dt J) λy17=>(aw (kA (y16,y17)) λy18=>(aJ (y18,I.2.1,I.a,I.h)))) (aw (e9 ((4,4,(Sx.name I.b)),I.2.1,I.a,I.h)) λy19=>(bT (aB (ah I.i) (ah y19.f)&&(aB (ah I.e) (ah y19.b)&&(((I.a.1==y19.a.1)&&J)&&aB (ah I.a.2) (ah y19.a.2)&&J))) (aw (dt y19.1) λy20=>(aw (kA (y16,y20)) λy21=>(aJ (y21,y19.2)))))))) λx15=>(Z x15)) (jn (bp (Sx.op x.1) 5 (aJ ((decide (((Sx.op x.1):Int)=5)),I.2.1,I.a,fo I.b,I.f)) (aJ ((decide (((Sx.op x.1):Int)=6)),I.2.1,I.a,fo I.b,I.f))) λA=>(aK A.1 (jn (α:=O?) (aw (ja (A.c,x.2.1.2.2,(Sx.name A.b),4,4)) λy24=>(aK y1.1 (aw (dt J) λy25=>(aw (kA (y24,y25)) λy26=>(aJ (y26,A.2.1,A.a,A.h)))) (aw (e9 ((5,6,(Sx.name A.b)),A.2.1,A.a,A.h)) λy27=>(bT (aB (ah A.i) (ah y27.f)&&(aB (ah A.e) (ah y27.b)&&(((A.a.1==y27.a.1)&&J)&&aB (ah A.a.2) (ah y27.a.2)&&J))) (aw (dt y27.1) λy28=>(aw (kA (y24,y28)) λy29=>(aJ (y29,y27.2)))))))) λx23=>(Z x23)) (bp (Sx.op x.1) 7 (aw (dt y1.1) λy30=>(Z (y30,A.2.1,A.a,A.h))) (bp (Sx.op x.1) 8 (jn (aK y1.1 (aw (dt J) λy32=>(aJ (y32,A.2.1,A.a,A.h))) (aw (dt y2.1) λy33=>(aJ (y33,A.2.1,A.a,A.h)))) λx31=>(Z x31)) (jn (bp (Sx.op x.1) 9 (aJ ((decide (((Sx.op x.1):Int)=9)),A.2.1,A.a,fo A.b,A.f)) (bp (Sx.op x.1) 10 (aJ ((decide (((Sx.op x.1):Int)=10)),A.2.1,A.a,fo A.b,A.f)) (aJ ((decide (((Sx.op x.1):Int)=11)),A.2.1,A.a,fo A.b,A.f)))) λq=>(aK q.1 (aw (ja (q.c,x.2.1.2.2,(Sx.name q.b),5,5)) λy35=>(jP y35 0 (Z (y35,q.2.1,q.a,q.h)) (aw (ki (q.c.1,(Sx.name q.b))) λy36=>(bM LS q.c.1 y36 λz37=>(aw (e9 ((4,4,z37.2.2.2.2.2),q.2.1,q.a,q.h)) λy38=>(bT (aB (ah q.i) (ah y38.f)&&(aB (ah q.e) (ah y38.b)&&(((q.a.1==y38.a.1)&&J)&&aB (ah q.a.2) (ah y38.a.2)&&J))) (jn (aK y1.1 (aw (dt J) λy40=>(aJ (y40,y38.2))) (aK (!y38.1) (aw (dt J) λy41=>(aJ (y41,y38.2))) (bp (Sx.op q.b) 9 (aw (dt y2.1) λy42=>(aJ (y42,y38.2))) (aw (dt af) λy43=>(aJ (y43,y38.2)))))) λx39=>(Z x39)))))))) (bp (Sx.op x.1) 12 (aw (ja (q.c,x.2.1.2.2,(Sx.name q.b),7,7)) λy44=>(jP y44 0 (Z (y44,q.2.1,q.a,q.h)) (aw (j6 (q.c.2,(Sx.name q.b))) λy45=>(jn (aK y1.1 (aJ (J,q.2.1,q.a,fo q.b,q.h)) (aK y2.1 (aJ (J,q.2.1,q.a,fo q.b,q.h)) (aK y3.1 (aJ (J,q.2.1,q.a,fo q.b,q.h)) (bp y45 x.2.1.2.2 (aJ (J,q.2.1,q.a,fo q.b,q.h)) (aJ ((decide ((y45:Int)=0)),q.2.1,q.a,fo q.b,q.h)))))) λx46=>(aK x46.1 (Z (7,x46.2.1,x46.a,x46.f)) (aw (kP (x46.c,(Sx.name x46.b))) λy47=>(jO 0 y47 (Z (8,x46.2.1,x46.a,x46.f)) (bT (bk (ah x46.c+ah ([(Sx.name x46.b)])) 16) (Z (0,x46.2.1,x46.a,(x46.c++([(Sx.name x46.b)])),x46.h)))))))))) (bp (Sx.op x.1) 13 (jn (α:=O?) (aw (ja (q.c,x.2.1.2.2,(Sx.name q.b),7,7)) λy49=>(aK y1.1 (aw (dt J) λy50=>(aw (kA (y49,y50)) λy51=>(aJ (y51,q.2.1,q.a,q.h)))) (aK y2.1 (aw (dt J) λy52=>(aw (kA (y49,y52)) λy53=>(aJ (y53,q.2.1,q.a,q.h)))) (aw (j6 (q.c.2,(Sx.name q.b))) λy54=>(aw (dt (decide ((y54:Int)=x.2.1.2.2))) λy55=>(aw (kA (y49,y55)) λy56=>(aJ (y56,q.2.1,q.a,q.h)))))))) λx48=>(Z x48)) (bp (Sx.op x.1) 14 (jn (α:=E?) (aw (ja (q.c,x.2.1.2.2,(Sx.name q.b),6,6)) λy58=>(aK y1.1 (aw (dt J) λy59=>(aw (kA (y58,y59)) λy60=>(aJ (y60,q.2.1,q.a,fo q.b,q.f)))) (aw (dt y3.1) λy61=>(aw (kA (y58,y61)) λy62=>(aJ (y62,q.2.1,q.a,fo q.b,q.f)))))) λx57=>(jn (α:=E?) (jn (bp x57.1 0 (aw (kP (x57.i,(Sx.name x57.b))) λy65=>(aJ ((cN 0 y65),x57.2.1,x57.a,fo x57.b,x57.f))) (aJ (af,x57.2.1,x57.a,fo x57.b,x57.f))) λx64=>(aK x64.1 (aJ (8,x64.2.1,x64.a,fo x64.b,x64.f)) (aJ (x57.1,x64.2.1,x64.a,fo x64.b,x64.f)))) λx63=>(bT (bk (ah x63.i+ah ([(Sx.name x63.b)])) 16) (aw (pG (x63.c,x.2.1.2.2,fm ((Xp.op (Sx.expr x63.b)),(Xp.n (Sx.expr x63.b)),(Xp.name (Sx.expr x63.b)),(Xp.l (Sx.expr x63.b))))) λy66=>(aw (kA (x63.1,y66)) λy67=>(Z (y67,x63.2.1,x63.a,x63.e,(x63.i++([(Sx.name x63.b)]))))))))) (aw (ja (q.c,x.2.1.2.2,(Sx.name q.b),8,8)) λy68=>(aw (ja (q.c,x.2.1.2.2,(Sx.arg q.b),6,6)) λy69=>(aw (dt y1.1) λy70=>(aw (kA (y69,y70)) λy71=>(aw (kA (y68,y71)) λy72=>(Z (y72,q.2.1,q.a,q.h))))))))))))))))))))))))))
abbrev K?:=(Y Sx)×c?
def ol (rr04_walk_all:K?->aj aui) (x:K?):aj aui:=
 (iter (σ:=O?) (λx1=>(bO x1.1 (a8 x.1) (bM (.sm) x.1 x1.1 λz2=>(aw (oc (fo z2,x1.2)) λy3=>(bT (aB (ah x1.f) (ah x1.f)&&(aB (ah x1.b) (ah x1.b)&&(((x1.a.1==y3.a.1)&&J)&&aB (ah x1.a.2) (ah y3.a.2)&&J))) (jn (α:=Int×AA×Sx×(Bool×Y Sx)×dK×Y ζ) (bO 6 (aU .i64 ((a8 y3.a.2)+1)) (aJ (2,y3.2.1,fo z2,y3.2.2)) (aJ (y3.1,y3.2.1,fo z2,y3.2.2))) λq=>(jP q.1 0 (aJ ((q.1,(Sx.line q.a)),q.2.1,q.d)) (bT (bk (ah q.b.2+ah ([pL (0,0,[],[],([]:Y Xp),fm (0,0,[],([]:Y Xp)),([]:Y Sx),([]:Y Sx))])) 176) (ck (fO (a8 q.b.2) (ah (q.b.2++([pL (0,0,[],[],([]:Y Xp),fm (0,0,[],([]:Y Xp)),([]:Y Sx),([]:Y Sx))])))) (aw (rr04_walk_all ((Sx.body q.a),q.2.1,(q.b.1,(bW (q.b.2++([pL (0,0,[],[],([]:Y Xp),fm (0,0,[],([]:Y Xp)),([]:Y Sx),([]:Y Sx))])) (a8 q.b.2) (fo q.a))),q.f)) λI=>(bT (aB (ah q.h) (ah q.h)&&(aB (ah q.c) (ah q.c)&&(((q.b.1==q.b.1)&&J)&&aB (ah (bW (q.b.2++([pL (0,0,[],[],([]:Y Xp),fm (0,0,[],([]:Y Xp)),([]:Y Sx),([]:Y Sx))])) (a8 q.b.2) (fo q.a))) (ah (bW (q.b.2++([pL (0,0,[],[],([]:Y Xp),fm (0,0,[],([]:Y Xp)),([]:Y Sx),([]:Y Sx))])) (a8 q.b.2) (fo q.a)))&&J))) (jn (bp I.1.1 0 (aw (rr04_walk_all ((Sx.els q.a),I.2)) λy7=>(bT (aB (ah I.f) (ah I.f)&&(aB (ah I.b) (ah I.b)&&(((I.a.1==I.a.1)&&J)&&aB (ah I.a.2) (ah I.a.2)&&J))) (aJ y7))) (aJ I)) λA=>(bT (cN 0 (aU .i64 ((a8 A.a.2)-1))&&hY (aU .i64 ((a8 A.a.2)-1)) (ah A.a.2)) (jP A.1.1 0 (aJ (A.1,A.2.1,(af,(cG (aL (aU .i64 ((a8 A.a.2)-1))) A.a.2)),A.d)) (cW ((cH x1.1),A.2.1,(af,(cG (aL (aU .i64 ((a8 A.a.2)-1))) A.a.2)),A.d)))))))))))))) (aJ ((0,0),x1.2)))) (0,x.2))
def j9:Nat->(K?)->aj aui
 |0,_=>U
 |n+1,x=>ol (j9 n) x
def Gr (n:Nat) (x:K?):j9 (n+1) x=ol (j9 n) x:=rfl
def yQ (x:K?):aj aui:=j9 ii x
def Bp (rr04_Count:(Y Sx)->aj (Int)) (x:Y Sx):aj (Int):=
 (iter (σ:=ν) (λx1=>(bO x1.2 (a8 x) (vI x1.2 x (lt (Sx.body (aE (.sm) x x1.2)) λA=>(aw (rr04_Count A) λy3=>(vI x1.2 x (lt (Sx.els (aE (.sm) x x1.2)) λq=>(aw (rr04_Count q) λI=>(cW ((aU .i64 ((aU .i64 (x1.1+y3))+I)),(cH x1.2))))))))) (aJ x1.1))) ((a8 x),0))
def pj:Nat->(Y Sx)->aj (Int)
 |0,_=>U
 |n+1,x=>Bp (pj n) x
def Mm (n:Nat) (x:Y Sx):pj (n+1) x=Bp (pj n) x:=rfl
def Gf (x:Y Sx):aj (Int):=pj ii x
abbrev r?:=Int×Int×g!
def ut (x:Y azn):aj ν:=
 (iter (σ:=υ) (λx1=>(bO x1.f (a8 x) (jn (α:=r?) (bM LS x x1.f λq=>(bT (cN 0 x1.f&&cN x1.f (ah x)) (aw (ki ((cG (aL x1.f) x),q.a)) λy4=>(jO 0 y4 (cW (bR (4,q.2.1))) (bO 4 q.b (cW (bR (2,q.2.1))) (jn (jn (bp q.1 1 (aJ ((decide ((q.1:Int)=1)),q)) (aJ ((decide ((q.1:Int)=2)),q))) λx6=>(aK x6.1 (aJ (((aU .i64 (x1.1+(mJ x6.c 1))),x1.2.1,x1.a,x1.b),x6.2)) (jn (bp q.1 3 (aJ ((decide ((q.1:Int)=3)),x6.2)) (aJ ((decide ((q.1:Int)=4)),x6.2))) λx7=>(aK x7.1 (aJ ((x1.1,(cH x1.2.1),x1.a,x1.b),x7.2)) (bp q.1 5 (aJ ((x1.1,x1.2.1,(cH x1.a),x1.b),x7.2)) (aJ ((x1.1,x1.2.1,x1.a,(cH x1.b)),x7.2))))))) λA=>(jn (bO 12 A.1.1 (aJ (J,A.2)) (bO 4 A.1.2.1 (aJ (J,A.2)) (bO 2 A.1.a (aJ (J,A.2)) (aJ ((hY 2 A.1.d),A.2))))) λI=>(aK I.1 (cW (bR (2,I.a))) (bp I.2.1 5 (bT (cN 0 x1.f&&cN x1.f (ah x)) (aw (ki ((cG (aL x1.f) x),I.i)) λy9=>(bO y9 0 (cW (bR (5,I.a))) (bM LS x y9 λz10=>(jP z10.1 3 (cW (bR (6,I.a))) (aJ A.1)))))) (aJ A.1)))))))))) λx2=>(cW (x2.1,x2.2.1,x2.a,x2.d,(cH x1.f)))) (aJ (0,0)))) (0,0,0,0,0))
def pF (x:y?):aj ν:=
 (iter (σ:=Int×y?) (λx1=>(bO x1.1 (a8 x1.2.2) (bM vW x1.2.2 x1.1 λz2=>(jn (aw (ki (x1.2.1,z2.1)) λy4=>(jO 0 y4 (aJ (J,x1.2,z2)) (bT (cN 0 x1.1&&cN x1.1 (ah x1.2.2)) (aw (j6 ((cG (aL x1.1) x1.2.2),z2.1)) λy5=>(aJ ((cN 0 y5),x1.2,z2)))))) λx3=>(aK x3.1 (aJ (4,x3.b)) (cW ((cH x1.1),x3.2.1))))) (aw (iter (σ:=Int×y?) (λI=>(bO I.1 (a8 I.2.2) (bM vW I.2.2 I.1 λz7=>(bO 4 (a8 z7.a) (aJ (2,z7.2.1)) (iter (σ:=J!) (λq=>(bO q.1 (a8 q.c) (bM (.str) q.c q.1 λz9=>(jn (aw (ki (q.2.1.1,z9)) λy11=>(jO 0 y11 (aJ (J,q.2)) (aw (j6 (q.2.1.2,z9)) λy12=>(jO 0 y12 (aJ (J,q.2)) (bT (cN 0 q.1&&cN q.1 (ah q.c)) (aw (kP ((cG (aL q.1) q.c),z9)) λy13=>(aJ ((cN 0 y13),q.2)))))))) λA=>(aK A.1 (aJ (bR (4,A.b))) (cW ((cH q.1),A.2))))) (aJ (lB ((cH I.1),q.2.1))))) (0,I.2,z7)))) (aJ (0,0)))) (0,x1.2)) λr=>Z (bR r)))) (0,x))
def g_ (x:y?):aj ν:=
 (aw (sg x) λy1=>(aK (!y1) (Z (3,0)) (aw (ut x.1) λy2=>(jP y2.1 0 (Z y2) (bO 4 (a8 x.2) (Z (2,0)) (aw (pF x) λy3=>(jP y3.1 0 (Z y3) (iter (σ:=(ν)×y?) (λA=>(bO A.1.2 (a8 A.2.2) (bM vW A.2.2 A.1.2 λz5=>(aw (Gf z5.2.2.2) λy6=>(cW (((aU .i64 (A.1.1+y6)),(cH A.1.2)),A.2)))) (aw (bO 60 A.1.1 (Z (2,0)) (iter (σ:=Int×(Az×Y Ay)×c?) (λq=>(bO q.1 (a8 q.2.1.2) (bM vW q.2.1.2 q.1 λz8=>(aw (yQ (z8.2.2.2,(q.a.1,q.a.2.1,q.1),q.d)) λI=>(bT (aB (ah q.h) (ah q.h)&&(aB (ah q.c) (ah q.c)&&(((q.b.1==q.b.1)&&J)&&aB (ah q.b.2) (ah q.b.2)&&J))) (jP I.1.1 0 (aJ I.1) (cW ((cH q.1),q.2.1,I.2)))))) (aJ (0,0)))) (0,A.2,(A.2.1,A.2.2,0),(J,([]:Y Sx)),([]:Y ζ),([]:Y ζ)))) λr=>Z (bR r)))) ((0,0),x)))))))))
abbrev u?:=(Int×Int×Y Sx)×Y π
abbrev V!:=Int×Y π
def Bn (rr06_sites:u?->aj V!) (x:u?):aj V!:=
 (iter (σ:=(ν)×Y π) (λx1=>(bO x1.1.2 (a8 x.1.2.2) (vI x1.1.2 x.1.2.2 (lt (Sx.line (aE (.sm) x.1.2.2 x1.1.2)) λq=>(bT (bk (ah x1.2+ah ([(x.1.1,x1.1.1,q)])) 24) (vI x1.1.2 x.1.2.2 (lt (Sx.body (aE (.sm) x.1.2.2 x1.1.2)) λz3=>(aw (rr06_sites ((x.1.1,(cH x1.1.1),z3),(x1.2++([(x.1.1,x1.1.1,q)])))) λA=>(bT (aB (ah (x1.2++([(x.1.1,x1.1.1,q)]))) (ah (x1.2++([(x.1.1,x1.1.1,q)])))&&J) (vI x1.1.2 x.1.2.2 (lt (Sx.els (aE (.sm) x.1.2.2 x1.1.2)) λz5=>(aw (rr06_sites ((x.1.1,A.1,z5),A.2)) λI=>(bT (aB (ah A.2) (ah A.2)&&J) (cW ((I.1,(cH x1.1.2)),I.2))))))))))))) (aJ (x1.1.1,x1.2)))) ((x.1.2.1,0),x.2))
def rV:Nat->(u?)->aj V!
 |0,_=>U
 |n+1,x=>Bn (rV n) x
def Mk (n:Nat) (x:u?):rV (n+1) x=Bn (rV n) x:=rfl
def NT (x:u?):aj V!:=rV ii x
def mX (x:mU×ζ):aj (Int):=
 (iter (σ:=Int) (λx1=>(bO x1 (a8 x.1) (bM tY x.1 x1 λq=>(aK (decide ((q.1:ζ)=x.2)) (aJ x1) (cW (cH x1)))) (aJ (-1)))) 0)
abbrev P!:=Int×b!
def o7 (x:kX×ζ):aj (Int):=
 (iter (σ:=P!) (λx1=>(bO x1.1 (a8 x1.2.1) (bM mS x1.2.1 x1.1 λq=>(aK (decide ((q.1:ζ)=x.2)) (aJ x1.1) (cW ((cH x1.1),x1.2)))) (aJ (-1)))) (0,x.1))
abbrev I?:=pW×mU×(Y lA)×Y ζ
def xk (x:y?):aj kX:=
 (aw (g_ x) λy1=>(jP y1.1 0 (Z (([]:Y Zy),([]:Y v?),([]:Y lA),([]:Y ζ),([]:Y ζ),([]:Y π))) (iter (σ:=Int×(Az×Y Ay)×I?) (λx2=>(bO x2.1 (a8 x2.2.1.1) (bM LS x2.2.1.1 x2.1 λz3=>(jn (α:=(Az×Y Ay)×I?) (jn (bp z3.1 1 (aJ ((decide ((z3.1:Int)=1)),x2.2.1,z3,x2.2.2)) (aJ ((decide ((z3.1:Int)=2)),x2.2.1,z3,x2.2.2))) λx5=>(aK x5.1 (iter (σ:=Int×(Az×Y Ay)×azn×I?) (λA=>(bO A.1 (mJ A.a.b 1) (bT (bk (ah A.b+ah ([(A.a.a,A.1,A.a.b,(decide ((A.a.1:Int)=2)),A.a.c)])) 48) (cW ((cH A.1),A.2.1,A.a,(A.b++([(A.a.a,A.1,A.a.b,(decide ((A.a.1:Int)=2)),A.a.c)])),A.f))) (aJ (bR (A.2.1,A.d))))) (0,x5.2)) (jn (bp z3.1 3 (aJ ((decide ((z3.1:Int)=3)),x5.2)) (aJ ((decide ((z3.1:Int)=4)),x5.2))) λq=>(aK q.1 (bT (bk (ah q.c+ah ([(q.a.a,(decide ((q.a.1:Int)=4)))])) 24) (aJ (q.2.1,q.b,(q.c++([(q.a.a,(decide ((q.a.1:Int)=4)))])),q.h))) (bp z3.1 5 (aw (mX (q.c,q.a.h)) λy8=>(bT (bk (ah q.e+ah ([(q.a.a,y8)])) 24) (aJ (q.2.1,q.b,q.c,(q.e++([(q.a.a,y8)])),q.i)))) (bT (bk (ah q.i+ah ([q.a.a])) 16) (aJ (q.2.1,q.b,q.c,q.e,(q.i++([q.a.a])))))))))) λx4=>(cW ((cH x2.1),x4)))) (aw (iter (σ:=Int×(Az×Y Ay)×b!) (λI=>(bO I.1 (a8 I.2.1.2) (bM vW I.2.1.2 I.1 λz10=>(bT (bk (ah I.g+ah ([z10.1])) 16) (bM vW I.2.1.2 I.1 λz11=>(aw (NT ((I.1,0,z11.2.2.2),I.l)) λy12=>(bT (aB (ah I.l) (ah I.l)&&J) (cW ((cH I.1),I.2.1,I.a,I.b,I.c,I.e,(I.g++([z10.1])),y12.2))))))) (aJ I.2.2))) (0,x2.2.1,x2.a,x2.b,x2.c,x2.h,([]:Y ζ),([]:Y π))) λr=>Z (bR r)))) (0,x,([]:Y Zy),([]:Y v?),([]:Y lA),([]:Y ζ)))))
abbrev A!:=Int×kX×Y ζ
abbrev L?:=dK×(ζ)×k?
def rK (x:b!):aj (dK×Bool):=
 (iter (σ:=A!) (λx1=>(bO x1.1 (a8 x1.2.1.1) (jn (α:=A!) (bM mS x1.2.1.1 x1.1 λI=>(bT (bk (ah x1.2.2+ah ([I.1])) 16) (bp I.a 0 (jP I.2.1 0 (cW (bR (([]:Y ζ),af))) (aJ ((cH x1.1),x1.2.1,(x1.2.2++([I.1]))))) (jn (α:=Bool×kX×L?) (bO I.a 1 (aJ (J,x1.2.1,(x1.2.2++([I.1])),I)) (bO 4 I.a (aJ (J,x1.2.1,(x1.2.2++([I.1])),I)) (aJ ((hY (aU .i64 ((a8 x1.2.1.1)-x1.1)) I.a),x1.2.1,(x1.2.2++([I.1])),I)))) λx4=>(aK x4.1 (cW (bR (([]:Y ζ),af))) (iter (σ:=Int×kX×L?) (λA=>(bO A.1 A.e (bM mS A.2.1.1 (aU .i64 (x1.1+A.1)) λz6=>(jn (jP z6.2.1 A.1 (aJ (J,A.2)) (aK (!decide ((z6.1:ζ)=A.b)) (aJ (J,A.2)) (jP z6.a A.e (aJ (J,A.2)) (jP z6.f A.l (aJ (J,A.2)) (aJ (z6.b,A.2)))))) λx7=>(aK x7.1 (aJ (lB (bR (([]:Y ζ),af)))) (cW ((cH A.1),x7.2))))) (aJ (bR ((aU .i64 (x1.1+A.e)),A.2.1,A.a))))) (0,x4.2))))))) λx2=>(cW x2)) (aw (iter (σ:=A!) (λx8=>(bO x8.1 (a8 x8.2.1.2.1) (bM tY x8.2.1.2.1 x8.1 λz9=>(bT (bk (ah x8.2.2+ah ([z9.1])) 16) (cW ((cH x8.1),x8.2.1,(x8.2.2++([z9.1])))))) (aw (iter (σ:=A!) (λq=>(bO q.1 (a8 q.2.1.a) (bM itK q.2.1.a q.1 λz11=>(bT (bk (ah q.2.2+ah ([z11.1])) 16) (cW ((cH q.1),q.2.1,(q.2.2++([z11.1])))))) (aw (bT (bk (ah q.2.2+ah q.2.1.b) 16) (bT (bk (ah (q.2.2++q.2.1.b)+ah q.2.1.c) 16) (Z (((q.2.2++q.2.1.b)++q.2.1.c),J)))) λr=>Z (bR r)))) (0,x8.2)) λr=>Z (bR r)))) (0,x1.2)) λr=>Z (bR r)))) (0,x,([]:Y ζ)))
def jF (x:b!):aj (Bool):=
 (jn (bO 12 (a8 x.1) (aJ (J,x)) (bO 4 (a8 x.2.1) (aJ (J,x)) (bO 2 (a8 x.a) (aJ (J,x)) (bO 2 (a8 x.b) (aJ (J,x)) (bO (a8 x.c) 1 (aJ (J,x)) (bO 4 (a8 x.c) (aJ (J,x)) (aJ ((hY 60 (a8 x.h)),x)))))))) λx1=>(aK x1.1 (Z af) (aw (rK x1.2) λy2=>(aK (!y2.2) (Z af) (iter (σ:=P!) (λx3=>(bO x3.1 (a8 y2.1) (jn (bM (.str) y2.1 x3.1 λz5=>(aw (gL z5) λy6=>(aK (!y6) (aJ (J,x3.2)) (bT (cN 0 x3.1&&cN x3.1 (ah y2.1)) (bM (.str) y2.1 x3.1 λz7=>(aw (kP ((cG (aL x3.1) y2.1),z7)) λy8=>(aJ ((cN 0 y8),x3.2)))))))) λx4=>(aK x4.1 (aJ af) (cW ((cH x3.1),x4.2)))) (aw (iter (σ:=P!) (λI=>(bO I.1 (a8 I.b) (bM itK I.b I.1 λz10=>(jn (bO z10.2 0 (aJ (J,I.2)) (jO (a8 I.a) z10.2 (aJ (J,I.2)) (bM tY I.a z10.2 λz12=>(aJ (z12.2,I.2))))) λx11=>(aK x11.1 (aJ af) (cW ((cH I.1),x11.2))))) (aw (iter (σ:=P!) (λq=>(bO q.1 (a8 q.i) (jn (bM rZ q.i q.1 λz15=>(jn (bO z15.1 0 (aJ (J,q.2,z15)) (aJ ((cN (a8 q.e) z15.1),q.2,z15))) λx16=>(aK x16.1 (cW (bR af)) (jn (bp q.1 0 (aJ (J,x16.2)) (bM rZ x16.2.1.h (aU .i64 (q.1-1)) λz18=>(aJ ((!decide ((z18.1:Int)=x16.a)),x16.2)))) λA=>(aK A.1 (jn (jP A.b 0 (aJ (J,A.2.1)) (bO 0 q.1 (bM rZ A.2.1.h (aU .i64 (q.1-1)) λz20=>(aJ ((hY A.a z20.1),A.2.1))) (aJ (af,A.2.1)))) λx19=>(aK x19.1 (cW (bR af)) (aJ x19.2))) (bM rZ A.2.1.h (aU .i64 (q.1-1)) λz21=>(jP A.b (cH z21.2.1) (cW (bR af)) (aJ A.2.1)))))))) λx14=>(cW ((cH q.1),x14))) (aJ J))) (0,I.2)) λr=>Z (bR r)))) (0,x3.2)) λr=>Z (bR r)))) (0,x1.2))))))
def lw (x:ω):aj η:=
 (jn (bp x.1 1 (aJ ((decide ((x.1:Int)=1)),x)) (bp x.1 6 (aJ ((decide ((x.1:Int)=6)),x)) (bp x.1 10 (aJ ((decide ((x.1:Int)=10)),x)) (aJ ((decide ((x.1:Int)=27)),x))))) λx1=>(aK x1.1 (Z ([x1.a])) (jn (bp x.1 2 (aJ ((decide ((x.1:Int)=2)),x1.2)) (aJ ((decide ((x.1:Int)=3)),x1.2))) λx2=>(aK x2.1 (Z ([x2.a,x2.b])) (bp x.1 4 (Z ([x2.a,x2.b,x2.c])) (bp x.1 7 (Z ([x2.a,x2.c])) (jn (bp x.1 8 (aJ ((decide ((x.1:Int)=8)),x2.2)) (aJ ((decide ((x.1:Int)=26)),x2.2))) λq=>(aK q.1 (Z ([q.b])) (bp x.1 9 (Z ([q.b,q.c])) (Z ([]:η)))))))))))
def sa (x:Int):aj (Bool):=
 (jn (jO 1 x (aJ (cN x 5)) (aJ af)) λx1=>(Z x1))
def rL (x:(Y mQ)×Int):aj (Bool):=
 (iter (σ:=ν) (λx1=>(jO x1.2 (a8 x.1) (jn (jn (bO x1.1 0 (aJ J) (aJ (cN (a8 x.1) x1.1))) λx3=>(aK x3 (cW (bR af)) (bM tV x.1 x1.1 λI=>(aw (sa I.1) λy5=>(aK (!y5) (cW (bR J)) (bM tV x.1 x1.1 λA=>(bp A.1 5 (bM tV x.1 x1.1 λq=>(aJ q.2.1)) (aJ (cH x1.1))))))))) λx2=>(cW (x2,(cH x1.2)))) (aJ af))) (x.2,0))
def kO (x:ν):aj (Bool):=
 (jn (jO 0 x.1 (aJ (hY x.1 x.2)) (aJ af)) λx1=>(Z x1))
def rM (x:kX×g!):aj (Bool):=
 (jn (aw (kO (x.2.1,(a8 x.1.1))) λy2=>(aK y2 (bM mS x.1.1 x.2.1 λI=>(bp I.2.1 0 (bM mS x.1.1 x.2.1 λA=>(jP A.2.2.1 0 (bM mS x.1.1 x.2.1 λq=>(aJ (decide ((q.2.2.1:Int)=x.2.2)))) (aJ af))) (aJ af))) (aJ af))) λx1=>(Z x1))
abbrev X!:=Int×r?
def nj (x:kX×Int×X!):aj (Bool):=
 (bp x.2.1 6 (jn (aw (kO (x.b,(a8 x.1.1))) λy2=>(aK y2 (bM mS x.1.1 x.b λz3=>(aJ (decide ((z3.2.2.1:Int)=0)))) (aJ af))) λx1=>(Z x1)) (bp x.2.1 8 (jn (aw (kO (x.a,(a8 x.1.1))) λy5=>(aK y5 (bM mS x.1.1 x.a λz6=>(aJ (decide ((z6.2.2.1:Int)=0)))) (aJ af))) λx4=>(Z x4)) (bp x.2.1 7 (aw (rM (x.1,x.b,x.e)) λy7=>(Z y7)) (bp x.2.1 9 (aw (rM (x.1,x.a,x.e)) λy8=>(Z y8)) (jn (bp x.2.1 11 (aJ ((decide ((x.2.1:Int)=11)),x)) (aJ ((decide ((x.2.1:Int)=12)),x))) λx9=>(aK x9.1 (jn (aw (kO (x9.b,(a8 x9.2.1.2.1))) λy11=>(aK y11 (bM tY x9.2.1.2.1 x9.b λz12=>(aJ (!z12.2))) (aJ af))) λx10=>(Z x10)) (jn (bp x.2.1 13 (aJ ((decide ((x.2.1:Int)=13)),x9.2)) (bp x.2.1 14 (aJ ((decide ((x.2.1:Int)=14)),x9.2)) (bp x.2.1 15 (aJ ((decide ((x.2.1:Int)=15)),x9.2)) (aJ ((decide ((x.2.1:Int)=16)),x9.2))))) λA=>(aK A.1 (jn (aw (kO (A.b,(a8 A.2.1.2.1))) λy15=>(aK y15 (bM tY A.2.1.2.1 A.b λz16=>(aJ z16.2)) (aJ af))) λx14=>(Z x14)) (jn (bp x.2.1 21 (aJ ((decide ((x.2.1:Int)=21)),A.2)) (bp x.2.1 22 (aJ ((decide ((x.2.1:Int)=22)),A.2)) (aJ ((decide ((x.2.1:Int)=23)),A.2)))) λI=>(aK I.1 (aw (kO (I.b,(a8 I.2.1.a))) λy18=>(Z y18)) (jn (bp x.2.1 24 (aJ ((decide ((x.2.1:Int)=24)),I.2)) (aJ ((decide ((x.2.1:Int)=25)),I.2))) λq=>(aK q.1 (aw (kO (q.b,(a8 q.2.1.c))) λy20=>(Z y20)) (bp x.2.1 26 (aw (kO (q.b,(a8 q.2.1.b))) λy21=>(Z y21)) (bp x.2.1 27 (aw (kO (q.c,(a8 q.2.1.b))) λy22=>(Z y22)) (bp x.2.1 3 (jn (bp q.g 4 (aJ J) (aJ (decide ((q.g:Int)=5)))) λx23=>(Z x23)) (bp x.2.1 4 (jn (jO 6 q.g (aJ (cN q.g 18)) (aJ af)) λx24=>(Z x24)) (Z J)))))))))))))))))
abbrev M!:=Int×Y mQ
def jR (x:kX×Int×M!):aj (Bool):=
 (jn (bO x.a 0 (aJ (J,x.1,x.2.2)) (bO 32 x.a (aJ (J,x.1,x.2.2)) (aJ ((decide (((a8 x.d):Int)=0)),x.1,x.2.2)))) λx1=>(aK x1.1 (Z af) (iter (σ:=Int×kX×M!) (λx2=>(bO x2.1 (a8 x.d) (bM tV x2.d x2.1 λz3=>(jn (bO z3.1 1 (aJ (J,x2.2.1,x2.2.2,z3)) (bO 28 z3.1 (aJ (J,x2.2.1,x2.2.2,z3)) (aK (((decide ((z3.1:Int)=28))==(decide ((x2.1:Int)=(aU .i64 ((a8 x.d)-1))))) !=J) (aJ (J,x2.2.1,x2.2.2,z3)) (aw (nj (x2.2.1,z3)) λy5=>(aK (!y5) (aJ (J,x2.2.1,x2.2.2,z3)) (aw (rL (x2.d,x2.1)) λy6=>(aJ ((!y6),x2.2.1,x2.2.2,z3)))))))) λq=>(aK q.1 (aJ af) (jn (α:=Bool×kX×(Int×Y mQ)×Int×X!) (bp q.b 28 (jP q.n (-1) (aJ (J,q.2)) (jP q.b 28 (aw (kO (q.n,(a8 q.2.1.h))) λy8=>(aK (!y8) (aJ (J,q.2)) (bM rZ q.2.1.h q.n λz9=>(aJ ((!decide ((z9.1:Int)=x.2.1)),q.2))))) (aJ (af,q.2)))) (jP q.b 28 (aw (kO (q.n,(a8 q.2.1.h))) λy10=>(aK (!y10) (aJ (J,q.2)) (bM rZ q.2.1.h q.n λz11=>(aJ ((!decide ((z11.1:Int)=x.2.1)),q.2))))) (aJ (af,q.2)))) λI=>(aK I.1 (aJ af) (jn (bp I.b 5 (aw (kO (I.c,(a8 x.d))) λy13=>(aK (!y13) (aJ (J,I.2)) (bp I.b 10 (aw (kO (I.e,(a8 x.d))) λy14=>(aJ ((!y14),I.2))) (aJ (af,I.2))))) (bp I.b 10 (aw (kO (I.e,(a8 x.d))) λy15=>(aJ ((!y15),I.2))) (aJ (af,I.2)))) λx12=>(aK x12.1 (aJ af) (aw (lw x12.d) λy16=>(iter (σ:=Int×kX×M!) (λA=>(bO A.1 (a8 y16) (bM aO y16 A.1 λz18=>(aw (kO (z18,A.a)) λy19=>(aK (!y19) (aJ (bR af)) (cW ((cH A.1),A.2))))) (aJ (lB ((cH x2.1),A.2))))) (0,x12.2.1,x12.a)))))))))) (aJ J))) (0,x1.2))))
def lq (x:y!):aj (Bool):=
 (jn (aw (jF x.1) λy2=>(aK (!y2) (aJ (J,x)) (aJ ((!decide (((a8 x.2):Int)=(a8 x.1.c))),x)))) λx1=>(aK x1.1 (Z af) (iter (σ:=Int×y!) (λq=>(bO q.1 (a8 q.2.2) (bM AC q.2.2 q.1 λA=>(aw (jR (q.2.1,q.1,A)) λI=>(aK (!I) (aJ af) (cW ((cH q.1),q.2))))) (aJ J))) (0,x1.2))))
def cJ (x:mQ×e!):aj e!:=
 (bT (bk (ah x.2.2+ah ([(x.1.1,x.1.2.1,x.1.a,x.1.b,x.1.c,x.2.1.j)])) 48) (Z (x.2.1,(x.2.2++([(x.1.1,x.1.2.1,x.1.a,x.1.b,x.1.c,x.2.1.j)])))))
abbrev G!:=(Xp×Int)×e!
def tw (rr06_gen_value:G!->aj e!) (x:G!):aj e!:=
 (jn (α:=e!) (bp (Xp.op x.1.1) 1 (aw (cJ ((1,x.1.2,0,0,(Xp.n x.1.1),0),x.2)) λy2=>(bT (aB (ah x.2.2) (ah x.2.2)&&J) (aJ y2))) (bp (Xp.op x.1.1) 2 (aw (kP (x.2.1.g,(Xp.name x.1.1))) λy3=>(jO 0 y3 (aw (cJ ((2,x.1.2,y3,0,0,0),x.2)) λy4=>(bT (aB (ah x.2.2) (ah x.2.2)&&J) (aJ y4))) (aw (o7 ((x.2.1.1,x.2.1.2.1,x.2.1.a,x.2.1.b,x.2.1.c,x.2.1.e),(Xp.name x.1.1))) λy5=>(aw (cJ ((6,x.1.2,y5,0,0,0),x.2)) λy6=>(bT (aB (ah x.2.2) (ah x.2.2)&&J) (aJ y6)))))) (bp (Xp.op x.1.1) 3 (bM (.ex) (Xp.l x.1.1) 0 λz7=>(aw (rr06_gen_value ((z7,x.1.2),x.2)) λq=>(bT (aB (ah x.2.2) (ah x.2.2)&&J) (aw (o7 ((q.1.1,q.1.2.1,q.1.a,q.1.b,q.1.c,q.1.e),(Xp.name x.1.1))) λy9=>(bM mS q.1.1 y9 λz10=>(aw (cJ ((7,x.1.2,y9,x.1.2,z10.2.2.1,0),q)) λy11=>(bT (aB (ah q.2) (ah q.2)&&J) (aJ y11)))))))) (bp (aZ (ah (Xp.l x.1.1))) 1 (bM (.ex) (Xp.l x.1.1) 0 λz12=>(aw (rr06_gen_value ((z12,x.1.2),x.2)) λy13=>(bT (aB (ah x.2.2) (ah x.2.2)&&J) (aw (cJ ((3,x.1.2,x.1.2,0,(Xp.op x.1.1),0),y13)) λy14=>(bT (aB (ah y13.2) (ah y13.2)&&J) (aJ y14)))))) (bM (.ex) (Xp.l x.1.1) 0 λz15=>(aw (rr06_gen_value ((z15,x.1.2),x.2)) λI=>(bT (aB (ah x.2.2) (ah x.2.2)&&J) (bM (.ex) (Xp.l x.1.1) 1 λz17=>(aw (rr06_gen_value ((z17,(cH x.1.2)),I)) λA=>(bT (aB (ah I.2) (ah I.2)&&J) (aw (cJ ((4,x.1.2,x.1.2,(cH x.1.2),(Xp.op x.1.1),0),A)) λy19=>(bT (aB (ah A.2) (ah A.2)&&J) (aJ y19))))))))))))) λx1=>(Z x1))
def kl:Nat->(G!)->aj e!
 |0,_=>U
 |n+1,x=>tw (kl n) x
def E9 (n:Nat) (x:G!):kl (n+1) x=tw (kl n) x:=rfl
def kh (x:G!):aj e!:=kl ii x
def nL (x:Sx×e!):aj e!:=
 (bO 0 (aZ (ah (Sx.index x.1))) (bM (.ex) (Sx.index x.1) 0 λz1=>(aw (kh ((z1,(a8 x.2.1.g)),x.2)) λI=>(bT (aB (ah x.2.2) (ah x.2.2)&&J) (aw (kh ((fm ((Xp.op (Sx.expr x.1)),(Xp.n (Sx.expr x.1)),(Xp.name (Sx.expr x.1)),(Xp.l (Sx.expr x.1))),(aU .i64 ((a8 x.2.1.g)+1))),I)) λA=>(bT (aB (ah I.2) (ah I.2)&&J) (aw (o7 ((A.1.1,A.1.2.1,A.1.a,A.1.b,A.1.c,A.1.e),(Sx.name x.1))) λy4=>(bM mS A.1.1 y4 λz5=>(aw (cJ ((9,y4,(aU .i64 ((a8 x.2.1.g)+1)),(a8 x.2.1.g),z5.2.2.1,0),A)) λy6=>(bT (aB (ah A.2) (ah A.2)&&J) (Z y6)))))))))) (aw (kh ((fm ((Xp.op (Sx.expr x.1)),(Xp.n (Sx.expr x.1)),(Xp.name (Sx.expr x.1)),(Xp.l (Sx.expr x.1))),(a8 x.2.1.g)),x.2)) λq=>(bT (aB (ah x.2.2) (ah x.2.2)&&J) (aw (kP (q.1.g,(Sx.name x.1))) λy8=>(jO 0 y8 (aw (cJ ((2,y8,(a8 x.2.1.g),0,0,0),q)) λy9=>(bT (aB (ah q.2) (ah q.2)&&J) (Z y9))) (aw (o7 ((q.1.1,q.1.2.1,q.1.a,q.1.b,q.1.c,q.1.e),(Sx.name x.1))) λy10=>(aw (cJ ((8,y10,(a8 x.2.1.g),0,0,0),q)) λy11=>(bT (aB (ah q.2) (ah q.2)&&J) (Z y11)))))))))
def kU (x:ζ×e!):aj (Int×e!):=
 (iter (σ:=Int×e!) (λx1=>(bO x1.1 (a8 x1.2.1.a) (bM itK x1.2.1.a x1.1 λq=>(aK (decide ((q.1:ζ)=x.1)) (aJ x1) (cW ((cH x1.1),x1.2)))) (aJ ((-1),x1.2)))) (0,x.2))
def xB (rr06_gen_stmts:apu->aj e!) (rr06_gen_stmt:R3->aj e!) (rr06_gen_branches:R3->aj e!) (rr06_gen_around:apv->aj e!) (x:(Y Sx)×e!):aj e!:=
 (iter (σ:=Int×e!) (λx1=>(bO x1.1 (a8 x.1) (bM (.sm) x.1 x1.1 λq=>(aw (rr06_gen_stmt (q,x1.2)) λA=>(bT (aB (ah x1.2.2) (ah x1.2.2)&&J) (cW ((cH x1.1),A))))) (aJ x1.2))) (0,x.2))
def uN (rr06_gen_stmts:apu->aj e!) (rr06_gen_stmt:R3->aj e!) (rr06_gen_branches:R3->aj e!) (rr06_gen_around:apv->aj e!) (x:Sx×e!):aj e!:=
 (jn (α:=e!) (bp (Sx.op x.1) 1 (aw (nL (fo x.1,(x.2.1.1,x.2.1.2.1,x.2.1.a,x.2.1.b,x.2.1.c,x.2.1.e,x.2.1.g,x.2.1.n,(cH x.2.1.n)),x.2.2)) λy2=>(bT (aB (ah x.2.2) (ah x.2.2)&&J) (aJ y2))) (jn (bp (Sx.op x.1) 2 (aJ ((decide (((Sx.op x.1):Int)=2)),(x.2.1.1,x.2.1.2.1,x.2.1.a,x.2.1.b,x.2.1.c,x.2.1.e,x.2.1.g,x.2.1.n,(cH x.2.1.n)),fo x.1,x.2.2)) (aJ ((decide (((Sx.op x.1):Int)=3)),(x.2.1.1,x.2.1.2.1,x.2.1.a,x.2.1.b,x.2.1.c,x.2.1.e,x.2.1.g,x.2.1.n,(cH x.2.1.n)),fo x.1,x.2.2))) λq=>(aK q.1 (aw (rr06_gen_branches (fo q.a,q.2.1,q.d)) λy4=>(bT (aB (ah q.d) (ah q.d)&&J) (aJ y4))) (bp (Sx.op x.1) 4 (aw (mX (q.2.1.2.1,(Sx.name q.a))) λy5=>(aw (rr06_gen_around ((fo q.a,11,12,y5),q.2.1,q.d)) λy6=>(bT (aB (ah q.d) (ah q.d)&&J) (aJ y6)))) (bp (Sx.op x.1) 5 (aw (mX (q.2.1.2.1,(Sx.name q.a))) λy7=>(aw (rr06_gen_around ((fo q.a,13,14,y7),q.2.1,q.d)) λy8=>(bT (aB (ah q.d) (ah q.d)&&J) (aJ y8)))) (bp (Sx.op x.1) 6 (aw (mX (q.2.1.2.1,(Sx.name q.a))) λy9=>(aw (rr06_gen_around ((fo q.a,15,16,y9),q.2.1,q.d)) λy10=>(bT (aB (ah q.d) (ah q.d)&&J) (aJ y10)))) (bp (Sx.op x.1) 7 (aw (rr06_gen_around ((fo q.a,17,18,0),q.2.1,q.d)) λy11=>(bT (aB (ah q.d) (ah q.d)&&J) (aJ y11))) (bp (Sx.op x.1) 8 (aw (rr06_gen_around ((fo q.a,19,20,0),q.2.1,q.d)) λy12=>(bT (aB (ah q.d) (ah q.d)&&J) (aJ y12))) (bp (Sx.op x.1) 9 (aw (kU ((Sx.name q.a),q.2.1,q.d)) λy13=>(bT (aB (ah q.d) (ah y13.2.2)&&J) (aw (cJ ((21,y13.1,0,0,0,0),y13.2)) λy14=>(bT (aB (ah y13.2.2) (ah y13.2.2)&&J) (aJ y14))))) (bp (Sx.op x.1) 10 (aw (kU ((Sx.name q.a),q.2.1,q.d)) λI=>(bT (aB (ah q.d) (ah I.2.2)&&J) (aw (cJ ((22,I.1,0,0,0,0),I.2)) λy16=>(bT (aB (ah I.2.2) (ah I.2.2)&&J) (aJ y16))))) (bp (Sx.op x.1) 11 (aw (kU ((Sx.name q.a),q.2.1,q.d)) λA=>(bT (aB (ah q.d) (ah A.2.2)&&J) (aw (cJ ((23,A.1,0,0,0,0),A.2)) λy18=>(bT (aB (ah A.2.2) (ah A.2.2)&&J) (aJ y18))))) (bp (Sx.op x.1) 12 (aw (kP (q.2.1.c,(Sx.name q.a))) λy19=>(aw (cJ ((24,y19,0,0,0,0),q.2.1,q.d)) λy20=>(bT (aB (ah q.d) (ah q.d)&&J) (aJ y20)))) (bp (Sx.op x.1) 13 (aw (kP (q.2.1.c,(Sx.name q.a))) λy21=>(aw (cJ ((25,y21,0,0,0,0),q.2.1,q.d)) λy22=>(bT (aB (ah q.d) (ah q.d)&&J) (aJ y22)))) (bp (Sx.op x.1) 14 (aw (kh ((fm ((Xp.op (Sx.expr q.a)),(Xp.n (Sx.expr q.a)),(Xp.name (Sx.expr q.a)),(Xp.l (Sx.expr q.a))),(a8 x.2.1.g)),q.2.1,q.d)) λy23=>(bT (aB (ah q.d) (ah q.d)&&J) (aw (kP (y23.1.b,(Sx.name q.a))) λy24=>(aw (cJ ((26,y24,(a8 x.2.1.g),0,0,0),y23)) λy25=>(bT (aB (ah y23.2) (ah y23.2)&&J) (aJ y25)))))) (bp (Sx.op x.1) 15 (aw (kP (q.2.1.g,(Sx.name q.a))) λy26=>(aw (kP (q.2.1.b,(Sx.arg q.a))) λy27=>(aw (cJ ((27,y26,y27,0,0,0),q.2.1,q.d)) λy28=>(bT (aB (ah q.d) (ah q.d)&&J) (aJ y28))))) (aJ (q.2.1,q.d))))))))))))))))) λx1=>(Z x1))
def oC (rr06_gen_stmts:apu->aj e!) (rr06_gen_stmt:R3->aj e!) (rr06_gen_branches:R3->aj e!) (rr06_gen_around:apv->aj e!) (x:Sx×e!):aj e!:=
 (aw (kh ((fm ((Xp.op (Sx.expr x.1)),(Xp.n (Sx.expr x.1)),(Xp.name (Sx.expr x.1)),(Xp.l (Sx.expr x.1))),(a8 x.2.1.g)),x.2)) λA=>(bT (aB (ah x.2.2) (ah x.2.2)&&J) (aw (cJ ((10,(a8 A.1.g),0,0,0,0),A)) λy2=>(bT (aB (ah A.2) (ah A.2)&&J) (aw (rr06_gen_stmts ((Sx.body x.1),y2)) λq=>(bT (aB (ah y2.2) (ah y2.2)&&J) (bp (Sx.op x.1) 3 (aw (cJ ((5,(a8 x.2.2),0,0,0,0),(q.1.1,q.1.2.1,q.1.a,q.1.b,q.1.c,q.1.e,q.1.g,x.2.1.j,q.1.n),q.2)) λy4=>(bT (aB (ah q.2) (ah q.2)&&J) (ck (fO (a8 A.2) (ah y4.2)) (Z (y4.1,(bW y4.2 (a8 A.2) ((aE tV y4.2 (a8 A.2)).1,((aE tV y4.2 (a8 A.2)).2).1,(a8 y4.2),(((aE tV y4.2 (a8 A.2)).2).2).2))))))) (bp (aZ (ah (Sx.els x.1))) 0 (ck (fO (a8 A.2) (ah q.2)) (Z ((q.1.1,q.1.2.1,q.1.a,q.1.b,q.1.c,q.1.e,q.1.g,x.2.1.j,q.1.n),(bW q.2 (a8 A.2) ((aE tV q.2 (a8 A.2)).1,((aE tV q.2 (a8 A.2)).2).1,(a8 q.2),(((aE tV q.2 (a8 A.2)).2).2).2))))) (aw (cJ ((5,0,0,0,0,0),(q.1.1,q.1.2.1,q.1.a,q.1.b,q.1.c,q.1.e,q.1.g,x.2.1.j,q.1.n),q.2)) λI=>(bT (aB (ah q.2) (ah q.2)&&J) (ck (fO (a8 A.2) (ah I.2)) (aw (rr06_gen_stmts ((Sx.els x.1),I.1,(bW I.2 (a8 A.2) ((aE tV I.2 (a8 A.2)).1,((aE tV I.2 (a8 A.2)).2).1,(a8 I.2),(((aE tV I.2 (a8 A.2)).2).2).2)))) λy6=>(bT (aB (ah (bW I.2 (a8 A.2) ((aE tV I.2 (a8 A.2)).1,((aE tV I.2 (a8 A.2)).2).1,(a8 I.2),(((aE tV I.2 (a8 A.2)).2).2).2))) (ah (bW I.2 (a8 A.2) ((aE tV I.2 (a8 A.2)).1,((aE tV I.2 (a8 A.2)).2).1,(a8 I.2),(((aE tV I.2 (a8 A.2)).2).2).2)))&&J) (ck (fO (a8 q.2) (ah y6.2)) (Z (y6.1,(bW y6.2 (a8 q.2) ((aE tV y6.2 (a8 q.2)).1,(a8 y6.2),((aE tV y6.2 (a8 q.2)).2).2))))))))))))))))))
def vP (rr06_gen_stmts:apu->aj e!) (rr06_gen_stmt:R3->aj e!) (rr06_gen_branches:R3->aj e!) (rr06_gen_around:apv->aj e!) (x:U?):aj e!:=
 (aw (cJ ((x.1.2.1,x.1.d,0,0,0,0),x.2)) λA=>(bT (aB (ah x.2.2) (ah x.2.2)&&J) (aw (rr06_gen_stmts ((Sx.body x.1.1),A)) λq=>(bT (aB (ah A.2) (ah A.2)&&J) (aw (cJ ((x.1.a,x.1.d,0,0,0,0),(q.1.1,q.1.2.1,q.1.a,q.1.b,q.1.c,q.1.e,q.1.g,x.2.1.j,q.1.n),q.2)) λI=>(bT (aB (ah q.2) (ah q.2)&&J) (Z I)))))))
mutual
def ep:Nat->apu->aj e!
 |0,_=>U
 |n+1,x=>xB (ep n) (f_ n) (dy n) (d_ n) x
def f_:Nat->R3->aj e!
 |0,_=>U
 |n+1,x=>uN (ep n) (f_ n) (dy n) (d_ n) x
def dy:Nat->R3->aj e!
 |0,_=>U
 |n+1,x=>oC (ep n) (f_ n) (dy n) (d_ n) x
def d_:Nat->apv->aj e!
 |0,_=>U
 |n+1,x=>vP (ep n) (f_ n) (dy n) (d_ n) x
end
def xj (x:(Y Sx)×e!):aj e!:=ep ii x
abbrev C?:=Int×(Az×Y Ay)×kX×uT×Int×(Y (Int×Y mQ))×Y mQ
def sZ (x:y?):aj (G3×g!):=
 (aw (g_ x) λy1=>(jP y1.1 0 (Z (((([]:Y Zy),([]:Y v?),([]:Y lA),([]:Y ζ),([]:Y ζ),([]:Y π)),([]:Y M!)),y1)) (aw (xk x) λy2=>(iter (σ:=(ν)×(Az×Y Ay)×y!) (λA=>(bO A.1.2 (a8 A.2.1.2) (bM vW A.2.1.2 A.1.2 λz4=>(bM vW A.2.1.2 A.1.2 λz5=>(aw (xj (z5.2.2.2,(A.a.1,A.a.2.1,A.a.a,A.a.b,A.a.c,A.a.h,z4.2.2.1,0,A.1.1),([]:Y mQ))) λy6=>(bT (aB (ah ([]:Y mQ)) (ah ([]:Y mQ))&&J) (aw (cJ ((28,0,0,0,0,0),(y6.1.1,y6.1.2.1,y6.1.a,y6.1.b,y6.1.c,y6.1.e,y6.1.g,(-1),y6.1.n),y6.2)) λy7=>(bT (aB (ah y6.2) (ah y6.2)&&J) (iter (σ:=C?) (λI=>(bO I.1 (a8 I.i) (nI tV I.i I.1 λz9=>(aw (lw z9) λy10=>(iter (σ:=C?) (λq=>(bO q.1 (a8 y10) (bM aO y10 q.1 λz12=>(cW ((cH q.1),q.2.1,q.a,q.b,(mJ q.c (cH z12)),q.h))) (aJ (lB ((cH I.1),q.2))))) (0,I.2)))) (aw (bT (bk (ah I.e+ah ([(I.c,I.i)])) 32) (cW ((y6.1.n,(cH A.1.2)),I.2.1,I.a,(I.e++([(I.c,I.i)]))))) λr=>Z (bR r)))) (0,A.2.1,A.a,y7.1,(a8 y7.1.g),A.d,y7.2)))))))) (aJ (A.2.2,0,0)))) ((0,0),x,y2,([]:Y M!))))))
def sY (x:p?):aj (Bool):=
 (iter (σ:=Int) (λx1=>(bO x1 (a8 x.1) (bM aO x.1 x1 λq=>(bp q x.2 (aJ J) (cW (cH x1)))) (aJ af))) 0)
def zV (x:p?):aj η:=
 (iter (σ:=Int) (λx1=>(jn (bO x1 (a8 x.1) (bM aO x.1 x1 λA=>(aJ (hY A x.2))) (aJ af)) λx2=>(aK x2 (cW (cH x1)) (aw (jn (bO x1 (a8 x.1) (bM aO x.1 x1 λq=>(aJ (decide ((q:Int)=x.2)))) (aJ af)) λI=>(aK I (Z x.1) (bT (cN 0 x1&&cN x1 (ah x.1)) (bT (bk (ah ([]:η)+ah (cG (aL x1) x.1)) 8) (bT (bk (ah (([]:η)++(cG (aL x1) x.1))+ah ([x.2])) 8) (bT (cN 0 x1&&cN x1 (ah x.1)) (bT (bk (ah ((([]:η)++(cG (aL x1) x.1))++([x.2]))+ah (oR (aL x1) x.1)) 8) (Z (((([]:η)++(cG (aL x1) x.1))++([x.2]))++(oR (aL x1) x.1)))))))))) λr=>Z (bR r))))) 0)
abbrev u!:=η×η
abbrev x!:=(η)×Int
def xi (x:u!):aj η:=
 (iter (σ:=x!) (λx1=>(bO x1.2 (a8 x.1) (bM aO x.1 x1.2 λI=>(aw (zV (x1.1,I)) λy3=>(cW (y3,(cH x1.2))))) (aw (iter (σ:=x!) (λq=>(bO q.2 (a8 x.2) (bM aO x.2 q.2 λA=>(aw (zV (q.1,A)) λy6=>(cW (y6,(cH q.2))))) (aJ q.1))) (x1.1,0)) λr=>Z (bR r)))) (([]:η),0))
def n_ (x:Int):aj (Int):=
 (jn (bO x 1 (aJ J) (aJ (hY 100 x))) λx1=>(aK x1 (Z 0) (Z x)))
abbrev m?:=(η)×Y η
def cB (x:j!):aj (ν×m?):=
 (bT (bk (ah ([]:η)+ah x.2.1) 8) (iter (σ:=Int×y_×(ν)×(ν)×m?) (λx1=>(bO x1.1 (a8 x1.2.1.a) (bM (.sl aO) x1.2.1.a x1.1 λq=>(bT (bk (ah ([]:η)+ah q) 8) (bT (bk (ah x1.h+ah ([(([]:η)++q)])) 24) (cW ((cH x1.1),x1.2.1,x1.a,x1.b,x1.c,(x1.h++([(([]:η)++q)]))))))) (aJ x1.d))) (0,x,(0,0),(x.1,x.d),(([]:η)++x.2.1),([]:Y η))))
abbrev R!:=(η)×(Y η)×mQ×(ν)×g!
def zU (x:(mQ×Int×Int)×m?):aj ((ν×Bool)×m?):=
 (aw (lw x.1.1) λy1=>(iter (σ:=Int×R!) (λx2=>(bO x2.1 (a8 y1) (jn (bM aO y1 x2.1 λz4=>(bO z4 0 (aJ (J,x2.2)) (bM aO y1 x2.1 λz5=>(aJ ((cN (a8 x2.2.1) z5),x2.2))))) λx3=>(aK x3.1 U (cW ((cH x2.1),x3.2)))) (aw (jn (α:=(Int×Bool×η)×R!) (bp x2.b.1 5 (cW (((x2.b.2.1,x2.c.2),J),x2.2.1,x2.a)) (bp x2.b.1 1 (aJ ((x2.b.c,J,([]:η)),x2.2)) (bp x2.b.1 2 (nI aO x2.2.1 x2.b.a λz7=>(nI (.sl aO) x2.a x2.b.a λz8=>(aJ ((z7,J,z8),x2.2)))) (bp x2.b.1 3 (aw (n_ x2.b.c) λy9=>(nI aO x2.2.1 x2.b.a λz10=>(aw (xl (y9,z10)) λI=>(nI (.sl aO) x2.a x2.b.a λz12=>(aJ ((I.1,I.2,z12),x2.2)))))) (aw (n_ x2.b.c) λy13=>(nI aO x2.2.1 x2.b.a λz14=>(nI aO x2.2.1 x2.b.b λz15=>(aw (vi (y13,z14,z15)) λA=>(nI (.sl aO) x2.a x2.b.a λz17=>(nI (.sl aO) x2.a x2.b.b λz18=>(aw (xi (z17,z18)) λy19=>(aJ ((A.1,A.2,y19),x2.2))))))))))))) λq=>(bT (bk (ah ([]:η)+ah q.1.2.2) 8) (ck (fO q.b.2.1 (ah q.2.1)) (ck (fO q.b.2.1 (ah q.a)) (Z ((((cH q.c.1),q.c.2),q.1.2.1),(bW q.2.1 q.b.2.1 q.1.1),(bW q.a q.b.2.1 (([]:η)++q.1.2.2)))))))) λr=>Z (bR r)))) (0,x.2.1,x.2.2,x.1.1,x.1.2,0,0)))
def o6 (x:(Int×Y mQ)×j!):aj (y_×Bool):=
 (jn (α:=Bool×(Int×Y mQ)×y_×g!) (jP (a8 x.a) x.1.1 (aJ (J,x.1,x.2,0,0)) (aJ ((!decide (((a8 x.b):Int)=x.1.1)),x.1,x.2,0,0))) λx1=>(aK x1.1 (Z ((0,([]:η),([]:Y η),0),af)) (aw (cB x1.a) λy2=>(iter (σ:=Int×(Int×Y mQ)×(ν)×(ν)×m?) (λA=>(jO A.1 (a8 A.2.1.2) (jn (bO A.a.1 0 (aJ (J,A.2)) (aJ ((cN (a8 A.2.1.2) A.a.1),A.2))) λq=>(aK q.1 (aJ ((0,([]:η),([]:Y η),0),af)) (bM tV q.2.1.2 q.a.1 λz5=>(aw (sa z5.1) λy6=>(aK (!y6) (aJ ((q.a.1,q.c,q.h,q.a.2),J)) (bp A.1 (a8 q.2.1.2) (aJ ((0,([]:η),([]:Y η),0),af)) (aw (zU ((z5,q.a),q.f)) λI=>(bT (aB (ah q.h) (ah I.2.2)&&(aB (ah q.c) (ah I.2.1)&&J)) (aK (!I.1.2) (aJ ((0,([]:η),([]:Y η),0),af)) (cW ((cH A.1),q.2.1,I.1.1,q.b,I.2))))))))))) (aJ ((0,([]:η),([]:Y η),0),af)))) (0,x1.2.1,y2.1,x1.d,y2.2)))))
abbrev o?:=Int×Int×kc×g?
abbrev D!:=kc×g?
def ur (x:b!):aj mj:=
 (iter (σ:=Int×kX×Int×Int×Y (Int×η)) (λx1=>(bO x1.1 (a8 x1.2.1.2.1) (bT (bk (ah x1.f+ah ([((-1),([]:η))])) 32) (cW ((cH x1.1),x1.2.1,x1.a,x1.b,(x1.f++([((-1),([]:η))]))))) (aw (iter (σ:=Int×kX×Int×Int×kc×θ) (λx2=>(bO x2.1 (a8 x2.2.1.b) (bT (bk (ah x2.h+ah ([af])) 1) (cW ((cH x2.1),x2.2.1,x2.a,x2.b,x2.c,(x2.h++([af]))))) (aw (iter (σ:=Int×kX×o?) (λq=>(bO q.1 (a8 q.2.1.c) (jn (α:=kX×Int×Int×ey×D!) (bp q.1 0 (aJ (q.2.1,q.a,q.b,(1,0,af),q.f)) (aJ (q.2.1,q.a,q.b,(0,0,af),q.f))) λA=>(bT (bk (ah A.i+ah ([A.b])) 24) (cW ((cH q.1),A.1,A.2.1,A.a,A.c,A.e,(A.i++([A.b])))))) (aJ (q.c,q.b,q.h)))) (0,x2.2.1,x2.a,x2.b,x2.c,x2.h,([]:Y ey))) λr=>Z (bR r)))) (0,x1.2.1,x1.a,x1.b,x1.f,([]:θ))) λr=>Z (bR r)))) (0,x,0,(-1),([]:Y d!)))
def pE (x:kX×q!):aj (Bool):=
 (iter (σ:=Int×kX×q!) (λx1=>(bO x1.1 (a8 x1.2.1.a) (jn (bM itK x1.2.1.a x1.1 λA=>(bO A.2 0 (aJ (J,x1.2)) (bM itK x1.2.1.a x1.1 λq=>(aJ ((cN (a8 x1.2.1.2.1) q.2),x1.2))))) λx2=>(aK x2.1 (aJ af) (cW ((cH x1.1),x2.2)))) (aw (jn (bp (a8 x1.a) (a8 x1.2.1.2.1) (bp (a8 x1.c) (a8 x1.2.1.b) (aJ (decide (((a8 x1.h):Int)=(a8 x1.2.1.c)))) (aJ af)) (aJ af)) λI=>(Z I)) λr=>Z (bR r)))) (0,x))
def sX (x:ν):aj (Bool):=
 (jn (jO 0 x.1 (aJ (hY x.1 x.2)) (aJ af)) λx1=>(Z x1))
def rH (x:kX×g!):aj (Bool):=
 (jn (bp x.2.1 1 (aJ ((decide ((x.2.1:Int)=1)),x.1)) (bp x.2.1 2 (aJ ((decide ((x.2.1:Int)=2)),x.1)) (bp x.2.1 5 (aJ ((decide ((x.2.1:Int)=5)),x.1)) (bp x.2.1 12 (aJ ((decide ((x.2.1:Int)=12)),x.1)) (bp x.2.1 13 (aJ ((decide ((x.2.1:Int)=13)),x.1)) (bp x.2.1 14 (aJ ((decide ((x.2.1:Int)=14)),x.1)) (aJ ((decide ((x.2.1:Int)=15)),x.1)))))))) λx1=>(aK x1.1 (Z (decide ((x.2.2:Int)=(-1)))) (jn (bp x.2.1 3 (aJ ((decide ((x.2.1:Int)=3)),x1.2)) (aJ ((decide ((x.2.1:Int)=4)),x1.2))) λx2=>(aK x2.1 (aw (sX (x.2.2,(a8 x2.2.1))) λy3=>(Z y3)) (jn (bp x.2.1 6 (aJ ((decide ((x.2.1:Int)=6)),x2.2)) (aJ ((decide ((x.2.1:Int)=7)),x2.2))) λx4=>(aK x4.1 (jn (aw (sX (x.2.2,(a8 x4.a))) λy6=>(aK y6 (bM tY x4.a x.2.2 λz7=>(aJ (!z7.2))) (aJ af))) λx5=>(Z x5)) (jn (bp x.2.1 8 (aJ ((decide ((x.2.1:Int)=8)),x4.2)) (bp x.2.1 9 (aJ ((decide ((x.2.1:Int)=9)),x4.2)) (bp x.2.1 10 (aJ ((decide ((x.2.1:Int)=10)),x4.2)) (aJ ((decide ((x.2.1:Int)=11)),x4.2))))) λI=>(aK I.1 (jn (aw (sX (x.2.2,(a8 I.a))) λy10=>(aK y10 (bM tY I.a x.2.2 λz11=>(aJ z11.2)) (aJ af))) λx9=>(Z x9)) (jn (bp x.2.1 16 (aJ ((decide ((x.2.1:Int)=16)),I.2)) (bp x.2.1 17 (aJ ((decide ((x.2.1:Int)=17)),I.2)) (bp x.2.1 18 (aJ ((decide ((x.2.1:Int)=18)),I.2)) (aJ ((decide ((x.2.1:Int)=19)),I.2))))) λA=>(aK A.1 (aw (sX (x.2.2,(a8 A.b))) λy13=>(Z y13)) (jn (bp x.2.1 20 (aJ ((decide ((x.2.1:Int)=20)),A.2)) (aJ ((decide ((x.2.1:Int)=21)),A.2))) λq=>(aK q.1 (aw (sX (x.2.2,(a8 q.e))) λy15=>(Z y15)) (jn (bp x.2.1 22 (aJ ((decide ((x.2.1:Int)=22)),q.2)) (aJ ((decide ((x.2.1:Int)=23)),q.2))) λx16=>(aK x16.1 (aw (sX (x.2.2,(a8 x16.c))) λy17=>(Z y17)) (Z af)))))))))))))))
abbrev O!:=kX×mj×Int×g!
def j5 (x:O!):aj (Bool):=
 (jn (aw (pE (x.1,x.2.1)) λy2=>(aK (!y2) (aJ (J,x.1,x.2.1)) (aw (sX (x.a,(a8 x.1.c))) λy3=>(aK (!y3) (aJ (J,x.1,x.2.1)) (aw (rH (x.1,x.d)) λy4=>(aJ ((!y4),x.1,x.2.1))))))) λx1=>(aK x1.1 (Z af) (bM iH x1.h x.a λI=>(bp x.b 1 (Z (decide ((I.1:Int)=1))) (bp x.b 17 (jn (α:=Bool) (bp I.1 4 (bp I.2.1 x.f (bM itK x1.2.1.a x.f λz7=>(bM dU x1.a z7.2 λz8=>(aJ (decide ((z8.1:Int)=(-1)))))) (aJ af)) (aJ af)) λx6=>(Z x6)) (jP I.1 2 (Z af) (bp x.b 6 (bM dU x1.a x.f λz9=>(Z (decide ((z9.1:Int)=(-1))))) (bp x.b 10 (jn (α:=Bool) (bM dU x1.a x.f λz11=>(bp z11.1 (-1) (bM dU x1.a x.f λz12=>(aJ (decide (((a8 z12.2):Int)=0)))) (aJ af))) λx10=>(Z x10)) (bp x.b 8 (jn (α:=Bool) (bM dU x1.a x.f λz14=>(bp z14.1 (-1) (bM dU x1.a x.f λz15=>(aw (sY (z15.2,x.a)) λy16=>(aJ (!y16)))) (aJ af))) λx13=>(Z x13)) (jn (bp x.b 7 (aJ ((decide ((x.b:Int)=7)),x1.2.1,x1.2.2,I)) (aJ ((decide ((x.b:Int)=11)),x1.2.1,x1.2.2,I))) λq=>(aK q.1 (bM dU q.a.1 x.f λz18=>(Z (decide ((z18.1:Int)=x.a)))) (bp x.b 9 (bM dU q.a.1 x.f λz19=>(aw (sY (z19.2,x.a)) λy20=>(Z y20))) (bp x.b 12 (Z (decide ((q.a.2.1:Int)=(-1)))) (bp x.b 13 (Z (decide ((q.a.2.1:Int)=x.a))) (bp x.b 14 (Z (!q.h)) (bp x.b 15 (Z q.h) (jn (bp x.b 16 (aJ ((decide ((x.b:Int)=16)),q.2.1,q.a)) (bp x.b 18 (aJ ((decide ((x.b:Int)=18)),q.2.1,q.a)) (aJ ((decide ((x.b:Int)=19)),q.2.1,q.a)))) λA=>(aK A.1 (bM itK A.2.1.a x.f λz22=>(bM dU A.a z22.2 λz23=>(Z (decide ((z23.1:Int)=x.a))))) (bp x.b 20 (jn (jP x.f x.a (bM iH A.h x.f λz25=>(aJ (decide ((z25.1:Int)=0)))) (aJ af)) λx24=>(Z x24)) (bp x.b 21 (jn (jP x.f x.a (bM iH A.h x.f λz27=>(aJ (decide ((z27.1:Int)=5)))) (aJ af)) λx26=>(Z x26)) (bp x.b 22 (bM (.bool) A.c x.f λz28=>(Z (!z28))) (bp x.b 23 (bM (.bool) A.c x.f λz29=>(Z z29)) (Z J)))))))))))))))))))))))
def pD (x:mj×Int):aj η:=
 (iter (σ:=Int×mj×η) (λx1=>(bO x1.1 (a8 x1.2.1.d) (jn (α:=mj×η) (jn (bM iH x1.2.1.d x1.1 λI=>(bp I.1 3 (bM iH x1.2.1.d x1.1 λA=>(aJ ((decide ((A.2.1:Int)=x.2)),x1.2))) (aJ (af,x1.2)))) λq=>(aK q.1 (bT (bk (ah q.2.2+ah ([x1.1])) 8) (aJ (q.2.1,(q.2.2++([x1.1]))))) (aJ q.2))) λx2=>(cW ((cH x1.1),x2))) (aJ x1.2.2))) (0,x.1,([]:η)))
def sW (x:p?):aj η:=
 (iter (σ:=d!) (λx1=>(bO x1.1 (a8 x.1) (jn (α:=η) (bM aO x.1 x1.1 λA=>(jP A x.2 (bM aO x.1 x1.1 λq=>(bT (bk (ah x1.2+ah ([q])) 8) (aJ (x1.2++([q]))))) (aJ x1.2))) λx2=>(cW ((cH x1.1),x2))) (aJ x1.2))) (0,([]:η)))
def jQ (x:q!):aj (Int×D!):=
 (bT (bk (ah ([]:θ)+ah x.a) 1) (bT (bk (ah ([]:Y ey)+ah x.d) 24) (iter (σ:=Int×mj×o?) (λx1=>(bO x1.1 (a8 x1.2.1.1) (bM dU x1.2.1.1 x1.1 λA=>(bM dU x1.2.1.1 x1.1 λq=>(bT (bk (ah ([]:η)+ah q.2) 8) (bT (bk (ah x1.c+ah ([(A.1,(([]:η)++q.2))])) 32) (cW ((cH x1.1),x1.2.1,x1.a,x1.b,(x1.c++([(A.1,(([]:η)++q.2))])),x1.h)))))) (aJ x1.d))) (0,x,0,x.2.1,([]:Y d!),(([]:θ)++x.a),(([]:Y ey)++x.d)))))
def nZ (x:ν×D!):aj (η×D!):=
 (iter (σ:=Int×kc×(θ)×(Y ey)×d!) (λx1=>(bO x1.1 (a8 x1.b) (jn (α:=kc×(θ)×(Y ey)×d!) (jn (nI iH x1.b x1.1 λI=>(bp I.1 3 (nI iH x1.b x1.1 λA=>(aJ ((decide ((A.2.1:Int)=x.1.2)),x1.2))) (aJ (af,x1.2)))) λq=>(aK q.1 (bT (bk (ah q.h+ah ([x1.1])) 8) (aJ (q.2.1,q.a,q.b,q.c,(q.h++([x1.1]))))) (aJ q.2))) λx2=>(cW ((cH x1.1),x2))) (aJ (x1.h,x1.2.1,x1.a,x1.b)))) (0,x.2.1,x.a,x.d,x.1.1,([]:η)))
def mE (x:ν×D!):aj η:=aw (nZ x) λy=>same y.2 x.2 (Z y.1)
abbrev R?:=kX×mj×r?
abbrev X?:=Int×o?
def rJ (x:R?):aj (mj×i?):=
 (aw (j5 (x.1,x.2.1,x.a,x.b,x.c)) λy1=>(aK (!y1) (Z ((([]:Y d!),0,([]:θ),([]:Y ey)),0,af)) (aw (jQ x.2.1) λy2=>(jn (α:=X?) (bp x.b 1 (ck (fO x.a (ah y2.d)) (aJ (0,y2.1,0,y2.2.1,y2.a,(bW y2.d x.a (2,(aE iH y2.d x.a).2))))) (bp x.b 2 (ck (fO x.a (ah y2.d)) (aJ (0,y2.1,0,y2.2.1,y2.a,(bW y2.d x.a (5,(aE iH y2.d x.a).2))))) (jn (α:=Bool×kX×o?) (bp x.b 6 (aJ ((decide ((x.b:Int)=6)),x.1,y2.1,0,y2.2)) (aJ ((decide ((x.b:Int)=10)),x.1,y2.1,0,y2.2))) λx4=>(aK x4.1 (ck (fO x.c (ah x4.c)) (aJ (0,x4.a,x4.b,(bW x4.c x.c (x.a,(aE dU x4.c x.c).2)),x4.h))) (jn (bp x.b 7 (aJ ((decide ((x.b:Int)=7)),x4.2)) (aJ ((decide ((x.b:Int)=11)),x4.2))) λq=>(aK q.1 (ck (fO x.c (ah q.c)) (aJ (0,q.a,q.b,(bW q.c x.c ((-1),(aE dU q.c x.c).2)),q.h))) (bp x.b 8 (nI dU q.c x.c λz6=>(aw (xi (z6.2,[x.a])) λy7=>(ck (fO x.c (ah q.c)) (aJ (0,q.a,q.b,(bW q.c x.c ((aE dU q.c x.c).1,y7)),q.h))))) (bp x.b 9 (nI dU q.c x.c λz8=>(aw (sW (z8.2,x.a)) λy9=>(ck (fO x.c (ah q.c)) (aJ (0,q.a,q.b,(bW q.c x.c ((aE dU q.c x.c).1,y9)),q.h))))) (bp x.b 12 (aJ (0,x.a,q.d)) (bp x.b 13 (aJ (0,(-1),q.d)) (bp x.b 14 (ck (fO x.a (ah q.i)) (aJ (0,q.a,q.b,q.c,q.e,(bW q.i x.a ((aE iH q.i x.a).1,((aE iH q.i x.a).2).1,J))))) (bp x.b 15 (ck (fO x.a (ah q.i)) (aJ (0,q.a,q.b,q.c,q.e,(bW q.i x.a ((aE iH q.i x.a).1,((aE iH q.i x.a).2).1,af))))) (bp x.b 16 (bM itK q.2.1.a x.c λz10=>(ck (fO z10.2 (ah q.c)) (ck (fO x.a (ah q.i)) (ck (fO x.a (ah (bW q.i x.a (3,(aE iH q.i x.a).2)))) (aJ (0,q.a,q.b,(bW q.c z10.2 ((-1),(aE dU q.c z10.2).2)),q.e,(bW (bW q.i x.a (3,(aE iH q.i x.a).2)) x.a ((aE iH (bW q.i x.a (3,(aE iH q.i x.a).2)) x.a).1,x.c,((aE iH (bW q.i x.a (3,(aE iH q.i x.a).2)) x.a).2).2)))))))) (bp x.b 17 (bM itK q.2.1.a x.c λz11=>(ck (fO z11.2 (ah q.c)) (ck (fO x.a (ah q.i)) (ck (fO x.a (ah (bW q.i x.a (2,(aE iH q.i x.a).2)))) (aJ (0,q.a,q.b,(bW q.c z11.2 (x.a,(aE dU q.c z11.2).2)),q.e,(bW (bW q.i x.a (2,(aE iH q.i x.a).2)) x.a ((aE iH (bW q.i x.a (2,(aE iH q.i x.a).2)) x.a).1,0,((aE iH (bW q.i x.a (2,(aE iH q.i x.a).2)) x.a).2).2)))))))) (bp x.b 18 (aw (mE ((q.a,x.c),q.f)) λy12=>(bO 0 (a8 y12) (bM aO y12 0 λz13=>(jn (aw (sY (y12,x.h)) λy15=>(aK y15 (aJ (x.h,q.2.2)) (aJ (z13,q.2.2)))) λI=>(ck (fO I.1 (ah I.h)) (aJ (I.1,I.2.1,I.a,I.b,I.c,(bW I.h I.1 (4,(aE iH I.h I.1).2))))))) (aJ ((-1),q.2.2)))) (bp x.b 19 (aw (mE ((q.a,x.c),q.f)) λy16=>(iter (σ:=X?) (λA=>(bO A.1 (a8 y16) (bM aO y16 A.1 λz18=>(ck (fO z18 (ah A.h)) (cW ((cH A.1),A.2.1,A.a,A.b,A.c,(bW A.h z18 (4,(aE iH A.h z18).2)))))) (aJ (bR ((a8 y16),A.2))))) (0,q.2.2))) (bp x.b 20 (ck (fO x.c (ah q.i)) (aJ (0,q.a,q.b,q.c,q.e,(bW q.i x.c (1,(aE iH q.i x.c).2))))) (bp x.b 22 (ck (fO x.c (ah q.e)) (aJ (0,q.a,q.b,q.c,(bW q.e x.c J),q.i))) (aJ (0,q.2.2)))))))))))))))))))) λx3=>(Z ((x3.b,x3.2.1,x3.f),x3.1,J))))))
abbrev S!:=(η)×η
def xh (x:y!):aj BJ:=
 (aw (lq x) λy1=>(aK (!y1) (Z ((([]:Y d!),0,([]:θ),([]:Y ey)),([]:η),([]:η),([]:Y y_))) (aw (ur x.1) λy2=>(iter (σ:=Int×G3×Int×mj×η) (λI=>(bO I.1 (a8 I.2.1.1.1) (bM mS I.2.1.1.1 I.1 λz4=>(bT (bk (ah I.f+ah ([z4.2.2.2.2])) 8) (cW ((cH I.1),I.2.1,I.a,I.b,(I.f++([z4.2.2.2.2])))))) (aw (iter (σ:=Int×G3×Int×mj×S!) (λA=>(bO A.1 (a8 A.2.1.1.b) (bT (bk (ah A.h+ah ([0])) 8) (cW ((cH A.1),A.2.1,A.a,A.b,A.c,(A.h++([0]))))) (aw (iter (σ:=Int×G3×Int×e?) (λq=>(bO q.1 (a8 q.2.1.2) (vI q.1 q.2.1.2 (lt ((aE AC q.2.1.2 q.1).1) λz7=>(bT (cN 0 z7&&cN z7 z7&&bk (aL z7) 8) (vI q.1 q.2.1.2 (lt ((aE AC q.2.1.2 q.1).1) λz8=>(bT (cN 0 z8&&cN z8 z8&&bk (aL z8) 24) (bT (bk (ah q.i+ah ([(0,(aA (aL z7) (0:Int)),(aA (aL z8) ([]:η)),0)])) 64) (cW ((cH q.1),q.2.1,q.a,q.b,q.c,q.e,(q.i++([(0,(aA (aL z7) (0:Int)),(aA (aL z8) ([]:η)),0)]))))))))))) (aJ q.d))) (0,A.2.1,A.a,A.b,A.c,A.h,([]:Y y_))) λr=>Z (bR r)))) (0,I.2.1,I.a,I.b,I.f,([]:η))) λr=>Z (bR r)))) (0,x,0,y2,([]:η))))))
def zS (x:G3×e?):aj (Bool):=
 (jn (aw (lq x.1) λy2=>(aK (!y2) (aJ (J,x)) (aw (pE (x.1.1,x.2.1)) λy3=>(aK (!y3) (aJ (J,x)) (jP (a8 x.a) (a8 x.1.1.1) (aJ (J,x)) (jP (a8 x.b) (a8 x.1.1.b) (aJ (J,x)) (aJ ((!decide (((a8 x.f):Int)=(a8 x.1.2))),x)))))))) λx1=>(aK x1.1 (Z af) (iter (σ:=Int×G3×e?) (λq=>(bO q.1 (a8 q.2.1.2) (bM gh q.h q.1 λA=>(jn (bO A.1 0 (aJ (J,q.2)) (bM AC q.2.1.2 q.1 λz7=>(jO (a8 z7.2) A.1 (aJ (J,q.2)) (bM AC q.2.1.2 q.1 λz8=>(jP (a8 A.2.1) z8.1 (aJ (J,q.2)) (bM AC q.2.1.2 q.1 λz9=>(aJ ((!decide (((a8 A.a):Int)=z9.1)),q.2)))))))) λI=>(aK I.1 (aJ af) (cW ((cH q.1),I.2))))) (aJ J))) (0,x1.2))))
def Et (x:Int):aj (Int):=
 (jn (α:=Bool×η) (bO x 6 (aJ (J,[3,3,4,4,5,6,7,8,9,10,11,12,13,14,15,16,18,19,20,21,22,23,2])) (aJ ((hY 28 x),[3,3,4,4,5,6,7,8,9,10,11,12,13,14,15,16,18,19,20,21,22,23,2]))) λx1=>(aK x1.1 (Z 0) (nI aO x1.2 (aU .i64 (x-6)) λq=>(Z q))))
def yi (x:mQ×j!):aj (Int):=
 (jn (bp x.1.1 6 (aJ ((decide ((x.1.1:Int)=6)),x)) (aJ ((decide ((x.1.1:Int)=27)),x))) λx1=>(aK x1.1 (Z x1.2.1.a) (bp x.1.1 7 (bM aO x1.b x1.2.1.b λI=>(aw (xm (I,x1.2.1.c)) λy3=>(Z (aU .i64 (x1.2.1.a+y3))))) (bp x.1.1 9 (bM aO x1.b x1.2.1.b λA=>(aw (xm (A,x1.2.1.c)) λy5=>(Z (aU .i64 (x1.2.1.2.1+y5))))) (jn (bp x.1.1 10 (aJ ((decide ((x.1.1:Int)=10)),x1.2.1)) (bp x.1.1 17 (aJ ((decide ((x.1.1:Int)=17)),x1.2.1)) (bp x.1.1 18 (aJ ((decide ((x.1.1:Int)=18)),x1.2.1)) (bp x.1.1 19 (aJ ((decide ((x.1.1:Int)=19)),x1.2.1)) (bp x.1.1 20 (aJ ((decide ((x.1.1:Int)=20)),x1.2.1)) (aJ ((decide ((x.1.1:Int)=28)),x1.2.1))))))) λq=>(aK q.1 (Z (-1)) (Z q.a)))))))
def pC (x:G3×BJ×Int):aj (rW×Bool):=
 (jn (α:=Bool×G3×BJ×X!) (aw (zS (x.1,x.2.1)) λy2=>(aK (!y2) (aJ (J,x.1,x.2.1,0,0,0,0,0)) (bO x.2.2 0 (aJ (J,x.1,x.2.1,0,0,0,0,0)) (aJ ((cN (a8 x.1.2) x.2.2),x.1,x.2.1,0,0,0,0,0))))) λx1=>(aK x1.1 (Z ((0,0,0,0,0,([]:η),([]:η)),af)) (bM gh x1.a.d x.2.2 λz3=>(bM AC x1.2.1.2 x.2.2 λz4=>(bM tV z4.2 z3.1 λI=>(bM iH x1.a.1.d x.2.2 λz6=>(bp z6.1 1 (Z ((x.2.2,1,(-1),0,(-1),([]:η),([]:η)),J)) (bp z6.1 4 (bM iH x1.a.1.d x.2.2 λz7=>(Z ((x.2.2,17,z7.2.1,0,I.h,([]:η),([]:η)),J))) (bp z6.1 2 (aw (Et I.1) λy8=>(aw (yi (I,z3)) λy9=>(bp y8 0 (Z ((0,0,0,0,0,([]:η),([]:η)),af)) (jn (α:=R4×y_×mQ×R4×η) (bp I.1 10 (bM (.sl aO) z3.a I.2.1 λz11=>(bT (bk (ah (z11:η)) 8) (aJ (x1.d,z3,I,(x.2.2,y8,y9,0,I.h),z11)))) (jn (α:=Bool×R4×y_×mQ×X!) (bp I.1 7 (aJ ((decide ((I.1:Int)=7)),x1.d,z3,I,x.2.2,y8,y9,0,I.h)) (aJ ((decide ((I.1:Int)=9)),x1.d,z3,I,x.2.2,y8,y9,0,I.h))) λq=>(aK q.1 (bM (.sl aO) q.a.a q.b.b λz13=>(bT (bk (ah (z13:η)) 8) (aJ (q.2.1,q.a,q.b,q.f,z13)))) (aJ (q.2.1,q.a,q.b,q.f,([]:η)))))) λx10=>(jn (α:=R4×R4×S!) (jn (bp x10.a.1 8 (aJ (J,x10)) (bp x10.a.1 9 (aJ (J,x10)) (aJ ((decide ((x10.a.1:Int)=26)),x10)))) λA=>(aK A.1 (bM (.sl aO) A.a.a A.b.a λz16=>(bT (bk (ah (z16:η)) 8) (aJ (A.2.1,A.c,A.h,z16)))) (aJ (A.2.1,A.c,A.h,([]:η))))) λx14=>(Z ((x14.2.1.1,x14.2.1.2.1,x14.2.1.a,x14.2.1.b,x14.2.1.f,x14.2.2),J))))))) (Z ((0,0,0,0,0,([]:η),([]:η)),af)))))))))))
def uq (x:b!):aj rX:=
 (aw (ur x) λA=>(bT (cN 0 (a8 x.b)&&cN (a8 x.b) (a8 x.b)&&bk (aL (a8 x.b)) 8) (bT (cN 0 (a8 x.c)&&cN (a8 x.c) (a8 x.c)&&bk (aL (a8 x.c)) 8) (iter (σ:=Int×kX×Int×Q?) (λx2=>(bO x2.1 (a8 x2.2.1.1) (bM mS x2.2.1.1 x2.1 λq=>(bT (bk (ah x2.c+ah ([q.2.2.2.2])) 8) (cW ((cH x2.1),x2.2.1,x2.a,x2.b,(x2.c++([q.2.2.2.2])),x2.h)))) (aJ x2.d))) (0,x,0,A,([]:η),(aA (aL (a8 x.b)) (0:Int)),(aA (aL (a8 x.c)) (0:Int)))))))
def wQ (x:kX×Q?):aj (Bool):=
 (jn (aw (pE (x.1,x.2.1)) λq=>(aK q (bp (a8 x.a) (a8 x.1.1) (bp (a8 x.b) (a8 x.1.b) (aJ (decide (((a8 x.f):Int)=(a8 x.1.c)))) (aJ af)) (aJ af)) (aJ af))) λx1=>(Z x1))
def HB (x:ν):aj (Bool):=
 (jn (jO 0 x.1 (aJ (hY x.1 x.2)) (aJ af)) λx1=>(Z x1))
def pB (x:p?):aj (Bool):=
 (iter (σ:=Int) (λx1=>(bO x1 (a8 x.1) (jn (bM aO x.1 x1 λz3=>(bO z3 1 (aJ J) (bM aO x.1 x1 λI=>(jO x.2 I (aJ J) (bO 0 x1 (bM aO x.1 x1 λA=>(bM aO x.1 (aU .i64 (x1-1)) λq=>(aJ (cN A q)))) (aJ af)))))) λx2=>(aK x2 (aJ af) (cW (cH x1)))) (aJ J))) 0)
abbrev L!:=rX×b?
def xf (x:L!):aj (Bool):=
 (bp x.a 3 (bM aO x.1.2.1 x.b λz1=>(Z (decide ((x.c:Int)=z1)))) (bp x.a 23 (bM aO x.1.a x.b λI=>(Z (decide ((x.c:Int)=I)))) (bp x.a 5 (jn (bp x.c 0 (aJ J) (aJ (decide ((x.c:Int)=1)))) λx3=>(Z x3)) (jn (bp x.a 4 (aJ ((decide ((x.a:Int)=4)),x)) (aJ ((decide ((x.a:Int)=22)),x))) λq=>(aK q.1 (Z J) (bp x.a 18 (aw (pD (q.2.1.1,q.c)) λA=>(bp (a8 A) 0 (Z (decide ((q.e:Int)=(-1)))) (jn (jO 0 q.e (bO q.e (a8 q.2.1.1.d) (aw (sY (A,q.e)) λy7=>(aJ y7)) (aJ af)) (aJ af)) λx6=>(Z x6)))) (bp x.a 19 (aw (pD (q.2.1.1,q.c)) λy8=>(Z (decide ((q.e:Int)=(a8 y8))))) (Z (decide ((q.e:Int)=0))))))))))
abbrev H?:=kX×rX×rW×Int
def nY (x:kX×L!):aj (rX×Bool):=
 (jn (α:=Bool×H?) (aw (wQ (x.1,x.2.1)) λy2=>(aK (!y2) (aJ (J,x.1,x.2.1,x.2.2,0)) (aw (HB (x.a,(a8 x.1.c))) λy3=>(aK (!y3) (aJ (J,x.1,x.2.1,x.2.2,0)) (bO x.b 1 (aJ (J,x.1,x.2.1,x.2.2,0)) (bO 23 x.b (aJ (J,x.1,x.2.1,x.2.2,0)) (aw (j5 (x.1,x.2.1.1,x.a,x.b,x.c)) λy4=>(aJ ((!y4),x.1,x.2.1,x.2.2,0))))))))) λx1=>(aK x1.1 (Z (((([]:Y d!),0,([]:θ),([]:Y ey)),([]:η),([]:η),([]:η)),af)) (jn (α:=H?) (jn (bp x1.b.2.1 1 (aJ (J,x1.2)) (aJ ((decide ((x1.b.2.1:Int)=2)),x1.2))) λx6=>(aK x6.1 (jP x6.b.c (-1) (cW (((([]:Y d!),0,([]:θ),([]:Y ey)),([]:η),([]:η),([]:η)),af)) (aJ x6.2)) (jn (aw (HB (x6.b.c,(a8 x6.2.1.h))) λy8=>(aK (!y8) (aJ (J,x6.2)) (bM rZ x6.2.1.h x6.b.c λz9=>(aJ ((!decide ((z9.1:Int)=x6.b.1)),x6.2))))) λx7=>(aK x7.1 (cW (((([]:Y d!),0,([]:θ),([]:Y ey)),([]:η),([]:η),([]:η)),af)) (aJ x7.2))))) λx5=>(jn (bp x5.a.2.1 3 (aJ (J,x5)) (aJ ((decide ((x5.a.2.1:Int)=4)),x5))) λx10=>(jn (bO 0 (a8 x10.b.e) (jP x10.b.2.1 5 (aK x10.1 (bM mS x10.2.1.1 x10.b.a λz12=>(aJ ((!(!decide ((z12.2.2.1:Int)=0))),x10.2))) (aJ (J,x10.2))) (aJ (af,x10.2))) (aJ (af,x10.2))) λx11=>(aK x11.1 (Z (((([]:Y d!),0,([]:θ),([]:Y ey)),([]:η),([]:η),([]:η)),af)) (jn (bO 0 (a8 x11.b.i) (jP x11.b.2.1 4 (aJ ((!decide ((x11.b.2.1:Int)=22)),x11.2)) (aJ (af,x11.2))) (aJ (af,x11.2))) λx13=>(aK x13.1 (Z (((([]:Y d!),0,([]:θ),([]:Y ey)),([]:η),([]:η),([]:η)),af)) (jn (bM aO x13.a.d x13.b.1 λz15=>(aw (pB (x13.b.e,z15)) λy16=>(aK (!y16) (aJ (J,x13.2)) (bM aO x13.a.d x13.b.1 λz17=>(aw (pB (x13.b.i,z17)) λy18=>(aK (!y18) (aJ (J,x13.2)) (aw (xf (x13.a,x13.b)) λy19=>(aJ ((!y19),x13.2))))))))) λq=>(aK q.1 (Z (((([]:Y d!),0,([]:θ),([]:Y ey)),([]:η),([]:η),([]:η)),af)) (bT (bk (ah ([]:η)+ah q.a.2.1) 8) (bT (bk (ah ([]:η)+ah q.a.a) 8) (bT (bk (ah ([]:η)+ah q.a.d) 8) (jn (α:=Int×kX×rX×rW×Int×Int×n?) (bp q.b.2.1 18 (aJ (q.b.b,q.2.1,q.a,q.b,q.f,0,(([]:η)++q.a.2.1),(([]:η)++q.a.a),(([]:η)++q.a.d))) (aJ ((-1),q.2.1,q.a,q.b,q.f,0,(([]:η)++q.a.2.1),(([]:η)++q.a.a),(([]:η)++q.a.d)))) λA=>(aw (rJ (A.2.1,A.a.1,A.b.1,A.b.2.1,A.b.a,A.1)) λy21=>(jn (bp A.b.2.1 4 (ck (fO A.b.a (ah A.g)) (aJ (A.b,A.c,y21.1,(bW A.g A.b.a A.b.b),A.l))) (aJ (A.b,A.c,y21.1,A.i))) λI=>(jn (bp I.1.2.1 22 (ck (fO I.1.a (ah I.c)) (aJ (I.1,I.2.1,I.a,I.b,(bW I.c I.1.a I.1.b),I.h))) (aJ I)) λx23=>(nI aO x23.h x23.1.1 λz24=>(ck (fO x23.1.1 (ah x23.h)) (Z ((x23.a,x23.b,x23.c,(bW x23.h x23.1.1 (cH z24))),J)))))))))))))))))))))
def uo (x:(Y rW)×Int×d!):aj (Bool):=
 (iter (σ:=Int) (λx1=>(bO x1 (a8 x.d) (iter (σ:=Int×Bool×Int) (λx2=>(bO x2.2.2 x.2.1 (jn (bM iP x.1 x2.2.2 λz4=>(jP z4.1 x.a (aJ (x2.1,x2.2.1)) (jn (aK x2.2.1 (aJ J) (bM aO x.d x1 λz6=>(bp x2.1 z6 (bM iP x.1 x2.2.2 λI=>(bp I.2.1 3 (aJ J) (bM iP x.1 x2.2.2 λA=>(aJ (decide ((A.2.1:Int)=23)))))) (aJ af)))) λx5=>(aJ ((cH x2.1),x5))))) λq=>(cW (q.1,q.2,(cH x2.2.2)))) (aw (aK (!x2.2.1) (aJ af) (cW (cH x1))) λr=>Z (bR r)))) (0,af,0)) (aJ J))) 0)
abbrev z!:=kX×Y rW
def xg (x:z!):aj ν:=
 (bO 400 (a8 x.2) (Z (0,2)) (aw (jF x.1) λy1=>(aK (!y1) (Z (0,1)) (aw (uq x.1) λy2=>(iter (σ:=Int×(kX×Y rW)×Q?) (λq=>(bO q.1 (a8 q.2.1.2) (bM iP q.2.1.2 q.1 λA=>(aw (nY (q.2.1.1,q.2.2,A)) λI=>(jn (aK (!I.2) (aJ (J,q.2.1,q.2.2,I.1)) (aw (uo (q.2.1.2,q.1,A.1,A.e)) λy7=>(aK (!y7) (aJ (J,q.2.1,q.2.2,I.1)) (aw (uo (q.2.1.2,q.1,A.1,A.i)) λy8=>(aJ ((!y8),q.2.1,q.2.2,I.1)))))) λx6=>(aK x6.1 (aJ (q.1,12)) (cW ((cH q.1),x6.2.1,x6.d)))))) (aJ (0,0)))) (0,x,y2))))))
def KG {W V:Type} (i:Int) (t1:R->(η)->(Y η)->W) (t2:W->V) (t3:V->y_->Y y_) (x6:Int) (q:G3×mj×(ν)×Int×R4×rW×(ν)×(η)×(η)×R×(η)×Y η):aj I0:=
 (jn (jn (jP q.e.2.1 16 (aJ ((!decide ((q.e.2.1:Int)=2)),q.1,q.2.1,q.a,q.b,q.c,q.e,(x6,q.m,q.t,(cH q.g.2)),q.j,q.p8,(t1 q.k q.m q.t))) (aJ (af,q.1,q.2.1,q.a,q.b,q.c,q.e,(x6,q.m,q.t,(cH q.g.2)),q.j,q.p8,(t1 q.k q.m q.t)))) λA=>(aK A.1 (bM AC A.2.1.2 A.b.1 λz17=>(aw (o6 (z17,A.j)) λy18=>(aJ (A.a,A.b,A.c,A.e,A.g,y18.1,A.p8,A.k,(t2 A.s))))) (aJ (A.a,A.b,A.c,A.e,A.g,A.j,A.p8,A.k,(t2 A.s))))) λI=>(bp I.2.1.1 i (Z ((I.1,I.g,I.j,(t3 I.n I.e)),I.c,J)) U))
abbrev s?:=G3×BJ×g!
def SG (i:Int) (cp:e?->aj (Int×kc×(θ)×(Y ey)×(η)×(η)×R×(η)×Y η)) (pc ev:R->Int) (k:Int->(G3×mj×(ν)×Int×R4×rW×(ν)×(η)×(η)×R×(η)×Y η)->aj I0) (x:s?):aj I0:=
 (aw (pC (x.1,x.2.1,x.a)) λI=>(aK (!I.2) (Z (((([]:Y d!),0,([]:θ),([]:Y ey)),([]:η),([]:η),([]:Y y_)),(0,0,0,0,0,([]:η),([]:η)),af)) (aw (rJ (x.1.1,x.2.1.1,x.a,I.1.2.1,I.1.a,x.d)) λy2=>(aK (!y2.2.2) (Z (((([]:Y d!),0,([]:θ),([]:Y ey)),([]:η),([]:η),([]:Y y_)),(0,0,0,0,0,([]:η),([]:η)),af)) (aw (cp x.2.1) λy3=>(bp x.a i (bM AC x.1.2 i λz4=>(bM tV z4.2 (pc y3.g) λz5=>(jn (α:=Int×G3×mj×(ν)×Int×R4×rW×(ν)×mQ×(η)×(η)×R×(η)×Y η) (jn (α:=Bool×G3×mj×(ν)×Int×R4×rW×(ν)×mQ×(η)×(η)×R×(η)×Y η) (bp I.1.2.1 1 (aJ ((decide ((I.1.2.1:Int)=1)),x.1,y2.1,(i,x.d),0,(0,0,0,0,0),(I.1.1,I.1.2.1,I.1.a,y2.2.1,I.1.f),((pc y3.g),(ev y3.g)),z5,y3.f)) (bp I.1.2.1 16 (aJ ((decide ((I.1.2.1:Int)=16)),x.1,y2.1,(i,x.d),0,(0,0,0,0,0),(I.1.1,I.1.2.1,I.1.a,y2.2.1,I.1.f),((pc y3.g),(ev y3.g)),z5,y3.f)) (aJ ((decide ((I.1.2.1:Int)=2)),x.1,y2.1,(i,x.d),0,(0,0,0,0,0),(I.1.1,I.1.2.1,I.1.a,y2.2.1,I.1.f),((pc y3.g),(ev y3.g)),z5,y3.f)))) λq=>(aK q.1 (aJ (q.j.1,q.2)) (bp I.1.2.1 3 (nI aO q.k q.g.a λz8=>(aJ ((aU .i64 ((pc y3.g)+1)),q.2.1,q.a,q.b,q.c,q.e,(q.g.1,q.g.2.1,q.g.a,z8,q.g.f),q.l))) (bp I.1.2.1 23 (nI aO q.m q.g.a λz9=>(aJ ((aU .i64 ((pc y3.g)+1)),q.2.1,q.a,q.b,q.c,q.e,(q.g.1,q.g.2.1,q.g.a,z9,q.g.f),q.l))) (bp I.1.2.1 4 (nI aO q.p q.p8.a λz10=>(ck (fO q.g.a (ah q.k)) (aJ ((aU .i64 ((pc y3.g)+1)),q.2.1,q.a,q.b,q.c,q.e,(q.g.1,q.g.2.1,q.g.a,z10,q.g.f),q.j,q.p8,(bW q.k q.g.a z10),q.s)))) (bp I.1.2.1 22 (nI aO q.p q.p8.a λz11=>(ck (fO q.g.a (ah q.m)) (aJ ((aU .i64 ((pc y3.g)+1)),q.2.1,q.a,q.b,q.c,q.e,(q.g.1,q.g.2.1,q.g.a,z11,q.g.f),q.j,q.p8,q.k,(bW q.m q.g.a z11),q.t)))) (bp I.1.2.1 5 (nI aO q.p q.p8.2.1 λz12=>(bp z12 0 (aJ (q.p8.a,q.2.1,q.a,q.b,q.c,q.e,(q.g.1,q.g.2.1,q.g.a,0,q.g.f),q.l)) (aJ ((aU .i64 ((pc y3.g)+1)),q.2.1,q.a,q.b,q.c,q.e,(q.g.1,q.g.2.1,q.g.a,1,q.g.f),q.l)))) (aJ ((aU .i64 ((pc y3.g)+1)),q.2))))))))) λx6=>(jn (α:=G3×mj×(ν)×Int×R4×rW×(ν)×(η)×(η)×R×(η)×Y η) (jn (bp x6.g.2.1 3 (aJ (J,x6.2)) (aJ ((decide ((x6.g.2.1:Int)=23)),x6.2))) λA=>(aK A.1 (ck (fO A.p8.2.1 (ah A.p)) (ck (fO A.p8.2.1 (ah A.D)) (aJ (A.2.1,A.a,A.b,A.c,A.e,A.g,A.j,A.k,A.m,A.q,(bW A.p A.p8.2.1 A.g.b),(bW A.D A.p8.2.1 ([A.j.2])))))) (aJ (A.2.1,A.a,A.b,A.c,A.e,A.g,A.j,A.o)))) λx13=>(k x6.1 x13))))) U))))))
def vh (x:e?):aj (Int×kc×(θ)×(Y ey)×(η)×(η)×(ν)×m?):=
 (aw (jQ x.1) λq=>(bT (bk (ah ([]:η)+ah x.2.1) 8) (bT (bk (ah ([]:η)+ah x.a) 8) (bO 0 (a8 x.d) (bM gh x.d 0 λI=>(aw (cB I) λy3=>(bO 1 (a8 x.d) (bM gh x.d 1 λA=>(aw (cB A) λy5=>U)) (Z (q.1,q.2.1,q.a,q.d,(([]:η)++x.2.1),(([]:η)++x.a),y3))))) U))))
def iJ (x:s?):aj I0:=
 SG 0 vh (λz=>z.1) (λz=>z.2) (KG 0 (λz R T=>(z.1,R,T,z.2)) (λw=>((w.1,w.2.1,w.2.2.1,w.2.2.2))) (λv t=>[t])) x
def vg (x:e?):aj (Int×kc×(θ)×(Y ey)×(η)×(η)×Ya29×m?):=
 (aw (jQ x.1) λA=>(bT (bk (ah ([]:η)+ah x.2.1) 8) (bT (bk (ah ([]:η)+ah x.a) 8) (bO 0 (a8 x.d) (bM gh x.d 0 λz2=>(aw (cB z2) λI=>(bO 1 (a8 x.d) (bM gh x.d 1 λz4=>(aw (cB z4) λq=>(bO 2 (a8 x.d) (bM gh x.d 2 λz6=>(aw (cB z6) λy7=>U)) (Z (A.1,A.2.1,A.a,A.d,(([]:η)++x.2.1),(([]:η)++x.a),(I.1.1,I.1.2,q.1.1,q.2.1,q.2.2,q.1.2),I.2))))) U))) U))))
def jE (x:s?):aj I0:=
 SG 0 vg (λz=>z.1) (λz=>z.2.1) (KG 0 (λz R T=>(z.1,R,T,z.2.1,z.2.2)) (λw=>((w.1,w.2.1,w.2.2.1,w.2.2.2.1),w.2.2.2.2)) (λv t=>[t,v.2])) x
def ve (x:e?):aj (Int×kc×(θ)×(Y ey)×(η)×(η)×(y_×Int×Int)×m?):=
 (aw (jQ x.1) λA=>(bT (bk (ah ([]:η)+ah x.2.1) 8) (bT (bk (ah ([]:η)+ah x.a) 8) (bO 0 (a8 x.d) (bM gh x.d 0 λz2=>(aw (cB z2) λq=>(bO 1 (a8 x.d) (bM gh x.d 1 λz4=>(aw (cB z4) λI=>(bO 2 (a8 x.d) (bM gh x.d 2 λz6=>(aw (cB z6) λy7=>U)) (Z (A.1,A.2.1,A.a,A.d,(([]:η)++x.2.1),(([]:η)++x.a),((q.1.1,q.2.1,q.2.2,q.1.2),I.1),I.2))))) U))) U))))
def iI (x:s?):aj I0:=
 SG 1 ve (λz=>z.2.1) (λz=>z.2.2) (KG 1 (λz R T=>(z.1,z.2.1,R,T,z.2.2)) (λw=>(w.1,(w.2.1,w.2.2.1,w.2.2.2.1,w.2.2.2.2))) (λv t=>[v.1,t])) x
def vb (x:e?):aj (Int×kc×(θ)×(Y ey)×(η)×(η)×Ya27×m?):=
 (aw (jQ x.1) λI=>(bT (bk (ah ([]:η)+ah x.2.1) 8) (bT (bk (ah ([]:η)+ah x.a) 8) (bO 0 (a8 x.d) (bM gh x.d 0 λz2=>(aw (cB z2) λy3=>(bO 1 (a8 x.d) (bM gh x.d 1 λz4=>(aw (cB z4) λA=>(bO 2 (a8 x.d) (bM gh x.d 2 λz6=>(aw (cB z6) λq=>(bO 3 (a8 x.d) (bM gh x.d 3 λz8=>(aw (cB z8) λy9=>U)) (Z (I.1,I.2.1,I.a,I.d,(([]:η)++x.2.1),(([]:η)++x.a),(y3.1.1,y3.1.2,(A.1.1,A.2.1,A.2.2,A.1.2),q.1.1,q.2.1,q.2.2,q.1.2),y3.2))))) U))) U))) U))))
def mb (x:s?):aj I0:=
 SG 0 vb (λz=>z.1) (λz=>z.2.1) (KG 0 (λz R T=>(z.1,R,T,z.2.1,z.a,z.d)) (λw=>((w.1,w.2.1,w.2.2.1,w.2.2.2.1),w.2.2.2.2.1,w.2.2.2.2.2)) (λv t=>[t,v.2.1,v.2.2])) x
def u_ (x:e?):aj (Int×kc×(θ)×(Y ey)×(η)×(η)×Ya28×m?):=
 (aw (jQ x.1) λI=>(bT (bk (ah ([]:η)+ah x.2.1) 8) (bT (bk (ah ([]:η)+ah x.a) 8) (bO 0 (a8 x.d) (bM gh x.d 0 λz2=>(aw (cB z2) λA=>(bO 1 (a8 x.d) (bM gh x.d 1 λz4=>(aw (cB z4) λy5=>(bO 2 (a8 x.d) (bM gh x.d 2 λz6=>(aw (cB z6) λq=>(bO 3 (a8 x.d) (bM gh x.d 3 λz8=>(aw (cB z8) λy9=>U)) (Z (I.1,I.2.1,I.a,I.d,(([]:η)++x.2.1),(([]:η)++x.a),((A.1.1,A.2.1,A.2.2,A.1.2),y5.1.1,y5.1.2,q.1.1,q.2.1,q.2.2,q.1.2),y5.2))))) U))) U))) U))))
def kS (x:s?):aj I0:=
 SG 1 u_ (λz=>z.2.1) (λz=>z.a) (KG 1 (λz R T=>(z.1,z.2.1,R,T,z.a,z.d)) (λw=>(w.1,(w.2.1,w.2.2.1,w.2.2.2.1,w.2.2.2.2.1),w.2.2.2.2.2)) (λv t=>[v.1,t,v.2.2])) x
def u9 (x:e?):aj (Int×kc×(θ)×(Y ey)×(η)×(η)×(y_×y_×Int×Int)×m?):=
 (aw (jQ x.1) λI=>(bT (bk (ah ([]:η)+ah x.2.1) 8) (bT (bk (ah ([]:η)+ah x.a) 8) (bO 0 (a8 x.d) (bM gh x.d 0 λz2=>(aw (cB z2) λA=>(bO 1 (a8 x.d) (bM gh x.d 1 λz4=>(aw (cB z4) λq=>(bO 2 (a8 x.d) (bM gh x.d 2 λz6=>(aw (cB z6) λy7=>(bO 3 (a8 x.d) (bM gh x.d 3 λz8=>(aw (cB z8) λy9=>U)) (Z (I.1,I.2.1,I.a,I.d,(([]:η)++x.2.1),(([]:η)++x.a),((A.1.1,A.2.1,A.2.2,A.1.2),(q.1.1,q.2.1,q.2.2,q.1.2),y7.1),y7.2))))) U))) U))) U))))
def kg (x:s?):aj I0:=
 SG 2 u9 (λz=>z.a) (λz=>z.d) (KG 2 (λz R T=>(z.1,z.2.1,z.a,R,T,z.d)) (λw=>(w.1,w.2.1,(w.2.2.1,w.2.2.2.1,w.2.2.2.2.1,w.2.2.2.2.2))) (λv t=>[v.1,v.2.1,t])) x
def u7 (x:e?):aj (Int×kc×(θ)×(Y ey)×(η)×(η)×Ya23×m?):=
 (aw (jQ x.1) λy1=>(bT (bk (ah ([]:η)+ah x.2.1) 8) (bT (bk (ah ([]:η)+ah x.a) 8) (bO 0 (a8 x.d) (bM gh x.d 0 λz2=>(aw (cB z2) λy3=>(bO 1 (a8 x.d) (bM gh x.d 1 λz4=>(aw (cB z4) λI=>(bO 2 (a8 x.d) (bM gh x.d 2 λz6=>(aw (cB z6) λA=>(bO 3 (a8 x.d) (bM gh x.d 3 λz8=>(aw (cB z8) λq=>(bO 4 (a8 x.d) (bM gh x.d 4 λz10=>(aw (cB z10) λy11=>U)) (Z (y1.1,y1.2.1,y1.a,y1.d,(([]:η)++x.2.1),(([]:η)++x.a),(y3.1.1,y3.1.2,(I.1.1,I.2.1,I.2.2,I.1.2),(A.1.1,A.2.1,A.2.2,A.1.2),q.1.1,q.2.1,q.2.2,q.1.2),y3.2))))) U))) U))) U))) U))))
def r_ (x:s?):aj I0:=
 SG 0 u7 (λz=>z.1) (λz=>z.2.1) (KG 0 (λz R T=>(z.1,R,T,z.2.1,z.a,z.b,z.f)) (λw=>((w.1,w.2.1,w.2.2.1,w.2.2.2.1),w.2.2.2.2.1,w.2.2.2.2.2.1,w.2.2.2.2.2.2)) (λv t=>[t,v.2.1,v.2.2.1,v.2.2.2])) x
def u6 (x:e?):aj (Int×kc×(θ)×(Y ey)×(η)×(η)×Ya24×m?):=
 (aw (jQ x.1) λy1=>(bT (bk (ah ([]:η)+ah x.2.1) 8) (bT (bk (ah ([]:η)+ah x.a) 8) (bO 0 (a8 x.d) (bM gh x.d 0 λz2=>(aw (cB z2) λI=>(bO 1 (a8 x.d) (bM gh x.d 1 λz4=>(aw (cB z4) λy5=>(bO 2 (a8 x.d) (bM gh x.d 2 λz6=>(aw (cB z6) λA=>(bO 3 (a8 x.d) (bM gh x.d 3 λz8=>(aw (cB z8) λq=>(bO 4 (a8 x.d) (bM gh x.d 4 λz10=>(aw (cB z10) λy11=>U)) (Z (y1.1,y1.2.1,y1.a,y1.d,(([]:η)++x.2.1),(([]:η)++x.a),((I.1.1,I.2.1,I.2.2,I.1.2),y5.1.1,y5.1.2,(A.1.1,A.2.1,A.2.2,A.1.2),q.1.1,q.2.1,q.2.2,q.1.2),y5.2))))) U))) U))) U))) U))))
def r9 (x:s?):aj I0:=
 SG 1 u6 (λz=>z.2.1) (λz=>z.a) (KG 1 (λz R T=>(z.1,z.2.1,R,T,z.a,z.b,z.f)) (λw=>(w.1,(w.2.1,w.2.2.1,w.2.2.2.1,w.2.2.2.2.1),w.2.2.2.2.2.1,w.2.2.2.2.2.2)) (λv t=>[v.1,t,v.2.2.1,v.2.2.2])) x
def u5 (x:e?):aj (Int×kc×(θ)×(Y ey)×(η)×(η)×Ya25×m?):=
 (aw (jQ x.1) λy1=>(bT (bk (ah ([]:η)+ah x.2.1) 8) (bT (bk (ah ([]:η)+ah x.a) 8) (bO 0 (a8 x.d) (bM gh x.d 0 λz2=>(aw (cB z2) λI=>(bO 1 (a8 x.d) (bM gh x.d 1 λz4=>(aw (cB z4) λA=>(bO 2 (a8 x.d) (bM gh x.d 2 λz6=>(aw (cB z6) λy7=>(bO 3 (a8 x.d) (bM gh x.d 3 λz8=>(aw (cB z8) λq=>(bO 4 (a8 x.d) (bM gh x.d 4 λz10=>(aw (cB z10) λy11=>U)) (Z (y1.1,y1.2.1,y1.a,y1.d,(([]:η)++x.2.1),(([]:η)++x.a),((I.1.1,I.2.1,I.2.2,I.1.2),(A.1.1,A.2.1,A.2.2,A.1.2),y7.1.1,y7.1.2,q.1.1,q.2.1,q.2.2,q.1.2),y7.2))))) U))) U))) U))) U))))
def oZ (x:s?):aj I0:=
 SG 2 u5 (λz=>z.a) (λz=>z.b) (KG 2 (λz R T=>(z.1,z.2.1,z.a,R,T,z.b,z.f)) (λw=>(w.1,w.2.1,(w.2.2.1,w.2.2.2.1,w.2.2.2.2.1,w.2.2.2.2.2.1),w.2.2.2.2.2.2)) (λv t=>[v.1,v.2.1,t,v.2.2.2])) x
def u4 (x:e?):aj (Int×kc×(θ)×(Y ey)×(η)×(η)×Ya42×m?):=
 (aw (jQ x.1) λy1=>(bT (bk (ah ([]:η)+ah x.2.1) 8) (bT (bk (ah ([]:η)+ah x.a) 8) (bO 0 (a8 x.d) (bM gh x.d 0 λz2=>(aw (cB z2) λI=>(bO 1 (a8 x.d) (bM gh x.d 1 λz4=>(aw (cB z4) λA=>(bO 2 (a8 x.d) (bM gh x.d 2 λz6=>(aw (cB z6) λq=>(bO 3 (a8 x.d) (bM gh x.d 3 λz8=>(aw (cB z8) λy9=>(bO 4 (a8 x.d) (bM gh x.d 4 λz10=>(aw (cB z10) λy11=>U)) (Z (y1.1,y1.2.1,y1.a,y1.d,(([]:η)++x.2.1),(([]:η)++x.a),((I.1.1,I.2.1,I.2.2,I.1.2),(A.1.1,A.2.1,A.2.2,A.1.2),(q.1.1,q.2.1,q.2.2,q.1.2),y9.1),y9.2))))) U))) U))) U))) U))))
def mW (x:s?):aj I0:=
 SG 3 u4 (λz=>z.b) (λz=>z.f) (KG 3 (λz R T=>(z.1,z.2.1,z.a,z.b,R,T,z.f)) (λw=>(w.1,w.2.1,w.2.2.1,(w.2.2.2.1,w.2.2.2.2.1,w.2.2.2.2.2.1,w.2.2.2.2.2.2))) (λv t=>[v.1,v.2.1,v.2.2.1,t])) x
def Eu (x:s?):aj I0:=orE (r_ x) (orE (r9 x) (orE (oZ x) (orE (mW x) (orE (mb x) (orE (kS x) (orE (kg x) (orE (jE x) (orE (iI x) (iJ x)))))))))
def zR (x:G3×BJ×Y ν):aj ((Y rW)×e?):=
 (iter (σ:=Int×(Y rW)×G3×BJ×Int) (λx1=>(jn (bO x1.1 (a8 x.2.2) (aJ ((hY (a8 x1.2.1) 400),x1.2)) (aJ (af,x1.2))) λx2=>(aK x2.1 (jn (α:=(Y rW)×G3×BJ×Int) (bM gW x.2.2 x1.1 λA=>(aw (Eu (x2.a,x2.b,A)) λq=>(aK q.2.2 (bT (bk (ah x2.2.1+ah ([q.2.1])) 88) (aJ ((x2.2.1++([q.2.1])),x2.a,q.1,x2.f))) (aJ x2.2)))) λI=>(cW ((cH x1.1),I))) (aJ (x2.2.1,x2.b))))) (0,([]:Y rW),x.1,x.2.1,0))
def C9 (x:G3×Y ν):aj ((kX×Y rW)×e?):=
 (aw (lq x.1) λI=>(aK (!I) (Z (((([]:Y Zy),([]:Y v?),([]:Y lA),([]:Y ζ),([]:Y ζ),([]:Y π)),([]:Y rW)),(([]:Y d!),0,([]:θ),([]:Y ey)),([]:η),([]:η),([]:Y y_))) (aw (xh x.1) λA=>(aw (zR (x.1,A,x.2)) λq=>(Z ((x.1.1,q.1),q.2))))))
abbrev P?:=Int×x!
def c6 (x:P?):aj P?:=
 (jn (jO (a8 x.2.1) x.2.2 (aJ (J,x.2)) (aJ ((hY x.1 1),x.2))) λx1=>(aK x1.1 (Z (0,x1.2)) (lt (cH x1.2.2) λA=>(bM (.int .u8) x1.2.1 (aU .i64 (A-1)) λq=>(bT (!decide ((x.1:Int)=0)) (Z ((vE (aU .i64 q) x.1),x1.2.1,(cH x1.2.2))))))))
def ux (x:Int):aj (Xp):=
 (Z (fm (1,x,[],([]:Y Xp))))
def rQ (x:ζ):aj (Xp):=
 (Z (fm (2,0,x,([]:Y Xp))))
def pK (x:Int×Xp×Xp):aj (Xp):=
 (Z (fm (x.1,0,[],[fm ((Xp.op x.2.1),(Xp.n x.2.1),(Xp.name x.2.1),(Xp.l x.2.1)),fm ((Xp.op x.2.2),(Xp.n x.2.2),(Xp.name x.2.2),(Xp.l x.2.2))])))
def kQ (x:ζ×Xp):aj (Sx):=
 (Z (pL (1,0,x.1,[],([]:Y Xp),fm ((Xp.op x.2),(Xp.n x.2),(Xp.name x.2),(Xp.l x.2)),([]:Y Sx),([]:Y Sx))))
def vn (x:Unit):aj Az:=
 (Z ([(1,0,[120],0,0,[]),(1,0,[121],0,1,[]),(2,0,[118],0,0,[]),(1,0,[113],2,0,[]),(3,0,[109],0,0,[]),(3,0,[110],0,0,[]),(4,0,[114],0,0,[]),(5,0,[99],0,0,[109]),(6,0,[102],0,0,[])]))
def uK (x:η):aj (Y ν):=
 (iter (σ:=Int×Y ν) (λx1=>(bO x1.1 (a8 x) (bM (.int .u8) x x1.1 λA=>(bM (.int .u8) x x1.1 λq=>(bT (bk (ah x1.2+ah ([((vE (aU .i64 A) 4),(aU .i64 ((vE (aU .i64 (Int.tdiv (aU .i64 q) 4)) 5)-1)))])) 16) (cW ((cH x1.1),(x1.2++([((vE (aU .i64 A) 4),(aU .i64 ((vE (aU .i64 (Int.tdiv (aU .i64 q) 4)) 5)-1)))]))))))) (aJ x1.2))) (0,([]:Y ν)))
def pR (rmade_maker_expr:ak9->aj auf) (x:W?):aj auf:=
 (aw (c6 (10,x.a)) λy1=>(jn (α:=Bool×G4×sH×Zz×(Int×Int×ζ)×Y ζ) (bO y1.1 2 (aJ (J,x.2.1,y1.2,x.d,(0,0,[]),[[97],[98],[120],[121],[118],[120],[121]])) (bp x.1 0 (aJ ((cN 7 y1.1),x.2.1,y1.2,x.d,(0,0,[]),[[97],[98],[120],[121],[118],[120],[121]])) (aJ (af,x.2.1,y1.2,x.d,(0,0,[]),[[97],[98],[120],[121],[118],[120],[121]])))) λx2=>(aK x2.1 (aw (c6 (4,x2.a)) λy3=>(aw (ux y3.1) λy4=>(Z (fm ((Xp.op y4),(Xp.n y4),(Xp.name y4),(Xp.l y4)),x2.2.1,y3.2,x2.b)))) (bO y1.1 7 (aw (c6 ((a8 x2.h),x2.a)) λy5=>(nI (.str) x2.h y5.1 λz6=>(aw (rQ z6) λy7=>(Z (fm ((Xp.op y7),(Xp.n y7),(Xp.name y7),(Xp.l y7)),x2.2.1,y5.2,x2.b))))) (bp y1.1 7 (aw (rmade_maker_expr (0,x2.2.1,x2.a,x2.b)) λy8=>(bT (((x2.b.1==y8.b)&&J)&&aB (ah x2.b.2) (ah y8.f)&&J) (Z (fm (3,0,[113],[fm ((Xp.op y8.1),(Xp.n y8.1),(Xp.name y8.1),(Xp.l y8.1))]),y8.2)))) (aw (c6 ((aZ (ah ([6,7,8,11,13,17]))),x2.a)) λy9=>(nI aO ([6,7,8,11,13,17]) y9.1 λz10=>(aw (rmade_maker_expr ((aU .i64 (x.1-1)),x2.2.1,y9.2,x2.b)) λq=>(bT (((x2.b.1==q.b)&&J)&&aB (ah x2.b.2) (ah q.f)&&J) (aw (rmade_maker_expr ((aU .i64 (x.1-1)),q.2)) λI=>(bT (((q.b==I.b)&&J)&&aB (ah q.f) (ah I.f)&&J) (aw (pK (z10,q.1,I.1)) λA=>(Z (fm ((Xp.op A),(Xp.n A),(Xp.name A),(Xp.l A)),I.2))))))))))))))
def jV:Nat->ak9->aj auf
 |0,_=>U
 |n+1,x=>pR (jV n) x
def CD (n:Nat) (x:W?):jV (n+1) x=pR (jV n) x:=rfl
def gC (x:W?):aj auf:=jV ii x
def fY (x:ζ×h?):aj (Bool×h?):=
 (aw (kP (x.f,x.1)) λq=>(Z ((cN 0 q),x.2)))
def oE (rmade_maker_stmts:auh->aj ak8) (rmade_maker_stmt:ak9->aj apw) (rmade_maker_block:aug->aj apx) (x:ν×h?):aj ak8:=
 (iter (σ:=Int×G4×sH×(Y Sx)×Bool×Y ζ) (λx1=>(jn (bO x1.1 x.1.2 (bp x1.1 0 (aJ (J,x1.2)) (aJ ((hY 0 x1.2.1.2.1),x1.2))) (aJ (af,x1.2))) λx2=>(aK x2.1 (aw (rmade_maker_stmt (x.1.1,x2.2.1,x2.a,x2.f)) λq=>(bT (((x2.c==x2.c)&&J)&&aB (ah x2.h) (ah x2.h)&&J) (bT (bk (ah x2.b+ah ([fo q.1])) 176) (cW ((cH x1.1),q.2.1,q.a,(x2.b++([fo q.1])),q.d))))) (aJ (x2.2.1,x2.a,x2.f,x2.b))))) (0,x.2.1,x.a,([]:Y Sx),x.d))
abbrev l?:=Bool×G4×sH×ae5×Bool×Y ζ
def pQ (rmade_maker_stmts:auh->aj ak8) (rmade_maker_stmt:ak9->aj apw) (rmade_maker_block:aug->aj apx) (x:W?):aj apw:=
 (aw (c6 (18,x.a)) λy1=>(jn (α:=l?) (bO 0 x.1 (lt (aU .i64 (x.2.1.2.1-1)) λz3=>(bO 0 z3 (aJ ((!x.2.1.b),(x.2.1.1,(aU .i64 (x.2.1.2.1-1)),x.2.1.2.2),y1.2,(0,0,[],[],0,0,[]),x.d)) (aJ (af,(x.2.1.1,(aU .i64 (x.2.1.2.1-1)),x.2.1.2.2),y1.2,(0,0,[],[],0,0,[]),x.d)))) (aJ (af,(x.2.1.1,(aU .i64 (x.2.1.2.1-1)),x.2.1.2.2),y1.2,(0,0,[],[],0,0,[]),x.d))) λx2=>(bO y1.1 4 (nI (.str) ([[120],[121],[120],[118]]) y1.1 λz4=>(aw (gC (1,x2.2.1,x2.a,x2.f)) λy5=>(bT (((x2.c==y5.b)&&J)&&aB (ah x2.h) (ah y5.f)&&J) (aw (kQ (z4,y5.1)) λy6=>(Z (fo y6,y5.2)))))) (bp y1.1 4 (aw (c6 (2,x2.a)) λy7=>(nI (.str) ([[97],[98]]) y7.1 λz8=>(aw (gC (1,x2.2.1,y7.2,x2.f)) λy9=>(bT (((x2.c==y9.b)&&J)&&aB (ah x2.h) (ah y9.f)&&J) (aw (kQ (z8,y9.1)) λy10=>(Z (fo y10,y9.2))))))) (bp y1.1 5 (aw (gC (0,x2.2.1,x2.a,x2.f)) λy11=>(bT (((x2.c==y11.b)&&J)&&aB (ah x2.h) (ah y11.f)&&J) (aw (gC (1,y11.2)) λy12=>(bT (((y11.b==y12.b)&&J)&&aB (ah y11.f) (ah y12.f)&&J) (Z (pL (1,0,[113],[],[fm ((Xp.op y11.1),(Xp.n y11.1),(Xp.name y11.1),(Xp.l y11.1))],fm ((Xp.op y12.1),(Xp.n y12.1),(Xp.name y12.1),(Xp.l y12.1)),([]:Y Sx),([]:Y Sx)),y12.2)))))) (jn (bp y1.1 6 (aJ ((hY 0 x.1),x2.2)) (aJ (af,x2.2))) λx13=>(aK x13.1 (aw (gC (1,x13.2.1,x13.a,x13.f)) λy14=>(bT (((x13.c==y14.b)&&J)&&aB (ah x13.h) (ah y14.f)&&J) (aw (rmade_maker_stmts (((aU .i64 (x.1-1)),1),y14.2)) λy15=>(bT (((y14.b==y14.b)&&J)&&aB (ah y14.f) (ah y14.f)&&J) (jn (α:=G4×sH×ae5×(Int×Int×(ζ)×(ζ)×Int×Int×(ζ)×Y Xp)×Zz×(Y Sx)×Y Sx) (aw (c6 (2,y15.2.1)) λy17=>(bp y17.1 1 (aw (rmade_maker_stmts (((aU .i64 (x.1-1)),1),y15.1,y17.2,y15.a)) λy18=>(bT (((y15.a.1==y15.a.1)&&J)&&aB (ah y15.a.2) (ah y15.a.2)&&J) (aJ (y18.1,y18.2.1,x13.b,(2,0,[],[],(Xp.op y14.1),(Xp.n y14.1),(Xp.name y14.1),(Xp.l y14.1)),y18.a,y15.d,y18.d)))) (aJ (y15.1,y17.2,x13.b,(2,0,[],[],(Xp.op y14.1),(Xp.n y14.1),(Xp.name y14.1),(Xp.l y14.1)),y15.a,y15.d,([]:Y Sx))))) λx16=>(Z (pL (x16.b.1,x16.b.2.1,x16.b.a,x16.b.b,([]:Y Xp),fm x16.b.f,x16.h),x16.1,x16.2.1,x16.c))))))) (jn (bp y1.1 7 (aJ ((hY 0 x.1),x13.2)) (aJ (af,x13.2))) λq=>(aK q.1 (aw (rQ ([98])) λy20=>(aw (ux 2) λy21=>(aw (pK (13,y20,y21)) λy22=>(aw (rmade_maker_stmts (((aU .i64 (x.1-1)),1),(q.2.1.1,q.2.1.2.1,q.2.1.a,q.2.1.b,q.2.1.c,J),q.a,q.f)) λy23=>(bT (((q.c==q.c)&&J)&&aB (ah q.h) (ah q.h)&&J) (aw (rQ ([98])) λy24=>(aw (ux 1) λy25=>(aw (pK (6,y24,y25)) λy26=>(aw (kQ ([98],y26)) λy27=>(bT (bk (ah y23.d+ah ([fo y27])) 176) (Z (pL (3,0,[],[],([]:Y Xp),fm ((Xp.op y22),(Xp.n y22),(Xp.name y22),(Xp.l y22)),(y23.d++([fo y27])),([]:Y Sx)),(y23.1.1,y23.1.2.1,y23.1.a,y23.1.b,y23.1.c,q.2.1.h),y23.2.1,y23.a)))))))))))) (jn (α:=l?) (bp y1.1 8 (aK x2.1 (nI (.str) ([[109],[110]]) (aU .i64 (y1.1-8)) λz29=>(aw (fY (z29,q.2.1,q.a,q.f)) λy30=>(bT (((q.c==y30.b)&&J)&&aB (ah q.h) (ah y30.f)&&J) (aJ ((!y30.1),y30.2.1,y30.a,q.b,y30.d))))) (aJ (af,q.2))) (bp y1.1 9 (aK x2.1 (nI (.str) ([[109],[110]]) (aU .i64 (y1.1-8)) λz31=>(aw (fY (z31,q.2.1,q.a,q.f)) λy32=>(bT (((q.c==y32.b)&&J)&&aB (ah q.h) (ah y32.f)&&J) (aJ ((!y32.1),y32.2.1,y32.a,q.b,y32.d))))) (aJ (af,q.2))) (aJ (af,q.2)))) λA=>(aK A.1 (nI (.str) ([[109],[110]]) (aU .i64 (y1.1-8)) λz33=>(aw (rmade_maker_block ((z33,(aU .i64 (x.1-1))),A.2.1,A.a,A.f)) λy34=>(bT (((A.c==A.c)&&J)&&aB (ah A.h) (ah A.h)&&J) (Z (pL (4,0,z33,[],([]:Y Xp),fm (0,0,[],([]:Y Xp)),y34.1,([]:Y Sx)),y34.2))))) (jn (α:=l?) (bp y1.1 10 (aK x2.1 (aw (fY ([114],A.2.1,A.a,A.f)) λy36=>(bT (((A.c==y36.b)&&J)&&aB (ah A.h) (ah y36.f)&&J) (aJ ((!y36.1),y36.2.1,y36.a,A.b,y36.d)))) (aJ (af,A.2))) (bp y1.1 11 (aK x2.1 (aw (fY ([114],A.2.1,A.a,A.f)) λy37=>(bT (((A.c==y37.b)&&J)&&aB (ah A.h) (ah y37.f)&&J) (aJ ((!y37.1),y37.2.1,y37.a,A.b,y37.d)))) (aJ (af,A.2))) (aJ (af,A.2)))) λx35=>(aK x35.1 (aw (rmade_maker_block (([114],(aU .i64 (x.1-1))),x35.2.1,x35.a,x35.f)) λy38=>(bT (((x35.c==x35.c)&&J)&&aB (ah x35.h) (ah x35.h)&&J) (Z (pL ((aU .i64 ((aU .i64 (y1.1-10))+5)),0,[114],[],([]:Y Xp),fm (0,0,[],([]:Y Xp)),y38.1,([]:Y Sx)),y38.2)))) (jn (bp y1.1 12 (aJ (x2.1,x35.2)) (aJ (af,x35.2))) λx39=>(aK x39.1 (aw (c6 (2,x39.a)) λy40=>(aw (rmade_maker_stmts ((0,(aU .i64 (1+y40.1))),(x39.2.1.1,x39.2.1.2.1,x39.2.1.a,J,x39.2.1.f),y40.2,x39.f)) λy41=>(bT (((x39.c==x39.c)&&J)&&aB (ah x39.h) (ah x39.h)&&J) (Z (pL (7,0,[],[],([]:Y Xp),fm (0,0,[],([]:Y Xp)),y41.d,([]:Y Sx)),(y41.1.1,y41.1.2.1,y41.1.a,af,y41.1.f),y41.2.1,y41.a))))) (jn (bp y1.1 13 (aK x2.1 (aJ ((!x39.2.1.c),x39.2)) (aJ (af,x39.2))) (aJ (af,x39.2))) λI=>(aK I.1 (aw (rmade_maker_stmts (((aU .i64 (x.1-1)),2),(I.2.1.1,I.2.1.2.1,I.2.1.a,I.2.1.b,J,I.2.1.h),I.a,I.f)) λy43=>(bT (((I.c==I.c)&&J)&&aB (ah I.h) (ah I.h)&&J) (Z (pL (8,0,[],[],([]:Y Xp),fm (0,0,[],([]:Y Xp)),y43.d,([]:Y Sx)),(y43.1.1,y43.1.2.1,y43.1.a,y43.1.b,af,y43.1.h),y43.2.1,y43.a)))) (jn (α:=l?) (bp y1.1 14 (aK x2.1 (aK (!I.2.1.c) (aw (fY ([109],I.2.1,I.a,I.f)) λy45=>(bT (((I.c==y45.b)&&J)&&aB (ah I.h) (ah y45.f)&&J) (aJ ((!y45.1),y45.2.1,y45.a,I.b,y45.d)))) (aJ (af,I.2))) (aJ (af,I.2))) (aJ (af,I.2))) λx44=>(aK x44.1 (aw (rQ ([120])) λy46=>(aw (kQ ([97],y46)) λy47=>(Z (pL (4,0,[109],[],([]:Y Xp),fm (0,0,[],([]:Y Xp)),[pL (9,0,[99],[],([]:Y Xp),fm (0,0,[],([]:Y Xp)),([]:Y Sx),([]:Y Sx)),fo y47],([]:Y Sx)),x44.2.1,x44.a,x44.f)))) (jn (α:=l?) (bp y1.1 15 (aK x2.1 (aw (fY ([109],x44.2.1,x44.a,x44.f)) λy49=>(bT (((x44.c==y49.b)&&J)&&aB (ah x44.h) (ah y49.f)&&J) (aJ ((!y49.1),y49.2.1,y49.a,x44.b,y49.d)))) (aJ (af,x44.2))) (aJ (af,x44.2))) λx48=>(aK x48.1 (aw (c6 (2,x48.a)) λy50=>(Z (pL (4,0,[109],[],([]:Y Xp),fm (0,0,[],([]:Y Xp)),[pL ((aU .i64 (10+y50.1)),0,[99],[],([]:Y Xp),fm (0,0,[],([]:Y Xp)),([]:Y Sx),([]:Y Sx))],([]:Y Sx)),x48.2.1,y50.2,x48.f))) (jn (bp y1.1 16 (aK (!x48.2.1.b) (aK (!x48.2.1.h) (aJ ((!x48.2.1.a),x48.2)) (aJ (af,x48.2))) (aJ (af,x48.2))) (aJ (af,x48.2))) λx51=>(aK x51.1 (aw (gC (1,(x51.2.1.1,x51.2.1.2.1,J,x51.2.1.d),x51.a,x51.f)) λy52=>(bT (((x51.c==y52.b)&&J)&&aB (ah x51.h) (ah y52.f)&&J) (Z (pL (14,0,[102],[],([]:Y Xp),fm ((Xp.op y52.1),(Xp.n y52.1),(Xp.name y52.1),(Xp.l y52.1)),([]:Y Sx),([]:Y Sx)),y52.2)))) (jn (α:=l?) (bp y1.1 17 (aK (!x51.2.1.b) (aw (c6 (2,x51.a)) λy54=>(aJ ((decide ((y54.1:Int)=1)),x51.2.1,y54.2,x51.d))) (aJ (af,x51.2))) (aJ (af,x51.2))) λx53=>(aK x53.1 (Z (pL (15,0,[97],[102],([]:Y Xp),fm (0,0,[],([]:Y Xp)),([]:Y Sx),([]:Y Sx)),x53.2.1,x53.a,x53.f)) (aw (gC (1,x53.2.1,x53.a,x53.f)) λy55=>(bT (((x53.c==y55.b)&&J)&&aB (ah x53.h) (ah y55.f)&&J) (aw (kQ ([120],y55.1)) λy56=>(Z (fo y56,y55.2))))))))))))))))))))))))))))))
def oF (rmade_maker_stmts:auh->aj ak8) (rmade_maker_stmt:ak9->aj apw) (rmade_maker_block:aug->aj apx) (x:lA×h?):aj apx:=
 (bT (bk (ah x.f+ah ([x.1.1])) 16) (aw (c6 (2,x.a)) λA=>(aw (rmade_maker_stmts ((x.1.2,(aU .i64 (1+A.1))),x.2.1,A.2,x.b,(x.f++([x.1.1])))) λq=>(bT (((x.b==x.b)&&J)&&aB (ah (x.f++([x.1.1]))) (ah (x.f++([x.1.1])))&&J) (bT (cN 0 (aU .i64 ((a8 q.a.2)-1))&&hY (aU .i64 ((a8 q.a.2)-1)) (ah q.a.2)) (Z (q.d,q.1,q.2.1,af,(cG (aL (aU .i64 ((a8 q.a.2)-1))) q.a.2))))))))
mutual
def ec:Nat->auh->aj ak8
 |0,_=>U
 |n+1,x=>oE (ec n) (fU n) (fd n) x
def fU:Nat->ak9->aj apw
 |0,_=>U
 |n+1,x=>pQ (ec n) (fU n) (fd n) x
def fd:Nat->aug->aj apx
 |0,_=>U
 |n+1,x=>oF (ec n) (fU n) (fd n) x
end
def s7 (x:ν×h?):aj ak8:=ec ii x
abbrev o!:=G4×Az×dK×lA×sH×Zz×(Y Ay)×dK×Y Sx
def qO (x:η):aj y?:=
 (aw (vn ()) λy1=>(aw (c6 (3,x,0)) λy2=>(iter (σ:=Int×G4×Az×dK×sH×Zz×Y Ay) (λI=>(bO I.1 (aU .i64 (2+y2.1)) (nI (.str) I.b I.1 λz4=>(jn (α:=o!) (bp I.1 0 (iter (σ:=Int×o!) (λx6=>(bO x6.1 (aU .i64 (2+y2.1)) (nI (.str) x6.b x6.1 λz7=>(bT (bk (ah x6.o+ah ([pL (12,0,z7,[],([]:Y Xp),fm (0,0,[],([]:Y Xp)),([]:Y Sx),([]:Y Sx))])) 176) (cW ((cH x6.1),x6.2.1,x6.a,x6.b,x6.c,x6.e,x6.g,x6.j,x6.p8,(x6.o++([pL (12,0,z7,[],([]:Y Xp),fm (0,0,[],([]:Y Xp)),([]:Y Sx),([]:Y Sx))])))))) (aJ (bR x6.2)))) (1,(I.1,I.2.1.2),I.a,I.b,(z4,0),I.c,I.e,I.i,[[97],[98]],([]:Y Sx))) (aJ ((I.1,I.2.1.2),I.a,I.b,(z4,0),I.c,I.e,I.i,[[97],[98]],([]:Y Sx)))) λx5=>(aw (c6 (3,x5.c)) λy8=>(aw (s7 ((2,(aU .i64 (1+y8.1))),x5.1,y8.2,x5.e)) λy9=>(bT (((x5.e.1==x5.e.1)&&J)&&aB (ah x5.e.2) (ah x5.e.2)&&J) (bT (bk (ah x5.n+ah y9.d) 176) (jn (α:=o!) (jn (α:=Bool×o!) (bp I.1 0 (aw (c6 (3,y9.2.1)) λy12=>(aJ ((decide ((y12.1:Int)=2)),y9.1,x5.2.1,x5.a,x5.b,y12.2,y9.a,x5.g,x5.j,(x5.n++y9.d)))) (aJ (af,y9.1,x5.2.1,x5.a,x5.b,y9.2.1,y9.a,x5.g,x5.j,(x5.n++y9.d)))) λq=>(aK q.1 (nI (.str) q.b 1 λz13=>(bT (bk (ah q.o+ah ([pL (13,0,z13,[],([]:Y Xp),fm (0,0,[],([]:Y Xp)),([]:Y Sx),([]:Y Sx))])) 176) (aJ (q.2.1,q.a,q.b,q.c,q.e,q.g,q.j,q.p8,(q.o++([pL (13,0,z13,[],([]:Y Xp),fm (0,0,[],([]:Y Xp)),([]:Y Sx),([]:Y Sx))])))))) (aJ q.2))) λA=>(bT (bk (ah A.g+ah ([(A.b.1,A.b.2,A.l)])) 72) (cW ((cH I.1),A.1,A.2.1,A.a,A.c,A.e,(A.g++([(A.b.1,A.b.2,A.l)])))))))))))) (aw (aw (g_ (I.a,I.i)) λy14=>(jP y14.1 0 (aw (vn ()) λy15=>(aw (ux 1) λy16=>(aw (kQ ([120],y16)) λy17=>(Z (y15,[([109,97,105,110],0,[[97],[98]],[fo y17])]))))) (Z (I.a,I.i)))) λr=>Z (bR r)))) (0,(0,20,af,af,af,af),y1,[[109,97,105,110],[116,49],[116,50],[116,51]],y2.2,(J,([]:Y ζ)),([]:Y Ay)))))
def Bb (x:η):aj G3:=
 (aw (qO x) λA=>(aw (sZ A) λq=>(Z q.1)))
def yk (x:u!):aj z!:=
 (aw (Bb x.1) λI=>(aw (uK x.2) λA=>(aw (C9 (I,A)) λq=>(Z q.1))))
abbrev BO:Ty:=(.st (.pr aO .bool))
abbrev MF:Ty:=(.st (.pr AL (.pr (.sl BO) (.pr (.sl BO) (.pr (.sl aO) (.pr pu (.sl aO)))))))
abbrev CV:Ty:=(.st (.pr rB (.pr aO (.pr rY (.sl iP)))))
abbrev Kd2:Ty:=(.st (.pr aO (.pr aO (.pr aO (.pr aO (.pr aO (.sl aO)))))))
abbrev Kd4:Ty:=(.st (.pr CV (.sl AL)))
abbrev Kd5:Ty:=(.st (.pr ze (.pr ze (.pr ze (.pr ze (.pr ze (.pr ze (.pr (.sl aO) (.pr ze (.sl aO))))))))))
abbrev Z0:Ty:=(.st (.pr MF (.sl gW)))
abbrev Kd7:Ty:=(.st (.pr .bool .bool))
abbrev Kd8:Ty:=(.int .u64)
abbrev GG:=(Y i?)
abbrev h!:=mj×GG×GG×(η)×(θ)×η
abbrev G2:=h!
abbrev F!:=kX×Int×rX×Y rW
abbrev ud:=F!
abbrev x?:=(Y η)×(Y η)×(Y η)×(Y η)×(Y η)×(Y η)×(η)×(Y η)×η
abbrev Yd2:=x?
abbrev d?:=(Y η)×(Y η)×(Y η)×(Y η)×(Y η)×(Y η)×(Y η)×(η)×η
abbrev Yd4:=(η×d?)
abbrev Yd5:=(Int×D!)
abbrev Wn:=(Y ν)
abbrev Yd7:=(G2×Y ν)
abbrev k!:=Int×Int×Int×Int×d!
abbrev Yd8:=k!
abbrev Yd9:=(ν×b?)
abbrev v!:=pW×mU×(Y lA)×dK×dK×(Y π)×Int×kc×Int×(θ)×(Y ey)×(η)×(η)×(η)×Y rW
abbrev aDk:=v!
abbrev azm:=(kX×b?)
abbrev aue:=(Int×g?)
abbrev aDj:=(kc×Int×(θ)×(Y ey)×η)
def Sp {α:Type} [DecidableEq α] (a b:α) (r:aj R):aj R:=if a=b then r else U
def WP {α:Type} [DecidableEq α] (a b:α) (r:aj R):Sp a b r=same a b r:=by unfold Sp same;by_cases h:a=b<;>simp[h]
def WO {α:Type} [DecidableEq α] {a b:α} (h:a=b) (r:aj R):Sp a b r=r:=by unfold Sp;rw[aD h]
def kY (x:p?):aj (Int):=
 (jn (bO x.2 0 (aJ J) (aJ (cN (a8 x.1) x.2))) λx1=>(aK x1 (Z 0) (vI x.2 x.1 (Z (aE aO x.1 x.2)))))
def yt (it:GM) (x:u!):aj η:=
 (bT (cN 0 (mJ (a8 x.1) (a8 x.2))&&cN (mJ (a8 x.1) (a8 x.2)) (mJ (a8 x.1) (a8 x.2))&&bk (aL (mJ (a8 x.1) (a8 x.2))) 8) (it d! _ (λx1=>(bO x1.1 (aZ (ah (aA (aL (mJ (a8 x.1) (a8 x.2))) (0:Int)))) (aw (kY (x.1,x1.1)) λA=>(aw (kY (x.2,x1.1)) λq=>(ck (fO x1.1 (ah x1.2)) (cW ((cH x1.1),(bW x1.2 x1.1 (mJ A q))))))) (aJ x1.2))) (0,(aA (aL (mJ (a8 x.1) (a8 x.2))) (0:Int)))))
def C7 (x:u!):aj η:=yt @iter x
def m6 (x:u!):aj η:=yt @jG x
def UR (x:η):aj η:=
 (aK (aB (ah x) 0) (IR (Z ([]:η)) (bT (bk (ah ([]:η)+ah x) 8) (Z (([]:η)++x)))) (bT (bk (ah ([]:η)+ah x) 8) (Z (([]:η)++x))))
def Bd (x:η):aj η:=chk (bk (ah x) 8) λ_=>Z x
abbrev V?:=Int×Y η
def Br (it:GM) (x:Y η):aj (Y η):=
 (bT (cN 0 (a8 x)&&cN (a8 x) (a8 x)&&bk (aL (a8 x)) 24) (it V? _ (λx1=>(bO x1.1 (a8 x) (vI x1.1 x (aw (Bd (aE ((.sl aO)) x x1.1)) λq=>(ck (fO x1.1 (ah x1.2)) (cW ((cH x1.1),(bW x1.2 x1.1 q)))))) (aJ x1.2))) (0,(aA (aL (a8 x)) ([]:η)))))
def F9 (x:Y η):aj (Y η):=Br @iter x
def jS (x:Y η):aj (Y η):=Br @jG x
def NZ (x:η):aj η:=
 (aK (aB (ah x) 0) (IR (Z ([]:η)) (bT (bk (ah ([]:η)+ah x) 8) (Z (([]:η)++x)))) (bT (bk (ah ([]:η)+ah x) 8) (Z (([]:η)++x))))
def ny (x:η):aj η:=chk (bk (ah x) 8) λ_=>Z x
abbrev f?:=(Y η)×(Y η)×(Y η)×(Y η)×(Y η)×(Y η)×(Y η)×η
def xp (x:x?):aj (η×f?):=
 (aw (jS x.1) λy1=>(aw (jS x.2.1) λy2=>(aw (jS x.a) λy3=>(aw (jS x.b) λy4=>(aw (jS x.c) λy5=>(aw (jS x.e) λy6=>(aw (ny x.g) λI=>(aw (jS x.j) λA=>(aw (ny x.n) λq=>(Z (I,y1,y2,y3,y4,y5,y6,A,q)))))))))))
def wR (x:V?):aj (η×Y η):=
 (jn (bO x.1 0 (aJ (J,x.2)) (aJ ((cN (a8 x.2) x.1),x.2))) λx1=>(aK x1.1 (Z (([]:η),x1.2)) (ck (fO x.1 (ah x1.2)) (Z ((aE ((.sl aO)) x1.2 x.1),x1.2)))))
def xr (x:rW×(η)×kX×f?):aj ((Y η)×rW×(η)×kX×f?):=
 (bp x.1.2.1 1 (ck (fO x.1.1 (ah x.c)) (Z ([(aE ((.sl aO)) x.c x.1.1)],(x.1.1,x.1.2.1,x.1.a,x.1.b,x.1.c,x.1.e,x.1.i),x.2.1,(x.a.1,x.a.2.1,x.a.a,x.a.b,x.a.c,x.a.h),x.b,x.c,x.e,x.g,x.j,x.p8,x.k,x.s))) (bp x.1.2.1 21 (ck (fO x.1.a (ah x.b)) (Z ([(aE ((.sl aO)) x.b x.1.a)],(x.1.1,x.1.2.1,x.1.a,x.1.b,x.1.c,x.1.e,x.1.i),x.2.1,(x.a.1,x.a.2.1,x.a.a,x.a.b,x.a.c,x.a.h),x.b,x.c,x.e,x.g,x.j,x.p8,x.k,x.s))) (jn (bp x.1.2.1 6 (aJ ((decide ((x.1.2.1:Int)=6)),(x.1.1,x.1.2.1,x.1.a,x.1.b,x.1.c,x.1.e,x.1.i),x.2.1,(x.a.1,x.a.2.1,x.a.a,x.a.b,x.a.c,x.a.h),x.b,x.c,x.e,x.g,x.j,x.p8,x.k,x.s)) (aJ ((decide ((x.1.2.1:Int)=10)),(x.1.1,x.1.2.1,x.1.a,x.1.b,x.1.c,x.1.e,x.1.i),x.2.1,(x.a.1,x.a.2.1,x.a.a,x.a.b,x.a.c,x.a.h),x.b,x.c,x.e,x.g,x.j,x.p8,x.k,x.s))) λx1=>(aK x1.1 (ck (fO x1.2.1.a (ah x1.g)) (ck (fO x1.2.1.a (ah x1.j)) (Z ([(aE ((.sl aO)) x1.g x1.2.1.a),(aE ((.sl aO)) x1.j x1.2.1.a)],(x1.2.1.1,x1.2.1.2.1,x1.2.1.a,x1.2.1.b,x1.2.1.c,x1.2.1.e,x1.2.1.i),x1.a,(x1.b.1,x1.b.2.1,x1.b.a,x1.b.b,x1.b.c,x1.b.h),x1.c,x1.e,x1.g,x1.j,x1.p8,x1.k,x1.m,x1.t)))) (bp x.1.2.1 8 (ck (fO x1.2.1.a (ah x1.g)) (Z ([(aE ((.sl aO)) x1.g x1.2.1.a)],(x1.2.1.1,x1.2.1.2.1,x1.2.1.a,x1.2.1.b,x1.2.1.c,x1.2.1.e,x1.2.1.i),x1.a,(x1.b.1,x1.b.2.1,x1.b.a,x1.b.b,x1.b.c,x1.b.h),x1.c,x1.e,x1.g,x1.j,x1.p8,x1.k,x1.m,x1.t))) (bp x.1.2.1 17 (vI x1.2.1.a x1.b.a (aw (wR ((aE itK x1.b.a x1.2.1.a).2,x1.g)) λA=>(bT (aB (ah x1.g) (ah A.2)&&J) (aw (wR ((aE itK x1.b.a x1.2.1.a).2,x1.j)) λq=>(bT (aB (ah x1.j) (ah q.2)&&J) (ck (fO x1.2.1.1 (ah x1.m)) (Z ([A.1,q.1,(aE ((.sl aO)) x1.m x1.2.1.1)],(x1.2.1.1,x1.2.1.2.1,x1.2.1.a,x1.2.1.b,x1.2.1.c,x1.2.1.e,x1.2.1.i),x1.a,(x1.b.1,x1.b.2.1,x1.b.a,x1.b.b,x1.b.c,x1.b.h),x1.c,x1.e,A.2,q.2,x1.p8,x1.k,x1.m,x1.t)))))))) (bp x.1.2.1 3 (ck (fO x1.2.1.a (ah x1.p8)) (Z ([(aE ((.sl aO)) x1.p8 x1.2.1.a)],(x1.2.1.1,x1.2.1.2.1,x1.2.1.a,x1.2.1.b,x1.2.1.c,x1.2.1.e,x1.2.1.i),x1.a,(x1.b.1,x1.b.2.1,x1.b.a,x1.b.b,x1.b.c,x1.b.h),x1.c,x1.e,x1.g,x1.j,x1.p8,x1.k,x1.m,x1.t))) (bp x.1.2.1 23 (ck (fO x1.2.1.a (ah x1.k)) (Z ([(aE ((.sl aO)) x1.k x1.2.1.a)],(x1.2.1.1,x1.2.1.2.1,x1.2.1.a,x1.2.1.b,x1.2.1.c,x1.2.1.e,x1.2.1.i),x1.a,(x1.b.1,x1.b.2.1,x1.b.a,x1.b.b,x1.b.c,x1.b.h),x1.c,x1.e,x1.g,x1.j,x1.p8,x1.k,x1.m,x1.t))) (bp x.1.2.1 12 (Z ([x1.a],(x1.2.1.1,x1.2.1.2.1,x1.2.1.a,x1.2.1.b,x1.2.1.c,x1.2.1.e,x1.2.1.i),x1.a,(x1.b.1,x1.b.2.1,x1.b.a,x1.b.b,x1.b.c,x1.b.h),x1.c,x1.e,x1.g,x1.j,x1.p8,x1.k,x1.m,x1.t)) (Z (([]:Y η),(x1.2.1.1,x1.2.1.2.1,x1.2.1.a,x1.2.1.b,x1.2.1.c,x1.2.1.e,x1.2.1.i),x1.a,(x1.b.1,x1.b.2.1,x1.b.a,x1.b.b,x1.b.c,x1.b.h),x1.c,x1.e,x1.g,x1.j,x1.p8,x1.k,x1.m,x1.t)))))))))))
def EB (it:GM) (x:b!):aj Yd2:=
 (ck (cN 0 (a8 x.c)&&cN (a8 x.c) (a8 x.c)&&bk (aL (a8 x.c)) 24) (ck (cN 0 (a8 x.2.1)&&cN (a8 x.2.1) (a8 x.2.1)&&bk (aL (a8 x.2.1)) 24) (bT (cN 0 (a8 x.1)&&cN (a8 x.1) (a8 x.1)&&bk (aL (a8 x.1)) 24) (bT (cN 0 (a8 x.b)&&cN (a8 x.b) (a8 x.b)&&bk (aL (a8 x.b)) 24) (bT (cN 0 (a8 x.c)&&cN (a8 x.c) (a8 x.c)&&bk (aL (a8 x.c)) 24) (bT (cN 0 (a8 x.c)&&cN (a8 x.c) (a8 x.c)&&bk (aL (a8 x.c)) 8) (it (Int×f?) _ (λx1=>(bO x1.1 (aZ (ah (aA (aL (a8 x.c)) (0:Int)))) (ck (fO x1.1 (ah x1.n)) (cW ((cH x1.1),x1.2.1,x1.a,x1.b,x1.c,x1.e,x1.g,x1.j,(bW x1.n x1.1 (-1))))) (aJ (x1.2.1,x1.a,x1.b,x1.c,x1.e,x1.g,([]:η),x1.j,x1.n)))) (0,(aA (aL (a8 x.c)) ([]:η)),(aA (aL (a8 x.c)) ([]:η)),(aA (aL (a8 x.2.1)) ([]:η)),(aA (aL (a8 x.2.1)) ([]:η)),(aA (aL (a8 x.1)) ([]:η)),(aA (aL (a8 x.b)) ([]:η)),(aA (aL (a8 x.c)) ([]:η)),(aA (aL (a8 x.c)) (0:Int))))))))))
def Jx (x:b!):aj Yd2:=EB @iter x
def sh (x:b!):aj Yd2:=EB @jG x
def vq (x:p?):aj η:=
 (jn (jO 0 x.2 (aJ (hY x.2 4)) (aJ af)) λx1=>(jn (aK x1 (aJ (mJ (a8 x.1) (cH x.2))) (aJ (a8 x.1))) λx2=>(bT (cN 0 x2&&cN x2 x2&&bk (aL x2) 8) (jn (jn (aK x1 (ck (fO x.2 (ah (ZZ (aA (aL x2) (0:Int)) x.1))) (aJ ((hY (aE aO (ZZ (aA (aL x2) (0:Int)) x.1) x.2) 9223372036854775807),(ZZ (aA (aL x2) (0:Int)) x.1)))) (aJ (af,(ZZ (aA (aL x2) (0:Int)) x.1)))) λq=>(aK q.1 (ck (fO x.2 (ah q.2)) (ck (fO x.2 (ah q.2)) (aJ (bW q.2 x.2 (aU .i64 ((aE aO q.2 x.2)+1)))))) (aJ q.2))) λA=>(Z A)))))
def zZ (x:η):aj u!:=
 (bT (bk (ah ([]:η)+ah x) 8) (Z ((([]:η)++x),x)))
def yl (x:η):aj η:=aw (zZ x) λy=>Sp y.2 x (Z y.1)
def M2 (it:GM) (x:u!):aj u!:=
 (bT (cN 0 (mJ (a8 x.1) (a8 x.2))&&cN (mJ (a8 x.1) (a8 x.2)) (mJ (a8 x.1) (a8 x.2))&&bk (aL (mJ (a8 x.1) (a8 x.2))) 8) (it (Int×S!) _ (λx1=>(bO x1.1 (aZ (ah (aA (aL (mJ (a8 x.1) (a8 x.2))) (0:Int)))) (aw (kY (x.1,x1.1)) λA=>(aw (kY (x1.2.1,x1.1)) λq=>(ck (fO x1.1 (ah x1.2.2)) (cW ((cH x1.1),x1.2.1,(bW x1.2.2 x1.1 (mJ A q))))))) (aJ (x1.2.2,x1.2.1)))) (0,x.2,(aA (aL (mJ (a8 x.1) (a8 x.2))) (0:Int)))))
def UP (x:u!):aj u!:=M2 @iter x
def wz (x:u!):aj u!:=M2 @jG x
def Gi (x:u!):aj η:=aw (wz x) λy=>Sp y.2 x.2 (Z y.1)
def nk (x:Int×(Y η)×η):aj ((Y η)×η):=
 (jn (jO 0 x.1 (aJ ((hY x.1 (a8 x.2.1)),x.2.1,x.2.2)) (aJ (af,x.2.1,x.2.2))) λx1=>(aK x1.1 (ck (fO x.1 (ah x1.2.1)) (aw (Gi ((aE ((.sl aO)) x1.2.1 x.1),x1.2.2)) λq=>(ck (fO x.1 (ah x1.2.1)) (Z ((bW x1.2.1 x.1 q),x1.2.2))))) (Z (x1.2.1,x1.2.2))))
abbrev S?:=(η)×d?
def zW (x:Int×S?):aj Yd4:=
 (aw (yl x.s) λq=>(ck (fO x.1 (ah x.p8)) (ck (fO x.1 (ah x.k)) (Z (x.2.1,x.a,x.b,x.c,x.e,x.g,x.j,(bW x.p8 x.1 q),(bW x.k x.1 (-1)),x.s)))))
def EA (it:GM) (x:azm×S?):aj Yd4:=
 (aw (yl x.s) λy1=>(ck (fO x.1.2.1 (ah x.a)) (jn (α:=S?) (bp x.1.a 20 (aw (yl x.s) λy3=>(ck (fO x.1.b (ah x.b)) (aJ (x.2.1,(bW x.a x.1.2.1 y1),(bW x.b x.1.b y3),x.c,x.e,x.g,x.j,x.p8,x.k,x.s)))) (jn (bp x.1.a 7 (aJ ((decide ((x.1.a:Int)=7)),x.2.1,(bW x.a x.1.2.1 y1),x.b,x.c,x.e,x.g,x.j,x.p8,x.k,x.s,(x.1.1.1,x.1.1.2.1,x.1.1.a,x.1.1.b,x.1.1.c,x.1.1.h),x.1.2.1,x.1.a,x.1.b,x.1.c,x.1.e,x.1.g,x.1.l)) (aJ ((decide ((x.1.a:Int)=11)),x.2.1,(bW x.a x.1.2.1 y1),x.b,x.c,x.e,x.g,x.j,x.p8,x.k,x.s,(x.1.1.1,x.1.1.2.1,x.1.1.a,x.1.1.b,x.1.1.c,x.1.1.h),x.1.2.1,x.1.a,x.1.b,x.1.c,x.1.e,x.1.g,x.1.l))) λq=>(aK q.1 (aw (nk (q.r,q.c,q.m)) λy5=>(bT (aB (ah q.m) (ah y5.2)&&(aB (ah q.c) (ah y5.1)&&J)) (aJ (q.2.1,q.a,q.b,y5.1,q.e,q.g,q.j,q.p8,q.k,y5.2)))) (bp x.1.a 9 (aw (nk (q.r,q.e,q.m)) λy6=>(bT (aB (ah q.m) (ah y6.2)&&(aB (ah q.e) (ah y6.1)&&J)) (aJ (q.2.1,q.a,q.b,q.c,y6.1,q.g,q.j,q.p8,q.k,y6.2)))) (bp x.1.a 16 (ck (fO q.p (ah q.k)) (vI q.r q.q.a (aw (nk ((aE itK q.q.a q.r).2,q.c,q.m)) λy7=>(bT (aB (ah q.m) (ah y7.2)&&(aB (ah q.c) (ah y7.1)&&J)) (aJ (q.2.1,q.a,q.b,y7.1,q.e,q.g,q.j,q.p8,(bW q.k q.p q.r),y7.2)))))) (bp x.1.a 4 (vI q.r q.q.1 (aK (((((aE mS q.q.1 q.r).2).2).2).1) (aw (nk (q.r,q.g,q.m)) λy8=>(bT (aB (ah q.m) (ah y8.2)&&(aB (ah q.g) (ah y8.1)&&J)) (aJ (q.2.1,q.a,q.b,q.c,q.e,y8.1,q.j,q.p8,q.k,y8.2)))) (aJ (q.2.1,q.a,q.b,q.c,q.e,q.g,q.j,q.p8,q.k,q.m)))) (bp x.1.a 22 (aw (nk (q.r,q.j,q.m)) λy9=>(bT (aB (ah q.m) (ah y9.2)&&(aB (ah q.j) (ah y9.1)&&J)) (aJ (q.2.1,q.a,q.b,q.c,q.e,q.g,y9.1,q.p8,q.k,y9.2)))) (bp x.1.a 13 (aw (Gi (q.2.1,q.m)) λy10=>(aJ (y10,q.a,q.b,q.c,q.e,q.g,q.j,q.p8,q.k,q.m))) (bp x.1.a 18 (jn (jO 0 q.v (aJ ((hY q.v (a8 q.p8)),q.2.1,q.a,q.b,q.c,q.e,q.g,q.j,q.p8,q.k,q.m,q.p,q.u,q.r,q.v,q.w,q.y,q.B)) (aJ (af,q.2.1,q.a,q.b,q.c,q.e,q.g,q.j,q.p8,q.k,q.m,q.p,q.u,q.r,q.v,q.w,q.y,q.B))) λI=>(aK I.1 (aw (zW (I.r,I.2.1,I.a,I.b,I.c,I.e,I.g,I.j,I.p8,I.k,I.m)) λy12=>(bT (aB (ah I.m) (ah y12.o)&&(aB (ah I.k) (ah y12.p8)&&(aB (ah I.p8) (ah y12.j)&&(aB (ah I.j) (ah y12.g)&&(aB (ah I.g) (ah y12.e)&&(aB (ah I.e) (ah y12.c)&&(aB (ah I.c) (ah y12.b)&&(aB (ah I.b) (ah y12.a)&&(aB (ah I.a) (ah y12.2.1)&&J))))))))) (aJ (y12.1,y12.2.1,y12.a,y12.b,y12.c,y12.e,y12.g,y12.j,y12.p8,y12.o)))) (aJ (I.2.1,I.a,I.b,I.c,I.e,I.g,I.j,I.p8,I.k,I.m)))) (bp x.1.a 19 (it (Int×(η)×(Y η)×(Y η)×(Y η)×(Y η)×(Y η)×(Y η)×(Y η)×(η)×(η)×b?) _ (λA=>(bO A.1 (a8 q.k) (jn (ck (fO A.1 (ah A.k)) (bp (aE aO A.k A.1) A.u (aw (zW (A.1,A.2.1,A.a,A.b,A.c,A.e,A.g,A.j,A.p8,A.k,A.m)) λy15=>(bT (aB (ah A.m) (ah y15.o)&&(aB (ah A.k) (ah y15.p8)&&(aB (ah A.p8) (ah y15.j)&&(aB (ah A.j) (ah y15.g)&&(aB (ah A.g) (ah y15.e)&&(aB (ah A.e) (ah y15.c)&&(aB (ah A.c) (ah y15.b)&&(aB (ah A.b) (ah y15.a)&&(aB (ah A.a) (ah y15.2.1)&&J))))))))) (aJ (y15.1,y15.2.1,y15.a,y15.b,y15.c,y15.e,y15.g,y15.j,y15.p8,y15.o,A.q,A.p,A.u,A.r,A.v,A.w,A.z)))) (aJ (A.2.1,A.a,A.b,A.c,A.e,A.g,A.j,A.p8,A.k,A.m,A.q,A.p,A.u,A.r,A.v,A.w,A.z)))) λx14=>(cW ((cH A.1),x14.1,x14.2.1,x14.a,x14.b,x14.c,x14.e,x14.g,x14.j,x14.p8,x14.k,x14.m,x14.q,x14.p,x14.u,x14.r,x14.v,x14.E))) (aJ (bR (A.2.1,A.a,A.b,A.c,A.e,A.g,A.j,A.p8,A.k,A.m))))) (0,q.2.1,q.a,q.b,q.c,q.e,q.g,q.j,q.p8,q.k,q.m,q.p,q.u,q.r,q.v,q.w,q.y,q.B)) (aJ (q.2.1,q.a,q.b,q.c,q.e,q.g,q.j,q.p8,q.k,q.m)))))))))))) λx2=>(Z (x2.1,x2.2.1,x2.a,x2.b,x2.c,x2.e,x2.g,x2.j,x2.p8,x2.o)))))
def Jw (x:azm×S?):aj Yd4:=EA @iter x
def uy (x:azm×S?):aj Yd4:=EA @jG x
def H6 (it:GM) (x:kX×Yd2×b?):aj (Yd2×η):=
 (aw (xp (x.2.1.1,x.2.1.2.1,x.2.1.a,x.2.1.b,x.2.1.c,x.2.1.e,x.2.1.g,x.2.1.j,x.2.1.n)) λy1=>(ck (fO x.a (ah y1.2.1)) (aw (xr ((x.a,x.b,x.c,x.e,x.g,x.j,x.n),y1.1,(x.1.1,x.1.2.1,x.1.a,x.1.b,x.1.c,x.1.h),y1.2.1,y1.a,y1.b,y1.c,y1.e,y1.g,y1.j,y1.n)) λA=>(bT (aB (ah y1.n) (ah A.t)&&(aB (ah y1.j) (ah A.m)&&(aB (ah y1.g) (ah A.k)&&(aB (ah y1.e) (ah A.p8)&&(aB (ah y1.c) (ah A.j)&&(aB (ah y1.b) (ah A.g)&&(aB (ah y1.a) (ah A.e)&&(aB (ah y1.2.1) (ah A.c)&&J)))))))) (it (Int×kX×rW×(η)×(η)×f?) _ (λq=>(bO q.1 (a8 A.1) (vI q.1 A.1 (aw (m6 (q.c,(aE ((.sl aO)) A.1 q.1))) λy4=>(cW ((cH q.1),(q.2.1.1,q.2.1.2.1,q.2.1.a,q.2.1.b,q.2.1.c,q.2.1.h),(q.a.1,q.a.2.1,q.a.a,q.a.b,q.a.c,q.a.e,q.a.i),q.b,y4,q.e,q.g,q.j,q.p8,q.k,q.m,q.q,q.C)))) (aw (aw (vq (q.c,q.a.1)) λy5=>(aw (uy (((q.2.1.1,q.2.1.2.1,q.2.1.a,q.2.1.b,q.2.1.c,q.2.1.h),q.a.1,q.a.2.1,q.a.a,q.a.b,q.a.c,q.a.e,q.a.i),q.b,q.e,q.g,q.j,q.p8,q.k,q.m,q.q,q.C,y5)) λI=>(bT (aB (ah y5) (ah I.o)&&(aB (ah q.C) (ah I.p8)&&(aB (ah q.q) (ah I.j)&&(aB (ah q.m) (ah I.g)&&(aB (ah q.k) (ah I.e)&&(aB (ah q.p8) (ah I.c)&&(aB (ah q.j) (ah I.b)&&(aB (ah q.g) (ah I.a)&&(aB (ah q.e) (ah I.2.1)&&J))))))))) (Z ((I.2.1,I.a,I.b,I.c,I.e,I.g,I.1,I.j,I.p8),I.o))))) λr=>Z (bR r)))) (0,(A.b.1,A.b.2.1,A.b.a,A.b.b,A.b.c,A.b.h),(A.2.1.1,A.2.1.2.1,A.2.1.a,A.2.1.b,A.2.1.c,A.2.1.e,A.2.1.i),A.a,(aE ((.sl aO)) y1.2.1 x.a),A.c,A.e,A.g,A.j,A.p8,A.k,A.m,A.t))))))
def NR (x:kX×Yd2×b?):aj (Yd2×η):=H6 @iter x
def vo (x:kX×Yd2×b?):aj (Yd2×η):=H6 @jG x
def uE (it:GM) (x:ζ):aj (Bool):=
 (lt (aE ((.st (.pr .str (.pr .str (.pr .str (.pr .str (.pr .str (.pr .str (.pr .str (.pr .str (.pr .str (.pr .str (.pr .str (.pr .str (.pr .str (.pr .str (.pr .str (.pr .str (.pr .str (.pr .str (.pr .str (.pr .str (.pr .str .str))))))))))))))))))))))) ([kwV]) 0) λq=>(it (Int) _ (λx2=>(bO x2 22 (bT (cN 0 x2&&hY x2 22) (lt (aE (.str) [q.1,q.2.1,q.a,q.b,q.c,q.e,q.g,q.j,q.p8,q.k,q.m,q.q,q.p,q.u,q.r,q.v,q.w,q.y,q.G,q.H,q.I,q.K] x2) λA=>(aK (decide ((x:ζ)=A)) (aJ J) (cW (cH x2))))) (aJ af))) 0))
def uk (x:ζ):aj (Bool):=uE @iter x
def mD (x:ζ):aj (Bool):=uE @jG x
def yV (it:GM) (x:ζ):aj (Bool):=
 (jn (bO (a8 x) 1 (aJ J) (bO 12 (a8 x) (aJ J) (aw (mD x) λy2=>(aJ y2)))) λx1=>(aK x1 (Z af) (it (Y (lA×Unit)) _ (λq=>(aK (dE (Oa q) (ah (QQ q))) (jn (α:=Y (lA×Unit)) (jn (α:=Bool×Y (lA×Unit)) (jO 97 (rnP (QQ q) (Oa q)) (jO (rnP (QQ q) (Oa q)) 122 (aJ (J,[(((QQ q),(aZ ((Oa q)+wdP (QQ q) (Oa q)))),())])) (jO 65 (rnP (QQ q) (Oa q)) (aJ ((cN (rnP (QQ q) (Oa q)) 90),[(((QQ q),(aZ ((Oa q)+wdP (QQ q) (Oa q)))),())])) (aJ (af,[(((QQ q),(aZ ((Oa q)+wdP (QQ q) (Oa q)))),())])))) (jO 65 (rnP (QQ q) (Oa q)) (aJ ((cN (rnP (QQ q) (Oa q)) 90),[(((QQ q),(aZ ((Oa q)+wdP (QQ q) (Oa q)))),())])) (aJ (af,[(((QQ q),(aZ ((Oa q)+wdP (QQ q) (Oa q)))),())])))) λA=>(aK A.1 (aJ A.2) (jn (bO 0 (aZ (Oa q)) (bp (rnP (QQ q) (Oa q)) 95 (aJ (J,A.2)) (jO 48 (rnP (QQ q) (Oa q)) (aJ ((cN (rnP (QQ q) (Oa q)) 57),A.2)) (aJ (af,A.2)))) (aJ (af,A.2))) λI=>(aK I.1 (aJ I.2) (cW (bR af)))))) λx4=>(cW x4)) (aJ J))) ([((x,0),())]))))
def yM (x:ζ):aj (Bool):=yV @iter x
def qM (x:ζ):aj (Bool):=yV @jG x
def xD (it:GM) (x:p?):aj (Int):=
 (it (Int) _ (λx1=>(bO x1 (a8 x.1) (bM aO x.1 x1 λq=>(bp x.2 q (aJ x1) (cW (cH x1)))) (aJ (-1)))) 0)
def Ga (x:p?):aj (Int):=xD @iter x
def kF (x:p?):aj (Int):=xD @jG x
def fZ (x:p?):aj (Bool):=
 (aw (kF x) λq=>(Z (cN 0 q)))
def qS (x:η×g!):aj (Bool):=
 (aw (kY (x.1,x.2.2)) λq=>(Z (cN x.2.1 q)))
def rT (x:b?):aj (Bool):=
 (jn (bp x.2.1 3 (aJ J) (aJ (decide ((x.2.1:Int)=4)))) λx1=>(Z x1))
def s8 (x:(kX×Y rW)×g!):aj (Bool):=
 (bM iP x.1.2 x.2.1 λI=>(bM iP x.1.2 x.2.2 λA=>(jn (bp I.1 A.1 (aJ (J,x.1,I,A)) (aJ ((!decide ((I.a:Int)=A.a)),x.1,I,A))) λq=>(aK q.1 (Z af) (jn (aw (rT q.a) λy5=>(aK (!y5) (aJ (J,q.2.2)) (aw (rT q.d) λy6=>(aK (!y6) (aJ (J,q.2.2)) (bM mS q.2.1.1.1 q.a.a λz7=>(aJ (z7.2.2.2.1,q.2.2))))))) λx4=>(aK x4.1 (Z af) (jn (bp x4.2.1.2.1 4 (aJ J) (aJ (decide ((x4.b:Int)=4)))) λx8=>(Z x8))))))))
def Bq (it:GM) (x:Y rW):aj Wn:=
 (bT (cN 0 (a8 x)&&cN (a8 x) (a8 x)&&bk (aL (a8 x)) 16) (it (Int×Wn×Y ν) _ (λx1=>(bO x1.1 (a8 x) (bM iP x x1.1 λq=>(ck (fO x1.1 (ah x1.2.2)) (cW ((cH x1.1),(Cw (K:=aO) (V:=aO) q.1 (aU .i64 ((vp (K:=aO) (V:=aO) q.1 x1.2.1 0)+1)) x1.2.1),(bW x1.2.2 x1.1 ((vp (K:=aO) (V:=aO) q.1 (Cw (K:=aO) (V:=aO) q.1 (aU .i64 ((vp (K:=aO) (V:=aO) q.1 x1.2.1 0)+1)) x1.2.1) 0),q.1)))))) (aJ x1.2.2))) (0,([]:Y ν),(aA (aL (a8 x)) ((0,0):ν)))))
def F8 (x:Y rW):aj Wn:=Bq @iter x
def rR (x:Y rW):aj Wn:=Bq @jG x
def vK (x:ν):aj (Bool):=
 (jn (jO 0 x.1 (aJ (hY x.1 x.2)) (aJ af)) λx1=>(Z x1))
def vL (x:kX×i?):aj (Bool):=
 (jn (aw (vK (x.2.1,(a8 x.1.2.1))) λA=>(aK A (bM tY x.1.2.1 x.2.1 λq=>(aJ ((q.2==x.2.2) !=af))) (aJ af))) λx1=>(Z x1))
def qF (it:GM) (x:Y Zy):aj (dK×Bool):=
 (it (Int×Y ζ) _ (λx1=>(bO x1.1 (a8 x) (jn (α:=Int×Y ζ) (bM mS x x1.1 λq=>(bT (bk (ah x1.2+ah ([q.1])) 16) (bp q.a 0 (jP q.2.1 0 (cW (bR (([]:Y ζ),af))) (aJ ((cH x1.1),(x1.2++([q.1]))))) (jn (α:=Bool×L?) (bO q.a 1 (aJ (J,(x1.2++([q.1])),q)) (bO 4 q.a (aJ (J,(x1.2++([q.1])),q)) (aK q.b (aJ (J,(x1.2++([q.1])),q)) (aJ ((hY (aU .i64 ((a8 x)-x1.1)) q.a),(x1.2++([q.1])),q))))) λx4=>(aK x4.1 (cW (bR (([]:Y ζ),af))) (it (Int×L?) _ (λA=>(bO A.1 x4.c (bM mS x (aU .i64 (x1.1+A.1)) λI=>(aK (QV (.pr .str (.pr aO (.pr aO (.pr .bool (.pr aO .un))))) (I.1,I.2.1,I.a,I.b,I.f,()) (A.a,A.1,A.c,A.e,A.i,()) !=J) (aJ (lB (bR (([]:Y ζ),af)))) (cW ((cH A.1),A.2.1,A.a,A.1,A.f)))) (aJ (bR ((aU .i64 (x1.1+A.c)),A.2.1))))) (0,x4.2))))))) λx2=>(cW x2)) (aJ (x1.2,J)))) (0,([]:Y ζ)))
def qu (x:Y Zy):aj (dK×Bool):=qF @iter x
def je (x:Y Zy):aj (dK×Bool):=qF @jG x
def qE (it:GM) (x:kX×Y ζ):aj (Bool):=
 (bT (bk (ah (x.2:Y ζ)) 16) (it A! _ (λx1=>(bO x1.1 (a8 x.1.2.1) (bM tY x.1.2.1 x1.1 λz2=>(bT (bk (ah x1.2.2+ah ([z2.1])) 16) (cW ((cH x1.1),x1.2.1,(x1.2.2++([z2.1])))))) (aw (it A! _ (λq=>(bO q.1 (a8 x1.2.1.a) (bM itK x1.2.1.a q.1 λz4=>(bT (bk (ah q.2.2+ah ([z4.1])) 16) (cW ((cH q.1),q.2.1,(q.2.2++([z4.1])))))) (aw (bT (bk (ah q.2.2+ah q.2.1.b) 16) (bT (bk (ah (q.2.2++q.2.1.b)+ah q.2.1.c) 16) (it (Int×mU×Y ζ) _ (λA=>(bO A.1 (aZ (ah ((q.2.2++q.2.1.b)++q.2.1.c))) (nI (.str) A.2.2 A.1 λI=>(jn (aw (qM I) λy8=>(aK (!y8) (aJ (J,A.2)) (aJ ((vp (K:=.str) (V:=.bool) I A.2.1 af),A.2)))) λx7=>(aK x7.1 (aJ af) (cW ((cH A.1),(Cw (K:=.str) (V:=.bool) I J x7.2.1),x7.2.2))))) (aJ J))) (0,([]:Y v?),((q.2.2++q.2.1.b)++q.2.1.c))))) λr=>Z (bR r)))) (0,x1.2)) λr=>Z (bR r)))) (0,x)))
def qi (x:kX×Y ζ):aj (Bool):=qE @iter x
def eK (x:kX×Y ζ):aj (Bool):=qE @jG x
def mz (it:GM) (x:b!):aj (Bool):=
 (it (π×b!) _ (λx1=>(bO x1.1.2.2 (a8 x.h) (bM rZ x.h x1.1.2.2 λI=>(jn (bO I.1 x1.1.1 (aJ (J,x1.2,I)) (aJ ((cN (a8 x1.e) I.1),x1.2,I))) λA=>(aK A.1 (aJ af) (jn (α:=(ν)×kX×Int×g!) (bO x1.1.1 A.a (aJ ((A.a,0),A.2)) (aJ ((x1.1.1,x1.1.2.1),A.2))) λq=>(jP q.b q.1.2 (aJ af) (cW ((q.1.1,(cH q.1.2),(cH x1.1.2.2)),q.2.1))))))) (aJ J))) ((0,0,0),x))
def qe (x:b!):aj (Bool):=mz @iter x
def ig (x:b!):aj (Bool):=mz @jG x
def qG (it:GM) (x:b!):aj (Bool):=
 (jn (bO 12 (a8 x.1) (aJ (J,x)) (bO 4 (a8 x.2.1) (aJ (J,x)) (bO 2 (a8 x.a) (aJ (J,x)) (bO 2 (a8 x.b) (aJ (J,x)) (aJ ((hY 60 (a8 x.h)),x)))))) λx1=>(aK x1.1 (Z af) (jn (bO (a8 x1.e) 1 (aJ (J,x1.2)) (aJ ((hY 4 (a8 x1.e)),x1.2))) λx2=>(aK x2.1 (Z af) (aw (je x2.2.1) λI=>(jn (aK (!I.2) (aJ (J,x2.2)) (aw (eK (x2.2,I.1)) λy5=>(aJ ((!y5),x2.2)))) λA=>(aK A.1 (Z af) (it P! _ (λq=>(bO q.1 (a8 A.b) (bM itK A.b q.1 λz7=>(aw (vL (q.2,z7.2,af)) λy8=>(aK (!y8) (aJ af) (cW ((cH q.1),q.2))))) (aw (aw (ig q.2) λy9=>(Z y9)) λr=>Z (bR r)))) (0,A.2)))))))))
def qA (x:b!):aj (Bool):=qG @iter x
def ji (x:b!):aj (Bool):=qG @jG x
def yW (it:GM) (x:b!):aj mj:=
 (bT (cN 0 (a8 x.2.1)&&cN (a8 x.2.1) (a8 x.2.1)&&bk (aL (a8 x.2.1)) 32) (bT (cN 0 (a8 x.b)&&cN (a8 x.b) (a8 x.b)&&bk (aL (a8 x.b)) 1) (bT (cN 0 (a8 x.c)&&cN (a8 x.c) (a8 x.c)&&bk (aL (a8 x.c)) 24) (it X? _ (λx1=>(bO x1.1 (aZ (ah (aA (aL (a8 x.2.1)) ((0,[]):d!)))) (ck (fO x1.1 (ah x1.b)) (cW ((cH x1.1),x1.2.1,x1.a,(bW x1.b x1.1 ((-1),(aE dU x1.b x1.1).2)),x1.f))) (aw (jn (α:=o?) (bO 0 (a8 x1.h) (ck (fO 0 (ah x1.h)) (aJ (x1.2.1,x1.a,x1.b,x1.c,(bW x1.h 0 (1,(aE iH x1.h 0).2))))) (aJ x1.2)) λx2=>(Z (x2.a,x2.2.1,x2.d))) λr=>Z (bR r)))) (0,0,(-1),(aA (aL (a8 x.2.1)) ((0,[]):d!)),(aA (aL (a8 x.b)) (af:Bool)),(aA (aL (a8 x.c)) ((0,(0,af)):c!)))))))
def yO (x:b!):aj mj:=yW @iter x
def qN (x:b!):aj mj:=yW @jG x
def tu (it:GM) (x:b!):aj rX:=
 (aw (qN x) λA=>(bT (cN 0 0&&cN 0 (a8 x.1)&&bk (aL (a8 x.1)) 8) (bT (cN 0 (a8 x.b)&&cN (a8 x.b) (a8 x.b)&&bk (aL (a8 x.b)) 8) (bT (cN 0 (a8 x.c)&&cN (a8 x.c) (a8 x.c)&&bk (aL (a8 x.c)) 8) (it (Int×Int×Q?) _ (λx2=>(bO x2.1 (a8 x.1) (bM mS x.1 x2.1 λq=>(bT (bk (ah x2.b+ah ([q.f])) 8) (cW ((cH x2.1),x2.2.1,x2.a,(x2.b++([q.f])),x2.f)))) (aJ x2.2.2))) (0,0,A,(aA (aL 0) (0:Int)),(aA (aL (a8 x.b)) (0:Int)),(aA (aL (a8 x.c)) (0:Int))))))))
def sS (x:b!):aj rX:=tu @iter x
def fX (x:b!):aj rX:=tu @jG x
def gp (x:ν):aj (Bool):=
 (jn (jO 0 x.1 (aJ (hY x.1 x.2)) (aJ af)) λx1=>(Z x1))
def kE (x:kX×g!):aj (Bool):=
 (jn (bp x.2.1 1 (aJ ((decide ((x.2.1:Int)=1)),x.1)) (bp x.2.1 2 (aJ ((decide ((x.2.1:Int)=2)),x.1)) (bp x.2.1 5 (aJ ((decide ((x.2.1:Int)=5)),x.1)) (bp x.2.1 12 (aJ ((decide ((x.2.1:Int)=12)),x.1)) (bp x.2.1 13 (aJ ((decide ((x.2.1:Int)=13)),x.1)) (bp x.2.1 14 (aJ ((decide ((x.2.1:Int)=14)),x.1)) (aJ ((decide ((x.2.1:Int)=15)),x.1)))))))) λx1=>(aK x1.1 (Z (decide ((x.2.2:Int)=(-1)))) (jn (bp x.2.1 3 (aJ ((decide ((x.2.1:Int)=3)),x1.2)) (aJ ((decide ((x.2.1:Int)=4)),x1.2))) λx2=>(aK x2.1 (aw (gp (x.2.2,(a8 x2.2.1))) λy3=>(Z y3)) (jn (bp x.2.1 6 (aJ ((decide ((x.2.1:Int)=6)),x2.2)) (aJ ((decide ((x.2.1:Int)=7)),x2.2))) λx4=>(aK x4.1 (jn (aw (gp (x.2.2,(a8 x4.a))) λy6=>(aK y6 (bM tY x4.a x.2.2 λz7=>(aJ (!z7.2))) (aJ af))) λx5=>(Z x5)) (jn (bp x.2.1 8 (aJ ((decide ((x.2.1:Int)=8)),x4.2)) (bp x.2.1 9 (aJ ((decide ((x.2.1:Int)=9)),x4.2)) (bp x.2.1 10 (aJ ((decide ((x.2.1:Int)=10)),x4.2)) (aJ ((decide ((x.2.1:Int)=11)),x4.2))))) λI=>(aK I.1 (jn (aw (gp (x.2.2,(a8 I.a))) λy10=>(aK y10 (bM tY I.a x.2.2 λz11=>(aJ z11.2)) (aJ af))) λx9=>(Z x9)) (jn (bp x.2.1 16 (aJ ((decide ((x.2.1:Int)=16)),I.2)) (bp x.2.1 17 (aJ ((decide ((x.2.1:Int)=17)),I.2)) (bp x.2.1 18 (aJ ((decide ((x.2.1:Int)=18)),I.2)) (aJ ((decide ((x.2.1:Int)=19)),I.2))))) λA=>(aK A.1 (aw (gp (x.2.2,(a8 A.b))) λy13=>(Z y13)) (jn (bp x.2.1 20 (aJ ((decide ((x.2.1:Int)=20)),A.2)) (aJ ((decide ((x.2.1:Int)=21)),A.2))) λq=>(aK q.1 (aw (gp (x.2.2,(a8 q.e))) λy15=>(Z y15)) (jn (bp x.2.1 22 (aJ ((decide ((x.2.1:Int)=22)),q.2)) (aJ ((decide ((x.2.1:Int)=23)),q.2))) λx16=>(aK x16.1 (aw (gp (x.2.2,(a8 x16.c))) λy17=>(Z y17)) (Z af)))))))))))))))
def tC (it:GM) (x:kX×q!):aj (Bool):=
 (jn (jP (a8 x.2.1) (a8 x.1.2.1) (aJ (J,x.1)) (jP (a8 x.b) (a8 x.1.b) (aJ (J,x.1)) (aJ ((!decide (((a8 x.f):Int)=(a8 x.1.c))),x.1)))) λx1=>(aK x1.1 (Z af) (it P! _ (λx2=>(bO x2.1 (a8 x1.b) (bM itK x1.b x2.1 λq=>(aw (gp (q.2,(a8 x2.a))) λA=>(aK (!A) (aJ af) (cW ((cH x2.1),x2.2))))) (aJ J))) (0,x1.2))))
def AZ (x:kX×q!):aj (Bool):=tC @iter x
def j7 (x:kX×q!):aj (Bool):=tC @jG x
def mf (x:O!):aj (Bool):=
 (bp x.b 6 (bM dU x.2.1.1 x.f λz1=>(Z (decide ((z1.1:Int)=(-1))))) (bp x.b 10 (jn (α:=Bool) (bM dU x.2.1.1 x.f λz3=>(bp z3.1 (-1) (bM dU x.2.1.1 x.f λz4=>(aJ (decide (((a8 z4.2):Int)=0)))) (aJ af))) λx2=>(Z x2)) (bp x.b 8 (jn (α:=Bool) (bM dU x.2.1.1 x.f λz6=>(bp z6.1 (-1) (bM dU x.2.1.1 x.f λz7=>(aw (fZ (z7.2,x.a)) λy8=>(aJ (!y8)))) (aJ af))) λx5=>(Z x5)) (jn (bp x.b 7 (aJ ((decide ((x.b:Int)=7)),x.1,x.2.1)) (aJ ((decide ((x.b:Int)=11)),x.1,x.2.1))) λA=>(aK A.1 (bM dU A.a x.f λz10=>(Z (decide ((z10.1:Int)=x.a)))) (bp x.b 9 (bM dU A.a x.f λz11=>(aw (fZ (z11.2,x.a)) λy12=>(Z y12))) (bp x.b 12 (Z (decide ((A.b:Int)=(-1)))) (bp x.b 13 (Z (decide ((A.b:Int)=x.a))) (bp x.b 14 (bM iH A.h x.a λz13=>(Z (!z13.2.2))) (bp x.b 15 (bM iH A.h x.a λz14=>(Z z14.2.2)) (jn (bp x.b 16 (aJ ((decide ((x.b:Int)=16)),A.2)) (bp x.b 18 (aJ ((decide ((x.b:Int)=18)),A.2)) (aJ ((decide ((x.b:Int)=19)),A.2)))) λq=>(aK q.1 (bM itK q.2.1.a x.f λz16=>(bM dU q.a z16.2 λz17=>(Z (decide ((z17.1:Int)=x.a))))) (bp x.b 20 (jn (jP x.f x.a (bM iH q.h x.f λz19=>(aJ (decide ((z19.1:Int)=0)))) (aJ af)) λx18=>(Z x18)) (bp x.b 21 (jn (jP x.f x.a (bM iH q.h x.f λz21=>(aJ (decide ((z21.1:Int)=5)))) (aJ af)) λx20=>(Z x20)) (bp x.b 22 (bM (.bool) q.c x.f λz22=>(Z (!z22))) (bp x.b 23 (bM (.bool) q.c x.f λI=>(Z I)) (Z J)))))))))))))))))
def gq (x:O!):aj (Bool):=
 (jn (aw (j7 (x.1,x.2.1)) λy2=>(aK (!y2) (aJ (J,x.1,x.2.1)) (aw (gp (x.a,(a8 x.1.c))) λy3=>(aK (!y3) (aJ (J,x.1,x.2.1)) (aw (kE (x.1,x.d)) λy4=>(aJ ((!y4),x.1,x.2.1))))))) λx1=>(aK x1.1 (Z af) (bM iH x1.h x.a λq=>(bp x.b 1 (Z (decide ((q.1:Int)=1))) (bp x.b 17 (jn (α:=Bool) (bp q.1 4 (bp q.2.1 x.f (bM itK x1.2.1.a x.f λz7=>(bM dU x1.a z7.2 λI=>(aJ (decide ((I.1:Int)=(-1)))))) (aJ af)) (aJ af)) λx6=>(Z x6)) (jn (bp q.1 2 (aw (mf (x1.2.1,x1.2.2,x.2.2)) λA=>(aJ A)) (aJ af)) λx9=>(Z x9)))))))
def mB (x:kX×Q?):aj (Bool):=
 (jn (aw (j7 (x.1,x.2.1)) λq=>(aK q (bp (a8 x.a) (a8 x.1.1) (bp (a8 x.b) (a8 x.1.b) (aJ (decide (((a8 x.f):Int)=(a8 x.1.c)))) (aJ af)) (aJ af)) (aJ af))) λx1=>(Z x1))
def nh (x:kX×b?):aj (Bool):=
 (jn (bp x.a 1 (aJ (J,x)) (aJ ((decide ((x.a:Int)=2)),x))) λx1=>(aK x1.1 (Z (decide ((x1.g:Int)=(-1)))) (jn (jO 0 x1.g (bO x1.g (a8 x1.2.1.h) (bM rZ x1.2.1.h x1.g λq=>(aJ (decide ((q.1:Int)=x1.a)))) (aJ af)) (aJ af)) λx2=>(Z x2))))
def nE (it:GM) (x:kX×L!):aj (Bool):=
 (jn (bp x.b 3 (bM mS x.1.1 x.c λz2=>(aJ ((!decide ((z2.2.2.1:Int)=0)),x.2))) (bp x.b 4 (bM mS x.1.1 x.c λz3=>(aJ ((!decide ((z3.2.2.1:Int)=0)),x.2))) (aJ (af,x.2)))) λx1=>(jn (bp x1.b 5 (bp x1.b 4 (aJ (x1.2.1,x1.2.2,J,J)) (aJ (x1.2.1,x1.2.2,J,(decide ((x1.b:Int)=22))))) (bp x1.b 4 (aJ (x1.2.1,x1.2.2,x1.1,J)) (aJ (x1.2.1,x1.2.2,x1.1,(decide ((x1.b:Int)=22)))))) λx4=>(it (Int×rX×rW×K!) _ (λq=>(bO q.1 2 (bT (cN 0 q.1&&hY q.1 2) (lt (aE ((.sl aO)) [x4.2.1.e,x4.2.1.i] q.1) λz6=>(jn (α:=Bool×rX×rW×K!) (bO 0 (a8 z6) (bT (cN 0 q.1&&hY q.1 2) (bT (fO q.1 2) (lt (aE (.bool) [q.b,q.f] q.1) λz8=>(aJ ((!z8),q.2))))) (aJ (af,q.2))) λx7=>(aK x7.1 (aJ af) (it (ν×rX×rW×K!) _ (λA=>(bO A.1.2 (a8 z6) (bM aO z6 A.1.2 λI=>(jn (jO I A.1.1 (aJ (J,A.2)) (bM aO A.2.1.d A.a.1 λz12=>(aJ ((cN z12 I),A.2)))) λx11=>(aK x11.1 (aJ (bR af)) (cW ((I,(cH A.1.2)),x11.2))))) (aJ (lB ((cH q.1),A.2))))) ((0,0),x7.2)))))) (aJ J))) (0,x4))))
def ne (x:kX×L!):aj (Bool):=nE @iter x
def gZ (x:kX×L!):aj (Bool):=nE @jG x
def nC (it:GM) (x:L!):aj (Bool):=
 (bp x.a 3 (bM aO x.1.2.1 x.b λz1=>(Z (decide ((x.c:Int)=z1)))) (bp x.a 23 (bM aO x.1.a x.b λz2=>(Z (decide ((x.c:Int)=z2)))) (bp x.a 5 (jn (bp x.c 0 (aJ J) (aJ (decide ((x.c:Int)=1)))) λx3=>(Z x3)) (jn (bp x.a 4 (aJ ((decide ((x.a:Int)=4)),x)) (aJ ((decide ((x.a:Int)=22)),x))) λI=>(aK I.1 (Z J) (bp x.a 18 (it ((Int×Bool×Int)×b?) _ (λA=>(bO A.1.2.2 (a8 I.2.1.1.d) (jn (bM iH I.2.1.1.d A.1.2.2 λz7=>(jn (bp z7.1 3 (aJ ((decide ((z7.2.1:Int)=A.b)),A.2)) (aJ (af,A.2))) λx8=>(aK x8.1 (aK A.1.2.1 (aJ (((cH A.1.1),J),x8.2)) (aJ (((cH A.1.1),(decide ((x8.c:Int)=A.1.2.2))),x8.2))) (aJ ((A.1.1,A.1.2.1),x8.2))))) λx6=>(cW ((x6.1.1,x6.1.2,(cH A.1.2.2)),x6.2))) (aw (jn (α:=Bool) (aK A.1.2.1 (aJ J) (bp A.1.1 0 (aJ (decide ((A.c:Int)=(-1)))) (aJ af))) λx9=>(Z x9)) λr=>Z (bR r)))) ((0,af,0),I.2.2)) (bp x.a 19 (it Yd9 _ (λq=>(bO q.1.2 (a8 I.2.1.1.d) (jn (bM iH I.2.1.1.d q.1.2 λz12=>(jn (bp z12.1 3 (aJ ((decide ((z12.2.1:Int)=q.b)),q.2)) (aJ (af,q.2))) λx13=>(aK x13.1 (aJ ((cH q.1.1),x13.2)) (aJ (q.1.1,x13.2))))) λx11=>(cW ((x11.1,(cH q.1.2)),x11.2))) (aJ (decide ((q.c:Int)=q.1.1))))) ((0,0),I.2.2)) (Z (decide ((I.e:Int)=0))))))))))
def rF (x:L!):aj (Bool):=nC @iter x
def iG (x:L!):aj (Bool):=nC @jG x
def og (x:ey×Int):aj (Bool):=
 (jn (bp x.1.1 3 (aJ (decide ((x.1.2.1:Int)=x.2))) (aJ af)) λx1=>(Z x1))
def N0 (x:θ):aj θ:=
 (aK (aB (ah x) 0) (IR (Z ([]:θ)) (bT (bk (ah ([]:θ)+ah x) 1) (Z (([]:θ)++x)))) (bT (bk (ah ([]:θ)+ah x) 1) (Z (([]:θ)++x))))
def HE (x:θ):aj θ:=chk (bk (ah x) 1) λ_=>Z x
def JD (x:θ):aj θ:=
 (aK (aB (ah x) 0) (IR (Z ([]:θ)) (bT (bk (ah ([]:θ)+ah x) 1) (Z (([]:θ)++x)))) (bT (bk (ah ([]:θ)+ah x) 1) (Z (([]:θ)++x))))
def z_ (x:θ):aj θ:=chk (bk (ah x) 1) λ_=>Z x
def NY (x:Y ey):aj (Y ey):=
 (aK (aB (ah x) 0) (IR (Z ([]:Y ey)) (bT (bk (ah ([]:Y ey)+ah x) 24) (Z (([]:Y ey)++x)))) (bT (bk (ah ([]:Y ey)+ah x) 24) (Z (([]:Y ey)++x))))
def HC (x:Y ey):aj (Y ey):=chk (bk (ah x) 24) λ_=>Z x
def JA (x:Y ey):aj (Y ey):=
 (aK (aB (ah x) 0) (IR (Z ([]:Y ey)) (bT (bk (ah ([]:Y ey)+ah x) 24) (Z (([]:Y ey)++x)))) (bT (bk (ah ([]:Y ey)+ah x) 24) (Z (([]:Y ey)++x))))
def NX (x:Y ey):aj (Y ey):=chk (bk (ah x) 24) λ_=>Z x
def JB (x:η):aj η:=
 (aK (aB (ah x) 0) (IR (Z ([]:η)) (bT (bk (ah ([]:η)+ah x) 8) (Z (([]:η)++x)))) (bT (bk (ah ([]:η)+ah x) 8) (Z (([]:η)++x))))
def Dc (x:η):aj η:=chk (bk (ah x) 8) λ_=>Z x
def JC (x:Y i?):aj GG:=
 (aK (aB (ah x) 0) (IR (Z ([]:Y i?)) (bT (bk (ah ([]:Y i?)+ah x) 16) (Z (([]:Y i?)++x)))) (bT (bk (ah ([]:Y i?)+ah x) 16) (Z (([]:Y i?)++x))))
def Dd (x:Y i?):aj GG:=chk (bk (ah x) 16) λ_=>Z x
def uO (it:GM) (x:q!):aj Yd5:=
 (bT (cN 0 (a8 x.1)&&cN (a8 x.1) (a8 x.1)&&bk (aL (a8 x.1)) 32) (it (Int×mj×Int×Y (Int×η)) _ (λx1=>(bO x1.1 (a8 x.1) (bM dU x.1 x1.1 λq=>(aw (Bd q.2) λy3=>(ck (fO x1.1 (ah x1.d)) (cW ((cH x1.1),x1.2.1,x1.a,(bW x1.d x1.1 (q.1,y3))))))) (aw (aw (z_ x1.2.1.a) λI=>(aw (NX x1.2.1.d) λA=>(Z (x1.2.1.2.1,x1.d,I,A)))) λr=>Z (bR r)))) (0,x,0,(aA (aL (a8 x.1)) ((0,[]):d!)))))
def yN (x:q!):aj Yd5:=uO @iter x
def mg (x:q!):aj Yd5:=uO @jG x
abbrev I!:=kc×(θ)×(Y ey)×Int
def tB (it:GM) (x:π×D!):aj Yd5:=
 (it (ν×I!) _ (λx1=>(bO x1.1.2 (a8 x.d) (jn (nI iH x1.b x1.1.2 λA=>(jn (aw (og (A,x.1.2.1)) λI=>(aK I (bO x1.1.1 0 (aJ (J,x1.2)) (aJ ((decide ((x1.1.2:Int)=x.1.2.2)),x1.2))) (aJ (af,x1.2)))) λq=>(aK q.1 (aJ (x1.1.2,q.2)) (aJ (x1.1.1,q.2))))) λx2=>(cW ((x2.1,(cH x1.1.2)),x2.2))) (aw (jn (α:=D!) (jO 0 x1.1.1 (ck (fO x1.1.1 (ah x1.b)) (aJ (x1.2.1,x1.a,(bW x1.b x1.1.1 (4,(aE iH x1.b x1.1.1).2))))) (aJ (x1.2.1,x1.a,x1.b))) λx6=>(Z (x1.1.1,x6))) λr=>Z (bR r)))) (((-1),0),x.2.1,x.a,x.d,x.1.1))
def w9 (x:π×D!):aj Yd5:=tB @iter x
def lx (x:π×D!):aj Yd5:=tB @jG x
def oD (it:GM) (x:ν×D!):aj Yd5:=
 (it (ν×I!) _ (λx1=>(bO x1.1.2 (a8 x.d) (jn (α:=Int×I!) (nI iH x1.b x1.1.2 λq=>(aw (og (q,x.1.2)) λA=>(aK A (ck (fO x1.1.2 (ah x1.b)) (aJ ((cH x1.1.1),x1.2.1,x1.a,(bW x1.b x1.1.2 (4,(aE iH x1.b x1.1.2).2)),x1.f))) (aJ (x1.1.1,x1.2))))) λx2=>(cW ((x2.1,(cH x1.1.2)),x2.2))) (aJ (x1.1.1,x1.2.1,x1.a,x1.b)))) ((0,0),x.2.1,x.a,x.d,x.1.1))
def sU (x:ν×D!):aj Yd5:=oD @iter x
def iT (x:ν×D!):aj Yd5:=oD @jG x
def s9 (x:Int):aj (Bool):=
 (Z (!decide ((x:Int)=x)))
def yR (x:ν):aj (Bool):=
 (jn (aw (s9 x.1) λA=>(aK A (aw (s9 x.2) λq=>(aK (!q) (aJ J) (aJ (hY x.1 x.2)))) (aJ (hY x.1 x.2)))) λx1=>(Z x1))
def uv (x:Int):aj (Int):=
 (jO 4294967296 x U (jO 65536 x U (jO 256 x U (vI (aU .u8 x) ([0,1,2,2,3,3,3,3,4,4,4,4,4,4,4,4,5,5,5,5,5,5,5,5,5,5,5,5,5,5,5,5,6,6,6,6,6,6,6,6,6,6,6,6,6,6,6,6,6,6,6,6,6,6,6,6,6,6,6,6,6,6,6,6,7,7,7,7,7,7,7,7,7,7,7,7,7,7,7,7,7,7,7,7,7,7,7,7,7,7,7,7,7,7,7,7,7,7,7,7,7,7,7,7,7,7,7,7,7,7,7,7,7,7,7,7,7,7,7,7,7,7,7,7,7,7,7,7,8,8,8,8,8,8,8,8,8,8,8,8,8,8,8,8,8,8,8,8,8,8,8,8,8,8,8,8,8,8,8,8,8,8,8,8,8,8,8,8,8,8,8,8,8,8,8,8,8,8,8,8,8,8,8,8,8,8,8,8,8,8,8,8,8,8,8,8,8,8,8,8,8,8,8,8,8,8,8,8,8,8,8,8,8,8,8,8,8,8,8,8,8,8,8,8,8,8,8,8,8,8,8,8,8,8,8,8,8,8,8,8,8,8,8,8,8,8,8,8,8,8,8,8,8,8,8,8]) (Z (aU .i64 (0+(aU .i64 (tW ([0,1,2,2,3,3,3,3,4,4,4,4,4,4,4,4,5,5,5,5,5,5,5,5,5,5,5,5,5,5,5,5,6,6,6,6,6,6,6,6,6,6,6,6,6,6,6,6,6,6,6,6,6,6,6,6,6,6,6,6,6,6,6,6,7,7,7,7,7,7,7,7,7,7,7,7,7,7,7,7,7,7,7,7,7,7,7,7,7,7,7,7,7,7,7,7,7,7,7,7,7,7,7,7,7,7,7,7,7,7,7,7,7,7,7,7,7,7,7,7,7,7,7,7,7,7,7,7,8,8,8,8,8,8,8,8,8,8,8,8,8,8,8,8,8,8,8,8,8,8,8,8,8,8,8,8,8,8,8,8,8,8,8,8,8,8,8,8,8,8,8,8,8,8,8,8,8,8,8,8,8,8,8,8,8,8,8,8,8,8,8,8,8,8,8,8,8,8,8,8,8,8,8,8,8,8,8,8,8,8,8,8,8,8,8,8,8,8,8,8,8,8,8,8,8,8,8,8,8,8,8,8,8,8,8,8,8,8,8,8,8,8,8,8,8,8,8,8,8,8,8,8,8,8,8,8]) (aU .u8 x))))))))))
def xn (x:Int):aj (Int):=
 (aw (uv x) λq=>(Z q))
abbrev Y!:=ν×η
def lV (it:GM) (x:Y!):aj η:=
 (it d! _ (λx1=>(bO x1.1 x.1.2 (it d! _ (λx2=>(jn (bO x.1.1 x2.1 (nI aO x2.2 x2.1 λz4=>(nI aO x2.2 (aU .i64 (x2.1-1)) λz5=>(aw (yR (z4,z5)) λy6=>(aJ (y6,x2.2))))) (aJ (af,x2.2))) λq=>(aK q.1 (nI aO q.2 (aU .i64 (x2.1-1)) λA=>(nI aO q.2 x2.1 λI=>(ck (fO x2.1 (ah q.2)) (ck (fO (aU .i64 (x2.1-1)) (ah (bW q.2 x2.1 A))) (cW ((aU .i64 (x2.1-1)),(bW (bW q.2 x2.1 A) (aU .i64 (x2.1-1)) I))))))) (aJ (lB ((cH x1.1),q.2)))))) x1) (aJ x1.2))) ((cH x.1.1),x.2))
def lU (x:Y!):aj η:=lV @iter x
def ib (x:Y!):aj η:=lV @jG x
def qD (it:GM) (x:π×η):aj η:=
 (it ((Int×Int×Int×Bool×Bool)×η) _ (λx1=>(jO (aU .i64 (x1.1.2.1-x1.1.1)) 12 (aw (ib ((x1.1.1,x1.1.2.1),x1.2)) λq=>(bT (aB (ah x1.2) (ah q)&&J) (aJ q))) (bp x1.1.a 0 U (aK (!x1.1.b) U U)))) ((x.1.1,x.1.2.1,x.1.2.2,J,J),x.2))
def p_ (x:π×η):aj η:=qD @iter x
def kK (x:π×η):aj η:=qD @jG x
def zY (x:η):aj η:=
 (aw (xn (aU .u64 (a8 x))) λA=>(aw (kK ((0,(a8 x),A),x)) λq=>(bT (aB (ah x) (ah q)&&J) (Z q))))
def Bv (it:GM) (x:η):aj η:=
 (bO (a8 x) 2 (Z x) (it d! _ (λx1=>(bO x1.1 (a8 x1.2) (nI aO x1.2 x1.1 λA=>(nI aO x1.2 (aU .i64 (x1.1-1)) λq=>(bp A q (bT (cN 0 x1.1&&hY x1.1 (ah x1.2)) U) (cW ((cH x1.1),x1.2))))) (aJ x1.2))) (1,x)))
def Ba (x:η):aj η:=Bv @iter x
def nu (x:η):aj η:=Bv @jG x
def rh (x:ν):aj (Bool×Int):=
 (Z ((decide ((x.1:Int)=x.2)),x.2))
def xE (it:GM) (x:p?):aj P?:=
 (it P? _ (λx1=>(bO x1.1 (a8 x.1) (nI aO x1.2.1 x1.1 λA=>(aw (rh (A,x1.2.2)) λq=>(aK q.1 (aJ (x1.1,x1.2.1,q.2)) (cW ((cH x1.1),x1.2.1,q.2))))) (aJ ((-1),x1.2)))) (0,x))
def w_ (x:p?):aj P?:=xE @iter x
def pa (x:p?):aj P?:=xE @jG x
def vR (it:GM) (x:p?):aj d!:=
 (aw (pa x) λq=>(bT (aB (ah x.1) (ah q.2.1)&&J) (bp q.1 (-1) U (it (ν×x!) _ (λx2=>(bO x2.1.2 (a8 x2.2.1) (jn (nI aO x2.2.1 x2.1.2 λI=>(aw (rh (I,x2.2.2)) λA=>(aK (!A.1) (ck (fO x2.1.1 (ah x2.2.1)) (aJ ((cH x2.1.1),(bW x2.2.1 x2.1.1 I),A.2))) (aJ (x2.1.1,x2.2.1,A.2))))) λx3=>(cW ((x3.1,(cH x2.1.2)),x3.2))) (aw (ck (cN 0 x2.1.1&&hY x2.1.1 (ah x2.2.1)) (bT (cN 0 x2.1.1&&hY x2.1.1 (ah (cG (aL x2.1.1) x2.2.1++aA (ah x2.2.1-aL x2.1.1) (0:Int)))) (Z (x2.2.2,(cG (aL x2.1.1) (cG (aL x2.1.1) x2.2.1++aA (ah x2.2.1-aL x2.1.1) (0:Int))))))) λr=>Z (bR r)))) ((q.1,(cH q.1)),q.2)))))
def vJ (x:p?):aj d!:=vR @iter x
def kG (x:p?):aj d!:=vR @jG x
def iU (x:R?):aj (mj×i?):=
 (aw (gq (x.1,x.2.1,x.a,x.b,x.c)) λy1=>(aK (!y1) (Z ((([]:Y d!),0,([]:θ),([]:Y ey)),0,af)) (aw (mg x.2.1) λA=>(jn (α:=X?) (bp x.b 1 (ck (fO x.a (ah A.d)) (aJ (0,A.1,0,A.2.1,A.a,(bW A.d x.a (2,(aE iH A.d x.a).2))))) (bp x.b 2 (ck (fO x.a (ah A.d)) (aJ (0,A.1,0,A.2.1,A.a,(bW A.d x.a (5,(aE iH A.d x.a).2))))) (jn (α:=Bool×kX×X?) (bp x.b 6 (aJ ((decide ((x.b:Int)=6)),x.1,A.1,x.a,0,A.2)) (aJ ((decide ((x.b:Int)=10)),x.1,A.1,x.a,0,A.2))) λx4=>(aK x4.1 (ck (fO x.c (ah x4.e)) (aJ (0,x4.a,x4.c,(bW x4.e x.c (x4.b,(aE dU x4.e x.c).2)),x4.i))) (jn (bp x.b 7 (aJ ((decide ((x.b:Int)=7)),x4.2)) (aJ ((decide ((x.b:Int)=11)),x4.2))) λq=>(aK q.1 (ck (fO x.c (ah q.e)) (aJ (0,q.a,q.c,(bW q.e x.c ((-1),(aE dU q.e x.c).2)),q.i))) (bp x.b 8 (nI dU q.e x.c λz6=>U) (bp x.b 9 (nI dU q.e x.c λz7=>U) (bp x.b 12 (aJ (0,q.d)) (bp x.b 13 (aJ (0,(-1),q.f)) (bp x.b 14 (ck (fO q.b (ah q.l)) (aJ (0,q.a,q.c,q.e,q.g,(bW q.l q.b ((aE iH q.l q.b).1,((aE iH q.l q.b).2).1,J))))) (bp x.b 15 (ck (fO q.b (ah q.l)) (aJ (0,q.a,q.c,q.e,q.g,(bW q.l q.b ((aE iH q.l q.b).1,((aE iH q.l q.b).2).1,af))))) (bp x.b 16 (bM itK q.2.1.a x.c λz8=>(ck (fO z8.2 (ah q.e)) (ck (fO q.b (ah q.l)) (ck (fO q.b (ah (bW q.l q.b (3,(aE iH q.l q.b).2)))) (aJ (0,q.a,q.c,(bW q.e z8.2 ((-1),(aE dU q.e z8.2).2)),q.g,(bW (bW q.l q.b (3,(aE iH q.l q.b).2)) q.b ((aE iH (bW q.l q.b (3,(aE iH q.l q.b).2)) q.b).1,x.c,((aE iH (bW q.l q.b (3,(aE iH q.l q.b).2)) q.b).2).2)))))))) (bp x.b 17 (bM itK q.2.1.a x.c λz9=>(ck (fO z9.2 (ah q.e)) (ck (fO q.b (ah q.l)) (ck (fO q.b (ah (bW q.l q.b (2,(aE iH q.l q.b).2)))) (aJ (0,q.a,q.c,(bW q.e z9.2 (q.b,(aE dU q.e z9.2).2)),q.g,(bW (bW q.l q.b (2,(aE iH q.l q.b).2)) q.b ((aE iH (bW q.l q.b (2,(aE iH q.l q.b).2)) q.b).1,0,((aE iH (bW q.l q.b (2,(aE iH q.l q.b).2)) q.b).2).2)))))))) (bp x.b 18 (aw (lx ((q.a,x.f),q.h)) λy10=>(bT (aB (ah q.l) (ah y10.d)&&(aB (ah q.g) (ah y10.a)&&(aB (ah q.e) (ah y10.2.1)&&J))) (aJ (y10.1,q.a,q.c,y10.2)))) (bp x.b 19 (aw (iT ((q.a,x.c),q.h)) λI=>(bT (aB (ah q.l) (ah I.d)&&(aB (ah q.g) (ah I.a)&&(aB (ah q.e) (ah I.2.1)&&J))) (aJ (I.1,q.a,q.c,I.2)))) (bp x.b 20 (ck (fO x.c (ah q.l)) (aJ (0,q.a,q.c,q.e,q.g,(bW q.l x.c (1,(aE iH q.l x.c).2))))) (bp x.b 22 (ck (fO x.c (ah q.g)) (aJ (0,q.a,q.c,q.e,(bW q.g x.c J),q.l))) (aJ (0,q.a,q.f)))))))))))))))))))) λx3=>(Z ((x3.b,x3.2.1,x3.f),x3.1,J))))))
def s5 (x:q!):aj (aue×(π)×n?):=
 (bT (cN 0 (a8 x.1)&&cN (a8 x.1) (a8 x.1)&&bk (aL (a8 x.1)) 32&&decide (((a8 x.1):Int)=3)) (jn (α:=mj×Int×(π)×n?) (bO 0 (a8 x.1) (bM dU x.1 0 λq=>(aw (ny q.2) λI=>(bO 1 (a8 x.1) (bM dU x.1 1 λA=>(aw (ny A.2) λy5=>(bO 2 (a8 x.1) (bM dU x.1 2 λz6=>(aw (ny z6.2) λy7=>(bO 3 (a8 x.1) (bM dU x.1 3 λz8=>(aw (ny z8.2) λy9=>U)) (aJ (x,0,(q.1,A.1,z6.1),I,y5,y7))))) (aJ (x,0,(q.1,A.1,0),I,y5,([]:η)))))) (aJ (x,0,(q.1,0,0),I,([]:η),([]:η)))))) (aJ (x,0,(0,0,0),([]:η),([]:η),([]:η)))) λx1=>(aw (HE x1.1.a) λy10=>(aw (HC x1.1.d) λy11=>(Z ((x1.1.2.1,y10,y11),x1.2.2))))))
def mG (x:R?):aj (mj×i?):=
 (aw (gq (x.1,x.2.1,x.a,x.b,x.c)) λy1=>(aK (!y1) (Z ((([]:Y d!),0,([]:θ),([]:Y ey)),0,af)) (aw (s5 x.2.1) λI=>(jn (α:=Int×aue×Int×((Int×η)×(Int×η)×Int)×Bool×η) (bp x.b 1 (vI x.a I.1.2.2 U) (bp x.b 2 (vI x.a I.1.2.2 U) (jn (α:=Bool×kX×aue×Int×Int×(π)×n?) (bp x.b 6 (aJ ((decide ((x.b:Int)=6)),x.1,I.1,x.a,0,I.2)) (aJ ((decide ((x.b:Int)=10)),x.1,I.1,x.a,0,I.2))) λA=>(aK A.1 U (jn (bp x.b 7 (aJ ((decide ((x.b:Int)=7)),A.2.1,A.a,A.b,A.c,(A.e.1,A.g,A.e.2.1,A.j,A.e.2.2),A.n)) (aJ ((decide ((x.b:Int)=11)),A.2.1,A.a,A.b,A.c,(A.e.1,A.g,A.e.2.1,A.j,A.e.2.2),A.n))) λq=>(aK q.1 U (bp x.b 8 (bp x.c 0 U (bp x.c 1 U (bp x.c 2 (bT (bk (ah q.i+ah ([q.b])) 8) (aw (zY (q.i++([q.b]))) λy6=>(bT (aB (ah (q.i++([q.b]))) (ah y6)&&J) (aw (nu y6) λy7=>(bT (aB (ah y6) (ah y7)&&J) (aJ (0,q.a,q.c,((q.e.1,q.e.2.1),(q.e.a,q.e.b),q.e.f),J,y7))))))) U))) (bp x.b 9 (bp x.c 0 U (bp x.c 1 U (bp x.c 2 (aw (kG (q.i,q.b)) λy8=>(bT (aB (ah q.i) (ah q.i)&&J) (aJ (0,q.a,q.c,((q.e.1,q.e.2.1),(q.e.a,q.e.b),q.e.f),af,y8.2)))) U))) (bp x.b 12 (aJ (0,(q.b,q.a.2),q.c,((q.e.1,q.e.2.1),(q.e.a,q.e.b),q.e.f),J,q.i)) (bp x.b 13 (aJ (0,((-1),q.a.2),q.c,((q.e.1,q.e.2.1),(q.e.a,q.e.b),q.e.f),J,q.i)) (bp x.b 14 (vI q.b q.a.2.2 U) (bp x.b 15 (vI q.b q.a.2.2 U) (bp x.b 16 U (bp x.b 17 U (bp x.b 18 U (bp x.b 19 U (bp x.b 20 (vI x.c q.a.2.2 U) (bp x.b 22 (vI x.c q.a.2.1 U) (aJ (0,q.a,q.c,((q.e.1,q.e.2.1),(q.e.a,q.e.b),q.e.f),J,q.i)))))))))))))))))))) λx3=>(Z (([x3.b.1,x3.b.2.1,(x3.b.2.2,x3.h)],x3.2.1),x3.1,J))))))
def mh (x:R?):aj (mj×i?):=orE (iU x) (mG x)
def mC (x:kX×L!):aj (rX×Bool):=
 (jn (α:=Bool×H?) (aw (mB (x.1,x.2.1)) λy2=>(aK (!y2) (aJ (J,x.1,x.2.1,x.2.2,0)) (bO x.a 0 (aJ (J,x.1,x.2.1,x.2.2,0)) (jO (a8 x.1.c) x.a (aJ (J,x.1,x.2.1,x.2.2,0)) (bO x.b 1 (aJ (J,x.1,x.2.1,x.2.2,0)) (aJ ((hY 23 x.b),x.1,x.2.1,x.2.2,0))))))) λx1=>(aK x1.1 (Z (((([]:Y d!),0,([]:θ),([]:Y ey)),([]:η),([]:η),([]:η)),af)) (jn (aw (gq (x1.2.1,x1.a.1,x1.b.1,x1.b.2.1,x1.b.a)) λy4=>(aK (!y4) (aJ (J,x1.2)) (aw (nh (x1.2.1,x1.b)) λy5=>(aK (!y5) (aJ (J,x1.2)) (aw (gZ (x1.2.1,x1.a,x1.b)) λy6=>(aK (!y6) (aJ (J,x1.2)) (aw (iG (x1.a,x1.b)) λy7=>(aJ ((!y7),x1.2))))))))) λx3=>(aK x3.1 (Z (((([]:Y d!),0,([]:θ),([]:Y ey)),([]:η),([]:η),([]:η)),af)) (jn (α:=Int×H?) (bp x3.b.2.1 18 (aJ (x3.b.b,x3.2)) (aJ ((-1),x3.2))) λq=>(aw (mh (q.2.1,q.a.1,q.b.1,q.b.2.1,q.b.a,q.1)) λy9=>(aK (!y9.2.2) (Z (((([]:Y d!),0,([]:θ),([]:Y ey)),([]:η),([]:η),([]:η)),af)) (aw (Dc q.a.2.1) λy10=>(aw (Dc q.a.a) λI=>(aw (ny q.a.d) λy12=>(jn (bp q.b.2.1 4 (ck (fO q.b.a (ah y10)) (aJ (q.b,q.f,y9.1,(bW y10 q.b.a q.b.b),I,y12))) (bp q.b.2.1 22 (ck (fO q.b.a (ah I)) (aJ (q.b,q.f,y9.1,y10,(bW I q.b.a q.b.b),y12))) (aJ (q.b,q.f,y9.1,y10,I,y12)))) λA=>(nI aO A.h A.1.1 λz14=>(ck (fO A.1.1 (ah A.h)) (Z ((A.a,A.b,A.c,(bW A.h A.1.1 (cH z14))),J)))))))))))))))
def lG (it:GM) (x:Yd9×Y θ):aj (Bool×Y θ):=
 (it ((ν×Int)×Y θ) _ (λx1=>(bO x1.1.2 2 (bT (cN 0 x1.1.2&&hY x1.1.2 2) (lt (aE ((.sl aO)) [x.1.g,x.1.l] x1.1.2) λz2=>(it ((ν×Int)×Y θ) _ (λq=>(bO q.1.2 (a8 z2) (bM aO z2 q.1.2 λI=>(jn (bO I 0 (aJ (((q.1.1.1,aZ (aL q.1.1.2)),J),q.2)) (jO (aZ (aL q.1.1.2)) I (aJ (((q.1.1.1,aZ (aL q.1.1.2)),J),q.2)) (bT (fO I (aL q.1.1.2)) (vI q.1.1.1 q.2 (bM (.bool) (BX (T:=.bool) q.2 q.1.1.1) I λz6=>(aJ (((q.1.1.1,aZ (aL q.1.1.2)),(!z6)),q.2))))))) λA=>(aK A.1.2 (aJ (bR (af,A.2))) (cW (((A.1.1.1,aZ (aL A.1.1.2)),(cH q.1.2)),A.2))))) (aJ (lB (((q.1.1.1,aZ (aL q.1.1.2)),(cH x1.1.2)),q.2))))) (((x1.1.1.1,aZ (aL x1.1.1.2)),0),x1.2)))) (aJ (J,x1.2)))) (((x.1.1.1,aZ (aL x.1.1.2)),0),x.2))
def ov (x:Yd9×Y θ):aj (Bool×Y θ):=lG @iter x
def fH (x:Yd9×Y θ):aj (Bool×Y θ):=lG @jG x
def oB (it:GM) (x:z!):aj ν:=
 (bO 400 (a8 x.2) (Z (0,2)) (aw (ji x.1) λy1=>(aK (!y1) (Z (0,1)) (aw (fX x.1) λy2=>(bT (cN 0 (a8 x.1.c)&&cN (a8 x.1.c) (a8 x.1.c)&&bk (aL (a8 x.1.c)) 24) (it (Int×(kX×Y rW)×rX×(η)×Y θ) _ (λA=>(bO A.1 (a8 x.2) (bM iP x.2 A.1 λI=>(aw (mC (A.2.1.1,A.a,I)) λy5=>(jn (aK (!y5.2) (aJ (J,A.2.1,A.a,A.b,I,y5.1,A.f)) (ck (fO I.1 (ah A.b)) (aw (fH (((I.1,aZ (aL (QR A.b I.1))),I),A.f)) λy7=>(aJ ((!y7.1),A.2.1,A.a,A.b,I,y5.1,y7.2))))) λq=>(aK q.1 (aJ (A.1,12)) (jn (α:=(kX×Y rW)×rX×(η)×rX×Y θ) (ck (fO q.c.1 (ah q.b)) (bp q.c.2.1 3 (vI q.c.1 q.i (bT (aB (aL (QR q.b q.c.1)) (ah (BX (T:=.bool) q.i q.c.1))&&bk ((aL (QR q.b q.c.1))+ah ([J]:θ)) 1) (ck (fO q.c.1 (ah q.b)) (aJ (q.2.1,q.a,(Eg q.b (aL q.c.1) (aZ (ah ((BX (T:=.bool) q.i q.c.1)++([J]))))),q.e,(zN (T:=.bool) (zN (T:=.bool) q.i q.c.1 []) q.c.1 ((BX (T:=.bool) q.i q.c.1)++([J])))))))) (vI q.c.1 q.i (bT (aB (aL (QR q.b q.c.1)) (ah (BX (T:=.bool) q.i q.c.1))&&bk ((aL (QR q.b q.c.1))+ah ([(decide ((q.c.2.1:Int)=23))]:θ)) 1) (ck (fO q.c.1 (ah q.b)) (aJ (q.2.1,q.a,(Eg q.b (aL q.c.1) (aZ (ah ((BX (T:=.bool) q.i q.c.1)++([(decide ((q.c.2.1:Int)=23))]))))),q.e,(zN (T:=.bool) (zN (T:=.bool) q.i q.c.1 []) q.c.1 ((BX (T:=.bool) q.i q.c.1)++([(decide ((q.c.2.1:Int)=23))])))))))))) λx8=>(cW ((cH A.1),x8.1,x8.b,x8.a,x8.f))))))) (aJ (0,0)))) (0,x,y2,(aA (aL (a8 x.1.c)) (0:Int)),(aA (aL (a8 x.1.c)) ([]:θ)))))))))
def sT (x:z!):aj ν:=oB @iter x
def iS (x:z!):aj ν:=oB @jG x
def Bs (it:GM) (x:z!):aj ((Y η)×Int):=
 (aw (iS x) λy1=>(jP y1.2 0 (Z (([]:Y η),12)) (aw (sh x.1) λy2=>(bT (cN 0 (a8 x.2)&&cN (a8 x.2) (a8 x.2)&&bk (aL (a8 x.2)) 24) (it (Int×(kX×Y rW)×Yd2×Y η) _ (λq=>(bO q.1 (a8 x.2) (bM iP x.2 q.1 λI=>(aw (vo (q.2.1.1,q.a,I)) λA=>(ck (fO q.1 (ah q.d)) (cW ((cH q.1),q.2.1,A.1,(bW q.d q.1 A.2)))))) (aJ (q.d,0)))) (0,x,y2,(aA (aL (a8 x.2)) ([]:η))))))))
def F_ (x:z!):aj ((Y η)×Int):=Bs @iter x
def rU (x:z!):aj ((Y η)×Int):=Bs @jG x
abbrev M?:=(kX×Y rW)×Y ν
def EC (it:GM) (x:z!):aj (Wn×Int):=
 (aw (rU x) λy1=>(jP y1.2 0 (Z (([]:Y ν),y1.2)) (aw (rR x.2) λy2=>(it (Int×M?) _ (λA=>(bO A.1 (a8 x.2) (it (Int×M?) _ (λq=>(bO q.1 A.1 (jn (α:=M?) (jn (aw (s8 (q.2.1,q.1,A.1)) λy7=>(aK y7 (bM (.sl aO) y1.1 A.1 λz8=>(bM gW y2 q.1 λz9=>(aw (qS (z8,z9)) λy10=>(aJ ((!y10),q.2))))) (aJ (af,q.2)))) λI=>(aK I.1 (bT (bk (ah I.2.2+ah ([(q.1,A.1)])) 16) (aJ (I.2.1,(I.2.2++([(q.1,A.1)]))))) (aJ I.2))) λx5=>(cW ((cH q.1),x5))) (aJ (lB ((cH A.1),q.2))))) (0,A.2)) (aJ (A.2.2,0)))) (0,x,([]:Y ν))))))
def Jy (x:z!):aj (Wn×Int):=EC @iter x
def uz (x:z!):aj (Wn×Int):=EC @jG x
def xc (x:(kX×Y rW)×Int):aj rX:=
 (aw (uq x.1.1) λI=>(iter (σ:=Int×(kX×Y rW)×Int×Q?) (λx2=>(bO x2.1 x.2 (bM iP x2.2.1.2 x2.1 λq=>(aw (nY (x2.2.1.1,x2.d,q)) λA=>(cW ((cH x2.1),x2.2.1,x2.a,A.1)))) (aJ x2.d))) (0,x.1,0,I)))
def xd (x:(kX×Y rW)×Int):aj ((Y ud)×Int):=
 (aw (xg x.1) λI=>(jP I.2 0 (Z (([]:Y ud),12)) (jn (bO x.2 1 (aJ (J,x.1)) (aJ ((hY 16 x.2),x.1))) λx2=>(aK x2.1 (Z (([]:Y ud),1)) (iter (σ:=Int×(kX×Y rW)×Y ud) (λq=>(bO q.1 (a8 q.2.1.2) (aw (xc (q.2.1,q.1)) λA=>(bT (cN 0 q.1&&(cN q.1 (ab0 (aU .i64 (q.1+x.2)) (a8 q.2.1.2))&&cN (ab0 (aU .i64 (q.1+x.2)) (a8 q.2.1.2)) (ah q.2.1.2))) (bT (bk (ah q.2.2+ah ([(q.2.1.1,q.1,A,(cG (aL (ab0 (aU .i64 (q.1+x.2)) (a8 q.2.1.2))-aL q.1) (oR (aL q.1) q.2.1.2)))])) 328) (cW ((aU .i64 (q.1+x.2)),q.2.1,(q.2.2++([(q.2.1.1,q.1,A,(cG (aL (ab0 (aU .i64 (q.1+x.2)) (a8 q.2.1.2))-aL q.1) (oR (aL q.1) q.2.1.2)))]))))))) (aJ (q.2.2,0)))) (0,x2.2,([]:Y ud)))))))
def nN (x:q!):aj mj:=
 (aw (HE x.a) λy1=>(aw (HC x.d) λy2=>(iter (σ:=Int×Int×aue×Y (Int×η)) (λq=>(bO q.1 (a8 x.1) (bM dU x.1 q.1 λA=>(aw (Bd A.2) λI=>(bT (bk (ah q.d+ah ([(A.1,I)])) 32) (cW ((cH q.1),q.2.1,q.a,(q.d++([(A.1,I)]))))))) (aJ (q.d,q.a)))) (0,0,(x.2.1,y1,y2),([]:Y d!)))))
def pI (x:η):aj GG:=
 (bT (cN 0 0&&cN 0 (a8 x)&&bk (aL (a8 x)) 16) (iter (σ:=Int×Y (Int×Bool)) (λx1=>(bO x1.1 (a8 x) (bM aO x x1.1 λq=>(bT (bk (ah x1.2+ah ([(q,J)])) 16) (cW ((cH x1.1),(x1.2++([(q,J)])))))) (aJ x1.2))) (0,(aA (aL 0) ((0,af):i?)))))
def s6 (x:F!):aj G2:=
 (aw (nN x.a.1) λI=>(aw (pI x.a.2.1) λA=>(aw (pI x.a.a) λq=>(bT (cN 0 (a8 x.d)&&cN (a8 x.d) (a8 x.d)&&bk (aL (a8 x.d)) 1) (bT (cN 0 (a8 x.d)&&cN (a8 x.d) (a8 x.d)&&bk (aL (a8 x.d)) 8) (Z (I,A,q,([]:η),(aA (aL (a8 x.d)) (af:Bool)),(aA (aL (a8 x.d)) (0:Int)))))))))
abbrev N!:=ud×G2×Int
def mZ (x:N!):aj (Int):=
 (jn (bO x.2.2 0 (aJ (J,x.1,x.2.1)) (aJ ((cN (a8 x.1.1.c) x.2.2),x.1,x.2.1))) λx1=>(aK x1.1 (Z (-1)) (iter (σ:=Int×h!) (λx2=>(bO x2.1 (a8 x1.2.1.d) (bM iP x1.2.1.d x2.1 λA=>(jn (bp A.1 x.2.2 (aw (fZ (x2.c,x2.1)) λI=>(aJ ((!I),x2.2))) (aJ (af,x2.2))) λq=>(aK q.1 (aJ x2.1) (cW ((cH x2.1),q.2))))) (aJ (-1)))) (0,x1.2.2))))
abbrev F?:=Int×G2×η
def pJ (x:ud×G2×d!):aj (Bool):=
 (bp (a8 x.d) 0 (Z J) (jn (bO x.a 0 (aJ (J,x.1,x.2.1)) (jO (a8 x.1.1.c) x.a (aJ (J,x.1,x.2.1)) (aJ ((cN (a8 x.1.a.d) x.a),x.1,x.2.1)))) λx1=>(aK x1.1 (Z af) (bM aO x1.2.1.a.d x.a λz2=>(iter (σ:=F?) (λA=>(bO A.1 (a8 x1.2.1.d) (jn (α:=G2×η) (bM iP x1.2.1.d A.1 λz5=>(bp z5.1 x.a (bT (bk (ah A.2.2+ah ([A.1])) 8) (aJ (A.2.1,(A.2.2++([A.1]))))) (aJ A.2))) λx4=>(cW ((cH A.1),x4))) (aw (iter (σ:=F?) (λq=>(bO q.1 (a8 x.d) (jn (bM aO x.d q.1 λI=>(bO I z2 (aJ q.2) (jn (bO (aU .i64 (I-z2)) 0 (aJ (J,q.2)) (jO (a8 q.2.2) (aU .i64 (I-z2)) (aJ (J,q.2)) (nI aO q.2.2 (aU .i64 (I-z2)) λz10=>(jO (a8 q.2.1.c) z10 (aJ (J,q.2)) (nI aO q.2.2 (aU .i64 (I-z2)) λz11=>(bM (.bool) q.2.1.c z11 λz12=>(aJ ((!z12),q.2)))))))) λx9=>(aK x9.1 (cW (bR af)) (aJ x9.2))))) λx7=>(cW ((cH q.1),x7))) (aJ J))) (0,A.2)) λr=>Z (bR r)))) (0,x1.2.2,([]:η)))))))
def gM (x:N!):aj (Bool):=
 (aw (mZ x) λA=>(bO A 0 (Z af) (bM iP x.1.d A λq=>(jn (aw (gq (x.1.1,x.2.1.1,x.2.2,q.2.1,q.a)) λy4=>(aK y4 (aw (pJ (x.1,x.2.1,x.2.2,q.e)) λI=>(aJ I)) (aJ af))) λx3=>(Z x3)))))
def vk (x:ud×h!):aj (Bool):=
 (jn (bp (a8 x.a) (a8 x.1.1.1) (bp (a8 x.b) (a8 x.1.1.b) (bp (a8 x.e) (a8 x.1.d) (aJ (decide (((a8 x.i):Int)=(a8 x.1.d)))) (aJ af)) (aJ af)) (aJ af)) λx1=>(Z x1))
def vm (x:ud×G2×g!):aj (G2×Bool):=
 (jn (α:=Bool×ud×G2×(ν)×Int) (aw (vk (x.1,x.2.1)) λy2=>(aK (!y2) (aJ (J,x.1,x.2.1,x.2.2,0)) (aw (gM (x.1,x.2.1,x.a)) λy3=>(aJ ((!y3),x.1,x.2.1,x.2.2,0))))) λx1=>(aK x1.1 (Z (((([]:Y d!),0,([]:θ),([]:Y ey)),([]:Y i?),([]:Y i?),([]:η),([]:θ),([]:η)),af)) (aw (mZ (x1.2.1,x1.a,x1.b.1)) λy4=>(bM iP x1.2.1.d y4 λz5=>(aw (mh (x1.2.1.1,x1.a.1,x1.b.1,z5.2.1,z5.a,x1.b.2)) λy6=>(aK (!y6.2.2) (Z (((([]:Y d!),0,([]:θ),([]:Y ey)),([]:Y i?),([]:Y i?),([]:η),([]:θ),([]:η)),af)) (jn (α:=ud×G2×(ν)×Int×rW×aDj×GG×GG×(θ)×η) (aw (Dd x1.a.2.1) λy8=>(aw (Dd x1.a.a) λy9=>(bT ((decide ((a8 x1.a.b)=(a8 x1.a.b))&&cN 0 (a8 x1.a.b))&&cN (a8 x1.a.b) (ah x1.a.b)) (bT (bk (ah (cG (aL (a8 x1.a.b)) x1.a.b)+ah ([y4])) 8) (aK (aB (ah ([y4])) 0) (aw (z_ x1.a.c) λy10=>(aw (ny x1.a.h) λy11=>(aJ (x1.2.1,x1.a,x1.b,x1.f,z5,(y6.1.1,y6.1.2.1,y6.1.a,y6.1.d,(cG (aL (a8 x1.a.b)) x1.a.b)),y8,y9,y10,y11)))) (aw (z_ x1.a.c) λy12=>(aw (ny x1.a.h) λy13=>(aJ (x1.2.1,x1.a,x1.b,x1.f,z5,(y6.1.1,y6.1.2.1,y6.1.a,y6.1.d,((cG (aL (a8 x1.a.b)) x1.a.b)++([y4]))),y8,y9,y12,y13))))))))) λA=>(jn (α:=G2×Int×rW×aDj×(Int×Bool)×(Int×Bool)×GG×GG×(θ)×η) (aw (pJ (A.1,A.2.1,A.a.1,A.c.i)) λy15=>(aK y15 (aJ (A.2.1,A.b,A.c,A.e,(A.c.b,J),(A.c.b,J),A.i)) (aJ (A.2.1,A.b,A.c,A.e,(A.c.b,J),(0,af),A.i)))) λq=>(jn (bp q.a.2.1 3 (bM BO q.1.2.1 q.a.a λz17=>(ck (fO y4 (ah q.p8)) (aJ (q.2.1,q.b,q.g,q.j,(bW q.p8 y4 (QV (.pr aO (.pr .bool .un)) (z17.1,z17.2,()) (q.c.1,q.c.2,()) !=af)),q.o)))) (bp q.a.2.1 23 (bM BO q.1.a q.a.a λz18=>(ck (fO y4 (ah q.p8)) (aJ (q.2.1,q.b,q.g,q.j,(bW q.p8 y4 (QV (.pr aO (.pr .bool .un)) (z18.1,z18.2,()) (q.c.1,q.c.2,()) !=af)),q.o)))) (bp q.a.2.1 4 (ck (fO q.a.a (ah q.g)) (aJ (q.2.1,q.b,(bW q.g q.a.a q.e),q.l))) (bp q.a.2.1 22 (ck (fO q.a.a (ah q.j)) (aJ (q.2.1,q.b,q.g,(bW q.j q.a.a q.e),q.n))) (bp q.a.2.1 18 (jO 0 y6.2.1 (ck (fO y4 (ah q.o)) (aJ (q.2.1,q.b,q.g,q.j,q.p8,(bW q.o y4 1)))) (aJ (q.2.1,q.b,q.i))) (bp q.a.2.1 19 (ck (fO y4 (ah q.o)) (aJ (q.2.1,q.b,q.g,q.j,q.p8,(bW q.o y4 y6.2.1)))) (aJ (q.2.1,q.b,q.i)))))))) λI=>(Z (((I.2.1.1,I.2.1.2.1,I.2.1.a,I.2.1.b),I.a,I.b,I.2.1.f,I.f),J)))))))))))
def pN (x:b?):aj (Bool):=
 (jn (bp x.2.1 3 (aJ J) (aJ (decide ((x.2.1:Int)=4)))) λx1=>(Z x1))
def C_ (x:Int):aj (Bool):=
 (jn (bp x 6 (aJ (decide ((x:Int)=6))) (bp x 8 (aJ (decide ((x:Int)=8))) (bp x 10 (aJ (decide ((x:Int)=10))) (bp x 17 (aJ (decide ((x:Int)=17))) (aJ (decide ((x:Int)=21))))))) λx1=>(aK x1 (Z J) (Z af)))
def qQ (x:F!):aj ((ud×Y mj)×Bool):=
 (jn (α:=Bool×ud×(ν)×v!) (bO 16 (a8 x.d) (aJ (J,x,(0,0),x.1.1,x.1.2.1,x.1.a,x.1.b,x.1.c,x.1.h,x.2.1,x.a.1.1,x.a.1.2.1,x.a.1.a,x.a.1.d,x.a.2.1,x.a.a,x.a.d,x.d)) (aJ ((hY 4 (a8 x.1.c)),x,(0,0),x.1.1,x.1.2.1,x.1.a,x.1.b,x.1.c,x.1.h,x.2.1,x.a.1.1,x.a.1.2.1,x.a.1.a,x.a.1.d,x.a.2.1,x.a.a,x.a.d,x.d))) λx1=>(aK x1.1 (Z ((((x1.b,x1.c,x1.e,x1.g,x1.j,x1.p8),x1.k,((x1.m,x1.q,x1.p,x1.u),x1.r,x1.v,x1.w),x1.z),([]:Y mj)),af)) (iter (σ:=Int×ud×(ν)×aDk×mj×Y mj) (λx2=>(bO x2.1 (a8 x1.2.1.d) (bM iP x1.2.1.d x2.1 λA=>(bT (bk (ah x2.h+ah ([x2.c])) 80) (jn (α:=Int×ud×(ν)×aDk×mj×rW×Y mj) (bp A.2.1 18 (aJ (A.b,x2.2.1,x2.a,x2.b,x2.c,A,(x2.h++([x2.c])))) (aJ ((-1),x2.2.1,x2.a,x2.b,x2.c,A,(x2.h++([x2.c]))))) λq=>(aw (mh (q.2.1.1,q.c,q.e.1,q.e.2.1,q.e.a,q.1)) λI=>(aK (!I.2.2) (aJ ((((q.b.1,q.b.2.1,q.b.a,q.b.b,q.b.c,q.b.e),q.b.g,((q.b.j,q.b.p8,q.b.k,q.b.m),q.b.q,q.b.p,q.b.u),q.b.F),q.i),af)) (cW ((cH x2.1),q.2.1,q.a,q.b,I.1,q.i))))))) (aJ ((((x2.b.1,x2.b.2.1,x2.b.a,x2.b.b,x2.b.c,x2.b.e),x2.b.g,((x2.b.j,x2.b.p8,x2.b.k,x2.b.m),x2.b.q,x2.b.p,x2.b.u),x2.b.F),x2.h),J)))) (0,x1.2.1,x1.a,x1.d,x1.2.1.a.1,([]:Y mj)))))
abbrev T!:=ud×Y mj
def fI (x:(ud×Y mj)×η):aj (Bool):=
 (iter (σ:=Int×T!) (λx1=>(bO x1.1 (a8 x.2) (bM aO x.2 x1.1 λq=>(jn (bO q 0 (aJ (J,x1.2)) (aJ ((cN (a8 x1.2.1.d) q),x1.2))) λA=>(aK A.1 (aJ af) (cW ((cH x1.1),A.2))))) (aJ J))) (0,x.1))
abbrev D?:=(ud×Y mj)×g!
def fQ (x:D?):aj (Bool):=
 (bM iP x.1.1.d x.2.1 λA=>(bM iP x.1.1.d x.2.2 λq=>(jn (aw (pN A) λy4=>(aK y4 (aw (pN q) λI=>(aK I (bp A.a q.a (bp A.2.1 4 (aJ J) (aJ (decide ((q.2.1:Int)=4)))) (aJ af)) (aJ af))) (aJ af))) λx3=>(Z x3))))
def kM (x:D?):aj (Bool):=
 (jn (α:=Bool×T!) (aw (fI (x.1,[x.2.1,x.2.2])) λy2=>(aK (!y2) (aJ (J,x.1)) (jO x.2.2 x.2.1 (aJ (J,x.1)) (aw (fQ x) λy3=>(aJ ((!y3),x.1)))))) λx1=>(aK x1.1 (Z af) (bM iP x1.2.1.d x.2.1 λq=>(bM iP x1.2.1.d x.2.2 λI=>(jn (jP q.1 I.1 (bM mS x1.2.1.1.1 q.a λA=>(aJ (!A.2.2.2.1))) (aJ af)) λx6=>(Z x6))))))
def oy (x:D?):aj (Bool):=
 (bM iP x.1.1.d x.2.2 λz1=>(bM iP x.1.1.d x.2.1 λz2=>(jn (bp z1.1 z2.1 (aJ (J,x.1,z1,z2)) (aw (C_ z2.2.1) λy4=>(aJ ((!y4),x.1,z1,z2)))) λA=>(aK A.1 (Z af) (jn (jn (bp A.a.2.1 6 (aJ ((decide ((A.a.2.1:Int)=6)),A.2)) (aJ ((decide ((A.a.2.1:Int)=10)),A.2))) λq=>(aK q.1 (aJ ((A.a.a,J),q.2.1,q.d)) (bp A.a.2.1 8 (aJ ((A.a.a,af),q.2.1,q.d)) (bp A.a.2.1 17 (bM itK q.2.1.1.1.a q.a.a λz7=>(aJ ((z7.2,af),q.2.1,q.d))) (bp A.a.2.1 21 (cW (decide ((q.a.a:Int)=q.b))) (cW af)))))) λI=>(bM AL I.2.1.2 x.2.1 λz8=>(bM dU z8.1 I.1.1 λz9=>(jn (bp z9.1 I.a (aJ J) (aK I.1.2 (aw (fZ (z9.2,I.a)) λy11=>(aJ y11)) (aJ af))) λx10=>(Z x10)))))))))
def o9 (x:(ud×Y mj)×η):aj (Bool):=
 (jn (bO (a8 x.2) 2 (aJ (J,x.1)) (bO 4 (a8 x.2) (aJ (J,x.1)) (aw (fI x) λy2=>(aJ ((!y2),x.1))))) λx1=>(aK x1.1 (Z af) (iter (σ:=Int×T!) (λq=>(bO q.1 (a8 x.2) (bM aO x.2 q.1 λI=>(jn (bM aO x.2 0 λz6=>(bO I z6 (aJ (J,q.2)) (bT (!decide (((a8 x.2):Int)=0)) (bM aO x.2 (vE (cH q.1) (a8 x.2)) λz7=>(aw (oy (q.2,z7,I)) λy8=>(aJ ((!y8),q.2))))))) λx5=>(aK x5.1 (aJ af) (bT (cN 0 q.1&&cN q.1 (ah x.2)) (iter (σ:=Int×T!) (λA=>(bO A.1 (aZ (ah (cG (aL q.1) x.2))) (bM aO (cG (aL q.1) x.2) A.1 λz10=>(bM iP A.2.1.d I λz11=>(bM iP A.2.1.d z10 λz12=>(bp z11.1 z12.1 (aJ (bR af)) (cW ((cH A.1),A.2)))))) (aJ (lB ((cH q.1),A.2))))) (0,x5.2)))))) (aJ J))) (0,x1.2))))
def qC (x:D?):aj (Bool):=
 (jn (α:=Bool×T!) (aw (fI (x.1,[x.2.1,x.2.2])) λy2=>(aK (!y2) (aJ (J,x.1)) (aJ ((cN x.2.1 x.2.2),x.1)))) λx1=>(aK x1.1 (Z af) (bM iP x1.2.1.d x.2.1 λA=>(bM iP x1.2.1.d x.2.2 λq=>(jn (jP A.2.1 18 (jP A.2.1 19 (aJ (J,x1.2,A,q)) (jP q.2.1 16 (aJ (J,x1.2,A,q)) (jP A.a q.a (aJ (J,x1.2,A,q)) (aJ ((decide ((A.1:Int)=q.1)),x1.2,A,q))))) (jP q.2.1 16 (aJ (J,x1.2,A,q)) (jP A.a q.a (aJ (J,x1.2,A,q)) (aJ ((decide ((A.1:Int)=q.1)),x1.2,A,q))))) λx5=>(aK x5.1 (Z af) (bT (cN 0 (cH x.2.2)&&(cN (cH x.2.2) x.2.1&&cN x.2.1 (ah x5.2.1.1.d))) (iter (σ:=Int×(ud×Y mj)×rW×b?) (λI=>(bO I.1 (aZ (ah (cG (aL x.2.1-aL (cH x.2.2)) (oR (aL (cH x.2.2)) x5.2.1.1.d)))) (bM iP (cG (aL x.2.1-aL (cH x.2.2)) (oR (aL (cH x.2.2)) x5.2.1.1.d)) I.1 λz7=>(bp z7.1 I.b (aJ af) (cW ((cH I.1),I.2)))) (aw (bM AL I.2.1.2 x.2.1 λz8=>(bM iH z8.2.2.2 I.b λz9=>(jP z9.1 3 (Z af) (jn (bp I.a.2.1 19 (aJ J) (aJ (decide ((I.a.b:Int)=I.b)))) λx10=>(Z x10))))) λr=>Z (bR r)))) (0,x5.2)))))))))
def o_ (x:D?):aj (Bool):=
 (bM iP x.1.1.d x.2.1 λq=>(jn (jO x.2.2 x.2.1 (aJ (J,x.1)) (bM iP x.1.1.d x.2.2 λz3=>(jP z3.1 q.1 (aJ (J,x.1)) (bM AL x.1.2 x.2.1 λz4=>(bM iH z4.2.2.2 q.1 λz5=>(aJ ((!z5.2.2),x.1))))))) λx2=>(aK x2.1 (Z af) (bT (cN 0 (cH x.2.1)&&(cN (cH x.2.1) x.2.2&&cN x.2.2 (ah x2.2.1.d))) (iter (σ:=Int) (λA=>(bO A (aZ (ah (cG (aL x.2.2-aL (cH x.2.1)) (oR (aL (cH x.2.1)) x2.2.1.d)))) (bM iP (cG (aL x.2.2-aL (cH x.2.1)) (oR (aL (cH x.2.1)) x2.2.1.d)) A λI=>(jn (bp I.1 q.1 (aJ (decide ((I.2.1:Int)=15))) (aJ af)) λx8=>(aK x8 (aJ af) (cW (cH A))))) (aJ J))) 0)))))
def ox (x:(ud×Y mj)×k!):aj (Bool):=
 (jn (jO x.c x.e (bM iP x.1.1.d x.c λz2=>(bM iP x.1.1.d x.e λI=>(bp z2.1 I.1 (bM iP x.1.1.d x.c λA=>(bM iP x.1.1.d x.a λq=>(jP A.1 q.1 (aw (fQ (x.1,x.a,x.c)) λy6=>(aK y6 (aw (fQ (x.1,x.e,x.b)) λy7=>(aJ y7)) (aJ af))) (aJ af)))) (aJ af)))) (aJ af)) λx1=>(Z x1))
def kj (x:(ud×Y mj)×k!):aj (Bool):=
 (bp x.2.1 1 (jn (bp x.c 0 (bp x.e 0 (bp (a8 x.i) 0 (aw (kM (x.1,x.a,x.b)) λy2=>(aJ y2)) (aJ af)) (aJ af)) (aJ af)) λx1=>(Z x1)) (bp x.2.1 2 (jn (bp x.a 0 (bp x.b 0 (bp x.c 0 (bp x.e 0 (aw (o9 (x.1,x.i)) λy4=>(aJ y4)) (aJ af)) (aJ af)) (aJ af)) (aJ af)) λx3=>(Z x3)) (bp x.2.1 3 (jn (bp x.c 0 (bp x.e 0 (bp (a8 x.i) 0 (aw (qC (x.1,x.a,x.b)) λy6=>(aJ y6)) (aJ af)) (aJ af)) (aJ af)) λx5=>(Z x5)) (bp x.2.1 4 (jn (α:=Bool) (bp (a8 x.i) 0 (aw (fI (x.1,[x.a,x.b,x.c,x.e])) λI=>(aK I (aw (o_ (x.1,x.a,x.b)) λA=>(aK A (aw (ox x) λq=>(aJ q)) (aJ af))) (aJ af))) (aJ af)) λx7=>(Z x7)) (Z af)))))
def sj (x:ud×k!):aj (Bool):=
 (aw (qQ x.1) λq=>(jn (aK q.2 (aw (kj (q.1,x.2)) λA=>(aJ A)) (aJ af)) λx2=>(Z x2)))
def uA (x:N!):aj (Bool):=
 (jn (jO 0 x.2.2 (bO x.2.2 (a8 x.1.d) (bM iP x.1.d x.2.2 λq=>(aw (mZ (x.1,x.2.1,q.1)) λA=>(aJ (decide ((A:Int)=x.2.2))))) (aJ af)) (aJ af)) λx1=>(Z x1))
def o8 (x:N!):aj (Bool):=
 (jn (aw (uA x) λI=>(aK I (bM iP x.1.d x.2.2 λq=>(aw (gM (x.1,x.2.1,q.1)) λA=>(aJ A))) (aJ af))) λx1=>(Z x1))
def qP (x:ud×G2×k!):aj (Bool):=
 (bp x.a 1 (jn (aw (o8 (x.1,x.2.1,x.b)) λy2=>(aK y2 (aw (o8 (x.1,x.2.1,x.c)) λy3=>(aJ y3)) (aJ af))) λx1=>(Z x1)) (bp x.a 2 (iter (σ:=Int×ud×h!) (λq=>(bO q.1 (a8 x.l) (bM aO x.l q.1 λz5=>(aw (uA (q.2.1,q.2.2,z5)) λy6=>(aK (!y6) (aJ af) (bM iP q.2.1.d z5 λI=>(jn (bp I.2.1 17 (jO (a8 q.a.d) I.1 (aJ (J,q.2)) (bM iH q.a.d I.1 λz9=>(aJ ((!decide ((z9.1:Int)=4)),q.2)))) (aJ (af,q.2))) λx8=>(aK x8.1 (aJ af) (cW ((cH q.1),x8.2)))))))) (aJ J))) (0,x.1,x.2.1)) (bp x.a 3 (jn (bO 0 (a8 x.2.1.b) (bM aO x.2.1.b (aU .i64 ((a8 x.2.1.b)-1)) λz11=>(bp z11 x.c (aw (fZ (x.2.1.b,x.b)) λy12=>(aK y12 (jO 0 x.b (bO x.b (a8 x.2.1.h) (bM aO x.2.1.h x.b λz13=>(aJ (decide ((z13:Int)=0)))) (aJ af)) (aJ af)) (aJ af))) (aJ af))) (aJ af)) λx10=>(Z x10)) (bp x.a 4 (aw (kF (x.2.1.b,x.b)) λA=>(jn (jO 0 A (aw (kF (x.2.1.b,x.e)) λy16=>(bO A y16 (aw (fZ (x.2.1.b,x.g)) λy17=>(aK y17 (aw (o8 (x.1,x.2.1,x.c)) λy18=>(aJ y18)) (aJ af))) (aJ af))) (aJ af)) λx15=>(Z x15))) (Z af)))))
def sq (x:ud×G2×k!):aj (Bool):=
 (jn (aw (qP x) λA=>(aK A (aw (sj (x.1,x.2.2)) λq=>(aJ q)) (aJ af))) λx1=>(Z x1))
def hP (x:Int):aj (Bool):=
 (Z (decide (((asq .i64 x (aU .i64 (x-1))):Int)=0)))
def gu (x:(Int×Int×Bool×Bool)×η):aj (ζ×η):=
 (jn (bO x.1.2.1 2 (aJ (J,x.2)) (bp x.1.2.1 10 (aJ (J,x.2)) (aJ ((hY 36 x.1.2.1),x.2)))) λx1=>(aK x1.1 U (jn (aK x.1.a (aJ ((aU .u64 (0-x.1.1)),x1.2,(aA 65 (0:Int)))) (aJ (x.1.1,x1.2,(aA 65 (0:Int))))) λx2=>(aw (hP x.1.2.1) λI=>(aK I U (iter (σ:=(ν)×S!) (λq=>(jO (aU .u64 x.1.2.1) q.1.1 (bT (!decide (((aU .u64 x.1.2.1):Int)=0)) (vI (aU .u64 (q.1.1-(aU .u64 ((aU .u64 (Int.tdiv q.1.1 (aU .u64 x.1.2.1)))*(aU .u64 x.1.2.1))))) ([48,49,50,51,52,53,54,55,56,57,97,98,99,100,101,102,103,104,105,106,107,108,109,110,111,112,113,114,115,116,117,118,119,120,121,122]) (bT (cN 0 (aU .i64 (q.1.2-1))&&hY (aU .i64 (q.1.2-1)) 65) (vI (aU .i64 (q.1.2-1)) q.2.2 (cW (((aU .u64 (Int.tdiv q.1.1 (aU .u64 x.1.2.1))),(aU .i64 (q.1.2-1))),q.2.1,(bW q.2.2 (aU .i64 (q.1.2-1)) (tW ([48,49,50,51,52,53,54,55,56,57,97,98,99,100,101,102,103,104,105,106,107,108,109,110,111,112,113,114,115,116,117,118,119,120,121,122]) (aU .u64 (q.1.1-(aU .u64 ((aU .u64 (Int.tdiv q.1.1 (aU .u64 x.1.2.1)))*(aU .u64 x.1.2.1))))))))))))) (aw (vI q.1.1 ([48,49,50,51,52,53,54,55,56,57,97,98,99,100,101,102,103,104,105,106,107,108,109,110,111,112,113,114,115,116,117,118,119,120,121,122]) (bT (cN 0 (aU .i64 (q.1.2-1))&&hY (aU .i64 (q.1.2-1)) 65) (vI (aU .i64 (q.1.2-1)) q.2.2 (jn (α:=Int×S!) (aK x.1.a (bT (cN 0 (aU .i64 ((aU .i64 (q.1.2-1))-1))&&hY (aU .i64 ((aU .i64 (q.1.2-1))-1)) 65) (vI (aU .i64 ((aU .i64 (q.1.2-1))-1)) (bW q.2.2 (aU .i64 (q.1.2-1)) (tW ([48,49,50,51,52,53,54,55,56,57,97,98,99,100,101,102,103,104,105,106,107,108,109,110,111,112,113,114,115,116,117,118,119,120,121,122]) q.1.1)) (aJ ((aU .i64 ((aU .i64 (q.1.2-1))-1)),q.2.1,(bW (bW q.2.2 (aU .i64 (q.1.2-1)) (tW ([48,49,50,51,52,53,54,55,56,57,97,98,99,100,101,102,103,104,105,106,107,108,109,110,111,112,113,114,115,116,117,118,119,120,121,122]) q.1.1)) (aU .i64 ((aU .i64 (q.1.2-1))-1)) 45))))) (aJ ((aU .i64 (q.1.2-1)),q.2.1,(bW q.2.2 (aU .i64 (q.1.2-1)) (tW ([48,49,50,51,52,53,54,55,56,57,97,98,99,100,101,102,103,104,105,106,107,108,109,110,111,112,113,114,115,116,117,118,119,120,121,122]) q.1.1))))) λA=>(aK x.1.d (bT (cN 0 A.1&&(hY A.1 65&&aB 65 (ah A.2.2))) (bT (cN 0 A.1&&hY A.1 (ah A.2.2)) (bT (bk (ah A.2.1+ah (oR (aL A.1) A.2.2)) 1) (Z ([],(A.2.1++(oR (aL A.1) A.2.2))))))) (bT (cN 0 A.1&&(hY A.1 65&&aB 65 (ah A.2.2))) U)))))) λr=>Z (bR r)))) ((x2.1,65),x2.2)))))))
def iE (x:Y!):aj η:=
 (bp x.1.2 10 (bO x.1.1 100 U U) (aw (gu ((x.1.1,x.1.2,af,J),x.2)) λq=>(bT (aB (ah x.2) (ah x.2)&&J) (Z q.2))))
def iL (x:Y!):aj η:=
 (jn (α:=d!) (bO x.1.1 0 (bT (bk (ah x.2+ah ([45])) 1) (aJ ((aU .u64 (0-(aU .u64 x.1.1))),(x.2++([45]))))) (aJ ((aU .u64 x.1.1),x.2))) λx1=>(aw (iE ((x1.1,x.1.2),x1.2)) λq=>(bT (aB (ah x1.2) (ah x1.2)&&J) (Z q))))
def lm (x:Y!):aj η:=
 (aw (iL x) λq=>(bT (aB (ah x.2) (ah x.2)&&J) (Z q)))
def eJ (x:d!):aj η:=
 (aw (lm ((x.1,36),x.2)) λq=>(bT (aB (ah x.2) (ah x.2)&&J) (bT (bk (ah q+ah ([32])) 1) (Z (q++([32]))))))
def ip (x:Bool×η):aj η:=
 (aK x.1 (aw (eJ (1,x.2)) λA=>(bT (aB (ah x.2) (ah x.2)&&J) (Z A))) (aw (eJ (0,x.2)) λq=>(bT (aB (ah x.2) (ah x.2)&&J) (Z q))))
def uZ (x:G2×η):aj ζ:=
 (bT (cN 0 (a8 x.2)&&cN (a8 x.2) (a8 x.2)&&bk (aL (a8 x.2)) 1) (iter (σ:=Int×G2×(θ)×η) (λx1=>(bO x1.1 (a8 x.1.b) (bM aO x.1.b x1.1 λz2=>(ck (fO z2 (ah x1.a)) (cW ((cH x1.1),x1.2.1,(bW x1.a z2 J),x1.d)))) (aw (iter (σ:=Int×G2×(θ)×η) (λA=>(bO A.1 (a8 x.2) (jn (bM aO x.2 A.1 λz5=>(nI (.bool) A.a A.1 λz6=>(aw (ip (z6,A.d)) λy7=>(bT (aB (ah A.d) (ah A.d)&&J) (jO 0 z5 (nI (.bool) A.a z5 λz8=>(aK (!z8) (bM (.bool) A.2.1.c A.1 λz9=>(aw (ip (z9,y7)) λy10=>(bT (aB (ah y7) (ah y7)&&J) (aJ (A.2.1,A.a,y10))))) (aw (ip (af,y7)) λy11=>(bT (aB (ah y7) (ah y7)&&J) (aJ (A.2.1,A.a,y11)))))) (aw (ip (af,y7)) λy12=>(bT (aB (ah y7) (ah y7)&&J) (aJ (A.2.1,A.a,y12))))))))) λx4=>(cW ((cH A.1),x4))) (aw (iter (σ:=F?) (λq=>(bO q.1 (a8 A.2.1.1.1) (bM dU A.2.1.1.1 q.1 λz14=>(aw (eJ (z14.1,q.2.2)) λy15=>(bT (aB (ah q.2.2) (ah q.2.2)&&J) (aw (eJ ((a8 z14.2),y15)) λy16=>(bT (aB (ah y15) (ah y15)&&J) (iter (σ:=F?) (λx17=>(bO x17.1 (a8 z14.2) (bM aO z14.2 x17.1 λz18=>(aw (eJ (z18,x17.2.2)) λy19=>(bT (aB (ah x17.2.2) (ah x17.2.2)&&J) (cW ((cH x17.1),x17.2.1,y19))))) (aJ (lB ((cH q.1),x17.2))))) (0,q.2.1,y16))))))) (aw (aw (eJ (q.2.1.1.2.1,q.2.2)) λy20=>(bT (aB (ah q.2.2) (ah q.2.2)&&J) (iter (σ:=F?) (λx21=>(bO x21.1 (a8 q.2.1.1.a) (bM (.bool) q.2.1.1.a x21.1 λz22=>(aw (ip (z22,x21.2.2)) λy23=>(bT (aB (ah x21.2.2) (ah x21.2.2)&&J) (cW ((cH x21.1),x21.2.1,y23))))) (aw (iter (σ:=F?) (λI=>(bO I.1 (a8 x21.2.1.1.d) (bM iH x21.2.1.1.d I.1 λz25=>(aw (eJ (z25.1,I.2.2)) λy26=>(bT (aB (ah I.2.2) (ah I.2.2)&&J) (aw (eJ (z25.2.1,y26)) λy27=>(bT (aB (ah y26) (ah y26)&&J) (aw (ip (z25.2.2,y27)) λy28=>(bT (aB (ah y27) (ah y27)&&J) (cW ((cH I.1),I.2.1,y28))))))))) (aw (iter (σ:=d!) (λx29=>(bO x29.1 2 (bT (cN 0 x29.1&&hY x29.1 2) (lt (aE ((.sl BO)) [I.2.1.2.1,I.2.1.a] x29.1) λz30=>(iter (σ:=d!) (λx31=>(bO x31.1 (a8 z30) (bM BO z30 x31.1 λz32=>(aw (eJ (z32.1,x31.2)) λy33=>(bT (aB (ah x31.2) (ah x31.2)&&J) (aw (ip (z32.2,y33)) λy34=>(bT (aB (ah y33) (ah y33)&&J) (cW ((cH x31.1),y34))))))) (aJ (lB ((cH x29.1),x31.2))))) (0,x29.2)))) (aJ (oL x29.2)))) (0,I.2.2)) λr=>Z (bR r)))) (0,x21.2)) λr=>Z (bR r)))) (0,q.2.1,y20)))) λr=>Z (bR r)))) (0,A.2.1,A.d)) λr=>Z (bR r)))) (0,x1.2)) λr=>Z (bR r)))) (0,x.1,(aA (aL (a8 x.2)) (af:Bool)),([]:η))))
def um (x:Int×h!):aj (Bool×h!):=
 (aw (fZ (x.c,x.1)) λq=>(Z (q,x.2)))
def Db (x:η×h!):aj (Int×h!):=
 (iter (σ:=Int×h!) (λx1=>(bO x1.1 (a8 x.1) (bM aO x.1 x1.1 λA=>(aw (um (A,x1.2)) λq=>(aK q.1 (aJ (x1.1,q.2)) (cW ((cH x1.1),q.2))))) (aJ ((-1),x1.2)))) (0,x.2))
def xt (x:η×h!):aj (Bool×h!):=
 (aw (Db x) λq=>(Z ((cN 0 q.1),q.2)))
def oX (x:G2×k!):aj (Bool):=
 (aw (kF (x.1.b,x.a)) λA=>(aw (kF (x.1.b,x.b)) λq=>(bp x.2.1 1 (jn (jO 0 A (aJ J) (aJ (cN 0 q))) λx3=>(Z x3)) (bp x.2.1 2 (aw (xt (x.i,x.1)) λy4=>(Z y4.1)) (bp x.2.1 3 (jn (jO 0 q (aJ J) (jO 0 A (bM aO x.1.h x.a λI=>(aJ (!decide ((I:Int)=0)))) (aJ af))) λx5=>(Z x5)) (bp x.2.1 4 (jn (jO 0 q (aJ J) (bO A 0 (aw (fZ (x.1.b,x.c)) λy8=>(aJ y8)) (aJ af))) λx7=>(Z x7)) (Z af)))))))
def nK (x:ud×h!):aj Wn:=
 (iter (σ:=Int×ud×G2×Y ν) (λx1=>(bO x1.1 (a8 x.1.1.c) (jn (α:=ud×G2×Y ν) (aw (gM (x1.2.1,x1.a,x1.1)) λy3=>(aK (!y3) (aJ x1.2) (aw (mZ (x1.2.1,x1.a,x1.1)) λy4=>(bM iP x1.2.1.d y4 λz5=>(iter (σ:=(Bool×Int)×ud×G2×Wn×b?) (λq=>(bO q.1.2 (a8 x1.a.1.d) (jn (α:=Bool×ud×G2×Wn×b?) (bM iH x1.a.1.d q.1.2 λI=>(jn (bp q.e 18 (bp I.1 3 (aJ ((decide ((I.2.1:Int)=q.g)),q.2)) (aJ (af,q.2))) (aJ (af,q.2))) λA=>(aK A.1 (bT (bk (ah A.b+ah ([(x1.1,q.1.2)])) 16) (aJ (J,A.2.1,A.a,(A.b++([(x1.1,q.1.2)])),A.f))) (aJ (q.1.1,A.2))))) λx7=>(cW ((x7.1,(cH q.1.2)),x7.2))) (aw (aK (!q.1.1) (bT (bk (ah q.b+ah ([(x1.1,(-1))])) 16) (aJ (q.2.1,q.a,(q.b++([(x1.1,(-1))]))))) (aJ (q.2.1,q.a,q.b))) λr=>Z (bR r)))) ((af,0),x1.2.1,x1.a,x1.d,z5)))))) λx2=>(cW ((cH x1.1),x2))) (aJ x1.d))) (0,x.1,x.2,([]:Y ν)))
abbrev N?:=Int×ud×(η)×(η)×rW×Y η
def ma (x:F!):aj η:=
 (bT (cN 0 (a8 x.d)&&cN (a8 x.d) (a8 x.d)&&bk (aL (a8 x.d)) 8) (iter (σ:=Int×ud×η) (λx1=>(bO x1.1 (aZ (ah (aA (aL (a8 x.d)) (0:Int)))) (ck (fO x1.1 (ah x1.2.2)) (cW ((cH x1.1),x1.2.1,(bW x1.2.2 x1.1 (-1))))) (aw (bT (cN 0 (a8 x1.2.1.1.c)&&cN (a8 x1.2.1.1.c) (a8 x1.2.1.1.c)&&bk (aL (a8 x1.2.1.1.c)) 24) (iter (σ:=Int×ud×(η)×m?) (λx2=>(bO x2.1 (a8 x1.2.1.d) (jn (α:=ud×(η)×m?) (bM iP x1.2.1.d x2.1 λz4=>(jn (bO z4.1 0 (aJ (J,x2.2.1,x2.a,x2.b,z4,x2.f)) (jO (a8 x2.b) z4.1 (aJ (J,x2.2.1,x2.a,x2.b,z4,x2.f)) (aJ ((cN (a8 x2.2.1.a.d) z4.1),x2.2.1,x2.a,x2.b,z4,x2.f)))) λx5=>(aK x5.1 (aJ (x5.2.1,x5.a,x5.b,x5.h)) (iter (σ:=N?) (λq=>(bO q.1 2 (bT (cN 0 q.1&&hY q.1 2) (lt (aE ((.sl aO)) [x5.c.e,x5.c.i] q.1) λz7=>(iter (σ:=N?) (λI=>(bO I.1 (a8 z7) (jn (bM aO z7 I.1 λz10=>(bM aO I.2.1.a.d I.c.1 λz11=>(jn (jO 0 (aU .i64 (z10-z11)) (ck (fO I.c.1 (ah I.b)) (aJ ((hY (aU .i64 (z10-z11)) (aZ (aL (QR I.b I.c.1)))),I.2))) (aJ (af,I.2))) λA=>(aK A.1 (ck (fO A.c.1 (ah A.b)) (bT (fO (aU .i64 (z10-z11)) (aL (QR A.b A.c.1))) (vI A.c.1 A.h (bM aO (BX (T:=aO) A.h A.c.1) (aU .i64 (z10-z11)) λz13=>(ck (fO z13 (ah A.a)) (aJ (A.2.1,(bW A.a z13 x2.1),A.d))))))) (aJ A.2))))) λx9=>(cW ((cH I.1),x9))) (aJ (lB ((cH q.1),I.2))))) (0,q.2)))) (aw (ck (fO q.c.1 (ah q.b)) (vI q.c.1 q.h (bT (aB (aL (QR q.b q.c.1)) (ah (BX (T:=aO) q.h q.c.1))&&bk ((aL (QR q.b q.c.1))+ah ([x2.1]:η)) 8) (ck (fO q.c.1 (ah q.b)) (aJ (q.2.1,q.a,(Eg q.b (aL q.c.1) (aZ (ah ((BX (T:=aO) q.h q.c.1)++([x2.1]))))),(zN (T:=aO) (zN (T:=aO) q.h q.c.1 []) q.c.1 ((BX (T:=aO) q.h q.c.1)++([x2.1]))))))))) λr=>Z (bR r)))) (0,x5.2))))) λx3=>(cW ((cH x2.1),x3))) (aJ x2.a))) (0,x1.2.1,x1.2.2,(aA (aL (a8 x1.2.1.1.c)) (0:Int)),(aA (aL (a8 x1.2.1.1.c)) ([]:η))))) λr=>Z (bR r)))) (0,x,(aA (aL (a8 x.d)) (0:Int)))))
abbrev B!:=ud×Yd8×Wn×(η)×mU×Y Yd7
def oY (x:(Yd7×Int×Int)×B!):aj (Bool×B!):=
 (aw (vm (x.2.1,x.1.1.1,x.1.2)) λq=>(aK (!q.2) (Z (af,x.2)) (jn (α:=Wn×ud×Yd8×Wn×(η)×mU×G2×Y Yd7) (bT ((decide ((a8 x.1.1.2)=(a8 x.1.1.2))&&cN 0 (a8 x.1.1.2))&&cN (a8 x.1.1.2) (ah x.1.1.2)) (bT (bk (ah (cG (aL (a8 x.1.1.2)) x.1.1.2)+ah ([x.1.2])) 16) (aK (aB (ah ([x.1.2])) 0) (aJ ((cG (aL (a8 x.1.1.2)) x.1.1.2),x.2.1,x.a,x.b,x.c,x.e,q.1,x.i)) (aJ (((cG (aL (a8 x.1.1.2)) x.1.1.2)++([x.1.2])),x.2.1,x.a,x.b,x.c,x.e,q.1,x.i))))) λx2=>(aw (sq (x2.2.1,x2.g,x2.a)) λy3=>(aK y3 (Z (J,x2.2.1,x2.a,x2.1,x2.c,x2.e,x2.l)) (aw (oX (x2.g,x2.a)) λI=>(aK I (Z (af,x2.2.1,x2.a,x2.b,x2.c,x2.e,x2.l)) (jn (α:=B!) (aw (uZ (x2.g,x2.c)) λA=>(aK (!(vp (K:=.str) (V:=.bool) A x2.e af)) (bT (bk (ah x2.l+ah ([(x2.g,x2.1)])) 224) (aJ (x2.2.1,x2.a,x2.b,x2.c,(Cw (K:=.str) (V:=.bool) A J x2.e),(x2.l++([(x2.g,x2.1)]))))) (aJ (x2.2.1,x2.a,x2.b,x2.c,x2.e,x2.l)))) λx5=>(Z (af,x5))))))))))
abbrev J?:=(Bool×Y Yd7)×(Y Yd7)×Y (ζ×Bool)
def sV (x:ud×k!):aj (Wn×Bool):=
 (aw (sj x) λy1=>(aK (!y1) (Z (([]:Y ν),af)) (aw (ma x.1) λy2=>(aw (s6 x.1) λy3=>(aw (sq (x.1,y3,x.2)) λy4=>(aK y4 (Z (([]:Y ν),J)) (iter (σ:=ud×Yd8×(η)×Bool×Y Yd7) (λx5=>(bO 0 (a8 x5.f) (iter (σ:=Int×ud×Yd8×(η)×Wn×J?) (λI=>(bO I.1 (a8 x5.f) (nI Z0 I.e.2 I.1 λz7=>(aw (nK (I.2.1,z7.1)) λy8=>(iter (σ:=Int×ud×Yd8×(η)×Wn×Yd7×J?) (λq=>(bO q.1 (a8 y8) (bM gW y8 q.1 λz10=>(aw (oY ((q.e,z10),q.2.1,q.a,q.c,q.b,q.n,q.j)) λA=>(bT (aB (ah q.j) (ah q.j)&&J) (aK A.1 (aJ (bR (bR (A.b,J)))) (cW ((cH q.1),A.2.1,A.a,A.c,A.b,q.e,q.g,A.i,A.e)))))) (aJ (lB ((cH I.1),q.2.1,q.a,q.b,q.c,q.i))))) (0,I.2.1,I.a,I.b,I.c,z7,I.h)))) (aJ (lB (I.2.1,I.a,I.b,J,I.g))))) (0,x5.1,x5.2.1,x5.a,([]:Y ν),x5.d,([]:Y Yd7),([]:Y v?))) (aJ (([]:Y ν),af)))) (x.1,x.2,y2,af,[(y3,([]:Y ν))]))))))))
def CO:Nat:=1000000000
def jl (a b:η):η:=(dV (max (l! a) (l! b))).map λi=>mJ (a.getD i 0) (b.getD i 0)
def Ey (a b:η):l! (jl a b)=max (l! a) (l! b):=by simp[jl]
def JJ (a b:η) (i:Nat):(jl a b).getD i 0=mJ (a.getD i 0) (b.getD i 0):=by
 unfold jl;simp[aC,bH];by_cases h:i<max (l! a) (l! b)
 grind
 rw[eT cf,eT (l:=a) M,eT (l:=b) M];rfl
def QI (c:η) (i:Nat):kY (c,(i:Int))=Z (c.getD i 0):=by
 unfold kY bO vI a8 aJ;rw[Dl M];by_cases h:i<l! c;rw[anl cf];rw[cP (dC h),Ae];rfl;rw[t7 cf];simp_all
def avm (a b:η) (ha:l! a<=CO) (I:l! b<=CO):m6 (a,b)=Z (jl a b):=by
 unfold CO at ha I;unfold m6 yt ck bO bT a8 cW aJ cH;rw[cP (by simp only[Dj];rw[t7 M,t7 M,AT M M];rfl)];simp only[Dj,dH,cQ];have:=Dh (σ:=d!) (R:=η) (max (l! a) (l! b)) M (λi=>((i:Int),(dV (max (l! a) (l! b))).map λk=>if k<i then mJ (a.getD k 0) (b.getD k 0) else 0)) (f:=(λx1=>(aK (hY x1.1 (aZ (max (l! a) (l! b)))) (aw (kY (a,x1.1)) λA=>(aw (kY (b,x1.1)) λq=>(chk (fO x1.1 (ah x1.2)) λ_=>(chk (fO x1.1 (ah x1.2)) λ_=>(Z (lB ((aU .i64 (x1.1+1)),(bW x1.2 x1.1 (mJ A q))))))))) (Z (bR x1.2))))) (r:=jl a b) ?_ ?_;refine Eq.trans ?_ this;congr 1;simp[GU,fJ,dQ,aT,FW];apply eQ<;>simp;intro i hi;rw[Ac cf,fg,QI,QI,d6,d6,cP (dC cf),cP (dC cf),uf hi M,hZ];congr 3;apply eQ;simp
 grind
 simp[];rw[Dl b8,gf];unfold jl;simp_all
def akq (a b:η) (ha:l! a<=CO) (I:l! b<=CO):wz (a,b)=Z (jl a b,b):=by
 unfold CO at ha I;unfold wz M2 ck bO bT a8 cW aJ cH;have hm:max (l! a) (l! b)<=1000000000:=M;rw[cP (by simp only[Dj];rw[t7 M,t7 M,AT ye ye];rfl)];simp only[Dj,dH,cQ];have:=Dh (σ:=Int×u!) (R:=u!) (max (l! a) (l! b)) M (λi=>((i:Int),b,(dV (max (l! a) (l! b))).map λk=>if k<i then mJ (a.getD k 0) (b.getD k 0) else 0)) (f:=(λx1=>(aK (hY x1.1 (aZ (max (l! a) (l! b)))) (aw (kY (a,x1.1)) λA=>(aw (kY (x1.2.1,x1.1)) λq=>(chk (fO x1.1 (ah x1.2.2)) λ_=>(chk (fO x1.1 (ah x1.2.2)) λ_=>(Z (lB ((aU .i64 (x1.1+1)),x1.2.1,(bW x1.2.2 x1.1 (mJ A q))))))))) (Z (bR (x1.2.2,x1.2.1)))))) (r:=(jl a b,b)) ?_ ?_;refine Eq.trans ?_ this;congr 1;simp only[GU,fJ,dQ,aT,FW];apply eQ<;>simp;intro i hi;simp only[];rw[Ac ye,fg,QI,QI,d6,d6,cP (dC (by simpa using hi)),cP (dC (by simpa using hi)),uf hi M,hZ];congr 4;apply eQ;simp;intro k h1 h2;simp only[bL,q_]at h2;simp only[List.getElem_set,List.getElem_map,List.getElem_range];by_cases e:i=k;subst e;simp;by_cases h:k<i;rw[av e,aD h,aD M];rw[av e,av h,av M];simp only[];rw[Dl b8,gf];congr 3;unfold jl;apply zA;intro k hk;rw[aD (px.1 hk)]
def ZO (a b:η) (A:l! a<=CO) (q:l! b<=CO):Gi (a,b)=Z (jl a b):=by
 unfold Gi;rw[akq a b A q,d6];exact WO rfl _
def tk (c:η) (t:Nat):η:=(c++aA (t+1-l! c) 0).set t (c.getD t 0+1)
def Sj (c:η) (t:Nat):l! (tk c t)=max (l! c) (t+1):=by simp[tk];omega
def padD (c:η) (n i:Nat):(c++aA n 0).getD i 0=c.getD i 0:=cf
def Nm (c:η) (t i:Nat):(tk c t).getD i 0=if i=t then c.getD t 0+1 else c.getD i 0:=by
 unfold tk
 grind
def aos (c:η) (n:Nat) (h:l! c<=n):ZZ (aA n 0) c=c++aA (n-l! c) 0:=by
 unfold ZZ;rw[cQ,dZ h,List.drop_replicate]
def auk (c:η) (t:Nat) (A:l! c<=CO) (ht:t<4) (h0:0<=c.getD t 0) (h1:c.getD t 0<9223372036854775807):vq (c,(t:Int))=Z (tk c t):=by
 unfold CO at A;unfold vq ck jO bT a8 aJ cH;rw[t7 M,fg,oO,Ac M];simp only[fg,oO];have e1:mJ (aZ (l! c)) (aU .i64 ((t:Int)+1))=((max (l! c) (t+1):Nat):Int):=by
  rw[uf ht M];exact Dj _ _
 rw[e1];rw[cP (by rw[t7 M,t7 M,AT M M];rfl)];rw[dH];have e2:ZZ (aA (max (l! c) (t+1)) (0:Int)) c=c++aA (t+1-l! c) 0:=by
  rw[aos c _ M]
  grind
 rw[e2];have q:t<l! (c++aA (t+1-l! c) (0:Int)):=ye;rw[cP (dC q),cP (dC q),oO];have I:aE aO (c++aA (t+1-l! c) (0:Int)) (t:Int)=c.getD t 0:=by
  exact padD c _ t
 rw[I,Ac h1,fg,cP (dC q),cP (dC q),cP (dC q),cP (dC q),oO,avv M M,hZ];rfl
def ZU (c:η) (q:l! c<=CO):Bd c=Z c:=by
 unfold CO at q;unfold Bd;rw[cP (AT M M)]
def T_ (c:η) (q:l! c<=CO):yl c=Z c:=by
 unfold CO at q;unfold yl zZ bT;rw[cP (AT ye ye),d6];exact WO rfl _
def Ua (c:η) (q:l! c<=CO):ny c=Z c:=ZU c q
def GL (l:Y η):Prop:=l! l<=CO/\∀c∈l,l! c<=CO
abbrev HTp:Type:=Y η×Y η×Y η×Y η×Y η×Y η×η×Y η×η
def GH (h:HTp):Prop:=GL h.1/\GL h.2.1/\GL h.2.2.1/\GL h.2.2.2.1/\GL h.2.2.2.2.1/\GL h.2.2.2.2.2.1/\l! h.2.2.2.2.2.2.1<=CO/\GL h.2.2.2.2.2.2.2.1/\l! h.2.2.2.2.2.2.2.2<=CO
def OJ {l:Y η} (h:i<l! l):l.getD i []∈l:=cf
def GL.at {l:Y η} (h:GL l) (i:Nat):l! (l.getD i [])<=CO:=by
 by_cases hi:i<l! l;exact h.2 _ (OJ hi)
 grind
def ajt (g:η->aj η) (l:Y η) (A:l! l<=CO) (I:∀c∈l,g c=Z c):
 jG (σ:=V?) (λx1=>(aK (hY x1.1 (aZ (ah l))) (chk (fO x1.1 (ah l)) λ_=>(aw (g (aE ((.sl (.int .i64))) l x1.1)) λq=>(chk (fO x1.1 (ah x1.2)) λ_=>(chk (fO x1.1 (ah x1.2)) λ_=>(Z (lB ((aU .i64 (x1.1+1)),(bW x1.2 x1.1 q)))))))) (Z (bR x1.2)))) (0,(aA (aL (aZ (ah l))) ([]:η)))=Z l:=by
 unfold CO at A;have:=Dh (σ:=V?) (R:=Y η) (l! l) M (λi=>((i:Int),(dV (l! l)).map λk=>if k<i then l.getD k [] else [])) (f:=(λx1=>(aK (hY x1.1 (aZ (ah l))) (chk (fO x1.1 (ah l)) λ_=>(aw (g (aE ((.sl (.int .i64))) l x1.1)) λq=>(chk (fO x1.1 (ah x1.2)) λ_=>(chk (fO x1.1 (ah x1.2)) λ_=>(Z (lB ((aU .i64 (x1.1+1)),(bW x1.2 x1.1 q)))))))) (Z (bR x1.2))))) (r:=l) ?_ ?_;refine Eq.trans ?_ this;congr 1;simp[GU,fJ,dQ,aT,FW,ax,dH];apply eQ<;>simp;intro i hi;rw[Ac cf,fg,cP (dC hi),Ae,show (l.getD i (Ty.zero (.sl (.int .i64))))=l.getD i [] from rfl,I _ (OJ hi),d6,cP (dC cf),cP (dC cf),uf hi M,hZ];congr 3;apply eQ;simp
 grind
 simp[];rw[Dl b8,gf];congr 2;apply eQ;simp
 grind
def uH (l:Y η) (h:GL l):jS l=Z l:=by
 have q:=h.1;unfold CO at q;unfold jS Br ck bO vI bT a8 cW aJ cH;rw[cP (by rw[t7 b8,t7 M,AT cf cf];rfl)];exact ajt Bd l h.1 λc A=>ZU c (h.2 c A)
def aju (h:HTp) (g:GH h):xp h=Z (h.2.2.2.2.2.2.1,h.1,h.2.1,h.2.2.1,h.2.2.2.1,h.2.2.2.2.1,h.2.2.2.2.2.1,h.2.2.2.2.2.2.2.1,h.2.2.2.2.2.2.2.2):=by
 let⟨g1,g2,g3,g4,g5,g6,I,A,q⟩:=g;unfold xp bf bB bN cM gE qY xZ;rw[uH _ g1,d6,uH _ g2,d6,uH _ g3,d6,uH _ g4,d6,uH _ g5,d6,uH _ g6,d6,Ua _ I,d6,uH _ A,d6,Ua _ q,d6]
abbrev w?:=Y (ζ×Int×Int×Bool×Int)×Y (ζ×Bool)×Y (ζ×Int)×Y ζ×Y ζ×Y π
abbrev zG:Type:=w?
def h0 (w:zG):HTp:=(aA (l! w.2.2.2.2.1) [],aA (l! w.2.2.2.2.1) [],aA (l! w.2.1) [],aA (l! w.2.1) [],aA (l! w.1) [],aA (l! w.2.2.2.1) [],[],aA (l! w.2.2.2.2.1) [],aA (l! w.2.2.2.2.1) (-1))
def aq3 (w:zG) (h1:l! w.1<=CO) (h2:l! w.2.1<=CO) (A:l! w.2.2.2.1<=CO) (q:l! w.2.2.2.2.1<=CO):sh w=Z (h0 w):=by
 unfold CO at h1 h2 A q;have c:∀n b:Nat,n<=1000000000->b<=24->(cN 0 (aZ n)&&cN (aZ n) (aZ n)&&bk (aL (aZ n)) b)=J:=λn b hn I=>by
  have:n*b<=n*24:=Nat.mul_le_mul_left n I;rw[t7 b8,t7 M,AT cf cf];rfl
 unfold sh EB bf bB bN cM gE qY xZ ck bO bT a8 cW aJ cH;rw[cP (c _ 24 q M),cP (c _ 24 q M),cP (c _ 24 h2 M),cP (c _ 24 h2 M),cP (c _ 24 h1 M),cP (c _ 24 A M),cP (c _ 24 q M),cP (c _ 8 q M)];simp[ax,dH,cQ];have:=Dh (σ:=Int×f?) (R:=HTp) (l! w.2.2.2.2.1) M (λi=>((i:Int),aA (l! w.2.2.2.2.1) [],aA (l! w.2.2.2.2.1) [],aA (l! w.2.1) [],aA (l! w.2.1) [],aA (l! w.1) [],aA (l! w.2.2.2.1) [],aA (l! w.2.2.2.2.1) [],(dV (l! w.2.2.2.2.1)).map λk=>if k<i then -1 else 0)) (f:=(λx1=>(aK (hY x1.1 (l! w.2.2.2.2.1:Int)) (chk (fO x1.1 (ah x1.2.2.2.2.2.2.2.2)) λ_=>(chk (fO x1.1 (ah x1.2.2.2.2.2.2.2.2)) λ_=>(Z (lB ((aU .i64 (x1.1+1)),x1.2.1,x1.2.2.1,x1.2.2.2.1,x1.2.2.2.2.1,x1.2.2.2.2.2.1,x1.2.2.2.2.2.2.1,x1.2.2.2.2.2.2.2.1,(bW x1.2.2.2.2.2.2.2.2 x1.1 (-1))))))) (Z (bR (x1.2.1,x1.2.2.1,x1.2.2.2.1,x1.2.2.2.2.1,x1.2.2.2.2.2.1,x1.2.2.2.2.2.2.1,([]:η),x1.2.2.2.2.2.2.2.1,x1.2.2.2.2.2.2.2.2)))))) (r:=h0 w) ?_ ?_;refine Eq.trans ?_ this;congr 1;simp[GU,fJ,dQ,aT,FW];apply eQ<;>simp;intro i hi;rw[Ac M,fg,cP (dC cf),cP (dC cf),uf hi M,hZ];congr 3;simp[aT,FW];apply eQ;simp
 grind
 simp[];rw[Dl M,gf];congr 3;simp[aT,FW];apply eQ;simp
 grind
def Dk (x y:Int):mJ x y=max x y:=by
 unfold mJ;by_cases h:x<y;rw[Ac h,aD rfl];omega;simp;omega
variable {c:η}
def aif {b:η} (q:l! c=l! b) (h:∀i,c.getD i 0=b.getD i 0):c=b:=by
 apply eQ q;intro i h1 h2;have:=h i
 grind
def En (n:Int) (c:η):Prop:=l! c<=4/\∀i,0<=c.getD i 0/\c.getD i 0<=n
def En.nil (h:0<=a):En a []:=⟨b8,λi=>by simp;exact h⟩
def En.mono {m:Int} (h:En a c) (hm:a<=m):En m c:=⟨h.1,λi=>⟨(h.2 i).1,yd (h.2 i).2 hm⟩⟩
def En.jl {n:η} (A:En a n) (q:En a c):En a (jl n c):=⟨by rw[Ey];have:=A.1;have:=q.1;omega,λi=>by
 rw[JJ];let⟨h1,h2⟩:=A.2 i;let⟨h3,I⟩:=q.2 i;unfold mJ;split<;>exact⟨by assumption,by assumption⟩⟩
def En.tk (h:En a c) (ht:i<4):En (a+1) (tk c i):=⟨by rw[Sj];have:=h.1;omega,λt=>by
 rw[Nm];let⟨h1,h2⟩:=h.2 t;let⟨A,q⟩:=h.2 i;split<;>omega⟩
def FP (n:Int) (l:Y η):Prop:=∀i,En n (l.getD i [])
def FP.mono {m:Int} {l:Y η} (h:FP a l) (hm:a<=m):FP m l:=λi=>(h i).mono hm
def FP.set {l:Y η} (h:FP a l) (q:En a c) (j:Nat):FP a (l.set j c):=λi=>by
 rw[aC,gy];by_cases e:j=i;subst e;rw[aD rfl];split;exact q;have:=h j;simp[aC]at this;rw[eT M]at this;exact this;rw[av e,<-aC];exact h i
def FP.repl (h:0<=a) (k:Nat):FP a (aA k []):=λi=>by
 rw[aC,kN];split<;>exact En.nil h
structure HS where
 T:List η
 S:List η
 L:List η
 R:List η
 C:List η
 F:List η
 X:η
 N:List η
 W:η
def HS.t (h:HS):HTp:=(h.T,h.S,h.L,h.R,h.C,h.F,h.X,h.N,h.W)
structure EV where
 th:Nat
 k:Nat
 ob:Nat
 va:Int
abbrev WTc:=Y (ζ×Int)
def UQ (q:WTc) (o:Nat):Nat:=((q.getD o ([],0)).2).toNat
def Ha (q:Y (ζ×k?)) (o:Nat):Bool:=(q.getD o ([],0,0,af,0)).2.2.2.1
def uh (w:zG) (h:HS) (e:EV):Y η:=
 if e.k=1 then [h.S.getD e.th []]
 else if e.k=21 then [h.T.getD e.ob []]
 else if e.k=6\/e.k=10 then [h.L.getD e.ob [],h.R.getD e.ob []]
 else if e.k=8 then [h.L.getD e.ob []]
 else if e.k=17 then [h.L.getD (UQ w.2.2.1 e.ob) [],h.R.getD (UQ w.2.2.1 e.ob) [],h.N.getD e.th []]
 else if e.k=3 then [h.C.getD e.ob []]
 else if e.k=23 then [h.F.getD e.ob []]
 else if e.k=12 then [h.X]
 else []
def My (w:zG) (h:HS) (e:EV):η:=tk ((uh w h e).foldl jl (h.T.getD e.th [])) e.th
def jat (l:Y η) (i:Nat) (c:η):Y η:=l.set i (jl (l.getD i []) c)
def G' (p:Nat->Bool) (c:η) (h:HS):HS:={h with N:=h.N.mapIdx λu x=>if p u then c else x,W:=h.W.mapIdx λu x=>if p u then -1 else x}
def lK (w:zG) (h:HS) (e:EV) (c:η):HS:=
 let h:={h with T:=h.T.set e.th c}
 if e.k=20 then {h with S:=h.S.set e.ob c}
 else if e.k=7\/e.k=11 then {h with L:=jat h.L e.ob c}
 else if e.k=9 then {h with R:=jat h.R e.ob c}
 else if e.k=16 then {h with L:=jat h.L (UQ w.2.2.1 e.ob) c,W:=h.W.set e.th e.ob}
 else if e.k=4 then (if Ha w.1 e.ob then {h with C:=jat h.C e.ob c} else h)
 else if e.k=22 then {h with F:=jat h.F e.ob c}
 else if e.k=13 then {h with X:=jl h.X c}
 else if e.k=18 then (if 0<=e.va/\e.va<l! h.N then {h with N:=h.N.set e.va.toNat c,W:=h.W.set e.va.toNat (-1)} else h)
 else if e.k=19 then G' (λu=>decide (h.W.getD u 0=(e.ob:Int))) c h
 else h
def Wy (w:zG) (h:HS) (e:EV):HS×η:=(lK w h e (My w h e),My w h e)
structure EOK (w:zG) (h:HS) (e:EV):Prop where
 th4:e.th<4
 th:e.th<l! h.T
 k1:1<=e.k
 k2:e.k<=23
 sp:e.k=20\/e.k=21->e.ob<l! h.T
 lk:6<=e.k/\e.k<=11->e.ob<l! h.L
 cd:e.k=16\/e.k=17->e.ob<l! w.2.2.1/\0<=(w.2.2.1.getD e.ob ([],0)).2/\UQ w.2.2.1 e.ob<l! h.L
 ce:e.k=3\/e.k=4->e.ob<l! h.C/\e.ob<l! w.1
 fu:e.k=22\/e.k=23->e.ob<l! h.F
structure HOK (n:Int) (h:HS):Prop where
 n0:0<=n
 n1:n<=1000000
 T:FP n h.T
 S:FP n h.S
 L:FP n h.L
 R:FP n h.R
 C:FP n h.C
 F:FP n h.F
 X:En n h.X
 N:FP n h.N
 lT:l! h.T<=1000
 lS:l! h.S=l! h.T
 lN:l! h.N=l! h.T
 lW:l! h.W=l! h.T
 lL:l! h.L<=1000
 lR:l! h.R=l! h.L
 lC:l! h.C<=1000
 lF:l! h.F<=1000
def En.lb (h:En a c):l! c<=CO:=by have:=h.1;unfold CO;omega
def FP.GL {l:Y η} (h:FP a l) (A:l! l<=1000):GL l:=⟨by unfold CO;omega,λc q=>by
 let⟨i,hi⟩:=eC q;have:=(h i).lb
 rwa [aC,hi]at this⟩
def HOK.GH {h:HS} (o:HOK a h):GH h.t:=
 ⟨o.T.GL o.lT,o.S.GL (by rw[o.lS];exact o.lT),o.L.GL o.lL,o.R.GL (by rw[o.lR];exact o.lL),o.C.GL o.lC,o.F.GL o.lF,o.X.lb,o.N.GL (by rw[o.lN];exact o.lT),by show l! h.W<=CO;have:=o.lT;rw[o.lW];unfold CO;omega⟩
def En.join {n:η} (A:En a n) (q:En a c):m6 (n,c)=Z (AI.jl n c):=avm n c A.lb q.lb
def Z_ {w:zG} {h:HS} (o:HOK a h) (e:EV):∀c∈uh w h e,En a c:=by
 intro c q;unfold uh at q;repeat' (split at q)
 all_goals simp[bc,cA,fM]at q
 subst q;exact o.S _;subst q;exact o.T _;rcases q with rfl|rfl;exact o.L _;exact o.R _;subst q;exact o.L _;rcases q with rfl|rfl|rfl;exact o.L _;exact o.R _;exact o.N _;subst q;exact o.C _;subst q;exact o.F _;subst q;exact o.X
def Ia :∀(l:Y η) (c:η),En a c->(∀x∈l,En a x)->En a (l.foldl jl c)
 |[],_,q,_=>q
 |x::r,c,q,h=>Ia r _ (q.jl (h x (bU ..))) λy A=>h y (bx _ A)
def ap0 {w:zG} {h:HS} (o:HOK a h) {e:EV} (he:e.th<4):En (a+1) (My w h e):=(Ia _ _ (o.T _) (Z_ o e)).tk he
def FP.jat {l:Y η} (h:FP a l) (q:En a c) (i:Nat):FP a (jat l i c):=h.set ((h i).jl q) i
def FP.mapIdx {l:Y η} (h:FP a l) (A:En a c) (p:Nat->Bool):FP a (l.mapIdx λu x=>if p u then c else x):=λi=>by
 rw[aC,List.getElem?_mapIdx];have:=h i;rw[aC]at this;cases q:l[i]? with
 |none=>rw[q]at this;exact this
 |some x=>grind
def atf {w:zG} {h:HS} (o:HOK a h) (A:a+1<=1000000) {e:EV} (q:En (a+1) c):HOK (a+1) (lK w h e c):=by
 have m:a<=a+1:=M;have oT:FP (a+1) (h.T.set e.th c):=(o.T.mono m).set q _;have b:HOK (a+1) {h with T:=h.T.set e.th c}:=⟨by have:=o.n0;omega,A,oT,o.S.mono m,o.L.mono m,o.R.mono m,o.C.mono m,o.F.mono m,o.X.mono m,o.N.mono m,by simpa using o.lT,by simpa using o.lS,by simpa using o.lN,by simpa using o.lW,o.lL,o.lR,o.lC,o.lF⟩
 unfold lK;simp only[];repeat' split
 exact {b with S:=(o.S.mono m).set q _,lS:=by simpa using b.lS};exact {b with L:=(o.L.mono m).jat q _,lL:=by simpa[jat] using b.lL,lR:=by simpa[jat] using b.lR};exact {b with R:=(o.R.mono m).jat q _,lR:=by simpa[jat] using b.lR};exact {b with L:=(o.L.mono m).jat q _,lL:=by simpa[jat] using b.lL,lR:=by simpa[jat] using b.lR,lW:=by simpa using b.lW};exact {b with C:=(o.C.mono m).jat q _,lC:=by simpa[jat] using b.lC};exact b;exact {b with F:=(o.F.mono m).jat q _,lF:=by simpa[jat] using b.lF};exact {b with X:=(o.X.mono m).jl q};exact {b with N:=(o.N.mono m).set q _,lN:=by simpa using b.lN,lW:=by simpa using b.lW};exact b;exact {b with N:=(o.N.mono m).mapIdx q _,lN:=by simpa[G'] using b.lN,lW:=by simpa[G'] using b.lW};exact b
def alu {w:zG} {h:HS} (o:HOK a h) (q:a+1<=1000000) {e:EV} (he:e.th<4):HOK (a+1) (Wy w h e).1:=atf o q (ap0 o he)
def azf (h:i=m):aB i m=J:=by subst h;exact x_ i
def Yq (l:Y η) (i:Nat) (h:i<l! l):wR ((i:Int),l)=Z (l.getD i [],l):=by
 unfold wR ck bO a8 aJ;rw[Dl M];simp only[gf,oO];rw[anl cf];simp only[gf];rw[cP (dC h),cP (dC h),vQ]
def wT (l:Y η) (i:Nat) (c:η) (h:i<l! l) (q:FP a l) (A:En a c):nk ((i:Int),l,c)=Z (jat l i c,c):=by
 unfold nk ck jO a8 aJ;rw[t7 M];simp[fg,oO];rw[Ac cf];rw[cP (dC h),cP (dC h),vQ,ZO _ _ (q i).lb A.lb,d6,cP (dC h),cP (dC h),hZ];rfl
def uB (l:Y η) (i:Nat) (c:η):l! (jat l i c)=l! l:=by simp[jat]
def aen (h:HS) (u:Nat) (c:η) (h1:u<l! h.N) (h2:u<l! h.W) (q:En a c):zW ((u:Int),h.X,h.T,h.S,h.L,h.R,h.C,h.F,h.N,h.W,c)=Z (h.X,h.T,h.S,h.L,h.R,h.C,h.F,h.N.set u c,h.W.set u (-1),c):=by
 unfold zW bf bB bN cM gE qY Eb MJ Prod.s ck;rw[T_ c q.lb,d6,cP (dC h1),cP (dC h1),cP (dC h2),cP (dC h2),hZ,hZ]
def age (q:WTc) (i:Nat):aE (.st (.pr .str (.int .i64))) q (i:Int)=q.getD i ([],0):=Ae (T:=.st (.pr .str (.int .i64))) q i
def agd (q:Y (ζ×k?)) (i:Nat):aE (.st (.pr .str (.pr (.int .i64) (.pr (.int .i64) (.pr .bool (.int .i64)))))) q (i:Int)=q.getD i ([],0,0,af,0):=Ae (T:=.st (.pr .str (.pr (.int .i64) (.pr (.int .i64) (.pr .bool (.int .i64)))))) q i
abbrev Q!:=Int×Int×Int×Int×Int×u!
abbrev ETp:Type:=Q!
structure EvT (e:EV) (x:ETp):Prop where
 th:x.1=(e.th:Int)
 k:x.2.1=(e.k:Int)
 ob:e.k∈[3,4,6,7,8,9,10,11,16,17,18,19,20,21,22,23]->x.2.2.1=(e.ob:Int)
 va:x.2.2.2.1=e.va
def ag0 (q:a=(i:Int)) (h1:1<=i) (h2:i<=23):(i=1/\a=1)\/(i=2/\a=2)\/(i=3/\a=3)\/(i=4/\a=4)\/(i=5/\a=5)\/(i=6/\a=6)\/(i=7/\a=7)\/(i=8/\a=8)\/(i=9/\a=9)\/(i=10/\a=10)\/(i=11/\a=11)\/(i=12/\a=12)\/(i=13/\a=13)\/(i=14/\a=14)\/(i=15/\a=15)\/(i=16/\a=16)\/(i=17/\a=17)\/(i=18/\a=18)\/(i=19/\a=19)\/(i=20/\a=20)\/(i=21/\a=21)\/(i=22/\a=22)\/(i=23/\a=23):=by
 have h:i=1\/i=2\/i=3\/i=4\/i=5\/i=6\/i=7\/i=8\/i=9\/i=10\/i=11\/i=12\/i=13\/i=14\/i=15\/i=16\/i=17\/i=18\/i=19\/i=20\/i=21\/i=22\/i=23:=M;subst q;rcases h with rfl|rfl|rfl|rfl|rfl|rfl|rfl|rfl|rfl|rfl|rfl|rfl|rfl|rfl|rfl|rfl|rfl|rfl|rfl|rfl|rfl|rfl|rfl<;>simp
def adw (a:Nat):(aB a a&&J)=J:=by rw[azf rfl];rfl
def aq2 {w:zG} {h:HS} (o:HOK a h) {e:EV} (ok:EOK w h e) {x:ETp} (hx:EvT e x):xr (x,h.X,w,h.T,h.S,h.L,h.R,h.C,h.F,h.N,h.W)=Z (uh w h e,x,h.X,w,h.T,h.S,h.L,h.R,h.C,h.F,h.N,h.W):=by
 let⟨x1,x2,I,x4,x5,x6,x7⟩:=x;let⟨w1,w2,w3,w4,w5,w6⟩:=w;let⟨th,k,ob,va⟩:=e;let⟨q1,q2,q3,q4⟩:=hx;simp only at q1 q2 q3 q4;subst q1 q4;have t1:=ok.th;simp only at t1;have fS:fO (th:Int) (l! h.S)=J:=dC (by rw[o.lS];exact t1);have fN:fO (th:Int) (l! h.N)=J:=dC (by rw[o.lN];exact t1);have fT:k=21->fO (ob:Int) (l! h.T)=J/\I=(ob:Int):=λe=>by
  subst e;have:=ok.sp (.inr rfl);exact⟨dC this,q3 cr⟩
 have fL:(k=6\/k=10\/k=8)->fO (ob:Int) (l! h.L)=J/\fO (ob:Int) (l! h.R)=J/\I=(ob:Int):=λe=>by
  have h1:ob<l! h.L:=ok.lk (by rcases e with rfl|rfl|rfl<;>(simp only[];omega));exact⟨dC h1,dC (by rw[o.lR];exact h1),q3 (by rcases e with rfl|rfl|rfl<;>decide)⟩
 have fC:k=3->fO (ob:Int) (l! h.C)=J/\I=(ob:Int):=λe=>by
  subst e;have:=(ok.ce (.inl rfl)).1;exact⟨dC this,q3 cr⟩
 have fF:k=23->fO (ob:Int) (l! h.F)=J/\I=(ob:Int):=λe=>by
  subst e;have:=ok.fu (.inr rfl);exact⟨dC this,q3 cr⟩
 unfold xr uh I4 bf bB bN cM gE qY Eb MJ Prod.s Prod.t dh iD ck bp vI bT aJ;rcases ag0 q2 ok.k1 ok.k2 with ⟨e,e'⟩|⟨e,e'⟩|⟨e,e'⟩|⟨e,e'⟩|⟨e,e'⟩|⟨e,e'⟩|⟨e,e'⟩|⟨e,e'⟩|⟨e,e'⟩|⟨e,e'⟩|⟨e,e'⟩|⟨e,e'⟩|⟨e,e'⟩|⟨e,e'⟩|⟨e,e'⟩|⟨e,e'⟩|⟨e,e'⟩|⟨e,e'⟩|⟨e,e'⟩|⟨e,e'⟩|⟨e,e'⟩|⟨e,e'⟩|⟨e,e'⟩<;>clear q2<;>subst e<;>subst e'
 case inr.inr.inr.inr.inr.inr.inr.inr.inr.inr.inr.inr.inr.inr.inr.inr.inl=>
  have q3:=q3 cr;subst q3;let⟨d1,d2,d3⟩:=ok.cd (.inr rfl);simp only at d1 d2 d3;have d4:UQ w3 ob<l! h.R:=by rw[o.lR];exact d3
  have e1:(w3.getD ob ([],0)).2=((UQ w3 ob:Nat):Int):=by unfold UQ;omega
  simp only[bP,dI,eY,fg,gf,oO,cP,dC d1,age,e1,Yq _ _ d3,Yq _ _ d4,d6,adw,fN,vQ];rfl
 case inr.inr.inl=>
  obtain⟨q,rfl⟩:=fC rfl;simp only[bP,dI,eY,fg,gf,oO,cP,q,vQ];rfl
 case inr.inr.inr.inr.inr.inr.inr.inr.inr.inr.inr.inr.inr.inr.inr.inr.inr.inr.inr.inr.inr.inr=>
  obtain⟨q,rfl⟩:=fF rfl;simp only[bP,dI,eY,fg,gf,oO,cP,q,vQ];rfl
 case inr.inr.inr.inr.inr.inr.inr.inr.inr.inr.inr.inr.inr.inr.inr.inr.inr.inr.inr.inr.inl=>
  obtain⟨q,rfl⟩:=fT rfl;simp only[bP,dI,eY,fg,gf,oO,cP,q,vQ];rfl
 case inl=>
  simp only[bP,dI,eY,fg,gf,oO,cP,fS,vQ];rfl
 case inr.inr.inr.inr.inr.inl=>
  obtain⟨q,A,rfl⟩:=fL cr;simp only[bP,dI,eY,fg,gf,oO,cP,q,A,vQ];rfl
 case inr.inr.inr.inr.inr.inr.inr.inr.inr.inl=>
  obtain⟨q,A,rfl⟩:=fL cr;simp only[bP,dI,eY,fg,gf,oO,cP,q,A,vQ];rfl
 case inr.inr.inr.inr.inr.inr.inr.inl=>
  obtain⟨q,A,rfl⟩:=fL cr;simp only[bP,dI,eY,fg,gf,oO,cP,q,A,vQ];rfl
 all_goals
  simp only[bP,dI,eY,fg,gf,oO];rfl
def SZ {σ:Type} {f:σ->aj (σ⊕R)} {x0:σ} {r:R} (n:Nat) (A:n<18446744073709551616) (st:Nat->σ) (q:x0=st 0) (h0:∀i,i<n->f (st i)=Z (.inl (st (i+1)))) (h1:f (st n)=Z (.inr r)):jG f x0=Z r:=by
 subst q;exact Dh n A st h0 h1
def QN (p:Nat->Bool) (c:R) (u:Nat) (l:Y R):Y R:=l.mapIdx λk x=>if decide (k<u)&&p k then c else x
def al7 (p:Nat->Bool) (c:R) (l:Y R):QN p c 0 l=l:=by
 unfold QN;apply eQ;simp;simp
def Nj (p:Nat->Bool) (c:R) (u:Nat) (l:Y R):l! (QN p c u l)=l! l:=by simp[QN]
def Wt (p:Nat->Bool) (c:R) (u:Nat) (l:Y R) (h:l! l<=u):QN p c u l=l.mapIdx λk x=>if p k then c else x:=by
 unfold QN;apply eQ;simp
 grind
def aej (p:Nat->Bool) (c:R) (u:Nat) (l:Y R) (hp:p u=J):(QN p c u l).set u c=QN p c (u+1) l:=by
 unfold QN;apply eQ;simp
 grind
def Ws (p:Nat->Bool) (c:R) (u:Nat) (l:Y R) (hp:p u=af):QN p c u l=QN p c (u+1) l:=by
 unfold QN
 grind
def axl (p:Nat->Bool) (c:Int) (u:Nat) (l:η):(QN p c u l).getD u 0=l.getD u 0:=by
 unfold QN;rw[aC,List.getElem?_mapIdx,aC];cases l[u]? with
 |none=>rfl
 |some x=>simp
def HS.e (h:HS) (c:η):η×Y η×Y η×Y η×Y η×Y η×Y η×Y η×u!:=(h.X,h.T,h.S,h.L,h.R,h.C,h.F,h.N,h.W,c)
def aok {w:zG} {h:HS} (o:HOK a h) (hn:a+1<=1000000) {e:EV} (ok:EOK w h e) {x:ETp} (hx:EvT e x) (I:En (a+1) c):uy ((w,x),h.e c)=Z ((lK w h e c).e c):=by
 let⟨x1,x2,x3,A,x5,x6,x7⟩:=x;let⟨w1,w2,w3,w4,w5,w6⟩:=w;let⟨th,k,ob,va⟩:=e;let⟨q1,q2,q3,q4⟩:=hx;simp only at q1 q2 q3 q4;subst q1 q4;have t1:=ok.th;simp only at t1;have m:a<=a+1:=M;have fT:fO (th:Int) (l! h.T)=J:=dC t1;have fW:fO (th:Int) (l! h.W)=J:=dC (by rw[o.lW];exact t1);have cl:=T_ c I.lb;unfold uy EA HS.e I4 Prod.q Prod.p Prod.u Prod.r Prod.v Prod.w Prod.y bf bB bN cM gE qY Eb MJ Prod.s Prod.E Prod.z Prod.B dh sL Prod.o ck bp bO jO vI bT a8 cW aJ cH;rcases ag0 q2 ok.k1 ok.k2 with ⟨e,e'⟩|⟨e,e'⟩|⟨e,e'⟩|⟨e,e'⟩|⟨e,e'⟩|⟨e,e'⟩|⟨e,e'⟩|⟨e,e'⟩|⟨e,e'⟩|⟨e,e'⟩|⟨e,e'⟩|⟨e,e'⟩|⟨e,e'⟩|⟨e,e'⟩|⟨e,e'⟩|⟨e,e'⟩|⟨e,e'⟩|⟨e,e'⟩|⟨e,e'⟩|⟨e,e'⟩|⟨e,e'⟩|⟨e,e'⟩|⟨e,e'⟩<;>clear q2<;>subst e<;>subst e'
 case inr.inr.inr.inr.inr.inr.inr.inr.inr.inr.inr.inr.inr.inr.inr.inr.inr.inr.inr.inl=>
  obtain rfl:=q3 cr;have f:fO (ob:Int) (l! h.S)=J:=dC (by rw[o.lS];exact ok.sp (.inl rfl));simp only[bP,dI,eY,fg,gf,oO,d6,cP,cl,fT,f,hZ];rfl
 case inr.inr.inr.inr.inr.inr.inl=>
  obtain rfl:=q3 cr;have f:ob<l! h.L:=ok.lk (by simp only[];omega);simp only[bP,dI,eY,fg,gf,oO,d6,cP,cl,fT,hZ,wT _ _ _ f (o.L.mono m) I,uB,adw];rfl
 case inr.inr.inr.inr.inr.inr.inr.inr.inr.inr.inl=>
  obtain rfl:=q3 cr;have f:ob<l! h.L:=ok.lk (by simp only[];omega);simp only[bP,dI,eY,fg,gf,oO,d6,cP,cl,fT,hZ,wT _ _ _ f (o.L.mono m) I,uB,adw];rfl
 case inr.inr.inr.inr.inr.inr.inr.inr.inl=>
  obtain rfl:=q3 cr;have f:ob<l! h.R:=by rw[o.lR];exact ok.lk (by simp only[];omega)
  simp only[bP,dI,eY,fg,gf,oO,d6,cP,cl,fT,hZ,wT _ _ _ f (o.R.mono m) I,uB,adw];rfl
 case inr.inr.inr.inr.inr.inr.inr.inr.inr.inr.inr.inr.inr.inr.inr.inl=>
  obtain rfl:=q3 cr;let⟨d1,d2,d3⟩:=ok.cd (.inl rfl);simp only at d1 d2 d3;have e1:(w3.getD ob ([],0)).2=((UQ w3 ob:Nat):Int):=by unfold UQ;omega
  simp only[bP,dI,eY,fg,gf,oO,d6,cP,cl,fT,fW,hZ,dC d1,age,e1,wT _ _ _ d3 (o.L.mono m) I,uB,adw];rfl
 case inr.inr.inr.inl=>
  obtain rfl:=q3 cr;let⟨d1,d2⟩:=ok.ce (.inr rfl);simp only at d1 d2;simp only[bP,dI,eY,fg,gf,oO,d6,cP,cl,fT,hZ,dC d2,agd];cases hv:(w1.getD ob ([],0,0,af,0)).2.2.2.1 with
  |true=>
   simp only[fg,d6,cP,wT _ _ _ d1 (o.C.mono m) I,uB,adw,oO];have hE:lK (w1,w2,w3,w4,w5,w6) h ⟨th,4,ob,A⟩ c=if Ha w1 ob then {h with T:=h.T.set th c,C:=jat h.C ob c} else {h with T:=h.T.set th c}:=rfl
   rw[hE,show Ha w1 ob=J from hv];rfl
  |false=>
   simp only[gf,oO];have hE:lK (w1,w2,w3,w4,w5,w6) h ⟨th,4,ob,A⟩ c=if Ha w1 ob then {h with T:=h.T.set th c,C:=jat h.C ob c} else {h with T:=h.T.set th c}:=rfl
   rw[hE,show Ha w1 ob=af from hv];rfl
 case inr.inr.inr.inr.inr.inr.inr.inr.inr.inr.inr.inr.inr.inr.inr.inr.inr.inr.inr.inr.inr.inl=>
  obtain rfl:=q3 cr;have f:ob<l! h.F:=ok.fu (.inl rfl);simp only[bP,dI,eY,fg,gf,oO,d6,cP,cl,fT,hZ,wT _ _ _ f (o.F.mono m) I,uB,adw];rfl
 case inr.inr.inr.inr.inr.inr.inr.inr.inr.inr.inr.inr.inl=>
  simp only[bP,dI,eY,fg,gf,oO,d6,cP,cl,fT,hZ,ZO _ _ (o.X.mono m).lb I.lb];rfl
 case inr.inr.inr.inr.inr.inr.inr.inr.inr.inr.inr.inr.inr.inr.inr.inr.inr.inl=>
  simp only[bP,dI,eY,fg,gf,oO,d6,cP,cl,fT,hZ];have hE:lK (w1,w2,w3,w4,w5,w6) h ⟨th,18,ob,A⟩ c=if 0<=A/\A<l! h.N then {h with T:=h.T.set th c,N:=h.N.set A.toNat c,W:=h.W.set A.toNat (-1)} else {h with T:=h.T.set th c}:=rfl
  rw[hE];by_cases h0:0<=A;by_cases h1:A<l! h.N;rw[t7 h0];simp only[fg,oO];rw[Ac (show A<aZ (l! h.N) from h1)];obtain⟨v,rfl⟩:∃v:Nat,A=(v:Int):=⟨A.toNat,M⟩
  have v1:v<l! h.N:=M;have v2:v<l! h.W:=by rw[o.lW,<-o.lN];exact v1
  have:=aen {h with T:=h.T.set th c} v c v1 v2 I;simp only[]at this;simp only[fg,this,d6,c_,cP,azf rfl,r8,oO];rw[aD ⟨h0,h1⟩];rfl;rw[t7 h0];simp only[fg,oO];rw[Dl (show aZ (l! h.N)<=A from iZ.1 h1)];simp only[gf,oO];rw[av (λq=>h1 q.2)];rw[anl M];simp only[gf,oO];rw[av (λq=>h0 q.1)]
 case inr.inr.inr.inr.inr.inr.inr.inr.inr.inr.inr.inr.inr.inr.inr.inr.inr.inr.inl=>
  obtain rfl:=q3 cr;simp only[bP,dI,eY,fg,gf,oO,d6,cP,cl,fT,hZ];rw[SZ (r:=bR (h.X,h.T.set th c,h.S,h.L,h.R,h.C,h.F,QN (λu=>decide (h.W.getD u 0=(ob:Int))) c (l! h.W) h.N,QN (λu=>decide (h.W.getD u 0=(ob:Int))) (-1) (l! h.W) h.W,c)) (l! h.W) (by have:=o.lW;have:=o.lT;omega)
   (λi=>((i:Int),h.X,h.T.set th c,h.S,h.L,h.R,h.C,h.F,QN (λu=>decide (h.W.getD u 0=(ob:Int))) c i h.N,QN (λu=>decide (h.W.getD u 0=(ob:Int))) (-1) i h.W,c,(th:Int),(19:Int),(ob:Int),A,x5,x6,x7)) ?_ ?_ ?_]
  simp only[oO];rw[Wt _ _ _ h.W (bg _),Wt _ _ _ h.N (by rw[o.lN,o.lW];exact bg _)];rfl;simp only[al7];rfl;intro i hi;simp only[];have hN:i<l! (QN (λu=>decide (h.W.getD u 0=(ob:Int))) c i h.N):=by rw[Nj,o.lN,<-o.lW];exact hi
  have hW:i<l! (QN (λu=>decide (h.W.getD u 0=(ob:Int))) (-1) i h.W):=by rw[Nj];exact hi
  rw[Ac ye,fg,cP (dC hW),cP (dC hW),ayq,axl];have ws:=uf hi (show (l! h.W)<=1099511627776 by have:=o.lW;have:=o.lT;omega);by_cases hp:h.W.getD i 0=(ob:Int)
  rw[aP hp,fg];have:=aen {h with T:=h.T.set th c,N:=QN (λu=>decide (h.W.getD u 0=(ob:Int))) c i h.N,W:=QN (λu=>decide (h.W.getD u 0=(ob:Int))) (-1) i h.W} i c hN hW I;simp only[]at this;rw[this,d6,cP (by simp only[c_,azf rfl,r8]),oO,ws,aej _ _ _ _ (aP hp),aej _ _ _ _ (aP hp)];rw[bE hp,gf,oO,ws,<-Ws _ _ _ _ (bE hp),<-Ws _ _ _ _ (bE hp)];simp only[];rw[Dl b8,gf]
 all_goals
  simp only[bP,dI,eY,fg,gf,oO,d6,cP,cl,fT,hZ];rfl
def ac0 (l:Y η) (c:η) (i:Nat) (hi:i<l! l):(l.take (i+1)).foldl jl c=jl ((l.take i).foldl jl c) (l.getD i []):=by
 rw[List.take_add_one,dG,aI hi,aC,aI hi];rfl
def WC (w:zG) (h:HS) (e:EV):l! (uh w h e)<=3:=by
 unfold uh;repeat' split
 all_goals simp
def az9 {w:zG} {h:HS} (o:HOK a h) (e:EV) (i:Nat):0<=((uh w h e).foldl jl (h.T.getD e.th [])).getD i 0/\((uh w h e).foldl jl (h.T.getD e.th [])).getD i 0<9223372036854775807:=by
 have:=(Ia _ _ (o.T e.th) (Z_ (w:=w) o e)).2 i;have:=o.n1;omega
def K3 (w:zG) (h:HS) (e:EV) (c:η):(lK w h e c).T.length=l! h.T/\(lK w h e c).S.length=l! h.S/\(lK w h e c).L.length=l! h.L/\(lK w h e c).R.length=l! h.R/\(lK w h e c).C.length=l! h.C/\(lK w h e c).F.length=l! h.F/\(lK w h e c).N.length=l! h.N/\(lK w h e c).W.length=l! h.W:=by
 unfold lK;simp[];repeat' split
 all_goals simp[jat,G']
def auo {w:zG} {h:HS} (o:HOK a h) (hn:a+1<=1000000) {e:EV} (ok:EOK w h e) {x:ETp} (hx:EvT e x):vo (w,h.t,x)=Z ((Wy w h e).1.t,(Wy w h e).2):=by
 have s2:=aq2 o ok hx;have hce:En (a+1) (My w h e):=ap0 o ok.th4;have en:=aok o hn ok hx hce;have cp:=aju h.t o.GH;have sl:=WC w h e;have sE:=Z_ (w:=w) o e;have hlen:=K3 w h e (My w h e);let⟨x1,x2,x3,x4,x5,x6,x7⟩:=x;let⟨w1,w2,w3,I,A,q⟩:=w;have t1:=hx.th;subst t1;unfold HS.t at cp;have fT:fO (e.th:Int) (l! h.T)=J:=dC ok.th;unfold vo H6 HS.t I4 Prod.q bf bB bN cM gE qY Eb MJ Prod.t Prod.C dh iD xZ Prod.o ck bO vI bT a8 cW cH;rw[cp,d6];rw[cP fT,cP fT,s2,d6];rw[cP b8];refine SZ (l! (uh (w1,w2,w3,I,A,q) h e)) M (λi=>((i:Int),(w1,w2,w3,I,A,q),((e.th:Int),x2,x3,x4,x5,x6,x7),h.X,((uh (w1,w2,w3,I,A,q) h e).take i).foldl jl (h.T.getD e.th []),h.T,h.S,h.L,h.R,h.C,h.F,h.N,h.W)) rfl ?_ ?_;intro i hi;rw[Ac cf,fg,cP (dC hi),vQ,(Ia _ _ (o.T e.th) (λy hy=>sE y (dL hy))).join (sE _ (OJ hi)),d6,uf hi M,ac0 _ _ _ hi];simp only[];rw[Dl b8,gf,dZ (bg _)];have hl:=az9 (w:=(w1,w2,w3,I,A,q)) o e e.th;rw[auk _ e.th (Ia _ _ (o.T e.th) sE).lb ok.th4 hl.1 hl.2,d6];unfold HS.e at en;unfold My at en hlen;rw[en,d6];rw[cP (by simp_all)];rfl
def Ok (o:aj R) (Q:R->Prop):Prop:=∃y,o=Z y/\Q y
def Ok.mono {o:aj R} {Q Q':R->Prop} (h:Ok o Q) (q:∀y,Q y->Q' y):Ok o Q':=by let⟨y,h1,h2⟩:=h;exact⟨y,h1,q y h2⟩
def Ok.and {o:aj R} {Q Q':R->Prop} (h:Ok o Q) (h':Ok o Q'):Ok o λy=>Q y/\Q' y:=by
 let⟨y,h1,h2⟩:=h;let⟨z,q,A⟩:=h';rw[h1]at q;cases q;exact⟨y,h1,h2,A⟩
def ak {y:R} {Q:R->Prop} (h:Q y):Ok (Z y) Q:=⟨y,rfl,h⟩
def bI {k:aj R} {Q:R->Prop} (h:b=J) (hk:Ok k Q):Ok (chk b λ_=>k) Q:=by subst h;exact hk
def aR {t f:aj R} {Q:R->Prop} (ht:b=J->Ok t Q) (hf:b=af->Ok f Q):Ok (aK b t f) Q:=by
 cases b with
 |true=>exact ht rfl
 |false=>exact hf rfl
def pY {t f:aj R} {Q:R->Prop} (h:b=J) (ht:Ok t Q):Ok (aK b t f) Q:=by subst h;exact ht
def gJ {t f:aj R} {Q:R->Prop} (h:b=af) (hf:Ok f Q):Ok (aK b t f) Q:=by subst h;exact hf
def ay {α:Type} {o:aj α} {k:α->aj R} {P:α->Prop} {Q:R->Prop} (h:Ok o P) (hk:∀x,P x->Ok (k x) Q):Ok (aw o k) Q:=by
 obtain⟨x,rfl,q⟩:=h;exact hk x q
def aV {α:Type} {o:aj α} {k:α->aj R} {x:α} {Q:R->Prop} (h:o=Z x) (hk:Ok (k x) Q):Ok (aw o k) Q:=by subst h;exact hk
def aX {α:Type} {x:α} {k:α->aj R} {Q:R->Prop} (h:Ok (k x) Q):Ok (lt x k) Q:=h
def a6 {α:Type} {o:aj (R⊕α)} {k:α->aj R} {Q:R->Prop} (P:α->Prop) (h:Ok o λr=>match r with|.inl r=>Q r|.inr x=>P x) (hk:∀x,P x->Ok (k x) Q):Ok (jn o k) Q:=by
 obtain⟨r,rfl,q⟩:=h;cases r with
 |inl r=>exact⟨r,rfl,q⟩
 |inr x=>exact hk x q
def h_ {α:Type} {o:aj (R⊕α)} {k:α->aj R} {Q:R->Prop} (h:Ok o λr=>match r with|.inl r=>Q r|.inr x=>Ok (k x) Q):Ok (jn o k) Q:=a6 (λx=>Ok (k x) Q) h λ_ h=>h
def as3 {α:Type} {a b:α} {r:aj R} {Q:R->Prop} (e:a=b) (h:Ok r Q):Ok (same a b r) Q:=by unfold same;rw[aD e];exact h
def sQ {σ:Type} {f:σ->aj (σ⊕R)} {Q:R->Prop} (μ:σ->Nat) (I:σ->Prop) (h:∀x,I x->Ok (f x) λr=>match r with|.inl y=>I y/\μ y<μ x|.inr r=>Q r) {x:σ} (q:I x):Ok (iter f x) Q:=by
 have key:∀n x,μ x<n->I x->∃m r,iterN f m x=Z r/\Q r:=by
  intro n;induction n with
  |zero=>intro x hm;omega
  |succ n A=>
   intro x hm q;let⟨r,h1,h2⟩:=h x q;cases r with
   |inl y=>
    let⟨m,r,h3,h4⟩:=A y M h2.1;exact⟨m+1,r,by rw[iterN,h1];exact h3,h4⟩
   |inr r=>exact⟨1,r,by rw[iterN,h1],h2⟩
 let⟨m,r,h1,h2⟩:=key (μ x+1) x (tR _) q;exact⟨r,Dg h1,h2⟩
def bX {σ:Type} {f:σ->aj (σ⊕R)} {Q:R->Prop} (n:Nat) (I:Nat->σ->Prop) (h0:∀i x,i<n->I i x->Ok (f x) λr=>match r with|.inl y=>I (i+1) y|.inr r=>Q r) (h1:∀x,I n x->Ok (f x) λr=>match r with|.inl _=>False|.inr r=>Q r) {x:σ} (hx:I 0 x):Ok (iter f x) Q:=by
 have key:∀m i x,i+m=n->I i x->∃k r,iterN f k x=Z r/\Q r:=by
  intro m;induction m with
  |zero=>
   intro i x hi hx;have:i=n:=M;subst this;let⟨r,A,q⟩:=h1 x hx;cases r with
   |inl y=>exact q.elim
   |inr r=>exact⟨1,r,by rw[iterN,A],q⟩
  |succ m ih=>
   intro i x hi hx;let⟨r,A,q⟩:=h0 i x M hx;cases r with
   |inl y=>
    let⟨k,r,g3,g4⟩:=ih (i+1) y M q;exact⟨k+1,r,by rw[iterN,A];exact g3,g4⟩
   |inr r=>exact⟨1,r,by rw[iterN,A],q⟩
 let⟨m,r,A,q⟩:=key n 0 x M hx;exact⟨r,Dg A,q⟩
def itQ {σ:Type} (f:σ->aj (σ⊕R)) (Q:R->Prop):σ⊕R->Prop
 |.inl y=>Ok (iter f y) Q
 |.inr r=>Q r
def jnQ {α:Type} (k:α->aj R) (Q:R->Prop):R⊕α->Prop
 |.inl r=>Q r
 |.inr x=>Ok (k x) Q
def as2 {σ:Type} {f:σ->aj (σ⊕R)} {x:σ} {Q:R->Prop} (h:Ok (f x) (itQ f Q)):Ok (iter f x) Q:=by
 let⟨r,h1,h2⟩:=h;cases r with
 |inr r=>exact⟨r,Dg (n:=1) (by rw[iterN,h1]),h2⟩
 |inl y=>
  let⟨z,q,A⟩:=h2;unfold iter at q;split at q;exact⟨z,Dg (n:=_+1) (by rw[iterN,h1];exact q),A⟩;cases q
def afl {σ:Type} {f:σ->aj (σ⊕R)} {y:σ} {Q:R->Prop} (h:Ok (iter f y) Q):Ok (Z (.inl y)) (itQ f Q):=⟨_,rfl,h⟩
def afk {σ:Type} {f:σ->aj (σ⊕R)} {r:R} {Q:R->Prop} (h:Ok (Z r) Q):Ok (Z (.inr r)) (itQ f Q):=by
 let⟨_,h1,h2⟩:=h;cases h1;exact⟨_,rfl,h2⟩
def afi {α:Type} {o:aj (R⊕α)} {k:α->aj R} {Q:R->Prop} (h:Ok o (jnQ k Q)):Ok (jn o k) Q:=by
 obtain⟨r,rfl,q⟩:=h;cases r with
 |inl r=>exact⟨r,rfl,q⟩
 |inr x=>exact q
def afj {α:Type} {r:R} {k:α->aj R} {Q:R->Prop} (h:Ok (Z r) Q):Ok (Z (.inl r)) (jnQ k Q):=by
 let⟨_,h1,h2⟩:=h;cases h1;exact⟨_,rfl,h2⟩
def afh {α:Type} {x:α} {k:α->aj R} {Q:R->Prop} (h:Ok (k x) Q):Ok (Z (.inr x)) (jnQ k Q):=⟨_,rfl,h⟩
def oQ {α:Type} (k:α->aj R) (Q:R->Prop) (x:α):Prop:=Ok (k x) Q
def Xf {α:Type} {o:aj α} {k:α->aj R} {Q:R->Prop} (h:Ok o (oQ k Q)):Ok (aw o k) Q:=ay h λ_ h=>h
def Xe {α:Type} {x:α} {k:α->aj R} {Q:R->Prop} (h:Ok (k x) Q):Ok (Z x) (oQ k Q):=⟨_,rfl,h⟩
def aso :fO a i=J↔0<=a/\a<i:=by simp[fO,cN,hY]
def tp {b:Int}:cN a b=J↔a<=b:=by simp[cN]
def uM {b:Int}:hY a b=J↔a<b:=by simp[hY]
def jJ {b:Int}:hY a b=af↔b<=a:=by simp[hY]
def jK {b:Int}:cN a b=af↔b<a:=by simp[cN]
def ai1 :bk i m=J↔i<=1099511627776/\i*m<=1099511627776:=by simp[bk]
def bZ {o:aj R} {v:R} (h:Ok o (·=v)):o=Z v:=by let⟨y,h1,h2⟩:=h;rw[h1,h2]
section steps
variable {R:Type} {k t f:aj R} {Q:R->Prop}
def aS (h0:0<=a) (h1:a<i) (hk:Ok k Q):Ok (chk (fO a i) λ_=>k) Q:=bI (aso.2 ⟨h0,h1⟩) hk
def dB (h0:i<=1073741824) (h1:m<=1024) (hk:Ok k Q):Ok (chk (bk i m) λ_=>k) Q:=
 bI (ai1.2 ⟨M,cR (Nat.mul_le_mul h0 h1) M⟩) hk
def a! {i m:Nat} (d:Ok k Q) (h:i<=1073741824:=by first|omega|(simp;omega)|(dsimp only;omega)) (g:m<=1024:=by omega):Ok (chk (bk i m) λ_=>k) Q:=dB h g d
def cq {a:Bool} (h:Ok (chk a λ_=>chk b λ_=>k) Q):Ok (chk (a&&b) λ_=>k) Q:=by
 cases a with
 |true=>exact h
 |false=>let⟨y,h,_⟩:=h;cases h
def fB {b:Int} (h:a<=b) (hk:Ok k Q):Ok (chk (cN a b) λ_=>k) Q:=bI (tp.2 h) hk
def a? {a b:Int} (d:Ok k Q) (h:a<=b:=by first|omega|(simp;omega)|(dsimp only;omega)):Ok (chk (cN a b) λ_=>k) Q:=fB h d
def rf {b:Int} (h:a<b) (hk:Ok k Q):Ok (chk (hY a b) λ_=>k) Q:=bI (uM.2 h) hk
def UK {p:Prop} {i:Decidable p} (h:p) (hk:Ok k Q):Ok (chk (decide p) λ_=>k) Q:=bI (aP h) hk
def zP {p:Prop} {i:Decidable p} (h:¬p) (hk:Ok k Q):Ok (chk (!decide p) λ_=>k) Q:=bI (by simp[h]) hk
def ik (h:i=m) (hk:Ok k Q):Ok (chk (aB i m) λ_=>k) Q:=bI (by subst h;exact x_ i) hk
def pX (hk:Ok k Q):Ok (chk J λ_=>k) Q:=hk
def bF {b:Int} (ht:a<b->Ok t Q) (hf:b<=a->Ok f Q):Ok (aK (hY a b) t f) Q:=aR (λh=>ht (uM.1 h)) (λh=>hf (jJ.1 h))
def eX {b:Int} (ht:a<=b->Ok t Q) (hf:b<a->Ok f Q):Ok (aK (cN a b) t f) Q:=aR (λh=>ht (tp.1 h)) (λh=>hf (jK.1 h))
def aN {p:Prop} {i:Decidable p} (ht:p->Ok t Q) (hf:¬p->Ok f Q):Ok (aK (decide p) t f) Q:=aR (λh=>ht (a_ h)) (λh=>hf (m8 h))
def bY {p:Prop} {i:Decidable p} (ht:¬p->Ok t Q) (hf:p->Ok f Q):Ok (aK (!decide p) t f) Q:=aR (λh=>ht (by simpa using h)) (λh=>hf (by simpa using h))
def dJ (ht:b=af->Ok t Q) (hf:b=J->Ok f Q):Ok (aK (!b) t f) Q:=aR (λh=>ht (by simpa using h)) (λh=>hf (by simpa using h))
def afm (ht:Ok t Q):Ok (aK J t f) Q:=ht
def ia (hf:Ok f Q):Ok (aK af t f) Q:=hf
def bK (hk:Ok k Q) (h0:0<=a:=by first|omega|(dsimp only;omega)) (h1:a<i:=by first|omega|(dsimp only;omega)):Ok (chk (fO a i) λ_=>k) Q:=aS h0 h1 hk
def cV {b:Int} (ht:Ok t Q) (h:a<b:=by first|omega|(dsimp only[ax];omega)):Ok (aK (hY a b) t f) Q:=bF (λ_=>ht) λg=>bi h (iZ.2 g)
def cK {b:Int} (hf:Ok f Q) (h:b<=a:=by first|omega|(dsimp only[ax];omega)):Ok (aK (hY a b) t f) Q:=bF (λg=>bi g (iZ.2 h)) λ_=>hf
end steps
def sN:(∀(p:Prop) [Decidable p],(decide p=J)=p)/\(∀p:Prop,(True\/p)=True)/\(∀p:Prop,(p\/True)=True)/\(∀p:Prop,(True->p)=p)/\(∀p:Prop,(True/\p)=p)/\∀p:Prop,(p/\True)=p:=⟨λ_=>bl,true_or,or_true,λ_=>true_implies _,FW,and_true⟩
def QP:(∀i:Decidable True,@decide True i=J)/\(∀i:Decidable False,@decide False i=af)/\(∀{R:Type} (t f:aj R),aK J t f=t)/\(∀{R:Type} (t f:aj R),aK af t f=f)/\(∀{α R:Type} (x:α) (k:α->aj R),jn (Z (.inr x)) k=k x)/\(∀{α R:Type} (r:R) (k:α->aj R),jn (Z (.inl r)) k=Z r)/\(∀{α R:Type} (x:α) (k:α->aj R),aw (Z x) k=k x)/\(∀{α R:Type} (x:α) (k:α->aj R),lt x k=k x)/\(!J)=af/\(!af)=J:=⟨eY,dI,λ_ _=>rfl,λ_ _=>rfl,λ_ _=>rfl,λ_ _=>rfl,λ_ _=>rfl,λ_ _=>rfl,rfl,rfl⟩
structure IM (p q:Prop):Prop where
 h:p->q
inductive OS {R:Type}:Option R->(R->Prop)->Prop where
 |cand {a b:Bool} {k:Option R} {Q:R->Prop} (h:Ok (chk a λ_=>chk b λ_=>k) Q):OS (chk (a&&b) λ_=>k) Q
 |fO {j:Int} {n:Nat} {k:Option R} {Q:R->Prop} (h0:0<=j) (h1:j<n) (hk:Ok k Q):OS (chk (fO j n) λ_=>k) Q
 |room {n b:Nat} {k:Option R} {Q:R->Prop} (h0:n<=1073741824) (h1:b<=1024) (hk:Ok k Q):OS (chk (bk n b) λ_=>k) Q
 |cile {a b:Int} {k:Option R} {Q:R->Prop} (h:a<=b) (hk:Ok k Q):OS (chk (cN a b) λ_=>k) Q
 |cilt {a b:Int} {k:Option R} {Q:R->Prop} (h:a<b) (hk:Ok k Q):OS (chk (hY a b) λ_=>k) Q
 |cdec {p:Prop} {i:Decidable p} {k:Option R} {Q:R->Prop} (h:p) (hk:Ok k Q):OS (chk (decide p) λ_=>k) Q
 |cndec {p:Prop} {i:Decidable p} {k:Option R} {Q:R->Prop} (h:¬p) (hk:Ok k Q):OS (chk (!decide p) λ_=>k) Q
 |cbeq {a b:Nat} {k:Option R} {Q:R->Prop} (h:a=b) (hk:Ok k Q):OS (chk (aB a b) λ_=>k) Q
 |cT {k:Option R} {Q:R->Prop} (hk:Ok k Q):OS (chk J λ_=>k) Q
 |lt {α:Type} {x:α} {k:α->Option R} {Q:R->Prop} (h:Ok (k x) Q):OS (lt x k) Q
 |b1 {t f:Option R} {Q:R->Prop} (h:Ok t Q):OS (aK J t f) Q
 |b0 {t f:Option R} {Q:R->Prop} (h:Ok f Q):OS (aK af t f) Q
 |hY {a b:Int} {t f:Option R} {Q:R->Prop} (ht:IM (a<b) (Ok t Q)) (hf:IM (b<=a) (Ok f Q)):OS (aK (hY a b) t f) Q
 |cN {a b:Int} {t f:Option R} {Q:R->Prop} (ht:IM (a<=b) (Ok t Q)) (hf:IM (b<a) (Ok f Q)):OS (aK (cN a b) t f) Q
 |dec {p:Prop} {i:Decidable p} {t f:Option R} {Q:R->Prop} (ht:IM p (Ok t Q)) (hf:IM (¬p) (Ok f Q)):OS (aK (decide p) t f) Q
 |ndec {p:Prop} {i:Decidable p} {t f:Option R} {Q:R->Prop} (ht:IM (¬p) (Ok t Q)) (hf:IM p (Ok f Q)):OS (aK (!decide p) t f) Q
 |not {b:Bool} {t f:Option R} {Q:R->Prop} (ht:IM (b=af) (Ok t Q)) (hf:IM (b=J) (Ok f Q)):OS (aK (!b) t f) Q
 |aK {b:Bool} {t f:Option R} {Q:R->Prop} (ht:IM (b=J) (Ok t Q)) (hf:IM (b=af) (Ok f Q)):OS (aK b t f) Q
 |jc {α:Type} {o:Option (R⊕α)} {k:α->Option R} {Q:R->Prop} (h:Ok o λr=>match r with|.inl r=>Q r|.inr x=>Ok (k x) Q):OS (jn o k) Q
 |some {y:R} {Q:R->Prop} (h:Q y):OS (Z y) Q
def OS.ok {o:aj R} {Q:R->Prop} (h:OS o Q):Ok o Q:=by
 cases h with
 |cand h=>exact cq h
 |fO a b h=>exact aS a b h
 |room a b h=>exact dB a b h
 |cile a h=>exact fB a h
 |cilt a h=>exact rf a h
 |cdec a h=>exact UK a h
 |cndec a h=>exact zP a h
 |cbeq a h=>exact ik a h
 |cT h|lt h|b1 h|b0 h=>exact h
 |hY a b=>exact bF a.h b.h
 |cN a b=>exact eX a.h b.h
 |dec a b=>exact aN a.h b.h
 |ndec a b=>exact bY a.h b.h
 |not a b=>exact dJ a.h b.h
 |aK a b=>exact aR a.h b.h
 |jc h=>
  let⟨r,e,h⟩:=h;exact h_ ⟨r,e,by cases r<;>exact h⟩
 |some h=>exact ak h
def bcT (t f:aj R):aK J t f=t:=rfl
def bcF (t f:aj R):aK af t f=f:=rfl
def jnr {α:Type} (x:α) (k:α->aj R):jn (Z (.inr x)) k=k x:=rfl
def UL {α:Type} (x:α) (k:α->aj R):aw (Z x) k=k x:=rfl
inductive MG:Int->Prop where
 |k1:MG 1
 |k2:MG 2
 |k3:MG 3
 |k4:MG 4
 |k5:MG 5
 |k6:MG 6
 |k7:MG 7
 |k8:MG 8
 |k9:MG 9
 |k10:MG 10
 |k11:MG 11
 |k12:MG 12
 |k13:MG 13
 |k14:MG 14
 |k15:MG 15
 |k16:MG 16
 |k17:MG 17
 |k18:MG 18
 |k19:MG 19
 |k20:MG 20
 |k21:MG 21
 |k22:MG 22
 |k23:MG 23
 |no {k:Int} (h:¬k=1/\¬k=2/\¬k=3/\¬k=4/\¬k=5/\¬k=6/\¬k=7/\¬k=8/\¬k=9/\¬k=10/\¬k=11/\¬k=12/\¬k=13/\¬k=14/\¬k=15/\¬k=16/\¬k=17/\¬k=18/\¬k=19/\¬k=20/\¬k=21/\¬k=22/\¬k=23) (h2:k<1\/23<k):MG k
def kdI (k:Int):MG k:=by
 by_cases h:k<1\/23<k;exact .no M h
 .have:k=1\/k=2\/k=3\/k=4\/k=5\/k=6\/k=7\/k=8\/k=9\/k=10\/k=11\/k=12\/k=13\/k=14\/k=15\/k=16\/k=17\/k=18\/k=19\/k=20\/k=21\/k=22\/k=23:=M;repeat' (rcases this with rfl|this)
  all_goals first|(subst this;constructor)|constructor
def iF {n:Int} (h0: -9223372036854775808<=n:=by omega) (h1:n<=9223372036854775807:=by omega):aU .i64 n=n:=by
 rw[Ei];unfold Nh;simp[cN,h0,h1]
def iC (h:i<9223372036854775807:=by omega):aU .i64 ((i:Int)+1)=((i+1:Nat):Int):=by rw[iF M M];omega
def sD {T:Ty} (xs:Y T.den) (i:Nat):aE _ xs (i:Int)=xs.getD i T.zero:=by unfold aE;simp
def OH (xs:η) (i:Nat):aE aO xs (i:Int)=xs.getD i 0:=sD (T:=aO) xs i
def be {T:Ty} {xs:Y T.den} {j:Int} (h0:0<=j) (h1:j<l! xs):aE _ xs j∈xs:=by
 unfold aE;rw[aC,aI M];exact List.getElem_mem _
def bu (xs:Y R) (j:Int) (x:R):l! (bW xs j x)=l! xs:=by unfold bW;simp
def li {xs:Y R} {x y:R} (h:y∈bW xs a x):y∈xs\/y=x:=List.mem_or_eq_of_mem_set h
def kz {σ:Type} {f:σ->aj (σ⊕R)} {Q:R->Prop} (n:Nat) (hn:n<=1000000) (I:Nat->σ->Prop) (h0:∀i x,i<n->I i x->Ok (f x) λr=>match r with|.inl y=>I (i+1) y|.inr r=>Q r) (h1:∀x,I n x->Ok (f x) λr=>match r with|.inl _=>False|.inr r=>Q r) {x:σ} (hx:I 0 x):Ok (jG f x) Q:=by
 have key:∀m i x,i+m=n->I i x->∃r,iterN f (m+1) x=Z r/\Q r:=by
  intro m;induction m with
  |zero=>
   intro i x hi hx;have:i=n:=M;subst this;let⟨r,A,q⟩:=h1 x hx;cases r with
   |inl y=>exact q.elim
   |inr r=>exact⟨r,by rw[iterN,A],q⟩
  |succ m ih=>
   intro i x hi hx;let⟨r,A,q⟩:=h0 i x M hx;cases r with
   |inl y=>
    let⟨r,g3,g4⟩:=ih (i+1) y M q;exact⟨r,by rw[iterN,A];exact g3,g4⟩
   |inr r=>exact⟨r,Di (n:=1) (by rw[iterN,A]) M,q⟩
 let⟨r,A,q⟩:=key n 0 x M hx;exact⟨r,Di A M,q⟩
abbrev WT:Type:=w?
abbrev SY:Type:=Y (Int×η)×Int×θ×Y (Int×Int×Bool)
def Xu (a b:Int):sX (a,b)=Z (decide (0<=a/\a<b)):=by
 refine bZ ?_;unfold sX jO aJ;with_reducible repeat' first|apply OS.ok;constructor|refine IM.mk λ_=>?_
 by_cases h:a<b<;>simp[*,hY];simp;omega
def QD (l:η) (n:Int) (I:l! l<=1000000):sY (l,n)=Z (l.contains n):=by
 refine bZ ?_;refine bX (l! l) (λi x=>x=(i:Int)/\∀k,k<i->l.getD k 0≠n) ?_ ?_ ⟨rfl,λk hk=>M⟩
 .rintro i x hi ⟨rfl,A⟩;with_reducible repeat' first|apply OS.ok;constructor|refine IM.mk λ_=>?_
  all_goals try simp only[ax,sN] at*
  omega;omega;rename_i h;rw[OH]at h
  grind
  rename_i h;rw[OH]at h;refine ⟨iC,λk hk=>?_⟩
  grind
  omega
 .rintro x ⟨rfl,A⟩;with_reducible repeat' first|apply OS.ok;constructor|refine IM.mk λ_=>?_
  all_goals try simp only[ax,sN] at*
  omega;omega;omega;omega
  symm
  rw[Ue];intro q;rw[ca]at q;let⟨k,hk,he⟩:=zB q
  grind
def ij {T:Ty} {xs:Y T.den} {p:T.den->Prop} (h:∀k:Nat,k<ah xs->p (aE _ xs (k:Int))):∀c∈xs,p c:=λc q=>by
 let⟨k,hk,he⟩:=zB q;have:=h k hk;rw[sD,aC,aI hk,Option.getD_some,he]at this;exact this
def Wi (w:WT) (s:SY) (hw:l! w.2.2.1<=1000000):Ok (pE (w,s)) λb=>b=J->(∀c∈w.2.2.1,0<=c.2/\c.2<l! w.2.1)/\l! s.1=l! w.2.1/\l! s.2.2.1=l! w.2.2.2.1/\l! s.2.2.2=l! w.2.2.2.2.1:=by
 unfold pE bf bB bN dh bp bO bM a8 cW aJ cH;refine bX (l! w.2.2.1) (λi x=>x.1=(i:Int)/\x.2=(w,s)/\∀k:Nat,k<i->0<=(aE itK w.2.2.1 (k:Int)).2/\(aE itK w.2.2.1 (k:Int)).2<l! w.2.1) ?_ ?_ ⟨rfl,rfl,λk hk=>M⟩
 .rintro i ⟨x1,x2⟩ hi ⟨A,q,I⟩;subst A q;with_reducible repeat' first|apply OS.ok;constructor|refine IM.mk λ_=>?_
  all_goals try simp only[ax,sN] at*
  all_goals first|omega|skip
  intro h;cases h;intro h;cases h;refine ⟨iC,λk hk=>?_⟩
  grind
 .rintro⟨x1,x2⟩ ⟨A,q,I⟩;subst A q;with_reducible repeat' first|apply OS.ok;constructor|refine IM.mk λ_=>?_
  all_goals try simp only[ax,sN] at*
  all_goals first|omega|skip
  refine ay (P:=λb=>b=J->l! s.1=l! w.2.1/\l! s.2.2.1=l! w.2.2.2.1/\l! s.2.2.2=l! w.2.2.2.2.1) ?_ ?_
  .with_reducible repeat' first|apply OS.ok;constructor|refine IM.mk λ_=>?_
   all_goals try simp only[ax,sN] at*
   omega;intro h;cases h;intro h;cases h
  .intro b hb;with_reducible repeat' first|apply OS.ok;constructor|refine IM.mk λ_=>?_
   exact λh=>⟨ij (T:=itK) I,hb h⟩
structure NM (w:WT) (k o:Int):Prop where
 k1:1<=k
 k2:k<=23
 ce:k=3\/k=4->0<=o/\o<l! w.1
 lk:6<=k/\k<=11->0<=o/\o<l! w.2.1
 cd:16<=k/\k<=19->0<=o/\o<l! w.2.2.1
 th:k=20\/k=21->0<=o/\o<l! w.2.2.2.2.1
 fu:k=22\/k=23->0<=o/\o<l! w.2.2.2.1
 no:k=1\/k=2\/k=5\/(12<=k/\k<=15)->o= -1
 mu:k=6\/k=7->(aE tY w.2.1 o).2=af
 rw:8<=k/\k<=11->(aE tY w.2.1 o).2=J
def ams (w:WT) (k o:Int):Ok (rH (w,k,o)) λb=>b=J->NM w k o:=by
 unfold rH bf bB bN cM bp bM a8 aJ;cases kdI k
 case no hk _=>
  simp[hk,bP,dP,QP];exact ak nofun
 all_goals simp only[bP,dP,QP,Xu]
 all_goals with_reducible repeat' first|apply OS.ok;constructor|refine IM.mk λ_=>?_
 all_goals try simp only[ax,sN] at*
 all_goals first|omega|(intro h;cases h;done)|(intro h;constructor<;>first|omega|(intro h2;first|omega|(simpa using h)))
structure SB (n:Nat) (s:SY):Prop where
 n1:n<=100000
 lk:l! s.1<=1000
 rd:∀l∈s.1,l! l.2<=n
 dn:l! s.2.2.1<=1000
 th:l! s.2.2.2<=1000
structure EN (w:WT) (s:SY) (t k o:Int):Prop where
 nm:NM w k o
 t0:0<=t
 t1:t<l! w.2.2.2.2.1
 cd:∀c∈w.2.2.1,0<=c.2/\c.2<l! w.2.1
 e1:l! s.1=l! w.2.1
 e2:l! s.2.2.1=l! w.2.2.2.1
 e3:l! s.2.2.2=l! w.2.2.2.2.1
structure FO (w:WT) (s:SY) (t k o:Int):Prop where
 b:k=1->(aE iH s.2.2.2 t).1=1
 wk:k=17->(aE iH s.2.2.2 t).1=4/\(aE iH s.2.2.2 t).2.1=o/\(aE dU s.1 (aE itK w.2.2.1 o).2).1= -1
 r:k≠1->k≠17->(aE iH s.2.2.2 t).1=2
 aq:k=6\/k=8\/k=10->(aE dU s.1 o).1= -1
 wr:k=10->(aE dU s.1 o).2.length=0
 ra:k=8->(aE dU s.1 o).2.contains t=af
 rl:k=7\/k=11->(aE dU s.1 o).1=t
 rr:k=9->(aE dU s.1 o).2.contains t=J
 xb:k=12->s.2.1= -1
 xe:k=13->s.2.1=t
 ab:k=14->(aE iH s.2.2.2 t).2.2=af
 ae:k=15->(aE iH s.2.2.2 t).2.2=J
 nt:k=16\/k=18\/k=19->(aE dU s.1 (aE itK w.2.2.1 o).2).1=t
 sp:k=20->¬o=t/\(aE iH s.2.2.2 o).1=0
 jo:k=21->¬o=t/\(aE iH s.2.2.2 o).1=5
 se:k=22->aE (.bool) s.2.2.1 o=af
 ge:k=23->aE (.bool) s.2.2.1 o=J
def QH (w:WT) (s:SY) (hs:SB i s) (hw:l! w.2.2.1<=1000) (t k o:Int):Ok (j5 (w,s,t,k,o)) λb=>b=J->EN w s t k o/\FO w s t k o:=by
 unfold j5 bf bB bN cg dD dh bp jP bM a8 aJ;refine a6 (λx=>x.2=(w,s)/\(x.1=af->EN w s t k o)) ?_ ?_
 .refine ay (Wi w s M) λb hb=>?_
  with_reducible repeat' first|apply OS.ok;constructor|refine IM.mk λ_=>?_
  exact⟨rfl,nofun⟩
  .simp only[Xu,UL];with_reducible repeat' first|apply OS.ok;constructor|refine IM.mk λ_=>?_
   exact⟨rfl,nofun⟩
   .refine ay (ams w k o) λc hc=>?_
    with_reducible repeat' first|apply OS.ok;constructor|refine IM.mk λ_=>?_
    all_goals try simp only[ax,sN] at*
    rename_i h1 h2;obtain⟨f1,f2,f3,f4⟩:=hb h1;exact λh=>⟨hc (by simpa using h),M,M,f1,f2,f3,f4⟩
 .rintro⟨x1,x2⟩ ⟨q,I⟩;dsimp only at q I;subst q;refine aR (λh=>ak λh=>by cases h) (λh=>?_);have he:=I h;obtain⟨nm,t0,t1,cd,e1,e2,e3⟩:=id he;obtain⟨_,_,ce,A,cn,th,fu⟩:=nm;have hm:16<=k/\k<=19->0<=(aE itK w.2.2.1 o).2/\(aE itK w.2.2.1 o).2<l! w.2.1:=λh=>cd _ (be (cn h).1 (cn h).2)
  have hH:6<=k/\k<=11->sY ((aE dU s.1 o).2,t)=Z ((aE dU s.1 o).2.contains t):=λh=>QD _ _ (by
   have:=hs.rd _ (be (T:=dU) (A h).1 (by have:=(A h).2;omega));have:=hs.n1;omega)
  cases kdI k
  case no hk _=>omega
  all_goals simp only[bP,dP,QP]
  all_goals with_reducible repeat' first|apply OS.ok;constructor|refine IM.mk λ_=>?_
  all_goals try simp only[hH M,UL]
  all_goals with_reducible repeat' first|apply OS.ok;constructor|refine IM.mk λ_=>?_
  all_goals try simp only[ax,sN] at*
  all_goals first|omega|(intro h;cases h;done)|exact (hm ⟨cr,cr⟩).1|(rw [e1];exact (hm ⟨cr,cr⟩).2)|(intro h;refine ⟨he,?_⟩;constructor<;>first|omega|(intros;first|omega|assumption|(simpa using h)|exact⟨by assumption,by first|assumption|exact⟨by assumption,by assumption⟩⟩))|(refine ⟨he,?_⟩;constructor<;>first|omega|(intros;first|omega|assumption))
end
end Go.Proofs.YtononplakadipaaGreatDoor.AI
