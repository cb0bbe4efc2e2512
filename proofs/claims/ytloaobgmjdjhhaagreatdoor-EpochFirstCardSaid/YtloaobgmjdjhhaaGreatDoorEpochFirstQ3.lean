/-
  Texts of the proof, part 4 of 6: what is used to prove the statement. No condition.
-/
import Derived.Test.YtloaobgmjdjhhaaGreatDoorEpochFirstQ2
import Derived.Deep.AppendSrc
import Derived.Laws.AppendOwn
import Derived.Defers
namespace Go.Proofs.YtloaobgmjdjhhaaGreatDoor.AI
open Go.RowKit
set_option maxRecDepth 100000
set_option maxHeartbeats 4000000
set_option linter.unusedVariables false
set_option linter.unusedSimpArgs false
open Act renaming put→O9
open _root_.Array renaming length_toList→iM,range→zu
open _root_.Bool renaming true→J,false→af,and_false→Mh
open Builtin renaming zeroCells→md,firstCells→Mg
open Call renaming operands→eY
open Instr renaming findNow→eX,sliceBounds→kf,sliceBound→kX,sliceAt→qh,findKey→tI,slice→vA,sameBits→Mf
open _root_.Int renaming ofNat→aM,toNat→aQ
open IntKind renaming wrap→pt
open _root_.List renaming length→ai,replicate→aA,length_cons→cg,range→cq,take→dQ,cons_append→fR,length_nil→gE,nil_append→kn,toArray→lj,getElem?_cons_zero→mb,take_succ_cons→wL,replicate_succ→wM,foldl_cons→xR
open _root_.Nat renaming beq→aB,testBit→aO,add_zero→dt,ble→eR,blt→gF,min→jg
open Oper renaming wp→Iz
open _root_.Option renaming some→M,none→D,bind_some→aG,map_some→ct,getD_some→vL
open Region renaming wanted→iX
open Result renaming andThen_ok→cU
open Sem renaming run_bind→eQ,run→kz,run_pure→po
open Value.bool renaming injEq→C7
open World renaming shape?→sD,cell?→O5
noncomputable section
structure Gl (w w':World) (k:Nat) (ob:Obj):Prop where
 os:w'.os=w.os
 tape:w'.tape=w.tape
 output:w'.output=w.output
 size:w'.heap.size=w.heap.size
 at_:w'.heap[k]? =M ob
 other:∀j,j≠k->w'.heap[j]? =w.heap[j]?
 shp:∀j,w'.shape? j=w.shape? j
structure UK (w w':World) (ob:Obj):Prop where
 os:w'.os=w.os
 tape:w'.tape=w.tape
 output:w'.output=w.output
 size:w'.heap.size=w.heap.size+1
 at_:w'.heap[w.heap.size]? =M ob
 other:∀j,j<w.heap.size->w'.heap[j]? =w.heap[j]?
theorem rL.wset {φ:PM} {E:Nat->Prop} {h:HF} {w w':World} (r:rL φ E h w) {id k:Nat} {b b':wK} {ob:Obj} (hb:h id=M b) (hk:φ id=M k) (a:Gl w w' k ob) (hob:js φ (tot E φ h) w b' ob) (nw:HF) (hnw:nw id=M b'):
 jt φ φ h (eZ h [id] nw) w w'/\rL φ E (eZ h [id] nw) w':=by
 have hdom:∀i,(∃x,eZ h [id] nw i=M x)↔∃x,h i=M x:=λi=>by
  unfold eZ;by_cases hi:i=id
  .subst hi;simp[hnw,hb]
  .simp[hi]
 have hown:∀j,own φ (eZ h [id] nw) j↔own φ h j:=λj=>by
  constructor
  .rintro⟨i,x,h1,h2⟩;obtain⟨y,z⟩:=(hdom i).1 ⟨x,h1⟩;exact⟨i,y,z,h2⟩
  .rintro⟨i,x,h1,h2⟩;obtain⟨y,z⟩:=(hdom i).2 ⟨x,h1⟩;exact⟨i,y,z,h2⟩
 have m:jt φ φ h (eZ h [id] nw) w w':=by
  refine ⟨λ_ _ h=>h,⟨a.os,a.tape,a.output,by rw[a.size];exact bT _,λj hj ho=>?_,λj _=>a.shp j⟩,λj _ h=>(hown j).1 h⟩;exact a.other j (λe=>ho (e▸⟨id,b,hb,hk⟩))
 refine ⟨m,⟨λi j x y kk hi hj h1 h2=>?_,λi x hi=>?_,λk hk=>dK (r.el k hk) m.ext.size,λg cells hg=>m.keepF (r.gl g cells hg)⟩⟩
 .obtain⟨Z,A⟩:=(hdom i).1 ⟨x,hi⟩;obtain⟨U,s⟩:=(hdom j).1 ⟨y,hj⟩;exact r.inj i j Z U kk A s h1 h2
 .by_cases hid:i=id
  .subst hid;have:x=b':=by unfold eZ at hi;simp[hnw]at hi;exact hi.symm
   subst this;obtain⟨k',h1,h2,_⟩:=r.at_ i b hb;rw[hk]at h1;cases h1;exact⟨k,hk,h2,ob,a.at_,hob.mono λ_ _ h=>m.keep h⟩
  .have L:h i=M x:=by unfold eZ at hi;simpa[hid] using hi
   obtain⟨k',h1,h2,ob',h3,h4⟩:=r.at_ i x L;have hne:k'≠k:=λe=>hid (r.inj i id x b k L hb (e▸h1) hk)
   exact⟨k',h1,h2,ob',by rw[a.other k' hne];exact h3,h4.mono λ_ _ h=>m.keep h⟩
theorem rL.wnew {φ:PM} {E:Nat->Prop} {h:HF} {w w':World} (r:rL φ E h w) {id:Nat} (hid:φ id=D) {b:wK} {ob:Obj} (z:UK w w' ob) (hob:js φ (tot E φ h) w b ob) (del:ι) (nw:HF) (hnw:nw id=M b) (hdel:∀i∈del,i≠id->nw i=D):
 ∃φ',φ' id=M w.heap.size/\jt φ φ' h (eZ h (id::del) nw) w w'/\(∀i k,φ' i=M k->φ i=M k\/i∈[id])/\rL φ' E (eZ h (id::del) nw) w':=by
 have hsub:∀i x,eZ h (id::del) nw i=M x->i≠id->h i=M x/\i∉del:=λi x A hi=>by
  unfold eZ at A;by_cases hd:i∈del
  .rw[aC (by simp[hd]),hdel i hd hi]at A;cases A
  .rw[aw (by simp[hi,hd])]at A;exact⟨A,hd⟩
 have hlt:∀i x k,h i=M x->φ i=M k->k<w.heap.size:=λi x k hi hk=>by
  obtain⟨k',h1,_,ob',L,_⟩:=r.at_ i x hi;rw[hk]at h1;cases h1;exact (cH.1 L).1
 have hφ:∀i,i≠id->(if i=id then M w.heap.size else φ i)=φ i:=λi hi=>by simp[hi]
 have m:jt φ (λi=>if i=id then M w.heap.size else φ i) h (eZ h (id::del) nw) w w':=by
  refine ⟨λi k hk=>?_,⟨z.os,z.tape,z.output,by rw[z.size];omega,λj hj _=>z.other j hj,λj hj=>?_⟩,?_⟩
  .have:i≠id:=λe=>by rw[e,hid]at hk;cases hk
   rw[hφ i this];exact hk
  .unfold sD;rw[z.other j hj]
  .rintro j hj ⟨i,x,h1,h2⟩;by_cases hi:i=id
   .simp[hi]at h2;omega
   .have L:φ i=M j:=by simpa[hi] using h2
    exact⟨i,x,(hsub i x h1 hi).1,L⟩
 refine ⟨_,by simp,m,λi k hk=>?_,⟨λi j x y k hi hj h1 h2=>?_,λi x hi=>?_,λk hk=>dK (r.el k hk) m.ext.size,λg cells hg=>m.keepF (r.gl g cells hg)⟩⟩
 .by_cases hi:i=id
  .right;simp[hi]
  .left;rw[hφ i hi]at hk;exact hk
 .by_cases a:i=id
  .by_cases s:j=id
   .rw[a,s]
   .exfalso;rw[hφ j s]at h2;have:=hlt j y k (hsub j y hj s).1 h2;simp[a]at h1;omega
  .rw[hφ i a]at h1;have hix:=(hsub i x hi a).1;by_cases s:j=id
   .exfalso;have:=hlt i x k hix h1;simp[s]at h2;omega
   .rw[hφ j s]at h2;exact r.inj i j x y k hix (hsub j y hj s).1 h1 h2
 .by_cases a:i=id
  .subst a;have:x=b:=by unfold eZ at hi;simp[hnw]at hi;exact hi.symm
   subst this;refine ⟨w.heap.size,by simp,λhe=>?_,ob,z.at_,hob.mono λ_ _ h=>m.keep h⟩;have:=r.el _ he;omega
  .obtain⟨k,h1,h2,ob',L,U⟩:=r.at_ i x (hsub i x hi a).1;refine ⟨k,by rw[hφ i a];exact h1,h2,ob',?_,U.mono λ_ _ h=>m.keep h⟩;rw[z.other k (hlt i x k (hsub i x hi a).1 h1)];exact L
theorem rN (w:World) (ob:Obj):UK w {w with heap:=w.heap.push ob} ob:=by
 refine ⟨rfl,rfl,rfl,by simp,by simp,λj hj=>?_⟩;rw[Array.getElem?_push,aw (by omega)]
theorem UK.drawn {w w':World} {ob:Obj} (d:Nat) (h:UK {w with drawn:=d} w' ob):UK w w' ob:=⟨h.os,h.tape,h.output,h.size,h.at_,h.other⟩
theorem gZ.makes {P:Program} {o:Oper} {e:AJ} {h:HF} {rd:ι} {nx:Nat} {b:wK} {val:AV}
 (hv:∀(φ:PM) (E:Nat->Prop) (h':HF) (w:World) (a:Act),(∀i∈rd,h' i=h i)->XW φ E h' w a e o->rL φ E h' w->
   ∃v w' ob,(execOp a.eval o).run P w= .ok (.value v) w'/\UK w w' ob/\js φ (tot E φ h') w b ob/\∀φ' O,φ' nx=M w.heap.size->cS φ' O w' val v):
 gZ P o e.get h ⟨val,rd,[nx],jz [(nx,b)],[nx]⟩:=by
 intro φ E h' w a h1 h2 Z s U;obtain⟨v,w',ob,hrun,L,hob,hval⟩:=hv φ E h' w a h1 (λx y A z=>uo s Z A z) s;obtain⟨φ',g1,g2,g3,g4⟩:=s.wnew (id:=nx) (U nx (by simp)) L hob [] (jz [(nx,b)]) (by simp[jz]) (by simp);unfold Iz;rw[hrun];exact⟨v,φ',rfl,g2,g3,g4,hval φ' _ g1⟩
theorem gZ.writes {P:Program} {o:Oper} {e:AJ} {h:HF} {rd:ι} {id:Nat} {b b':wK} {val:AV} (hb:h id=M b)
 (hv:∀(φ:PM) (E:Nat->Prop) (h':HF) (w:World) (a:Act),(∀i∈rd,h' i=h i)->h' id=M b->XW φ E h' w a e o->rL φ E h' w->
   ∃r w' k ob,(execOp a.eval o).run P w= .ok r w'/\φ id=M k/\Gl w w' k ob/\js φ (tot E φ h') w b' ob/\(∃v,(r= .value v\/r= .skip/\v=undef)/\cS φ (tot E φ (eZ h' [id] (jz [(id,b')]))) w' val v)):
 gZ P o e.get h ⟨val,rd,[id],jz [(id,b')],[]⟩:=by
 intro φ E h' w a h1 h2 h3 s h5;obtain⟨r,w',k,ob,hrun,hk,Z,hob,v,hr,hval⟩:=hv φ E h' w a h1 (by rw[h2 id (by simp)];exact hb) (λx y U L=>uo s h3 U L) s;obtain⟨A,z⟩:=s.wset (id:=id) (by rw[h2 id (by simp)];exact hb) hk Z hob (jz [(id,b')]) (by simp[jz]);unfold Iz;rw[hrun];rcases hr with rfl|⟨rfl,rfl⟩
 .exact⟨v,φ,rfl,A,λ_ _ h=>.inl h,z,hval⟩
 .exact⟨undef,φ,rfl,A,λ_ _ h=>.inl h,z,hval⟩
theorem mr {l:Y AV} (h:gX l=J):∀x∈l,x.isCell=J:=by
 induction l with
 |nil=>intro x a;cases a
 |cons y l s=>
  simp only[gX,al]at h;intro x a;rcases bm.1 a with rfl|a
  .exact h.1
  .exact s h.2 x a
theorem qA:∀{l:Y AV} {fs:Y FV},yI l=M fs->l=fs.map .f
 |[],fs,h=>by simp only[yI,ah]at h;subst h;rfl
 |.f x::r,fs,h=>by
  simp only[yI]at h;split at h
  .rename_i l hl;simp only[ah]at h;subst h;rw[qA hl];rfl
  .cases h
 |.ptr _ _::_,_,h=>by simp[yI]at h
 |.sl _ _ _::_,_,h=>by simp[yI]at h
 |.row _ _ _::_,_,h=>by simp[yI]at h
 |.mp _::_,_,h=>by simp[yI]at h
 |.emp::_,_,h=>by simp[yI]at h
 |.agg _::_,_,h=>by simp[yI]at h
 |.tup _::_,_,h=>by simp[yI]at h
 |.clo _ _::_,_,h=>by simp[yI]at h
def Cs (φ:PM) (O:Nat->Prop) (w:World) (l:Y AV) (vs:ξ):Prop:=vs.length=l.length/\(∀x∈l,x.isCell=J)/\∀(j:Nat) x v,l[j]? =M x->vs[j]? =M v->cS φ O w x v
theorem BC.get_toMx {c:BC} (hc:c.isCells=J) (j:Nat):c.get j=c.toMx[j]? :=by
 cases c with
 |fz l=>simp[BC.get,BC.toMx]
 |mx l=>rfl
 |mp _=>cases hc
 |it _ _=>cases hc
theorem BC.len_toMx {c:BC} (hc:c.isCells=J):c.len=c.toMx.length:=by
 cases c with
 |fz l=>simp[BC.len,BC.toMx]
 |mx l=>rfl
 |mp _=>cases hc
 |it _ _=>cases hc
theorem oA (l:Y AV):(pZ l).toMx=l/\(pZ l).isCells=J:=by
 unfold pZ;cases h:yI l with
 |none=>exact⟨rfl,rfl⟩
 |some fs=>exact⟨(qA h).symm,rfl⟩
theorem qL {φ:PM} {O:Nat->Prop} {w:World} {ty:TypeId} {c:BC} (hc:c.isCells=J) {arr:Array Value} (hl:c.toMx.length<=arr.size)
 (h:∀(j:Nat) x,c.toMx[j]? =M x->x.isCell=J/\∃v,arr[j]? =M v/\cS φ O w x v):js φ O w ⟨ty,c⟩ (.cells arr ty (0,0)):=by
 have h2:wq φ O w c arr:=⟨by rw[BC.len_toMx hc];exact hl,λj x a=>h j x (by rw[<- BC.get_toMx hc];exact a)⟩
 unfold js;cases hb:c with
 |fz l=>rw[hb]at h2;exact⟨arr,rfl,h2⟩
 |mx l=>rw[hb]at h2;exact⟨arr,rfl,h2⟩
 |mp _=>rw[hb]at hc;cases hc
 |it _ _=>rw[hb]at hc;cases hc
theorem JD {φ:PM} {O:Nat->Prop} {w:World} {ty:TypeId} {l:Y AV} {vs:ξ} (h:Cs φ O w l vs):js φ O w ⟨ty,pZ l⟩ (.cells vs.toArray ty (0,0)):=by
 obtain⟨h1,h2⟩:=oA l;refine qL h2 (by rw[h1];simp[h.1]) λj x a=>?_
 rw[h1]at a;have hj:j<vs.length:=by rw[h.1];exact (bn.1 a).1
 exact⟨h.2.1 x (aZ a),vs[j],by simp[hj],h.2.2 j x _ a (ay hj)⟩
theorem WN {φ:PM} {O:Nat->Prop} {w:World} {x:AV} {v:Value} (h:cS φ O w x v) (hc:gX x.cs=J):Cs φ O w x.cs v.cells.toList:=by
 have one:x.cs=[x]->v.cells=#[v]->Cs φ O w x.cs v.cells.toList:=λh1 h2=>by
  rw[h1]at hc ⊢;rw[h2];exact⟨rfl,mr hc,λj y u a hu=>by cases j with|zero=>simp at a hu;subst a;subst hu;exact h|succ j=>simp at a⟩
 cases h with
 |ptr h=>exact one rfl rfl
 |sl h _ _=>exact one rfl rfl
 |row h _ _ _=>exact one rfl rfl
 |emp=>exact one rfl rfl
 |anyb=>exact one rfl rfl
 |mp h=>exact one rfl rfl
 |clo _ _=>exact one rfl rfl
 |tup _ _=>exact b8 hc (by simp[AV.cs,gX,AV.isCell])
 |@agg l vs hl hcl hr=>exact⟨hl,hcl,hr⟩
 |@f y u hf=>
  cases hf with
  |raw v=>
   have hv:v.oneCell'=J:=by
    have:(AV.f (.raw v)).cs=[.f (.raw v)]:=rfl;rw[this]at hc;simpa[gX,AV.isCell,FV.isCell] using hc
   refine one rfl ?_;cases v<;>first|rfl|simp[Value.oneCell']at hv
  |nil=>exact one rfl rfl
  |sl=>exact one rfl rfl
  |ptr=>exact one rfl rfl
  |agg l vs hl hcl hr=>
   refine ⟨by simp[AV.cs,Value.cells,hl],mr hc,λj y u a hu=>?_⟩;simp only[AV.cs,bd]at a;cases hq:l[j]? with
   |none=>rw[hq]at a;cases a
   |some q=>rw[hq]at a;simp at a;subst a;exact .f (hr j q u hq (by simpa[Value.cells] using hu))
theorem oe.one {O:Nat->Prop} {w:World} {x:FV} {v:Value} (h:oe O w x v) (hc:x.isCell=J):v.oneCell'=J:=by
 cases h with
 |raw v=>exact hc
 |nil=>rfl
 |sl=>rfl
 |ptr=>rfl
 |agg=>cases hc
theorem cS.one {φ:PM} {O:Nat->Prop} {w:World} {x:AV} {v:Value} (h:cS φ O w x v) (hc:x.isCell=J):v.oneCell'=J:=by
 cases h with
 |f h=>exact h.one hc
 |ptr=>rfl
 |sl=>rfl
 |row=>rfl
 |emp=>rfl
 |anyb=>rfl
 |mp=>rfl
 |agg=>cases hc
 |tup=>cases hc
 |clo=>rfl
theorem Cs.one {φ:PM} {O:Nat->Prop} {w:World} {l:Y AV} {vs:ξ} (h:Cs φ O w l vs):∀v∈vs,v.oneCell'=J:=by
 intro v hv;obtain⟨j,hj⟩:=fw hv;have hlt:j<l.length:=by rw[<- h.1];exact (bn.1 hj).1
 exact (h.2.2 j _ v (ay hlt) hj).one (h.2.1 _ (vN hlt))
theorem Cs.append {φ:PM} {O:Nat->Prop} {w:World} {l s:Y AV} {vs vs':ξ} (h:Cs φ O w l vs) (h':Cs φ O w s vs'):Cs φ O w (l++s) (vs++vs'):=by
 refine ⟨by simp[h.1,h'.1],λx a=>(bG.1 a).elim (h.2.1 x) (h'.2.1 x),λj x v a hv=>?_⟩;rcases ci j l.length with hj|hj
 .rw[bU hj]at a;rw[bU (by rw[h.1];exact hj)]at hv;exact h.2.2 j x v a hv
 .rw[cj hj]at a;rw[cj (by rw[h.1];exact hj),h.1]at hv;exact h'.2.2 _ x v a hv
theorem Cs.take {φ:PM} {O:Nat->Prop} {w:World} {l:Y AV} {vs:ξ} (h:Cs φ O w l vs) (n:Nat):Cs φ O w (l.take n) (vs.take n):=by
 refine ⟨by simp[h.1],λx a=>h.2.1 x (gh a),λj x v a hv=>?_⟩;rw[cW]at a hv;split at a
 .rename_i hj;rw[aC hj]at hv;exact h.2.2 j x v a hv
 .cases a
theorem Cs.drop {φ:PM} {O:Nat->Prop} {w:World} {l:Y AV} {vs:ξ} (h:Cs φ O w l vs) (n:Nat):Cs φ O w (l.drop n) (vs.drop n):=by
 refine ⟨by simp[h.1],λx a=>h.2.1 x (List.mem_of_mem_drop a),λj x v a hv=>?_⟩;rw[ig]at a hv;exact h.2.2 _ x v a hv
theorem Cs.splice {φ:PM} {O:Nat->Prop} {w:World} {l a:Y AV} {vs vs':ξ} (h:Cs φ O w l vs) (h':Cs φ O w a vs') (off:Nat):Cs φ O w (splice l off a) (splice vs off vs'):=by
 unfold AI.splice;rw[h'.1];exact ((h.take off).append h').append (h.drop _)
theorem Cs.raws {φ:PM} {O:Nat->Prop} {w:World} (z:ξ) (s:m_ z=J):Cs φ O w (z.map raw) z:=by
 refine ⟨by simp,λx a=>?_,λj x v a hv=>?_⟩
 .obtain⟨v,hv,rfl⟩:=du.1 a;exact gI.1 s v hv
 .rw[bd]at a;rw[hv]at a;simp at a;subst a;exact .f (.raw v)
theorem Cs.mono {φ φ':PM} {O O':Nat->Prop} {w w':World} {l:Y AV} {vs:ξ} (h:Cs φ O w l vs) (hk:∀x v,cS φ O w x v->cS φ' O' w' x v):Cs φ' O' w' l vs:=⟨h.1,h.2.1,λj x v a hv=>hk _ _ (h.2.2 j x v a hv)⟩
theorem Gl.setRow {w:World} {k:Nat} {arr arr':Array Value} {ty:TypeId} (a:w.heap[k]? =M (.cells arr ty (0,0))) (hs:arr'.size=arr.size):Gl w (w.setRow k arr') k (.cells arr' ty (0,0)):=by
 refine ⟨rfl,rfl,rfl,by simp,setRow_heap w k arr arr' ty (0,0) a,λj hj=>setRow_other w k j arr' hj,λj=>?_⟩;unfold sD;by_cases hj:j=k
 .subst hj;rw[setRow_heap w j arr arr' ty (0,0) a,a];simp[hs]
 .rw[setRow_other w k j arr' hj]
section
variable {P:Program} {o:Oper} {e:AJ} {h:oL} {nx:Nat} {R:C5}
theorem uu {t:TypeId} {z:ξ} (a:tW P t=M z) (w:World):∃v,(zeroValue t).run P w= .ok v w/\v.cells.toList=z/\∃i,P.info? t=M i/\i.zero=M v:=by
 unfold tW at a;cases hi:P.info? t with
 |none=>rw[hi]at a;cases a
 |some i=>
  rw[hi]at a;simp only[aG]at a;cases hv:i.zero with
  |none=>rw[hv]at a;cases a
  |some v=>
   rw[hv]at a;simp only[ct,ah]at a;exact⟨v,by simp[zeroValue,typeInfo,hi,hv],a,i,rfl,hv⟩
theorem ajj {t:TypeId} {z:ξ} (Z:o.op= .alloc t) (U:tW P t=M z) (hc:m_ z=J) (L:eP (.alloc t z) e h nx=M R):gZ P o e.get h.get R.eff:=by
 simp only[eP,ah]at L;subst L;refine gZ.makes λφ E h' w a _ _ _=>?_
 obtain⟨v,h1,h2,_⟩:=uu U w;refine ⟨.pointer (M ⟨w.heap.size,0,D⟩),{w with heap:=w.heap.push (.cells v.cells t)},.cells v.cells t (0,0),?_,rN w _,?_,λφ' O hφ=>.ptr hφ⟩
 .unfold execOp;rw[Z];simp[Instr.alloc,h1,newVar,newRow,newObj,kz]
 .have s:BC.toMx (.fz (z.map .raw))=z.map raw:=by simp[BC.toMx,raw]
  refine qL rfl (by rw[s,<-h2];simp) λj x A=>?_
  rw[s]at A;have cs:=Cs.raws (φ:=φ) (O:=tot E φ h') (w:=w) z hc;have hj:j<z.length:=by have:=(bn.1 A).1;simpa using this
  refine ⟨cs.2.1 x (aZ A),z[j],?_,cs.2.2 j x _ A (ay hj)⟩;have:v.cells.toList[j]? =M z[j]:=by rw[h2];exact ay hj
  simpa using this
theorem ar4 {t:TypeId} {x:Operand} (z:o.op= .box t x) (s:eP (.box t x) e h nx=M R):gZ P o e.get h.get R.eff:=by
 simp only[eP]at s;split at s
 .rename_i v A;split at s
  .rename_i hc;simp only[ah]at s;subst s;refine gZ.makes λφ E h' w a _ hp _=>?_
   have hr:=WN (hp x _ (by rw[z];simp[Op.operands]) A) hc;refine ⟨.pointer (M ⟨w.heap.size,0,D⟩),{w with heap:=w.heap.push (.cells (a.eval x).cells t)},.cells (a.eval x).cells t (0,0),?_,rN w _,?_,λφ' O hφ=>.ptr hφ⟩
   .unfold execOp;rw[z];simp[Instr.box,newVar,newRow,newObj,kz]
   .have:=JD (ty:=t) hr;simpa using this
  .cases s
 .cases s
theorem ny {α:Type} {l vs:Y α} {off:Nat} (hle:off+vs.length<=l.length) (j:Nat):(splice l off vs)[j]? =if j<off then l[j]? else if j<off+vs.length then vs[j-off]? else l[j]? :=by
 unfold splice;rw[gV];have h1:(l.take off).length=off:=by simp;omega
 by_cases hj:j<off
 .rw[aC hj,bU (by rw[h1];exact hj),cW,aC hj]
 .rw[aw hj,cj (by omega),h1];by_cases a:j<off+vs.length
  .rw[aC a,bU (by omega)]
  .rw[aw a,cj (by omega),ig];congr 1;omega
theorem o6 {α:Type} {l vs:Y α} {off:Nat} (hle:off+vs.length<=l.length):(splice l off vs).length=l.length:=by
 unfold splice;simp;omega
theorem S_ (off:Nat):∀(vs:ξ) (k:Nat) (arr:Array Value),off+k+vs.length<=arr.size->∀j:Nat,
 ((vs.zipIdx k).foldl (λcs (p:Value×Nat)=>cs.setIfInBounds (off+p.2) p.1) arr)[j]? =if j<off+k then arr[j]? else if j<off+k+vs.length then vs[j-(off+k)]? else arr[j]?
 |[],k,arr,_,j=>by
  simp only[List.zipIdx_nil,List.foldl_nil,gE,dt];split<;>rfl
 |v::vs,k,arr,hle,j=>by
  simp only[cg]at hle;rw[List.zipIdx_cons,xR,S_ off vs (k+1) _ (by simp;omega) j];simp only[cg];by_cases h1:j<off+k
  .rw[aC (by omega),aC h1,qC (by omega)]
  .by_cases h2:j=off+k
   .subst h2;rw[aC (by omega),aw (by omega),aC (by omega)];simp[show off+k<arr.size by omega]
   .rw[aw (by omega),aw h1];by_cases a:j<off+k+(vs.length+1)
    .rw[aC (by omega),aC a,show j-(off+k)=(j-(off+(k+1)))+1 from by omega];simp
    .rw[aw (by omega),aw a,qC (by omega)]
theorem S9 (off:Nat) (c:Array Value) (l:ξ) (hle:off+c.size<=l.length):(c.zipIdx.foldl (λcs (p:Value×Nat)=>cs.setIfInBounds (off+p.2) p.1) l.toArray)=(splice l off c.toList).toArray:=by
 rw[<- Array.foldl_toList,Array.toList_zipIdx];apply Array.ext_getElem?;intro j;rw[S_ off c.toList 0 l.toArray (by simpa using hle) j];simp only[dt,kP];rw[ny (by simpa using hle)]
theorem Qi {φ:PM} {E:Nat->Prop} {h':HF} {w:World} {a:Act} (hp:XW φ E h' w a e o) {place:Nat->I (Nat×Nat)}:∀(ps:Y (Nat×Operand)) (ps':Y (Nat×Nat×Operand)) (cells cs:Y AV) (vs:ξ),
 (ps'.length=ps.length)->(∀(j:Nat) i x,ps[j]? =M (i,x)->∃of sz,ps'[j]? =M (of,sz,x)/\place i=M (of,sz))->(∀p∈ps,p.2∈o.op.operands)->Cs φ (tot E φ h') w cells vs->Al cells e ps'=M cs->
 ∃vs',Instr.fill place vs.toArray (ps.map λp=>(p.1,a.eval p.2))=M vs'.toArray/\Cs φ (tot E φ h') w cs vs'
 |[],ps',cells,cs,vs,hl,_,_,hcs,hf=>by
  cases ps' with
  |nil=>simp only[Al,ah]at hf;subst hf;exact⟨vs,rfl,hcs⟩
  |cons _ _=>simp at hl
 |(i,x)::ps,ps',cells,cs,vs,hl,hpl,hm,hcs,hf=>by
  obtain⟨of,sz,h1,h2⟩:=hpl 0 i x rfl;cases ps' with
  |nil=>simp at h1
  |cons p ps'=>
   simp at h1;subst h1;simp only[Al]at hf;split at hf
   .rename_i v hv;split at hf
    .rename_i hc;simp only[al,c8]at hc;obtain⟨⟨A,z⟩,s⟩:=hc;have hr:=WN (hp x v (hm _ (c9 ..)) hv) s;have hsz:(a.eval x).cells.size=sz:=by have:=hr.1;simp at this;omega
     have hle:of+sz<=vs.length:=by rw[hcs.1];exact a_ z
     obtain⟨vs',U,L⟩:=Qi hp ps ps' _ cs _ (by simpa using hl) (λj i x hj=>by have:=hpl (j+1) i x (by simpa using hj);simpa using this) (λp hp=>hm p (cC _ hp)) (hcs.splice hr of) hf;refine ⟨vs',?_,L⟩;simp only[eV,Instr.fill,h2];have hcd:((decide ((a.eval x).cells.size≠sz))||decide (of+(a.eval x).cells.size>vs.toArray.size))=af:=by
      rw[hsz];simp;omega
     rw[aw (by rw[hcd];simp)];have:=S9 of (a.eval x).cells vs (by rw[hsz];exact hle);rw[<- U,<-this]
    .cases hf
   .cases hf
theorem Fj {t:TypeId}:∀(ps:Y (Nat×Operand)) (ps':Y (Nat×Nat×Operand)),xZ P t ps=M ps'->ps'.length=ps.length/\∀(j:Nat) i x,ps[j]? =M (i,x)->∃of sz,ps'[j]? =M (of,sz,x)/\Cp P t i=M (of,sz)
 |[],ps',h=>by simp only[xZ,ah]at h;subst h;exact⟨rfl,λj i x z=>by simp at z⟩
 |(i,x)::ps,ps',h=>by
  simp only[xZ]at h;split at h
  .rename_i of sz l h1 h2;simp only[ah]at h;subst h;obtain⟨L,A⟩:=Fj ps l h2;refine ⟨by simp[L],λj s a hj=>?_⟩;cases j with
   |zero=>simp at hj;obtain⟨rfl,rfl⟩:=hj;exact⟨of,sz,rfl,h1⟩
   |succ j=>simpa using A j s a (by simpa using hj)
  .cases h
theorem JJ (w:World):∀(fs:Y Field),(fs.all λf=>(fI P f.type).isSome)=J->(fs.mapM (λf=>do pure (f.offset,<-sizeOf f.type)):Sem (Y (Nat×Nat))).run P w= .ok (fs.map λf=>(f.offset,(fI P f.type).getD 0)) w
 |[],_=>by simp
 |f::fs,h=>by
  simp only[List.all_cons,al]at h;obtain⟨sz,hs⟩:=iY.1 h.1;have h1:=gM hs w;have a:=JJ w fs h.2;simp only[List.mapM_cons,eQ,h1,cU,po,a,eV,hs,vL]
theorem Zl {t:TypeId} {ps:Array (Nat×Operand)} {z:ξ} {ps':Y (Nat×Nat×Operand)} (L:o.op= .build t ps) (hz:tW P t=M z) (hc:m_ z=J) (hps:xZ P t ps.toList=M ps')
 (hu:(∃fs,P.underlying t=M (.struct fs)/\(fs.toList.all λf=>(fI P f.type).isSome)=J)\/∃n el sz,P.underlying t=M (.array n el)/\fI P el=M sz) (s:eP (.build z ps') e h nx=M R):gZ P o e.get h.get R.eff:=by
 simp only[eP]at s;split at s
 .rename_i cs hf;rw[dJ s];refine gZ.reads λφ E h' w a _ hp _=>?_
  obtain⟨v,h1,h2,_⟩:=uu hz w;have hcells:v.cells=z.toArray:=by rw[<- h2]
  obtain⟨g1,g2⟩:=Fj ps.toList ps' hps;have hops:∀p∈ps.toList,p.2∈o.op.operands:=λp hp=>by
   rw[L];simp only[Op.operands,List.mem_toArray,du];exact⟨p,hp,rfl⟩
  have hmap:(ps.map λx:Nat×Operand=>(x.1,a.eval x.2)).toList=ps.toList.map λp=>(p.1,a.eval p.2):=by simp
  have fin:∀place:Nat->I (Nat×Nat),(∀i,Cp P t i≠D->place i=Cp P t i)->∃vs':ξ,Instr.fill place v.cells (ps.map λx:Nat×Operand=>(x.1,a.eval x.2)).toList=M vs'.toArray/\cS φ (tot E φ h') w (NZ cs) (.agg vs'.toArray):=by
   intro place hpl;obtain⟨vs',k1,k2⟩:=Qi (place:=place) hp ps.toList ps' _ cs z g1 (λj i x hj=>by
    obtain⟨of,sz,q1,Z⟩:=g2 j i x hj;exact⟨of,sz,q1,by rw[hpl i (by rw[Z];simp),Z]⟩) hops (Cs.raws z hc) hf
   refine ⟨vs',by rw[hmap,hcells];exact k1,?_⟩;unfold NZ;cases hfs:yI cs with
   |none=>exact .agg k2.1 k2.2.1 k2.2.2
   |some fs=>
    have he:=qA hfs;refine .f (.agg fs vs' (by rw[k2.1,he];simp) (λx A=>k2.2.1 (.f x) (by rw[he];exact du.2 ⟨x,A,rfl⟩)) λj x u A hu=>?_);have:=k2.2.2 j (.f x) u (by rw[he,bd,A];rfl) hu;cases this with
    |f h=>exact h
  rcases hu with ⟨fs,hu,hall⟩|⟨n,el,sz,hu,hs⟩
  .obtain⟨vs',k1,k2⟩:=fin (λi=>(fs.map λf=>(f.offset,(fI P f.type).getD 0))[i]?) (λi hi=>by
    unfold Cp at hi ⊢;rw[hu]at hi ⊢;simp only[Array.getElem?_map]at hi ⊢;cases hf:fs[i]? with
    |none=>rw[hf]at hi;simp at hi
    |some f=>
     simp only[ct,aG];cases hs:fI P f.type with
     |none=>rw[hf]at hi;simp[hs]at hi
     |some sz=>simp)
   refine ⟨_,?_,k2⟩;have hm:=JJ w fs.toList hall;have U:(fs.mapM (λf=>do pure (f.offset,<-sizeOf f.type)):Sem (Array (Nat×Nat))).run P w= .ok (fs.map λf=>(f.offset,(fI P f.type).getD 0)) w:=by
    rw[Array.mapM_eq_mapM_toList];simp only[Sem.run_map,hm,cU];congr 1;apply Mi;simp
   unfold execOp;rw[L];simp only[Instr.build,eQ,h1,cU,run_underlying hu,U,po,k1]
  .obtain⟨vs',k1,k2⟩:=fin (λi=>M (i*sz,sz)) (λi hi=>by
    unfold Cp;rw[hu];simp[hs])
   refine ⟨_,?_,k2⟩;have h3:=gM hs w;unfold execOp;rw[L];simp only[Instr.build,eQ,h1,cU,run_underlying hu,h3,po,k1]
 .cases s
end
section
variable {P:Program} {o:Oper} {e:AJ} {h:oL} {nx:Nat} {R:C5}
theorem tw {t el:TypeId} (h:BL P t=M el):P.underlying t=M (.slice el):=by
 unfold BL at h;split at h
 .rename_i e hu;simp only[ah]at h;subst h;exact hu
 .cases h
theorem nA (z:ξ):∀n,(repl z n).length=n*z.length
 |0=>by simp[repl]
 |n+1=>by simp[repl,nA z n,jf];omega
theorem Do (z:ξ):∀(n j:Nat),j<n*z.length->(repl z n)[j]? =(z[j%z.length]?).map .raw
 |0,j,h=>by simp at h
 |n+1,j,h=>by
  have a:0<z.length:=by
   rcases Me z.length with h0|h0
   .rw[h0]at h;simp at h
   .exact h0
  rw[repl];rcases ci j z.length with hj|hj
  .rw[bU (by simpa using hj),bd,Nat.mod_eq_of_lt hj]
  .rw[cj (by simpa using hj),bQ,Do z n (j-z.length) (by rw[jf]at h;omega),Nat.mod_eq_sub_mod hj]
theorem Zt {v:Value} {z:ξ} (hv:v.cells.toList=z) (n sz:Nat) (hl:z.length=sz) (hsz:sz≠0) (j:Nat) (hj:j<n*sz):
 ((zu (n*sz)).map (λi=>v.cells[i%v.cells.size]!))[j]? =z[j%sz]? :=by
 have hs:v.cells.size=sz:=by rw[<- hl,<-hv];simp
 have hlt:j%sz<v.cells.size:=by rw[hs];exact Nat.mod_lt _ (by omega)
 rw[Array.getElem?_map,Array.getElem?_range];simp only[hj,bI,ct,hs];rw[<- hv,cD,getElem!_pos v.cells _ hlt,iC hlt]
theorem Cs.repl {φ:PM} {O:Nat->Prop} {w:World} {v:Value} {z:ξ} (hv:v.cells.toList=z) (n sz:Nat) (hl:z.length=sz) (hsz:sz≠0) (hc:m_ z=J):
 Cs φ O w ((repl z n).map .f) ((zu (n*sz)).map (λi=>v.cells[i%v.cells.size]!)).toList:=by
 have key:∀(j:Nat) (x:AV),((AI.repl z n).map AV.f)[j]? =M x->∃u,z[j%sz]? =M u/\x=raw u/\j<n*sz:=by
  intro j x a;rw[bd]at a;have hj:j<n*z.length:=by
   rcases ci j (n*z.length) with h|h
   .exact h
   .rw[bF (by rw[nA];exact h)]at a;cases a
  rw[Do z n j hj,hl]at a;cases hu:z[j%sz]? with
  |none=>rw[hu]at a;cases a
  |some u=>rw[hu]at a;simp at a;exact⟨u,rfl,a.symm,by rw[<- hl];exact hj⟩
 refine ⟨by simp[nA,hl],λx a=>?_,λj x u a hu=>?_⟩
 .obtain⟨j,hj⟩:=fw a;obtain⟨u,h1,rfl,_⟩:=key j x hj;exact gI.1 hc u (aZ h1)
 .obtain⟨s,h1,rfl,hj⟩:=key j x a;rw[cD,Zt hv n sz hl hsz j hj,h1]at hu;cases hu;exact .f (.raw _)
theorem ar3 {t el:TypeId} {n sz:Nat} {ps:Array (Nat×Operand)} {z:ξ} {ps':Y (Nat×Nat×Operand)} (Z:o.op= .buildSlice t n ps) (hu:P.underlying t=M (.slice el)) (hz:tW P el=M z) (hs:fI P el=M sz) (hc:m_ z=J) (hl:z.length=sz) (hsz:sz≠0) (hb:n*sz<=65536)
 (hps:xZ P t ps.toList=M ps') (s:eP (.bsl el sz n z ps') e h nx=M R):gZ P o e.get h.get R.eff:=by
 simp only[eP]at s;split at s
 .rename_i cs hf;simp only[ah]at s;subst s;refine gZ.makes λφ E h' w a _ hp _=>?_
  obtain⟨v,h1,h2,_⟩:=uu hz w;obtain⟨g1,g2⟩:=Fj ps.toList ps' hps;have hops:∀p∈ps.toList,p.2∈o.op.operands:=λp hp=>by
   rw[Z];simp only[Op.operands,List.mem_toArray,du];exact⟨p,hp,rfl⟩
  have hmap:(ps.map λx:Nat×Operand=>(x.1,a.eval x.2)).toList=ps.toList.map λp=>(p.1,a.eval p.2):=by simp
  obtain⟨vs',k1,k2⟩:=Qi (place:=λi=>M (i*sz,sz)) hp ps.toList ps' _ cs _ g1 (λj i x hj=>by
   obtain⟨of,s',q1,A⟩:=g2 j i x hj;unfold Cp at A;rw[hu]at A;simp[hs]at A;obtain⟨rfl,rfl⟩:=A;exact⟨_,_,q1,rfl⟩) hops (Cs.repl h2 n sz hl hsz hc) hf
  have hcells:(zu (n*sz)).map ((if n*sz=0 then #[] else v.cells)[·%(if n*sz=0 then #[] else v.cells).size]!)=((zu (n*sz)).map (λi=>v.cells[i%v.cells.size]!)).toList.toArray:=by
   by_cases h0:n*sz=0
   .simp[h0]
   .rw[Array.toArray_toList];simp only[aw h0]
  have hlen:vs'.length=n*sz:=by
   have e1:=k2.1;have e2:cs.length=((AI.repl z n).map AV.f).length:=by
    have:∀(ps':Y (Nat×Nat×Operand)) (U L:Y AV),Al U e ps'=M L->L.length=U.length:=by
     intro ps';induction ps' with
     |nil=>intro U L h;simp only[Al,ah]at h;rw[h]
     |cons p ps' ih=>
      intro U L h;obtain⟨of,s',x⟩:=p;simp only[Al]at h;split at h
      .split at h
       .rename_i hcc;simp only[al,c8]at hcc;rw[ih _ _ h,o6 (by rw[hcc.1.1];exact a_ hcc.1.2)]
       .cases h
      .cases h
    exact this ps' _ _ hf
   rw[e1,e2];simp[nA,hl]
  refine ⟨.slice (M ⟨w.heap.size,0,D⟩) n n,{w with heap:=w.heap.push (.cells vs'.toArray el)},.cells vs'.toArray el (0,0),?_,rN w _,JD k2,λφ' O hφ=>?_⟩
  .have h3:=gM hs w;have hk:Instr.fill (λi=>M (i*sz,sz)) ((zu (n*sz)).map ((if n*sz=0 then #[] else v.cells)[·%(if n*sz=0 then #[] else v.cells).size]!)) (ps.map λx:Nat×Operand=>(x.1,a.eval x.2)).toList=M vs'.toArray:=by
    rw[hcells,hmap];exact k1
   unfold execOp;rw[Z];simp only[Instr.buildSlice,eQ,run_underlying hu,cU,h3];rw[aw (by omega)];by_cases h0:n*sz=0
   .simp only[aC h0]at hk ⊢;simp only[eQ,po,cU,hk,newRow,newObj,kz]
   .simp only[aw h0]at hk ⊢;simp only[eQ,po,cU,h1,hk,newRow,newObj,kz]
  .simp only[];split
   .rename_i h0;subst h0;exact .emp
   refine .row hφ (bT _) ?_ ⟨el,?_⟩
   .have:n<=n*sz:=Nat.le_mul_of_pos_right _ (by omega);unfold maxLen;omega
   .unfold sD;simp[hlen]
 .cases s
end
theorem rL.wren {φ:PM} {E:Nat->Prop} {h:HF} {w w':World} (r:rL φ E h w) {id nx k:Nat} {b b':wK} {ob:Obj} (hb:h id=M b) (hk:φ id=M k) (hnx:φ nx=D) (A:Gl w w' k ob) (hob:js φ (tot E φ h) w b' ob) (nw:HF) (hnw:nw nx=M b') (hnid:nw id=D):
 ∃φ',φ' nx=M k/\jt φ φ' h (eZ h [nx,id] nw) w w'/\(∀i k,φ' i=M k->φ i=M k\/i∈[nx])/\rL φ' E (eZ h [nx,id] nw) w':=by
 have hne:nx≠id:=λe=>by rw[e,hk]at hnx;cases hnx
 have hsub:∀i x,eZ h [nx,id] nw i=M x->i≠nx->h i=M x/\i≠id:=λi x L hi=>by
  unfold eZ at L;by_cases hd:i=id
  .subst hd;simp[hnid]at L
  .simp[hi,hd]at L;exact⟨L,hd⟩
 have hφ:∀i,i≠nx->(if i=nx then M k else φ i)=φ i:=λi hi=>by simp[hi]
 have m:jt φ (λi=>if i=nx then M k else φ i) h (eZ h [nx,id] nw) w w':=by
  refine ⟨λi k' z=>?_,⟨A.os,A.tape,A.output,by rw[A.size];exact bT _,λj hj ho=>?_,λj _=>A.shp j⟩,?_⟩
  .have:i≠nx:=λe=>by rw[e,hnx]at z;cases z
   rw[hφ i this];exact z
  .exact A.other j (λe=>ho (e▸⟨id,b,hb,hk⟩))
  .rintro j hj ⟨i,x,h1,h2⟩;by_cases hi:i=nx
   .simp[hi]at h2;subst h2;exact⟨id,b,hb,hk⟩
   .have U:φ i=M j:=by simpa[hi] using h2
    exact⟨i,x,(hsub i x h1 hi).1,U⟩
 refine ⟨_,by simp,m,λi k' z=>?_,⟨λi j x y kk hi hj h1 h2=>?_,λi x hi=>?_,λk hk=>dK (r.el k hk) m.ext.size,λg cells hg=>m.keepF (r.gl g cells hg)⟩⟩
 .by_cases hi:i=nx
  .right;simp[hi]
  .left;rw[hφ i hi]at z;exact z
 .by_cases a:i=nx
  .by_cases s:j=nx
   .rw[a,s]
   .exfalso;rw[hφ j s]at h2;simp[a]at h1;subst h1;obtain⟨q1,Z⟩:=hsub j y hj s;exact Z (r.inj j id y b k q1 hb h2 hk)
  .rw[hφ i a]at h1;obtain⟨p1,p2⟩:=hsub i x hi a;by_cases s:j=nx
   .exfalso;simp[s]at h2;subst h2;exact p2 (r.inj i id x b k p1 hb h1 hk)
   .rw[hφ j s]at h2;exact r.inj i j x y kk p1 (hsub j y hj s).1 h1 h2
 .by_cases a:i=nx
  .subst a;have:x=b':=by unfold eZ at hi;simp[hnw]at hi;exact hi.symm
   subst this;obtain⟨k',h1,h2,_⟩:=r.at_ id b hb;rw[hk]at h1;cases h1;exact⟨k,by simp,h2,ob,A.at_,hob.mono λ_ _ h=>m.keep h⟩
  .obtain⟨p1,p2⟩:=hsub i x hi a;obtain⟨k',h1,h2,ob',U,h4⟩:=r.at_ i x p1;have hne':k'≠k:=λe=>p2 (r.inj i id x b k p1 hb (e▸h1) hk)
   exact⟨k',by rw[hφ i a];exact h1,h2,ob',by rw[A.other k' hne'];exact U,h4.mono λ_ _ h=>m.keep h⟩
theorem rL.cs {φ:PM} {E:Nat->Prop} {h':HF} {w:World} (hrep:rL φ E h' w) {id k:Nat} {b:wK} (hb:h' id=M b) (hk:φ id=M k) (hc:b.c.isCells=J):
 ∃arr,w.heap[k]? =M (.cells arr b.ty (0,0))/\Cs φ (tot E φ h') w b.c.toMx (arr.toList.take b.c.toMx.length)/\b.c.toMx.length<=arr.size:=by
 obtain⟨k',h1,_,h2⟩:=hrep.at_ id b hb;rw[hk]at h1;cases h1;obtain⟨arr,U,z,s⟩:=h2.cells hc;rw[BC.len_toMx hc]at z;refine ⟨arr,U,⟨by simp;omega,λx a=>?_,λj x v a hv=>?_⟩,z⟩
 .obtain⟨j,hj⟩:=fw a;exact (s j x (by rw[BC.get_toMx hc];exact hj)).1
 .obtain⟨_,u,L,A⟩:=s j x (by rw[BC.get_toMx hc];exact a);rw[cW]at hv;split at hv
  .rw[cD,L]at hv;cases hv;exact A
  .cases hv
section
variable {P:Program} {o:Oper} {e:AJ} {h:oL} {nx:Nat} {R:C5}
theorem OT {t:TypeId} {b:Nat} (hb:Gf P t=M b):∃i,P.info? t=M i/\i.bytes=b:=by
 unfold Gf at hb;cases hi:P.info? t with
 |none=>rw[hi]at hb;cases hb
 |some i=>rw[hi]at hb;simp at hb;exact⟨i,rfl,hb⟩
theorem Jp {n b:Nat} (h:a8 n b=J):n<=1099511627776/\n*b<=1099511627776:=by
 simp only[a8,al]at h;exact⟨a_ h.1,a_ h.2⟩
theorem ach {n:Int} (h1: -9223372036854775808<=n) (h2:n<=9223372036854775807):pt .i64 n=n:=by
 rw[<- zI];have:(c_ (-9223372036854775808) n&&c_ n 9223372036854775807)=J:=by simp[c_,h1,h2]
 simp only[ID,ND,this,bI]
theorem an6 {t el:TypeId} {sz bytes:Nat} {z:ξ} {l c:Operand} (ho:o.op= .makeSlice t l c) (hu:P.underlying t=M (.slice el)) (hz:tW P el=M z) (hs:fI P el=M sz) (hb:Gf P el=M bytes) (hc:m_ z=J) (hl:z.length=sz) (hsz:sz≠0)
 (A:eP (.mksl el sz bytes z l c) e h nx=M R):gZ P o e.get h.get R.eff:=by
 simp only[eP]at A;split at A
 .rename_i k1 n k2 m s hy;split at A
  .rename_i hcd;simp only[c_,al,bc]at hcd;obtain⟨⟨h0,h1⟩,h2⟩:=hcd;obtain⟨r1,r2⟩:=Jp h2;simp only[ah]at A;subst A;refine gZ.makes λφ E h' w a _ hp _=>?_
   have e1:=fD (hp l _ (by rw[ho];simp[Op.operands]) s);have e2:=fD (hp c _ (by rw[ho];simp[Op.operands]) hy);obtain⟨v,z1,z2,_⟩:=uu hz w;obtain⟨i,i1,i2⟩:=OT hb;have s1:=gM hs w;have w1:pt .i64 n=n:=ach (by omega) (by omega);have w2:pt .i64 m=m:=ach (by omega) (by omega);have hbm:(bytes:Int)*m=((m.toNat*bytes:Nat):Int):=by
    rw[Int.natCast_mul,fK (by omega),Int.mul_comm]
   have t1:¬(m<0\/(281474976710656:Int)<bytes*m):=by rw[hbm];omega
   have hr:¬(m.toNat*bytes>roomBytes):=by unfold roomBytes;omega
   have hn0:m.toNat*sz=0->m.toNat=0:=λh=>(Nat.mul_eq_zero.1 h).resolve_right hsz
   let cells:Array Value:=(zu (m.toNat*sz)).map (λi=>v.cells[i%v.cells.size]!)
   refine ⟨.slice (M ⟨w.heap.size,0,D⟩) n.toNat m.toNat,{w with heap:=w.heap.push (.cells cells el)},.cells cells el (0,0),?_,rN w _,?_,λφ' O hφ=>?_⟩
   .unfold execOp;rw[ho];by_cases U:m.toNat*sz=0
    .obtain rfl:m=0:=by have:=hn0 U;omega
     obtain rfl:n=0:=by omega
     simp[Instr.makeSlice,run_underlying hu,e1,e2,asInt,asIntOf,typeInfo,i1,w1,askRoom,s1,newRow,newObj,kz,cells];rw[show zu 0=#[] from rfl];simp
    .simp[Instr.makeSlice,run_underlying hu,e1,e2,asInt,asIntOf,typeInfo,i1,i2,w1,w2,t1,show ¬n<0 by omega,show ¬m<n by omega,askRoom,hr,s1,U,z1,newRow,newObj,kz,cells]
   .have cs:=Cs.repl (φ:=φ) (O:=tot E φ h') (w:=w) z2 m.toNat sz hl hsz hc;have hle:n.toNat<=m.toNat:=by omega
    have hlen:n.toNat*sz<=m.toNat*sz:=cR _ hle;refine qL rfl (by simp[BC.toMx,nA,hl,cells];exact hlen) λj x s=>?_
    simp only[BC.toMx,bd]at s;have hj:j<n.toNat*z.length:=by
     rcases ci j (n.toNat*z.length) with h|h
     .exact h
     .rw[bF (by rw[nA];exact h)]at s;cases s
    have hj2:j<m.toNat*z.length:=by rw[hl]at hj ⊢;omega
    rw[Do z _ j hj,<-Do z m.toNat j hj2]at s;have L:((repl z m.toNat).map AV.f)[j]? =M x:=by rw[bd];exact s
    have Z:j<cells.toList.length:=by simp[cells];rw[<- hl];exact hj2
    exact⟨cs.2.1 x (aZ L),cells.toList[j],by rw[<- cD];exact ay Z,cs.2.2 j x _ L (ay Z)⟩
   .refine .row hφ (by omega) (by unfold maxLen;omega) ⟨el,?_⟩;unfold sD;simp[cells]
  .cases A
 .cases A
theorem aji {t:TypeId} {x y:Operand} {sz:Nat} (U:o.op= .store t x y) (hs:fI P t=M sz) (s:eP (.store sz x y) e h nx=M R):gZ P o e.get h.get R.eff:=by
 simp only[eP]at s;split at s
 .rename_i p v hx hy;unfold LR at s;split at s
  .rename_i id off;split at s
   .rename_i b hb;split at s
    .rename_i hl;split at s
     .rename_i c' hput;simp only[ah]at s;subst s;unfold BC.put at hput;split at hput
      .rename_i hcc;simp only[al]at hcc;obtain⟨⟨c1,c2⟩,c3⟩:=hcc;have c2:=a_ c2;have hl:v.cs.length=sz:=by simpa using hl
       have z:c'.toMx=splice b.c.toMx off v.cs/\c'.isCells=J:=by
        split at hput
        .rename_i l ys hbl hys;simp only[ah]at hput;subst hput;refine ⟨?_,rfl⟩;have hv:=qA hys;rw[hv,hbl];simp only[BC.toMx];unfold splice;simp[ll,List.map_drop]
        .simp only[ah]at hput;subst hput;exact⟨rfl,rfl⟩
       refine gZ.writes hb λφ E h' w a hrd Z hp hrep=>?_
       have hr:=WN (hp y _ (by rw[U];simp[Op.operands]) hy) c3;have hpx:=hp x _ (by rw[U];simp[Op.operands]) hx;generalize hz:a.eval x=pv at hpx;cases hpx with
       |@ptr _ _ k hφ=>
        obtain⟨arr,g1,g2,g3⟩:=hrep.cs Z hφ c1;have hvl:(a.eval y).cells.toList.length=sz:=by rw[hr.1];exact hl
        rw[BC.len_toMx c1]at c2;have hst:=run_storeCells_at (P:=P) k off b.ty (a.eval y).cells.toList 0 arr w g1 (by rw[hvl];omega) hr.one
        let arr':Array Value:=(arr.toList.take off++(a.eval y).cells.toList++arr.toList.drop (off+sz)).toArray
        have hsize:arr'.size=arr.size:=by simp only[arr',ua,bf,bM,nj,iM,hvl];omega
        refine ⟨.skip,w.setRow k arr',k,.cells arr' b.ty (0,0),?_,hφ,Gl.setRow g1 hsize,?_,undef,.inr ⟨rfl,rfl⟩,.f (.raw _)⟩
        .have s1:=gM hs w;have hvs:(a.eval y).cells.size=sz:=by simpa using hvl
         simp only[dt,hvl]at hst;unfold execOp;rw[U];simp[Instr.storeAt,hz,Instr.sureAddr,storeVar,s1,hvs,hst,arr']
        .refine qL z.2 (by rw[z.1,o6 (by omega),hsize];exact g3) λj q hq=>?_
         rw[z.1,ny (by omega)]at hq;have ha':arr'[j]? =if j<off then arr.toList[j]? else if j<off+sz then (a.eval y).cells.toList[j-off]? else arr.toList[j]? :=by
          have:=ny (l:=arr.toList) (vs:=(a.eval y).cells.toList) (off:=off) (by have:=hvl;simp only[iM]at this ⊢;omega) j;unfold splice at this;rw[hvl]at this;simp only[arr',kP];exact this
         have old:b.c.toMx[j]? =M q->q.isCell=J/\∃u,arr.toList[j]? =M u/\cS φ (tot E φ h') w q u:=λhq=>by
          have hj:j<b.c.toMx.length:=(bn.1 hq).1;have L:j<arr.toList.length:=by simp;omega
          refine ⟨g2.2.1 q (aZ hq),arr.toList[j],ay L,g2.2.2 j q _ hq ?_⟩;rw[cW,aC hj,ay L]
         rw[ha'];by_cases h1:j<off
         .rw[aC h1]at hq ⊢;exact old hq
         .rw[aw h1]at hq ⊢;by_cases h2:j<off+sz
          .rw[aC (by omega)]at hq;rw[aC h2];have A:j-off<(a.eval y).cells.toList.length:=by omega
           exact⟨hr.2.1 q (aZ hq),_,ay A,hr.2.2 _ q _ hq (ay A)⟩
          .rw[aw (by omega)]at hq;rw[aw h2];exact old hq
      .cases hput
     .cases s
    .cases s
   .cases s
  .cases s
 .cases s
end
section
variable {P:Program} {o:Oper} {e:AJ} {h:oL} {nx:Nat} {R:C5}
theorem aqk (A:Addr):A.add 0=A:=by cases A;simp[Addr.add]
theorem aqm {t el:TypeId} {sz:Nat} {x:Operand} {lo hi mx:I Operand} (L:o.op= .slice t x lo hi mx) (hu:P.underlying t=M (.slice el)) (hs:fI P el=M sz) (s:eP (.slc sz x lo hi mx) e h nx=M R):gZ P o e.get h.get R.eff:=by
 simp only[eP]at s;split at s
 .rename_i v hx;split at s
  ·
   rename_i k k';split at s
   .rename_i hsl;rw[dJ s];refine gZ.reads λφ E h' w a _ hp _=>?_
    have hr:=hp x _ (by rw[L];simp[Op.operands]) hx;have Z:∃A n c,a.eval x= .slice A n c:=by
     generalize a.eval x=z at hr;obtain⟨n,hn⟩:=iY.1 hsl;unfold AV.slen at hn;split at hn
     .cases hr with
      |f hr=>cases hr with
       |nil=>exact⟨_,_,_,rfl⟩
       |sl=>exact⟨_,_,_,rfl⟩
     .cases fD hr;exact⟨_,_,_,rfl⟩
     .cases hr;exact⟨_,_,_,rfl⟩
     .cases hr;exact⟨_,_,_,rfl⟩
     .cases hr;exact⟨_,_,_,rfl⟩
     .cases hn
    obtain⟨A,n,c,Z⟩:=Z;have s1:=gM hs w;refine ⟨.slice A 0 0,?_,.emp⟩;unfold execOp;rw[L];have z0:∀k,a.eval (.const (.int k 0))= .int k 0:=λ_=>rfl
    simp[qh,vA,run_underlying hu,Z,kf,kX,asIntOf,s1,z0]
   .cases s
  ·
   rename_i b;split at s
   .rename_i id sz' n k j hb;split at s
    .rename_i hc;simp only[c_,al,bc,c8]at hc;obtain⟨⟨rfl,h0⟩,h1⟩:=hc;split at s
     .rename_i blk hblk;split at s
      .rename_i hcl;simp only[al]at hcl;obtain⟨hcells,hlen⟩:=hcl;have hlen:=a_ hlen;rw[BC.len_toMx hcells]at hlen;simp only[ah]at s;subst s;intro φ E h' w a g1 g2 g3 hrep g5;have hp:XW φ E h' w a e o:=λx y hx U=>uo hrep g3 hx U
       have hb':h' id=M blk:=by rw[g1 id (by simp[C5.eff])];exact hblk
       have hr:=hp x _ (by rw[L];simp[Op.operands]) hx;have hbv:=fD (hp b _ (by rw[L];simp[Op.operands]) hb);have hnx:φ nx=D:=g5 nx (by simp[C5.eff]);generalize Z:a.eval x=z at hr;cases hr with
       |@row _ _ _ c q hφ hn hcap hsh=>
        obtain⟨arr,a1,a2,a3⟩:=hrep.cs hb' hφ hcells;have s1:=gM hs w;have hne:nx≠id:=λe=>by rw[e,hφ]at hnx;cases hnx
        have hnw1:jz [(nx,⟨blk.ty,pZ (blk.c.toMx.take (j.toNat*sz'))⟩)] nx=M (⟨blk.ty,pZ (blk.c.toMx.take (j.toNat*sz'))⟩:wK):=by simp[jz]
        have hnw2:jz [(nx,⟨blk.ty,pZ (blk.c.toMx.take (j.toNat*sz'))⟩)] id=D:=by
         simp only[jz];rw[aw];intro hb;exact hne (ar hb)
        have a4:=a2.take (j.toNat*sz');obtain⟨φ',p1,p2,p3,p4⟩:=hrep.wren hb' hφ hnx (w':=w) ⟨rfl,rfl,rfl,rfl,a1,λ_ _=>rfl,λ_=>rfl⟩ (b':=⟨blk.ty,pZ (blk.c.toMx.take (j.toNat*sz'))⟩) (by
         obtain⟨q1,q2⟩:=oA (blk.c.toMx.take (j.toNat*sz'));refine qL q2 (by rw[q1,bM];omega) λi x hx=>?_
         rw[q1]at hx;have hi:i<((arr.toList.take blk.c.toMx.length).take (j.toNat*sz')).length:=by rw[a4.1];exact (bn.1 hx).1
         refine ⟨a4.2.1 x (aZ hx),_,?_,a4.2.2 i x _ hx (ay hi)⟩;have hi':i<arr.size:=by simp at hi;omega
         simp[hi']) _ hnw1 hnw2
        have hrun:(execOp a.eval o).run P w= .ok (.value (.slice (M ⟨q,0,D⟩) j.toNat c)) w:=by
         unfold execOp;rw[L];simp[qh,vA,run_underlying hu,Z,kf,kX,asIntOf,s1,hbv,h0,show j<=c by omega,lO]
        unfold Iz;rw[hrun];exact⟨_,φ',rfl,p2,p3,p4,.row p1 (by omega) hcap hsh⟩
      .cases s
     .cases s
    .cases s
   .rename_i cells n k j hb;split at s
    .rename_i hc;simp only[c_,al,bc]at hc;obtain⟨⟨h0,h1⟩,h2⟩:=hc;have h2:=a_ h2;rw[dJ s];refine gZ.reads λφ E h' w a _ hp _=>?_
     have hr:=hp x _ (by rw[L];simp[Op.operands]) hx;have hbv:=fD (hp b _ (by rw[L];simp[Op.operands]) hb);generalize Z:a.eval x=z at hr;have s1:=gM hs w;cases hr with
     |f hr=>
      cases hr with
      |nil A c hc=>
       have hj:j=0:=by omega
       subst hj;refine ⟨.slice A 0 c,?_,by simpa using cS.f (.nil A c hc)⟩;unfold execOp;rw[L];cases A<;>simp[qh,vA,run_underlying hu,Z,kf,kX,asIntOf,s1,hbv,aqk]
      |sl _ _ c q off us hn hc hO hq hcl hu' hr=>
       refine ⟨.slice (M ⟨q,off,D⟩) j.toNat c,?_,.f (.sl _ _ _ _ _ us (by omega) hc hO hq (λy U=>hcl y (gh U)) (λi hi=>hu' i (by rw[bM]at hi;omega)) λi y U=>?_)⟩
       .unfold execOp;rw[L];simp[qh,vA,run_underlying hu,Z,kf,kX,asIntOf,s1,hbv,h0,show j<=c by omega,lO]
       .rw[cW]at U;split at U
        .exact hr i y U
        .cases U
    .cases s
   .cases s
  ·
   rename_i b;split at s
   .rename_i id sz' n k j hb;split at s
    .rename_i hc;simp only[c_,fP,al,bc,c8]at hc;obtain⟨⟨rfl,h0⟩,h1⟩:=hc;rw[dJ s];refine gZ.reads λφ E h' w a _ hp _=>?_
     have hr:=hp x _ (by rw[L];simp[Op.operands]) hx;have hbv:=fD (hp b _ (by rw[L];simp[Op.operands]) hb);generalize Z:a.eval x=z at hr;cases hr with
     |@row _ _ _ c q hφ hn hc hsh=>
      have s1:=gM hs w;refine ⟨.slice (M ⟨q,0+j.toNat*sz',D⟩) (n-j.toNat) (c-j.toNat),?_,?_⟩
      .unfold execOp;rw[L];simp[qh,vA,run_underlying hu,Z,kf,kX,asIntOf,s1,hbv,h0,show j<=n by omega,show ¬c=j.toNat by omega,lO]
      .rw[bK];exact .sl hφ (by omega) (by omega)
    .cases s
   .rename_i cells n k j hb;split at s
    .rename_i hc;simp only[c_,al,bc]at hc;obtain⟨⟨h0,h1⟩,h2⟩:=hc;have h2:=a_ h2;rw[dJ s];refine gZ.reads λφ E h' w a _ hp _=>?_
     have hr:=hp x _ (by rw[L];simp[Op.operands]) hx;have hbv:=fD (hp b _ (by rw[L];simp[Op.operands]) hb);generalize Z:a.eval x=z at hr;have s1:=gM hs w;cases hr with
     |f hr=>
      cases hr with
      |nil A c hc=>
       have hj:j=0:=by omega
       subst hj;have hex:∃A',(execOp a.eval o).run P w= .ok (.value (.slice A' 0 c)) w:=by
        unfold execOp;rw[L];cases A with
        |none=>exact⟨D,by simp[qh,vA,run_underlying hu,Z,kf,kX,asIntOf,s1,hbv]⟩
        |some A=>exact⟨M A,by simp[qh,vA,run_underlying hu,Z,kf,kX,asIntOf,s1,hbv,aqk]⟩
       obtain⟨A',hex⟩:=hex;exact⟨.slice A' 0 c,hex,by simpa using cS.f (.nil A' c hc)⟩
      |sl _ _ c q off us hn hc hO hq hcl hu' hr=>
       by_cases hcj:c=j.toNat
       .refine ⟨.slice (M ⟨q,off,D⟩) 0 0,?_,?_⟩
        .unfold execOp;rw[L];simp[qh,vA,run_underlying hu,Z,kf,kX,asIntOf,s1,hbv,h0,show j<=n by omega,hcj,show n-j.toNat=0 by omega,lO]
        .rw[show n-j.toNat=0 by omega];simpa using cS.f (.nil (M ⟨q,off,D⟩) 0 (by unfold maxLen;omega))
       .refine ⟨.slice (M ⟨q,off+j.toNat*sz,D⟩) (n-j.toNat) (c-j.toNat),?_,.f (.sl _ _ _ _ _ (λi=>us (j.toNat*sz+i)) (by omega) (by omega) hO hq (λy U=>hcl y (List.mem_of_mem_drop (gh U))) (λi hi=>?_) λi y U=>?_)⟩
        .unfold execOp;rw[L];simp[qh,vA,run_underlying hu,Z,kf,kX,asIntOf,s1,hbv,h0,show j<=n by omega,hcj,lO]
        .rw[qf];refine hu' _ ?_;rw[bM,nj]at hi;omega
        .rw[cW]at U;split at U
         .rw[ig]at U;exact hr _ y U
         .cases U
    .cases s
   .cases s
  .cases s
 .cases s
theorem ad1 {sz:Nat} {x:AV} {src:Y AV} {m:Nat} {rd:ι} (hrow:x.row? h sz=M (src,m,rd)) {φ:PM} {E:Nat->Prop} {h':HF} {w:World} (hrd:∀i∈rd,h' i=h.get i) (hrep:rL φ E h' w) {v:Value} (hr:cS φ (tot E φ h') w x v):
 ∃A c vs,v= .slice A m c/\Cs φ (tot E φ h') w src vs/\vs.length=m*sz/\(A=D->vs=[])/\(∀z,A=M z->∀(j:Nat) u,vs[j]? =M u->w.cell? (z.add j)=M u):=by
 have emp:∀A c,v= .slice A 0 c->src=[]->m=0->∃A c vs,v= .slice A m c/\Cs φ (tot E φ h') w src vs/\vs.length=m*sz/\(A=D->vs=[])/\(∀z,A=M z->∀(j:Nat) u,vs[j]? =M u->w.cell? (z.add j)=M u):=by
  rintro A c rfl rfl rfl;exact⟨A,c,[],rfl,⟨rfl,(by intro x s;cases s),(by intro j x v s;simp at s)⟩,by simp,λ_=>rfl,by intro z _ j u hu;simp at hu⟩
 have own:∀(id off n c k:Nat) (b:wK),φ id=M k->h' id=M b->b.c.isCells=J->off+n*sz<=b.c.len->v= .slice (M ⟨k,off,D⟩) n c->src=(b.c.toMx.drop off).take (n*sz)->m=n->
  ∃A c vs,v= .slice A m c/\Cs φ (tot E φ h') w src vs/\vs.length=m*sz/\(A=D->vs=[])/\(∀z,A=M z->∀(j:Nat) u,vs[j]? =M u->w.cell? (z.add j)=M u):=by
  rintro id off n c k b hφ hb hc hle rfl rfl rfl;obtain⟨arr,g1,g2,g3⟩:=hrep.cs hb hφ hc;rw[BC.len_toMx hc]at hle;refine ⟨_,c,((arr.toList.take b.c.toMx.length).drop off).take (m*sz),rfl,(g2.drop off).take _,?_,(λh=>by cases h),?_⟩
  .simp;omega
  .intro z had j u hu;cases had;rw[lO];rw[cW]at hu;split at hu
   .rw[ig,cW]at hu;split at hu
    .rw[cD]at hu;simp[O5,g1,hu]
    .cases hu
   .cases hu
 unfold AV.row? at hrow;split at hrow
 .rename_i cells n;split at hrow
  .rename_i hle;have hle:=a_ hle;simp only[ah,aE]at hrow;obtain⟨rfl,rfl,rfl⟩:=hrow;cases hr with
   |f hr=>
    cases hr with
    |nil a c hc=>exact emp a c rfl (by simp) rfl
    |sl _ _ c b off us hn hc hO hb hcl hu hr=>
     refine ⟨_,c,(cq (n*sz)).map us,rfl,⟨by simp;omega,λx s=>?_,λj x u s L=>?_⟩,by simp,(λh=>by cases h),?_⟩
     .obtain⟨y,Z,rfl⟩:=du.1 s;exact hcl y (gh Z)
     .obtain⟨rfl,hj⟩:=yn us _ _ _ L;rw[bd,cW,aC hj]at s;cases hq:cells[j]? with
      |none=>rw[hq]at s;cases s
      |some q=>rw[hq]at s;simp at s;subst s;exact .f (hr j q hq)
     .intro z had j u L;cases had;obtain⟨rfl,hj⟩:=yn us _ _ _ L;rw[lO];exact hu j (by omega)
  .cases hrow
 .simp only[ah,aE]at hrow;obtain⟨rfl,rfl,rfl⟩:=hrow;exact emp D 0 (fD hr) rfl rfl
 .simp only[ah,aE]at hrow;obtain⟨rfl,rfl,rfl⟩:=hrow;cases hr with
  |@emp a=>exact emp a 0 rfl rfl rfl
 .rename_i id sz' n;split at hrow
  .rename_i hsz;split at hrow
   .rename_i b hb;split at hrow
    .rename_i hc;simp only[al]at hc;simp only[ah,aE]at hrow;obtain⟨rfl,rfl,rfl⟩:=hrow;cases hr with
     |@row _ _ _ c k hφ hn U hsh=>
      exact own id 0 n c k b hφ (by rw[hrd id (by simp)];exact hb) hc.1 (by rw[bK];exact a_ hc.2) rfl (by simp) rfl
    .cases hrow
   .cases hrow
  .cases hrow
 .rename_i id off n;split at hrow
  .rename_i b hb;split at hrow
   .rename_i hc;simp only[al]at hc;simp only[ah,aE]at hrow;obtain⟨rfl,rfl,rfl⟩:=hrow;cases hr with
    |@sl _ _ _ c k hφ hn U=>exact own id off n c k b hφ (by rw[hrd id (by simp)];exact hb) hc.1 (a_ hc.2) rfl rfl rfl
   .cases hrow
  .cases hrow
 .cases hrow
theorem ahf {sz:Nat} {x:AV} {src:Y AV} {m:Nat} {rd:ι} (hrow:x.row? h sz=M (src,m,rd)) {φ:PM} {E:Nat->Prop} {h':HF} {w:World} (hrd:∀i∈rd,h' i=h.get i) (hrep:rL φ E h' w) {v:Value} (hr:cS φ (tot E φ h') w x v) {a el:TypeId} (hk:P.underlying a=M (.slice el)):
 ∃vs,Src P sz a v m vs w/\Cs φ (tot E φ h') w src vs:=by
 obtain⟨A,c,vs,rfl,h1,h2,L,z⟩:=ad1 hrow hrd hrep hr;refine ⟨vs,?_,h1⟩;cases A with
 |none=>
  have:=L rfl;subst this;have hm:m*sz=0:=by simpa using h2.symm
  refine ⟨.inl ⟨el,hk⟩,λ_=>rfl,run_firstCells_none w sz m m c,run_firstCells_none w.drew sz m m c,by simp[hm],λ_ h=>by cases h⟩
 |some s=>exact Src.ofSlice w hk s m c vs h2 (z s rfl) h1.one
theorem ama {x:Nat}:∀{l:ι},VY x l=J↔x∈l
 |[]=>by simp[VY]
 |y::r=>by
  simp only[VY,ji,ama (l:=r),bm];constructor
  .rintro (h|h)
   .exact .inl (ar h).symm
   .exact .inr h
  .rintro (h|h)
   .subst h;exact .inl (sF x)
   .exact .inr h
theorem anc {t u el el':TypeId} {d x:Operand} {sz:Nat} (ho:o.op= .call {callee:=.builtin .copy,args:=#[d,x],argTypes:=#[t,u]}) (hu:P.underlying t=M (.slice el)) (hu':P.underlying u=M (.slice el')) (hs:fI P el=M sz) (z:eP (.copy sz d x) e h nx=M R):gZ P o e.get h.get R.eff:=by
 simp only[eP]at z;split at z
 .rename_i id sz' n y hd hx;split at z
  .rename_i blk src m rd hblk hrow;split at z
   .rename_i hc;simp only[al,c8,db]at hc;obtain⟨⟨rfl,hmem⟩,hlen⟩:=hc;split at z
    .rename_i c' hput;simp only[ah]at z;subst z;unfold BC.put at hput;split at hput
     .rename_i hcc;simp only[al]at hcc;obtain⟨⟨c1,c2⟩,c3⟩:=hcc;have c2:=a_ c2;rw[bK]at c2;have L:c'.toMx=splice blk.c.toMx 0 (src.take (jg m n*sz'))/\c'.isCells=J:=by
       split at hput
       .rename_i l ys hbl hys;simp only[ah]at hput;subst hput;refine ⟨?_,rfl⟩;have hv:=qA hys;rw[hv,hbl];simp only[BC.toMx];unfold splice;simp[ll,List.map_drop]
       .simp only[ah]at hput;subst hput;exact⟨rfl,rfl⟩
      refine gZ.writes hblk λφ E h' w a hrd hb' hp hrep=>?_
      have hpd:=hp d _ (by rw[ho];simp[Op.operands,eY]) hd;have hpx:=hp x _ (by rw[ho];simp[Op.operands,eY]) hx;obtain⟨A,c,vs,hv,q1,q2,q3,q4⟩:=ad1 hrow (λi hi=>hrd i (by simp[hi])) hrep hpx;generalize hz:a.eval d=pv at hpd;cases hpd with
      |@row _ _ _ cap k hφ hn hcap hsh=>
       obtain⟨arr,g1,g2,g3⟩:=hrep.cs hb' hφ c1;rw[BC.len_toMx c1]at c2;have hmn:jg m n<=m:=Nat.min_le_left _ _;have hle:jg m n*sz'<=m*sz':=cR _ hmn
       let s:=vs.take (jg m n*sz')
       have hnl:s.length=jg m n*sz':=by simp only[s,bM,q2];omega
       have hsl:(src.take (jg m n*sz')).length=jg m n*sz':=by rw[bM,<-q1.1,q2];omega
       have csn:=q1.take (jg m n*sz');rw[hsl]at c2;have hst:=run_storeCells_at (P:=P) k 0 blk.ty s 0 arr w g1 (by rw[hnl];omega) csn.one
       let arr':Array Value:=(arr.toList.take 0++s++arr.toList.drop (0+jg m n*sz')).toArray
       have hsize:arr'.size=arr.size:=by simp only[arr',ua,bf,bM,nj,iM,hnl];omega
       have hfc:(Mg sz' (jg m n) (.slice A m c)).run P w= .ok s.toArray w:=by
        cases A with
        |none=>
         have:s=[]:=by simp[s,q3 rfl]
         rw[this];exact run_firstCells_none w sz' _ _ _
        |some ad=>exact run_firstCells_some w sz' _ ad m c s hnl (λj u hu=>q4 ad rfl j u (by
          simp only[s,cW]at hu;split at hu
          .exact hu
          .cases hu))
       refine ⟨.value (.int .i64 (jg m n)),w.setRow k arr',k,.cells arr' blk.ty (0,0),?_,hφ,Gl.setRow g1 hsize,?_,_,.inl rfl,.f (.raw _)⟩
       .have s1:=gM hs w;simp only[dt,hnl]at hst;unfold execOp;rw[ho];simp[resolve,invoke,builtin,Builtin.copy_,run_underlying hu,hz,hv,Builtin.lenOf,s1,hfc,hst,goInt,arr']
       .refine qL L.2 (by rw[L.1,o6 (by rw[hsl];omega),hsize];exact g3) λj q hq=>?_
        rw[L.1,ny (by rw[hsl];omega)]at hq;have ha':arr'[j]? =if j<0 then arr.toList[j]? else if j<0+s.length then s[j-0]? else arr.toList[j]? :=by
         have:=ny (l:=arr.toList) (vs:=s) (off:=0) (by simp only[iM];omega) j;unfold splice at this;simp only[arr',kP];rw[<- this,hnl]
        rw[ha',aw (by omega)];rw[aw (by omega),hsl]at hq;rw[hnl];by_cases h2:j<0+jg m n*sz'
        .rw[aC h2]at hq ⊢;have U:j-0<s.length:=by rw[hnl];omega
         exact⟨csn.2.1 q (aZ hq),_,ay U,csn.2.2 _ q _ hq (ay U)⟩
        .rw[aw h2]at hq ⊢;have hj:j<blk.c.toMx.length:=(bn.1 hq).1;have Z:j<arr.toList.length:=by simp;omega
         refine ⟨g2.2.1 q (aZ hq),arr.toList[j],ay Z,g2.2.2 j q _ hq ?_⟩;rw[cW,aC hj,ay Z]
     .cases hput
    .cases z
   .cases z
  .cases z
 .cases z
theorem ar2 {t el:TypeId} {sz:Nat} {z:ξ} {x:Operand} (ho:o.op= .call {callee:=.builtin .clear,args:=#[x],argTypes:=#[t]}) (hu:P.underlying t=M (.slice el)) (hz:tW P el=M z) (hc:m_ z=J) (hl:z.length=sz) (hsz:sz≠0) (A:eP (.clr sz z x) e h nx=M R):gZ P o e.get h.get R.eff:=by
 simp only[eP]at A;split at A
 .rename_i id off n hx;split at A
  .rename_i blk hblk;split at A
   .rename_i hn;have hn:=a_ hn;obtain⟨m,rfl⟩:∃m,n=m+1:=⟨n-1,by omega⟩
    split at A
    .rename_i c' hput;simp only[ah]at A;subst A;unfold BC.put at hput;split at hput
     .rename_i hcc;simp only[al]at hcc;obtain⟨⟨c1,c2⟩,c3⟩:=hcc;have c2:=a_ c2;have hsrc:((repl z (m+1)).map AV.f).length=(m+1)*sz:=by rw[bQ,nA,hl]
      rw[hsrc]at c2;have U:c'.toMx=splice blk.c.toMx off ((repl z (m+1)).map AV.f)/\c'.isCells=J:=by
       split at hput
       .rename_i l ys hbl hys;simp only[ah]at hput;subst hput;refine ⟨?_,rfl⟩;have hv:=qA hys;rw[hv,hbl];simp only[BC.toMx];unfold splice;simp[ll,List.map_drop]
       .simp only[ah]at hput;subst hput;exact⟨rfl,rfl⟩
      refine gZ.writes hblk λφ E h' w a hrd hb' hp hrep=>?_
      have hpx:=hp x _ (by rw[ho];simp[Op.operands,eY]) hx;generalize hzv:a.eval x=pv at hpx;cases hpx with
      |@sl _ _ _ cap k hφ hn2 hcap=>
       obtain⟨arr,g1,g2,g3⟩:=hrep.cs hb' hφ c1;rw[BC.len_toMx c1]at c2;obtain⟨v,z1,z2,_⟩:=uu hz w;have csn:=Cs.repl (φ:=φ) (O:=tot E φ h') (w:=w) z2 (m+1) sz hl hsz hc
       let L:=(md v.cells (m+1)).toList
       have hvs:v.cells.size=sz:=by rw[<- hl,<-z2];simp
       have hns:L=((zu ((m+1)*sz)).map (λi=>v.cells[i%v.cells.size]!)).toList:=by simp only[L,md,hvs]
       have hnl:L.length=(m+1)*sz:=by rw[hns];simp
       rw[<- hns]at csn;have hst:=run_storeCells_at (P:=P) k off blk.ty L 0 arr w g1 (by rw[hnl];omega) csn.one
       let arr':Array Value:=(arr.toList.take (off+0)++L++arr.toList.drop (off+0+L.length)).toArray
       have hsize:arr'.size=arr.size:=by simp only[arr',ua,bf,bM,nj,iM,hnl];omega
       refine ⟨.value (.tuple #[]),w.setRow k arr',k,.cells arr' blk.ty (0,0),?_,hφ,Gl.setRow g1 hsize,?_,_,.inl rfl,.tup (vs:=[]) rfl λj y v hy=>by simp at hy⟩
       .unfold execOp;rw[ho];have hst2:(storeCells ⟨k,off,D⟩ (md v.cells (m+1)).toList).run P w= .ok () (w.setRow k arr'):=hst;simp[resolve,invoke,builtin,Builtin.clear_,run_underlying hu,hzv,z1,hst2]
       .refine qL U.2 (by rw[U.1,o6 (by rw[hsrc];omega),hsize];exact g3) λj q hq=>?_
        rw[U.1,ny (by rw[hsrc];omega)]at hq;have ha':arr'[j]? =if j<off then arr.toList[j]? else if j<off+L.length then L[j-off]? else arr.toList[j]? :=by
         have:=ny (l:=arr.toList) (vs:=L) (off:=off) (by simp only[iM];omega) j;unfold splice at this;simp only[arr',kP,dt];rw[<- this]
        rw[ha'];rw[hsrc]at hq;rw[hnl];by_cases h1:j<off
        .rw[aC h1]at hq ⊢;have hj:j<blk.c.toMx.length:=(bn.1 hq).1;have s:j<arr.toList.length:=by simp;omega
         refine ⟨g2.2.1 q (aZ hq),arr.toList[j],ay s,g2.2.2 j q _ hq ?_⟩;rw[cW,aC hj,ay s]
        rw[aw h1]at hq ⊢;by_cases h2:j<off+(m+1)*sz
        .rw[aC h2]at hq ⊢;have Z:j-off<L.length:=by rw[hnl];omega
         exact⟨csn.2.1 q (aZ hq),_,ay Z,csn.2.2 _ q _ hq (ay Z)⟩
        .rw[aw h2]at hq ⊢;have hj:j<blk.c.toMx.length:=(bn.1 hq).1;have s:j<arr.toList.length:=by simp;omega
         refine ⟨g2.2.1 q (aZ hq),arr.toList[j],ay s,g2.2.2 j q _ hq ?_⟩;rw[cW,aC hj,ay s]
     .cases hput
    .cases A
   .cases A
  .cases A
 .cases A
end
theorem NF (w:World) (ob:Obj):UK w (w.drew.alloc ob) ob:=UK.drawn (w.drawn+1) (rN {w with drawn:=w.drawn+1} ob)
section
variable {P:Program} {o:Oper} {e:AJ} {h:oL} {nx:Nat} {R:C5}
theorem Jb {v:Value} {z:ξ} {sz:Nat} (hv:v.cells.toList=z) (hl:z.length=sz) (n:Nat):(md v.cells n).size=n*sz:=by
 have:v.cells.size=sz:=by rw[<- hl,<-hv];simp
 simp[md,this]
theorem UB {t u el:TypeId} {s x:Operand} {i:TypeInfo} {z:ξ} (ho:o.op= .call {callee:=.builtin .append,args:=#[s,x],argTypes:=#[t,u]}) (hu:P.underlying t=M (.slice el)) (i1:P.info? el=M i) (hz:tW P el=M z) (hzl:z.length=i.size)
 {φ:PM} {E:Nat->Prop} {h':HF} {w:World} {a:Act} (hrep:rL φ E h' w) (hnx:φ nx=D) {A:I Addr} {n cap m:Nat} {olds vs:ξ} {oldA src:Y AV} (hsl:a.eval s= .slice A n cap)
 (hold:(Mg i.size n (.slice A n cap)).run P w.drew= .ok olds.toArray w.drew) (csold:Cs φ (tot E φ h') w oldA olds) (hol:olds.length=n*i.size) (hsrc:Src P i.size u (a.eval x) m vs w) (hcs:Cs φ (tot E φ h') w src vs)
 (hg:cap<n+m) (r1:n+m<=1099511627776) (r2:(n+m)*i.bytes<=1099511627776) (del:ι) (hdel:∀j∈del,j≠nx):
 o.wp P a w (λa' w'=>∃v φ',a'=a.put o.dst v/\jt φ φ' h' (eZ h' (nx::del) (jz [(nx,⟨el,pZ (oldA++src)⟩)])) w w'/\(∀i k,φ' i=M k->φ i=M k\/i∈[nx])/\
  rL φ' E (eZ h' (nx::del) (jz [(nx,⟨el,pZ (oldA++src)⟩)])) w'/\cS φ' (tot E φ' (eZ h' (nx::del) (jz [(nx,⟨el,pZ (oldA++src)⟩)]))) w' (.row nx i.size (n+m)) v) (λ_ _ _=>False):=by
 obtain⟨U,z1,z2,i',L,z3⟩:=uu hz w;rw[i1]at L;cases L;have hfb:=growslice_fits (need:=n+m) (old:=cap) (bytes:=i.bytes) hg (by omega);have hrun:=run_append_grow_src w t u o.type el i U hu i1 z3 A n cap olds hold (a.eval x) m vs hsrc hg (by omega) hfb;have hgc:=grownCap_ge w (n+m) cap el;have hgm:=grownCap_le_maxLen w (n+m) cap el (by unfold maxLen;omega);generalize grownCap w (n+m) cap el=Gc at hrun hgc hgm;have cs:=csold.append hcs;have hnl:=hsrc.newsLen;obtain⟨φ',p1,p2,p3,p4⟩:=hrep.wnew hnx (NF w _) (b:=⟨el,pZ (oldA++src)⟩) (ob:=.cells ((olds++vs).toArray++md U.cells (Gc-(n+m))) el (0,0)) (by
  obtain⟨Z,q2⟩:=oA (oldA++src);refine qL q2 (by rw[Z,<-cs.1];simp) λj q hq=>?_
  rw[Z]at hq;have hj:j<(olds++vs).length:=by rw[cs.1];exact (bn.1 hq).1
  refine ⟨cs.2.1 q (aZ hq),_,?_,cs.2.2 j q _ hq (ay hj)⟩;rw[Array.getElem?_append_left (by simpa using hj),kP,ay hj]) del (jz [(nx,⟨el,pZ (oldA++src)⟩)]) (by simp[jz]) (λj hj hne=>by
   simp only[jz];rw[aw];intro hb;exact hne (ar hb).symm)
 have hexec:(execOp a.eval o).run P w= .ok (.value (.slice (M ⟨w.heap.size,0,D⟩) (n+m) Gc)) (w.drew.alloc (.cells ((olds++vs).toArray++md U.cells (Gc-(n+m))) el)):=by
  unfold execOp;rw[ho];simp only[resolve,invoke,builtin,eQ,po,cU,List.map_toArray,eV,List.map_nil,hsl,hrun]
 unfold Iz;rw[hexec];refine ⟨_,φ',rfl,p2,p3,p4,.row p1 hgc hgm ⟨el,?_⟩⟩;have:=(NF w (.cells ((olds++vs).toArray++md U.cells (Gc-(n+m))) el (0,0))).at_;unfold sD;rw[this];have hzs:=Jb z2 hzl (Gc-(n+m));have e1:(n+m)*i.size+(Gc-(n+m))*i.size=Gc*i.size:=by rw[<- O7];congr 1;omega
 simp only[Array.size_append,ua,bf,hol,hnl,hzs];congr 2;rw[<- e1,O7]
theorem ar5 {t u el el':TypeId} {s x:Operand} {sz bytes:Nat} {z:ξ} (ho:o.op= .call {callee:=.builtin .append,args:=#[s,x],argTypes:=#[t,u]}) (hu:P.underlying t=M (.slice el)) (hu':P.underlying u=M (.slice el')) (hs:fI P el=M sz) (hb:Gf P el=M bytes) (hz:tW P el=M z) (hzl:z.length=sz) (hsz:sz≠0)
 (L:eP (.app el sz bytes s x) e h nx=M R):gZ P o e.get h.get R.eff:=by
 obtain⟨i,i1,i2⟩:=OT hb;have i3:i.size=sz:=by unfold fI at hs;rw[i1]at hs;simpa using hs
 subst i2;subst i3;simp only[eP]at L;split at L
 .rename_i bv y hsv Z;split at L
  .rename_i src m rd hrow;have common:∀{φ:PM} {E:Nat->Prop} {h':HF} {w:World} {a:Act},(∀i∈rd,h' i=h.get i)->XW φ E h' w a e o->rL φ E h' w->∃vs,Src P i.size u (a.eval x) m vs w/\Cs φ (tot E φ h') w src vs:=
    λhrd hp hrep=>ahf hrow hrd hrep (hp x _ (by rw[ho];simp[Op.operands,eY]) Z) hu'
   have exec:∀{w w':World} {a:Act} {v:Value},(Builtin.append_ #[t,u] o.type #[a.eval s,a.eval x]).run P w= .ok v w'->(execOp a.eval o).run P w= .ok (.value v) w':=by
    intro w w' a v hrun;unfold execOp;rw[ho];simp[resolve,invoke,builtin,hrun]
   split at L
   .rename_i id sz' n;split at L
    .rename_i blk hblk;split at L
     .rename_i hc;simp only[al,c8,db]at hc;obtain⟨⟨⟨⟨⟨rfl,hmem⟩,hcells⟩,hlen⟩,hty⟩,hroom⟩:=hc;have hlen:=a_ hlen;rw[BC.len_toMx hcells]at hlen;obtain⟨r1,r2⟩:=Jp hroom;simp only[ah]at L;subst L;subst hty;intro φ E h' w a h1 h2 h3 hrep h5;have hp:XW φ E h' w a e o:=λx y Z hy=>uo hrep h3 Z hy
      have hb':h' id=M blk:=by rw[h1 id (by simp[C5.eff])];exact hblk
      obtain⟨vs,hsrc,hcs⟩:=common (λi hi=>h1 i (by simp[C5.eff,hi])) hp hrep;have hpd:=hp s _ (by rw[ho];simp[Op.operands,eY]) hsv;have hnx:φ nx=D:=h5 nx (by simp[C5.eff]);have hwv:=hp s _ (by rw[ho];simp[Op.operands,eY]) hsv;generalize hzv:a.eval s=pv at hpd;cases hpd with
      |@row _ _ _ cap k hφ hn hcap hsh=>
       obtain⟨arr,g1,g2,g3⟩:=hrep.cs hb' hφ hcells;have hne:nx≠id:=λe=>by rw[e,hφ]at hnx;cases hnx
       have harr:arr.size=cap*i.size:=by
        obtain⟨ty,hty⟩:=hsh;unfold sD at hty;rw[g1]at hty;simp at hty;exact hty.2
       have hnl:=hsrc.newsLen;have hnn:n*i.size<=arr.size:=by omega
       have csnew:Cs φ (tot E φ h') w (blk.c.toMx.take (n*i.size)++src) (arr.toList.take (n*i.size)++vs):=by
        have:=(g2.take (n*i.size)).append hcs
        rwa [List.take_take,tG hlen]at this
       have hnw1:jz [(nx,⟨blk.ty,pZ (blk.c.toMx.take (n*i.size)++src)⟩)] nx=M ⟨blk.ty,pZ (blk.c.toMx.take (n*i.size)++src)⟩:=by simp[jz]
       have hnw2:jz [(nx,⟨blk.ty,pZ (blk.c.toMx.take (n*i.size)++src)⟩)] id=D:=by
        simp only[jz];rw[aw];intro hb;exact hne (ar hb)
       by_cases hfit:n+m<=cap
       ·
        have hend:n*i.size+vs.length<=arr.size:=by
         rw[hnl,harr,<-O7];exact cR _ hfit
        have hst:=run_storeCells_at (P:=P) k (n*i.size) blk.ty vs 0 arr w g1 (by omega) hsrc.one;simp only[dt]at hst
        let arr':Array Value:=(arr.toList.take (n*i.size)++vs++arr.toList.drop (n*i.size+vs.length)).toArray
        have hsize:arr'.size=arr.size:=by simp only[arr',ua,bf,bM,nj,iM];omega
        have hrun:(Builtin.append_ #[t,u] o.type #[a.eval s,a.eval x]).run P w= .ok (.slice (M ⟨k,0,D⟩) (n+m) cap) (w.setRow k arr'):=by
         rw[hzv];rcases hsrc.kind with ⟨e',hk⟩|hk<;>simp[Builtin.append_,run_underlying hu,run_underlying hk,sizeOf,typeInfo,i1,hsrc.len,hfit,hsrc.cells,lO,hst,arr']
        obtain⟨φ',p1,p2,p3,p4⟩:=hrep.wren hb' hφ hnx (Gl.setRow g1 hsize) (b':=⟨blk.ty,pZ (blk.c.toMx.take (n*i.size)++src)⟩) (by
         obtain⟨q1,q2⟩:=oA (blk.c.toMx.take (n*i.size)++src);refine qL q2 (by rw[q1,<-csnew.1,hsize];simp;omega) λj q hq=>?_
         rw[q1]at hq;have hj:j<(arr.toList.take (n*i.size)++vs).length:=by rw[csnew.1];exact (bn.1 hq).1
         refine ⟨csnew.2.1 q (aZ hq),_,?_,csnew.2.2 j q _ hq (ay hj)⟩;simp only[arr',kP];rw[bU hj,ay hj]) _ hnw1 hnw2
        unfold Iz;rw[exec hrun];refine ⟨_,φ',rfl,p2,p3,p4,.row p1 hfit hcap ⟨blk.ty,?_⟩⟩;unfold sD;rw[setRow_heap w k arr arr' blk.ty (0,0) g1];simp[hsize,harr]
       ·
        have hold:(Mg i.size n (.slice (M ⟨k,0,D⟩) n cap)).run P w.drew= .ok (arr.toList.take (n*i.size)).toArray w.drew:=by
         refine run_firstCells_some w.drew i.size n _ n cap _ (by simp;omega) λj v hv=>?_
         rw[cW]at hv;split at hv
         .rw[cD]at hv;rw[lO,bK];have hcl:w.cell? ⟨k,j,D⟩=M v:=by simp[O5,g1,hv]
          simpa using hcl
         .cases hv
        exact UB ho hu i1 hz hzl hrep hnx hzv hold (by
         have:=g2.take (n*i.size)
         rwa [List.take_take,tG hlen]at this) (by simp;omega) hsrc hcs (by omega) r1 r2 [id] (λj hj=>by simp at hj;subst hj;exact λe=>hne e.symm)
     .cases L
    .cases L
   .split at L
    .rename_i hc;simp only[al]at hc;obtain⟨U,hroom⟩:=hc;obtain⟨r1,r2⟩:=Jp hroom;have hbase:∀{φ:PM} {O:Nat->Prop} {w:World} {v:Value},cS φ O w bv v->∃A,v= .slice A 0 0:=by
      intro φ O w v hr;unfold JX at U;split at U
      .cases hr;exact⟨_,rfl⟩
      .rename_i q;cases fD hr;unfold uk at U;split at U
       .exact⟨_,rfl⟩
       .cases U
      .cases U
     split at L
     .rename_i hm;have hm:m=0:=by simpa using hm
      subst hm;simp only[ah]at L;subst L;refine gZ.reads λφ E h' w a hrd hp hrep=>?_
      obtain⟨vs,hsrc,hcs⟩:=common hrd hp hrep;have hr:=hp s _ (by rw[ho];simp[Op.operands,eY]) hsv;obtain⟨A,hA⟩:=hbase hr;refine ⟨a.eval s,exec ?_,hr⟩;rw[hA];have hvs:vs=[]:=by have:=hsrc.newsLen;simpa using this
      have hc0:=hsrc.cells;rw[hvs]at hc0;rcases hsrc.kind with ⟨e',hk⟩|hk<;>cases A<;>simp[Builtin.append_,run_underlying hu,run_underlying hk,sizeOf,typeInfo,i1,hsrc.len,hc0,storeCells]
     .rename_i hm;have hm:m≠0:=by simpa using hm
      simp only[ah]at L;subst L;intro φ E h' w a h1 h2 h3 hrep h5;have hp:XW φ E h' w a e o:=λx y Z hy=>uo hrep h3 Z hy
      obtain⟨vs,hsrc,hcs⟩:=common (λi hi=>h1 i hi) hp hrep;obtain⟨A,hA⟩:=hbase (hp s _ (by rw[ho];simp[Op.operands,eY]) hsv);have hold:(Mg i.size 0 (.slice A 0 0)).run P w.drew= .ok ([]:ξ).toArray w.drew:=by
       cases A with
       |none=>exact run_firstCells_none w.drew i.size 0 0 0
       |some ad=>exact run_firstCells_some w.drew i.size 0 ad 0 0 [] (by simp) (by intro j v hv;simp at hv)
      have:=UB (nx:=nx) (n:=0) (cap:=0) (olds:=[]) (oldA:=[]) ho hu i1 hz hzl hrep (h5 nx (by simp[C5.eff])) hA hold ⟨rfl,(by intro x Z;cases Z),(by intro j x v Z;simp at Z)⟩ (by simp) hsrc hcs (by omega) (by omega) (by simpa using r2) [] (by simp);simpa[C5.eff] using this
    .cases L
  .cases L
 .cases L
end
section
variable {P:Program} {o:Oper} {e:AJ} {h:oL} {nx:Nat} {R:C5}
theorem aqt {t:TypeId} (A:o.op= .makeMap t D) (s:eP .mkm e h nx=M R):gZ P o e.get h.get R.eff:=by
 simp only[eP,ah]at s;subst s;refine gZ.makes λφ E h' w a _ _ _=>?_
 refine ⟨.map (M w.heap.size),{w with heap:=w.heap.push (.map #[] 0)},.map #[] 0,?_,rN w _,⟨#[],0,rfl,by unfold Zo;rw[aC rfl];rfl,by intro j x z;simp at z⟩,λφ' O hφ=>.mp hφ⟩;unfold execOp;rw[A];simp[Instr.makeMap,newObj,kz]
theorem aqn {t:TypeId} {x:Operand} (A:o.op= .range t x) (hu:P.underlying t=M .string) (z:eP (.rng x) e h nx=M R):gZ P o e.get h.get R.eff:=by
 simp only[eP]at z;split at z
 .rename_i s L;simp only[ah]at z;subst z;refine gZ.makes λφ E h' w a _ hp _=>?_
  have hr:=fD (hp x _ (by rw[A];simp[Op.operands]) L);refine ⟨.pointer (M ⟨w.heap.size,0,D⟩),{w with heap:=w.heap.push (.stringIter s 0)},.stringIter s 0,?_,rN w _,rfl,λφ' O hφ=>.ptr hφ⟩;unfold execOp;rw[A];simp[Instr.range,run_underlying hu,hr,newObj,kz]
 .cases z
theorem zH {w:World} {k:Nat} {ob ob':Obj} (hk:w.heap[k]? =M ob) (h1:∀c t f,ob≠ .cells c t f) (h2:∀c t f,ob'≠ .cells c t f):Gl w {w with heap:=w.heap.setIfInBounds k ob'} k ob':=by
 have hlt:k<w.heap.size:=(cH.1 hk).1;have hat:(w.heap.setIfInBounds k ob')[k]? =M ob':=by simp[hlt]
 have hot:∀j,j≠k->(w.heap.setIfInBounds k ob')[j]? =w.heap[j]? :=λj hj=>qC (λe=>hj e.symm)
 refine ⟨rfl,rfl,rfl,by simp,hat,hot,λj=>?_⟩;unfold sD;by_cases hj:j=k
 .subst hj;simp only[hat,hk];cases ob<;>cases ob'<;>first|rfl|exact b8 rfl (h1 _ _ _)|exact b8 rfl (h2 _ _ _)
 .simp only[hot j hj]
theorem aqp {x:Operand} (ho:o.op= .next x J) (A:eP (.nxt x) e h nx=M R):gZ P o e.get h.get R.eff:=by
 simp only[eP]at A;split at A
 .rename_i id hx;split at A
  .rename_i ty s p hid;split at A
   .rename_i b hb;split at A
    .rename_i hlt;have hlt:=a_ hlt;simp only[ah]at A;subst A;refine gZ.writes hid λφ E h' w a hrd U hp hrep=>?_
     have hr:=hp x _ (by rw[ho];simp[Op.operands]) hx;generalize hz:a.eval x=z at hr;cases hr with
     |@ptr _ _ k hφ=>
      obtain⟨k',q1,_,ob,Z,q3⟩:=hrep.at_ id _ U;rw[hφ]at q1;cases q1;have q3:ob= .stringIter s p:=q3;subst q3;have hps:p<s.size:=by
       have:=(bn.1 hb).1;simpa using this
      have hget:s.get! p=b:=by
       have:s.data[p]? =M b:=by rw[<- cD];exact hb
       have hpd:p<s.data.size:=(cH.1 this).1;have h2:s.data[p]! =s.data[p]:=getElem!_pos s.data p hpd;rw[iC hpd]at this;simp only[ByteArray.get!,h2];exact km this
      have hdec:Utf8.decode s p=(b.toNat,1):=by
       unfold Utf8.decode;simp only[dt,hget];rw[aC (by omega)]
      refine ⟨.value (.tuple #[.bool J,.int .i64 p,.int .i32 b.toNat]),_,k,.stringIter s (p+1),?_,hφ,zH Z (by simp) (by simp),rfl,_,.inl rfl,?_⟩
      .unfold execOp;rw[ho];simp[Instr.next,hz,getObj,kz,Z,hps,hdec,setObj,goInt]
      .refine cS.tup (vs:=[.bool J,.int .i64 p,.int .i32 b.toNat]) rfl λj y v L hv=>?_
       rcases j with _|_|_|j<;>simp at L hv
       .subst L;subst hv;exact .f (.raw _)
       .subst L;subst hv;exact .f (.raw _)
       .subst L;subst hv;exact .f (.raw _)
    .cases A
   .rename_i hb;simp only[ah]at A;subst A;refine gZ.writes hid λφ E h' w a hrd U hp hrep=>?_
    have hr:=hp x _ (by rw[ho];simp[Op.operands]) hx;generalize hz:a.eval x=z at hr;cases hr with
    |@ptr _ _ k hφ=>
     obtain⟨k',q1,_,ob,Z,q3⟩:=hrep.at_ id _ U;rw[hφ]at q1;cases q1;have q3:ob= .stringIter s p:=q3;subst q3;have hps:¬p<s.size:=by
      have:=List.getElem?_eq_none_iff.1 hb;have e:s.data.toList.length=s.size:=by simp
      omega
     refine ⟨.value (.tuple #[.bool af]),w,k,.stringIter s p,?_,hφ,⟨rfl,rfl,rfl,rfl,Z,λ_ _=>rfl,λ_=>rfl⟩,rfl,_,.inl rfl,?_⟩
     .unfold execOp;rw[ho];simp[Instr.next,hz,getObj,kz,Z,hps]
     .refine cS.tup (vs:=[.bool af]) rfl λj y v L hv=>?_
      rcases j with _|j<;>simp at L hv;subst L;subst hv;exact .f (.raw _)
  .cases A
 .cases A
theorem AF {a b:ByteArray}:sT a b=J↔a=b:=by
 unfold sT;constructor
 .intro h;have h1:a.data.toList=b.data.toList:=by simpa using h
  cases a;cases b;congr 1;exact Mi h1
 .rintro rfl;simp
theorem Ge (a b:ByteArray):(a==b)=sT a b:=by
 have h1:(a==b)=(a.data==b.data):=rfl;rw[h1,Bool.eq_iff_iff,AF,c8];constructor
 .intro h;cases a;cases b;congr 1
 .rintro rfl;rfl
def kd (str:Bool) (d:TypeDesc):Prop:=if str then d= .string else ∃k,d= .int k
theorem zN {str:Bool} {d:TypeDesc} (hd:kd str d) {k k':Value} (hk:zZ str k=J) {b:Bool} (hb:uq .eql k k'=M (.bool b)):Instr.sameNow d k k'=M b:=by
 unfold kd at hd;cases str with
 |true=>
  simp only[bI]at hd;subst hd;cases k<;>simp[zZ]at hk;cases k'<;>simp only[uq]at hb<;>try (simp at hb;done)
  simp only[ah,C7]at hb;simp[Instr.sameNow,Ge,hb]
 |false=>
  simp only[cG,ec]at hd;obtain⟨q,rfl⟩:=hd;cases k<;>simp[zZ]at hk;cases k'<;>simp only[uq]at hb<;>try (simp at hb;done)
  split at hb
  .rename_i hkk;have hkk':=eq_of_beq hkk;subst hkk';simp only[ah,C7]at hb;simp[Instr.sameNow,<-hb]
  .cases hb
theorem Td {str:Bool} {d:TypeDesc} (hd:kd str d) {k:Value} (hk:zZ str k=J):∀(es:Y (Value×AV)) (ents:Y MapEntry) (i:Nat),ents.map (·.key)=es.map (·.1)->∀r,ui k es=M r->
 (r=D/\eX d k ents i=M D)\/∃(j:Nat) (v:AV) (m:MapEntry) (k':Value),r=M v/\es[j]? =M (k',v)/\ents[j]? =M m/\eX d k ents i=M (M (i+j,m.val))/\uq .eql k k'=M (.bool J)
 |[],ents,i,he,r,h=>by
  cases ents with
  |nil=>simp only[ui,ah]at h;exact .inl ⟨h.symm,rfl⟩
  |cons _ _=>simp at he
 |(k',v)::es,ents,i,he,r,h=>by
  cases ents with
  |nil=>simp at he
  |cons m ents=>
   simp only[eV,jh]at he;obtain⟨a,s⟩:=he;simp only[ui]at h;split at h
   .rename_i hb;simp only[ah]at h;refine .inr ⟨0,v,m,k',h.symm,rfl,rfl,?_,hb⟩;simp only[eX];rw[a,zN hd hk hb];rfl
   .rename_i hb;have hs:=zN hd hk hb;rcases Td hd hk es ents (i+1) s r h with ⟨h1,h2⟩|⟨j,z,m',k'',h1,h2,U,L,A⟩
    .refine .inl ⟨h1,?_⟩;simp only[eX];rw[a,hs];exact h2
    .refine .inr ⟨j+1,z,m',k'',h1,by simpa using h2,by simpa using U,?_,A⟩;simp only[eX];rw[a,hs];show eX d k ents (i+1)=_;rw[L,show i+1+j=i+(j+1) from by omega]
   .cases h
theorem uc {a:TypeId} {str:Bool} {d:TypeDesc} (hu:P.underlying a=M d) (hd:kd str d) (b:Bool) (v:Value) (w:World):(Instr.checkKey b 10000 a v).run P w= .ok () w:=by
 have key:∀n,(Instr.checkKey b (n+1) a v).run P w= .ok () w:=λn=>by
  unfold kd at hd;cases str with
  |true=>simp only[bI]at hd;subst hd;simp[Instr.checkKey,run_underlying hu]
  |false=>simp only[cG,ec]at hd;obtain⟨q,rfl⟩:=hd;simp[Instr.checkKey,run_underlying hu]
 exact key 9999
theorem adc {φ:PM} {O:Nat->Prop} {w:World} {ok b:Bool} {x:AV} {v:Value} (h:cS φ O w x v):cS φ O w (pkV ok x b) (if ok then .tuple #[v,.bool b] else v):=by
 cases ok with
 |false=>exact h
 |true=>
  refine cS.tup (vs:=[v,.bool b]) rfl λj y u a hv=>?_
  rcases j with _|_|j<;>simp at a hv
  .subst a;subst hv;exact h
  .subst a;subst hv;exact .f (.raw _)
theorem Ru {n:Int} {v:AV}:∀{es:Y (Value×AV)},told n es=M v->∃j:Nat,es[j]? =M (.int .i64 n,v)
 |(.int .i64 k,a)::r,h=>by
  simp only[told]at h;split at h
  .rename_i e;subst e;cases h;exact⟨0,rfl⟩
  .obtain⟨j,hj⟩:=Ru h;exact⟨j+1,hj⟩
theorem jx {k:Value} {m:MapEntry} {r:Y MapEntry} (hm:xm m.key) (hk:xm k):(m.key=k->kK k (m::r)=m.val)/\(m.key≠k->kK k (m::r)=kK k r):=by
 obtain⟨a,s⟩:=hm;obtain⟨b,rfl⟩:=hk;have e0:kK (.int .i64 b) (m::r)=if a=b then m.val else kK (.int .i64 b) r:=by simp only[kK,s]
 rw[e0];exact⟨λe=>by rw[s]at e;cases e;rw[aC rfl],λe=>by rw[aw λq=>e (by rw[s,q])]⟩
theorem FU {d:TypeDesc} (hd:kd af d) (n:Int):∀(ents:Y MapEntry) (i:Nat),(∀m∈ents,xm m.key)->
 (eX d (.int .i64 n) ents i=M D/\kK (.int .i64 n) ents= .slice D 0 0/\∀(k:Value) (m':MapEntry),m'.key= .int .i64 n->xm k->(k= .int .i64 n->kK k (ents++[m'])=m'.val)/\(k≠ .int .i64 n->kK k (ents++[m'])=kK k ents))\/
 ∃(j:Nat) (m:MapEntry),ents[j]? =M m/\eX d (.int .i64 n) ents i=M (M (i+j,m.val))/\kK (.int .i64 n) ents=m.val/\m.key= .int .i64 n/\∀(k:Value) (m':MapEntry),m'.key= .int .i64 n->xm k->(k= .int .i64 n->kK k (ents.set j m')=m'.val)/\(k≠ .int .i64 n->kK k (ents.set j m')=kK k ents)
 |[],i,_=>by
  refine .inl ⟨rfl,rfl,λk m' hm hk=>⟨λe=>?_,λe=>?_⟩⟩
  .exact (jx (r:=[]) ⟨n,hm⟩ hk).1 (hm.trans e.symm)
  .exact (jx (r:=[]) ⟨n,hm⟩ hk).2 (λq=>e (q.symm.trans hm))
 |m::r,i,h=>by
  have hmk:=h m (c9 ..);obtain⟨a,s⟩:=hmk;have hb:uq .eql (.int .i64 n) (.int .i64 a)=M (.bool (n==a)):=by simp[uq]
  have hs:=zN hd (k:=.int .i64 n) rfl hb;by_cases e:n=a
  .subst e;refine .inr ⟨0,m,rfl,?_,(jx ⟨n,s⟩ ⟨n,rfl⟩).1 s,s,λk m' hm hk=>⟨λe=>?_,λe=>?_⟩⟩
   .simp only[eX];rw[s,hs];simp
   .exact (jx (r:=r) ⟨n,hm⟩ hk).1 (hm.trans e.symm)
   .show kK k (m'::r)=_;rw[(jx (r:=r) ⟨n,hm⟩ hk).2 (λq=>e (q.symm.trans hm)),(jx (r:=r) ⟨n,s⟩ hk).2 (λq=>e (q.symm.trans s))]
  .have A:Instr.sameNow d (.int .i64 n) m.key=M af:=by rw[s,hs];simp[e]
   have hne:¬m.key= .int .i64 n:=λq=>by rw[s]at q;cases q;exact e rfl
   have hl:=(jx (r:=r) ⟨a,s⟩ ⟨n,rfl⟩).2 hne;have step:∀(k:Value) (z:Y MapEntry) (m':MapEntry),xm k->m'.key= .int .i64 n->(k= .int .i64 n->kK k z=m'.val)/\(k≠ .int .i64 n->kK k z=kK k r)->(k= .int .i64 n->kK k (m::z)=m'.val)/\(k≠ .int .i64 n->kK k (m::z)=kK k (m::r)):=λk z m' hk _ g=>by
    refine ⟨λq=>?_,λq=>?_⟩
    .rw[(jx (r:=z) ⟨a,s⟩ hk).2 (λx=>hne (x.trans q))];exact g.1 q
    .by_cases x:m.key=k
     .rw[(jx (r:=z) ⟨a,s⟩ hk).1 x,(jx (r:=r) ⟨a,s⟩ hk).1 x]
     .rw[(jx (r:=z) ⟨a,s⟩ hk).2 x,(jx (r:=r) ⟨a,s⟩ hk).2 x];exact g.2 q
   rcases FU hd n r (i+1) (λq hq=>h q (cC _ hq)) with ⟨h1,h2,L⟩|⟨j,q,h1,h2,L,Z,U⟩
   .refine .inl ⟨?_,by rw[hl];exact h2,λk m' hm hk=>step k _ m' hk hm (L k m' hm hk)⟩;simp only[eX];rw[A];exact h1
   .refine .inr ⟨j+1,q,by simpa using h1,?_,by rw[hl];exact L,Z,λk m' hm hk=>step k _ m' hk hm (U k m' hm hk)⟩;simp only[eX];rw[A];show eX d _ r (i+1)=_;rw[h2,show i+1+j=i+(j+1) from by omega]
theorem Gx {n:Int} {y:AV}:∀{es:Y (Value×AV)} {j:Nat} {q:Value×AV},(me n y es)[j]? =M q->∃p,es[j]? =M p/\q.1=p.1/\(p.1= .int .i64 n->q.2=y)/\(p.1≠ .int .i64 n->q.2=p.2)
 |[],j,q,h=>by simp[me]at h
 |p::r,0,q,h=>by
  simp only[me,mb,ah]at h;subst h;refine ⟨p,rfl,rfl,λe=>?_,λe=>?_⟩
  .show (match p.1 with|.int .i64 k=>if k=n then y else p.2|_=>p.2)=y;rw[e];dsimp only;rw[aC rfl]
  .show (match p.1 with|.int .i64 k=>if k=n then y else p.2|_=>p.2)=p.2;split
   .rename_i k hk;rw[aw λq=>e (by rw[hk,q])]
   .rfl
 |p::r,j+1,q,h=>by
  simp only[me,List.getElem?_cons_succ]at h;obtain⟨a,h1,h2⟩:=Gx h;exact⟨a,by simpa using h1,h2⟩
theorem Dh (n:Int) (y:AV):∀es:Y (Value×AV),(me n y es).map (·.1)=es.map (·.1)
 |[]=>rfl
 |p::r=>by simp only[me,eV];rw[Dh n y r]
theorem al9 {t kt el:TypeId} {x k:Operand} {str ok:Bool} {d:TypeDesc} {z:Value} (Z:o.op= .lookup t x k ok) (hu:P.underlying t=M (.map kt el)) (hk:P.underlying kt=M d) (hd:kd str d) (L:(P.info? el).bind (·.zero)=M z) (s:eP (.lku str ok z x k) e h nx=M R):gZ P o e.get h.get R.eff:=by
 simp only[eP]at s;split at s
 .rename_i id key hx hkx;split at s
  .rename_i es hid;split at s
   .rename_i hko;have fin:∀val:AV,(∀(φ:PM) (E:Nat->Prop) (h':HF) (w:World) (a:Act),h' id=M ⟨0,.mp es⟩->XW φ E h' w a e o->rL φ E h' w->∃v,(execOp a.eval o).run P w= .ok (.value v) w/\cS φ (tot E φ h') w val v)->R=⟨val,[id],[],[],[]⟩->gZ P o e.get h.get R.eff:=by
     rintro val hv rfl;exact gZ.reads λφ E h' w a hrd hp hrep=>hv φ E h' w a (by rw[hrd id (by simp)];exact hid) hp hrep
    have zrun:∀w:World,(zeroValue el).run P w= .ok z w:=λw=>by
     cases hi:P.info? el with
     |none=>rw[hi]at L;cases L
     |some i=>rw[hi]at L;simp only[aG]at L;simp[zeroValue,typeInfo,hi,L]
    have main:∀r,ui key es=M r->∀(φ:PM) (E:Nat->Prop) (h':HF) (w:World) (a:Act),h' id=M ⟨0,.mp es⟩->XW φ E h' w a e o->rL φ E h' w->
     ∃v,(execOp a.eval o).run P w= .ok (.value v) w/\cS φ (tot E φ h') w (match r with|some v=>pkV ok v J|none=>pkV ok (raw z) af) v:=by
     intro r hr φ E h' w a hb' hp hrep;have hrx:=hp x _ (by rw[Z];simp[Op.operands]) hx;have hrk:=fD (hp k _ (by rw[Z];simp[Op.operands]) hkx);generalize A:a.eval x=zz at hrx;cases hrx with
     |@mp _ b hφ=>
      obtain⟨k',q1,_,ob,q2,q3⟩:=hrep.at_ id _ hb';rw[hφ]at q1;cases q1;obtain⟨ents,clock,rfl,q4,q5⟩:=q3;have q4:ents.toList.map (·.key)=es.map (·.1):=by unfold Zo at q4;rw[aC rfl]at q4;exact q4
      have hck:=uc (P:=P) hk hd ents.isEmpty key w;rcases Td hd hko es ents.toList 0 q4 r hr with ⟨h1,h2⟩|⟨j,v,m,k',h1,h2,h3,h4,_⟩
      .subst h1;refine ⟨_,?_,adc (.f (.raw z))⟩;unfold execOp;rw[Z];cases ok<;>simp[Instr.lookup,run_underlying hu,A,hrk,getObj,kz,q2,hck,tI,run_underlying hk,h2,zrun]
      .subst h1;obtain⟨_,U,h7⟩:=q5 j _ h2;unfold MpV at U;rw[aC rfl]at U;obtain⟨m',U,rfl⟩:=U;rw[cD]at h3;rw[h3]at U;cases U;refine ⟨_,?_,adc h7⟩;unfold execOp;rw[Z];cases ok<;>simp[Instr.lookup,run_underlying hu,A,hrk,getObj,kz,q2,hck,tI,run_underlying hk,h4]
    split at s
    .rename_i v hf;simp only[ah]at s;exact fin _ (main _ hf) s.symm
    .rename_i hf;simp only[ah]at s;exact fin _ (main _ hf) s.symm
    .cases s
   .cases s
  .rename_i ty es hid;split at s
   .rename_i n;split at s
    .rename_i hc;split at s
     .rename_i v hv;simp only[ah]at s;subst s;cases str with
      |true=>simp at hc
      |false=>
      cases ok with
      |true=>simp at hc
      |false=>
      have hz0:z= .slice D 0 0:=by
       simp only[Bool.not_false,fZ]at hc;unfold uk at hc;split at hc
       .rfl
       .cases hc
      subst hz0;have zrun:∀w:World,(zeroValue el).run P w= .ok (.slice D 0 0) w:=λw=>by
       cases hi:P.info? el with
       |none=>rw[hi]at L;cases L
       |some i=>rw[hi]at L;simp only[aG]at L;simp[zeroValue,typeInfo,hi,L]
      refine gZ.reads λφ E h' w a hrd hp hrep=>?_
      have hb':h' id=M ⟨ty+1,.mp es⟩:=by rw[hrd id (by simp)];exact hid
      have hrx:=hp x _ (by rw[Z];simp[Op.operands]) hx;have hrk:=fD (hp k _ (by rw[Z];simp[Op.operands]) hkx);generalize A:a.eval x=zz at hrx;cases hrx with
      |@mp _ b hφ=>
       obtain⟨k',q1,_,ob,q2,q3⟩:=hrep.at_ id _ hb';rw[hφ]at q1;cases q1;obtain⟨ents,clock,rfl,q4,q5⟩:=q3;unfold Zo at q4;rw[aw (by simp)]at q4;obtain⟨j,hj⟩:=Ru hv;obtain⟨v',U,h7⟩:=q5 j _ hj;unfold MpV at U;rw[aw (by simp)]at U;subst U;have hck:=uc (P:=P) hk hd ents.isEmpty (.int .i64 n) w;rcases FU hd n ents.toList 0 q4.1 with ⟨h1,h2,_⟩|⟨i,m,h1,h2,h3,_⟩
       .rw[h2]at h7;refine ⟨_,?_,h7⟩;unfold execOp;rw[Z];simp[Instr.lookup,run_underlying hu,A,hrk,getObj,kz,q2,hck,tI,run_underlying hk,h1,zrun]
       .rw[h3]at h7;refine ⟨_,?_,h7⟩;unfold execOp;rw[Z];simp[Instr.lookup,run_underlying hu,A,hrk,getObj,kz,q2,hck,tI,run_underlying hk,h2]
     .cases s
    .cases s
   .cases s
  .cases s
 .cases s
theorem Ys {str:Bool} {d:TypeDesc} (hd:kd str d) {k:Value} (hk:zZ str k=J) {v:AV}:∀(es es':Y (Value×AV)) (ents:Y MapEntry) (i:Nat),ents.map (·.key)=es.map (·.1)->zX k v es=M es'->
 (eX d k ents i=M D/\es'=es++[(k,v)])\/∃(j:Nat) (m:MapEntry) (k':Value) (s:AV),es[j]? =M (k',s)/\ents[j]? =M m/\eX d k ents i=M (M (i+j,m.val))/\uq .eql k k'=M (.bool J)/\es'=es.set j (k,v)
 |[],es',ents,i,he,h=>by
  cases ents with
  |nil=>simp only[zX,ah]at h;exact .inl ⟨rfl,by simp[h]⟩
  |cons _ _=>simp at he
 |(k',s)::es,es',ents,i,he,h=>by
  cases ents with
  |nil=>simp at he
  |cons m ents=>
   simp only[eV,jh]at he;obtain⟨a,z⟩:=he;simp only[zX]at h;split at h
   .rename_i hb;simp only[ah]at h;refine .inr ⟨0,m,k',s,rfl,rfl,?_,hb,by simp[h]⟩;simp only[eX];rw[a,zN hd hk hb];rfl
   .rename_i hb;have hs:=zN hd hk hb;split at h
    .rename_i es2 hes2;simp only[ah]at h;subst h;rcases Ys hd hk es es2 ents (i+1) z hes2 with ⟨h1,h2⟩|⟨j,m',k'',v'',h1,h2,U,L,A⟩
     .refine .inl ⟨?_,by simp[h2]⟩;simp only[eX];rw[a,hs];exact h1
     .refine .inr ⟨j+1,m',k'',v'',by simpa using h1,by simpa using h2,?_,L,by simp[A]⟩;simp only[eX];rw[a,hs];show eX d k ents (i+1)=_;rw[U,show i+1+j=i+(j+1) from by omega]
    .cases h
   .cases h
theorem aew {str:Bool} {k k':Value} (hk:zZ str k=J) (hb:uq .eql k k'=M (.bool J)):Mf 10000 k' k=J/\k'=k:=by
 cases str with
 |true=>
  cases k<;>simp[zZ]at hk;cases k'<;>simp only[uq]at hb<;>try (simp at hb;done)
  simp only[ah,C7]at hb;have:=AF.1 hb;subst this;exact⟨by simp[Mf,Ge,hb],rfl⟩
 |false=>
  cases k<;>simp[zZ]at hk;cases k'<;>simp only[uq]at hb<;>try (simp at hb;done)
  split at hb
  .rename_i hkk;have hkk':=eq_of_beq hkk;subst hkk';simp only[ah,C7,c8]at hb;subst hb;exact⟨by simp[Mf],rfl⟩
  .cases hb
theorem al8 {t kt el:TypeId} {x k y:Operand} {str:Bool} {d:TypeDesc} (U:o.op= .mapUpdate t x k y) (hu:P.underlying t=M (.map kt el)) (hk:P.underlying kt=M d) (hd:kd str d) (s:eP (.mup str x k y) e h nx=M R):gZ P o e.get h.get R.eff:=by
 simp only[eP]at s;split at s
 .rename_i id key v L hkx hy;split at s
  .rename_i es hid;split at s
   .rename_i hko;split at s
    .rename_i es' hput;simp only[ah]at s;subst s;refine gZ.writes hid λφ E h' w a hrd hb' hp hrep=>?_
     have hrx:=hp x _ (by rw[U];simp[Op.operands]) L;have hrk:=fD (hp k _ (by rw[U];simp[Op.operands]) hkx);have hry:=hp y _ (by rw[U];simp[Op.operands]) hy;generalize A:a.eval x=zz at hrx;cases hrx with
     |@mp _ b hφ=>
      obtain⟨k',q1,_,ob,q2,q3⟩:=hrep.at_ id _ hb';rw[hφ]at q1;cases q1;obtain⟨ents,clock,rfl,q4,q5⟩:=q3;have q4:ents.toList.map (·.key)=es.map (·.1):=by unfold Zo at q4;rw[aC rfl]at q4;exact q4
      have q5:∀(j:Nat) x,es[j]? =M x->∃m,ents[j]? =M m/\cS φ (tot E φ h') w x.2 m.val:=λj x L=>by
       obtain⟨_,z,Z⟩:=q5 j x L;unfold MpV at z;rw[aC rfl]at z;obtain⟨m,z,rfl⟩:=z;exact⟨m,z,Z⟩
      have N0:∀(es:Y (Value×AV)) (ents:Array MapEntry) (clock:Nat),ents.toList.map (·.key)=es.map (·.1)->(∀(j:Nat) x,es[j]? =M x->∃m,ents[j]? =M m/\cS φ (tot E φ h') w x.2 m.val)->js φ (tot E φ h') w ⟨0,.mp es⟩ (.map ents clock):=λes ents clock z Z=>⟨ents,clock,rfl,by unfold Zo;rw[aC rfl];exact z,λj x L=>by
       obtain⟨m,g3,g4⟩:=Z j x L;exact⟨_,by unfold MpV;rw[aC rfl];exact⟨m,g3,rfl⟩,g4⟩⟩
      have hck:=uc (P:=P) hk hd af key w;have hlen:ents.size=es.length:=by have:=hP ai q4;simpa using this
      rcases Ys hd hko es es' ents.toList 0 q4 hput with ⟨h1,rfl⟩|⟨j,m,k',v',h1,h2,h3,h4,rfl⟩
      .refine ⟨.skip,_,b,.map (ents.push {key,val:=a.eval y,born:=clock}) (clock+1),?_,hφ,zH q2 (by simp) (by simp),N0 _ _ _ (by simp[q4]) λj q hq=>?_,undef,.inr ⟨rfl,rfl⟩,.f (.raw _)⟩
       .unfold execOp;rw[U];simp[Instr.mapUpdate,run_underlying hu,A,hrk,getObj,kz,q2,hck,tI,run_underlying hk,h1,setObj]
       .rcases ci j es.length with hj|hj
        .rw[bU hj]at hq;obtain⟨m,z,Z⟩:=q5 j q hq;exact⟨m,by rw[Array.getElem?_push,aw (by omega)];exact z,Z⟩
        .rw[cj hj]at hq;have hj0:j-es.length=0:=by
          rcases Me (j-es.length) with h0|h0
          .exact h0
          .rw[bF (by simp;omega)]at hq;cases hq
         rw[hj0]at hq;simp at hq;subst hq;exact⟨_,by rw[Array.getElem?_push,aC (by omega)],hry⟩
      .obtain⟨s1,s2⟩:=aew hko h4;subst s2;rw[cD]at h2;rw[bK]at h3;have hjl:j<ents.size:=(cH.1 h2).1;have hmk:m.key=k':=by
        have e1:(ents.toList.map (·.key))[j]? =M m.key:=by rw[bd,cD,h2];rfl
        rw[q4,bd,h1]at e1;simpa using e1.symm
       refine ⟨.skip,_,b,.map (ents.modify j λe=>{e with key:=k',val:=a.eval y}) clock,?_,hφ,zH q2 (by simp) (by simp),N0 _ _ _ ?_ λi q hq=>?_,undef,.inr ⟨rfl,rfl⟩,.f (.raw _)⟩
       .unfold execOp;rw[U];simp[Instr.mapUpdate,run_underlying hu,A,hrk,getObj,kz,q2,hck,tI,run_underlying hk,h3,setObj,h2,hmk,Instr.keyThatStays,s1]
       .apply List.ext_getElem?;intro i;simp only[bd,cD,kc,Array.getElem?_modify];have e2:∀i:Nat,(ents[i]?).map (λm:MapEntry=>m.key)=(es[i]?).map (λp:Value×AV=>p.1):=λi=>by
         have:=hP (λl=>l[i]?) q4;simpa[bd,cD] using this
        by_cases hij:j=i
        .subst hij;simp[h2,show j<es.length by omega]
        .simp only[hij,ec];exact e2 i
       .rw[kc]at hq;rw[Array.getElem?_modify];by_cases hij:j=i
        .subst hij;simp[show j<es.length by omega]at hq;subst hq;exact⟨{m with key:=k',val:=a.eval y},by simp[h2],hry⟩
        .simp only[hij,ec]at hq ⊢;exact q5 i q hq
    .cases s
   .cases s
  .rename_i ty es hid;split at s
   .rename_i n;split at s
    .cases s
    .rename_i hstr;have hstr:str=af:=by simpa using hstr
     subst hstr;simp only[ah]at s;subst s;refine gZ.writes hid λφ E h' w a hrd hb' hp hrep=>?_
     have hrx:=hp x _ (by rw[U];simp[Op.operands]) L;have hrk:=fD (hp k _ (by rw[U];simp[Op.operands]) hkx);have hry:=hp y _ (by rw[U];simp[Op.operands]) hy;generalize A:a.eval x=zz at hrx;cases hrx with
     |@mp _ b hφ=>
      obtain⟨k',q1,_,ob,q2,q3⟩:=hrep.at_ id _ hb';rw[hφ]at q1;cases q1;obtain⟨ents,clock,rfl,q4,q5⟩:=q3;unfold Zo at q4;rw[aw (by simp)]at q4;have q5:∀(j:Nat) x,es[j]? =M x->cS φ (tot E φ h') w x.2 (kK x.1 ents.toList):=λj x L=>by
       obtain⟨_,z,Z⟩:=q5 j x L;unfold MpV at z;rw[aw (by simp)]at z;subst z;exact Z
      have mk1:∀(ents':Array MapEntry) (clock:Nat),(∀m∈ents'.toList,xm m.key)->(∀k,xm k->(k= .int .i64 n->kK k ents'.toList=a.eval y)/\(k≠ .int .i64 n->kK k ents'.toList=kK k ents.toList))->js φ (tot E φ h') w ⟨ty+1,.mp (me n v es)⟩ (.map ents' clock):=λents' clock z Z=>⟨ents',clock,rfl,by unfold Zo;rw[aw (by simp),Dh];exact⟨z,q4.2⟩,λj x L=>by
       obtain⟨p,g3,g4,g5,g6⟩:=Gx L;have hI:=q4.2 p.1 (du.2 ⟨p,aZ g3,rfl⟩);refine ⟨_,by unfold MpV;rw[aw (by simp)],?_⟩;rw[g4];by_cases e:p.1= .int .i64 n
       .rw[(Z _ hI).1 e,g5 e];exact hry
       .rw[(Z _ hI).2 e,g6 e];exact q5 j p g3⟩
      have hck:=uc (P:=P) hk hd af (.int .i64 n) w;rcases FU hd n ents.toList 0 q4.1 with ⟨h1,_,h3⟩|⟨j,m,h2,h3,_,h4,h5⟩
      .refine ⟨.skip,_,b,.map (ents.push {key:=.int .i64 n,val:=a.eval y,born:=clock}) (clock+1),?_,hφ,zH q2 (by simp) (by simp),mk1 _ _ (λm hm=>?_) λk hk=>?_,undef,.inr ⟨rfl,rfl⟩,.f (.raw _)⟩
       .unfold execOp;rw[U];simp[Instr.mapUpdate,run_underlying hu,A,hrk,getObj,kz,q2,hck,tI,run_underlying hk,h1,setObj]
       .rw[Array.toList_push]at hm;rcases bG.1 hm with hm|hm
        .exact q4.1 m hm
        .rw[aI.1 hm];exact⟨n,rfl⟩
       .rw[Array.toList_push];exact h3 k _ rfl hk
      .rw[cD]at h2;rw[bK]at h3;obtain⟨hjl,hjm⟩:=cH.1 h2;have s1:Mf 10000 (.int .i64 n) (.int .i64 n)=J:=by simp[Mf]
       have hl:(ents.modify j λe=>{e with key:=.int .i64 n,val:=a.eval y}).toList=ents.toList.set j {m with key:=.int .i64 n,val:=a.eval y}:=by
        apply List.ext_getElem?;intro i;simp only[cD,kc,Array.getElem?_modify];by_cases hij:j=i
        .subst hij;simp[h2,hjl,hjm]
        .simp[hij]
       refine ⟨.skip,_,b,.map (ents.modify j λe=>{e with key:=.int .i64 n,val:=a.eval y}) clock,?_,hφ,zH q2 (by simp) (by simp),mk1 _ _ (λq hm=>?_) λk hk=>?_,undef,.inr ⟨rfl,rfl⟩,.f (.raw _)⟩
       .unfold execOp;rw[U];simp[Instr.mapUpdate,run_underlying hu,A,hrk,getObj,kz,q2,hck,tI,run_underlying hk,h3,setObj,h2,h4,Instr.keyThatStays,s1]
       .rw[hl]at hm;rcases List.mem_or_eq_of_mem_set hm with hm|rfl
        .exact q4.1 q hm
        .exact⟨n,rfl⟩
       .rw[hl];exact h5 k _ rfl hk
   .cases s
  .cases s
 .cases s
end
section
variable {P:Program} {o:Oper} {e:AJ} {h:oL} {nx:Nat} {R:C5}
theorem RW {t:TypeId} {d:TypeDesc} (hu:P.underlying t=M d) (hd:(match d with|.int _=>J|.bool=>J|.string=>J|_=>af)=J) (cs:Array Value) (j:Nat) (v:Value) (hv:cs[j]? =M v) (w:World):(part t cs j).run P w= .ok v w:=by
 unfold part;simp only[isAgg,eQ,run_underlying hu,cU];cases d<;>simp at hd<;>simp[hv]
theorem aa5 {t:TypeId} {d:TypeDesc} (hu:P.underlying t=M d) (hd:(match d with|.int _=>J|.bool=>J|.string=>J|_=>af)=J) {x y:FV} {b:Bool} (hxy:yw d x y=M b) {u v:Value} (z:x= .raw u) (s:y= .raw v) (n:Nat) (w:World):(Op.equalIn (n+1) t u v).run P w= .ok b w:=by
 subst z;subst s;cases d<;>simp at hd<;>cases u<;>cases v<;>simp only[yw]at hxy<;>first|(cases hxy;done)|skip
 .simp only[ah]at hxy;subst hxy;simp[Op.equalIn,run_underlying hu]
 .split at hxy
  .rename_i hk;have a:=eq_of_beq hk;subst a;simp only[ah]at hxy;subst hxy;simp[Op.equalIn,run_underlying hu]
  .cases hxy
 .simp only[ah]at hxy;subst hxy;simp[Op.equalIn,run_underlying hu,Ge]
abbrev KB (n:Nat) (xs s:Array Value) (f:Field) (_:I Bool×Unit):Sem (ForInStep (I Bool×Unit)):=
 if f.name≠ "_" then do
  let a←part f.type xs f.offset
  let b←part f.type s f.offset
  let c←Op.equalIn (n+1) f.type a b
  if (!c)=J then pure (ForInStep.done (M af,())) else pure (ForInStep.yield (D,()))
 else pure (ForInStep.yield (D,()))
theorem Ol (n:Nat) (w:World) (xs s:Array Value):∀(fs:Y Field) (ds:Y TypeDesc) (a b:Y FV) (k:Nat) (r:Bool),sI P k fs=M ds->
 (∀(j:Nat) x u,a[j]? =M x->xs[k+j]? =M u->x= .raw u\/∀v,x≠ .raw v)->(∀(j:Nat) x u,b[j]? =M x->s[k+j]? =M u->x= .raw u\/∀v,x≠ .raw v)->(∀(j:Nat),j<a.length->k+j<xs.size)->(∀(j:Nat),j<b.length->k+j<s.size)->pE ds a b=M r->
 (forIn fs (D,()) (KB n xs s)).run P w= .ok (if r then (D,()) else (M af,())) w
 |[],ds,a,b,k,r,hp,_,_,_,_,he=>by
  simp only[sI,ah]at hp;subst hp;cases a<;>cases b<;>simp[pE]at he;subst he;simp
 |f::fs,ds,a,b,k,r,hp,ha,hb,hla,hlb,he=>by
  simp only[sI]at hp;split at hp
  .rename_i d ds' hu Z;split at hp
   .rename_i hc;simp only[al,bne_iff_ne,ne_eq,c8]at hc;obtain⟨⟨hn,hof⟩,hd⟩:=hc;simp only[ah]at hp;subst hp;cases a with
    |nil=>cases b<;>simp[pE]at he
    |cons x a=>
     cases b with
     |nil=>simp[pE]at he
     |cons y b=>
      simp only[pE]at he;have U:k<xs.size:=by have:=hla 0 (by simp);omega
      have L:k<s.size:=by have:=hlb 0 (by simp);omega
      have hraw:∀(z:FV) (q:Value),(z= .raw q\/∀v,z≠ .raw v)->(∃v,z= .raw v)->z= .raw q:=by
       rintro z q (h|h) ⟨v,hv⟩
       .exact h
       .exact b8 hv (h v)
      have hxr:∀A,yw d x y=M A->x= .raw xs[k]/\y= .raw s[k]:=by
       intro A hbb;have hrr:(∃v,x= .raw v)/\∃v,y= .raw v:=by
        unfold yw at hbb;split at hbb
        .exact⟨⟨_,rfl⟩,⟨_,rfl⟩⟩
        .exact⟨⟨_,rfl⟩,⟨_,rfl⟩⟩
        .exact⟨⟨_,rfl⟩,⟨_,rfl⟩⟩
        .cases hbb
       exact⟨hraw x _ (ha 0 x _ rfl (by simp[U])) hrr.1,hraw y _ (hb 0 y _ rfl (by simp[L])) hrr.2⟩
      have hstep:∀A,yw d x y=M A->(KB n xs s f (D,())).run P w= .ok (if A then ForInStep.yield (D,()) else ForInStep.done (M af,())) w:=by
       intro A hbb;obtain⟨h1,h2⟩:=hxr A hbb;have p1:=RW hu (by cases d<;>simp[Jw]at hd<;>rfl) xs k xs[k] (by simp[U]) w;have p2:=RW hu (by cases d<;>simp[Jw]at hd<;>rfl) s k s[k] (by simp[L]) w;have p3:=aa5 hu (by cases d<;>simp[Jw]at hd<;>rfl) hbb h1 h2 n w;unfold KB;rw[aC hn,hof];simp only[eQ,p1,p2,p3,cU];cases A<;>simp
      rw[List.forIn_cons];simp only[eQ];split at he
      .rename_i hbb;rw[hstep J hbb];simp only[cU,bI];exact Ol n w xs s fs ds' a b (k+1) r Z (λj x u h1 h2=>ha (j+1) x u (by simpa using h1) (by rw[<- h2];congr 1;omega)) (λj x u h1 h2=>hb (j+1) x u (by simpa using h1) (by rw[<- h2];congr 1;omega))
        (λj hj=>by have:=hla (j+1) (by simpa using hj);omega) (λj hj=>by have:=hlb (j+1) (by simpa using hj);omega) he
      .rename_i hbb;rw[hstep af hbb];simp only[ah]at he;subst he;simp
      .cases he
   .cases hp
  .cases hp
theorem aa4 {t:TypeId} {fs:Array Field} (hu:P.underlying t=M (.struct fs)) (hs:P.stoodInHeld t=af) {ds:Y TypeDesc} (hp:sI P 0 fs.toList=M ds) (xs s:Array Value) {a b:Y FV} {r:Bool}
 (z:∀(j:Nat) x u,a[j]? =M x->xs[j]? =M u->x= .raw u\/∀v,x≠ .raw v) (hb:∀(j:Nat) x u,b[j]? =M x->s[j]? =M u->x= .raw u\/∀v,x≠ .raw v) (hla:a.length=xs.size) (hlb:b.length=s.size) (he:pE ds a b=M r) (w:World):
 (Op.equal t (.agg xs) (.agg s)).run P w= .ok r w:=by
 have key:∀n,(Op.equalIn (n+2) t (.agg xs) (.agg s)).run P w= .ok r w:=by
  intro n;rw[Op.equalIn];have h1:=Ol (P:=P) n w xs s fs.toList ds a b 0 r hp (λj x u h1 h2=>z j x u h1 (by simpa using h2)) (λj x u h1 h2=>hb j x u h1 (by simpa using h2)) (λj hj=>by omega) (λj hj=>by omega) he;rw[Array.forIn_toList]at h1;simp only[eQ,run_underlying hu,cU,program,kz,hs,cG,ec];have h2:(forIn fs (D,()) (λf __s=>KB n xs s f __s)).run P w= .ok (if r then (D,()) else (M af,())) w:=h1;unfold KB at h2;rw[h2];cases r<;>simp
 exact key 9998
theorem Ti {t:TypeId} {fs:Array Field} (hu:P.underlying t=M (.struct fs)) {ds:Y TypeDesc} (hp:sI P 0 fs.toList=M ds):P.eqGuardType P.depth t=af:=by
 have key:∀(fs:Y Field) (k:Nat) (ds:Y TypeDesc),sI P k fs=M ds→∀d,(fs.any λf=>f.name != "_" &&P.eqGuardType (d+1) f.type)=af:=by
  intro fs;induction fs with
  |nil=>intros;rfl
  |cons f fs z=>
   intro k ds hp d;simp only[sI]at hp;split at hp
   .rename_i A ds' a s;split at hp
    .rename_i hc;simp only[al]at hc;have:P.eqGuardType (d+1) f.type=af:=by
      unfold Program.eqGuardType;rw[a];have:=hc.2;cases A<;>simp[Jw]at this<;>rfl
     simp only[List.any_cons,this,Mh,Bool.false_or];exact z (k+1) ds' s d
    .cases hp
   .cases hp
 unfold Program.depth Program.eqGuardType;rw[hu];simp only[];rw[← Array.any_toList];exact key fs.toList 0 ds hp _
theorem ala {t t':TypeId} {op:BinOp} {neg:Bool} {x y:Operand} {fs:Array Field} {ds:Y TypeDesc} (U:o.op= .binOp op t x y t') (hop:op=if neg then .neq else .eql) (hu:P.underlying t=M (.struct fs)) (hs:P.stoodInHeld t=af) (hp:sI P 0 fs.toList=M ds) (s:eP (.eqs neg ds x y) e h nx=M R):gZ P o e.get h.get R.eff:=by
 simp only[eP]at s;split at s
 .rename_i a b z hy;split at s
  .rename_i r hr;rw[dJ s];refine gZ.reads λφ E h' w ac _ hpp _=>?_
   have h1:=hpp x _ (by rw[U];simp[Op.operands]) z;have h2:=hpp y _ (by rw[U];simp[Op.operands]) hy;generalize hzx:ac.eval x=zx at h1;generalize hzy:ac.eval y=zy at h2;have rawOr:∀(l:Y FV) (vs:ξ),(∀(j:Nat) x v,l[j]? =M x->vs[j]? =M v->oe (tot E φ h') w x v)->∀(j:Nat) x u,l[j]? =M x->vs.toArray[j]? =M u->x= .raw u\/∀v,x≠ .raw v:=by
    intro l vs hr j x u z hu;have:=hr j x u z (by simpa using hu);cases this with
    |raw v=>exact .inl rfl
    |nil=>exact .inr (by simp)
    |sl=>exact .inr (by simp)
    |ptr=>exact .inr (by simp)
    |agg=>exact .inr (by simp)
   cases h1 with
   |f h1=>
    cases h1 with
    |agg _ vs hl hcl L=>
     cases h2 with
     |f h2=>
      cases h2 with
      |agg _ us Z hcl' A=>
       have heq:=aa4 hu hs hp vs.toArray us.toArray (rawOr a vs L) (rawOr b us A) (by simp[hl]) (by simp[Z]) hr w;refine ⟨_,?_,.f (.raw _)⟩;have hg:=Ti hu hp;unfold execOp;rw[U];simp only[hzx,hzy];subst hop;cases neg<;>simp[eqGuard,program,kz,hg,binOp,heq]
  .cases s
 .cases s
end
theorem bind_some {α β:Type} {x:I α} {f:α->I β} {y:β} (h:x.bind f=M y):∃a,x=M a/\f a=M y:=by
 cases x with
 |none=>cases h
 |some a=>exact⟨a,rfl,h⟩
theorem map_some {α β:Type} {x:I α} {f:α->β} {y:β} (h:x.map f=M y):∃a,x=M a/\f a=y:=by
 cases x with
 |none=>cases h
 |some a=>exact⟨a,rfl,by simpa using h⟩
theorem mD {c:Bool} {β:Type} {x:I β} {y:β} (h:(if c then x else D)=M y):c=J/\x=M y:=by
 cases c with
 |true=>exact⟨rfl,by simpa using h⟩
 |false=>simp at h
theorem Jz {P:Program} {o:Oper} {e:AJ} {h:oL} {nx:Nat} {s:SOp} {R:C5} (hc:dE P o.op=M s) (L:eP s e h nx=M R):gZ P o e.get h.get R.eff:=by
 unfold dE at hc;split at hc
 .rename_i x A;simp only[ah]at hc;subst hc;exact aqs (.inl A) L
 .rename_i x A;simp only[ah]at hc;subst hc;exact aqs (.inr A) L
 .rename_i c a b A;simp only[ah]at hc;subst hc;exact an4 A L
 .rename_i t A;obtain⟨z,h1,hc⟩:=bind_some hc;obtain⟨h2,hc⟩:=mD hc;simp only[ah]at hc;subst hc;exact ajj A h1 h2 L
 .rename_i t x A;simp only[ah]at hc;subst hc;exact ar4 A L
 .rename_i t ps A;split at hc
  .rename_i fs hu;obtain⟨z,h1,hc⟩:=bind_some hc;obtain⟨h2,hc⟩:=mD hc;obtain⟨ps',U,rfl⟩:=map_some hc;simp only[al]at h2;exact Zl A h1 h2.1 U (.inl ⟨fs,hu,h2.2⟩) L
  .rename_i n el hu;obtain⟨z,h1,hc⟩:=bind_some hc;obtain⟨h2,hc⟩:=mD hc;obtain⟨ps',U,rfl⟩:=map_some hc;simp only[al]at h2;obtain⟨sz,Z⟩:=iY.1 h2.2;exact Zl A h1 h2.1 U (.inr ⟨n,el,sz,hu,Z⟩) L
  .cases hc
 .rename_i t n ps A;obtain⟨el,h1,hc⟩:=bind_some hc;obtain⟨z,h2,hc⟩:=bind_some hc;obtain⟨sz,U,hc⟩:=bind_some hc;obtain⟨Z,hc⟩:=mD hc;obtain⟨ps',h5,rfl⟩:=map_some hc;simp only[al,c8,bne_iff_ne]at Z;exact ar3 A (tw h1) h2 U Z.1.1.1 Z.1.1.2 Z.2 (a_ Z.1.2) h5 L
 .rename_i t x A;obtain⟨sz,h1,hc⟩:=bind_some hc;obtain⟨ag,h2,rfl⟩:=map_some hc;exact an7 A h1 h2 L
 .rename_i t x v A;obtain⟨sz,h1,rfl⟩:=map_some hc;exact aji A h1 L
 .rename_i x A;simp only[ah]at hc;subst hc;exact an5 A L
 .rename_i op t x y t' A;split at hc
  .simp only[ah]at hc;subst hc;exact alc A L
  .simp only[ah]at hc;subst hc;exact alc A L
  .rename_i hu;split at hc
   .simp only[ah]at hc;subst hc;exact alb (neg:=af) A rfl hu L
   .simp only[ah]at hc;subst hc;exact alb (neg:=J) A rfl hu L
   .cases hc
  .rename_i el hu;split at hc
   .simp only[ah]at hc;subst hc;exact Zk (neg:=af) A rfl rfl hu L
   .simp only[ah]at hc;subst hc;exact Zk (neg:=J) A rfl rfl hu L
   .cases hc
  .rename_i fs hu;obtain⟨ds,h1,hc⟩:=bind_some hc;unfold adb at h1;rw[hu]at h1;simp only[]at h1;split at h1
   .cases h1
   .rename_i hst;have hst:P.stoodInHeld t=af:=by simpa using hst
    split at hc
    .simp only[ah]at hc;subst hc;exact ala (neg:=af) A rfl hu hst h1 L
    .simp only[ah]at hc;subst hc;exact ala (neg:=J) A rfl hu hst h1 L
    .cases hc
  .cases hc
 .rename_i t x A;simp only[ah]at hc;subst hc;exact aqq A L
 .rename_i t x A;split at hc
  .simp only[ah]at hc;subst hc;exact aqr A L
  .cases hc
 .rename_i s' d x A;split at hc
  .rename_i k k' h1 h2;simp only[ah]at hc;subst hc;exact and A h1 h2 L
  .cases hc
 .rename_i t l c A;obtain⟨el,h1,hc⟩:=bind_some hc;obtain⟨z,h2,hc⟩:=bind_some hc;obtain⟨sz,U,hc⟩:=bind_some hc;obtain⟨b,h5,hc⟩:=bind_some hc;obtain⟨Z,hc⟩:=mD hc;simp only[al,c8,bne_iff_ne]at Z;simp only[ah]at hc;subst hc;exact an6 A (tw h1) h2 U h5 Z.1.1 Z.1.2 Z.2 L
 .rename_i t x lo hi mx A;obtain⟨el,h1,hc⟩:=bind_some hc;obtain⟨sz,h2,rfl⟩:=map_some hc;exact aqm A (tw h1) h2 L
 .rename_i t x k A;split at hc
  .rename_i fs hu;obtain⟨f,h1,hc⟩:=bind_some hc;obtain⟨sz,h2,hc⟩:=bind_some hc;obtain⟨U,hc⟩:=mD hc;simp only[ah]at hc;subst hc;exact ar0 A hu h1 h2 (by simpa using U) L
  .cases hc
 .rename_i t x k A;split at hc
  .rename_i fs hu;obtain⟨f,h1,hc⟩:=bind_some hc;obtain⟨sz,h2,hc⟩:=bind_some hc;obtain⟨ag,U,rfl⟩:=map_some hc;exact aqz A hu h1 h2 U L
  .cases hc
 .rename_i t x i A;split at hc
  .rename_i el hu;obtain⟨sz,h1,rfl⟩:=map_some hc;exact aqy A hu h1 L
  .rename_i n el hu;obtain⟨sz,h1,rfl⟩:=map_some hc;exact anb A hu h1 L
  .cases hc
 .rename_i t x i A;split at hc
  .rename_i n el hu;obtain⟨sz,h1,hc⟩:=bind_some hc;obtain⟨ag,h2,rfl⟩:=map_some hc;exact aqx A hu h1 h2 L
  .rename_i hu;simp only[ah]at hc;subst hc;exact an3 A hu L
  .cases hc
 .rename_i x i A;simp only[ah]at hc;subst hc;exact ar1 A L
 .rename_i f first caps A
  obtain⟨h1,hc⟩:=mD hc;simp only[ah]at hc;subst hc;have h2:first=#[]:=by simpa using h1
  subst h2;exact aqu A L
 .rename_i t A;split at hc
  .simp only[ah]at hc;subst hc;exact aqt A L
  .cases hc
 .rename_i t x k ok A;split at hc
  .rename_i kt el hu;split at hc
   .rename_i q z h1 h2;obtain⟨U,hc⟩:=mD hc;simp only[ah]at hc;subst hc;exact al9 (str:=af) A hu h1 ⟨q,rfl⟩ h2 L
   .rename_i z h1 h2;obtain⟨U,hc⟩:=mD hc;simp only[ah]at hc;subst hc;exact al9 (str:=J) A hu h1 rfl h2 L
   .cases hc
  .cases hc
 .rename_i t m k v A;split at hc
  .rename_i kt el hu;split at hc
   .rename_i q h1;simp only[ah]at hc;subst hc;exact al8 (str:=af) A hu h1 ⟨q,rfl⟩ L
   .rename_i h1;simp only[ah]at hc;subst hc;exact al8 (str:=J) A hu h1 rfl L
   .cases hc
  .cases hc
 .rename_i t x A;split at hc
  .rename_i hu;simp only[ah]at hc;subst hc;exact aqn A hu L
  .cases hc
 .rename_i x A;simp only[ah]at hc;subst hc;exact aqp A L
 .rename_i c A;obtain⟨callee,args,argTypes⟩:=c;have arr:∀{α:Type} {x:Array α} {l:Y α},x.toList=l->x=l.toArray:=λh=>by rw[<- h]
  unfold Up at hc;simp only[]at hc;split at hc
  .split at hc
   .rename_i x t h1 h2;rw[arr h1,arr h2]at A;split at hc
    .rename_i el hu;simp only[ah]at hc;subst hc;exact ana A hu L
    .rename_i hu;simp only[ah]at hc;subst hc;exact an9 A hu L
    .rename_i k v hu;simp only[ah]at hc;subst hc;exact an8 A hu L
    .cases hc
   .cases hc
  .split at hc
   .rename_i x y h1;rw[arr h1]at A;simp only[ah]at hc;subst hc;exact aqw A L
   .cases hc
  .split at hc
   .rename_i x y h1;rw[arr h1]at A;simp only[ah]at hc;subst hc;exact aqv A L
   .cases hc
  .split at hc
   .rename_i d x t u h1 h2;rw[arr h1,arr h2]at A;split at hc
    .rename_i el el' h1 h2;obtain⟨sz,U,hc⟩:=bind_some hc;obtain⟨Z,hc⟩:=mD hc;simp only[ah]at hc;subst hc;exact anc A (tw h1) (tw h2) U L
    .cases hc
   .cases hc
  .split at hc
   .rename_i x t h1 h2;rw[arr h1,arr h2]at A;obtain⟨el,U,hc⟩:=bind_some hc;obtain⟨z,Z,hc⟩:=bind_some hc;obtain⟨sz,h5,hc⟩:=bind_some hc;obtain⟨h6,hc⟩:=mD hc;simp only[al,c8,bne_iff_ne,ne_eq]at h6;simp only[ah]at hc;subst hc;exact ar2 A (tw U) Z h6.1.1 h6.1.2 h6.2 L
   .cases hc
  .split at hc
   .rename_i s' x t u h1 h2;rw[arr h1,arr h2]at A;split at hc
    .rename_i el el' h1 h2;obtain⟨sz,U,hc⟩:=bind_some hc;obtain⟨b,Z,hc⟩:=bind_some hc;obtain⟨z,h5,hc⟩:=bind_some hc;obtain⟨h6,hc⟩:=mD hc;simp only[al,c8,bne_iff_ne]at h6;simp only[ah]at hc;subst hc;exact ar5 A (tw h1) (tw h2) U Z h5 h6.2 h6.1 L
    .cases hc
   .cases hc
  .cases hc
 .cases hc
theorem mG {p:Nat->Bool}:∀{l:Y AV},AV.allL p l=J->∀x∈l,AV.all p x=J
 |[],_,x,a=>by cases a
 |y::l,h,x,a=>by
  simp only[AV.allL,al]at h;rcases bm.1 a with rfl|a
  .exact h.1
  .exact mG h.2 x a
theorem cS.restrict {φ φ':PM} {O O':Nat->Prop} {w:World} {p:Nat->Bool} (hs:∀i k,p i=J->φ i=M k->φ' i=M k) (z:∀k,O' k->O k) {x:AV} {v:Value} (h:cS φ O w x v):x.all p=J->cS φ' O' w x v:=by
 induction h with
 |f h=>intro _;exact .f (h.ext (O':=O') (Ja.refl O w) λk _ hk=>z k hk)
 |ptr h=>intro hp;exact .ptr (hs _ _ hp h)
 |sl h hn hc=>intro hp;exact .sl (hs _ _ hp h) hn hc
 |row h hn hc hsh=>intro hp;exact .row (hs _ _ hp h) hn hc hsh
 |emp=>intro _;exact .emp
 |anyb=>intro _;exact .anyb
 |mp h=>intro hp;exact .mp (hs _ _ hp h)
 |agg hl hcl hr s=>intro hp;exact .agg hl hcl λj x v a hv=>s j x v a hv (mG hp x (aZ a))
 |tup hl hr s=>intro hp;exact .tup hl λj x v a hv=>s j x v a hv (mG hp x (aZ a))
 |clo hl hr s=>intro hp;exact .clo hl λj x v a hv=>s j x v a hv (mG hp x (aZ a))
theorem js.restrict {φ φ':PM} {O O':Nat->Prop} {w w':World} {p:Nat->Bool} (hk:∀x v,x.all p=J->cS φ O w x v->cS φ' O' w' x v) {b:wK} {o:Obj} (hb:b.c.all p=J) (h:js φ O w b o):js φ' O' w' b o:=by
 unfold js at h ⊢;cases hc:b.c with
 |fz l=>
  rw[hc]at h;obtain⟨arr,h1,h2,A⟩:=h;exact⟨arr,h1,h2,λj x z=>by
   obtain⟨a,v,c,d⟩:=A j x z;refine ⟨a,v,c,hk _ _ ?_ d⟩;simp only[BC.get]at z;cases hl:l[j]? with
   |none=>rw[hl]at z;cases z
   |some q=>rw[hl]at z;simp at z;subst z;rfl⟩
 |mx l=>
  rw[hc]at h hb;obtain⟨arr,h1,h2,A⟩:=h;exact⟨arr,h1,h2,λj x z=>by
   obtain⟨a,v,c,d⟩:=A j x z;exact⟨a,v,c,hk _ _ (mG hb x (aZ z)) d⟩⟩
 |mp es=>
  rw[hc]at h hb;obtain⟨e,c,h1,h2,A⟩:=h;exact⟨e,c,h1,h2,λj x z=>by
   obtain⟨m,a,b⟩:=A j x z;exact⟨m,a,hk _ _ (mG hb x.2 (du.2 ⟨x,aZ z,rfl⟩)) b⟩⟩
 |it s q=>rw[hc]at h;exact h
def afg (m:Nat):ι:=(cq (m+1)).filter λi=>aO m i
theorem N3 {m i:Nat}:i∈afg m↔aO m i=J:=by
 unfold afg;rw[xQ,lU];constructor
 .exact λh=>h.2
 .intro h;refine ⟨?_,h⟩;have h1:=Nat.ge_two_pow_of_testBit h;have h2:=Nat.lt_two_pow_self (n:=i);omega
def ku (φ:PM) (O:Nat->Prop) (w:World):Y AV->ξ->Prop
 |[],[]=>True
 |x::xs,v::vs=>cS φ O w x v/\ku φ O w xs vs
 |_,_=>False
theorem ku.length {φ:PM} {O:Nat->Prop} {w:World}:∀{args:Y AV} {vs:ξ},ku φ O w args vs->vs.length=args.length
 |[],[],_=>rfl
 |[],_::_,h=>h.elim
 |_::_,[],h=>h.elim
 |_::_,_::_,h=>by simp[ku.length h.2]
theorem ku.mono {φ φ':PM} {O O':Nat->Prop} {w w':World} {p:Nat->Bool} (hk:∀x v,x.all p=J->cS φ O w x v->cS φ' O' w' x v):∀{args:Y AV} {vs:ξ},AV.allL p args=J->ku φ O w args vs->ku φ' O' w' args vs
 |[],[],_,_=>trivial
 |[],_::_,_,h=>h.elim
 |_::_,[],_,h=>h.elim
 |x::xs,_::_,hp,h=>by
  simp only[AV.allL,al]at hp;exact⟨hk _ _ hp.1 h.1,ku.mono hk hp.2 h.2⟩
theorem ku.append {φ:PM} {O:Nat->Prop} {w:World}:∀{xs a:Y AV} {vs us:ξ},ku φ O w xs vs->ku φ O w a us->ku φ O w (xs++a) (vs++us)
 |[],_,[],_,_,h=>h
 |[],_,_::_,_,h,_=>h.elim
 |_::_,_,[],_,h,_=>h.elim
 |_::_,_,_::_,_,h,h'=>⟨h.1,ku.append h.2 h'⟩
theorem ku.of {φ:PM} {O:Nat->Prop} {w:World}:∀{xs:Y AV} {vs:ξ},vs.length=xs.length->(∀(j:Nat) x v,xs[j]? =M x->vs[j]? =M v->cS φ O w x v)->ku φ O w xs vs
 |[],[],_,_=>trivial
 |[],_::_,h,_=>by simp at h
 |_::_,[],h,_=>by simp at h
 |x::xs,v::vs,hl,h=>⟨h 0 x v rfl rfl,ku.of (by simpa using hl) λj x v a hv=>h (j+1) x v (by simpa using a) (by simpa using hv)⟩
def E5 (P:Program) (f:FuncId):Prop:=∃fn,P.funcs[f]? =M fn∧fn.body.isNone=af∧(fn.name== "runtime.NumGoroutine")=af
theorem Qm {φ:PM} {E:Nat->Prop} {h':HF} {w:World} {a:Act} {e:AJ} {o:Oper} (hp:XW φ E h' w a e o):∀(xs:Y Operand) (s:Y AV),(∀x∈xs,x∈o.op.operands)->YY e xs=M s->ku φ (tot E φ h') w s (xs.map a.eval)
 |[],s,_,h=>by simp only[YY,ah]at h;subst h;trivial
 |x::xs,s,hm,h=>by
  simp only[YY]at h;split at h
  .rename_i y z;split at h
   .rename_i ys' hys;simp only[ah]at h;subst h;exact⟨hp x y (hm x (c9 ..)) z,Qm hp xs ys' (λx A=>hm x (cC _ A)) hys⟩
   .cases h
  .cases h
theorem xW {P:Program} {f:FuncId} (hc:E5 P f) (args:Array Value) (w:World):(callFunc f args).run P w= .ok (.enter f args) w:=by
 obtain⟨fn,h1,h2,z⟩:=hc;have a:fn.name≠ "runtime.NumGoroutine" :=by simpa using z
 have s:fn.body≠D:=by intro h;rw[h]at h2;cases h2
 simp[callFunc,program,kz,h1,s,a]
theorem YQ:∀(fs:Y FPm) (i:Nat),aa1 fs i=fs[i]?
 |[],i=>by simp[aa1]
 |f::fs,0=>rfl
 |f::fs,i+1=>by simp[aa1,YQ fs i]
theorem yE {a b:Nat} (h:Ey a b=J) (i:Nat) (s:aO a i=J):aO b i=af:=by
 unfold Ey at h;have h0:a&&&b=0:=ar h;have:=Nat.testBit_and a b i;rw[h0,s]at this;simpa using this.symm
structure Ctx where
 n0:Nat
 φ:PM
 E:Nat->Prop
 h:HF
 w:World
def agh (P:Program) (d:Deferred):Prop:=∀w:World,∃s cap f args,d.target= .fn s cap/\(invoke d.target d.args).run P w= .ok (.enter f args) w/\
 CallsD P f args .returning w λe a w'=>(∃v,e= .returned v)/\a= .returning/\w'=w
structure Cfg (P:Program) (C:Ctx) (nt:Nat) (s:IS) (a:Act) (w:World):Prop where
 ex:∃φ,jt C.φ φ C.h s.h.get C.w w/\rL φ C.E s.h.get w/\O1 φ (tot C.E φ s.h.get) w s.e.get a/\(∀i k,φ i=M k->i<s.nx)/\∀i k,φ i=M k->C.φ i=M k\/C.n0<=i
 low:C.n0<=s.nx
 inert:∀d∈a.defers,agh P d
 size:a.tmps.size=nt
theorem Cfg.bool {P:Program} {C:Ctx} {nt:Nat} {s:IS} {a:Act} {w:World} (c:Cfg P C nt s a w) {t:Nat} {b:Bool} (ht:s.e.get t=M (.f (.raw (.bool b)))):a.eval (.tmp t)= .bool b:=by
 obtain⟨φ,_,_,en,_,_⟩:=c.ex;exact fD (en t _ ht)
theorem Dd {P:Program} {c:Code} {Q:Exit->Act->World->Prop} (y:Nat->Act->World->Prop) (round:∀n a w,y n a w->c.wp P (Exit.then (λa' w'=>∃m,m<n/\y m a' w') Q) a w) {n:Nat} {a:Act} {w:World} (h0:y n a w):(Code.loop c).wp P Q a w:=by
 have least:∀(n:Nat) (a:Act) (w:World),y n a w->∃m,y m a w/\∀k,y k a w->m<=k:=by
  intro n;induction n using Nat.strongRecOn with
  |_ n A=>
   intro a w hn;by_cases s:∃k,k<n/\y k a w
   .obtain⟨k,hk,z⟩:=s;exact A k hk a w z
   .exact⟨n,hn,λk hk=>Nat.le_of_not_lt λhlt=>s ⟨k,hlt,hk⟩⟩
 have pick:∀a w,∃m,(∃n,y n a w)->y m a w/\∀k,y k a w->m<=k:=λa w=>by
  by_cases s:∃n,y n a w
  .obtain⟨n,hn⟩:=s;obtain⟨m,hm⟩:=least n a w hn;exact⟨m,λ_=>hm⟩
  .exact⟨0,λh=>b8 h s⟩
 let μ:Act->World->Nat:=λa w=>Classical.choose (pick a w)
 have hμ:∀a w,(∃n,y n a w)->y (μ a w) a w/\∀k,y k a w->μ a w<=k:=λa w=>Classical.choose_spec (pick a w)
 refine wp_loop (λa w=>∃n,y n a w) μ ⟨n,h0⟩ λa w z=>?_
 refine wp_mono (round (μ a w) a w (hμ a w z).1) λe a' w' he=>?_
 cases e with
 |normal=>
  obtain⟨m,hm,hIm⟩:=he;exact⟨⟨m,hIm⟩,Nat.lt_of_le_of_lt ((hμ a' w' ⟨m,hIm⟩).2 m hIm) hm⟩
 |exit id=>exact he
 |goto l=>exact he
 |ret=>exact he
 |panic c=>exact he
 |outgrown=>exact he
def Ex.to:Ex->Exit
 |.normal=>.normal
 |.exit id=>.exit id
 |.ret=>.ret
def L9 (P:Program) (inert:FuncId->Bool):Prop:=∀f,inert f=J->E5 P f/\∀(args:Array Value) (w:World),CallsD P f args .returning w λe a w'=>(∃v,e= .returned v)/\a= .returning/\w'=w
theorem Tu {P:Program} {C:Ctx} {nt:Nat} {inert:FuncId->Bool} (hin:L9 P inert) {s:IS} {a:Act} {w:World} (c:Cfg P C nt s a w) {id:Nat} {ops:Array Oper} {dr:Bool} {f:FuncId} {caps:Y Operand} {t:Nat} (hd:(ops.toList.all λo=>match o.dst with|some d=>decide (d<nt)|none=>J)=J) (hdf:EB ops dr=M (f,caps,t))
 {l:Y AV} (hl:YY s.e caps=M l) (hi:inert f=J) {Q:Exit->Act->World->Prop} (hQ:∀a w,Cfg P C nt ⟨s.e.put (M t) (.clo f l),s.h,s.nx,s.wr⟩ a w->Q .normal a w):(Code.region id ops dr).wp P Q a w:=by
 unfold EB at hdf;split at hdf
 .rename_i p q hops;split at hdf
  .rename_i f' first caps' t1 cl hpo hpg hpd hqo hqg hqd
   split at hdf
   .rename_i t2 hcl hca;split at hdf
    .rename_i hcond;simp only[al]at hcond;obtain⟨h1,h2⟩:=hcond;have h1:=ar h1;have h2:first=#[]:=by simpa using h2
     simp only[ah,aE]at hdf;obtain⟨rfl,rfl,rfl⟩:=hdf;subst h1;subst h2;have hops':ops=#[p,q]:=by rw[<- Array.toArray_toList (xs:=ops),hops]
     obtain⟨φ,m,r,en,dm⟩:=c.ex;obtain⟨hcb,hincalls⟩:=hin f' hi;have htn:t1<nt:=by
      have:=gI.1 hd p (by rw[hops];simp);rw[hpd]at this;simpa using this
     have hrelL:ku φ (tot C.E φ s.h.get) w l (caps'.toList.map a.eval):=by
      have hp':XW φ C.E s.h.get w a s.e p:=λx y U Z=>uo r (xs:=p.op.operands) (λt _ y Z=>en t y Z) U Z
      exact Qm hp' caps'.toList l (λx U=>by rw[hpo];simpa[Op.operands] using U) hl
     have hcm:caps'.map a.eval=(caps'.toList.map a.eval).toArray:=by apply Mi;simp
     let A:Value:=.func (.func f') #[] (caps'.map a.eval)
     have hrel:cS φ (tot C.E φ s.h.get) w (.clo f' l) A:=by
      simp only[A];rw[hcm];refine .clo (hrelL.length) ?_;have:∀(xs:Y AV) (vs:ξ),ku φ (tot C.E φ s.h.get) w xs vs->∀(j:Nat) x v,xs[j]? =M x->vs[j]? =M v->cS φ (tot C.E φ s.h.get) w x v:=by
       intro xs;induction xs with
       |nil=>intro vs _ j x v U;simp at U
       |cons y xs ih=>
        intro vs h j x v U hv;cases vs with
        |nil=>exact h.elim
        |cons u vs=>
         cases j with
         |zero=>simp at U hv;subst U;subst hv;exact h.1
         |succ j=>exact ih vs h.2 j x v (by simpa using U) (by simpa using hv)
      exact this _ _ hrelL
     refine wp_region ?_;have hr2:cq ops.size=[0,1]:=by rw[hops'];rfl
     rw[hr2];have e0:ops[0]? =M p:=by rw[hops'];rfl
     have e1:ops[1]? =M q:=by rw[hops'];rfl
     rw[wpOps_cons];have hexec1:(execOp a.eval p).run P w= .ok (.value A) w:=by
      unfold execOp;rw[hpo];simp[Instr.makeFunc,A]
     have w1:iX p (yielded ops a.tmps)=J:=by unfold iX;rw[hpg]
     unfold wpOp;simp only[e0,w1,bI];left;unfold Iz;rw[hexec1];show wpOps P ops Q [1] (a.put p.dst A) w;rw[wpOps_cons];unfold wpOp;have w2:iX q (yielded ops (a.put p.dst A).tmps)=J:=by unfold iX;rw[hqg]
     simp only[e1,w2,bI];left;have heval:(a.put p.dst A).eval (.tmp t1)=A:=by
      show (a.put p.dst A).tmps.getD t1 undef=A;rw[Js (by intro d z;rw[hpd]at z;cases z;rw[c.size];exact htn),aC hpd]
     have hargs:cl.args=#[]:=by rw[<- Array.toArray_toList (xs:=cl.args),hca]
     have hexec2:(execOp (a.put p.dst A).eval q).run P w= .ok (.defer {target:=.fn (.func f') (caps'.map a.eval),args:=#[]}) w:=by
      unfold execOp;rw[hqo];simp[resolve,hcl,heval,A,Deferred.ofValue,hargs]
     unfold Iz;rw[hexec2];show wpOps P ops Q [] _ w;refine hQ _ _ ⟨⟨φ,m,r,?_,dm⟩,c.low,?_,?_⟩
     .intro u x U;rw[hqd];show cS φ _ w x ((a.put p.dst A).tmps.getD u undef);rw[Js (by intro d z;rw[hpd]at z;cases z;rw[c.size];exact htn)];have L:(s.e.put (M t1) (.clo f' l)).get u=M x:=U;rw[<- ad7]at L;unfold Dt at L;rw[hpd];by_cases hu:M t1=M u
      .rw[aC hu]at L ⊢;cases L;exact hrel
      .rw[aw hu]at L ⊢;exact en u x L
     .intro d z;rw[hqd]at z;have hd'':d={target:=.fn (.func f') (caps'.map a.eval),args:=#[]}\/d∈(a.put p.dst A).defers:=by
       simpa[O9] using z
      rcases hd'' with rfl|hd''
      .intro w0;refine ⟨_,_,f',caps'.map a.eval,rfl,?_,hincalls _ w0⟩;simp[invoke,xW hcb]
      .rw[Jt]at hd'';exact c.inert d hd''
     .rw[hqd];show (a.put p.dst A).tmps.size=nt;rw[RP];exact c.size
    .cases hdf
   .cases hdf
  .cases hdf
 .cases hdf
def ZA (tmps:Array Value):ResultVar->Sem Value
 |.tmp t=>pure (tmps.getD t undef)
 |.cell a t=>do
  let s<-asAddr (tmps.getD a undef)
  loadVar t s
theorem Vz (fn:Func) (tmps:Array Value):results fn tmps=(do let vs<-fn.results.mapM (ZA tmps);pure (if h:vs.size=1 then vs[0] else .tuple vs)):=by
 unfold results;congr 2
theorem DC {P:Program} {fn:Func} {tmps:Array Value} {R:Ending->World->Prop} {w:World} {v:Value} (hr:(results fn tmps).run P w= .ok v w) (a:R (.returned v) w):∀(ds:Y Deferred),(∀d∈ds,agh P d)->Leaves P fn tmps R ds .returning w
 |[],_=>⟨v,hr,a⟩
 |d::ds,h=>by
  obtain⟨z,cap,f,args,h1,h2,s⟩:=h d (c9 ..) w;refine ⟨by simp,z,cap,f,args,h1,h2,s.mono ?_⟩;rintro e L w' ⟨⟨A,rfl⟩,rfl,rfl⟩;exact DC hr a ds λd hd=>h d (cC _ hd)
theorem ku.get {φ:PM} {O:Nat->Prop} {w:World}:∀{xs:Y AV} {vs:ξ},ku φ O w xs vs->∀(j:Nat) x,xs[j]? =M x->∃v,vs[j]? =M v/\cS φ O w x v
 |[],_,_,j,x,a=>by simp at a
 |_::_,[],h,_,_,_=>h.elim
 |y::xs,u::vs,h,j,x,a=>by
  cases j with
  |zero=>simp at a;subst a;exact⟨u,rfl,h.1⟩
  |succ j=>exact ku.get h.2 j x (by simpa using a)
theorem Uo {P:Program} {f:FuncId} {a:SF} (h:AB P f=M a):∃fn c,P.funcs[f]? =M fn∧fn.body=M c∧(fn.name== "runtime.NumGoroutine")=af∧a.code=cB P fn.ntmps c∧wj P fn.results.toList=M a.res∧a.nt=fn.ntmps:=by
 unfold AB at h;split at h
 .rename_i fn hf;split at h
  .cases h
  .rename_i hn;split at h
   .rename_i c r hb hr;simp only[ah]at h;subst h;exact⟨fn,c,hf,hb,by simpa using hn,rfl,hr,rfl⟩
   .cases h
 .cases h
theorem aj8 {a b:Value} (h:amt a b=J):a=b:=by
 unfold amt at h;split at h
 .simp at h;rw[h]
 .simp at h;rw[h.1,h.2]
 .rw[AF.1 h]
 .simp only[al]at h;rw[ar h.1,ar h.2]
 .rfl
 .rename_i x y;simp only[al,Array.isEmpty_iff]at h;rw[h.1,h.2]
 .cases h
def PT.mapO {α β:Type} (g:α->I β):PT α->PT β
 |.leaf=>.leaf
 |.node v l r=>.node (v.bind g) (PT.mapO g l) (PT.mapO g r)
theorem PT.get_mapO {α β:Type} (g:α->I β):∀(t:PT α) (i:Nat),(PT.mapO g t).get i=(t.get i).bind g
 |.leaf,i=>by simp[PT.mapO,PT.get]
 |.node v l r,0=>by simp[PT.mapO,PT.get]
 |.node v l r,j+1=>by
  simp only[PT.mapO,PT.get];split
  .exact PT.get_mapO g l _
  .exact PT.get_mapO g r _
theorem PT.get_updI {α:Type} (f:Nat->α->α):∀(t:PT α) (a b i:Nat),(PT.updI f a b t).get i=(t.get i).map (f (a*i+b))
 |.leaf,_,_,i=>by simp[PT.updI,PT.get]
 |.node v l r,a,b,0=>by cases v<;>simp[PT.updI,PT.get]
 |.node v l r,a,b,j+1=>by
  simp only[PT.updI,PT.get];split
  .rename_i hj;rw[PT.get_updI f l];have:2*a*(j/2)+(a+b)=a*(j+1)+b:=by
    have h2:j=2*(j/2):=by have:=ar hj;omega
    have s:2*a*(j/2)=a*j:=by rw[IB 2 a,Nat.mul_assoc,<-h2]
    rw[s,Nat.mul_add];omega
   rw[this]
  .rename_i hj;rw[PT.get_updI f r];have:2*a*(j/2)+(2*a+b)=a*(j+1)+b:=by
    have h1:j%2≠0:=λh=>hj (by rw[h];rfl)
    have h2:j=2*(j/2)+1:=by omega
    have s:2*a*(j/2)=a*(2*(j/2)):=by rw[IB 2 a,Nat.mul_assoc]
    have z:a*(j+1)=a*(2*(j/2))+2*a:=by
     conv=>lhs;rw[h2]
     rw[Nat.mul_add,Nat.mul_add];omega
    rw[s,z];omega
   rw[this]
theorem PT.bound {α:Type}:∀(t:PT α),∃B,∀i,B<=i->t.get i=D
 |.leaf=>⟨0,λi _=>rfl⟩
 |.node v l r=>by
  obtain⟨a,s⟩:=PT.bound l;obtain⟨b,hb⟩:=PT.bound r;refine ⟨2*(a+b)+3,λi hi=>?_⟩;cases i with
  |zero=>omega
  |succ j=>
   simp only[PT.get];split
   .exact s _ (by omega)
   .exact hb _ (by omega)
def PT.ofF {α:Type} (f:Nat->I α):Nat->PT α
 |0=>.leaf
 |n+1=>(PT.ofF f n).set n (f n)
theorem PT.get_ofF {α:Type} (f:Nat->I α):∀(n i:Nat),(PT.ofF f n).get i=if i<n then f i else D
 |0,i=>by simp[PT.ofF,PT.get]
 |n+1,i=>by
  rw[PT.ofF,PT.get_set,PT.get_ofF f n];by_cases h:i=n
  .subst h;simp
  .rw[aw h];by_cases h2:i<n
   .rw[aC h2,aC (by omega)]
   .rw[aw h2,aw (by omega)]
def nm (i:Nat):Nat:=2*i
def ow (n:Nat):Nat:=n/2
theorem d_ (i:Nat):ow (nm i)=i:=by unfold ow nm;omega
theorem lA {i j:Nat} (h:nm i=nm j):i=j:=by unfold nm at h;omega
def fM (p:Bool) (id sz n:Nat):AV:=if p&&n==0 then .emp else .row (nm id) sz n
mutual
def cA (h:bk):TV->I AV
 |.f T v=>M (.f (gL T v))
 |.fel T xs j _ off=>M (.f (.ptr (xs.flatMap (bX T)) (j.toNat*T.size+off)))
 |.pel id sz j off=>M (.ptr (nm id) (j.toNat*sz+off))
 |.ptr id off=>M (.ptr (nm id) off)
 |.csl id sz n=>M (.row (nm id) sz n)
 |.row id=>match eM h id with|some (p,sz,n)=>M (fM p id sz n)|none=>D
 |.rtl id j=>match eM h id with|some (_,sz,n)=>M (.sl (nm id) (j.toNat*sz) (n-j.toNat))|none=>D
 |.emp=>M .emp
 |.nil=>M (.f (.raw (.slice D 0 0)))
 |.mp id=>M (.mp (nm id))
 |.agg l=>match cP h l with|some l'=>M (.agg l')|none=>D
 |.tup l=>match cP h l with|some l'=>M (.tup l')|none=>D
 |.clo g l=>match cP h l with|some l'=>M (.clo g l')|none=>D
 |.undef=>M (.f (.raw undef))
 |.np=>M (.f (.raw (.pointer D)))
 |.anyb=>M .anyb
def cP (h:bk):Y TV->I (Y AV)
 |[]=>M []
 |x::r=>match cA h x with
  |some y=>(match cP h r with|some l=>M (y::l)|none=>D)
  |none=>D
end
def qw:(K:Ty)->K.den->Value
 |.int k,n=>.int k n
 |.str,s=>.string ⟨lj s⟩
 |_,_=>undef
def mpC:(K V:Ty)->Y (K.den×V.den)->BC
 |.st (.pr .str (.int .i64)),.un,es=>.it ⟨lj (Rl es)⟩ (PI es)
 |K,V,es=>.mp (es.map λp=>(qw K p.1,.f (gL V p.2)))
theorem zW {K V:Ty} {es:Y (K.den×V.den)} (h:VW K=J):mpC K V es= .mp (es.map λp=>(qw K p.1,.f (gL V p.2))):=by
 unfold mpC;split
 .cases h
 .rfl
theorem amc {K V:Ty} {es:Y (K.den×V.den)} {s:ζ} {p:Nat} (h:itE K V es=M (s,p)):mpC K V es= .it ⟨lj s⟩ p:=by
 unfold itE at h;split at h
 .cases h;rfl
 .cases h
def pj:Nat->Y AV->Y (Value×AV)
 |_,[]=>[]
 |i,v::r=>(.int .i64 (aM i),v)::pj (i+1) r
theorem DI:∀(l:Y AV) (i j:Nat),(pj i l)[j]? =(l[j]?).map λv=>(.int .i64 (aM (i+j)),v)
 |[],i,j=>rfl
 |v::r,i,0=>rfl
 |v::r,i,j+1=>by
  rw[pj,List.getElem?_cons_succ,DI r (i+1) j,show i+1+j=i+(j+1) from by omega];rfl
theorem Fy (k:Value):∀(l:Y AV) (i:Nat),k∈(pj i l).map (·.1)->xm k
 |v::r,i,h=>by
  rcases bm.1 h with h|h
  .exact⟨_,h⟩
  .exact Fy k r (i+1) h
theorem N7:∀(l:Y AV) (i:Nat),(pj i l).map (·.2)=l
 |[],_=>rfl
 |v::r,i=>by rw[pj,eV,N7 r (i+1)]
theorem R9 (f:AV->AV):∀(l:Y AV) (i:Nat),(pj i l).map (λp=>(p.1,f p.2))=pj i (l.map f)
 |[],_=>rfl
 |v::r,i=>by rw[pj,eV,R9 f r (i+1)];rfl
theorem N8:∀(l:Y AV) (i n:Nat),told (aM (i+n)) (pj i l)=l[n]?
 |[],i,n=>rfl
 |v::r,i,0=>by rw[pj,told,dt,aC rfl];rfl
 |v::r,i,n+1=>by
  rw[pj,told,aw (λe=>by have:=Int.ofNat.inj e;omega),show i+(n+1)=i+1+n from by omega,N8 r (i+1) n];rfl
theorem N9 (y:AV) (n:Int):∀(l:Y AV) (i:Nat),n<aM i->me n y (pj i l)=pj i l
 |[],i,_=>rfl
 |v::r,i,h=>by
  simp only[pj,me];rw[N9 y n r (i+1) (Int.lt_trans h (Int.ofNat_lt.2 (rE i))),aw (λe=>by rw[e]at h;exact Int.lt_irrefl _ h)]
theorem R8 (y:AV):∀(l:Y AV) (i n:Nat),me (aM (i+n)) y (pj i l)=pj i (l.set n y)
 |[],i,n=>rfl
 |v::r,i,0=>by
  simp only[pj,me,dt,List.set_cons_zero];rw[N9 y (aM i) r (i+1) (Int.ofNat_lt.2 (rE i)),aC trivial]
 |v::r,i,n+1=>by
  simp only[pj,me,List.set_cons_succ];rw[aw (λe=>by have:=Int.ofNat.inj e;omega),show i+(n+1)=i+1+n from by omega,R8 y r (i+1) n]
theorem Zn {ty:TypeId} {es:Y (Value×AV)} {ents:Array MapEntry} (f:AV->AV):Zo ty (es.map λp=>(p.1,f p.2)) ents=Zo ty es ents:=by unfold Zo;rw[IC];rfl
theorem Vr {α:Type} {l:Y α} {n:Nat} {x:α} (h:n<l.length):splice l n [x]=l.set n x:=by
 rw[List.set_eq_take_append_cons_drop,aC h];simp[splice]
def jN (h:bk):iB->I wK
 |.rows ty p T xs=>if p&&xs.length==0 then D else M ⟨ty,.fz (xs.flatMap (bX T))⟩
 |.cells (M ty) l=>match cP h l with|some a=>M ⟨ty,.mx a⟩|none=>D
 |.cells D l=>match cP h l with|some a=>M ⟨1,.mp (pj 0 a)⟩|none=>D
 |.dead _ _ _=>D
 |.mp K V es=>M ⟨0,mpC K V es⟩
def fV (e:jd) (h:bk):EF:=λt=>(e.get t).bind (cA h)
def bz (h:bk):HF:=λn=>if n%2=0 then (h.get (n/2)).bind (jN h) else D
theorem bH (h:bk) (i:Nat):bz h (nm i)=(h.get i).bind (jN h):=by
 unfold bz nm;rw[aC (by omega),show 2*i/2=i from by omega]
theorem jM {h:bk} {n:Nat} {b:wK} (hb:bz h n=M b):∃i c,n=nm i/\h.get i=M c/\jN h c=M b:=by
 unfold bz at hb;split at hb
 .cases hc:h.get (n/2) with
  |none=>rw[hc]at hb;cases hb
  |some c=>rw[hc]at hb;exact⟨n/2,c,by unfold nm;omega,hc,hb⟩
 .cases hb
def Kz (e:jd) (h:bk):AJ:=PT.mapO (cA h) e
theorem v8 (e:jd) (h:bk):(Kz e h).get=fV e h:=by funext t;exact PT.get_mapO _ _ _
theorem j7 (h:bk):∃H:oL,H.get=bz h:=by
 obtain⟨B,a⟩:=PT.bound h;refine ⟨PT.ofF (bz h) (2*B),?_⟩;funext n;rw[PT.get_ofF];split
 .rfl
 .unfold bz;split
  .rw[a _ (by omega)];rfl
  .rfl
theorem dg {h:bk} {x:TV} {r:Y TV} {l:Y AV} (he:cP h (x::r)=M l):∃y a,l=y::a/\cA h x=M y/\cP h r=M a:=by
 simp only[cP]at he;split at he
 .rename_i y s;split at he
  .rename_i a hl;simp only[ah]at he;exact⟨y,a,he.symm,s,hl⟩
  .cases he
 .cases he
theorem pD {h:bk} {x:TV} {r:Y TV} {y:AV} {a:Y AV} (h1:cA h x=M y) (h2:cP h r=M a):cP h (x::r)=M (y::a):=by
 simp only[cP,h1,h2]
theorem gU {h:bk}:∀{l:Y TV} {a:Y AV},cP h l=M a->a.length=l.length
 |[],a,he=>by simp only[cP,ah]at he;subst he;rfl
 |x::r,a,he=>by
  obtain⟨y,l2,rfl,_,h2⟩:=dg he;simp[gU h2]
theorem oa {h:bk}:∀{a b:Y TV} {a' b':Y AV},cP h a=M a'->cP h b=M b'->cP h (a++b)=M (a'++b')
 |[],b,a',b',s,hb=>by simp only[cP,ah]at s;subst s;exact hb
 |x::r,b,a',b',s,hb=>by
  obtain⟨y,l2,rfl,h1,h2⟩:=dg s;exact pD h1 (oa h2 hb)
theorem CR {h:bk}:∀{a b:Y TV} {l:Y AV},cP h (a++b)=M l->∃a' b',l=a'++b'/\cP h a=M a'/\cP h b=M b'
 |[],b,l,he=>⟨[],l,rfl,rfl,he⟩
 |x::r,b,l,he=>by
  obtain⟨y,l2,rfl,h1,h2⟩:=dg he;obtain⟨a',b',rfl,z,s⟩:=CR h2;exact⟨y::a',b',rfl,pD h1 z,s⟩
theorem FY {h:bk}:∀{l:Y TV} {a:Y AV} (n:Nat),cP h l=M a->cP h (l.take n)=M (a.take n)
 |[],a,n,he=>by simp only[cP,ah]at he;subst he;simp[cP]
 |x::r,a,n,he=>by
  obtain⟨y,l2,rfl,h1,h2⟩:=dg he;cases n with
  |zero=>simp[cP]
  |succ n=>exact pD h1 (FY n h2)
theorem F0 {h:bk}:∀{l:Y TV} {a:Y AV} (n:Nat),cP h l=M a->cP h (l.drop n)=M (a.drop n)
 |[],a,n,he=>by simp only[cP,ah]at he;subst he;simp[cP]
 |x::r,a,n,he=>by
  obtain⟨y,l2,rfl,h1,h2⟩:=dg he;cases n with
  |zero=>exact he
  |succ n=>simpa using F0 n h2
theorem qy {h:bk} {l vs:Y TV} {a vs':Y AV} (off:Nat) (h1:cP h l=M a) (h2:cP h vs=M vs'):cP h (splice l off vs)=M (splice a off vs'):=by
 unfold splice;rw[gU h2];exact oa (oa (FY _ h1) h2) (F0 _ h1)
theorem lK {h:bk}:∀{l:Y TV} {a:Y AV},cP h l=M a->∀(j:Nat) x,l[j]? =M x->∃y,a[j]? =M y/\cA h x=M y
 |[],a,he,j,x,A=>by simp at A
 |x::r,a,he,j,z,s=>by
  obtain⟨y,l2,rfl,h1,h2⟩:=dg he;cases j with
  |zero=>simp at s;subst s;exact⟨y,rfl,h1⟩
  |succ j=>simpa using lK h2 j z (by simpa using s)
mutual
theorem pI (h:bk):∀(u:TV),Mx h u=J->∃y,cA h u=M y
 |.f _ _,_=>⟨_,rfl⟩
 |.fel _ _ _ _ _,_=>⟨_,rfl⟩
 |.pel _ _ _ _,_=>⟨_,rfl⟩
 |.ptr _ _,_=>⟨_,rfl⟩
 |.csl _ _ _,_=>⟨_,rfl⟩
 |.row id,he=>by
  simp only[Mx]at he;cases hr:eM h id with
  |none=>rw[hr]at he;cases he
  |some r=>obtain⟨p,sz,n⟩:=r;exact⟨_,by simp only[cA,hr];rfl⟩
 |.rtl id jj,he=>by
  simp only[Mx]at he;cases hr:eM h id with
  |none=>rw[hr]at he;cases he
  |some r=>obtain⟨p,sz,n⟩:=r;exact⟨_,by simp only[cA,hr];rfl⟩
 |.emp,_=>⟨_,rfl⟩
 |.nil,_=>⟨_,rfl⟩
 |.mp _,_=>⟨_,rfl⟩
 |.agg l,he=>by obtain⟨y,hy⟩:=fx h l he;exact⟨_,by simp only[cA,hy];rfl⟩
 |.tup l,he=>by obtain⟨y,hy⟩:=fx h l he;exact⟨_,by simp only[cA,hy];rfl⟩
 |.clo g l,he=>by obtain⟨y,hy⟩:=fx h l he;exact⟨_,by simp only[cA,hy];rfl⟩
 |.undef,_=>⟨_,rfl⟩
 |.np,_=>⟨_,rfl⟩
 |.anyb,_=>⟨_,rfl⟩
theorem fx (h:bk):∀(l:Y TV),lz h l=J->∃l',cP h l=M l'
 |[],_=>⟨[],rfl⟩
 |x::r,he=>by
  simp only[lz,al]at he;obtain⟨y,hy⟩:=pI h x he.1;obtain⟨l',hl⟩:=fx h r he.2;exact⟨_,pD hy hl⟩
end
def ch (h h':bk):Prop:=∀id r,eM h id=M r->eM h' id=M r
mutual
theorem gC {h h':bk} (hk:ch h h'):∀(u:TV) (y:AV),cA h u=M y->cA h' u=M y
 |.f _ _,y,he=>he
 |.fel _ _ _ _ _,y,he=>he
 |.pel _ _ _ _,y,he=>he
 |.ptr _ _,y,he=>he
 |.csl _ _ _,y,he=>he
 |.row id,y,he=>by
  simp only[cA]at he ⊢;split at he
  .rename_i p sz n hr;rw[hk _ _ hr];exact he
  .cases he
 |.rtl id jj,y,he=>by
  simp only[cA]at he ⊢;split at he
  .rename_i p sz n hr;rw[hk _ _ hr];exact he
  .cases he
 |.emp,y,he=>he
 |.nil,y,he=>he
 |.mp _,y,he=>he
 |.agg l,y,he=>by
  simp only[cA]at he ⊢;split at he
  .rename_i l' hl;rw[gy hk l l' hl];exact he
  .cases he
 |.tup l,y,he=>by
  simp only[cA]at he ⊢;split at he
  .rename_i l' hl;rw[gy hk l l' hl];exact he
  .cases he
 |.clo g l,y,he=>by
  simp only[cA]at he ⊢;split at he
  .rename_i l' hl;rw[gy hk l l' hl];exact he
  .cases he
 |.undef,y,he=>he
 |.np,y,he=>he
 |.anyb,y,he=>he
theorem gy {h h':bk} (hk:ch h h'):∀(l:Y TV) (l':Y AV),cP h l=M l'->cP h' l=M l'
 |[],l',he=>he
 |x::r,l',he=>by
  obtain⟨y,l2,rfl,h1,h2⟩:=dg he;exact pD (gC hk x y h1) (gy hk r l2 h2)
end
mutual
theorem nC {h h':bk} (hk:ch h h'):∀(u:TV),Mx h u=J->Mx h' u=J
 |.f _ _,_=>rfl
 |.fel _ _ _ _ _,_=>rfl
 |.pel _ _ _ _,_=>rfl
 |.ptr _ _,_=>rfl
 |.csl _ _ _,_=>rfl
 |.row id,he=>by
  simp only[Mx]at he ⊢;cases hr:eM h id with
  |none=>rw[hr]at he;cases he
  |some r=>rw[hk _ _ hr];rfl
 |.rtl id jj,he=>by
  simp only[Mx]at he ⊢;cases hr:eM h id with
  |none=>rw[hr]at he;cases he
  |some r=>rw[hk _ _ hr];rfl
 |.emp,_=>rfl
 |.nil,_=>rfl
 |.mp _,_=>rfl
 |.agg l,he=>jm hk l he
 |.tup l,he=>jm hk l he
 |.clo g l,he=>jm hk l he
 |.undef,_=>rfl
 |.np,_=>rfl
 |.anyb,_=>rfl
theorem jm {h h':bk} (hk:ch h h'):∀(l:Y TV),lz h l=J->lz h' l=J
 |[],_=>rfl
 |x::r,he=>by
  simp only[lz,al]at he ⊢;exact⟨nC hk x he.1,jm hk r he.2⟩
end
mutual
theorem FX (h:bk):∀(u:TV) (y:AV),cA h u=M y->Mx h u=J
 |.f _ _,_,_=>rfl
 |.fel _ _ _ _ _,_,_=>rfl
 |.pel _ _ _ _,_,_=>rfl
 |.ptr _ _,_,_=>rfl
 |.csl _ _ _,_,_=>rfl
 |.row id,y,he=>by
  simp only[Mx,cA]at he ⊢;cases hr:eM h id with
  |none=>rw[hr]at he;cases he
  |some r=>rfl
 |.rtl id jj,y,he=>by
  simp only[Mx,cA]at he ⊢;cases hr:eM h id with
  |none=>rw[hr]at he;cases he
  |some r=>rfl
 |.emp,_,_=>rfl
 |.nil,_,_=>rfl
 |.mp _,_,_=>rfl
 |.agg l,y,he=>by
  simp only[cA]at he;split at he
  .rename_i l' hl;exact kh h l l' hl
  .cases he
 |.tup l,y,he=>by
  simp only[cA]at he;split at he
  .rename_i l' hl;exact kh h l l' hl
  .cases he
 |.clo g l,y,he=>by
  simp only[cA]at he;split at he
  .rename_i l' hl;exact kh h l l' hl
  .cases he
 |.undef,_,_=>rfl
 |.np,_,_=>rfl
 |.anyb,_,_=>rfl
theorem kh (h:bk):∀(l:Y TV) (l':Y AV),cP h l=M l'->lz h l=J
 |[],_,_=>rfl
 |x::r,l',he=>by
  obtain⟨y,l2,rfl,h1,h2⟩:=dg he;simp only[lz,al];exact⟨FX h x y h1,kh h r l2 h2⟩
end
mutual
theorem Tf (h h':bk):∀(u:TV),uY u=J->cA h u=cA h' u
 |.f _ _,_=>rfl
 |.fel _ _ _ _ _,_=>rfl
 |.pel _ _ _ _,_=>rfl
 |.ptr _ _,_=>rfl
 |.csl _ _ _,_=>rfl
 |.row id,he=>by cases he
 |.emp,_=>rfl
 |.nil,_=>rfl
 |.mp _,_=>rfl
 |.agg l,he=>by simp only[cA];rw[FZ h h' l he]
 |.tup l,he=>by simp only[cA];rw[FZ h h' l he]
 |.clo g l,he=>by cases he
 |.undef,_=>rfl
 |.np,_=>rfl
 |.anyb,_=>rfl
theorem FZ (h h':bk):∀(l:Y TV),rf l=J->cP h l=cP h' l
 |[],_=>rfl
 |x::r,he=>by
  simp only[rf,al]at he;simp only[cP];rw[Tf h h' x he.1,FZ h h' r he.2]
end
theorem PK {h:bk} {u:TV} {y:AV} (he:cA h u=M y) (hc:u.isC=J):y.isCell=J:=by
 cases u with
 |f T v=>cases T<;>simp only[cA,ah]at he<;>subst he<;>first|rfl|(simp [TV.isC,Ty.one]at hc)
 |fel T xs j hj off=>simp only[cA,ah]at he;subst he;rfl
 |pel id sz j off=>simp only[cA,ah]at he;subst he;rfl
 |ptr id off=>simp only[cA,ah]at he;subst he;rfl
 |csl id off z=>simp only[cA,ah]at he;subst he;rfl
 |row id=>
  simp only[cA]at he;split at he
  .simp only[ah]at he;subst he;unfold fM;split<;>rfl
  .cases he
 |rtl id a=>cases hc
 |emp=>simp only[cA,ah]at he;subst he;rfl
 |nil=>simp only[cA,ah]at he;subst he;rfl
 |mp id=>simp only[cA,ah]at he;subst he;rfl
 |agg l=>cases hc
 |tup l=>cases hc
 |clo g l=>
  simp only[cA]at he;split at he
  .simp only[ah]at he;subst he;rfl
  .cases he
 |undef=>cases hc
 |np=>simp only[cA,ah]at he;subst he;rfl
 |anyb=>cases hc
theorem sU {h:bk}:∀{l:Y TV} {a:Y AV},cP h l=M a->kV l=J->gX a=J
 |[],a,he,_=>by simp only[cP,ah]at he;subst he;rfl
 |x::r,a,he,hc=>by
  obtain⟨y,l2,rfl,h1,h2⟩:=dg he;simp only[kV,al]at hc;simp only[gX,al];exact⟨PK h1 hc.1,sU h2 hc.2⟩
def Le (x y:AV):Prop:=∀(φ:PM) (O:Nat->Prop) (w:World) (v:Value),cS φ O w x v->cS φ O w y v
theorem Le.refl (x:AV):Le x x:=λ_ _ _ _ h=>h
def ma (H H':HF) (x y:AV):Prop:=∀(φ:PM) (E:Nat->Prop) (w:World) (v:Value),rL φ E H w->cS φ (tot E φ H) w x v->cS φ (tot E φ H') w y v
def vK (H H':HF):Prop:=∀i b,H' i=M b->∃b0,H i=M b0
theorem vK.refl (H:HF):vK H H:=λ_ b h=>⟨b,h⟩
theorem vK.own {H H':HF} (d:vK H H') {φ:PM} {k:Nat} (h:own φ H' k):own φ H k:=by
 obtain⟨i,b,h1,h2⟩:=h;obtain⟨b0,a⟩:=d i b h1;exact⟨i,b0,a,h2⟩
theorem vK.tot {H H':HF} (d:vK H H') {E:Nat->Prop} {φ:PM} {k:Nat} (h:tot E φ H' k):tot E φ H k:=h.imp id d.own
theorem cS.dom {H H':HF} (d:vK H H') {φ:PM} {E:Nat->Prop} {w:World} {x:AV} {v:Value} (h:cS φ (tot E φ H) w x v):cS φ (tot E φ H') w x v:=
 h.ext (λ_ _ h=>h) (Ja.refl _ w) λ_ _ hk=>d.tot hk
theorem oe.dom {H H':HF} (d:vK H H') {φ:PM} {E:Nat->Prop} {w:World} {x:FV} {v:Value} (h:oe (tot E φ H) w x v):oe (tot E φ H') w x v:=
 h.ext (Ja.refl _ w) λ_ _ hk=>d.tot hk
theorem Le.toH {H H':HF} (d:vK H H') {x y:AV} (h:Le x y):ma H H' x y:=λφ E w v _ hr=>(h _ _ _ _ hr).dom d
theorem ma.refl {H H':HF} (d:vK H H') (x:AV):ma H H' x x:=(Le.refl x).toH d
def il (H H':HF):Y AV->Y AV->Prop
 |[],[]=>True
 |x::xs,y::a=>ma H H' x y/\il H H' xs a
 |_,_=>False
theorem il.refl {H H':HF} (d:vK H H'):∀l,il H H' l l
 |[]=>trivial
 |x::r=>⟨ma.refl d x,il.refl d r⟩
theorem il.length {H H':HF}:∀{l a:Y AV},il H H' l a->a.length=l.length
 |[],[],_=>rfl
 |[],_::_,h=>h.elim
 |_::_,[],h=>h.elim
 |_::_,_::_,h=>by simp[il.length h.2]
theorem il.get {H H':HF}:∀{l s:Y AV},il H H' l s->∀(j:Nat) y,s[j]? =M y->∃x,l[j]? =M x/\ma H H' x y
 |[],[],_,j,y,a=>by simp at a
 |[],_::_,h,_,_,_=>h.elim
 |_::_,[],h,_,_,_=>h.elim
 |x::xs,z::ys,h,j,y,a=>by
  cases j with
  |zero=>simp at a;subst a;exact⟨x,rfl,h.1⟩
  |succ j=>simpa using il.get h.2 j y (by simpa using a)
theorem il.append {H H':HF}:∀{a a' b b':Y AV},il H H' a a'->il H H' b b'->il H H' (a++b) (a'++b')
 |[],[],_,_,_,h=>h
 |[],_::_,_,_,h,_=>h.elim
 |_::_,[],_,_,h,_=>h.elim
 |_::_,_::_,_,_,h,h'=>⟨h.1,il.append h.2 h'⟩
theorem il.take {H H':HF}:∀{a a':Y AV} (n:Nat),il H H' a a'->il H H' (a.take n) (a'.take n)
 |[],[],n,_=>by simp[il]
 |[],_::_,_,h=>h.elim
 |_::_,[],_,h=>h.elim
 |_::_,_::_,0,_=>trivial
 |_::_,_::_,n+1,h=>⟨h.1,il.take n h.2⟩
theorem il.drop {H H':HF}:∀{a a':Y AV} (n:Nat),il H H' a a'->il H H' (a.drop n) (a'.drop n)
 |[],[],n,_=>by simp[il]
 |[],_::_,_,h=>h.elim
 |_::_,[],_,h=>h.elim
 |_::_,_::_,0,h=>h
 |_::_,_::_,n+1,h=>il.drop n h.2
theorem il.splice {H H':HF} {a a' b b':Y AV} (off:Nat) (h1:il H H' a a') (h2:il H H' b b'):il H H' (splice a off b) (splice a' off b'):=by
 unfold AI.splice;rw[h2.length];exact ((h1.take off).append h2).append (h1.drop _)
def iS (H H':HF) (b b':wK):Prop:=∀(φ:PM) (E:Nat->Prop) (w:World) (o:Obj),rL φ E H w->js φ (tot E φ H) w b o->js φ (tot E φ H') w b' o
theorem iS.refl {H H':HF} (d:vK H H') (b:wK):iS H H' b b:=λ_ _ _ _ _ h=>h.mono λ_ _ h=>h.dom d
theorem qj {φ:PM} {O:Nat->Prop} {w:World} {ty:TypeId} {c:BC} {o:Obj} (hc:c.isCells=J):js φ O w ⟨ty,c⟩ o↔∃arr,o= .cells arr ty (0,0)/\wq φ O w c arr:=by
 unfold js;cases c<;>simp[BC.isCells]at hc<;>rfl
theorem iS.cells {H H':HF} {ty:TypeId} {c c':BC} (hc:c.isCells=J) (a:c'.isCells=J) (hl:il H H' c.toMx c'.toMx) (hcell:∀x∈c'.toMx,x.isCell=J):iS H H' ⟨ty,c⟩ ⟨ty,c'⟩:=by
 intro φ E w o hrep z;rw[qj hc]at z;rw[qj a];obtain⟨arr,h1,h2,Z⟩:=z;refine ⟨arr,h1,by rw[BC.len_toMx a,hl.length,<-BC.len_toMx hc];exact h2,λj x s=>?_⟩;rw[BC.get_toMx a]at s;refine ⟨hcell x (aZ s),?_⟩;obtain⟨y,A,hle⟩:=hl.get j x s;obtain⟨_,v,U,L⟩:=Z j y (by rw[BC.get_toMx hc];exact A);exact⟨v,U,hle _ _ _ _ hrep L⟩
def Y9 (ty:I TypeId) (l:Y AV):wK:=match ty with
 |some ty=>⟨ty,.mx l⟩
 |none=>⟨1,.mp (pj 0 l)⟩
theorem anj {es:Y (Value×AV)} {ents:Array MapEntry}:Zo 1 es ents↔(∀m∈ents.toList,xm m.key)/\∀k∈es.map (·.1),xm k:=by
 unfold Zo;rw[aw (by decide)]
theorem MpV1 {ents:Array MapEntry} {j:Nat} {k v:Value}:MpV 1 ents j k v↔v=kK k ents.toList:=by
 unfold MpV;rw[aw (by decide)]
theorem iS.told {H H':HF} {l s:Y AV} (hl:il H H' l s):iS H H' ⟨1,.mp (pj 0 l)⟩ ⟨1,.mp (pj 0 s)⟩:=by
 intro φ E w o hrep L;obtain⟨ents,clock,h1,h2,h3⟩:=L;refine ⟨ents,clock,h1,anj.2 ⟨(anj.1 h2).1,λk hk=>Fy k _ _ hk⟩,λj x a=>?_⟩;rw[DI]at a;cases hj:s[j]? with
 |none=>rw[hj]at a;cases a
 |some y=>
  rw[hj]at a;cases a;obtain⟨z,A,hle⟩:=hl.get j y hj;obtain⟨v,Z,U⟩:=h3 j _ (by rw[DI,A];rfl);exact⟨v,Z,hle _ _ _ _ hrep U⟩
theorem iS.lay {H H':HF} (n:Nat):iS H H' ⟨0,.mp []⟩ ⟨1,.mp (pj 0 (aA n (.f (.raw (.slice D 0 0)))))⟩:=by
 intro φ E w o hrep z;obtain⟨ents,clock,h1,h2,A⟩:=z;have h2:ents.toList.map (·.key)=[]:=by unfold Zo at h2;rw[aC rfl]at h2;exact h2
 have s:ents.toList=[]:=List.map_eq_nil_iff.1 h2;refine ⟨ents,clock,h1,anj.2 ⟨λm hm=>(by rw[s]at hm;cases hm),λk hk=>Fy k _ _ hk⟩,λj x a=>?_⟩;rw[DI]at a;cases hj:(aA n (AV.f (.raw (.slice D 0 0))))[j]? with
 |none=>rw[hj]at a;cases a
 |some y=>
  rw[hj]at a;cases a;have hm:=aZ hj;rw[List.mem_replicate]at hm;obtain⟨_,rfl⟩:=hm;exact⟨_,MpV1.2 rfl,by rw[s];exact .f (.raw _)⟩
theorem iS.eq {H H':HF} (d:vK H H') {ty:TypeId} {c c':BC} (hc:c.isCells=J) (a:c'.isCells=J) (hl:c.toMx=c'.toMx):iS H H' ⟨ty,c⟩ ⟨ty,c'⟩:=by
 intro φ E w o hrep z;rw[qj hc]at z;rw[qj a];obtain⟨arr,h1,h2,Z⟩:=z;refine ⟨arr,h1,by rw[BC.len_toMx a,<-hl,<-BC.len_toMx hc];exact h2,λj x s=>?_⟩;rw[BC.get_toMx a,<-hl,<-BC.get_toMx hc]at s;obtain⟨U,v,L,A⟩:=Z j x s;exact⟨U,v,L,A.dom d⟩
structure Is (H H':HF):Prop where
 dom:vK H H'
 blk:∀i b b',H i=M b->H' i=M b'->iS H H' b b'
theorem Is.refl (H:HF):Is H H:=⟨vK.refl H,λi b b' h h'=>by rw[h]at h';cases h';exact iS.refl (vK.refl H) b⟩
theorem Is.rep {H H':HF} (V:Is H H') {φ:PM} {E:Nat->Prop} {w:World} (r:rL φ E H w):rL φ E H' w:=by
 refine ⟨λi j b b' k s U L A=>?_,λi b s=>?_,r.el,λg cells hg=>(r.gl g cells hg).dom V.dom⟩
 .obtain⟨b0,a⟩:=V.dom i b s;obtain⟨b1,z⟩:=V.dom j b' U;exact r.inj i j b0 b1 k a z L A
 .obtain⟨b0,a⟩:=V.dom i b s;obtain⟨k,p1,p2,ob,p3,p4⟩:=r.at_ i b0 a;exact⟨k,p1,p2,ob,p3,V.blk i b0 b a s φ E w ob r p4⟩
theorem gZ.view {P:Program} {o:Oper} {e:EF} {h:HF} {val val':AV} {rd wr wr' N:ι} {nw nw':HF} (ht:gZ P o e h ⟨val,rd,wr,nw,N⟩) (hsub:∀i∈wr,i∈wr'\/i∈rd)
 (hv:∀h':HF,(∀i∈rd,h' i=h i)->(∀i∈wr',h' i=h i)->Is (eZ h' wr nw) (eZ h' wr' nw')/\ma (eZ h' wr nw) (eZ h' wr' nw') val val'):gZ P o e h ⟨val',rd,wr',nw',N⟩:=by
 intro φ E h' w a h1 h2 Z U L;have z:=ht φ E h' w a h1 (λi hi=>(hsub i hi).elim (h2 i) (h1 i)) Z U L;obtain⟨V,hle⟩:=hv h' h1 h2;refine Rp ?_ z;rintro a' w' ⟨v,φ',rfl,mv,nm',s,rel⟩;exact⟨v,φ',rfl,⟨mv.sub,mv.ext,λk hk A=>mv.own_ k hk (V.dom.own A)⟩,nm',V.rep s,hle _ _ _ _ s rel⟩
theorem Le.nil:Le (.f (.raw (.slice D 0 0))) (.f (.sl [] 0)):=by
 intro φ O w v hr;cases hr with
 |f hr=>cases hr;exact .f (.nil D 0 (by unfold maxLen;omega))
theorem Le.emp:Le .emp (.f (.sl [] 0)):=by
 intro φ O w v hr;cases hr with
 |emp=>exact .f (.nil _ 0 (by unfold maxLen;omega))
theorem Le.nilEmp:Le (.f (.raw (.slice D 0 0))) .emp:=by
 intro φ O w v hr;cases hr with
 |f hr=>cases hr;exact .emp
theorem Le.aggF {l:Y FV}:Le (.f (.agg l)) (.agg (l.map .f)):=by
 intro φ O w v hr;cases hr with
 |f hr=>
  cases hr with
  |agg _ vs hl hcl hrr=>
   refine .agg (by simp[hl]) (λx a=>?_) λj x u a hu=>?_
   .obtain⟨y,s,rfl⟩:=du.1 a;exact hcl y s
   .rw[bd]at a;cases hc:l[j]? with
    |none=>rw[hc]at a;cases a
    |some y=>rw[hc]at a;simp at a;subst a;exact .f (hrr j y u hc hu)
theorem ads (l:Y AV):Le (NZ l) (.agg l):=by
 unfold NZ;split
 .rename_i fs h;rw[qA h];exact Le.aggF
 .exact Le.refl _
theorem ma.aggL {H H':HF} {l:Y AV} {a:Y FV} (h:il H H' l (a.map .f)) (hc:∀x∈a,x.isCell=J):ma H H' (.agg l) (.f (.agg a)):=by
 intro φ E w v hrep hr;cases hr with
 |@agg _ vs hl hcl hrr=>
  refine .f (.agg a vs (by rw[hl,<-h.length];simp) hc λj y u s hu=>?_);obtain⟨x,z,hle⟩:=h.get j (.f y) (by rw[bd,s];rfl);have:=hle φ E w u hrep (hrr j x u z hu);cases this with
  |f h=>exact h
theorem ma.row {H H':HF} (d:vK H H') {id sz n:Nat} {ty:TypeId} {cells:Y FV} (h1:H id=M ⟨ty,.fz cells⟩) (h2:H' id=D) (hl:cells.length=n*sz):ma H H' (.row id sz n) (.f (.sl cells n)):=by
 intro φ E w v r hr;cases hr with
 |@row _ _ _ c k hφ hn hcap hsh=>
  obtain⟨k',A,L,_⟩:=r.at_ id _ h1;rw[hφ]at A;cases A;obtain⟨arr,p1,p2,p3⟩:=r.cs h1 hφ rfl;have hk:k<w.heap.size:=(cH.1 p1).1;have hlen:cells.length<=arr.size:=by simpa[BC.toMx] using p3
  have hnk:¬tot E φ H' k:=by
   rintro (U|⟨j,b,s,z⟩)
   .exact L U
   .obtain⟨b0,Z⟩:=d j b s;have:=r.inj j id b0 _ k Z h1 z hφ;subst this;rw[h2]at s;cases s
  have hget:∀(j:Nat) x,cells[j]? =M x->∃u,arr[j]? =M u/\oe (tot E φ H) w x u:=λj x a=>by
   have hj:j<cells.length:=(bn.1 a).1;have hja:j<arr.size:=by omega
   refine ⟨arr[j],by simp[hja],?_⟩;have:=p2.2.2 j (.f x) arr[j] (by simp[BC.toMx,a]) (by
    rw[cW,aC (by simpa[BC.toMx] using hj),cD];simp[hja])
   cases this with
   |f h=>exact h
  refine .f (.sl cells n c k 0 (λj=>(arr[j]?).getD undef) hn hcap hnk hk (λx a=>?_) (λj hj=>?_) (λj x a=>?_))
  .have:=p2.2.1 (.f x) (by simp only[BC.toMx];exact du.2 ⟨x,a,rfl⟩);exact this
  .have:j<arr.size:=by omega
   simp[O5,p1,this]
  .obtain⟨u,s,z⟩:=hget j x a;rw[s];exact z.dom d
theorem tu:∀l:Y Xp,KH l=l.flatMap xu
 |[]=>rfl
 |x::r=>by rw[KH,tu r];rfl
theorem An:∀l:Y Sx,KF l=l.flatMap y_
 |[]=>rfl
 |x::r=>by rw[KF,An r];rfl
theorem KE (e:Xp):bX Oj (Pb e)=xu e:=by
 cases e with
 |mk op n name l=>simp only[Oj,Pb,bX,xu,Xp.op,Xp.n,Xp.name,Xp.l,tu];rfl
theorem Tl (x:Oj.den):xu (eC x)=bX Oj x:=by
 simp only[Oj,eC,bX,xu,tu];rfl
theorem KC (e:Sx):bX NL (Pa e)=y_ e:=by
 cases e with
 |mk op line name arg index expr body els=>simp only[NL,Pa,bX,y_,Sx.op,Sx.line,Sx.name,Sx.arg,Sx.index,Sx.expr,Sx.body,Sx.els,tu,An];rfl
theorem Tk (x:NL.den):y_ (oz x)=bX NL x:=by
 simp only[NL,oz,bX,y_,tu,An];rfl
theorem yz (e:Xp):(xu e).length=4:=by cases e;simp[xu]
theorem D9 (e:Sx):(y_ e).length=11:=by cases e;simp[y_,yz]
theorem bD:∀(T:Ty) (v:T.den),(bX T v).length=T.size
 |.int _,_=>rfl
 |.bool,_=>rfl
 |.str,_=>rfl
 |.sl _,_=>rfl
 |.st t,v=>bD t v
 |.pr a b,v=>by simp[bX,Ty.size,bD a,bD b]
 |.un,_=>rfl
 |.ex,v=>yz v
 |.sm,v=>D9 v
theorem KI (e:Xp):∀x∈xu e,x.isCell=J:=by
 cases e with
 |mk op n name l=>
  intro x a;simp only[xu,bm,cF,gu]at a;rcases a with rfl|rfl|rfl|rfl<;>rfl
theorem WL (e:Sx):∀x∈y_ e,x.isCell=J:=by
 cases e with
 |mk op line name arg index expr body els=>
  intro x a;simp only[y_,bG,bm,cF,gu]at a;rcases a with (a|a)|a
  .rcases a with rfl|rfl|rfl|rfl|rfl<;>rfl
  .exact KI _ _ a
  .rcases a with rfl|rfl<;>rfl
theorem oH:∀(T:Ty) (v:T.den),∀x∈bX T v,x.isCell=J
 |.int _,_,x,s=>by simp only[bX,aI]at s;subst s;rfl
 |.bool,_,x,s=>by simp only[bX,aI]at s;subst s;rfl
 |.str,_,x,s=>by simp only[bX,aI]at s;subst s;rfl
 |.sl _,_,x,s=>by simp only[bX,aI]at s;subst s;rfl
 |.st t,v,x,s=>oH t v x s
 |.pr a b,v,x,s=>by
  simp only[bX,bG]at s;exact s.elim (oH a v.1 x) (oH b v.2 x)
 |.un,_,x,s=>by simp[bX]at s
 |.ex,v,x,s=>KI v x s
 |.sm,v,x,s=>WL v x s
theorem D_:∀(T:Ty) (v:T.den),T.one=J->bX T v=[gL T v]/\T.size=1
 |.int _,_,_=>⟨rfl,rfl⟩
 |.bool,_,_=>⟨rfl,rfl⟩
 |.str,_,_=>⟨rfl,rfl⟩
 |.sl _,_,_=>⟨rfl,rfl⟩
 |.st _,_,h=>by cases h
 |.pr _ _,_,h=>by cases h
 |.un,_,h=>by cases h
 |.ex,_,h=>by cases h
 |.sm,_,h=>by cases h
theorem rn:∀(T:Ty) (v:T.den),T.one=af->gL T v= .agg (bX T v)
 |.int _,_,h=>by cases h
 |.bool,_,h=>by cases h
 |.str,_,h=>by cases h
 |.sl _,_,h=>by cases h
 |.st _,_,_=>rfl
 |.pr _ _,_,_=>rfl
 |.un,_,_=>rfl
 |.ex,_,_=>rfl
 |.sm,_,_=>rfl
theorem Be (T:Ty) (v:T.den):(AV.f (gL T v)).cs=(bX T v).map .f:=by
 cases h:T.one with
 |true=>
  rw[(D_ T v h).1];cases T<;>simp only[Ty.one]at h<;>first|rfl|cases h
 |false=>rw[rn T v h];rfl
theorem fQ {α:Type} {f:α->Y FV} {n:Nat} (hf:∀x,(f x).length=n):∀(xs:Y α),(xs.flatMap f).length=xs.length*n
 |[]=>by simp
 |x::r=>by rw[fY,bf,hf,fQ hf r,cg,jf];omega
theorem FR {α:Type} {f:α->Y FV} {n:Nat} (hf:∀x,(f x).length=n):∀(xs:Y α) (j:Nat) (x:α),xs[j]? =M x->∃r,(xs.flatMap f).drop (j*n)=f x++r
 |[],j,x,h=>by simp at h
 |y::r,j,x,h=>by
  cases j with
  |zero=>simp at h;subst h;exact⟨r.flatMap f,by simp⟩
  |succ j=>
   obtain⟨q,hq⟩:=FR hf r j x (by simpa using h);refine ⟨q,?_⟩;rw[fY,show (j+1)*n=(f y).length+j*n from by rw[hf,jf];omega,vO];simp[hq]
theorem Tb {α:Type} {f:α->Y FV} {n:Nat} (hf:∀x,(f x).length=n):∀(xs:Y α) (j:Nat) (x z:α),xs[j]? =M x->∀(off:Nat) (vs:Y FV),off+vs.length<=n->f z=AI.splice (f x) off vs->(xs.set j z).flatMap f=AI.splice (xs.flatMap f) (j*n+off) vs
 |[],j,x,z,h,_,_,_,_=>by simp at h
 |y::r,j,x,z,h,off,vs,hle,a=>by
  cases j with
  |zero=>
   simp at h;subst h;simp only[List.set_cons_zero,fY,a,Nat.zero_mul,bK];unfold AI.splice;have A:=hf y;rw[List.take_append,vO];have e1:off-(f y).length=0:=by omega
   have e2:off+vs.length-(f y).length=0:=by omega
   rw[e1,e2];simp[gV]
  |succ j=>
   have s:=Tb hf r j x z (by simpa using h) off vs hle a;simp only[List.set_cons_succ,fY,s];unfold AI.splice;have A:=hf y;have e0:(j+1)*n=(f y).length+j*n:=by rw[hf,jf];omega
   rw[e0,List.take_append,vO];have e1:(f y).length+j*n+off-(f y).length=j*n+off:=by omega
   have e2:(f y).length+j*n+off+vs.length-(f y).length=j*n+off+vs.length:=by omega
   rw[e1,e2,gk (by omega:(f y).length<=(f y).length+j*n+off),sG (by omega:(f y).length<=(f y).length+j*n+off+vs.length)];simp[gV]
theorem su (T:Ty) (xs:Y T.den):∀x∈xs.flatMap (bX T),x.isCell=J:=λx a=>by
 obtain⟨y,_,h⟩:=vM.1 a;exact oH T y x h
theorem iz {S T:Ty} {v:S.den} {x:T.den} (h:vu T v=M x):∃e:S=T,x=e▸v:=by
 unfold vu at h;split at h
 .rename_i e;simp only[ah]at h;exact⟨e,h.symm⟩
 .cases h
theorem mq (h:bk):∀(n:Nat) (T:Ty) (v:T.den) (l:Y TV),cellsOf n T v=M l->cP h l=M ((bX T v).map .f)/\kV l=J
 |0,_,_,_,he=>by simp[cellsOf]at he
 |n+1,.st t,v,l,he=>mq h n t v l he
 |n+1,.pr a b,v,l,he=>by
  simp only[cellsOf]at he;split at he
  .rename_i x y A s;simp only[ah]at he;subst he;obtain⟨h1,h2⟩:=mq h n a v.1 x A;obtain⟨L,Z⟩:=mq h n b v.2 y s;refine ⟨by rw[bX,cM];exact oa h1 L,?_⟩;clear h1 L A s;induction x with
   |nil=>exact Z
   |cons z r U=>simp only[kV,al,fR]at h2 ⊢;exact⟨h2.1,U h2.2⟩
  .cases he
 |n+1,.un,v,l,he=>by simp only[cellsOf,ah]at he;subst he;exact⟨rfl,rfl⟩
 |n+1,.ex,v,l,he=>by rw[bX,<-KE];exact mq h n Oj (Pb v) l he
 |n+1,.sm,v,l,he=>by rw[bX,<-KC];exact mq h n NL (Pa v) l he
 |n+1,.int k,v,l,he=>by simp only[cellsOf,ah]at he;subst he;exact⟨rfl,rfl⟩
 |n+1,.bool,v,l,he=>by simp only[cellsOf,ah]at he;subst he;exact⟨rfl,rfl⟩
 |n+1,.str,v,l,he=>by simp only[cellsOf,ah]at he;subst he;exact⟨rfl,rfl⟩
 |n+1,.sl t,v,l,he=>by simp only[cellsOf,ah]at he;subst he;exact⟨rfl,rfl⟩
theorem Pt {y:AV} (h:y.isCell=J):y.cs=[y]:=by
 cases y with
 |f x=>cases x<;>first|rfl|cases h
 |agg l=>cases h
 |_=>rfl
theorem Ls {h:bk} {v:TV} {l:Y TV} {y:AV} (hv:v.cs=M l) (a:cA h v=M y):cP h l=M y.cs/\kV l=J:=by
 have one:(if v.isC then M [v] else D)=M l->cP h l=M y.cs/\kV l=J:=λhv=>by
  split at hv
  .rename_i hc;simp only[ah]at hv;subst hv;exact⟨by rw[Pt (PK a hc)];exact pD a rfl,by simp[kV,hc]⟩
  .cases hv
 cases v with
 |agg q=>
  simp only[TV.cs]at hv;split at hv
  .rename_i hc;simp only[ah]at hv;subst hv;simp only[cA]at a;split at a
   .rename_i s hl;simp only[ah]at a;subst a;exact⟨hl,hc⟩
   .cases a
  .cases hv
 |f T x=>
  simp only[TV.cs]at hv;simp only[cA,ah]at a;subst a;rw[Be];exact mq h 40 T x l hv
 |fel T xs j hj off=>exact one hv
 |pel id sz j off=>exact one hv
 |ptr id off=>exact one hv
 |csl id off z=>exact one hv
 |row id=>exact one hv
 |emp=>exact one hv
 |nil=>exact one hv
 |mp id=>exact one hv
 |rtl id A=>exact one hv
 |tup q=>exact one hv
 |clo g q=>exact one hv
 |undef=>exact one hv
 |np=>exact one hv
 |anyb=>exact one hv
def E_ (h:bk) (H H':HF) (m:Nat):Prop:=∀id,aO m id=J->H (nm id)=bz h (nm id)/\H' (nm id)=D
theorem E_.zero {h:bk} {H H':HF}:E_ h H H' 0:=λid hid=>by simp at hid
theorem E_.or {h:bk} {H H':HF} {a b:Nat} (g:E_ h H H' (a|||b)):E_ h H H' a/\E_ h H H' b:=
 ⟨λid hid=>g id (by rw[bu,hid];rfl),λid hid=>g id (by rw[bu,hid];simp)⟩
theorem b9 {i j:Nat}:aO (kQ i) j=J↔i=j:=by
 unfold kQ;rw[Nat.one_shiftLeft,Nat.testBit_two_pow];simp
section pack
variable {h:bk} {H H':HF}
theorem yH (d:vK H H') {T:Ty} {v:TV} {x:T.den} {m:Nat} {y:AV} (a:iW h T v=M (x,m)) (s:cA h v=M y) (g:E_ h H H' m):ma H H' y (.f (gL T x))/\y.cs.length=T.size/\(T.one=J->y.isCell=J)/\il H H' y.cs ((bX T x).map .f):=by
 cases v with
 |f S v=>
  simp only[iW]at a;split at a
  .rename_i z A;simp only[ah,aE]at a;obtain⟨rfl,_⟩:=a;obtain⟨e,rfl⟩:=iz A;subst e;simp only[cA,ah]at s;subst s;refine ⟨ma.refl d _,by rw[Be,bQ,bD],λU=>?_,by rw[Be];exact il.refl d _⟩;cases S<;>simp only[Ty.one]at U<;>first|rfl|cases U
  .cases a
 |emp=>
  simp only[iW]at a;split at a
  .simp only[ah,aE]at a;obtain⟨rfl,_⟩:=a;simp only[cA,ah]at s;subst s;exact⟨Le.emp.toH d,rfl,λ_=>rfl,⟨Le.emp.toH d,trivial⟩⟩
  .cases a
 |nil=>
  simp only[iW]at a;split at a
  .simp only[ah,aE]at a;obtain⟨rfl,_⟩:=a;simp only[cA,ah]at s;subst s;exact⟨Le.nil.toH d,rfl,λ_=>rfl,⟨Le.nil.toH d,trivial⟩⟩
  .cases a
 |row id=>
  simp only[iW]at a;split at a
  .rename_i ty p S xs hb;split at a
   .rename_i z A;simp only[ah,aE]at a;obtain⟨rfl,rfl⟩:=a;obtain⟨e,rfl⟩:=iz A;subst e;obtain⟨L,Z⟩:=g id (b9.2 rfl);rw[bH,hb]at L;simp only[cA,eM,hb,ah]at s;subst s;have key:ma H H' (fM p id S.size xs.length) (.f (gL (.sl S) xs)):=by
     unfold fM;split
     .rename_i hp;simp only[al,c8]at hp;have:xs=[]:=g_.1 hp.2;subst this;exact Le.emp.toH d
     .rename_i hp;simp only[aG,jN,aw hp]at L;exact ma.row d L Z (fQ (bD S) xs)
    have hc:(fM p id S.size xs.length).isCell=J:=by unfold fM;split<;>rfl
    refine ⟨key,by rw[Pt hc];rfl,λ_=>hc,?_⟩;rw[Pt hc];exact⟨key,trivial⟩
   .cases a
  .cases a
 |fel T xs j hj off=>simp[iW]at a
 |pel id sz j off=>simp[iW]at a
 |ptr id off=>simp[iW]at a
 |csl id off z=>simp[iW]at a
 |mp id=>simp[iW]at a
 |rtl id jj=>simp[iW]at a
 |agg q=>simp[iW]at a
 |tup q=>simp[iW]at a
 |clo f q=>simp[iW]at a
 |undef=>simp[iW]at a
 |np=>simp[iW]at a
 |anyb=>simp[iW]at a
theorem sW (d:vK H H'):∀(n:Nat) (T:Ty) (l:Y TV) (x:T.den) (m:Nat) (r:Y TV) (s:Y AV),fh h n T l=M (x,m,r)->cP h l=M s->E_ h H H' m->∃l1 l2,s=l1++l2/\cP h r=M l2/\il H H' l1 ((bX T x).map .f)
 |0,_,_,_,_,_,_,hp,_,_=>by simp[fh]at hp
 |n+1,.st t,l,x,m,r,s,hp,hl,g=>sW d n t l x m r s hp hl g
 |n+1,.pr a b,l,x,m,r,s,hp,hl,g=>by
  simp only[fh]at hp;split at hp
  .rename_i z m1 r1 h1;split at hp
   .rename_i U m2 r2 h2;simp only[ah,aE]at hp;obtain⟨rfl,rfl,rfl⟩:=hp;obtain⟨ga,gb⟩:=g.or;obtain⟨l1,l2,rfl,L,A⟩:=sW d n a l z m1 r1 s h1 hl ga;obtain⟨l3,Z,rfl,q3,q4⟩:=sW d n b r1 U m2 r2 l2 h2 L gb;refine ⟨l1++l3,Z,by simp,q3,?_⟩;rw[bX,cM];exact A.append q4
   .cases hp
  .cases hp
 |n+1,.un,l,x,m,r,s,hp,hl,g=>by
  simp only[fh,ah,aE]at hp;obtain⟨_,_,rfl⟩:=hp;exact⟨[],s,rfl,hl,trivial⟩
 |n+1,.ex,l,x,m,r,s,hp,hl,g=>by
  simp only[fh]at hp;split at hp
  .rename_i z m1 r1 h1;simp only[ah,aE]at hp;obtain⟨rfl,rfl,rfl⟩:=hp;rw[bX,Tl];exact sW d n Oj l z m1 r1 s h1 hl g
  .cases hp
 |n+1,.sm,l,x,m,r,s,hp,hl,g=>by
  simp only[fh]at hp;split at hp
  .rename_i z m1 r1 h1;simp only[ah,aE]at hp;obtain⟨rfl,rfl,rfl⟩:=hp;rw[bX,Tk];exact sW d n NL l z m1 r1 s h1 hl g
  .cases hp
 |n+1,.int k,l,x,m,r,s,hp,hl,g=>by
  simp only[fh]at hp;split at hp
  .rename_i c q;split at hp
   .rename_i z m1 h1;simp only[ah,aE]at hp;obtain⟨rfl,rfl,rfl⟩:=hp;obtain⟨y,l2,rfl,L,A⟩:=dg hl;exact⟨[y],l2,rfl,A,⟨(yH d h1 L g).1,trivial⟩⟩
   .cases hp
  .cases hp
 |n+1,.bool,l,x,m,r,s,hp,hl,g=>by
  simp only[fh]at hp;split at hp
  .rename_i c q;split at hp
   .rename_i z m1 h1;simp only[ah,aE]at hp;obtain⟨rfl,rfl,rfl⟩:=hp;obtain⟨y,l2,rfl,L,A⟩:=dg hl;exact⟨[y],l2,rfl,A,⟨(yH d h1 L g).1,trivial⟩⟩
   .cases hp
  .cases hp
 |n+1,.str,l,x,m,r,s,hp,hl,g=>by
  simp only[fh]at hp;split at hp
  .rename_i c q;split at hp
   .rename_i z m1 h1;simp only[ah,aE]at hp;obtain⟨rfl,rfl,rfl⟩:=hp;obtain⟨y,l2,rfl,L,A⟩:=dg hl;exact⟨[y],l2,rfl,A,⟨(yH d h1 L g).1,trivial⟩⟩
   .cases hp
  .cases hp
 |n+1,.sl t,l,x,m,r,s,hp,hl,g=>by
  simp only[fh]at hp;split at hp
  .rename_i c q;split at hp
   .rename_i z m1 h1;simp only[ah,aE]at hp;obtain⟨rfl,rfl,rfl⟩:=hp;obtain⟨y,l2,rfl,L,A⟩:=dg hl;exact⟨[y],l2,rfl,A,⟨(yH d h1 L g).1,trivial⟩⟩
   .cases hp
  .cases hp
theorem VM (d:vK H H') {n:Nat} {T:Ty} {l:Y TV} {x:T.den} {m:Nat} {a:Y AV} (hp:fh h n T l=M (x,m,[])) (hl:cP h l=M a) (g:E_ h H H' m):il H H' a ((bX T x).map .f):=by
 obtain⟨l1,l2,rfl,s,z⟩:=sW d n T l x m [] a hp hl g;simp only[cP,ah]at s;subst s;simpa using z
theorem Q2 (d:vK H H') {T:Ty} {v:TV} {x:T.den} {m:Nat} {y:AV} (a:ER h T v=M (x,m)) (s:cA h v=M y) (g:E_ h H H' m):ma H H' y (.f (gL T x))/\il H H' y.cs ((bX T x).map .f):=by
 have other:iW h T v=M (x,m)->ma H H' y (.f (gL T x))/\il H H' y.cs ((bX T x).map .f):=λa=>by
  obtain⟨h1,_,_,h2⟩:=yH d a s g;exact⟨h1,h2⟩
 cases v with
 |agg l=>
  simp only[ER]at a;split at a
  .cases a
  .rename_i L;split at a
   .rename_i A m1 h1;simp only[ah,aE]at a;obtain⟨rfl,rfl⟩:=a;simp only[cA]at s;split at s
    .rename_i U hl;simp only[ah]at s;subst s;have:=VM d h1 hl g;refine ⟨?_,this⟩;rw[rn T A (by simpa using L)];exact ma.aggL this (oH T A)
    .cases s
   .cases a
 |f S v=>exact other a
 |fel T xs j hj off=>exact other a
 |pel id sz j off=>exact other a
 |ptr id off=>exact other a
 |csl id off z=>exact other a
 |row id=>exact other a
 |emp=>exact other a
 |nil=>exact other a
 |mp id=>exact other a
 |rtl id Z=>exact other a
 |tup q=>exact other a
 |clo g q=>exact other a
 |undef=>exact other a
 |np=>exact other a
 |anyb=>exact other a
theorem Dw (d:vK H H') {T:Ty}:∀(n:Nat) (l:Y TV) (xs:Y T.den) (m:Nat) (a:Y AV),zO h T n l=M (xs,m)->cP h l=M a->E_ h H H' m->il H H' a ((xs.flatMap (bX T)).map .f)/\xs.length=n
 |0,[],xs,m,a,hp,hl,g=>by
  simp only[zO,ah,aE]at hp;obtain⟨rfl,_⟩:=hp;simp only[cP,ah]at hl;subst hl;exact⟨trivial,rfl⟩
 |0,_::_,xs,m,a,hp,hl,g=>by simp[zO]at hp
 |n+1,l,xs,m,a,hp,hl,g=>by
  simp only[zO]at hp;split at hp
  .rename_i z m1 r1 h1;split at hp
   .rename_i s m2 h2;simp only[ah,aE]at hp;obtain⟨rfl,rfl⟩:=hp;obtain⟨Z,U⟩:=g.or;obtain⟨l1,l2,rfl,L,A⟩:=sW d 40 T l z m1 r1 a h1 hl Z;obtain⟨q3,q4⟩:=Dw d n r1 s m2 l2 h2 L U;refine ⟨?_,by simp[q4]⟩;rw[fY,cM];exact A.append q3
   .cases hp
  .cases hp
theorem vi (h:bk):∀(n:Nat) (T:Ty) (v:T.den) (off sz:Nat) (ag:Bool) (u:TV),oN n T v off sz ag=M u->off+sz<=T.size/\∃y,cA h u=M (.f y)/\(ag=af->sz=1/\(bX T v)[off]? =M y)/\(ag=J->y= .agg (((bX T v).drop off).take sz))
 |0,_,_,_,_,_,_,hg=>by simp[oN]at hg
 |n+1,.st t,v,off,sz,ag,u,hg=>by
  simp only[oN]at hg;split at hg
  .rename_i hc;simp only[al]at hc;obtain⟨⟨h1,h2⟩,rfl⟩:=hc;have h1:=ar h1;have h2:=ar h2;subst h1;subst h2;simp only[ah]at hg;subst hg;refine ⟨by simp[Ty.size],_,rfl,λh=>(by cases h),λ_=>?_⟩;simp only[gL,bX,List.drop_zero];rw[<- bD t v,cO]
  .exact vi h n t v off sz ag u hg
 |n+1,.pr a b,v,off,sz,ag,u,hg=>by
  simp only[oN]at hg;have hla:=bD a v.1;have hlb:=bD b v.2;split at hg
  .rename_i hlt;have hlt:off<a.size:=a_ hlt;obtain⟨h1,y,h2,z,s⟩:=vi h n a v.1 off sz ag u hg;refine ⟨by simp only[Ty.size];omega,y,h2,λe=>?_,λe=>?_⟩
   .obtain⟨L,A⟩:=z e;exact⟨L,by rw[bX,bU (by omega)];exact A⟩
   .rw[s e,bX];have:((bX a v.1++bX b v.2).drop off).take sz=((bX a v.1).drop off).take sz:=by
     rw[E8 (by omega),lQ (by simp;omega)]
    rw[this]
  .rename_i hlt;have hlt:¬off<a.size:=λh=>hlt (bE h)
   obtain⟨h1,y,h2,z,s⟩:=vi h n b v.2 (off-a.size) sz ag u hg;refine ⟨by simp only[Ty.size];omega,y,h2,λe=>?_,λe=>?_⟩
   .obtain⟨L,A⟩:=z e;exact⟨L,by rw[bX,cj (by omega),hla];exact A⟩
   .rw[s e,bX];have:(bX a v.1++bX b v.2).drop off=(bX b v.2).drop (off-a.size):=by
     rw[vO,hla,sG (by omega)];simp
    rw[this]
 |n+1,.un,v,off,sz,ag,u,hg=>by simp[oN]at hg
 |n+1,.ex,v,off,sz,ag,u,hg=>by
  simp only[oN]at hg;split at hg
  .rename_i hc;simp only[al]at hc;obtain⟨⟨h1,h2⟩,rfl⟩:=hc;have h1:=ar h1;have h2:=ar h2;subst h1;subst h2;simp only[ah]at hg;subst hg;refine ⟨by simp[Ty.size],_,rfl,λh=>(by cases h),λ_=>?_⟩;simp only[gL,bX,List.drop_zero];rw[<- yz v,cO]
  .obtain⟨h1,y,h2,z,s⟩:=vi h n Oj (Pb v) off sz ag u hg;rw[KE]at z s;exact⟨h1,y,h2,z,s⟩
 |n+1,.sm,v,off,sz,ag,u,hg=>by
  simp only[oN]at hg;split at hg
  .rename_i hc;simp only[al]at hc;obtain⟨⟨h1,h2⟩,rfl⟩:=hc;have h1:=ar h1;have h2:=ar h2;subst h1;subst h2;simp only[ah]at hg;subst hg;refine ⟨by simp[Ty.size],_,rfl,λh=>(by cases h),λ_=>?_⟩;simp only[gL,bX,List.drop_zero];rw[<- D9 v,cO]
  .obtain⟨h1,y,h2,z,s⟩:=vi h n NL (Pa v) off sz ag u hg;rw[KC]at z s;exact⟨h1,y,h2,z,s⟩
 |n+1,.int k,v,off,sz,ag,u,hg=>by
  simp only[oN]at hg;split at hg
  .rename_i hc;simp only[al,db]at hc;obtain⟨⟨h1,h2⟩,rfl⟩:=hc;have h1:=ar h1;have h2:=ar h2;subst h1;subst h2;simp only[ah]at hg;subst hg;exact⟨by simp[Ty.size],_,rfl,λ_=>⟨rfl,rfl⟩,λh=>by cases h⟩
  .cases hg
 |n+1,.bool,v,off,sz,ag,u,hg=>by
  simp only[oN]at hg;split at hg
  .rename_i hc;simp only[al,db]at hc;obtain⟨⟨h1,h2⟩,rfl⟩:=hc;have h1:=ar h1;have h2:=ar h2;subst h1;subst h2;simp only[ah]at hg;subst hg;exact⟨by simp[Ty.size],_,rfl,λ_=>⟨rfl,rfl⟩,λh=>by cases h⟩
  .cases hg
 |n+1,.str,v,off,sz,ag,u,hg=>by
  simp only[oN]at hg;split at hg
  .rename_i hc;simp only[al,db]at hc;obtain⟨⟨h1,h2⟩,rfl⟩:=hc;have h1:=ar h1;have h2:=ar h2;subst h1;subst h2;simp only[ah]at hg;subst hg;exact⟨by simp[Ty.size],_,rfl,λ_=>⟨rfl,rfl⟩,λh=>by cases h⟩
  .cases hg
 |n+1,.sl t,v,off,sz,ag,u,hg=>by
  simp only[oN]at hg;split at hg
  .rename_i hc;simp only[al,db]at hc;obtain⟨⟨h1,h2⟩,rfl⟩:=hc;have h1:=ar h1;have h2:=ar h2;subst h1;subst h2;simp only[ah]at hg;subst hg;exact⟨by simp[Ty.size],_,rfl,λ_=>⟨rfl,rfl⟩,λh=>by cases h⟩
  .cases hg
theorem Vs {α:Type} (l vs:Y α) (h:vs.length=l.length):AI.splice l 0 vs=vs:=by
 unfold AI.splice;rw[bK,h,List.drop_length];simp
theorem RB {α:Type} (a b vs:Y α) (off:Nat) (h:off+vs.length<=a.length):AI.splice (a++b) off vs=AI.splice a off vs++b:=by
 unfold AI.splice;rw[lQ (by omega),E8 (by omega)];simp[gV]
theorem Pk {α:Type} (a b vs:Y α) (off:Nat) (h:a.length<=off):AI.splice (a++b) off vs=a++AI.splice b (off-a.length) vs:=by
 unfold AI.splice;rw[List.take_append,vO,gk h,sG (by omega),show off+vs.length-a.length=off-a.length+vs.length from by omega];simp[gV]
def Zm (H H':HF) (y:AV) (T:Ty) (v z:T.den) (off sz:Nat):Prop:=∃fs:Y FV,il H H' y.cs (fs.map .f)/\fs.length=sz/\off+sz<=T.size/\bX T z=AI.splice (bX T v) off fs/\∀x∈fs,x.isCell=J
theorem Zm.whole {y:AV} {T:Ty} {v z:T.den} {off sz:Nat} (h0:off=0) (hs:sz=T.size) (hl:il H H' y.cs ((bX T z).map .f)):Zm H H' y T v z off sz:=by
 subst h0;subst hs;exact⟨bX T z,hl,bD T z,by omega,(Vs _ _ (by rw[bD,bD])).symm,oH T z⟩
theorem wV (d:vK H H') {u:TV} {y:AV} (s:cA h u=M y):∀(n:Nat) (T:Ty) (v:T.den) (off sz:Nat) (z:T.den) (m:Nat),hZ h u n T v off sz=M (z,m)->E_ h H H' m->Zm H H' y T v z off sz
 |0,_,_,_,_,_,_,hg,_=>by simp[hZ]at hg
 |n+1,.st t,v,off,sz,z,m,hg,g=>by
  simp only[hZ]at hg;split at hg
  .rename_i q hq;split at hq
   .rename_i hc;simp only[al]at hc;simp only[ah]at hg;subst hg;exact .whole (ar hc.1) (ar hc.2) (Q2 d hq s g).2
   .cases hq
  .exact wV d s n t v off sz z m hg g
 |n+1,.pr a b,v,off,sz,z,m,hg,g=>by
  simp only[hZ]at hg;have hla:=bD a v.1;split at hg
  .rename_i hlt;split at hg
   .rename_i A m1 h1;simp only[ah,aE]at hg;obtain⟨rfl,rfl⟩:=hg;obtain⟨fs,U,L,q3,q4,q5⟩:=wV d s n a v.1 off sz A m1 h1 g;refine ⟨fs,U,L,by simp only[Ty.size];omega,?_,q5⟩;rw[bX,bX,RB _ _ _ _ (by omega),q4]
   .cases hg
  .rename_i hlt;have hlt:¬off<a.size:=λh=>hlt (bE h)
   split at hg
   .rename_i A m1 h1;simp only[ah,aE]at hg;obtain⟨rfl,rfl⟩:=hg;obtain⟨fs,U,L,q3,q4,q5⟩:=wV d s n b v.2 (off-a.size) sz A m1 h1 g;refine ⟨fs,U,L,by simp only[Ty.size];omega,?_,q5⟩;rw[bX,bX,Pk _ _ _ _ (by omega),q4,hla]
   .cases hg
 |n+1,.un,v,off,sz,z,m,hg,g=>by simp[hZ]at hg
 |n+1,.ex,v,off,sz,z,m,hg,g=>by
  simp only[hZ]at hg;split at hg
  .rename_i q hq;split at hq
   .rename_i hc;simp only[al]at hc;simp only[ah]at hg;subst hg;exact .whole (ar hc.1) (ar hc.2) (Q2 d hq s g).2
   .cases hq
  .split at hg
   .rename_i A m1 h1;simp only[ah,aE]at hg;obtain⟨rfl,rfl⟩:=hg;obtain⟨fs,U,L,q3,q4,q5⟩:=wV d s n Oj (Pb v) off sz A m1 h1 g;exact⟨fs,U,L,q3,by rw[bX,bX,Tl,q4,KE],q5⟩
   .cases hg
 |n+1,.sm,v,off,sz,z,m,hg,g=>by
  simp only[hZ]at hg;split at hg
  .rename_i q hq;split at hq
   .rename_i hc;simp only[al]at hc;simp only[ah]at hg;subst hg;exact .whole (ar hc.1) (ar hc.2) (Q2 d hq s g).2
   .cases hq
  .split at hg
   .rename_i A m1 h1;simp only[ah,aE]at hg;obtain⟨rfl,rfl⟩:=hg;obtain⟨fs,U,L,q3,q4,q5⟩:=wV d s n NL (Pa v) off sz A m1 h1 g;exact⟨fs,U,L,q3,by rw[bX,bX,Tk,q4,KC],q5⟩
   .cases hg
 |n+1,.int k,v,off,sz,z,m,hg,g=>by
  simp only[hZ]at hg;split at hg
  .rename_i hc;simp only[al]at hc;exact .whole (ar hc.1) (ar hc.2) (yH d hg s g).2.2.2
  .cases hg
 |n+1,.bool,v,off,sz,z,m,hg,g=>by
  simp only[hZ]at hg;split at hg
  .rename_i hc;simp only[al]at hc;exact .whole (ar hc.1) (ar hc.2) (yH d hg s g).2.2.2
  .cases hg
 |n+1,.str,v,off,sz,z,m,hg,g=>by
  simp only[hZ]at hg;split at hg
  .rename_i hc;simp only[al]at hc;exact .whole (ar hc.1) (ar hc.2) (yH d hg s g).2.2.2
  .cases hg
 |n+1,.sl t,v,off,sz,z,m,hg,g=>by
  simp only[hZ]at hg;split at hg
  .rename_i hc;simp only[al]at hc;exact .whole (ar hc.1) (ar hc.2) (yH d hg s g).2.2.2
  .cases hg
theorem LO:∀{a b:ξ},Uy a b=J->a=b
 |[],[],_=>rfl
 |[],_::_,h=>by cases h
 |_::_,[],h=>by cases h
 |x::xs,y::ys,h=>by
  simp only[Uy,al]at h;rw[aj8 h.1,LO h.2]
theorem zero_ok (d:vK H H'):∀T:Ty,il H H' ((tV T).map raw) ((bX T T.zero).map .f)
 |.int k=>⟨ma.refl d _,trivial⟩
 |.bool=>⟨ma.refl d _,trivial⟩
 |.str=>⟨ma.refl d _,trivial⟩
 |.sl t=>⟨Le.nil.toH d,trivial⟩
 |.st t=>zero_ok d t
 |.pr a b=>by
  simp only[tV,Ty.zero,bX,cM];exact (zero_ok d a).append (zero_ok d b)
 |.un=>trivial
 |.ex=>⟨ma.refl d _,ma.refl d _,ma.refl d _,Le.nil.toH d,trivial⟩
 |.sm=>⟨ma.refl d _,ma.refl d _,ma.refl d _,ma.refl d _,Le.nil.toH d,ma.refl d _,ma.refl d _,ma.refl d _,Le.nil.toH d,Le.nil.toH d,Le.nil.toH d,trivial⟩
theorem II (d:vK H H') (T:Ty):∀n,il H H' ((repl (tV T) n).map .f) (((aA n T.zero).flatMap (bX T)).map .f)
 |0=>trivial
 |n+1=>by
  rw[repl,wM,fY,cM,cM];have h1:=zero_ok (H:=H) (H':=H') d T;have:((tV T).map .raw).map AV.f=(tV T).map raw:=by rw[IC];rfl
  rw[this];exact h1.append (II d T n)
end pack
structure mH (h:bk) (nx:Nat):Prop where
 cells:∀id ty l,h.get id=M (.cells ty l)->lz h l=J
 low:∀id b,h.get id=M b->id<nx
def ut (e:jd) (h:bk):Prop:=∀t v,e.get t=M v->Mx h v=J
structure jb (P:Program) (o:Oper) (still:Bool) (e:jd) (h:bk) (nx:Nat) (v:TV) (rd wr:Nat) (h':bk) (nx':Nat):Prop where
 ex:∃f:Cf,gZ P o (fV e h) (bz h) f/\(∀y,cA h' v=M y->f.val=y)/\eZ (bz h) f.wr f.nw=bz h'/\(∀n∈f.rd,aO rd (ow n)=J)/\(∀n∈f.wr,aO wr (ow n)=J)/\(∀n∈f.N,nx<=ow n/\ow n<nx')
 rows:ch h h'
 inv:mH h' nx'
 grows:nx<=nx'
 st:still=J->rd=0/\wr=0
def ly {R:Type} (P:Program) (o:Oper) (still:Bool) (e:jd) (h:bk) (nx:Nat) (K:KO R) (r:R):Prop:=
 ∃v rd wr h' nx',K v rd wr h' nx'=M r/\jb P o still e h nx v rd wr h' nx'
theorem ey {R:Type} {b:Bool} {k:b=J->I R} {r:R} (h:chk b k=M r):∃hb:b=J,k hb=M r:=by
 cases b with
 |true=>exact⟨rfl,h⟩
 |false=>cases h
theorem qd {R:Type} {b:Bool} {t f:I R} {r:R} (h:aF b t f=M r):(b=J/\t=M r)\/(b=af/\f=M r):=by
 cases b with
 |true=>exact .inl ⟨rfl,h⟩
 |false=>exact .inr ⟨rfl,h⟩
theorem dS {α R:Type} {o:I α} {k:α->I R} {r:R} (h:au o k=M r):∃x,o=M x/\k x=M r:=by
 cases o with
 |some x=>exact⟨x,rfl,h⟩
 |none=>cases h
theorem Fz {j:Int} {n:Nat} (h:e9 j n=J):0<=j/\j<n/\j.toNat<n:=by
 simp only[e9,c_,fP,al,bc]at h;omega
theorem gZ.envLe {P:Program} {o:Oper} {e e2:EF} {h:HF} {f:Cf} (ht:gZ P o e h f) (hle:∀t y,.tmp t∈o.op.operands->e t=M y->∃z,e2 t=M z/\Le z y):gZ P o e2 h f:=by
 intro φ E h' w a h1 h2 Z U L;refine ht φ E h' w a h1 h2 (λt s y A=>?_) U L;obtain⟨z,g1,g2⟩:=hle t y s A;exact g2 _ _ _ _ (Z t s z g1)
theorem Lq (h:bk) {v:Value} {u:TV} (hc:cst v=M u):cA h u=M (raw v)/\v.oneCell'=J/\u.isC=J:=by
 unfold cst at hc;split at hc<;>cases hc<;>exact⟨rfl,rfl,rfl⟩
theorem wh (h:bk):∀{z:ξ} {l:Y TV},Lp z=M l->cP h l=M (z.map raw)/\(∀x∈z,x.oneCell'=J)/\kV l=J
 |[],l,hc=>by simp only[Lp,ah]at hc;subst hc;exact⟨rfl,by simp,rfl⟩
 |v::r,l,hc=>by
  simp only[Lp]at hc;split at hc
  .rename_i x l' s hl;simp only[ah]at hc;subst hc;obtain⟨h1,h2,Z⟩:=Lq h s;obtain⟨U,L,A⟩:=wh h hl;refine ⟨pD h1 U,λy a=>?_,by simp[kV,Z,A]⟩;rcases bm.1 a with rfl|a
   .exact h2
   .exact L y a
  .cases hc
theorem bL {e:jd} {h:bk} (hi:ut e h) {x:Operand} {v:TV} (a:f_ e x=M v):∃y,nl (Kz e h) x=M y/\cA h v=M y:=by
 cases x with
 |tmp t=>
  simp only[f_]at a;obtain⟨y,s⟩:=pI h v (hi t v a);refine ⟨y,?_,s⟩;simp only[nl];rw[v8];simp only[fV,a,aG,s]
 |const c=>
  simp only[f_]at a;unfold amk at a;split at a
  .rename_i vs;split at a
   .rename_i h1;split at a
    .rename_i l hl;simp only[ah]at a;subst a;refine ⟨.agg (vs.toList.map raw),?_,by simp only[cA,(wh h hl).1]⟩;simp only[nl,F9,h1,bI];rfl
    .cases a
   .cases a
  .rename_i hn;refine ⟨raw c,?_,(Lq h a).1⟩;simp only[nl];unfold F9;split
   .rename_i vs;exact b8 rfl (hn vs)
   .rfl
 |func g=>
  simp only[f_,ah]at a;subst a;exact⟨_,rfl,rfl⟩
 |global g=>
  simp only[f_]at a;cases hg:G g with
  |none=>rw[hg]at a;cases a
  |some cells=>
   rw[hg]at a;simp only[ah]at a;subst a;have hcells:cells=DE:=by
    unfold G at hg;split at hg
    .cases hg;rfl
    .cases hg
   subst hcells;exact⟨_,by simp only[nl,hg];rfl,rfl⟩
theorem zQ {e:jd} {h:bk} (hi:ut e h):∀{xs:Y Operand} {l:Y TV},GF e xs=M l->∃s,YY (Kz e h) xs=M s/\cP h l=M s
 |[],l,a=>by simp only[GF,ah]at a;subst a;exact⟨[],rfl,rfl⟩
 |x::xs,l,a=>by
  simp only[GF]at a;split at a
  .rename_i y A;split at a
   .rename_i Z hys;simp only[ah]at a;subst a;obtain⟨z,h1,h2⟩:=bL hi A;obtain⟨s,U,L⟩:=zQ hi hys;exact⟨z::s,by simp only[YY,h1,U],pD h2 L⟩
   .cases a
  .cases a
section ops
variable {R:Type} {P:Program} {o:Oper} {e:jd} {h:bk} {nx:Nat} {K:KO R} {r:R}
theorem jb.pure {s:SOp} {st:Bool} (hinv:mH h nx) (hc:dE P o.op=M s) {H:oL} (L:H.get=bz h) {k:Nat} {y0:AV} {rdl:ι} (A:eP s (Kz e h) H k=M ⟨y0,rdl,[],[],[]⟩) {v:TV} (hv:∀y,cA h v=M y->Le y0 y) {rd:Nat} (hrd:∀n∈rdl,aO rd (ow n)=J) (hst:st=J->rd=0):jb P o st e h nx v rd 0 h nx:=by
 have ht:=Jz hc A;rw[v8,L]at ht;refine ⟨?_,λ_ _ h=>h,hinv,bT _,λhs=>⟨hst hs,rfl⟩⟩;have key:∀y,Le y0 y->gZ P o (fV e h) (bz h) ⟨y,rdl,[],jz [],[]⟩:=λy hle=>
  gZ.view ht (λi hi=>by cases hi) λh' _ _=>⟨Is.refl _,hle.toH (vK.refl _)⟩
 cases z:cA h v with
 |none=>exact⟨_,ht,λy a=>by simp at a,by simp[C5.eff,uD],hrd,by simp[C5.eff],by simp[C5.eff]⟩
 |some y=>exact⟨_,key y (hv y z),λU a=>by simpa using a,by simp[uD],hrd,by simp,by simp⟩
theorem ly.q {s:SOp} {st:Bool} (hinv:mH h nx) (hc:dE P o.op=M s) {k:Nat} {y0:AV} (z:∀H:oL,H.get=bz h->eP s (Kz e h) H k=rv y0) {v:TV} (hv:∀y,cA h v=M y->Le y0 y) (hk:K v 0 0 h nx=M r):ly P o st e h nx K r:=by
 obtain⟨H,a⟩:=j7 h;exact⟨v,0,0,h,nx,hk,jb.pure hinv hc a (z H a) hv (by simp) λ_=>rfl⟩
theorem dH {y0:AV} {v:TV} (hv:cA h v=M y0):∀y,cA h v=M y->Le y0 y:=λy a=>by rw[hv]at a;cases a;exact Le.refl _
theorem akf {T:Ty} {xs:Y T.den} {j:Int} (hj:e9 j xs.length=J) {off sz:Nat} {ag:Bool} {u:TV} (hg:oN 40 T (aJ xs j) off sz ag=M u):
 ∃y,cA h u=M (.f y)/\(BC.fz (xs.flatMap (bX T))).sub? (j.toNat*T.size+off) sz ag=M (.f y):=by
 obtain⟨h1,y,h2,L,A⟩:=vi h 40 T _ off sz ag u hg;refine ⟨y,h2,?_⟩;obtain⟨_,_,hlt⟩:=Fz hj;have a:xs[j.toNat]? =M (aJ xs j):=by
  unfold aJ;rw[av,ay hlt];rfl
 obtain⟨q,hq⟩:=FR (bD T) xs j.toNat _ a;have hlen:=fQ (bD T) xs;have hle:(j.toNat+1)*T.size<=xs.length*T.size:=cR _ hlt;rw[jf]at hle;have hl:=bD T (aJ xs j);cases ag with
 |false=>
  obtain⟨z,s⟩:=L rfl;subst z;simp only[BC.sub?,BC.get];have:(xs.flatMap (bX T))[j.toNat*T.size+off]? =M y:=by
   rw[<- ig,hq,bU (by omega)];exact s
  rw[this];rfl
 |true=>
  simp only[BC.sub?];rw[aC (bE (by omega)),A rfl,<-List.drop_drop,hq,E8 (by omega),lQ (by simp;omega)]
theorem akg {T:Ty} {v:T.den} {off sz:Nat} {ag:Bool} {u:TV} (hg:oN 40 T v off sz ag=M u):
 ∃y,cA h u=M (.f y)/\(BC.fz (bX T v)).sub? off sz ag=M (.f y):=by
 obtain⟨h1,y,h2,A,z⟩:=vi h 40 T _ off sz ag u hg;refine ⟨y,h2,?_⟩;have hl:=bD T v;cases ag with
 |false=>
  obtain⟨s,a⟩:=A rfl;subst s;simp only[BC.sub?,BC.get,a];rfl
 |true=>
  simp only[BC.sub?];rw[aC (bE (by omega)),z rfl]
theorem Yf {l:Y TV} {a:Y AV} (hl:cP h l=M a) {off sz:Nat} {ag:Bool} {u:TV} (hs:Vp l off sz ag=M u):∃y,cA h u=M y/\(BC.mx a).sub? off sz ag=M y:=by
 cases ag with
 |false=>
  simp only[Vp]at hs;split at hs
  .rename_i h1;have h1:=ar h1;subst h1;obtain⟨y,h2,s⟩:=lK hl off u hs;exact⟨y,s,by simp only[BC.sub?,BC.get,h2]⟩
  .cases hs
 |true=>
  simp only[Vp]at hs;split at hs
  .rename_i h1;simp only[ah]at hs;subst hs;have h2:=FY sz (F0 off hl);exact⟨.agg ((a.drop off).take sz),by simp only[cA,h2],by simp only[BC.sub?,gU hl,h1,bI]⟩
  .cases hs
theorem R7 {v:TV} {n:Nat} {y:AV} (hn:lenOf h v=M n) (a:cA h v=M y):y.slen=M n:=by
 unfold lenOf at hn;split at hn
 .simp only[ah]at hn;subst hn;simp only[cA,ah]at a;subst a;rfl
 .simp only[ah]at hn;subst hn;simp only[cA,ah]at a;subst a;rfl
 .simp only[ah]at hn;subst hn;simp only[cA,ah]at a;subst a;rfl
 .rename_i id;simp only[cA]at a;cases hr:eM h id with
  |none=>rw[hr]at hn;cases hn
  |some q=>
   obtain⟨p,sz,m⟩:=q;rw[hr]at hn a;simp only[ah]at hn a;subst hn;subst a;unfold fM;split
   .rename_i hp;simp only[al,c8]at hp;rw[hp.2];rfl
   .rfl
 .simp only[ah]at hn;subst hn;simp only[cA,ah]at a;subst a;rfl
 .cases hn
theorem EQ (a b:ζ):sT ⟨a.toArray⟩ ⟨b.toArray⟩=decide (a=b):=by
 unfold sT;simp only[Bool.beq_eq_decide_eq]
theorem aj7 {op:BinOp} {u v:TV} {q:TV->I R} (hk:ams op u v q=M r):∃a b c t,cA h u=M (raw a)/\cA h v=M (raw b)/\uq op a b=M c/\cA h t=M (raw c)/\q t=M r:=by
 unfold ams at hk;split at hk
 .rename_i k a k' b;split at hk
  .rename_i hkk;have hkk':k=k':=by simpa using hkk
   subst hkk';refine ⟨.int k a,.int k b,?_⟩;cases op<;>simp only[reduceCtorEq]at hk<;>first
    |cases hk
    |exact⟨_,_,rfl,rfl,(by simp only[uq,c5,bI]<;>rfl),rfl,hk⟩
    |(obtain ⟨hb,hk⟩:=ey hk
      have s:(b==(0:Int))=af:=by simpa using hb
      exact⟨_,_,rfl,rfl,by simp only[uq,c5,bI,s,cG,ec],rfl,hk⟩)
  .cases hk
 .rename_i a b;refine ⟨.string ⟨lj a⟩,.string ⟨lj b⟩,?_⟩;split at hk
  .exact⟨.bool (decide ((a:ζ)=b)),_,rfl,rfl,by simp only[uq,EQ],rfl,hk⟩
  .exact⟨.bool (!decide ((a:ζ)=b)),_,rfl,rfl,by simp only[uq,EQ],rfl,hk⟩
  .cases hk
 .cases hk
theorem Zg {T:Ty}:∀{l:Y TV} {xs:Y T.den},zD T l=M xs->∀k,k<l.length->l[k]? =M (.f T (xs.getD k T.zero))
 |[],xs,_,k,hk=>by simp at hk
 |.f S v::r,xs,a,k,hk=>by
  simp only[zD]at a;split at a
  .rename_i x s;split at a
   .rename_i l hl;simp only[ah]at a;subst a;obtain⟨es,ex⟩:=iz s;cases es;subst ex;cases k with
    |zero=>rfl
    |succ k=>simpa using Zg hl k (by simpa using hk)
   .cases a
  .cases a
 |.fel _ _ _ _ _::r,xs,a,k,hk=>by simp[zD]at a
 |.pel _ _ _ _::r,xs,a,k,hk=>by simp[zD]at a
 |.ptr _ _::r,xs,a,k,hk=>by simp[zD]at a
 |.csl _ _ _::r,xs,a,k,hk=>by simp[zD]at a
 |.row _::r,xs,a,k,hk=>by simp[zD]at a
 |.emp::r,xs,a,k,hk=>by simp[zD]at a
 |.nil::r,xs,a,k,hk=>by simp[zD]at a
 |.mp _::r,xs,a,k,hk=>by simp[zD]at a
 |.agg _::r,xs,a,k,hk=>by simp[zD]at a
 |.tup _::r,xs,a,k,hk=>by simp[zD]at a
 |.clo _ _::r,xs,a,k,hk=>by simp[zD]at a
 |.undef::r,xs,a,k,hk=>by simp[zD]at a
 |.np::r,xs,a,k,hk=>by simp[zD]at a
 |.anyb::r,xs,a,k,hk=>by simp[zD]at a
theorem Zf {l:Y TV} {T:Ty} {xs:Y T.den} (a:afl l=M ⟨T,xs⟩):∀k,k<l.length->l[k]? =M (.f T (xs.getD k T.zero)):=by
 unfold afl at a;split at a
 .split at a
  .rename_i l1 hl;simp only[ah]at a;cases a;exact Zg hl
  .cases a
 .cases a
variable (hinv:mH h nx) (hi:ut e h)
include hinv hi
theorem K_mv {con:FuncId->I co} {b_:TypeId->I Ty} {x:Operand} {st:Bool} (hc:dE P o.op=M (.mv x)) (hk:eh con b_ (.op (.mv x)) e h nx K=M r):ly P o st e h nx K r:=by
 simp only[eh]at hk;split at hk
 .rename_i v hv;obtain⟨y,h1,h2⟩:=bL hi hv;exact ly.q (k:=0) hinv hc (λH _=>by simp only[eP,h1]) (dH h2) hk
 .cases hk
theorem aok {con:FuncId->I co} {b_:TypeId->I Ty} {c a b:Operand} {st:Bool} (hc:dE P o.op=M (.pick c a b)) (hk:eh con b_ (.op (.pick c a b)) e h nx K=M r):ly P o st e h nx K r:=by
 simp only[eh]at hk;split at hk
 .rename_i t hv;obtain⟨y,h1,h2⟩:=bL hi hv;simp only[cA,ah]at h2;subst h2;rcases qd hk with ⟨rfl,s⟩|⟨rfl,s⟩
  .split at s
   .rename_i v z;obtain⟨U,L,A⟩:=bL hi z;exact ly.q (k:=0) hinv hc (λH _=>by simp only[eP,h1,gL,bI,L]) (dH A) s
   .cases s
  .split at s
   .rename_i v z;obtain⟨U,L,A⟩:=bL hi z;exact ly.q (k:=0) hinv hc (λH _=>by simp only[eP,h1,gL,L,cG,ec]) (dH A) s
   .cases s
 .cases hk
theorem aol {con:FuncId->I co} {b_:TypeId->I Ty} {x:Operand} {st:Bool} (hc:dE P o.op=M (.nilc x)) (hk:eh con b_ (.op (.nilc x)) e h nx K=M r):ly P o st e h nx K r:=by
 simp only[eh]at hk;split at hk;all_goals first
  |(rename_i hv
    obtain⟨y,h1,h2⟩:=bL hi hv;have a:=h2;simp only[cA,ah]at h2;subst h2;exact ly.q (k:=0) hinv hc (λH _=>by simp only[eP,h1]) (dH a) hk)
  |skip
 .rename_i g cap hv;obtain⟨y,h1,h2⟩:=bL hi hv;have a:=h2;simp only[cA]at h2;split at h2
  .simp only[ah]at h2;subst h2;exact ly.q (k:=0) hinv hc (λH _=>by simp only[eP,h1]) (dH a) hk
  .cases h2
 .cases hk
theorem arz {con:FuncId->I co} {b_:TypeId->I Ty} {x:Operand} {st:Bool} (hc:dE P o.op=M (.not x)) (hk:eh con b_ (.op (.not x)) e h nx K=M r):ly P o st e h nx K r:=by
 simp only[eh]at hk;split at hk
 .rename_i b hv;obtain⟨y,h1,h2⟩:=bL hi hv;simp only[cA,ah]at h2;subst h2;exact ly.q (k:=0) hinv hc (λH _=>by simp only[eP,h1,gL];rfl) (dH rfl) hk
 .cases hk
theorem aot {con:FuncId->I co} {b_:TypeId->I Ty} {k:IntKind} {x:Operand} {st:Bool} (hc:dE P o.op=M (.conv k x)) (hk:eh con b_ (.op (.conv k x)) e h nx K=M r):ly P o st e h nx K r:=by
 simp only[eh]at hk;split at hk
 .rename_i k' n hv;obtain⟨y,h1,h2⟩:=bL hi hv;simp only[cA,ah]at h2;subst h2;exact ly.q (k:=0) hinv hc (λH _=>by simp only[eP,h1,gL];rfl) (dH rfl) hk
 .cases hk
theorem asd {con:FuncId->I co} {b_:TypeId->I Ty} {neg:Bool} {x y:Operand} {st:Bool} (hc:dE P o.op=M (.eqb neg x y)) (hk:eh con b_ (.op (.eqb neg x y)) e h nx K=M r):ly P o st e h nx K r:=by
 simp only[eh]at hk;split at hk
 .rename_i a b hv s;obtain⟨y,h1,h2⟩:=bL hi hv;obtain⟨L,A,z⟩:=bL hi s;simp only[cA,ah]at h2 z;subst h2;subst z;exact ly.q (k:=0) hinv hc (λH _=>by simp only[eP,h1,A,gL];rfl) (dH rfl) hk
 .cases hk
theorem ak1 {con:FuncId->I co} {b_:TypeId->I Ty} {neg:Bool} {x:Operand} {st:Bool} (hc:dE P o.op=M (.isnil neg x)) (hk:eh con b_ (.op (.isnil neg x)) e h nx K=M r):ly P o st e h nx K r:=by
 simp only[eh]at hk;split at hk
 .rename_i hv;obtain⟨y,h1,h2⟩:=bL hi hv;simp only[cA,ah]at h2;subst h2;exact ly.q (k:=0) hinv hc (λH _=>by simp only[eP,h1,uk,bI];rfl) (dH rfl) hk
 .rename_i hv;obtain⟨y,h1,h2⟩:=bL hi hv;simp only[cA,ah]at h2;subst h2;exact ly.q (k:=0) hinv hc (λH _=>by simp only[eP,h1]) (dH rfl) hk
 .rename_i T xs hv;obtain⟨y,h1,h2⟩:=bL hi hv;simp only[cA,ah]at h2;subst h2;rcases qd hk with ⟨s,a⟩|⟨s,a⟩
  .have s:=ar s;exact ly.q (k:=0) (y0:=.anyb) hinv hc (λH _=>by simp only[eP,h1,gL,s]) (dH rfl) a
  .have s:=iv s;obtain⟨n,hn⟩:=Nat.exists_eq_succ_of_ne_zero s;exact ly.q (k:=0) (y0:=raw (.bool neg)) hinv hc (λH _=>by simp only[eP,h1,gL,hn]) (dH rfl) a
 .rename_i id hv;split at hk
  .rename_i ty T xs hb;obtain⟨y,h1,h2⟩:=bL hi hv;simp only[cA,eM,hb,fM,lX,cG,ec,ah]at h2;subst h2;exact ly.q (k:=0) (y0:=raw (.bool neg)) hinv hc (λH _=>by simp only[eP,h1]) (dH rfl) hk
  .cases hk
 .cases hk
theorem as4 {con:FuncId->I co} {b_:TypeId->I Ty} {x y:Operand} {st:Bool} (hc:dE P o.op=M (.max x y)) (hk:eh con b_ (.op (.max x y)) e h nx K=M r):ly P o st e h nx K r:=by
 simp only[eh]at hk;split at hk
 .rename_i k a k' b hv s;obtain⟨y,h1,h2⟩:=bL hi hv;obtain⟨L,A,z⟩:=bL hi s;simp only[cA,ah]at h2 z;subst h2;subst z;split at hk
  .exact ly.q (k:=0) hinv hc (λH _=>by simp only[eP,h1,A,gL];rfl) (dH rfl) hk
  .cases hk
 .cases hk
theorem as3 {con:FuncId->I co} {b_:TypeId->I Ty} {x y:Operand} {st:Bool} (hc:dE P o.op=M (.min x y)) (hk:eh con b_ (.op (.min x y)) e h nx K=M r):ly P o st e h nx K r:=by
 simp only[eh]at hk;split at hk
 .rename_i k a k' b hv s;obtain⟨y,h1,h2⟩:=bL hi hv;obtain⟨L,A,z⟩:=bL hi s;simp only[cA,ah]at h2 z;subst h2;subst z;split at hk
  .exact ly.q (k:=0) hinv hc (λH _=>by simp only[eP,h1,A,gL];rfl) (dH rfl) hk
  .cases hk
 .cases hk
theorem asa {con:FuncId->I co} {b_:TypeId->I Ty} {off:Nat} {x:Operand} {st:Bool} (hc:dE P o.op=M (.fad off x)) (hk:eh con b_ (.op (.fad off x)) e h nx K=M r):ly P o st e h nx K r:=by
 simp only[eh]at hk;split at hk;all_goals first
  |(rename_i hv
    obtain⟨y,h1,h2⟩:=bL hi hv;simp only[cA,ah]at h2;subst h2;exact ly.q (k:=0) hinv hc (λH _=>by simp only[eP,h1,qf]) (dH rfl) hk)
  |cases hk
theorem as9 {con:FuncId->I co} {b_:TypeId->I Ty} {off sz:Nat} {ag:Bool} {x:Operand} {st:Bool} (hc:dE P o.op=M (.fld off sz ag x)) (hk:eh con b_ (.op (.fld off sz ag x)) e h nx K=M r):ly P o st e h nx K r:=by
 simp only[eh]at hk;split at hk
 .rename_i l hv;split at hk
  .rename_i u hs;obtain⟨y,h1,h2⟩:=bL hi hv;simp only[cA]at h2;split at h2
   .rename_i A hl;simp only[ah]at h2;subst h2;obtain⟨y,s,a⟩:=Yf hl hs;exact ly.q (k:=0) hinv hc (λH _=>by simp only[eP,h1,a]) (dH s) hk
   .cases h2
  .cases hk
 .rename_i T v hv;split at hk
  .cases hk
  .rename_i z;split at hk
   .rename_i u hs;obtain⟨y,h1,h2⟩:=bL hi hv;simp only[cA,ah]at h2;rw[rn T v (by simpa using z)]at h2;subst h2;obtain⟨y,s,a⟩:=akg (h:=h) hs;exact ly.q (k:=0) hinv hc (λH _=>by simp only[eP,h1,a]) (dH s) hk
   .cases hk
 .cases hk
theorem as7 {con:FuncId->I co} {b_:TypeId->I Ty} {n sz:Nat} {ag:Bool} {x i:Operand} {st:Bool} (hc:dE P o.op=M (.idx n sz ag x i)) (hk:eh con b_ (.op (.idx n sz ag x i)) e h nx K=M r):ly P o st e h nx K r:=by
 simp only[eh]at hk;split at hk
 .rename_i v0 k j hv L;split at hk
  .rename_i T xs hA;obtain⟨hb,hk⟩:=ey hk;cases ag with
   |true=>cases hA
   |false=>
   simp only[apx]at hA;split at hA
   .rename_i hsz;simp only[al,db]at hsz;have hsz1:=ar hsz.1;subst hsz1;split at hA
    .rename_i l hl;split at hA
     .rename_i hn;have hn:=ar hn;obtain⟨y,h1,h2⟩:=bL hi hv;obtain⟨y2,U,s⟩:=bL hi L;simp only[cA,ah]at s;subst s;have hj:j.toNat<l.length:=by
       simp only[al,c_,fP,bc]at hb;omega
      have hg:=Zf hA j.toNat hj;obtain⟨he,_⟩:=Ls hl h2;obtain⟨z,a,A⟩:=lK he j.toNat _ hg;have A:cA h (.f T (aJ xs j))=M z:=A;refine ly.q (k:=0) hinv hc (λH _=>?_) (dH A) hk;cases v0 with
      |agg q=>
       simp only[cA]at h2;split at h2
       .rename_i l' _;simp only[ah]at h2;subst h2;have a:l'[j.toNat]? =M z:=a;simp only[eP,h1,U,gL,hb,bI,BC.sub?,BC.get,Nat.mul_one,a]
       .cases h2
      |f S u=>
       have Z:S.one=af:=by
        have:=hsz.2;simpa[TV.isC] using this
       simp only[cA,ah]at h2;rw[rn S u Z]at h2;subst h2;have a:((bX S u).map AV.f)[j.toNat]? =M z:=a;rw[bd]at a;simp only[eP,h1,U,gL,hb,bI,BC.sub?,BC.get,Nat.mul_one,a]
      |_=>simp[TV.cs,TV.isC]at hl hsz
     .cases hA
    .cases hA
   .cases hA
  .split at hk
   .rename_i l;obtain⟨hb,hk⟩:=ey hk;split at hk
    .rename_i u hs;obtain⟨y,h1,h2⟩:=bL hi hv;obtain⟨y2,U,s⟩:=bL hi L;simp only[cA,ah]at s;subst s;simp only[cA]at h2;split at h2
     .rename_i l' hl;simp only[ah]at h2;subst h2;obtain⟨y,h3,h4⟩:=Yf hl hs;exact ly.q (k:=0) hinv hc (λH _=>by simp only[eP,h1,U,gL,hb,bI,h4]) (dH h3) hk
     .cases h2
    .cases hk
   .rename_i T v _;split at hk
    .cases hk
    .rename_i Z;obtain⟨hb,hk⟩:=ey hk;split at hk
     .rename_i u hs;obtain⟨y,h1,h2⟩:=bL hi hv;obtain⟨y2,U,s⟩:=bL hi L;simp only[cA,ah]at s h2;subst s;rw[rn T v (by simpa using Z)]at h2;subst h2;obtain⟨y,h3,h4⟩:=akg (h:=h) hs;exact ly.q (k:=0) hinv hc (λH _=>by simp only[eP,h1,U,gL,hb,bI,h4]) (dH h3) hk
     .cases hk
   .cases hk
 .cases hk
theorem aor {con:FuncId->I co} {b_:TypeId->I Ty} {n sz:Nat} {x i:Operand} {st:Bool} (hc:dE P o.op=M (.iada n sz x i)) (hk:eh con b_ (.op (.iada n sz x i)) e h nx K=M r):ly P o st e h nx K r:=by
 simp only[eh]at hk;split at hk
 .rename_i id off k j hv a;obtain⟨y,h1,h2⟩:=bL hi hv;obtain⟨A,z,s⟩:=bL hi a;simp only[cA,ah]at s h2;subst s;subst h2;split at hk
  .obtain⟨hb,hk⟩:=ey hk;exact ly.q (k:=0) (y0:=.ptr (nm id) (off+j.toNat*sz)) hinv hc (λH _=>by simp only[eP,h1,z,gL,hb,bI]) (dH (by simp only[cA];rw[Nat.add_comm])) hk
  .obtain⟨hb,hk⟩:=ey hk;exact ly.q (k:=0) hinv hc (λH _=>by simp only[eP,h1,z,gL,hb,bI]) (dH rfl) hk
 .cases hk
theorem asb {con:FuncId->I co} {b_:TypeId->I Ty} {i:Nat} {x:Operand} {st:Bool} (hc:dE P o.op=M (.ext x i)) (hk:eh con b_ (.op (.ext x i)) e h nx K=M r):ly P o st e h nx K r:=by
 simp only[eh]at hk;split at hk
 .rename_i l hv;split at hk
  .rename_i u hs;obtain⟨y,h1,h2⟩:=bL hi hv;simp only[cA]at h2;split at h2
   .rename_i z hl;simp only[ah]at h2;subst h2;obtain⟨y,s,a⟩:=lK hl i u hs;exact ly.q (k:=0) hinv hc (λH _=>by simp only[eP,h1,s]) (dH a) hk
   .cases h2
  .cases hk
 .cases hk
theorem as6 {con:FuncId->I co} {b_:TypeId->I Ty} {x:Operand} {st:Bool} (hc:dE P o.op=M (.len x)) (hk:eh con b_ (.op (.len x)) e h nx K=M r):ly P o st e h nx K r:=by
 simp only[eh]at hk;split at hk
 .rename_i v hv;split at hk
  .rename_i n hn;obtain⟨y,h1,h2⟩:=bL hi hv;have a:=R7 hn h2;exact ly.q (k:=0) hinv hc (λH _=>by simp only[eP,h1,a];rfl) (dH rfl) hk
  .cases hk
 .cases hk
theorem aoo {con:FuncId->I co} {b_:TypeId->I Ty} {x:Operand} {st:Bool} (hc:dE P o.op=M (.lens x)) (hk:eh con b_ (.op (.lens x)) e h nx K=M r):ly P o st e h nx K r:=by
 simp only[eh]at hk;split at hk
 .rename_i s hv;obtain⟨y,h1,h2⟩:=bL hi hv;simp only[cA,ah]at h2;subst h2;exact ly.q (k:=0) hinv hc (λH _=>by simp only[eP,h1,gL];rfl) (dH rfl) hk
 .cases hk
theorem aoj {con:FuncId->I co} {b_:TypeId->I Ty} {x i:Operand} {st:Bool} (hc:dE P o.op=M (.sidx x i)) (hk:eh con b_ (.op (.sidx x i)) e h nx K=M r):ly P o st e h nx K r:=by
 simp only[eh]at hk;split at hk
 .rename_i s k j hv a;obtain⟨hj,hk⟩:=ey hk;obtain⟨y,h1,h2⟩:=bL hi hv;obtain⟨Z,U,z⟩:=bL hi a;simp only[cA,ah]at h2 z;subst h2;subst z;obtain⟨L,j1,A⟩:=Fz hj;have e1:c_ 0 j=J:=by simp[c_,L]
  have e2:(⟨lj s⟩:ByteArray).data.toList[j.toNat]? =M (List.getD s j.toNat 0):=by
   show s[j.toNat]? =_;rw[av,ay A];rfl
  exact ly.q (k:=0) (y0:=raw (.int .u8 (aM (List.getD s j.toNat 0).toNat))) hinv hc (λH _=>by simp only[eP,h1,U,gL,e1,bI,e2];rfl) (dH rfl) hk
 .cases hk
theorem as8 {con:FuncId->I co} {b_:TypeId->I Ty} {sz:Nat} {x i:Operand} {st:Bool} (hc:dE P o.op=M (.iad sz x i)) (hk:eh con b_ (.op (.iad sz x i)) e h nx K=M r):ly P o st e h nx K r:=by
 simp only[eh]at hk;split at hk
 .rename_i id k j hv a;split at hk
  .rename_i ty p T xs hb;split at hk
   .rename_i hs;have hs:=ar hs;obtain⟨hj,hk⟩:=ey hk;obtain⟨y,h1,h2⟩:=bL hi hv;obtain⟨U,A,s⟩:=bL hi a;simp only[cA,ah]at s;subst s;obtain⟨j0,j1,Z⟩:=Fz hj;have hne:¬((p&&xs.length==0)=J):=by
     simp only[al,c8];omega
    simp only[cA,eM,hb,fM,aw hne,ah]at h2;subst h2;have L:(T.size==sz&&c_ 0 j&&fP j xs.length)=J:=by
     simp only[e9,al]at hj;simp[hs,hj.1,hj.2]
    exact ly.q (k:=0) hinv hc (λH _=>by simp only[eP,h1,A,gL,L,bI,dt]) (dH rfl) hk
   .cases hk
  .cases hk
 .rename_i T xs k j hv a;split at hk
  .rename_i hs;have hs:=ar hs;obtain⟨hj,hk⟩:=ey hk;obtain⟨y,h1,h2⟩:=bL hi hv;obtain⟨U,A,s⟩:=bL hi a;simp only[cA,ah]at s h2;subst s;subst h2;have z:(c_ 0 j&&fP j (ai xs))=J:=hj;exact ly.q (k:=0) hinv hc (λH _=>by simp only[eP,h1,A,gL,z,bI,dt,hs]) (dH rfl) hk
  .cases hk
 .rename_i id sz' n k j hv a;split at hk
  .rename_i hs;have hs:=ar hs;subst hs;obtain⟨hj,hk⟩:=ey hk;obtain⟨y,h1,h2⟩:=bL hi hv;obtain⟨U,A,s⟩:=bL hi a;simp only[cA,ah]at s h2;subst s;subst h2;have z:(sz'==sz'&&c_ 0 j&&fP j n)=J:=by simp only[al]at hj ⊢;exact⟨⟨c5 _,hj.1⟩,hj.2⟩
   exact ly.q (k:=0) hinv hc (λH _=>by simp only[eP,h1,A,gL,z,bI]) (dH rfl) hk
  .cases hk
 .cases hk
theorem as2 {con:FuncId->I co} {b_:TypeId->I Ty} {f:FuncId} {caps:Y Operand} {st:Bool} (hc:dE P o.op=M (.mkf f caps)) (hk:eh con b_ (.op (.mkf f caps)) e h nx K=M r):ly P o st e h nx K r:=by
 simp only[eh]at hk;split at hk
 .rename_i l hv;obtain⟨a,h1,h2⟩:=zQ hi hv;exact ly.q (k:=0) hinv hc (y0:=.clo f a) (λH _=>by simp only[eP,h1]) (dH (by simp only[cA,h2])) hk
 .cases hk
theorem asi {con:FuncId->I co} {b_:TypeId->I Ty} {op:BinOp} {x y:Operand} {st:Bool} (hc:dE P o.op=M (.bin op x y)) (hk:eh con b_ (.op (.bin op x y)) e h nx K=M r):ly P o st e h nx K r:=by
 simp only[eh]at hk;split at hk
 .rename_i u v hv s;obtain⟨a,b,c,t,h1,h2,h3,h4,Z⟩:=aj7 (h:=h) hk;obtain⟨y,U,L⟩:=bL hi hv;obtain⟨y2,A,z⟩:=bL hi s;rw[h1]at L;cases L;rw[h2]at z;cases z;simp only[raw]at U A;exact ly.q (k:=0) hinv hc (λH _=>by simp only[eP,U,A,h3]) (dH h4) Z
 .cases hk
end ops
def nz:iB->I (Bool×Nat×Nat)
 |.rows _ p T xs=>M (p,T.size,xs.length)
 |.dead p sz n=>M (p,sz,n)
 |_=>D
theorem bV (h:bk) (i:Nat):eM h i=(h.get i).bind nz:=by
 unfold eM;cases h.get i with
 |none=>rfl
 |some b=>cases b<;>rfl
theorem ch.refl (h:bk):ch h h:=λ_ _ h=>h
theorem ch.trans {a b c:bk} (h1:ch a b) (h2:ch b c):ch a c:=λi r h=>h2 i r (h1 i r h)
theorem ch.set {h:bk} {i:Nat} {b:iB} (hb:∀r,eM h i=M r->nz b=M r):ch h (h.set i (M b)):=λj r hj=>by
 rw[bV,PT.get_set];by_cases e:j=i
 .subst e;rw[aC rfl];exact hb r hj
 .rw[aw e,<-bV];exact hj
theorem NQ {b:iB} {r:Bool×Nat×Nat} (h:nz b=M r):nz (vV b)=M r:=by cases b<;>first|exact h|cases h
theorem jr (m:Nat) (h:bk) (i:Nat):(eJ m h).get i=if aO m i then (h.get i).map vV else h.get i:=by
 unfold eJ;split
 .rename_i hm;have:=ar hm;subst this;simp
 .rw[PT.get_updI];simp only[Nat.one_mul,dt];cases h.get i with
  |none=>simp
  |some b=>simp only[ct];split<;>rfl
theorem ch.kill (m:Nat) (h:bk):ch h (eJ m h):=λi r hr=>by
 rw[bV]at hr ⊢;rw[jr];split
 .cases hb:h.get i with
  |none=>rw[hb]at hr;cases hr
  |some b=>rw[hb]at hr;exact NQ hr
 .exact hr
theorem mH.set {h:bk} {nx nx' i:Nat} {b:iB} (hi:mH h nx) (hr:ch h (h.set i (M b))) (hlt:i<nx') (hle:nx<=nx') (hb:∀ty l,b= .cells ty l->lz (h.set i (M b)) l=J):mH (h.set i (M b)) nx':=by
 refine ⟨λj ty l hj=>?_,λj c hj=>?_⟩
 .rw[PT.get_set]at hj;split at hj
  .simp only[ah]at hj;exact hb ty l hj
  .exact jm hr l (hi.cells j _ l hj)
 .rw[PT.get_set]at hj;split at hj
  .rename_i e;subst e;exact hlt
  .exact dK (hi.low j c hj) hle
theorem mH.kill {h:bk} {nx:Nat} (hi:mH h nx) (m:Nat):mH (eJ m h) nx:=by
 refine ⟨λj ty l hj=>?_,λj c hj=>?_⟩
 .rw[jr]at hj;refine jm (ch.kill m h) l (hi.cells j ty l ?_);split at hj
  .cases hb:h.get j with
   |none=>rw[hb]at hj;cases hj
   |some b=>rw[hb]at hj;cases b<;>simp[vV]at hj
  .exact hj
 .rw[jr]at hj;split at hj
  .cases hb:h.get j with
   |none=>rw[hb]at hj;cases hj
   |some b=>exact hi.low j b hb
  .exact hi.low j c hj
theorem KA {h h':bk} (hr:ch h h') {b:iB} (hb:∀ty l,b= .cells ty l->lz h l=J):jN h' b=jN h b:=by
 cases b with
 |cells ty l=>
  obtain⟨a,hl⟩:=fx h l (hb ty l rfl);cases ty<;>simp only[jN,hl,gy hr l a hl]
 |_=>rfl
theorem aa3 {h h':bk} {nx i:Nat} (hi:mH h nx) (hr:ch h h') (hg:h'.get i=h.get i):bz h' (nm i)=bz h (nm i):=by
 rw[bH,bH,hg];cases hb:h.get i with
 |none=>rfl
 |some b=>exact KA hr λty l e=>hi.cells i _ l (by rw[hb,e])
theorem xt (h:bk) {n:Nat} (hn:¬∃i,n=nm i):bz h n=D:=by
 unfold bz;rw[aw];intro h2;exact hn ⟨n/2,by unfold nm;omega⟩
theorem kN {h h':bk} {nx:Nat} (hi:mH h nx) (hr:ch h h') {n:Nat} (hg:∀i,n=nm i->h'.get i=h.get i):bz h' n=bz h n:=by
 by_cases hn:∃i,n=nm i
 .obtain⟨i,rfl⟩:=hn;exact aa3 hi hr (hg i rfl)
 .rw[xt h hn,xt h' hn]
def GM (m:Nat):ι:=(afg m).map nm
theorem oB {m n:Nat}:n∈GM m↔∃i,n=nm i/\aO m i=J:=by
 unfold GM;rw[du];constructor
 .rintro⟨i,h1,rfl⟩;exact⟨i,rfl,N3.1 h1⟩
 .rintro⟨i,rfl,h1⟩;exact⟨i,N3.2 h1,rfl⟩
theorem mi {m i:Nat}:nm i∈GM m↔aO m i=J:=by
 rw[oB];constructor
 .rintro⟨j,h1,h2⟩;rw[lA h1];exact h2
 .exact λh=>⟨i,rfl,h⟩
def dX (h:bk) (m:Nat):Prop:=∀i,aO m i=J->∃ty p T xs,h.get i=M (.rows ty p T xs)
theorem dX.zero (h:bk):dX h 0:=λi hi=>by simp at hi
theorem dX.or {h:bk} {a b:Nat} (s:dX h a) (hb:dX h b):dX h (a|||b):=λi hi=>by
 rw[bu,ji]at hi;exact hi.elim (s i) (hb i)
theorem od {h:bk} {T:Ty} {v:TV} {x:T.den} {m:Nat} (a:iW h T v=M (x,m)):dX h m:=by
 cases v with
 |f S v=>
  simp only[iW]at a;split at a
  .simp only[ah,aE]at a;rw[<- a.2];exact dX.zero h
  .cases a
 |emp=>
  simp only[iW]at a;split at a
  .simp only[ah,aE]at a;rw[<- a.2];exact dX.zero h
  .cases a
 |nil=>
  simp only[iW]at a;split at a
  .simp only[ah,aE]at a;rw[<- a.2];exact dX.zero h
  .cases a
 |row id=>
  simp only[iW]at a;split at a
  .rename_i ty p S xs hb;split at a
   .simp only[ah,aE]at a;rw[<- a.2];intro i hi;have:=b9.1 hi;subst this;exact⟨ty,p,S,xs,hb⟩
   .cases a
  .cases a
 |fel T xs j hj off=>simp[iW]at a
 |pel id sz j off=>simp[iW]at a
 |ptr id off=>simp[iW]at a
 |csl id off z=>simp[iW]at a
 |mp id=>simp[iW]at a
 |rtl id s=>simp[iW]at a
 |agg q=>simp[iW]at a
 |tup q=>simp[iW]at a
 |clo f q=>simp[iW]at a
 |undef=>simp[iW]at a
 |np=>simp[iW]at a
 |anyb=>simp[iW]at a
theorem vQ {h:bk}:∀(n:Nat) (T:Ty) (l:Y TV) (x:T.den) (m:Nat) (r:Y TV),fh h n T l=M (x,m,r)->dX h m
 |0,_,_,_,_,_,hp=>by simp[fh]at hp
 |n+1,.st t,l,x,m,r,hp=>vQ n t l x m r hp
 |n+1,.pr a b,l,x,m,r,hp=>by
  simp only[fh]at hp;split at hp
  .rename_i s m1 r1 h1;split at hp
   .rename_i z m2 r2 h2;simp only[ah,aE]at hp;obtain⟨_,rfl,_⟩:=hp;exact (vQ n a l s m1 r1 h1).or (vQ n b r1 z m2 r2 h2)
   .cases hp
  .cases hp
 |n+1,.un,l,x,m,r,hp=>by
  simp only[fh,ah,aE]at hp;obtain⟨_,rfl,_⟩:=hp;exact dX.zero h
 |n+1,.ex,l,x,m,r,hp=>by
  simp only[fh]at hp;split at hp
  .rename_i s m1 r1 h1;simp only[ah,aE]at hp;obtain⟨_,rfl,_⟩:=hp;exact vQ n Oj l s m1 r1 h1
  .cases hp
 |n+1,.sm,l,x,m,r,hp=>by
  simp only[fh]at hp;split at hp
  .rename_i s m1 r1 h1;simp only[ah,aE]at hp;obtain⟨_,rfl,_⟩:=hp;exact vQ n NL l s m1 r1 h1
  .cases hp
 |n+1,.int k,l,x,m,r,hp=>by
  simp only[fh]at hp;split at hp
  .split at hp
   .rename_i s m1 h1;simp only[ah,aE]at hp;obtain⟨_,rfl,_⟩:=hp;exact od h1
   .cases hp
  .cases hp
 |n+1,.bool,l,x,m,r,hp=>by
  simp only[fh]at hp;split at hp
  .split at hp
   .rename_i s m1 h1;simp only[ah,aE]at hp;obtain⟨_,rfl,_⟩:=hp;exact od h1
   .cases hp
  .cases hp
 |n+1,.str,l,x,m,r,hp=>by
  simp only[fh]at hp;split at hp
  .split at hp
   .rename_i s m1 h1;simp only[ah,aE]at hp;obtain⟨_,rfl,_⟩:=hp;exact od h1
   .cases hp
  .cases hp
 |n+1,.sl t,l,x,m,r,hp=>by
  simp only[fh]at hp;split at hp
  .split at hp
   .rename_i s m1 h1;simp only[ah,aE]at hp;obtain⟨_,rfl,_⟩:=hp;exact od h1
   .cases hp
  .cases hp
theorem Ze {h:bk} {T:Ty} {v:TV} {x:T.den} {m:Nat} (a:ER h T v=M (x,m)):dX h m:=by
 cases v with
 |agg l=>
  simp only[ER]at a;split at a
  .cases a
  .split at a
   .rename_i s m1 h1;simp only[ah,aE]at a;obtain⟨_,rfl⟩:=a;exact vQ 40 T l s m1 [] h1
   .cases a
 |f S v=>exact od (v:=.f S v) a
 |fel T xs j hj off=>exact od (v:=.fel T xs j hj off) a
 |pel id sz j off=>exact od (v:=.pel id sz j off) a
 |ptr id off=>exact od (v:=.ptr id off) a
 |csl id off z=>exact od (v:=.csl id off z) a
 |row id=>exact od (v:=.row id) a
 |emp=>exact od (v:=.emp) a
 |nil=>exact od (v:=.nil) a
 |mp id=>exact od (v:=.mp id) a
 |rtl id A=>exact od (v:=.rtl id A) a
 |tup q=>exact od (v:=.tup q) a
 |clo g q=>exact od (v:=.clo g q) a
 |undef=>exact od (v:=.undef) a
 |np=>exact od (v:=.np) a
 |anyb=>exact od (v:=.anyb) a
theorem Pr {h:bk} {T:Ty}:∀(n:Nat) (l:Y TV) (xs:Y T.den) (m:Nat),zO h T n l=M (xs,m)->dX h m
 |0,[],xs,m,hp=>by simp only[zO,ah,aE]at hp;rw[<- hp.2];exact dX.zero h
 |0,_::_,xs,m,hp=>by simp[zO]at hp
 |n+1,l,xs,m,hp=>by
  simp only[zO]at hp;split at hp
  .rename_i s m1 r1 h1;split at hp
   .rename_i a m2 h2;simp only[ah,aE]at hp;obtain⟨_,rfl⟩:=hp;exact (vQ 40 T l s m1 r1 h1).or (Pr n r1 a m2 h2)
   .cases hp
  .cases hp
theorem AT {h:bk} {u:TV}:∀(n:Nat) (T:Ty) (v:T.den) (off sz:Nat) (z:T.den) (m:Nat),hZ h u n T v off sz=M (z,m)->dX h m
 |0,_,_,_,_,_,_,hg=>by simp[hZ]at hg
 |n+1,.st t,v,off,sz,z,m,hg=>by
  simp only[hZ]at hg;split at hg
  .rename_i q hq;split at hq
   .simp only[ah]at hg;subst hg;exact Ze hq
   .cases hq
  .exact AT n t v off sz z m hg
 |n+1,.pr a b,v,off,sz,z,m,hg=>by
  simp only[hZ]at hg;split at hg
  .split at hg
   .rename_i s m1 h1;simp only[ah,aE]at hg;obtain⟨_,rfl⟩:=hg;exact AT n a v.1 off sz s m1 h1
   .cases hg
  .split at hg
   .rename_i s m1 h1;simp only[ah,aE]at hg;obtain⟨_,rfl⟩:=hg;exact AT n b v.2 _ sz s m1 h1
   .cases hg
 |n+1,.un,v,off,sz,z,m,hg=>by simp[hZ]at hg
 |n+1,.ex,v,off,sz,z,m,hg=>by
  simp only[hZ]at hg;split at hg
  .rename_i q hq;split at hq
   .simp only[ah]at hg;subst hg;exact Ze hq
   .cases hq
  .split at hg
   .rename_i s m1 h1;simp only[ah,aE]at hg;obtain⟨_,rfl⟩:=hg;exact AT n Oj _ off sz s m1 h1
   .cases hg
 |n+1,.sm,v,off,sz,z,m,hg=>by
  simp only[hZ]at hg;split at hg
  .rename_i q hq;split at hq
   .simp only[ah]at hg;subst hg;exact Ze hq
   .cases hq
  .split at hg
   .rename_i s m1 h1;simp only[ah,aE]at hg;obtain⟨_,rfl⟩:=hg;exact AT n NL _ off sz s m1 h1
   .cases hg
 |n+1,.int k,v,off,sz,z,m,hg=>by
  simp only[hZ]at hg;split at hg
  .exact od hg
  .cases hg
 |n+1,.bool,v,off,sz,z,m,hg=>by
  simp only[hZ]at hg;split at hg
  .exact od hg
  .cases hg
 |n+1,.str,v,off,sz,z,m,hg=>by
  simp only[hZ]at hg;split at hg
  .exact od hg
  .cases hg
 |n+1,.sl t,v,off,sz,z,m,hg=>by
  simp only[hZ]at hg;split at hg
  .exact od hg
  .cases hg
theorem uB {h:bk} {m i:Nat} (hm:dX h m) (hb:aO m i=J):∃p sz n,(eJ m h).get i=M (.dead p sz n):=by
 obtain⟨ty,p,T,xs,h1⟩:=hm i hb;exact⟨p,T.size,xs.length,by rw[jr,aC hb,h1];rfl⟩
section ops
variable {R:Type} {P:Program} {o:Oper} {e:jd} {h:bk} {nx:Nat} {K:KO R} {r:R}
theorem iD (n:Nat) (b:wK):jz [(n,b)] n=M b:=by simp[jz]
theorem jb.mk' {s:SOp} (hc:dE P o.op=M s) {H:oL} (hH:H.get=bz h) {k:Nat} {y0:AV} {rdl wrl N:ι} {nw:NW} (ha:eP s (Kz e h) H k=M ⟨y0,rdl,wrl,nw,N⟩) {v:TV} {h':bk} {nx' rd wr:Nat} (wr':ι)
 (hsub:∀i∈wrl,i∈wr') (hsame:∀n,n∉wr'->bz h' n=bz h n)
 (hdom:∀i∈wr',∀b',bz h' i=M b'->∃b,(if i∈wrl then jz nw i else bz h i)=M b)
 (hblk:∀(U H2:HF),vK U H2->(∀i∈wrl,U i=jz nw i)->(∀i∈wr',i∉wrl->U i=bz h i)->(∀i∈wr',H2 i=bz h' i)->(∀i∈wr',∀b b',U i=M b->H2 i=M b'->iS U H2 b b')/\∀y,cA h' v=M y->ma U H2 y0 y)
 (hrd:∀n∈rdl,aO rd (ow n)=J) (hwr:∀n∈wr',aO wr (ow n)=J) (hN:∀n∈N,nx<=ow n/\ow n<nx') (hrows:ch h h') (hinv':mH h' nx') (hg:nx<=nx'):jb P o af e h nx v rd wr h' nx':=by
 have ht:=Jz hc ha;rw[v8,hH]at ht;refine ⟨?_,hrows,hinv',hg,λhs=>by cases hs⟩;have base:∀(val:AV),(∀y,cA h' v=M y->y=val)->(cA h' v=D->val=y0)->gZ P o (fV e h) (bz h) ⟨val,rdl,wr',bz h',N⟩:=by
  intro val hval hnone;refine gZ.view ht (λi hi=>.inl (hsub i hi)) λh1 hr1 Z=>?_
  have hd:vK (eZ h1 wrl (jz nw)) (eZ h1 wr' (bz h')):=by
   intro i b hb;unfold eZ at hb ⊢;by_cases hi:i∈wr'
   .rw[aC hi]at hb;obtain⟨b0,z⟩:=hdom i hi b hb;refine ⟨b0,?_⟩;by_cases L:i∈wrl
    .rw[aC L]at z ⊢;exact z
    .rw[aw L]at z ⊢;rw[Z i hi];exact z
   .rw[aw hi]at hb;rw[aw (λL=>hi (hsub i L))];exact⟨b,hb⟩
  obtain⟨q1,q2⟩:=hblk _ _ hd (λi hi=>by unfold eZ;rw[aC hi]) (λi hi L=>by unfold eZ;rw[aw L];exact Z i hi) (λi hi=>by unfold eZ;rw[aC hi]);refine ⟨⟨hd,λi b b' hb A=>?_⟩,?_⟩
  .by_cases hi:i∈wr'
   .exact q1 i hi b b' hb A
   .unfold eZ at hb A;rw[aw (λL=>hi (hsub i L))]at hb;rw[aw hi,hb]at A;cases A;exact iS.refl hd b
  .cases hv:cA h' v with
   |none=>rw[hnone hv];exact ma.refl hd _
   |some y=>rw[<- hval y hv];exact q2 y hv
 have hu:eZ (bz h) wr' (bz h')=bz h':=by
  funext n;unfold eZ;split
  .rfl
  .rename_i hn;exact (hsame n hn).symm
 cases hv:cA h' v with
 |none=>exact⟨_,base y0 (λy a=>by rw[hv]at a;cases a) (λ_=>rfl),λy a=>(by cases a),hu,hrd,hwr,hN⟩
 |some y=>exact⟨_,base y (λy' a=>by rw[hv]at a;cases a;rfl) (λhn=>by rw[hv]at hn;cases hn),λy' a=>by cases a;rfl,hu,hrd,hwr,hN⟩
theorem D5 (hi:ut e h):∀(parts:Y (Nat×Nat×Operand)) (cells cs:Y TV) (cells':Y AV),Ku cells e parts=M cs->cP h cells=M cells'->∃cs',Al cells' (Kz e h) parts=M cs'/\cP h cs=M cs'/\(kV cells=J->kV cs=J)
 |[],cells,cs,cells',hf,he=>by simp only[Ku,ah]at hf;subst hf;exact⟨cells',rfl,he,id⟩
 |(off,sz,x)::rest,cells,cs,cells',hf,he=>by
  simp only[Ku]at hf;split at hf
  .rename_i v hv;split at hf
   .rename_i q hq;split at hf
    .rename_i hc;simp only[al,c8]at hc;obtain⟨y,h1,h2⟩:=bL hi hv;obtain⟨L,h4⟩:=Ls hq h2;obtain⟨cs',h5,Z,U⟩:=D5 hi rest (splice cells off q) cs (splice cells' off y.cs) hf (qy off he L);refine ⟨cs',?_,Z,λs=>U ?_⟩
     .simp only[Al,h1];rw[aC,h5];simp only[al,c8];exact⟨⟨by rw[gU L];exact hc.1,by rw[gU he];exact hc.2⟩,sU L h4⟩
     .clear h5 Z U hf;have app:∀a b:Y TV,kV a=J->kV b=J->kV (a++b)=J:=by
       intro a b s hb;induction a with
       |nil=>exact hb
       |cons z r A=>simp only[kV,al,fR]at s ⊢;exact⟨s.1,A s.2⟩
      have tk:∀(a:Y TV) n,kV a=J->kV (a.take n)=J:=by
       intro a;induction a with
       |nil=>intro n h;simp[kV]
       |cons z r A=>
        intro n h;cases n with
        |zero=>rfl
        |succ n=>simp only[kV,al,wL]at h ⊢;exact⟨h.1,A n h.2⟩
      have dr:∀(a:Y TV) n,kV a=J->kV (a.drop n)=J:=by
       intro a;induction a with
       |nil=>intro n h;simp[kV]
       |cons z r A=>
        intro n h;cases n with
        |zero=>exact h
        |succ n=>simp only[kV,al,wO]at h ⊢;exact A n h.2
      unfold splice;exact app _ _ (app _ _ (tk _ _ s) h4) (dr _ _ s)
    .cases hf
   .cases hf
  .cases hf
variable (hinv:mH h nx) (hi:ut e h)
include hinv hi
theorem ak2 {con:FuncId->I co} {b_:TypeId->I Ty} {z:ξ} {parts:Y (Nat×Nat×Operand)} {st:Bool} (hc:dE P o.op=M (.build z parts)) (hk:eh con b_ (.op (.build z parts)) e h nx K=M r):ly P o st e h nx K r:=by
 simp only[eh]at hk;split at hk
 .rename_i l hl;split at hk
  .rename_i cs hf;obtain⟨h1,_,_⟩:=wh h hl;obtain⟨cs',h2,s,_⟩:=D5 hi parts l cs _ hf h1;refine ly.q (k:=0) (y0:=NZ cs') hinv hc (λH _=>by simp only[eP,h2]) (λy a=>?_) hk;simp only[cA,s,ah]at a;subst a;exact ads cs'
  .cases hk
 .cases hk
theorem aon {con:FuncId->I co} {b_:TypeId->I Ty} {sz:Nat} {ag:Bool} {x:Operand} (hc:dE P o.op=M (.load sz ag x)) (hk:eh con b_ (.op (.load sz ag x)) e h nx K=M r):ly P o af e h nx K r:=by
 obtain⟨H,s⟩:=j7 h;simp only[eh]at hk;split at hk
 .rename_i id off hv;obtain⟨y,h1,h2⟩:=bL hi hv;simp only[cA,ah]at h2;subst h2;split at hk
  .rename_i ty l hb;split at hk
   .rename_i v hs;obtain⟨U,hl⟩:=fx h l (hinv.cells id _ l hb);obtain⟨y,L,A⟩:=Yf hl hs;have hg:H.get (nm id)=M ⟨ty,.mx U⟩:=by rw[s,bH,hb];simp only[aG,jN,hl]
    exact⟨v,kQ id,0,h,nx,hk,jb.pure (k:=0) hinv hc s (y0:=y) (rdl:=[nm id]) (by simp only[eP,h1,ES,hg,A]) (dH L) (λn hn=>by simp only[aI]at hn;subst hn;rw[d_];exact b9.2 rfl) (λh=>by cases h)⟩
   .cases hk
  .cases hk
 .rename_i id sz' j off hv;obtain⟨y,h1,h2⟩:=bL hi hv;simp only[cA,ah]at h2;subst h2;split at hk
  .rename_i ty p T xs hb;split at hk
   .rename_i hsz;have hsz:=ar hsz;obtain⟨hj,hk⟩:=ey hk;split at hk
    .rename_i v hs;obtain⟨y,L,A⟩:=akf (h:=h) hj hs;have hne:¬((p&&xs.length==0)=J):=by
      have:=Fz hj;simp only[al,c8];omega
     have hg:H.get (nm id)=M ⟨ty,.fz (xs.flatMap (bX T))⟩:=by rw[s,bH,hb];simp only[aG,jN,aw hne]
     exact⟨v,kQ id,0,h,nx,hk,jb.pure (k:=0) hinv hc s (y0:=.f y) (rdl:=[nm id]) (by simp only[eP,h1,ES,hg,hsz,A]) (dH L) (λn hn=>by simp only[aI]at hn;subst hn;rw[d_];exact b9.2 rfl) (λh=>by cases h)⟩
    .cases hk
   .cases hk
  .rename_i ty l hb;split at hk
   .cases hk
   .split at hk
    .rename_i hsz;simp only[al]at hsz;have e1:=ar hsz.1.1;have e2:=ar hsz.1.2;have e3:=ar hsz.2;subst e1;subst e2;subst e3;split at hk
     .rename_i T xs hA;obtain⟨hj,hk⟩:=ey hk;obtain⟨U,hl⟩:=fx h l (hinv.cells id _ l hb);have hg:H.get (nm id)=M ⟨ty,.mx U⟩:=by rw[s,bH,hb];simp only[aG,jN,hl]
      have hlt:j.toNat<l.length:=by
       simp only[e9,al,c_,fP,bc]at hj;omega
      obtain⟨z,Z,a⟩:=lK hl j.toNat _ (Zf hA j.toNat hlt);have a:cA h (.f T (aJ xs j))=M z:=a;exact⟨_,kQ id,0,h,nx,hk,jb.pure (k:=0) hinv hc s (y0:=z) (rdl:=[nm id]) (by simp only[eP,h1,ES,hg,BC.sub?,BC.get,Nat.mul_one,dt,Z]) (dH a) (λn hn=>by simp only[aI]at hn;subst hn;rw[d_];exact b9.2 rfl) (λh=>by cases h)⟩
     .cases hk
    .cases hk
  .cases hk
 .rename_i T xs j hj off hv;obtain⟨y,h1,h2⟩:=bL hi hv;simp only[cA,ah]at h2;subst h2;split at hk
  .rename_i v hs;obtain⟨y,L,A⟩:=akf (h:=h) hj hs;exact ly.q (k:=0) (y0:=.f y) hinv hc (λH _=>by simp only[eP,h1,ES,A]) (dH L) hk
  .cases hk
 .cases hk
theorem ak3 {con:FuncId->I co} {b_:TypeId->I Ty} {ty:TypeId} {z:ξ} (hc:dE P o.op=M (.alloc ty z)) (hk:eh con b_ (.op (.alloc ty z)) e h nx K=M r):ly P o af e h nx K r:=by
 have _:=hi;obtain⟨H,hH⟩:=j7 h;simp only[eh]at hk;split at hk
 .rename_i l hl;obtain⟨_,hz,_⟩:=wh h hl;have hnone:h.get nx=D:=by
   cases hb:h.get nx with
   |none=>rfl
   |some b=>have:=hinv.low nx b hb;omega
  have hr:ch h (h.set nx (M (.cells (M ty) l))):=ch.set λr hr=>by rw[bV,hnone]at hr;cases hr
  obtain⟨h1,_,_⟩:=wh (h.set nx (M (.cells (M ty) l))) hl;have L:bz (h.set nx (M (.cells (M ty) l))) (nm nx)=M ⟨ty,.mx (z.map raw)⟩:=by rw[bH,PT.get_set,aC rfl];simp only[aG,jN,h1]
  refine ⟨_,_,_,_,_,hk,jb.mk' hc hH (k:=nm nx) (by simp only[eP];rfl) [nm nx] (λi hi=>hi) (λn hn=>?_) (λi hi b' _=>⟨⟨ty,.fz (z.map .raw)⟩,?_⟩) (λH1 H2 d A _ s=>⟨λi hi b b' hb a=>?_,λy U=>?_⟩) (by simp) ?_ ?_ hr (hinv.set hr (by omega) (by omega) λty' l' he=>?_) (by omega)⟩
  .refine kN hinv hr λi e=>?_
   subst e;rw[PT.get_set,aw (λe=>hn (by rw[e];simp))]
  .rw[aC hi];simp only[aI]at hi;subst hi;simp[jz]
  .simp only[aI]at hi;subst hi;rw[A _ (by simp)]at hb;rw[s _ (by simp),L]at a;rw[iD]at hb;simp only[ah]at hb a;subst hb;subst a;refine iS.cells rfl rfl ?_ λx Z=>?_
   .simp only[BC.toMx,IC];exact il.refl d _
   .simp only[BC.toMx]at Z;obtain⟨q,hq,rfl⟩:=du.1 Z;exact hz q hq
  .simp only[cA,ah]at U;subst U;exact ma.refl d _
  .intro n hn;simp only[aI]at hn;subst hn;rw[d_];exact b9.2 rfl
  .intro n hn;simp only[aI]at hn;subst hn;rw[d_];omega
  .cases he;exact kh _ _ _ h1
 .cases hk
theorem ash {con:FuncId->I co} {b_:TypeId->I Ty} {ty:TypeId} {x:Operand} (hc:dE P o.op=M (.box ty x)) (hk:eh con b_ (.op (.box ty x)) e h nx K=M r):ly P o af e h nx K r:=by
 obtain⟨H,hH⟩:=j7 h;simp only[eh]at hk;split at hk
 .rename_i v hv;split at hk
  .rename_i l hl;obtain⟨y,h1,h2⟩:=bL hi hv;obtain⟨Z,h4⟩:=Ls hl h2;have hcell:=sU Z h4;have hnone:h.get nx=D:=by
    cases hb:h.get nx with
    |none=>rfl
    |some b=>have:=hinv.low nx b hb;omega
   have hr:ch h (h.set nx (M (.cells (M ty) l))):=ch.set λr hr=>by rw[bV,hnone]at hr;cases hr
   have U:=gy hr l _ Z;have A:bz (h.set nx (M (.cells (M ty) l))) (nm nx)=M ⟨ty,.mx y.cs⟩:=by rw[bH,PT.get_set,aC rfl];simp only[aG,jN,U]
   refine ⟨_,_,_,_,_,hk,jb.mk' hc hH (k:=nm nx) (by simp only[eP,h1,hcell,bI];rfl) [nm nx] (λi hi=>hi) (λn hn=>?_) (λi hi b' _=>⟨⟨ty,pZ y.cs⟩,?_⟩) (λH1 H2 d z _ s=>⟨λi hi b b' hb a=>?_,λy L=>?_⟩) (by simp) ?_ ?_ hr (hinv.set hr (by omega) (by omega) λty' l' he=>?_) (by omega)⟩
   .refine kN hinv hr λi e=>?_
    subst e;rw[PT.get_set,aw (λe=>hn (by rw[e];simp))]
   .rw[aC hi];simp only[aI]at hi;subst hi;simp[jz]
   .simp only[aI]at hi;subst hi;rw[z _ (by simp)]at hb;rw[s _ (by simp),A]at a;rw[iD]at hb;simp only[ah]at hb a;subst hb;subst a;obtain⟨q1,q2⟩:=oA y.cs;refine iS.cells q2 rfl ?_ λx hx=>?_
    .rw[q1];exact il.refl d _
    .exact mr hcell x hx
   .simp only[cA,ah]at L;subst L;exact ma.refl d _
   .intro n hn;simp only[aI]at hn;subst hn;rw[d_];exact b9.2 rfl
   .intro n hn;simp only[aI]at hn;subst hn;rw[d_];omega
   .cases he;exact kh _ _ _ U
  .cases hk
 .cases hk
theorem ak0 {con:FuncId->I co} {b_:TypeId->I Ty} {ty:TypeId} {sz bytes:Nat} {z:ξ} {l c:Operand} (hcm:EI (b_ ty)=D) (hc:dE P o.op=M (.mksl ty sz bytes z l c)) (hk:eh con b_ (.op (.mksl ty sz bytes z l c)) e h nx K=M r):ly P o af e h nx K r:=by
 obtain⟨H,hH⟩:=j7 h;simp only[eh,hcm]at hk;split at hk
 .rename_i T k a k' b hT hv U;split at hk
  .rename_i hsz;simp only[al]at hsz;have hs:=ar hsz.1;have hz:=LO hsz.2;subst hs;subst hz;obtain⟨hck,hk⟩:=ey hk;obtain⟨y,h1,h2⟩:=bL hi hv;obtain⟨y2,h3,h4⟩:=bL hi U;simp only[cA,ah]at h2 h4;subst h2;subst h4;have hnone:h.get nx=D:=by
    cases hb:h.get nx with
    |none=>rfl
    |some b=>have:=hinv.low nx b hb;omega
   generalize hB:iB.rows ty af T (aA (aQ a) T.zero)=B at hk;have hr:ch h (h.set nx (M B)):=ch.set λr hr=>by rw[bV,hnone]at hr;cases hr
   have Z:bz (h.set nx (M B)) (nm nx)=M ⟨ty,.fz ((aA (aQ a) T.zero).flatMap (bX T))⟩:=by rw[bH,PT.get_set,aC rfl,<-hB];simp[jN]
   refine ⟨_,_,_,_,_,hk,jb.mk' hc hH (k:=nm nx) (by simp only[eP,h1,h3,gL,hck,bI];rfl) [nm nx] (λi hi=>hi) (λn hn=>?_) (λi hi b' _=>⟨⟨ty,.fz (repl (tV T) (aQ a))⟩,?_⟩) (λH1 H2 d L _ A=>⟨λi hi b b' hb s=>?_,λy hy=>?_⟩) (by simp) ?_ ?_ hr (hinv.set hr (by omega) (by omega) λty' l' he=>?_) (by omega)⟩
   .refine kN hinv hr λi e=>?_
    subst e;rw[PT.get_set,aw (λe=>hn (by rw[e];simp))]
   .rw[aC hi];simp only[aI]at hi;subst hi;simp[jz]
   .simp only[aI]at hi;subst hi;rw[L _ (by simp)]at hb;rw[A _ (by simp),Z]at s;rw[iD]at hb;simp only[ah]at hb s;subst hb;subst s;refine iS.cells rfl rfl (II d T _) λx hx=>?_
    simp only[BC.toMx]at hx;obtain⟨q,hq,rfl⟩:=du.1 hx;exact su T _ q hq
   .simp only[cA,bV,PT.get_set,bI,<-hB,aG,nz,fM,lX,cG,ec,ah,bW]at hy;subst hy;exact ma.refl d _
   .intro n hn;simp only[aI]at hn;subst hn;rw[d_];exact b9.2 rfl
   .intro n hn;simp only[aI]at hn;subst hn;rw[d_];omega
   .rw[<- hB]at he;cases he
  .cases hk
 .cases hk
end ops
theorem Bc {α:Type} {f:α->Y FV} {n:Nat} (hf:∀x,(f x).length=n):∀(xs:Y α) (j:Nat),(xs.take j).flatMap f=(xs.flatMap f).take (j*n)
 |[],j=>by simp
 |x::r,0=>by simp
 |x::r,j+1=>by
  rw[wL,fY,fY,Bc hf r j,show (j+1)*n=(f x).length+j*n from by rw[hf,jf];omega,List.take_length_add_append]
theorem Kt {α:Type} {f:α->Y FV} {n:Nat} (hf:∀x,(f x).length=n):∀(xs:Y α) (j:Nat),(xs.drop j).flatMap f=(xs.flatMap f).drop (j*n)
 |[],j=>by simp
 |x::r,0=>by simp
 |x::r,j+1=>by
  rw[wO,fY,Kt hf r j,show (j+1)*n=(f x).length+j*n from by rw[hf,jf];omega,List.drop_length_add_append]
theorem RL {z:ξ}:∀(n:Nat) (x:FV),x∈repl z n->∃v∈z,x= .raw v
 |0,x,h=>by simp[repl]at h
 |n+1,x,h=>by
  rw[repl,bG]at h;rcases h with h|h
  .obtain⟨v,hv,rfl⟩:=du.1 h;exact⟨v,hv,rfl⟩
  .exact RL n x h
theorem HO:∀l:Y FV,(∀x∈l,x.isCell=J)->gX (l.map .f)=J
 |[],_=>rfl
 |z::r,h=>by simp only[eV,gX,al];exact⟨h z (by simp),HO r λx a=>h x (by simp[a])⟩
section ops
variable {R:Type} {P:Program} {o:Oper} {e:jd} {h:bk} {nx:Nat} {K:KO R} {r:R}
theorem mH.fresh (hinv:mH h nx):h.get nx=D:=by
 cases hb:h.get nx with
 |none=>rfl
 |some b=>have:=hinv.low nx b hb;omega
theorem dX.lt (hinv:mH h nx) {m:Nat} (hm:dX h m) {i:Nat} (hi:aO m i=J):i<nx:=by
 obtain⟨_,_,_,_,hb⟩:=hm i hi;exact hinv.low i _ hb
theorem jb.new {s:SOp} (hinv:mH h nx) (hc:dE P o.op=M s) {H:oL} (hH:H.get=bz h) {y0:AV} {rdl:ι} {b0:wK} (ha:eP s (Kz e h) H (nm nx)=M ⟨y0,rdl,[nm nx],[(nm nx,b0)],[nm nx]⟩) {B:iB} {v:TV} {m rd:Nat} (hm:dX h m)
 (hB:∀ty l,B= .cells ty l->lz ((eJ m h).set nx (M B)) l=J)
 (hblk:∀z a,vK z a->E_ h z a m->∀b',jN ((eJ m h).set nx (M B)) B=M b'->iS z a b0 b')
 (hval:∀z a y,vK z a->E_ h z a m->cA ((eJ m h).set nx (M B)) v=M y->ma z a y0 y)
 (hrd:∀n∈rdl,aO rd (ow n)=J):jb P o af e h nx v rd (m|||kQ nx) ((eJ m h).set nx (M B)) (nx+1):=by
 have hk:=hinv.kill m;have hr0:=ch.kill m h;have U:ch (eJ m h) ((eJ m h).set nx (M B)):=ch.set λr hr=>by rw[bV,hk.fresh]at hr;cases hr
 have hr:=hr0.trans U;have hgiv:∀i,aO m i=J->bz ((eJ m h).set nx (M B)) (nm i)=D:=λi hi=>by
  have hlt:=hm.lt hinv hi;obtain⟨p,sz,n,hd⟩:=uB hm hi;rw[bH,PT.get_set,aw (by omega),hd];rfl
 refine jb.mk' hc hH ha (nm nx::GM m) (λi hi=>by simp only[aI]at hi;subst hi;simp) (λn hn=>?_) (λi hi b' Z=>?_) (λz a d hw1 hw0 L=>?_) hrd ?_ ?_ hr (hk.set U (by omega) (by omega) hB) (by omega)
 .refine kN hinv hr λi e=>?_
  subst e;rw[PT.get_set,aw (λe=>hn (by rw[e];simp)),jr,aw];intro hb;exact hn (cC _ (mi.2 hb))
 .rcases bm.1 hi with rfl|hi
  .exact⟨b0,by rw[aC (by simp),iD]⟩
  .obtain⟨j,rfl,hj⟩:=oB.1 hi;rw[hgiv j hj]at Z;cases Z
 .have g:E_ h z a m:=λi hi=>by
   have hlt:=hm.lt hinv hi;have hmem:nm i∈nm nx::GM m:=cC _ (mi.2 hi);exact⟨hw0 _ hmem (λhc=>by simp only[aI]at hc;have:=lA hc;omega),by rw[L _ hmem,hgiv i hi]⟩
  refine ⟨λi hi b b' hb A=>?_,λy hy=>hval z a y d g hy⟩;rcases bm.1 hi with rfl|hi'
  .rw[hw1 _ (by simp),iD]at hb;rw[L _ hi,bH,PT.get_set,aC rfl]at A;simp only[ah]at hb;subst hb;exact hblk z a d g b' A
  .obtain⟨j,rfl,hj⟩:=oB.1 hi';rw[L _ hi,hgiv j hj]at A;cases A
 .intro n hn;rw[bu];rcases bm.1 hn with rfl|hn
  .rw[d_,b9.2 rfl];simp
  .obtain⟨j,rfl,hj⟩:=oB.1 hn;rw[d_,hj];rfl
 .intro n hn;simp only[aI]at hn;subst hn;rw[d_];omega
theorem jb.wrt {s:SOp} (hinv:mH h nx) (hc:dE P o.op=M s) {H:oL} (hH:H.get=bz h) {id:Nat} {y0:AV} {rdl:ι} {b0:wK} {k:Nat} (ha:eP s (Kz e h) H k=M ⟨y0,rdl,[nm id],[(nm id,b0)],[]⟩) {B0 B:iB} (Z:h.get id=M B0) {v:TV} {m rd:Nat} (hm:dX h m) (hmid:aO m id=af)
 (hrow:nz B=nz B0) (hB:∀ty l,B= .cells ty l->lz ((eJ m h).set id (M B)) l=J)
 (hblk:∀z a,vK z a->E_ h z a m->∀b',jN ((eJ m h).set id (M B)) B=M b'->iS z a b0 b')
 (hval:∀z a y,vK z a->E_ h z a m->cA ((eJ m h).set id (M B)) v=M y->ma z a y0 y)
 (hrd:∀n∈rdl,aO rd (ow n)=J):jb P o af e h nx v rd (m|||kQ id) ((eJ m h).set id (M B)) nx:=by
 have hk:=hinv.kill m;have hr0:=ch.kill m h;have hkid:(eJ m h).get id=M B0:=by rw[jr,hmid];simpa using Z
 have U:ch (eJ m h) ((eJ m h).set id (M B)):=ch.set λr hr=>by rw[bV,hkid]at hr;rw[hrow];exact hr
 have hr:=hr0.trans U;have hgiv:∀i,aO m i=J->bz ((eJ m h).set id (M B)) (nm i)=D:=λi hi=>by
  have hne:i≠id:=λe=>by rw[e,hmid]at hi;cases hi
  obtain⟨p,sz,n,hd⟩:=uB hm hi;rw[bH,PT.get_set,aw hne,hd];rfl
 refine jb.mk' hc hH ha (nm id::GM m) (λi hi=>by simp only[aI]at hi;subst hi;simp) (λn hn=>?_) (λi hi b' hb'=>?_) (λz a d hw1 hw0 L=>?_) hrd ?_ (by simp) hr (hk.set U (hinv.low id B0 Z) (by omega) hB) (by omega)
 .refine kN hinv hr λi e=>?_
  subst e;rw[PT.get_set,aw (λe=>hn (by rw[e];simp)),jr,aw];intro hb;exact hn (cC _ (mi.2 hb))
 .rcases bm.1 hi with rfl|hi
  .exact⟨b0,by rw[aC (by simp),iD]⟩
  .obtain⟨j,rfl,hj⟩:=oB.1 hi;rw[hgiv j hj]at hb';cases hb'
 .have g:E_ h z a m:=λi hi=>by
   have hne:i≠id:=λe=>by rw[e,hmid]at hi;cases hi
   have hmem:nm i∈nm id::GM m:=cC _ (mi.2 hi);exact⟨hw0 _ hmem (λhc=>by simp only[aI]at hc;exact hne (lA hc)),by rw[L _ hmem,hgiv i hi]⟩
  refine ⟨λi hi b b' hb A=>?_,λy hy=>hval z a y d g hy⟩;rcases bm.1 hi with rfl|hi'
  .rw[hw1 _ (by simp),iD]at hb;rw[L _ hi,bH,PT.get_set,aC rfl]at A;simp only[ah]at hb;subst hb;exact hblk z a d g b' A
  .obtain⟨j,rfl,hj⟩:=oB.1 hi';rw[L _ hi,hgiv j hj]at A;cases A
 .intro n hn;rw[bu];rcases bm.1 hn with rfl|hn
  .rw[d_,b9.2 rfl];simp
  .obtain⟨j,rfl,hj⟩:=oB.1 hn;rw[d_,hj];rfl
theorem NR (h:bk) {z:ξ} {a:Y TV} (s:Lp z=M a):∀len,cP h (aA len a).flatten=M ((repl z len).map .f)
 |0=>rfl
 |n+1=>by
  rw[wM,List.flatten_cons,repl,cM];refine oa ?_ (NR h s n);rw[(wh h s).1];simp only[IC];rfl
theorem Yn {H:oL} (Z:H.get=bz h) {T:Ty} {v:TV} {L:Y T.den} {m:Nat} {y:AV} (a:ER h (.sl T) v=M (L,m)) (s:cA h v=M y):∃rd,y.row? H T.size=M ((L.flatMap (bX T)).map .f,L.length,rd)/\∀n∈rd,∃i,n=nm i/\aO m i=J:=by
 have fl:=λA:Y T.den=>fQ (bD T) A
 have tk:∀A:Y T.den,(A.flatMap (bX T)).take (A.length*T.size)=A.flatMap (bX T):=λA=>by rw[<- fl,cO]
 cases v with
 |f S x=>
  simp only[ER,iW]at a;split at a
  .rename_i z U;simp only[ah,aE]at a;obtain⟨rfl,_⟩:=a;obtain⟨e,rfl⟩:=iz U;subst e;simp only[cA,ah]at s;subst s;refine ⟨[],?_,by simp⟩;simp only[gL,AV.row?];rw[aC (bE (by rw[fl x];exact bT _)),tk]
  .cases a
 |emp=>
  simp only[ER,iW,ah,aE]at a;obtain⟨rfl,_⟩:=a;simp only[cA,ah]at s;subst s;exact⟨[],rfl,by simp⟩
 |nil=>
  simp only[ER,iW,ah,aE]at a;obtain⟨rfl,_⟩:=a;simp only[cA,ah]at s;subst s;exact⟨[],rfl,by simp⟩
 |row id=>
  simp only[ER,iW]at a;split at a
  .rename_i ty p S xs hb;split at a
   .rename_i z U;simp only[ah,aE]at a;obtain⟨rfl,rfl⟩:=a;obtain⟨e,rfl⟩:=iz U;cases e;simp only[cA,eM,hb,ah]at s;subst s;unfold fM;split
    .rename_i hp;simp only[al,c8]at hp;have:xs=[]:=g_.1 hp.2;subst this;exact⟨[],rfl,by simp⟩
    .rename_i hp;have hg:H.get (nm id)=M ⟨ty,.fz (xs.flatMap (bX T))⟩:=by rw[Z,bH,hb];simp only[aG,jN,aw hp]
     refine ⟨[nm id],?_,λn hn=>?_⟩
     .simp only[AV.row?,hg,c5,bI,BC.isCells,BC.len,fZ];rw[aC (bE (by rw[fl xs];exact bT _))];simp only[BC.toMx,<-ll,tk]
     .simp only[aI]at hn;exact⟨id,hn,b9.2 rfl⟩
   .cases a
  .cases a
 |agg l=>simp[ER,Ty.one]at a
 |fel T xs j hj off=>simp[ER,iW]at a
 |pel id sz j off=>simp[ER,iW]at a
 |ptr id off=>simp[ER,iW]at a
 |csl id off z=>simp[ER,iW]at a
 |mp id=>simp[ER,iW]at a
 |rtl id jj=>simp[ER,iW]at a
 |tup q=>simp[ER,iW]at a
 |clo f q=>simp[ER,iW]at a
 |undef=>simp[ER,iW]at a
 |np=>simp[ER,iW]at a
 |anyb=>simp[ER,iW]at a
theorem V5 {v:TV} {y:AV} (a:cA h v=M y) (hc:v.isC=J):gX y.cs=J:=by
 rw[Pt (PK a hc)];simp only[gX,Bool.and_true];exact PK a hc
theorem aa6 (T:Ty) (x:T.den):gX ((bX T x).map .f)=J:=by
 have:∀l:Y FV,(∀x∈l,x.isCell=J)->gX (l.map .f)=J:=by
  intro l hl;induction l with
  |nil=>rfl
  |cons z r a=>simp only[eV,gX,al];exact⟨hl z (by simp),a λx s=>hl x (by simp[s])⟩
 exact this _ (oH T x)
theorem ib {T:Ty} {v:TV} {x:T.den} {m:Nat} {y:AV} (a:iW h T v=M (x,m)) (s:cA h v=M y):gX y.cs=J:=by
 cases v with
 |f S v=>simp only[cA,ah]at s;subst s;rw[Be];exact aa6 S v
 |emp=>exact V5 s rfl
 |nil=>exact V5 s rfl
 |row id=>exact V5 s rfl
 |fel T xs j hj off=>simp[iW]at a
 |pel id sz j off=>simp[iW]at a
 |ptr id off=>simp[iW]at a
 |csl id off z=>simp[iW]at a
 |mp id=>simp[iW]at a
 |rtl id A=>simp[iW]at a
 |agg q=>simp[iW]at a
 |tup q=>simp[iW]at a
 |clo f q=>simp[iW]at a
 |undef=>simp[iW]at a
 |np=>simp[iW]at a
 |anyb=>simp[iW]at a
theorem I6 {T:Ty} (A:T.one=J) {v:TV} {x:T.den} {m:Nat} (a:iW h T v=M (x,m)):v.isC=J:=by
 cases v with
 |f S v=>
  simp only[iW]at a;split at a
  .rename_i z s;obtain⟨e,_⟩:=iz s;subst e;exact A
  .cases a
 |emp=>rfl
 |nil=>rfl
 |row id=>rfl
 |fel T xs j hj off=>simp[iW]at a
 |pel id sz j off=>simp[iW]at a
 |ptr id off=>simp[iW]at a
 |csl id off z=>simp[iW]at a
 |mp id=>simp[iW]at a
 |rtl id L=>simp[iW]at a
 |agg q=>simp[iW]at a
 |tup q=>simp[iW]at a
 |clo f q=>simp[iW]at a
 |undef=>simp[iW]at a
 |np=>simp[iW]at a
 |anyb=>simp[iW]at a
theorem UE {a b:Y TV} (s:kV a=J) (hb:kV b=J):kV (a++b)=J:=by
 induction a with
 |nil=>exact hb
 |cons z r A=>simp only[kV,al,fR]at s ⊢;exact⟨s.1,A s.2⟩
theorem uw:∀(n:Nat) (T:Ty) (l:Y TV) (x:T.den) (m:Nat) (r:Y TV),fh h n T l=M (x,m,r)->∃a,l=a++r/\kV a=J
 |0,_,_,_,_,_,hp=>by simp[fh]at hp
 |n+1,.st t,l,x,m,r,hp=>uw n t l x m r hp
 |n+1,.pr a b,l,x,m,r,hp=>by
  simp only[fh]at hp;split at hp
  .rename_i s m1 r1 h1;split at hp
   .rename_i z m2 r2 h2;simp only[ah,aE]at hp;obtain⟨_,_,rfl⟩:=hp;obtain⟨a1,rfl,L⟩:=uw n a l s m1 r1 h1;obtain⟨a2,rfl,A⟩:=uw n b r1 z m2 r2 h2;exact⟨a1++a2,by simp,UE L A⟩
   .cases hp
  .cases hp
 |n+1,.un,l,x,m,r,hp=>by
  simp only[fh,ah,aE]at hp;obtain⟨_,_,rfl⟩:=hp;exact⟨[],rfl,rfl⟩
 |n+1,.ex,l,x,m,r,hp=>by
  simp only[fh]at hp;split at hp
  .rename_i s m1 r1 h1;simp only[ah,aE]at hp;obtain⟨_,_,rfl⟩:=hp;exact uw n Oj l s m1 r1 h1
  .cases hp
 |n+1,.sm,l,x,m,r,hp=>by
  simp only[fh]at hp;split at hp
  .rename_i s m1 r1 h1;simp only[ah,aE]at hp;obtain⟨_,_,rfl⟩:=hp;exact uw n NL l s m1 r1 h1
  .cases hp
 |n+1,.int k,l,x,m,r,hp=>by
  simp only[fh]at hp;split at hp
  .rename_i c q;split at hp
   .rename_i s m1 h1;simp only[ah,aE]at hp;obtain⟨_,_,rfl⟩:=hp;exact⟨[c],rfl,by simp[kV,I6 rfl h1]⟩
   .cases hp
  .cases hp
 |n+1,.bool,l,x,m,r,hp=>by
  simp only[fh]at hp;split at hp
  .rename_i c q;split at hp
   .rename_i s m1 h1;simp only[ah,aE]at hp;obtain⟨_,_,rfl⟩:=hp;exact⟨[c],rfl,by simp[kV,I6 rfl h1]⟩
   .cases hp
  .cases hp
 |n+1,.str,l,x,m,r,hp=>by
  simp only[fh]at hp;split at hp
  .rename_i c q;split at hp
   .rename_i s m1 h1;simp only[ah,aE]at hp;obtain⟨_,_,rfl⟩:=hp;exact⟨[c],rfl,by simp[kV,I6 rfl h1]⟩
   .cases hp
  .cases hp
 |n+1,.sl t,l,x,m,r,hp=>by
  simp only[fh]at hp;split at hp
  .rename_i c q;split at hp
   .rename_i s m1 h1;simp only[ah,aE]at hp;obtain⟨_,_,rfl⟩:=hp;exact⟨[c],rfl,by simp[kV,I6 rfl h1]⟩
   .cases hp
  .cases hp
theorem LS {T:Ty} {v:TV} {x:T.den} {m:Nat} {y:AV} (A:ER h T v=M (x,m)) (s:cA h v=M y):gX y.cs=J:=by
 cases v with
 |agg l=>
  simp only[ER]at A;split at A
  .cases A
  .split at A
   .rename_i L m1 h1;obtain⟨a,e,Z⟩:=uw 40 T l L m1 [] h1;rw[ik]at e;subst e;simp only[cA]at s;split at s
    .rename_i l' hl;simp only[ah]at s;subst s;exact sU hl Z
    .cases s
   .cases A
 |f S v=>exact ib (v:=.f S v) A s
 |fel T xs j hj off=>exact ib (v:=.fel T xs j hj off) A s
 |pel id sz j off=>exact ib (v:=.pel id sz j off) A s
 |ptr id off=>exact ib (v:=.ptr id off) A s
 |csl id off z=>exact ib (v:=.csl id off z) A s
 |row id=>exact ib (v:=.row id) A s
 |emp=>exact ib (v:=.emp) A s
 |nil=>exact ib (v:=.nil) A s
 |mp id=>exact ib (v:=.mp id) A s
 |rtl id U=>exact ib (v:=.rtl id U) A s
 |tup q=>exact ib (v:=.tup q) A s
 |clo g q=>exact ib (v:=.clo g q) A s
 |undef=>exact ib (v:=.undef) A s
 |np=>exact ib (v:=.np) A s
 |anyb=>exact ib (v:=.anyb) A s
theorem rR {u:TV} {y:AV} (s:cA h u=M y):∀(n:Nat) (T:Ty) (v:T.den) (off sz:Nat) (z:T.den) (m:Nat),hZ h u n T v off sz=M (z,m)->gX y.cs=J
 |0,_,_,_,_,_,_,hg=>by simp[hZ]at hg
 |n+1,.st t,v,off,sz,z,m,hg=>by
  simp only[hZ]at hg;split at hg
  .rename_i q hq;split at hq
   .exact LS hq s
   .cases hq
  .exact rR s n t v off sz z m hg
 |n+1,.pr a b,v,off,sz,z,m,hg=>by
  simp only[hZ]at hg;split at hg
  .split at hg
   .rename_i A m1 h1;exact rR s n a v.1 off sz A m1 h1
   .cases hg
  .split at hg
   .rename_i A m1 h1;exact rR s n b v.2 _ sz A m1 h1
   .cases hg
 |n+1,.un,v,off,sz,z,m,hg=>by simp[hZ]at hg
 |n+1,.ex,v,off,sz,z,m,hg=>by
  simp only[hZ]at hg;split at hg
  .rename_i q hq;split at hq
   .exact LS hq s
   .cases hq
  .split at hg
   .rename_i A m1 h1;exact rR s n Oj _ off sz A m1 h1
   .cases hg
 |n+1,.sm,v,off,sz,z,m,hg=>by
  simp only[hZ]at hg;split at hg
  .rename_i q hq;split at hq
   .exact LS hq s
   .cases hq
  .split at hg
   .rename_i A m1 h1;exact rR s n NL _ off sz A m1 h1
   .cases hg
 |n+1,.int k,v,off,sz,z,m,hg=>by
  simp only[hZ]at hg;split at hg
  .exact ib hg s
  .cases hg
 |n+1,.bool,v,off,sz,z,m,hg=>by
  simp only[hZ]at hg;split at hg
  .exact ib hg s
  .cases hg
 |n+1,.str,v,off,sz,z,m,hg=>by
  simp only[hZ]at hg;split at hg
  .exact ib hg s
  .cases hg
 |n+1,.sl t,v,off,sz,z,m,hg=>by
  simp only[hZ]at hg;split at hg
  .exact ib hg s
  .cases hg
theorem LW (l:Y FV):yI (l.map .f)=M l:=by
 induction l with
 |nil=>rfl
 |cons x r a=>simp only[eV,yI,a]
theorem DB (l:Y FV):pZ (l.map .f)= .fz l:=by unfold pZ;rw[LW]
theorem HP:∀{a b:Y TV},kV a=J->kV b=J->kV (a++b)=J
 |[],_,_,hb=>hb
 |x::r,b,s,hb=>by
  simp only[kV,al]at s;simp only[fR,kV,al];exact⟨s.1,HP s.2 hb⟩
theorem Gk {a:Y TV} (s:kV a=J):∀n,kV (aA n a).flatten=J
 |0=>rfl
 |n+1=>by rw[wM,List.flatten_cons];exact HP s (Gk s n)
theorem aio {H:oL} (s:H.get=bz h) {id ty:Nat} {l:Y TV} {a:Y AV} (hb:h.get id=M (.cells (M ty) l)) (hl:cP h l=M a) {n sz:Nat} (hn:l.length=n*sz):AV.row? H sz (.row (nm id) sz n)=M (a,n,[nm id]):=by
 have hg:H.get (nm id)=M ⟨ty,.mx a⟩:=by rw[s,bH,hb];simp only[aG,jN,hl]
 have hln:=gU hl;simp only[AV.row?,c5,bI,hg,BC.isCells,fZ,BC.len,BC.toMx];rw[aC (bE (by omega)),gk (by omega)]
variable (hinv:mH h nx) (hi:ut e h)
include hinv hi
theorem aou {con:FuncId->I co} {b_:TypeId->I Ty} {ty:TypeId} {sz len:Nat} {z:ξ} {parts:Y (Nat×Nat×Operand)} (hcm:EI (b_ ty)=D) (hc:dE P o.op=M (.bsl ty sz len z parts)) (hk:eh con b_ (.op (.bsl ty sz len z parts)) e h nx K=M r):ly P o af e h nx K r:=by
 obtain⟨H,hH⟩:=j7 h;simp only[eh,hcm]at hk;split at hk
 .rename_i T zc hT Z;split at hk
  .rename_i hs;have hs:=ar hs;subst hs;split at hk
   .rename_i cs hf;split at hk
    .rename_i xs m hp;obtain⟨cs',h1,h2,_⟩:=D5 hi parts _ cs _ hf (NR h Z len);have hm:=Pr len cs xs m hp;refine ⟨_,_,_,_,_,hk,jb.new hinv hc hH (y0:=if len=0 then .emp else .row (nm nx) T.size len) (rdl:=[]) (b0:=⟨ty,pZ cs'⟩) (by simp only[eP,h1]) hm (λ_ _ he=>by cases he) (λH1 H2 d g b' a=>?_) (λH1 H2 y d g s=>?_) (by simp)⟩
     .simp only[jN]at a;split at a
      .cases a
      rw[ah]at a;subst a;obtain⟨U,L⟩:=oA cs';refine iS.cells L rfl ?_ λx A=>?_
      .rw[U];exact (Dw d len cs xs m cs' hp h2 g).1
      .simp only[BC.toMx]at A;obtain⟨q,hq,rfl⟩:=du.1 A;exact su T _ q hq
     .simp only[cA,bV,PT.get_set,bI,aG,nz,fM,ah]at s;rw[(Dw d len cs xs m cs' hp h2 g).2]at s;split at s
      .rename_i hq;simp only[al,c8]at hq;subst s;rw[aC hq.2];exact ma.refl d _
      .rename_i hq;subst s;rw[aw (λh0=>hq (by subst h0;rfl))];exact ma.refl d _
    .cases hk
   .cases hk
  .cases hk
 .cases hk
theorem aov {con:FuncId->I co} {b_:TypeId->I Ty} {ty:TypeId} {sz bytes:Nat} {s x:Operand} (hcm:EI (b_ ty)=D) (hc:dE P o.op=M (.app ty sz bytes s x)) (hk:eh con b_ (.op (.app ty sz bytes s x)) e h nx K=M r):ly P o af e h nx K r:=by
 obtain⟨H,hH⟩:=j7 h;have hfr:=hinv.fresh;simp only[eh,hcm]at hk;split at hk
 .rename_i T b y hT hv hv2;split at hk
  .rename_i hs;have hs:=ar hs;subst hs;split at hk
   .rename_i z m hys;obtain⟨yb,h1,h2⟩:=bL hi hv;obtain⟨yy,h3,h4⟩:=bL hi hv2;obtain⟨rdl,h5,h6⟩:=Yn hH hys h4;have onEmp:∀(rd':Nat),(∀n∈rdl,aO rd' (ow n)=J)->JX yb=J->Le yb .emp->a8 (ai z) bytes=J->jb P o af e h nx (.row nx) rd' (kQ nx) (h.set nx (M (.rows ty J T z))) (nx+1):=by
     intro rd' hrd' he hle hroom;have hr1:ch h (h.set nx (M (.rows ty J T z))):=ch.set λr hr=>by rw[bV,hfr]at hr;cases hr
     have hyb:∀id sz' n,yb≠ .row id sz' n:=by rintro id sz' n rfl;cases he
     have a:eP (.app ty T.size bytes s x) (Kz e h) H (nm nx)=if ai z==0 then M ⟨yb,rdl,[],[],[]⟩ else M ⟨.row (nm nx) T.size (ai z),rdl,[nm nx],[(nm nx,⟨ty,pZ ((z.flatMap (bX T)).map .f)⟩)],[nm nx]⟩:=by
      simp only[eP,h1,h3,h5];cases yb with
      |row id sz' n=>exact b8 rfl (hyb id sz' n)
      |_=>simp only[he,hroom,jO,bI]
     by_cases hl:ai z=0
     .rw[hl]at a;simp only[c5,bI]at a;have hnil:z=[]:=g_.1 hl;subst hnil;refine jb.mk' hc hH a [] (by simp) (λn _=>?_) (by simp) (λH1 H2 d _ _ _=>⟨by simp,λy A=>?_⟩) hrd' (by simp) (by simp) hr1 (hinv.set hr1 (by omega) (by omega) λ_ _ he=>by cases he) (by omega)
      .by_cases hn:n=nm nx
       .subst hn;rw[bH,bH,PT.get_set,aC rfl,hfr];rfl
       .refine kN hinv hr1 λi e=>?_
        subst e;rw[PT.get_set,aw (λe=>hn (by rw[e]))]
      .simp only[cA,bV,PT.get_set,bI,aG,nz,fM,gE,c5,jO,ah]at A;subst A;exact hle.toH d
     .rw[aw (by simpa using hl)]at a;rw[DB]at a;have key:=jb.new (m:=0) (rd:=rd') hinv hc hH a (B:=.rows ty J T z) (v:=.row nx) (dX.zero h) (λ_ _ he=>by cases he) (λH1 H2 d g b' Z=>by
       simp only[jN]at Z;rw[aw (by simpa using hl)]at Z;simp only[ah]at Z;subst Z;exact iS.refl d _) (λH1 H2 y d g A=>by
       simp only[cA,bV,PT.get_set,bI,aG,nz,fM]at A;rw[aw (by simpa using hl)]at A;simp only[ah]at A;subst A;exact ma.refl d _) hrd'
      rw[zq]at key;exact key
    split at hk
    .rename_i id;split at hk
     .rename_i ty' p S xs0 hb;split at hk
      .rename_i xs hxs;obtain⟨ee,rfl⟩:=iz hxs;cases ee;split at hk
       .rename_i hcond;simp only[al,c8,db]at hcond;obtain⟨rfl,hmid⟩:=hcond;obtain⟨hroom,hk⟩:=ey hk;simp only[cA,eM,hb,ah]at h2;have hidlt:=hinv.low id _ hb;have hne:nx≠id:=by omega
        have hrd:∀n∈rdl,aO (kQ id|||m) (ow n)=J:=λn hn=>by
         obtain⟨i,rfl,hm⟩:=h6 n hn;rw[d_,bu,hm];simp
        generalize hh':(h.set id (M (.dead p T.size (ai xs0)))).set nx (M (.rows ty' p T (xs0++z)))=h' at hk;have hrA:ch h (h.set id (M (.dead p T.size (ai xs0)))):=ch.set λr hr=>by rw[bV,hb]at hr;exact hr
        have hg2:∀i,h'.get i=if i=nx then M (.rows ty' p T (xs0++z)) else if i=id then M (.dead p T.size (ai xs0)) else h.get i:=λi=>by rw[<- hh',PT.get_set,PT.get_set]
        have hr:ch h h':=by
         rw[<- hh'];refine hrA.trans (ch.set λr hr=>?_);rw[bV,PT.get_set,aw hne,hfr]at hr;cases hr
        have hinv':mH h' (nx+1):=by
         refine ⟨λi ty l hil=>?_,λi c hic=>?_⟩
         .rw[hg2]at hil;split at hil
          .cases hil
          .split at hil
           .cases hil
           .exact jm hr l (hinv.cells i _ l hil)
         .rw[hg2]at hic;split at hic
          .omega
          .split at hic
           .omega
           .have:=hinv.low i c hic;omega
        have hsame:∀n,n≠nm nx->n≠nm id->bz h' n=bz h n:=λn h1 h2=>kN hinv hr λi e=>by
         subst e;rw[hg2,aw (λe=>h1 (by rw[e])),aw (λe=>h2 (by rw[e]))]
        have hdead:bz h' (nm id)=D:=by rw[bH,hg2,aw (by omega),aC rfl];rfl
        have hnew:bz h' (nm nx)=if p&&(xs0++z).length==0 then D else M ⟨ty',.fz ((xs0++z).flatMap (bX T))⟩:=by rw[bH,hg2,aC rfl];rfl
        have hval:cA h' (.row nx)=M (fM p nx T.size (xs0++z).length):=by simp only[cA,bV,hg2,bI,aG,nz]
        have hwm:∀n,n=nm nx\/n=nm id->aO (kQ id|||kQ nx) (ow n)=J:=λn hn=>by
         rcases hn with rfl|rfl<;>rw[d_,bu,b9.2 rfl]<;>simp
        refine ⟨_,_,_,_,_,hk,?_⟩;by_cases hp:(p&&xs0.length==0)=J
        ·
         have hyb:yb= .emp:=by rw[<- h2];unfold fM;rw[aC hp]
         subst hyb;simp only[al,c8]at hp;obtain⟨rfl,hl0⟩:=hp;have hnil:xs0=[]:=g_.1 hl0;subst hnil;have hroom':a8 (ai z) bytes=J:=by simpa using hroom
         have a:eP (.app ty' T.size bytes s x) (Kz e h) H (nm nx)=if ai z==0 then M ⟨.emp,rdl,[],[],[]⟩ else M ⟨.row (nm nx) T.size (ai z),rdl,[nm nx],[(nm nx,⟨ty',pZ ((z.flatMap (bX T)).map .f)⟩)],[nm nx]⟩:=by
          simp only[eP,h1,h3,h5,JX,hroom',jO,bI]
         have hdead0:bz h (nm id)=D:=by rw[bH,hb];rfl
         by_cases hl:ai z=0
         .rw[hl]at a;simp only[c5,bI]at a;have hnil:z=[]:=g_.1 hl;subst hnil;refine jb.mk' hc hH a [] (by simp) (λn _=>?_) (by simp) (λH1 H2 d _ _ _=>⟨by simp,λy A=>?_⟩) hrd (by simp) (by simp) hr hinv' (by omega)
          .by_cases hn:n=nm nx
           .subst hn;rw[hnew,bH,hfr];rfl
           .by_cases hn2:n=nm id
            .subst hn2;rw[hdead,hdead0]
            .exact hsame n hn hn2
          .rw[hval]at A;simp only[fM,ik,gE,c5,jO,bI,ah]at A;subst A;exact ma.refl d _
         .rw[aw (by simpa using hl),DB]at a;refine jb.mk' hc hH a [nm nx] (λi hi=>hi) (λn hn=>?_) (λi hi b' _=>⟨_,by rw[aC hi];simp only[aI]at hi;subst hi;exact iD _ _⟩) (λH1 H2 d hw1 _ hw2=>⟨λi hi b b' U L=>?_,λy A=>?_⟩) hrd (λn hn=>hwm n (.inl (by simpa using hn))) (λn hn=>by simp only[aI]at hn;subst hn;rw[d_];omega) hr hinv' (by omega)
          .have hn1:n≠nm nx:=by simpa using hn
           by_cases hn2:n=nm id
           .subst hn2;rw[hdead,hdead0]
           .exact hsame n hn1 hn2
          .simp only[aI]at hi;subst hi;rw[hw1 _ (by simp),iD]at U;rw[hw2 _ (by simp),hnew,aw (by simpa using hl)]at L;simp only[ah,kn]at U L;subst U;subst L;exact iS.refl d _
          .rw[hval]at A;simp only[fM,kn]at A;rw[aw (by simpa using hl)]at A;simp only[ah]at A;subst A;exact ma.refl d _
        .have hyb:yb= .row (nm id) T.size xs0.length:=by rw[<- h2];unfold fM;rw[aw hp]
         subst hyb;have hg:H.get (nm id)=M ⟨ty',.fz (xs0.flatMap (bX T))⟩:=by rw[hH,bH,hb];simp only[aG,jN,aw hp]
         have fl:=fQ (bD T) xs0;have tk:(xs0.flatMap (bX T)).take (xs0.length*T.size)=xs0.flatMap (bX T):=by rw[<- fl,cO]
         have hmem:VY (nm id) rdl=af:=by
          cases hx:VY (nm id) rdl with
          |false=>rfl
          |true=>
           obtain⟨i,e,hm⟩:=h6 _ (ama.1 hx);rw[<- lA e,hmid]at hm;cases hm
         have a:eP (.app ty' T.size bytes s x) (Kz e h) H (nm nx)=M ⟨.row (nm nx) T.size (xs0.length+z.length),nm id::rdl,[nm nx,nm id],[(nm nx,⟨ty',.fz ((xs0++z).flatMap (bX T))⟩)],[nm nx]⟩:=by
          have hcnd:(T.size==T.size&& !(VY (nm id) rdl)&&(BC.fz (xs0.flatMap (bX T))).isCells&&eR (xs0.length*T.size) (BC.fz (xs0.flatMap (bX T))).len&&ty'==ty'&&a8 (xs0.length+z.length) bytes)=J:=by
           have:eR (xs0.length*T.size) (BC.fz (xs0.flatMap (bX T))).len=J:=bE (by simp only[BC.len];omega);rw[this,hmem,hroom];simp[BC.isCells]
          simp only[eP,h1,h3,h5,hg,hcnd,bI,BC.toMx,<-ll,tk,<-cM,DB,List.flatMap_append]
         have hne2:¬((p&&(xs0++z).length==0)=J):=by
          simp only[al,c8,bf]at hp ⊢;intro hh;exact hp ⟨hh.1,by omega⟩
         refine jb.mk' hc hH a [nm nx,nm id] (λi hi=>hi) (λn hn=>?_) (λi hi b' Z=>?_) (λH1 H2 d hw1 _ hw2=>⟨λi hi b b' U L=>?_,λy A=>?_⟩) (λn hn=>?_) (λn hn=>hwm n (by simpa using hn)) (λn hn=>by simp only[aI]at hn;subst hn;rw[d_];omega) hr hinv' (by omega)
         .simp only[bm,cF,gu,not_or]at hn;exact hsame n hn.1 hn.2
         .simp only[bm,cF,gu]at hi;rcases hi with rfl|rfl
          .exact⟨_,by rw[aC (by simp)];exact iD _ _⟩
          .rw[hdead]at Z;cases Z
         .simp only[bm,cF,gu]at hi;rcases hi with rfl|rfl
          .rw[hw1 _ (by simp),iD]at U;rw[hw2 _ (by simp),hnew,aw hne2]at L;simp only[ah]at U L;subst U;subst L;exact iS.refl d _
          .rw[hw2 _ (by simp),hdead]at L;cases L
         .rw[hval]at A;simp only[fM]at A;rw[aw hne2]at A;simp only[bf,ah]at A;subst A;exact ma.refl d _
         .rcases bm.1 hn with rfl|hn
          .rw[d_,bu,b9.2 rfl];rfl
          .exact hrd n hn
       .cases hk
      .cases hk
     .cases hk
    .obtain⟨hroom,hk⟩:=ey hk;simp only[cA,ah]at h2;subst h2;exact⟨_,_,_,_,_,hk,onEmp m (λn hn=>by obtain⟨i,rfl,hm⟩:=h6 n hn;rw[d_];exact hm) rfl (Le.refl _) hroom⟩
    .obtain⟨hroom,hk⟩:=ey hk;simp only[cA,ah]at h2;subst h2;exact⟨_,_,_,_,_,hk,onEmp m (λn hn=>by obtain⟨i,rfl,hm⟩:=h6 n hn;rw[d_];exact hm) rfl Le.nilEmp hroom⟩
    .cases hk
   .cases hk
  .cases hk
 .cases hk
theorem af3 {T:Ty} (xs a:Y T.den):(OR xs a).flatMap (bX T)=AI.splice (xs.flatMap (bX T)) 0 ((a.flatMap (bX T)).take (jg a.length xs.length*T.size)):=by
 have _:=hinv;have _:=hi;have fl:=λs:Y T.den=>fQ (bD T) s
 have tk:∀(s:Y T.den) n,(s.flatMap (bX T)).take (n*T.size)=(s.take n).flatMap (bX T):=by
  intro s;induction s with
  |nil=>intro n;simp
  |cons z r A=>
   intro n;cases n with
   |zero=>simp
   |succ n=>rw[fY,wL,fY,jf,List.take_append,bD,gk (by rw[bD];omega),show n*T.size+T.size-T.size=n*T.size from by omega,A n]
 have L:∀(s:Y T.den) n,(s.flatMap (bX T)).drop (n*T.size)=(s.drop n).flatMap (bX T):=by
  intro s;induction s with
  |nil=>intro n;simp
  |cons z r A=>
   intro n;cases n with
   |zero=>simp
   |succ n=>rw[fY,wO,jf,vO,bD,sG (by rw[bD];omega),show n*T.size+T.size-T.size=n*T.size from by omega,A n,kn]
 unfold OR AI.splice;rw[tk,List.flatMap_append,fl,bM];have e1:a.take (jg a.length xs.length)=a.take xs.length:=by
  rcases Nat.le_total a.length xs.length with h|h
  .rw[show jg a.length xs.length=a.length from tG h,cO,gk h]
  .rw[show jg a.length xs.length=xs.length from Nat.min_eq_right h]
 rw[e1];have e2:min (jg a.length xs.length) a.length=jg a.length xs.length:=tG (Nat.min_le_left _ _);rw[e2];simp only[List.take_zero,kn,bK];rw[L];congr 1;rcases Nat.le_total a.length xs.length with h|h
 .rw[show jg a.length xs.length=a.length from tG h]
 .rw[show jg a.length xs.length=xs.length from Nat.min_eq_right h,List.drop_length,sG h]
theorem aos {con:FuncId->I co} {b_:TypeId->I Ty} {sz:Nat} {d x:Operand} (hc:dE P o.op=M (.copy sz d x)) (hk:eh con b_ (.op (.copy sz d x)) e h nx K=M r):ly P o af e h nx K r:=by
 obtain⟨H,Z⟩:=j7 h;simp only[eh]at hk;split at hk
 .rename_i id y hv L;split at hk
  .rename_i ty p T xs hb;split at hk
   .rename_i hs;have hs:=ar hs;subst hs;split at hk
    .rename_i a m hys;split at hk
     .rename_i hcond;simp only[al,db]at hcond;obtain⟨hmid,rfl⟩:=hcond;obtain⟨yb,h1,h2⟩:=bL hi hv;obtain⟨yy,h3,h4⟩:=bL hi L;obtain⟨rdl,h5,h6⟩:=Yn Z hys h4;simp only[cA,eM,hb,fM,lX,cG,ec,ah]at h2;subst h2;have fl:=fQ (bD T) xs;have fl2:=fQ (bD T) a;have hg:H.get (nm id)=M ⟨ty,.fz (xs.flatMap (bX T))⟩:=by rw[Z,bH,hb];simp[jN]
      have hmem:VY (nm id) rdl=af:=by
       cases s:VY (nm id) rdl with
       |false=>rfl
       |true=>
        obtain⟨i,e,hm⟩:=h6 _ (ama.1 s);rw[<- lA e,hmid]at hm;cases hm
      have hle:jg a.length xs.length*T.size<=xs.length*T.size:=cR _ (Nat.min_le_right _ _);have U:eP (.copy T.size d x) (Kz e h) H (nm nx)=M ⟨raw (.int .i64 (jg a.length xs.length)),nm id::rdl,[nm id],[(nm id,⟨ty,.fz ((OR xs a).flatMap (bX T))⟩)],[]⟩:=by
       have hcnd:(T.size==T.size&& !(VY (nm id) rdl)&&eR (xs.length*T.size) (BC.fz (xs.flatMap (bX T))).len)=J:=by
        have:eR (xs.length*T.size) (BC.fz (xs.flatMap (bX T))).len=J:=bE (by simp only[BC.len];omega);rw[this,hmem];simp
       have hput:(BC.fz (xs.flatMap (bX T))).put 0 (((a.flatMap (bX T)).map .f).take (jg a.length xs.length*T.size))=M (.fz ((OR xs a).flatMap (bX T))):=by
        rw[<- ll];unfold BC.put;rw[aC]
        .simp only[LW];rw[af3 hinv hi]
        .simp only[al];refine ⟨⟨rfl,bE ?_⟩,?_⟩
         .simp only[BC.len,bQ,bM];omega
         .have:∀l:Y FV,(∀x∈l,x.isCell=J)->gX (l.map .f)=J:=by
           intro l hl;induction l with
           |nil=>rfl
           |cons z r ih=>simp only[eV,gX,al];exact⟨hl z (by simp),ih λx s=>hl x (by simp[s])⟩
          exact this _ λx s=>su T a x (gh s)
       simp only[eP,h1,h3,hg,h5,hcnd,bI,hput]
      have hrow:nz (.rows ty af T (OR xs a))=nz (.rows ty af T xs):=by
       have:(OR xs a).length=xs.length:=by unfold OR;rw[bf,bM,nj];omega
       simp only[nz,this]
      have key:=jb.wrt (m:=0) (v:=.f (.int .i64) (aM (jg (ai a) (ai xs)))) (rd:=kQ id|||m) hinv hc Z U (B:=.rows ty af T (OR xs a)) hb (dX.zero h) (by simp) hrow (λ_ _ he=>by cases he) (λH1 H2 d g b' A=>by
       simp only[jN,lX,cG,ec,ah]at A;subst A;exact iS.refl d _) (λH1 H2 y d g hy=>by
       simp only[cA,ah]at hy;subst hy;exact ma.refl d _) (λn hn=>by
       rcases bm.1 hn with rfl|hn
       .rw[d_,bu,b9.2 rfl];rfl
       .obtain⟨i,rfl,hm⟩:=h6 n hn;rw[d_,bu,hm];simp)
      rw[zq]at key;exact⟨_,_,_,_,_,hk,key⟩
     .cases hk
    .cases hk
   .cases hk
  .cases hk
 .cases hk
theorem ajz {con:FuncId->I co} {b_:TypeId->I Ty} {sz:Nat} {x v:Operand} (hc:dE P o.op=M (.store sz x v)) (hk:eh con b_ (.op (.store sz x v)) e h nx K=M r):ly P o af e h nx K r:=by
 obtain⟨H,hH⟩:=j7 h;simp only[eh]at hk;split at hk
 .rename_i id off y hv hv2;obtain⟨yb,h1,h2⟩:=bL hi hv;obtain⟨s,h3,h4⟩:=bL hi hv2;simp only[cA,ah]at h2;subst h2;split at hk
  .rename_i ty l hb;split at hk
   .rename_i cs hcs;split at hk
    .rename_i hcond;simp only[al,c8]at hcond;obtain⟨h5,h6⟩:=Ls hcs h4;obtain⟨A,hl⟩:=fx h l (hinv.cells id _ l hb);have hg:H.get (nm id)=M ⟨ty,.mx A⟩:=by rw[hH,bH,hb];simp only[aG,jN,hl]
     have hcell:=sU h5 h6;have hlen:s.cs.length=sz:=by rw[gU h5];exact hcond.1
     have hput:(BC.mx A).put off s.cs=M (.mx (splice A off s.cs)):=by
      unfold BC.put;rw[aC]
      .rfl
      .simp only[al];exact⟨⟨rfl,by simp only[BC.len];rw[hlen,gU hl];exact hcond.2⟩,hcell⟩
     have Z:eP (.store sz x v) (Kz e h) H (nm nx)=M ⟨raw undef,[nm id],[nm id],[(nm id,⟨ty,.mx (splice A off s.cs)⟩)],[]⟩:=by
      simp only[eP,h1,h3,LR,hg,hlen,c5,bI,hput]
     have hspl:∀h',ch h h'->cP h' (splice l off cs)=M (splice A off s.cs):=λh' hr=>qy off (gy hr l A hl) (gy hr cs _ h5)
     have L:ch h (h.set id (M (.cells (M ty) (splice l off cs)))):=ch.set λr hr=>by rw[bV,hb]at hr;cases hr
     have key:=jb.wrt (m:=0) (v:=.undef) (rd:=kQ id) hinv hc hH Z (B:=.cells (M ty) (splice l off cs)) hb (dX.zero h) (by simp) rfl (λty' l2 he=>by cases he;exact kh _ _ _ (hspl _ L)) (λH1 H2 d g b' a=>by
      have:=hspl _ L;simp only[eJ,sF,bI,jN,this,ah]at a;subst a;exact iS.refl d _) (λH1 H2 y d g hy=>by
      simp only[cA,ah]at hy;subst hy;exact ma.refl d _) (λn hn=>by simp only[aI]at hn;subst hn;rw[d_];exact b9.2 rfl)
     rw[zq]at key;exact⟨_,_,_,_,_,hk,key⟩
    .cases hk
   .cases hk
  .cases hk
 .rename_i id sz' j off y hv hv2;obtain⟨yb,h1,h2⟩:=bL hi hv;obtain⟨s,h3,h4⟩:=bL hi hv2;simp only[cA,ah]at h2;subst h2;split at hk
  .rename_i ty p T xs hb;split at hk
   .rename_i hsz;have hsz:=ar hsz;subst hsz;obtain⟨hj,hk⟩:=ey hk;split at hk
    .rename_i z m hset;split at hk
     .cases hk
     .rename_i hmid;have hmid:aO m id=af:=by simpa using hmid
      have hm:=AT 40 T _ off sz z m hset;obtain⟨j0,j1,j2⟩:=Fz hj;have hne:¬((p&&xs.length==0)=J):=by simp only[al,c8];omega
      have hne2:¬((p&&(cL xs j z).length==0)=J):=by unfold cL;rw[ij];exact hne
      have hg:H.get (nm id)=M ⟨ty,.fz (xs.flatMap (bX T))⟩:=by rw[hH,bH,hb];simp only[aG,jN,aw hne]
      have fl:=fQ (bD T) xs;have hx:xs[j.toNat]? =M (aJ xs j):=by
       unfold aJ;rw[av,ay j2];rfl
      have hle:(j.toNat+1)*T.size<=xs.length*T.size:=cR _ j2;rw[jf]at hle;have hso:∀H1 H2,vK H1 H2->E_ h H1 H2 m->Zm H1 H2 s T (aJ xs j) z off sz:=λH1 H2 d g=>wV d h4 40 T _ off sz z m hset g
      have hshape:s.cs.length=sz/\off+sz<=T.size/\gX s.cs=J:=by
       have d0:vK (bz h) (bz (eJ m h)):=λi b hb=>by
        obtain⟨i',c,rfl,g1,g2⟩:=jM hb;rw[jr]at g1;by_cases ht:aO m i'=J
        .obtain⟨pp,ss,nn,g3⟩:=uB hm ht;rw[jr]at g3;rw[g3]at g1;cases g1;cases g2
        .rw[aw ht]at g1;exact⟨b,by rw[bH,g1];simp only[aG];rw[<- KA (ch.kill m h) (λty l e=>hinv.cells i' _ l (by rw[g1,e]))];exact g2⟩
       obtain⟨fs,q1,q2,q3,q4,q5⟩:=hso _ _ d0 (λi hi=>⟨rfl,by
        obtain⟨pp,ss,nn,g3⟩:=uB hm hi;rw[bH,g3];rfl⟩)
       refine ⟨by rw[<- q2,<-bQ (f:=AV.f),q1.length],q3,?_⟩;exact rR h4 40 T _ off sz z m hset
      obtain⟨hlen,hoff,hcell⟩:=hshape;obtain⟨c',hput,U,hc2⟩:∃c',(BC.fz (xs.flatMap (bX T))).put (j.toNat*T.size+off) s.cs=M c'/\c'.toMx=splice ((xs.flatMap (bX T)).map .f) (j.toNat*T.size+off) s.cs/\c'.isCells=J:=by
       unfold BC.put;rw[aC]
       .split
        .rename_i l ys hl hys;simp only[BC.fz.injEq]at hl;subst hl;refine ⟨_,rfl,?_,rfl⟩;rw[qA hys];simp only[BC.toMx];unfold splice;simp[ll,List.map_drop]
        .exact⟨_,rfl,rfl,rfl⟩
       .simp only[al];exact⟨⟨rfl,bE (by simp only[BC.len];omega)⟩,hcell⟩
      have Z:eP (.store sz x v) (Kz e h) H (nm nx)=M ⟨raw undef,[nm id],[nm id],[(nm id,⟨ty,c'⟩)],[]⟩:=by
       simp only[eP,h1,h3,LR,hg,hlen,c5,bI,hput]
      have hrow:nz (.rows ty p T (cL xs j z))=nz (.rows ty p T xs):=by
       unfold cL;simp only[nz,ij]
      refine ⟨_,_,_,_,_,hk,jb.wrt hinv hc hH Z (B:=.rows ty p T (cL xs j z)) hb hm hmid hrow (λ_ _ he=>by cases he) (λH1 H2 d g b' a=>?_) (λH1 H2 y d g hy=>?_) (λn hn=>?_)⟩
      .simp only[jN,aw hne2,ah]at a;subst a;obtain⟨fs,q1,q2,q3,q4,q5⟩:=hso H1 H2 d g;have hfl:(cL xs j z).flatMap (bX T)=AI.splice (xs.flatMap (bX T)) (j.toNat*T.size+off) fs:=Tb (bD T) xs j.toNat _ z hx off fs (by omega) q4;refine iS.cells hc2 rfl ?_ λx hx=>?_
       .rw[U];simp only[BC.toMx];rw[hfl];have:(AI.splice (xs.flatMap (bX T)) (j.toNat*T.size+off) fs).map AV.f=AI.splice ((xs.flatMap (bX T)).map .f) (j.toNat*T.size+off) (fs.map .f):=by unfold AI.splice;simp[ll,List.map_drop]
        rw[this];exact (il.refl d _).splice _ q1
       .simp only[BC.toMx]at hx;obtain⟨q,hq,rfl⟩:=du.1 hx;exact su T _ q hq
      .simp only[cA,ah]at hy;subst hy;exact ma.refl d _
      .simp only[aI]at hn;subst hn;rw[d_,bu,b9.2 rfl];simp
    .cases hk
   .cases hk
  .rename_i ty l hb;split at hk
   .rename_i hsz;simp only[al]at hsz;obtain⟨s1,s2,s3⟩:=hsz;have s1:=ar s1;have s2:=ar s2;have s3:=ar s3;subst s1;subst s2;subst s3;obtain⟨hj,hk⟩:=ey hk;obtain⟨j0,j1,j2⟩:=Fz hj;split at hk
    .rename_i cs hcs;split at hk
     .rename_i U;have U:=ar U;obtain⟨h5,h6⟩:=Ls hcs h4;obtain⟨A,hl⟩:=fx h l (hinv.cells id _ l hb);have hg:H.get (nm id)=M ⟨ty,.mx A⟩:=by rw[hH,bH,hb];simp only[aG,jN,hl]
      have hcell:=sU h5 h6;have hlen:s.cs.length=1:=by rw[gU h5];exact U
      have e0:j.toNat*1+0=j.toNat:=by omega
      rw[e0]at h1;have hput:(BC.mx A).put j.toNat s.cs=M (.mx (splice A j.toNat s.cs)):=by
       unfold BC.put;rw[aC]
       .rfl
       .simp only[al];exact⟨⟨rfl,bE (by simp only[BC.len];rw[hlen,gU hl];omega)⟩,hcell⟩
      have Z:eP (.store 1 x v) (Kz e h) H (nm nx)=M ⟨raw undef,[nm id],[nm id],[(nm id,⟨ty,.mx (splice A j.toNat s.cs)⟩)],[]⟩:=by
       simp only[eP,h1,h3,LR,hg,hlen,c5,bI,hput]
      have hspl:∀h',ch h h'->cP h' (splice l j.toNat cs)=M (splice A j.toNat s.cs):=λh' hr=>qy j.toNat (gy hr l A hl) (gy hr cs _ h5)
      have L:ch h (h.set id (M (.cells (M ty) (splice l j.toNat cs)))):=ch.set λr hr=>by rw[bV,hb]at hr;cases hr
      have key:=jb.wrt (m:=0) (v:=.undef) (rd:=kQ id) hinv hc hH Z (B:=.cells (M ty) (splice l j.toNat cs)) hb (dX.zero h) (by simp) rfl (λty' l2 he=>by cases he;exact kh _ _ _ (hspl _ L)) (λH1 H2 d g b' a=>by
       have:=hspl _ L;simp only[eJ,sF,bI,jN,this,ah]at a;subst a;exact iS.refl d _) (λH1 H2 y d g hy=>by
       simp only[cA,ah]at hy;subst hy;exact ma.refl d _) (λn hn=>by simp only[aI]at hn;subst hn;rw[d_];exact b9.2 rfl)
      rw[zq]at key;exact⟨_,_,_,_,_,hk,key⟩
     .cases hk
    .cases hk
   .cases hk
  .cases hk
 .cases hk
theorem aom {con:FuncId->I co} {b_:TypeId->I Ty} {ty:TypeId} {sz bytes:Nat} {z:ξ} {l c:Operand} (hc:dE P o.op=M (.mksl ty sz bytes z l c)) (hk:eh con b_ (.op (.mksl ty sz bytes z l c)) e h nx K=M r):ly P o af e h nx K r:=by
 cases hcm:EI (b_ ty) with
 |none=>exact ak0 hinv hi hcm hc hk
 |some n=>
  obtain⟨H,hH⟩:=j7 h;simp only[eh,hcm]at hk;split at hk
  .rename_i zc k a k' b A hv L;obtain⟨hck,hk⟩:=ey hk;rw[al]at hck;obtain⟨hcond,hn⟩:=hck;have hn:=ba hn;obtain⟨y,h1,h2⟩:=bL hi hv;obtain⟨y2,h3,Z⟩:=bL hi L;simp only[cA,ah]at h2 Z;subst h2;subst Z;have han:aQ a=n:=by rw[hn];rfl
   obtain⟨_,_,hzc⟩:=wh h A;refine ⟨_,_,_,_,_,hk,jb.new hinv hc hH (y0:=.row (nm nx) sz n) (rdl:=[]) (b0:=⟨ty,.fz (repl z n)⟩) (by simp only[eP,h1,h3,gL,hcond,bI,han]) (dX.zero h) (λty' l' he=>?_) (λH1 H2 d g b' s=>?_) (λH1 H2 y d g U=>?_) (by simp)⟩
   .cases he;exact kh _ _ _ (NR _ A n)
   .simp only[jN,NR _ A n,ah]at s;subst s;refine iS.cells rfl rfl (il.refl d _) λx hx=>?_
    exact mr (sU (NR h A n) (Gk hzc n)) x hx
   .simp only[cA,ah]at U;subst U;exact ma.refl d _
  .cases hk
theorem asf {con:FuncId->I co} {b_:TypeId->I Ty} {ty:TypeId} {sz len:Nat} {z:ξ} {parts:Y (Nat×Nat×Operand)} (hc:dE P o.op=M (.bsl ty sz len z parts)) (hk:eh con b_ (.op (.bsl ty sz len z parts)) e h nx K=M r):ly P o af e h nx K r:=by
 cases hcm:EI (b_ ty) with
 |none=>exact aou hinv hi hcm hc hk
 |some n=>
  obtain⟨H,hH⟩:=j7 h;simp only[eh,hcm]at hk;split at hk
  .rename_i zc A;split at hk
   .rename_i cs hf;split at hk
    .cases hk
    .rename_i hl;have hl:len≠0:=λe=>hl (by rw[e];rfl)
     obtain⟨cs',h1,h2,h3⟩:=D5 hi parts _ cs _ hf (NR h A len);obtain⟨_,_,hzc⟩:=wh h A;have hcs:=h3 (Gk hzc len);have hr:ch h ((eJ 0 h).set nx (M (.cells (M ty) cs))):=(ch.kill 0 h).trans (ch.set λr hr=>by rw[bV,(hinv.kill 0).fresh]at hr;cases hr);have s:=gy hr _ _ h2;refine ⟨_,_,_,_,_,hk,jb.new hinv hc hH (y0:=.row (nm nx) sz len) (rdl:=[]) (b0:=⟨ty,pZ cs'⟩) (by simp only[eP,h1,aw hl]) (dX.zero h) (λty' l' he=>?_) (λH1 H2 d g b' a=>?_) (λH1 H2 y d g L=>?_) (by simp)⟩
     .cases he;exact kh _ _ _ s
     .simp only[jN,s,ah]at a;subst a;obtain⟨Z,U⟩:=oA cs';refine iS.cells U rfl ?_ λx hx=>?_
      .rw[Z];exact il.refl d _
      .exact mr (sU h2 hcs) x hx
     .simp only[cA,ah]at L;subst L;exact ma.refl d _
   .cases hk
  .cases hk
theorem asj {con:FuncId->I co} {b_:TypeId->I Ty} {ty:TypeId} {sz bytes:Nat} {s x:Operand} (hc:dE P o.op=M (.app ty sz bytes s x)) (hk:eh con b_ (.op (.app ty sz bytes s x)) e h nx K=M r):ly P o af e h nx K r:=by
 cases hcm:EI (b_ ty) with
 |none=>exact aov hinv hi hcm hc hk
 |some n0=>
  obtain⟨H,hH⟩:=j7 h;have hfr:=hinv.fresh;simp only[eh,hcm]at hk;split at hk
  .rename_i b y hv hv2;obtain⟨yb,h1,h2⟩:=bL hi hv;obtain⟨yy,h3,h4⟩:=bL hi hv2;unfold al1 at hk;split at hk
   .rename_i id2 sz2 m;simp only[cA,ah]at h4;subst h4;split at hk
    .rename_i ty2 l2 a;split at hk
     .rename_i hq;simp only[al,db]at hq;obtain⟨⟨q1,q2⟩,q3⟩:=hq;have q1:=ar q1;have q2:=ar q2;have q3:m≠0:=λe=>by rw[e]at q3;cases q3
      subst q1;obtain⟨z,Z⟩:=fx h l2 (hinv.cells id2 _ l2 a);have hrow:=aio hH a Z q2;split at hk
      .rename_i id sz1 n;simp only[cA,ah]at h2;subst h2;split at hk
       .rename_i ty1 l1 L;split at hk
        .rename_i hq;simp only[al,db]at hq;obtain⟨⟨⟨p1,p2⟩,p3⟩,p4⟩:=hq;have p1:=ar p1;have p2:=eq_of_beq p2;have p3:=ar p3;have p4:id≠id2:=λe=>by rw[e,sF]at p4;cases p4
         subst p1;subst p2;obtain⟨hroom,hk⟩:=ey hk;obtain⟨A,hl1⟩:=fx h l1 (hinv.cells id _ l1 L);have hln:=gU hl1;have hg:H.get (nm id)=M ⟨ty1,.mx A⟩:=by rw[hH,bH,L];simp only[aG,jN,hl1]
         have hidlt:id<nx:=hinv.low id _ L;generalize hB:iB.cells (M ty1) (l1++l2)=B at hk;have hd1:ch h (h.set id (M (.dead J 0 0))):=ch.set λr hr=>by rw[bV,L]at hr;cases hr
         have hd2:ch (h.set id (M (.dead J 0 0))) ((h.set id (M (.dead J 0 0))).set nx (M B)):=ch.set λr hr=>by
          rw[bV,PT.get_set,aw (by omega),hfr]at hr;cases hr
         have hr:=hd1.trans hd2;have hsp:cP ((h.set id (M (.dead J 0 0))).set nx (M B)) (l1++l2)=M (A++z):=gy hr _ _ (oa hl1 Z);have U:bz ((h.set id (M (.dead J 0 0))).set nx (M B)) (nm nx)=M ⟨ty1,.mx (A++z)⟩:=by rw[bH,PT.get_set,aC rfl,<-hB]at *;simp only[aG,jN,hsp]
         have hbd:bz ((h.set id (M (.dead J 0 0))).set nx (M B)) (nm id)=D:=by rw[bH,PT.get_set,aw (by omega),PT.get_set,aC rfl];rfl
         have hinv1:mH (h.set id (M (.dead J 0 0))) nx:=hinv.set hd1 hidlt (bT _) (λ_ _ he=>by cases he);have ha:eP (.app ty1 sz1 bytes s x) (Kz e h) H (nm nx)=M ⟨.row (nm nx) sz1 (n+m),[nm id,nm id2],[nm nx,nm id],[(nm nx,⟨ty1,pZ (A++z)⟩)],[nm nx]⟩:=by
          simp only[eP,h1,h3,hrow,hg];rw[aC (by
           simp only[c5,fZ,Bool.and_true,BC.isCells,BC.len,hroom,al,db];refine ⟨?_,bE (by omega)⟩;simp only[VY,Bool.or_false];cases hq:aB (nm id2) (nm id) with
           |false=>rfl
           |true=>exact b8 (lA (ar hq)).symm p4)]
          simp only[BC.toMx,gk (show A.length<=n*sz1 by omega)]
         refine ⟨_,_,_,_,_,hk,jb.mk' hc hH ha [nm nx,nm id] (λi hi=>hi) (λq hq=>?_) (λi hi b' hbb=>?_) (λH1 H2 d hw1 _ hw2=>⟨λi hi b b' hb a=>?_,λy hy=>?_⟩) (λq hq=>?_) (λq hq=>?_) (λq hq=>?_) hr (hinv1.set hd2 (by omega) (by omega) λty' l' he=>?_) (by omega)⟩
         .simp only[bm,cF,gu,not_or]at hq;refine kN hinv hr λi ei=>?_
          subst ei;rw[PT.get_set,aw (λe=>hq.1 (by rw[e])),PT.get_set,aw (λe=>hq.2 (by rw[e]))]
         .simp only[bm,cF,gu]at hi;rcases hi with rfl|rfl
          .rw[aC (by simp)];exact⟨_,iD _ _⟩
          .rw[hbd]at hbb;cases hbb
         .simp only[bm,cF,gu]at hi;rcases hi with rfl|rfl
          .rw[hw1 _ (by simp),iD]at hb;rw[hw2 _ (by simp),U]at a;simp only[ah]at hb a;subst hb;subst a;obtain⟨m1,m2⟩:=oA (A++z);exact iS.eq d m2 rfl m1
          .rw[hw2 _ (by simp),hbd]at a;cases a
         .simp only[cA,ah]at hy;subst hy;exact ma.refl d _
         .simp only[bm,cF,gu]at hq;rw[bu,ji];rcases hq with rfl|rfl
          .rw[d_];exact .inl (b9.2 rfl)
          .rw[d_];exact .inr (b9.2 rfl)
         .simp only[bm,cF,gu]at hq;rw[bu,ji];rcases hq with rfl|rfl
          .rw[d_];exact .inr (b9.2 rfl)
          .rw[d_];exact .inl (b9.2 rfl)
         .simp only[aI]at hq;subst hq;rw[d_];omega
         .rw[<- hB]at he;cases he;exact kh _ _ _ hsp
        .cases hk
       .cases hk
      .simp only[cA,ah]at h2;subst h2;obtain⟨hroom,hk⟩:=ey hk;have hr:ch h ((eJ 0 h).set nx (M (.cells (M ty) l2))):=(ch.kill 0 h).trans (ch.set λr hr=>by rw[bV,(hinv.kill 0).fresh]at hr;cases hr);have h2':=gy hr _ _ Z;refine ⟨_,_,_,_,_,hk,jb.new hinv hc hH (y0:=.row (nm nx) sz2 m) (rdl:=[nm id2]) (b0:=⟨ty,pZ z⟩) (by simp only[eP,h1,h3,hrow];simp[JX,uk,hroom,q3]) (dX.zero h) (λty' l' he=>?_) (λH1 H2 d g b' U=>?_) (λH1 H2 y d g hy=>?_) (λn hn=>?_)⟩
       .cases he;exact kh _ _ _ h2'
       .simp only[jN,h2',ah]at U;subst U;obtain⟨p1,p2⟩:=oA z;exact iS.eq d p2 rfl p1
       .simp only[cA,ah]at hy;subst hy;exact ma.refl d _
       .simp only[aI]at hn;subst hn;rw[d_];exact b9.2 rfl
      .cases hk
     .cases hk
    .cases hk
   .cases hk
  .cases hk
theorem arw {con:FuncId->I co} {b_:TypeId->I Ty} {sz:Nat} {x:Operand} {lo hi' mx:I Operand} (hc:dE P o.op=M (.slc sz x lo hi' mx)) (hk:eh con b_ (.op (.slc sz x lo hi' mx)) e h nx K=M r):ly P o af e h nx K r:=by
 have hfr:=hinv.fresh;simp only[eh]at hk;split at hk
 .rename_i v hv;obtain⟨y,h1,h2⟩:=bL hi hv;split at hk
  .split at hk
   .rename_i hn;obtain⟨n,hn⟩:=iY.1 hn;have L:=R7 hn h2;exact ly.q (k:=0) hinv hc (λH _=>by simp only[eP,h1,L,Option.isSome_some,bI]) (dH rfl) hk
   .cases hk
  .rename_i b;split at hk
   .rename_i T xs k j hb;obtain⟨y2,L,A⟩:=bL hi hb;simp only[cA,ah]at h2 A;subst h2;subst A;split at hk
    .rename_i hs;have hs:=ar hs;subst hs;obtain⟨hj,hk⟩:=ey hk;have hfl:=fQ (bD T) xs;have hcond:(c_ 0 j&&c_ j (ai xs)&&eR (ai xs*T.size) (xs.flatMap (bX T)).length)=J:=by
      rw[hj,fZ];exact bE (by omega)
     simp only[c_,al,bc]at hj;have hlen:(xs.take j.toNat).length=j.toNat:=by rw[bM];omega
     exact ly.q (k:=0) (y0:=.f (.sl ((xs.flatMap (bX T)).take (j.toNat*T.size)) j.toNat)) hinv hc (λH _=>by simp only[eP,h1,L,gL,hcond,bI]) (dH (by simp only[cA,gL];rw[Bc (bD T),hlen])) hk
    .cases hk
   .rename_i id k j hb;obtain⟨y2,L,A⟩:=bL hi hb;simp only[cA,ah]at A;subst A;split at hk
    .rename_i ty p T xs a;split at hk
     .rename_i hs;have hs:=ar hs;subst hs;obtain⟨hj,hk⟩:=ey hk;obtain⟨H,hH⟩:=j7 h;have hj0:=hj;simp only[c_,fP,al,bc]at hj;have hp:¬((p&&xs.length==0)=J):=by
       simp only[al,c8];omega
      simp only[cA,bV,a,aG,nz,fM,aw hp,ah]at h2;subst h2;have hidlt:=hinv.low id _ a;have hne:nx≠id:=by omega
      have hg:H.get (nm id)=M ⟨ty,.fz (xs.flatMap (bX T))⟩:=by rw[hH,bH,a];simp only[aG,jN,aw hp]
      have fl:=fQ (bD T) xs;have hcond:(T.size==T.size&&c_ 0 j&&c_ j (ai xs))=J:=by
       simp only[c_,al,bc,c5,Ci];omega
      have hlen:(xs.take j.toNat).length=j.toNat:=by rw[bM];omega
      have ha0:eP (.slc T.size x D (M b) D) (Kz e h) H (nm nx)=M ⟨.row (nm nx) T.size j.toNat,[nm id],[nm nx,nm id],[(nm nx,⟨ty,.fz ((xs.take j.toNat).flatMap (bX T))⟩)],[nm nx]⟩:=by
       have hc2:((BC.fz (xs.flatMap (bX T))).isCells&&eR (ai xs*T.size) (BC.fz (xs.flatMap (bX T))).len)=J:=by
        simp only[BC.isCells,fZ,BC.len];exact bE (by omega)
       simp only[eP,h1,L,gL,hcond,bI,hg,hc2,BC.toMx,<-ll,DB,Bc (bD T)]
      generalize hh':(h.set id (M (.dead p T.size (ai xs)))).set nx (M (.rows ty af T (dQ j.toNat xs)))=h' at hk;have hrA:ch h (h.set id (M (.dead p T.size (ai xs)))):=ch.set λr hr=>by rw[bV,a]at hr;exact hr
      have s:∀i,h'.get i=if i=nx then M (.rows ty af T (dQ j.toNat xs)) else if i=id then M (.dead p T.size (ai xs)) else h.get i:=λi=>by rw[<- hh',PT.get_set,PT.get_set]
      have hr:ch h h':=by
       rw[<- hh'];refine hrA.trans (ch.set λr hr=>?_);rw[bV,PT.get_set,aw hne,hfr]at hr;cases hr
      have hinv':mH h' (nx+1):=by
       refine ⟨λi ty l hil=>?_,λi c hic=>?_⟩
       .rw[s]at hil;split at hil
        .cases hil
        .split at hil
         .cases hil
         .exact jm hr l (hinv.cells i _ l hil)
       .rw[s]at hic;split at hic
        .omega
        .split at hic
         .omega
         .have:=hinv.low i c hic;omega
      have hsame:∀n,n≠nm nx->n≠nm id->bz h' n=bz h n:=λn h1 h2=>kN hinv hr λi e=>by
       subst e;rw[s,aw (λe=>h1 (by rw[e])),aw (λe=>h2 (by rw[e]))]
      have hdead:bz h' (nm id)=D:=by rw[bH,s,aw (by omega),aC rfl];rfl
      have hnew:bz h' (nm nx)=M ⟨ty,.fz ((xs.take j.toNat).flatMap (bX T))⟩:=by rw[bH,s,aC rfl];rfl
      have hval:cA h' (.row nx)=M (.row (nm nx) T.size j.toNat):=by simp only[cA,bV,s,bI,aG,nz,fM,lX,cG,ec,hlen]
      refine ⟨_,_,_,_,_,hk,?_⟩;refine jb.mk' hc hH ha0 [nm nx,nm id] (λi hi=>hi) (λn hn=>?_) (λi hi b' hb'=>?_) (λH1 H2 d hw1 _ Z=>⟨λi hi b b' U z=>?_,λy hy=>?_⟩) (λn hn=>?_) (λn hn=>?_) (λn hn=>by simp only[aI]at hn;subst hn;rw[d_];omega) hr hinv' (by omega)
      .simp only[bm,cF,gu,not_or]at hn;exact hsame n hn.1 hn.2
      .simp only[bm,cF,gu]at hi;rcases hi with rfl|rfl
       .exact⟨_,by rw[aC (by simp)];exact iD _ _⟩
       .rw[hdead]at hb';cases hb'
      .simp only[bm,cF,gu]at hi;rcases hi with rfl|rfl
       .rw[hw1 _ (by simp),iD]at U;rw[Z _ (by simp),hnew]at z;simp only[ah]at U z;subst U;subst z;exact iS.refl d _
       .rw[Z _ (by simp),hdead]at z;cases z
      .rw[hval]at hy;simp only[ah]at hy;subst hy;exact ma.refl d _
      .simp only[aI]at hn;subst hn;rw[d_];exact b9.2 rfl
      .simp only[bm,cF,gu]at hn;rcases hn with rfl|rfl<;>rw[d_,bu,b9.2 rfl]<;>simp
     .cases hk
    .cases hk
   .cases hk
  .rename_i b;split at hk
   .rename_i T xs k j hb;obtain⟨y2,L,A⟩:=bL hi hb;simp only[cA,ah]at h2 A;subst h2;subst A;split at hk
    .rename_i hs;have hs:=ar hs;subst hs;obtain⟨hj,hk⟩:=ey hk;have hfl:=fQ (bD T) xs;have hcond:(c_ 0 j&&c_ j (ai xs)&&eR (ai xs*T.size) (xs.flatMap (bX T)).length)=J:=by
      rw[hj,fZ];exact bE (by omega)
     simp only[c_,al,bc]at hj;have hlen:(xs.drop j.toNat).length=ai xs-j.toNat:=by rw[nj]
     have htk:((xs.flatMap (bX T)).drop (j.toNat*T.size)).take ((ai xs-j.toNat)*T.size)=(xs.flatMap (bX T)).drop (j.toNat*T.size):=by
      refine gk ?_;rw[nj,hfl,Nat.sub_mul];exact bT _
     exact ly.q (k:=0) (y0:=.f (.sl ((xs.flatMap (bX T)).drop (j.toNat*T.size)) (ai xs-j.toNat))) hinv hc (λH _=>by simp only[eP,h1,L,gL,hcond,bI,htk]) (dH (by simp only[cA,gL];rw[Kt (bD T),hlen])) hk
    .cases hk
   .rename_i id k j hb;obtain⟨y2,L,A⟩:=bL hi hb;simp only[cA,ah]at A;subst A;split at hk
    .rename_i ty p T xs a;split at hk
     .rename_i hs;have hs:=ar hs;subst hs;obtain⟨hj,hk⟩:=ey hk;have hcond:(T.size==T.size&&c_ 0 j&&fP j (ai xs))=J:=by
       simp only[al]at hj;rw[hj.1,hj.2,c5];rfl
      simp only[c_,fP,al,bc]at hj;have hp:¬((p&&xs.length==0)=J):=by
       simp only[al,c8];omega
      simp only[cA,bV,a,aG,nz,fM,aw hp,ah]at h2;subst h2;exact ly.q (k:=0) (y0:=.sl (nm id) (j.toNat*T.size) (ai xs-j.toNat)) hinv hc (λH _=>by simp only[eP,h1,L,gL,hcond,bI]) (dH (by simp only[cA,bV,a,aG,nz])) hk
     .cases hk
    .cases hk
   .cases hk
  .cases hk
 .cases hk
theorem ase {con:FuncId->I co} {b_:TypeId->I Ty} {sz:Nat} {z:ξ} {x:Operand} (hc:dE P o.op=M (.clr sz z x)) (hk:eh con b_ (.op (.clr sz z x)) e h nx K=M r):ly P o af e h nx K r:=by
 obtain⟨H,hH⟩:=j7 h;simp only[eh]at hk;split at hk
 .rename_i id j hv;split at hk
  .rename_i ty p T xs hb;split at hk
   .rename_i hs;simp only[al]at hs;obtain⟨⟨hs,s⟩,hco⟩:=hs;have hs:=ar hs;have s:=LO s;subst hs;subst s;obtain⟨hj,hk⟩:=ey hk;simp only[c_,fP,al,bc]at hj;obtain⟨j0,j1⟩:=hj;obtain⟨y,h1,h2⟩:=bL hi hv;simp only[cA,bV,hb,aG,nz,ah]at h2;subst h2;have hp:¬((p&&xs.length==0)=J):=by
     simp only[al,c8];omega
    have fl:=fQ (bD T) xs;have hg:H.get (nm id)=M ⟨ty,.fz (xs.flatMap (bX T))⟩:=by rw[hH,bH,hb];simp only[aG,jN,aw hp]
    have hrl:(repl (tV T) (xs.length-j.toNat)).length=(xs.length-j.toNat)*T.size:=by
     have h9:=(II (H:=λ_=>D) (H':=λ_=>D) (λn b hb=>by cases hb) T (xs.length-j.toNat)).length;rw[bQ,bQ,fQ (bD T),bW]at h9;exact h9.symm
    have hoff:j.toNat*T.size+(xs.length-j.toNat)*T.size=xs.length*T.size:=by rw[<- O7];congr 1;omega
    have hput:(BC.fz (xs.flatMap (bX T))).put (j.toNat*T.size) ((repl (tV T) (xs.length-j.toNat)).map .f)=M (.fz (splice (xs.flatMap (bX T)) (j.toNat*T.size) (repl (tV T) (xs.length-j.toNat)))):=by
     unfold BC.put;rw[aC]
     .simp only[LW]
     .simp only[al];refine ⟨⟨rfl,bE ?_⟩,HO _ λq hq=>?_⟩
      .simp only[BC.len,bQ];omega
      .obtain⟨v,hv,rfl⟩:=RL _ q hq;exact gI.1 hco v hv
    have hblt:gF 0 (xs.length-j.toNat)=J:=bE (by omega);have U:eP (.clr T.size (tV T) x) (Kz e h) H (nm nx)=M ⟨.tup [],[nm id],[nm id],[(nm id,⟨ty,.fz (splice (xs.flatMap (bX T)) (j.toNat*T.size) (repl (tV T) (xs.length-j.toNat)))⟩)],[]⟩:=by
     simp only[eP,h1,hg,hblt,bI,hput]
    have hlen:(dQ j.toNat xs++aA (ai xs-j.toNat) T.zero).length=xs.length:=by
     rw[bf,bM,bW];omega
    have hrow:nz (.rows ty p T (dQ j.toNat xs++aA (ai xs-j.toNat) T.zero))=nz (.rows ty p T xs):=by simp only[nz,hlen]
    refine ⟨_,_,_,_,_,hk,jb.wrt (m:=0) (v:=.tup []) (rd:=kQ id) hinv hc hH U hb (dX.zero h) (by simp) hrow (λ_ _ he=>by cases he) (λH1 H2 d g b' a=>?_) (λH1 H2 y d g Z=>?_) (λn hn=>?_)⟩
    .have L:¬((p&&(dQ j.toNat xs++aA (ai xs-j.toNat) T.zero).length==0)=J):=by rw[hlen];exact hp
     simp only[jN,aw L,ah]at a;subst a;refine iS.cells rfl rfl ?_ λq hq=>?_
     .simp only[BC.toMx];unfold splice;rw[hrl,hoff,<-fl,List.drop_length,ik,List.flatMap_append,Bc (bD T),cM,cM];exact (il.refl d _).append (II d T _)
     .simp only[BC.toMx]at hq;obtain⟨q',A,rfl⟩:=du.1 hq;exact su T _ q' A
    .simp only[cA,cP,ah]at Z;subst Z;exact ma.refl d _
    .simp only[aI]at hn;subst hn;rw[d_];exact b9.2 rfl
   .cases hk
  .cases hk
 .cases hk
end ops
theorem Pz {K V:Ty} {es:Y (K.den×V.den)} (a:mpE K V es=J):es.map (λp=>(qw K p.1,AV.f (gL V p.2)))=[]:=by
 unfold mpE at a;split at a
 .rfl
 .cases a
theorem adq {K V:Ty} {es:Y (K.den×V.den)} (a:mpE K V es=J):VW K=J:=by
 unfold mpE at a;split at a
 .rfl
 .cases a
theorem YH {str:Bool} {K:Ty} (a:ZK str K=J):VW K=J:=by
 cases K<;>cases str<;>first|rfl|cases a
theorem PF {str:Bool} {K:Ty} (a:ZK str K=J) (k k':K.den):uq .eql (qw K k) (qw K k')=M (.bool (Rm K k k'))/\zZ str (qw K k)=J/\gL K k= .raw (qw K k):=by
 cases K<;>cases str<;>first|cases a|skip
 .exact⟨by simp only[uq,qw,Rm,c5,bI,ah,C7];exact Bool.beq_eq_decide_eq _ _,rfl,rfl⟩
 .exact⟨by simp only[uq,qw,Rm,EQ],rfl,rfl⟩
theorem R6 {str:Bool} {K V:Ty} (a:ZK str K=J) (k:K.den):∀es:Y (K.den×V.den),ui (qw K k) (es.map λp=>(qw K p.1,AV.f (gL V p.2)))=M ((N2 k es).map λv=>AV.f (gL V v))
 |[]=>rfl
 |(k',v)::r=>by
  simp only[eV,ui,(PF a k k').1,N2];cases hb:Rm K k k' with
  |true=>rfl
  |false=>simp only[cG,ec];exact R6 a k r
theorem YE {str:Bool} {K V:Ty} (a:ZK str K=J) (k:K.den) (v:V.den):∀es:Y (K.den×V.den),zX (qw K k) (.f (gL V v)) (es.map λp=>(qw K p.1,AV.f (gL V p.2)))=M ((VV k v es).map λp=>(qw K p.1,AV.f (gL V p.2)))
 |[]=>rfl
 |(k',s)::r=>by
  simp only[eV,zX,(PF a k k').1,VV];cases hb:Rm K k k' with
  |true=>rfl
  |false=>simp only[YE a k v r,cG,ec,eV]
theorem akl {h:bk} {ok b:Bool} {v:TV} {y:AV} (hv:cA h v=M y):cA h (pkT ok v (.f .bool b))=M (pkV ok y b):=by
 cases ok with
 |false=>exact hv
 |true=>simp only[pkT,pkV,cA,cP,hv];rfl
section ops
variable {R:Type} {P:Program} {o:Oper} {e:jd} {h:bk} {nx:Nat} {K:KO R} {r:R}
theorem Le.aggOf {l:Y FV} (hc:∀x∈l,x.isCell=J):Le (.agg (l.map .f)) (.f (.agg l)):=by
 intro φ O w v hr;cases hr with
 |@agg _ vs hl hcl hrr=>
  refine .f (.agg l vs (by simpa using hl) hc λj y u a hu=>?_);have:=hrr j (.f y) u (by rw[bd,a];rfl) hu;cases this with
  |f h=>exact h
def RX (S:Ty) (l:Y TV):I (S.den×Nat×Y TV):=match l with
 |c::r=>(match iW PT.leaf S c with|some (x,m)=>M (x,m,r)|none=>D)
 |[]=>D
theorem N5:∀{l a:Y FV},l.map AV.f=a.map AV.f->l=a
 |[],[],_=>rfl
 |[],_::_,h=>by simp at h
 |_::_,[],h=>by simp at h
 |x::r,y::r',h=>by
  simp only[eV,jh,AV.f.injEq]at h;rw[h.1,N5 h.2]
theorem Jx (h:bk):∀(ds:Y TypeDesc) (T:Ty),rJ ds=M T->∀(n:Nat) (l:Y TV) (x:T.den) (m:Nat) (r:Y TV),fh PT.leaf n T l=M (x,m,r)->∀A,cP h l=M A->∃l2,cP h r=M l2/\A=(bX T x).map .f++l2
 |[],T,hd,n,l,x,m,r,hp,A,hl=>by
  simp only[rJ,ah]at hd;subst hd;cases n with
  |zero=>simp[fh]at hp
  |succ n=>
   simp only[fh,ah,aE]at hp;obtain⟨_,_,rfl⟩:=hp;exact⟨A,hl,rfl⟩
 |d::ds,T,hd,n,l,x,m,r,hp,A,hl=>by
  have plain:∀(S:Ty),S.one=J->(∀t,S≠ .sl t)->∀(v:TV) (a:S.den) (m:Nat) (y:AV),iW PT.leaf S v=M (a,m)->cA h v=M y->y= .f (gL S a):=by
   intro S Z hns v a m y s hy;cases v with
   |f Q q=>
    simp only[iW]at s;split at s
    .rename_i z hz;simp only[ah,aE]at s;obtain⟨rfl,_⟩:=s;obtain⟨e,rfl⟩:=iz hz;subst e;simp only[cA,ah]at hy;exact hy.symm
    .cases s
   |emp=>
    cases S with
    |sl t=>exact b8 rfl (hns t)
    |_=>simp[iW]at s
   |nil=>
    cases S with
    |sl t=>exact b8 rfl (hns t)
    |_=>simp[iW]at s
   |row id=>simp[iW,PT.get]at s
   |fel T xs j hj off=>simp[iW]at s
   |pel id sz j off=>simp[iW]at s
   |ptr id off=>simp[iW]at s
   |csl id off z=>simp[iW]at s
   |mp id=>simp[iW]at s
   |rtl id jj=>simp[iW]at s
   |agg q=>simp[iW]at s
   |tup q=>simp[iW]at s
   |clo f q=>simp[iW]at s
   |undef=>simp[iW]at s
   |np=>simp[iW]at s
   |anyb=>simp[iW]at s
  have one:∀(S:Ty),S.one=J->(∀t,S≠ .sl t)->∀(n:Nat) (l:Y TV) (a:S.den) (m:Nat) (r:Y TV),fh PT.leaf n S l=M (a,m,r)->∀A,cP h l=M A->∃l2,cP h r=M l2/\A=(bX S a).map .f++l2:=by
   intro S Z hns n l a m r hp A hl;cases n with
   |zero=>simp[fh]at hp
   |succ n=>
    cases l with
    |nil=>
     cases S with
     |int k=>cases hp
     |bool=>cases hp
     |str=>cases hp
     |sl t=>exact b8 rfl (hns t)
     |_=>cases Z
    |cons c q=>
     have hpp:RX S (c::q)=M (a,m,r):=by
      cases S with
      |int k=>simp only[fh]at hp;simp only[RX];cases hq:iW PT.leaf (.int k) c with
       |none=>rw[hq]at hp;cases hp
       |some z=>rw[hq]at hp;exact hp
      |bool=>simp only[fh]at hp;simp only[RX];cases hq:iW PT.leaf .bool c with
       |none=>rw[hq]at hp;cases hp
       |some z=>rw[hq]at hp;exact hp
      |str=>simp only[fh]at hp;simp only[RX];cases hq:iW PT.leaf .str c with
       |none=>rw[hq]at hp;cases hp
       |some z=>rw[hq]at hp;exact hp
      |sl t=>exact b8 rfl (hns t)
      |_=>cases Z
     simp only[RX]at hpp;split at hpp
     .rename_i a1 m1 h1;simp only[ah,aE]at hpp;obtain⟨rfl,rfl,rfl⟩:=hpp;obtain⟨y,l2,rfl,g1,g2⟩:=dg hl;have:=plain S Z hns c a1 m1 y h1 g1;subst this;exact⟨l2,g2,by rw[(D_ S a1 Z).1];rfl⟩
     .cases hpp
  have two:∀(S U:Ty),S.one=J->(∀t,S≠ .sl t)->rJ ds=M U->T= .pr S U->∃l2,cP h r=M l2/\A=(bX T x).map .f++l2:=by
   intro S U Z hns L e;subst e;cases n with
   |zero=>simp[fh]at hp
   |succ n=>
    simp only[fh]at hp;split at hp
    .rename_i x1 m1 r1 h1;split at hp
     .rename_i x2 m2 r2 h2;simp only[ah,aE]at hp;obtain⟨rfl,rfl,rfl⟩:=hp;obtain⟨l2,g1,g2⟩:=one S Z hns n l x1 m1 r1 h1 A hl;obtain⟨l3,g3,g4⟩:=Jx h ds U L n r1 x2 m2 r2 h2 l2 g1;exact⟨l3,g3,by rw[g2,g4,bX,cM,gV]⟩
     .cases hp
    .cases hp
  cases d with
  |int k=>
   simp only[rJ]at hd;split at hd
   .rename_i U L;simp only[ah]at hd;exact two (.int k) U rfl (λt h=>by cases h) L hd.symm
   .cases hd
  |bool=>
   simp only[rJ]at hd;split at hd
   .rename_i U L;simp only[ah]at hd;exact two .bool U rfl (λt h=>by cases h) L hd.symm
   .cases hd
  |string=>
   simp only[rJ]at hd;split at hd
   .rename_i U L;simp only[ah]at hd;exact two .str U rfl (λt h=>by cases h) L hd.symm
   .cases hd
  |_=>simp[rJ]at hd
theorem D8:∀(ds:Y TypeDesc) (T:Ty),rJ ds=M T->∀a b:T.den,pE ds (bX T a) (bX T b)=M (Rm T a b)
 |[],T,hd,a,b=>by simp only[rJ,ah]at hd;subst hd;rfl
 |d::ds,T,hd,a,b=>by
  cases d with
  |int k=>
   simp only[rJ]at hd;split at hd
   .rename_i U A;simp only[ah]at hd;subst hd;have z:=D8 ds U A a.2 b.2;simp only[bX,fR,kn,pE,yw,c5,bI,Rm];cases he:((a.1:Int)==b.1) with
    |true=>have s:(a.1:Int)=b.1:=by simpa using he
           simp only[z,s,cV,fZ]
    |false=>have s:¬(a.1:Int)=b.1:=by simpa using he
            simp only[s,cK,lX]
   .cases hd
  |bool=>
   simp only[rJ]at hd;split at hd
   .rename_i U A;simp only[ah]at hd;subst hd;have z:=D8 ds U A a.2 b.2;simp only[bX,fR,kn,pE,yw,Rm];cases he:((a.1:Bool)==b.1)<;>simp[he,z]
   .cases hd
  |string=>
   simp only[rJ]at hd;split at hd
   .rename_i U A;simp only[ah]at hd;subst hd;have z:=D8 ds U A a.2 b.2;simp only[bX,fR,kn,pE,yw,Rm,EQ];cases he:decide ((a.1:ζ)=b.1) with
    |true=>simp only[z,fZ]
    |false=>simp only[lX]
   .cases hd
  |_=>simp[rJ]at hd
theorem OW {u:TV} (hu:u.isC=af) {lu:Y TV} (hl:u.cs=M lu) {ds:Y TypeDesc} {T:Ty} (hd:rJ ds=M T) {a:T.den} {m:Nat} (hp:fh PT.leaf 40 T lu=M (a,m,[])) {y:AV} (s:cA h u=M y):Le y (.f (.agg (bX T a))):=by
 obtain⟨h1,_⟩:=Ls hl s;obtain⟨l2,h2,A⟩:=Jx h ds T hd 40 lu a m [] hp _ h1;simp only[cP,ah]at h2;subst h2;rw[ik]at A;cases u with
 |agg l=>
  simp only[cA]at s;split at s
  .rename_i L _;simp only[ah]at s;subst s;have:L=(bX T a).map .f:=A;rw[this];exact Le.aggOf (oH T a)
  .cases s
 |f S x=>
  simp only[cA,ah]at s;subst s;have U:S.one=af:=hu;rw[Be]at A;have:bX S x=bX T a:=N5 A;rw[rn S x U,this];exact Le.refl _
 |tup l=>simp[TV.cs,TV.isC]at hl
 |undef=>simp[TV.cs,TV.isC]at hl
 |np=>cases hu
 |anyb=>simp[TV.cs,TV.isC]at hl
 |fel T xs j hj off=>cases hu
 |pel id sz j off=>cases hu
 |ptr id off=>cases hu
 |csl id off z=>cases hu
 |row id=>cases hu
 |emp=>cases hu
 |nil=>cases hu
 |mp id=>cases hu
 |rtl id Z=>cases hl
 |clo g l=>cases hu
variable (hinv:mH h nx) (hi:ut e h)
include hinv hi
theorem asc {con:FuncId->I co} {b_:TypeId->I Ty} {neg:Bool} {ds:Y TypeDesc} {x y:Operand} {st:Bool} (hc:dE P o.op=M (.eqs neg ds x y)) (hk:eh con b_ (.op (.eqs neg ds x y)) e h nx K=M r):ly P o st e h nx K r:=by
 obtain⟨H,hH⟩:=j7 h;simp only[eh]at hk;split at hk
 .rename_i T u v hd hu hv;split at hk
  .cases hk
  .rename_i hcc;simp only[ji,not_or,Bool.not_eq_true]at hcc;split at hk
   .rename_i lu lv hlu hlv;split at hk
    .rename_i a m1 b m2 hpa hpb;obtain⟨yu,h1,h2⟩:=bL hi hu;obtain⟨yv,h3,h4⟩:=bL hi hv;obtain⟨⟨⟨Z,U⟩,hc3⟩,hc4⟩:=hcc;have l1:=OW Z hlu hd hpa h2;have l2:=OW U hlv hd hpb h4;have tmp:∀(z:Operand) (q:TV),f_ e z=M q->q.isC=af->V6 z=af->∃t,z= .tmp t:=by
      intro z q A hq hg;cases z with
      |tmp t=>exact⟨t,rfl⟩
      |const c=>
       have A:cst c=M q:=by
        simp only[f_,amk]at A;split at A
        .cases hg
        .exact A
       have:=(Lq h A).2.2;rw[hq]at this;cases this
      |func g=>simp only[f_,ah]at A;subst A;cases hq
      |global g=>
       simp only[f_]at A;split at A
       .cases A;cases hq
       .cases A
     obtain⟨t,rfl⟩:=tmp x u hu Z hc3;obtain⟨t',rfl⟩:=tmp y v hv U hc4;have same:t=t'->bX T a=bX T b:=by
      intro ht;subst ht;rw[hu]at hv;cases hv;rw[hlu]at hlv;cases hlv;rw[hpa]at hpb;cases hpb;rfl
     let L:AJ:=((Kz e h).set t (M (.f (.agg (bX T a))))).set t' (M (.f (.agg (bX T b))))
     have e1:nl L (.tmp t)=M (.f (.agg (bX T a))):=by
      simp only[nl,L,PT.get_set];by_cases ht:t=t'
      .rw[aC ht,same ht]
      .rw[aw ht];simp
     have e2:nl L (.tmp t')=M (.f (.agg (bX T b))):=by simp only[nl,L,PT.get_set,bI]
     have ha:eP (.eqs neg ds (.tmp t) (.tmp t')) L H 0=M ⟨raw (.bool (Rm T a b !=neg)),[],[],[],[]⟩:=by
      simp only[eP,e1,e2,D8 ds T hd a b];rfl
     have ht:=Jz hc ha;rw[hH]at ht;have ht2:gZ P o (fV e h) (bz h) _:=ht.envLe (e2:=fV e h) λs z _ A=>by
      simp only[L,PT.get_set]at A;rw[<- v8];simp only[nl]at h1 h3;split at A
      .rename_i es;subst es;cases A;exact⟨yv,h3,l2⟩
      .split at A
       .rename_i es;subst es;cases A;exact⟨yu,h1,l1⟩
       .exact⟨z,A,Le.refl _⟩
     refine ⟨_,0,0,h,nx,hk,⟨⟨_,ht2,λy hy=>?_,by simp[C5.eff,uD],by simp[C5.eff],by simp[C5.eff],by simp[C5.eff]⟩,λ_ _ h=>h,hinv,bT _,λ_=>⟨rfl,rfl⟩⟩⟩;simp only[cA,ah]at hy;exact hy
    .cases hk
   .cases hk
 .cases hk
theorem as1 {con:FuncId->I co} {b_:TypeId->I Ty} (hc:dE P o.op=M .mkm) (hk:eh con b_ (.op .mkm) e h nx K=M r):ly P o af e h nx K r:=by
 have _:=hi;obtain⟨H,z⟩:=j7 h;refine ⟨_,_,_,_,_,hk,jb.new hinv hc z (y0:=.mp (nm nx)) (rdl:=[]) (b0:=⟨0,.mp []⟩) rfl (dX.zero h) (λ_ _ he=>by cases he) (λL A d g b' a=>?_) (λL A y d g s=>?_) (by simp)⟩
 .cases a;exact iS.refl d _
 .simp only[cA,ah]at s;subst s;exact ma.refl d _
theorem aoq {con:FuncId->I co} {b_:TypeId->I Ty} {x:Operand} (hc:dE P o.op=M (.lenm x)) (hk:eh con b_ (.op (.lenm x)) e h nx K=M r):ly P o af e h nx K r:=by
 obtain⟨H,s⟩:=j7 h;simp only[eh]at hk;split at hk
 .rename_i id hv;split at hk
  .rename_i K' V es hb;obtain⟨y,h1,h2⟩:=bL hi hv;simp only[cA,ah]at h2;subst h2;split at hk
   case isFalse=>cases hk
   rename_i hO;have hg:H.get (nm id)=M ⟨0,.mp (es.map λp=>(qw K' p.1,.f (gL V p.2)))⟩:=by rw[s,bH,hb];show M (wK.mk 0 (mpC K' V es))=_;rw[zW hO]
   exact⟨_,_,_,_,_,hk,jb.pure (k:=0) hinv hc s (y0:=raw (.int .i64 es.length)) (rdl:=[nm id]) (by simp only[eP,h1,hg,bQ]) (λy a=>by simp only[cA,ah]at a;subst a;exact Le.refl _) (λn hn=>by simp only[aI]at hn;subst hn;rw[d_];exact b9.2 rfl) (λh=>by cases h)⟩
  .cases hk
 .cases hk
theorem as5 {con:FuncId->I co} {b_:TypeId->I Ty} {str ok:Bool} {z:Value} {x k:Operand} (hc:dE P o.op=M (.lku str ok z x k)) (hk:eh con b_ (.op (.lku str ok z x k)) e h nx K=M r):ly P o af e h nx K r:=by
 obtain⟨H,hH⟩:=j7 h;simp only[eh]at hk;split at hk
 .rename_i id KT s hv U;split at hk
  .rename_i K' V es hb;split at hk
   .rename_i a;obtain⟨y,h1,h2⟩:=bL hi hv;obtain⟨y2,L,h4⟩:=bL hi U;simp only[cA,ah]at h2 h4;subst h2;subst h4;simp only[al]at a;have hg:H.get (nm id)=M ⟨0,.mp (es.map λp=>(qw K' p.1,.f (gL V p.2)))⟩:=by rw[hH,bH,hb];show M (wK.mk 0 (mpC K' V es))=_;rw[zW a.2]
    obtain⟨_,hok,henc⟩:=PF a.1 s s;rw[henc]at L;have hrd:∀n∈[nm id],aO (kQ id) (ow n)=J:=λn hn=>by simp only[aI]at hn;subst hn;rw[d_];exact b9.2 rfl
    split at hk
    .rename_i hE;split at hk
     .rename_i v hz;have hzz:=(Lq h hz).1;exact⟨_,_,_,_,_,hk,jb.pure (k:=0) hinv hc hH (y0:=pkV ok (raw z) af) (rdl:=[nm id]) (by simp only[eP,h1,L,hg,hok,bI,Pz hE,ui]) (λy A=>by rw[akl hzz]at A;cases A;exact Le.refl _) hrd (λh=>by cases h)⟩
     .cases hk
    .split at hk
     .rename_i kv' Z zv hkv hz;split at hk
      .rename_i zv' hzv;obtain⟨e1,e2⟩:=iz hkv;cases e1;subst e2;obtain⟨e3,e4⟩:=iz hzv;cases e3;subst e4;have hzz:=(Lq h hz).1;simp only[cA,ah]at hzz;refine ⟨_,_,_,_,_,hk,jb.pure (k:=0) hinv hc hH (y0:=pkV ok (.f (gL _ (R5 kv' es zv'))) (am9 kv' es)) (rdl:=[nm id]) ?_ (λy A=>by rw[akl (y:=.f (gL _ (R5 kv' es zv'))) rfl]at A;cases A;exact Le.refl _) hrd (λh=>by cases h)⟩;simp only[eP,h1,L,hg,hok,bI,R6 a.1];unfold R5 am9;cases hf:N2 kv' es with
       |none=>simp only[Option.map_none];rw[hzz]
       |some v=>rfl
      .cases hk
     .cases hk
   .cases hk
  .rename_i l hb;split at hk
   .rename_i n hkv;split at hk
    case isFalse=>cases hk
    rename_i a;simp only[al]at a;split at hk
    .rename_i v hlv;obtain⟨e1,e2⟩:=iz hkv;cases e1
     replace e2:n=s:=e2
     subst n;obtain⟨y,h1,h2⟩:=bL hi hv;obtain⟨y2,L,h4⟩:=bL hi U;simp only[cA,ah]at h2 h4;subst h2;subst h4;obtain⟨l',hl⟩:=fx h l (hinv.cells id _ l hb);obtain⟨y,A,hey⟩:=lK hl _ _ hlv;have hg:H.get (nm id)=M ⟨1,.mp (pj 0 l')⟩:=by rw[hH,bH,hb];simp only[aG,jN,hl]
     have ht:told s (pj 0 l')=M y:=by
      have h0:(0:Int)<=s:=ba a.2.1;have hn:(s:Int)=aM (0+aQ s):=by rw[bK];exact (fK h0).symm
      rw[hn,N8];exact A
     have henc:gL (.int .i64) s= .raw (.int .i64 s):=rfl;rw[henc]at L;exact⟨_,_,_,_,_,hk,jb.pure (k:=0) hinv hc hH (y0:=y) (rdl:=[nm id]) (by simp only[eP,h1,L,hg,a.1.1,a.1.2.1,a.1.2.2,jO,bI,ht]) (λq hq=>by rw[hey]at hq;cases hq;exact Le.refl _) (λn hn=>by simp only[aI]at hn;subst hn;rw[d_];exact b9.2 rfl) (λh=>by cases h)⟩
    .cases hk
   .cases hk
  .cases hk
 .cases hk
theorem as0 {con:FuncId->I co} {b_:TypeId->I Ty} {str:Bool} {x k v:Operand} (hc:dE P o.op=M (.mup str x k v)) (hk:eh con b_ (.op (.mup str x k v)) e h nx K=M r):ly P o af e h nx K r:=by
 obtain⟨H,hH⟩:=j7 h;simp only[eh]at hk;split at hk
 .rename_i id KT a VT vv hv U L;split at hk
  .rename_i K' V es hb;split at hk
   .rename_i z;simp only[al]at z;obtain⟨y,h1,h2⟩:=bL hi hv;obtain⟨y2,h3,h4⟩:=bL hi U;obtain⟨Z,h5,h6⟩:=bL hi L;simp only[cA,ah]at h2 h4 h6;subst h2;subst h4;subst h6;have hg:H.get (nm id)=M ⟨0,.mp (es.map λp=>(qw K' p.1,.f (gL V p.2)))⟩:=by rw[hH,bH,hb];show M (wK.mk 0 (mpC K' V es))=_;rw[zW z.2]
    obtain⟨_,hok,henc⟩:=PF z.1.1 a a;rw[henc]at h3;have hrd:∀n∈[nm id],aO (kQ id) (ow n)=J:=λn hn=>by simp only[aI]at hn;subst hn;rw[d_];exact b9.2 rfl
    split at hk
    .rename_i hE;exact⟨_,_,_,_,_,hk,jb.wrt (k:=0) (m:=0) (v:=.undef) (rd:=kQ id) hinv hc hH (y0:=raw undef) (b0:=⟨0,.mp [(qw KT a,.f (gL VT vv))]⟩) (rdl:=[nm id]) (by simp only[eP,h1,h3,h5,hg,hok,bI,Pz hE,zX]) (B:=.mp KT VT [(a,vv)]) hb (dX.zero h) (by simp) rfl (λty' l2 he=>by cases he) (λH1 H2 d g b' s=>by simp only[jN,zW (YH z.1.1),ah]at s;subst s;exact iS.refl d _) (λH1 H2 y d g A=>by simp only[cA,ah]at A;subst A;exact ma.refl d _) hrd⟩
    .split at hk
     .rename_i kv' vv' hkv hvv;obtain⟨e1,e2⟩:=iz hkv;cases e1;subst e2;obtain⟨e3,e4⟩:=iz hvv;cases e3;subst e4;exact⟨_,_,_,_,_,hk,jb.wrt (k:=0) (m:=0) (v:=.undef) (rd:=kQ id) hinv hc hH (y0:=raw undef) (b0:=⟨0,.mp ((VV kv' vv' es).map λp=>(qw _ p.1,.f (gL _ p.2)))⟩) (rdl:=[nm id]) (by simp only[eP,h1,h3,h5,hg,hok,bI,YE z.1.1]) (B:=.mp _ _ (VV kv' vv' es)) hb (dX.zero h) (by simp) rfl (λty' l2 he=>by cases he) (λH1 H2 d g b' s=>by simp only[jN,zW (YH z.1.1),ah]at s;subst s;exact iS.refl d _) (λH1 H2 y d g A=>by simp only[cA,ah]at A;subst A;exact ma.refl d _) hrd⟩
     .cases hk
   .cases hk
  .cases hk
 .rename_i id KT a i hv U L;split at hk
  .rename_i l hb;split at hk
   .rename_i n hkv;split at hk
    case isFalse=>cases hk
    rename_i z;simp only[al]at z;obtain⟨e1,e2⟩:=iz hkv;cases e1
    replace e2:n=a:=e2
    subst n;obtain⟨y,h1,h2⟩:=bL hi hv;obtain⟨y2,h3,h4⟩:=bL hi U;obtain⟨Z,h5,h6⟩:=bL hi L;simp only[cA,ah]at h2 h4;subst h2;subst h4;obtain⟨l',hl⟩:=fx h l (hinv.cells id _ l hb);have hg:H.get (nm id)=M ⟨1,.mp (pj 0 l')⟩:=by rw[hH,bH,hb];simp only[aG,jN,hl]
    have h0:(0:Int)<=a:=ba z.2.1;have h9:(a:Int)<(l.length:Int):=ba z.2.2;have hlen:=gU hl;have hn:(a:Int)=aM (0+aQ a):=by rw[bK];exact (fK h0).symm
    have ht:me a Z (pj 0 l')=pj 0 (splice l' (aQ a) [Z]):=by
     rw[Vr (by rw[hlen];exact (Int.toNat_lt h0).2 h9)]
     conv=>lhs;rw[hn]
     exact R8 Z l' 0 _
    have hs:cP h (splice l (aQ a) [.row i])=M (splice l' (aQ a) [Z]):=qy _ hl (by simp only[cP,h6]);have hr:ch h (h.set id (M (.cells D (splice l (aQ a) [.row i])))):=ch.set λr hr=>by rw[bV,hb]at hr;cases hr
    have henc:gL (.int .i64) a= .raw (.int .i64 a):=rfl;rw[henc]at h3;have hstr:str=af:=by cases str with
     |false=>rfl
     |true=>cases z.1
    subst hstr;exact⟨_,_,_,_,_,hk,jb.wrt (k:=0) (m:=0) (v:=.undef) (rd:=kQ id) hinv hc hH (y0:=raw undef) (b0:=⟨1,.mp (pj 0 (splice l' (aQ a) [Z]))⟩) (rdl:=[nm id]) (by simp only[eP,h1,h3,h5,hg,ht,cG,ec]) (B:=.cells D (splice l (aQ a) [.row i])) hb (dX.zero h) (by simp) rfl (λty' l2 he=>by cases he;exact kh _ _ _ (gy hr _ _ hs)) (λH1 H2 d g b' s=>by
     have s:jN (h.set id (M (.cells D (splice l (aQ a) [.row i])))) (.cells D (splice l (aQ a) [.row i]))=M b':=s;simp only[jN,gy hr _ _ hs,ah]at s;subst s;exact iS.refl d _) (λH1 H2 y d g A=>by simp only[cA,ah]at A;subst A;exact ma.refl d _) (λn hn=>by simp only[aI]at hn;subst hn;rw[d_];exact b9.2 rfl)⟩
   .cases hk
  .cases hk
 .cases hk
theorem arx {con:FuncId->I co} {b_:TypeId->I Ty} {x:Operand} (hc:dE P o.op=M (.rng x)) (hk:eh con b_ (.op (.rng x)) e h nx K=M r):ly P o af e h nx K r:=by
 obtain⟨H,A⟩:=j7 h;simp only[eh]at hk;split at hk
 .rename_i s hv;obtain⟨y,h1,h2⟩:=bL hi hv;simp only[cA,ah]at h2;subst h2;refine ⟨_,_,_,_,_,hk,jb.new hinv hc A (y0:=.ptr (nm nx) 0) (rdl:=[]) (b0:=⟨0,.it ⟨lj s⟩ 0⟩) (by simp only[eP,h1];rfl) (dX.zero h) (λ_ _ he=>by cases he) (λU L d g b' a=>?_) (λU L y d g z=>?_) (by simp)⟩
  .cases a;exact iS.refl d _
  .simp only[cA,ah]at z;subst z;exact ma.refl d _
 .cases hk
theorem ary {con:FuncId->I co} {b_:TypeId->I Ty} {x:Operand} (hc:dE P o.op=M (.nxt x)) (hk:eh con b_ (.op (.nxt x)) e h nx K=M r):ly P o af e h nx K r:=by
 obtain⟨H,A⟩:=j7 h;simp only[eh]at hk;split at hk
 .rename_i id hv;split at hk
  .rename_i K' V es hb;split at hk
   .rename_i s p Z;obtain⟨y,h1,h2⟩:=bL hi hv;simp only[cA,ah]at h2;subst h2;have hg:H.get (nm id)=M ⟨0,.it ⟨lj s⟩ p⟩:=by rw[A,bH,hb];show M (wK.mk 0 (mpC K' V es))=_;rw[amc Z]
    have hrd:∀n∈[nm id],aO (kQ id) (ow n)=J:=λn hn=>by simp only[aI]at hn;subst hn;rw[d_];exact b9.2 rfl
    rcases qd hk with ⟨hp,hk⟩|⟨hp,hk⟩
    .obtain⟨hj,hk⟩:=ey hk;have hp:=a_ hp;have e2:(⟨lj s⟩:ByteArray).data.toList[p]? =M (List.getD s p 0):=by
      show s[p]? =_;rw[av,ay hp];rfl
     have e3:gF (List.getD s p 0).toNat 128=J:=by
      have hj:(aM (List.getD s p 0).toNat:Int)<128:=ba hj;exact bE (Int.ofNat_lt.1 hj)
     exact⟨_,_,_,_,_,hk,jb.wrt (k:=0) (m:=0) (rd:=kQ id) hinv hc A (y0:=.tup [raw (.bool J),raw (.int .i64 p),raw (.int .i32 (List.getD s p 0).toNat)]) (b0:=⟨0,.it ⟨lj s⟩ (p+1)⟩) (rdl:=[nm id]) (by simp only[eP,h1,hg,e2,e3,bI]) (B:=.mp itK .un [((s,aM (p+1)),())]) hb (dX.zero h) (by simp) rfl (λty' l2 he=>by cases he) (λU L d g b' a=>by cases a;exact iS.refl d _) (λU L y d g z=>by cases z;exact ma.refl d _) hrd⟩
    .have hp:s.length<=p:=Nat.not_lt.1 λq=>by rw[show gF p s.length=J from bE q]at hp;cases hp
     have e2:(⟨lj s⟩:ByteArray).data.toList[p]? =D:=by
      show s[p]? =_;exact bF hp
     exact⟨_,_,_,_,_,hk,jb.wrt (k:=0) (m:=0) (rd:=kQ id) hinv hc A (y0:=.tup [raw (.bool af)]) (b0:=⟨0,.it ⟨lj s⟩ p⟩) (rdl:=[nm id]) (by simp only[eP,h1,hg,e2]) (B:=.mp itK .un [((s,aM p),())]) hb (dX.zero h) (by simp) rfl (λty' l2 he=>by cases he) (λU L d g b' a=>by cases a;exact iS.refl d _) (λU L y d g z=>by cases z;exact ma.refl d _) hrd⟩
   .cases hk
  .cases hk
 .cases hk
theorem K_op {con:FuncId->I co} {b_:TypeId->I Ty} {s:SOp} (hc:dE P o.op=M s) (hk:eh con b_ (.op s) e h nx K=M r):ly P o s.still e h nx K r:=by
 cases s with
 |mv x=>exact K_mv hinv hi hc hk
 |pick c a b=>exact aok hinv hi hc hk
 |alloc ty z=>exact ak3 hinv hi hc hk
 |box ty x=>exact ash hinv hi hc hk
 |build z parts=>exact ak2 hinv hi hc hk
 |bsl ty sz len z parts=>exact asf hinv hi hc hk
 |load sz ag x=>exact aon hinv hi hc hk
 |store sz x v=>exact ajz hinv hi hc hk
 |nilc x=>exact aol hinv hi hc hk
 |bin op x y=>exact asi hinv hi hc hk
 |eqs neg ds x y=>exact asc hinv hi hc hk
 |eqb neg x y=>exact asd hinv hi hc hk
 |isnil neg x=>exact ak1 hinv hi hc hk
 |not x=>exact arz hinv hi hc hk
 |conv k x=>exact aot hinv hi hc hk
 |mksl ty sz bytes z l c=>exact aom hinv hi hc hk
 |slc sz x lo A mx=>exact arw hinv hi hc hk
 |fad off x=>exact asa hinv hi hc hk
 |fld off sz ag x=>exact as9 hinv hi hc hk
 |iad sz x i=>exact as8 hinv hi hc hk
 |idx n sz ag x i=>exact as7 hinv hi hc hk
 |iada n sz x i=>exact aor hinv hi hc hk
 |ext x i=>exact asb hinv hi hc hk
 |len x=>exact as6 hinv hi hc hk
 |lens x=>exact aoo hinv hi hc hk
 |max x y=>exact as4 hinv hi hc hk
 |min x y=>exact as3 hinv hi hc hk
 |sidx x i=>exact aoj hinv hi hc hk
 |app ty sz bytes s x=>exact asj hinv hi hc hk
 |copy sz d x=>exact aos hinv hi hc hk
 |clr sz z x=>exact ase hinv hi hc hk
 |mkf f caps=>exact as2 hinv hi hc hk
 |mkm=>exact as1 hinv hi hc hk
 |rng x=>exact arx hinv hi hc hk
 |nxt x=>exact ary hinv hi hc hk
 |lenm x=>exact aoq hinv hi hc hk
 |lku str ok z x k=>exact as5 hinv hi hc hk
 |mup str x k v=>exact as0 hinv hi hc hk
 |_=>simp[eh]at hk
end ops
mutual
def AV.ren (g:Nat->Nat):AV->AV
 |.f x=>.f x
 |.ptr id off=>.ptr (g id) off
 |.sl id off n=>.sl (g id) off n
 |.row id sz n=>.row (g id) sz n
 |.mp id=>.mp (g id)
 |.emp=>.emp
 |.anyb=>.anyb
 |.agg l=>.agg (AV.renL g l)
 |.tup l=>.tup (AV.renL g l)
 |.clo q l=>.clo q (AV.renL g l)
def AV.renL (g:Nat->Nat):Y AV->Y AV
 |[]=>[]
 |x::r=>x.ren g::AV.renL g r
end
theorem nB (g:Nat->Nat):∀l,AV.renL g l=l.map (AV.ren g)
 |[]=>rfl
 |x::r=>by rw[AV.renL,nB g r];rfl
theorem Dp (g:Nat->Nat) (x:AV):(x.ren g).isCell=x.isCell:=by cases x<;>rfl
theorem cS.renTo {φ φ':PM} {g:Nat->Nat} {O:Nat->Prop} {w:World} (hk:∀i k,φ i=M k->φ' (g i)=M k) {x:AV} {v:Value} (h:cS φ O w x v):cS φ' O w (x.ren g) v:=by
 induction h with
 |f h=>exact .f h
 |ptr h=>exact .ptr (hk _ _ h)
 |sl h hn hc=>exact .sl (hk _ _ h) hn hc
 |row h hn hc hsh=>exact .row (hk _ _ h) hn hc hsh
 |emp=>exact .emp
 |anyb=>exact .anyb
 |mp h=>exact .mp (hk _ _ h)
 |agg hl hcl hr z=>
  simp only[AV.ren,nB];refine .agg (by simpa using hl) (λx a=>?_) λj x v a hv=>?_
  .obtain⟨y,s,rfl⟩:=du.1 a;rw[Dp];exact hcl y s
  .rw[bd]at a;obtain⟨y,s,rfl⟩:=j_.1 a;exact z j y v s hv
 |tup hl hr z=>
  simp only[AV.ren,nB];refine .tup (by simpa using hl) λj x v a hv=>?_
  rw[bd]at a;obtain⟨y,s,rfl⟩:=j_.1 a;exact z j y v s hv
 |clo hl hr z=>
  simp only[AV.ren,nB];refine .clo (by simpa using hl) λj x v a hv=>?_
  rw[bd]at a;obtain⟨y,s,rfl⟩:=j_.1 a;exact z j y v s hv
theorem cS.renFrom {φ φ':PM} {g:Nat->Nat} {O:Nat->Prop} {w:World} {p:Nat->Bool} (hk:∀i k,p i=J->φ (g i)=M k->φ' i=M k) {z:AV} {v:Value} (h:cS φ O w z v):∀x:AV,x.all p=J->z=x.ren g->cS φ' O w x v:=by
 induction h with
 |f h=>intro x hp e;cases x<;>simp only[AV.ren,reduceCtorEq]at e;cases e;exact .f h
 |ptr h=>intro x hp e;cases x<;>simp only[AV.ren,reduceCtorEq]at e;cases e;exact .ptr (hk _ _ hp h)
 |sl h hn hc=>intro x hp e;cases x<;>simp only[AV.ren,reduceCtorEq]at e;cases e;exact .sl (hk _ _ hp h) hn hc
 |row h hn hc hsh=>intro x hp e;cases x<;>simp only[AV.ren,reduceCtorEq]at e;cases e;exact .row (hk _ _ hp h) hn hc hsh
 |emp=>intro x hp e;cases x<;>simp only[AV.ren,reduceCtorEq]at e;exact .emp
 |anyb=>intro x hp e;cases x<;>simp only[AV.ren,reduceCtorEq]at e;exact .anyb
 |mp h=>intro x hp e;cases x<;>simp only[AV.ren,reduceCtorEq]at e;cases e;exact .mp (hk _ _ hp h)
 |agg hl hcl hr s=>
  intro x hp e;cases x<;>simp only[AV.ren,reduceCtorEq]at e;rename_i l;cases e;rw[nB]at hl hcl hr s;refine .agg (by simpa using hl) (λx a=>?_) λj x v a hv=>?_
  .have:=hcl (x.ren g) (du.2 ⟨x,a,rfl⟩);rwa [Dp]at this
  .exact s j (x.ren g) v (by rw[bd,a];rfl) hv x (mG hp x (aZ a)) rfl
 |tup hl hr s=>
  intro x hp e;cases x<;>simp only[AV.ren,reduceCtorEq]at e;rename_i l;cases e;rw[nB]at hl hr s;refine .tup (by simpa using hl) λj x v a hv=>?_
  exact s j (x.ren g) v (by rw[bd,a];rfl) hv x (mG hp x (aZ a)) rfl
 |clo hl hr s=>
  intro x hp e;cases x<;>simp only[AV.ren,reduceCtorEq]at e;rename_i l;cases e;rw[nB]at hl hr s;refine .clo (by simpa using hl) λj x v a hv=>?_
  exact s j (x.ren g) v (by rw[bd,a];rfl) hv x (mG hp x (aZ a)) rfl
def BC.ren (g:Nat->Nat):BC->BC
 |.fz l=>.fz l
 |.mx l=>.mx (l.map (AV.ren g))
 |.mp es=>.mp (es.map λp=>(p.1,p.2.ren g))
 |.it s p=>.it s p
def wK.ren (g:Nat->Nat) (b:wK):wK:=⟨b.ty,b.c.ren g⟩
theorem js.renTo {φ φ':PM} {g:Nat->Nat} {O O':Nat->Prop} {w:World} (hk:∀x v,cS φ O w x v->cS φ' O' w (x.ren g) v) {b:wK} {o:Obj} (h:js φ O w b o):js φ' O' w (b.ren g) o:=by
 obtain⟨ty,c⟩:=b;unfold js at h ⊢;simp only[wK.ren];cases c with
 |fz l=>
  simp only[BC.ren];obtain⟨arr,h1,h2,A⟩:=h;refine ⟨arr,h1,h2,λj x z=>?_⟩;obtain⟨a,v,c,d⟩:=A j x z;simp only[BC.get]at z;obtain⟨q,_,rfl⟩:=j_.1 z;exact⟨a,v,c,hk _ _ d⟩
 |mx l=>
  simp only[BC.ren];obtain⟨arr,h1,h2,A⟩:=h;refine ⟨arr,h1,by simpa[BC.len] using h2,λj x z=>?_⟩;simp only[BC.get,bd]at z;obtain⟨q,hq,rfl⟩:=j_.1 z;obtain⟨a,v,c,d⟩:=A j q hq;exact⟨by rw[Dp];exact a,v,c,hk _ _ d⟩
 |mp es=>
  simp only[BC.ren];obtain⟨e,c,h1,h2,A⟩:=h;refine ⟨e,c,h1,by rw[Zn];exact h2,λj x z=>?_⟩;rw[bd]at z;obtain⟨q,hq,rfl⟩:=j_.1 z;obtain⟨m,a,b⟩:=A j q hq;exact⟨m,a,hk _ _ b⟩
 |it s p=>exact h
theorem js.renFrom {φ φ':PM} {g:Nat->Nat} {O O':Nat->Prop} {w:World} {p:Nat->Bool} (hk:∀x v,x.all p=J->cS φ O w (x.ren g) v->cS φ' O' w x v) {b:wK} (hb:b.c.all p=J) {o:Obj} (h:js φ O w (b.ren g) o):js φ' O' w b o:=by
 obtain⟨ty,c⟩:=b;unfold js at h ⊢;simp only[wK.ren]at h;cases c with
 |fz l=>
  simp only[BC.ren]at h;obtain⟨arr,h1,h2,A⟩:=h;refine ⟨arr,h1,h2,λj x z=>?_⟩;obtain⟨a,v,c,d⟩:=A j x z;simp only[BC.get]at z;obtain⟨q,_,rfl⟩:=j_.1 z;exact⟨a,v,c,hk _ _ rfl d⟩
 |mx l=>
  simp only[BC.ren]at h;obtain⟨arr,h1,h2,A⟩:=h;refine ⟨arr,h1,by simpa[BC.len] using h2,λj x z=>?_⟩;simp only[BC.get]at z;obtain⟨a,v,c,d⟩:=A j (x.ren g) (by simp only[BC.get,bd,z];rfl);rw[Dp]at a;exact⟨a,v,c,hk _ _ (mG hb x (aZ z)) d⟩
 |mp es=>
  simp only[BC.ren]at h;obtain⟨e,c,h1,h2,A⟩:=h;refine ⟨e,c,h1,by rw[Zn]at h2;exact h2,λj x z=>?_⟩;obtain⟨m,a,b⟩:=A j (x.1,x.2.ren g) (by rw[bd,z];rfl);exact⟨m,a,hk _ _ (mG hb x.2 (du.2 ⟨x,aZ z,rfl⟩)) b⟩
 |it s p=>exact h
end
end Go.Proofs.YtloaobgmjdjhhaaGreatDoor.AI
