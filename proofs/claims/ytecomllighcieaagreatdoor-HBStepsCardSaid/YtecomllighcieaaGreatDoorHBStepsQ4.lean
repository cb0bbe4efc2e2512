/-
  Texts of the proof, part 5 of 6: what is used to prove the statement. No condition.
-/
import Derived.Test.YtecomllighcieaaGreatDoorHBStepsQ3
import Derived.Defers
namespace Go.Proofs.YtecomllighcieaaGreatDoor.AI
open Go.RowKit
set_option maxRecDepth 100000
set_option maxHeartbeats 4000000
set_option linter.unusedVariables false
set_option linter.unusedSimpArgs false
open Act renaming put→xR
open _root_.Array renaming getElem?_eq_some_iff→b6,getElem?_toList→b8,getElem?_eq_getElem→em,getElem?_setIfInBounds_ne→kx,ext'→wV
open _root_.Bool renaming and_eq_true→ak,false_eq_true→bW,not_eq_true'→cV,or_eq_true→eO,and_self→gw,false_and→iN,true_and→kj
open Instr renaming findNow→fw
open _root_.Int renaming ofNat→ah,toNat→aM,ofNat_lt→gu
open _root_.List renaming length→aa,getElem?_eq_getElem→aw,replicate→aF,mem_singleton→aH,getD_eq_getElem?_getD→aN,getElem?_map→aY,mem_of_getElem?→bc,getElem?_eq_some_iff→bg,mem_cons→bo,mem_append→bD,length_cons→bO,getElem?_eq_none→bU,getElem?_append_left→bV,not_mem_nil→cf,length_take→cj,getElem?_append_right→co,length_append→cq,getElem?_take→cr,length_map→cK,mem_map→cQ,mem_cons_of_mem→cS,flatMap_cons→dv,take→dD,take_of_length_le→dF,getElem?_drop→dY,length_replicate→eE,map_cons→eL,mem_cons_self→eU,mem_of_mem_take→fa,mem_append_left→fb,cons_append→fc,range→fE,map_append→fJ,mem_append_right→gh,take_length→gm,toArray→gt,length_eq_zero_iff→gO,length_nil→gY,nil_append→jr,append_assoc→jM,mem_range→k9,length_drop→lf,all_eq_true→li,drop_of_length_le→mc,map_take→mJ,mem_flatMap→nX,drop_append→n6,take_succ_cons→oI,drop_succ_cons→oJ,map_map→qx,take_append_of_le_length→s7,drop_append_of_le_length→s8,length_set→uj,append_nil→ul,getElem?_set→xQ
open _root_.List.cons renaming injEq→fK
open _root_.Nat renaming eq_of_beq_eq_true→au,beq→av,testBit→aI,le_of_ble_eq_true→aW,testBit_or→bh,zero_add→bw,ble_eq_true_of_le→bB,mul_le_mul_right→bT,lt_or_ge→cA,le_refl→cD,lt_of_lt_of_le→cI,add_zero→cP,ble→cZ,ne_of_beq_eq_false→ec,blt→eg,succ_mul→eM,min→eN,beq_refl→nW,add_assoc→pi,zero_or→s6,min_eq_left→ui,mul_comm→uT
open Oper renaming wp→uS
open _root_.Option renaming bind_some→aC,map_some→bN,isSome_iff_exists→eK,map_eq_some_iff→fD,map→gX
open _root_.Option.some renaming injEq→ae,inj→fI
open _root_.Prod.mk renaming injEq→ay
open Region renaming wanted→eJ
open Result renaming andThen_ok→ca
open Sem renaming run_bind→cY,run→iO
open Value.bool renaming injEq→rJ
open World renaming shape?→ma,cell?→xP
section
variable {P:Program} {o:Oper} {e:Env} {h:Heap} {nx:Nat} {R:rI}
theorem Hn {t:TypeId} (ho:o.op= .makeMap t none) (ha:da .mkm e h nx=some R):dX P o e.get h.get R.eff:=by
 simp only[da,ae] at ha;subst ha;refine dX.makes fun φ E h' w a _ _ _=>?_
 refine ⟨.map (some w.heap.size),{w with heap:=w.heap.push (.map #[] 0)},.map #[] 0,?_,lq w _,⟨#[],0,rfl,rfl,by intro j x hx;simp at hx⟩,fun φ' O hφ=>.mp hφ⟩;unfold execOp;rw[ho];simp[Instr.makeMap,newObj,iO]
theorem Hi {t:TypeId} {x:Operand} (ho:o.op= .range t x) (hu:P.underlying t=some .string) (ha:da (.rng x) e h nx=some R):dX P o e.get h.get R.eff:=by
 simp only[da] at ha;split at ha
 ·rename_i s hx;simp only[ae] at ha;subst ha;refine dX.makes fun φ E h' w a _ hp _=>?_
  have hr:=dl (hp x _ (by rw[ho];simp[Op.operands]) hx);refine ⟨.pointer (some ⟨w.heap.size,0,none⟩),{w with heap:=w.heap.push (.stringIter s 0)},.stringIter s 0,?_,lq w _,rfl,fun φ' O hφ=>.ptr hφ⟩;unfold execOp;rw[ho];simp[Instr.range,run_underlying hu,hr,newObj,iO]
 ·cases ha
theorem vn {w:World} {k:Nat} {ob ob':Obj} (hk:w.heap[k]? =some ob) (h1:∀ c t f,ob≠ .cells c t f) (h2:∀ c t f,ob'≠ .cells c t f):uP w {w with heap:=w.heap.setIfInBounds k ob'} k ob':=by
 have hlt:k<w.heap.size:=(b6.1 hk).1;have hat:(w.heap.setIfInBounds k ob')[k]? =some ob':=by simp[hlt]
 have hot:∀ j,j≠k→(w.heap.setIfInBounds k ob')[j]? =w.heap[j]? :=fun j hj=>kx (fun e=>hj e.symm)
 refine ⟨rfl,rfl,rfl,by simp,hat,hot,fun j=>?_⟩;unfold ma;by_cases hj:j=k
 ·subst hj;simp only[hat,hk];cases ob<;>cases ob'<;>first|rfl|exact absurd rfl (h1 _ _ _)|exact absurd rfl (h2 _ _ _)
 ·simp only[hot j hj]
theorem Hj {x:Operand} (ho:o.op= .next x true) (ha:da (.nxt x) e h nx=some R):dX P o e.get h.get R.eff:=by
 simp only[da] at ha;split at ha
 ·rename_i id hx;split at ha
  ·rename_i ty s p hid;split at ha
   ·rename_i b hb;split at ha
    ·rename_i hlt;have hlt:=aW hlt;simp only[ae] at ha;subst ha;refine dX.writes hid fun φ E h' w a hrd hb' hp hrep=>?_
     have hr:=hp x _ (by rw[ho];simp[Op.operands]) hx;generalize hz:a.eval x=z at hr;cases hr with
     |@ptr _ _ k hφ=>
      obtain⟨k',q1,_,ob,q2,q3⟩:=hrep.at_ id _ hb';rw[hφ] at q1;cases q1;have q3:ob= .stringIter s p:=q3;subst q3;have hps:p<s.size:=by
       have:=(bg.1 hb).1;simpa using this
      have hget:s.get! p=b:=by
       have:s.data[p]? =some b:=by rw[← b8];exact hb
       have hpd:p<s.data.size:=(b6.1 this).1;have h2:s.data[p]! =s.data[p]:=getElem!_pos s.data p hpd;rw[em hpd] at this;simp only[ByteArray.get!,h2];exact fI this
      have hdec:Utf8.decode s p=(b.toNat,1):=by
       unfold Utf8.decode;simp only[cP,hget];rw[if_pos (by omega)]
      refine ⟨.value (.tuple #[.bool true,.int .i64 p,.int .i32 b.toNat]),_,k,.stringIter s (p+1),?_,hφ,vn q2 (by simp) (by simp),rfl,_,.inl rfl,?_⟩
      ·unfold execOp;rw[ho];simp[Instr.next,hz,getObj,iO,q2,hps,hdec,setObj,goInt]
      ·refine cg.tup (vs:=[.bool true,.int .i64 p,.int .i32 b.toNat]) rfl fun j y v hy hv=>?_
       rcases j with _|_|_|j<;>simp at hy hv
       ·subst hy;subst hv;exact .f (.raw _)
       ·subst hy;subst hv;exact .f (.raw _)
       ·subst hy;subst hv;exact .f (.raw _)
    ·cases ha
   ·rename_i hb;simp only[ae] at ha;subst ha;refine dX.writes hid fun φ E h' w a hrd hb' hp hrep=>?_
    have hr:=hp x _ (by rw[ho];simp[Op.operands]) hx;generalize hz:a.eval x=z at hr;cases hr with
    |@ptr _ _ k hφ=>
     obtain⟨k',q1,_,ob,q2,q3⟩:=hrep.at_ id _ hb';rw[hφ] at q1;cases q1;have q3:ob= .stringIter s p:=q3;subst q3;have hps:¬p<s.size:=by
      have:=List.getElem?_eq_none_iff.1 hb;have e:s.data.toList.length=s.size:=by simp
      omega
     refine ⟨.value (.tuple #[.bool false]),w,k,.stringIter s p,?_,hφ,⟨rfl,rfl,rfl,rfl,q2,fun _ _=>rfl,fun _=>rfl⟩,rfl,_,.inl rfl,?_⟩
     ·unfold execOp;rw[ho];simp[Instr.next,hz,getObj,iO,q2,hps]
     ·refine cg.tup (vs:=[.bool false]) rfl fun j y v hy hv=>?_
      rcases j with _|j<;>simp at hy hv;subst hy;subst hv;exact .f (.raw _)
  ·cases ha
 ·cases ha
theorem qp {a b:ByteArray}:mn a b=true↔a=b:=by
 unfold mn;constructor
 ·intro h;have h1:a.data.toList=b.data.toList:=by simpa using h
  cases a;cases b;congr 1;exact wV h1
 ·rintro rfl;simp
theorem t8 (a b:ByteArray):(a==b)=mn a b:=by
 have h1:(a==b)=(a.data==b.data):=rfl;rw[h1,Bool.eq_iff_iff,qp,beq_iff_eq];constructor
 ·intro h;cases a;cases b;congr 1
 ·rintro rfl;rfl
def kd (str:Bool) (d:TypeDesc):Prop:=if str then d= .string else ∃ k,d= .int k
theorem rY {str:Bool} {d:TypeDesc} (hd:kd str d) {k k':Value} (hk:keyOK str k=true) {b:Bool} (hb:nU .eql k k'=some (.bool b)):Instr.sameNow d k k'=some b:=by
 unfold kd at hd;cases str with
 |true=>
  simp only[if_true] at hd;subst hd;cases k<;>simp[keyOK] at hk;cases k'<;>simp only[nU] at hb<;>try (simp at hb;done)
  simp only[ae,rJ] at hb;simp[Instr.sameNow,t8,hb]
 |false=>
  simp only[bW,if_false] at hd;obtain⟨q,rfl⟩:=hd;cases k<;>simp[keyOK] at hk;cases k'<;>simp only[nU] at hb<;>try (simp at hb;done)
  split at hb
  ·rename_i hkk;have hkk':=eq_of_beq hkk;subst hkk';simp only[ae,rJ] at hb;simp[Instr.sameNow,←hb]
  ·cases hb
theorem zQ {str:Bool} {d:TypeDesc} (hd:kd str d) {k:Value} (hk:keyOK str k=true):∀ (es:List (Value×AV)) (ents:List MapEntry) (i:Nat),ents.map (·.key)=es.map (·.1)→∀ r,mS k es=some r→
 (r=none∧fw d k ents i=some none)∨∃ (j:Nat) (v:AV) (m:MapEntry) (k':Value),r=some v∧es[j]? =some (k',v)∧ents[j]? =some m∧fw d k ents i=some (some (i+j,m.val))∧nU .eql k k'=some (.bool true)
 |[],ents,i,he,r,h=>by
  cases ents with
  |nil=>simp only[mS,ae] at h;exact .inl ⟨h.symm,rfl⟩
  |cons _ _=>simp at he
 |(k',v)::es,ents,i,he,r,h=>by
  cases ents with
  |nil=>simp at he
  |cons m ents=>
   simp only[eL,fK] at he;obtain⟨he1,he2⟩:=he;simp only[mS] at h;split at h
   ·rename_i hb;simp only[ae] at h;refine .inr ⟨0,v,m,k',h.symm,rfl,rfl,?_,hb⟩;simp only[fw];rw[he1,rY hd hk hb];rfl
   ·rename_i hb;have hs:=rY hd hk hb;rcases zQ hd hk es ents (i+1) he2 r h with ⟨h1,h2⟩|⟨j,v',m',k'',h1,h2,h3,h4,h5⟩
    ·refine .inl ⟨h1,?_⟩;simp only[fw];rw[he1,hs];exact h2
    ·refine .inr ⟨j+1,v',m',k'',h1,by simpa using h2,by simpa using h3,?_,h5⟩;simp only[fw];rw[he1,hs];show fw d k ents (i+1)=_;rw[h4,show i+1+j=i+(j+1) from by omega]
   ·cases h
theorem rZ {kt:TypeId} {str:Bool} {d:TypeDesc} (hu:P.underlying kt=some d) (hd:kd str d) (b:Bool) (v:Value) (w:World):(Instr.checkKey b 10000 kt v).run P w= .ok () w:=by
 have key:∀ n,(Instr.checkKey b (n+1) kt v).run P w= .ok () w:=fun n=>by
  unfold kd at hd;cases str with
  |true=>simp only[if_true] at hd;subst hd;simp[Instr.checkKey,run_underlying hu]
  |false=>simp only[bW,if_false] at hd;obtain⟨q,rfl⟩:=hd;simp[Instr.checkKey,run_underlying hu]
 exact key 9999
theorem FN {t kt el:TypeId} {x k:Operand} {str:Bool} {d:TypeDesc} {z:Value} (ho:o.op= .lookup t x k false) (hu:P.underlying t=some (.map kt el)) (hk:P.underlying kt=some d) (hd:kd str d) (hz:(P.info? el).bind (·.zero)=some z) (ha:da (.lku str z x k) e h nx=some R):dX P o e.get h.get R.eff:=by
 simp only[da] at ha;split at ha
 ·rename_i id key hx hkx;split at ha
  ·rename_i ty es hid;split at ha
   ·rename_i hko;have fin:∀ val:AV,(∀ (φ:PM) (E:Nat→Prop) (h':HF) (w:World) (a:Act),h' id=some ⟨ty,.mp es⟩→BF φ E h' w a e o→lm φ E h' w→∃ v,(execOp a.eval o).run P w= .ok (.value v) w∧cg φ (tot E φ h') w val v)→R=⟨val,[id],[],[],[]⟩→dX P o e.get h.get R.eff:=by
     rintro val hv rfl;exact dX.reads fun φ E h' w a hrd hp hrep=>hv φ E h' w a (by rw[hrd id (by simp)];exact hid) hp hrep
    have zrun:∀ w:World,(zeroValue el).run P w= .ok z w:=fun w=>by
     cases hi:P.info? el with
     |none=>rw[hi] at hz;cases hz
     |some i=>rw[hi] at hz;simp only[aC] at hz;simp[zeroValue,typeInfo,hi,hz]
    have main:∀ r,mS key es=some r→∀ (φ:PM) (E:Nat→Prop) (h':HF) (w:World) (a:Act),h' id=some ⟨ty,.mp es⟩→BF φ E h' w a e o→lm φ E h' w→
     ∃ v,(execOp a.eval o).run P w= .ok (.value v) w∧cg φ (tot E φ h') w (match r with|some v=>v|none=>raw z) v:=by
     intro r hr φ E h' w a hb' hp hrep;have hrx:=hp x _ (by rw[ho];simp[Op.operands]) hx;have hrk:=dl (hp k _ (by rw[ho];simp[Op.operands]) hkx);generalize hz':a.eval x=zz at hrx;cases hrx with
     |@mp _ b hφ=>
      obtain⟨k',q1,_,ob,q2,q3⟩:=hrep.at_ id _ hb';rw[hφ] at q1;cases q1;obtain⟨ents,clock,rfl,q4,q5⟩:=q3;have hck:=rZ (P:=P) hk hd ents.isEmpty key w;rcases zQ hd hko es ents.toList 0 q4 r hr with ⟨h1,h2⟩|⟨j,v,m,k',h1,h2,h3,h4,_⟩
      ·subst h1;refine ⟨z,?_,.f (.raw z)⟩;unfold execOp;rw[ho];simp[Instr.lookup,run_underlying hu,hz',hrk,getObj,iO,q2,hck,Instr.findKey,run_underlying hk,h2,zrun]
      ·subst h1;obtain⟨m',h6,h7⟩:=q5 j _ h2;rw[b8] at h3;rw[h3] at h6;cases h6;refine ⟨m.val,?_,h7⟩;unfold execOp;rw[ho];simp[Instr.lookup,run_underlying hu,hz',hrk,getObj,iO,q2,hck,Instr.findKey,run_underlying hk,h4]
    split at ha
    ·rename_i v hf;simp only[ae] at ha;exact fin v (main _ hf) ha.symm
    ·rename_i hf;simp only[ae] at ha;exact fin (raw z) (main _ hf) ha.symm
    ·cases ha
   ·cases ha
  ·cases ha
 ·cases ha
theorem BT {str:Bool} {d:TypeDesc} (hd:kd str d) {k:Value} (hk:keyOK str k=true) {v:AV}:∀ (es es':List (Value×AV)) (ents:List MapEntry) (i:Nat),ents.map (·.key)=es.map (·.1)→qh k v es=some es'→
 (fw d k ents i=some none∧es'=es++[(k,v)])∨∃ (j:Nat) (m:MapEntry) (k':Value) (v':AV),es[j]? =some (k',v')∧ents[j]? =some m∧fw d k ents i=some (some (i+j,m.val))∧nU .eql k k'=some (.bool true)∧es'=es.set j (k,v)
 |[],es',ents,i,he,h=>by
  cases ents with
  |nil=>simp only[qh,ae] at h;exact .inl ⟨rfl,by simp[h]⟩
  |cons _ _=>simp at he
 |(k',v')::es,es',ents,i,he,h=>by
  cases ents with
  |nil=>simp at he
  |cons m ents=>
   simp only[eL,fK] at he;obtain⟨he1,he2⟩:=he;simp only[qh] at h;split at h
   ·rename_i hb;simp only[ae] at h;refine .inr ⟨0,m,k',v',rfl,rfl,?_,hb,by simp[h]⟩;simp only[fw];rw[he1,rY hd hk hb];rfl
   ·rename_i hb;have hs:=rY hd hk hb;split at h
    ·rename_i es2 hes2;simp only[ae] at h;subst h;rcases BT hd hk es es2 ents (i+1) he2 hes2 with ⟨h1,h2⟩|⟨j,m',k'',v'',h1,h2,h3,h4,h5⟩
     ·refine .inl ⟨?_,by simp[h2]⟩;simp only[fw];rw[he1,hs];exact h1
     ·refine .inr ⟨j+1,m',k'',v'',by simpa using h1,by simpa using h2,?_,h4,by simp[h5]⟩;simp only[fw];rw[he1,hs];show fw d k ents (i+1)=_;rw[h3,show i+1+j=i+(j+1) from by omega]
    ·cases h
   ·cases h
theorem Ei {str:Bool} {k k':Value} (hk:keyOK str k=true) (hb:nU .eql k k'=some (.bool true)):Instr.sameBits 10000 k' k=true∧k'=k:=by
 cases str with
 |true=>
  cases k<;>simp[keyOK] at hk;cases k'<;>simp only[nU] at hb<;>try (simp at hb;done)
  simp only[ae,rJ] at hb;have:=qp.1 hb;subst this;exact⟨by simp[Instr.sameBits,t8,hb],rfl⟩
 |false=>
  cases k<;>simp[keyOK] at hk;cases k'<;>simp only[nU] at hb<;>try (simp at hb;done)
  split at hb
  ·rename_i hkk;have hkk':=eq_of_beq hkk;subst hkk';simp only[ae,rJ,beq_iff_eq] at hb;subst hb;exact⟨by simp[Instr.sameBits],rfl⟩
  ·cases hb
theorem FM {t kt el:TypeId} {x k y:Operand} {str:Bool} {d:TypeDesc} (ho:o.op= .mapUpdate t x k y) (hu:P.underlying t=some (.map kt el)) (hk:P.underlying kt=some d) (hd:kd str d) (ha:da (.mup str x k y) e h nx=some R):dX P o e.get h.get R.eff:=by
 simp only[da] at ha;split at ha
 ·rename_i id key v hx hkx hy;split at ha
  ·rename_i ty es hid;split at ha
   ·rename_i hko;split at ha
    ·rename_i es' hput;simp only[ae] at ha;subst ha;refine dX.writes hid fun φ E h' w a hrd hb' hp hrep=>?_
     have hrx:=hp x _ (by rw[ho];simp[Op.operands]) hx;have hrk:=dl (hp k _ (by rw[ho];simp[Op.operands]) hkx);have hry:=hp y _ (by rw[ho];simp[Op.operands]) hy;generalize hz':a.eval x=zz at hrx;cases hrx with
     |@mp _ b hφ=>
      obtain⟨k',q1,_,ob,q2,q3⟩:=hrep.at_ id _ hb';rw[hφ] at q1;cases q1;obtain⟨ents,clock,rfl,q4,q5⟩:=q3;have hck:=rZ (P:=P) hk hd false key w;have hlen:ents.size=es.length:=by have:=congrArg aa q4;simpa using this
      rcases BT hd hko es es' ents.toList 0 q4 hput with ⟨h1,rfl⟩|⟨j,m,k',v',h1,h2,h3,h4,rfl⟩
      ·refine ⟨.skip,_,b,.map (ents.push {key,val:=a.eval y,born:=clock}) (clock+1),?_,hφ,vn q2 (by simp) (by simp),⟨_,_,rfl,by simp[q4],fun j q hq=>?_⟩,undef,.inr ⟨rfl,rfl⟩,.f (.raw _)⟩
       ·unfold execOp;rw[ho];simp[Instr.mapUpdate,run_underlying hu,hz',hrk,getObj,iO,q2,hck,Instr.findKey,run_underlying hk,h1,setObj]
       ·rcases cA j es.length with hj|hj
        ·rw[bV hj] at hq;obtain⟨m,g1,g2⟩:=q5 j q hq;exact⟨m,by rw[Array.getElem?_push,if_neg (by omega)];exact g1,g2⟩
        ·rw[co hj] at hq;have hj0:j-es.length=0:=by
          rcases Nat.eq_zero_or_pos (j-es.length) with h0|h0
          ·exact h0
          ·rw[bU (by simp;omega)] at hq;cases hq
         rw[hj0] at hq;simp at hq;subst hq;exact⟨_,by rw[Array.getElem?_push,if_pos (by omega)],hry⟩
      ·obtain⟨s1,s2⟩:=Ei hko h4;subst s2;rw[b8] at h2;rw[bw] at h3;have hjl:j<ents.size:=(b6.1 h2).1;have hmk:m.key=k':=by
        have e1:(ents.toList.map (·.key))[j]? =some m.key:=by rw[aY,b8,h2];rfl
        rw[q4,aY,h1] at e1;simpa using e1.symm
       refine ⟨.skip,_,b,.map (ents.modify j fun e=>{e with key:=k',val:=a.eval y}) clock,?_,hφ,vn q2 (by simp) (by simp),⟨_,_,rfl,?_,fun i q hq=>?_⟩,undef,.inr ⟨rfl,rfl⟩,.f (.raw _)⟩
       ·unfold execOp;rw[ho];simp[Instr.mapUpdate,run_underlying hu,hz',hrk,getObj,iO,q2,hck,Instr.findKey,run_underlying hk,h3,setObj,h2,hmk,Instr.keyThatStays,s1]
       ·apply List.ext_getElem?;intro i;simp only[aY,b8,xQ,Array.getElem?_modify];have e2:∀ i:Nat,(ents[i]?).map (fun m:MapEntry=>m.key)=(es[i]?).map (fun p:Value×AV=>p.1):=fun i=>by
         have:=congrArg (fun l=>l[i]?) q4;simpa[aY,b8] using this
        by_cases hij:j=i
        ·subst hij;simp[h2,show j<es.length by omega]
        ·simp only[hij,if_false];exact e2 i
       ·rw[xQ] at hq;rw[Array.getElem?_modify];by_cases hij:j=i
        ·subst hij;simp[show j<es.length by omega] at hq;subst hq;exact⟨{m with key:=k',val:=a.eval y},by simp[h2],hry⟩
        ·simp only[hij,if_false] at hq ⊢;exact q5 i q hq
    ·cases ha
   ·cases ha
  ·cases ha
 ·cases ha
end
section
variable {P:Program} {o:Oper} {e:Env} {h:Heap} {nx:Nat} {R:rI}
theorem zp {t:TypeId} {d:TypeDesc} (hu:P.underlying t=some d) (hd:(match d with|.int _=>true|.bool=>true|.string=>true|_=>false)=true) (cs:Array Value) (j:Nat) (v:Value) (hv:cs[j]? =some v) (w:World):(part t cs j).run P w= .ok v w:=by
 unfold part;simp only[isAgg,cY,run_underlying hu,ca];cases d<;>simp at hd<;>simp[hv]
theorem CN {t:TypeId} {d:TypeDesc} (hu:P.underlying t=some d) (hd:(match d with|.int _=>true|.bool=>true|.string=>true|_=>false)=true) {x y:FV} {b:Bool} (hxy:eqCell d x y=some b) {u v:Value} (hx:x= .raw u) (hy:y= .raw v) (n:Nat) (w:World):(Op.equalIn (n+1) t u v).run P w= .ok b w:=by
 subst hx;subst hy;cases d<;>simp at hd<;>cases u<;>cases v<;>simp only[eqCell] at hxy<;>first|(cases hxy;done)|skip
 ·simp only[ae] at hxy;subst hxy;simp[Op.equalIn,run_underlying hu]
 ·split at hxy
  ·rename_i hk;have hk':=eq_of_beq hk;subst hk';simp only[ae] at hxy;subst hxy;simp[Op.equalIn,run_underlying hu]
  ·cases hxy
 ·simp only[ae] at hxy;subst hxy;simp[Op.equalIn,run_underlying hu,t8]
abbrev ww (n:Nat) (xs ys:Array Value) (f:Field) (_:Option Bool×Unit):Sem (ForInStep (Option Bool×Unit)):=
 if f.name≠ "_" then do
  let a←part f.type xs f.offset
  let b←part f.type ys f.offset
  let c←Op.equalIn (n+1) f.type a b
  if (!c)=true then pure (ForInStep.done (some false,())) else pure (ForInStep.yield (none,()))
 else pure (ForInStep.yield (none,()))
theorem xD (n:Nat) (w:World) (xs ys:Array Value):∀ (fs:List Field) (ds:List TypeDesc) (a b:List FV) (k:Nat) (r:Bool),mf P k fs=some ds→
 (∀ (j:Nat) x u,a[j]? =some x→xs[k+j]? =some u→x= .raw u∨∀ v,x≠ .raw v)→(∀ (j:Nat) x u,b[j]? =some x→ys[k+j]? =some u→x= .raw u∨∀ v,x≠ .raw v)→(∀ (j:Nat),j<a.length→k+j<xs.size)→(∀ (j:Nat),j<b.length→k+j<ys.size)→eqCells ds a b=some r→
 (forIn fs (none,()) (ww n xs ys)).run P w= .ok (if r then (none,()) else (some false,())) w
 |[],ds,a,b,k,r,hp,_,_,_,_,he=>by
  simp only[mf,ae] at hp;subst hp;cases a<;>cases b<;>simp[eqCells] at he;subst he;simp
 |f::fs,ds,a,b,k,r,hp,ha,hb,hla,hlb,he=>by
  simp only[mf] at hp;split at hp
  ·rename_i d ds' hu hp';split at hp
   ·rename_i hc;simp only[ak,bne_iff_ne,ne_eq,beq_iff_eq] at hc;obtain⟨⟨hn,hof⟩,hd⟩:=hc;simp only[ae] at hp;subst hp;cases a with
    |nil=>cases b<;>simp[eqCells] at he
    |cons x a=>
     cases b with
     |nil=>simp[eqCells] at he
     |cons y b=>
      simp only[eqCells] at he;have hx1:k<xs.size:=by have:=hla 0 (by simp);omega
      have hy1:k<ys.size:=by have:=hlb 0 (by simp);omega
      have hraw:∀ (z:FV) (q:Value),(z= .raw q∨∀ v,z≠ .raw v)→(∃ v,z= .raw v)→z= .raw q:=by
       rintro z q (h|h) ⟨v,hv⟩
       ·exact h
       ·exact absurd hv (h v)
      have hxr:∀ bb,eqCell d x y=some bb→x= .raw xs[k]∧y= .raw ys[k]:=by
       intro bb hbb;have hrr:(∃ v,x= .raw v)∧∃ v,y= .raw v:=by
        unfold eqCell at hbb;split at hbb
        ·exact⟨⟨_,rfl⟩,⟨_,rfl⟩⟩
        ·exact⟨⟨_,rfl⟩,⟨_,rfl⟩⟩
        ·exact⟨⟨_,rfl⟩,⟨_,rfl⟩⟩
        ·cases hbb
       exact⟨hraw x _ (ha 0 x _ rfl (by simp[hx1])) hrr.1,hraw y _ (hb 0 y _ rfl (by simp[hy1])) hrr.2⟩
      have hstep:∀ bb,eqCell d x y=some bb→(ww n xs ys f (none,())).run P w= .ok (if bb then ForInStep.yield (none,()) else ForInStep.done (some false,())) w:=by
       intro bb hbb;obtain⟨h1,h2⟩:=hxr bb hbb;have p1:=zp hu (by cases d<;>simp[plainD] at hd<;>rfl) xs k xs[k] (by simp[hx1]) w;have p2:=zp hu (by cases d<;>simp[plainD] at hd<;>rfl) ys k ys[k] (by simp[hy1]) w;have p3:=CN hu (by cases d<;>simp[plainD] at hd<;>rfl) hbb h1 h2 n w;unfold ww;rw[if_pos hn,hof];simp only[cY,p1,p2,p3,ca];cases bb<;>simp
      rw[List.forIn_cons];simp only[cY];split at he
      ·rename_i hbb;rw[hstep true hbb];simp only[ca,if_true];exact xD n w xs ys fs ds' a b (k+1) r hp' (fun j x u h1 h2=>ha (j+1) x u (by simpa using h1) (by rw[← h2];congr 1;omega)) (fun j x u h1 h2=>hb (j+1) x u (by simpa using h1) (by rw[← h2];congr 1;omega))
        (fun j hj=>by have:=hla (j+1) (by simpa using hj);omega) (fun j hj=>by have:=hlb (j+1) (by simpa using hj);omega) he
      ·rename_i hbb;rw[hstep false hbb];simp only[ae] at he;subst he;simp
      ·cases he
   ·cases hp
  ·cases hp
theorem CM {t:TypeId} {fs:Array Field} (hu:P.underlying t=some (.struct fs)) (hs:P.stoodInHeld t=false) {ds:List TypeDesc} (hp:mf P 0 fs.toList=some ds) (xs ys:Array Value) {a b:List FV} {r:Bool}
 (ha:∀ (j:Nat) x u,a[j]? =some x→xs[j]? =some u→x= .raw u∨∀ v,x≠ .raw v) (hb:∀ (j:Nat) x u,b[j]? =some x→ys[j]? =some u→x= .raw u∨∀ v,x≠ .raw v) (hla:a.length=xs.size) (hlb:b.length=ys.size) (he:eqCells ds a b=some r) (w:World):
 (Op.equal t (.agg xs) (.agg ys)).run P w= .ok r w:=by
 have key:∀ n,(Op.equalIn (n+2) t (.agg xs) (.agg ys)).run P w= .ok r w:=by
  intro n;rw[Op.equalIn];have h1:=xD (P:=P) n w xs ys fs.toList ds a b 0 r hp (fun j x u h1 h2=>ha j x u h1 (by simpa using h2)) (fun j x u h1 h2=>hb j x u h1 (by simpa using h2)) (fun j hj=>by omega) (fun j hj=>by omega) he;rw[Array.forIn_toList] at h1;simp only[cY,run_underlying hu,ca,program,iO,hs,bW,if_false];have h2:(forIn fs (none,()) (fun f __s=>ww n xs ys f __s)).run P w= .ok (if r then (none,()) else (some false,())) w:=h1;unfold ww at h2;rw[h2];cases r<;>simp
 exact key 9998
theorem zV {t:TypeId} {fs:Array Field} (hu:P.underlying t=some (.struct fs)) {ds:List TypeDesc} (hp:mf P 0 fs.toList=some ds):P.eqGuardType P.depth t=false:=by
 have key:∀ (fs:List Field) (k:Nat) (ds:List TypeDesc),mf P k fs=some ds→∀ d,(fs.any fun f=>f.name != "_" &&P.eqGuardType (d+1) f.type)=false:=by
  intro fs;induction fs with
  |nil=>intros;rfl
  |cons f fs ih=>
   intro k ds hp d;simp only[mf] at hp;split at hp
   ·rename_i dd ds' hu' hp';split at hp
    ·rename_i hc;simp only[ak] at hc;have:P.eqGuardType (d+1) f.type=false:=by
      unfold Program.eqGuardType;rw[hu'];have:=hc.2;cases dd<;>simp[plainD] at this<;>rfl
     simp only[List.any_cons,this,Bool.and_false,Bool.false_or];exact ih (k+1) ds' hp' d
    ·cases hp
   ·cases hp
 unfold Program.depth Program.eqGuardType;rw[hu];simp only[];rw[← Array.any_toList];exact key fs.toList 0 ds hp _
theorem FO {t t':TypeId} {op:BinOp} {neg:Bool} {x y:Operand} {fs:Array Field} {ds:List TypeDesc} (ho:o.op= .binOp op t x y t') (hop:op=if neg then .neq else .eql) (hu:P.underlying t=some (.struct fs)) (hs:P.stoodInHeld t=false) (hp:mf P 0 fs.toList=some ds) (ha:da (.eqs neg ds x y) e h nx=some R):dX P o e.get h.get R.eff:=by
 simp only[da] at ha;split at ha
 ·rename_i a b hx hy;split at ha
  ·rename_i r hr;rw[cH ha];refine dX.reads fun φ E h' w ac _ hpp _=>?_
   have h1:=hpp x _ (by rw[ho];simp[Op.operands]) hx;have h2:=hpp y _ (by rw[ho];simp[Op.operands]) hy;generalize hzx:ac.eval x=zx at h1;generalize hzy:ac.eval y=zy at h2;have rawOr:∀ (l:List FV) (vs:List Value),(∀ (j:Nat) x v,l[j]? =some x→vs[j]? =some v→iM (tot E φ h') w x v)→∀ (j:Nat) x u,l[j]? =some x→vs.toArray[j]? =some u→x= .raw u∨∀ v,x≠ .raw v:=by
    intro l vs hr j x u hx hu;have:=hr j x u hx (by simpa using hu);cases this with
    |raw v=>exact .inl rfl
    |nil=>exact .inr (by simp)
    |sl=>exact .inr (by simp)
    |ptr=>exact .inr (by simp)
    |agg=>exact .inr (by simp)
   cases h1 with
   |f h1=>
    cases h1 with
    |agg _ vs hl hcl hr1=>
     cases h2 with
     |f h2=>
      cases h2 with
      |agg _ us hl' hcl' hr2=>
       have heq:=CM hu hs hp vs.toArray us.toArray (rawOr a vs hr1) (rawOr b us hr2) (by simp[hl]) (by simp[hl']) hr w;refine ⟨_,?_,.f (.raw _)⟩;have hg:=zV hu hp;unfold execOp;rw[ho];simp only[hzx,hzy];subst hop;cases neg<;>simp[eqGuard,program,iO,hg,binOp,heq]
  ·cases ha
 ·cases ha
end
theorem bind_some {α β:Type} {x:Option α} {f:α→Option β} {y:β} (h:x.bind f=some y):∃ a,x=some a∧f a=some y:=by
 cases x with
 |none=>cases h
 |some a=>exact⟨a,rfl,h⟩
theorem map_some {α β:Type} {x:Option α} {f:α→β} {y:β} (h:x.map f=some y):∃ a,x=some a∧f a=y:=by
 cases x with
 |none=>cases h
 |some a=>exact⟨a,rfl,by simpa using h⟩
theorem iI {c:Bool} {β:Type} {x:Option β} {y:β} (h:(if c then x else none)=some y):c=true∧x=some y:=by
 cases c with
 |true=>exact⟨rfl,by simpa using h⟩
 |false=>simp at h
theorem vF {P:Program} {o:Oper} {e:Env} {h:Heap} {nx:Nat} {s:C8} {R:rI} (hc:cE P o.op=some s) (ha:da s e h nx=some R):dX P o e.get h.get R.eff:=by
 unfold cE at hc;split at hc
 ·rename_i x ho;simp only[ae] at hc;subst hc;exact Hm (.inl ho) ha
 ·rename_i x ho;simp only[ae] at hc;subst hc;exact Hm (.inr ho) ha
 ·rename_i c a b ho;simp only[ae] at hc;subst hc;exact Gp ho ha
 ·rename_i t ho;obtain⟨z,h1,hc⟩:=bind_some hc;obtain⟨h2,hc⟩:=iI hc;simp only[ae] at hc;subst hc;exact Fp ho h1 h2 ha
 ·rename_i t x ho;simp only[ae] at hc;subst hc;exact Hy ho ha
 ·rename_i t ps ho;split at hc
  ·rename_i fs hu;obtain⟨z,h1,hc⟩:=bind_some hc;obtain⟨h2,hc⟩:=iI hc;obtain⟨ps',h3,rfl⟩:=map_some hc;simp only[ak] at h2;exact Ch ho h1 h2.1 h3 (.inl ⟨fs,hu,h2.2⟩) ha
  ·rename_i n el hu;obtain⟨z,h1,hc⟩:=bind_some hc;obtain⟨h2,hc⟩:=iI hc;obtain⟨ps',h3,rfl⟩:=map_some hc;simp only[ak] at h2;obtain⟨sz,h4⟩:=eK.1 h2.2;exact Ch ho h1 h2.1 h3 (.inr ⟨n,el,sz,hu,h4⟩) ha
  ·cases hc
 ·rename_i t n ps ho;obtain⟨el,h1,hc⟩:=bind_some hc;obtain⟨z,h2,hc⟩:=bind_some hc;obtain⟨sz,h3,hc⟩:=bind_some hc;obtain⟨h4,hc⟩:=iI hc;obtain⟨ps',h5,rfl⟩:=map_some hc;simp only[ak,beq_iff_eq,bne_iff_ne] at h4;exact Hx ho (nO h1) h2 h3 h4.1.1.1 h4.1.1.2 h4.2 (aW h4.1.2) h5 ha
 ·rename_i t x ho;obtain⟨sz,h1,hc⟩:=bind_some hc;obtain⟨ag,h2,rfl⟩:=map_some hc;exact Gs ho h1 h2 ha
 ·rename_i t x v ho;obtain⟨sz,h1,rfl⟩:=map_some hc;exact Fo ho h1 ha
 ·rename_i x ho;simp only[ae] at hc;subst hc;exact Gq ho ha
 ·rename_i op t x y t' ho;split at hc
  ·simp only[ae] at hc;subst hc;exact FQ ho ha
  ·simp only[ae] at hc;subst hc;exact FQ ho ha
  ·rename_i hu;split at hc
   ·simp only[ae] at hc;subst hc;exact FP (neg:=false) ho rfl hu ha
   ·simp only[ae] at hc;subst hc;exact FP (neg:=true) ho rfl hu ha
   ·cases hc
  ·rename_i el hu;split at hc
   ·simp only[ae] at hc;subst hc;exact Cg (neg:=false) ho rfl rfl hu ha
   ·simp only[ae] at hc;subst hc;exact Cg (neg:=true) ho rfl rfl hu ha
   ·cases hc
  ·rename_i fs hu;obtain⟨ds,h1,hc⟩:=bind_some hc;unfold DO at h1;rw[hu] at h1;simp only[] at h1;split at h1
   ·cases h1
   ·rename_i hst;have hst:P.stoodInHeld t=false:=by simpa using hst
    split at hc
    ·simp only[ae] at hc;subst hc;exact FO (neg:=false) ho rfl hu hst h1 ha
    ·simp only[ae] at hc;subst hc;exact FO (neg:=true) ho rfl hu hst h1 ha
    ·cases hc
  ·cases hc
 ·rename_i t x ho;simp only[ae] at hc;subst hc;exact Hk ho ha
 ·rename_i t x ho;split at hc
  ·simp only[ae] at hc;subst hc;exact Hl ho ha
  ·cases hc
 ·rename_i s' d x ho;split at hc
  ·rename_i k k' h1 h2;simp only[ae] at hc;subst hc;exact Gy ho h1 h2 ha
  ·cases hc
 ·rename_i t l c ho;obtain⟨el,h1,hc⟩:=bind_some hc;obtain⟨z,h2,hc⟩:=bind_some hc;obtain⟨sz,h3,hc⟩:=bind_some hc;obtain⟨b,h5,hc⟩:=bind_some hc;obtain⟨h4,hc⟩:=iI hc;simp only[ak,beq_iff_eq,bne_iff_ne] at h4;simp only[ae] at hc;subst hc;exact Gr ho (nO h1) h2 h3 h5 h4.1.1 h4.1.2 h4.2 ha
 ·rename_i t x lo hi mx ho;obtain⟨el,h1,hc⟩:=bind_some hc;obtain⟨sz,h2,rfl⟩:=map_some hc;exact Hh ho (nO h1) h2 ha
 ·rename_i t x k ho;split at hc
  ·rename_i fs hu;obtain⟨f,h1,hc⟩:=bind_some hc;obtain⟨sz,h2,hc⟩:=bind_some hc;obtain⟨h3,hc⟩:=iI hc;simp only[ae] at hc;subst hc;exact Hu ho hu h1 h2 (by simpa using h3) ha
  ·cases hc
 ·rename_i t x k ho;split at hc
  ·rename_i fs hu;obtain⟨f,h1,hc⟩:=bind_some hc;obtain⟨sz,h2,hc⟩:=bind_some hc;obtain⟨ag,h3,rfl⟩:=map_some hc;exact Ht ho hu h1 h2 h3 ha
  ·cases hc
 ·rename_i t x i ho;split at hc
  ·rename_i el hu;obtain⟨sz,h1,rfl⟩:=map_some hc;exact Hs ho hu h1 ha
  ·rename_i n el hu;obtain⟨sz,h1,rfl⟩:=map_some hc;exact Gw ho hu h1 ha
  ·cases hc
 ·rename_i t x i ho;split at hc
  ·rename_i n el hu;obtain⟨sz,h1,hc⟩:=bind_some hc;obtain⟨ag,h2,rfl⟩:=map_some hc;exact Hr ho hu h1 h2 ha
  ·rename_i hu;simp only[ae] at hc;subst hc;exact Gn ho hu ha
  ·cases hc
 ·rename_i x i ho;simp only[ae] at hc;subst hc;exact Hw ho ha
 ·rename_i f first caps ho
  obtain⟨h1,hc⟩:=iI hc;simp only[ae] at hc;subst hc;have h2:first=#[]:=by simpa using h1
  subst h2;exact Ho ho ha
 ·rename_i t ho;split at hc
  ·simp only[ae] at hc;subst hc;exact Hn ho ha
  ·cases hc
 ·rename_i t x k ho;split at hc
  ·rename_i kt el hu;split at hc
   ·rename_i q z h1 h2;obtain⟨h3,hc⟩:=iI hc;simp only[ae] at hc;subst hc;exact FN (str:=false) ho hu h1 ⟨q,rfl⟩ h2 ha
   ·rename_i z h1 h2;obtain⟨h3,hc⟩:=iI hc;simp only[ae] at hc;subst hc;exact FN (str:=true) ho hu h1 rfl h2 ha
   ·cases hc
  ·cases hc
 ·rename_i t m k v ho;split at hc
  ·rename_i kt el hu;split at hc
   ·rename_i q h1;simp only[ae] at hc;subst hc;exact FM (str:=false) ho hu h1 ⟨q,rfl⟩ ha
   ·rename_i h1;simp only[ae] at hc;subst hc;exact FM (str:=true) ho hu h1 rfl ha
   ·cases hc
  ·cases hc
 ·rename_i t x ho;split at hc
  ·rename_i hu;simp only[ae] at hc;subst hc;exact Hi ho hu ha
  ·cases hc
 ·rename_i x ho;simp only[ae] at hc;subst hc;exact Hj ho ha
 ·rename_i c ho;obtain⟨callee,args,argTypes⟩:=c;have arr:∀ {α:Type} {x:Array α} {l:List α},x.toList=l→x=l.toArray:=fun h=>by rw[← h]
  unfold Ac at hc;simp only[] at hc;split at hc
  ·split at hc
   ·rename_i x t h1 h2;rw[arr h1,arr h2] at ho;split at hc
    ·rename_i el hu;simp only[ae] at hc;subst hc;exact Gv ho hu ha
    ·rename_i hu;simp only[ae] at hc;subst hc;exact Gu ho hu ha
    ·rename_i k v hu;simp only[ae] at hc;subst hc;exact Gt ho hu ha
    ·cases hc
   ·cases hc
  ·split at hc
   ·rename_i x y h1;rw[arr h1] at ho;simp only[ae] at hc;subst hc;exact Hq ho ha
   ·cases hc
  ·split at hc
   ·rename_i x y h1;rw[arr h1] at ho;simp only[ae] at hc;subst hc;exact Hp ho ha
   ·cases hc
  ·split at hc
   ·rename_i d x t u h1 h2;rw[arr h1,arr h2] at ho;split at hc
    ·rename_i el el' h1 h2;obtain⟨sz,h3,hc⟩:=bind_some hc;obtain⟨h4,hc⟩:=iI hc;simp only[ae] at hc;subst hc;exact Gx ho (nO h1) (nO h2) h3 ha
    ·cases hc
   ·cases hc
  ·split at hc
   ·rename_i s' x t u h1 h2;rw[arr h1,arr h2] at ho;split at hc
    ·rename_i el el' h1 h2;obtain⟨sz,h3,hc⟩:=bind_some hc;obtain⟨b,h4,hc⟩:=bind_some hc;obtain⟨z,h5,hc⟩:=bind_some hc;obtain⟨h6,hc⟩:=iI hc;simp only[ak,beq_iff_eq,bne_iff_ne] at h6;simp only[ae] at hc;subst hc;exact Hz ho (nO h1) (nO h2) h3 h4 h5 h6.2 h6.1 ha
    ·cases hc
   ·cases hc
  ·cases hc
 ·cases hc
theorem ia {p:Nat→Bool}:∀ {l:List AV},AV.allL p l=true→∀ x∈l,AV.all p x=true
 |[],_,x,hx=>by cases hx
 |y::l,h,x,hx=>by
  simp only[AV.allL,ak] at h;rcases bo.1 hx with rfl|hx
  ·exact h.1
  ·exact ia h.2 x hx
theorem cg.restrict {φ φ':PM} {O O':Nat→Prop} {w:World} {p:Nat→Bool} (hs:∀ i k,p i=true→φ i=some k→φ' i=some k) (ho:∀ k,O' k→O k) {x:AV} {v:Value} (h:cg φ O w x v):x.all p=true→cg φ' O' w x v:=by
 induction h with
 |f h=>intro _;exact .f (h.ext (O':=O') (wQ.refl O w) fun k _ hk=>ho k hk)
 |ptr h=>intro hp;exact .ptr (hs _ _ hp h)
 |sl h hn hc=>intro hp;exact .sl (hs _ _ hp h) hn hc
 |row h hn hc hsh=>intro hp;exact .row (hs _ _ hp h) hn hc hsh
 |emp=>intro _;exact .emp
 |anyb=>intro _;exact .anyb
 |mp h=>intro hp;exact .mp (hs _ _ hp h)
 |agg hl hcl hr ih=>intro hp;exact .agg hl hcl fun j x v hx hv=>ih j x v hx hv (ia hp x (bc hx))
 |tup hl hr ih=>intro hp;exact .tup hl fun j x v hx hv=>ih j x v hx hv (ia hp x (bc hx))
 |clo hl hr ih=>intro hp;exact .clo hl fun j x v hx hv=>ih j x v hx hv (ia hp x (bc hx))
theorem fm.restrict {φ φ':PM} {O O':Nat→Prop} {w w':World} {p:Nat→Bool} (hk:∀ x v,x.all p=true→cg φ O w x v→cg φ' O' w' x v) {b:ph} {o:Obj} (hb:b.c.all p=true) (h:fm φ O w b o):fm φ' O' w' b o:=by
 unfold fm at h ⊢;cases hc:b.c with
 |fz l=>
  rw[hc] at h;obtain⟨arr,h1,h2,h3⟩:=h;exact⟨arr,h1,h2,fun j x hx=>by
   obtain⟨a,v,c,d⟩:=h3 j x hx;refine ⟨a,v,c,hk _ _ ?_ d⟩;simp only[BC.get] at hx;cases hl:l[j]? with
   |none=>rw[hl] at hx;cases hx
   |some q=>rw[hl] at hx;simp at hx;subst hx;rfl⟩
 |mx l=>
  rw[hc] at h hb;obtain⟨arr,h1,h2,h3⟩:=h;exact⟨arr,h1,h2,fun j x hx=>by
   obtain⟨a,v,c,d⟩:=h3 j x hx;exact⟨a,v,c,hk _ _ (ia hb x (bc hx)) d⟩⟩
 |mp es=>
  rw[hc] at h hb;obtain⟨e,c,h1,h2,h3⟩:=h;exact⟨e,c,h1,h2,fun j x hx=>by
   obtain⟨m,a,b⟩:=h3 j x hx;exact⟨m,a,hk _ _ (ia hb x.2 (cQ.2 ⟨x,bc hx,rfl⟩)) b⟩⟩
 |it s q=>rw[hc] at h;exact h
def Es (m:Nat):List Nat:=(fE (m+1)).filter fun i=>aI m i
theorem xx {m i:Nat}:i∈Es m↔aI m i=true:=by
 unfold Es;rw[List.mem_filter,k9];constructor
 ·exact fun h=>h.2
 ·intro h;refine ⟨?_,h⟩;have h1:=Nat.ge_two_pow_of_testBit h;have h2:=Nat.lt_two_pow_self (n:=i);omega
def fP (φ:PM) (O:Nat→Prop) (w:World):List AV→List Value→Prop
 |[],[]=>True
 |x::xs,v::vs=>cg φ O w x v∧fP φ O w xs vs
 |_,_=>False
theorem fP.length {φ:PM} {O:Nat→Prop} {w:World}:∀ {args:List AV} {vs:List Value},fP φ O w args vs→vs.length=args.length
 |[],[],_=>rfl
 |[],_::_,h=>h.elim
 |_::_,[],h=>h.elim
 |_::_,_::_,h=>by simp[fP.length h.2]
theorem fP.mono {φ φ':PM} {O O':Nat→Prop} {w w':World} {p:Nat→Bool} (hk:∀ x v,x.all p=true→cg φ O w x v→cg φ' O' w' x v):∀ {args:List AV} {vs:List Value},AV.allL p args=true→fP φ O w args vs→fP φ' O' w' args vs
 |[],[],_,_=>trivial
 |[],_::_,_,h=>h.elim
 |_::_,[],_,h=>h.elim
 |x::xs,_::_,hp,h=>by
  simp only[AV.allL,ak] at hp;exact⟨hk _ _ hp.1 h.1,fP.mono hk hp.2 h.2⟩
theorem fP.append {φ:PM} {O:Nat→Prop} {w:World}:∀ {xs ys:List AV} {vs us:List Value},fP φ O w xs vs→fP φ O w ys us→fP φ O w (xs++ys) (vs++us)
 |[],_,[],_,_,h=>h
 |[],_,_::_,_,h,_=>h.elim
 |_::_,_,[],_,h,_=>h.elim
 |_::_,_,_::_,_,h,h'=>⟨h.1,fP.append h.2 h'⟩
theorem fP.of {φ:PM} {O:Nat→Prop} {w:World}:∀ {xs:List AV} {vs:List Value},vs.length=xs.length→(∀ (j:Nat) x v,xs[j]? =some x→vs[j]? =some v→cg φ O w x v)→fP φ O w xs vs
 |[],[],_,_=>trivial
 |[],_::_,h,_=>by simp at h
 |_::_,[],h,_=>by simp at h
 |x::xs,v::vs,hl,h=>⟨h 0 x v rfl rfl,fP.of (by simpa using hl) fun j x v hx hv=>h (j+1) x v (by simpa using hx) (by simpa using hv)⟩
def sZ (P:Program) (f:FuncId):Prop:=∃ fn,P.funcs[f]? =some fn∧fn.body.isNone=false∧(fn.name== "runtime.NumGoroutine")=false
theorem yD {φ:PM} {E:Nat→Prop} {h':HF} {w:World} {a:Act} {e:Env} {o:Oper} (hp:BF φ E h' w a e o):∀ (xs:List Operand) (ys:List AV),(∀ x∈xs,x∈o.op.operands)→B7 e xs=some ys→fP φ (tot E φ h') w ys (xs.map a.eval)
 |[],ys,_,h=>by simp only[B7,ae] at h;subst h;trivial
 |x::xs,ys,hm,h=>by
  simp only[B7] at h;split at h
  ·rename_i y hy;split at h
   ·rename_i ys' hys;simp only[ae] at h;subst h;exact⟨hp x y (hm x (eU ..)) hy,yD hp xs ys' (fun x hx=>hm x (cS _ hx)) hys⟩
   ·cases h
  ·cases h
theorem pm {P:Program} {f:FuncId} (hc:sZ P f) (args:Array Value) (w:World):(callFunc f args).run P w= .ok (.enter f args) w:=by
 obtain⟨fn,h1,h2,h3⟩:=hc;have h3':fn.name≠ "runtime.NumGoroutine" :=by simpa using h3
 have h2':fn.body≠none:=by intro h;rw[h] at h2;cases h2
 simp[callFunc,program,iO,h1,h2',h3']
theorem fpAt_eq:∀ (fs:List EH) (i:Nat),fpAt fs i=fs[i]?
 |[],i=>by simp[fpAt]
 |f::fs,0=>rfl
 |f::fs,i+1=>by simp[fpAt,fpAt_eq fs i]
theorem pM {a b:Nat} (h:sQ a b=true) (i:Nat) (ha:aI a i=true):aI b i=false:=by
 unfold sQ at h;have h0:a&&&b=0:=au h;have:=Nat.testBit_and a b i;rw[h0,ha] at this;simpa using this.symm
structure Ctx where
 n0:Nat
 φ:PM
 E:Nat→Prop
 h:HF
 w:World
def EE (P:Program) (d:Deferred):Prop:=∀ w:World,∃ fv cap f args,d.target= .fn fv cap∧(invoke d.target d.args).run P w= .ok (.enter f args) w∧
 CallsD P f args .returning w fun e u' w'=>(∃ v,e= .returned v)∧u'= .returning∧w'=w
structure H3 (P:Program) (C:Ctx) (nt:Nat) (s:IS) (a:Act) (w:World):Prop where
 ex:∃ φ,eT C.φ φ C.h s.h.get C.w w∧lm φ C.E s.h.get w∧xM φ (tot C.E φ s.h.get) w s.e.get a∧(∀ i k,φ i=some k→i<s.nx)∧∀ i k,φ i=some k→C.φ i=some k∨C.n0≤i
 low:C.n0≤s.nx
 inert:∀ d∈a.defers,EE P d
 size:a.tmps.size=nt
theorem H3.bool {P:Program} {C:Ctx} {nt:Nat} {s:IS} {a:Act} {w:World} (c:H3 P C nt s a w) {t:Nat} {b:Bool} (ht:s.e.get t=some (.f (.raw (.bool b)))):a.eval (.tmp t)= .bool b:=by
 obtain⟨φ,_,_,en,_,_⟩:=c.ex;exact dl (en t _ ht)
theorem rQ {P:Program} {c:Code} {Q:Exit→Act→World→Prop} (I:Nat→Act→World→Prop) (round:∀ n a w,I n a w→c.wp P (Exit.then (fun a' w'=>∃ m,m<n∧I m a' w') Q) a w) {n:Nat} {a:Act} {w:World} (h0:I n a w):(Code.loop c).wp P Q a w:=by
 have least:∀ (n:Nat) (a:Act) (w:World),I n a w→∃ m,I m a w∧∀ k,I k a w→m≤k:=by
  intro n;induction n using Nat.strongRecOn with
  |_ n ih=>
   intro a w hn;by_cases hx:∃ k,k<n∧I k a w
   ·obtain⟨k,hk,hI⟩:=hx;exact ih k hk a w hI
   ·exact⟨n,hn,fun k hk=>Nat.le_of_not_lt fun hlt=>hx ⟨k,hlt,hk⟩⟩
 have pick:∀ a w,∃ m,(∃ n,I n a w)→I m a w∧∀ k,I k a w→m≤k:=fun a w=>by
  by_cases hx:∃ n,I n a w
  ·obtain⟨n,hn⟩:=hx;obtain⟨m,hm⟩:=least n a w hn;exact⟨m,fun _=>hm⟩
  ·exact⟨0,fun h=>absurd h hx⟩
 let μ:Act→World→Nat:=fun a w=>Classical.choose (pick a w)
 have hμ:∀ a w,(∃ n,I n a w)→I (μ a w) a w∧∀ k,I k a w→μ a w≤k:=fun a w=>Classical.choose_spec (pick a w)
 refine wp_loop (fun a w=>∃ n,I n a w) μ ⟨n,h0⟩ fun a w hI=>?_
 refine wp_mono (round (μ a w) a w (hμ a w hI).1) fun e a' w' he=>?_
 cases e with
 |normal=>
  obtain⟨m,hm,hIm⟩:=he;exact⟨⟨m,hIm⟩,Nat.lt_of_le_of_lt ((hμ a' w' ⟨m,hIm⟩).2 m hIm) hm⟩
 |exit id=>exact he
 |goto l=>exact he
 |ret=>exact he
 |panic c=>exact he
 |outgrown=>exact he
def Ex.to:Ex→Exit
 |.normal=>.normal
 |.exit id=>.exit id
 |.ret=>.ret
def wP (P:Program) (inert:FuncId→Bool):Prop:=∀ f,inert f=true→sZ P f∧∀ (args:Array Value) (w:World),CallsD P f args .returning w fun e u' w'=>(∃ v,e= .returned v)∧u'= .returning∧w'=w
theorem zZ {P:Program} {C:Ctx} {nt:Nat} {inert:FuncId→Bool} (hin:wP P inert) {s:IS} {a:Act} {w:World} (c:H3 P C nt s a w) {id:Nat} {ops:Array Oper} {dr:Bool} {f:FuncId} {caps:List Operand} {t:Nat} (hd:(ops.toList.all fun o=>match o.dst with|some d=>decide (d<nt)|none=>true)=true) (hdf:sR ops dr=some (f,caps,t))
 {l:List AV} (hl:B7 s.e caps=some l) (hi:inert f=true) {Q:Exit→Act→World→Prop} (hQ:∀ a w,H3 P C nt ⟨s.e.put (some t) (.clo f l),s.h,s.nx,s.wr⟩ a w→Q .normal a w):(Code.region id ops dr).wp P Q a w:=by
 unfold sR at hdf;split at hdf
 ·rename_i p q hops;split at hdf
  ·rename_i f' first caps' t1 cl hpo hpg hpd hqo hqg hqd
   split at hdf
   ·rename_i t2 hcl hca;split at hdf
    ·rename_i hcond;simp only[ak] at hcond;obtain⟨h1,h2⟩:=hcond;have h1:=au h1;have h2:first=#[]:=by simpa using h2
     simp only[ae,ay] at hdf;obtain⟨rfl,rfl,rfl⟩:=hdf;subst h1;subst h2;have hops':ops=#[p,q]:=by rw[← Array.toArray_toList (xs:=ops),hops]
     obtain⟨φ,m,r,en,dm⟩:=c.ex;obtain⟨hcb,hincalls⟩:=hin f' hi;have htn:t1<nt:=by
      have:=li.1 hd p (by rw[hops];simp);rw[hpd] at this;simpa using this
     have hrelL:fP φ (tot C.E φ s.h.get) w l (caps'.toList.map a.eval):=by
      have hp':BF φ C.E s.h.get w a s.e p:=fun x y hx hy=>mY r (xs:=p.op.operands) (fun t _ y hy=>en t y hy) hx hy
      exact yD hp' caps'.toList l (fun x hx=>by rw[hpo];simpa[Op.operands] using hx) hl
     have hcm:caps'.map a.eval=(caps'.toList.map a.eval).toArray:=by apply wV;simp
     let cv:Value:=.func (.func f') #[] (caps'.map a.eval)
     have hrel:cg φ (tot C.E φ s.h.get) w (.clo f' l) cv:=by
      simp only[cv];rw[hcm];refine .clo (hrelL.length) ?_;have:∀ (xs:List AV) (vs:List Value),fP φ (tot C.E φ s.h.get) w xs vs→∀ (j:Nat) x v,xs[j]? =some x→vs[j]? =some v→cg φ (tot C.E φ s.h.get) w x v:=by
       intro xs;induction xs with
       |nil=>intro vs _ j x v hx;simp at hx
       |cons y xs ih=>
        intro vs h j x v hx hv;cases vs with
        |nil=>exact h.elim
        |cons u vs=>
         cases j with
         |zero=>simp at hx hv;subst hx;subst hv;exact h.1
         |succ j=>exact ih vs h.2 j x v (by simpa using hx) (by simpa using hv)
      exact this _ _ hrelL
     refine wp_region ?_;have hr2:fE ops.size=[0,1]:=by rw[hops'];rfl
     rw[hr2];have e0:ops[0]? =some p:=by rw[hops'];rfl
     have e1:ops[1]? =some q:=by rw[hops'];rfl
     rw[wpOps_cons];have hexec1:(execOp a.eval p).run P w= .ok (.value cv) w:=by
      unfold execOp;rw[hpo];simp[Instr.makeFunc,cv]
     have w1:eJ p (yielded ops a.tmps)=true:=by unfold eJ;rw[hpg]
     unfold wpOp;simp only[e0,w1,if_true];left;unfold uS;rw[hexec1];show wpOps P ops Q [1] (a.put p.dst cv) w;rw[wpOps_cons];unfold wpOp;have w2:eJ q (yielded ops (a.put p.dst cv).tmps)=true:=by unfold eJ;rw[hqg]
     simp only[e1,w2,if_true];left;have heval:(a.put p.dst cv).eval (.tmp t1)=cv:=by
      show (a.put p.dst cv).tmps.getD t1 undef=cv;rw[vz (by intro d hd';rw[hpd] at hd';cases hd';rw[c.size];exact htn),if_pos hpd]
     have hargs:cl.args=#[]:=by rw[← Array.toArray_toList (xs:=cl.args),hca]
     have hexec2:(execOp (a.put p.dst cv).eval q).run P w= .ok (.defer {target:=.fn (.func f') (caps'.map a.eval),args:=#[]}) w:=by
      unfold execOp;rw[hqo];simp[resolve,hcl,heval,cv,Deferred.ofValue,hargs]
     unfold uS;rw[hexec2];show wpOps P ops Q [] _ w;refine hQ _ _ ⟨⟨φ,m,r,?_,dm⟩,c.low,?_,?_⟩
     ·intro u x hx;rw[hqd];show cg φ _ w x ((a.put p.dst cv).tmps.getD u undef);rw[vz (by intro d hd';rw[hpd] at hd';cases hd';rw[c.size];exact htn)];have hx':(s.e.put (some t1) (.clo f' l)).get u=some x:=hx;rw[← DK] at hx';unfold r9 at hx';rw[hpd];by_cases hu:some t1=some u
      ·rw[if_pos hu] at hx' ⊢;cases hx';exact hrel
      ·rw[if_neg hu] at hx' ⊢;exact en u x hx'
     ·intro d hd';rw[hqd] at hd';have hd'':d={target:=.fn (.func f') (caps'.map a.eval),args:=#[]}∨d∈(a.put p.dst cv).defers:=by
       simpa[xR] using hd'
      rcases hd'' with rfl|hd''
      ·intro w0;refine ⟨_,_,f',caps'.map a.eval,rfl,?_,hincalls _ w0⟩;simp[invoke,pm hcb]
      ·rw[vA] at hd'';exact c.inert d hd''
     ·rw[hqd];show (a.put p.dst cv).tmps.size=nt;rw[zm];exact c.size
    ·cases hdf
   ·cases hdf
  ·cases hdf
 ·cases hdf
def Ct (tmps:Array Value):ResultVar→Sem Value
 |.tmp t=>pure (tmps.getD t undef)
 |.cell a t=>do
  let ad←asAddr (tmps.getD a undef)
  loadVar t ad
theorem AW (fn:Func) (tmps:Array Value):results fn tmps=(do let vs←fn.results.mapM (Ct tmps);pure (if h:vs.size=1 then vs[0] else .tuple vs)):=by
 unfold results;congr 2
theorem sw {P:Program} {fn:Func} {tmps:Array Value} {R:Ending→World→Prop} {w:World} {v:Value} (hr:(results fn tmps).run P w= .ok v w) (hR:R (.returned v) w):∀ (ds:List Deferred),(∀ d∈ds,EE P d)→Leaves P fn tmps R ds .returning w
 |[],_=>⟨v,hr,hR⟩
 |d::ds,h=>by
  obtain⟨fv,cap,f,args,h1,h2,h3⟩:=h d (eU ..) w;refine ⟨by simp,fv,cap,f,args,h1,h2,h3.mono ?_⟩;rintro e u' w' ⟨⟨v',rfl⟩,rfl,rfl⟩;exact sw hr hR ds fun d hd=>h d (cS _ hd)
theorem fP.get {φ:PM} {O:Nat→Prop} {w:World}:∀ {xs:List AV} {vs:List Value},fP φ O w xs vs→∀ (j:Nat) x,xs[j]? =some x→∃ v,vs[j]? =some v∧cg φ O w x v
 |[],_,_,j,x,hx=>by simp at hx
 |_::_,[],h,_,_,_=>h.elim
 |y::xs,u::vs,h,j,x,hx=>by
  cases j with
  |zero=>simp at hx;subst hx;exact⟨u,rfl,h.1⟩
  |succ j=>exact fP.get h.2 j x (by simpa using hx)
theorem Ab {P:Program} {f:FuncId} {sf:SF} (h:qo P f=some sf):∃ fn c,P.funcs[f]? =some fn∧fn.body=some c∧(fn.name== "runtime.NumGoroutine")=false∧sf.code=bM P fn.ntmps c∧oq P fn.results.toList=some sf.res∧sf.nt=fn.ntmps:=by
 unfold qo at h;split at h
 ·rename_i fn hf;split at h
  ·cases h
  ·rename_i hn;split at h
   ·rename_i c r hb hr;simp only[ae] at h;subst h;exact⟨fn,c,hf,hb,by simpa using hn,rfl,hr,rfl⟩
   ·cases h
 ·cases h
theorem Fk {a b:Value} (h:beqV a b=true):a=b:=by
 unfold beqV at h;split at h
 ·simp at h;rw[h]
 ·simp at h;rw[h.1,h.2]
 ·rw[qp.1 h]
 ·simp only[ak] at h;rw[au h.1,au h.2]
 ·rfl
 ·rename_i x y;simp only[ak,Array.isEmpty_iff] at h;rw[h.1,h.2]
 ·cases h
def PT.mapO {α β:Type} (g:α→Option β):PT α→PT β
 |.leaf=>.leaf
 |.node v l r=>.node (v.bind g) (PT.mapO g l) (PT.mapO g r)
theorem PT.get_mapO {α β:Type} (g:α→Option β):∀ (t:PT α) (i:Nat),(PT.mapO g t).get i=(t.get i).bind g
 |.leaf,i=>by simp[PT.mapO,PT.get]
 |.node v l r,0=>by simp[PT.mapO,PT.get]
 |.node v l r,j+1=>by
  simp only[PT.mapO,PT.get];split
  ·exact PT.get_mapO g l _
  ·exact PT.get_mapO g r _
theorem PT.get_updI {α:Type} (f:Nat→α→α):∀ (t:PT α) (a b i:Nat),(PT.updI f a b t).get i=(t.get i).map (f (a*i+b))
 |.leaf,_,_,i=>by simp[PT.updI,PT.get]
 |.node v l r,a,b,0=>by cases v<;>simp[PT.updI,PT.get]
 |.node v l r,a,b,j+1=>by
  simp only[PT.updI,PT.get];split
  ·rename_i hj;rw[PT.get_updI f l];have:2*a*(j/2)+(a+b)=a*(j+1)+b:=by
    have h2:j=2*(j/2):=by have:=au hj;omega
    have h3:2*a*(j/2)=a*j:=by rw[uT 2 a,Nat.mul_assoc,←h2]
    rw[h3,Nat.mul_add];omega
   rw[this]
  ·rename_i hj;rw[PT.get_updI f r];have:2*a*(j/2)+(2*a+b)=a*(j+1)+b:=by
    have h1:j%2≠0:=fun h=>hj (by rw[h];rfl)
    have h2:j=2*(j/2)+1:=by omega
    have h3:2*a*(j/2)=a*(2*(j/2)):=by rw[uT 2 a,Nat.mul_assoc]
    have h4:a*(j+1)=a*(2*(j/2))+2*a:=by
     conv=>lhs;rw[h2]
     rw[Nat.mul_add,Nat.mul_add];omega
    rw[h3,h4];omega
   rw[this]
theorem PT.bound {α:Type}:∀ (t:PT α),∃ B,∀ i,B≤i→t.get i=none
 |.leaf=>⟨0,fun i _=>rfl⟩
 |.node v l r=>by
  obtain⟨a,ha⟩:=PT.bound l;obtain⟨b,hb⟩:=PT.bound r;refine ⟨2*(a+b)+3,fun i hi=>?_⟩;cases i with
  |zero=>omega
  |succ j=>
   simp only[PT.get];split
   ·exact ha _ (by omega)
   ·exact hb _ (by omega)
def PT.ofF {α:Type} (f:Nat→Option α):Nat→PT α
 |0=>.leaf
 |n+1=>(PT.ofF f n).set n (f n)
theorem PT.get_ofF {α:Type} (f:Nat→Option α):∀ (n i:Nat),(PT.ofF f n).get i=if i<n then f i else none
 |0,i=>by simp[PT.ofF,PT.get]
 |n+1,i=>by
  rw[PT.ofF,PT.get_set,PT.get_ofF f n];by_cases h:i=n
  ·subst h;simp
  ·rw[if_neg h];by_cases h2:i<n
   ·rw[if_pos h2,if_pos (by omega)]
   ·rw[if_neg h2,if_neg (by omega)]
def nm (i:Nat):Nat:=2*i
def ow (n:Nat):Nat:=n/2
theorem cU (i:Nat):ow (nm i)=i:=by unfold ow nm;omega
theorem gA {i j:Nat} (h:nm i=nm j):i=j:=by unfold nm at h;omega
def du (p:Bool) (id sz n:Nat):AV:=if p&&n==0 then .emp else .row (nm id) sz n
mutual
def bS (h:THeap):TV→Option AV
 |.f T v=>some (.f (enc1 T v))
 |.fel T xs j _ off=>some (.f (.ptr (xs.flatMap (encC T)) (j.toNat*T.size+off)))
 |.pel id sz j off=>some (.ptr (nm id) (j.toNat*sz+off))
 |.ptr id off=>some (.ptr (nm id) off)
 |.csl id sz n=>some (.row (nm id) sz n)
 |.row id=>match dg h id with|some (p,sz,n)=>some (du p id sz n)|none=>none
 |.emp=>some .emp
 |.nil=>some (.f (.raw (.slice none 0 0)))
 |.mp id=>some (.mp (nm id))
 |.agg l=>match ci h l with|some l'=>some (.agg l')|none=>none
 |.tup l=>match ci h l with|some l'=>some (.tup l')|none=>none
 |.clo g l=>match ci h l with|some l'=>some (.clo g l')|none=>none
 |.undef=>some (.f (.raw undef))
 |.np=>some (.f (.raw (.pointer none)))
 |.anyb=>some .anyb
def ci (h:THeap):List TV→Option (List AV)
 |[]=>some []
 |x::r=>match bS h x with
  |some y=>(match ci h r with|some l=>some (y::l)|none=>none)
  |none=>none
end
def keyOf:(K:Ty)→K.den→Value
 |.int k,n=>.int k n
 |.str,s=>.string ⟨gt s⟩
 |_,_=>undef
def mpC:(K V:Ty)→List (K.den×V.den)→BC
 |.st (.pr .str (.int .i64)),.un,es=>.it ⟨gt (itS es)⟩ (itP es)
 |K,V,es=>.mp (es.map fun p=>(keyOf K p.1,.f (enc1 V p.2)))
theorem ry {K V:Ty} {es:List (K.den×V.den)} (h:Bb K=true):mpC K V es= .mp (es.map fun p=>(keyOf K p.1,.f (enc1 V p.2))):=by
 unfold mpC;split
 ·cases h
 ·rfl
theorem Ga {K V:Ty} {es:List (K.den×V.den)} {s:List UInt8} {p:Nat} (h:itE K V es=some (s,p)):mpC K V es= .it ⟨gt s⟩ p:=by
 unfold itE at h;split at h
 ·cases h;rfl
 ·cases h
def gH (h:THeap):ey→Option ph
 |.rows ty p T xs=>if p&&xs.length==0 then none else some ⟨ty,.fz (xs.flatMap (encC T))⟩
 |.cells ty l=>match ci h l with|some l'=>some ⟨ty,.mx l'⟩|none=>none
 |.dead _ _ _=>none
 |.mp K V es=>some ⟨0,mpC K V es⟩
def dC (e:TEnv) (h:THeap):EF:=fun t=>(e.get t).bind (bS h)
def bp (h:THeap):HF:=fun n=>if n%2=0 then (h.get (n/2)).bind (gH h) else none
theorem bu (h:THeap) (i:Nat):bp h (nm i)=(h.get i).bind (gH h):=by
 unfold bp nm;rw[if_pos (by omega),show 2*i/2=i from by omega]
theorem fo {h:THeap} {n:Nat} {b:ph} (hb:bp h n=some b):∃ i c,n=nm i∧h.get i=some c∧gH h c=some b:=by
 unfold bp at hb;split at hb
 ·cases hc:h.get (n/2) with
  |none=>rw[hc] at hb;cases hb
  |some c=>rw[hc] at hb;exact⟨n/2,c,by unfold nm;omega,hc,hb⟩
 ·cases hb
def xh (e:TEnv) (h:THeap):Env:=PT.mapO (bS h) e
theorem om (e:TEnv) (h:THeap):(xh e h).get=dC e h:=by funext t;exact PT.get_mapO _ _ _
theorem fO (h:THeap):∃ H:Heap,H.get=bp h:=by
 obtain⟨B,hB⟩:=PT.bound h;refine ⟨PT.ofF (bp h) (2*B),?_⟩;funext n;rw[PT.get_ofF];split
 ·rfl
 ·unfold bp;split
  ·rw[hB _ (by omega)];rfl
  ·rfl
theorem ct {h:THeap} {x:TV} {r:List TV} {l:List AV} (he:ci h (x::r)=some l):∃ y l',l=y::l'∧bS h x=some y∧ci h r=some l':=by
 simp only[ci] at he;split at he
 ·rename_i y hy;split at he
  ·rename_i l' hl;simp only[ae] at he;exact⟨y,l',he.symm,hy,hl⟩
  ·cases he
 ·cases he
theorem jT {h:THeap} {x:TV} {r:List TV} {y:AV} {l':List AV} (h1:bS h x=some y) (h2:ci h r=some l'):ci h (x::r)=some (y::l'):=by
 simp only[ci,h1,h2]
theorem fk {h:THeap}:∀ {l:List TV} {l':List AV},ci h l=some l'→l'.length=l.length
 |[],l',he=>by simp only[ci,ae] at he;subst he;rfl
 |x::r,l',he=>by
  obtain⟨y,l2,rfl,_,h2⟩:=ct he;simp[fk h2]
theorem iL {h:THeap}:∀ {a b:List TV} {a' b':List AV},ci h a=some a'→ci h b=some b'→ci h (a++b)=some (a'++b')
 |[],b,a',b',ha,hb=>by simp only[ci,ae] at ha;subst ha;exact hb
 |x::r,b,a',b',ha,hb=>by
  obtain⟨y,l2,rfl,h1,h2⟩:=ct ha;exact jT h1 (iL h2 hb)
theorem rG {h:THeap}:∀ {a b:List TV} {l:List AV},ci h (a++b)=some l→∃ a' b',l=a'++b'∧ci h a=some a'∧ci h b=some b'
 |[],b,l,he=>⟨[],l,rfl,rfl,he⟩
 |x::r,b,l,he=>by
  obtain⟨y,l2,rfl,h1,h2⟩:=ct he;obtain⟨a',b',rfl,h3,h4⟩:=rG h2;exact⟨y::a',b',rfl,jT h1 h3,h4⟩
theorem tY {h:THeap}:∀ {l:List TV} {l':List AV} (n:Nat),ci h l=some l'→ci h (l.take n)=some (l'.take n)
 |[],l',n,he=>by simp only[ci,ae] at he;subst he;simp[ci]
 |x::r,l',n,he=>by
  obtain⟨y,l2,rfl,h1,h2⟩:=ct he;cases n with
  |zero=>simp[ci]
  |succ n=>exact jT h1 (tY n h2)
theorem t7 {h:THeap}:∀ {l:List TV} {l':List AV} (n:Nat),ci h l=some l'→ci h (l.drop n)=some (l'.drop n)
 |[],l',n,he=>by simp only[ci,ae] at he;subst he;simp[ci]
 |x::r,l',n,he=>by
  obtain⟨y,l2,rfl,h1,h2⟩:=ct he;cases n with
  |zero=>exact he
  |succ n=>simpa using t7 n h2
theorem ol {h:THeap} {l vs:List TV} {l' vs':List AV} (off:Nat) (h1:ci h l=some l') (h2:ci h vs=some vs'):ci h (splice l off vs)=some (splice l' off vs'):=by
 unfold splice;rw[fk h2];exact iL (iL (tY _ h1) h2) (t7 _ h1)
theorem hZ {h:THeap}:∀ {l:List TV} {l':List AV},ci h l=some l'→∀ (j:Nat) x,l[j]? =some x→∃ y,l'[j]? =some y∧bS h x=some y
 |[],l',he,j,x,hx=>by simp at hx
 |x::r,l',he,j,z,hz=>by
  obtain⟨y,l2,rfl,h1,h2⟩:=ct he;cases j with
  |zero=>simp at hz;subst hz;exact⟨y,rfl,h1⟩
  |succ j=>simpa using hZ h2 j z (by simpa using hz)
mutual
theorem kA (h:THeap):∀ (u:TV),yP h u=true→∃ y,bS h u=some y
 |.f _ _,_=>⟨_,rfl⟩
 |.fel _ _ _ _ _,_=>⟨_,rfl⟩
 |.pel _ _ _ _,_=>⟨_,rfl⟩
 |.ptr _ _,_=>⟨_,rfl⟩
 |.csl _ _ _,_=>⟨_,rfl⟩
 |.row id,he=>by
  simp only[yP] at he;cases hr:dg h id with
  |none=>rw[hr] at he;cases he
  |some r=>obtain⟨p,sz,n⟩:=r;exact⟨_,by simp only[bS,hr];rfl⟩
 |.emp,_=>⟨_,rfl⟩
 |.nil,_=>⟨_,rfl⟩
 |.mp _,_=>⟨_,rfl⟩
 |.agg l,he=>by obtain⟨y,hy⟩:=dx h l he;exact⟨_,by simp only[bS,hy];rfl⟩
 |.tup l,he=>by obtain⟨y,hy⟩:=dx h l he;exact⟨_,by simp only[bS,hy];rfl⟩
 |.clo g l,he=>by obtain⟨y,hy⟩:=dx h l he;exact⟨_,by simp only[bS,hy];rfl⟩
 |.undef,_=>⟨_,rfl⟩
 |.np,_=>⟨_,rfl⟩
 |.anyb,_=>⟨_,rfl⟩
theorem dx (h:THeap):∀ (l:List TV),gz h l=true→∃ l',ci h l=some l'
 |[],_=>⟨[],rfl⟩
 |x::r,he=>by
  simp only[gz,ak] at he;obtain⟨y,hy⟩:=kA h x he.1;obtain⟨l',hl⟩:=dx h r he.2;exact⟨_,jT hy hl⟩
end
def bQ (h h':THeap):Prop:=∀ id r,dg h id=some r→dg h' id=some r
mutual
theorem dW {h h':THeap} (hk:bQ h h'):∀ (u:TV) (y:AV),bS h u=some y→bS h' u=some y
 |.f _ _,y,he=>he
 |.fel _ _ _ _ _,y,he=>he
 |.pel _ _ _ _,y,he=>he
 |.ptr _ _,y,he=>he
 |.csl _ _ _,y,he=>he
 |.row id,y,he=>by
  simp only[bS] at he ⊢;split at he
  ·rename_i p sz n hr;rw[hk _ _ hr];exact he
  ·cases he
 |.emp,y,he=>he
 |.nil,y,he=>he
 |.mp _,y,he=>he
 |.agg l,y,he=>by
  simp only[bS] at he ⊢;split at he
  ·rename_i l' hl;rw[eS hk l l' hl];exact he
  ·cases he
 |.tup l,y,he=>by
  simp only[bS] at he ⊢;split at he
  ·rename_i l' hl;rw[eS hk l l' hl];exact he
  ·cases he
 |.clo g l,y,he=>by
  simp only[bS] at he ⊢;split at he
  ·rename_i l' hl;rw[eS hk l l' hl];exact he
  ·cases he
 |.undef,y,he=>he
 |.np,y,he=>he
 |.anyb,y,he=>he
theorem eS {h h':THeap} (hk:bQ h h'):∀ (l:List TV) (l':List AV),ci h l=some l'→ci h' l=some l'
 |[],l',he=>he
 |x::r,l',he=>by
  obtain⟨y,l2,rfl,h1,h2⟩:=ct he;exact jT (dW hk x y h1) (eS hk r l2 h2)
end
mutual
theorem jw {h h':THeap} (hk:bQ h h'):∀ (u:TV),yP h u=true→yP h' u=true
 |.f _ _,_=>rfl
 |.fel _ _ _ _ _,_=>rfl
 |.pel _ _ _ _,_=>rfl
 |.ptr _ _,_=>rfl
 |.csl _ _ _,_=>rfl
 |.row id,he=>by
  simp only[yP] at he ⊢;cases hr:dg h id with
  |none=>rw[hr] at he;cases he
  |some r=>rw[hk _ _ hr];rfl
 |.emp,_=>rfl
 |.nil,_=>rfl
 |.mp _,_=>rfl
 |.agg l,he=>eP hk l he
 |.tup l,he=>eP hk l he
 |.clo g l,he=>eP hk l he
 |.undef,_=>rfl
 |.np,_=>rfl
 |.anyb,_=>rfl
theorem eP {h h':THeap} (hk:bQ h h'):∀ (l:List TV),gz h l=true→gz h' l=true
 |[],_=>rfl
 |x::r,he=>by
  simp only[gz,ak] at he ⊢;exact⟨jw hk x he.1,eP hk r he.2⟩
end
mutual
theorem tX (h:THeap):∀ (u:TV) (y:AV),bS h u=some y→yP h u=true
 |.f _ _,_,_=>rfl
 |.fel _ _ _ _ _,_,_=>rfl
 |.pel _ _ _ _,_,_=>rfl
 |.ptr _ _,_,_=>rfl
 |.csl _ _ _,_,_=>rfl
 |.row id,y,he=>by
  simp only[yP,bS] at he ⊢;cases hr:dg h id with
  |none=>rw[hr] at he;cases he
  |some r=>rfl
 |.emp,_,_=>rfl
 |.nil,_,_=>rfl
 |.mp _,_,_=>rfl
 |.agg l,y,he=>by
  simp only[bS] at he;split at he
  ·rename_i l' hl;exact gT h l l' hl
  ·cases he
 |.tup l,y,he=>by
  simp only[bS] at he;split at he
  ·rename_i l' hl;exact gT h l l' hl
  ·cases he
 |.clo g l,y,he=>by
  simp only[bS] at he;split at he
  ·rename_i l' hl;exact gT h l l' hl
  ·cases he
 |.undef,_,_=>rfl
 |.np,_,_=>rfl
 |.anyb,_,_=>rfl
theorem gT (h:THeap):∀ (l:List TV) (l':List AV),ci h l=some l'→gz h l=true
 |[],_,_=>rfl
 |x::r,l',he=>by
  obtain⟨y,l2,rfl,h1,h2⟩:=ct he;simp only[gz,ak];exact⟨tX h x y h1,gT h r l2 h2⟩
end
mutual
theorem zS (h h':THeap):∀ (u:TV),idFree u=true→bS h u=bS h' u
 |.f _ _,_=>rfl
 |.fel _ _ _ _ _,_=>rfl
 |.pel _ _ _ _,_=>rfl
 |.ptr _ _,_=>rfl
 |.csl _ _ _,_=>rfl
 |.row id,he=>by cases he
 |.emp,_=>rfl
 |.nil,_=>rfl
 |.mp _,_=>rfl
 |.agg l,he=>by simp only[bS];rw[tZ h h' l he]
 |.tup l,he=>by simp only[bS];rw[tZ h h' l he]
 |.clo g l,he=>by cases he
 |.undef,_=>rfl
 |.np,_=>rfl
 |.anyb,_=>rfl
theorem tZ (h h':THeap):∀ (l:List TV),idFrees l=true→ci h l=ci h' l
 |[],_=>rfl
 |x::r,he=>by
  simp only[idFrees,ak] at he;simp only[ci];rw[zS h h' x he.1,tZ h h' r he.2]
end
theorem yr {h:THeap} {u:TV} {y:AV} (he:bS h u=some y) (hc:u.isC=true):y.isCell=true:=by
 cases u with
 |f T v=>cases T<;>simp only[bS,ae] at he<;>subst he<;>first|rfl|(simp [TV.isC,Ty.one] at hc)
 |fel T xs j hj off=>simp only[bS,ae] at he;subst he;rfl
 |pel id sz j off=>simp only[bS,ae] at he;subst he;rfl
 |ptr id off=>simp only[bS,ae] at he;subst he;rfl
 |csl id off z=>simp only[bS,ae] at he;subst he;rfl
 |row id=>
  simp only[bS] at he;split at he
  ·simp only[ae] at he;subst he;unfold du;split<;>rfl
  ·cases he
 |emp=>simp only[bS,ae] at he;subst he;rfl
 |nil=>simp only[bS,ae] at he;subst he;rfl
 |mp id=>simp only[bS,ae] at he;subst he;rfl
 |agg l=>cases hc
 |tup l=>cases hc
 |clo g l=>
  simp only[bS] at he;split at he
  ·simp only[ae] at he;subst he;rfl
  ·cases he
 |undef=>cases hc
 |np=>simp only[bS,ae] at he;subst he;rfl
 |anyb=>cases hc
theorem mZ {h:THeap}:∀ {l:List TV} {l':List AV},ci h l=some l'→allC l=true→allCell l'=true
 |[],l',he,_=>by simp only[ci,ae] at he;subst he;rfl
 |x::r,l',he,hc=>by
  obtain⟨y,l2,rfl,h1,h2⟩:=ct he;simp only[allC,ak] at hc;simp only[allCell,ak];exact⟨yr h1 hc.1,mZ h2 hc.2⟩
def Le (x y:AV):Prop:=∀ (φ:PM) (O:Nat→Prop) (w:World) (v:Value),cg φ O w x v→cg φ O w y v
theorem Le.refl (x:AV):Le x x:=fun _ _ _ _ h=>h
def ij (H H':HF) (x y:AV):Prop:=∀ (φ:PM) (E:Nat→Prop) (w:World) (v:Value),lm φ E H w→cg φ (tot E φ H) w x v→cg φ (tot E φ H') w y v
def ov (H H':HF):Prop:=∀ i b,H' i=some b→∃ b0,H i=some b0
theorem ov.refl (H:HF):ov H H:=fun _ b h=>⟨b,h⟩
theorem ov.own {H H':HF} (d:ov H H') {φ:PM} {k:Nat} (h:own φ H' k):own φ H k:=by
 obtain⟨i,b,h1,h2⟩:=h;obtain⟨b0,h3⟩:=d i b h1;exact⟨i,b0,h3,h2⟩
theorem ov.tot {H H':HF} (d:ov H H') {E:Nat→Prop} {φ:PM} {k:Nat} (h:tot E φ H' k):tot E φ H k:=h.imp id d.own
theorem cg.dom {H H':HF} (d:ov H H') {φ:PM} {E:Nat→Prop} {w:World} {x:AV} {v:Value} (h:cg φ (tot E φ H) w x v):cg φ (tot E φ H') w x v:=
 h.ext (fun _ _ h=>h) (wQ.refl _ w) fun _ _ hk=>d.tot hk
theorem iM.dom {H H':HF} (d:ov H H') {φ:PM} {E:Nat→Prop} {w:World} {x:FV} {v:Value} (h:iM (tot E φ H) w x v):iM (tot E φ H') w x v:=
 h.ext (wQ.refl _ w) fun _ _ hk=>d.tot hk
theorem Le.toH {H H':HF} (d:ov H H') {x y:AV} (h:Le x y):ij H H' x y:=fun φ E w v _ hr=>(h _ _ _ _ hr).dom d
theorem ij.refl {H H':HF} (d:ov H H') (x:AV):ij H H' x x:=(Le.refl x).toH d
def eA (H H':HF):List AV→List AV→Prop
 |[],[]=>True
 |x::xs,y::ys=>ij H H' x y∧eA H H' xs ys
 |_,_=>False
theorem eA.refl {H H':HF} (d:ov H H'):∀ l,eA H H' l l
 |[]=>trivial
 |x::r=>⟨ij.refl d x,eA.refl d r⟩
theorem eA.length {H H':HF}:∀ {l l':List AV},eA H H' l l'→l'.length=l.length
 |[],[],_=>rfl
 |[],_::_,h=>h.elim
 |_::_,[],h=>h.elim
 |_::_,_::_,h=>by simp[eA.length h.2]
theorem eA.get {H H':HF}:∀ {l l':List AV},eA H H' l l'→∀ (j:Nat) y,l'[j]? =some y→∃ x,l[j]? =some x∧ij H H' x y
 |[],[],_,j,y,hy=>by simp at hy
 |[],_::_,h,_,_,_=>h.elim
 |_::_,[],h,_,_,_=>h.elim
 |x::xs,z::ys,h,j,y,hy=>by
  cases j with
  |zero=>simp at hy;subst hy;exact⟨x,rfl,h.1⟩
  |succ j=>simpa using eA.get h.2 j y (by simpa using hy)
theorem eA.append {H H':HF}:∀ {a a' b b':List AV},eA H H' a a'→eA H H' b b'→eA H H' (a++b) (a'++b')
 |[],[],_,_,_,h=>h
 |[],_::_,_,_,h,_=>h.elim
 |_::_,[],_,_,h,_=>h.elim
 |_::_,_::_,_,_,h,h'=>⟨h.1,eA.append h.2 h'⟩
theorem eA.take {H H':HF}:∀ {a a':List AV} (n:Nat),eA H H' a a'→eA H H' (a.take n) (a'.take n)
 |[],[],n,_=>by simp[eA]
 |[],_::_,_,h=>h.elim
 |_::_,[],_,h=>h.elim
 |_::_,_::_,0,_=>trivial
 |_::_,_::_,n+1,h=>⟨h.1,eA.take n h.2⟩
theorem eA.drop {H H':HF}:∀ {a a':List AV} (n:Nat),eA H H' a a'→eA H H' (a.drop n) (a'.drop n)
 |[],[],n,_=>by simp[eA]
 |[],_::_,_,h=>h.elim
 |_::_,[],_,h=>h.elim
 |_::_,_::_,0,h=>h
 |_::_,_::_,n+1,h=>eA.drop n h.2
theorem eA.splice {H H':HF} {a a' b b':List AV} (off:Nat) (h1:eA H H' a a') (h2:eA H H' b b'):eA H H' (splice a off b) (splice a' off b'):=by
 unfold AI.splice;rw[h2.length];exact ((h1.take off).append h2).append (h1.drop _)
def gk (H H':HF) (b b':ph):Prop:=∀ (φ:PM) (E:Nat→Prop) (w:World) (o:Obj),lm φ E H w→fm φ (tot E φ H) w b o→fm φ (tot E φ H') w b' o
theorem gk.refl {H H':HF} (d:ov H H') (b:ph):gk H H' b b:=fun _ _ _ _ _ h=>h.mono fun _ _ h=>h.dom d
theorem km {φ:PM} {O:Nat→Prop} {w:World} {ty:TypeId} {c:BC} {o:Obj} (hc:c.isCells=true):fm φ O w ⟨ty,c⟩ o↔∃ arr,o= .cells arr ty (0,0)∧ox φ O w c arr:=by
 unfold fm;cases c<;>simp[BC.isCells] at hc<;>rfl
theorem gk.cells {H H':HF} {ty:TypeId} {c c':BC} (hc:c.isCells=true) (hc':c'.isCells=true) (hl:eA H H' c.toMx c'.toMx) (hcell:∀ x∈c'.toMx,x.isCell=true):gk H H' ⟨ty,c⟩ ⟨ty,c'⟩:=by
 intro φ E w o hrep ho;rw[km hc] at ho;rw[km hc'];obtain⟨arr,h1,h2,h3⟩:=ho;refine ⟨arr,h1,by rw[BC.len_toMx hc',hl.length,←BC.len_toMx hc];exact h2,fun j x hx=>?_⟩;rw[BC.get_toMx hc'] at hx;refine ⟨hcell x (bc hx),?_⟩;obtain⟨y,hy,hle⟩:=hl.get j x hx;obtain⟨_,v,h5,h6⟩:=h3 j y (by rw[BC.get_toMx hc];exact hy);exact⟨v,h5,hle _ _ _ _ hrep h6⟩
theorem gk.eq {H H':HF} (d:ov H H') {ty:TypeId} {c c':BC} (hc:c.isCells=true) (hc':c'.isCells=true) (hl:c.toMx=c'.toMx):gk H H' ⟨ty,c⟩ ⟨ty,c'⟩:=by
 intro φ E w o hrep ho;rw[km hc] at ho;rw[km hc'];obtain⟨arr,h1,h2,h3⟩:=ho;refine ⟨arr,h1,by rw[BC.len_toMx hc',←hl,←BC.len_toMx hc];exact h2,fun j x hx=>?_⟩;rw[BC.get_toMx hc',←hl,←BC.get_toMx hc] at hx;obtain⟨h4,v,h5,h6⟩:=h3 j x hx;exact⟨h4,v,h5,h6.dom d⟩
structure wI (H H':HF):Prop where
 dom:ov H H'
 blk:∀ i b b',H i=some b→H' i=some b'→gk H H' b b'
theorem wI.refl (H:HF):wI H H:=⟨ov.refl H,fun i b b' h h'=>by rw[h] at h';cases h';exact gk.refl (ov.refl H) b⟩
theorem wI.rep {H H':HF} (V:wI H H') {φ:PM} {E:Nat→Prop} {w:World} (r:lm φ E H w):lm φ E H' w:=by
 refine ⟨fun i j b b' k g1 g2 g3 g4=>?_,fun i b g1=>?_,r.el,fun g cells hg=>(r.gl g cells hg).dom V.dom⟩
 ·obtain⟨b0,q1⟩:=V.dom i b g1;obtain⟨b1,q2⟩:=V.dom j b' g2;exact r.inj i j b0 b1 k q1 q2 g3 g4
 ·obtain⟨b0,q1⟩:=V.dom i b g1;obtain⟨k,p1,p2,ob,p3,p4⟩:=r.at_ i b0 q1;exact⟨k,p1,p2,ob,p3,V.blk i b0 b q1 g1 φ E w ob r p4⟩
theorem dX.view {P:Program} {o:Oper} {e:EF} {h:HF} {val val':AV} {rd wr wr' N:List Nat} {nw nw':HF} (ht:dX P o e h ⟨val,rd,wr,nw,N⟩) (hsub:∀ i∈wr,i∈wr'∨i∈rd)
 (hv:∀ h':HF,(∀ i∈rd,h' i=h i)→(∀ i∈wr',h' i=h i)→wI (c5 h' wr nw) (c5 h' wr' nw')∧ij (c5 h' wr nw) (c5 h' wr' nw') val val'):dX P o e h ⟨val',rd,wr',nw',N⟩:=by
 intro φ E h' w a h1 h2 h3 h4 h5;have hw:=ht φ E h' w a h1 (fun i hi=>(hsub i hi).elim (h2 i) (h1 i)) h3 h4 h5;obtain⟨V,hle⟩:=hv h' h1 h2;refine yT ?_ hw;rintro a' w' ⟨v,φ',rfl,mv,nm',rp,rel⟩;exact⟨v,φ',rfl,⟨mv.sub,mv.ext,fun k hk ho=>mv.own_ k hk (V.dom.own ho)⟩,nm',V.rep rp,hle _ _ _ _ rp rel⟩
theorem Le.nil:Le (.f (.raw (.slice none 0 0))) (.f (.sl [] 0)):=by
 intro φ O w v hr;cases hr with
 |f hr=>cases hr;exact .f (.nil none 0 (by unfold maxLen;omega))
theorem Le.emp:Le .emp (.f (.sl [] 0)):=by
 intro φ O w v hr;cases hr with
 |emp=>exact .f (.nil _ 0 (by unfold maxLen;omega))
theorem Le.nilEmp:Le (.f (.raw (.slice none 0 0))) .emp:=by
 intro φ O w v hr;cases hr with
 |f hr=>cases hr;exact .emp
theorem Le.aggF {l:List FV}:Le (.f (.agg l)) (.agg (l.map .f)):=by
 intro φ O w v hr;cases hr with
 |f hr=>
  cases hr with
  |agg _ vs hl hcl hrr=>
   refine .agg (by simp[hl]) (fun x hx=>?_) fun j x u hx hu=>?_
   ·obtain⟨y,hy,rfl⟩:=cQ.1 hx;exact hcl y hy
   ·rw[aY] at hx;cases hc:l[j]? with
    |none=>rw[hc] at hx;cases hx
    |some y=>rw[hc] at hx;simp at hx;subst hx;exact .f (hrr j y u hc hu)
theorem DY (l:List AV):Le (xw l) (.agg l):=by
 unfold xw;split
 ·rename_i fs h;rw[allF_spec h];exact Le.aggF
 ·exact Le.refl _
theorem ij.aggL {H H':HF} {l:List AV} {l':List FV} (h:eA H H' l (l'.map .f)) (hc:∀ x∈l',x.isCell=true):ij H H' (.agg l) (.f (.agg l')):=by
 intro φ E w v hrep hr;cases hr with
 |@agg _ vs hl hcl hrr=>
  refine .f (.agg l' vs (by rw[hl,←h.length];simp) hc fun j y u hy hu=>?_);obtain⟨x,hx,hle⟩:=h.get j (.f y) (by rw[aY,hy];rfl);have:=hle φ E w u hrep (hrr j x u hx hu);cases this with
  |f h=>exact h
theorem ij.row {H H':HF} (d:ov H H') {id sz n:Nat} {ty:TypeId} {cells:List FV} (h1:H id=some ⟨ty,.fz cells⟩) (h2:H' id=none) (hl:cells.length=n*sz):ij H H' (.row id sz n) (.f (.sl cells n)):=by
 intro φ E w v r hr;cases hr with
 |@row _ _ _ c k hφ hn hcap hsh=>
  obtain⟨k',q1,q2,_⟩:=r.at_ id _ h1;rw[hφ] at q1;cases q1;obtain⟨arr,p1,p2,p3⟩:=r.cs h1 hφ rfl;have hk:k<w.heap.size:=(b6.1 p1).1;have hlen:cells.length≤arr.size:=by simpa[BC.toMx] using p3
  have hnk:¬tot E φ H' k:=by
   rintro (hE|⟨j,b,g1,g2⟩)
   ·exact q2 hE
   ·obtain⟨b0,g3⟩:=d j b g1;have:=r.inj j id b0 _ k g3 h1 g2 hφ;subst this;rw[h2] at g1;cases g1
  have hget:∀ (j:Nat) x,cells[j]? =some x→∃ u,arr[j]? =some u∧iM (tot E φ H) w x u:=fun j x hx=>by
   have hj:j<cells.length:=(bg.1 hx).1;have hja:j<arr.size:=by omega
   refine ⟨arr[j],by simp[hja],?_⟩;have:=p2.2.2 j (.f x) arr[j] (by simp[BC.toMx,hx]) (by
    rw[cr,if_pos (by simpa[BC.toMx] using hj),b8];simp[hja])
   cases this with
   |f h=>exact h
  refine .f (.sl cells n c k 0 (fun j=>(arr[j]?).getD undef) hn hcap hnk hk (fun x hx=>?_) (fun j hj=>?_) (fun j x hx=>?_))
  ·have:=p2.2.1 (.f x) (by simp only[BC.toMx];exact cQ.2 ⟨x,hx,rfl⟩);exact this
  ·have:j<arr.size:=by omega
   simp[xP,p1,this]
  ·obtain⟨u,g1,g2⟩:=hget j x hx;rw[g1];exact g2.dom d
theorem encExs_flat:∀ l:List Xp,encExs l=l.flatMap encEx
 |[]=>rfl
 |x::r=>by rw[encExs,encExs_flat r];rfl
theorem encSms_flat:∀ l:List Sx,encSms l=l.flatMap encSm
 |[]=>rfl
 |x::r=>by rw[encSms,encSms_flat r];rfl
theorem wy (e:Xp):encC exF (xU e)=encEx e:=by
 cases e with
 |mk op n name l=>simp only[exF,xU,encC,encEx,Xp.op,Xp.n,Xp.name,Xp.l,encExs_flat];rfl
theorem zY (x:exF.den):encEx (bG x)=encC exF x:=by
 simp only[exF,bG,encC,encEx,encExs_flat];rfl
theorem wx (e:Sx):encC smF (xT e)=encSm e:=by
 cases e with
 |mk op line name arg index expr body els=>simp only[smF,xT,encC,encSm,Sx.op,Sx.line,Sx.name,Sx.arg,Sx.index,Sx.expr,Sx.body,Sx.els,encExs_flat,encSms_flat];rfl
theorem zX (x:smF.den):encSm (cz x)=encC smF x:=by
 simp only[smF,cz,encC,encSm,encExs_flat,encSms_flat];rfl
theorem pL (e:Xp):(encEx e).length=4:=by cases e;simp[encEx]
theorem sO (e:Sx):(encSm e).length=11:=by cases e;simp[encSm,pL]
theorem encC_length:∀ (T:Ty) (v:T.den),(encC T v).length=T.size
 |.int _,_=>rfl
 |.bool,_=>rfl
 |.str,_=>rfl
 |.sl _,_=>rfl
 |.st t,v=>encC_length t v
 |.pr a b,v=>by simp[encC,Ty.size,encC_length a,encC_length b]
 |.un,_=>rfl
 |.ex,v=>pL v
 |.sm,v=>sO v
theorem wz (e:Xp):∀ x∈encEx e,x.isCell=true:=by
 cases e with
 |mk op n name l=>
  intro x hx;simp only[encEx,bo,cf,or_false] at hx;rcases hx with rfl|rfl|rfl|rfl<;>rfl
theorem Bn (e:Sx):∀ x∈encSm e,x.isCell=true:=by
 cases e with
 |mk op line name arg index expr body els=>
  intro x hx;simp only[encSm,bD,bo,cf,or_false] at hx;rcases hx with (hx|hx)|hx
  ·rcases hx with rfl|rfl|rfl|rfl|rfl<;>rfl
  ·exact wz _ _ hx
  ·rcases hx with rfl|rfl<;>rfl
theorem encC_cell:∀ (T:Ty) (v:T.den),∀ x∈encC T v,x.isCell=true
 |.int _,_,x,hx=>by simp only[encC,aH] at hx;subst hx;rfl
 |.bool,_,x,hx=>by simp only[encC,aH] at hx;subst hx;rfl
 |.str,_,x,hx=>by simp only[encC,aH] at hx;subst hx;rfl
 |.sl _,_,x,hx=>by simp only[encC,aH] at hx;subst hx;rfl
 |.st t,v,x,hx=>encC_cell t v x hx
 |.pr a b,v,x,hx=>by
  simp only[encC,bD] at hx;exact hx.elim (encC_cell a v.1 x) (encC_cell b v.2 x)
 |.un,_,x,hx=>by simp[encC] at hx
 |.ex,v,x,hx=>wz v x hx
 |.sm,v,x,hx=>Bn v x hx
theorem encC_one:∀ (T:Ty) (v:T.den),T.one=true→encC T v=[enc1 T v]∧T.size=1
 |.int _,_,_=>⟨rfl,rfl⟩
 |.bool,_,_=>⟨rfl,rfl⟩
 |.str,_,_=>⟨rfl,rfl⟩
 |.sl _,_,_=>⟨rfl,rfl⟩
 |.st _,_,h=>by cases h
 |.pr _ _,_,h=>by cases h
 |.un,_,h=>by cases h
 |.ex,_,h=>by cases h
 |.sm,_,h=>by cases h
theorem enc1_agg:∀ (T:Ty) (v:T.den),T.one=false→enc1 T v= .agg (encC T v)
 |.int _,_,h=>by cases h
 |.bool,_,h=>by cases h
 |.str,_,h=>by cases h
 |.sl _,_,h=>by cases h
 |.st _,_,_=>rfl
 |.pr _ _,_,_=>rfl
 |.un,_,_=>rfl
 |.ex,_,_=>rfl
 |.sm,_,_=>rfl
theorem qP (T:Ty) (v:T.den):(AV.f (enc1 T v)).cs=(encC T v).map .f:=by
 cases h:T.one with
 |true=>
  rw[(encC_one T v h).1];cases T<;>simp only[Ty.one] at h<;>first|rfl|cases h
 |false=>rw[enc1_agg T v h];rfl
theorem dR {α:Type} {f:α→List FV} {n:Nat} (hf:∀ x,(f x).length=n):∀ (xs:List α),(xs.flatMap f).length=xs.length*n
 |[]=>by simp
 |x::r=>by rw[dv,cq,hf,dR hf r,bO,eM];omega
theorem tW {α:Type} {f:α→List FV} {n:Nat} (hf:∀ x,(f x).length=n):∀ (xs:List α) (j:Nat) (x:α),xs[j]? =some x→∃ r,(xs.flatMap f).drop (j*n)=f x++r
 |[],j,x,h=>by simp at h
 |y::r,j,x,h=>by
  cases j with
  |zero=>simp at h;subst h;exact⟨r.flatMap f,by simp⟩
  |succ j=>
   obtain⟨q,hq⟩:=tW hf r j x (by simpa using h);refine ⟨q,?_⟩;rw[dv,show (j+1)*n=(f y).length+j*n from by rw[hf,eM];omega,n6];simp[hq]
theorem zO {α:Type} {f:α→List FV} {n:Nat} (hf:∀ x,(f x).length=n):∀ (xs:List α) (j:Nat) (x z:α),xs[j]? =some x→∀ (off:Nat) (vs:List FV),off+vs.length≤n→f z=AI.splice (f x) off vs→(xs.set j z).flatMap f=AI.splice (xs.flatMap f) (j*n+off) vs
 |[],j,x,z,h,_,_,_,_=>by simp at h
 |y::r,j,x,z,h,off,vs,hle,hz=>by
  cases j with
  |zero=>
   simp at h;subst h;simp only[List.set_cons_zero,dv,hz,Nat.zero_mul,bw];unfold AI.splice;have hy:=hf y;rw[List.take_append,n6];have e1:off-(f y).length=0:=by omega
   have e2:off+vs.length-(f y).length=0:=by omega
   rw[e1,e2];simp[jM]
  |succ j=>
   have ih:=zO hf r j x z (by simpa using h) off vs hle hz;simp only[List.set_cons_succ,dv,ih];unfold AI.splice;have hy:=hf y;have e0:(j+1)*n=(f y).length+j*n:=by rw[hf,eM];omega
   rw[e0,List.take_append,n6];have e1:(f y).length+j*n+off-(f y).length=j*n+off:=by omega
   have e2:(f y).length+j*n+off+vs.length-(f y).length=j*n+off+vs.length:=by omega
   rw[e1,e2,dF (by omega:(f y).length≤(f y).length+j*n+off),mc (by omega:(f y).length≤(f y).length+j*n+off+vs.length)];simp[jM]
theorem ne (T:Ty) (xs:List T.den):∀ x∈xs.flatMap (encC T),x.isCell=true:=fun x hx=>by
 obtain⟨y,_,h⟩:=nX.1 hx;exact encC_cell T y x h
theorem eZ {S T:Ty} {v:S.den} {x:T.den} (h:pe T v=some x):∃ e:S=T,x=e▸v:=by
 unfold pe at h;split at h
 ·rename_i e;simp only[ae] at h;exact⟨e,h.symm⟩
 ·cases h
theorem gU (h:THeap):∀ (n:Nat) (T:Ty) (v:T.den) (l:List TV),cellsOf n T v=some l→ci h l=some ((encC T v).map .f)∧allC l=true
 |0,_,_,_,he=>by simp[cellsOf] at he
 |n+1,.st t,v,l,he=>gU h n t v l he
 |n+1,.pr a b,v,l,he=>by
  simp only[cellsOf] at he;split at he
  ·rename_i x y hx hy;simp only[ae] at he;subst he;obtain⟨h1,h2⟩:=gU h n a v.1 x hx;obtain⟨h3,h4⟩:=gU h n b v.2 y hy;refine ⟨by rw[encC,fJ];exact iL h1 h3,?_⟩;clear h1 h3 hx hy;induction x with
   |nil=>exact h4
   |cons z r ih=>simp only[allC,ak,fc] at h2 ⊢;exact⟨h2.1,ih h2.2⟩
  ·cases he
 |n+1,.un,v,l,he=>by simp only[cellsOf,ae] at he;subst he;exact⟨rfl,rfl⟩
 |n+1,.ex,v,l,he=>by rw[encC,←wy];exact gU h n exF (xU v) l he
 |n+1,.sm,v,l,he=>by rw[encC,←wx];exact gU h n smF (xT v) l he
 |n+1,.int k,v,l,he=>by simp only[cellsOf,ae] at he;subst he;exact⟨rfl,rfl⟩
 |n+1,.bool,v,l,he=>by simp only[cellsOf,ae] at he;subst he;exact⟨rfl,rfl⟩
 |n+1,.str,v,l,he=>by simp only[cellsOf,ae] at he;subst he;exact⟨rfl,rfl⟩
 |n+1,.sl t,v,l,he=>by simp only[cellsOf,ae] at he;subst he;exact⟨rfl,rfl⟩
theorem yh {y:AV} (h:y.isCell=true):y.cs=[y]:=by
 cases y with
 |f x=>cases x<;>first|rfl|cases h
 |agg l=>cases h
 |_=>rfl
theorem xE {h:THeap} {v:TV} {l:List TV} {y:AV} (hv:v.cs=some l) (hy:bS h v=some y):ci h l=some y.cs∧allC l=true:=by
 have one:(if v.isC then some [v] else none)=some l→ci h l=some y.cs∧allC l=true:=fun hv=>by
  split at hv
  ·rename_i hc;simp only[ae] at hv;subst hv;exact⟨by rw[yh (yr hy hc)];exact jT hy rfl,by simp[allC,hc]⟩
  ·cases hv
 cases v with
 |agg q=>
  simp only[TV.cs] at hv;split at hv
  ·rename_i hc;simp only[ae] at hv;subst hv;simp only[bS] at hy;split at hy
   ·rename_i l' hl;simp only[ae] at hy;subst hy;exact⟨hl,hc⟩
   ·cases hy
  ·cases hv
 |f T x=>
  simp only[TV.cs] at hv;simp only[bS,ae] at hy;subst hy;rw[qP];exact gU h 40 T x l hv
 |fel T xs j hj off=>exact one hv
 |pel id sz j off=>exact one hv
 |ptr id off=>exact one hv
 |csl id off z=>exact one hv
 |row id=>exact one hv
 |emp=>exact one hv
 |nil=>exact one hv
 |mp id=>exact one hv
 |tup q=>exact one hv
 |clo g q=>exact one hv
 |undef=>exact one hv
 |np=>exact one hv
 |anyb=>exact one hv
def td (h:THeap) (H H':HF) (m:Nat):Prop:=∀ id,aI m id=true→H (nm id)=bp h (nm id)∧H' (nm id)=none
theorem td.zero {h:THeap} {H H':HF}:td h H H' 0:=fun id hid=>by simp at hid
theorem td.or {h:THeap} {H H':HF} {a b:Nat} (g:td h H H' (a|||b)):td h H H' a∧td h H H' b:=
 ⟨fun id hid=>g id (by rw[bh,hid];rfl),fun id hid=>g id (by rw[bh,hid];simp)⟩
theorem bI {i j:Nat}:aI (gZ i) j=true↔i=j:=by
 unfold gZ;rw[Nat.one_shiftLeft,Nat.testBit_two_pow];simp
section pack
variable {h:THeap} {H H':HF}
theorem pO (d:ov H H') {T:Ty} {v:TV} {x:T.den} {m:Nat} {y:AV} (ha:e9 h T v=some (x,m)) (hy:bS h v=some y) (g:td h H H' m):ij H H' y (.f (enc1 T x))∧y.cs.length=T.size∧(T.one=true→y.isCell=true)∧eA H H' y.cs ((encC T x).map .f):=by
 cases v with
 |f S v=>
  simp only[e9] at ha;split at ha
  ·rename_i z hz;simp only[ae,ay] at ha;obtain⟨rfl,_⟩:=ha;obtain⟨e,rfl⟩:=eZ hz;subst e;simp only[bS,ae] at hy;subst hy;refine ⟨ij.refl d _,by rw[qP,cK,encC_length],fun ho=>?_,by rw[qP];exact eA.refl d _⟩;cases S<;>simp only[Ty.one] at ho<;>first|rfl|cases ho
  ·cases ha
 |emp=>
  simp only[e9] at ha;split at ha
  ·simp only[ae,ay] at ha;obtain⟨rfl,_⟩:=ha;simp only[bS,ae] at hy;subst hy;exact⟨Le.emp.toH d,rfl,fun _=>rfl,⟨Le.emp.toH d,trivial⟩⟩
  ·cases ha
 |nil=>
  simp only[e9] at ha;split at ha
  ·simp only[ae,ay] at ha;obtain⟨rfl,_⟩:=ha;simp only[bS,ae] at hy;subst hy;exact⟨Le.nil.toH d,rfl,fun _=>rfl,⟨Le.nil.toH d,trivial⟩⟩
  ·cases ha
 |row id=>
  simp only[e9] at ha;split at ha
  ·rename_i ty p S xs hb;split at ha
   ·rename_i z hz;simp only[ae,ay] at ha;obtain⟨rfl,rfl⟩:=ha;obtain⟨e,rfl⟩:=eZ hz;subst e;obtain⟨g1,g2⟩:=g id (bI.2 rfl);rw[bu,hb] at g1;simp only[bS,dg,hb,ae] at hy;subst hy;have key:ij H H' (du p id S.size xs.length) (.f (enc1 (.sl S) xs)):=by
     unfold du;split
     ·rename_i hp;simp only[ak,beq_iff_eq] at hp;have:xs=[]:=gO.1 hp.2;subst this;exact Le.emp.toH d
     ·rename_i hp;simp only[aC,gH,if_neg hp] at g1;exact ij.row d g1 g2 (dR (encC_length S) xs)
    have hc:(du p id S.size xs.length).isCell=true:=by unfold du;split<;>rfl
    refine ⟨key,by rw[yh hc];rfl,fun _=>hc,?_⟩;rw[yh hc];exact⟨key,trivial⟩
   ·cases ha
  ·cases ha
 |fel T xs j hj off=>simp[e9] at ha
 |pel id sz j off=>simp[e9] at ha
 |ptr id off=>simp[e9] at ha
 |csl id off z=>simp[e9] at ha
 |mp id=>simp[e9] at ha
 |agg q=>simp[e9] at ha
 |tup q=>simp[e9] at ha
 |clo f q=>simp[e9] at ha
 |undef=>simp[e9] at ha
 |np=>simp[e9] at ha
 |anyb=>simp[e9] at ha
theorem mo (d:ov H H'):∀ (n:Nat) (T:Ty) (l:List TV) (x:T.den) (m:Nat) (r:List TV) (l':List AV),c9 h n T l=some (x,m,r)→ci h l=some l'→td h H H' m→∃ l1 l2,l'=l1++l2∧ci h r=some l2∧eA H H' l1 ((encC T x).map .f)
 |0,_,_,_,_,_,_,hp,_,_=>by simp[c9] at hp
 |n+1,.st t,l,x,m,r,l',hp,hl,g=>mo d n t l x m r l' hp hl g
 |n+1,.pr a b,l,x,m,r,l',hp,hl,g=>by
  simp only[c9] at hp;split at hp
  ·rename_i x1 m1 r1 h1;split at hp
   ·rename_i x2 m2 r2 h2;simp only[ae,ay] at hp;obtain⟨rfl,rfl,rfl⟩:=hp;obtain⟨ga,gb⟩:=g.or;obtain⟨l1,l2,rfl,q1,q2⟩:=mo d n a l x1 m1 r1 l' h1 hl ga;obtain⟨l3,l4,rfl,q3,q4⟩:=mo d n b r1 x2 m2 r2 l2 h2 q1 gb;refine ⟨l1++l3,l4,by simp,q3,?_⟩;rw[encC,fJ];exact q2.append q4
   ·cases hp
  ·cases hp
 |n+1,.un,l,x,m,r,l',hp,hl,g=>by
  simp only[c9,ae,ay] at hp;obtain⟨_,_,rfl⟩:=hp;exact⟨[],l',rfl,hl,trivial⟩
 |n+1,.ex,l,x,m,r,l',hp,hl,g=>by
  simp only[c9] at hp;split at hp
  ·rename_i x1 m1 r1 h1;simp only[ae,ay] at hp;obtain⟨rfl,rfl,rfl⟩:=hp;rw[encC,zY];exact mo d n exF l x1 m1 r1 l' h1 hl g
  ·cases hp
 |n+1,.sm,l,x,m,r,l',hp,hl,g=>by
  simp only[c9] at hp;split at hp
  ·rename_i x1 m1 r1 h1;simp only[ae,ay] at hp;obtain⟨rfl,rfl,rfl⟩:=hp;rw[encC,zX];exact mo d n smF l x1 m1 r1 l' h1 hl g
  ·cases hp
 |n+1,.int k,l,x,m,r,l',hp,hl,g=>by
  simp only[c9] at hp;split at hp
  ·rename_i c q;split at hp
   ·rename_i x1 m1 h1;simp only[ae,ay] at hp;obtain⟨rfl,rfl,rfl⟩:=hp;obtain⟨y,l2,rfl,q1,q2⟩:=ct hl;exact⟨[y],l2,rfl,q2,⟨(pO d h1 q1 g).1,trivial⟩⟩
   ·cases hp
  ·cases hp
 |n+1,.bool,l,x,m,r,l',hp,hl,g=>by
  simp only[c9] at hp;split at hp
  ·rename_i c q;split at hp
   ·rename_i x1 m1 h1;simp only[ae,ay] at hp;obtain⟨rfl,rfl,rfl⟩:=hp;obtain⟨y,l2,rfl,q1,q2⟩:=ct hl;exact⟨[y],l2,rfl,q2,⟨(pO d h1 q1 g).1,trivial⟩⟩
   ·cases hp
  ·cases hp
 |n+1,.str,l,x,m,r,l',hp,hl,g=>by
  simp only[c9] at hp;split at hp
  ·rename_i c q;split at hp
   ·rename_i x1 m1 h1;simp only[ae,ay] at hp;obtain⟨rfl,rfl,rfl⟩:=hp;obtain⟨y,l2,rfl,q1,q2⟩:=ct hl;exact⟨[y],l2,rfl,q2,⟨(pO d h1 q1 g).1,trivial⟩⟩
   ·cases hp
  ·cases hp
 |n+1,.sl t,l,x,m,r,l',hp,hl,g=>by
  simp only[c9] at hp;split at hp
  ·rename_i c q;split at hp
   ·rename_i x1 m1 h1;simp only[ae,ay] at hp;obtain⟨rfl,rfl,rfl⟩:=hp;obtain⟨y,l2,rfl,q1,q2⟩:=ct hl;exact⟨[y],l2,rfl,q2,⟨(pO d h1 q1 g).1,trivial⟩⟩
   ·cases hp
  ·cases hp
theorem AY (d:ov H H') {n:Nat} {T:Ty} {l:List TV} {x:T.den} {m:Nat} {l':List AV} (hp:c9 h n T l=some (x,m,[])) (hl:ci h l=some l') (g:td h H H' m):eA H H' l' ((encC T x).map .f):=by
 obtain⟨l1,l2,rfl,q1,q2⟩:=mo d n T l x m [] l' hp hl g;simp only[ci,ae] at q1;subst q1;simpa using q2
theorem yH (d:ov H H') {T:Ty} {v:TV} {x:T.den} {m:Nat} {y:AV} (ha:tb h T v=some (x,m)) (hy:bS h v=some y) (g:td h H H' m):ij H H' y (.f (enc1 T x))∧eA H H' y.cs ((encC T x).map .f):=by
 have other:e9 h T v=some (x,m)→ij H H' y (.f (enc1 T x))∧eA H H' y.cs ((encC T x).map .f):=fun ha=>by
  obtain⟨h1,_,_,h2⟩:=pO d ha hy g;exact⟨h1,h2⟩
 cases v with
 |agg l=>
  simp only[tb] at ha;split at ha
  ·cases ha
  ·rename_i ho;split at ha
   ·rename_i x1 m1 h1;simp only[ae,ay] at ha;obtain⟨rfl,rfl⟩:=ha;simp only[bS] at hy;split at hy
    ·rename_i l' hl;simp only[ae] at hy;subst hy;have:=AY d h1 hl g;refine ⟨?_,this⟩;rw[enc1_agg T x1 (by simpa using ho)];exact ij.aggL this (encC_cell T x1)
    ·cases hy
   ·cases ha
 |f S v=>exact other ha
 |fel T xs j hj off=>exact other ha
 |pel id sz j off=>exact other ha
 |ptr id off=>exact other ha
 |csl id off z=>exact other ha
 |row id=>exact other ha
 |emp=>exact other ha
 |nil=>exact other ha
 |mp id=>exact other ha
 |tup q=>exact other ha
 |clo g q=>exact other ha
 |undef=>exact other ha
 |np=>exact other ha
 |anyb=>exact other ha
theorem sg (d:ov H H') {T:Ty}:∀ (n:Nat) (l:List TV) (xs:List T.den) (m:Nat) (l':List AV),qa h T n l=some (xs,m)→ci h l=some l'→td h H H' m→eA H H' l' ((xs.flatMap (encC T)).map .f)∧xs.length=n
 |0,[],xs,m,l',hp,hl,g=>by
  simp only[qa,ae,ay] at hp;obtain⟨rfl,_⟩:=hp;simp only[ci,ae] at hl;subst hl;exact⟨trivial,rfl⟩
 |0,_::_,xs,m,l',hp,hl,g=>by simp[qa] at hp
 |n+1,l,xs,m,l',hp,hl,g=>by
  simp only[qa] at hp;split at hp
  ·rename_i x1 m1 r1 h1;split at hp
   ·rename_i x2 m2 h2;simp only[ae,ay] at hp;obtain⟨rfl,rfl⟩:=hp;obtain⟨ga,gb⟩:=g.or;obtain⟨l1,l2,rfl,q1,q2⟩:=mo d 40 T l x1 m1 r1 l' h1 hl ga;obtain⟨q3,q4⟩:=sg d n r1 x2 m2 l2 h2 q1 gb;refine ⟨?_,by simp[q4]⟩;rw[dv,fJ];exact q2.append q3
   ·cases hp
  ·cases hp
theorem nN (h:THeap):∀ (n:Nat) (T:Ty) (v:T.den) (off sz:Nat) (ag:Bool) (u:TV),getAt n T v off sz ag=some u→off+sz≤T.size∧∃ y,bS h u=some (.f y)∧(ag=false→sz=1∧(encC T v)[off]? =some y)∧(ag=true→y= .agg (((encC T v).drop off).take sz))
 |0,_,_,_,_,_,_,hg=>by simp[getAt] at hg
 |n+1,.st t,v,off,sz,ag,u,hg=>by
  simp only[getAt] at hg;split at hg
  ·rename_i hc;simp only[ak] at hc;obtain⟨⟨h1,h2⟩,rfl⟩:=hc;have h1:=au h1;have h2:=au h2;subst h1;subst h2;simp only[ae] at hg;subst hg;refine ⟨by simp[Ty.size],_,rfl,fun h=>(by cases h),fun _=>?_⟩;simp only[enc1,encC,List.drop_zero];rw[← encC_length t v,gm]
  ·exact nN h n t v off sz ag u hg
 |n+1,.pr a b,v,off,sz,ag,u,hg=>by
  simp only[getAt] at hg;have hla:=encC_length a v.1;have hlb:=encC_length b v.2;split at hg
  ·rename_i hlt;have hlt:off<a.size:=aW hlt;obtain⟨h1,y,h2,h3,h4⟩:=nN h n a v.1 off sz ag u hg;refine ⟨by simp only[Ty.size];omega,y,h2,fun e=>?_,fun e=>?_⟩
   ·obtain⟨h5,h6⟩:=h3 e;exact⟨h5,by rw[encC,bV (by omega)];exact h6⟩
   ·rw[h4 e,encC];have:((encC a v.1++encC b v.2).drop off).take sz=((encC a v.1).drop off).take sz:=by
     rw[s8 (by omega),s7 (by simp;omega)]
    rw[this]
  ·rename_i hlt;have hlt:¬off<a.size:=fun h=>hlt (bB h)
   obtain⟨h1,y,h2,h3,h4⟩:=nN h n b v.2 (off-a.size) sz ag u hg;refine ⟨by simp only[Ty.size];omega,y,h2,fun e=>?_,fun e=>?_⟩
   ·obtain⟨h5,h6⟩:=h3 e;exact⟨h5,by rw[encC,co (by omega),hla];exact h6⟩
   ·rw[h4 e,encC];have:(encC a v.1++encC b v.2).drop off=(encC b v.2).drop (off-a.size):=by
     rw[n6,hla,mc (by omega)];simp
    rw[this]
 |n+1,.un,v,off,sz,ag,u,hg=>by simp[getAt] at hg
 |n+1,.ex,v,off,sz,ag,u,hg=>by
  simp only[getAt] at hg;split at hg
  ·rename_i hc;simp only[ak] at hc;obtain⟨⟨h1,h2⟩,rfl⟩:=hc;have h1:=au h1;have h2:=au h2;subst h1;subst h2;simp only[ae] at hg;subst hg;refine ⟨by simp[Ty.size],_,rfl,fun h=>(by cases h),fun _=>?_⟩;simp only[enc1,encC,List.drop_zero];rw[← pL v,gm]
  ·obtain⟨h1,y,h2,h3,h4⟩:=nN h n exF (xU v) off sz ag u hg;rw[wy] at h3 h4;exact⟨h1,y,h2,h3,h4⟩
 |n+1,.sm,v,off,sz,ag,u,hg=>by
  simp only[getAt] at hg;split at hg
  ·rename_i hc;simp only[ak] at hc;obtain⟨⟨h1,h2⟩,rfl⟩:=hc;have h1:=au h1;have h2:=au h2;subst h1;subst h2;simp only[ae] at hg;subst hg;refine ⟨by simp[Ty.size],_,rfl,fun h=>(by cases h),fun _=>?_⟩;simp only[enc1,encC,List.drop_zero];rw[← sO v,gm]
  ·obtain⟨h1,y,h2,h3,h4⟩:=nN h n smF (xT v) off sz ag u hg;rw[wx] at h3 h4;exact⟨h1,y,h2,h3,h4⟩
 |n+1,.int k,v,off,sz,ag,u,hg=>by
  simp only[getAt] at hg;split at hg
  ·rename_i hc;simp only[ak,cV] at hc;obtain⟨⟨h1,h2⟩,rfl⟩:=hc;have h1:=au h1;have h2:=au h2;subst h1;subst h2;simp only[ae] at hg;subst hg;exact⟨by simp[Ty.size],_,rfl,fun _=>⟨rfl,rfl⟩,fun h=>by cases h⟩
  ·cases hg
 |n+1,.bool,v,off,sz,ag,u,hg=>by
  simp only[getAt] at hg;split at hg
  ·rename_i hc;simp only[ak,cV] at hc;obtain⟨⟨h1,h2⟩,rfl⟩:=hc;have h1:=au h1;have h2:=au h2;subst h1;subst h2;simp only[ae] at hg;subst hg;exact⟨by simp[Ty.size],_,rfl,fun _=>⟨rfl,rfl⟩,fun h=>by cases h⟩
  ·cases hg
 |n+1,.str,v,off,sz,ag,u,hg=>by
  simp only[getAt] at hg;split at hg
  ·rename_i hc;simp only[ak,cV] at hc;obtain⟨⟨h1,h2⟩,rfl⟩:=hc;have h1:=au h1;have h2:=au h2;subst h1;subst h2;simp only[ae] at hg;subst hg;exact⟨by simp[Ty.size],_,rfl,fun _=>⟨rfl,rfl⟩,fun h=>by cases h⟩
  ·cases hg
 |n+1,.sl t,v,off,sz,ag,u,hg=>by
  simp only[getAt] at hg;split at hg
  ·rename_i hc;simp only[ak,cV] at hc;obtain⟨⟨h1,h2⟩,rfl⟩:=hc;have h1:=au h1;have h2:=au h2;subst h1;subst h2;simp only[ae] at hg;subst hg;exact⟨by simp[Ty.size],_,rfl,fun _=>⟨rfl,rfl⟩,fun h=>by cases h⟩
  ·cases hg
theorem AQ {α:Type} (l vs:List α) (h:vs.length=l.length):AI.splice l 0 vs=vs:=by
 unfold AI.splice;rw[bw,h,List.drop_length];simp
theorem zb {α:Type} (a b vs:List α) (off:Nat) (h:off+vs.length≤a.length):AI.splice (a++b) off vs=AI.splice a off vs++b:=by
 unfold AI.splice;rw[s7 (by omega),s8 (by omega)];simp[jM]
theorem xY {α:Type} (a b vs:List α) (off:Nat) (h:a.length≤off):AI.splice (a++b) off vs=a++AI.splice b (off-a.length) vs:=by
 unfold AI.splice;rw[List.take_append,n6,dF h,mc (by omega),show off+vs.length-a.length=off-a.length+vs.length from by omega];simp[jM]
def Ci (H H':HF) (y:AV) (T:Ty) (v z:T.den) (off sz:Nat):Prop:=∃ fs:List FV,eA H H' y.cs (fs.map .f)∧fs.length=sz∧off+sz≤T.size∧encC T z=AI.splice (encC T v) off fs∧∀ x∈fs,x.isCell=true
theorem Ci.whole {y:AV} {T:Ty} {v z:T.den} {off sz:Nat} (h0:off=0) (hs:sz=T.size) (hl:eA H H' y.cs ((encC T z).map .f)):Ci H H' y T v z off sz:=by
 subst h0;subst hs;exact⟨encC T z,hl,encC_length T z,by omega,(AQ _ _ (by rw[encC_length,encC_length])).symm,encC_cell T z⟩
theorem oM (d:ov H H') {u:TV} {y:AV} (hy:bS h u=some y):∀ (n:Nat) (T:Ty) (v:T.den) (off sz:Nat) (z:T.den) (m:Nat),dU h u n T v off sz=some (z,m)→td h H H' m→Ci H H' y T v z off sz
 |0,_,_,_,_,_,_,hg,_=>by simp[dU] at hg
 |n+1,.st t,v,off,sz,z,m,hg,g=>by
  simp only[dU] at hg;split at hg
  ·rename_i q hq;split at hq
   ·rename_i hc;simp only[ak] at hc;simp only[ae] at hg;subst hg;exact .whole (au hc.1) (au hc.2) (yH d hq hy g).2
   ·cases hq
  ·exact oM d hy n t v off sz z m hg g
 |n+1,.pr a b,v,off,sz,z,m,hg,g=>by
  simp only[dU] at hg;have hla:=encC_length a v.1;split at hg
  ·rename_i hlt;split at hg
   ·rename_i z1 m1 h1;simp only[ae,ay] at hg;obtain⟨rfl,rfl⟩:=hg;obtain⟨fs,q1,q2,q3,q4,q5⟩:=oM d hy n a v.1 off sz z1 m1 h1 g;refine ⟨fs,q1,q2,by simp only[Ty.size];omega,?_,q5⟩;rw[encC,encC,zb _ _ _ _ (by omega),q4]
   ·cases hg
  ·rename_i hlt;have hlt:¬off<a.size:=fun h=>hlt (bB h)
   split at hg
   ·rename_i z1 m1 h1;simp only[ae,ay] at hg;obtain⟨rfl,rfl⟩:=hg;obtain⟨fs,q1,q2,q3,q4,q5⟩:=oM d hy n b v.2 (off-a.size) sz z1 m1 h1 g;refine ⟨fs,q1,q2,by simp only[Ty.size];omega,?_,q5⟩;rw[encC,encC,xY _ _ _ _ (by omega),q4,hla]
   ·cases hg
 |n+1,.un,v,off,sz,z,m,hg,g=>by simp[dU] at hg
 |n+1,.ex,v,off,sz,z,m,hg,g=>by
  simp only[dU] at hg;split at hg
  ·rename_i q hq;split at hq
   ·rename_i hc;simp only[ak] at hc;simp only[ae] at hg;subst hg;exact .whole (au hc.1) (au hc.2) (yH d hq hy g).2
   ·cases hq
  ·split at hg
   ·rename_i z1 m1 h1;simp only[ae,ay] at hg;obtain⟨rfl,rfl⟩:=hg;obtain⟨fs,q1,q2,q3,q4,q5⟩:=oM d hy n exF (xU v) off sz z1 m1 h1 g;exact⟨fs,q1,q2,q3,by rw[encC,encC,zY,q4,wy],q5⟩
   ·cases hg
 |n+1,.sm,v,off,sz,z,m,hg,g=>by
  simp only[dU] at hg;split at hg
  ·rename_i q hq;split at hq
   ·rename_i hc;simp only[ak] at hc;simp only[ae] at hg;subst hg;exact .whole (au hc.1) (au hc.2) (yH d hq hy g).2
   ·cases hq
  ·split at hg
   ·rename_i z1 m1 h1;simp only[ae,ay] at hg;obtain⟨rfl,rfl⟩:=hg;obtain⟨fs,q1,q2,q3,q4,q5⟩:=oM d hy n smF (xT v) off sz z1 m1 h1 g;exact⟨fs,q1,q2,q3,by rw[encC,encC,zX,q4,wx],q5⟩
   ·cases hg
 |n+1,.int k,v,off,sz,z,m,hg,g=>by
  simp only[dU] at hg;split at hg
  ·rename_i hc;simp only[ak] at hc;exact .whole (au hc.1) (au hc.2) (pO d hg hy g).2.2.2
  ·cases hg
 |n+1,.bool,v,off,sz,z,m,hg,g=>by
  simp only[dU] at hg;split at hg
  ·rename_i hc;simp only[ak] at hc;exact .whole (au hc.1) (au hc.2) (pO d hg hy g).2.2.2
  ·cases hg
 |n+1,.str,v,off,sz,z,m,hg,g=>by
  simp only[dU] at hg;split at hg
  ·rename_i hc;simp only[ak] at hc;exact .whole (au hc.1) (au hc.2) (pO d hg hy g).2.2.2
  ·cases hg
 |n+1,.sl t,v,off,sz,z,m,hg,g=>by
  simp only[dU] at hg;split at hg
  ·rename_i hc;simp only[ak] at hc;exact .whole (au hc.1) (au hc.2) (pO d hg hy g).2.2.2
  ·cases hg
theorem beqVs_ok:∀ {a b:List Value},beqVs a b=true→a=b
 |[],[],_=>rfl
 |[],_::_,h=>by cases h
 |_::_,[],h=>by cases h
 |x::xs,y::ys,h=>by
  simp only[beqVs,ak] at h;rw[Fk h.1,beqVs_ok h.2]
theorem zero_ok (d:ov H H'):∀ T:Ty,eA H H' ((zeroV T).map raw) ((encC T T.zero).map .f)
 |.int k=>⟨ij.refl d _,trivial⟩
 |.bool=>⟨ij.refl d _,trivial⟩
 |.str=>⟨ij.refl d _,trivial⟩
 |.sl t=>⟨Le.nil.toH d,trivial⟩
 |.st t=>zero_ok d t
 |.pr a b=>by
  simp only[zeroV,Ty.zero,encC,fJ];exact (zero_ok d a).append (zero_ok d b)
 |.un=>trivial
 |.ex=>⟨ij.refl d _,ij.refl d _,ij.refl d _,Le.nil.toH d,trivial⟩
 |.sm=>⟨ij.refl d _,ij.refl d _,ij.refl d _,ij.refl d _,Le.nil.toH d,ij.refl d _,ij.refl d _,ij.refl d _,Le.nil.toH d,Le.nil.toH d,Le.nil.toH d,trivial⟩
theorem BS (d:ov H H') (T:Ty):∀ n,eA H H' ((repl (zeroV T) n).map .f) (((aF n T.zero).flatMap (encC T)).map .f)
 |0=>trivial
 |n+1=>by
  rw[repl,List.replicate_succ,dv,fJ,fJ];have h1:=zero_ok (H:=H) (H':=H') d T;have:((zeroV T).map .raw).map AV.f=(zeroV T).map raw:=by rw[qx];rfl
  rw[this];exact h1.append (BS d T n)
end pack
structure ib (h:THeap) (nx:Nat):Prop where
 cells:∀ id ty l,h.get id=some (.cells ty l)→gz h l=true
 low:∀ id b,h.get id=some b→id<nx
def m6 (e:TEnv) (h:THeap):Prop:=∀ t v,e.get t=some v→yP h v=true
structure fq (P:Program) (o:Oper) (still:Bool) (e:TEnv) (h:THeap) (nx:Nat) (v:TV) (rd wr:Nat) (h':THeap) (nx':Nat):Prop where
 ex:∃ f:q9,dX P o (dC e h) (bp h) f∧(∀ y,bS h' v=some y→f.val=y)∧c5 (bp h) f.wr f.nw=bp h'∧(∀ n∈f.rd,aI rd (ow n)=true)∧(∀ n∈f.wr,aI wr (ow n)=true)∧(∀ n∈f.N,nx≤ow n∧ow n<nx')
 rows:bQ h h'
 inv:ib h' nx'
 grows:nx≤nx'
 st:still=true→rd=0∧wr=0
def gI {R:Type} (P:Program) (o:Oper) (still:Bool) (e:TEnv) (h:THeap) (nx:Nat) (K:KO R) (r:R):Prop:=
 ∃ v rd wr h' nx',K v rd wr h' nx'=some r∧fq P o still e h nx v rd wr h' nx'
theorem c8 {R:Type} {b:Bool} {k:b=true→Option R} {r:R} (h:chk b k=some r):∃ hb:b=true,k hb=some r:=by
 cases b with
 |true=>exact⟨rfl,h⟩
 |false=>cases h
theorem kf {R:Type} {b:Bool} {t f:Option R} {r:R} (h:bcase b t f=some r):(b=true∧t=some r)∨(b=false∧f=some r):=by
 cases b with
 |true=>exact .inl ⟨rfl,h⟩
 |false=>exact .inr ⟨rfl,h⟩
theorem cL {α R:Type} {o:Option α} {k:α→Option R} {r:R} (h:obind o k=some r):∃ x,o=some x∧k x=some r:=by
 cases o with
 |some x=>exact⟨x,rfl,h⟩
 |none=>cases h
theorem wg {j:Int} {n:Nat} (h:aS j n=true):0≤j∧j<n∧j.toNat<n:=by
 simp only[aS,b9,bz,ak,decide_eq_true_eq] at h;omega
theorem dX.envLe {P:Program} {o:Oper} {e e2:EF} {h:HF} {f:q9} (ht:dX P o e h f) (hle:∀ t y,.tmp t∈o.op.operands→e t=some y→∃ y2,e2 t=some y2∧Le y2 y):dX P o e2 h f:=by
 intro φ E h' w a h1 h2 h3 h4 h5;refine ht φ E h' w a h1 h2 (fun t ht' y hy=>?_) h4 h5;obtain⟨y2,g1,g2⟩:=hle t y ht' hy;exact g2 _ _ _ _ (h3 t ht' y2 g1)
theorem wA (h:THeap) {v:Value} {u:TV} (hc:cst v=some u):bS h u=some (raw v)∧v.oneCell'=true∧u.isC=true:=by
 unfold cst at hc;split at hc<;>cases hc<;>exact⟨rfl,rfl,rfl⟩
theorem oo (h:THeap):∀ {z:List Value} {l:List TV},csts z=some l→ci h l=some (z.map raw)∧(∀ x∈z,x.oneCell'=true)∧allC l=true
 |[],l,hc=>by simp only[csts,ae] at hc;subst hc;exact⟨rfl,by simp,rfl⟩
 |v::r,l,hc=>by
  simp only[csts] at hc;split at hc
  ·rename_i x l' hx hl;simp only[ae] at hc;subst hc;obtain⟨h1,h2,h3⟩:=wA h hx;obtain⟨h4,h5,h6⟩:=oo h hl;refine ⟨jT h1 h4,fun y hy=>?_,by simp[allC,h3,h6]⟩;rcases bo.1 hy with rfl|hy
   ·exact h2
   ·exact h5 y hy
  ·cases hc
theorem bx {e:TEnv} {h:THeap} (hi:m6 e h) {x:Operand} {v:TV} (hx:dB e x=some v):∃ y,iK (xh e h) x=some y∧bS h v=some y:=by
 cases x with
 |tmp t=>
  simp only[dB] at hx;obtain⟨y,hy⟩:=kA h v (hi t v hx);refine ⟨y,?_,hy⟩;simp only[iK];rw[om];simp only[dC,hx,aC,hy]
 |const c=>
  simp only[dB] at hx;unfold cstA at hx;split at hx
  ·rename_i vs;split at hx
   ·rename_i h1;split at hx
    ·rename_i l hl;simp only[ae] at hx;subst hx;refine ⟨.agg (vs.toList.map raw),?_,by simp only[bS,(oo h hl).1]⟩;simp only[iK,constA,h1,if_true];rfl
    ·cases hx
   ·cases hx
  ·rename_i hn;refine ⟨raw c,?_,(wA h hx).1⟩;simp only[iK];unfold constA;split
   ·rename_i vs;exact absurd rfl (hn vs)
   ·rfl
 |func g=>
  simp only[dB,ae] at hx;subst hx;exact⟨_,rfl,rfl⟩
 |global g=>
  simp only[dB] at hx;cases hg:G g with
  |none=>rw[hg] at hx;cases hx
  |some cells=>
   rw[hg] at hx;simp only[ae] at hx;subst hx;have hcells:cells=kwCells:=by
    unfold G at hg;split at hg
    ·cases hg;rfl
    ·cases hg
   subst hcells;exact⟨_,by simp only[iK,hg];rfl,rfl⟩
theorem qc {e:TEnv} {h:THeap} (hi:m6 e h):∀ {xs:List Operand} {l:List TV},ur e xs=some l→∃ l',B7 (xh e h) xs=some l'∧ci h l=some l'
 |[],l,hx=>by simp only[ur,ae] at hx;subst hx;exact⟨[],rfl,rfl⟩
 |x::xs,l,hx=>by
  simp only[ur] at hx;split at hx
  ·rename_i y hy;split at hx
   ·rename_i ys hys;simp only[ae] at hx;subst hx;obtain⟨y',h1,h2⟩:=bx hi hy;obtain⟨l',h3,h4⟩:=qc hi hys;exact⟨y'::l',by simp only[B7,h1,h3],jT h2 h4⟩
   ·cases hx
  ·cases hx
section ops
variable {R:Type} {P:Program} {o:Oper} {e:TEnv} {h:THeap} {nx:Nat} {K:KO R} {r:R}
theorem fq.pure {s:C8} {st:Bool} (hinv:ib h nx) (hc:cE P o.op=some s) {H:Heap} (hH:H.get=bp h) {k:Nat} {y0:AV} {rdl:List Nat} (ha:da s (xh e h) H k=some ⟨y0,rdl,[],[],[]⟩) {v:TV} (hv:∀ y,bS h v=some y→Le y0 y) {rd:Nat} (hrd:∀ n∈rdl,aI rd (ow n)=true) (hst:st=true→rd=0):fq P o st e h nx v rd 0 h nx:=by
 have ht:=vF hc ha;rw[om,hH] at ht;refine ⟨?_,fun _ _ h=>h,hinv,cD _,fun hs=>⟨hst hs,rfl⟩⟩;have key:∀ y,Le y0 y→dX P o (dC e h) (bp h) ⟨y,rdl,[],nwGet [],[]⟩:=fun y hle=>
  dX.view ht (fun i hi=>by cases hi) fun h' _ _=>⟨wI.refl _,hle.toH (ov.refl _)⟩
 cases hv':bS h v with
 |none=>exact⟨_,ht,fun y hy=>by simp at hy,by simp[rI.eff,nh],hrd,by simp[rI.eff],by simp[rI.eff]⟩
 |some y=>exact⟨_,key y (hv y hv'),fun y' hy=>by simpa using hy,by simp[nh],hrd,by simp,by simp⟩
theorem gI.q {s:C8} {st:Bool} (hinv:ib h nx) (hc:cE P o.op=some s) {k:Nat} {y0:AV} (ha:∀ H:Heap,H.get=bp h→da s (xh e h) H k=rv y0) {v:TV} (hv:∀ y,bS h v=some y→Le y0 y) (hk:K v 0 0 h nx=some r):gI P o st e h nx K r:=by
 obtain⟨H,hH⟩:=fO h;exact⟨v,0,0,h,nx,hk,fq.pure hinv hc hH (ha H hH) hv (by simp) fun _=>rfl⟩
theorem cG {y0:AV} {v:TV} (hv:bS h v=some y0):∀ y,bS h v=some y→Le y0 y:=fun y hy=>by rw[hv] at hy;cases hy;exact Le.refl _
theorem FA {T:Ty} {xs:List T.den} {j:Int} (hj:aS j xs.length=true) {off sz:Nat} {ag:Bool} {u:TV} (hg:getAt 40 T (aB xs j) off sz ag=some u):
 ∃ y,bS h u=some (.f y)∧(BC.fz (xs.flatMap (encC T))).sub? (j.toNat*T.size+off) sz ag=some (.f y):=by
 obtain⟨h1,y,h2,h3,h4⟩:=nN h 40 T _ off sz ag u hg;refine ⟨y,h2,?_⟩;obtain⟨_,_,hlt⟩:=wg hj;have hx:xs[j.toNat]? =some (aB xs j):=by
  unfold aB;rw[aN,aw hlt];rfl
 obtain⟨q,hq⟩:=tW (encC_length T) xs j.toNat _ hx;have hlen:=dR (encC_length T) xs;have hle:(j.toNat+1)*T.size≤xs.length*T.size:=bT _ hlt;rw[eM] at hle;have hl:=encC_length T (aB xs j);cases ag with
 |false=>
  obtain⟨h5,h6⟩:=h3 rfl;subst h5;simp only[BC.sub?,BC.get];have:(xs.flatMap (encC T))[j.toNat*T.size+off]? =some y:=by
   rw[← dY,hq,bV (by omega)];exact h6
  rw[this];rfl
 |true=>
  simp only[BC.sub?];rw[if_pos (bB (by omega)),h4 rfl,←List.drop_drop,hq,s8 (by omega),s7 (by simp;omega)]
theorem FB {T:Ty} {v:T.den} {off sz:Nat} {ag:Bool} {u:TV} (hg:getAt 40 T v off sz ag=some u):
 ∃ y,bS h u=some (.f y)∧(BC.fz (encC T v)).sub? off sz ag=some (.f y):=by
 obtain⟨h1,y,h2,h3,h4⟩:=nN h 40 T _ off sz ag u hg;refine ⟨y,h2,?_⟩;have hl:=encC_length T v;cases ag with
 |false=>
  obtain⟨h5,h6⟩:=h3 rfl;subst h5;simp only[BC.sub?,BC.get,h6];rfl
 |true=>
  simp only[BC.sub?];rw[if_pos (bB (by omega)),h4 rfl]
theorem BO {l:List TV} {l':List AV} (hl:ci h l=some l') {off sz:Nat} {ag:Bool} {u:TV} (hs:AO l off sz ag=some u):∃ y,bS h u=some y∧(BC.mx l').sub? off sz ag=some y:=by
 cases ag with
 |false=>
  simp only[AO] at hs;split at hs
  ·rename_i h1;have h1:=au h1;subst h1;obtain⟨y,h2,h3⟩:=hZ hl off u hs;exact⟨y,h3,by simp only[BC.sub?,BC.get,h2]⟩
  ·cases hs
 |true=>
  simp only[AO] at hs;split at hs
  ·rename_i h1;simp only[ae] at hs;subst hs;have h2:=tY sz (t7 off hl);exact⟨.agg ((l'.drop off).take sz),by simp only[bS,h2],by simp only[BC.sub?,fk hl,h1,if_true]⟩
  ·cases hs
theorem zE {v:TV} {n:Nat} {y:AV} (hn:lenOf h v=some n) (hy:bS h v=some y):y.slen=some n:=by
 unfold lenOf at hn;split at hn
 ·simp only[ae] at hn;subst hn;simp only[bS,ae] at hy;subst hy;rfl
 ·simp only[ae] at hn;subst hn;simp only[bS,ae] at hy;subst hy;rfl
 ·simp only[ae] at hn;subst hn;simp only[bS,ae] at hy;subst hy;rfl
 ·rename_i id;simp only[bS] at hy;cases hr:dg h id with
  |none=>rw[hr] at hn;cases hn
  |some q=>
   obtain⟨p,sz,m⟩:=q;rw[hr] at hn hy;simp only[ae] at hn hy;subst hn;subst hy;unfold du;split
   ·rename_i hp;simp only[ak,beq_iff_eq] at hp;rw[hp.2];rfl
   ·rfl
 ·simp only[ae] at hn;subst hn;simp only[bS,ae] at hy;subst hy;rfl
 ·cases hn
theorem sU (a b:List UInt8):mn ⟨a.toArray⟩ ⟨b.toArray⟩=decide (a=b):=by
 unfold mn;simp only[Bool.beq_eq_decide_eq]
theorem Fj {op:BinOp} {u v:TV} {q:TV→Option R} (hk:Gi op u v q=some r):∃ a b c t,bS h u=some (raw a)∧bS h v=some (raw b)∧nU op a b=some c∧bS h t=some (raw c)∧q t=some r:=by
 unfold Gi at hk;split at hk
 ·rename_i k a k' b;split at hk
  ·rename_i hkk;have hkk':k=k':=by simpa using hkk
   subst hkk';refine ⟨.int k a,.int k b,?_⟩;cases op<;>simp only[reduceCtorEq] at hk<;>first
    |cases hk
    |exact⟨_,_,rfl,rfl,(by simp only[nU,beq_self_eq_true,if_true]<;>rfl),rfl,hk⟩
    |(obtain ⟨hb,hk⟩:=c8 hk
      have hb':(b==(0:Int))=false:=by simpa using hb
      exact⟨_,_,rfl,rfl,by simp only[nU,beq_self_eq_true,if_true,hb',bW,if_false],rfl,hk⟩)
  ·cases hk
 ·rename_i a b;refine ⟨.string ⟨gt a⟩,.string ⟨gt b⟩,?_⟩;split at hk
  ·exact⟨.bool (decide ((a:List UInt8)=b)),_,rfl,rfl,by simp only[nU,sU],rfl,hk⟩
  ·exact⟨.bool (!decide ((a:List UInt8)=b)),_,rfl,rfl,by simp only[nU,sU],rfl,hk⟩
  ·cases hk
 ·cases hk
theorem Ce {T:Ty}:∀ {l:List TV} {xs:List T.den},pW T l=some xs→∀ k,k<l.length→l[k]? =some (.f T (xs.getD k T.zero))
 |[],xs,_,k,hk=>by simp at hk
 |.f S v::r,xs,ha,k,hk=>by
  simp only[pW] at ha;split at ha
  ·rename_i x hx;split at ha
   ·rename_i l hl;simp only[ae] at ha;subst ha;obtain⟨es,ex⟩:=eZ hx;cases es;subst ex;cases k with
    |zero=>rfl
    |succ k=>simpa using Ce hl k (by simpa using hk)
   ·cases ha
  ·cases ha
 |.fel _ _ _ _ _::r,xs,ha,k,hk=>by simp[pW] at ha
 |.pel _ _ _ _::r,xs,ha,k,hk=>by simp[pW] at ha
 |.ptr _ _::r,xs,ha,k,hk=>by simp[pW] at ha
 |.csl _ _ _::r,xs,ha,k,hk=>by simp[pW] at ha
 |.row _::r,xs,ha,k,hk=>by simp[pW] at ha
 |.emp::r,xs,ha,k,hk=>by simp[pW] at ha
 |.nil::r,xs,ha,k,hk=>by simp[pW] at ha
 |.mp _::r,xs,ha,k,hk=>by simp[pW] at ha
 |.agg _::r,xs,ha,k,hk=>by simp[pW] at ha
 |.tup _::r,xs,ha,k,hk=>by simp[pW] at ha
 |.clo _ _::r,xs,ha,k,hk=>by simp[pW] at ha
 |.undef::r,xs,ha,k,hk=>by simp[pW] at ha
 |.np::r,xs,ha,k,hk=>by simp[pW] at ha
 |.anyb::r,xs,ha,k,hk=>by simp[pW] at ha
theorem Cd {l:List TV} {T:Ty} {xs:List T.den} (ha:arrT l=some ⟨T,xs⟩):∀ k,k<l.length→l[k]? =some (.f T (xs.getD k T.zero)):=by
 unfold arrT at ha;split at ha
 ·split at ha
  ·rename_i l1 hl;simp only[ae] at ha;cases ha;exact Ce hl
  ·cases ha
 ·cases ha
variable (hinv:ib h nx) (hi:m6 e h)
include hinv hi
theorem K_mv {con:FuncId→Option bR} {bH:TypeId→Option Ty} {x:Operand} {st:Bool} (hc:cE P o.op=some (.mv x)) (hk:cN con bH (.op (.mv x)) e h nx K=some r):gI P o st e h nx K r:=by
 simp only[cN] at hk;split at hk
 ·rename_i v hv;obtain⟨y,h1,h2⟩:=bx hi hv;exact gI.q (k:=0) hinv hc (fun H _=>by simp only[da,h1]) (cG h2) hk
 ·cases hk
theorem GG {con:FuncId→Option bR} {bH:TypeId→Option Ty} {c a b:Operand} {st:Bool} (hc:cE P o.op=some (.pick c a b)) (hk:cN con bH (.op (.pick c a b)) e h nx K=some r):gI P o st e h nx K r:=by
 simp only[cN] at hk;split at hk
 ·rename_i t hv;obtain⟨y,h1,h2⟩:=bx hi hv;simp only[bS,ae] at h2;subst h2;rcases kf hk with ⟨rfl,hk2⟩|⟨rfl,hk2⟩
  ·split at hk2
   ·rename_i v hv2;obtain⟨y2,h3,h4⟩:=bx hi hv2;exact gI.q (k:=0) hinv hc (fun H _=>by simp only[da,h1,enc1,if_true,h3]) (cG h4) hk2
   ·cases hk2
  ·split at hk2
   ·rename_i v hv2;obtain⟨y2,h3,h4⟩:=bx hi hv2;exact gI.q (k:=0) hinv hc (fun H _=>by simp only[da,h1,enc1,h3,bW,if_false]) (cG h4) hk2
   ·cases hk2
 ·cases hk
theorem GI {con:FuncId→Option bR} {bH:TypeId→Option Ty} {x:Operand} {st:Bool} (hc:cE P o.op=some (.nilc x)) (hk:cN con bH (.op (.nilc x)) e h nx K=some r):gI P o st e h nx K r:=by
 simp only[cN] at hk;split at hk;all_goals first
  |(rename_i hv
    obtain⟨y,h1,h2⟩:=bx hi hv;have h2':=h2;simp only[bS,ae] at h2;subst h2;exact gI.q (k:=0) hinv hc (fun H _=>by simp only[da,h1]) (cG h2') hk)
  |skip
 ·rename_i g cap hv;obtain⟨y,h1,h2⟩:=bx hi hv;have h2':=h2;simp only[bS] at h2;split at h2
  ·simp only[ae] at h2;subst h2;exact gI.q (k:=0) hinv hc (fun H _=>by simp only[da,h1]) (cG h2') hk
  ·cases h2
 ·cases hk
theorem HG {con:FuncId→Option bR} {bH:TypeId→Option Ty} {x:Operand} {st:Bool} (hc:cE P o.op=some (.not x)) (hk:cN con bH (.op (.not x)) e h nx K=some r):gI P o st e h nx K r:=by
 simp only[cN] at hk;split at hk
 ·rename_i b hv;obtain⟨y,h1,h2⟩:=bx hi hv;simp only[bS,ae] at h2;subst h2;exact gI.q (k:=0) hinv hc (fun H _=>by simp only[da,h1,enc1];rfl) (cG rfl) hk
 ·cases hk
theorem GV {con:FuncId→Option bR} {bH:TypeId→Option Ty} {k:IntKind} {x:Operand} {st:Bool} (hc:cE P o.op=some (.conv k x)) (hk:cN con bH (.op (.conv k x)) e h nx K=some r):gI P o st e h nx K r:=by
 simp only[cN] at hk;split at hk
 ·rename_i k' n hv;obtain⟨y,h1,h2⟩:=bx hi hv;simp only[bS,ae] at h2;subst h2;exact gI.q (k:=0) hinv hc (fun H _=>by simp only[da,h1,enc1];rfl) (cG rfl) hk
 ·cases hk
theorem HW {con:FuncId→Option bR} {bH:TypeId→Option Ty} {neg:Bool} {x y:Operand} {st:Bool} (hc:cE P o.op=some (.eqb neg x y)) (hk:cN con bH (.op (.eqb neg x y)) e h nx K=some r):gI P o st e h nx K r:=by
 simp only[cN] at hk;split at hk
 ·rename_i a b hv hv2;obtain⟨y,h1,h2⟩:=bx hi hv;obtain⟨y2,h3,h4⟩:=bx hi hv2;simp only[bS,ae] at h2 h4;subst h2;subst h4;exact gI.q (k:=0) hinv hc (fun H _=>by simp only[da,h1,h3,enc1];rfl) (cG rfl) hk
 ·cases hk
theorem Ft {con:FuncId→Option bR} {bH:TypeId→Option Ty} {neg:Bool} {x:Operand} {st:Bool} (hc:cE P o.op=some (.isnil neg x)) (hk:cN con bH (.op (.isnil neg x)) e h nx K=some r):gI P o st e h nx K r:=by
 simp only[cN] at hk;split at hk
 ·rename_i hv;obtain⟨y,h1,h2⟩:=bx hi hv;simp only[bS,ae] at h2;subst h2;exact gI.q (k:=0) hinv hc (fun H _=>by simp only[da,h1,isNilSl,if_true];rfl) (cG rfl) hk
 ·rename_i hv;obtain⟨y,h1,h2⟩:=bx hi hv;simp only[bS,ae] at h2;subst h2;exact gI.q (k:=0) hinv hc (fun H _=>by simp only[da,h1]) (cG rfl) hk
 ·rename_i T xs hv;obtain⟨y,h1,h2⟩:=bx hi hv;simp only[bS,ae] at h2;subst h2;rcases kf hk with ⟨h3,hk2⟩|⟨h3,hk2⟩
  ·have h3:=au h3;exact gI.q (k:=0) (y0:=.anyb) hinv hc (fun H _=>by simp only[da,h1,enc1,h3]) (cG rfl) hk2
  ·have h3:=ec h3;obtain⟨n,hn⟩:=Nat.exists_eq_succ_of_ne_zero h3;exact gI.q (k:=0) (y0:=raw (.bool neg)) hinv hc (fun H _=>by simp only[da,h1,enc1,hn]) (cG rfl) hk2
 ·rename_i id hv;split at hk
  ·rename_i ty T xs hb;obtain⟨y,h1,h2⟩:=bx hi hv;simp only[bS,dg,hb,du,iN,bW,if_false,ae] at h2;subst h2;exact gI.q (k:=0) (y0:=raw (.bool neg)) hinv hc (fun H _=>by simp only[da,h1]) (cG rfl) hk
  ·cases hk
 ·cases hk
theorem HL {con:FuncId→Option bR} {bH:TypeId→Option Ty} {x y:Operand} {st:Bool} (hc:cE P o.op=some (.max x y)) (hk:cN con bH (.op (.max x y)) e h nx K=some r):gI P o st e h nx K r:=by
 simp only[cN] at hk;split at hk
 ·rename_i k a k' b hv hv2;obtain⟨y,h1,h2⟩:=bx hi hv;obtain⟨y2,h3,h4⟩:=bx hi hv2;simp only[bS,ae] at h2 h4;subst h2;subst h4;split at hk
  ·exact gI.q (k:=0) hinv hc (fun H _=>by simp only[da,h1,h3,enc1];rfl) (cG rfl) hk
  ·cases hk
 ·cases hk
theorem HK {con:FuncId→Option bR} {bH:TypeId→Option Ty} {x y:Operand} {st:Bool} (hc:cE P o.op=some (.min x y)) (hk:cN con bH (.op (.min x y)) e h nx K=some r):gI P o st e h nx K r:=by
 simp only[cN] at hk;split at hk
 ·rename_i k a k' b hv hv2;obtain⟨y,h1,h2⟩:=bx hi hv;obtain⟨y2,h3,h4⟩:=bx hi hv2;simp only[bS,ae] at h2 h4;subst h2;subst h4;split at hk
  ·exact gI.q (k:=0) hinv hc (fun H _=>by simp only[da,h1,h3,enc1];rfl) (cG rfl) hk
  ·cases hk
 ·cases hk
theorem HR {con:FuncId→Option bR} {bH:TypeId→Option Ty} {off:Nat} {x:Operand} {st:Bool} (hc:cE P o.op=some (.fad off x)) (hk:cN con bH (.op (.fad off x)) e h nx K=some r):gI P o st e h nx K r:=by
 simp only[cN] at hk;split at hk;all_goals first
  |(rename_i hv
    obtain⟨y,h1,h2⟩:=bx hi hv;simp only[bS,ae] at h2;subst h2;exact gI.q (k:=0) hinv hc (fun H _=>by simp only[da,h1,pi]) (cG rfl) hk)
  |cases hk
theorem HQ {con:FuncId→Option bR} {bH:TypeId→Option Ty} {off sz:Nat} {ag:Bool} {x:Operand} {st:Bool} (hc:cE P o.op=some (.fld off sz ag x)) (hk:cN con bH (.op (.fld off sz ag x)) e h nx K=some r):gI P o st e h nx K r:=by
 simp only[cN] at hk;split at hk
 ·rename_i l hv;split at hk
  ·rename_i u hs;obtain⟨y,h1,h2⟩:=bx hi hv;simp only[bS] at h2;split at h2
   ·rename_i l' hl;simp only[ae] at h2;subst h2;obtain⟨y,h3,h4⟩:=BO hl hs;exact gI.q (k:=0) hinv hc (fun H _=>by simp only[da,h1,h4]) (cG h3) hk
   ·cases h2
  ·cases hk
 ·rename_i T v hv;split at hk
  ·cases hk
  ·rename_i ho;split at hk
   ·rename_i u hs;obtain⟨y,h1,h2⟩:=bx hi hv;simp only[bS,ae] at h2;rw[enc1_agg T v (by simpa using ho)] at h2;subst h2;obtain⟨y,h3,h4⟩:=FB (h:=h) hs;exact gI.q (k:=0) hinv hc (fun H _=>by simp only[da,h1,h4]) (cG h3) hk
   ·cases hk
 ·cases hk
theorem HO {con:FuncId→Option bR} {bH:TypeId→Option Ty} {n sz:Nat} {ag:Bool} {x i:Operand} {st:Bool} (hc:cE P o.op=some (.idx n sz ag x i)) (hk:cN con bH (.op (.idx n sz ag x i)) e h nx K=some r):gI P o st e h nx K r:=by
 simp only[cN] at hk;split at hk
 ·rename_i v0 k j hv hv2;split at hk
  ·rename_i T xs hA;obtain⟨hb,hk⟩:=c8 hk;cases ag with
   |true=>cases hA
   |false=>
   simp only[G9] at hA;split at hA
   ·rename_i hsz;simp only[ak,cV] at hsz;have hsz1:=au hsz.1;subst hsz1;split at hA
    ·rename_i l hl;split at hA
     ·rename_i hn;have hn:=au hn;obtain⟨y,h1,h2⟩:=bx hi hv;obtain⟨y2,h5,h6⟩:=bx hi hv2;simp only[bS,ae] at h6;subst h6;have hj:j.toNat<l.length:=by
       simp only[ak,b9,bz,decide_eq_true_eq] at hb;omega
      have hg:=Cd hA j.toNat hj;obtain⟨he,_⟩:=xE hl h2;obtain⟨z,hz1,hz2⟩:=hZ he j.toNat _ hg;have hz2:bS h (.f T (aB xs j))=some z:=hz2;refine gI.q (k:=0) hinv hc (fun H _=>?_) (cG hz2) hk;cases v0 with
      |agg q=>
       simp only[bS] at h2;split at h2
       ·rename_i l' _;simp only[ae] at h2;subst h2;have hz1:l'[j.toNat]? =some z:=hz1;simp only[da,h1,h5,enc1,hb,if_true,BC.sub?,BC.get,Nat.mul_one,hz1]
       ·cases h2
      |f S u=>
       have ho:S.one=false:=by
        have:=hsz.2;simpa[TV.isC] using this
       simp only[bS,ae] at h2;rw[enc1_agg S u ho] at h2;subst h2;have hz1:((encC S u).map AV.f)[j.toNat]? =some z:=hz1;rw[aY] at hz1;simp only[da,h1,h5,enc1,hb,if_true,BC.sub?,BC.get,Nat.mul_one,hz1]
      |_=>simp[TV.cs,TV.isC] at hl hsz
     ·cases hA
    ·cases hA
   ·cases hA
  ·split at hk
   ·rename_i l;obtain⟨hb,hk⟩:=c8 hk;split at hk
    ·rename_i u hs;obtain⟨y,h1,h2⟩:=bx hi hv;obtain⟨y2,h5,h6⟩:=bx hi hv2;simp only[bS,ae] at h6;subst h6;simp only[bS] at h2;split at h2
     ·rename_i l' hl;simp only[ae] at h2;subst h2;obtain⟨y,h3,h4⟩:=BO hl hs;exact gI.q (k:=0) hinv hc (fun H _=>by simp only[da,h1,h5,enc1,hb,if_true,h4]) (cG h3) hk
     ·cases h2
    ·cases hk
   ·rename_i T v _;split at hk
    ·cases hk
    ·rename_i ho;obtain⟨hb,hk⟩:=c8 hk;split at hk
     ·rename_i u hs;obtain⟨y,h1,h2⟩:=bx hi hv;obtain⟨y2,h5,h6⟩:=bx hi hv2;simp only[bS,ae] at h6 h2;subst h6;rw[enc1_agg T v (by simpa using ho)] at h2;subst h2;obtain⟨y,h3,h4⟩:=FB (h:=h) hs;exact gI.q (k:=0) hinv hc (fun H _=>by simp only[da,h1,h5,enc1,hb,if_true,h4]) (cG h3) hk
     ·cases hk
   ·cases hk
 ·cases hk
theorem GR {con:FuncId→Option bR} {bH:TypeId→Option Ty} {n sz:Nat} {x i:Operand} {st:Bool} (hc:cE P o.op=some (.iada n sz x i)) (hk:cN con bH (.op (.iada n sz x i)) e h nx K=some r):gI P o st e h nx K r:=by
 simp only[cN] at hk;split at hk
 ·rename_i id off k j hv hv2;obtain⟨y,h1,h2⟩:=bx hi hv;obtain⟨y2,h5,h6⟩:=bx hi hv2;simp only[bS,ae] at h6 h2;subst h6;subst h2;split at hk
  ·obtain⟨hb,hk⟩:=c8 hk;exact gI.q (k:=0) (y0:=.ptr (nm id) (off+j.toNat*sz)) hinv hc (fun H _=>by simp only[da,h1,h5,enc1,hb,if_true]) (cG (by simp only[bS];rw[Nat.add_comm])) hk
  ·obtain⟨hb,hk⟩:=c8 hk;exact gI.q (k:=0) hinv hc (fun H _=>by simp only[da,h1,h5,enc1,hb,if_true]) (cG rfl) hk
 ·cases hk
theorem HU {con:FuncId→Option bR} {bH:TypeId→Option Ty} {i:Nat} {x:Operand} {st:Bool} (hc:cE P o.op=some (.ext x i)) (hk:cN con bH (.op (.ext x i)) e h nx K=some r):gI P o st e h nx K r:=by
 simp only[cN] at hk;split at hk
 ·rename_i l hv;split at hk
  ·rename_i u hs;obtain⟨y,h1,h2⟩:=bx hi hv;simp only[bS] at h2;split at h2
   ·rename_i l' hl;simp only[ae] at h2;subst h2;obtain⟨y,h3,h4⟩:=hZ hl i u hs;exact gI.q (k:=0) hinv hc (fun H _=>by simp only[da,h1,h3]) (cG h4) hk
   ·cases h2
  ·cases hk
 ·cases hk
theorem HN {con:FuncId→Option bR} {bH:TypeId→Option Ty} {x:Operand} {st:Bool} (hc:cE P o.op=some (.len x)) (hk:cN con bH (.op (.len x)) e h nx K=some r):gI P o st e h nx K r:=by
 simp only[cN] at hk;split at hk
 ·rename_i v hv;split at hk
  ·rename_i n hn;obtain⟨y,h1,h2⟩:=bx hi hv;have h3:=zE hn h2;exact gI.q (k:=0) hinv hc (fun H _=>by simp only[da,h1,h3];rfl) (cG rfl) hk
  ·cases hk
 ·cases hk
theorem GO {con:FuncId→Option bR} {bH:TypeId→Option Ty} {x:Operand} {st:Bool} (hc:cE P o.op=some (.lens x)) (hk:cN con bH (.op (.lens x)) e h nx K=some r):gI P o st e h nx K r:=by
 simp only[cN] at hk;split at hk
 ·rename_i s hv;obtain⟨y,h1,h2⟩:=bx hi hv;simp only[bS,ae] at h2;subst h2;exact gI.q (k:=0) hinv hc (fun H _=>by simp only[da,h1,enc1];rfl) (cG rfl) hk
 ·cases hk
theorem GF {con:FuncId→Option bR} {bH:TypeId→Option Ty} {x i:Operand} {st:Bool} (hc:cE P o.op=some (.sidx x i)) (hk:cN con bH (.op (.sidx x i)) e h nx K=some r):gI P o st e h nx K r:=by
 simp only[cN] at hk;split at hk
 ·rename_i s k j hv hv2;obtain⟨hj,hk⟩:=c8 hk;obtain⟨y,h1,h2⟩:=bx hi hv;obtain⟨y2,h3,h4⟩:=bx hi hv2;simp only[bS,ae] at h2 h4;subst h2;subst h4;obtain⟨j0,j1,j2⟩:=wg hj;have e1:b9 0 j=true:=by simp[b9,j0]
  have e2:(⟨gt s⟩:ByteArray).data.toList[j.toNat]? =some (List.getD s j.toNat 0):=by
   show s[j.toNat]? =_;rw[aN,aw j2];rfl
  exact gI.q (k:=0) (y0:=raw (.int .u8 (ah (List.getD s j.toNat 0).toNat))) hinv hc (fun H _=>by simp only[da,h1,h3,enc1,e1,if_true,e2];rfl) (cG rfl) hk
 ·cases hk
theorem HP {con:FuncId→Option bR} {bH:TypeId→Option Ty} {sz:Nat} {x i:Operand} {st:Bool} (hc:cE P o.op=some (.iad sz x i)) (hk:cN con bH (.op (.iad sz x i)) e h nx K=some r):gI P o st e h nx K r:=by
 simp only[cN] at hk;split at hk
 ·rename_i id k j hv hv2;split at hk
  ·rename_i ty p T xs hb;split at hk
   ·rename_i hs;have hs:=au hs;obtain⟨hj,hk⟩:=c8 hk;obtain⟨y,h1,h2⟩:=bx hi hv;obtain⟨y2,h3,h4⟩:=bx hi hv2;simp only[bS,ae] at h4;subst h4;obtain⟨j0,j1,j2⟩:=wg hj;have hne:¬((p&&xs.length==0)=true):=by
     simp only[ak,beq_iff_eq];omega
    simp only[bS,dg,hb,du,if_neg hne,ae] at h2;subst h2;have hc1:(T.size==sz&&b9 0 j&&bz j xs.length)=true:=by
     simp only[aS,ak] at hj;simp[hs,hj.1,hj.2]
    exact gI.q (k:=0) hinv hc (fun H _=>by simp only[da,h1,h3,enc1,hc1,if_true,cP]) (cG rfl) hk
   ·cases hk
  ·cases hk
 ·rename_i T xs k j hv hv2;split at hk
  ·rename_i hs;have hs:=au hs;obtain⟨hj,hk⟩:=c8 hk;obtain⟨y,h1,h2⟩:=bx hi hv;obtain⟨y2,h3,h4⟩:=bx hi hv2;simp only[bS,ae] at h4 h2;subst h4;subst h2;have hj':(b9 0 j&&bz j (aa xs))=true:=hj;exact gI.q (k:=0) hinv hc (fun H _=>by simp only[da,h1,h3,enc1,hj',if_true,cP,hs]) (cG rfl) hk
  ·cases hk
 ·rename_i id sz' n k j hv hv2;split at hk
  ·rename_i hs;have hs:=au hs;subst hs;obtain⟨hj,hk⟩:=c8 hk;obtain⟨y,h1,h2⟩:=bx hi hv;obtain⟨y2,h3,h4⟩:=bx hi hv2;simp only[bS,ae] at h4 h2;subst h4;subst h2;have hj':(sz'==sz'&&b9 0 j&&bz j n)=true:=by simp only[ak] at hj ⊢;exact⟨⟨beq_self_eq_true _,hj.1⟩,hj.2⟩
   exact gI.q (k:=0) hinv hc (fun H _=>by simp only[da,h1,h3,enc1,hj',if_true]) (cG rfl) hk
  ·cases hk
 ·cases hk
theorem HJ {con:FuncId→Option bR} {bH:TypeId→Option Ty} {f:FuncId} {caps:List Operand} {st:Bool} (hc:cE P o.op=some (.mkf f caps)) (hk:cN con bH (.op (.mkf f caps)) e h nx K=some r):gI P o st e h nx K r:=by
 simp only[cN] at hk;split at hk
 ·rename_i l hv;obtain⟨l',h1,h2⟩:=qc hi hv;exact gI.q (k:=0) hinv hc (y0:=.clo f l') (fun H _=>by simp only[da,h1]) (cG (by simp only[bS,h2])) hk
 ·cases hk
theorem HZ {con:FuncId→Option bR} {bH:TypeId→Option Ty} {op:BinOp} {x y:Operand} {st:Bool} (hc:cE P o.op=some (.bin op x y)) (hk:cN con bH (.op (.bin op x y)) e h nx K=some r):gI P o st e h nx K r:=by
 simp only[cN] at hk;split at hk
 ·rename_i u v hv hv2;obtain⟨a,b,c,t,h1,h2,h3,h4,h5⟩:=Fj (h:=h) hk;obtain⟨y,g1,g2⟩:=bx hi hv;obtain⟨y2,g3,g4⟩:=bx hi hv2;rw[h1] at g2;cases g2;rw[h2] at g4;cases g4;simp only[raw] at g1 g3;exact gI.q (k:=0) hinv hc (fun H _=>by simp only[da,g1,g3,h3]) (cG h4) h5
 ·cases hk
end ops
def rowB:ey→Option (Bool×Nat×Nat)
 |.rows _ p T xs=>some (p,T.size,xs.length)
 |.dead p sz n=>some (p,sz,n)
 |_=>none
theorem bF (h:THeap) (i:Nat):dg h i=(h.get i).bind rowB:=by
 unfold dg;cases h.get i with
 |none=>rfl
 |some b=>cases b<;>rfl
theorem bQ.refl (h:THeap):bQ h h:=fun _ _ h=>h
theorem bQ.trans {a b c:THeap} (h1:bQ a b) (h2:bQ b c):bQ a c:=fun i r h=>h2 i r (h1 i r h)
theorem bQ.set {h:THeap} {i:Nat} {b:ey} (hb:∀ r,dg h i=some r→rowB b=some r):bQ h (h.set i (some b)):=fun j r hj=>by
 rw[bF,PT.get_set];by_cases e:j=i
 ·subst e;rw[if_pos rfl];exact hb r hj
 ·rw[if_neg e,←bF];exact hj
theorem xo {b:ey} {r:Bool×Nat×Nat} (h:rowB b=some r):rowB (killB b)=some r:=by cases b<;>first|exact h|cases h
theorem eR (m:Nat) (h:THeap) (i:Nat):(c7 m h).get i=if aI m i then (h.get i).map killB else h.get i:=by
 unfold c7;split
 ·rename_i hm;have:=au hm;subst this;simp
 ·rw[PT.get_updI];simp only[Nat.one_mul,cP];cases h.get i with
  |none=>simp
  |some b=>simp only[bN];split<;>rfl
theorem bQ.kill (m:Nat) (h:THeap):bQ h (c7 m h):=fun i r hr=>by
 rw[bF] at hr ⊢;rw[eR];split
 ·cases hb:h.get i with
  |none=>rw[hb] at hr;cases hr
  |some b=>rw[hb] at hr;exact xo hr
 ·exact hr
theorem ib.set {h:THeap} {nx nx' i:Nat} {b:ey} (hi:ib h nx) (hr:bQ h (h.set i (some b))) (hlt:i<nx') (hle:nx≤nx') (hb:∀ ty l,b= .cells ty l→gz (h.set i (some b)) l=true):ib (h.set i (some b)) nx':=by
 refine ⟨fun j ty l hj=>?_,fun j c hj=>?_⟩
 ·rw[PT.get_set] at hj;split at hj
  ·simp only[ae] at hj;exact hb ty l hj
  ·exact eP hr l (hi.cells j ty l hj)
 ·rw[PT.get_set] at hj;split at hj
  ·rename_i e;subst e;exact hlt
  ·exact cI (hi.low j c hj) hle
theorem ib.kill {h:THeap} {nx:Nat} (hi:ib h nx) (m:Nat):ib (c7 m h) nx:=by
 refine ⟨fun j ty l hj=>?_,fun j c hj=>?_⟩
 ·rw[eR] at hj;refine eP (bQ.kill m h) l (hi.cells j ty l ?_);split at hj
  ·cases hb:h.get j with
   |none=>rw[hb] at hj;cases hj
   |some b=>rw[hb] at hj;cases b<;>simp[killB] at hj
  ·exact hj
 ·rw[eR] at hj;split at hj
  ·cases hb:h.get j with
   |none=>rw[hb] at hj;cases hj
   |some b=>exact hi.low j b hb
  ·exact hi.low j c hj
theorem wv {h h':THeap} (hr:bQ h h') {b:ey} (hb:∀ ty l,b= .cells ty l→gz h l=true):gH h' b=gH h b:=by
 cases b with
 |cells ty l=>
  obtain⟨l',hl⟩:=dx h l (hb ty l rfl);simp only[gH,hl,eS hr l l' hl]
 |_=>rfl
theorem CL {h h':THeap} {nx i:Nat} (hi:ib h nx) (hr:bQ h h') (hg:h'.get i=h.get i):bp h' (nm i)=bp h (nm i):=by
 rw[bu,bu,hg];cases hb:h.get i with
 |none=>rfl
 |some b=>exact wv hr fun ty l e=>hi.cells i ty l (by rw[hb,e])
theorem pa (h:THeap) {n:Nat} (hn:¬∃ i,n=nm i):bp h n=none:=by
 unfold bp;rw[if_neg];intro h2;exact hn ⟨n/2,by unfold nm;omega⟩
theorem gx {h h':THeap} {nx:Nat} (hi:ib h nx) (hr:bQ h h') {n:Nat} (hg:∀ i,n=nm i→h'.get i=h.get i):bp h' n=bp h n:=by
 by_cases hn:∃ i,n=nm i
 ·obtain⟨i,rfl⟩:=hn;exact CL hi hr (hg i rfl)
 ·rw[pa h hn,pa h' hn]
def uu (m:Nat):List Nat:=(Es m).map nm
theorem jb {m n:Nat}:n∈uu m↔∃ i,n=nm i∧aI m i=true:=by
 unfold uu;rw[cQ];constructor
 ·rintro⟨i,h1,rfl⟩;exact⟨i,rfl,xx.1 h1⟩
 ·rintro⟨i,rfl,h1⟩;exact⟨i,xx.2 h1,rfl⟩
theorem gQ {m i:Nat}:nm i∈uu m↔aI m i=true:=by
 rw[jb];constructor
 ·rintro⟨j,h1,h2⟩;rw[gA h1];exact h2
 ·exact fun h=>⟨i,rfl,h⟩
def cR (h:THeap) (m:Nat):Prop:=∀ i,aI m i=true→∃ ty p T xs,h.get i=some (.rows ty p T xs)
theorem cR.zero (h:THeap):cR h 0:=fun i hi=>by simp at hi
theorem cR.or {h:THeap} {a b:Nat} (ha:cR h a) (hb:cR h b):cR h (a|||b):=fun i hi=>by
 rw[bh,eO] at hi;exact hi.elim (ha i) (hb i)
theorem jg {h:THeap} {T:Ty} {v:TV} {x:T.den} {m:Nat} (ha:e9 h T v=some (x,m)):cR h m:=by
 cases v with
 |f S v=>
  simp only[e9] at ha;split at ha
  ·simp only[ae,ay] at ha;rw[← ha.2];exact cR.zero h
  ·cases ha
 |emp=>
  simp only[e9] at ha;split at ha
  ·simp only[ae,ay] at ha;rw[← ha.2];exact cR.zero h
  ·cases ha
 |nil=>
  simp only[e9] at ha;split at ha
  ·simp only[ae,ay] at ha;rw[← ha.2];exact cR.zero h
  ·cases ha
 |row id=>
  simp only[e9] at ha;split at ha
  ·rename_i ty p S xs hb;split at ha
   ·simp only[ae,ay] at ha;rw[← ha.2];intro i hi;have:=bI.1 hi;subst this;exact⟨ty,p,S,xs,hb⟩
   ·cases ha
  ·cases ha
 |fel T xs j hj off=>simp[e9] at ha
 |pel id sz j off=>simp[e9] at ha
 |ptr id off=>simp[e9] at ha
 |csl id off z=>simp[e9] at ha
 |mp id=>simp[e9] at ha
 |agg q=>simp[e9] at ha
 |tup q=>simp[e9] at ha
 |clo f q=>simp[e9] at ha
 |undef=>simp[e9] at ha
 |np=>simp[e9] at ha
 |anyb=>simp[e9] at ha
theorem oa {h:THeap}:∀ (n:Nat) (T:Ty) (l:List TV) (x:T.den) (m:Nat) (r:List TV),c9 h n T l=some (x,m,r)→cR h m
 |0,_,_,_,_,_,hp=>by simp[c9] at hp
 |n+1,.st t,l,x,m,r,hp=>oa n t l x m r hp
 |n+1,.pr a b,l,x,m,r,hp=>by
  simp only[c9] at hp;split at hp
  ·rename_i x1 m1 r1 h1;split at hp
   ·rename_i x2 m2 r2 h2;simp only[ae,ay] at hp;obtain⟨_,rfl,_⟩:=hp;exact (oa n a l x1 m1 r1 h1).or (oa n b r1 x2 m2 r2 h2)
   ·cases hp
  ·cases hp
 |n+1,.un,l,x,m,r,hp=>by
  simp only[c9,ae,ay] at hp;obtain⟨_,rfl,_⟩:=hp;exact cR.zero h
 |n+1,.ex,l,x,m,r,hp=>by
  simp only[c9] at hp;split at hp
  ·rename_i x1 m1 r1 h1;simp only[ae,ay] at hp;obtain⟨_,rfl,_⟩:=hp;exact oa n exF l x1 m1 r1 h1
  ·cases hp
 |n+1,.sm,l,x,m,r,hp=>by
  simp only[c9] at hp;split at hp
  ·rename_i x1 m1 r1 h1;simp only[ae,ay] at hp;obtain⟨_,rfl,_⟩:=hp;exact oa n smF l x1 m1 r1 h1
  ·cases hp
 |n+1,.int k,l,x,m,r,hp=>by
  simp only[c9] at hp;split at hp
  ·split at hp
   ·rename_i x1 m1 h1;simp only[ae,ay] at hp;obtain⟨_,rfl,_⟩:=hp;exact jg h1
   ·cases hp
  ·cases hp
 |n+1,.bool,l,x,m,r,hp=>by
  simp only[c9] at hp;split at hp
  ·split at hp
   ·rename_i x1 m1 h1;simp only[ae,ay] at hp;obtain⟨_,rfl,_⟩:=hp;exact jg h1
   ·cases hp
  ·cases hp
 |n+1,.str,l,x,m,r,hp=>by
  simp only[c9] at hp;split at hp
  ·split at hp
   ·rename_i x1 m1 h1;simp only[ae,ay] at hp;obtain⟨_,rfl,_⟩:=hp;exact jg h1
   ·cases hp
  ·cases hp
 |n+1,.sl t,l,x,m,r,hp=>by
  simp only[c9] at hp;split at hp
  ·split at hp
   ·rename_i x1 m1 h1;simp only[ae,ay] at hp;obtain⟨_,rfl,_⟩:=hp;exact jg h1
   ·cases hp
  ·cases hp
theorem Cc {h:THeap} {T:Ty} {v:TV} {x:T.den} {m:Nat} (ha:tb h T v=some (x,m)):cR h m:=by
 cases v with
 |agg l=>
  simp only[tb] at ha;split at ha
  ·cases ha
  ·split at ha
   ·rename_i x1 m1 h1;simp only[ae,ay] at ha;obtain⟨_,rfl⟩:=ha;exact oa 40 T l x1 m1 [] h1
   ·cases ha
 |f S v=>exact jg (v:=.f S v) ha
 |fel T xs j hj off=>exact jg (v:=.fel T xs j hj off) ha
 |pel id sz j off=>exact jg (v:=.pel id sz j off) ha
 |ptr id off=>exact jg (v:=.ptr id off) ha
 |csl id off z=>exact jg (v:=.csl id off z) ha
 |row id=>exact jg (v:=.row id) ha
 |emp=>exact jg (v:=.emp) ha
 |nil=>exact jg (v:=.nil) ha
 |mp id=>exact jg (v:=.mp id) ha
 |tup q=>exact jg (v:=.tup q) ha
 |clo g q=>exact jg (v:=.clo g q) ha
 |undef=>exact jg (v:=.undef) ha
 |np=>exact jg (v:=.np) ha
 |anyb=>exact jg (v:=.anyb) ha
theorem yd {h:THeap} {T:Ty}:∀ (n:Nat) (l:List TV) (xs:List T.den) (m:Nat),qa h T n l=some (xs,m)→cR h m
 |0,[],xs,m,hp=>by simp only[qa,ae,ay] at hp;rw[← hp.2];exact cR.zero h
 |0,_::_,xs,m,hp=>by simp[qa] at hp
 |n+1,l,xs,m,hp=>by
  simp only[qa] at hp;split at hp
  ·rename_i x1 m1 r1 h1;split at hp
   ·rename_i x2 m2 h2;simp only[ae,ay] at hp;obtain⟨_,rfl⟩:=hp;exact (oa 40 T l x1 m1 r1 h1).or (yd n r1 x2 m2 h2)
   ·cases hp
  ·cases hp
theorem qC {h:THeap} {u:TV}:∀ (n:Nat) (T:Ty) (v:T.den) (off sz:Nat) (z:T.den) (m:Nat),dU h u n T v off sz=some (z,m)→cR h m
 |0,_,_,_,_,_,_,hg=>by simp[dU] at hg
 |n+1,.st t,v,off,sz,z,m,hg=>by
  simp only[dU] at hg;split at hg
  ·rename_i q hq;split at hq
   ·simp only[ae] at hg;subst hg;exact Cc hq
   ·cases hq
  ·exact qC n t v off sz z m hg
 |n+1,.pr a b,v,off,sz,z,m,hg=>by
  simp only[dU] at hg;split at hg
  ·split at hg
   ·rename_i z1 m1 h1;simp only[ae,ay] at hg;obtain⟨_,rfl⟩:=hg;exact qC n a v.1 off sz z1 m1 h1
   ·cases hg
  ·split at hg
   ·rename_i z1 m1 h1;simp only[ae,ay] at hg;obtain⟨_,rfl⟩:=hg;exact qC n b v.2 _ sz z1 m1 h1
   ·cases hg
 |n+1,.un,v,off,sz,z,m,hg=>by simp[dU] at hg
 |n+1,.ex,v,off,sz,z,m,hg=>by
  simp only[dU] at hg;split at hg
  ·rename_i q hq;split at hq
   ·simp only[ae] at hg;subst hg;exact Cc hq
   ·cases hq
  ·split at hg
   ·rename_i z1 m1 h1;simp only[ae,ay] at hg;obtain⟨_,rfl⟩:=hg;exact qC n exF _ off sz z1 m1 h1
   ·cases hg
 |n+1,.sm,v,off,sz,z,m,hg=>by
  simp only[dU] at hg;split at hg
  ·rename_i q hq;split at hq
   ·simp only[ae] at hg;subst hg;exact Cc hq
   ·cases hq
  ·split at hg
   ·rename_i z1 m1 h1;simp only[ae,ay] at hg;obtain⟨_,rfl⟩:=hg;exact qC n smF _ off sz z1 m1 h1
   ·cases hg
 |n+1,.int k,v,off,sz,z,m,hg=>by
  simp only[dU] at hg;split at hg
  ·exact jg hg
  ·cases hg
 |n+1,.bool,v,off,sz,z,m,hg=>by
  simp only[dU] at hg;split at hg
  ·exact jg hg
  ·cases hg
 |n+1,.str,v,off,sz,z,m,hg=>by
  simp only[dU] at hg;split at hg
  ·exact jg hg
  ·cases hg
 |n+1,.sl t,v,off,sz,z,m,hg=>by
  simp only[dU] at hg;split at hg
  ·exact jg hg
  ·cases hg
theorem nf {h:THeap} {m i:Nat} (hm:cR h m) (hb:aI m i=true):∃ p sz n,(c7 m h).get i=some (.dead p sz n):=by
 obtain⟨ty,p,T,xs,h1⟩:=hm i hb;exact⟨p,T.size,xs.length,by rw[eR,if_pos hb,h1];rfl⟩
section ops
variable {R:Type} {P:Program} {o:Oper} {e:TEnv} {h:THeap} {nx:Nat} {K:KO R} {r:R}
theorem eo (n:Nat) (b:ph):nwGet [(n,b)] n=some b:=by simp[nwGet]
theorem fq.mk' {s:C8} (hc:cE P o.op=some s) {H:Heap} (hH:H.get=bp h) {k:Nat} {y0:AV} {rdl wrl N:List Nat} {nw:NW} (ha:da s (xh e h) H k=some ⟨y0,rdl,wrl,nw,N⟩) {v:TV} {h':THeap} {nx' rd wr:Nat} (wr':List Nat)
 (hsub:∀ i∈wrl,i∈wr') (hsame:∀ n,n∉wr'→bp h' n=bp h n)
 (hdom:∀ i∈wr',∀ b',bp h' i=some b'→∃ b,(if i∈wrl then nwGet nw i else bp h i)=some b)
 (hblk:∀ (H1 H2:HF),ov H1 H2→(∀ i∈wrl,H1 i=nwGet nw i)→(∀ i∈wr',i∉wrl→H1 i=bp h i)→(∀ i∈wr',H2 i=bp h' i)→(∀ i∈wr',∀ b b',H1 i=some b→H2 i=some b'→gk H1 H2 b b')∧∀ y,bS h' v=some y→ij H1 H2 y0 y)
 (hrd:∀ n∈rdl,aI rd (ow n)=true) (hwr:∀ n∈wr',aI wr (ow n)=true) (hN:∀ n∈N,nx≤ow n∧ow n<nx') (hrows:bQ h h') (hinv':ib h' nx') (hg:nx≤nx'):fq P o false e h nx v rd wr h' nx':=by
 have ht:=vF hc ha;rw[om,hH] at ht;refine ⟨?_,hrows,hinv',hg,fun hs=>by cases hs⟩;have base:∀ (val:AV),(∀ y,bS h' v=some y→y=val)→(bS h' v=none→val=y0)→dX P o (dC e h) (bp h) ⟨val,rdl,wr',bp h',N⟩:=by
  intro val hval hnone;refine dX.view ht (fun i hi=>.inl (hsub i hi)) fun h1 hr1 hw1=>?_
  have hd:ov (c5 h1 wrl (nwGet nw)) (c5 h1 wr' (bp h')):=by
   intro i b hb;unfold c5 at hb ⊢;by_cases hi:i∈wr'
   ·rw[if_pos hi] at hb;obtain⟨b0,hb0⟩:=hdom i hi b hb;refine ⟨b0,?_⟩;by_cases hw:i∈wrl
    ·rw[if_pos hw] at hb0 ⊢;exact hb0
    ·rw[if_neg hw] at hb0 ⊢;rw[hw1 i hi];exact hb0
   ·rw[if_neg hi] at hb;rw[if_neg (fun hw=>hi (hsub i hw))];exact⟨b,hb⟩
  obtain⟨q1,q2⟩:=hblk _ _ hd (fun i hi=>by unfold c5;rw[if_pos hi]) (fun i hi hw=>by unfold c5;rw[if_neg hw];exact hw1 i hi) (fun i hi=>by unfold c5;rw[if_pos hi]);refine ⟨⟨hd,fun i b b' hb hb'=>?_⟩,?_⟩
  ·by_cases hi:i∈wr'
   ·exact q1 i hi b b' hb hb'
   ·unfold c5 at hb hb';rw[if_neg (fun hw=>hi (hsub i hw))] at hb;rw[if_neg hi,hb] at hb';cases hb';exact gk.refl hd b
  ·cases hv:bS h' v with
   |none=>rw[hnone hv];exact ij.refl hd _
   |some y=>rw[← hval y hv];exact q2 y hv
 have hu:c5 (bp h) wr' (bp h')=bp h':=by
  funext n;unfold c5;split
  ·rfl
  ·rename_i hn;exact (hsame n hn).symm
 cases hv:bS h' v with
 |none=>exact⟨_,base y0 (fun y hy=>by rw[hv] at hy;cases hy) (fun _=>rfl),fun y hy=>(by cases hy),hu,hrd,hwr,hN⟩
 |some y=>exact⟨_,base y (fun y' hy=>by rw[hv] at hy;cases hy;rfl) (fun hn=>by rw[hv] at hn;cases hn),fun y' hy=>by cases hy;rfl,hu,hrd,hwr,hN⟩
theorem sM (hi:m6 e h):∀ (parts:List (Nat×Nat×Operand)) (cells cs:List TV) (cells':List AV),wt cells e parts=some cs→ci h cells=some cells'→∃ cs',qm cells' (xh e h) parts=some cs'∧ci h cs=some cs'∧(allC cells=true→allC cs=true)
 |[],cells,cs,cells',hf,he=>by simp only[wt,ae] at hf;subst hf;exact⟨cells',rfl,he,id⟩
 |(off,sz,x)::rest,cells,cs,cells',hf,he=>by
  simp only[wt] at hf;split at hf
  ·rename_i v hv;split at hf
   ·rename_i q hq;split at hf
    ·rename_i hc;simp only[ak,beq_iff_eq] at hc;obtain⟨y,h1,h2⟩:=bx hi hv;obtain⟨h3,h4⟩:=xE hq h2;obtain⟨cs',h5,h6,h7⟩:=sM hi rest (splice cells off q) cs (splice cells' off y.cs) hf (ol off he h3);refine ⟨cs',?_,h6,fun ha=>h7 ?_⟩
     ·simp only[qm,h1];rw[if_pos,h5];simp only[ak,beq_iff_eq];exact⟨⟨by rw[fk h3];exact hc.1,by rw[fk he];exact hc.2⟩,mZ h3 h4⟩
     ·clear h5 h6 h7 hf;have app:∀ a b:List TV,allC a=true→allC b=true→allC (a++b)=true:=by
       intro a b ha hb;induction a with
       |nil=>exact hb
       |cons z r ih=>simp only[allC,ak,fc] at ha ⊢;exact⟨ha.1,ih ha.2⟩
      have tk:∀ (a:List TV) n,allC a=true→allC (a.take n)=true:=by
       intro a;induction a with
       |nil=>intro n h;simp[allC]
       |cons z r ih=>
        intro n h;cases n with
        |zero=>rfl
        |succ n=>simp only[allC,ak,oI] at h ⊢;exact⟨h.1,ih n h.2⟩
      have dr:∀ (a:List TV) n,allC a=true→allC (a.drop n)=true:=by
       intro a;induction a with
       |nil=>intro n h;simp[allC]
       |cons z r ih=>
        intro n h;cases n with
        |zero=>exact h
        |succ n=>simp only[allC,ak,oJ] at h ⊢;exact ih n h.2
      unfold splice;exact app _ _ (app _ _ (tk _ _ ha) h4) (dr _ _ ha)
    ·cases hf
   ·cases hf
  ·cases hf
variable (hinv:ib h nx) (hi:m6 e h)
include hinv hi
theorem Fu {con:FuncId→Option bR} {bH:TypeId→Option Ty} {z:List Value} {parts:List (Nat×Nat×Operand)} {st:Bool} (hc:cE P o.op=some (.build z parts)) (hk:cN con bH (.op (.build z parts)) e h nx K=some r):gI P o st e h nx K r:=by
 simp only[cN] at hk;split at hk
 ·rename_i l hl;split at hk
  ·rename_i cs hf;obtain⟨h1,_,_⟩:=oo h hl;obtain⟨cs',h2,h3,_⟩:=sM hi parts l cs _ hf h1;refine gI.q (k:=0) (y0:=xw cs') hinv hc (fun H _=>by simp only[da,h2]) (fun y hy=>?_) hk;simp only[bS,h3,ae] at hy;subst hy;exact DY cs'
  ·cases hk
 ·cases hk
theorem GM {con:FuncId→Option bR} {bH:TypeId→Option Ty} {sz:Nat} {ag:Bool} {x:Operand} (hc:cE P o.op=some (.load sz ag x)) (hk:cN con bH (.op (.load sz ag x)) e h nx K=some r):gI P o false e h nx K r:=by
 obtain⟨H,hH⟩:=fO h;simp only[cN] at hk;split at hk
 ·rename_i id off hv;obtain⟨y,h1,h2⟩:=bx hi hv;simp only[bS,ae] at h2;subst h2;split at hk
  ·rename_i ty l hb;split at hk
   ·rename_i v hs;obtain⟨l',hl⟩:=dx h l (hinv.cells id ty l hb);obtain⟨y,h3,h4⟩:=BO hl hs;have hg:H.get (nm id)=some ⟨ty,.mx l'⟩:=by rw[hH,bu,hb];simp only[aC,gH,hl]
    exact⟨v,gZ id,0,h,nx,hk,fq.pure (k:=0) hinv hc hH (y0:=y) (rdl:=[nm id]) (by simp only[da,h1,sV,hg,h4]) (cG h3) (fun n hn=>by simp only[aH] at hn;subst hn;rw[cU];exact bI.2 rfl) (fun h=>by cases h)⟩
   ·cases hk
  ·cases hk
 ·rename_i id sz' j off hv;obtain⟨y,h1,h2⟩:=bx hi hv;simp only[bS,ae] at h2;subst h2;split at hk
  ·rename_i ty p T xs hb;split at hk
   ·rename_i hsz;have hsz:=au hsz;obtain⟨hj,hk⟩:=c8 hk;split at hk
    ·rename_i v hs;obtain⟨y,h3,h4⟩:=FA (h:=h) hj hs;have hne:¬((p&&xs.length==0)=true):=by
      have:=wg hj;simp only[ak,beq_iff_eq];omega
     have hg:H.get (nm id)=some ⟨ty,.fz (xs.flatMap (encC T))⟩:=by rw[hH,bu,hb];simp only[aC,gH,if_neg hne]
     exact⟨v,gZ id,0,h,nx,hk,fq.pure (k:=0) hinv hc hH (y0:=.f y) (rdl:=[nm id]) (by simp only[da,h1,sV,hg,hsz,h4]) (cG h3) (fun n hn=>by simp only[aH] at hn;subst hn;rw[cU];exact bI.2 rfl) (fun h=>by cases h)⟩
    ·cases hk
   ·cases hk
  ·rename_i ty l hb;split at hk
   ·cases hk
   ·split at hk
    ·rename_i hsz;simp only[ak] at hsz;have e1:=au hsz.1.1;have e2:=au hsz.1.2;have e3:=au hsz.2;subst e1;subst e2;subst e3;split at hk
     ·rename_i T xs hA;obtain⟨hj,hk⟩:=c8 hk;obtain⟨l',hl⟩:=dx h l (hinv.cells id ty l hb);have hg:H.get (nm id)=some ⟨ty,.mx l'⟩:=by rw[hH,bu,hb];simp only[aC,gH,hl]
      have hlt:j.toNat<l.length:=by
       simp only[aS,ak,b9,bz,decide_eq_true_eq] at hj;omega
      obtain⟨z,hz1,hz2⟩:=hZ hl j.toNat _ (Cd hA j.toNat hlt);have hz2:bS h (.f T (aB xs j))=some z:=hz2;exact⟨_,gZ id,0,h,nx,hk,fq.pure (k:=0) hinv hc hH (y0:=z) (rdl:=[nm id]) (by simp only[da,h1,sV,hg,BC.sub?,BC.get,Nat.mul_one,cP,hz1]) (cG hz2) (fun n hn=>by simp only[aH] at hn;subst hn;rw[cU];exact bI.2 rfl) (fun h=>by cases h)⟩
     ·cases hk
    ·cases hk
  ·cases hk
 ·rename_i T xs j hj off hv;obtain⟨y,h1,h2⟩:=bx hi hv;simp only[bS,ae] at h2;subst h2;split at hk
  ·rename_i v hs;obtain⟨y,h3,h4⟩:=FA (h:=h) hj hs;exact gI.q (k:=0) (y0:=.f y) hinv hc (fun H _=>by simp only[da,h1,sV,h4]) (cG h3) hk
  ·cases hk
 ·cases hk
theorem Fv {con:FuncId→Option bR} {bH:TypeId→Option Ty} {ty:TypeId} {z:List Value} (hc:cE P o.op=some (.alloc ty z)) (hk:cN con bH (.op (.alloc ty z)) e h nx K=some r):gI P o false e h nx K r:=by
 have _:=hi;obtain⟨H,hH⟩:=fO h;simp only[cN] at hk;split at hk
 ·rename_i l hl;obtain⟨_,hz,_⟩:=oo h hl;have hnone:h.get nx=none:=by
   cases hb:h.get nx with
   |none=>rfl
   |some b=>have:=hinv.low nx b hb;omega
  have hr:bQ h (h.set nx (some (.cells ty l))):=bQ.set fun r hr=>by rw[bF,hnone] at hr;cases hr
  obtain⟨h1,_,_⟩:=oo (h.set nx (some (.cells ty l))) hl;have hb':bp (h.set nx (some (.cells ty l))) (nm nx)=some ⟨ty,.mx (z.map raw)⟩:=by rw[bu,PT.get_set,if_pos rfl];simp only[aC,gH,h1]
  refine ⟨_,_,_,_,_,hk,fq.mk' hc hH (k:=nm nx) (by simp only[da];rfl) [nm nx] (fun i hi=>hi) (fun n hn=>?_) (fun i hi b' _=>⟨⟨ty,.fz (z.map .raw)⟩,?_⟩) (fun H1 H2 d hw1 _ hw2=>⟨fun i hi b b' hb hb2=>?_,fun y hy=>?_⟩) (by simp) ?_ ?_ hr (hinv.set hr (by omega) (by omega) fun ty' l' he=>?_) (by omega)⟩
  ·refine gx hinv hr fun i e=>?_
   subst e;rw[PT.get_set,if_neg (fun e=>hn (by rw[e];simp))]
  ·rw[if_pos hi];simp only[aH] at hi;subst hi;simp[nwGet]
  ·simp only[aH] at hi;subst hi;rw[hw1 _ (by simp)] at hb;rw[hw2 _ (by simp),hb'] at hb2;rw[eo] at hb;simp only[ae] at hb hb2;subst hb;subst hb2;refine gk.cells rfl rfl ?_ fun x hx=>?_
   ·simp only[BC.toMx,qx];exact eA.refl d _
   ·simp only[BC.toMx] at hx;obtain⟨q,hq,rfl⟩:=cQ.1 hx;exact hz q hq
  ·simp only[bS,ae] at hy;subst hy;exact ij.refl d _
  ·intro n hn;simp only[aH] at hn;subst hn;rw[cU];exact bI.2 rfl
  ·intro n hn;simp only[aH] at hn;subst hn;rw[cU];omega
  ·cases he;exact gT _ _ _ h1
 ·cases hk
theorem HY {con:FuncId→Option bR} {bH:TypeId→Option Ty} {ty:TypeId} {x:Operand} (hc:cE P o.op=some (.box ty x)) (hk:cN con bH (.op (.box ty x)) e h nx K=some r):gI P o false e h nx K r:=by
 obtain⟨H,hH⟩:=fO h;simp only[cN] at hk;split at hk
 ·rename_i v hv;split at hk
  ·rename_i l hl;obtain⟨y,h1,h2⟩:=bx hi hv;obtain⟨h3,h4⟩:=xE hl h2;have hcell:=mZ h3 h4;have hnone:h.get nx=none:=by
    cases hb:h.get nx with
    |none=>rfl
    |some b=>have:=hinv.low nx b hb;omega
   have hr:bQ h (h.set nx (some (.cells ty l))):=bQ.set fun r hr=>by rw[bF,hnone] at hr;cases hr
   have h5:=eS hr l _ h3;have hb':bp (h.set nx (some (.cells ty l))) (nm nx)=some ⟨ty,.mx y.cs⟩:=by rw[bu,PT.get_set,if_pos rfl];simp only[aC,gH,h5]
   refine ⟨_,_,_,_,_,hk,fq.mk' hc hH (k:=nm nx) (by simp only[da,h1,hcell,if_true];rfl) [nm nx] (fun i hi=>hi) (fun n hn=>?_) (fun i hi b' _=>⟨⟨ty,ka y.cs⟩,?_⟩) (fun H1 H2 d hw1 _ hw2=>⟨fun i hi b b' hb hb2=>?_,fun y hy=>?_⟩) (by simp) ?_ ?_ hr (hinv.set hr (by omega) (by omega) fun ty' l' he=>?_) (by omega)⟩
   ·refine gx hinv hr fun i e=>?_
    subst e;rw[PT.get_set,if_neg (fun e=>hn (by rw[e];simp))]
   ·rw[if_pos hi];simp only[aH] at hi;subst hi;simp[nwGet]
   ·simp only[aH] at hi;subst hi;rw[hw1 _ (by simp)] at hb;rw[hw2 _ (by simp),hb'] at hb2;rw[eo] at hb;simp only[ae] at hb hb2;subst hb;subst hb2;obtain⟨q1,q2⟩:=iZ y.cs;refine gk.cells q2 rfl ?_ fun x hx=>?_
    ·rw[q1];exact eA.refl d _
    ·exact gV hcell x hx
   ·simp only[bS,ae] at hy;subst hy;exact ij.refl d _
   ·intro n hn;simp only[aH] at hn;subst hn;rw[cU];exact bI.2 rfl
   ·intro n hn;simp only[aH] at hn;subst hn;rw[cU];omega
   ·cases he;exact gT _ _ _ h5
  ·cases hk
 ·cases hk
theorem Fs {con:FuncId→Option bR} {bH:TypeId→Option Ty} {ty:TypeId} {sz bytes:Nat} {z:List Value} {l c:Operand} (hcm:crowM (bH ty)=none) (hc:cE P o.op=some (.mksl ty sz bytes z l c)) (hk:cN con bH (.op (.mksl ty sz bytes z l c)) e h nx K=some r):gI P o false e h nx K r:=by
 obtain⟨H,hH⟩:=fO h;simp only[cN,hcm] at hk;split at hk
 ·rename_i T k a k' b hT hv hv2;split at hk
  ·rename_i hsz;simp only[ak] at hsz;have hs:=au hsz.1;have hz:=beqVs_ok hsz.2;subst hs;subst hz;obtain⟨hck,hk⟩:=c8 hk;obtain⟨y,h1,h2⟩:=bx hi hv;obtain⟨y2,h3,h4⟩:=bx hi hv2;simp only[bS,ae] at h2 h4;subst h2;subst h4;have hnone:h.get nx=none:=by
    cases hb:h.get nx with
    |none=>rfl
    |some b=>have:=hinv.low nx b hb;omega
   generalize hB:ey.rows ty false T (aF (aM a) T.zero)=B at hk;have hr:bQ h (h.set nx (some B)):=bQ.set fun r hr=>by rw[bF,hnone] at hr;cases hr
   have hb':bp (h.set nx (some B)) (nm nx)=some ⟨ty,.fz ((aF (aM a) T.zero).flatMap (encC T))⟩:=by rw[bu,PT.get_set,if_pos rfl,←hB];simp[gH]
   refine ⟨_,_,_,_,_,hk,fq.mk' hc hH (k:=nm nx) (by simp only[da,h1,h3,enc1,hck,if_true];rfl) [nm nx] (fun i hi=>hi) (fun n hn=>?_) (fun i hi b' _=>⟨⟨ty,.fz (repl (zeroV T) (aM a))⟩,?_⟩) (fun H1 H2 d hw1 _ hw2=>⟨fun i hi b b' hb hb2=>?_,fun y hy=>?_⟩) (by simp) ?_ ?_ hr (hinv.set hr (by omega) (by omega) fun ty' l' he=>?_) (by omega)⟩
   ·refine gx hinv hr fun i e=>?_
    subst e;rw[PT.get_set,if_neg (fun e=>hn (by rw[e];simp))]
   ·rw[if_pos hi];simp only[aH] at hi;subst hi;simp[nwGet]
   ·simp only[aH] at hi;subst hi;rw[hw1 _ (by simp)] at hb;rw[hw2 _ (by simp),hb'] at hb2;rw[eo] at hb;simp only[ae] at hb hb2;subst hb;subst hb2;refine gk.cells rfl rfl (BS d T _) fun x hx=>?_
    simp only[BC.toMx] at hx;obtain⟨q,hq,rfl⟩:=cQ.1 hx;exact ne T _ q hq
   ·simp only[bS,bF,PT.get_set,if_true,←hB,aC,rowB,du,iN,bW,if_false,ae,eE] at hy;subst hy;exact ij.refl d _
   ·intro n hn;simp only[aH] at hn;subst hn;rw[cU];exact bI.2 rfl
   ·intro n hn;simp only[aH] at hn;subst hn;rw[cU];omega
   ·rw[← hB] at he;cases he
  ·cases hk
 ·cases hk
end ops
theorem tV {α:Type} {f:α→List FV} {n:Nat} (hf:∀ x,(f x).length=n):∀ (xs:List α) (j:Nat),(xs.take j).flatMap f=(xs.flatMap f).take (j*n)
 |[],j=>by simp
 |x::r,0=>by simp
 |x::r,j+1=>by
  rw[oI,dv,dv,tV hf r j,show (j+1)*n=(f x).length+j*n from by rw[hf,eM];omega,List.take_length_add_append]
theorem wq {α:Type} {f:α→List FV} {n:Nat} (hf:∀ x,(f x).length=n):∀ (xs:List α) (j:Nat),(xs.drop j).flatMap f=(xs.flatMap f).drop (j*n)
 |[],j=>by simp
 |x::r,0=>by simp
 |x::r,j+1=>by
  rw[oJ,dv,wq hf r j,show (j+1)*n=(f x).length+j*n from by rw[hf,eM];omega,List.drop_length_add_append]
section ops
variable {R:Type} {P:Program} {o:Oper} {e:TEnv} {h:THeap} {nx:Nat} {K:KO R} {r:R}
theorem ib.fresh (hinv:ib h nx):h.get nx=none:=by
 cases hb:h.get nx with
 |none=>rfl
 |some b=>have:=hinv.low nx b hb;omega
theorem cR.lt (hinv:ib h nx) {m:Nat} (hm:cR h m) {i:Nat} (hi:aI m i=true):i<nx:=by
 obtain⟨_,_,_,_,hb⟩:=hm i hi;exact hinv.low i _ hb
theorem fq.new {s:C8} (hinv:ib h nx) (hc:cE P o.op=some s) {H:Heap} (hH:H.get=bp h) {y0:AV} {rdl:List Nat} {b0:ph} (ha:da s (xh e h) H (nm nx)=some ⟨y0,rdl,[nm nx],[(nm nx,b0)],[nm nx]⟩) {B:ey} {v:TV} {m rd:Nat} (hm:cR h m)
 (hB:∀ ty l,B= .cells ty l→gz ((c7 m h).set nx (some B)) l=true)
 (hblk:∀ H1 H2,ov H1 H2→td h H1 H2 m→∀ b',gH ((c7 m h).set nx (some B)) B=some b'→gk H1 H2 b0 b')
 (hval:∀ H1 H2 y,ov H1 H2→td h H1 H2 m→bS ((c7 m h).set nx (some B)) v=some y→ij H1 H2 y0 y)
 (hrd:∀ n∈rdl,aI rd (ow n)=true):fq P o false e h nx v rd (m|||gZ nx) ((c7 m h).set nx (some B)) (nx+1):=by
 have hk:=hinv.kill m;have hr0:=bQ.kill m h;have hr1:bQ (c7 m h) ((c7 m h).set nx (some B)):=bQ.set fun r hr=>by rw[bF,hk.fresh] at hr;cases hr
 have hr:=hr0.trans hr1;have hgiv:∀ i,aI m i=true→bp ((c7 m h).set nx (some B)) (nm i)=none:=fun i hi=>by
  have hlt:=hm.lt hinv hi;obtain⟨p,sz,n,hd⟩:=nf hm hi;rw[bu,PT.get_set,if_neg (by omega),hd];rfl
 refine fq.mk' hc hH ha (nm nx::uu m) (fun i hi=>by simp only[aH] at hi;subst hi;simp) (fun n hn=>?_) (fun i hi b' hb'=>?_) (fun H1 H2 d hw1 hw0 hw2=>?_) hrd ?_ ?_ hr (hk.set hr1 (by omega) (by omega) hB) (by omega)
 ·refine gx hinv hr fun i e=>?_
  subst e;rw[PT.get_set,if_neg (fun e=>hn (by rw[e];simp)),eR,if_neg];intro hb;exact hn (cS _ (gQ.2 hb))
 ·rcases bo.1 hi with rfl|hi
  ·exact⟨b0,by rw[if_pos (by simp),eo]⟩
  ·obtain⟨j,rfl,hj⟩:=jb.1 hi;rw[hgiv j hj] at hb';cases hb'
 ·have g:td h H1 H2 m:=fun i hi=>by
   have hlt:=hm.lt hinv hi;have hmem:nm i∈nm nx::uu m:=cS _ (gQ.2 hi);exact⟨hw0 _ hmem (fun hc=>by simp only[aH] at hc;have:=gA hc;omega),by rw[hw2 _ hmem,hgiv i hi]⟩
  refine ⟨fun i hi b b' hb hb2=>?_,fun y hy=>hval H1 H2 y d g hy⟩;rcases bo.1 hi with rfl|hi'
  ·rw[hw1 _ (by simp),eo] at hb;rw[hw2 _ hi,bu,PT.get_set,if_pos rfl] at hb2;simp only[ae] at hb;subst hb;exact hblk H1 H2 d g b' hb2
  ·obtain⟨j,rfl,hj⟩:=jb.1 hi';rw[hw2 _ hi,hgiv j hj] at hb2;cases hb2
 ·intro n hn;rw[bh];rcases bo.1 hn with rfl|hn
  ·rw[cU,bI.2 rfl];simp
  ·obtain⟨j,rfl,hj⟩:=jb.1 hn;rw[cU,hj];rfl
 ·intro n hn;simp only[aH] at hn;subst hn;rw[cU];omega
theorem fq.wrt {s:C8} (hinv:ib h nx) (hc:cE P o.op=some s) {H:Heap} (hH:H.get=bp h) {id:Nat} {y0:AV} {rdl:List Nat} {b0:ph} {k:Nat} (ha:da s (xh e h) H k=some ⟨y0,rdl,[nm id],[(nm id,b0)],[]⟩) {B0 B:ey} (hb0:h.get id=some B0) {v:TV} {m rd:Nat} (hm:cR h m) (hmid:aI m id=false)
 (hrow:rowB B=rowB B0) (hB:∀ ty l,B= .cells ty l→gz ((c7 m h).set id (some B)) l=true)
 (hblk:∀ H1 H2,ov H1 H2→td h H1 H2 m→∀ b',gH ((c7 m h).set id (some B)) B=some b'→gk H1 H2 b0 b')
 (hval:∀ H1 H2 y,ov H1 H2→td h H1 H2 m→bS ((c7 m h).set id (some B)) v=some y→ij H1 H2 y0 y)
 (hrd:∀ n∈rdl,aI rd (ow n)=true):fq P o false e h nx v rd (m|||gZ id) ((c7 m h).set id (some B)) nx:=by
 have hk:=hinv.kill m;have hr0:=bQ.kill m h;have hkid:(c7 m h).get id=some B0:=by rw[eR,hmid];simpa using hb0
 have hr1:bQ (c7 m h) ((c7 m h).set id (some B)):=bQ.set fun r hr=>by rw[bF,hkid] at hr;rw[hrow];exact hr
 have hr:=hr0.trans hr1;have hgiv:∀ i,aI m i=true→bp ((c7 m h).set id (some B)) (nm i)=none:=fun i hi=>by
  have hne:i≠id:=fun e=>by rw[e,hmid] at hi;cases hi
  obtain⟨p,sz,n,hd⟩:=nf hm hi;rw[bu,PT.get_set,if_neg hne,hd];rfl
 refine fq.mk' hc hH ha (nm id::uu m) (fun i hi=>by simp only[aH] at hi;subst hi;simp) (fun n hn=>?_) (fun i hi b' hb'=>?_) (fun H1 H2 d hw1 hw0 hw2=>?_) hrd ?_ (by simp) hr (hk.set hr1 (hinv.low id B0 hb0) (by omega) hB) (by omega)
 ·refine gx hinv hr fun i e=>?_
  subst e;rw[PT.get_set,if_neg (fun e=>hn (by rw[e];simp)),eR,if_neg];intro hb;exact hn (cS _ (gQ.2 hb))
 ·rcases bo.1 hi with rfl|hi
  ·exact⟨b0,by rw[if_pos (by simp),eo]⟩
  ·obtain⟨j,rfl,hj⟩:=jb.1 hi;rw[hgiv j hj] at hb';cases hb'
 ·have g:td h H1 H2 m:=fun i hi=>by
   have hne:i≠id:=fun e=>by rw[e,hmid] at hi;cases hi
   have hmem:nm i∈nm id::uu m:=cS _ (gQ.2 hi);exact⟨hw0 _ hmem (fun hc=>by simp only[aH] at hc;exact hne (gA hc)),by rw[hw2 _ hmem,hgiv i hi]⟩
  refine ⟨fun i hi b b' hb hb2=>?_,fun y hy=>hval H1 H2 y d g hy⟩;rcases bo.1 hi with rfl|hi'
  ·rw[hw1 _ (by simp),eo] at hb;rw[hw2 _ hi,bu,PT.get_set,if_pos rfl] at hb2;simp only[ae] at hb;subst hb;exact hblk H1 H2 d g b' hb2
  ·obtain⟨j,rfl,hj⟩:=jb.1 hi';rw[hw2 _ hi,hgiv j hj] at hb2;cases hb2
 ·intro n hn;rw[bh];rcases bo.1 hn with rfl|hn
  ·rw[cU,bI.2 rfl];simp
  ·obtain⟨j,rfl,hj⟩:=jb.1 hn;rw[cU,hj];rfl
theorem xp (h:THeap) {z:List Value} {zc:List TV} (hz:csts z=some zc):∀ len,ci h (aF len zc).flatten=some ((repl z len).map .f)
 |0=>rfl
 |n+1=>by
  rw[List.replicate_succ,List.flatten_cons,repl,fJ];refine iL ?_ (xp h hz n);rw[(oo h hz).1];simp only[qx];rfl
theorem BQ {H:Heap} (hH:H.get=bp h) {T:Ty} {v:TV} {ys:List T.den} {m:Nat} {y:AV} (ha:tb h (.sl T) v=some (ys,m)) (hy:bS h v=some y):∃ rd,y.row? H T.size=some ((ys.flatMap (encC T)).map .f,ys.length,rd)∧∀ n∈rd,∃ i,n=nm i∧aI m i=true:=by
 have fl:=fun zs:List T.den=>dR (encC_length T) zs
 have tk:∀ zs:List T.den,(zs.flatMap (encC T)).take (zs.length*T.size)=zs.flatMap (encC T):=fun zs=>by rw[← fl,gm]
 cases v with
 |f S x=>
  simp only[tb,e9] at ha;split at ha
  ·rename_i z hz;simp only[ae,ay] at ha;obtain⟨rfl,_⟩:=ha;obtain⟨e,rfl⟩:=eZ hz;subst e;simp only[bS,ae] at hy;subst hy;refine ⟨[],?_,by simp⟩;simp only[enc1,AV.row?];rw[if_pos (bB (by rw[fl x];exact cD _)),tk]
  ·cases ha
 |emp=>
  simp only[tb,e9,ae,ay] at ha;obtain⟨rfl,_⟩:=ha;simp only[bS,ae] at hy;subst hy;exact⟨[],rfl,by simp⟩
 |nil=>
  simp only[tb,e9,ae,ay] at ha;obtain⟨rfl,_⟩:=ha;simp only[bS,ae] at hy;subst hy;exact⟨[],rfl,by simp⟩
 |row id=>
  simp only[tb,e9] at ha;split at ha
  ·rename_i ty p S xs hb;split at ha
   ·rename_i z hz;simp only[ae,ay] at ha;obtain⟨rfl,rfl⟩:=ha;obtain⟨e,rfl⟩:=eZ hz;cases e;simp only[bS,dg,hb,ae] at hy;subst hy;unfold du;split
    ·rename_i hp;simp only[ak,beq_iff_eq] at hp;have:xs=[]:=gO.1 hp.2;subst this;exact⟨[],rfl,by simp⟩
    ·rename_i hp;have hg:H.get (nm id)=some ⟨ty,.fz (xs.flatMap (encC T))⟩:=by rw[hH,bu,hb];simp only[aC,gH,if_neg hp]
     refine ⟨[nm id],?_,fun n hn=>?_⟩
     ·simp only[AV.row?,hg,beq_self_eq_true,if_true,BC.isCells,BC.len,kj];rw[if_pos (bB (by rw[fl xs];exact cD _))];simp only[BC.toMx,←mJ,tk]
     ·simp only[aH] at hn;exact⟨id,hn,bI.2 rfl⟩
   ·cases ha
  ·cases ha
 |agg l=>simp[tb,Ty.one] at ha
 |fel T xs j hj off=>simp[tb,e9] at ha
 |pel id sz j off=>simp[tb,e9] at ha
 |ptr id off=>simp[tb,e9] at ha
 |csl id off z=>simp[tb,e9] at ha
 |mp id=>simp[tb,e9] at ha
 |tup q=>simp[tb,e9] at ha
 |clo f q=>simp[tb,e9] at ha
 |undef=>simp[tb,e9] at ha
 |np=>simp[tb,e9] at ha
 |anyb=>simp[tb,e9] at ha
theorem Bh {v:TV} {y:AV} (hy:bS h v=some y) (hc:v.isC=true):allCell y.cs=true:=by
 rw[yh (yr hy hc)];simp only[allCell,Bool.and_true];exact yr hy hc
theorem CO (T:Ty) (x:T.den):allCell ((encC T x).map .f)=true:=by
 have:∀ l:List FV,(∀ x∈l,x.isCell=true)→allCell (l.map .f)=true:=by
  intro l hl;induction l with
  |nil=>rfl
  |cons z r ih=>simp only[eL,allCell,ak];exact⟨hl z (by simp),ih fun x hx=>hl x (by simp[hx])⟩
 exact this _ (encC_cell T x)
theorem ej {T:Ty} {v:TV} {x:T.den} {m:Nat} {y:AV} (ha:e9 h T v=some (x,m)) (hy:bS h v=some y):allCell y.cs=true:=by
 cases v with
 |f S v=>simp only[bS,ae] at hy;subst hy;rw[qP];exact CO S v
 |emp=>exact Bh hy rfl
 |nil=>exact Bh hy rfl
 |row id=>exact Bh hy rfl
 |fel T xs j hj off=>simp[e9] at ha
 |pel id sz j off=>simp[e9] at ha
 |ptr id off=>simp[e9] at ha
 |csl id off z=>simp[e9] at ha
 |mp id=>simp[e9] at ha
 |agg q=>simp[e9] at ha
 |tup q=>simp[e9] at ha
 |clo f q=>simp[e9] at ha
 |undef=>simp[e9] at ha
 |np=>simp[e9] at ha
 |anyb=>simp[e9] at ha
theorem vj {T:Ty} (hT:T.one=true) {v:TV} {x:T.den} {m:Nat} (ha:e9 h T v=some (x,m)):v.isC=true:=by
 cases v with
 |f S v=>
  simp only[e9] at ha;split at ha
  ·rename_i z hz;obtain⟨e,_⟩:=eZ hz;subst e;exact hT
  ·cases ha
 |emp=>rfl
 |nil=>rfl
 |row id=>rfl
 |fel T xs j hj off=>simp[e9] at ha
 |pel id sz j off=>simp[e9] at ha
 |ptr id off=>simp[e9] at ha
 |csl id off z=>simp[e9] at ha
 |mp id=>simp[e9] at ha
 |agg q=>simp[e9] at ha
 |tup q=>simp[e9] at ha
 |clo f q=>simp[e9] at ha
 |undef=>simp[e9] at ha
 |np=>simp[e9] at ha
 |anyb=>simp[e9] at ha
theorem Ak {a b:List TV} (ha:allC a=true) (hb:allC b=true):allC (a++b)=true:=by
 induction a with
 |nil=>exact hb
 |cons z r ih=>simp only[allC,ak,fc] at ha ⊢;exact⟨ha.1,ih ha.2⟩
theorem packC_isC:∀ (n:Nat) (T:Ty) (l:List TV) (x:T.den) (m:Nat) (r:List TV),c9 h n T l=some (x,m,r)→∃ a,l=a++r∧allC a=true
 |0,_,_,_,_,_,hp=>by simp[c9] at hp
 |n+1,.st t,l,x,m,r,hp=>packC_isC n t l x m r hp
 |n+1,.pr a b,l,x,m,r,hp=>by
  simp only[c9] at hp;split at hp
  ·rename_i x1 m1 r1 h1;split at hp
   ·rename_i x2 m2 r2 h2;simp only[ae,ay] at hp;obtain⟨_,_,rfl⟩:=hp;obtain⟨a1,rfl,g1⟩:=packC_isC n a l x1 m1 r1 h1;obtain⟨a2,rfl,g2⟩:=packC_isC n b r1 x2 m2 r2 h2;exact⟨a1++a2,by simp,Ak g1 g2⟩
   ·cases hp
  ·cases hp
 |n+1,.un,l,x,m,r,hp=>by
  simp only[c9,ae,ay] at hp;obtain⟨_,_,rfl⟩:=hp;exact⟨[],rfl,rfl⟩
 |n+1,.ex,l,x,m,r,hp=>by
  simp only[c9] at hp;split at hp
  ·rename_i x1 m1 r1 h1;simp only[ae,ay] at hp;obtain⟨_,_,rfl⟩:=hp;exact packC_isC n exF l x1 m1 r1 h1
  ·cases hp
 |n+1,.sm,l,x,m,r,hp=>by
  simp only[c9] at hp;split at hp
  ·rename_i x1 m1 r1 h1;simp only[ae,ay] at hp;obtain⟨_,_,rfl⟩:=hp;exact packC_isC n smF l x1 m1 r1 h1
  ·cases hp
 |n+1,.int k,l,x,m,r,hp=>by
  simp only[c9] at hp;split at hp
  ·rename_i c q;split at hp
   ·rename_i x1 m1 h1;simp only[ae,ay] at hp;obtain⟨_,_,rfl⟩:=hp;exact⟨[c],rfl,by simp[allC,vj rfl h1]⟩
   ·cases hp
  ·cases hp
 |n+1,.bool,l,x,m,r,hp=>by
  simp only[c9] at hp;split at hp
  ·rename_i c q;split at hp
   ·rename_i x1 m1 h1;simp only[ae,ay] at hp;obtain⟨_,_,rfl⟩:=hp;exact⟨[c],rfl,by simp[allC,vj rfl h1]⟩
   ·cases hp
  ·cases hp
 |n+1,.str,l,x,m,r,hp=>by
  simp only[c9] at hp;split at hp
  ·rename_i c q;split at hp
   ·rename_i x1 m1 h1;simp only[ae,ay] at hp;obtain⟨_,_,rfl⟩:=hp;exact⟨[c],rfl,by simp[allC,vj rfl h1]⟩
   ·cases hp
  ·cases hp
 |n+1,.sl t,l,x,m,r,hp=>by
  simp only[c9] at hp;split at hp
  ·rename_i c q;split at hp
   ·rename_i x1 m1 h1;simp only[ae,ay] at hp;obtain⟨_,_,rfl⟩:=hp;exact⟨[c],rfl,by simp[allC,vj rfl h1]⟩
   ·cases hp
  ·cases hp
theorem wF {T:Ty} {v:TV} {x:T.den} {m:Nat} {y:AV} (ha:tb h T v=some (x,m)) (hy:bS h v=some y):allCell y.cs=true:=by
 cases v with
 |agg l=>
  simp only[tb] at ha;split at ha
  ·cases ha
  ·split at ha
   ·rename_i x1 m1 h1;obtain⟨a,e,ga⟩:=packC_isC 40 T l x1 m1 [] h1;rw[ul] at e;subst e;simp only[bS] at hy;split at hy
    ·rename_i l' hl;simp only[ae] at hy;subst hy;exact mZ hl ga
    ·cases hy
   ·cases ha
 |f S v=>exact ej (v:=.f S v) ha hy
 |fel T xs j hj off=>exact ej (v:=.fel T xs j hj off) ha hy
 |pel id sz j off=>exact ej (v:=.pel id sz j off) ha hy
 |ptr id off=>exact ej (v:=.ptr id off) ha hy
 |csl id off z=>exact ej (v:=.csl id off z) ha hy
 |row id=>exact ej (v:=.row id) ha hy
 |emp=>exact ej (v:=.emp) ha hy
 |nil=>exact ej (v:=.nil) ha hy
 |mp id=>exact ej (v:=.mp id) ha hy
 |tup q=>exact ej (v:=.tup q) ha hy
 |clo g q=>exact ej (v:=.clo g q) ha hy
 |undef=>exact ej (v:=.undef) ha hy
 |np=>exact ej (v:=.np) ha hy
 |anyb=>exact ej (v:=.anyb) ha hy
theorem lx {u:TV} {y:AV} (hy:bS h u=some y):∀ (n:Nat) (T:Ty) (v:T.den) (off sz:Nat) (z:T.den) (m:Nat),dU h u n T v off sz=some (z,m)→allCell y.cs=true
 |0,_,_,_,_,_,_,hg=>by simp[dU] at hg
 |n+1,.st t,v,off,sz,z,m,hg=>by
  simp only[dU] at hg;split at hg
  ·rename_i q hq;split at hq
   ·exact wF hq hy
   ·cases hq
  ·exact lx hy n t v off sz z m hg
 |n+1,.pr a b,v,off,sz,z,m,hg=>by
  simp only[dU] at hg;split at hg
  ·split at hg
   ·rename_i z1 m1 h1;exact lx hy n a v.1 off sz z1 m1 h1
   ·cases hg
  ·split at hg
   ·rename_i z1 m1 h1;exact lx hy n b v.2 _ sz z1 m1 h1
   ·cases hg
 |n+1,.un,v,off,sz,z,m,hg=>by simp[dU] at hg
 |n+1,.ex,v,off,sz,z,m,hg=>by
  simp only[dU] at hg;split at hg
  ·rename_i q hq;split at hq
   ·exact wF hq hy
   ·cases hq
  ·split at hg
   ·rename_i z1 m1 h1;exact lx hy n exF _ off sz z1 m1 h1
   ·cases hg
 |n+1,.sm,v,off,sz,z,m,hg=>by
  simp only[dU] at hg;split at hg
  ·rename_i q hq;split at hq
   ·exact wF hq hy
   ·cases hq
  ·split at hg
   ·rename_i z1 m1 h1;exact lx hy n smF _ off sz z1 m1 h1
   ·cases hg
 |n+1,.int k,v,off,sz,z,m,hg=>by
  simp only[dU] at hg;split at hg
  ·exact ej hg hy
  ·cases hg
 |n+1,.bool,v,off,sz,z,m,hg=>by
  simp only[dU] at hg;split at hg
  ·exact ej hg hy
  ·cases hg
 |n+1,.str,v,off,sz,z,m,hg=>by
  simp only[dU] at hg;split at hg
  ·exact ej hg hy
  ·cases hg
 |n+1,.sl t,v,off,sz,z,m,hg=>by
  simp only[dU] at hg;split at hg
  ·exact ej hg hy
  ·cases hg
theorem Aj (l:List FV):allF (l.map .f)=some l:=by
 induction l with
 |nil=>rfl
 |cons x r ih=>simp only[eL,allF,ih]
theorem sr (l:List FV):ka (l.map .f)= .fz l:=by unfold ka;rw[Aj]
theorem allC_append:∀ {a b:List TV},allC a=true→allC b=true→allC (a++b)=true
 |[],_,_,hb=>hb
 |x::r,b,ha,hb=>by
  simp only[allC,ak] at ha;simp only[fc,allC,ak];exact⟨ha.1,allC_append ha.2 hb⟩
theorem ud {zc:List TV} (hz:allC zc=true):∀ n,allC (aF n zc).flatten=true
 |0=>rfl
 |n+1=>by rw[List.replicate_succ,List.flatten_cons];exact allC_append hz (ud hz n)
theorem Fh {H:Heap} (hH:H.get=bp h) {id ty:Nat} {l:List TV} {l':List AV} (hb:h.get id=some (.cells ty l)) (hl:ci h l=some l') {n sz:Nat} (hn:l.length=n*sz):AV.row? H sz (.row (nm id) sz n)=some (l',n,[nm id]):=by
 have hg:H.get (nm id)=some ⟨ty,.mx l'⟩:=by rw[hH,bu,hb];simp only[aC,gH,hl]
 have hln:=fk hl;simp only[AV.row?,beq_self_eq_true,if_true,hg,BC.isCells,kj,BC.len,BC.toMx];rw[if_pos (bB (by omega)),dF (by omega)]
variable (hinv:ib h nx) (hi:m6 e h)
include hinv hi
theorem GW {con:FuncId→Option bR} {bH:TypeId→Option Ty} {ty:TypeId} {sz len:Nat} {z:List Value} {parts:List (Nat×Nat×Operand)} (hcm:crowM (bH ty)=none) (hc:cE P o.op=some (.bsl ty sz len z parts)) (hk:cN con bH (.op (.bsl ty sz len z parts)) e h nx K=some r):gI P o false e h nx K r:=by
 obtain⟨H,hH⟩:=fO h;simp only[cN,hcm] at hk;split at hk
 ·rename_i T zc hT hz;split at hk
  ·rename_i hs;have hs:=au hs;subst hs;split at hk
   ·rename_i cs hf;split at hk
    ·rename_i xs m hp;obtain⟨cs',h1,h2,_⟩:=sM hi parts _ cs _ hf (xp h hz len);have hm:=yd len cs xs m hp;refine ⟨_,_,_,_,_,hk,fq.new hinv hc hH (y0:=if len=0 then .emp else .row (nm nx) T.size len) (rdl:=[]) (b0:=⟨ty,ka cs'⟩) (by simp only[da,h1]) hm (fun _ _ he=>by cases he) (fun H1 H2 d g b' hb'=>?_) (fun H1 H2 y d g hy=>?_) (by simp)⟩
     ·simp only[gH] at hb';split at hb'
      ·cases hb'
      rw[ae] at hb';subst hb';obtain⟨q1,q2⟩:=iZ cs';refine gk.cells q2 rfl ?_ fun x hx=>?_
      ·rw[q1];exact (sg d len cs xs m cs' hp h2 g).1
      ·simp only[BC.toMx] at hx;obtain⟨q,hq,rfl⟩:=cQ.1 hx;exact ne T _ q hq
     ·simp only[bS,bF,PT.get_set,if_true,aC,rowB,du,ae] at hy;rw[(sg d len cs xs m cs' hp h2 g).2] at hy;split at hy
      ·rename_i hq;simp only[ak,beq_iff_eq] at hq;subst hy;rw[if_pos hq.2];exact ij.refl d _
      ·rename_i hq;subst hy;rw[if_neg (fun h0=>hq (by subst h0;rfl))];exact ij.refl d _
    ·cases hk
   ·cases hk
  ·cases hk
 ·cases hk
theorem GY {con:FuncId→Option bR} {bH:TypeId→Option Ty} {ty:TypeId} {sz bytes:Nat} {s x:Operand} (hcm:crowM (bH ty)=none) (hc:cE P o.op=some (.app ty sz bytes s x)) (hk:cN con bH (.op (.app ty sz bytes s x)) e h nx K=some r):gI P o false e h nx K r:=by
 obtain⟨H,hH⟩:=fO h;have hfr:=hinv.fresh;simp only[cN,hcm] at hk;split at hk
 ·rename_i T b y hT hv hv2;split at hk
  ·rename_i hs;have hs:=au hs;subst hs;split at hk
   ·rename_i ys m hys;obtain⟨yb,h1,h2⟩:=bx hi hv;obtain⟨yy,h3,h4⟩:=bx hi hv2;obtain⟨rdl,h5,h6⟩:=BQ hH hys h4;have onEmp:∀ (rd':Nat),(∀ n∈rdl,aI rd' (ow n)=true)→isEmpB yb=true→Le yb .emp→aZ (aa ys) bytes=true→fq P o false e h nx (.row nx) rd' (gZ nx) (h.set nx (some (.rows ty true T ys))) (nx+1):=by
     intro rd' hrd' he hle hroom;have hr1:bQ h (h.set nx (some (.rows ty true T ys))):=bQ.set fun r hr=>by rw[bF,hfr] at hr;cases hr
     have hyb:∀ id sz' n,yb≠ .row id sz' n:=by rintro id sz' n rfl;cases he
     have ha0:da (.app ty T.size bytes s x) (xh e h) H (nm nx)=if aa ys==0 then some ⟨yb,rdl,[],[],[]⟩ else some ⟨.row (nm nx) T.size (aa ys),rdl,[nm nx],[(nm nx,⟨ty,ka ((ys.flatMap (encC T)).map .f)⟩)],[nm nx]⟩:=by
      simp only[da,h1,h3,h5];cases yb with
      |row id sz' n=>exact absurd rfl (hyb id sz' n)
      |_=>simp only[he,hroom,gw,if_true]
     by_cases hl:aa ys=0
     ·rw[hl] at ha0;simp only[beq_self_eq_true,if_true] at ha0;have hnil:ys=[]:=gO.1 hl;subst hnil;refine fq.mk' hc hH ha0 [] (by simp) (fun n _=>?_) (by simp) (fun H1 H2 d _ _ _=>⟨by simp,fun y hy=>?_⟩) hrd' (by simp) (by simp) hr1 (hinv.set hr1 (by omega) (by omega) fun _ _ he=>by cases he) (by omega)
      ·by_cases hn:n=nm nx
       ·subst hn;rw[bu,bu,PT.get_set,if_pos rfl,hfr];rfl
       ·refine gx hinv hr1 fun i e=>?_
        subst e;rw[PT.get_set,if_neg (fun e=>hn (by rw[e]))]
      ·simp only[bS,bF,PT.get_set,if_true,aC,rowB,du,gY,beq_self_eq_true,gw,ae] at hy;subst hy;exact hle.toH d
     ·rw[if_neg (by simpa using hl)] at ha0;rw[sr] at ha0;have key:=fq.new (m:=0) (rd:=rd') hinv hc hH ha0 (B:=.rows ty true T ys) (v:=.row nx) (cR.zero h) (fun _ _ he=>by cases he) (fun H1 H2 d g b' hb'=>by
       simp only[gH] at hb';rw[if_neg (by simpa using hl)] at hb';simp only[ae] at hb';subst hb';exact gk.refl d _) (fun H1 H2 y d g hy=>by
       simp only[bS,bF,PT.get_set,if_true,aC,rowB,du] at hy;rw[if_neg (by simpa using hl)] at hy;simp only[ae] at hy;subst hy;exact ij.refl d _) hrd'
      rw[s6] at key;exact key
    split at hk
    ·rename_i id;split at hk
     ·rename_i ty' p S xs0 hb;split at hk
      ·rename_i xs hxs;obtain⟨ee,rfl⟩:=eZ hxs;cases ee;split at hk
       ·rename_i hcond;simp only[ak,beq_iff_eq,cV] at hcond;obtain⟨rfl,hmid⟩:=hcond;obtain⟨hroom,hk⟩:=c8 hk;simp only[bS,dg,hb,ae] at h2;have hidlt:=hinv.low id _ hb;have hne:nx≠id:=by omega
        have hrd:∀ n∈rdl,aI (gZ id|||m) (ow n)=true:=fun n hn=>by
         obtain⟨i,rfl,hm⟩:=h6 n hn;rw[cU,bh,hm];simp
        generalize hh':(h.set id (some (.dead p T.size (aa xs0)))).set nx (some (.rows ty' p T (xs0++ys)))=h' at hk;have hrA:bQ h (h.set id (some (.dead p T.size (aa xs0)))):=bQ.set fun r hr=>by rw[bF,hb] at hr;exact hr
        have hg2:∀ i,h'.get i=if i=nx then some (.rows ty' p T (xs0++ys)) else if i=id then some (.dead p T.size (aa xs0)) else h.get i:=fun i=>by rw[← hh',PT.get_set,PT.get_set]
        have hr:bQ h h':=by
         rw[← hh'];refine hrA.trans (bQ.set fun r hr=>?_);rw[bF,PT.get_set,if_neg hne,hfr] at hr;cases hr
        have hinv':ib h' (nx+1):=by
         refine ⟨fun i ty l hil=>?_,fun i c hic=>?_⟩
         ·rw[hg2] at hil;split at hil
          ·cases hil
          ·split at hil
           ·cases hil
           ·exact eP hr l (hinv.cells i ty l hil)
         ·rw[hg2] at hic;split at hic
          ·omega
          ·split at hic
           ·omega
           ·have:=hinv.low i c hic;omega
        have hsame:∀ n,n≠nm nx→n≠nm id→bp h' n=bp h n:=fun n h1 h2=>gx hinv hr fun i e=>by
         subst e;rw[hg2,if_neg (fun e=>h1 (by rw[e])),if_neg (fun e=>h2 (by rw[e]))]
        have hdead:bp h' (nm id)=none:=by rw[bu,hg2,if_neg (by omega),if_pos rfl];rfl
        have hnew:bp h' (nm nx)=if p&&(xs0++ys).length==0 then none else some ⟨ty',.fz ((xs0++ys).flatMap (encC T))⟩:=by rw[bu,hg2,if_pos rfl];rfl
        have hval:bS h' (.row nx)=some (du p nx T.size (xs0++ys).length):=by simp only[bS,bF,hg2,if_true,aC,rowB]
        have hwm:∀ n,n=nm nx∨n=nm id→aI (gZ id|||gZ nx) (ow n)=true:=fun n hn=>by
         rcases hn with rfl|rfl<;>rw[cU,bh,bI.2 rfl]<;>simp
        refine ⟨_,_,_,_,_,hk,?_⟩;by_cases hp:(p&&xs0.length==0)=true
        ·
         have hyb:yb= .emp:=by rw[← h2];unfold du;rw[if_pos hp]
         subst hyb;simp only[ak,beq_iff_eq] at hp;obtain⟨rfl,hl0⟩:=hp;have hnil:xs0=[]:=gO.1 hl0;subst hnil;have hroom':aZ (aa ys) bytes=true:=by simpa using hroom
         have ha0:da (.app ty' T.size bytes s x) (xh e h) H (nm nx)=if aa ys==0 then some ⟨.emp,rdl,[],[],[]⟩ else some ⟨.row (nm nx) T.size (aa ys),rdl,[nm nx],[(nm nx,⟨ty',ka ((ys.flatMap (encC T)).map .f)⟩)],[nm nx]⟩:=by
          simp only[da,h1,h3,h5,isEmpB,hroom',gw,if_true]
         have hdead0:bp h (nm id)=none:=by rw[bu,hb];rfl
         by_cases hl:aa ys=0
         ·rw[hl] at ha0;simp only[beq_self_eq_true,if_true] at ha0;have hnil:ys=[]:=gO.1 hl;subst hnil;refine fq.mk' hc hH ha0 [] (by simp) (fun n _=>?_) (by simp) (fun H1 H2 d _ _ _=>⟨by simp,fun y hy=>?_⟩) hrd (by simp) (by simp) hr hinv' (by omega)
          ·by_cases hn:n=nm nx
           ·subst hn;rw[hnew,bu,hfr];rfl
           ·by_cases hn2:n=nm id
            ·subst hn2;rw[hdead,hdead0]
            ·exact hsame n hn hn2
          ·rw[hval] at hy;simp only[du,ul,gY,beq_self_eq_true,gw,if_true,ae] at hy;subst hy;exact ij.refl d _
         ·rw[if_neg (by simpa using hl),sr] at ha0;refine fq.mk' hc hH ha0 [nm nx] (fun i hi=>hi) (fun n hn=>?_) (fun i hi b' _=>⟨_,by rw[if_pos hi];simp only[aH] at hi;subst hi;exact eo _ _⟩) (fun H1 H2 d hw1 _ hw2=>⟨fun i hi b b' hb1 hb2=>?_,fun y hy=>?_⟩) hrd (fun n hn=>hwm n (.inl (by simpa using hn))) (fun n hn=>by simp only[aH] at hn;subst hn;rw[cU];omega) hr hinv' (by omega)
          ·have hn1:n≠nm nx:=by simpa using hn
           by_cases hn2:n=nm id
           ·subst hn2;rw[hdead,hdead0]
           ·exact hsame n hn1 hn2
          ·simp only[aH] at hi;subst hi;rw[hw1 _ (by simp),eo] at hb1;rw[hw2 _ (by simp),hnew,if_neg (by simpa using hl)] at hb2;simp only[ae,jr] at hb1 hb2;subst hb1;subst hb2;exact gk.refl d _
          ·rw[hval] at hy;simp only[du,jr] at hy;rw[if_neg (by simpa using hl)] at hy;simp only[ae] at hy;subst hy;exact ij.refl d _
        ·have hyb:yb= .row (nm id) T.size xs0.length:=by rw[← h2];unfold du;rw[if_neg hp]
         subst hyb;have hg:H.get (nm id)=some ⟨ty',.fz (xs0.flatMap (encC T))⟩:=by rw[hH,bu,hb];simp only[aC,gH,if_neg hp]
         have fl:=dR (encC_length T) xs0;have tk:(xs0.flatMap (encC T)).take (xs0.length*T.size)=xs0.flatMap (encC T):=by rw[← fl,gm]
         have hmem:CE (nm id) rdl=false:=by
          cases hx:CE (nm id) rdl with
          |false=>rfl
          |true=>
           obtain⟨i,e,hm⟩:=h6 _ (F7.1 hx);rw[← gA e,hmid] at hm;cases hm
         have ha0:da (.app ty' T.size bytes s x) (xh e h) H (nm nx)=some ⟨.row (nm nx) T.size (xs0.length+ys.length),nm id::rdl,[nm nx,nm id],[(nm nx,⟨ty',.fz ((xs0++ys).flatMap (encC T))⟩)],[nm nx]⟩:=by
          have hcnd:(T.size==T.size&& !(CE (nm id) rdl)&&(BC.fz (xs0.flatMap (encC T))).isCells&&cZ (xs0.length*T.size) (BC.fz (xs0.flatMap (encC T))).len&&ty'==ty'&&aZ (xs0.length+ys.length) bytes)=true:=by
           have:cZ (xs0.length*T.size) (BC.fz (xs0.flatMap (encC T))).len=true:=bB (by simp only[BC.len];omega);rw[this,hmem,hroom];simp[BC.isCells]
          simp only[da,h1,h3,h5,hg,hcnd,if_true,BC.toMx,←mJ,tk,←fJ,sr,List.flatMap_append]
         have hne2:¬((p&&(xs0++ys).length==0)=true):=by
          simp only[ak,beq_iff_eq,cq] at hp ⊢;intro hh;exact hp ⟨hh.1,by omega⟩
         refine fq.mk' hc hH ha0 [nm nx,nm id] (fun i hi=>hi) (fun n hn=>?_) (fun i hi b' hb'=>?_) (fun H1 H2 d hw1 _ hw2=>⟨fun i hi b b' hb1 hb2=>?_,fun y hy=>?_⟩) (fun n hn=>?_) (fun n hn=>hwm n (by simpa using hn)) (fun n hn=>by simp only[aH] at hn;subst hn;rw[cU];omega) hr hinv' (by omega)
         ·simp only[bo,cf,or_false,not_or] at hn;exact hsame n hn.1 hn.2
         ·simp only[bo,cf,or_false] at hi;rcases hi with rfl|rfl
          ·exact⟨_,by rw[if_pos (by simp)];exact eo _ _⟩
          ·rw[hdead] at hb';cases hb'
         ·simp only[bo,cf,or_false] at hi;rcases hi with rfl|rfl
          ·rw[hw1 _ (by simp),eo] at hb1;rw[hw2 _ (by simp),hnew,if_neg hne2] at hb2;simp only[ae] at hb1 hb2;subst hb1;subst hb2;exact gk.refl d _
          ·rw[hw2 _ (by simp),hdead] at hb2;cases hb2
         ·rw[hval] at hy;simp only[du] at hy;rw[if_neg hne2] at hy;simp only[cq,ae] at hy;subst hy;exact ij.refl d _
         ·rcases bo.1 hn with rfl|hn
          ·rw[cU,bh,bI.2 rfl];rfl
          ·exact hrd n hn
       ·cases hk
      ·cases hk
     ·cases hk
    ·obtain⟨hroom,hk⟩:=c8 hk;simp only[bS,ae] at h2;subst h2;exact⟨_,_,_,_,_,hk,onEmp m (fun n hn=>by obtain⟨i,rfl,hm⟩:=h6 n hn;rw[cU];exact hm) rfl (Le.refl _) hroom⟩
    ·obtain⟨hroom,hk⟩:=c8 hk;simp only[bS,ae] at h2;subst h2;exact⟨_,_,_,_,_,hk,onEmp m (fun n hn=>by obtain⟨i,rfl,hm⟩:=h6 n hn;rw[cU];exact hm) rfl Le.nilEmp hroom⟩
    ·cases hk
   ·cases hk
  ·cases hk
 ·cases hk
theorem El {T:Ty} (xs ys:List T.den):(Aa xs ys).flatMap (encC T)=AI.splice (xs.flatMap (encC T)) 0 ((ys.flatMap (encC T)).take (eN ys.length xs.length*T.size)):=by
 have _:=hinv;have _:=hi;have fl:=fun zs:List T.den=>dR (encC_length T) zs
 have tk:∀ (zs:List T.den) n,(zs.flatMap (encC T)).take (n*T.size)=(zs.take n).flatMap (encC T):=by
  intro zs;induction zs with
  |nil=>intro n;simp
  |cons z r ih=>
   intro n;cases n with
   |zero=>simp
   |succ n=>rw[dv,oI,dv,eM,List.take_append,encC_length,dF (by rw[encC_length];omega),show n*T.size+T.size-T.size=n*T.size from by omega,ih n]
 have dp:∀ (zs:List T.den) n,(zs.flatMap (encC T)).drop (n*T.size)=(zs.drop n).flatMap (encC T):=by
  intro zs;induction zs with
  |nil=>intro n;simp
  |cons z r ih=>
   intro n;cases n with
   |zero=>simp
   |succ n=>rw[dv,oJ,eM,n6,encC_length,mc (by rw[encC_length];omega),show n*T.size+T.size-T.size=n*T.size from by omega,ih n,jr]
 unfold Aa AI.splice;rw[tk,List.flatMap_append,fl,cj];have e1:ys.take (eN ys.length xs.length)=ys.take xs.length:=by
  rcases Nat.le_total ys.length xs.length with h|h
  ·rw[show eN ys.length xs.length=ys.length from ui h,gm,dF h]
  ·rw[show eN ys.length xs.length=xs.length from Nat.min_eq_right h]
 rw[e1];have e2:min (eN ys.length xs.length) ys.length=eN ys.length xs.length:=ui (Nat.min_le_left _ _);rw[e2];simp only[List.take_zero,jr,bw];rw[dp];congr 1;rcases Nat.le_total ys.length xs.length with h|h
 ·rw[show eN ys.length xs.length=ys.length from ui h]
 ·rw[show eN ys.length xs.length=xs.length from Nat.min_eq_right h,List.drop_length,mc h]
theorem GU {con:FuncId→Option bR} {bH:TypeId→Option Ty} {sz:Nat} {d x:Operand} (hc:cE P o.op=some (.copy sz d x)) (hk:cN con bH (.op (.copy sz d x)) e h nx K=some r):gI P o false e h nx K r:=by
 obtain⟨H,hH⟩:=fO h;simp only[cN] at hk;split at hk
 ·rename_i id y hv hv2;split at hk
  ·rename_i ty p T xs hb;split at hk
   ·rename_i hs;have hs:=au hs;subst hs;split at hk
    ·rename_i ys m hys;split at hk
     ·rename_i hcond;simp only[ak,cV] at hcond;obtain⟨hmid,rfl⟩:=hcond;obtain⟨yb,h1,h2⟩:=bx hi hv;obtain⟨yy,h3,h4⟩:=bx hi hv2;obtain⟨rdl,h5,h6⟩:=BQ hH hys h4;simp only[bS,dg,hb,du,iN,bW,if_false,ae] at h2;subst h2;have fl:=dR (encC_length T) xs;have fl2:=dR (encC_length T) ys;have hg:H.get (nm id)=some ⟨ty,.fz (xs.flatMap (encC T))⟩:=by rw[hH,bu,hb];simp[gH]
      have hmem:CE (nm id) rdl=false:=by
       cases hx:CE (nm id) rdl with
       |false=>rfl
       |true=>
        obtain⟨i,e,hm⟩:=h6 _ (F7.1 hx);rw[← gA e,hmid] at hm;cases hm
      have hle:eN ys.length xs.length*T.size≤xs.length*T.size:=bT _ (Nat.min_le_right _ _);have ha0:da (.copy T.size d x) (xh e h) H (nm nx)=some ⟨raw (.int .i64 (eN ys.length xs.length)),nm id::rdl,[nm id],[(nm id,⟨ty,.fz ((Aa xs ys).flatMap (encC T))⟩)],[]⟩:=by
       have hcnd:(T.size==T.size&& !(CE (nm id) rdl)&&cZ (xs.length*T.size) (BC.fz (xs.flatMap (encC T))).len)=true:=by
        have:cZ (xs.length*T.size) (BC.fz (xs.flatMap (encC T))).len=true:=bB (by simp only[BC.len];omega);rw[this,hmem];simp
       have hput:(BC.fz (xs.flatMap (encC T))).put 0 (((ys.flatMap (encC T)).map .f).take (eN ys.length xs.length*T.size))=some (.fz ((Aa xs ys).flatMap (encC T))):=by
        rw[← mJ];unfold BC.put;rw[if_pos]
        ·simp only[Aj];rw[El hinv hi]
        ·simp only[ak];refine ⟨⟨rfl,bB ?_⟩,?_⟩
         ·simp only[BC.len,cK,cj];omega
         ·have:∀ l:List FV,(∀ x∈l,x.isCell=true)→allCell (l.map .f)=true:=by
           intro l hl;induction l with
           |nil=>rfl
           |cons z r ih=>simp only[eL,allCell,ak];exact⟨hl z (by simp),ih fun x hx=>hl x (by simp[hx])⟩
          exact this _ fun x hx=>ne T ys x (fa hx)
       simp only[da,h1,h3,hg,h5,hcnd,if_true,hput]
      have hrow:rowB (.rows ty false T (Aa xs ys))=rowB (.rows ty false T xs):=by
       have:(Aa xs ys).length=xs.length:=by unfold Aa;rw[cq,cj,lf];omega
       simp only[rowB,this]
      have key:=fq.wrt (m:=0) (v:=.f (.int .i64) (ah (eN (aa ys) (aa xs)))) (rd:=gZ id|||m) hinv hc hH ha0 (B:=.rows ty false T (Aa xs ys)) hb (cR.zero h) (by simp) hrow (fun _ _ he=>by cases he) (fun H1 H2 d g b' hb'=>by
       simp only[gH,iN,bW,if_false,ae] at hb';subst hb';exact gk.refl d _) (fun H1 H2 y d g hy=>by
       simp only[bS,ae] at hy;subst hy;exact ij.refl d _) (fun n hn=>by
       rcases bo.1 hn with rfl|hn
       ·rw[cU,bh,bI.2 rfl];rfl
       ·obtain⟨i,rfl,hm⟩:=h6 n hn;rw[cU,bh,hm];simp)
      rw[s6] at key;exact⟨_,_,_,_,_,hk,key⟩
     ·cases hk
    ·cases hk
   ·cases hk
  ·cases hk
 ·cases hk
theorem Fr {con:FuncId→Option bR} {bH:TypeId→Option Ty} {sz:Nat} {x v:Operand} (hc:cE P o.op=some (.store sz x v)) (hk:cN con bH (.op (.store sz x v)) e h nx K=some r):gI P o false e h nx K r:=by
 obtain⟨H,hH⟩:=fO h;simp only[cN] at hk;split at hk
 ·rename_i id off y hv hv2;obtain⟨yb,h1,h2⟩:=bx hi hv;obtain⟨yy,h3,h4⟩:=bx hi hv2;simp only[bS,ae] at h2;subst h2;split at hk
  ·rename_i ty l hb;split at hk
   ·rename_i cs hcs;split at hk
    ·rename_i hcond;simp only[ak,beq_iff_eq] at hcond;obtain⟨h5,h6⟩:=xE hcs h4;obtain⟨l',hl⟩:=dx h l (hinv.cells id ty l hb);have hg:H.get (nm id)=some ⟨ty,.mx l'⟩:=by rw[hH,bu,hb];simp only[aC,gH,hl]
     have hcell:=mZ h5 h6;have hlen:yy.cs.length=sz:=by rw[fk h5];exact hcond.1
     have hput:(BC.mx l').put off yy.cs=some (.mx (splice l' off yy.cs)):=by
      unfold BC.put;rw[if_pos]
      ·rfl
      ·simp only[ak];exact⟨⟨rfl,by simp only[BC.len];rw[hlen,fk hl];exact hcond.2⟩,hcell⟩
     have ha0:da (.store sz x v) (xh e h) H (nm nx)=some ⟨raw undef,[nm id],[nm id],[(nm id,⟨ty,.mx (splice l' off yy.cs)⟩)],[]⟩:=by
      simp only[da,h1,h3,yG,hg,hlen,beq_self_eq_true,if_true,hput]
     have hspl:∀ h',bQ h h'→ci h' (splice l off cs)=some (splice l' off yy.cs):=fun h' hr=>ol off (eS hr l l' hl) (eS hr cs _ h5)
     have hr1:bQ h (h.set id (some (.cells ty (splice l off cs)))):=bQ.set fun r hr=>by rw[bF,hb] at hr;cases hr
     have key:=fq.wrt (m:=0) (v:=.undef) (rd:=gZ id) hinv hc hH ha0 (B:=.cells ty (splice l off cs)) hb (cR.zero h) (by simp) rfl (fun ty' l2 he=>by cases he;exact gT _ _ _ (hspl _ hr1)) (fun H1 H2 d g b' hb'=>by
      have:=hspl _ hr1;simp only[c7,nW,if_true,gH,this,ae] at hb';subst hb';exact gk.refl d _) (fun H1 H2 y d g hy=>by
      simp only[bS,ae] at hy;subst hy;exact ij.refl d _) (fun n hn=>by simp only[aH] at hn;subst hn;rw[cU];exact bI.2 rfl)
     rw[s6] at key;exact⟨_,_,_,_,_,hk,key⟩
    ·cases hk
   ·cases hk
  ·cases hk
 ·rename_i id sz' j off y hv hv2;obtain⟨yb,h1,h2⟩:=bx hi hv;obtain⟨yy,h3,h4⟩:=bx hi hv2;simp only[bS,ae] at h2;subst h2;split at hk
  ·rename_i ty p T xs hb;split at hk
   ·rename_i hsz;have hsz:=au hsz;subst hsz;obtain⟨hj,hk⟩:=c8 hk;split at hk
    ·rename_i z m hset;split at hk
     ·cases hk
     ·rename_i hmid;have hmid:aI m id=false:=by simpa using hmid
      have hm:=qC 40 T _ off sz z m hset;obtain⟨j0,j1,j2⟩:=wg hj;have hne:¬((p&&xs.length==0)=true):=by simp only[ak,beq_iff_eq];omega
      have hne2:¬((p&&(ch xs j z).length==0)=true):=by unfold ch;rw[uj];exact hne
      have hg:H.get (nm id)=some ⟨ty,.fz (xs.flatMap (encC T))⟩:=by rw[hH,bu,hb];simp only[aC,gH,if_neg hne]
      have fl:=dR (encC_length T) xs;have hx:xs[j.toNat]? =some (aB xs j):=by
       unfold aB;rw[aN,aw j2];rfl
      have hle:(j.toNat+1)*T.size≤xs.length*T.size:=bT _ j2;rw[eM] at hle;have hso:∀ H1 H2,ov H1 H2→td h H1 H2 m→Ci H1 H2 yy T (aB xs j) z off sz:=fun H1 H2 d g=>oM d h4 40 T _ off sz z m hset g
      have hshape:yy.cs.length=sz∧off+sz≤T.size∧allCell yy.cs=true:=by
       have d0:ov (bp h) (bp (c7 m h)):=fun i b hb=>by
        obtain⟨i',c,rfl,g1,g2⟩:=fo hb;rw[eR] at g1;by_cases ht:aI m i'=true
        ·obtain⟨pp,ss,nn,g3⟩:=nf hm ht;rw[eR] at g3;rw[g3] at g1;cases g1;cases g2
        ·rw[if_neg ht] at g1;exact⟨b,by rw[bu,g1];simp only[aC];rw[← wv (bQ.kill m h) (fun ty l e=>hinv.cells i' ty l (by rw[g1,e]))];exact g2⟩
       obtain⟨fs,q1,q2,q3,q4,q5⟩:=hso _ _ d0 (fun i hi=>⟨rfl,by
        obtain⟨pp,ss,nn,g3⟩:=nf hm hi;rw[bu,g3];rfl⟩)
       refine ⟨by rw[← q2,←cK (f:=AV.f),q1.length],q3,?_⟩;exact lx h4 40 T _ off sz z m hset
      obtain⟨hlen,hoff,hcell⟩:=hshape;obtain⟨c',hput,hc1,hc2⟩:∃ c',(BC.fz (xs.flatMap (encC T))).put (j.toNat*T.size+off) yy.cs=some c'∧c'.toMx=splice ((xs.flatMap (encC T)).map .f) (j.toNat*T.size+off) yy.cs∧c'.isCells=true:=by
       unfold BC.put;rw[if_pos]
       ·split
        ·rename_i l ys hl hys;simp only[BC.fz.injEq] at hl;subst hl;refine ⟨_,rfl,?_,rfl⟩;rw[allF_spec hys];simp only[BC.toMx];unfold splice;simp[mJ,List.map_drop]
        ·exact⟨_,rfl,rfl,rfl⟩
       ·simp only[ak];exact⟨⟨rfl,bB (by simp only[BC.len];omega)⟩,hcell⟩
      have ha0:da (.store sz x v) (xh e h) H (nm nx)=some ⟨raw undef,[nm id],[nm id],[(nm id,⟨ty,c'⟩)],[]⟩:=by
       simp only[da,h1,h3,yG,hg,hlen,beq_self_eq_true,if_true,hput]
      have hrow:rowB (.rows ty p T (ch xs j z))=rowB (.rows ty p T xs):=by
       unfold ch;simp only[rowB,uj]
      refine ⟨_,_,_,_,_,hk,fq.wrt hinv hc hH ha0 (B:=.rows ty p T (ch xs j z)) hb hm hmid hrow (fun _ _ he=>by cases he) (fun H1 H2 d g b' hb'=>?_) (fun H1 H2 y d g hy=>?_) (fun n hn=>?_)⟩
      ·simp only[gH,if_neg hne2,ae] at hb';subst hb';obtain⟨fs,q1,q2,q3,q4,q5⟩:=hso H1 H2 d g;have hfl:(ch xs j z).flatMap (encC T)=AI.splice (xs.flatMap (encC T)) (j.toNat*T.size+off) fs:=zO (encC_length T) xs j.toNat _ z hx off fs (by omega) q4;refine gk.cells hc2 rfl ?_ fun x hx=>?_
       ·rw[hc1];simp only[BC.toMx];rw[hfl];have:(AI.splice (xs.flatMap (encC T)) (j.toNat*T.size+off) fs).map AV.f=AI.splice ((xs.flatMap (encC T)).map .f) (j.toNat*T.size+off) (fs.map .f):=by unfold AI.splice;simp[mJ,List.map_drop]
        rw[this];exact (eA.refl d _).splice _ q1
       ·simp only[BC.toMx] at hx;obtain⟨q,hq,rfl⟩:=cQ.1 hx;exact ne T _ q hq
      ·simp only[bS,ae] at hy;subst hy;exact ij.refl d _
      ·simp only[aH] at hn;subst hn;rw[cU,bh,bI.2 rfl];simp
    ·cases hk
   ·cases hk
  ·cases hk
 ·cases hk
theorem GJ {con:FuncId→Option bR} {bH:TypeId→Option Ty} {ty:TypeId} {sz bytes:Nat} {z:List Value} {l c:Operand} (hc:cE P o.op=some (.mksl ty sz bytes z l c)) (hk:cN con bH (.op (.mksl ty sz bytes z l c)) e h nx K=some r):gI P o false e h nx K r:=by
 cases hcm:crowM (bH ty) with
 |none=>exact Fs hinv hi hcm hc hk
 |some n=>
  obtain⟨H,hH⟩:=fO h;simp only[cN,hcm] at hk;split at hk
  ·rename_i zc k a k' b hz hv hv2;obtain⟨hck,hk⟩:=c8 hk;rw[ak] at hck;obtain⟨hcond,hn⟩:=hck;have hn:=of_decide_eq_true hn;obtain⟨y,h1,h2⟩:=bx hi hv;obtain⟨y2,h3,h4⟩:=bx hi hv2;simp only[bS,ae] at h2 h4;subst h2;subst h4;have han:aM a=n:=by rw[hn];rfl
   obtain⟨_,_,hzc⟩:=oo h hz;refine ⟨_,_,_,_,_,hk,fq.new hinv hc hH (y0:=.row (nm nx) sz n) (rdl:=[]) (b0:=⟨ty,.fz (repl z n)⟩) (by simp only[da,h1,h3,enc1,hcond,if_true,han]) (cR.zero h) (fun ty' l' he=>?_) (fun H1 H2 d g b' hb'=>?_) (fun H1 H2 y d g hy=>?_) (by simp)⟩
   ·cases he;exact gT _ _ _ (xp _ hz n)
   ·simp only[gH,xp _ hz n,ae] at hb';subst hb';refine gk.cells rfl rfl (eA.refl d _) fun x hx=>?_
    exact gV (mZ (xp h hz n) (ud hzc n)) x hx
   ·simp only[bS,ae] at hy;subst hy;exact ij.refl d _
  ·cases hk
theorem HX {con:FuncId→Option bR} {bH:TypeId→Option Ty} {ty:TypeId} {sz len:Nat} {z:List Value} {parts:List (Nat×Nat×Operand)} (hc:cE P o.op=some (.bsl ty sz len z parts)) (hk:cN con bH (.op (.bsl ty sz len z parts)) e h nx K=some r):gI P o false e h nx K r:=by
 cases hcm:crowM (bH ty) with
 |none=>exact GW hinv hi hcm hc hk
 |some n=>
  obtain⟨H,hH⟩:=fO h;simp only[cN,hcm] at hk;split at hk
  ·rename_i zc hz;split at hk
   ·rename_i cs hf;split at hk
    ·cases hk
    ·rename_i hl;have hl:len≠0:=fun e=>hl (by rw[e];rfl)
     obtain⟨cs',h1,h2,h3⟩:=sM hi parts _ cs _ hf (xp h hz len);obtain⟨_,_,hzc⟩:=oo h hz;have hcs:=h3 (ud hzc len);have hr:bQ h ((c7 0 h).set nx (some (.cells ty cs))):=(bQ.kill 0 h).trans (bQ.set fun r hr=>by rw[bF,(hinv.kill 0).fresh] at hr;cases hr);have h2':=eS hr _ _ h2;refine ⟨_,_,_,_,_,hk,fq.new hinv hc hH (y0:=.row (nm nx) sz len) (rdl:=[]) (b0:=⟨ty,ka cs'⟩) (by simp only[da,h1,if_neg hl]) (cR.zero h) (fun ty' l' he=>?_) (fun H1 H2 d g b' hb'=>?_) (fun H1 H2 y d g hy=>?_) (by simp)⟩
     ·cases he;exact gT _ _ _ h2'
     ·simp only[gH,h2',ae] at hb';subst hb';obtain⟨q1,q2⟩:=iZ cs';refine gk.cells q2 rfl ?_ fun x hx=>?_
      ·rw[q1];exact eA.refl d _
      ·exact gV (mZ h2 hcs) x hx
     ·simp only[bS,ae] at hy;subst hy;exact ij.refl d _
   ·cases hk
  ·cases hk
theorem H0 {con:FuncId→Option bR} {bH:TypeId→Option Ty} {ty:TypeId} {sz bytes:Nat} {s x:Operand} (hc:cE P o.op=some (.app ty sz bytes s x)) (hk:cN con bH (.op (.app ty sz bytes s x)) e h nx K=some r):gI P o false e h nx K r:=by
 cases hcm:crowM (bH ty) with
 |none=>exact GY hinv hi hcm hc hk
 |some n0=>
  obtain⟨H,hH⟩:=fO h;have hfr:=hinv.fresh;simp only[cN,hcm] at hk;split at hk
  ·rename_i b y hv hv2;obtain⟨yb,h1,h2⟩:=bx hi hv;obtain⟨yy,h3,h4⟩:=bx hi hv2;unfold FK at hk;split at hk
   ·rename_i id2 sz2 m;simp only[bS,ae] at h4;subst h4;split at hk
    ·rename_i ty2 l2 hb2;split at hk
     ·rename_i hq;simp only[ak,cV] at hq;obtain⟨⟨q1,q2⟩,q3⟩:=hq;have q1:=au q1;have q2:=au q2;have q3:m≠0:=fun e=>by rw[e] at q3;cases q3
      subst q1;obtain⟨l2',hl2⟩:=dx h l2 (hinv.cells id2 ty2 l2 hb2);have hrow:=Fh hH hb2 hl2 q2;split at hk
      ·rename_i id sz1 n;simp only[bS,ae] at h2;subst h2;split at hk
       ·rename_i ty1 l1 hb1;split at hk
        ·rename_i hq;simp only[ak,cV] at hq;obtain⟨⟨⟨p1,p2⟩,p3⟩,p4⟩:=hq;have p1:=au p1;have p2:=eq_of_beq p2;have p3:=au p3;have p4:id≠id2:=fun e=>by rw[e,nW] at p4;cases p4
         subst p1;subst p2;obtain⟨hroom,hk⟩:=c8 hk;obtain⟨l1',hl1⟩:=dx h l1 (hinv.cells id _ l1 hb1);have hln:=fk hl1;have hg:H.get (nm id)=some ⟨ty1,.mx l1'⟩:=by rw[hH,bu,hb1];simp only[aC,gH,hl1]
         have hidlt:id<nx:=hinv.low id _ hb1;generalize hB:ey.cells ty1 (l1++l2)=B at hk;have hd1:bQ h (h.set id (some (.dead true 0 0))):=bQ.set fun r hr=>by rw[bF,hb1] at hr;cases hr
         have hd2:bQ (h.set id (some (.dead true 0 0))) ((h.set id (some (.dead true 0 0))).set nx (some B)):=bQ.set fun r hr=>by
          rw[bF,PT.get_set,if_neg (by omega),hfr] at hr;cases hr
         have hr:=hd1.trans hd2;have hsp:ci ((h.set id (some (.dead true 0 0))).set nx (some B)) (l1++l2)=some (l1'++l2'):=eS hr _ _ (iL hl1 hl2);have hb':bp ((h.set id (some (.dead true 0 0))).set nx (some B)) (nm nx)=some ⟨ty1,.mx (l1'++l2')⟩:=by rw[bu,PT.get_set,if_pos rfl,←hB] at *;simp only[aC,gH,hsp]
         have hbd:bp ((h.set id (some (.dead true 0 0))).set nx (some B)) (nm id)=none:=by rw[bu,PT.get_set,if_neg (by omega),PT.get_set,if_pos rfl];rfl
         have hinv1:ib (h.set id (some (.dead true 0 0))) nx:=hinv.set hd1 hidlt (cD _) (fun _ _ he=>by cases he);have ha:da (.app ty1 sz1 bytes s x) (xh e h) H (nm nx)=some ⟨.row (nm nx) sz1 (n+m),[nm id,nm id2],[nm nx,nm id],[(nm nx,⟨ty1,ka (l1'++l2')⟩)],[nm nx]⟩:=by
          simp only[da,h1,h3,hrow,hg];rw[if_pos (by
           simp only[beq_self_eq_true,kj,Bool.and_true,BC.isCells,BC.len,hroom,ak,cV];refine ⟨?_,bB (by omega)⟩;simp only[CE,Bool.or_false];cases hq:av (nm id2) (nm id) with
           |false=>rfl
           |true=>exact absurd (gA (au hq)).symm p4)]
          simp only[BC.toMx,dF (show l1'.length≤n*sz1 by omega)]
         refine ⟨_,_,_,_,_,hk,fq.mk' hc hH ha [nm nx,nm id] (fun i hi=>hi) (fun q hq=>?_) (fun i hi b' hbb=>?_) (fun H1 H2 d hw1 _ hw2=>⟨fun i hi b b' hb hb2=>?_,fun y hy=>?_⟩) (fun q hq=>?_) (fun q hq=>?_) (fun q hq=>?_) hr (hinv1.set hd2 (by omega) (by omega) fun ty' l' he=>?_) (by omega)⟩
         ·simp only[bo,cf,or_false,not_or] at hq;refine gx hinv hr fun i ei=>?_
          subst ei;rw[PT.get_set,if_neg (fun e=>hq.1 (by rw[e])),PT.get_set,if_neg (fun e=>hq.2 (by rw[e]))]
         ·simp only[bo,cf,or_false] at hi;rcases hi with rfl|rfl
          ·rw[if_pos (by simp)];exact⟨_,eo _ _⟩
          ·rw[hbd] at hbb;cases hbb
         ·simp only[bo,cf,or_false] at hi;rcases hi with rfl|rfl
          ·rw[hw1 _ (by simp),eo] at hb;rw[hw2 _ (by simp),hb'] at hb2;simp only[ae] at hb hb2;subst hb;subst hb2;obtain⟨m1,m2⟩:=iZ (l1'++l2');exact gk.eq d m2 rfl m1
          ·rw[hw2 _ (by simp),hbd] at hb2;cases hb2
         ·simp only[bS,ae] at hy;subst hy;exact ij.refl d _
         ·simp only[bo,cf,or_false] at hq;rw[bh,eO];rcases hq with rfl|rfl
          ·rw[cU];exact .inl (bI.2 rfl)
          ·rw[cU];exact .inr (bI.2 rfl)
         ·simp only[bo,cf,or_false] at hq;rw[bh,eO];rcases hq with rfl|rfl
          ·rw[cU];exact .inr (bI.2 rfl)
          ·rw[cU];exact .inl (bI.2 rfl)
         ·simp only[aH] at hq;subst hq;rw[cU];omega
         ·rw[← hB] at he;cases he;exact gT _ _ _ hsp
        ·cases hk
       ·cases hk
      ·simp only[bS,ae] at h2;subst h2;obtain⟨hroom,hk⟩:=c8 hk;have hr:bQ h ((c7 0 h).set nx (some (.cells ty l2))):=(bQ.kill 0 h).trans (bQ.set fun r hr=>by rw[bF,(hinv.kill 0).fresh] at hr;cases hr);have h2':=eS hr _ _ hl2;refine ⟨_,_,_,_,_,hk,fq.new hinv hc hH (y0:=.row (nm nx) sz2 m) (rdl:=[nm id2]) (b0:=⟨ty,ka l2'⟩) (by simp only[da,h1,h3,hrow];simp[isEmpB,isNilSl,hroom,q3]) (cR.zero h) (fun ty' l' he=>?_) (fun H1 H2 d g b' hb'=>?_) (fun H1 H2 y d g hy=>?_) (fun n hn=>?_)⟩
       ·cases he;exact gT _ _ _ h2'
       ·simp only[gH,h2',ae] at hb';subst hb';obtain⟨p1,p2⟩:=iZ l2';exact gk.eq d p2 rfl p1
       ·simp only[bS,ae] at hy;subst hy;exact ij.refl d _
       ·simp only[aH] at hn;subst hn;rw[cU];exact bI.2 rfl
      ·cases hk
     ·cases hk
    ·cases hk
   ·cases hk
  ·cases hk
theorem HB {con:FuncId→Option bR} {bH:TypeId→Option Ty} {sz:Nat} {x:Operand} {lo hi' mx:Option Operand} (hc:cE P o.op=some (.slc sz x lo hi' mx)) (hk:cN con bH (.op (.slc sz x lo hi' mx)) e h nx K=some r):gI P o false e h nx K r:=by
 have hfr:=hinv.fresh;simp only[cN] at hk;split at hk
 ·rename_i v hv;obtain⟨y,h1,h2⟩:=bx hi hv;split at hk
  ·split at hk
   ·rename_i hn;obtain⟨n,hn⟩:=eK.1 hn;have h3:=zE hn h2;exact gI.q (k:=0) hinv hc (fun H _=>by simp only[da,h1,h3,Option.isSome_some,if_true]) (cG rfl) hk
   ·cases hk
  ·rename_i b;split at hk
   ·rename_i T xs k j hb;obtain⟨y2,h3,h4⟩:=bx hi hb;simp only[bS,ae] at h2 h4;subst h2;subst h4;split at hk
    ·rename_i hs;have hs:=au hs;subst hs;obtain⟨hj,hk⟩:=c8 hk;have hfl:=dR (encC_length T) xs;have hcond:(b9 0 j&&b9 j (aa xs)&&cZ (aa xs*T.size) (xs.flatMap (encC T)).length)=true:=by
      rw[hj,kj];exact bB (by omega)
     simp only[b9,ak,decide_eq_true_eq] at hj;have hlen:(xs.take j.toNat).length=j.toNat:=by rw[cj];omega
     exact gI.q (k:=0) (y0:=.f (.sl ((xs.flatMap (encC T)).take (j.toNat*T.size)) j.toNat)) hinv hc (fun H _=>by simp only[da,h1,h3,enc1,hcond,if_true]) (cG (by simp only[bS,enc1];rw[tV (encC_length T),hlen])) hk
    ·cases hk
   ·rename_i id k j hb;obtain⟨y2,h3,h4⟩:=bx hi hb;simp only[bS,ae] at h4;subst h4;split at hk
    ·rename_i ty p T xs hr0;split at hk
     ·rename_i hs;have hs:=au hs;subst hs;obtain⟨hj,hk⟩:=c8 hk;obtain⟨H,hH⟩:=fO h;have hj0:=hj;simp only[b9,bz,ak,decide_eq_true_eq] at hj;have hp:¬((p&&xs.length==0)=true):=by
       simp only[ak,beq_iff_eq];omega
      simp only[bS,bF,hr0,aC,rowB,du,if_neg hp,ae] at h2;subst h2;have hidlt:=hinv.low id _ hr0;have hne:nx≠id:=by omega
      have hg:H.get (nm id)=some ⟨ty,.fz (xs.flatMap (encC T))⟩:=by rw[hH,bu,hr0];simp only[aC,gH,if_neg hp]
      have fl:=dR (encC_length T) xs;have hcond:(T.size==T.size&&b9 0 j&&b9 j (aa xs))=true:=by
       simp only[b9,ak,decide_eq_true_eq,beq_self_eq_true,true_and];omega
      have hlen:(xs.take j.toNat).length=j.toNat:=by rw[cj];omega
      have ha0:da (.slc T.size x none (some b) none) (xh e h) H (nm nx)=some ⟨.row (nm nx) T.size j.toNat,[nm id],[nm nx,nm id],[(nm nx,⟨ty,.fz ((xs.take j.toNat).flatMap (encC T))⟩)],[nm nx]⟩:=by
       have hc2:((BC.fz (xs.flatMap (encC T))).isCells&&cZ (aa xs*T.size) (BC.fz (xs.flatMap (encC T))).len)=true:=by
        simp only[BC.isCells,kj,BC.len];exact bB (by omega)
       simp only[da,h1,h3,enc1,hcond,if_true,hg,hc2,BC.toMx,←mJ,sr,tV (encC_length T)]
      generalize hh':(h.set id (some (.dead p T.size (aa xs)))).set nx (some (.rows ty false T (dD j.toNat xs)))=h' at hk;have hrA:bQ h (h.set id (some (.dead p T.size (aa xs)))):=bQ.set fun r hr=>by rw[bF,hr0] at hr;exact hr
      have hg2:∀ i,h'.get i=if i=nx then some (.rows ty false T (dD j.toNat xs)) else if i=id then some (.dead p T.size (aa xs)) else h.get i:=fun i=>by rw[← hh',PT.get_set,PT.get_set]
      have hr:bQ h h':=by
       rw[← hh'];refine hrA.trans (bQ.set fun r hr=>?_);rw[bF,PT.get_set,if_neg hne,hfr] at hr;cases hr
      have hinv':ib h' (nx+1):=by
       refine ⟨fun i ty l hil=>?_,fun i c hic=>?_⟩
       ·rw[hg2] at hil;split at hil
        ·cases hil
        ·split at hil
         ·cases hil
         ·exact eP hr l (hinv.cells i ty l hil)
       ·rw[hg2] at hic;split at hic
        ·omega
        ·split at hic
         ·omega
         ·have:=hinv.low i c hic;omega
      have hsame:∀ n,n≠nm nx→n≠nm id→bp h' n=bp h n:=fun n h1 h2=>gx hinv hr fun i e=>by
       subst e;rw[hg2,if_neg (fun e=>h1 (by rw[e])),if_neg (fun e=>h2 (by rw[e]))]
      have hdead:bp h' (nm id)=none:=by rw[bu,hg2,if_neg (by omega),if_pos rfl];rfl
      have hnew:bp h' (nm nx)=some ⟨ty,.fz ((xs.take j.toNat).flatMap (encC T))⟩:=by rw[bu,hg2,if_pos rfl];rfl
      have hval:bS h' (.row nx)=some (.row (nm nx) T.size j.toNat):=by simp only[bS,bF,hg2,if_true,aC,rowB,du,iN,bW,if_false,hlen]
      refine ⟨_,_,_,_,_,hk,?_⟩;refine fq.mk' hc hH ha0 [nm nx,nm id] (fun i hi=>hi) (fun n hn=>?_) (fun i hi b' hb'=>?_) (fun H1 H2 d hw1 _ hw2=>⟨fun i hi b b' hb1 hb2=>?_,fun y hy=>?_⟩) (fun n hn=>?_) (fun n hn=>?_) (fun n hn=>by simp only[aH] at hn;subst hn;rw[cU];omega) hr hinv' (by omega)
      ·simp only[bo,cf,or_false,not_or] at hn;exact hsame n hn.1 hn.2
      ·simp only[bo,cf,or_false] at hi;rcases hi with rfl|rfl
       ·exact⟨_,by rw[if_pos (by simp)];exact eo _ _⟩
       ·rw[hdead] at hb';cases hb'
      ·simp only[bo,cf,or_false] at hi;rcases hi with rfl|rfl
       ·rw[hw1 _ (by simp),eo] at hb1;rw[hw2 _ (by simp),hnew] at hb2;simp only[ae] at hb1 hb2;subst hb1;subst hb2;exact gk.refl d _
       ·rw[hw2 _ (by simp),hdead] at hb2;cases hb2
      ·rw[hval] at hy;simp only[ae] at hy;subst hy;exact ij.refl d _
      ·simp only[aH] at hn;subst hn;rw[cU];exact bI.2 rfl
      ·simp only[bo,cf,or_false] at hn;rcases hn with rfl|rfl<;>rw[cU,bh,bI.2 rfl]<;>simp
     ·cases hk
    ·cases hk
   ·cases hk
  ·rename_i b;split at hk
   ·rename_i T xs k j hb;obtain⟨y2,h3,h4⟩:=bx hi hb;simp only[bS,ae] at h2 h4;subst h2;subst h4;split at hk
    ·rename_i hs;have hs:=au hs;subst hs;obtain⟨hj,hk⟩:=c8 hk;have hfl:=dR (encC_length T) xs;have hcond:(b9 0 j&&b9 j (aa xs)&&cZ (aa xs*T.size) (xs.flatMap (encC T)).length)=true:=by
      rw[hj,kj];exact bB (by omega)
     simp only[b9,ak,decide_eq_true_eq] at hj;have hlen:(xs.drop j.toNat).length=aa xs-j.toNat:=by rw[lf]
     have htk:((xs.flatMap (encC T)).drop (j.toNat*T.size)).take ((aa xs-j.toNat)*T.size)=(xs.flatMap (encC T)).drop (j.toNat*T.size):=by
      refine dF ?_;rw[lf,hfl,Nat.sub_mul];exact cD _
     exact gI.q (k:=0) (y0:=.f (.sl ((xs.flatMap (encC T)).drop (j.toNat*T.size)) (aa xs-j.toNat))) hinv hc (fun H _=>by simp only[da,h1,h3,enc1,hcond,if_true,htk]) (cG (by simp only[bS,enc1];rw[wq (encC_length T),hlen])) hk
    ·cases hk
   ·cases hk
  ·cases hk
 ·cases hk
end ops
theorem Bc {K V:Ty} {es:List (K.den×V.den)} (hE:mpE K V es=true):es.map (fun p=>(keyOf K p.1,AV.f (enc1 V p.2)))=[]:=by
 unfold mpE at hE;split at hE
 ·rfl
 ·cases hE
theorem F6 {K V:Ty} {es:List (K.den×V.den)} (hE:mpE K V es=true):Bb K=true:=by
 unfold mpE at hE;split at hE
 ·rfl
 ·cases hE
theorem BZ {str:Bool} {K:Ty} (hK:keyT str K=true):Bb K=true:=by
 cases K<;>cases str<;>first|rfl|cases hK
theorem yo {str:Bool} {K:Ty} (hK:keyT str K=true) (k k':K.den):nU .eql (keyOf K k) (keyOf K k')=some (.bool (eqT K k k'))∧keyOK str (keyOf K k)=true∧enc1 K k= .raw (keyOf K k):=by
 cases K<;>cases str<;>first|cases hK|skip
 ·exact⟨by simp only[nU,keyOf,eqT,beq_self_eq_true,if_true,ae,rJ];exact Bool.beq_eq_decide_eq _ _,rfl,rfl⟩
 ·exact⟨by simp only[nU,keyOf,eqT,sU],rfl,rfl⟩
theorem zC {str:Bool} {K V:Ty} (hK:keyT str K=true) (k:K.den):∀ es:List (K.den×V.den),mS (keyOf K k) (es.map fun p=>(keyOf K p.1,AV.f (enc1 V p.2)))=some ((zD k es).map fun v=>AV.f (enc1 V v))
 |[]=>rfl
 |(k',v)::r=>by
  simp only[eL,mS,(yo hK k k').1,zD];cases hb:eqT K k k' with
  |true=>rfl
  |false=>simp only[bW,if_false];exact zC hK k r
theorem BY {str:Bool} {K V:Ty} (hK:keyT str K=true) (k:K.den) (v:V.den):∀ es:List (K.den×V.den),qh (keyOf K k) (.f (enc1 V v)) (es.map fun p=>(keyOf K p.1,AV.f (enc1 V p.2)))=some ((ym k v es).map fun p=>(keyOf K p.1,AV.f (enc1 V p.2)))
 |[]=>rfl
 |(k',v')::r=>by
  simp only[eL,qh,(yo hK k k').1,ym];cases hb:eqT K k k' with
  |true=>rfl
  |false=>simp only[BY hK k v r,bW,if_false,eL]
section ops
variable {R:Type} {P:Program} {o:Oper} {e:TEnv} {h:THeap} {nx:Nat} {K:KO R} {r:R}
theorem Le.aggOf {l:List FV} (hc:∀ x∈l,x.isCell=true):Le (.agg (l.map .f)) (.f (.agg l)):=by
 intro φ O w v hr;cases hr with
 |@agg _ vs hl hcl hrr=>
  refine .f (.agg l vs (by simpa using hl) hc fun j y u hy hu=>?_);have:=hrr j (.f y) u (by rw[aY,hy];rfl) hu;cases this with
  |f h=>exact h
def zq (S:Ty) (l:List TV):Option (S.den×Nat×List TV):=match l with
 |c::r=>(match e9 PT.leaf S c with|some (x,m)=>some (x,m,r)|none=>none)
 |[]=>none
theorem map_f_inj:∀ {l l':List FV},l.map AV.f=l'.map AV.f→l=l'
 |[],[],_=>rfl
 |[],_::_,h=>by simp at h
 |_::_,[],h=>by simp at h
 |x::r,y::r',h=>by
  simp only[eL,fK,AV.f.injEq] at h;rw[h.1,map_f_inj h.2]
theorem vD (h:THeap):∀ (ds:List TypeDesc) (T:Ty),descT ds=some T→∀ (n:Nat) (l:List TV) (x:T.den) (m:Nat) (r:List TV),c9 PT.leaf n T l=some (x,m,r)→∀ l',ci h l=some l'→∃ l2,ci h r=some l2∧l'=(encC T x).map .f++l2
 |[],T,hd,n,l,x,m,r,hp,l',hl=>by
  simp only[descT,ae] at hd;subst hd;cases n with
  |zero=>simp[c9] at hp
  |succ n=>
   simp only[c9,ae,ay] at hp;obtain⟨_,_,rfl⟩:=hp;exact⟨l',hl,rfl⟩
 |d::ds,T,hd,n,l,x,m,r,hp,l',hl=>by
  have plain:∀ (S:Ty),S.one=true→(∀ t,S≠ .sl t)→∀ (v:TV) (a:S.den) (m:Nat) (y:AV),e9 PT.leaf S v=some (a,m)→bS h v=some y→y= .f (enc1 S a):=by
   intro S hS hns v a m y ha hy;cases v with
   |f Q q=>
    simp only[e9] at ha;split at ha
    ·rename_i z hz;simp only[ae,ay] at ha;obtain⟨rfl,_⟩:=ha;obtain⟨e,rfl⟩:=eZ hz;subst e;simp only[bS,ae] at hy;exact hy.symm
    ·cases ha
   |emp=>
    cases S with
    |sl t=>exact absurd rfl (hns t)
    |_=>simp[e9] at ha
   |nil=>
    cases S with
    |sl t=>exact absurd rfl (hns t)
    |_=>simp[e9] at ha
   |row id=>simp[e9,PT.get] at ha
   |fel T xs j hj off=>simp[e9] at ha
   |pel id sz j off=>simp[e9] at ha
   |ptr id off=>simp[e9] at ha
   |csl id off z=>simp[e9] at ha
   |mp id=>simp[e9] at ha
   |agg q=>simp[e9] at ha
   |tup q=>simp[e9] at ha
   |clo f q=>simp[e9] at ha
   |undef=>simp[e9] at ha
   |np=>simp[e9] at ha
   |anyb=>simp[e9] at ha
  have one:∀ (S:Ty),S.one=true→(∀ t,S≠ .sl t)→∀ (n:Nat) (l:List TV) (a:S.den) (m:Nat) (r:List TV),c9 PT.leaf n S l=some (a,m,r)→∀ l',ci h l=some l'→∃ l2,ci h r=some l2∧l'=(encC S a).map .f++l2:=by
   intro S hS hns n l a m r hp l' hl;cases n with
   |zero=>simp[c9] at hp
   |succ n=>
    cases l with
    |nil=>
     cases S with
     |int k=>cases hp
     |bool=>cases hp
     |str=>cases hp
     |sl t=>exact absurd rfl (hns t)
     |_=>cases hS
    |cons c q=>
     have hpp:zq S (c::q)=some (a,m,r):=by
      cases S with
      |int k=>simp only[c9] at hp;simp only[zq];cases hq:e9 PT.leaf (.int k) c with
       |none=>rw[hq] at hp;cases hp
       |some z=>rw[hq] at hp;exact hp
      |bool=>simp only[c9] at hp;simp only[zq];cases hq:e9 PT.leaf .bool c with
       |none=>rw[hq] at hp;cases hp
       |some z=>rw[hq] at hp;exact hp
      |str=>simp only[c9] at hp;simp only[zq];cases hq:e9 PT.leaf .str c with
       |none=>rw[hq] at hp;cases hp
       |some z=>rw[hq] at hp;exact hp
      |sl t=>exact absurd rfl (hns t)
      |_=>cases hS
     simp only[zq] at hpp;split at hpp
     ·rename_i a1 m1 h1;simp only[ae,ay] at hpp;obtain⟨rfl,rfl,rfl⟩:=hpp;obtain⟨y,l2,rfl,g1,g2⟩:=ct hl;have:=plain S hS hns c a1 m1 y h1 g1;subst this;exact⟨l2,g2,by rw[(encC_one S a1 hS).1];rfl⟩
     ·cases hpp
  have two:∀ (S U:Ty),S.one=true→(∀ t,S≠ .sl t)→descT ds=some U→T= .pr S U→∃ l2,ci h r=some l2∧l'=(encC T x).map .f++l2:=by
   intro S U hS hns hU e;subst e;cases n with
   |zero=>simp[c9] at hp
   |succ n=>
    simp only[c9] at hp;split at hp
    ·rename_i x1 m1 r1 h1;split at hp
     ·rename_i x2 m2 r2 h2;simp only[ae,ay] at hp;obtain⟨rfl,rfl,rfl⟩:=hp;obtain⟨l2,g1,g2⟩:=one S hS hns n l x1 m1 r1 h1 l' hl;obtain⟨l3,g3,g4⟩:=vD h ds U hU n r1 x2 m2 r2 h2 l2 g1;exact⟨l3,g3,by rw[g2,g4,encC,fJ,jM]⟩
     ·cases hp
    ·cases hp
  cases d with
  |int k=>
   simp only[descT] at hd;split at hd
   ·rename_i U hU;simp only[ae] at hd;exact two (.int k) U rfl (fun t h=>by cases h) hU hd.symm
   ·cases hd
  |bool=>
   simp only[descT] at hd;split at hd
   ·rename_i U hU;simp only[ae] at hd;exact two .bool U rfl (fun t h=>by cases h) hU hd.symm
   ·cases hd
  |string=>
   simp only[descT] at hd;split at hd
   ·rename_i U hU;simp only[ae] at hd;exact two .str U rfl (fun t h=>by cases h) hU hd.symm
   ·cases hd
  |_=>simp[descT] at hd
theorem eq_plain:∀ (ds:List TypeDesc) (T:Ty),descT ds=some T→∀ a b:T.den,eqCells ds (encC T a) (encC T b)=some (eqT T a b)
 |[],T,hd,a,b=>by simp only[descT,ae] at hd;subst hd;rfl
 |d::ds,T,hd,a,b=>by
  cases d with
  |int k=>
   simp only[descT] at hd;split at hd
   ·rename_i U hU;simp only[ae] at hd;subst hd;have ih:=eq_plain ds U hU a.2 b.2;simp only[encC,fc,jr,eqCells,eqCell,beq_self_eq_true,if_true,eqT];cases he:((a.1:Int)==b.1) with
    |true=>have he':(a.1:Int)=b.1:=by simpa using he
           simp only[ih,he',decide_true,kj]
    |false=>have he':¬(a.1:Int)=b.1:=by simpa using he
            simp only[he',decide_false,iN]
   ·cases hd
  |bool=>
   simp only[descT] at hd;split at hd
   ·rename_i U hU;simp only[ae] at hd;subst hd;have ih:=eq_plain ds U hU a.2 b.2;simp only[encC,fc,jr,eqCells,eqCell,eqT];cases he:((a.1:Bool)==b.1)<;>simp[he,ih]
   ·cases hd
  |string=>
   simp only[descT] at hd;split at hd
   ·rename_i U hU;simp only[ae] at hd;subst hd;have ih:=eq_plain ds U hU a.2 b.2;simp only[encC,fc,jr,eqCells,eqCell,eqT,sU];cases he:decide ((a.1:List UInt8)=b.1) with
    |true=>simp only[ih,kj]
    |false=>simp only[iN]
   ·cases hd
  |_=>simp[descT] at hd
theorem xJ {u:TV} (hu:u.isC=false) {lu:List TV} (hl:u.cs=some lu) {ds:List TypeDesc} {T:Ty} (hd:descT ds=some T) {a:T.den} {m:Nat} (hp:c9 PT.leaf 40 T lu=some (a,m,[])) {y:AV} (hy:bS h u=some y):Le y (.f (.agg (encC T a))):=by
 obtain⟨h1,_⟩:=xE hl hy;obtain⟨l2,h2,h3⟩:=vD h ds T hd 40 lu a m [] hp _ h1;simp only[ci,ae] at h2;subst h2;rw[ul] at h3;cases u with
 |agg l=>
  simp only[bS] at hy;split at hy
  ·rename_i l' _;simp only[ae] at hy;subst hy;have:l'=(encC T a).map .f:=h3;rw[this];exact Le.aggOf (encC_cell T a)
  ·cases hy
 |f S x=>
  simp only[bS,ae] at hy;subst hy;have ho:S.one=false:=hu;rw[qP] at h3;have:encC S x=encC T a:=map_f_inj h3;rw[enc1_agg S x ho,this];exact Le.refl _
 |tup l=>simp[TV.cs,TV.isC] at hl
 |undef=>simp[TV.cs,TV.isC] at hl
 |np=>cases hu
 |anyb=>simp[TV.cs,TV.isC] at hl
 |fel T xs j hj off=>cases hu
 |pel id sz j off=>cases hu
 |ptr id off=>cases hu
 |csl id off z=>cases hu
 |row id=>cases hu
 |emp=>cases hu
 |nil=>cases hu
 |mp id=>cases hu
 |clo g l=>cases hu
variable (hinv:ib h nx) (hi:m6 e h)
include hinv hi
theorem HV {con:FuncId→Option bR} {bH:TypeId→Option Ty} {neg:Bool} {ds:List TypeDesc} {x y:Operand} {st:Bool} (hc:cE P o.op=some (.eqs neg ds x y)) (hk:cN con bH (.op (.eqs neg ds x y)) e h nx K=some r):gI P o st e h nx K r:=by
 obtain⟨H,hH⟩:=fO h;simp only[cN] at hk;split at hk
 ·rename_i T u v hd hu hv;split at hk
  ·cases hk
  ·rename_i hcc;simp only[eO,not_or,Bool.not_eq_true] at hcc;split at hk
   ·rename_i lu lv hlu hlv;split at hk
    ·rename_i a m1 b m2 hpa hpb;obtain⟨yu,h1,h2⟩:=bx hi hu;obtain⟨yv,h3,h4⟩:=bx hi hv;obtain⟨⟨⟨hc1,hc2⟩,hc3⟩,hc4⟩:=hcc;have l1:=xJ hc1 hlu hd hpa h2;have l2:=xJ hc2 hlv hd hpb h4;have tmp:∀ (z:Operand) (q:TV),dB e z=some q→q.isC=false→isAggC z=false→∃ t,z= .tmp t:=by
      intro z q hz hq hg;cases z with
      |tmp t=>exact⟨t,rfl⟩
      |const c=>
       have hz:cst c=some q:=by
        simp only[dB,cstA] at hz;split at hz
        ·cases hg
        ·exact hz
       have:=(wA h hz).2.2;rw[hq] at this;cases this
      |func g=>simp only[dB,ae] at hz;subst hz;cases hq
      |global g=>
       simp only[dB] at hz;split at hz
       ·cases hz;cases hq
       ·cases hz
     obtain⟨t,rfl⟩:=tmp x u hu hc1 hc3;obtain⟨t',rfl⟩:=tmp y v hv hc2 hc4;have same:t=t'→encC T a=encC T b:=by
      intro ht;subst ht;rw[hu] at hv;cases hv;rw[hlu] at hlv;cases hlv;rw[hpa] at hpb;cases hpb;rfl
     let E1:Env:=((xh e h).set t (some (.f (.agg (encC T a))))).set t' (some (.f (.agg (encC T b))))
     have e1:iK E1 (.tmp t)=some (.f (.agg (encC T a))):=by
      simp only[iK,E1,PT.get_set];by_cases ht:t=t'
      ·rw[if_pos ht,same ht]
      ·rw[if_neg ht];simp
     have e2:iK E1 (.tmp t')=some (.f (.agg (encC T b))):=by simp only[iK,E1,PT.get_set,if_true]
     have ha:da (.eqs neg ds (.tmp t) (.tmp t')) E1 H 0=some ⟨raw (.bool (eqT T a b !=neg)),[],[],[],[]⟩:=by
      simp only[da,e1,e2,eq_plain ds T hd a b];rfl
     have ht:=vF hc ha;rw[hH] at ht;have ht2:dX P o (dC e h) (bp h) _:=ht.envLe (e2:=dC e h) fun s z _ hz=>by
      simp only[E1,PT.get_set] at hz;rw[← om];simp only[iK] at h1 h3;split at hz
      ·rename_i es;subst es;cases hz;exact⟨yv,h3,l2⟩
      ·split at hz
       ·rename_i es;subst es;cases hz;exact⟨yu,h1,l1⟩
       ·exact⟨z,hz,Le.refl _⟩
     refine ⟨_,0,0,h,nx,hk,⟨⟨_,ht2,fun y hy=>?_,by simp[rI.eff,nh],by simp[rI.eff],by simp[rI.eff],by simp[rI.eff]⟩,fun _ _ h=>h,hinv,cD _,fun _=>⟨rfl,rfl⟩⟩⟩;simp only[bS,ae] at hy;exact hy
    ·cases hk
   ·cases hk
 ·cases hk
theorem HI {con:FuncId→Option bR} {bH:TypeId→Option Ty} (hc:cE P o.op=some .mkm) (hk:cN con bH (.op .mkm) e h nx K=some r):gI P o false e h nx K r:=by
 have _:=hi;obtain⟨H,hH⟩:=fO h;refine ⟨_,_,_,_,_,hk,fq.new hinv hc hH (y0:=.mp (nm nx)) (rdl:=[]) (b0:=⟨0,.mp []⟩) rfl (cR.zero h) (fun _ _ he=>by cases he) (fun H1 H2 d g b' hb'=>?_) (fun H1 H2 y d g hy=>?_) (by simp)⟩
 ·cases hb';exact gk.refl d _
 ·simp only[bS,ae] at hy;subst hy;exact ij.refl d _
theorem GP {con:FuncId→Option bR} {bH:TypeId→Option Ty} {x:Operand} (hc:cE P o.op=some (.lenm x)) (hk:cN con bH (.op (.lenm x)) e h nx K=some r):gI P o false e h nx K r:=by
 obtain⟨H,hH⟩:=fO h;simp only[cN] at hk;split at hk
 ·rename_i id hv;split at hk
  ·rename_i K' V es hb;obtain⟨y,h1,h2⟩:=bx hi hv;simp only[bS,ae] at h2;subst h2;split at hk
   case isFalse=>cases hk
   rename_i hO;have hg:H.get (nm id)=some ⟨0,.mp (es.map fun p=>(keyOf K' p.1,.f (enc1 V p.2)))⟩:=by rw[hH,bu,hb];show some (ph.mk 0 (mpC K' V es))=_;rw[ry hO]
   exact⟨_,_,_,_,_,hk,fq.pure (k:=0) hinv hc hH (y0:=raw (.int .i64 es.length)) (rdl:=[nm id]) (by simp only[da,h1,hg,cK]) (fun y hy=>by simp only[bS,ae] at hy;subst hy;exact Le.refl _) (fun n hn=>by simp only[aH] at hn;subst hn;rw[cU];exact bI.2 rfl) (fun h=>by cases h)⟩
  ·cases hk
 ·cases hk
theorem HM {con:FuncId→Option bR} {bH:TypeId→Option Ty} {str:Bool} {z:Value} {x k:Operand} (hc:cE P o.op=some (.lku str z x k)) (hk:cN con bH (.op (.lku str z x k)) e h nx K=some r):gI P o false e h nx K r:=by
 obtain⟨H,hH⟩:=fO h;simp only[cN] at hk;split at hk
 ·rename_i id KT kv hv hv2;split at hk
  ·rename_i K' V es hb;split at hk
   ·rename_i hK;obtain⟨y,h1,h2⟩:=bx hi hv;obtain⟨y2,h3,h4⟩:=bx hi hv2;simp only[bS,ae] at h2 h4;subst h2;subst h4;simp only[ak] at hK;have hg:H.get (nm id)=some ⟨0,.mp (es.map fun p=>(keyOf K' p.1,.f (enc1 V p.2)))⟩:=by rw[hH,bu,hb];show some (ph.mk 0 (mpC K' V es))=_;rw[ry hK.2]
    obtain⟨_,hok,henc⟩:=yo hK.1 kv kv;rw[henc] at h3;have hrd:∀ n∈[nm id],aI (gZ id) (ow n)=true:=fun n hn=>by simp only[aH] at hn;subst hn;rw[cU];exact bI.2 rfl
    split at hk
    ·rename_i hE;split at hk
     ·rename_i v hz;have hzz:=(wA h hz).1;exact⟨_,_,_,_,_,hk,fq.pure (k:=0) hinv hc hH (y0:=raw z) (rdl:=[nm id]) (by simp only[da,h1,h3,hg,hok,if_true,Bc hE,mS]) (fun y hy=>by rw[hzz] at hy;cases hy;exact Le.refl _) hrd (fun h=>by cases h)⟩
     ·cases hk
    ·split at hk
     ·rename_i kv' Z zv hkv hz;split at hk
      ·rename_i zv' hzv;obtain⟨e1,e2⟩:=eZ hkv;cases e1;subst e2;obtain⟨e3,e4⟩:=eZ hzv;cases e3;subst e4;have hzz:=(wA h hz).1;simp only[bS,ae] at hzz;refine ⟨_,_,_,_,_,hk,fq.pure (k:=0) hinv hc hH (y0:=.f (enc1 _ (vR kv' es zv'))) (rdl:=[nm id]) ?_ (fun y hy=>by simp only[bS,ae] at hy;subst hy;exact Le.refl _) hrd (fun h=>by cases h)⟩;simp only[da,h1,h3,hg,hok,if_true,zC hK.1];unfold vR;cases hf:zD kv' es with
       |none=>simp only[Option.map_none];rw[hzz]
       |some v=>rfl
      ·cases hk
     ·cases hk
   ·cases hk
  ·cases hk
 ·cases hk
theorem HH {con:FuncId→Option bR} {bH:TypeId→Option Ty} {str:Bool} {x k v:Operand} (hc:cE P o.op=some (.mup str x k v)) (hk:cN con bH (.op (.mup str x k v)) e h nx K=some r):gI P o false e h nx K r:=by
 obtain⟨H,hH⟩:=fO h;simp only[cN] at hk;split at hk
 ·rename_i id KT kv VT vv hv hv2 hv3;split at hk
  ·rename_i K' V es hb;split at hk
   ·rename_i hK;simp only[ak] at hK;obtain⟨y,h1,h2⟩:=bx hi hv;obtain⟨y2,h3,h4⟩:=bx hi hv2;obtain⟨y3,h5,h6⟩:=bx hi hv3;simp only[bS,ae] at h2 h4 h6;subst h2;subst h4;subst h6;have hg:H.get (nm id)=some ⟨0,.mp (es.map fun p=>(keyOf K' p.1,.f (enc1 V p.2)))⟩:=by rw[hH,bu,hb];show some (ph.mk 0 (mpC K' V es))=_;rw[ry hK.2]
    obtain⟨_,hok,henc⟩:=yo hK.1.1 kv kv;rw[henc] at h3;have hrd:∀ n∈[nm id],aI (gZ id) (ow n)=true:=fun n hn=>by simp only[aH] at hn;subst hn;rw[cU];exact bI.2 rfl
    split at hk
    ·rename_i hE;exact⟨_,_,_,_,_,hk,fq.wrt (k:=0) (m:=0) (v:=.undef) (rd:=gZ id) hinv hc hH (y0:=raw undef) (b0:=⟨0,.mp [(keyOf KT kv,.f (enc1 VT vv))]⟩) (rdl:=[nm id]) (by simp only[da,h1,h3,h5,hg,hok,if_true,Bc hE,qh]) (B:=.mp KT VT [(kv,vv)]) hb (cR.zero h) (by simp) rfl (fun ty' l2 he=>by cases he) (fun H1 H2 d g b' hb'=>by simp only[gH,ry (BZ hK.1.1),ae] at hb';subst hb';exact gk.refl d _) (fun H1 H2 y d g hy=>by simp only[bS,ae] at hy;subst hy;exact ij.refl d _) hrd⟩
    ·split at hk
     ·rename_i kv' vv' hkv hvv;obtain⟨e1,e2⟩:=eZ hkv;cases e1;subst e2;obtain⟨e3,e4⟩:=eZ hvv;cases e3;subst e4;exact⟨_,_,_,_,_,hk,fq.wrt (k:=0) (m:=0) (v:=.undef) (rd:=gZ id) hinv hc hH (y0:=raw undef) (b0:=⟨0,.mp ((ym kv' vv' es).map fun p=>(keyOf _ p.1,.f (enc1 _ p.2)))⟩) (rdl:=[nm id]) (by simp only[da,h1,h3,h5,hg,hok,if_true,BY hK.1.1]) (B:=.mp _ _ (ym kv' vv' es)) hb (cR.zero h) (by simp) rfl (fun ty' l2 he=>by cases he) (fun H1 H2 d g b' hb'=>by simp only[gH,ry (BZ hK.1.1),ae] at hb';subst hb';exact gk.refl d _) (fun H1 H2 y d g hy=>by simp only[bS,ae] at hy;subst hy;exact ij.refl d _) hrd⟩
     ·cases hk
   ·cases hk
  ·cases hk
 ·cases hk
theorem HC {con:FuncId→Option bR} {bH:TypeId→Option Ty} {x:Operand} (hc:cE P o.op=some (.rng x)) (hk:cN con bH (.op (.rng x)) e h nx K=some r):gI P o false e h nx K r:=by
 obtain⟨H,hH⟩:=fO h;simp only[cN] at hk;split at hk
 ·rename_i s hv;obtain⟨y,h1,h2⟩:=bx hi hv;simp only[bS,ae] at h2;subst h2;refine ⟨_,_,_,_,_,hk,fq.new hinv hc hH (y0:=.ptr (nm nx) 0) (rdl:=[]) (b0:=⟨0,.it ⟨gt s⟩ 0⟩) (by simp only[da,h1];rfl) (cR.zero h) (fun _ _ he=>by cases he) (fun H1 H2 d g b' hb'=>?_) (fun H1 H2 y d g hy=>?_) (by simp)⟩
  ·cases hb';exact gk.refl d _
  ·simp only[bS,ae] at hy;subst hy;exact ij.refl d _
 ·cases hk
theorem HE {con:FuncId→Option bR} {bH:TypeId→Option Ty} {x:Operand} (hc:cE P o.op=some (.nxt x)) (hk:cN con bH (.op (.nxt x)) e h nx K=some r):gI P o false e h nx K r:=by
 obtain⟨H,hH⟩:=fO h;simp only[cN] at hk;split at hk
 ·rename_i id hv;split at hk
  ·rename_i K' V es hb;split at hk
   ·rename_i s p hI;obtain⟨y,h1,h2⟩:=bx hi hv;simp only[bS,ae] at h2;subst h2;have hg:H.get (nm id)=some ⟨0,.it ⟨gt s⟩ p⟩:=by rw[hH,bu,hb];show some (ph.mk 0 (mpC K' V es))=_;rw[Ga hI]
    have hrd:∀ n∈[nm id],aI (gZ id) (ow n)=true:=fun n hn=>by simp only[aH] at hn;subst hn;rw[cU];exact bI.2 rfl
    rcases kf hk with ⟨hp,hk⟩|⟨hp,hk⟩
    ·obtain⟨hj,hk⟩:=c8 hk;have hp:=aW hp;have e2:(⟨gt s⟩:ByteArray).data.toList[p]? =some (List.getD s p 0):=by
      show s[p]? =_;rw[aN,aw hp];rfl
     have e3:eg (List.getD s p 0).toNat 128=true:=by
      have hj:(ah (List.getD s p 0).toNat:Int)<128:=of_decide_eq_true hj;exact bB (gu.1 hj)
     exact⟨_,_,_,_,_,hk,fq.wrt (k:=0) (m:=0) (rd:=gZ id) hinv hc hH (y0:=.tup [raw (.bool true),raw (.int .i64 p),raw (.int .i32 (List.getD s p 0).toNat)]) (b0:=⟨0,.it ⟨gt s⟩ (p+1)⟩) (rdl:=[nm id]) (by simp only[da,h1,hg,e2,e3,if_true]) (B:=.mp itK .un [((s,ah (p+1)),())]) hb (cR.zero h) (by simp) rfl (fun ty' l2 he=>by cases he) (fun H1 H2 d g b' hb'=>by cases hb';exact gk.refl d _) (fun H1 H2 y d g hy=>by cases hy;exact ij.refl d _) hrd⟩
    ·have hp:s.length≤p:=Nat.not_lt.1 fun q=>by rw[show eg p s.length=true from bB q] at hp;cases hp
     have e2:(⟨gt s⟩:ByteArray).data.toList[p]? =none:=by
      show s[p]? =_;exact bU hp
     exact⟨_,_,_,_,_,hk,fq.wrt (k:=0) (m:=0) (rd:=gZ id) hinv hc hH (y0:=.tup [raw (.bool false)]) (b0:=⟨0,.it ⟨gt s⟩ p⟩) (rdl:=[nm id]) (by simp only[da,h1,hg,e2]) (B:=.mp itK .un [((s,ah p),())]) hb (cR.zero h) (by simp) rfl (fun ty' l2 he=>by cases he) (fun H1 H2 d g b' hb'=>by cases hb';exact gk.refl d _) (fun H1 H2 y d g hy=>by cases hy;exact ij.refl d _) hrd⟩
   ·cases hk
  ·cases hk
 ·cases hk
theorem K_op {con:FuncId→Option bR} {bH:TypeId→Option Ty} {s:C8} (hc:cE P o.op=some s) (hk:cN con bH (.op s) e h nx K=some r):gI P o s.still e h nx K r:=by
 cases s with
 |mv x=>exact K_mv hinv hi hc hk
 |pick c a b=>exact GG hinv hi hc hk
 |alloc ty z=>exact Fv hinv hi hc hk
 |box ty x=>exact HY hinv hi hc hk
 |build z parts=>exact Fu hinv hi hc hk
 |bsl ty sz len z parts=>exact HX hinv hi hc hk
 |load sz ag x=>exact GM hinv hi hc hk
 |store sz x v=>exact Fr hinv hi hc hk
 |nilc x=>exact GI hinv hi hc hk
 |bin op x y=>exact HZ hinv hi hc hk
 |eqs neg ds x y=>exact HV hinv hi hc hk
 |eqb neg x y=>exact HW hinv hi hc hk
 |isnil neg x=>exact Ft hinv hi hc hk
 |not x=>exact HG hinv hi hc hk
 |conv k x=>exact GV hinv hi hc hk
 |mksl ty sz bytes z l c=>exact GJ hinv hi hc hk
 |slc sz x lo hi' mx=>exact HB hinv hi hc hk
 |fad off x=>exact HR hinv hi hc hk
 |fld off sz ag x=>exact HQ hinv hi hc hk
 |iad sz x i=>exact HP hinv hi hc hk
 |idx n sz ag x i=>exact HO hinv hi hc hk
 |iada n sz x i=>exact GR hinv hi hc hk
 |ext x i=>exact HU hinv hi hc hk
 |len x=>exact HN hinv hi hc hk
 |lens x=>exact GO hinv hi hc hk
 |max x y=>exact HL hinv hi hc hk
 |min x y=>exact HK hinv hi hc hk
 |sidx x i=>exact GF hinv hi hc hk
 |app ty sz bytes s x=>exact H0 hinv hi hc hk
 |copy sz d x=>exact GU hinv hi hc hk
 |mkf f caps=>exact HJ hinv hi hc hk
 |mkm=>exact HI hinv hi hc hk
 |rng x=>exact HC hinv hi hc hk
 |nxt x=>exact HE hinv hi hc hk
 |lenm x=>exact GP hinv hi hc hk
 |lku str z x k=>exact HM hinv hi hc hk
 |mup str x k v=>exact HH hinv hi hc hk
 |_=>simp[cN] at hk
end ops
mutual
def AV.ren (g:Nat→Nat):AV→AV
 |.f x=>.f x
 |.ptr id off=>.ptr (g id) off
 |.sl id off n=>.sl (g id) off n
 |.row id sz n=>.row (g id) sz n
 |.mp id=>.mp (g id)
 |.emp=>.emp
 |.anyb=>.anyb
 |.agg l=>.agg (AV.renL g l)
 |.tup l=>.tup (AV.renL g l)
 |.clo q l=>.clo q (AV.renL g l)
def AV.renL (g:Nat→Nat):List AV→List AV
 |[]=>[]
 |x::r=>x.ren g::AV.renL g r
end
theorem ju (g:Nat→Nat):∀ l,AV.renL g l=l.map (AV.ren g)
 |[]=>rfl
 |x::r=>by rw[AV.renL,ju g r];rfl
theorem r7 (g:Nat→Nat) (x:AV):(x.ren g).isCell=x.isCell:=by cases x<;>rfl
theorem cg.renTo {φ φ':PM} {g:Nat→Nat} {O:Nat→Prop} {w:World} (hk:∀ i k,φ i=some k→φ' (g i)=some k) {x:AV} {v:Value} (h:cg φ O w x v):cg φ' O w (x.ren g) v:=by
 induction h with
 |f h=>exact .f h
 |ptr h=>exact .ptr (hk _ _ h)
 |sl h hn hc=>exact .sl (hk _ _ h) hn hc
 |row h hn hc hsh=>exact .row (hk _ _ h) hn hc hsh
 |emp=>exact .emp
 |anyb=>exact .anyb
 |mp h=>exact .mp (hk _ _ h)
 |agg hl hcl hr ih=>
  simp only[AV.ren,ju];refine .agg (by simpa using hl) (fun x hx=>?_) fun j x v hx hv=>?_
  ·obtain⟨y,hy,rfl⟩:=cQ.1 hx;rw[r7];exact hcl y hy
  ·rw[aY] at hx;obtain⟨y,hy,rfl⟩:=fD.1 hx;exact ih j y v hy hv
 |tup hl hr ih=>
  simp only[AV.ren,ju];refine .tup (by simpa using hl) fun j x v hx hv=>?_
  rw[aY] at hx;obtain⟨y,hy,rfl⟩:=fD.1 hx;exact ih j y v hy hv
 |clo hl hr ih=>
  simp only[AV.ren,ju];refine .clo (by simpa using hl) fun j x v hx hv=>?_
  rw[aY] at hx;obtain⟨y,hy,rfl⟩:=fD.1 hx;exact ih j y v hy hv
theorem cg.renFrom {φ φ':PM} {g:Nat→Nat} {O:Nat→Prop} {w:World} {p:Nat→Bool} (hk:∀ i k,p i=true→φ (g i)=some k→φ' i=some k) {z:AV} {v:Value} (h:cg φ O w z v):∀ x:AV,x.all p=true→z=x.ren g→cg φ' O w x v:=by
 induction h with
 |f h=>intro x hp e;cases x<;>simp only[AV.ren,reduceCtorEq] at e;cases e;exact .f h
 |ptr h=>intro x hp e;cases x<;>simp only[AV.ren,reduceCtorEq] at e;cases e;exact .ptr (hk _ _ hp h)
 |sl h hn hc=>intro x hp e;cases x<;>simp only[AV.ren,reduceCtorEq] at e;cases e;exact .sl (hk _ _ hp h) hn hc
 |row h hn hc hsh=>intro x hp e;cases x<;>simp only[AV.ren,reduceCtorEq] at e;cases e;exact .row (hk _ _ hp h) hn hc hsh
 |emp=>intro x hp e;cases x<;>simp only[AV.ren,reduceCtorEq] at e;exact .emp
 |anyb=>intro x hp e;cases x<;>simp only[AV.ren,reduceCtorEq] at e;exact .anyb
 |mp h=>intro x hp e;cases x<;>simp only[AV.ren,reduceCtorEq] at e;cases e;exact .mp (hk _ _ hp h)
 |agg hl hcl hr ih=>
  intro x hp e;cases x<;>simp only[AV.ren,reduceCtorEq] at e;rename_i l;cases e;rw[ju] at hl hcl hr ih;refine .agg (by simpa using hl) (fun x hx=>?_) fun j x v hx hv=>?_
  ·have:=hcl (x.ren g) (cQ.2 ⟨x,hx,rfl⟩);rwa [r7] at this
  ·exact ih j (x.ren g) v (by rw[aY,hx];rfl) hv x (ia hp x (bc hx)) rfl
 |tup hl hr ih=>
  intro x hp e;cases x<;>simp only[AV.ren,reduceCtorEq] at e;rename_i l;cases e;rw[ju] at hl hr ih;refine .tup (by simpa using hl) fun j x v hx hv=>?_
  exact ih j (x.ren g) v (by rw[aY,hx];rfl) hv x (ia hp x (bc hx)) rfl
 |clo hl hr ih=>
  intro x hp e;cases x<;>simp only[AV.ren,reduceCtorEq] at e;rename_i l;cases e;rw[ju] at hl hr ih;refine .clo (by simpa using hl) fun j x v hx hv=>?_
  exact ih j (x.ren g) v (by rw[aY,hx];rfl) hv x (ia hp x (bc hx)) rfl
def BC.ren (g:Nat→Nat):BC→BC
 |.fz l=>.fz l
 |.mx l=>.mx (l.map (AV.ren g))
 |.mp es=>.mp (es.map fun p=>(p.1,p.2.ren g))
 |.it s p=>.it s p
def ph.ren (g:Nat→Nat) (b:ph):ph:=⟨b.ty,b.c.ren g⟩
theorem fm.renTo {φ φ':PM} {g:Nat→Nat} {O O':Nat→Prop} {w:World} (hk:∀ x v,cg φ O w x v→cg φ' O' w (x.ren g) v) {b:ph} {o:Obj} (h:fm φ O w b o):fm φ' O' w (b.ren g) o:=by
 obtain⟨ty,c⟩:=b;unfold fm at h ⊢;simp only[ph.ren];cases c with
 |fz l=>
  simp only[BC.ren];obtain⟨arr,h1,h2,h3⟩:=h;refine ⟨arr,h1,h2,fun j x hx=>?_⟩;obtain⟨a,v,c,d⟩:=h3 j x hx;simp only[BC.get] at hx;obtain⟨q,_,rfl⟩:=fD.1 hx;exact⟨a,v,c,hk _ _ d⟩
 |mx l=>
  simp only[BC.ren];obtain⟨arr,h1,h2,h3⟩:=h;refine ⟨arr,h1,by simpa[BC.len] using h2,fun j x hx=>?_⟩;simp only[BC.get,aY] at hx;obtain⟨q,hq,rfl⟩:=fD.1 hx;obtain⟨a,v,c,d⟩:=h3 j q hq;exact⟨by rw[r7];exact a,v,c,hk _ _ d⟩
 |mp es=>
  simp only[BC.ren];obtain⟨e,c,h1,h2,h3⟩:=h;refine ⟨e,c,h1,by rw[h2,qx];rfl,fun j x hx=>?_⟩;rw[aY] at hx;obtain⟨q,hq,rfl⟩:=fD.1 hx;obtain⟨m,a,b⟩:=h3 j q hq;exact⟨m,a,hk _ _ b⟩
 |it s p=>exact h
theorem fm.renFrom {φ φ':PM} {g:Nat→Nat} {O O':Nat→Prop} {w:World} {p:Nat→Bool} (hk:∀ x v,x.all p=true→cg φ O w (x.ren g) v→cg φ' O' w x v) {b:ph} (hb:b.c.all p=true) {o:Obj} (h:fm φ O w (b.ren g) o):fm φ' O' w b o:=by
 obtain⟨ty,c⟩:=b;unfold fm at h ⊢;simp only[ph.ren] at h;cases c with
 |fz l=>
  simp only[BC.ren] at h;obtain⟨arr,h1,h2,h3⟩:=h;refine ⟨arr,h1,h2,fun j x hx=>?_⟩;obtain⟨a,v,c,d⟩:=h3 j x hx;simp only[BC.get] at hx;obtain⟨q,_,rfl⟩:=fD.1 hx;exact⟨a,v,c,hk _ _ rfl d⟩
 |mx l=>
  simp only[BC.ren] at h;obtain⟨arr,h1,h2,h3⟩:=h;refine ⟨arr,h1,by simpa[BC.len] using h2,fun j x hx=>?_⟩;simp only[BC.get] at hx;obtain⟨a,v,c,d⟩:=h3 j (x.ren g) (by simp only[BC.get,aY,hx];rfl);rw[r7] at a;exact⟨a,v,c,hk _ _ (ia hb x (bc hx)) d⟩
 |mp es=>
  simp only[BC.ren] at h;obtain⟨e,c,h1,h2,h3⟩:=h;refine ⟨e,c,h1,by rw[h2,qx];rfl,fun j x hx=>?_⟩;obtain⟨m,a,b⟩:=h3 j (x.1,x.2.ren g) (by rw[aY,hx];rfl);exact⟨m,a,hk _ _ (ia hb x.2 (cQ.2 ⟨x,bc hx,rfl⟩)) b⟩
 |it s p=>exact h
mutual
def ti (g:Nat→Nat):TV→TV
 |.row i=>.row (g i)
 |.agg l=>.agg (gp g l)
 |.tup l=>.tup (gp g l)
 |.clo q l=>.clo q (gp g l)
 |.f T v=>.f T v
 |.fel T xs j h off=>.fel T xs j h off
 |.pel a b c d=>.pel (g a) b c d
 |.ptr a b=>.ptr (g a) b
 |.csl a b c=>.csl (g a) b c
 |.emp=>.emp
 |.nil=>.nil
 |.mp i=>.mp (g i)
 |.undef=>.undef
 |.np=>.np
 |.anyb=>.anyb
def gp (g:Nat→Nat):List TV→List TV
 |[]=>[]
 |x::r=>ti g x::gp g r
end
theorem qD (g:Nat→Nat):∀ l,gp g l=l.map (ti g)
 |[]=>rfl
 |x::r=>by rw[gp,qD g r];rfl
def hP (g:Nat→Nat):ey→ey
 |.cells ty l=>.cells ty (gp g l)
 |.rows ty p T xs=>.rows ty p T xs
 |.dead p sz n=>.dead p sz n
 |.mp K V es=>.mp K V es
theorem vw (g:Nat→Nat) (b:ey):rowB (hP g b)=rowB b:=by cases b<;>rfl
def ve (g:Nat→Nat) (n:Nat):Nat:=nm (g (ow n))
theorem qk (g:Nat→Nat) (i:Nat):ve g (nm i)=nm (g i):=by unfold ve;rw[cU]
mutual
theorem Gh {g:Nat→Nat} {h1 h2:THeap} (hrow:∀ i r,dg h1 i=some r→dg h2 (g i)=some r):∀ (v:TV) (y:AV),bS h1 v=some y→bS h2 (ti g v)=some (y.ren (ve g))
 |.f _ _,y,he=>by simp only[bS,ae] at he;subst he;rfl
 |.fel _ _ _ _ _,y,he=>by simp only[bS,ae] at he;subst he;rfl
 |.pel _ _ _ _,y,he=>by simp only[bS,ae] at he;subst he;simp only[ti,bS,AV.ren,qk]
 |.ptr _ _,y,he=>by simp only[bS,ae] at he;subst he;simp only[ti,bS,AV.ren,qk]
 |.csl _ _ _,y,he=>by simp only[bS,ae] at he;subst he;simp only[ti,bS,AV.ren,qk]
 |.row id,y,he=>by
  simp only[bS] at he;split at he
  ·rename_i p sz n hr;simp only[ae] at he;subst he;simp only[ti,bS,hrow id _ hr];unfold du;split
   ·rfl
   ·simp only[AV.ren,qk]
  ·cases he
 |.emp,y,he=>by simp only[bS,ae] at he;subst he;rfl
 |.nil,y,he=>by simp only[bS,ae] at he;subst he;rfl
 |.mp _,y,he=>by simp only[bS,ae] at he;subst he;simp only[ti,bS,AV.ren,qk]
 |.agg l,y,he=>by
  simp only[bS] at he;split at he
  ·rename_i l' hl;simp only[ae] at he;subst he;simp only[ti,bS,kV hrow l l' hl,AV.ren]
  ·cases he
 |.tup l,y,he=>by
  simp only[bS] at he;split at he
  ·rename_i l' hl;simp only[ae] at he;subst he;simp only[ti,bS,kV hrow l l' hl,AV.ren]
  ·cases he
 |.clo q l,y,he=>by
  simp only[bS] at he;split at he
  ·rename_i l' hl;simp only[ae] at he;subst he;simp only[ti,bS,kV hrow l l' hl,AV.ren]
  ·cases he
 |.undef,y,he=>by simp only[bS,ae] at he;subst he;rfl
 |.np,y,he=>by simp only[bS,ae] at he;subst he;rfl
 |.anyb,y,he=>by simp only[bS,ae] at he;subst he;rfl
theorem kV {g:Nat→Nat} {h1 h2:THeap} (hrow:∀ i r,dg h1 i=some r→dg h2 (g i)=some r):∀ (l:List TV) (l':List AV),ci h1 l=some l'→ci h2 (gp g l)=some (AV.renL (ve g) l')
 |[],l',he=>by simp only[ci,ae] at he;subst he;rfl
 |x::r,l',he=>by
  obtain⟨y,l2,rfl,e1,e2⟩:=ct he;exact jT (Gh hrow x y e1) (kV hrow r l2 e2)
end
theorem sN {g:Nat→Nat} {h1 h2:THeap} (hrow:∀ i r,dg h1 i=some r→dg h2 (g i)=some r) {b:ey} {y:ph} (he:gH h1 b=some y):gH h2 (hP g b)=some (y.ren (ve g)):=by
 cases b with
 |rows ty p T xs=>
  simp only[gH] at he;split at he
  ·cases he
  ·rename_i hc;simp only[ae] at he;subst he;simp only[hP,gH,if_neg hc];rfl
 |cells ty l=>
  simp only[gH] at he;split at he
  ·rename_i l' hl;simp only[ae] at he;subst he;simp only[hP,gH,kV hrow l l' hl,ju];rfl
  ·cases he
 |dead p sz n=>cases he
 |mp K V es=>
  simp only[gH,ae] at he;subst he;simp only[hP,gH,ph.ren,ae,ph.mk.injEq,true_and];unfold mpC;split
  ·rfl
  ·simp only[BC.ren,qx];rfl
theorem r8 (g:Nat→Nat) (a b:List TV):gp g (a++b)=gp g a++gp g b:=by
 rw[qD,qD,qD,fJ]
theorem ku (g:Nat→Nat):∀ (n:Nat) (T:Ty) (v:T.den) (l:List TV),cellsOf n T v=some l→gp g l=l
 |0,_,_,_,he=>by simp[cellsOf] at he
 |n+1,.st t,v,l,he=>ku g n t v l he
 |n+1,.pr a b,v,l,he=>by
  simp only[cellsOf] at he;split at he
  ·rename_i x y hx hy;simp only[ae] at he;subst he;rw[r8,ku g n a v.1 x hx,ku g n b v.2 y hy]
  ·cases he
 |n+1,.un,v,l,he=>by simp only[cellsOf,ae] at he;subst he;rfl
 |n+1,.ex,v,l,he=>ku g n exF (xU v) l he
 |n+1,.sm,v,l,he=>ku g n smF (xT v) l he
 |n+1,.int k,v,l,he=>by simp only[cellsOf,ae] at he;subst he;rfl
 |n+1,.bool,v,l,he=>by simp only[cellsOf,ae] at he;subst he;rfl
 |n+1,.str,v,l,he=>by simp only[cellsOf,ae] at he;subst he;rfl
 |n+1,.sl t,v,l,he=>by simp only[cellsOf,ae] at he;subst he;rfl
abbrev idf:Nat→Nat:=fun i=>i
mutual
theorem DL (g:Nat→Nat):∀ (p:PV) (x:p.ty.den),ly g p x=(ly idf p x).map (gp g)
 |.d T,x=>by
  simp only[ly];cases h:cellsOf 40 T x with
  |none=>rfl
  |some l=>simp only[bN,ku g 40 T x l h]
 |.ptr i o,x=>rfl
 |.csl i o z,x=>rfl
 |.row i,x=>rfl
 |.mp i,x=>rfl
 |.nil,x=>rfl
 |.emp,x=>rfl
 |.agg ps,x=>qE g ps x
theorem qE (g:Nat→Nat):∀ (ps:List PV) (x:(PV.tyL ps).den),ll g ps x=(ll idf ps x).map (gp g)
 |[],x=>rfl
 |p::r,x=>by
  simp only[ll];rw[DL g p,qE g r];cases ly idf p (fsp p.ty (PV.tyL r) x) with
  |none=>rfl
  |some a=>
   cases ll idf r (snp p.ty (PV.tyL r) x) with
   |none=>rfl
   |some b=>simp only[bN,r8]
end
def Gk (o:Option (List TV)):Option TV:=match o with|some l=>some (.agg l)|none=>none
theorem Eu (g:Nat→Nat) (o:Option (List TV)):Gk (o.map (gp g))=(Gk o).map (ti g):=by cases o<;>rfl
theorem DJ (g:Nat→Nat) (p:PV) (x:p.ty.den):nS g p x=(nS idf p x).map (ti g):=by
 cases p with
 |agg ps=>exact (congrArg Gk (qE g ps x)).trans (Eu g _)
 |_=>rfl
theorem m7 (g:Nat→Nat):∀ (ps:List PV) (x:(PV.tyL ps).den),ky g ps x=(ky idf ps x).map (gp g)
 |[],x=>rfl
 |p::r,x=>by
  simp only[ky];rw[DJ g p,m7 g r];cases nS idf p (fsp p.ty (PV.tyL r) x) with
  |none=>rfl
  |some a=>
   cases ky idf r (snp p.ty (PV.tyL r) x) with
   |none=>rfl
   |some b=>rfl
def Bt (ty:TypeId) (o:Option (List TV)):Option (Option ey):=match o with|some l=>some (some (.cells ty l))|none=>none
theorem Bs (g:Nat→Nat) (ty:TypeId) (o:Option (List TV)):Bt ty (o.map (gp g))=(Bt ty o).map (gX (hP g)):=by cases o<;>rfl
theorem DM (g:Nat→Nat) (b:PB) (x:b.ty.den):sd g b x=(sd idf b x).map (gX (hP g)):=by
 cases b with
 |cells ty ps=>exact (congrArg (Bt ty) (qE g ps x)).trans (Bs g ty _)
 |_=>rfl
theorem oO (g:Nat→Nat):∀ (bs:List PB) (x:(PB.tyL bs).den),jv g bs x=(jv idf bs x).map (List.map (gX (hP g)))
 |[],x=>rfl
 |b::r,x=>by
  simp only[jv];rw[DM g b,oO g r];cases sd idf b (fsp b.ty (PB.tyL r) x) with
  |none=>rfl
  |some a=>
   cases jv idf r (snp b.ty (PB.tyL r) x) with
   |none=>rfl
   |some l=>rfl
theorem sa (g:Nat→Nat):∀ (bs:List PB) (x:(PB.tyL bs).den) (l:List (Option ey)),jv g bs x=some l→l.length=bs.length
 |[],x,l,h=>by simp only[jv,ae] at h;subst h;rfl
 |b::r,x,l,h=>by
  simp only[jv] at h;split at h
  ·split at h
   ·rename_i q hq;simp only[ae] at h;subst h;simp[sa g r _ q hq]
   ·cases h
  ·cases h
theorem wi (h:THeap) (i j:Nat):(kill h i).get j=if j=i then (h.get i).map killB else h.get j:=by
 unfold kill;cases hb:h.get i with
 |none=>
  simp only[Option.map_none];split
  ·rename_i e;rw[e,hb]
  ·rfl
 |some b=>rw[PT.get_set];rfl
theorem od (g:Nat→Nat):∀ (l:List (Option ey)) (i:Nat) (h:THeap) (j:Nat),(∀ k,k<l.length→j≠g (i+k))→(qV g i l h).get j=h.get j
 |[],i,h,j,_=>rfl
 |some c::r,i,h,j,hj=>by
  rw[qV,od g r (i+1) _ j (fun k hk=>by have:=hj (k+1) (by simpa using hk);rwa [show i+1+k=i+(k+1) from by omega]),PT.get_set,if_neg];exact hj 0 (by simp)
 |none::r,i,h,j,hj=>by
  rw[qV,od g r (i+1) _ j (fun k hk=>by have:=hj (k+1) (by simpa using hk);rwa [show i+1+k=i+(k+1) from by omega]),wi,if_neg];exact hj 0 (by simp)
theorem oe (g:Nat→Nat):∀ (l:List (Option ey)) (i:Nat) (h:THeap),(∀ a b,a<l.length→b<l.length→g (i+a)=g (i+b)→a=b)→∀ (k:Nat) (c:Option ey),l[k]? =some c→(qV g i l h).get (g (i+k))=(match c with|some b=>some b|none=>(h.get (g (i+k))).map killB)
 |[],i,h,_,k,c,hk=>by simp at hk
 |o::r,i,h,hinj,k,c,hk=>by
  have hinj':∀ a b,a<r.length→b<r.length→g (i+1+a)=g (i+1+b)→a=b:=fun a b ha hb e=>by
   have:=hinj (a+1) (b+1) (by simpa using ha) (by simpa using hb) (by rw[show i+(a+1)=i+1+a from by omega,show i+(b+1)=i+1+b from by omega];exact e);omega
  cases k with
  |zero=>
   simp at hk;subst hk;have hne:∀ k,k<r.length→g (i+0)≠g (i+1+k):=fun k hk e=>by
    have:=hinj 0 (k+1) (by simp) (by simpa using hk) (by rw[show i+(k+1)=i+1+k from by omega];exact e);omega
   cases o with
   |some b=>rw[qV,od g r (i+1) _ _ hne];simp only[cP];rw[PT.get_set,if_pos rfl]
   |none=>rw[qV,od g r (i+1) _ _ hne];simp only[cP];rw[wi,if_pos rfl]
  |succ k=>
   have hk':r[k]? =some c:=by simpa using hk
   have hkl:k<r.length:=(bg.1 hk').1;have hne:g (i+(k+1))≠g i:=fun e=>by
    have:=hinj (k+1) 0 (by simpa using hkl) (by simp) (by rw[e];rfl);omega
   rw[show i+(k+1)=i+1+k from by omega] at hne ⊢;cases o with
   |some b=>
    rw[qV,oe g r (i+1) _ hinj' k c hk'];cases c with
    |some _=>rfl
    |none=>simp only[PT.get_set,if_neg hne]
   |none=>
    rw[qV,oe g r (i+1) _ hinj' k c hk'];cases c with
    |some _=>rfl
    |none=>simp only[wi,if_neg hne]
def pP (h' h:THeap):Prop:=∀ i r,dg h' i=some r→dg h i=some r
section get
variable {h h':THeap} {H H':HF} {g:Nat→Nat}
theorem ij.agg {l l':List AV} (hl:eA H H' l l') (hc:∀ x∈l',x.isCell=true):ij H H' (.agg l) (.agg l'):=by
 intro φ E w v hrep hr;cases hr with
 |@agg _ vs hlen hcl hrr=>
  refine .agg (by rw[hlen,←hl.length]) hc fun j y u hy hu=>?_
  obtain⟨x,hx,hle⟩:=hl.get j y hy;exact hle φ E w u hrep (hrr j x u hx hu)
theorem zj (hr:pP h' h) {i:Nat} {y y':AV} (hy:bS h (.row i)=some y) (hy':bS h' (.row i)=some y'):y'=y:=by
 simp only[bS] at hy hy';cases h1:dg h' i with
 |none=>rw[h1] at hy';cases hy'
 |some r=>
  rw[h1] at hy';rw[hr i r h1] at hy;rw[hy] at hy';cases hy';rfl
mutual
theorem Fb (d:ov H H') (hr:pP h' h):∀ (p:PV) (l:List TV) (x:p.ty.den) (m:Nat) (r:List TV) (cs:List TV) (l' cs':List AV),l8 g h p l=some (x,m,r)→ly g p x=some cs→ci h l=some l'→ci h' cs=some cs'→td h H H' m→∃ l1 l2,l'=l1++l2∧ci h r=some l2∧eA H H' l1 cs'
 |.d T,l,x,m,r,cs,l',cs',hg,hp,hl,hc,gv=>by
  obtain⟨l1,l2,e1,e2,e3⟩:=mo d 40 T l x m r l' hg hl gv;have:=(gU h' 40 T x cs hp).1;rw[hc] at this;cases this;exact⟨l1,l2,e1,e2,e3⟩
 |.ptr i q,l,x,m,r,cs,l',cs',hg,hp,hl,hc,gv=>by
  simp only[l8] at hg;split at hg
  ·rename_i i' o' r';split at hg
   ·rename_i hb;simp only[ak] at hb;have e1:=au hb.1;have e2:=au hb.2;subst e1;subst e2;simp only[ae,ay] at hg;obtain⟨_,_,rfl⟩:=hg;simp only[ly,ae] at hp;subst hp;obtain⟨y,l2,rfl,g1,g2⟩:=ct hl;simp only[bS,ae] at g1;subst g1;simp only[ci,bS,ae] at hc;subst hc;exact⟨[_],l2,rfl,g2,ij.refl d _,trivial⟩
   ·cases hg
  ·cases hg
 |.csl i q z,l,x,m,r,cs,l',cs',hg,hp,hl,hc,gv=>by
  simp only[l8] at hg;split at hg
  ·rename_i i' o' z' r';split at hg
   ·rename_i hb;simp only[ak] at hb;have e1:=au hb.1.1;have e2:=au hb.1.2;have e3:=au hb.2;subst e1;subst e2;subst e3;simp only[ae,ay] at hg;obtain⟨_,_,rfl⟩:=hg;simp only[ly,ae] at hp;subst hp;obtain⟨y,l2,rfl,g1,g2⟩:=ct hl;simp only[bS,ae] at g1;subst g1;simp only[ci,bS,ae] at hc;subst hc;exact⟨[_],l2,rfl,g2,ij.refl d _,trivial⟩
   ·cases hg
  ·cases hg
 |.row i,l,x,m,r,cs,l',cs',hg,hp,hl,hc,gv=>by
  simp only[l8] at hg;split at hg
  ·rename_i i' r';split at hg
   ·rename_i hb;have e1:=au hb;subst e1;simp only[ae,ay] at hg;obtain⟨_,_,rfl⟩:=hg;simp only[ly,ae] at hp;subst hp;obtain⟨y,l2,rfl,g1,g2⟩:=ct hl;obtain⟨y',l3,rfl,g3,g4⟩:=ct hc;simp only[ci,ae] at g4;subst g4;rw[zj hr g1 g3];exact⟨[_],l2,rfl,g2,ij.refl d _,trivial⟩
   ·cases hg
  ·cases hg
 |.mp i,l,x,m,r,cs,l',cs',hg,hp,hl,hc,gv=>by
  simp only[l8] at hg;split at hg
  ·rename_i i' r';split at hg
   ·rename_i hb;have e1:=au hb;subst e1;simp only[ae,ay] at hg;obtain⟨_,_,rfl⟩:=hg;simp only[ly,ae] at hp;subst hp;obtain⟨y,l2,rfl,g1,g2⟩:=ct hl;simp only[bS,ae] at g1;subst g1;simp only[ci,bS,ae] at hc;subst hc;exact⟨[_],l2,rfl,g2,ij.refl d _,trivial⟩
   ·cases hg
  ·cases hg
 |.nil,l,x,m,r,cs,l',cs',hg,hp,hl,hc,gv=>by
  simp only[l8] at hg;split at hg
  ·simp only[ae,ay] at hg;obtain⟨_,_,rfl⟩:=hg;simp only[ly,ae] at hp;subst hp;obtain⟨y,l2,rfl,g1,g2⟩:=ct hl;simp only[bS,ae] at g1;subst g1;simp only[ci,bS,ae] at hc;subst hc;exact⟨[_],l2,rfl,g2,ij.refl d _,trivial⟩
  ·cases hg
 |.emp,l,x,m,r,cs,l',cs',hg,hp,hl,hc,gv=>by
  simp only[l8] at hg;split at hg
  ·simp only[ae,ay] at hg;obtain⟨_,_,rfl⟩:=hg;simp only[ly,ae] at hp;subst hp;obtain⟨y,l2,rfl,g1,g2⟩:=ct hl;simp only[bS,ae] at g1;subst g1;simp only[ci,bS,ae] at hc;subst hc;exact⟨[_],l2,rfl,g2,Le.nilEmp.toH d,trivial⟩
  ·simp only[ae,ay] at hg;obtain⟨_,_,rfl⟩:=hg;simp only[ly,ae] at hp;subst hp;obtain⟨y,l2,rfl,g1,g2⟩:=ct hl;simp only[bS,ae] at g1;subst g1;simp only[ci,bS,ae] at hc;subst hc;exact⟨[_],l2,rfl,g2,ij.refl d _,trivial⟩
  ·cases hg
 |.agg ps,l,x,m,r,cs,l',cs',hg,hp,hl,hc,gv=>sL d hr ps l x m r cs l' cs' hg hp hl hc gv
theorem sL (d:ov H H') (hr:pP h' h):∀ (ps:List PV) (l:List TV) (x:(PV.tyL ps).den) (m:Nat) (r:List TV) (cs:List TV) (l' cs':List AV),qj g h ps l=some (x,m,r)→ll g ps x=some cs→ci h l=some l'→ci h' cs=some cs'→td h H H' m→∃ l1 l2,l'=l1++l2∧ci h r=some l2∧eA H H' l1 cs'
 |[],l,x,m,r,cs,l',cs',hg,hp,hl,hc,gv=>by
  simp only[qj,ae,ay] at hg;obtain⟨_,_,rfl⟩:=hg;simp only[ll,ae] at hp;subst hp;simp only[ci,ae] at hc;subst hc;exact⟨[],l',rfl,hl,trivial⟩
 |p::ps,l,x,m,r,cs,l',cs',hg,hp,hl,hc,gv=>by
  simp only[qj] at hg;split at hg
  ·rename_i x1 m1 r1 h1;split at hg
   ·rename_i x2 m2 r2 h2;simp only[ae,ay] at hg;obtain⟨rfl,rfl,rfl⟩:=hg;simp only[ll,mX,n8] at hp;split at hp
    ·rename_i a ha;split at hp
     ·rename_i b hb;simp only[ae] at hp;subst hp;obtain⟨a',b',rfl,ea,eb⟩:=rG hc;obtain⟨ga,gb⟩:=gv.or;obtain⟨l1,l2,rfl,q1,q2⟩:=Fb d hr p l _ _ _ a l' a' h1 ha hl ea ga;obtain⟨l3,l4,rfl,q3,q4⟩:=sL d hr ps _ _ _ _ b l2 b' h2 hb q1 eb gb;exact⟨l1++l3,l4,by simp,q3,q2.append q4⟩
     ·cases hp
    ·cases hp
   ·cases hg
  ·cases hg
end
mutual
theorem putC_cell:∀ (p:PV) (x:p.ty.den) (cs:List TV),ly g p x=some cs→allC cs=true
 |.d T,x,cs,hp=>(gU PT.leaf 40 T x cs hp).2
 |.ptr i q,x,cs,hp=>by simp only[ly,ae] at hp;subst hp;rfl
 |.csl i q z,x,cs,hp=>by simp only[ly,ae] at hp;subst hp;rfl
 |.row i,x,cs,hp=>by simp only[ly,ae] at hp;subst hp;rfl
 |.mp i,x,cs,hp=>by simp only[ly,ae] at hp;subst hp;rfl
 |.nil,x,cs,hp=>by simp only[ly,ae] at hp;subst hp;rfl
 |.emp,x,cs,hp=>by simp only[ly,ae] at hp;subst hp;rfl
 |.agg ps,x,cs,hp=>putCs_cell ps x cs hp
theorem putCs_cell:∀ (ps:List PV) (x:(PV.tyL ps).den) (cs:List TV),ll g ps x=some cs→allC cs=true
 |[],x,cs,hp=>by simp only[ll,ae] at hp;subst hp;rfl
 |p::ps,x,cs,hp=>by
  simp only[ll] at hp;split at hp
  ·rename_i a ha;split at hp
   ·rename_i b hb;simp only[ae] at hp;subst hp;exact Ak (putC_cell p _ a ha) (putCs_cell ps _ b hb)
   ·cases hp
  ·cases hp
end
theorem E9 (d:ov H H') (hr:pP h' h) {p:PV} {v:TV} {x:p.ty.den} {m:Nat} {u:TV} {y y':AV} (hg:qi g h p v=some (x,m)) (hp:nS g p x=some u) (hy:bS h v=some y) (hy':bS h' u=some y') (gv:td h H H' m):ij H H' y y':=by
 cases p with
 |d T=>
  simp only[nS,ae] at hp;subst hp;simp only[bS,ae] at hy';subst hy';exact (yH d hg hy gv).1
 |agg ps=>
  simp only[qi] at hg;split at hg
  ·cases hg
  ·rename_i hc;split at hg
   ·rename_i l hl;split at hg
    ·rename_i x1 m1 h1;simp only[ae,ay] at hg;obtain⟨rfl,rfl⟩:=hg;simp only[nS] at hp;split at hp
     ·rename_i cs hcs;simp only[ae] at hp;subst hp;simp only[bS] at hy';split at hy'
      ·rename_i cs' hcs';simp only[ae] at hy';subst hy';obtain⟨e1,e2⟩:=xE hl hy;obtain⟨l1,l2,q1,q2,q3⟩:=sL d hr ps l _ _ [] cs y.cs cs' h1 hcs e1 hcs' gv;simp only[ci,ae] at q2;subst q2;rw[ul] at q1;subst q1;have hcell:∀ x∈cs',x.isCell=true:=gV (mZ hcs' (putCs_cell ps _ cs hcs));cases v with
       |agg q=>
        simp only[bS] at hy;split at hy
        ·simp only[ae] at hy;subst hy;exact ij.agg q3 hcell
        ·cases hy
       |f S z=>
        simp only[bS,ae] at hy;subst hy;have ho:S.one=false:=by simpa[TV.isC] using hc
        rw[qP] at q3;rw[enc1_agg S z ho];intro φ E w v hrep hrel;exact ij.agg q3 hcell φ E w v hrep (Le.aggF _ _ _ _ hrel)
       |tup q=>simp[TV.cs,TV.isC] at hl
       |undef=>simp[TV.cs,TV.isC] at hl
       |np=>simp[TV.isC] at hc
       |anyb=>simp[TV.cs,TV.isC] at hl
       |fel T xs j hj off=>simp[TV.isC] at hc
       |pel id sz j off=>simp[TV.isC] at hc
       |ptr id off=>simp[TV.isC] at hc
       |csl id off z=>simp[TV.isC] at hc
       |row id=>simp[TV.isC] at hc
       |emp=>simp[TV.isC] at hc
       |nil=>simp[TV.isC] at hc
       |mp id=>simp[TV.isC] at hc
       |clo g l=>simp[TV.isC] at hc
      ·cases hy'
     ·cases hp
    ·cases hg
   ·cases hg
 |ptr i q=>
  simp only[nS,ae] at hp;subst hp;simp only[qi] at hg;split at hg
  ·rename_i h1;simp only[l8] at h1;split at h1
   ·rename_i e;simp only[fK] at e;obtain⟨rfl,_⟩:=e;split at h1
    ·rename_i hb;simp only[ak] at hb;have e1:=au hb.1;have e2:=au hb.2;subst e1;subst e2;simp only[bS,ae] at hy hy';subst hy;subst hy';exact ij.refl d _
    ·cases h1
   ·cases h1
  ·cases hg
 |csl i q z=>
  simp only[nS,ae] at hp;subst hp;simp only[qi] at hg;split at hg
  ·rename_i h1;simp only[l8] at h1;split at h1
   ·rename_i e;simp only[fK] at e;obtain⟨rfl,_⟩:=e;split at h1
    ·rename_i hb;simp only[ak] at hb;have e1:=au hb.1.1;have e2:=au hb.1.2;have e3:=au hb.2;subst e1;subst e2;subst e3;simp only[bS,ae] at hy hy';subst hy;subst hy';exact ij.refl d _
    ·cases h1
   ·cases h1
  ·cases hg
 |row i=>
  simp only[nS,ae] at hp;subst hp;simp only[qi] at hg;split at hg
  ·rename_i h1;simp only[l8] at h1;split at h1
   ·rename_i e;simp only[fK] at e;obtain⟨rfl,_⟩:=e;split at h1
    ·rename_i hb;have e1:=au hb;subst e1;rw[zj hr hy hy'];exact ij.refl d _
    ·cases h1
   ·cases h1
  ·cases hg
 |mp i=>
  simp only[nS,ae] at hp;subst hp;simp only[qi] at hg;split at hg
  ·rename_i h1;simp only[l8] at h1;split at h1
   ·rename_i e;simp only[fK] at e;obtain⟨rfl,_⟩:=e;split at h1
    ·rename_i hb;have e1:=au hb;subst e1;simp only[bS,ae] at hy hy';subst hy;subst hy';exact ij.refl d _
    ·cases h1
   ·cases h1
  ·cases hg
 |nil=>
  simp only[nS,ae] at hp;subst hp;simp only[qi] at hg;split at hg
  ·rename_i h1;simp only[l8] at h1;split at h1
   ·rename_i e;simp only[fK] at e;obtain⟨rfl,_⟩:=e;simp only[bS,ae] at hy hy';subst hy;subst hy';exact ij.refl d _
   ·cases h1
  ·cases hg
 |emp=>
  simp only[nS,ae] at hp;subst hp;simp only[qi] at hg;split at hg
  ·rename_i h1;simp only[l8] at h1;split at h1
   ·rename_i e;simp only[fK] at e;obtain⟨rfl,_⟩:=e;simp only[bS,ae] at hy hy';subst hy;subst hy';exact Le.nilEmp.toH d
   ·rename_i e;simp only[fK] at e;obtain⟨rfl,_⟩:=e;simp only[bS,ae] at hy hy';subst hy;subst hy';exact ij.refl d _
   ·cases h1
  ·cases hg
theorem sK (d:ov H H') (hr:pP h' h):∀ (ps:List PV) (vs:List TV) (x:(PV.tyL ps).den) (m:Nat) (us:List TV) (l l':List AV),pS g h ps vs=some (x,m)→ky g ps x=some us→ci h vs=some l→ci h' us=some l'→td h H H' m→eA H H' l l'
 |[],[],x,m,us,l,l',hg,hp,hl,hl',gv=>by
  simp only[ky,ae] at hp;subst hp;simp only[ci,ae] at hl hl';subst hl;subst hl';trivial
 |[],_::_,x,m,us,l,l',hg,_,_,_,_=>by simp[pS] at hg
 |_::_,[],x,m,us,l,l',hg,_,_,_,_=>by simp[pS] at hg
 |p::ps,v::vs,x,m,us,l,l',hg,hp,hl,hl',gv=>by
  simp only[pS] at hg;split at hg
  ·rename_i x1 m1 h1;split at hg
   ·rename_i x2 m2 h2;simp only[ae,ay] at hg;obtain⟨rfl,rfl⟩:=hg;simp only[ky,mX,n8] at hp;split at hp
    ·rename_i a ha;split at hp
     ·rename_i b hb;simp only[ae] at hp;subst hp;obtain⟨y,l2,rfl,e1,e2⟩:=ct hl;obtain⟨y',l3,rfl,e3,e4⟩:=ct hl';obtain⟨ga,gb⟩:=gv.or;exact⟨E9 d hr h1 ha e1 e3 ga,sK d hr ps vs _ _ b l2 l3 h2 hb e2 e4 gb⟩
     ·cases hp
    ·cases hp
   ·cases hg
  ·cases hg
inductive BM (g:Nat→Nat) (h:THeap) (m:Nat):ey→ey→Prop
 |rows (ty:TypeId) (p:Bool) (T:Ty) (xs:List T.den):BM g h m (.rows ty p T xs) (.rows ty p T xs)
 |mp (K V:Ty) (es:List (K.den×V.den)):BM g h m (.mp K V es) (.mp K V es)
 |cells (ty:TypeId) (ps:List PV) (x:(PV.tyL ps).den) (l l2:List TV) (m':Nat) (hg:qj g h ps l=some (x,m',[])) (hp:ll g ps x=some l2) (hm:∀ i,aI m' i=true→aI m i=true):BM g h m (.cells ty l) (.cells ty l2)
theorem BM.mono {m m2:Nat} (hm:∀ i,aI m i=true→aI m2 i=true) {b c:ey} (h1:BM g h m b c):BM g h m2 b c:=by
 cases h1 with
 |rows ty p T xs=>exact .rows ty p T xs
 |mp K V es=>exact .mp K V es
 |cells ty ps x l l2 m' hg hp hm'=>exact .cells ty ps x l l2 m' hg hp fun i hi=>hm i (hm' i hi)
theorem Fc {i:Nat} {b:PB} {x:b.ty.den} {m:Nat} {c:ey} (hg:tT g h i b=some (x,m)) (hp:sd g b x=some (some c)):∃ b0,h.get (g i)=some b0∧BM g h m b0 c:=by
 cases b with
 |rows ty p T=>
  simp only[tT] at hg;split at hg
  ·rename_i ty' p' S xs hb;split at hg
   ·rename_i hc;simp only[ak,beq_iff_eq] at hc;obtain⟨rfl,rfl⟩:=hc;split at hg
    ·rename_i z hz;simp only[ae,ay] at hg;obtain⟨rfl,rfl⟩:=hg;obtain⟨e,rfl⟩:=eZ hz;cases e;simp only[sd,ae] at hp;subst hp;exact⟨_,hb,.rows _ _ _ _⟩
    ·cases hg
   ·cases hg
  ·cases hg
 |rowsP ty T=>
  simp only[tT] at hg;split at hg
  ·rename_i ty' p' S xs hb;split at hg
   ·rename_i hc;have hc:ty=ty':=by simpa using hc
    subst hc;split at hg
    ·rename_i z hz;simp only[ae,ay] at hg;obtain⟨rfl,rfl⟩:=hg;obtain⟨e,rfl⟩:=eZ hz;cases e;simp only[sd,ae] at hp;subst hp;exact⟨_,hb,.rows _ _ _ _⟩
    ·cases hg
   ·cases hg
  ·cases hg
 |cells ty ps=>
  simp only[tT] at hg;split at hg
  ·rename_i ty' l hb;split at hg
   ·rename_i hc;have hc:ty=ty':=by simpa using hc
    subst hc;split at hg
    ·rename_i z m1 hz;simp only[ae,ay] at hg;obtain⟨rfl,rfl⟩:=hg;simp only[sd] at hp;split at hp
     ·rename_i l2 hl2;simp only[ae] at hp;subst hp;exact⟨_,hb,.cells ty ps _ l l2 _ hz hl2 fun _ h=>h⟩
     ·cases hp
    ·cases hg
   ·cases hg
  ·cases hg
 |mp K V=>
  simp only[tT] at hg;split at hg
  ·rename_i K' V' es hb;split at hg
   ·rename_i z hz;simp only[ae,ay] at hg;obtain⟨rfl,rfl⟩:=hg;obtain⟨e,rfl⟩:=eZ hz;cases e;simp only[sd,ae] at hp;subst hp;exact⟨_,hb,.mp _ _ _⟩
   ·cases hg
  ·cases hg
 |gone=>simp[sd] at hp
theorem getBs_ok:∀ (bs:List PB) (i:Nat) (x:(PB.tyL bs).den) (m:Nat) (lg:List (Option ey)),qY g h i bs=some (x,m)→jv g bs x=some lg→∀ (k:Nat) c,lg[k]? =some (some c)→∃ b0,h.get (g (i+k))=some b0∧BM g h m b0 c
 |[],i,x,m,lg,hg,hp,k,c,hk=>by
  simp only[jv,ae] at hp;subst hp;simp at hk
 |b::r,i,x,m,lg,hg,hp,k,c,hk=>by
  simp only[qY] at hg;split at hg
  ·rename_i x1 m1 h1;split at hg
   ·rename_i x2 m2 h2;simp only[ae,ay] at hg;obtain⟨rfl,rfl⟩:=hg;simp only[jv,mX,n8] at hp;split at hp
    ·rename_i a ha;split at hp
     ·rename_i q hq;simp only[ae] at hp;subst hp;cases k with
      |zero=>
       simp at hk;subst hk;obtain⟨b0,e1,e2⟩:=Fc h1 ha;exact⟨b0,e1,e2.mono fun i hi=>by rw[bh,hi];rfl⟩
      |succ k=>
       obtain⟨b0,e1,e2⟩:=getBs_ok r (i+1) _ _ q h2 hq k c (by simpa using hk);rw[show i+1+k=i+(k+1) from by omega] at e1;exact⟨b0,e1,e2.mono fun i hi=>by rw[bh,hi];simp⟩
     ·cases hp
    ·cases hp
   ·cases hg
  ·cases hg
end get
theorem zJ {σ:PT Nat} {i a:Nat} (h:σ.get i=some a):eh σ i=a:=by unfold eh;rw[h]
theorem BP {σ:PT Nat}:∀ (n i acc sm:Nat),DC σ n i acc=some sm→
 (∀ k,k<n→aI acc (eh σ (i+k))=false)∧(∀ a b,a<n→b<n→eh σ (i+a)=eh σ (i+b)→a=b)∧∀ q,aI sm q=true↔aI acc q=true∨∃ k,k<n∧eh σ (i+k)=q
 |0,i,acc,sm,h=>by
  simp only[DC,ae] at h;subst h;exact⟨fun k hk=>by omega,fun a b ha=>by omega,fun q=>⟨.inl,fun hq=>hq.elim id fun ⟨k,hk,_⟩=>by omega⟩⟩
 |n+1,i,acc,sm,h=>by
  simp only[DC] at h;split at h
  ·rename_i a ha;split at h
   ·cases h
   ·rename_i hna;have hna:aI acc a=false:=by simpa using hna
    have hga:=zJ ha;obtain⟨h1,h2,h3⟩:=BP n (i+1) (acc|||gZ a) sm h;have hne:∀ k,k<n→eh σ (i+1+k)≠a∧aI acc (eh σ (i+1+k))=false:=fun k hk=>by
     have:=h1 k hk;rw[bh,Bool.or_eq_false_iff] at this;refine ⟨fun e=>?_,this.1⟩;have h4:=this.2;rw[e] at h4;rw[bI.2 rfl] at h4;cases h4
    refine ⟨fun k hk=>?_,fun x y hx hy hxy=>?_,fun q=>?_⟩
    ·cases k with
     |zero=>rw[cP,hga];exact hna
     |succ k=>rw[show i+(k+1)=i+1+k from by omega];exact (hne k (by omega)).2
    ·cases x with
     |zero=>
      cases y with
      |zero=>rfl
      |succ y=>
       rw[cP,hga,show i+(y+1)=i+1+y from by omega] at hxy;exact absurd hxy.symm (hne y (by omega)).1
     |succ x=>
      cases y with
      |zero=>
       rw[show i+0=i from rfl,hga,show i+(x+1)=i+1+x from by omega] at hxy;exact absurd hxy (hne x (by omega)).1
      |succ y=>
       rw[show i+(x+1)=i+1+x from by omega,show i+(y+1)=i+1+y from by omega] at hxy;have:=h2 x y (by omega) (by omega) hxy;omega
    ·rw[h3,bh,eO];constructor
     ·rintro ((hq|hq)|⟨k,hk,hq⟩)
      ·exact .inl hq
      ·exact .inr ⟨0,by omega,by rw[cP,hga];exact bI.1 hq⟩
      ·exact .inr ⟨k+1,by omega,by rw[show i+(k+1)=i+1+k from by omega];exact hq⟩
     ·rintro (hq|⟨k,hk,hq⟩)
      ·exact .inl (.inl hq)
      ·cases k with
       |zero=>rw[cP,hga] at hq;exact .inl (.inr (bI.2 hq))
       |succ k=>exact .inr ⟨k,by omega,by rw[show i+1+k=i+(k+1) from by omega];exact hq⟩
  ·cases h
theorem zP {σ:PT Nat}:∀ (n:Nat),B6 σ n=true→∀ i,i<n→eh σ i=i
 |0,_,i,hi=>by omega
 |n+1,h,i,hi=>by
  simp only[B6,ak] at h;by_cases e:i=n
  ·subst e;cases hx:σ.get i with
   |none=>rw[hx] at h;exact absurd h.1 (by simp)
   |some a=>rw[hx] at h;rw[zJ hx];exact au h.1
  ·exact zP n h.2 i (by omega)
structure vk (np:Nat) (t:Tm) (vs:List TV) (h:THeap) (z:t.ty.den) (m:Nat) (σ:PT Nat) (sm:Nat):Prop where
 ex:∃ x m1 y m2,z=mkp _ _ x y∧m=m1|||m2∧pS (eh σ) h t.vs vs=some (x,m1)∧qY (eh σ) h 0 t.bs=some (y,m2)
 inj:∀ a b,a<t.bs.length→b<t.bs.length→eh σ a=eh σ b→a=b
 sig:∀ q,aI sm q=true↔∃ k,k<t.bs.length∧eh σ k=q
 disj:∀ i,aI m i=true→aI sm i=false
 fix:∀ i,i<np→eh σ i=i
theorem oX {np:Nat} {t:Tm} {vs:List TV} {h:THeap} {z:t.ty.den} {m:Nat} {σ:PT Nat} {sm:Nat} (hm:tI np t vs h=some ⟨z,m,σ,sm⟩):vk np t vs h z m σ sm:=by
 unfold tI at hm;rw[yB] at hm;split at hm
 ·rename_i sm' hs;split at hm
  ·rename_i x m1 h1;split at hm
   ·rename_i y m2 h2;split at hm
    ·rename_i hc;simp only[ak] at hc;simp only[ae,FX.mk.injEq] at hm;obtain⟨rfl,rfl,rfl,rfl⟩:=hm;obtain⟨g1,g2,g3⟩:=BP _ _ _ _ hs;simp only[bw] at g1 g2 g3;exact⟨⟨x,m1,y,m2,rfl,rfl,h1,h2⟩,g2,fun q=>by rw[g3];simp,fun i hi=>pM hc.1 i hi,zP np hc.2⟩
    ·cases hm
   ·cases hm
  ·cases hm
 ·cases hm
mutual
theorem rE {g:Nat→Nat} {h:THeap}:∀ (p:PV) (l:List TV) (x:p.ty.den) (m:Nat) (r:List TV),l8 g h p l=some (x,m,r)→cR h m
 |.d T,l,x,m,r,hg=>oa 40 T l x m r hg
 |.ptr i q,l,x,m,r,hg=>by
  simp only[l8] at hg;split at hg
  ·split at hg
   ·simp only[ae,ay] at hg;obtain⟨_,rfl,_⟩:=hg;exact cR.zero h
   ·cases hg
  ·cases hg
 |.csl i q z,l,x,m,r,hg=>by
  simp only[l8] at hg;split at hg
  ·split at hg
   ·simp only[ae,ay] at hg;obtain⟨_,rfl,_⟩:=hg;exact cR.zero h
   ·cases hg
  ·cases hg
 |.row i,l,x,m,r,hg=>by
  simp only[l8] at hg;split at hg
  ·split at hg
   ·simp only[ae,ay] at hg;obtain⟨_,rfl,_⟩:=hg;exact cR.zero h
   ·cases hg
  ·cases hg
 |.mp i,l,x,m,r,hg=>by
  simp only[l8] at hg;split at hg
  ·split at hg
   ·simp only[ae,ay] at hg;obtain⟨_,rfl,_⟩:=hg;exact cR.zero h
   ·cases hg
  ·cases hg
 |.nil,l,x,m,r,hg=>by
  simp only[l8] at hg;split at hg
  ·simp only[ae,ay] at hg;obtain⟨_,rfl,_⟩:=hg;exact cR.zero h
  ·cases hg
 |.emp,l,x,m,r,hg=>by
  simp only[l8] at hg;split at hg
  ·simp only[ae,ay] at hg;obtain⟨_,rfl,_⟩:=hg;exact cR.zero h
  ·simp only[ae,ay] at hg;obtain⟨_,rfl,_⟩:=hg;exact cR.zero h
  ·cases hg
 |.agg ps,l,x,m,r,hg=>u0 ps l x m r hg
theorem u0 {g:Nat→Nat} {h:THeap}:∀ (ps:List PV) (l:List TV) (x:(PV.tyL ps).den) (m:Nat) (r:List TV),qj g h ps l=some (x,m,r)→cR h m
 |[],l,x,m,r,hg=>by
  simp only[qj,ae,ay] at hg;obtain⟨_,rfl,_⟩:=hg;exact cR.zero h
 |p::ps,l,x,m,r,hg=>by
  simp only[qj] at hg;split at hg
  ·rename_i x1 m1 r1 h1;split at hg
   ·rename_i x2 m2 r2 h2;simp only[ae,ay] at hg;obtain⟨_,rfl,_⟩:=hg;exact (rE p l x1 m1 r1 h1).or (u0 ps r1 _ _ _ h2)
   ·cases hg
  ·cases hg
end
theorem Gb {g:Nat→Nat} {h:THeap} {p:PV} {v:TV} {x:p.ty.den} {m:Nat} (hg:qi g h p v=some (x,m)):cR h m:=by
 cases p with
 |d T=>exact Cc hg
 |agg ps=>
  simp only[qi] at hg;split at hg
  ·cases hg
  ·split at hg
   ·split at hg
    ·rename_i x1 m1 h1;simp only[ae,ay] at hg;obtain⟨_,rfl⟩:=hg;exact u0 ps _ _ _ _ h1
    ·cases hg
   ·cases hg
 |ptr i q=>
  simp only[qi] at hg;split at hg
  ·rename_i h1;simp only[ae,ay] at hg;obtain⟨_,rfl⟩:=hg;exact rE _ _ _ _ _ h1
  ·cases hg
 |csl i q z=>
  simp only[qi] at hg;split at hg
  ·rename_i h1;simp only[ae,ay] at hg;obtain⟨_,rfl⟩:=hg;exact rE _ _ _ _ _ h1
  ·cases hg
 |row i=>
  simp only[qi] at hg;split at hg
  ·rename_i h1;simp only[ae,ay] at hg;obtain⟨_,rfl⟩:=hg;exact rE _ _ _ _ _ h1
  ·cases hg
 |mp i=>
  simp only[qi] at hg;split at hg
  ·rename_i h1;simp only[ae,ay] at hg;obtain⟨_,rfl⟩:=hg;exact rE _ _ _ _ _ h1
  ·cases hg
 |nil=>
  simp only[qi] at hg;split at hg
  ·rename_i h1;simp only[ae,ay] at hg;obtain⟨_,rfl⟩:=hg;exact rE _ _ _ _ _ h1
  ·cases hg
 |emp=>
  simp only[qi] at hg;split at hg
  ·rename_i h1;simp only[ae,ay] at hg;obtain⟨_,rfl⟩:=hg;exact rE _ _ _ _ _ h1
  ·cases hg
theorem uZ {g:Nat→Nat} {h:THeap}:∀ (ps:List PV) (vs:List TV) (x:(PV.tyL ps).den) (m:Nat),pS g h ps vs=some (x,m)→cR h m
 |[],[],x,m,hg=>by simp only[pS,ae,ay] at hg;obtain⟨_,rfl⟩:=hg;exact cR.zero h
 |[],_::_,x,m,hg=>by simp[pS] at hg
 |_::_,[],x,m,hg=>by simp[pS] at hg
 |p::ps,v::vs,x,m,hg=>by
  simp only[pS] at hg;split at hg
  ·rename_i x1 m1 h1;split at hg
   ·rename_i x2 m2 h2;simp only[ae,ay] at hg;obtain⟨_,rfl⟩:=hg;exact (Gb h1).or (uZ ps vs x2 m2 h2)
   ·cases hg
  ·cases hg
theorem Ge {g:Nat→Nat} {h:THeap} {i:Nat} {b:PB} {x:b.ty.den} {m:Nat} (hg:tT g h i b=some (x,m)):cR h m:=by
 cases b with
 |rows ty p T=>
  simp only[tT] at hg;split at hg
  ·split at hg
   ·split at hg
    ·simp only[ae,ay] at hg;obtain⟨_,rfl⟩:=hg;exact cR.zero h
    ·cases hg
   ·cases hg
  ·cases hg
 |rowsP ty T=>
  simp only[tT] at hg;split at hg
  ·split at hg
   ·split at hg
    ·simp only[ae,ay] at hg;obtain⟨_,rfl⟩:=hg;exact cR.zero h
    ·cases hg
   ·cases hg
  ·cases hg
 |cells ty ps=>
  simp only[tT] at hg;split at hg
  ·split at hg
   ·split at hg
    ·rename_i h1;simp only[ae,ay] at hg;obtain⟨_,rfl⟩:=hg;exact u0 ps _ _ _ _ h1
    ·cases hg
   ·cases hg
  ·cases hg
 |mp K V=>
  simp only[tT] at hg;split at hg
  ·split at hg
   ·simp only[ae,ay] at hg;obtain⟨_,rfl⟩:=hg;exact cR.zero h
   ·cases hg
  ·cases hg
 |gone=>simp only[tT,ae,ay] at hg;obtain⟨_,rfl⟩:=hg;exact cR.zero h
theorem vb {g:Nat→Nat} {h:THeap}:∀ (bs:List PB) (i:Nat) (x:(PB.tyL bs).den) (m:Nat),qY g h i bs=some (x,m)→cR h m
 |[],i,x,m,hg=>by simp only[qY,ae,ay] at hg;obtain⟨_,rfl⟩:=hg;exact cR.zero h
 |b::r,i,x,m,hg=>by
  simp only[qY] at hg;split at hg
  ·rename_i x1 m1 h1;split at hg
   ·rename_i x2 m2 h2;simp only[ae,ay] at hg;obtain⟨_,rfl⟩:=hg;exact (Ge h1).or (vb r (i+1) x2 m2 h2)
   ·cases hg
  ·cases hg
structure kY (t:Tm) (x:t.ty.den) (vs:List TV) (h1:THeap) (l1:List (Option ey)):Prop where
 pv:ky idf t.vs (fsp _ _ x)=some vs
 pb:jv idf t.bs (snp _ _ x)=some l1
 len:l1.length=t.bs.length
 at_:∀ i b,h1.get i=some b↔l1[i]? =some (some b)
 ok:gz h1 vs=true
 lt:mN t.bs.length vs=true
 cells:∀ i ty l,h1.get i=some (.cells ty l)→gz h1 l=true∧mN t.bs.length l=true
theorem D3 (l:List (Option ey)) (i:Nat) (b:ey):(qV idf 0 l PT.leaf).get i=some b↔l[i]? =some (some b):=by
 by_cases hi:i<l.length
 ·obtain⟨c,hc⟩:∃ c,l[i]? =some c:=⟨l[i],aw hi⟩
  have:=oe idf l 0 PT.leaf (fun a b _ _ e=>by simp only[idf] at e;omega) i c hc;rw[show idf (0+i)=i from by simp only[idf];omega] at this;rw[this,hc];cases c with
  |some b'=>simp
  |none=>simp[PT.get]
 ·rw[od idf l 0 PT.leaf i (fun k hk=>by simp only[idf];omega),bU (by omega)];simp[PT.get]
theorem o6 {t:Tm} {x:t.ty.den} {vs:List TV} {h1:THeap} (hi:sF t x=some (vs,h1)):∃ l1,kY t x vs h1 l1:=by
 unfold sF at hi;split at hi
 ·rename_i us hus;split at hi
  ·rename_i h hh;split at hi
   ·rename_i hc;simp only[ak] at hc;simp only[ae,ay] at hi;obtain⟨rfl,rfl⟩:=hi;unfold xq at hh;split at hh
    ·rename_i l1 hl1;simp only[ae] at hh;refine ⟨l1,hus,hl1,sa _ _ _ _ hl1,fun i b=>?_,hc.1.1,hc.1.2,fun i ty l hil=>?_⟩
     ·rw[← hh];exact D3 l1 i b
     ·have:=PT.get_all _ h 1 0 i _ hc.2 hil;simpa only[ak] using this
    ·cases hh
   ·cases hi
  ·cases hi
 ·cases hi
def BU (nb:Nat) (n:Nat):Bool:=n%2==0&&eg (n/2) nb
theorem tu {nb i:Nat}:BU nb (nm i)=true↔i<nb:=by
 unfold BU nm;rw[show 2*i%2=0 from by omega,show 2*i/2=i from by omega];simp only[beq_self_eq_true,kj];exact⟨fun h=>aW h,fun h=>bB h⟩
theorem DN {nb n:Nat} (h:BU nb n=true):∃ i,i<nb∧n=nm i:=by
 unfold BU at h;simp only[ak,beq_iff_eq] at h;exact⟨n/2,aW h.2,by unfold nm;omega⟩
mutual
theorem F8 {nb:Nat} {h:THeap}:∀ (v:TV) (y:AV),yQ nb v=true→bS h v=some y→y.all (BU nb)=true
 |.f _ _,y,_,he=>by simp only[bS,ae] at he;subst he;rfl
 |.fel _ _ _ _ _,y,_,he=>by simp only[bS,ae] at he;subst he;rfl
 |.pel id _ _ _,y,hl,he=>by simp only[bS,ae] at he;subst he;exact tu.2 (aW hl)
 |.ptr id _,y,hl,he=>by simp only[bS,ae] at he;subst he;exact tu.2 (aW hl)
 |.csl id _ _,y,hl,he=>by simp only[bS,ae] at he;subst he;exact tu.2 (aW hl)
 |.row id,y,hl,he=>by
  simp only[bS] at he;split at he
  ·simp only[ae] at he;subst he;unfold du;split
   ·rfl
   ·exact tu.2 (aW hl)
  ·cases he
 |.emp,y,_,he=>by simp only[bS,ae] at he;subst he;rfl
 |.nil,y,_,he=>by simp only[bS,ae] at he;subst he;rfl
 |.mp id,y,hl,he=>by simp only[bS,ae] at he;subst he;exact tu.2 (aW hl)
 |.agg l,y,hl,he=>by
  simp only[bS] at he;split at he
  ·rename_i l' hl';simp only[ae] at he;subst he;exact mU l l' hl hl'
  ·cases he
 |.tup l,y,hl,he=>by
  simp only[bS] at he;split at he
  ·rename_i l' hl';simp only[ae] at he;subst he;exact mU l l' hl hl'
  ·cases he
 |.clo q l,y,hl,he=>by
  simp only[bS] at he;split at he
  ·rename_i l' hl';simp only[ae] at he;subst he;exact mU l l' hl hl'
  ·cases he
 |.undef,y,_,he=>by simp only[bS,ae] at he;subst he;rfl
 |.np,y,_,he=>by simp only[bS,ae] at he;subst he;rfl
 |.anyb,y,_,he=>by simp only[bS,ae] at he;subst he;rfl
theorem mU {nb:Nat} {h:THeap}:∀ (l:List TV) (l':List AV),mN nb l=true→ci h l=some l'→AV.allL (BU nb) l'=true
 |[],l',_,he=>by simp only[ci,ae] at he;subst he;rfl
 |x::r,l',hl,he=>by
  obtain⟨y,l2,rfl,e1,e2⟩:=ct he;simp only[mN,ak] at hl;simp only[AV.allL,ak];exact⟨F8 x y hl.1 e1,mU r l2 hl.2 e2⟩
end
theorem kY.blk_all {t:Tm} {x:t.ty.den} {vs:List TV} {h1:THeap} {l1:List (Option ey)} (I:kY t x vs h1 l1) {i:Nat} {b:ey} (hb:h1.get i=some b) {y:ph} (hy:gH h1 b=some y):y.c.all (BU t.bs.length)=true:=by
 cases b with
 |rows ty p T xs=>
  simp only[gH] at hy;split at hy
  ·cases hy
  ·simp only[ae] at hy;subst hy;rfl
 |cells ty l=>
  simp only[gH] at hy;split at hy
  ·rename_i l' hl;simp only[ae] at hy;subst hy;exact mU l l' (I.cells i ty l hb).2 hl
  ·cases hy
 |dead p sz n=>cases hy
 |mp K V es=>
  simp only[gH,ae] at hy;subst hy;show BC.all _ (mpC K V es)=true;unfold mpC;split
  ·rfl
  ·simp only[BC.all,qx];have key:∀ l:List (K.den×V.den),AV.allL (BU t.bs.length) (l.map ((fun x=>x.2)∘fun p=>(keyOf K p.1,AV.f (enc1 V p.2))))=true:=fun l=>by
    induction l with
    |nil=>rfl
    |cons e r ih=>simp only[eL,AV.allL,ak];exact⟨rfl,ih⟩
   exact key es
theorem kY.lt_len {t:Tm} {x:t.ty.den} {vs:List TV} {h1:THeap} {l1:List (Option ey)} (I:kY t x vs h1 l1) {i:Nat} {b:ey} (hb:h1.get i=some b):i<t.bs.length:=by
 rw[← I.len];exact (bg.1 ((I.at_ i b).1 hb)).1
def φ1 (nb:Nat) (g:Nat→Nat) (φ:PM):PM:=fun n=>if BU nb n then φ (ve g n) else none
theorem Do {nb:Nat} {g:Nat→Nat} {φ:PM} {i:Nat} (hi:i<nb):φ1 nb g φ (nm i)=φ (nm (g i)):=by
 unfold φ1;rw[if_pos (tu.2 hi),qk]
theorem pj {nb:Nat} {g:Nat→Nat} {φ:PM} {n k:Nat} (h:φ1 nb g φ n=some k):∃ i,i<nb∧n=nm i∧φ (nm (g i))=some k:=by
 unfold φ1 at h;split at h
 ·rename_i hp;obtain⟨i,hi,rfl⟩:=DN hp;rw[qk] at h;exact⟨i,hi,rfl,h⟩
 ·cases h
structure Fm (t:Tm) (x:t.ty.den) (vs:List TV) (h1:THeap) (g:Nat→Nat) (φ:PM) (E E':Nat→Prop) (Hv:HF) (w:World):Prop where
 rep:lm (φ1 t.bs.length g φ) E' (bp h1) w
 val:∀ x v,x.all (BU t.bs.length)=true→cg φ (tot E φ Hv) w (x.ren (ve g)) v→cg (φ1 t.bs.length g φ) (tot E' (φ1 t.bs.length g φ) (bp h1)) w x v
 own_:∀ k,own (φ1 t.bs.length g φ) (bp h1) k→own φ Hv k
 tot_:∀ k,tot E' (φ1 t.bs.length g φ) (bp h1) k→tot E φ Hv k
theorem lm.toId {t:Tm} {x:t.ty.den} {vs:List TV} {h1:THeap} {l1:List (Option ey)} (I:kY t x vs h1 l1) {g:Nat→Nat} (inj:∀ a b,a<t.bs.length→b<t.bs.length→g a=g b→a=b) {φ:PM} {E E':Nat→Prop} {Hv:HF} {w:World} (r:lm φ E Hv w)
 (hat:∀ i b y,h1.get i=some b→gH h1 b=some y→Hv (nm (g i))=some (y.ren (ve g)))
 (hE:∀ k,E' k→tot E φ Hv k) (hne:∀ i k b,i<t.bs.length→Hv (nm (g i))=some b→φ (nm (g i))=some k→¬E' k) (hel:∀ k,E' k→k<w.heap.size):Fm t x vs h1 g φ E E' Hv w:=by
 have own1:∀ k,own (φ1 t.bs.length g φ) (bp h1) k→own φ Hv k:=by
  rintro k ⟨n,y,h2,h3⟩;obtain⟨i,hi,rfl,h4⟩:=pj h3;obtain⟨j,b,e,h5,h6⟩:=fo h2;have:=gA e;subst this;exact⟨nm (g i),_,hat i b y h5 h6,h4⟩
 have tot1:∀ k,tot E' (φ1 t.bs.length g φ) (bp h1) k→tot E φ Hv k:=fun k hk=>hk.elim (hE k) fun h=>.inr (own1 k h)
 have val:∀ x v,x.all (BU t.bs.length)=true→cg φ (tot E φ Hv) w (x.ren (ve g)) v→cg (φ1 t.bs.length g φ) (tot E' (φ1 t.bs.length g φ) (bp h1)) w x v:=fun x v hx hr=>by
  have h2:cg (φ1 t.bs.length g φ) (tot E φ Hv) w x v:=cg.renFrom (fun i k hp hk=>by unfold φ1;rw[if_pos hp];exact hk) hr x hx rfl;exact h2.ext (fun _ _ h=>h) (wQ.refl _ w) fun k _ hk=>tot1 k hk
 refine ⟨⟨fun n n' b b' k g1 g2 g3 g4=>?_,fun n y g1=>?_,hel,fun g' cells hg=>(r.gl g' cells hg).ext (wQ.refl _ w) fun k _ hk=>tot1 k hk⟩,val,own1,tot1⟩
 ·obtain⟨i,hi,rfl,h4⟩:=pj g3;obtain⟨j,hj,rfl,h5⟩:=pj g4;obtain⟨i',c,e,h6,h7⟩:=fo g1;have:=gA e;subst this;obtain⟨j',c',e,h8,h9⟩:=fo g2;have:=gA e;subst this;have:=r.inj _ _ _ _ k (hat i c _ h6 h7) (hat j c' _ h8 h9) h4 h5;rw[inj i j hi hj (gA this)]
 ·obtain⟨i,c,rfl,h6,h7⟩:=fo g1;have hi:=I.lt_len h6;obtain⟨k,p1,p2,ob,p3,p4⟩:=r.at_ _ _ (hat i c y h6 h7);exact⟨k,by rw[Do hi];exact p1,hne i k _ hi (hat i c y h6 h7) p1,ob,p3,fm.renFrom val (I.blk_all h6 h7) p4⟩
theorem BM.view {g:Nat→Nat} {h hv:THeap} {H H':HF} {m:Nat} (d:ov H H') (gv:td h H H' m) (hr:pP hv h) {b0 c:ey} (hb:BM g h m b0 c) {y y':ph} (e0:gH h b0=some y) (e1:gH hv c=some y'):gk H H' y y':=by
 cases hb with
 |rows ty p T xs=>
  simp only[gH] at e0 e1;rw[e0] at e1;cases e1;exact gk.refl d y
 |mp K V es=>
  simp only[gH] at e0 e1;rw[e0] at e1;cases e1;exact gk.refl d y
 |cells ty ps x l l2 m' hg hp hm=>
  simp only[gH] at e0 e1;split at e0
  ·rename_i l' hl;simp only[ae] at e0;subst e0;split at e1
   ·rename_i cs' hc;simp only[ae] at e1;subst e1;obtain⟨l1,l3,q1,q2,q3⟩:=sL d hr ps l x m' [] l2 l' cs' hg hp hl hc fun i hi=>gv i (hm i hi)
    simp only[ci,ae] at q2;subst q2;rw[ul] at q1;subst q1;exact gk.cells rfl rfl q3 (gV (mZ hc (putCs_cell ps x l2 hp)))
   ·cases e1
  ·cases e0
theorem BM.erB_some {g:Nat→Nat} {h hv:THeap} {nx m:Nat} (hinv:ib h nx) {i:Nat} {b0 c:ey} (h0:h.get i=some b0) (hb:BM g h m b0 c) {y':ph} (e1:gH hv c=some y'):∃ y,gH h b0=some y:=by
 cases hb with
 |rows ty p T xs=>exact⟨y',e1⟩
 |mp K V es=>exact⟨y',e1⟩
 |cells ty ps x l l2 m' hg hp hm=>
  obtain⟨l',hl⟩:=dx h l (hinv.cells i ty l h0);exact⟨_,by simp only[gH,hl];rfl⟩
theorem BM.row {g:Nat→Nat} {h:THeap} {m:Nat} {b0 c:ey} (hb:BM g h m b0 c):rowB c=rowB b0:=by
 cases hb<;>rfl
structure kw (P:Program) (f:FuncId) (c:bR):Prop where
 callable:sZ P f
 calls:∀ x y,c.m x=some y→∀ vs hp l1 rs hq l2 la lr,kY c.pre x vs hp l1→kY c.post y rs hq l2→ci hp vs=some la→ci hq rs=some lr→
  ∀ (φ:PM) (E:Nat→Prop) (w:World) (us:List Value),lm φ E (bp hp) w→fP φ (tot E φ (bp hp)) w la us→(∀ n k,φ n=some k→ow n<c.pre.bs.length)→
  Calls P f us.toArray w fun en w'=>∃ v φ',en= .returned v∧wQ (own φ (bp hp)) w w'∧(∀ k,k<w.heap.size→own φ' (bp hq) k→own φ (bp hp) k)∧(∀ i,i<c.pre.bs.length→φ' (nm i)=φ (nm i))∧lm φ' E (bp hq) w'∧cg φ' (tot E φ' (bp hq)) w' (tupA lr) v
theorem xv {g:Nat→Nat}:∀ (bs:List PB) (x:(PB.tyL bs).den) (l:List (Option ey)),noGone bs=true→jv g bs x=some l→∀ (i:Nat) (c:Option ey),l[i]? =some c→∃ b,c=some b
 |[],x,l,_,hp,i,c,hc=>by simp only[jv,ae] at hp;subst hp;simp at hc
 |b::r,x,l,hn,hp,i,c,hc=>by
  simp only[jv] at hp;split at hp
  ·rename_i a ha;split at hp
   ·rename_i q hq;simp only[ae] at hp;subst hp;cases i with
    |zero=>
     simp at hc;subst hc;cases b with
     |gone=>simp[noGone] at hn
     |rows ty p T=>simp only[sd,ae] at ha;exact⟨_,ha.symm⟩
     |rowsP ty T=>simp only[sd,ae] at ha;exact⟨_,ha.symm⟩
     |cells ty ps=>
      simp only[sd] at ha;split at ha
      ·simp only[ae] at ha;exact⟨_,ha.symm⟩
      ·cases ha
     |mp K V=>simp only[sd,ae] at ha;exact⟨_,ha.symm⟩
    |succ i=>
     refine xv r _ q ?_ hq i c (by simpa using hc);cases b<;>first|exact hn|simp[noGone] at hn
   ·cases hp
  ·cases hp
theorem um {h h2:THeap} {g:Nat→Nat}:∀ n,nj h h2 g n=true→∀ i,i<n→∀ r,dg h (g i)=some r→dg h2 (g i)=some r
 |0,_,i,hi,_,_=>by omega
 |n+1,hs,i,hi,r,hr=>by
  simp only[nj,ak] at hs;by_cases e:i=n
  ·subst e;obtain⟨p,s,k⟩:=r;have h1:=hs.1;rw[hr] at h1;cases h3:dg h2 (g i) with
   |none=>rw[h3] at h1;cases h1
   |some q=>
    obtain⟨p',s',k'⟩:=q;rw[h3] at h1;simp only[ak,beq_iff_eq] at h1;rw[h1.1.1,au h1.1.2,au h1.2]
  ·exact um n hs.2 i (by omega) r hr
theorem fP.le {H H':HF} {φ:PM} {E:Nat→Prop} {w:World} (r:lm φ E H w):∀ {l l':List AV} {us:List Value},eA H H' l l'→fP φ (tot E φ H) w l us→fP φ (tot E φ H') w l' us
 |[],[],[],_,_=>trivial
 |[],[],_::_,_,h=>h.elim
 |_::_,_::_,[],_,h=>h.elim
 |[],_::_,_,h,_=>h.elim
 |_::_,[],_,h,_=>h.elim
 |_::_,_::_,_::_,hl,h=>⟨hl.1 _ _ _ _ r h.1,fP.le r hl.2 h.2⟩
theorem fP.toId {φ φ':PM} {O O':Nat→Prop} {w:World} {γ:Nat→Nat} {p:Nat→Bool} (hv:∀ x v,x.all p=true→cg φ O w (x.ren γ) v→cg φ' O' w x v):∀ {l:List AV} {us:List Value},AV.allL p l=true→fP φ O w (AV.renL γ l) us→fP φ' O' w l us
 |[],[],_,_=>trivial
 |[],_::_,_,h=>h.elim
 |_::_,[],_,h=>h.elim
 |_::_,_::_,hp,h=>by
  simp only[AV.allL,ak] at hp;exact⟨hv _ _ hp.1 h.1,fP.toId hv hp.2 h.2⟩
theorem BR {h:THeap}:∀ {rs:List TV} {lr:List AV},ci h rs=some lr→bS h (resT rs)=some (tupA lr)
 |[],lr,he=>by simp only[ci,ae] at he;subst he;rfl
 |[x],lr,he=>by
  obtain⟨y,l2,rfl,e1,e2⟩:=ct he;simp only[ci,ae] at e2;subst e2;exact e1
 |x::y::r,lr,he=>by
  obtain⟨y1,l2,rfl,e1,e2⟩:=ct he;obtain⟨y2,l3,rfl,e3,e4⟩:=ct e2;simp only[resT,bS,he,tupA]
theorem Dy (γ:Nat→Nat):∀ l:List AV,tupA (AV.renL γ l)=(tupA l).ren γ
 |[]=>rfl
 |[x]=>rfl
 |x::y::r=>rfl
theorem Dz {p:Nat→Bool}:∀ {l:List AV},AV.allL p l=true→(tupA l).all p=true
 |[],_=>rfl
 |[x],h=>by simp only[AV.allL,ak] at h;exact h.1
 |x::y::r,h=>h
theorem E2 {nx nn q:Nat}:aI (((1<<<nn)-1)<<<nx) q=true↔nx≤q∧q<nx+nn:=by
 rw[Nat.testBit_shiftLeft,Nat.one_shiftLeft,Nat.testBit_two_pow_sub_one];simp only[ak,decide_eq_true_eq];omega
theorem Ep {P:Program} {o:Oper} {e:TEnv} {h:THeap} {nx:Nat} {f:FuncId} {c:bR} {l:List TV} (hinv:ib h nx) (sp:kw P f c) {x:c.pre.ty.den} {m:Nat} {σ:PT Nat} {sm:Nat} (M:vk 0 c.pre l h x m σ sm) {vs:List TV} {hp:THeap} {l1:List (Option ey)} (I:kY c.pre x vs hp l1) (hng:noGone c.pre.bs=true) {y:c.post.ty.den} (hm:c.m x=some y) {rs:List TV} {hq:THeap} {l2:List (Option ey)} (J:kY c.post y rs hq l2) (hle:c.pre.bs.length≤c.post.bs.length)
 {g:Nat→Nat} (glo:∀ i,i<c.pre.bs.length→g i=eh σ i) (ghi:∀ i,c.pre.bs.length≤i→g i=nx+(i-c.pre.bs.length)) {h2:THeap} (hh2:h2=qV g 0 (l2.map (gX (hP g))) (c7 m h)) (hsr:nj h h2 g c.pre.bs.length=true) {la:List AV} (hla:ci h l=some la)
 (hexec:∀ (φ:PM) (E:Nat→Prop) (h':HF) (w:World) (a:Act),(∀ t,.tmp t∈o.op.operands→∀ y,dC e h t=some y→cg φ (tot E φ h') w y (a.tmps.getD t undef))→lm φ E h' w→∃ us:List Value,(execOp a.eval o).run P w= .ok (.enter f us.toArray) w∧fP φ (tot E φ h') w la us):
 fq P o false e h nx (resT (gp g rs)) (sm|||m) (sm|||m|||(((1<<<(c.post.bs.length-c.pre.bs.length))-1)<<<nx)) h2 (nx+(c.post.bs.length-c.pre.bs.length)):=by
 obtain⟨x1,m1,x2,m2,hx,hmm,gv,gb⟩:=M.ex;have hmr:cR h m:=by rw[hmm];exact (uZ _ _ _ _ gv).or (vb _ _ _ _ gb)
 generalize hnp:c.pre.bs.length=np at*
 generalize hnq:c.post.bs.length=nq at*
 have pvg:ky (eh σ) c.pre.vs x1=some (gp (eh σ) vs):=by
  have h3:=m7 (eh σ) c.pre.vs x1;have h4:=I.pv;rw[hx,mX] at h4;rw[h3,h4];rfl
 have pbg:jv (eh σ) c.pre.bs x2=some (l1.map (gX (hP (eh σ)))):=by
  have h3:=oO (eh σ) c.pre.bs x2;have h4:=I.pb;rw[hx,n8] at h4;rw[h3,h4];rfl
 have hl1:∀ i,i<np→∃ b,l1[i]? =some (some b):=fun i hi=>by
  have hi':i<l1.length:=by rw[I.len,hnp];exact hi
  obtain⟨b,hb⟩:=xv c.pre.bs _ l1 hng I.pb i l1[i] (aw hi');exact⟨b,by rw[aw hi',hb]⟩
 have hbm:∀ i b,l1[i]? =some (some b)→∃ b0,h.get (eh σ i)=some b0∧BM (eh σ) h m b0 (hP (eh σ) b):=fun i b hb=>by
  obtain⟨b0,q1,q2⟩:=getBs_ok c.pre.bs 0 x2 m2 _ gb pbg i (hP (eh σ) b) (by rw[aY,hb];rfl);rw[bw] at q1;exact⟨b0,q1,q2.mono fun j hj=>by rw[hmm,bh,hj];simp⟩
 have inj1:∀ a b,a<np→b<np→eh σ a=eh σ b→a=b:=fun a b ha hb=>M.inj a b (by rw[hnp];exact ha) (by rw[hnp];exact hb)
 have sig:∀ q,aI sm q=true↔∃ k,k<np∧eh σ k=q:=fun q=>by rw[M.sig,hnp]
 have gnx:∀ i,i<np→eh σ i<nx:=fun i hi=>by
  obtain⟨b,hb⟩:=hl1 i hi;obtain⟨b0,q1,_⟩:=hbm i b hb;exact hinv.low _ _ q1
 have hmS:∀ i,i<np→aI m (eh σ i)=false:=fun i hi=>by
  cases hx:aI m (eh σ i) with
  |false=>rfl
  |true=>have:=M.disj _ hx;rw[(sig _).2 ⟨i,hi,rfl⟩] at this;cases this
 have injg:∀ a b,a<nq→b<nq→g a=g b→a=b:=fun a b ha hb hab=>by
  by_cases h1:a<np
  ·by_cases h2:b<np
   ·rw[glo a h1,glo b h2] at hab;exact inj1 a b h1 h2 hab
   ·rw[glo a h1,ghi b (by omega)] at hab;have:=gnx a h1;omega
  ·by_cases h2:b<np
   ·rw[ghi a (by omega),glo b h2] at hab;have:=gnx b h2;omega
   ·rw[ghi a (by omega),ghi b (by omega)] at hab;omega
 let hv:THeap:=qV (eh σ) 0 (l1.map (gX (hP (eh σ)))) (c7 m h)
 have hv_at:∀ i b,l1[i]? =some (some b)→hv.get (eh σ i)=some (hP (eh σ) b):=fun i b hb=>by
  have:=oe (eh σ) (l1.map (gX (hP (eh σ)))) 0 (c7 m h) (fun a b ha hb=>by
   simp only[cK,I.len,hnp] at ha hb;simp only[bw];exact inj1 a b ha hb) i (some (hP (eh σ) b)) (by rw[aY,hb];rfl)
  rw[bw] at this;exact this
 have hv_ne:∀ j,(∀ i,i<np→j≠eh σ i)→hv.get j=(c7 m h).get j:=fun j hj=>
  od (eh σ) _ 0 _ j fun k hk=>by
   simp only[cK,I.len,hnp] at hk;rw[bw];exact hj k hk
 have rows_in:pP hv h:=fun j r hr=>by
  rw[bF] at hr ⊢;by_cases hj:∃ i,i<np∧j=eh σ i
  ·obtain⟨i,hi,rfl⟩:=hj;obtain⟨b,hb⟩:=hl1 i hi;obtain⟨b0,q1,q2⟩:=hbm i b hb;rw[hv_at i b hb] at hr;rw[q1];simp only[aC] at hr ⊢;rw[← q2.row];exact hr
  ·rw[hv_ne j (fun i hi e=>hj ⟨i,hi,e⟩),eR] at hr;split at hr
   ·rename_i ht;obtain⟨ty,p,T,xs,hb⟩:=hmr j ht;rw[hb] at hr ⊢;exact hr
   ·exact hr
 have rows_hp:∀ i r,dg hp i=some r→dg hv (eh σ i)=some r:=fun i r hr=>by
  rw[bF] at hr ⊢;cases hb:hp.get i with
  |none=>rw[hb] at hr;cases hr
  |some b=>
   rw[hb] at hr;rw[hv_at i b ((I.at_ i b).1 hb)];simp only[aC,vw] at hr ⊢;exact hr
 have dead_m:∀ i,aI m i=true→bp hv (nm i)=none:=fun i hi=>by
  rw[bu,hv_ne i (fun k hk e=>by rw[e,hmS k hk] at hi;cases hi)];obtain⟨p,sz,n,hd⟩:=nf hmr hi;rw[hd];rfl
 have h2_at:∀ i cc,l2[i]? =some cc→h2.get (g i)=(match cc with|some b=>some (hP g b)|none=>((c7 m h).get (g i)).map killB):=fun i cc hc=>by
  have:=oe g (l2.map (gX (hP g))) 0 (c7 m h) (fun a b ha hb=>by
   simp only[cK,J.len,hnq] at ha hb;simp only[bw];exact injg a b ha hb) i (cc.map (hP g)) (by rw[aY,hc];rfl)
  rw[bw] at this;rw[hh2,this];cases cc<;>rfl
 have h2_ne:∀ j,(∀ i,i<nq→j≠g i)→h2.get j=(c7 m h).get j:=fun j hj=>by
  rw[hh2];refine od g _ 0 _ j fun k hk=>?_
  simp only[cK,J.len,hnq] at hk;rw[bw];exact hj k hk
 have rows_hq:∀ i r,dg hq i=some r→dg h2 (g i)=some r:=fun i r hr=>by
  rw[bF] at hr ⊢;cases hb:hq.get i with
  |none=>rw[hb] at hr;cases hr
  |some b=>
   rw[hb] at hr;rw[h2_at i _ ((J.at_ i b).1 hb)];simp only[aC,vw] at hr ⊢;exact hr
 have rows2:bQ h h2:=fun j r hr=>by
  by_cases hj:∃ i,i<np∧j=eh σ i
  ·obtain⟨i,hi,rfl⟩:=hj;rw[← glo i hi] at hr ⊢;exact um np hsr i hi r hr
  ·have hjn:j<nx:=by
    rw[bF] at hr;cases hb:h.get j with
    |none=>rw[hb] at hr;cases hr
    |some b=>exact hinv.low j b hb
   have:=bQ.kill m h j r hr;rw[bF] at this ⊢;rw[h2_ne j (fun i hi e=>?_)]
   ·exact this
   ·by_cases hip:i<np
    ·exact hj ⟨i,hip,by rw[e,glo i hip]⟩
    ·rw[ghi i (by omega)] at e;omega
 obtain⟨lr,hlr⟩:=dx hq rs J.ok;obtain⟨lp,hlp⟩:=dx hp vs I.ok;have er2:∀ i b yb,hq.get i=some b→gH hq b=some yb→bp h2 (nm (g i))=some (yb.ren (ve g)):=fun i b yb hb hyb=>by
  rw[bu,h2_at i _ ((J.at_ i b).1 hb)];exact sN rows_hq hyb
 have er2':∀ i,i<nq→∀ z,bp h2 (nm (g i))=some z→∃ b yb,hq.get i=some b∧gH hq b=some yb∧z=yb.ren (ve g):=fun i hi z hz=>by
  have hi':i<l2.length:=by rw[J.len,hnq];exact hi
  have hcc:=aw hi';cases hcv:l2[i] with
  |none=>
   rw[hcv] at hcc;rw[bu,h2_at i none hcc] at hz;simp only at hz;cases hkg:(c7 m h).get (g i) with
   |none=>rw[hkg] at hz;cases hz
   |some b0=>rw[hkg] at hz;cases b0<;>simp[killB,gH] at hz
  |some b=>
   rw[hcv] at hcc;have hb:=(J.at_ i b).2 hcc;rw[bu,h2_at i (some b) hcc] at hz;have hyb:∃ yb,gH hq b=some yb:=by
    cases b with
    |rows ty p T xs=>simp only[aC,hP,gH] at hz ⊢;exact⟨z,hz⟩
    |cells ty q=>
     obtain⟨q',hq'⟩:=dx hq q (J.cells i ty q hb).1;exact⟨_,by simp only[gH,hq'];rfl⟩
    |dead p sz n=>simp[hP,gH] at hz
    |mp K V es=>exact⟨_,rfl⟩
   obtain⟨yb,hyb⟩:=hyb;have:=sN rows_hq hyb;simp only[aC] at hz;rw[this] at hz;exact⟨b,yb,hb,hyb,by cases hz;rfl⟩
 have dead2:∀ i,aI m i=true→bp h2 (nm i)=none:=fun i hi=>by
  have hlt:=hmr.lt hinv hi;rw[bu,h2_ne i (fun k hk e=>?_)]
  ·obtain⟨p,sz,n,hd⟩:=nf hmr hi;rw[hd];rfl
  ·by_cases hkp:k<np
   ·rw[e,glo k hkp,hmS k hkp] at hi;cases hi
   ·rw[ghi k (by omega)] at e;omega
 have inv2:ib h2 (nx+(nq-np)):=by
  refine ⟨fun j ty q hj=>?_,fun j b hj=>?_⟩
  ·by_cases hjg:∃ i,i<nq∧j=g i
   ·obtain⟨i,hi,rfl⟩:=hjg;have hi':i<l2.length:=by rw[J.len,hnq];exact hi
    have hcc:=aw hi';cases hcv:l2[i] with
    |none=>
     rw[hcv] at hcc;rw[h2_at i none hcc] at hj;simp only at hj;cases hkg:(c7 m h).get (g i) with
     |none=>rw[hkg] at hj;cases hj
     |some b0=>rw[hkg] at hj;cases b0<;>simp[killB] at hj
    |some b=>
     rw[hcv] at hcc;have hb:=(J.at_ i b).2 hcc;rw[h2_at i (some b) hcc] at hj;simp only[ae] at hj;cases b with
     |cells ty' q'=>
      simp only[hP,ey.cells.injEq] at hj;obtain⟨_,rfl⟩:=hj;obtain⟨z,hz⟩:=dx hq q' (J.cells i ty' q' hb).1;exact gT _ _ _ (kV rows_hq q' z hz)
     |rows _ _ _ _=>simp[hP] at hj
     |dead _ _ _=>simp[hP] at hj
     |mp _ _ _=>simp[hP] at hj
   ·rw[h2_ne j (fun i hi e=>hjg ⟨i,hi,e⟩)] at hj;refine eP rows2 q ?_;have hkk:=(hinv.kill m).cells j ty q hj;rw[eR] at hj;split at hj
    ·rename_i ht;obtain⟨_,_,_,_,hb⟩:=hmr j ht;rw[hb] at hj;cases hj
    ·exact hinv.cells j ty q hj
  ·by_cases hjg:∃ i,i<nq∧j=g i
   ·obtain⟨i,hi,rfl⟩:=hjg;by_cases hip:i<np
    ·rw[glo i hip];have:=gnx i hip;omega
    ·rw[ghi i (by omega)];omega
   ·rw[h2_ne j (fun i hi e=>hjg ⟨i,hi,e⟩)] at hj;have:=(hinv.kill m).low j b hj;omega
 let S:List Nat:=(fE np).map fun i=>nm (eh σ i)
 have memS:∀ n,n∈S↔∃ i,i<np∧n=nm (eh σ i):=fun n=>by
  simp only[S,cQ,k9];exact⟨fun ⟨i,h1,h2⟩=>⟨i,h1,h2.symm⟩,fun ⟨i,h1,h2⟩=>⟨i,h1,h2.symm⟩⟩
 let NN:List Nat:=(fE (nq-np)).map fun t=>nm (nx+t)
 have memN:∀ n,n∈NN↔∃ t,t<nq-np∧n=nm (nx+t):=fun n=>by
  simp only[NN,cQ,k9];exact⟨fun ⟨i,h1,h2⟩=>⟨i,h1,h2.symm⟩,fun ⟨i,h1,h2⟩=>⟨i,h1,h2.symm⟩⟩
 have memW:∀ n,n∈S++uu m++NN↔(∃ i,i<nq∧n=nm (g i))∨n∈uu m:=fun n=>by
  rw[bD,bD,memS,memN];constructor
  ·rintro ((⟨i,hi,rfl⟩|hn)|⟨t,ht,rfl⟩)
   ·exact .inl ⟨i,by omega,by rw[glo i hi]⟩
   ·exact .inr hn
   ·exact .inl ⟨np+t,by omega,by rw[ghi _ (by omega),show np+t-np=t from by omega]⟩
  ·rintro (⟨i,hi,rfl⟩|hn)
   ·by_cases hip:i<np
    ·exact .inl (.inl ⟨i,hip,by rw[glo i hip]⟩)
    ·exact .inr ⟨i-np,by omega,by rw[ghi i (by omega)]⟩
   ·exact .inl (.inr hn)
 have hOpT:dX P o (dC e h) (bp h) ⟨tupA (AV.renL (ve g) lr),S++uu m,S++uu m++NN,bp h2,NN⟩:=by
  intro φ E h' w a hrd hwr hops hrep hN;have hS':∀ i,i<np→h' (nm (eh σ i))=bp h (nm (eh σ i)):=fun i hi=>hrd _ (fb _ ((memS _).2 ⟨i,hi,rfl⟩))
  have hM':∀ i,aI m i=true→h' (nm i)=bp h (nm i):=fun i hi=>hrd _ (gh _ (gQ.2 hi))
  obtain⟨us,hrun,hrel⟩:=hexec φ E h' w a hops hrep
  let Hv:HF:=fun n=>if n∈S++uu m then bp hv n else h' n
  have Hv_in:∀ n,n∈S++uu m→Hv n=bp hv n:=fun n hn=>by simp only[Hv,hn,if_true]
  have Hv_out:∀ n,n∉S++uu m→Hv n=h' n:=fun n hn=>by simp only[Hv,hn,if_false]
  have blkS:∀ i,i<np→∀ z,bp hv (nm (eh σ i))=some z→∃ b0 b y0,h.get (eh σ i)=some b0∧l1[i]? =some (some b)∧BM (eh σ) h m b0 (hP (eh σ) b)∧gH h b0=some y0∧gH hv (hP (eh σ) b)=some z:=fun i hi z hz=>by
   obtain⟨b,hb⟩:=hl1 i hi;obtain⟨b0,q1,q2⟩:=hbm i b hb;rw[bu,hv_at i b hb] at hz;simp only[aC] at hz;obtain⟨y0,hy0⟩:=BM.erB_some hinv q1 q2 hz;exact⟨b0,b,y0,q1,hb,q2,hy0,hz⟩
  have hd:ov h' Hv:=fun n b hb=>by
   by_cases hn:n∈S++uu m
   ·rw[Hv_in n hn] at hb;rcases bD.1 hn with hs|hs
    ·obtain⟨i,hi,rfl⟩:=(memS n).1 hs;obtain⟨b0,b1,y0,q1,q2,q3,q4,q5⟩:=blkS i hi b hb;exact⟨y0,by rw[hS' i hi,bu,q1];exact q4⟩
    ·obtain⟨i,rfl,hi⟩:=jb.1 hs;rw[dead_m i hi] at hb;cases hb
   ·rw[Hv_out n hn] at hb;exact⟨b,hb⟩
  have gvv:td h h' Hv m:=fun i hi=>⟨hM' i hi,by rw[Hv_in _ (gh _ (gQ.2 hi)),dead_m i hi]⟩
  have V:wI h' Hv:=⟨hd,fun n b b' hb hb'=>by
   by_cases hn:n∈S++uu m
   ·rw[Hv_in n hn] at hb';rcases bD.1 hn with hs|hs
    ·obtain⟨i,hi,rfl⟩:=(memS n).1 hs;obtain⟨b0,b1,y0,q1,q2,q3,q4,q5⟩:=blkS i hi b' hb';rw[hS' i hi,bu,q1] at hb;simp only[aC] at hb;exact BM.view hd gvv rows_in q3 hb q5
    ·obtain⟨i,rfl,hi⟩:=jb.1 hs;rw[dead_m i hi] at hb';cases hb'
   ·rw[Hv_out n hn,hb] at hb';cases hb';exact gk.refl hd b⟩
  have hrepv:=V.rep hrep;have hlpg:ci hv (gp (eh σ) vs)=some (AV.renL (ve (eh σ)) lp):=kV rows_hp vs lp hlp;have hrel1:fP φ (tot E φ Hv) w (AV.renL (ve (eh σ)) lp) us:=
   fP.le hrep (sK hd rows_in c.pre.vs l x1 m1 _ la _ gv pvg hla hlpg (fun i hi=>gvv i (by rw[hmm,bh,hi];rfl))) hrel
  let E':Nat→Prop:=fun k=>E k∨∃ n b,Hv n=some b∧n∉S∧φ n=some k
  have T:Fm c.pre x vs hp (eh σ) φ E E' Hv w:=by
   refine lm.toId I (fun a b ha hb=>inj1 a b (by rw[← hnp];exact ha) (by rw[← hnp];exact hb)) hrepv (fun i b yb hb hyb=>?_) ?_ ?_ ?_
   ·have hi:=I.lt_len hb;rw[hnp] at hi;rw[Hv_in _ (fb _ ((memS _).2 ⟨i,hi,rfl⟩)),bu,hv_at i b ((I.at_ i b).1 hb)];exact sN rows_hp hyb
   ·rintro k (hE|⟨n,b,h1,_,h3⟩)
    ·exact .inl hE
    ·exact .inr ⟨n,b,h1,h3⟩
   ·rintro i k b hi h1 h3 (hE|⟨n,b',h4,h5,h6⟩)
    ·obtain⟨k',p1,p2,_⟩:=hrepv.at_ _ _ h1;rw[h3] at p1;cases p1;exact p2 hE
    ·have:=hrepv.inj _ _ _ _ k h1 h4 h3 h6;exact h5 (by rw[← this];exact (memS _).2 ⟨i,by rw[← hnp];exact hi,rfl⟩)
   ·rintro k (hE|⟨n,b,h1,_,h3⟩)
    ·exact hrepv.el k hE
    ·obtain⟨k',q1,_,ob,q3,_⟩:=hrepv.at_ n b h1;rw[h3] at q1;cases q1;exact (b6.1 q3).1
  have hcalls:=sp.calls x y hm vs hp l1 rs hq l2 lp lr I J hlp hlr (φ1 c.pre.bs.length (eh σ) φ) E' w us T.rep (fP.toId T.val (mU vs lp I.lt hlp) hrel1) (fun n k hk=>by
   obtain⟨i,hi,rfl,_⟩:=pj hk;rw[cU];exact hi)
  unfold uS;rw[hrun];refine Calls.mono hcalls ?_;rintro en w' ⟨v,φc',rfl,hext,hown,hnm,rp,rv'⟩
  let isN:Nat→Prop:=fun n=>n∈NN
  let φ':PM:=fun n=>if n∈NN then φc' (nm (np+(ow n-nx))) else φ n
  have φ'_new:∀ t,t<nq-np→φ' (nm (nx+t))=φc' (nm (np+t)):=fun t ht=>by
   have:nm (nx+t)∈NN:=(memN _).2 ⟨t,ht,rfl⟩;simp only[φ',this,if_true,cU];rw[show nx+t-nx=t from by omega]
  have φ'_old:∀ n,n∉NN→φ' n=φ n:=fun n hn=>by simp only[φ',hn,if_false]
  have loN:∀ i,i<nx→nm i∉NN:=fun i hi hn=>by
   obtain⟨t,_,e⟩:=(memN _).1 hn;have:=gA e;omega
  have φ'_g:∀ i,i<nq→φ' (nm (g i))=φc' (nm i):=fun i hi=>by
   by_cases hip:i<np
   ·rw[glo i hip,φ'_old _ (loN _ (gnx i hip)),hnm i (by rw[hnp];exact hip),Do (by rw[hnp];exact hip)]
   ·rw[ghi i (by omega),φ'_new _ (by omega),show np+(i-np)=i from by omega]
  have hsub:∀ n k,φ n=some k→φ' n=some k:=fun n k hk=>by
   by_cases hn:n∈NN
   ·rw[hN n hn] at hk;cases hk
   ·rw[φ'_old n hn];exact hk
  let F:HF:=c5 h' (S++uu m++NN) (bp h2)
  have F_g:∀ i,i<nq→F (nm (g i))=bp h2 (nm (g i)):=fun i hi=>by
   simp only[F,c5,(memW _).2 (.inl ⟨i,hi,rfl⟩),if_true]
  have F_out:∀ n,n∉S++uu m++NN→F n=h' n:=fun n hn=>by simp only[F,c5,hn,if_false]
  have from_:∀ n b,F n=some b→(∃ i bq yb,i<nq∧n=nm (g i)∧hq.get i=some bq∧gH hq bq=some yb∧b=yb.ren (ve g))∨(h' n=some b∧Hv n=some b∧n∉S∧n∉NN∧φ' n=φ n):=fun n b hb=>by
   by_cases hn:n∈S++uu m++NN
   ·rcases (memW n).1 hn with ⟨i,hi,rfl⟩|hs
    ·rw[F_g i hi] at hb;obtain⟨bq,yb,q1,q2,q3⟩:=er2' i hi b hb;exact .inl ⟨i,bq,yb,hi,rfl,q1,q2,q3⟩
    ·obtain⟨i,rfl,hi⟩:=jb.1 hs;have:F (nm i)=bp h2 (nm i):=by simp only[F,c5,hn,if_true]
     rw[this,dead2 i hi] at hb;cases hb
   ·rw[F_out n hn] at hb;have h1:n∉S++uu m:=fun hh=>hn (fb _ hh)
    have h3:n∉NN:=fun hh=>hn (gh _ hh)
    exact .inr ⟨hb,by rw[Hv_out n h1];exact hb,fun hh=>h1 (fb _ hh),h3,φ'_old n h3⟩
  have own':∀ k,own φ' F k→own φc' (bp hq) k∨∃ n b,Hv n=some b∧n∉S∧φ n=some k:=by
   rintro k ⟨n,b,h1,h3⟩;rcases from_ n b h1 with ⟨i,bq,yb,hi,rfl,q1,q2,_⟩|⟨_,q2,q3,_,q5⟩
   ·rw[φ'_g i hi] at h3;exact .inl ⟨nm i,yb,by rw[bu,q1];exact q2,h3⟩
   ·exact .inr ⟨n,b,q2,q3,by rw[← q5];exact h3⟩
  have mv:eT φ φ' h' F w w':=by
   refine ⟨hsub,hext.mono fun k hk=>hd.own (T.own_ k hk),fun k hk ho=>?_⟩;rcases own' k ho with h1|⟨n,b,h1,_,h3⟩
   ·exact hd.own (T.own_ k (hown k hk h1))
   ·exact hd.own ⟨n,b,h1,h3⟩
  have tot':∀ k,tot E φ' F k→tot E' φc' (bp hq) k:=by
   rintro k (h1|h1)
   ·exact .inl (.inl h1)
   ·rcases own' k h1 with h3|h3
    ·exact .inr h3
    ·exact .inl (.inr h3)
  let φr:PM:=fun n=>if BU nq n then φc' n else none
  have rel_r:∀ x v,x.all (BU nq)=true→cg φc' (tot E' φc' (bp hq)) w' x v→cg φr (tot E φ' F) w' x v:=fun x v hx hr=>
   hr.restrict (fun i k hi hk=>by simp only[φr,hi,if_true];exact hk) tot' hx
  have rel_g:∀ x v,cg φr (tot E φ' F) w' x v→cg φ' (tot E φ' F) w' (x.ren (ve g)) v:=fun x v hr=>
   hr.renTo fun n k hk=>by
    simp only[φr] at hk;split at hk
    ·rename_i hpn;obtain⟨i,hi,rfl⟩:=DN hpn;rw[qk,φ'_g i hi];exact hk
    ·cases hk
  have hnqJ:=hnq;refine ⟨v,φ',rfl,mv,fun n k hk=>?_,?_,?_⟩
  ·by_cases hn:n∈NN
   ·exact .inr hn
   ·rw[φ'_old n hn] at hk;exact .inl hk
  ·refine ⟨fun n n' b b' k h1 h3 h4 h5=>?_,fun n b h1=>?_,fun k hk=>cI (hrep.el k hk) mv.ext.size,fun g' cells hg=>mv.keepF (hrep.gl g' cells hg)⟩
   ·rcases from_ n b h1 with ⟨i,bq,yb,hi,rfl,q1,q2,_⟩|⟨q1,q2,q3,_,q5⟩
    ·rw[φ'_g i hi] at h4;have hqi:bp hq (nm i)=some yb:=by rw[bu,q1];exact q2
     rcases from_ n' b' h3 with ⟨j,bj,yj,hj,rfl,t1,t2,_⟩|⟨t1,t2,t3,_,t5⟩
     ·rw[φ'_g j hj] at h5;have:=rp.inj _ _ _ _ k hqi (by rw[bu,t1];exact t2) h4 h5;rw[gA this]
     ·exfalso;obtain⟨k',p1,p2,_⟩:=rp.at_ _ _ hqi;rw[h4] at p1;cases p1;exact p2 (.inr ⟨n',b',t2,t3,by rw[← t5];exact h5⟩)
    ·rcases from_ n' b' h3 with ⟨j,bj,yj,hj,rfl,t1,t2,_⟩|⟨t1,t2,t3,_,t5⟩
     ·exfalso;rw[φ'_g j hj] at h5;have hqj:bp hq (nm j)=some yj:=by rw[bu,t1];exact t2
      obtain⟨k',p1,p2,_⟩:=rp.at_ _ _ hqj;rw[h5] at p1;cases p1;exact p2 (.inr ⟨n,b,q2,q3,by rw[← q5];exact h4⟩)
     ·exact hrep.inj n n' b b' k q1 t1 (by rw[← q5];exact h4) (by rw[← t5];exact h5)
   ·rcases from_ n b h1 with ⟨i,bq,yb,hi,rfl,q1,q2,rfl⟩|⟨q1,q2,q3,_,q5⟩
    ·have hqi:bp hq (nm i)=some yb:=by rw[bu,q1];exact q2
     obtain⟨k,p1,p2,ob,p3,p4⟩:=rp.at_ _ _ hqi;have hall:=J.blk_all q1 q2;rw[hnq] at hall;exact⟨k,by rw[φ'_g i hi];exact p1,fun hE=>p2 (.inl hE),ob,p3,(p4.restrict rel_r hall).renTo rel_g⟩
    ·obtain⟨k,p1,p2,ob,p3,p4⟩:=hrep.at_ n b q1;have hk:k<w.heap.size:=(b6.1 p3).1;refine ⟨k,hsub n k p1,p2,ob,?_,p4.mono fun x v hr=>mv.keep hr⟩;rw[hext.blk k hk ?_]
     ·exact p3
     ·rintro⟨n',y',t1,t2⟩;obtain⟨i,hi,rfl,t3⟩:=pj t2;obtain⟨j,bb,e,t4,t5⟩:=fo t1;have:=gA e;subst this;have hi':i<np:=by rw[← hnp];exact hi
      have hvi:Hv (nm (eh σ i))=some (y'.ren (ve (eh σ))):=by
       rw[Hv_in _ (fb _ ((memS _).2 ⟨i,hi',rfl⟩)),bu,hv_at i bb ((I.at_ i bb).1 t4)];exact sN rows_hp t5
      have:=hrepv.inj _ _ _ _ k hvi q2 t3 p1;exact q3 (by rw[← this];exact (memS _).2 ⟨i,hi',rfl⟩)
  ·have hall:(tupA lr).all (BU nq)=true:=Dz (by have:=mU rs lr J.lt hlr;rwa [hnq] at this);show cg φ' (tot E φ' F) w' (tupA (AV.renL (ve g) lr)) v;rw[Dy];exact rel_g _ _ (rel_r _ _ hall rv')
 have hrsg:ci h2 (gp g rs)=some (AV.renL (ve g) lr):=kV rows_hq rs lr hlr;refine ⟨⟨_,hOpT,fun z hz=>?_,?_,fun n hn=>?_,fun n hn=>?_,fun n hn=>?_⟩,rows2,inv2,by omega,fun hs=>by cases hs⟩
 ·rw[BR hrsg] at hz;cases hz;rfl
 ·funext n;unfold c5;split
  ·rfl
  ·rename_i hn;refine (gx hinv rows2 fun i e=>?_).symm;subst e;rw[h2_ne i (fun k hk e=>hn ((memW _).2 (.inl ⟨k,hk,by rw[e]⟩))),eR,if_neg];intro hb;exact hn ((memW _).2 (.inr (gQ.2 hb)))
 ·rw[bh];rcases bD.1 hn with hs|hs
  ·obtain⟨i,hi,rfl⟩:=(memS n).1 hs;rw[cU,(sig _).2 ⟨i,hi,rfl⟩];rfl
  ·obtain⟨i,rfl,hi⟩:=jb.1 hs;rw[cU,hi];simp
 ·rw[bh,bh];rcases bD.1 hn with hs|hs
  ·rcases bD.1 hs with hs|hs
   ·obtain⟨i,hi,rfl⟩:=(memS n).1 hs;rw[cU,(sig _).2 ⟨i,hi,rfl⟩];rfl
   ·obtain⟨i,rfl,hi⟩:=jb.1 hs;rw[cU,hi];simp
  ·obtain⟨t,ht,rfl⟩:=(memN n).1 hs;rw[cU,E2.2 ⟨by omega,by omega⟩];simp
 ·obtain⟨t,ht,rfl⟩:=(memN n).1 hn;rw[cU];omega
end Go.Proofs.YtecomllighcieaaGreatDoor.AI
