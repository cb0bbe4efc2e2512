/-
  Texts of the proof, part 3 of 6: what is used to prove the statement. No condition.
-/
import Derived.Test.YtlmflgjjamepmaaGreatDoorSearchEnoughQ1
import Derived.Test.YtlmflgjjamepmaaGreatDoorProg
import Derived.KernelRfl
namespace Go.Proofs.YtlmflgjjamepmaaGreatDoor.AI
open Go.RowKit
set_option maxRecDepth 100000
set_option maxHeartbeats 4000000
set_option linter.unusedVariables false
set_option linter.unusedSimpArgs false
set_option linter.defProp false
open _root_.Array renaming replicate→lZ,mapM_eq_mapM_toList→NC
open _root_.Bool renaming true→J,false→aa,false_or→Da
open Call renaming operands→c9
open Deferred renaming ofValue→vu
open _root_.Int renaming toNat→aS,ofNat→bC
open _root_.List renaming length→l!,length→ah,length_singleton→aJ,replicate→aP,length_cons→bX,length_nil→em,cons_append→fG,map→gD,getElem?_cons_zero→gJ,nil_append→gW,map_nil→kV,range→lY,replicate_succ→mh,map_drop→sW,take_succ_cons→wd,flatMap_append→wg,getElem?_cons_succ→yT,set→AU,append→O5
open _root_.Nat renaming beq→ay,testBit→aC,blt→db,ble→dc,add_zero→dQ,mod_eq_of_lt→rn,mul_one→yQ,le_succ→yR,blt_eq→Mj,add_mul_mod_self_left→NA
open Oper renaming wp→vp
open _root_.Option renaming some→Z,none→U,bind_some→aB,map_some→bw,map→gS
open Region renaming wanted→iJ
open Result renaming andThen_ok→cJ
open Sem renaming run_bind→ec,run_pure→mB
open _root_.Sum renaming inr→bV,inl→kS
noncomputable section
variable {a:Int}
def Bb {S:Ty} {xs:Y (AM S)} (c:gr a (l! xs)=J):xs[a.toNat]? =Z (nS _ xs a):=by
 let⟨_,_,h⟩:=lR c;unfold nS
 grind
variable {T:Ty}
def RX {xss:Y (Y T.den)} (c:gr a (l! xss)=J):xss[a.toNat]? =Z (Gk xss a):=by
 let⟨_,_,h⟩:=lR c;unfold Gk
 grind
variable {r:η}
def Sf (q:gr a (l! r)=J):r[a.toNat]? =Z (Rn r a):=by
 let⟨_,_,h⟩:=lR q;unfold Rn
 grind
def Bu (id:Nat) (S:Ty) (j:Int) (o:AM S):Y AV:=(bP S o.1).map .f++[.mp (iM id (3*j.toNat+2)),.mp (iM id (3*j.toNat+3))]
variable {h:a_} {i m:Nat} {s:TypeId}
def ala {xs:Y (AM T)} (q:h.get i=Z (.qw (.ar s T) m xs)) {j:Int} (c:gr j (l! xs)=J):erHF h (oP i j)=Z ⟨s,.mx (Bu i T j (nS _ xs j))⟩:=by
 unfold oP;rw[jX,q];show pX i (3*j.toNat) s T xs=_;unfold pX;rw[show 3*j.toNat/3=j.toNat from by omega,Bb c];simp only[bw,uR];rw[aR (by omega)];rfl
def al9 {xs:Y (AM T)} (q:h.get i=Z (.qw (.ar s T) m xs)) {j:Int} (c:gr j (l! xs)=J) {b:Nat} (A:b<2):erHF h (iM i (3*j.toNat+2+b))=Z ⟨0,.mp (Fh (yq b (nS _ xs j)))⟩:=by
 rw[show 3*j.toNat+2+b=3*j.toNat+1+b+1 from by omega,jX,q];show pX i (3*j.toNat+1+b) s T xs=_;unfold pX;rw[show (3*j.toNat+1+b)/3=j.toNat from by omega,Bb c];simp[bw,uR];rw[aE (by omega)];rcases bZ b 1 with z|z
 .have:b=0:=by omega
  subst this;rw[aR (by omega)];rfl
 .have:b=1:=by omega
  subst this;rw[aE (by omega)];rfl
def Yx {xss:Y (Y T.den)} (q:h.get i=Z (.qw (.ir s T) m xss)) {j:Int} (c:gr j (l! xss)=J) (z:l! (Gk xss j)≠0):erHF h (iM i (j.toNat+1))=Z ⟨s,.fz ((Gk xss j).flatMap (bP T))⟩:=by
 rw[jX,q];show pW j.toNat s T xss=_;unfold pW;rw[RX c];simp[aB,WP]
 grind
def ww (a sz:Nat):∀(c:η) (k j:Nat),(kO a sz k c)[j]? =(c[j]?).map λl=>sZ a (k+j) sz l.toNat
 |[],_,_|l::r,k,0=>by simp[kO]
 |l::r,k,j+1=>by
  simp[kO,yT,ww a sz r (k+1) j]
  grind
abbrev i2:Y TypeDesc:=[.int .i64,.int .i64]
variable {y:AV} {u:TV}
def PI {b:Int} (c:ady u=Z (a,b)) (z:b7 h u=Z y):ZN i2 y=Z [.int .i64 a,.int .i64 b]:=by
 unfold ady at c;split at c
 .cases c
 .split at c
  .rename_i D b' A;simp[af,aU]at c;obtain⟨rfl,rfl⟩:=c;have h1:=(HE A z).1;simp[cN,b7,af]at h1;have q:y.cs=[.f (.raw (.int .i64 D)),.f (.raw (.int .i64 b'))]:=h1.symm;cases y with
   |agg l=>
    subst q;rfl
   |f x=>
    cases x with
    |agg l=>
     cases l with
     |nil=>cases q
     |cons v l=>
      cases l with
      |nil=>cases q
      |cons w l=>
       cases l with
       |nil=>cases q;rfl
       |cons _ _=>cases q
    |_=>cases q
   |_=>cases q
  .cases c
def Cy (k c:ν):BI i2 [.int .i64 k.1,.int .i64 k.2] (ZP c)=Z (keq k c):=by
 unfold BI ZP keq;simp[b5,kV,iP,uS,cz,bo]
 grind
def RE (a:Nat) (k:ν):∀es:Y r?,Gh i2 [.int .i64 k.1,.int .i64 k.2] (vk a es)=Z (match ahs k es with|true=>Z (.H (oP a (ade k es)) 0)|false=>U)
 |[]=>rfl
 |e::r=>by
  have c:=RE a k r;unfold vk at c ⊢;simp[b5,Gh,Cy,ahs,ade];cases q:keq k e.1 with
  |true=>rfl
  |false=>simp[Da];exact c
def Ya (a:Nat) (k:ν):∀es:Y r?,VX i2 [.int .i64 k.1,.int .i64 k.2] (vk a es)=Z (vk a (adf k es))
 |[]=>rfl
 |e::r=>by
  have c:=Ya a k r;unfold vk at c ⊢;simp[b5,VX,Cy,adf];cases q:keq k e.1 with
  |true=>rfl
  |false=>simp only[c];rfl
def IR {k c:ν}:keq k c=J↔k=c:=by
 unfold keq
 grind
def X' (a:Nat) (k:ν) (v:AV):∀es:Y r?,VW i2 [.int .i64 k.1,.int .i64 k.2] v (vk a es)=Z (KH a k v es)
 |[]=>rfl
 |e::r=>by
  have q:=X' a k v r;unfold vk at q ⊢;simp[b5,VW,Cy,KH];cases c:keq k e.1 with
  |true=>rw[aR (IR.1 c)];rfl
  |false=>rw[aE (λh=>by rw[IR.2 h]at c;cases c)];simp[q]
section ops
variable {R:Type} {P:Program} {b9:TypeId->M Ty} {o:Oper} {e:gM} {h:a_} {nx:Nat} {K:KO R} {r:R} (hinv:gC h nx) (hi:rz e h)
include hinv hi
variable {b:Bool} {c:Operand}
def apm {st:Bool} (D:cP P o.op=Z (.jq b c)) (z:oE b9 e h nx K (.jq b c)=Z r):h_ P o st e h nx K r:=by
 simp[oE]at z;split at z
 next A=>let⟨y,h1,x⟩:=be hi A;simp[b7,Ib,af]at x;subst x;exact h_.q (k:=0) hinv D (λH _=>by simp[dk,h1];rfl) (cL rfl) z
 next A=>let⟨y,h1,x⟩:=be hi A;simp[b7,af]at x;subst x;exact h_.q (k:=0) hinv D (λH _=>by simp[dk,h1];rfl) (cL rfl) z
 next A=>let⟨y,h1,x⟩:=be hi A;simp[b7,af]at x;subst x;exact h_.q (k:=0) hinv D (λH _=>by simp[dk,h1];rfl) (cL rfl) z
 .cases z
def apj (F:cP P o.op=Z (.zr c)) (A:oE b9 e h nx K (.zr c)=Z r):h_ P o b e h nx K r:=by
 simp[oE]at A;split at A
 next D=>let⟨y,h1,z⟩:=be hi D;have x:=z;simp[b7,Ib,af]at z;subst z;exact h_.q (k:=0) hinv F (λH _=>by simp[dk,h1]) (cL x) A
 next D=>let⟨y,h1,z⟩:=be hi D;have x:=z;simp[b7,Ib,af]at z;subst z;exact h_.q (k:=0) hinv F (λH _=>by simp[dk,h1]) (cL x) A
 .cases A
def atn (D:cP P o.op=Z (.jm i c)) (x:oE b9 e h nx K (.jm i c)=Z r):h_ P o b e h nx K r:=by
 simp[oE]at x;split at x
 next A=>let⟨y,h1,z⟩:=be hi A;simp[b7,Ib,af]at z;subst z;exact h_.q (k:=0) hinv D (λH _=>by simp[dk,h1,Ib]) (cL rfl) x
 next A=>let⟨y,h1,z⟩:=be hi A;simp[b7,Ib,af]at z;subst z;exact h_.q (k:=0) hinv D (λH _=>by simp[dk,h1,Ib,pL]) (cL rfl) x
 .cases x
def apl (hc:cP P o.op=Z (.load i b c)) (x:oE b9 e h nx K (.load i b c)=Z r):h_ P o aa e h nx K r:=by
 obtain⟨H,D⟩:=fW h;simp only[oE]at x;split at x
 .rename_i id j off hv;obtain⟨y,h1,h2⟩:=be hi hv;simp only[b7,Ib,af]at h2;subst h2;split at x
  .rename_i ty S a xs hb;have A:=cB x;clear x;obtain⟨I,x⟩:=A;have N:H.get (oP id j)=Z ⟨ty,.mx (Bu id S j (nS S xs j))⟩:=by rw[D];exact ala hb I
   have hrd:∀n∈[oP id j],aC (fT id) (ow n)=J:=λn F=>by
    simp only[aA]at F;subst F;unfold oP;rw[im];exact bq.2 rfl
   split at x
   .cases x
   .rename_i hag;have hag:b=aa:=by grind
    subst hag;have sub1:∀y,(Bu id S j (nS S xs j))[off]? =Z y->(BC.mx (Bu id S j (nS S xs j))).sub? off 1 aa=Z y:=λy hy=>hy
    split at x
    .rename_i ho;split at x
     .rename_i v hv2;obtain⟨p1,z,p2,p3,_⟩:=sK h 40 S _ off i aa v hv2;obtain⟨rfl,p5⟩:=p3 rfl;have q:=sub1 (.f z) (by
       unfold Bu;rw[cE (by grind),bM,p5];rfl)
      exact⟨_,_,_,_,_,x,eK.pure (k:=0) hinv hc D (y0:=.f z) (rdl:=[oP id j]) (by simp only[dk,h1,tH,N,q]) (cL p2) hrd nofun⟩
     .cases x
    .rename_i ho;split at x
     .rename_i hq;simp only[al]at hq;have q1:=au hq.1;have q2:=aW hq.2;subst q1;have ho:S.size<=off:=by simp_all
      have q:=sub1 (.mp (iM id (3*j.toNat+2+(off-S.size)))) (by
       unfold Bu;rw[cw (by rw[bN,bh];exact ho),bN,bh];rcases bZ (off-S.size) 1 with h3|h3
       .grind
       .rw[show off-S.size=1 from by omega];rfl)
      exact⟨_,_,_,_,_,x,eK.pure (k:=0) hinv hc D (y0:=.mp (iM id (3*j.toNat+2+(off-S.size)))) (rdl:=[oP id j]) (by simp only[dk,h1,tH,N,q]) (cL rfl) hrd nofun⟩
     .cases x
  .cases x
 .rename_i id j s sz off hv;obtain⟨y,h1,h2⟩:=be hi hv;simp only[b7,Ib,af]at h2;subst h2;split at x
  .rename_i ty T a xss hb;split at x
   .rename_i q;have q:=au q;subst q;obtain⟨I,x⟩:=cB x;obtain⟨hji,x⟩:=cB x;split at x
    .rename_i v hv2;obtain⟨z,p1,p2⟩:=ack hji hv2;have hne:l! (Gk (T:=T) xss j)≠0:=by have:=(lR hji).2.2;omega
     have N:H.get (iM id (j.toNat+1))=Z ⟨ty,.fz ((Gk (T:=T) xss j).flatMap (bP T))⟩:=by rw[D];exact Yx hb I hne
     exact⟨_,_,_,_,_,x,eK.pure (k:=0) hinv hc D (y0:=.f z) (rdl:=[iM id (j.toNat+1)]) (by simp only[dk,h1,tH,N,p2]) (cL p1) (λn F=>by
      simp only[aA]at F;subst F;rw[im];exact bq.2 rfl) nofun⟩
    .cases x
   .cases x
  .cases x
 .rename_i id s j off hv;obtain⟨y,h1,h2⟩:=be hi hv;simp only[b7,af]at h2;subst h2;split at x
  .rename_i hq;simp only[al,cK]at hq;obtain⟨⟨q1,q2⟩,q3,q4⟩:=hq;have q1:=au q1;have q3:=au q3;have q4:=au q4;subst q1 q2 q3 q4;have hrd:∀n∈[nm id],aC (fT id) (ow n)=J:=λn F=>by
    simp only[aA]at F;subst F;rw[dh];exact bq.2 rfl
   split at x
   .rename_i ty a js hb;have A:=cB x;clear x;obtain⟨I,x⟩:=A;have hlen:ah (α:=Int) js≠0:=by have:=(lR I).2.2;omega
    have N:H.get (nm id)=Z ⟨ty,.mx (gD (λj=>.H (oP a j) 0) js)⟩:=by
     rw[D,bU,hb];simp only[aB,jG,sL]
     grind
    have q:(BC.mx (gD (λj=>AV.H (oP a j) 0) js)).sub? (j.toNat*1+0) 1 aa=Z (.H (oP a (Rn js j)) 0):=by
     simp only[BC.sub?,BC.get,yQ,dQ];exact (bM (f:=λj:Int=>AV.H (oP a j) 0) (l:=js) (i:=j.toNat)).trans (iQ (gS λj=>AV.H (oP a j) 0) (Sf I))
    exact⟨_,_,_,_,_,x,eK.pure (k:=0) hinv hc D (y0:=.H (oP a (Rn js j)) 0) (rdl:=[nm id]) (by simp only[dk,h1,tH,N,q]) (cL rfl) hrd nofun⟩
   .rename_i ty z a ls hb;have A:=cB x;clear x;obtain⟨I,x⟩:=A;have N:H.get (nm id)=Z ⟨ty,.mx (kO a z 0 ls)⟩:=by
     rw[D,bU,hb];rfl
    have q:(BC.mx (kO a z 0 ls)).sub? (j.toNat*1+0) 1 aa=Z (sZ a j.toNat z (Rn ls j).toNat):=by
     simp only[BC.sub?,BC.get,yQ,dQ];have:=ww a z ls 0 j.toNat;rw[b6]at this;refine this.trans ?_;exact iQ (gS λl:Int=>sZ a j.toNat z l.toNat) (Sf I)
    exact⟨_,_,_,_,_,x,eK.pure (k:=0) hinv hc D (y0:=sZ a j.toNat z (Rn ls j).toNat) (rdl:=[nm id]) (by simp only[dk,h1,tH,N,q]) (cL rfl) hrd nofun⟩
   .cases x
  .cases x
 .cases x
def atm {sz:Operand} (hc:cP P o.op=Z (.jp i c sz)) (x:oE b9 e h nx K (.jp i c sz)=Z r):h_ P o b e h nx K r:=by
 simp only[oE]at x;split at x
 .rename_i id k j hv D;split at x
  .rename_i p s n hr;split at x
   .rename_i A;simp only[al]at A;have A:=au A.1;let⟨z,x⟩:=cB x;let⟨y,h1,N⟩:=be hi hv;let⟨y2,h3,I⟩:=be hi D;simp[b7,af]at I;subst I;let⟨j0,j1,j2⟩:=lR z;have hne:¬((p&&n==0)=J):=by grind
    simp only[b7,hr,dA,aE hne,af]at N;subst N;have F:(s==i&&cZ 0 j&&fV j n)=J:=by
     simp[gr,al]at z;simp[A,z.1,z.2]
    exact h_.q (k:=0) hinv hc (λH _=>by simp[dk,h1,h3,fC,F,bo,dQ]) (cL rfl) x
   .cases x
  .cases x
 .rename_i id j s n k i' hv D;split at x
  .rename_i A;have A:=au A;let⟨z,x⟩:=cB x;let⟨y,h1,N⟩:=be hi hv;let⟨y2,h3,I⟩:=be hi D;simp[b7,af]at I;subst I;let⟨j0,j1,j2⟩:=lR z;have hne:¬((n==0)=J):=by grind
   simp only[b7,Ib,sZ,aE hne,af]at N;subst N;have F:(s==i&&cZ 0 i'&&fV i' n)=J:=by
    simp[gr,al]at z;simp[A,z.1,z.2]
   exact h_.q (k:=0) hinv hc (λH _=>by simp[dk,h1,h3,fC,F,bo,Ib,dQ]) (cL rfl) x
  .cases x
 .cases x
variable {v:Value}
def atk {ok:Bool} {k:Operand} (hc:cP P o.op=Z (.jb b ok v c k)) (x:oE b9 e h nx K (.jb b ok v c k)=Z r):h_ P o aa e h nx K r:=by
 let⟨H,hH⟩:=fW h;simp only[oE]at x;split at x
 .rename_i id j str q hv D;split at x
  .rename_i ty S a xs I hb;split at x
   .rename_i hq;simp only[al,cK]at hq;let⟨q1,A⟩:=hq;subst q1;have A:=aW A;have F:=cB x;let⟨hj,x⟩:=F;let⟨y,h1,h2⟩:=be hi hv;let⟨y2,h3,h4⟩:=be hi D;simp[b7,Ib,af]at h2 h4;subst h2 h4;generalize hm:yq str (nS S xs j)=m at x;have hg:H.get (iM id (3*j.toNat+2+str))=Z ⟨0,.mp (Fh m)⟩:=by rw[hH,<-hm];exact al9 hb hj A
    have hf:rY (.int .i64 q) (Fh m)=Z ((tw (K:=.int .i64) (V:=.bool) q m).map λz=>.f (.raw (.bool z))):=JL (str:=aa) (K:=.int .i64) (V:=.bool) rfl q m;have henc:fC (.int .i64) q= .raw (.int .i64 q):=rfl;rw[henc]at h3;refine ⟨_,_,_,_,_,x,eK.pure (k:=0) hinv hc hH (y0:=pkV ok (.f (.raw (.bool (yr (K:=.int .i64) (V:=.bool) q m I)))) (ZL (K:=.int .i64) (V:=.bool) q m)) (rdl:=[iM id (3*j.toNat+2+str)]) ?_ (λy N=>by rw[ad6 (y:=.f (.raw (.bool (yr (K:=.int .i64) (V:=.bool) q m I)))) rfl]at N;cases N;exact Le.refl _) (λn hn=>by
     simp[aA]at hn;subst hn;rw[im];exact bq.2 rfl) nofun⟩
    simp[dk,h1,h3,hg,wN,bo,hf];unfold yr ZL;cases hfm:tw (K:=.int .i64) (V:=.bool) q m with
    |_=>rfl
   .cases x
  .cases x
 .cases x
def atl {k:Operand} (hc:cP P o.op=Z (.lkq i2 v c k)) (x:oE b9 e h nx K (.lkq i2 v c k)=Z r):h_ P o aa e h nx K r:=by
 let⟨H,D⟩:=fW h;simp[oE]at x;split at x
 .rename_i id kv hv hkv;let⟨tk,q,hkk⟩:=bind_some hkv;let⟨F,kb⟩:=kv;split at x
  .rename_i a es hb;let⟨y,h1,h2⟩:=be hi hv;let⟨y2,h3,h4⟩:=be hi q;simp[b7,af]at h2;subst h2;have I:=PI hkk h4;have hg:H.get (nm id)=Z ⟨0,.mp (vk a es)⟩:=by rw[D,bU,hb];rfl
   have hf:=RE a (F,kb) es;have hrd:∀n∈[nm id],aC (fT id) (ow n)=J:=λn N=>by
    simp[aA]at N;subst N;rw[dh];exact bq.2 rfl
   rcases kK x with ⟨hh,x⟩|⟨hh,x⟩
   .rw[hh]at hf;exact⟨_,_,_,_,_,x,eK.pure (k:=0) hinv hc D (y0:=.H (oP a (ade (F,kb) es)) 0) (rdl:=[nm id]) (by simp[dk,h1,h3,aB,I,hg,hf]) (cL rfl) hrd nofun⟩
   .rw[hh]at hf;exact⟨_,_,_,_,_,x,eK.pure (k:=0) hinv hc D (y0:=raw (.pointer U)) (rdl:=[nm id]) (by simp[dk,h1,h3,aB,I,hg,hf]) (cL rfl) hrd nofun⟩
  .cases x
 .cases x
def ato {k:Operand} (hc:cP P o.op=Z (.dlq i2 c k)) (x:oE b9 e h nx K (.dlq i2 c k)=Z r):h_ P o aa e h nx K r:=by
 let⟨H,N⟩:=fW h;simp only[oE]at x;split at x
 .rename_i id kv hv hkv;let⟨tk,q,hkk⟩:=bind_some hkv;let⟨A,kb⟩:=kv;split at x
  .rename_i a es I;let⟨y,h1,h2⟩:=be hi hv;let⟨y2,h3,h4⟩:=be hi q;simp[b7,af]at h2;subst h2;have hq:=PI hkk h4;have hg:H.get (nm id)=Z ⟨0,.mp (vk a es)⟩:=by rw[N,bU,I];rfl
   have hf:=Ya a (A,kb) es;have hrd:∀n∈[nm id],aC (fT id) (ow n)=J:=λn F=>by
    simp[aA]at F;subst F;rw[dh];exact bq.2 rfl
   refine ⟨_,_,_,_,_,x,eK.wrt (m:=0) (v:=.qb []) (rd:=fT id) (k:=0) (y0:=.qb []) (rdl:=[nm id]) (b0:=⟨0,.mp (vk a (adf (A,kb) es))⟩) hinv hc N (by simp[dk,h1,h3,aB,hq,hg,hf]) I (dH.zero h) (by simp) rfl (λ_ _ he=>by cases he) (λH1 H2 d g b' z=>?_) (λH1 H2 y d g D=>?_) hrd⟩
   .cases z;exact fM.refl d _
   .simp[b7,cN,af]at D;subst D;exact ju.refl d _
  .cases x
 .cases x
def atj {k v:Operand} (hc:cP P o.op=Z (.mpq i2 c k v)) (x:oE b9 e h nx K (.mpq i2 c k v)=Z r):h_ P o aa e h nx K r:=by
 let⟨H,N⟩:=fW h;simp only[oE]at x;split at x
 .rename_i id kv p hv hkv hvp;let⟨tk,q,hkk⟩:=bind_some hkv;let⟨A,kb⟩:=kv;split at x
  .rename_i a es I;let⟨y,h1,h2⟩:=be hi hv;let⟨y2,h3,h4⟩:=be hi q;let⟨y3,h5,h6⟩:=be hi hvp;simp[b7,af]at h2 h6;subst h2 h6;have hq:=PI hkk h4;have hg:H.get (nm id)=Z ⟨0,.mp (vk a es)⟩:=by rw[N,bU,I];rfl
   have hf:=X' a (A,kb) (.H (nm p) 0) es;have hrd:∀n∈[nm id],aC (fT id) (ow n)=J:=λn F=>by
    simp[aA]at F;subst F;rw[dh];exact bq.2 rfl
   refine ⟨_,_,_,_,_,x,eK.wrt (m:=0) (v:=.undef) (rd:=fT id) (k:=0) (y0:=raw undef) (rdl:=[nm id]) (b0:=⟨0,.mp (KH a (A,kb) (.H (nm p) 0) es)⟩) hinv hc N (by simp[dk,h1,h3,h5,aB,hq,hg,hf]) I (dH.zero h) (by simp) rfl (λ_ _ he=>by cases he) (λH1 H2 d g b' z=>?_) (λH1 H2 y d g D=>?_) hrd⟩
   .cases z;exact fM.refl d _
   .simp[b7,af]at D;subst D;exact ju.refl d _
  .cases x
 .cases x
end ops
variable {P:Program}
def eK.wrtM {o:Oper} {e:gM} {s:Np} (hinv:gC h i) (hc:cP P o.op=Z s) {H:gy} (hH:H.get=erHF h) {km:Nat} {y0:AV} {rdl:ι} {b0:jI} {k:Nat} (ha:dk s (Bk e h) H k=Z ⟨y0,rdl,[iM m (km+1)],[(iM m (km+1),b0)],[]⟩) {D B:eC} (c:h.get m=Z D) {v:TV} {rd:Nat}
 (hrow:hZ B=hZ D) (hB:∀ty l,B≠ .C ty l) (hB0:∀ty l,D≠ .C ty l) (hanc:∀h2,jG h2 B=jG h D) (hoth:∀a,a≠km->vh m a B=vh m a D)
 (hblk:∀z q,qe z q->∀b',vh m km B=Z b'->fM z q b0 b')
 (hval:∀z q y,qe z q->b7 (h.set m (Z B)) v=Z y->ju z q y0 y)
 (hrd:∀n∈rdl,aC rd (ow n)=J):eK P o aa e h i v rd (0|||fT m) (h.set m (Z B)) i:=by
 have A:b8 h (h.set m (Z B)):=b8.set λr A=>by rw[bH,c]at A;rw[hrow];exact A
 refine eK.mk' hc hH ha [iM m (km+1)] (λnx hi=>hi) (λn I=>?_) (λnx hi b' hb'=>⟨b0,by rw[aR hi];simp[aA]at hi;subst hi;exact eG _ _⟩) (λz q d hw1 _ N=>⟨λnx hi b b' hb hb2=>?_,λy hy=>hval z q y d hy⟩) hrd (λn I=>?_) (by simp) A (hinv.set A (hinv.low m D c) (bL _) λty l he=>bO he (hB ty l)) (bL _)
 .by_cases ho:ow n=m
  .unfold erHF;rw[ho,PT.get_set,aR rfl,c];cases hk:ix n with
   |zero=>exact hanc _
   |succ a=>
    refine hoth a λe=>I ?_
    rw[<- j9 n,ho,hk,e];simp
  .unfold erHF;rw[PT.get_set,aE ho];cases hx:h.get (ow n) with
   |none=>rfl
   |some b=>exact lx A (λty l e=>hinv.C _ _ l (by rw[hx,e])) _ _
 .simp[aA]at hi;subst hi;rw[hw1 _ (by simp),eG]at hb;rw[N _ (by simp),jX,PT.get_set,aR rfl]at hb2
  grind
 .simp[aA]at I;subst I;rw[im,uZ];exact bq.2 rfl
def Od {xs:Y (AM T)} {n:Nat} {q:AM T} (hf:∀o,xs[n]? =Z o->m/3=n->uR i m s T q=uR i m s T o):pX i m s T (xs.set n q)=pX i m s T xs:=by
 unfold pX
 grind
def Tp {xs:Y (AM T)} {n:Nat} {q:AM T} (z:m/3=n) (A:n<l! xs):pX i m s T (xs.set n q)=Z (uR i m s T q):=by
 unfold pX
 grind
def FC {ty:TypeId} {xss:Y (Y T.den)} {xs:Y T.den} (q:i≠m):pW i ty T (xss.set m xs)=pW i ty T xss:=by
 unfold pW
 grind
def KA {ty:TypeId} {xss:Y (Y T.den)} {xs:Y T.den} (c:i<l! xss):pW i ty T (xss.set i xs)=WP ty T xs:=by
 unfold pW
 grind
def Q9 (h:db i m=J):i<m:=aW h
def ads {c:Nat} (h:i=m) (q:c<m):c<i:=by omega
def ko (a sz:Nat):∀(c:η) (k:Nat),l! (kO a sz k c)=l! c
 |[],_=>rfl
 |l::r,k=>by simp[kO,bX,ko a sz r]
variable {S:HF}
def RO {c:HF} (d:qe S c):∀n,gu S c ((repl [.slice U 0 0] n).map .f) (aP n .emp)
 |0=>trivial
 |n+1=>⟨Le.nilEmp.toH d,RO d n⟩
section ops
variable {R:Type} {P:Program} {b9:TypeId->M Ty} {o:Oper} {e:gM} {h:a_} {nx:Nat} {K:KO R} {r:R} (hinv:gC h nx) (hi:rz e h)
include hinv hi
variable {b:Bool} {c:Operand}
def ati {k v:Operand} (hc:cP P o.op=Z (.jf b c k v)) (q:oE b9 e h nx K (.jf b c k v)=Z r):h_ P o aa e h nx K r:=by
 let⟨H,hH⟩:=fW h;simp only[oE]at q;split at q
 .rename_i id j str A z hv hv2 hv3;split at q
  .rename_i ty S a xs hb;split at q
   .rename_i hq;simp only[al,cK]at hq;let⟨q1,N⟩:=hq;subst q1;have N:=Q9 N;have hk0:=cB q;let⟨hj,q⟩:=hk0;let⟨y,h1,h2⟩:=be hi hv;let⟨y2,h3,h4⟩:=be hi hv2;let⟨y3,h5,h6⟩:=be hi hv3;simp[b7,Ib,af]at h2 h4 h6;subst h2 h4 h6;have e1:3*j.toNat+2+str=3*j.toNat+1+str+1:=by omega
    let⟨_,_,hjl⟩:=lR hj;have hg:H.get (iM id (3*j.toNat+2+str))=Z ⟨0,.mp (Fh (yq str (nS S xs j)))⟩:=by rw[hH];exact al9 hb hj N
    rw[e1]at h1 hg;have hf:xD (.int .i64 A) (.f (.raw (.bool z))) (Fh (yq str (nS S xs j)))=Z (Fh (zQ (K:=.int .i64) (V:=.bool) A z (yq str (nS S xs j)))):=Py (str:=aa) (K:=.int .i64) (V:=.bool) rfl A z _;have henc:fC (.int .i64) A= .raw (.int .i64 A):=rfl;have henc2:fC .bool z= .raw (.bool z):=rfl;rw[henc]at h3;rw[henc2]at h5;refine ⟨_,_,_,_,_,q,eK.wrtM (km:=3*j.toNat+1+str) (v:=.undef) (rd:=fT id) (k:=0) (y0:=raw undef) (rdl:=[iM id (3*j.toNat+1+str+1)]) (b0:=⟨0,.mp (Fh (zQ (K:=.int .i64) (V:=.bool) A z (yq str (nS S xs j))))⟩) hinv hc hH (by simp[dk,h1,h3,h5,hg,wN,bo,hf]) hb rfl (λ_ _ he=>by cases he) (λ_ _ he=>by cases he) (λ_=>rfl) (λk' F=>?_) (λH1 H2 d b' x=>?_) (λH1 H2 y d hy=>?_) (λn hn=>?_)⟩
    .refine Od λo' D hn=>?_
     rw[Bb (S:=S) hj,af]at D;subst D;unfold uR;by_cases I:k'%3=0
     .rw[aR I,aR I];cases str<;>rfl
     .rw[aE I,aE I];by_cases m1:k'%3=1
      .rw[aR m1,aR m1];cases str with
       |zero=>exact bO (by omega) F
       |succ str=>rfl
      .rw[aE m1,aE m1];cases str with
       |zero=>rfl
       |succ str=>exact bO (by omega) F
    .have x:pX id (3*j.toNat+1+str) ty S (AU xs j.toNat (JB str (nS S xs j) (zQ (K:=.int .i64) (V:=.bool) A z (yq str (nS S xs j)))))=Z b':=x;rw[Tp (by omega) hjl]at x;have:uR id (3*j.toNat+1+str) ty S (JB str (nS S xs j) (zQ (K:=.int .i64) (V:=.bool) A z (yq str (nS S xs j))))=⟨0,.mp (Fh (zQ (K:=.int .i64) (V:=.bool) A z (yq str (nS S xs j))))⟩:=by
      unfold uR;rw[aE (by omega)];cases str with
      |zero=>rw[aR (by omega)];rfl
      |succ str=>rw[aE (by omega)];rfl
     rw[this,af]at x;subst x;exact fM.refl d _
    .simp[b7,af]at hy;subst hy;exact ju.refl d _
    .simp[aA]at hn;subst hn;rw[im];exact bq.2 rfl
   .cases q
  .cases q
 .cases q
def aks {v:Operand} (hc:cP P o.op=Z (.store i c v)) (x:oE b9 e h nx K (.store i c v)=Z r):h_ P o aa e h nx K r:=by
 let⟨H,hH⟩:=fW h;simp only[oE]at x;split at x
 .rename_i id j off y hv hv2;let⟨yb,h1,h2⟩:=be hi hv;let⟨D,h3,h4⟩:=be hi hv2;simp only[b7,Ib,af]at h2;subst h2;split at x
  .rename_i ty S a xs hb;have hk0:=cB x;clear x;let⟨hj,x⟩:=hk0;let⟨_,_,hjl⟩:=lR hj;split at x
   .rename_i z m hset;split at x
    .rename_i F;have F:=au F;subst F;have hg:H.get (oP id j)=Z ⟨ty,.mx (Bu id S j (nS S xs j))⟩:=by rw[hH];exact ala hb hj
     have hso:∀N I,qe N I->OR N I D S (nS S xs j).1 z off i:=λN I d=>sq d h4 40 S _ off i z 0 hset C4.zero
     have hcell:=mT h4 40 S _ off i z 0 hset;let⟨fs0,q1,q2,q3,_,_⟩:=hso _ _ (qe.refl (erHF h));have hlen:D.cs.length=i:=by rw[<- q2,<-bN (f:=AV.f),q1.length]
     have hput:(BC.mx (Bu id S j (nS S xs j))).put off D.cs=Z (.mx (AI.splice (Bu id S j (nS S xs j)) off D.cs)):=by
      unfold BC.put;rw[aR]
      .rfl
      .simp only[al];refine ⟨⟨rfl,bf ?_⟩,hcell⟩;simp only[BC.len,Bu,aD,bN,bh];omega
     have ha0:dk (.store i c v) (Bk e h) H 0=Z ⟨raw undef,[oP id j],[oP id j],[(oP id j,⟨ty,.mx (AI.splice (Bu id S j (nS S xs j)) off D.cs)⟩)],[]⟩:=by
      simp only[dk,h1,h3,xZ,hg,hlen,cz,bo,hput]
     refine ⟨_,_,_,_,_,x,eK.wrtM (km:=3*j.toNat) (v:=.undef) (rd:=fT id) hinv hc hH ha0 hb rfl (λ_ _ he=>by cases he) (λ_ _ he=>by cases he) (λ_=>rfl) (λk' hk'=>?_) (λN I d b' A=>?_) (λN I y d hy=>?_) (λn hn=>?_)⟩
     .refine Od λo' ho' hn=>?_
      rw[Bb (S:=S) hj,af]at ho';subst ho';have k0:k'%3≠0:=by omega
      unfold uR;rw[aE k0,aE k0]
     .have A:pX id (3*j.toNat) ty S (AU xs j.toNat (z,(nS S xs j).2))=Z b':=A;rw[Tp (by omega) hjl]at A;have:uR id (3*j.toNat) ty S (z,(nS S xs j).2)=⟨ty,.mx (Bu id S j (z,(nS S xs j).2))⟩:=by
       unfold uR;rw[aR (by omega)];rfl
      rw[this,af]at A;subst A;let⟨fs,p1,p2,p3,p4,p5⟩:=hso N I d;refine fM.C rfl rfl ?_ λc hx=>?_
      .simp only[BC.toMx];have e2:Bu id S j (z,(nS S xs j).2)=AI.splice (Bu id S j (nS S xs j)) off (fs.map .f):=by
        unfold Bu;rw[p4];unfold AI.splice;rw[EX (by rw[bN,bh];omega),List.drop_append_of_le_length (by rw[bN,bN,bh];omega)];simp[gX,sW]
       rw[e2];exact (gu.refl d _).splice _ p1
      .simp only[BC.toMx,Bu,bF]at hx;rcases hx with hx|hx
       .obtain⟨q,hq,rfl⟩:=bR.1 hx;have:∀q∈([z]:Y S.den).flatMap (bP S),q.isCell=J:=lq S [z];exact this q (by simpa using hq)
       .simp only[bB,cO,gx]at hx;rcases hx with rfl|rfl<;>rfl
     .simp only[b7,af]at hy;subst hy;exact ju.refl d _
     .simp only[aA]at hn;subst hn;unfold oP;rw[im];exact bq.2 rfl
    .cases x
   .cases x
  .cases x
 .rename_i id j s sz off y hv hv2;let⟨yb,h1,h2⟩:=be hi hv;let⟨D,h3,h4⟩:=be hi hv2;simp only[b7,Ib,af]at h2;subst h2;split at x
  .rename_i ty T a xss hb;split at x
   .rename_i hs;have hs:=au hs;subst hs;let⟨hj,x⟩:=cB x;let⟨hji,x⟩:=cB x;let⟨_,_,hjl⟩:=lR hj;split at x
    .rename_i z m hset;split at x
     .rename_i F;have F:=au F;subst F;generalize hxs:Gk (T:=T) xss j=xs at*
      let⟨i0,i1,i2⟩:=lR hji;have hne:xs.length≠0:=by omega
      have hg:H.get (iM id (j.toNat+1))=Z ⟨ty,.fz (xs.flatMap (bP T))⟩:=by rw[hH,<-hxs];exact Yx hb hj (by rw[hxs];exact hne)
      have fl:=dN (bh T) xs;have hx:xs[sz.toNat]? =Z (aK _ xs sz):=by
       unfold aK;rw[aT,aH i2];rfl
      have hle:(sz.toNat+1)*T.size<=xs.length*T.size:=co _ i2;rw[iN]at hle;have hso:∀N I,qe N I->OR N I D T (aK _ xs sz) z off i:=λN I d=>sq d h4 40 T _ off i z 0 hset C4.zero
      have hcell:=mT h4 40 T _ off i z 0 hset;let⟨fs0,q1,q2,q3,_,_⟩:=hso _ _ (qe.refl (erHF h));have hlen:D.cs.length=i:=by rw[<- q2,<-bN (f:=AV.f),q1.length]
      obtain⟨c',hput,hc1,hc2⟩:∃c',(BC.fz (xs.flatMap (bP T))).put (sz.toNat*T.size+off) D.cs=Z c'/\c'.toMx=AI.splice ((xs.flatMap (bP T)).map .f) (sz.toNat*T.size+off) D.cs/\c'.isCells=J:=by
       unfold BC.put;rw[aR]
       .split
        next l ys hl hys=>simp only[BC.fz.injEq]at hl;subst hl;refine ⟨_,rfl,?_,rfl⟩;rw[mz hys];simp only[BC.toMx];unfold AI.splice;simp[gX,sW]
        .exact⟨_,rfl,rfl,rfl⟩
       .simp only[al];exact⟨⟨rfl,bf (by simp only[BC.len];omega)⟩,hcell⟩
      have ha0:dk (.store i c v) (Bk e h) H 0=Z ⟨raw undef,[iM id (j.toNat+1)],[iM id (j.toNat+1)],[(iM id (j.toNat+1),⟨ty,c'⟩)],[]⟩:=by
       simp only[dk,h1,h3,xZ,hg,hlen,cz,bo,hput]
      refine ⟨_,_,_,_,_,x,eK.wrtM (km:=j.toNat) (v:=.undef) (rd:=fT id) hinv hc hH ha0 hb rfl (λ_ _ he=>by cases he) (λ_ _ he=>by cases he) (λ_=>rfl) (λk' hk'=>FC hk') (λN I d b' A=>?_) (λN I y d hy=>?_) (λn hn=>?_)⟩
      .have A:pW j.toNat ty T (AU xss j.toNat (cC xs sz z))=Z b':=A;rw[KA hjl]at A;unfold WP at A;have hl2:(cC xs sz z).length=xs.length:=by unfold cC;rw[fD]
       rw[aE (by simp only[cV];omega),af]at A;subst A;let⟨fs,p1,p2,p3,p4,p5⟩:=hso N I d;have hfl:(cC xs sz z).flatMap (bP T)=AI.splice (xs.flatMap (bP T)) (sz.toNat*T.size+off) fs:=Kw (bh T) xs sz.toNat _ z hx off fs (by omega) p4;refine fM.C hc2 rfl ?_ λc hx=>?_
       .rw[hc1];simp only[BC.toMx];rw[hfl];have:(AI.splice (xs.flatMap (bP T)) (sz.toNat*T.size+off) fs).map AV.f=AI.splice ((xs.flatMap (bP T)).map .f) (sz.toNat*T.size+off) (fs.map .f):=by unfold AI.splice;simp[gX,sW]
        rw[this];exact (gu.refl d _).splice _ p1
       .simp only[BC.toMx]at hx;obtain⟨q,hq,rfl⟩:=bR.1 hx;exact lq T _ q hq
      .simp only[b7,af]at hy;subst hy;exact ju.refl d _
      .simp only[aA]at hn;subst hn;rw[im];exact bq.2 rfl
     .cases x
    .cases x
   .cases x
  .cases x
 .rename_i id s j off rr hv hv2;let⟨yb,h1,h2⟩:=be hi hv;let⟨D,h3,h4⟩:=be hi hv2;simp only[b7,af]at h2;subst h2;split at x
  .rename_i hq;simp only[al]at hq;let⟨q1,q2,q3⟩:=hq;have q1:=au q1;have q2:=au q2;have q3:=au q3;subst q1 q2 q3;split at x
   .rename_i ty z a ls ty2 p T xs hb hb2;split at x
    .rename_i hz;have hz:=au hz;subst hz;have hk0:=cB x;clear x;let⟨hj,x⟩:=hk0;have hk0:=cB x;clear x;let⟨hp,x⟩:=hk0;let⟨_,_,hjl⟩:=lR hj;have hyy:D=dA J rr T.size xs.length:=by
      simp only[b7,bH,hb2,aB,hZ,af]at h4;rw[<- h4];cases p with
      |true=>rfl
      |false=>
       have hp:(!(ay (ah xs) 0))=J:=hp;have hp:ah xs≠0:=λe=>by rw[e]at hp;cases hp
       unfold dA;rw[aE (by simp),aE (by simpa using hp)]
     have hg:H.get (nm id)=Z ⟨ty,.mx (kO a T.size 0 ls)⟩:=by rw[hH,bU,hb];rfl
     have hcs:D.cs=[D]:=by rw[hyy];unfold dA;split<;>rfl
     have hcell:D.isCell=J:=by rw[hyy];unfold dA;split<;>rfl
     have hput:(BC.mx (kO a T.size 0 ls)).put (j.toNat*1+0) D.cs=Z (.mx (AI.splice (kO a T.size 0 ls) j.toNat [D])):=by
      rw[hcs,yQ,dQ];unfold BC.put;rw[aR]
      .rfl
      .simp only[al,gf,hcell,and_true];refine ⟨rfl,bf ?_⟩;have hl:(kO a T.size 0 ls).length=ah (α:=Int) ls:=ko a T.size ls 0;show j.toNat+1<=(kO a T.size 0 ls).length;rw[hl];exact hjl
     have hlen:D.cs.length=1:=by rw[hcs];rfl
     have ha0:dk (.store 1 c v) (Bk e h) H 0=Z ⟨raw undef,[nm id],[nm id],[(nm id,⟨ty,.mx (AI.splice (kO a T.size 0 ls) j.toNat [D])⟩)],[]⟩:=by
      simp only[dk,h1,h3,xZ,hg,hlen,cz,bo,hput]
     refine ⟨_,_,_,_,_,x,eK.wrt (m:=0) (v:=.undef) (rd:=fT id) hinv hc hH ha0 hb (dH.zero h) (by simp) rfl (λ_ _ he=>by cases he) (λN I d g b' A=>?_) (λN I y d g hy=>?_) (λn hn=>?_)⟩
     .cases A;have hl:(kO a T.size 0 ls).length=ah (α:=Int) ls:=ko a T.size ls 0;rw[VS (ads hl hjl),hyy];exact fM.refl d _
     .simp only[b7,af]at hy;subst hy;exact ju.refl d _
     .simp only[aA]at hn;subst hn;rw[dh];exact bq.2 rfl
    .cases x
   .cases x
  .cases x
 .cases x
variable {z:jI}
def eK.app1 {s:Np} (hc:cP P o.op=Z s) {H:gy} (hH:H.get=erHF h) {k n0:Nat} {y0:AV} {rdl:ι} {b0:jI} (ha:dk s (Bk e h) H k=Z ⟨y0,rdl,[nm nx,n0],[(nm nx,b0)],[nm nx]⟩) {h':a_} 
 (hsame:∀n,n≠nm nx->n≠n0->erHF h' n=erHF h n) (hne:nm nx≠n0) (hdead:erHF h' n0=U) (hnew:erHF h' (nm nx)=Z z) (hblk:∀q c,qe q c->fM q c b0 z) (hval:∀q c y,qe q c->b7 h' u=Z y->ju q c y0 y)
 (hrd:∀n∈rdl,aC i (ow n)=J) (hwr:aC m (ow n0)=J) (hwn:aC m nx=J) (hrows:b8 h h') (hinv':gC h' (nx+1)):eK P o aa e h nx u i m h' (nx+1):=by
 have _:=hinv;have _:=hi;refine eK.mk' hc hH ha [nm nx,n0] (λrd hi=>hi) (λn b1=>?_) (λrd hi b' hb'=>?_) (λq c d D _ N=>⟨λrd hi b b' a hb2=>?_,λy I=>hval q c y d I⟩) hrd (λn b1=>?_) (λn b1=>by simp[aA]at b1;subst b1;rw[dh];omega) hrows hinv' (by omega)
 .grind
 .simp[bB,cO,gx]at hi;rcases hi with rfl|rfl
  .exact⟨_,by rw[aR (by simp)];exact eG _ _⟩
  .grind
 .simp[bB,cO,gx]at hi;rcases hi with rfl|rfl
  .rw[D _ (by simp),eG]at a
   grind
  .grind
 .simp[bB,cO,gx]at b1;rcases b1 with rfl|rfl
  .rw[dh];exact hwn
  .exact hwr
def eK.app0 {s:Np} (hc:cP P o.op=Z s) {H:gy} (hH:H.get=erHF h) {k:Nat} {y0:AV} {rdl:ι} {b0:jI} (ha:dk s (Bk e h) H k=Z ⟨y0,rdl,[nm nx],[(nm nx,b0)],[nm nx]⟩) {h':a_} 
 (hsame:∀n,n≠nm nx->erHF h' n=erHF h n) (hnew:erHF h' (nm nx)=Z z) (hblk:∀q c,qe q c->fM q c b0 z) (hval:∀q c y,qe q c->b7 h' u=Z y->ju q c y0 y)
 (hrd:∀n∈rdl,aC i (ow n)=J) (hwn:aC m nx=J) (hrows:b8 h h') (hinv':gC h' (nx+1)):eK P o aa e h nx u i m h' (nx+1):=by
 have _:=hinv;have _:=hi;refine eK.mk' hc hH ha [nm nx] (λrd hi=>hi) (λn b1=>?_) (λrd hi b' hb'=>?_) (λq c d A _ N=>⟨λrd hi b b' D hb2=>?_,λy I=>hval q c y d I⟩) hrd (λn b1=>?_) (λn b1=>by simp[aA]at b1;subst b1;rw[dh];omega) hrows hinv' (by omega)
 .grind
 .simp[aA]at hi;subst hi;exact⟨_,by rw[aR (by simp)];exact eG _ _⟩
 .simp[aA]at hi;subst hi;rw[A _ (by simp),eG]at D
  grind
 .simp[aA]at b1;subst b1;rw[dh];exact hwn
def atp {ty:Operand} (hc:cP P o.op=Z (.app s i m ty c)) (z:oE b9 e h nx K (.app s i m ty c)=Z r):h_ P o aa e h nx K r:=by
 let⟨H,hH⟩:=fW h;have hfr:=hinv.fresh;simp only[oE]at z;split at z
 .rename_i id id2 hv hv2;let⟨yb,h1,h2⟩:=be hi hv;let⟨yy,h3,h4⟩:=be hi hv2;simp only[b7,af]at h4;subst h4;split at z
  .rename_i ty' a D tyc a' j hb hb2;split at z
   .rename_i hq;simp only[al,cK]at hq;let⟨⟨q1,q2⟩,q3,q4⟩:=hq;have q1:=au q1;have q2:=eq_of_beq q2;have q3:=au q3;have q4:id≠id2:=λe=>by rw[e,AT]at q4;cases q4
    subst q1 q2 q3;have N:=cB z;clear z;let⟨hroom,z⟩:=N;have hrow:=Y4 hH hb2 (l':=[.H (oP a j) 0]) rfl (n:=1) (sz:=1) rfl;have hidlt:=hinv.low id _ hb;have hne:nx≠id:=by omega
    have hroom:bl (ah (α:=Int) D+1) m=J:=hroom;simp only[b7,bH,hb,aB,hZ,qY,af]at h2;generalize hh':(h.set id (Z (.qj J 1 (ah (α:=Int) D)))).set nx (Z (.qw (.zk s) a (O5 (α:=Int) D [j])))=h' at z;have A:∀sz,h'.get sz=if sz=nx then Z (.qw (.zk s) a (O5 (α:=Int) D [j])) else if sz=id then Z (.qj J 1 (ah (α:=Int) D)) else h.get sz:=λsz=>by rw[<- hh',PT.get_set,PT.get_set]
    have hr:b8 h h':=λsz r hi=>by
     rw[bH]at hi ⊢;rw[A];by_cases e1:sz=nx
     .rw[e1,hfr]at hi;cases hi
     .rw[aE e1];by_cases e2:sz=id
      .rw[aR e2];rw[e2,hb]at hi;exact hi
      .rw[aE e2];exact hi
    have hinv':gC h' (nx+1):=by
     refine ⟨λsz s l hil=>?_,λsz x hic=>?_⟩
     .rw[A]at hil;split at hil
      .cases hil
      .split at hil
       .cases hil
       .exact eS hr l (hinv.C sz _ l hil)
     .rw[A]at hic;split at hic
      .omega
      .split at hic
       .omega
       .have:=hinv.low sz x hic;omega
    have hsame:∀n,n≠nm nx->n≠nm id->erHF h' n=erHF h n:=λn e1 e2=>by
     unfold erHF;rw[A (ow n)];by_cases f1:ow n=nx
     .rw[aR f1,f1,hfr];simp only[aB,Option.bind_none];cases hx:ix n with
      |zero=>exact bO (by rw[oC hx,f1]) e1
      |succ k=>rfl
     .rw[aE f1];by_cases f2:ow n=id
      .rw[aR f2,f2,hb];simp only[aB];cases hx:ix n with
       |zero=>exact bO (by rw[oC hx,f2]) e2
       |succ k=>rfl
      .rw[aE f2];cases hx:h.get (ow n) with
       |none=>rfl
       |some b=>exact lx hr (λs l e=>hinv.C _ _ l (by rw[hx,e])) _ _
    have hdead:erHF h' (nm id)=U:=by rw[bU,A,aE (by omega),aR rfl];rfl
    have hl2:ah (α:=Int) (O5 (α:=Int) D [j])=ah (α:=Int) D+1:=by
     exact (λ(a b:η)=>(aD:(a++b).length=a.length+b.length)) D [j]
    have hnew:erHF h' (nm nx)=Z ⟨s,.mx (gD (λj=>.H (oP a j) 0) D++[.H (oP a j) 0])⟩:=by
     rw[bU,A,aR rfl];simp only[aB,jG,sL];rw[aE (by simp only[cV];omega)];have:gD (λj=>AV.H (oP a j) 0) (O5 (α:=Int) D [j])=gD (λj=>AV.H (oP a j) 0) D++[.H (oP a j) 0]:=by
      exact cf (f:=λj:Int=>AV.H (oP a j) 0) (l₁:=(D:η)) (l₂:=[j])
     rw[this]
    have hval:b7 h' (.G nx)=Z (.G (nm nx) 1 (ah (α:=Int) D+1)):=by
     simp only[b7,bH,A,bo,aB,hZ,qY,dA,hl2];rw[aE (by simp)]
    have hblk:∀H1 H2,qe H1 H2->fM H1 H2 ⟨s,mN (gD (λj=>.H (oP a j) 0) D++[.H (oP a j) 0])⟩ ⟨s,.mx (gD (λj=>.H (oP a j) 0) D++[.H (oP a j) 0])⟩:=λH1 H2 d=>by
     let⟨p1,p2⟩:=mq (gD (λj=>AV.H (oP a j) 0) D++[.H (oP a j) 0]);exact fM.eq d p2 rfl p1
    have w1:aC (fT id|||fT nx) nx=J:=by rw[bj,bq.2 (rfl:nx=nx)];simp
    have hrd:∀n∈[nm id2],aC (fT id|||fT id2) (ow n)=J:=λn I=>by
     simp only[aA]at I;subst I;rw[dh,bj,bq.2 (rfl:id2=id2)];simp
    refine ⟨_,_,_,_,_,z,?_⟩;by_cases hz:ah (α:=Int) D=0
    .have hyb:yb= .emp:=by rw[<- h2];unfold dA;rw[hz];rfl
     subst hyb;have hnil:D=[]:=eR.1 hz;subst hnil;have hroom:bl 1 m=J:=hroom;refine eK.app0 hinv hi hc hH (k:=nm nx) (y0:=.G (nm nx) 1 1) (rdl:=[nm id2]) (b0:=⟨s,mN [.H (oP a j) 0]⟩) (by simp only[dk,h1,h3,hrow];simp[CK,hroom]) (λn I=>?_) hnew (hblk) (λH1 H2 y d hy=>by rw[hval]at hy;cases hy;exact ju.refl d _) hrd w1 hr hinv';by_cases e2:n=nm id
     .subst e2;rw[hdead,bU,hb];rfl
     .exact hsame n I e2
    .have hyb:yb= .G (nm id) 1 (ah (α:=Int) D):=by
      rw[<- h2];unfold dA;rw[aE (by simpa using hz)]
     subst hyb;have hg:H.get (nm id)=Z ⟨s,.mx (gD (λj=>.H (oP a j) 0) D)⟩:=by
      rw[hH,bU,hb];simp only[aB,jG,sL];rw[aE (by simpa using hz)]
     have hmm:mem (nm id) [nm id2]=aa:=by
      cases hx:mem (nm id) [nm id2] with
      |false=>rfl
      |true=>
       have:=adq.1 hx;simp only[aA]at this;exact bO (s5 this) q4
     refine eK.app1 hinv hi hc hH (k:=nm nx) (n0:=nm id) (y0:=.G (nm nx) 1 (ah (α:=Int) D+1)) (rdl:=[nm id,nm id2]) (b0:=⟨s,mN (gD (λj=>.H (oP a j) 0) D++[.H (oP a j) 0])⟩) ?_ hsame (λe=>hne (s5 e)) hdead hnew hblk (λH1 H2 y d hy=>by rw[hval]at hy;cases hy;exact ju.refl d _) (λn I=>?_) (by rw[dh,bj,bq.2 (rfl:id=id)];rfl) w1 hr hinv'
     .have hlen:(gD (λj=>AV.H (oP a j) 0) D).length=ah (α:=Int) D:=bN ..;simp only[dk,h1,h3,hrow,hg];rw[aR (by
       simp only[cz,dl,Bool.and_true,BC.isCells,BC.len,hroom,al,cK];exact⟨hmm,bf (by omega)⟩)]
      simp only[BC.toMx,fZ (show (gD (λj=>AV.H (oP a j) 0) D).length<=ah (α:=Int) D*1 by omega)]
     .rcases bB.1 I with rfl|I
      .rw[dh,bj,bq.2 (rfl:id=id)];rfl
      .exact hrd n I
   .cases z
  .cases z
 .rename_i id j sb n y hv hv2;let⟨yb,h1,h2⟩:=be hi hv;let⟨yy,h3,h4⟩:=be hi hv2;simp only[b7,Ib,af]at h2;split at z
  .rename_i ty' T a xss hb;split at z
   .rename_i hq;simp only[al]at hq;let⟨q1,q2,q3⟩:=hq;have q1:=au q1;have q2:=au q2;have q3:=eq_of_beq q3;subst q1 q2 q3;have N:=cB z;clear z;let⟨hj,z⟩:=N;split at z
    .rename_i ys bytes hys;split at z
     .cases z
     .rename_i hmid;have hmid:aC bytes id=aa:=by simpa using hmid
      have N:=cB z;clear z;let⟨hqq,z⟩:=N;simp only[al]at hqq;let⟨I,hroom⟩:=hqq;have I:=au I;let⟨rdl,h5,h6⟩:=IE hH hys h4;generalize hxs:Gk (T:=T) xss j=xs at*
      have hidlt:=hinv.low id _ hb;have hne:nx≠id:=by omega
      let⟨_,_,hjl⟩:=lR hj;generalize hh':(h.set id (Z (.qw (.ir s T) a (E9 (T:=T) xss j [])))).set nx (Z (.F s J T (xs++ys)))=h' at z;have A:∀sz,h'.get sz=if sz=nx then Z (.F s J T (xs++ys)) else if sz=id then Z (.qw (.ir s T) a (E9 (T:=T) xss j [])) else h.get sz:=λsz=>by rw[<- hh',PT.get_set,PT.get_set]
      have hr:b8 h h':=λsz r hi=>by
       rw[bH]at hi ⊢;rw[A];by_cases e1:sz=nx
       .rw[e1,hfr]at hi;cases hi
       .rw[aE e1];by_cases e2:sz=id
        .rw[aR e2];rw[e2,hb]at hi;exact hi
        .rw[aE e2];exact hi
      have hinv':gC h' (nx+1):=by
       refine ⟨λsz s l hil=>?_,λsz x hic=>?_⟩
       .rw[A]at hil;split at hil
        .cases hil
        .split at hil
         .cases hil
         .exact eS hr l (hinv.C sz _ l hil)
       .rw[A]at hic;split at hic
        .omega
        .split at hic
         .omega
         .have:=hinv.low sz x hic;omega
      have hsame:∀n,n≠nm nx->n≠iM id (j.toNat+1)->erHF h' n=erHF h n:=λn e1 e2=>by
       unfold erHF;rw[A (ow n)];by_cases f1:ow n=nx
       .rw[aR f1,f1,hfr];simp only[aB,Option.bind_none];cases hx:ix n with
        |zero=>exact bO (by rw[oC hx,f1]) e1
        |succ k=>rfl
       .rw[aE f1];by_cases f2:ow n=id
        .rw[aR f2,f2,hb];simp only[aB];cases hx:ix n with
         |zero=>rfl
         |succ k=>
          refine FC (T:=T) λe3=>?_
          exact e2 (by rw[<- j9 n,hx,f2,e3])
        .rw[aE f2];cases hx:h.get (ow n) with
         |none=>rfl
         |some b=>exact lx hr (λs l e=>hinv.C _ _ l (by rw[hx,e])) _ _
      have hdead:erHF h' (iM id (j.toNat+1))=U:=by
       rw[jX,A,aE (by omega),aR rfl];exact KA (T:=T) hjl
      have hnew:erHF h' (nm nx)=if (xs++ys).length==0 then U else Z ⟨s,.fz ((xs++ys).flatMap (bP T))⟩:=by
       rw[bU,A,aR rfl];rfl
      have hval:b7 h' (.G nx)=Z (dA J nx T.size (xs++ys).length):=by
       simp only[b7,bH,A,bo,aB,hZ]
      have w1:aC (fT id|||fT nx) nx=J:=by rw[bj,bq.2 (rfl:nx=nx)];simp
      have hrd:∀n∈rdl,aC (fT id|||bytes) (ow n)=J:=λn I=>by
       obtain⟨sz,rfl,hm⟩:=h6 n I;rw[dh,bj,hm];simp
      refine ⟨_,_,_,_,_,z,?_⟩;by_cases hz:n=0
      .subst hz;have hyb:yb= .emp:=by rw[<- h2];rfl
       subst hyb;have hnil:xs=[]:=eR.1 I.symm;have hold:erHF h (iM id (j.toNat+1))=U:=by
        rw[jX,hb];show pW j.toNat s T xss=U;unfold pW;rw[RX hj,hxs,hnil];rfl
       have hsame0:∀n,n≠nm nx->erHF h' n=erHF h n:=λn I=>by
        by_cases e2:n=iM id (j.toNat+1)
        .subst e2;rw[hdead,hold]
        .exact hsame n I e2
       rw[b6]at hroom;rw[hnil,gW]at hnew hval;have ha0:dk (.app s T.size m ty c) (Bk e h) H (nm nx)=if ah ys==0 then Z ⟨.emp,rdl,[],[],[]⟩ else Z ⟨.G (nm nx) T.size (ah ys),rdl,[nm nx],[(nm nx,⟨s,mN ((ys.flatMap (bP T)).map .f)⟩)],[nm nx]⟩:=by
        simp only[dk,h1,h3,h5,CK,hroom,sX,bo]
       by_cases hl:ah ys=0
       .rw[hl]at ha0;simp only[cz,bo]at ha0;have hnil2:ys=[]:=eR.1 hl;refine eK.mk' hc hH ha0 [] (by simp) (λn _=>?_) (by simp) (λH1 H2 d _ _ _=>⟨by simp,λy hy=>?_⟩) hrd (by simp) (by simp) hr hinv' (by omega)
        .by_cases e1:n=nm nx
         .subst e1;rw[hnew,hnil2,bU,hfr];rfl
         .exact hsame0 n e1
        .rw[hval,hnil2]at hy;cases hy;exact ju.refl d _
       .rw[aE (by simpa using hl),uG]at ha0;rw[aE (by simpa using hl)]at hnew;refine eK.app0 hinv hi hc hH ha0 hsame0 hnew (λH1 H2 d=>fM.refl d _) (λH1 H2 y d hy=>?_) hrd w1 hr hinv';rw[hval]at hy;unfold dA at hy;rw[aE (by simpa using hl)]at hy;cases hy;exact ju.refl d _
      .have hyb:yb= .G (iM id (j.toNat+1)) T.size n:=by rw[<- h2];unfold sZ;rw[aE (by simpa using hz)]
       subst hyb;have hg:H.get (iM id (j.toNat+1))=Z ⟨s,.fz (xs.flatMap (bP T))⟩:=by rw[hH,<-hxs];exact Yx hb hj (by rw[hxs];omega)
       have fl:=dN (bh T) xs;have tk:(xs.flatMap (bP T)).take (n*T.size)=xs.flatMap (bP T):=by rw[I,<-fl,dC]
       have hmem:mem (iM id (j.toNat+1)) rdl=aa:=by
        cases hx:mem (iM id (j.toNat+1)) rdl with
        |false=>rfl
        |true=>
         let⟨sz,e,hm⟩:=h6 _ (adq.1 hx);have:=(tO e).2;omega
       have ha0:dk (.app s T.size m ty c) (Bk e h) H (nm nx)=Z ⟨.G (nm nx) T.size (n+ys.length),iM id (j.toNat+1)::rdl,[nm nx,iM id (j.toNat+1)],[(nm nx,⟨s,.fz ((xs++ys).flatMap (bP T))⟩)],[nm nx]⟩:=by
        have hcnd:(T.size==T.size&& !(mem (iM id (j.toNat+1)) rdl)&&(BC.fz (xs.flatMap (bP T))).isCells&&dc (n*T.size) (BC.fz (xs.flatMap (bP T))).len&&s==s&&bl (n+ys.length) m)=J:=by
         have:dc (n*T.size) (BC.fz (xs.flatMap (bP T))).len=J:=bf (by simp only[BC.len];rw[I];omega);rw[this,hmem,hroom];simp[BC.isCells]
        simp only[dk,h1,h3,h5,hg,hcnd,bo,BC.toMx,<-gX,tk,<-cf,uG,wg]
       have hl3:(xs++ys).length=n+ys.length:=by rw[aD,I]
       rw[aE (by simp only[cV];omega)]at hnew;refine eK.app1 hinv hi hc hH ha0 hsame (λe=>by have:=(tO e).2;omega) hdead hnew (λH1 H2 d=>fM.refl d _) (λH1 H2 y d hy=>?_) (λn' hn'=>?_) (by rw[im,bj,bq.2 (rfl:id=id)];rfl) w1 hr hinv'
       .rw[hval,hl3]at hy;unfold dA at hy;rw[aE (by simp only[dl,cV];omega)]at hy;cases hy;exact ju.refl d _
       .rcases bB.1 hn' with rfl|hn'
        .rw[im,bj,bq.2 (rfl:id=id)];rfl
        .exact hrd _ hn'
    .cases z
   .cases z
  .cases z
 .rename_i b id j sb n _ hv hv2;let⟨yb,h1,h2⟩:=be hi hv;let⟨yy,h3,h4⟩:=be hi hv2;simp only[b7,Ib,af]at h4;split at z
  .rename_i tyi T a xss hb;split at z
   .rename_i hq;simp only[al]at hq;let⟨q1,q2⟩:=hq;have q1:=au q1;have q2:=au q2;subst q1 q2;have N:=cB z;clear z;let⟨hj,z⟩:=N;have N:=cB z;clear z;let⟨I,z⟩:=N;have I:=au I;generalize hxs:Gk (T:=T) xss j=xs at*
    by_cases hz:n=0
    .have hyy:yy= .emp:=by rw[<- h4];unfold sZ;rw[aR (by simpa using hz)]
     have hnil:xs=[]:=eR.1 (by omega);subst hyy hnil;exact I6 hinv hi hH (rdl:=[]) hc h1 h2 h3 rfl (by simp) z
    .have hyy:yy= .G (iM id (j.toNat+1)) T.size n:=by rw[<- h4];unfold sZ;rw[aE (by simpa using hz)]
     subst hyy;have hg:H.get (iM id (j.toNat+1))=Z ⟨tyi,.fz (xs.flatMap (bP T))⟩:=by rw[hH,<-hxs];exact Yx hb hj (by rw[hxs];omega)
     have fl:=dN (bh T) xs;have tk:(xs.flatMap (bP T)).take (n*T.size)=xs.flatMap (bP T):=by rw[I,<-fl,dC]
     have hb2:dc (n*T.size) (xs.flatMap (bP T)).length=J:=bf (by rw[I];omega);refine I6 hinv hi hH (rdl:=[iM id (j.toNat+1)]) hc h1 h2 h3 ?_ (λq hq=>by simp only[aA]at hq;subst hq;rw[im];exact bq.2 rfl) z;simp only[AV.row?,cz,bo,hg,BC.isCells,dl,BC.len,hb2,BC.toMx];rw[<- gX,tk,I]
   .cases z
  .cases z
 .cases z
variable {A:ξ}
def apk {l:Operand} (hc:cP P o.op=Z (.zf s i m A l c)) (z:oE b9 e h nx K (.zf s i m A l c)=Z r):h_ P o aa e h nx K r:=by
 let⟨H,hH⟩:=fW h;have hfr:=hinv.fresh;simp only[oE]at z;split at z
 .rename_i q T k a k' b hty hv hv2;split at z
  .rename_i hq;simp only[al]at hq;let⟨q1,q2⟩:=hq;have q1:=au q1;subst q1;have hz:A=[.slice U 0 0]:=by
    unfold ae0 at q2
    grind
   subst hz;let⟨hcond,z⟩:=cB z;let⟨y,h1,h2⟩:=be hi hv;let⟨y2,h3,h4⟩:=be hi hv2;simp[b7,af]at h2 h4;subst h2 h4;generalize hn:aS a=n at z;have ha0:dk (.zf s 1 m [.slice U 0 0] l c) (Bk e h) H (nm nx)=Z ⟨.G (nm nx) 1 n,[],[nm nx],[(nm nx,⟨s,.fz (repl [.slice U 0 0] n)⟩)],[nm nx]⟩:=by
    simp[dk,h1,h3,fC,hcond,bo,hn]
   generalize hh':(h.set nx (Z (.qw (.rr s T.size) (nx+1) (aP n (0:Int))))).set (nx+1) (Z (.qw (.ir (stN q) T) 0 (aP n ([]:Y T.den))))=h' at z;have N:∀sz,h'.get sz=if sz=nx+1 then Z (.qw (.ir (stN q) T) 0 (aP n ([]:Y T.den))) else if sz=nx then Z (.qw (.rr s T.size) (nx+1) (aP n (0:Int))) else h.get sz:=λsz=>by
    rw[<- hh',PT.get_set,PT.get_set]
   have hfr2:h.get (nx+1)=U:=by
    cases D:h.get (nx+1) with
    |none=>rfl
    |some b=>have:=hinv.low _ b D;omega
   have hr:b8 h h':=λsz r hi=>by
    rw[bH]at hi ⊢
    grind
   have hl:ah (α:=Int) (aP n (0:Int))=n:=eL ..;have hall:∀(bytes k:Nat),kO (nx+1) T.size k (aP bytes (0:Int))=aP bytes .emp:=λbytes=>by
    induction bytes with
    |zero=>intro k;rfl
    |succ bytes ih=>intro k;rw[mh,mh];simp[kO,ih];rfl
   have hnew:erHF h' (nm nx)=Z ⟨s,.mx (aP n .emp)⟩:=by
    rw[bU,N,aE (by omega),aR rfl];show Z (jI.mk s (.mx (kO (nx+1) T.size 0 (aP n (0:Int)))))=_;rw[hall]
   refine ⟨_,_,_,_,_,z,eK.mk' hc hH ha0 [nm nx] (λsz hi=>hi) (λbytes hm=>?_) (λsz hi b' hb'=>?_) (λH1 H2 d hw1 _ hw2=>⟨λsz hi b b' I F=>?_,λy hy=>?_⟩) (by simp) (λbytes hm=>?_) (λbytes hm=>?_) hr ⟨λsz s l hil=>?_,λsz c' hic=>?_⟩ (by omega)⟩
   .have hm:bytes≠nm nx:=by simpa using hm
    unfold erHF;rw[N];by_cases f0:ow bytes=nx+1
    .rw[aR f0,f0,hfr2];cases ix bytes with
     |zero=>rfl
     |succ k=>
      show pW k (stN q) T (aP n ([]:Y T.den))=U;unfold pW;rw[yS];split<;>rfl
    .rw[aE f0];by_cases f1:ow bytes=nx
     .rw[aR f1,f1,hfr];cases D:ix bytes with
      |zero=>exact bO (by rw[oC D,f1]) hm
      |succ k=>rfl
     .rw[aE f1];cases D:h.get (ow bytes) with
      |none=>rfl
      |some b=>exact lx hr (λs l e=>hinv.C _ _ l (by rw[D,e])) _ _
   .simp[aA]at hi;subst hi;exact⟨_,by rw[aR (by simp)];exact eG _ _⟩
   .simp[aA]at hi;subst hi;rw[hw1 _ (by simp),eG]at I;rw[hw2 _ (by simp),hnew]at F;simp[af]at I F;subst I F;refine fM.C rfl rfl ?_ λx D=>?_
    .simp[BC.toMx];exact RO d n
    .simp only[BC.toMx]at D;rw[List.mem_replicate]at D;rw[D.2];rfl
   .simp only[b7,bH,N,bo]at hy;rw[aE (by omega)]at hy;simp only[aB,hZ,qY,dA,dY,cg,eV,af]at hy;subst hy;rw[hl];exact ju.refl d _
   .simp[aA]at hm;subst hm;rw[dh];exact bq.2 rfl
   .simp[aA]at hm;subst hm;rw[dh];omega
   .rw[N]at hil;split at hil
    .cases hil
    .split at hil
     .cases hil
     .exact eS hr l (hinv.C sz _ l hil)
   .rw[N]at hic;split at hic
    .omega
    .split at hic
     .omega
     .have:=hinv.low sz c' hic;omega
  .cases z
 .cases z
end ops
mutual
def FV.fl:FV->Bool
 |.raw _=>J
 |.agg l=>FV.flL l
 |.sl _ _=>aa
 |.H _ _=>aa
def FV.flL:Y FV->Bool
 |[]=>J
 |x::r=>x.fl&&FV.flL r
end
def YN:∀{l:Y FV},FV.flL l=J->∀x∈l,x.fl=J
 |[],_,x,c=>by cases c
 |y::l,h,x,c=>by
  simp[FV.flL,al]at h;rcases bB.1 c with rfl|c
  .exact h.1
  .exact YN h.2 x c
def aeo:∀{l:Y FV},(∀x∈l,x.fl=J)->FV.flL l=J
 |[],_=>rfl
 |y::l,h=>by simp[FV.flL,al];exact⟨h y (by simp),aeo λx c=>h x (by grind)⟩
variable {O:Nat->Prop} {w:World} {v:Value}
def lX.flat {O':Nat->Prop} {w':World} {x:FV} (h:lX O w x v):x.fl=J->lX O' w' x v:=by
 induction h with
 |raw v=>intro _;exact .raw v
 |agg cells vs N hcl A q=>intro h;exact .agg cells vs N hcl λj x v z F=>q j x v z F (YN h x (bd z))
 |_=>intro h;cases h
mutual
def AV.fl:AV->Bool
 |.f x=>x.fl
 |.emp=>J
 |.qv=>J
 |.agg l|.qb l=>AV.flL l
 |.H _ _=>aa
 |.sl _ _ _=>aa
 |.G _ _ _=>aa
 |.mp _=>aa
 |.qy _ l=>AV.flL l
 |.qh _ _=>aa
def AV.flL:Y AV->Bool
 |[]=>J
 |x::r=>x.fl&&AV.flL r
end
def EP:∀{l:Y AV},AV.flL l=J->∀x∈l,x.fl=J
 |[],_,x,c=>by cases c
 |y::l,h,x,c=>by
  simp[AV.flL,al]at h;rcases bB.1 c with rfl|c
  .exact h.1
  .exact EP h.2 x c
def Zg:∀{l:Y AV},(∀x∈l,x.fl=J)->AV.flL l=J
 |[],_=>rfl
 |y::l,h=>by simp[AV.flL,al];exact⟨h y (by simp),Zg λx c=>h x (by grind)⟩
variable {V:PM}
def cm.flat {φ':PM} {O':Nat->Prop} {w':World} (h:cm V O w y v):y.fl=J->cm φ' O' w' y v:=by
 induction h with
 |f h=>intro hf;exact .f (h.flat hf)
 |emp=>intro _;exact .emp
 |qv=>intro _;exact .qv
 |agg A hcl D q=>intro hf;exact .agg A hcl λj y v c z=>q j y v c z (EP hf y (bd c))
 |qb A D q=>intro hf;exact .qb A λj y v c z=>q j y v c z (EP hf y (bd c))
 |qy A D q=>intro hf;exact .qy A λj y v c z=>q j y v c z (EP hf y (bd c))
 |_=>intro hf;cases hf
mutual
def an6 (γ:Nat->Nat):∀x:AV,x.fl=J->x.qx γ=x
 |.f x,_|.emp,_|.qv,_=>rfl
 |.agg l,h|.qb l,h=>by simp[AV.qx];rw[D2 γ l h]
 |.H _ _,h|.sl _ _ _,h|.qh _ _,h|.G _ _ _,h|.mp _,h=>by cases h
 |.qy _ l,h=>by simp[AV.qx];rw[D2 γ l h]
def D2 (γ:Nat->Nat):∀l:Y AV,AV.flL l=J->AV.renL γ l=l
 |[],_=>rfl
 |x::r,h=>by
  simp[AV.flL,al]at h;rw[AV.renL,an6 γ x h.1,D2 γ r h.2]
end
def Bl:∀(T:Ty),T.flat=J->∀x:T.den,∀y∈bP T x,y.fl=J
 |.int _,_,x,y,c|.bool,_,x,y,c|.str,_,x,y,c=>by simp[bP,aA]at c;subst c;rfl
 |.sl _,h,x,y,c=>by cases h
 |.st t,h,x,y,c=>Bl t h x y c
 |.pr a b,h,x,y,c=>by
  simp[Ty.flat,al]at h;simp[bP,bF]at c;exact c.elim (Bl a h.1 x.1 y) (Bl b h.2 x.2 y)
 |.un,_,x,y,c=>by simp[bP]at c
 |.ex,h,_,_,_|.sm,h,_,_,_=>by cases h
def aj2 (T:Ty) (h:T.flat=J) (x:T.den):(fC T x).fl=J:=by
 cases c:T.one with
 |true=>
  have:=Bl T h x (fC T x) (by rw[(KP T x c).1];simp);exact this
 |false=>rw[qZ T x c];exact aeo (Bl T h x)
def Ry (a b:Ty):(spr a b).flat=(a.flat&&b.flat):=by
 cases a<;>cases b<;>simp[spr,HP,Ty.flat]
def JS :∀{a b:Y TV},qa i (a++b)=J->qa i a=J/\qa i b=J
 |[],b,h=>⟨rfl,h⟩
 |x::r,b,h=>by
  simp[fG,qa,al]at h ⊢;let⟨h1,c⟩:=JS h.2;exact⟨⟨h.1,h1⟩,c⟩
variable {g:Nat->Nat}
def Yd {c:Y n!} (h:qa 0 (c.map λp=>.H (g p.1) p.2)=J):c=[]:=by
 cases c with
 |nil=>rfl
 |cons p r=>simp[qa,Gq]at h
mutual
def ahj {g:Nat->Nat} {h:a_}:∀(p:PV) (x:p.ty.den) (cs:Y TV) (l:Y AV),p.ty.flat=J->mA g p x=Z cs->qa 0 cs=J->cN h cs=Z l->∀y∈l,y.fl=J
 |.d T,x,cs,l,hf,hp,_,hl,y,hy=>by
  have:=(lU h 40 T x cs hp).1;rw[hl]at this;cases this;obtain⟨q,hq,rfl⟩:=bR.1 hy;exact Bl T hf x q hq
 |.H i q,x,cs,l,hf,hp,hlt,hl,y,hy|.qk i q z,x,cs,l,hf,hp,hlt,hl,y,hy=>by
  simp only[mA,af]at hp;subst hp;simp[qa,Gq]at hlt
 |.qy q ps,x,cs,l,hf,hp,hlt,hl,y,hy=>by
  simp only[mA,af]at hp;subst hp;simp only[qa,Gq,al]at hlt;have:=Yd hlt.1;subst this;simp only[cN,b7,kV,af]at hl;subst hl;rw[aA]at hy;subst hy;rfl
 |.ob i q,x,cs,l,hf,hp,hlt,hl,y,hy|.nr i q,x,cs,l,hf,hp,hlt,hl,y,hy|.G i,x,cs,l,hf,hp,hlt,hl,y,hy|.mp i,x,cs,l,hf,hp,hlt,hl,y,hy=>by
  simp only[mA,af]at hp;subst hp;simp[qa,Gq]at hlt
 |.nil,x,cs,l,hf,hp,hlt,hl,y,hy|.emp,x,cs,l,hf,hp,hlt,hl,y,hy=>by
  simp only[mA,af]at hp;subst hp;simp only[cN,b7,af]at hl;subst hl;simp only[aA]at hy;subst hy;rfl
 |.agg ps,x,cs,l,hf,hp,hlt,hl,y,hy=>Jp ps x cs l hf hp hlt hl y hy
def Jp {g:Nat->Nat} {h:a_}:∀(ps:Y PV) (x:(PV.tyL ps).den) (cs:Y TV) (l:Y AV),(PV.tyL ps).flat=J->rA g ps x=Z cs->qa 0 cs=J->cN h cs=Z l->∀y∈l,y.fl=J
 |[],x,cs,l,hf,hp,hlt,hl,y,hy=>by
  simp only[rA,af]at hp;subst hp;simp only[cN,af]at hl;subst hl;cases hy
 |p::ps,x,cs,l,hf,hp,hlt,hl,y,hy=>by
  simp only[PV.tyL]at hf;rw[Ry,al]at hf;simp only[rA]at hp;split at hp
  .rename_i a ha;split at hp
   .rename_i b hb;cases hp;obtain⟨a',b',rfl,e1,e2⟩:=CU hl;have hsp:=JS hlt;rcases bF.1 hy with hy|hy
    .exact ahj p _ a a' hf.1 ha hsp.1 e1 y hy
    .exact Jp ps _ b b' hf.2 hb hsp.2 e2 y hy
   .cases hp
  .cases hp
end
def ahg {p:PV} {x:p.ty.den} (hf:p.ty.flat=J) (hp:qo g p x=Z u) (hlt:Gq 0 u=J) (c:b7 h u=Z y):y.fl=J:=by
 cases p with
 |d T=>
  simp only[qo,af]at hp;subst hp;simp only[b7,af]at c;subst c;exact aj2 T hf x
 |agg D=>
  simp only[qo]at hp;split at hp
  .rename_i l F;cases hp;simp only[b7]at c;split at c
   next l' A=>cases c;exact Zg (Jp D _ l l' hf F hlt A)
   .cases c
  .cases hp
 |qy q D=>
  simp only[qo,af]at hp;subst hp;have:=Yd hlt;subst this;simp only[b7,cN,kV,af]at c;subst c;rfl
 |nil|emp=>simp only[qo,af]at hp;subst hp;simp only[b7,af]at c;subst c;rfl
 |_=>simp only[qo,af]at hp;subst hp;simp[Gq]at hlt
def RY :∀(q:Y PV) (x:(PV.tyL q).den) (c:Y TV) (l:Y AV),(PV.tyL q).flat=J->oO g q x=Z c->qa 0 c=J->cN h c=Z l->AV.flL l=J
 |[],x,c,l,hf,hp,hlt,z=>by
  simp[oO,af]at hp;subst hp;simp[cN,af]at z;subst z;rfl
 |p::q,x,c,l,hf,hp,hlt,z=>by
  simp[PV.tyL]at hf;rw[Ry,al]at hf;simp[oO]at hp;split at hp
  .rename_i a F;split at hp
   next b D=>simp[af]at hp;subst hp;obtain⟨y,A,rfl,e1,e2⟩:=cY z;simp[qa,al]at hlt;simp[AV.flL,al];exact⟨ahg hf.1 F hlt.1 e1,RY q _ b A hf.2 D hlt.2 e2⟩
   .cases hp
  .cases hp
def ah3:∀{l:Y AV},AV.flL l=J->(yU l).fl=J
 |[],_=>rfl
 |[x],h=>by simp only[AV.flL,al]at h;exact h.1
 |x::y::r,h=>h
variable {f:FuncId} {k:Oper} {B:Y TV} {N:Y AV}
def ajj {e:gM} {c:cu} (hinv:gC h i) (sp:pa P f c) {x:c.pre.ty.den} {σ:PT Nat} {sm:Nat} (A:I8 0 c.pre B h x m σ sm) {vs:Y TV} {hp:a_} {l1:Y (M eC)} (I:nL c.pre x vs hp l1) {y:c.post.ty.den} (hm:c.m x=Z y) {rs:Y TV} {hq:a_} {l2:Y (M eC)} (l:nL c.post y rs hq l2) (hp0:l! c.pre.bs=0) (hq0:l! c.post.bs=0) (hfl:(PV.tyL c.post.vs).flat=J)
 (g:Nat->Nat) (hla:cN h B=Z N)
 (hexec:∀(φ:PM) (E:Nat->Prop) (h':HF) (w:World) (a:Act),(∀t,.tmp t∈k.op.operands->∀y,fB e h t=Z y->cm φ (tot E φ h') w y (a.tmps.getD t undef))->oM φ E h' w->∃us:ξ,(execOp a.eval k).run P w= .ok (.enter f us.toArray) w/\ik φ (tot E φ h') w N us):
 eK P k aa e h i (RM (kq g rs)) m 0 h i:=by
 let⟨x1,m1,x2,m2,hx,hmm,gv,gb⟩:=A.ex;have hmr:dH h m:=by rw[hmm];exact (Qg _ _ _ _ gv).or (Qi _ _ _ _ gb)
 have pvg:oO (gU σ) c.pre.vs x1=Z (kq (gU σ) vs):=by
  have F:=t_ (gU σ) c.pre.vs x1;have h4:=I.pv;rw[hx,tT]at h4;rw[F,h4];rfl
 let⟨lr,hlr⟩:=fb hq rs l.ok;let⟨lp,hlp⟩:=fb hp vs I.ok;have hfl':AV.flL lr=J:=RY c.post.vs _ rs lr hfl l.pv (by rw[<- hq0];exact l.lt) hlr;have hpe:∀nx,hp.get nx=U:=λnx=>by
  cases la:hp.get nx with
  |none=>rfl
  |some b=>have:=I.lt_len la;omega
 have hqe:∀nx,hq.get nx=U:=λnx=>by
  cases la:hq.get nx with
  |none=>rfl
  |some b=>have:=l.lt_len la;omega
 have rows_hp:∀nx r,ep hp nx=Z r->ep (dI m h) (gU σ nx)=Z r:=λnx r q=>by rw[bH,hpe]at q;cases q
 have rows_hq:∀nx r,ep hq nx=Z r->ep h (g nx)=Z r:=λnx r q=>by rw[bH,hqe]at q;cases q
 have rows_in:yd (dI m h) h:=λj r q=>by
  rw[bH]at q ⊢;rw[iq]at q;split at q
  next ht=>let⟨ty,p,T,xs,la⟩:=hmr j ht;rw[la]at q ⊢;exact q
  .exact q
 have hOpT:ft P k (fB e h) (erHF h) ⟨yU lr,Gp m,[],λ_=>U,[]⟩:=by
  intro φ E h' w a hrd hwr hops hrep hN;let⟨us,hrun,hrel⟩:=hexec φ E h' w a hops hrep
  let Hv:HF:=λn=>if n∈Gp m then U else h' n
  have Hv_in:∀n,n∈Gp m->Hv n=U:=λn D=>by grind
  have Hv_out:∀n,n∉Gp m->Hv n=h' n:=λn D=>by grind
  have hd:qe h' Hv:=λn b la=>by grind
  have gvv:C4 h h' Hv m:=λnx hi=>⟨hrd _ (lO.2 hi),Hv_in _ (lO.2 hi)⟩
  have V:L4 h' Hv:=⟨hd,λn b b' la hb'=>by
   by_cases D:n∈Gp m
   .grind
   .rw[Hv_out n D,la]at hb';cases hb';exact fM.refl hd b⟩
  have hrepv:=V.zq hrep;have hlpg:cN (dI m h) (kq (gU σ) vs)=Z (AV.renL (oL (gU σ)) lp):=pt rows_hp vs lp hlp;have hrel1:ik φ (tot E φ Hv) w (AV.renL (oL (gU σ)) lp) us:=
   ik.le hrep (DX hd rows_in c.pre.vs B x1 m1 _ N _ gv pvg hla hlpg (λnx hi=>gvv nx (by grind))) hrel
  let E':Nat->Prop:=λo=>E o\/∃n b,Hv n=Z b/\φ n=Z o
  have T:ajx c.pre x vs hp (gU σ) φ E E' Hv w:=by
   refine oM.toId I (λa b ha=>by omega) hrepv (λn yb D=>by have:=(I.erHF D).1;omega) ?_ (λn o y D=>by have:=(I.erHF D).1;omega) ?_
   .rintro o (hE|⟨n,b,h1,F⟩)
    .exact .inl hE
    .exact .inr ⟨n,b,h1,F⟩
   .rintro o (hE|⟨n,b,h1,F⟩)
    .exact hrepv.el o hE
    .obtain⟨k',q1,_,ob,q3,_⟩:=hrepv.at_ n b h1
     grind
  have hcalls:=sp.calls x y hm vs hp l1 rs hq l2 lp lr I l hlp hlr (φ1 (l! c.pre.bs) (gU σ) φ) E' w us T.zq (ik.toId T.val (tQ vs lp I.lt hlp) hrel1) (λn o hk=>(xn hk).1);unfold vp;rw[hrun];refine Calls.mono hcalls ?_;rintro en w' ⟨v,φc',rfl,hext,hown,hnm,rp,rv'⟩;have hno:∀o,¬own (φ1 (l! c.pre.bs) (gU σ) φ) (erHF hp) o:=by
   rintro o ⟨n,b,h1,_⟩;let⟨bb,F,_⟩:=gV h1;rw[hpe]at F;cases F
  have mv:gR φ φ h' h' w w':=⟨λ_ _ h=>h,hext.mono λo hk=>bO hk (hno o),λ_ _ h=>h⟩
  refine ⟨v,φ,rfl,?_,λ_ _ h=>.inl h,?_,?_⟩
  .rw[sk];exact mv
  .rw[sk];refine hrep.moved mv λo hk=>?_
   let⟨n,b,h1,F⟩:=hk;let⟨k',q1,_,ob,q3,_⟩:=hrep.at_ n b h1;rw[F]at q1;cases q1;exact hext.jg o (cR.1 q3).1 (hno o)
  .exact rv'.flat (ah3 hfl')
 have hrsg:cN h (kq g rs)=Z (AV.renL (oL g) lr):=pt rows_hq rs lr hlr;refine ⟨⟨_,hOpT,λz hz=>?_,?_,λn D=>?_,by simp,by simp⟩,λ_ _ h=>h,hinv,bL _,nofun⟩
 .rw[Yb hrsg,D2 _ lr hfl']at hz;cases hz;rfl
 .exact sk _ _
 .obtain⟨nx,rfl,hi⟩:=oa.1 D;rw[dh];exact hi
def cu.full (c:cu):cu:=⟨c.pre,⟨c.post.vs,c.pre.bs⟩,λx=>aw (c.m x) λy=>Z (Ym (PV.tyL c.post.vs) (PB.tyL c.pre.bs) (Qk _ _ y) (Pf _ _ x))⟩
def aN (P:Program) (f:FuncId) (c:cu):Prop:=if dc (l! c.pre.bs) (l! c.post.bs)=J then pa P f c else pa P f c.full
def pa.toC {c:cu} (h:pa P f c) (q:dc (l! c.pre.bs) (l! c.post.bs)=J):aN P f c:=by
 unfold aN;rw[aR q];exact h
def aN.holds {c:cu} (h:aN P f c) (q:dc (l! c.pre.bs) (l! c.post.bs)=J):pa P f c:=by
 unfold aN at h;rw[aR q]at h;exact h
def ai2 (a b:Ty) (z:(spr a b).den):Ym a b (Qk a b z) (Pf a b z)=z:=by cases a<;>cases b<;>rfl
open Classical in
def roM {pre:Tm} {vs:Y PV} (m:pre.ty.den->M (Tm.ty ⟨vs,pre.bs⟩).den) (x:pre.ty.den):M (Tm.ty ⟨vs,[]⟩).den:=
 aw (m x) λy=>if Pf (PV.tyL vs) (PB.tyL pre.bs) y=Pf _ _ x then Z (Ym (PV.tyL vs) (PB.tyL []) (Qk (PV.tyL vs) (PB.tyL pre.bs) y) ()) else U
def aN.ro {P:Program} {f:FuncId} {pre:Tm} {vs:Y PV} {m:pre.ty.den->M (Tm.ty ⟨vs,pre.bs⟩).den} {m':pre.ty.den->M (Tm.ty ⟨vs,[]⟩).den} (h:pa P f ⟨pre,⟨vs,pre.bs⟩,m⟩) (N:dc (l! pre.bs) 0=aa) (I:∀x y,m' x=Z y->roM m x=Z y):aN P f ⟨pre,⟨vs,[]⟩,m'⟩:=by
 unfold aN;rw[aE (by grind)];refine ⟨h.qd,λx y hxy=>?_⟩;refine h.calls x y ?_;let⟨z,D,hzy⟩:=dV hxy;have h1:=I x z D;let⟨y0,F,A⟩:=dV h1;split at A
 .rename_i heq;have A:=eW A;have hzy:=eW hzy;subst A;have c:Ym (PV.tyL vs) (PB.tyL pre.bs) (Qk (PV.tyL vs) (PB.tyL pre.bs) y0) (Pf (PV.tyL pre.vs) (PB.tyL pre.bs) x)=y:=(iQ (λq=>Ym (PV.tyL vs) (PB.tyL pre.bs) q (Pf (PV.tyL pre.vs) (PB.tyL pre.bs) x)) (tT (PV.tyL vs) (PB.tyL []) _ ()).symm).trans hzy;rw[<- heq]at c;have:=(ai2 (PV.tyL vs) (PB.tyL pre.bs) y0).symm.trans c
  grind
 .cases A
def eK.drop {e:gM} {h':a_} {rd wr W wr':Nat} (t:eK P k aa e h i u rd wr h' m) (hW:∀nx,aC W nx=J->(∀n,ow n=nx->erHF h' n=erHF h n)/\aC rd nx=J) (I:∀nx,aC wr nx=J->aC W nx=J\/aC wr' nx=J):eK P k aa e h i u rd wr' h' m:=by
 let⟨⟨f,h1,b,D,h4,h5,A⟩,r,nx,g,st⟩:=t;have hup:∀H:HF,(∀n∈f.wr,H n=erHF h n)->dZ H (f.wr.filter λn=> !(aC W (ow n))) f.nw=dZ H f.wr f.nw:=λH hH=>by
  funext n;unfold dZ;by_cases c:n∈f.wr
  .by_cases hb:aC W (ow n)=J
   .rw[aE (by grind),aR c];have:=congrFun D n;unfold dZ at this
    grind
   .grind
  .grind
 refine ⟨⟨⟨f.val,f.rd++(f.wr.filter λn=>aC W (ow n)),f.wr.filter λn=> !(aC W (ow n)),f.nw,f.N⟩,?_,b,?_,λn c=>?_,λn c=>?_,A⟩,r,nx,g,nofun⟩
 .intro φ E H w a hrd hwr hops hrep z;have k1:∀nx∈f.rd,H nx=erHF h nx:=λnx hi=>hrd nx (fQ _ hi)
  have k2:∀nx∈f.wr,H nx=erHF h nx:=λnx hi=>by grind
  have:=h1 φ E H w a k1 k2 hops hrep z
  grind
 .grind
 .grind
 .grind
mutual
def adt {n n':Nat} (hle:n<=n'):∀(v:TV),Gq n v=J->Gq n' v=J
 |.G id,h|.zp id _,h|.qr id _ _ _,h|.H id _,h|.qk id _ _,h|.mp id,h=>by simp[Gq,Mj]at h ⊢;omega
 |.agg l,h|.qb l,h|.qy _ l,h=>wM hle l h
 |.f _ _,_|.zw _ _ _ _ _,_|.emp,_|.nil,_|.undef,_|.np,_|.qv,_|.qh _ _,_=>rfl
 |.sb s,h=>by simp[Gq,Mj]at h ⊢;omega
def wM {n n':Nat} (hle:n<=n'):∀(l:Y TV),qa n l=J->qa n' l=J
 |[],_=>rfl
 |x::r,h=>by
  simp[qa,al]at h ⊢;exact⟨adt hle x h.1,wM hle r h.2⟩
end
def N9 {g g':Nat->Nat} {h:a_}:∀(bs:Y PB) (i:Nat) (x:(PB.tyL bs).den) (m:Nat),I7 bs=J->DZ g h i bs=Z (x,m)->∃l,pM g' bs x=Z l/\l! l=l! bs/\∀j,j<l! bs->∃ty p T xs,l[j]? =Z (Z (.F ty p T xs))/\h.get (g (i+j))=Z (.F ty p T xs)
 |[],i,x,m,_,c=>⟨[],rfl,rfl,λj A=>by simp at A⟩
 |.F ty p T::r,i,x,m,q,c=>by
  simp[DZ]at c;split at c
  .rename_i x1 m1 h1;split at c
   .rename_i D m2 h2;obtain⟨rfl,rfl⟩:=c;let⟨l,q1,I,q3⟩:=N9 (g:=g) (g':=g') (h:=h) r (i+1) D m2 q h2;simp only[CS]at h1;split at h1
    .rename_i ty' p' S xs hb;split at h1
     .rename_i hc;simp[al,cV]at hc;split at h1
      .rename_i z N;let⟨es,ez⟩:=gP N;refine ⟨Z (.F ty p T x1)::l,?_,by simp[I],λj A=>?_⟩
       .simp[pM];rw[tT,vx,q1];rfl
       .grind
      .cases h1
     .cases h1
    .cases h1
   .cases c
  .cases c
 |.qg _ _::r,i,x,m,q,c|.C _ _::r,i,x,m,q,c|.mp _ _::r,i,x,m,q,c|.qf::r,i,x,m,q,c=>by cases q
def Gn:∀{bs:Y PB},I7 bs=J->CG bs=J
 |[],_=>rfl
 |.F _ _ _::r,h=>Gn (bs:=r) h
 |.qg _ _::r,h|.C _ _::r,h|.mp _ _::r,h|.qf::r,h=>by cases h
def Gg {c:a_} :∀(n:Nat),(∀i,i<n->c.get (g i)=h.get (g i))->uk h c g n=J
 |0,_=>rfl
 |n+1,z=>by
  simp[uk,al];refine ⟨?_,Gg n λi hi=>z i (by omega)⟩;have:ep c (g n)=ep h (g n):=by rw[bH,bH,z n (by omega)]
  rw[this];cases ep h (g n) with
  |none=>rfl
  |some q=>let⟨p,s,k⟩:=q;simp
def EV (P:Program) (con:FuncId->M cu):Prop:=∀f c,con f=Z c->aN P (f%65536) c
def RC (hf:f<65536):∀l:Y TV,ah9 f l%65536=f
 |[]=>rn hf
 |x::r=>by
  have c:=RC hf r;unfold ah9;split
  next he=>cases he
  .rw[NA];exact rn hf
  .rw[NA];exact rn hf
  .rw[NA];exact rn hf
  next he=>cases he;exact c
variable {X:FuncId->M cu}
def aje (hcon:EV P X) {c:cu} (h:anh X f B=Z c):aN P f c:=by
 unfold anh at h;split at h
 .rename_i hf;have hf:=Q9 hf;split at h
  .rename_i z q;simp[af]at h;subst h;have:=hcon _ _ q
   rwa [RC hf]at this
  .have:=hcon _ _ h
   rwa [rn hf]at this
 .cases h
variable {R:Type}
def Y_ (hcon:EV P X) {e:gM} {K:KO R} {r:R} (hinv:gC h i) (z:Y' X f B h i K=Z r) (hla:cN h B=Z N)
 (hexec:∀(φ:PM) (E:Nat->Prop) (h':HF) (w:World) (a:Act),xl P f->(∀t,.tmp t∈k.op.operands->∀y,fB e h t=Z y->cm φ (tot E φ h') w y (a.tmps.getD t undef))->oM φ E h' w->∃us:ξ,(execOp a.eval k).run P w= .ok (.enter f us.toArray) w/\ik φ (tot E φ h') w N us):h_ P k aa e h i K r:=by
 unfold Y' at z;split at z
 .rename_i c hc;have spc:=aje hcon hc;split at z
  .rename_i x m σ sm hM;split at z
   .rename_i q hq;let⟨vs,hp⟩:=q;let⟨l1,I⟩:=wP hq;let⟨y,hy,z⟩:=dV z;split at z
    .rename_i q2 hq2;let⟨rs1,hq1⟩:=q2;let⟨l2,v⟩:=wP hq2;split at z
     .rename_i hcond;simp only[al]at hcond;have hle:=aW hcond.1;have sp:=spc.holds hcond.1;simp only at z;split at z
      .rename_i rs hrs;have hrs':=hrs;rw[t_,v.pv]at hrs';simp only[bw,af]at hrs';split at z
       next la=>simp only[al]at la;have hq0:=au la.1.2;refine ⟨_,_,_,_,_,z,?_⟩;rw[<- hrs'];exact ajj hinv sp (wJ hM) I hy v (by omega) hq0 la.2 _ hla λφ E h' w a=>hexec φ E h' w a sp.qd
       .split at z
        .rename_i h2 D;let⟨hsr,z⟩:=cB z;refine ⟨_,_,_,_,_,z,?_⟩;rw[<- hrs'];unfold NR at D;rw[wx,v.pb]at D;simp only[bw,af]at D;exact afc hinv sp (wJ hM) I hcond.2 hy v hle (λnx hi=>by
          have:db nx (l! c.pre.bs)=J:=bf hi;simp only[this,bo]) (λnx hi=>by
          have:db nx (l! c.pre.bs)=aa:=by
           cases la:db nx (l! c.pre.bs) with
           |false=>rfl
           |true=>have:=aW la;omega
          simp only[this];rfl) D.symm hsr hla λφ E h' w a=>hexec φ E h' w a sp.qd
        .cases z
      .cases z
     .rename_i hcond;split at z
      .rename_i hro;simp only[al]at hro;have hq0:=au hro.1;have hng:=Gn hro.2;have sp:pa P f c.full:=by
        unfold aN at spc
        rwa [aE (λla=>hcond (by rw[la,hng];rfl))]at spc
       simp only at z;split at z
       .rename_i rs hrs;split at z
        .rename_i h2 D;have hrs':=hrs;rw[t_,v.pv]at hrs';simp only[bw,af]at hrs';refine ⟨_,_,_,_,_,z,?_⟩;rw[<- hrs'];have A:=wJ hM;unfold NR at D;rw[wx,I.pb]at D;simp only[bw,af]at D;have hqe:∀nx,hq1.get nx=U:=λnx=>by
          cases la:hq1.get nx with
          |none=>rfl
          |some b=>have:=v.lt_len la;omega
         have J':nL c.full.post (Ym (PV.tyL c.post.vs) (PB.tyL c.pre.bs) (Qk _ _ y) (Pf _ _ x)) rs1 hp l1:=
          ⟨by show oO IV c.post.vs (Qk (PV.tyL c.post.vs) (PB.tyL c.pre.bs) _)=_;rw[tT];exact v.pv,by show pM IV c.pre.bs (Pf (PV.tyL c.post.vs) (PB.tyL c.pre.bs) _)=_;rw[vx];exact I.pb,I.len,I.at_,eS (λnx r hr=>by rw[bH,hqe]at hr;cases hr) _ v.ok,wM (by omega) _ v.lt,I.C,I.qw,I.nox⟩
         let⟨x1,m1,x2,m2,hx,hmm,gv,gb⟩:=A.ex;let⟨B,q1,q2,q3⟩:=N9 (g':=IV) c.pre.bs 0 x2 m2 hro.2 gb;have hl1:l1=B:=by
          have:=I.pb;rw[hx,vx,q1]at this;cases this;rfl
         subst hl1;have hgi:∀nx,nx<l! c.pre.bs->(if db nx (l! c.pre.bs) then gU σ nx else i+(nx-l! c.pre.bs))=gU σ nx:=λnx hi=>by simp_all
         have hsame:∀nx,nx<l! c.pre.bs->h2.get (gU σ nx)=h.get (gU σ nx):=λnx hi=>by
          let⟨ty,p,T,xs,w1,w2⟩:=q3 nx hi;rw[b6]at w2;have:=vF (λnx=>if db nx (l! c.pre.bs) then gU σ nx else i+(nx-l! c.pre.bs)) (l1.map (gS (kg (λnx=>if db nx (l! c.pre.bs) then gU σ nx else i+(nx-l! c.pre.bs))))) 0 (dI m h) (λa b ha la e=>by
           simp only[bN,q2]at ha la;rw[b6,b6,hgi a ha,hgi b la]at e;exact A.inj a b ha la e) nx (Z (.F ty p T xs)) (by rw[bM,w1];rfl)
          rw[b6,hgi nx hi]at this;rw[<- D,this,w2]
         have t:=afc (o:=k) (e:=e) hinv sp A I hng (y:=Ym (PV.tyL c.post.vs) (PB.tyL c.pre.bs) (Qk _ _ y) (Pf _ _ x)) (by show aw (c.m x) _=_;rw[hy];rfl) J' (bL _) (g:=λnx=>if db nx (l! c.pre.bs) then gU σ nx else i+(nx-l! c.pre.bs)) hgi (λnx hi=>by
          have:db nx (l! c.pre.bs)=aa:=by
           cases la:db nx (l! c.pre.bs) with
           |false=>rfl
           |true=>have:=aW la;have hi:l! c.pre.bs<=nx:=hi;omega
          simp only[this];rfl) D.symm (Gg _ λnx hi=>by rw[hgi nx hi];exact hsame nx hi) hla λφ E h' w a=>hexec φ E h' w a sp.qd
         have t':eK P k aa e h i (RM (kq (λnx=>if db nx (l! c.pre.bs) then gU σ nx else i+(nx-l! c.pre.bs)) rs1)) (sm|||m) (sm|||m|||(((1<<<(l! c.pre.bs-l! c.pre.bs))-1)<<<i)) h2 (i+(l! c.pre.bs-l! c.pre.bs)):=t;rw[Ix,dQ]at t';refine t'.drop (W:=sm) (λnx hi=>?_) (λnx hi=>?_)
         .refine ⟨?_,by rw[bj,hi];rfl⟩;obtain⟨o,z,rfl⟩:=(A.sig nx).1 hi;let⟨ty,p,T,xs,_,w2⟩:=q3 o z;rw[b6]at w2;intro n hn;unfold erHF;rw[hn,hsame o z,w2];cases ix n<;>rfl
         .grind
        .cases z
       .cases z
      .cases z
    .cases z
   .cases z
  .cases z
 .cases z
variable {W:TypeId->M Ty}
def am7 (hcon:EV P X) {e:gM} {nx:SI} {K:KO R} {r:R} (hinv:gC h i) (hi:rz e h) (F:o7 P k.op=nx) (D:d_ X W nx e h i K=Z r):h_ P k nx.still e h i K r:=by
 have callOps:∀(c:Call),k.op= .call c->∀x,x∈c.operands->x∈k.op.operands:=λc A x q=>by rw[A];exact q
 cases nx with
 |call f args=>
  simp[d_]at D;split at D
  .rename_i l hl;have A:∃c:Call,k.op= .call c/\c.callee= .value (.func f)/\c.args.toList=args:=by
    unfold o7 at F;split at F
    .rename_i nx hi;unfold AF at hi
     grind
    .grind
   let⟨c,A,h1,h2⟩:=A;let⟨N,g1,g2⟩:=Dt hi hl;refine Y_ hcon hinv D g2 λφ E h' w a hcb hops hrep=>?_
   have hp:OT φ E h' w a (Bk e h) k:=λx y q hy=>pq hrep (by rw[Bj];exact hops) q hy
   refine ⟨args.map a.eval,?_,FE hp args N (λx q=>callOps c A x (by simp[c9,h1,<-h2]at q ⊢;exact .inr q)) g1⟩;unfold execOp;rw[A];have hm:c.args.map a.eval=(args.map a.eval).toArray:=by grind
   simp[resolve,h1,Act.eval,vu,invoke,hm,nR hcb]
  .cases D
 |jr x args=>
  simp[d_]at D;split at D
  .rename_i f cap l q hl;have A:∃c:Call,k.op= .call c/\c.callee= .value x/\c.args.toList=args:=by
    unfold o7 at F;split at F
    .rename_i nx hi;unfold AF at hi
     grind
    .grind
   let⟨c,A,h1,h2⟩:=A;let⟨N,g1,g2⟩:=Dt hi hl;let⟨yx,g3,I⟩:=be hi q;simp[b7]at I;split at I
   .rename_i lc hlc;simp[af]at I;subst I;refine Y_ hcon hinv D (nI g2 hlc) λφ E h' w a hcb hops hrep=>?_
    have hp:OT φ E h' w a (Bk e h) k:=λx y q hy=>pq hrep (by rw[Bj];exact hops) q hy
    have hxv:=hp x _ (callOps c A x (by simp[c9,h1])) g3;have hlv:=FE hp args N (λx q=>callOps c A x (by simp[c9,h1,<-h2]at q ⊢;exact .inr q)) g1;generalize hz:a.eval x=z at hxv;cases hxv with
    |@qy _ _ vs hvl hvr=>
     refine ⟨args.map a.eval++vs,?_,hlv.append (ik.of hvl hvr)⟩;unfold execOp;rw[A];have hm:c.args.map a.eval=(args.map a.eval).toArray:=by grind
     simp[resolve,h1,hz,vu,invoke,hm,nR hcb]
   .cases I
  .cases D
 |op s=>
  have F:s= .zh\/cP P k.op=Z s:=by
   unfold o7 at F;split at F
   .rename_i nx hi;unfold AF at hi
    grind
   .grind
  rcases F with rfl|F
  .simp[d_]at D
  .exact K_op hinv hi F D
def F_op {e:gM} {s:Np} {K:KO R} {r:R} (hinv:gC h i) (hi:rz e h) (A:cP P k.op=Z s) (q:oE W e h i K s=Z r):h_ P k s.still e h i K r:=by
 cases s with
 |load sz D x=>exact apl hinv hi A q
 |store sz x v=>exact aks hinv hi A q
 |zr x=>exact apj hinv hi A q
 |jm off x=>exact atn hinv hi A q
 |jp sz x nx=>exact atm hinv hi A q
 |jb str ok z x o=>exact atk hinv hi A q
 |jf str x o v=>exact ati hinv hi A q
 |app ty sz bytes s x=>exact atp hinv hi A q
 |zf ty sz bytes z l c=>exact apk hinv hi A q
 |jq neg x=>exact apm hinv hi A q
 |lkq ds z x o=>
  have hd:ds=i2:=by
   unfold oE at q
   grind
  subst hd;exact atl hinv hi A q
 |mpq ds x o v=>
  have hd:ds=i2:=by
   unfold oE at q
   grind
  subst hd;exact atj hinv hi A q
 |dlq ds x o=>
  have hd:ds=i2:=by
   unfold oE at q
   grind
  subst hd;exact ato hinv hi A q
 |_=>exact bO q (by simp[oE])
def aqd (hcon:EV P X) {e:gM} {nx:SI} {K:KO R} {r:R} (hinv:gC h i) (hi:rz e h) (q:o7 P k.op=nx) (c:opK X W nx e h i K=Z r):h_ P k nx.still e h i K r:=by
 unfold opK at c;split at c
 .split at c
  .rename_i s _;have q:s= .zh\/cP P k.op=Z s:=by
    unfold o7 at q;split at q
    .rename_i nx hi;unfold AF at hi
     grind
    .grind
   rcases q with rfl|q
   .simp[oE]at c
   .exact F_op hinv hi q c
  .cases c
 .exact am7 hcon hinv hi q c
def fA (am:Nat) (e q:gM):Prop:=∀k,aC am k=aa->∀c,q.get k=Z c->∃v,e.get k=Z v/\(uI v=J->c=v)
def fA.refl (am:Nat) (e:gM):fA am e e:=λ_ _ c h=>⟨c,h,λ_=>rfl⟩
def fA.trans {a b c:gM} (h1:fA i a b) (D:fA i b c):fA i a c:=λk q z A=>by
 let⟨v1,F,g2⟩:=D k q z A;let⟨v,N,I⟩:=h1 k q v1 F
 grind
def fA.mono {a b:gM} (h:fA i a b) (hm:∀k,aC i k=J->aC m k=J):fA m a b:=λk c=>h k (by
 cases q:aC i k with
 |false=>rfl
 |true=>rw[hm k q]at c;cases c)
structure ag1 (P:Program) (ops:Array Oper) (rest:List Oper) (sl:List o9) (am:Nat) (s s':TS) (fs:List Vi) (l:List (Oper×zD)):Prop where
 jy:l.map (·.1)=rest
 chain:yP P ops l (fB s.e s.h) (erHF s.h) (fB s'.e s'.h) (erHF s'.h)
 fsl:l! fs=l! l
 jd:l! sl=l! l
 fp:∀(j:Nat) o f q,l[j]? =Z (o,f)->fs[j]? =Z q->(∀n∈f.rd,aC q.rd (ow n)=J)/\∀n∈f.wr,aC q.wr (ow n)=J
 still:∀(j:Nat) o f so,l[j]? =Z (o,f)->sl[j]? =Z so->so.op.still=J->f.rd=[]/\f.wr=[]
 names:∀(j:Nat) o f,l[j]? =Z (o,f)->∀n∈f.N,s.nx<=ow n/\ow n<s'.nx
 jz:∀(i j:Nat) oi fi oj fj,i<j->l[i]? =Z (oi,fi)->l[j]? =Z (oj,fj)->∀n∈fi.N,n∉fj.N
 zd:s.nx<=s'.nx
 qz:gC s'.h s'.nx
 qp:rz s'.e s'.h
 keeps:fA am s.e s'.e
def ahh {e:gM} {h':a_} (hi:rz e h) (q:b8 h h') (d:M Nat) (A:b7 h' u=Z y):Do (fB e h) d y=fB (E_ e d u) h':=by
 funext t;have old:(e.get t).bind (b7 h)=(e.get t).bind (b7 h'):=by
  cases ht:e.get t with
  |none=>rfl
  |some x=>
   let⟨z,c⟩:=oA h x (hi t x ht);simp[aB,c,fm q x z c]
 cases d with
 |none=>simp[Do,E_,fB];exact old
 |some d=>
  simp[Do,E_,fB,PT.get_set,af]
  grind
def rz.put {e:gM} {h':a_} (hi:rz e h) (q:b8 h h') (d:M Nat) (z:Mv h' u=J):rz (E_ e d u) h':=λt x c=>by
 cases d with
 |none=>exact l9 q x (hi t x c)
 |some d=>
  simp[E_,PT.get_set]at c;split at c
  .cases c;exact z
  .exact l9 q x (hi t x c)
def Tt {e:gM} (ht:e.get i=Z u):fB (e.set i (Z u)) h=fB e h:=by
 funext k;simp[fB,PT.get_set]
 grind
def rz.set {e:gM} (hi:rz e h) (ht:e.get i=Z u):rz (e.set i (Z u)) h:=λk x c=>by
 rw[PT.get_set]at c;split at c
 next q=>cases c;exact hi _ _ ht
 .exact hi k x c
def VM {e:gM} {g:M (Nat×Bool)} {K:Bool->gM->M R} {r:R} (h:ac8 e g K=Z r):
 (g=U/\K J e=Z r)\/(∃t want b,g=Z (t,want)/\e.get t=Z (.f .bool b)/\K (b==want) (e.set t (Z (.f .bool b)))=Z r)\/∃t want,g=Z (t,want)/\e.get t=Z .undef/\K aa e=Z r:=by
 unfold ac8 at h;split at h
 .exact .inl ⟨rfl,h⟩
 .rename_i t want;split at h
  .rename_i b c;refine .inr (.inl ⟨t,want,b,rfl,c,?_⟩);cases want with
   |_=>rcases kK h with ⟨rfl,h⟩|⟨rfl,h⟩<;>exact h
  .grind
  .cases h
variable {L:Array Oper}
def Jv (hcon:EV P X) (ham:∀(j:Nat) (o:Oper) (d:Nat),L[j]? =Z o->o.dst=Z d->aC i d=J):
 ∀(rest:Y Oper) (sl:Y o9) (s:TS) (D:Y Vi) (K:TS->Y Vi->M R) (r:R),(∀o∈rest,∃j:Nat,L[j]? =Z o)->mL P L rest=Z sl->Mt X W sl s D K=Z r->gC s.h s.nx->rz s.e s.h->∃s' fs' l,K s' (D.reverse++fs')=Z r/\ag1 P L rest sl i s s' fs' l
 |[],sl,s,D,K,r,hin,hc,c,hH,hE=>by
  simp only[mL,af]at hc;subst hc;simp only[Mt]at c;exact⟨s,[],[],by simpa using c,rfl,.nil _ _,rfl,rfl,by simp,by simp,by simp,by simp,bL _,hH,hE,fA.refl _ _⟩
 |o::rest,sl,s,D,K,r,hin,hc,c,hH,hE=>by
  simp only[mL]at hc;split at hc
  .rename_i sl' hsl';have hso:∃g,sl=⟨o.dst,o7 P o.op,g⟩::sl'/\((g=U/\o.guard=U)\/∃j want t,g=Z (t,want)/\o.guard=Z (j,want)/\(L[j]?).bind (·.dst)=Z t):=by grind
   obtain⟨g,rfl,hg⟩:=hso;simp only[Mt]at c;have hdst:∀d,o.dst=Z d->aC i d=J:=λd hd=>by
    let⟨j,hj⟩:=hin o (cS ..);exact ham j o d hj hd
   have hgs:∀t want,g=Z (t,want)->aC i t=J:=λt want hgt=>by grind
   have kput:∀(e:gM) (v:TV),fA i s.e e->fA i s.e (E_ e o.dst v):=λe v hke k c v' A=>by
    cases hd:o.dst with
    |none=>rw[hd]at A;exact hke k c v' A
    |some d=>
     rw[hd]at A;simp only[E_,PT.get_set]at A;split at A
     next e2=>rw[e2,hdst d hd]at c;cases c
     .exact hke k c v' A
   have done:∀(f:zD) (v:TV) (h':a_) (nx' rd wr:Nat) (e:gM),fB e s.h=fB s.e s.h->rz e s.h->fA i s.e e->F5 P L o f (fB s.e s.h) (erHF s.h)->(∃y,b7 h' v=Z y/\f.val=y)->dZ (erHF s.h) f.wr f.nw=erHF h'->(∀n∈f.rd,aC rd (ow n)=J)->(∀n∈f.wr,aC wr (ow n)=J)->(∀n∈f.N,s.nx<=ow n/\ow n<nx')->b8 s.h h'->gC h' nx'->s.nx<=nx'->((o7 P o.op).still=J->f.rd=[]/\f.wr=[])->
    Mt X W sl' ⟨E_ e o.dst v,h',nx'⟩ (⟨rd,wr⟩::D) K=Z r->∃s' fs' l,K s' (D.reverse++fs')=Z r/\ag1 P L (o::rest) (⟨o.dst,o7 P o.op,g⟩::sl') i s s' fs' l:=by
    intro f v h' nx' rd wr e hee hiE hke hst hval hheap hrd hwr hN hrows hinv' hgr hstill hrun;let⟨y,hy1,hy2⟩:=hval;let⟨s',fs',l,hK,ops⟩:=Jv hcon ham rest sl' _ _ K r (λo' ho'=>hin o' (cq _ ho')) hsl' hrun hinv' (hiE.put hrows o.dst (FG _ _ _ hy1));have hg2:nx'<=s'.nx:=ops.zd;refine ⟨s',⟨rd,wr⟩::fs',(o,f)::l,by simpa using hK,by simp[ops.jy],.cons hst ?_,by simp[ops.fsl],by simp[ops.jd],?_,?_,?_,?_,cA hgr hg2,ops.qz,ops.qp,(kput e v hke).trans ops.keeps⟩
    .have e1:Do (fB s.e s.h) o.dst f.val=fB (E_ e o.dst v) h':=by rw[<- hee,hy2];exact ahh hiE hrows o.dst hy1
     rw[e1,hheap];exact ops.chain
    .intro j o' f' q' h1 z;cases j with
     |zero=>simp at h1 z;obtain⟨rfl,rfl⟩:=h1;subst z;exact⟨hrd,hwr⟩
     |succ j=>exact ops.fp j o' f' q' (by simpa using h1) (by simpa using z)
    .intro j o' f' so h1 z I;cases j with
     |zero=>simp at h1 z;obtain⟨rfl,rfl⟩:=h1;subst z;exact hstill I
     |succ j=>exact ops.still j o' f' so (by simpa using h1) (by simpa using z) I
    .intro j o' f' h1 n hn;cases j with
     |zero=>
      simp at h1;obtain⟨rfl,rfl⟩:=h1;have:=hN n hn;exact⟨this.1,by omega⟩
     |succ j=>
      have:=ops.names j o' f' (by simpa using h1) n hn;exact⟨cA hgr this.1,this.2⟩
    .intro am j oi fi oj fj hij h1 z n hn hn';cases j with
     |zero=>omega
     |succ j=>
      have hj:=ops.names j oj fj (by simpa using z) n hn';cases am with
      |zero=>
       simp at h1;obtain⟨rfl,rfl⟩:=h1;have I:=(hN n hn).2;have h4:nx'<=ow n:=hj.1;omega
      |succ am=>exact ops.jz am j oi fi oj fj (by omega) (by simpa using h1) (by simpa using z) n hn hn'
   have runs:∀(e:gM),fB e s.h=fB s.e s.h->rz e s.h->fA i s.e e->(∀f,ft P o (fB s.e s.h) (erHF s.h) f->F5 P L o f (fB s.e s.h) (erHF s.h))->opK X W (o7 P o.op) e s.h s.nx (λv rd wr h nx=>if Mv h v then Mt X W sl' ⟨E_ e o.dst v,h,nx⟩ (⟨rd,wr⟩::D) K else U)=Z r->∃s' fs' l,K s' (D.reverse++fs')=Z r/\ag1 P L (o::rest) (⟨o.dst,o7 P o.op,g⟩::sl') i s s' fs' l:=by
    intro e hee hiE hke hstep c;let⟨v,rd,wr,h',nx',hK,T⟩:=aqd hcon hH hiE rfl c;simp only[]at hK;split at hK
    .rename_i hok;let⟨f,t1,t2,t3,t4,t5,t6⟩:=T.ex;rw[hee]at t1;let⟨y,hy⟩:=oA h' v hok;refine done f v h' nx' rd wr e hee hiE hke (hstep f t1) ⟨y,hy,t2 y hy⟩ t3 t4 t5 t6 T.F T.inv T.zd (λhs=>?_) hK;let⟨r0,w0⟩:=T.st hs;subst r0 w0;constructor
     .cases hl:f.rd with
      |nil=>rfl
      |cons n q=>have:=t4 n (by rw[hl];simp);simp at this
     .cases hl:f.wr with
      |nil=>rfl
      |cons n q=>have:=t5 n (by rw[hl];simp);simp at this
    .cases hK
   have skips:∀(e:gM),fB e s.h=fB s.e s.h->rz e s.h->fA i s.e e->F5 P L o lN (fB s.e s.h) (erHF s.h)->Mt X W sl' ⟨E_ e o.dst .undef,s.h,s.nx⟩ (⟨0,0⟩::D) K=Z r->∃s' fs' l,K s' (D.reverse++fs')=Z r/\ag1 P L (o::rest) (⟨o.dst,o7 P o.op,g⟩::sl') i s s' fs' l:=by
    intro e hee hiE hke hstep c;exact done lN .undef s.h s.nx 0 0 e hee hiE hke hstep ⟨_,rfl,rfl⟩ (by funext am;simp[dZ,lN]) (by simp[lN]) (by simp[lN]) (by simp[lN]) (b8.refl _) hH (bL _) (λ_=>⟨rfl,rfl⟩) c
   rcases VM c with ⟨h1,c⟩|⟨t,want,b,h1,hb,c⟩|⟨t,want,h1,hb,c⟩
   .refine runs s.e rfl hE (fA.refl _ _) (λf hf=>?_) c;rcases hg with ⟨_,hg⟩|⟨j,want,t,z,_,_⟩
    .exact .run hg hf
    .rw[h1]at z;cases z
   .rcases hg with ⟨z,_⟩|⟨j,want',t',z,I,h4⟩
    .rw[h1]at z;cases z
    .rw[h1]at z;cases z;have hgt:=hgs t want h1;have heb:fB s.e s.h t=Z (.f (.raw (.bool b))):=by simp only[fB,hb,aB,b7];rfl
     have hke:fA i s.e (s.e.set t (Z (.f .bool b))):=λk c v' A=>by
      rw[PT.get_set]at A;split at A
      next ek=>rw[ek,hgt]at c;cases c
      .exact⟨v',A,λ_=>rfl⟩
     cases hbw:(b==want) with
     |true=>
      rw[hbw]at c;have:b=want:=by simpa using hbw
      subst this;exact runs _ (Tt hb) (hE.set hb) hke (λf hf=>.runG j t b I h4 heb hf) c
     |false=>
      rw[hbw]at c;refine skips _ (Tt hb) (hE.set hb) hke (.skip j t want I h4 (.bool b) heb ?_ rfl) c;intro A;cases A;simp at hbw
   .rcases hg with ⟨z,_⟩|⟨j,want',t',z,I,h4⟩
    .rw[h1]at z;cases z
    .rw[h1]at z;cases z;exact skips _ rfl hE (fA.refl _ _) (.skip j t want I h4 undef (by simp only[fB,hb,aB,b7]) (by unfold undef;simp) rfl) c
  .cases hc
variable {e:TS}
def ahx {sl:Y o9} {s':TS} {I:Y Vi} {l:Y u!} {prs:Y n!} (q:ag1 P L L.toList sl i e s' I l) (hp:Dq L sl=Z prs) (hok:zL I prs=J):NIP L l:=by
 unfold Dq at hp;simp only[]at hp;split at hp
 .rename_i hall;simp only[dq,nM,al]at hall;simp only[af]at hp;have hop:∀(j:Nat) o f,l[j]? =Z (o,f)->L[j]? =Z o:=λj o f z=>by
   have h1:(l.map (·.1))[j]? =Z o:=by rw[bM,z];rfl
   rw[q.jy]at h1;simpa using h1
  have hsize:∀(j:Nat) o,L[j]? =Z o->j<L.size:=λj o h=>(cR.1 h).1
  have hprs:∀am j,(am,j)∈prs->∃a b,I[am]? =Z a/\I[j]? =Z b/\Ax a.wr b.rd=J/\Ax a.wr b.wr=J/\Ax b.wr a.rd=J:=by
   clear hp hall;induction prs with
   |nil=>intro am j h;cases h
   |cons p prs ih=>
    let⟨i0,j0⟩:=p;simp only[zL,al,Qm]at hok
    grind
  refine ⟨λj o ho s he hb=>?_,λam j N fi F fj hij hi z=>?_,q.jz⟩
  .grind
  .have h1:=hop am N fi hi;have h2:=hop j F fj z;have hcase:=(hall j (hsize j F h2)).2 am hij;rw[h1,h2]at hcase;simp only[eX]at hcase;by_cases D:aC ((CZ L.toList []).getD j 0) am=J
   .left;rw[aT]at D;cases A:(CZ L.toList [])[j]? with
    |none=>rw[A]at D;simp at D
    |some B=>
     rw[A]at D;exact F0 (ops:=L) L.toList [] (λj o z=>by simpa using z) (λj B z=>by simp at z) j B A am (by simpa using D)
   .right;have hap:=hcase.resolve_left D;refine ⟨hap,?_⟩;have hil:am<l! l:=(bm.1 hi).1;have hjl:j<l! l:=(bm.1 z).1;have hsi:=aH (show am<l! sl by rw[q.jd];exact hil);have hsj:=aH (show j<l! sl by rw[q.jd];exact hjl);by_cases hst:(sl[am]'(by rw[q.jd];exact hil)).op.still=J
    .obtain⟨q1,q2⟩:=q.still am N fi _ hi hsi hst
     grind
    .by_cases hst2:(sl[j]'(by rw[q.jd];exact hjl)).op.still=J
     .obtain⟨q1,q2⟩:=q.still j F fj _ z hsj hst2
      grind
     .have hmem:(am,j)∈prs:=by
       rw[<- hp,kN];refine ⟨j,nM.2 (hsize j F h2),?_⟩
       grind
      let⟨a,b,ha,hb,d1,d2,d3⟩:=hprs am j hmem;let⟨f1,f2⟩:=q.fp am N fi a hi ha;let⟨g1,g2⟩:=q.fp j F fj b z hb;refine ⟨λx A=>⟨λc=>?_,λc=>?_⟩,λx A c=>?_⟩
      .have:=pH d1 (ow x) (f2 x A);rw[g1 x c]at this;cases this
      .have:=pH d2 (ow x) (f2 x A);rw[g2 x c]at this;cases this
      .have:=pH d3 (ow x) (g2 x A);rw[f1 x c]at this;cases this
 .cases hp
structure iI (P:Program) (E:Nat->Prop) (nt np:Nat) (φ:PM) (s:TS) (a:Act) (w:World):Prop where
 zq:oM φ E (erHF s.h) w
 env:Mf φ (tot E φ (erHF s.h)) w (fB s.e s.h) a
 dom:∀n k,φ n=Z k->ow n<s.nx
 low:np<=s.nx
 qz:gC s.h s.nx
 qp:rz s.e s.h
 inert:∀d∈a.defers,Vf P d
 size:a.tmps.size=nt
structure vT (np:Nat) (φ φ':PM) (H H':HF) (w w':World):Prop where
 ext:C5 (own φ H) w w'
 qn:∀k,k<w.heap.size->own φ' H' k->own φ H k
 par:∀n,ow n<np->φ' n=φ n
def vT.refl (np:Nat) (φ:PM) (H:HF) (w:World):vT np φ φ H H w w:=⟨C5.refl _ _,λ_ _ h=>h,λ_ _=>rfl⟩
def vT.trans {φ' φ'':PM} {H' H'':HF} {w' w'':World} (a:vT i V φ' S H' w w') (b:vT i φ' φ'' H' H'' w' w''):vT i V φ'' S H'' w w'' where
 ext:=⟨b.ext.os.trans a.ext.os,b.ext.tape.trans a.ext.tape,b.ext.output.trans a.ext.output,cA a.ext.size b.ext.size,
  λk c q=>(b.ext.jg k (dj c a.ext.size) (λh=>q (a.qn k c h))).trans (a.ext.jg k c q),
  λk c=>(b.ext.jl k (dj c a.ext.size)).trans (a.ext.jl k c)⟩
 qn:=λk c h=>a.qn k c (b.qn k (dj c a.ext.size) h)
 par:=λnp hi=>(b.par np hi).trans (a.par np hi)
variable {Q:Act} {b:Bool}
def acz (hm:P.follows .mixedOrders=J) (hcon:EV P X) (c:iI P O i m V e Q w) {id:Nat} {sl:Y o9} {prs:Y n!} {am:Nat} (ham:∀(j:Nat) (o:Oper) (d:Nat),L[j]? =Z o->o.dst=Z d->aC am d=J)
 (hd:(L.toList.all λo=>match o.dst with|some d=>decide (d<i)|none=>J)=J) (hc:mL P L L.toList=Z sl) (hp:Dq L sl=Z prs) {K:TS->M R} {r:R} (hr:Mt X W sl e [] (λs' fs=>if zL fs prs then K s' else U)=Z r) {a:Exit->Act->World->Prop}
 (hQ:∀F w' s' φ',K s'=Z r->iI P O i m φ' s' F w'->vT m V φ' (erHF e.h) (erHF s'.h) w w'->fA am e.e s'.e->a .normal F w'):(Code.region id L b).wp P a Q w:=by
 let⟨s',fs',l,D,ops⟩:=Jv hcon ham L.toList sl e [] _ r (λo ho=>by
  let⟨j,A⟩:=eA ho;exact⟨j,by simpa using A⟩) hc hr c.qz c.qp
 have D:(if zL fs' prs then K s' else U)=Z r:=D;by_cases hok:zL fs' prs=J
 .rw[aR hok]at D;refine Gi (φ0:=V) (E:=O) hm ops.jy ops.chain (ahx ops hp hok) ?_ ?_ c.zq c.env ?_
  .intro n z;let⟨p,q,z⟩:=kN.1 z;let⟨j,A⟩:=eA q;have:=ops.names j p.1 p.2 A n z;cases I:V n with
   |none=>rfl
   |some k=>have:=c.dom n k I;omega
  .intro j o ho d N;have:=dq.1 hd o (by grind);rw[N]at this;rw[c.size];simpa using this
  .rintro F w' ⟨φ',m',d',r',en',df',sz'⟩;have hnm:∀n k,φ' n=Z k->V n=Z k\/(e.nx<=ow n/\ow n<s'.nx):=λn k hik=>by
    rcases d' n k hik with h|h
    .exact .inl h
    .obtain⟨p,q,z⟩:=kN.1 h;let⟨j,A⟩:=eA q;exact .inr (ops.names j p.1 p.2 A n z)
   have hg:=ops.zd;have hlow:=c.low;refine hQ F w' s' φ' D ⟨r',en',λn k hik=>?_,by omega,ops.qz,ops.qp,by rw[df'];exact c.inert,by rw[sz'];exact c.size⟩ ⟨m'.ext,m'.qn,λnt hi=>?_⟩ ops.keeps
   .rcases hnm n k hik with h|h
    .have:=c.dom n k h;omega
    .exact h.2
   .cases I:V nt with
    |some k=>exact m'.sub _ _ I
    |none=>
     cases hy:φ' nt with
     |none=>rfl
     |some k=>grind
 .grind
section ren
variable {P:Program} {E:Nat->Prop} {nt np:Nat}
def IH (c:iI P E nt np V e Q w) (src:Nat->Nat) (hsrc:∀n,ow n≠e.nx->src n=n) (hr:b8 e.h h) (hinv:gC h (e.nx+1))
 (F:∀n b',erHF h n=Z b'->∃b,erHF e.h (src n)=Z b/\∀(φ':PM) (O':Nat->Prop),(∀n,φ' n=V (src n))->(∀x v,cm V (tot E V (erHF e.h)) w x v->cm φ' O' w x v)->∀o,gQ V (tot E V (erHF e.h)) w b o->gQ φ' O' w b' o)
 (inj:∀n m b b',erHF h n=Z b->erHF h m=Z b'->src n=src m->n=m):∃φ',iI P E nt np φ' ⟨e.e,h,e.nx+1⟩ Q w/\vT np V φ' (erHF e.h) (erHF h) w w:=by
 have sub:∀n k,V n=Z k->V (src n)=Z k:=λn k A=>by
  have:=c.dom n k A
  grind
 have own_:∀k,own (λn=>V (src n)) (erHF h) k->own V (erHF e.h) k:=by
  rintro k ⟨i,b,h1,I⟩;let⟨b0,h3,_⟩:=F i b h1;exact⟨src i,b0,h3,I⟩
 have tot_:∀k,tot E (λn=>V (src n)) (erHF h) k->tot E V (erHF e.h) k:=λk A=>A.imp id (own_ k)
 have keep:∀x v,cm V (tot E V (erHF e.h)) w x v->cm (λn=>V (src n)) (tot E (λn=>V (src n)) (erHF h)) w x v:=λx v h'=>h'.ext sub (C5.refl _ w) λk _ A=>tot_ k A
 refine ⟨λn=>V (src n),⟨⟨λi j b b' k h1 I h3 h4=>?_,λn b' hb=>?_,c.zq.el,λg cells hg=>(c.zq.gl g cells hg).ext (C5.refl _ w) λk _ A=>tot_ k A⟩,λt x D=>?_,λn k A=>?_,fJ c.low,hinv,λt x D=>l9 hr x (c.qp t x D),c.inert,c.size⟩,⟨C5.refl _ _,λk _ A=>own_ k A,λn hn=>?_⟩⟩
 .obtain⟨b0,q1,_⟩:=F i b h1;let⟨b1,N,_⟩:=F j b' I;exact inj i j b b' h1 I (c.zq.inj _ _ b0 b1 k q1 N h3 h4)
 .obtain⟨b,q1,N⟩:=F n b' hb;let⟨k,p1,p2,o,p3,p4⟩:=c.zq.at_ _ b q1;exact⟨k,p1,p2,o,p3,N _ _ (λ_=>rfl) keep o p4⟩
 .simp[fB]at D;cases he:e.e.get t with
  |none=>rw[he]at D;cases D
  |some q=>
   rw[he]at D;let⟨z,hz⟩:=oA e.h q (c.qp t q he);simp[aB,fm hr q z hz,af]at D;subst D;exact keep _ _ (c.env t _ (by simp[fB,he,aB,hz]))
 .have A:V (src n)=Z k:=A;by_cases s:ow n=e.nx
  .grind
  .rw[hsrc n s]at A;have:=c.dom n k A
   grind
 .have:=c.low
  grind
def wA {φ':PM} {O':Nat->Prop} {l':Y AV} {o:Obj} (hlen:l! l'=l! N) (q:∀(j:Nat) x',l'[j]? =Z x'->x'.isCell=J/\∃x,N[j]? =Z x/\∀v,cm V O w x v->cm φ' O' w x' v) (h:gQ V O w ⟨s,.mx N⟩ o):gQ φ' O' w ⟨s,.mx l'⟩ o:=by
 let⟨arr,h1,A,z⟩:=h;refine ⟨arr,h1,by simp[BC.len]at A ⊢;omega,λj x' c=>?_⟩;let⟨p1,x,p2,p3⟩:=q j x' c;let⟨_,v,p4,p5⟩:=z j x p2;exact⟨p1,v,p4,p3 v p5⟩
def Jz {φ':PM} {O':Nat->Prop} {l l':Y k?} {o:Obj} (q:l'.map (·.1)=l.map (·.1)) (A:∀(j:Nat) x',l'[j]? =Z x'->∃x,l[j]? =Z x/\x.1=x'.1/\∀v,cm V O w x.2 v->cm φ' O' w x'.2 v) (h:gQ V O w ⟨0,.mp l⟩ o):gQ φ' O' w ⟨0,.mp l'⟩ o:=by
 let⟨ents,clock,h1,c,D⟩:=h;refine ⟨ents,clock,h1,?_,λj x' z=>?_⟩
 .unfold MpK at c ⊢;rw[q];exact c
 .grind
def Zv (n:Nat) (j:Int):(shf n j).toNat=if j.toNat<n then j.toNat else j.toNat+1:=by
 unfold shf;by_cases h:j.toNat<n
 .simp_all
 .rw[aE h,aE (λe=>h (Q9 e))];rfl
def sY (nx a p m1 m2 len n:Nat):Nat:=if ow n=nx then (match ix n with
 |0=>n
 |k+1=>if k/3<len then iM a (k+1) else if k/3=len then (if k%3=0 then nm p else if k%3=1 then nm m1 else nm m2) else iM a (k+1-3)) else n
def wu (nx a p m1 m2 len k:Nat):sY nx a p m1 m2 len (iM nx (k+1))=if k/3<len then iM a (k+1) else if k/3=len then (if k%3=0 then nm p else if k%3=1 then nm m1 else nm m2) else iM a (k+1-3):=by
 unfold sY;rw[im,uH,aR rfl]
def X9 {p m1 m2 len k:Nat} (h:k/3<len):sY i m p m1 m2 len (iM i (k+1))=iM m (k+1):=by rw[wu,aR h]
def Jh (nx a p m1 m2 len:Nat) (j:Int):sY nx a p m1 m2 len (oP nx (shf len j))=oP a j:=by
 unfold oP;rw[wu,Zv]
 grind
def Yp {e:Y c!} (hm:ai3 (h.get i)=Z e):erHF h (nm i)=Z ⟨0,.mp (Fh e)⟩/\∃K V es,h.get i=Z (.mp K V es):=by
 unfold ai3 at hm;split at hm
 next es c=>simp[af]at hm;subst hm;exact⟨by rw[bU,c];rfl,_,_,_,c⟩
 next c=>simp[af]at hm;subst hm;exact⟨by rw[bU,c];rfl,_,_,_,c⟩
 .cases hm
def EnR (R:AV->AV->Prop):Y k?->Y k?->Prop
 |[],[]=>True
 |x::l,y::l'=>x.1=y.1/\R x.2 y.2/\EnR R l l'
 |_,_=>False
def EnR.get {R:AV->AV->Prop}:∀{l l':Y k?},EnR R l l'->l'.map (·.1)=l.map (·.1)/\∀(j:Nat) x',l'[j]? =Z x'->∃x,l[j]? =Z x/\x.1=x'.1/\R x.2 x'.2
 |[],[],_=>⟨rfl,λj x' c=>by simp at c⟩
 |[],_::_,h|_::_,[],h=>h.elim
 |x::l,y::l',h=>by
  let⟨q1,q⟩:=EnR.get h.2.2;refine ⟨by simp[b5,q1,h.1],λj x' c=>?_⟩;cases j with
  |zero=>simp[gJ,af]at c;subst c;exact⟨x,rfl,h.1,h.2.1⟩
  |succ j=>exact q j x' c
def KI {R:AV->AV->Prop} {a nx len:Nat} (c:∀j,R (.H (oP a j) 0) (.H (oP nx (shf len j)) 0)):∀es:Y r?,EnR R (vk a es) (vk nx (Zw len es))
 |[]=>trivial
 |e::r=>⟨rfl,c e.2,KI c r⟩
def Tx {R:AV->AV->Prop} {a nx len:Nat} (z:∀j,R (.H (oP a j) 0) (.H (oP nx (shf len j)) 0)) {v:AV} (q:R v (.H (oP nx (bC len)) 0)) (k:ν):∀es:Y r?,EnR R (KH a k v es) (vk nx (ZJ k (bC len) (Zw len es)))
 |[]=>⟨rfl,q,trivial⟩
 |e::r=>by
  have A:=Tx z q k r;show EnR R (KH a k v (e::r)) (vk nx (ZJ k (bC len) ((e.1,shf len e.2)::Zw len r)));simp[KH,ZJ];by_cases c:k=e.1
  .rw[aR c,IR.2 c];exact⟨rfl,q,KI z r⟩
  .rw[aE c];cases D:keq k e.1 with
   |true=>exact bO (IR.1 D) c
   |false=>exact⟨rfl,z e.2,A⟩
def A_ {φ':PM} {O':Nat->Prop} {off:Nat} (h:φ' m=V i) (q:cm V O w (.H i off) v):cm φ' O' w (.H m off) v:=by
 cases q with
 |H z=>exact .H (h.trans z)
def Pz {φ':PM} {O':Nat->Prop} (h:φ' m=V i) (q:cm V O w (.mp i) v):cm φ' O' w (.mp m) v:=by
 cases q with
 |mp z=>exact .mp (h.trans z)
def IF {φ':PM} {O':Nat->Prop} {c sz:Nat} (h:φ' c=V i) (q:cm V O w (.G i sz m) v):cm φ' O' w (.G c sz m) v:=by
 cases q with
 |G z h1 D A=>exact .G (h.trans z) h1 D A
def acw (a n len:Nat) (B:eC):hZ (rnF a n len B)=hZ B:=by
 cases B with
 |qw F b x=>
  simp[rnF];split
  .cases F with
   |zk ty=>
    show Z (J,1,ah (gD (shf len) (x:η)))=Z (J,1,ah (α:=Int) x)
    grind
   |_=>rfl
  .rfl
 |_=>rfl
def v_ (φ:PM) (O:Nat->Prop) (w:World) (src:Nat->Nat) (b b':jI):Prop:=∀(φ':PM) (O':Nat->Prop),(∀n,φ' n=φ (src n))->(∀x v,cm φ O w x v->cm φ' O' w x v)->∀o,gQ φ O w b o->gQ φ' O' w b' o
def v_.refl (b:jI):v_ V O w g b b:=λ_ _ _ keep _ h=>h.mono keep
def To {k:Nat} {ob:AM T} (h1:k%3=0->g (iM i (k+2))=iM m (k+2)) (N:k%3=0->g (iM i (k+3))=iM m (k+3)):v_ V O w g (uR m k s T ob) (uR i k s T ob):=by
 intro φ' O' hφ keep D hoo;unfold uR at hoo ⊢;by_cases A:k%3=0
 .rw[aR A]at hoo ⊢;refine wA (by simp) (λj x' c=>?_) hoo;by_cases I:j<l! (bP T ob.1)
  .rw[cE (by grind)]at c ⊢;refine ⟨?_,x',c,λv z=>keep _ _ z⟩;obtain⟨y,F,rfl⟩:=bR.1 (bd c);exact lq T [ob.1] y (by grind)
  .rw[cw (by grind)]at c ⊢;generalize j-l! (gD AV.f (bP T ob.1))=q at c ⊢
   match q with
   |0=>
    simp only[gJ,af]at c ⊢;subst c;exact⟨rfl,_,rfl,λv z=>Pz (by grind) z⟩
   |1=>
    simp only[yT,gJ,af]at c ⊢;subst c;exact⟨rfl,_,rfl,λv z=>Pz (by grind) z⟩
   |q+2=>simp at c
 .rw[aE A]at hoo ⊢;exact hoo.mono keep
def aeq {E:Nat->Prop} (rep:oM V E S w) {m1 m2:Nat} {H:Ty} {ob:AM H} (I:m%3=0) (hle:gu S S N ((bP H ob.1).map .f)) (h1:g (iM i (m+2))=nm m1) (h2:g (iM i (m+3))=nm m2):v_ V (tot E V S) w g ⟨s,.mx (N++[.mp (nm m1),.mp (nm m2)])⟩ (uR i m s H ob):=by
 intro φ' O' hφ keep F hoo;unfold uR;rw[aR I];have hll:=gu.length hle;refine wA (by grind) (λj x' c=>?_) hoo;by_cases hj:j<(bP H ob.1).length
 .rw[cE (by grind)]at c;rw[cE (by grind)];let⟨x,D,A⟩:=hle.get j x' c;refine ⟨?_,x,D,λv z=>keep _ _ (A V E w v rep z)⟩;obtain⟨y,hy,rfl⟩:=bR.1 (bd c);exact lq H [ob.1] y (by grind)
 .rw[cw (by grind)]at c;rw[cw (by grind),<-hll];generalize j-(gD AV.f (bP H ob.1)).length=q at c ⊢
  match q with
  |0=>
   simp only[gJ,af]at c ⊢;subst c;exact⟨rfl,_,rfl,λv z=>Pz (by grind) z⟩
  |1=>
   simp only[yT,gJ,af]at c ⊢;subst c;exact⟨rfl,_,rfl,λv z=>Pz (by grind) z⟩
  |q+2=>simp at c
variable {z:jI}
def ahp {p m1 m2 len:Nat} (b':sL i (.zk s) (rnX len (.zk s) r)=Z z):∃b,sL m (.zk s) r=Z b/\v_ V O w (sY i m p m1 m2 len) b z:=by
 have b':(if ah (gD (shf len) r)==0 then U else Z (jI.mk s (.mx (gD (λj=>AV.H (oP i j) 0) (gD (shf len) r)))))=Z z:=b';rw[bN]at b';show ∃b,(if ah r==0 then U else Z (jI.mk s (.mx (gD (λj=>AV.H (oP m j) 0) r))))=Z b/\_;split at b'
 .cases b'
 .rename_i A;rw[aE A];cases b';refine ⟨_,rfl,λφ' O' hφ keep F hoo=>wA (by simp) (λj x' c=>?_) hoo⟩;rw[ic,bM]at c;rw[bM];cases hjx:r[j]? with
  |none=>rw[hjx]at c;cases c
  |some nx=>
   rw[hjx]at c;simp[bw,Function.comp,af]at c;subst c;exact⟨rfl,_,rfl,λv D=>A_ (by rw[hφ,Jh]) D⟩
def ahq {p m1 m2 len:Nat} {es:Y r?} (b':sL i .zg (rnX len .zg es)=Z z):∃b,sL m .zg es=Z b/\v_ V O w (sY i m p m1 m2 len) b z:=by
 cases b';refine ⟨_,rfl,λφ' O' hφ keep A hoo=>?_⟩;let⟨w1,c⟩:=EnR.get (KI (R:=λx y=>∀v,cm V O w x v->cm φ' O' w y v) (a:=m) (nx:=i) (len:=len) (λj v q=>A_ (by rw[hφ,Jh]) q) es);exact Jz w1 c hoo
def xr {nx a p m1 m2:Nat} (c:m/3<=i):(m/3<i/\sY nx a p m1 m2 i (iM nx (m+1))=iM a (m+1))\/(m/3=i/\m%3=0/\sY nx a p m1 m2 i (iM nx (m+1))=nm p)\/(m/3=i/\m%3=1/\sY nx a p m1 m2 i (iM nx (m+1))=nm m1)\/(m/3=i/\m%3=2/\sY nx a p m1 m2 i (iM nx (m+1))=nm m2):=by
 rw[wu]
 grind
structure xh (s:TS) (h':a_) (o ai p m1 m2 len:Nat) (ty:TypeId) (S:Ty) (xs:List (AM S)) (new:AM S) (kk:ν) (es:List (ν×Int)):Prop where
 ho:s.h.get o=Z (.qm .zg ai es kk (Z (p,aa,0)))
 ha:∃a0,s.h.get ai=Z (.qw (.ar ty S) a0 xs)
 hp:∃l,s.h.get p=Z (.C (Z ty) l)
 g1:∃K V es,s.h.get m1=Z (.mp K V es)
 g2:∃K V es,s.h.get m2=Z (.mp K V es)
 hmm:m1≠m2
 hlen:l! xs=len
 hg:∀i,h'.get i=if i=s.nx then Z (.qw (.ar ty S) 0 (xs++[new]:List (AM S))) else if i=m2\/i=m1\/i=p\/i=ai then Z (.qj J 0 0) else if i=o then Z (.qw .zg s.nx (ZJ kk (bC len) (Zw len es))) else (s.h.get i).map (rnF ai s.nx len)
section acj
variable {s:TS} {h':a_} {o ai p m1 m2 len:Nat} {ty:TypeId} {S:Ty} {xs:Y (AM S)} {new:AM S} {kk:ν} {es:Y r?} (t:xh s h' o ai p m1 m2 len ty S xs new kk es)
include t
def xh.ne:o≠ai/\o≠p/\o≠m1/\o≠m2/\p≠m1/\p≠m2:=by
 let⟨c,ha⟩:=t.ha;let⟨l,hp⟩:=t.hp;let⟨_,_,_,g1⟩:=t.g1;let⟨_,_,_,g2⟩:=t.g2;have ho:=t.ho
 grind
def xh.F (hi:gC s.h s.nx):b8 s.h h':=λi r c=>by
 let⟨I,ha⟩:=t.ha;let⟨l,hp⟩:=t.hp;let⟨_,_,_,g1⟩:=t.g1;let⟨_,_,_,g2⟩:=t.g2;have hfr:=hi.fresh;rw[bH]at c ⊢;rw[t.hg];by_cases D:i=s.nx
 .grind
 .rw[aE D];by_cases A:i=m2\/i=m1\/i=p\/i=ai
  .rcases A with rfl|rfl|rfl|rfl
   .rw[g2]at c;cases c
   .rw[g1]at c;cases c
   .rw[hp]at c;cases c
   .rw[ha]at c;cases c
  .rw[aE A];by_cases z:i=o
   .rw[z,t.ho]at c;cases c
   .rw[aE z];cases q:s.h.get i with
    |none=>rw[q]at c;cases c
    |some B=>rw[q]at c;simp[bw,aB]at c ⊢;rw[acw];exact c
def xh.lows (hi:gC s.h s.nx):o<s.nx/\ai<s.nx/\p<s.nx/\m1<s.nx/\m2<s.nx:=by
 let⟨c,ha⟩:=t.ha;let⟨l,hp⟩:=t.hp;let⟨_,_,_,g1⟩:=t.g1;let⟨_,_,_,g2⟩:=t.g2;exact⟨hi.low o _ t.ho,hi.low ai _ ha,hi.low p _ hp,hi.low m1 _ g1,hi.low m2 _ g2⟩
def xh.inv (hi:gC s.h s.nx):gC h' (s.nx+1):=by
 have z:=t.F hi;let⟨D,I,A,l1,N⟩:=t.lows hi;refine ⟨λi ty l hil=>?_,λi c' hic=>?_⟩
 .rw[t.hg]at hil;split at hil
  .cases hil
  .split at hil
   .cases hil
   .split at hil
    .cases hil
    .cases c:s.h.get i with
     |none=>rw[c]at hil;cases hil
     |some B=>
      rw[c]at hil;simp[bw,af]at hil;cases B with
      |C ty2 q=>
       simp[rnF,eC.C.injEq]at hil;obtain⟨_,rfl⟩:=hil;exact eS z q (hi.C i _ q c)
      |qw F b x=>simp[rnF]at hil;split at hil<;>cases hil
      |_=>cases hil
 .rw[t.hg]at hic;split at hic
  .omega
  .split at hic
   .omega
   .split at hic
    .omega
    .cases c:s.h.get i with
     |none=>rw[c]at hic;cases hic
     |some B=>have:=hi.low i B c;omega
def xh.qj (hi:gC s.h s.nx) (c:ow i=m2\/ow i=m1\/ow i=p\/ow i=ai):erHF h' i=U:=by
 let⟨z,A,q,F,D⟩:=t.lows hi;unfold erHF;rw[t.hg,aE (by omega),aR c];cases ix i<;>rfl
def xh.new0:erHF h' (nm s.nx)=U:=by rw[bU,t.hg,aR rfl];rfl
def xh.newN (k:Nat):erHF h' (iM s.nx (k+1))=pX s.nx k ty S (xs++[new]):=by rw[jX,t.hg,aR rfl];rfl
def xh.oldN (k:Nat):erHF s.h (iM ai (k+1))=pX ai k ty S xs:=by
 let⟨c,ha⟩:=t.ha;rw[jX,ha];rfl
def xh.gt (c:len<i/3):erHF h' (iM s.nx (i+1))=U:=by
 rw[t.newN];unfold pX;rw[kF (by rw[aD,t.hlen];exact c)];rfl
def xh.lt (A:i/3<len) (c:erHF h' (iM s.nx (i+1))=Z z):∃b,erHF s.h (iM ai (i+1))=Z b/\v_ V O w (sY s.nx ai p m1 m2 len) b z:=by
 rw[t.newN]at c;rw[t.oldN];unfold pX at c ⊢;rw[cE (by rw[t.hlen];exact A)]at c;cases q:xs[i/3]? with
 |none=>rw[q]at c;cases c
 |some ob=>
  rw[q]at c;simp[bw,af]at c;subst c;exact⟨_,rfl,To (λb'=>X9 (k:=i+1) (by omega)) (λb'=>X9 (k:=i+2) (by omega))⟩
def xh.eqB (c:i/3=len):erHF h' (iM s.nx (i+1))=Z (uR s.nx i ty S new):=by
 rw[t.newN];unfold pX;rw[c,<-t.hlen,List.getElem?_concat_length];rfl
def xh.mapB (hi:gC s.h s.nx) (c:erHF h' (nm o)=Z z):∃b,erHF s.h (nm o)=Z b/\v_ V O w (sY s.nx ai p m1 m2 len) b z:=by
 let⟨lo,_⟩:=t.lows hi;let⟨N,I,F,D,_⟩:=t.ne;rw[bU,t.hg,aE (by omega),aE (by omega),aR rfl]at c;cases c;rw[bU,t.ho];refine ⟨_,rfl,λφ' O' hφ keep A hoo=>?_⟩;let⟨w1,b'⟩:=EnR.get (Tx (R:=λx y=>∀v,cm V O w x v->cm φ' O' w y v) (a:=ai) (nx:=s.nx) (len:=len) (λj v q=>A_ (by rw[hφ,Jh]) q) (v:=.H (nm p) 0) (λv q=>A_ (by
  rw[hφ];show V (sY s.nx ai p m1 m2 len (iM s.nx (3*len+1)))=_;rw[wu,aE (by omega),aR (by omega),aR (by omega)]) q) kk es)
 exact Jz w1 b' hoo
def xh.oth (hi:gC s.h s.nx) (N:ow i≠s.nx) (I:¬(ow i=m2\/ow i=m1\/ow i=p\/ow i=ai)) (D:ow i≠o) (q:erHF h' i=Z z):∃b,erHF s.h i=Z b/\v_ V O w (sY s.nx ai p m1 m2 len) b z:=by
 have hr:=t.F hi;cases A:s.h.get (ow i) with
 |none=>
  unfold erHF at q;rw[t.hg,aE N,aE I,aE D,A]at q;cases q
 |some B=>
  have c:Mn h' (ow i) (ix i) (rnF ai s.nx len B)=Z z:=by
   unfold erHF at q;rw[t.hg,aE N,aE I,aE D,A]at q;exact q
  have same:rnF ai s.nx len B=B->∃b,erHF s.h i=Z b/\v_ V O w (sY s.nx ai p m1 m2 len) b z:=λe=>by
   rw[e,lx hr (λty l e=>hi.C _ _ l (by rw[A,e]))]at c;exact⟨z,by unfold erHF;rw[A];exact c,v_.refl z⟩
  cases B with
  |qw F b x=>
   by_cases b':(aqp F&&ay b ai)=J
   .have e0:rnF ai s.nx len (.qw F b x)= .qw F s.nx (rnX len F x):=by simp only[rnF];rw[aR b']
    rw[e0]at c;simp only[al]at b';have hba:=au b'.2;subst hba;cases hix:ix i with
    |succ k=>rw[hix]at c;cases F<;>first|cases c|cases b'.1
    |zero=>
     rw[hix]at c;have hsrc:erHF s.h i=sL b F x:=by unfold erHF;rw[A,hix];rfl
     rw[hsrc];cases F with
     |zk tyo=>exact ahp c
     |zg=>exact ahq c
     |_=>cases b'.1
   .exact same (by simp only[rnF];rw[aE b'])
  |_=>exact same rfl
def xh.key (c:erHF h' i=Z z) (b:ow i=s.nx):∃k,i=iM s.nx (k+1)/\k/3<=len:=by
 cases hix:ix i with
 |zero=>rw[oC hix,b,t.new0]at c;cases c
 |succ k=>
  have en:i=iM s.nx (k+1):=by rw[<- b,<-hix,j9]
  refine ⟨k,en,?_⟩;subst en;rcases bZ len (k/3) with q|q
  .rw[t.gt q]at c;cases c
  .exact q
def xh.dS (hi:gC s.h s.nx) (c:i/3<=len):erHF h' (sY s.nx ai p m1 m2 len (iM s.nx (i+1)))=U:=by
 refine t.qj hi ?_;rcases xr (nx:=s.nx) (a:=ai) (p:=p) (m1:=m1) (m2:=m2) c with ⟨_,e⟩|⟨_,_,e⟩|⟨_,_,e⟩|⟨_,_,e⟩<;>rw[e]
 .rw[im];exact .inr (.inr (.inr rfl))
 .rw[dh];exact .inr (.inr (.inl rfl))
 .rw[dh];exact .inr (.inl rfl)
 .rw[dh];exact .inl rfl
def xh.inj1 (A:i/3<=len) (z:m/3<=len) (he:sY s.nx ai p m1 m2 len (iM s.nx (i+1))=sY s.nx ai p m1 m2 len (iM s.nx (m+1))):i=m:=by
 let⟨_,_,_,_,I,F⟩:=t.ne;have D:=t.hmm;rcases xr (nx:=s.nx) (a:=ai) (p:=p) (m1:=m1) (m2:=m2) A with ⟨_,e⟩|⟨_,_,e⟩|⟨_,_,e⟩|⟨_,_,e⟩<;>rcases xr (nx:=s.nx) (a:=ai) (p:=p) (m1:=m1) (m2:=m2) z with ⟨_,c⟩|⟨_,_,c⟩|⟨_,_,c⟩|⟨_,_,c⟩<;>rw[e,c]at he<;>clear e c<;>first|omega|(have:=(tO he).2;omega)|(have:=s5 he;omega)
def xh.inj (hi:gC s.h s.nx) {b':jI} (c:erHF h' i=Z z) (hm:erHF h' m=Z b') (he:sY s.nx ai p m1 m2 len i=sY s.nx ai p m1 m2 len m):i=m:=by
 have D:∀i,ow i≠s.nx->sY s.nx ai p m1 m2 len i=i:=λi c=>by unfold sY;rw[aE c]
 by_cases I:ow i=s.nx
 .obtain⟨k,rfl,F⟩:=t.key c I;by_cases b:ow m=s.nx
  .obtain⟨q,rfl,A⟩:=t.key hm b;rw[t.inj1 F A he]
  .rw[D m b]at he;rw[<- he,t.dS hi F]at hm;cases hm
 .rw[D i I]at he;by_cases b:ow m=s.nx
  .obtain⟨q,rfl,A⟩:=t.key hm b;rw[he,t.dS hi A]at c;cases c
  .grind
def xh.cfg (c:iI P E nt np V s Q w) (bp:erHF s.h (nm p)=Z ⟨ty,.mx (N++[.mp (nm m1),.mp (nm m2)])⟩) (hle:gu (erHF s.h) (erHF s.h) N ((bP S new.1).map .f)) (b1:erHF s.h (nm m1)=Z ⟨0,.mp (Fh new.2.1)⟩) (b2:erHF s.h (nm m2)=Z ⟨0,.mp (Fh new.2.2)⟩):∃φ',iI P E nt np φ' ⟨s.e,h',s.nx+1⟩ Q w/\vT np V φ' (erHF s.h) (erHF h') w w:=by
 have hi:=c.qz;have hs:∀n,ow n≠s.nx->sY s.nx ai p m1 m2 len n=n:=λn D=>by unfold sY;rw[aE D]
 refine IH c (sY s.nx ai p m1 m2 len) hs (t.F hi) (t.inv hi) (λn b' q=>?_) λn m b b' D hm he=>t.inj hi D hm he
 by_cases A:ow n=s.nx
 .obtain⟨k,rfl,hk⟩:=t.key q A;rcases xr (nx:=s.nx) (a:=ai) (p:=p) (m1:=m1) (m2:=m2) hk with ⟨g,e⟩|⟨g,z,e⟩|⟨g,z,e⟩|⟨g,z,e⟩<;>rw[e]
  .exact t.lt g q
  .rw[t.eqB g,af]at q;subst q;refine ⟨_,bp,aeq c.zq z hle ?_ ?_⟩
   .rw[wu,aE (by omega),aR (by omega),aE (by omega),aR (by omega)]
   .rw[wu,aE (by omega),aR (by omega),aE (by omega),aE (by omega)]
  .rw[t.eqB g,af]at q;subst q;refine ⟨_,b1,?_⟩;unfold uR;rw[aE (by omega),aR z];exact v_.refl _
  .rw[t.eqB g,af]at q;subst q;refine ⟨_,b2,?_⟩;unfold uR;rw[aE (by omega),aE (by omega)];exact v_.refl _
 .rw[hs n A];by_cases la:ow n=m2\/ow n=m1\/ow n=p\/ow n=ai
  .rw[t.qj hi la]at q;cases q
  .by_cases I:ow n=o
   .cases hix:ix n with
    |succ k=>
     unfold erHF at q;rw[t.hg,aE A,aE la,aR I,hix]at q;cases q
    |zero=>
     have en:n=nm o:=by rw[<- I];exact oC hix
     subst en;exact t.mapB hi q
   .exact t.oth hi A la I q
end acj
def amd (c:iI P E nt np V e Q w) {p:Nat} {kk:ν} {es:Y r?} (N:e.h.get i=Z (.qm .zg m es kk (Z (p,aa,0)))) {s':TS} (h:acj e i m p kk es=Z s'):s'.e=e.e/\∃φ',iI P E nt np φ' s' Q w/\vT np V φ' (erHF e.h) (erHF s'.h) w w:=by
 unfold acj at h;split at h
 .rename_i ty S a0 xs ty' l ha hp;split at h
  .rename_i hty;have hty:=eq_of_beq hty;subst hty;split at h
   .rename_i z ai m1 m2 hpk;split at h
    .rename_i e1 e2 D A;split at h
     .rename_i F;simp only[al,cK]at F;let⟨q1,q2⟩:=F;have q1:=au q1;subst q1;have hmm:m1≠m2:=λs=>by simp_all
      let⟨b1,K1,V1,es1,g1⟩:=Yp D;let⟨b2,K2,V2,es2,g2⟩:=Yp A;simp[af]at h;subst h;refine ⟨rfl,?_⟩;let⟨l',q⟩:=fb e.h l (c.qz.C p _ l hp);let⟨la1,la2,hlap,hla2,hle⟩:=qA (qe.refl (erHF e.h)) 40 S l z 0 _ l' hpk q C4.zero;have hla2:la2=[.mp (nm m1),.mp (nm m2)]:=by simp[cN,b7,af]at hla2;exact hla2.symm
      have bp:erHF e.h (nm p)=Z ⟨ty',.mx (la1++[.mp (nm m1),.mp (nm m2)])⟩:=by rw[bU,hp];simp[aB,jG,q];rw[hlap,hla2]
      refine xh.cfg (o:=i) (ai:=m) (p:=p) (m1:=m1) (m2:=m2) (len:=ah (α:=AM S) xs) (ty:=ty') (S:=S) (xs:=xs) (new:=(z,e1,e2)) (kk:=kk) (es:=es) ⟨N,⟨a0,ha⟩,⟨l,hp⟩,⟨_,_,_,g1⟩,⟨_,_,_,g2⟩,hmm,rfl,λo=>?_⟩ c bp hle b1 b2;rw[PT.get_set,PT.get_set,PT.get_set,PT.get_set,PT.get_set,PT.get_set,PT.get_updI];by_cases I:o=e.nx
      .rw[aR I,aR I];rfl
      .grind
     .cases h
    .cases h
   .cases h
  .cases h
 .cases h
def WR {n:Nat} {ty:TypeId} {xss:Y (Y T.den)} {xs:Y T.den} (h:l! xss<=i):pW i ty T (xss.set n xs)=U:=by
 unfold pW
 grind
def E5 (nx a r j n:Nat):Nat:=if ow n=nx then (match ix n with
 |0=>n
 |k+1=>if k=j then nm r else iM a (k+1)) else n
def wq (nx a r j k:Nat):E5 nx a r j (iM nx (k+1))=if k=j then nm r else iM a (k+1):=by
 unfold E5;rw[im,uH,aR rfl]
def amb (c:iI P E nt np V e Q w) {I n:Nat} {kk:ν} {ty:TypeId} {z:Nat} (ho:e.h.get i=Z (.qm (.rr ty z) m r kk (Z (I,J,n)))) {s':TS} (h:amc e i m I n kk.1 ty z r=Z s'):s'.e=e.e/\∃φ',iI P E nt np φ' s' Q w/\vT np V φ' (erHF e.h) (erHF s'.h) w w:=by
 unfold amc at h;split at h
 .rename_i ty2 T a0 xss ty3 p S xs ha hrr;split at h
  .rename_i xs' hxs;split at h
   .rename_i hty;have hty:=eq_of_beq hty;subst hty;cases h;refine ⟨rfl,?_⟩;let⟨ee,exs⟩:=gP hxs;cases ee;have exs:xs'=xs:=exs;subst exs;have hfr:=c.qz.fresh;have lo:=c.qz.low i _ ho;have la:=c.qz.low m _ ha;have lr:=c.qz.low I _ hrr;have n1:i≠m:=λs=>by rw[s,ha]at ho;cases ho
    have n2:i≠I:=λs=>by rw[s,hrr]at ho;cases ho
    have n3:m≠I:=λs=>by rw[s,hrr]at ha;cases ha
    generalize hjj:kk.1.toNat=j;generalize hh':(((e.h.set i (Z (.qw (.rr ty z) e.nx (AU (α:=Int) r j (bC n))))).set m (Z (.qj J 0 0))).set I (Z (.qj p T.size (ah xs')))).set e.nx (Z (.qw (.ir ty3 T) 0 (E9 (T:=T) xss kk.1 xs')))=h';have hg:∀o,h'.get o=if o=e.nx then Z (.qw (.ir ty3 T) 0 (E9 (T:=T) xss kk.1 xs')) else if o=I then Z (.qj p T.size (ah xs')) else if o=m then Z (.qj J 0 0) else if o=i then Z (.qw (.rr ty z) e.nx (AU (α:=Int) r j (bC n))) else e.h.get o:=λo=>by
     rw[<- hh',PT.get_set,PT.get_set,PT.get_set,PT.get_set]
    have hdead:∀n,ow n=I\/ow n=m->erHF h' n=U:=λn hn=>by
     unfold erHF;rcases hn with s|s
     .rw[hg,aE (by omega),aR s];simp only[aB];cases ix n<;>rfl
     .rw[hg,aE (by omega),aE (by omega),aR s];simp only[aB];cases ix n<;>rfl
    have hr:b8 e.h h':=λo q hi=>by
     rw[bH]at hi ⊢;rw[hg];by_cases F:o=e.nx
     .rw[F,hfr]at hi;cases hi
     .rw[aE F];by_cases f1:o=I
      .rw[aR f1];rw[f1,hrr]at hi;exact hi
      .rw[aE f1];by_cases f2:o=m
       .rw[f2,ha]at hi;cases hi
       .rw[aE f2];by_cases f3:o=i
        .rw[aR f3];rw[f3,ho]at hi;simp only[aB,hZ,qY,fD]at hi ⊢;exact hi
        .rw[aE f3];exact hi
    have hinv:gC h' (e.nx+1):=by
     refine ⟨λo ty l hil=>?_,λo c' hic=>?_⟩
     .rw[hg]at hil;split at hil
      .cases hil
      .split at hil
       .cases hil
       .split at hil
        .cases hil
        .split at hil
         .cases hil
         .exact eS hr l (c.qz.C o _ l hil)
     .rw[hg]at hic;split at hic
      .omega
      .split at hic
       .omega
       .split at hic
        .omega
        .split at hic
         .omega
         .have:=c.qz.low o c' hic;omega
    have hmN:∀k,erHF h' (iM e.nx (k+1))=pW k ty3 T (AU xss j xs'):=λk=>by
     rw[jX,hg,aR rfl,<-hjj];rfl
    have hmO:∀k,erHF e.h (iM m (k+1))=pW k ty3 T xss:=λk=>by rw[jX,ha];rfl
    have hn0:erHF h' (nm e.nx)=U:=by rw[bU,hg,aR rfl];rfl
    refine IH c (E5 e.nx m I j) (λn hn=>by unfold E5;rw[aE hn]) hr hinv ?_ ?_
    .intro q b' A;by_cases F:ow q=e.nx
     .cases hix:ix q with
      |zero=>rw[oC hix,F,hn0]at A;cases A
      |succ k=>
       have en:q=iM e.nx (k+1):=by rw[<- F,<-hix,j9]
       subst en;rw[hmN]at A;rw[wq];by_cases hk:k=j
       .rw[aR hk];subst hk;refine ⟨b',?_,λφ' O' hφ keep oo hoo=>hoo.mono keep⟩;rw[bU,hrr];have hl:k<ah (α:=Y T.den) xss:=by
         rcases bZ k (ah (α:=Y T.den) xss) with h1|h1
         .exact h1
         .have A:=(WR (ty:=ty3) (T:=T) (xss:=xss) (xs:=xs') (n:=k) h1).symm.trans A;cases A
        have A:=(KA (ty:=ty3) (T:=T) (xss:=xss) (xs:=xs') hl).symm.trans A;unfold WP at A;split at A
        .cases A
        next hz=>simp only[aB,jG];rw[aE (by rw[al];exact λs=>hz s.2)];exact A
       .rw[aE hk,hmO];exact⟨b',(FC (ty:=ty3) (T:=T) (xss:=xss) (xs:=xs') hk).symm.trans A,λφ' O' hφ keep oo hoo=>hoo.mono keep⟩
     .have hs:E5 e.nx m I j q=q:=by unfold E5;rw[aE F]
      rw[hs];by_cases f1:ow q=I\/ow q=m
      .rw[hdead q f1]at A;cases A
      .have f1a:ow q≠I:=λs=>f1 (.inl s)
       have f1b:ow q≠m:=λs=>f1 (.inr s)
       by_cases f2:ow q=i
       .cases hix:ix q with
        |succ k=>
         unfold erHF at A;rw[hg,aE F,aE f1a,aE f1b,aR f2,hix]at A;cases A
        |zero=>
         have en:q=nm i:=by rw[<- f2];exact oC hix
         subst en;rw[dh]at f1a f1b;rw[bU,hg,aE (by omega),aE f1a,aE f1b,aR rfl]at A;have A:Z (jI.mk ty (.mx (kO e.nx z 0 (AU (α:=Int) r j (bC n)))))=Z b':=A;cases A;rw[bU,ho];refine ⟨⟨ty,.mx ((kO m z 0 r).set kk.1.toNat (dA J I z n))⟩,rfl,λφ' O' hφ keep oo hoo=>?_⟩;rw[hjj]at hoo;have cl:∀(Q k l:Nat),(sZ Q k z l).isCell=J:=λQ k l=>by unfold sZ;split<;>rfl
         refine wA (by rw[fD,ko,ko,fD]) (λo x' D=>?_) hoo;have D:=D.symm.trans (ww e.nx z (AU (α:=Int) r j (bC n)) 0 o);rw[b6,j7]at D;by_cases hij:j=o
         .subst hij;rw[aR rfl]at D;by_cases hl:j<ah (α:=Int) r
          .rw[aR hl]at D;simp only[bw,af]at D;subst D;refine ⟨cl _ _ _,_,by rw[j7,aR rfl,aR (by rw[ko];exact hl)],λv hv=>?_⟩;have hn2:(bC n).toNat=n:=rfl;rw[hn2];unfold dA at hv;unfold sZ;by_cases hz:n=0
           .rw[aR (by simpa using hz)]at hv ⊢;exact keep _ _ hv
           .rw[aE (by simpa using hz)]at hv ⊢;exact IF (by rw[hφ,wq,aR rfl]) hv
          .rw[aE hl]at D;cases D
         .rw[aE hij]at D;cases hli:(r:η)[o]? with
          |none=>
           have D:Z x'=gS _ ((r:η)[o]?):=D;rw[hli]at D;cases D
          |some l=>
           have D:Z x'=gS _ ((r:η)[o]?):=D;rw[hli]at D;simp only[bw,af]at D;subst D;refine ⟨cl _ _ _,sZ m o z l.toNat,?_,λv hv=>?_⟩
           .rw[j7,aE hij];have:=ww m z r 0 o;rw[b6]at this;refine this.trans ?_;show gS _ ((r:η)[o]?)=_;rw[hli];rfl
           .unfold sZ at hv ⊢;by_cases hz:l.toNat=0
            .rw[aR (by simpa using hz)]at hv ⊢;exact keep _ _ hv
            .rw[aE (by simpa using hz)]at hv ⊢;exact IF (by rw[hφ,wq,aE (λs=>hij s.symm)]) hv
       .have N:(e.h.get (ow q)).bind (Mn h' (ow q) (ix q))=Z b':=by
         unfold erHF at A;rw[hg,aE F,aE f1a,aE f1b,aE f2]at A;exact A
        cases hx:e.h.get (ow q) with
        |none=>rw[hx]at N;cases N
        |some B=>
         rw[hx]at N;simp only[aB]at N;rw[lx hr (λty l s=>c.qz.C _ _ l (by rw[hx,s]))]at N;exact⟨b',by unfold erHF;rw[hx];exact N,λφ' O' hφ keep oo hoo=>hoo.mono keep⟩
    .intro q ai b b' hn hm he;have key:∀n b,erHF h' n=Z b->ow n=e.nx->∃k,n=iM e.nx (k+1):=λn b hn F=>by
      cases hix:ix n with
      |zero=>rw[oC hix,F,hn0]at hn;cases hn
      |succ k=>exact⟨k,by rw[<- F,<-hix,j9]⟩
     have dS:∀k,erHF h' (E5 e.nx m I j (iM e.nx (k+1)))=U:=λk=>by
      refine hdead _ ?_;rw[wq];split
      .rw[dh];exact .inl rfl
      .rw[im];exact .inr rfl
     by_cases F:ow q=e.nx
     .obtain⟨k,rfl⟩:=key q b hn F;by_cases f1:ow ai=e.nx
      .obtain⟨k2,rfl⟩:=key ai b' hm f1;rw[wq,wq]at he;have:k=k2:=by
        split at he<;>split at he
        .omega
        .have:=(tO he).2;omega
        .have:=(tO he).2;omega
        .have:=(tO he).2;omega
       rw[this]
      .rw[show E5 e.nx m I j ai=ai from by unfold E5;rw[aE f1]]at he;rw[<- he,dS k]at hm;cases hm
     .rw[show E5 e.nx m I j q=q from by unfold E5;rw[aE F]]at he;by_cases f1:ow ai=e.nx
      .obtain⟨k2,rfl⟩:=key ai b' hm f1;rw[he,dS k2]at hn;cases hn
      .rw[show E5 e.nx m I j ai=ai from by unfold E5;rw[aE f1]]at he;exact he
   .cases h
  .cases h
 .cases h
def yW (nx a n:Nat):Nat:=if ow n=nx then iM a (ix n) else n
def wv (nx a k:Nat):yW nx a (iM nx k)=iM a k:=by
 unfold yW;rw[im,uH,aR rfl]
def acv (a n:Nat) (B:eC):hZ (rnG a n B)=hZ B:=by
 cases B with
 |qw F b x=>
  simp[rnG];split<;>rfl
 |_=>rfl
def J1 {F:sU} (h:ae1 F=J):(∃ty S,F= .ar ty S)\/∃ty T,F= .ir ty T:=by
 cases F with
 |ar ty S=>exact .inl ⟨ty,S,rfl⟩
 |ir ty T=>exact .inr ⟨ty,T,rfl⟩
 |_=>cases h
def Z' {k:Nat} {F:sU} {x:F.ty.den} (c:Ia i k F x=Z z):∃b,Ia m k F x=Z b/\v_ V O w (yW i m) b z:=by
 cases F with
 |ar ty S=>
  let⟨ob,h1,q⟩:=fY.1 c;subst q;exact⟨_,fY.2 ⟨ob,h1,rfl⟩,To (λ_=>wv i m _) (λ_=>wv i m _)⟩
 |ir ty T=>exact⟨z,c,v_.refl _⟩
 |_=>cases c
def Oi {R:AV->AV->Prop} {a nx:Nat} (c:∀j,R (.H (oP a j) 0) (.H (oP nx j) 0)):∀es:Y r?,EnR R (vk a es) (vk nx es)
 |[]=>trivial
 |e::r=>⟨rfl,c e.2,Oi c r⟩
def ad8 (b':sL i (.zk s) r=Z z):∃b,sL m (.zk s) r=Z b/\v_ V O w (yW i m) b z:=by
 have hob:∀j,yW i m (oP i j)=oP m j:=λj=>wv i m _
 have b':(if ah r==0 then U else Z (jI.mk s (.mx (gD (λj=>AV.H (oP i j) 0) r))))=Z z:=b';show ∃b,(if ah r==0 then U else Z (jI.mk s (.mx (gD (λj=>AV.H (oP m j) 0) r))))=Z b/\_;split at b'
 .cases b'
 .rename_i A;rw[aE A];simp[af]at b';subst b';refine ⟨_,rfl,λφ' O' hφ keep F hoo=>wA (by simp) (λj x' c=>?_) hoo⟩;rw[bM]at c ⊢;cases hjx:r[j]? with
  |none=>rw[hjx]at c;cases c
  |some nx=>
   rw[hjx]at c;simp[bw,af]at c;subst c;exact⟨rfl,_,rfl,λv D=>A_ (by grind) D⟩
def ada {es:Y r?} (b':sL i .zg es=Z z):∃b,sL m .zg es=Z b/\v_ V O w (yW i m) b z:=by
 have hob:∀j,yW i m (oP i j)=oP m j:=λj=>wv i m _
 cases b';refine ⟨_,rfl,λφ' O' hφ keep A hoo=>?_⟩;let⟨w1,c⟩:=EnR.get (Oi (R:=λx y=>∀v,cm V O w x v->cm φ' O' w y v) (a:=m) (nx:=i) (λj v q=>A_ (by grind) q) es);exact Jz w1 c hoo
def ahc {b':Nat} (A:sL i (.rr s b') r=Z z):∃b,sL m (.rr s b') r=Z b/\v_ V O w (yW i m) b z:=by
 have A:Z (jI.mk s (.mx (kO i b' 0 r)))=Z z:=A;simp[af]at A;subst A;refine ⟨_,rfl,λφ' O' hφ keep I hoo=>wA (by rw[ko,ko]) (λj x' c=>?_) hoo⟩;rw[ww]at c ⊢;cases hjx:r[j]? with
 |none=>rw[hjx]at c;cases c
 |some l=>
  rw[hjx]at c;simp only[bw,af]at c;subst c;refine ⟨by unfold sZ;split<;>rfl,sZ m (0+j) b' l.toNat,rfl,λv D=>?_⟩;unfold sZ at D ⊢;by_cases F:(l.toNat==0)=J
  .grind
  .rw[aE F]at D ⊢;exact IF (by rw[hφ,wv]) D
def aa2 {F:sU} {x:F.ty.den} (c:sL i F x=Z z):∃b,sL m F x=Z b/\v_ V O w (yW i m) b z:=by
 cases F with
 |zk ty=>exact ad8 c
 |zg=>exact ada c
 |rr ty b'=>exact ahc c
 |_=>cases c
def ame (c:iI P E nt np V e Q w) {s':TS} (h:amf e i=Z s'):s'.e=e.e/\∃φ',iI P E nt np φ' s' Q w/\vT np V φ' (erHF e.h) (erHF s'.h) w w:=by
 unfold amf at h;split at h
 .rename_i F a0 x ha;split at h
  .rename_i hF;cases h;refine ⟨rfl,?_⟩;have hfr:=c.qz.fresh;have la:=c.qz.low i _ ha;have hi:=c.qz;generalize hh':((PT.updI (λ_ b=>rnG i e.nx b) 1 0 e.h).set i (Z (.qj J 0 0))).set e.nx (Z (.qw F 0 x))=h';have hg:∀ai,h'.get ai=if ai=e.nx then Z (.qw F 0 x) else if ai=i then Z (.qj J 0 0) else (e.h.get ai).map (rnG i e.nx):=λai=>by
    rw[<- hh',PT.get_set,PT.get_set,PT.get_updI]
   have hF0:qY F x=U:=by rcases J1 hF with ⟨_,_,rfl⟩|⟨_,_,rfl⟩<;>rfl
   have hFB:∀q,sL q F x=U:=λq=>by rcases J1 hF with ⟨_,_,rfl⟩|⟨_,_,rfl⟩<;>rfl
   have hr:b8 e.h h':=λai q hq=>by
    rw[bH]at hq ⊢;rw[hg];by_cases I:ai=e.nx
    .grind
    .rw[aE I];by_cases f1:ai=i
     .rw[f1,ha]at hq;simp only[aB,hZ,hF0]at hq;cases hq
     .rw[aE f1];cases A:e.h.get ai with
      |none=>rw[A]at hq;cases hq
      |some B=>rw[A]at hq;simp only[bw,aB]at hq ⊢;rw[acv];exact hq
   have hinv:gC h' (e.nx+1):=by
    refine ⟨λai ty l hil=>?_,λai c' hic=>?_⟩
    .rw[hg]at hil;split at hil
     .cases hil
     .split at hil
      .cases hil
      .cases A:e.h.get ai with
       |none=>rw[A]at hil;cases hil
       |some B=>
        rw[A]at hil;simp only[bw,af]at hil;cases B with
        |C ty2 l3=>
         simp only[rnG,eC.C.injEq]at hil;obtain⟨_,rfl⟩:=hil;exact eS hr l3 (hi.C ai _ l3 A)
        |qw F b x=>simp only[rnG]at hil;split at hil<;>cases hil
        |_=>cases hil
    .rw[hg]at hic;split at hic
     .omega
     .split at hic
      .omega
      .cases A:e.h.get ai with
       |none=>rw[A]at hic;cases hic
       |some B=>have:=hi.low ai B A;omega
   have hdead:∀n,ow n=i->erHF h' n=U:=λn N=>by
    unfold erHF;rw[hg,aE (by omega),aR N];simp only[aB];cases ix n<;>rfl
   have hn0:erHF h' (nm e.nx)=U:=by
    rw[bU,hg,aR rfl];exact hFB _
   have hmN:∀k,erHF h' (iM e.nx (k+1))=Ia e.nx k F x:=λk=>by rw[jX,hg,aR rfl];rfl
   have hmO:∀k,erHF e.h (iM i (k+1))=Ia i k F x:=λk=>by rw[jX,ha];rfl
   refine IH c (yW e.nx i) (λn N=>by unfold yW;rw[aE N]) hr hinv (λn b' D=>?_) λn m b b' N hm he=>?_
   .by_cases I:ow n=e.nx
    .cases hix:ix n with
     |zero=>rw[oC hix,I,hn0]at D;cases D
     |succ k=>
      have en:n=iM e.nx (k+1):=by rw[<- I,<-hix,j9]
      subst en;rw[hmN]at D;rw[wv,hmO];exact Z' D
    .have hs:yW e.nx i n=n:=by unfold yW;rw[aE I]
     rw[hs];by_cases f1:ow n=i
     .grind
     .cases A:e.h.get (ow n) with
      |none=>
       unfold erHF at D
       grind
      |some B=>
       have z:Mn h' (ow n) (ix n) (rnG i e.nx B)=Z b':=by
        unfold erHF at D
        grind
       have same:rnG i e.nx B=B->∃b,erHF e.h n=Z b/\v_ V (tot E V (erHF e.h)) w (yW e.nx i) b b':=λs=>by
        rw[s,lx hr (λty l s=>hi.C _ _ l (by rw[A,s]))]at z;exact⟨b',by unfold erHF;rw[A];exact z,v_.refl b'⟩
       cases B with
       |qw G b y=>
        by_cases hc:(!(ae1 G)&&ay b i)=J
        .have e0:rnG i e.nx (.qw G b y)= .qw G e.nx y:=by simp only[rnG];rw[aR hc]
         rw[e0]at z;simp only[al,cK]at hc;have hba:=au hc.2;subst hba;cases hix:ix n with
         |succ k=>
          rw[hix]at z;cases G with
          |ar ty S|ir ty T=>cases hc.1
          |_=>cases z
         |zero=>
          rw[hix]at z;have hsrc:erHF e.h n=sL b G y:=by unfold erHF;rw[A,hix];rfl
          rw[hsrc];exact aa2 z
        .exact same (by simp only[rnG];rw[aE hc])
       |_=>exact same rfl
   .have hs:∀n,ow n≠e.nx->yW e.nx i n=n:=λn N=>by unfold yW;rw[aE N]
    have key:∀n b,erHF h' n=Z b->ow n=e.nx->yW e.nx i n=iM i (ix n):=λn b N I=>by unfold yW;rw[aR I]
    by_cases I:ow n=e.nx
    .rw[key n b N I]at he;by_cases f1:ow m=e.nx
     .rw[key m b' hm f1]at he;rw[<- j9 n,<-j9 m,I,f1,(tO he).2]
     .rw[hs m f1]at he;rw[<- he,hdead _ (im ..)]at hm;cases hm
    .rw[hs n I]at he;by_cases f1:ow m=e.nx
     .rw[key m b' hm f1]at he;rw[he,hdead _ (im ..)]at N;cases N
     .grind
  .cases h
 .cases h
def ami (c:iI P E nt np V e Q w) {id:Nat} {cty:TypeId} (hb:e.h.get i=Z (.C (Z cty) B)) (hv:B[m]? =Z (.G id)) {ty:TypeId} {ai:Nat} (F:e.h.get id=Z (.qw (.zk ty) ai r)):∃φ',iI P E nt np φ' ⟨e.e,((e.h.set id (Z (.qj J 1 (ah r)))).set e.nx (Z (.qw (.zk ty) ai r))).set i (Z (.C (Z cty) (splice B m [.G e.nx]))),e.nx+1⟩ Q w/\vT np V φ' (erHF e.h) (erHF (((e.h.set id (Z (.qj J 1 (ah r)))).set e.nx (Z (.qw (.zk ty) ai r))).set i (Z (.C (Z cty) (splice B m [.G e.nx]))))) w w:=by
 have hfr:=c.qz.fresh;have hidlt:=c.qz.low id _ F;have hblt:=c.qz.low i _ hb;have hbid:i≠id:=λs=>by rw[s,F]at hb;cases hb
 have hbn:i≠e.nx:=by omega
 have hin:id≠e.nx:=by omega
 generalize hh2:(((e.h.set id (Z (.qj J 1 (ah r)))).set e.nx (Z (.qw (.zk ty) ai r))).set i (Z (.C (Z cty) (splice B m [.G e.nx]))))=h2;have jF:∀b,h2.get b=if b=i then Z (.C (Z cty) (splice B m [.G e.nx])) else if b=e.nx then Z (.qw (.zk ty) ai r) else if b=id then Z (.qj J 1 (ah r)) else e.h.get b:=λb=>by
  rw[<- hh2,PT.get_set,PT.get_set,PT.get_set]
 have hr:b8 e.h h2:=λb A hi=>by
  rw[bH]at hi ⊢;rw[jF];by_cases e1:b=i
  .subst e1;rw[hb]at hi;cases hi
  .rw[aE e1];by_cases e2:b=e.nx
   .subst e2;rw[hfr]at hi;cases hi
   .rw[aE e2];by_cases e3:b=id
    .subst e3;rw[aR rfl];rw[F]at hi;exact hi
    .rw[aE e3];exact hi
 have hlo:=c.qz.C i _ B hb;let⟨l',hl'⟩:=fb e.h B hlo;have hrow:b7 h2 (.G e.nx)=Z (dA J e.nx 1 (l! r)):=by
  simp only[b7,bH,jF];rw[aE hbn.symm];simp only[bo,aB,hZ,qY]
 have hsp:cN h2 (splice B m [.G e.nx])=Z (splice l' m [dA J e.nx 1 (l! r)]):=pY _ (gB hr _ _ hl') (by simp only[cN,hrow]);let⟨y,hy,hey⟩:=lw hl' _ _ hv;have hy0:y=dA J id 1 (l! r):=by
  simp only[b7,bH,F,aB,hZ,qY,af]at hey;exact hey.symm
 subst hy0;have hinv:gC h2 (e.nx+1):=by
  refine ⟨λb ty2 l2 hil=>?_,λb q hiq=>?_⟩
  .rw[jF]at hil;split at hil
   .simp only[af,eC.C.injEq]at hil;obtain⟨_,rfl⟩:=hil;exact kY _ _ _ hsp
   .split at hil
    .cases hil
    .split at hil
     .cases hil
     .exact eS hr l2 (c.qz.C b _ l2 hil)
  .rw[jF]at hiq;split at hiq
   .omega
   .split at hiq
    .omega
    .split at hiq
     .omega
     .have:=c.qz.low b q hiq;omega
 have hdead:∀n,ow n=id->erHF h2 n=U:=λn hn=>by
  unfold erHF;rw[jF,aE (by omega),aE (by omega),aR hn];simp only[aB];cases ix n<;>rfl
 have hm0:∀n k,ow n=e.nx->ix n=k+1->erHF h2 n=U:=λn k hn hk=>by
  unfold erHF;rw[jF,aE (by omega),aR hn,hk];rfl
 refine IH c (λn=>if n=nm e.nx then nm id else n) (λn hn=>by rw[aE (λs=>hn (by rw[s,dh]))]) hr hinv (λn b' z=>?_) λn o p q hn hm he=>?_
 .show ∃i,erHF e.h (if n=nm e.nx then nm id else n)=Z i/\_;by_cases N:ow n=e.nx
  .cases hix:ix n with
   |succ k=>rw[hm0 n k N hix]at z;cases z
   |zero=>
    have en:n=nm e.nx:=by rw[<- N];exact oC hix
    rw[aR en];subst en;rw[bU,jF,aE hbn.symm,aR rfl]at z;rw[bU,F];exact⟨b',z,λφ' O' hφ keep oo hoo=>hoo.mono keep⟩
  .have en:n≠nm e.nx:=λs=>N (by rw[s,dh])
   rw[aE en];by_cases I:ow n=id
   .rw[hdead n I]at z;cases z
   .by_cases f2:ow n=i
    .cases hix:ix n with
     |succ k=>
      unfold erHF at z;rw[jF,aR f2,hix]at z;cases z
     |zero=>
      have eb:n=nm i:=by rw[<- f2];exact oC hix
      subst eb;rw[bU,jF,aR rfl]at z;simp only[aB,jG,hsp,af]at z;subst z;refine ⟨⟨cty,.mx l'⟩,by rw[bU,hb];simp only[aB,jG,hl'],λφ' O' hφ keep oo hoo=>?_⟩;have hlt:m<l! l':=(bm.1 hy).1;have hφ0:φ' (nm e.nx)=V (nm id):=by rw[hφ];simp
      rw[pO rfl]at hoo ⊢;let⟨arr,a1,a2⟩:=hoo;refine ⟨arr,a1,?_⟩;unfold tZ at a2 ⊢;refine ⟨by simp only[BC.len]at a2 ⊢;rw[mi (by simp;omega)];exact a2.1,λj x D=>?_⟩;simp only[BC.get]at D a2;rw[mS (by simp;omega)]at D;split at D
      .grind
      .split at D
       .rename_i h3 h4;simp only[aJ]at h4;have hj:j=m:=by omega
        subst hj;simp only[Ix,gJ,af]at D;subst D;let⟨_,v,a3,a4⟩:=a2.2 _ _ hy;refine ⟨by unfold dA;split<;>rfl,v,a3,?_⟩;unfold dA at a4 ⊢;by_cases hz:l! r=0
        .grind
        .rw[aE (by simpa using hz)]at a4 ⊢;exact IF hφ0 a4
       .grind
    .cases D:e.h.get (ow n) with
     |none=>
      unfold erHF at z;rw[jF,aE f2,aE N,aE I,D]at z;cases z
     |some l=>
      unfold erHF at z;rw[jF,aE f2,aE N,aE I,D]at z;simp only[aB]at z;rw[lx hr (λty B s=>c.qz.C _ _ B (by rw[D,s]))]at z;exact⟨b',by unfold erHF;rw[D];exact z,λφ' O' hφ keep oo hoo=>hoo.mono keep⟩
 .have he:(if n=nm e.nx then nm id else n)=(if o=nm e.nx then nm id else o):=he;by_cases N:n=nm e.nx
  .rw[aR N]at he;by_cases I:o=nm e.nx
   .rw[N,I]
   .rw[aE I]at he;rw[<- he,hdead _ (dh id)]at hm;cases hm
  .rw[aE N]at he;by_cases I:o=nm e.nx
   .rw[aR I]at he;rw[he,hdead _ (dh id)]at hn;cases hn
   .rw[aE I]at he;exact he
def am9 (c:iI P E nt np V e Q w) {s':TS} (h:ama e i=Z s'):s'.e=e.e/\∃φ',iI P E nt np φ' s' Q w/\vT np V φ' (erHF e.h) (erHF s'.h) w w:=by
 unfold ama at h;split at h
 next q=>exact amd c q h
 next q=>exact amb c q h
 .split at h
  .cases h
  .exact ame c h
 .cases h
def U1 (c:iI P E nt np V e Q w) (I:b8 e.h h) (D:erHF h=erHF e.h) (hinv:gC h (e.nx+1)):iI P E nt np V ⟨e.e,h,e.nx+1⟩ Q w/\vT np V V (erHF e.h) (erHF h) w w:=by
 refine ⟨⟨by rw[D];exact c.zq,λt x A=>?_,λn k N=>tK (c.dom n k N),fJ c.low,hinv,λt x A=>l9 I x (c.qp t x A),c.inert,c.size⟩,by rw[D];exact vT.refl _ _ _ _⟩;rw[D];simp[fB]at A;cases he:e.e.get t with
 |none=>rw[he]at A;cases A
 |some q=>
  rw[he]at A;let⟨z,F⟩:=oA e.h q (c.qp t q he);simp[aB,fm I q z F,af]at A;subst A;exact c.env t _ (by simp[fB,he,aB,F])
def aqw (c:iI P E nt np V e Q w) {φ:Ty} {es:Y (T.den×φ.den)} (N:e.h.get i=Z (.mp T φ es)) (hE:mpE T φ es=J) (ty:TypeId) (S:Ty):iI P E nt np V ⟨e.e,(e.h.set i (Z (.qw .zg e.nx []))).set e.nx (Z (.qw (.ar ty S) 0 [])),e.nx+1⟩ Q w/\vT np V V (erHF e.h) (erHF ((e.h.set i (Z (.qw .zg e.nx []))).set e.nx (Z (.qw (.ar ty S) 0 [])))) w w:=by
 have hfr:=c.qz.fresh;have hlt:=c.qz.low i _ N;generalize I:(e.h.set i (Z (.qw .zg e.nx []))).set e.nx (Z (.qw (.ar ty S) 0 []))=h';have D:∀id,h'.get id=if id=e.nx then Z (.qw (.ar ty S) 0 []) else if id=i then Z (.qw .zg e.nx []) else e.h.get id:=λid=>by
  rw[<- I,PT.get_set,PT.get_set]
 have F:b8 e.h h':=λid q hi=>by
  rw[bH]at hi ⊢;rw[D];by_cases A:id=e.nx
  .grind
  .rw[aE A];by_cases z:id=i
   .rw[z,N]at hi;cases hi
   .grind
 refine U1 c F ?_ ⟨λid ty l hil=>?_,λid c' hic=>?_⟩
 .funext n;unfold erHF;rw[D];by_cases A:ow n=e.nx
  .rw[aR A,A,hfr];cases ix n<;>rfl
  .rw[aE A];by_cases z:ow n=i
   .rw[aR z,z,N];simp[aB];cases ix n with
    |succ k=>rfl
    |zero=>
     simp[Mn,jG,zR (adl hE),PA hE,kV];rfl
   .rw[aE z];cases hx:e.h.get (ow n) with
    |none=>rfl
    |some B=>exact lx F (λty l s=>c.qz.C _ _ l (by rw[hx,s])) _ _
 .rw[D]at hil;split at hil
  .cases hil
  .split at hil
   .cases hil
   .exact eS F l (c.qz.C id _ l hil)
 .rw[D]at hic;split at hic
  .omega
  .split at hic
   .omega
   .have:=c.qz.low id c' hic;omega
def aqu (c:iI P E nt np V e Q w) (ai:Nat) (ty:TypeId):iI P E nt np V ⟨e.e,e.h.set e.nx (Z (.qw (.zk ty) ai [])),e.nx+1⟩ Q w/\erHF (e.h.set e.nx (Z (.qw (.zk ty) ai [])))=erHF e.h:=by
 have hfr:=c.qz.fresh;have q:b8 e.h (e.h.set e.nx (Z (.qw (.zk ty) ai []))):=b8.set λr q=>by rw[bH,hfr]at q;cases q
 have A:erHF (e.h.set e.nx (Z (.qw (.zk ty) ai [])))=erHF e.h:=by
  funext n;unfold erHF;rw[PT.get_set];by_cases z:ow n=e.nx
  .rw[aR z,z,hfr];cases ix n<;>rfl
  .rw[aE z];cases D:e.h.get (ow n) with
   |none=>rfl
   |some B=>exact lx q (λty l s=>c.qz.C _ _ l (by rw[D,s])) _ _
 exact⟨(U1 c q A (c.qz.set q (ib _) (yR _) (λ_ _ he=>by cases he))).1,A⟩
end ren
def AK:∀(l:Y o9) (acc:Nat),Ra l acc=acc|||Ra l 0
 |[],acc=>by simp[Ra]
 |o::r,acc=>by
  simp only[Ra];cases o.dst with
  |none=>exact AK r acc
  |some d=>simp only[];rw[AK r (acc|||fT d),AK r (0|||fT d),uZ,j6]
def Bf:∀(l:ι) (acc:Nat),Mx l acc=acc|||Mx l 0
 |[],acc=>by simp[Mx]
 |k::r,acc=>by simp only[Mx];rw[Bf r (acc|||fT k),Bf r (0|||fT k),uZ,j6]
def jY:∀(l:Y Adj) (acc:Nat),lW l acc=acc|||lW l 0
 |[],acc=>by simp[lW]
 |.nil k _ _::r,acc=>by simp only[lW];rw[jY r (acc|||fT k),jY r (0|||fT k),uZ,j6]
 |.qc _ _ _ _::r,acc|.mpt _ _ _::r,acc=>by exact jY r acc
 |.qx k _::r,acc=>by simp only[lW];rw[jY r (acc|||fT k),jY r (0|||fT k),uZ,j6]
 |.pk _ _ _::r,acc|.fmp _ _ _ _::r,acc|.frw _ _ _ _::r,acc|.tak _ _::r,acc=>by exact jY r acc
def gH:∀(c:TC) (acc:Nat),c.asg acc=acc|||c.asg 0
 |.jw ops _,acc=>AK ops acc
 |.seq a b,acc=>by simp[TC.asg];rw[gH b (a.asg acc),gH b (a.asg 0),gH a acc,j6]
 |.zl A a b,acc=>by simp[TC.asg];rw[gH b (a.asg _),gH b (a.asg (Mx A.ks 0)),gH a (Mx A.ks acc),gH a (Mx A.ks 0),Bf A.ks acc,j6,j6,j6]
 |.cond _ a b,acc=>by simp[TC.asg];rw[gH b (a.asg acc),gH b (a.asg 0),gH a acc,j6]
 |.block _ b,acc=>gH b acc
 |.zj A _ b,acc|.loop A b,acc=>by simp[TC.asg];rw[gH b (Mx A.ks acc),gH b (Mx A.ks 0),Bf A.ks acc,j6]
 |.defer _ _ t,acc=>by simp[TC.asg]
 |.adj l c,acc=>by simp[TC.asg];rw[gH c (lW l acc),gH c (lW l 0),jY l acc,j6]
 |.split _ _ _ _ c,acc=>gH c acc
 |.bsp _ a b,acc=>by simp[TC.asg];rw[gH b (a.asg acc),gH b (a.asg 0),gH a acc,j6]
 |.unl _ b,acc=>gH b acc
 |.skip,acc|.exit _,acc|.ret,acc|.zh,acc=>by simp[TC.asg]
def tX {c:TC} (h:aC (c.asg 0) m=J):aC (c.asg i) m=J:=by rw[gH,bj,h];simp
def jN {c:TC} (h:aC i m=J):aC (c.asg i) m=J:=by rw[gH,bj,h];rfl
def Yt:∀{l:ι} {acc k:Nat},k∈l->aC (Mx l acc) k=J
 |[],_,_,h=>by cases h
 |x::r,acc,k,h=>by
  simp[Mx];rcases bB.1 h with rfl|h
  .rw[Bf,bj,bj,bq.2 rfl];simp
  .exact Yt h
def UV:∀{l:Y o9} {acc:Nat} {o:o9} {d:Nat},o∈l->o.dst=Z d->aC (Ra l acc) d=J
 |[],_,_,_,h,_=>by cases h
 |x::r,acc,o,d,h,hd=>by
  simp[Ra];rcases bB.1 h with rfl|h
  .rw[hd];rw[AK,bj,bj,bq.2 rfl];simp
  .exact UV h hd
def YI:∀{e:gM} {c:ι} {vs:Y TV},jF e c=Z vs->l! vs=l! c/\∀(j k:Nat),c[j]? =Z k->∃v,vs[j]? =Z v/\e.get k=Z v
 |e,[],vs,h=>by simp[jF,af]at h;subst h;exact⟨rfl,by simp⟩
 |e,k::r,vs,h=>by
  simp[jF]at h;split at h
  .rename_i v A;split at h
   .rename_i l D;simp[af]at h;subst h;let⟨h1,F⟩:=YI D;refine ⟨by simp[h1],λj z q=>?_⟩;cases j with
    |zero=>simp at q;subst q;exact⟨v,rfl,A⟩
    |succ j=>simpa using F j z (by grind)
   .cases h
  .cases h
def Jy {e:gM} (hi:rz e h):∀{q:ι} {vs:Y TV},jF e q=Z vs->kR h vs=J
 |[],vs,c=>by simp[jF,af]at c;subst c;rfl
 |k::r,vs,c=>by
  simp[jF]at c;split at c
  .rename_i v z;split at c
   next l A=>simp[af]at c;subst c;simp[kR,al];exact⟨hi k v z,Jy hi A⟩
   .cases c
  .cases c
def Dg:∀{e:gM} {c:ι} {vs:Y TV},l! vs=l! c->∀t v,(Zx e c vs).get t=Z v->(∃j:Nat,c[j]? =Z t/\vs[j]? =Z v)\/(t∉c/\e.get t=Z v)
 |e,[],[],_,t,v,h=>.inr ⟨by simp,h⟩
 |e,[],_::_,q,t,v,h|e,_::_,[],q,t,v,h=>by simp at q
 |e,k::r,u::l,q,t,v,h=>by
  simp[Zx,PT.get_set]at h;split at h
  next A=>subst A;cases h;exact .inl ⟨0,rfl,rfl⟩
  .rename_i A;rcases Dg (by grind) t v h with ⟨j,h1,z⟩|⟨h1,z⟩
   .exact .inl ⟨j+1,by simpa using h1,by simpa using z⟩
   .grind
def ub {e:gM}:∀{q:ι} {k:Nat} {v:TV},(DH i e q).get k=Z v->k∈q/\e.get k=Z v/\uI v=J/\aC i k=aa
 |[],k,v,h=>by simp[DH,PT.get]at h
 |x::r,k,v,h=>by
  simp[DH]at h;split at h
  .rename_i u z;split at h
   .rename_i A;rw[PT.get_set]at h;split at h
    .grind
    .obtain⟨h1,c⟩:=ub h;exact⟨by simp[h1],c⟩
   .obtain⟨h1,c⟩:=ub h;exact⟨by simp[h1],c⟩
  .obtain⟨h1,c⟩:=ub h;exact⟨by simp[h1],c⟩
def JY {e0 e:gM}:∀{c:ι},IU i e0 e c=J->∀k v,k∈c->e0.get k=Z v->uI v=J->aC i k=aa->∃z,e.get k=Z z
 |[],_,k,v,h,_,_,_=>by cases h
 |x::r,q,k,v,h,A,hf,D=>by
  simp[IU,al]at q;rcases bB.1 h with rfl|h
  .grind
  .exact JY q.2 k v h A hf D
section walk
variable {P:Program} {E:Nat->Prop} {nt np:Nat}
def Tr (q:adz u=J) (c:b7 h u=Z y):Le y .emp:=by
 cases u with
 |nil=>simp[b7,af]at c;subst c;exact Le.nilEmp
 |emp=>simp[b7,af]at c;subst c;exact Le.refl _
 |_=>cases q
def Zh (c:iI P E nt np V e Q w) (ty:TypeId) (T:Ty):iI P E nt np V ⟨e.e,e.h.set e.nx (Z (.F ty J T [])),e.nx+1⟩ Q w/\erHF (e.h.set e.nx (Z (.F ty J T [])))=erHF e.h/\b8 e.h (e.h.set e.nx (Z (.F ty J T []))):=by
 have hfr:=c.qz.fresh;have D:b8 e.h (e.h.set e.nx (Z (.F ty J T []))):=b8.set λr D=>by rw[bH,hfr]at D;cases D
 have I:erHF (e.h.set e.nx (Z (.F ty J T [])))=erHF e.h:=by
  funext n;by_cases hn:n=nm e.nx
  .subst hn;rw[bU,bU,PT.get_set,aR rfl,hfr];rfl
  .refine lT c.qz D (il.set (by rw[hfr];rfl) rfl) λi s=>?_
   subst s;rw[PT.get_set,aE (λs=>hn (by rw[s]))]
 refine ⟨⟨by rw[I];exact c.zq,?_,λn k hk=>tK (c.dom n k hk),fJ c.low,c.qz.set D (ib _) (yR _) (λ_ _ he=>by cases he),?_,c.inert,c.size⟩,I,D⟩
 .intro t x A;rw[I];simp[fB]at A;cases he:e.e.get t with
  |none=>rw[he]at A;cases A
  |some q=>
   rw[he]at A;let⟨z,N⟩:=oA e.h q (c.qp t q he);simp[aB,fm D q z N,af]at A;subst A;exact c.env t _ (by simp[fB,he,aB,N])
 .intro t x A;exact l9 D x (c.qp t x A)
def zM :∀{a b:Y TV},kR h a=J->kR h b=J->kR h (a++b)=J
 |[],_,_,c=>c
 |x::r,b,q,c=>by
  simp[kR,al]at q;simp[fG,kR,al];exact⟨q.1,zM q.2 c⟩
def NU :∀{a:Y TV} (n:Nat),kR h a=J->kR h (a.take n)=J
 |[],n,_=>by simp[kR]
 |x::r,0,_=>rfl
 |x::r,n+1,c=>by
  simp[kR,al]at c;simp[wd,kR,al];exact⟨c.1,NU n c.2⟩
def NV :∀{a:Y TV} (n:Nat),kR h a=J->kR h (a.drop n)=J
 |[],n,_=>by simp[kR]
 |x::r,0,c=>c
 |x::r,n+1,c=>by
  simp[kR,al]at c;exact NV n c.2
def zF {l:Y R} {x:R} (h:l[i]? =Z x):splice l i [x]=l:=by
 have c:i<l! l:=by grind
 rw[aH c,af]at h;unfold splice;subst h;simp
def U2 (c:iI P E nt np V e Q w) {id:Nat} {cty:M TypeId} {l:Y TV} {v:TV} (I:e.h.get id=Z (.C cty l)) (hv:l[i]? =Z v) (hn:adz v=J) (hu:b7 e.h u=Z .emp) (huo:Mv e.h u=J):
 iI P E nt np V ⟨e.e,e.h.set id (Z (.C cty (splice l i [u]))),e.nx⟩ Q w/\vT np V V (erHF e.h) (erHF (e.h.set id (Z (.C cty (splice l i [u]))))) w w:=by
 have D:b8 e.h (e.h.set id (Z (.C cty (splice l i [u])))):=b8.set λr D=>by rw[bH,I]at D;cases D
 have hlo:=c.qz.C id _ l I;let⟨l',F⟩:=fb e.h l hlo;have hsp:cN e.h (splice l i [u])=Z (splice l' i [.emp]):=pY i F (by simp[cN,hu]);have hsp':cN (e.h.set id (Z (.C cty (splice l i [u])))) (splice l i [u])=Z (splice l' i [.emp]):=gB D _ _ hsp;let⟨y,hy,hey⟩:=lw F i v hv;have hold:erHF e.h (nm id)=Z (afb cty l'):=by rw[bU,I];cases cty<;>(simp [aB,jG,F];rfl)
 have hnew:erHF (e.h.set id (Z (.C cty (splice l i [u])))) (nm id)=Z (afb cty (splice l' i [.emp])):=by
  rw[bU,PT.get_set,aR rfl];cases cty<;>(simp [aB,jG,hsp'];rfl)
 have hoth:∀n,n≠nm id->erHF (e.h.set id (Z (.C cty (splice l i [u])))) n=erHF e.h n:=λn hn'=>by
  refine lT c.qz D (il.set (by rw[I];rfl) rfl) λj s=>?_
  subst s;rw[PT.get_set,aE (λs=>hn' (by rw[s]))]
 have hdom:qe (erHF e.h) (erHF (e.h.set id (Z (.C cty (splice l i [u]))))):=λn b hb'=>by grind
 have hcell:∀ty,cty=Z ty->∀x∈l',x.isCell=J:=λty hty x A=>by
  subst hty;let⟨k,hk⟩:=eA A;let⟨q,_,_,hat⟩:=c.zq.at_ _ _ hold;let⟨ob,_,hob⟩:=hat;let⟨arr,_,hca⟩:=hob;exact (hca.2 k x hk).1
 have hV:L4 (erHF e.h) (erHF (e.h.set id (Z (.C cty (splice l i [u]))))):=⟨hdom,λn b b' h1 N=>by
  by_cases s:n=nm id
  .subst s;rw[hold]at h1;cases h1;rw[hnew]at N;cases N;have hle:gu (erHF e.h) (erHF (e.h.set id (Z (.C cty (splice l i [u]))))) l' (splice l' i [.emp]):=by
    have:=gu.splice i (gu.refl hdom l') (b:=[y]) (b':=[.emp]) ⟨(Tr hn hey).toH hdom,trivial⟩;rw[zF hy]at this;exact this
   cases cty with
   |none=>exact fM.none
   |some ty=>
    refine fM.C rfl rfl hle λx A=>?_
    have A:x∈splice l' i [.emp]:=A;unfold splice at A;rw[bF,bF,aA]at A;rcases A with (A|A)|A
    .grind
    .subst A;rfl
    .grind
  .rw[hoth n s,h1]at N;cases N;exact fM.refl hdom b⟩
 refine ⟨⟨hV.zq c.zq,?_,c.dom,c.low,c.qz.set D (c.qz.low id _ I) (bL _) (λty l2 he=>?_),?_,c.inert,c.size⟩,⟨C5.refl _ _,λk _ ho=>hdom.own ho,λ_ _=>rfl⟩⟩
 .intro t x A;simp[fB]at A;cases he:e.e.get t with
  |none=>rw[he]at A;cases A
  |some q=>
   rw[he]at A;let⟨z,hz⟩:=oA e.h q (c.qp t q he);simp[aB,fm D q z hz,af]at A;subst A;exact (c.env t _ (by simp[fB,he,aB,hz])).dom hdom
 .simp[eC.C.injEq]at he;obtain⟨_,rfl⟩:=he;refine eS D _ ?_;exact zM (zM (NU _ hlo) (by simp only[kR,huo,sX])) (NV _ hlo)
 .intro t x A;exact l9 D x (c.qp t x A)
def iI.congr {s':TS} (c:iI P E nt np V e Q w) (he:∀t,s'.e.get t=e.e.get t) (hh:∀i,s'.h.get i=e.h.get i) (F:s'.nx=e.nx):iI P E nt np V s' Q w/\erHF s'.h=erHF e.h:=by
 have D:b8 e.h s'.h:=λi r hi=>by rw[bH]at hi ⊢;rw[hh];exact hi
 have I:erHF s'.h=erHF e.h:=by funext n;exact lT c.qz D (λi k=>by rw[hh]) λi _=>hh i
 refine ⟨⟨by rw[I];exact c.zq,?_,by rw[F];exact c.dom,by rw[F];exact c.low,⟨λi ty l q=>?_,λi b q=>?_⟩,λt v hv=>?_,c.inert,c.size⟩,I⟩
 .intro t x A;rw[I];simp[fB,he]at A;cases q:e.e.get t with
  |none=>rw[q]at A;cases A
  |some v=>
   rw[q]at A;let⟨z,N⟩:=oA e.h v (c.qp t v q);simp[aB,fm D v z N,af]at A;subst A;exact c.env t _ (by simp[fB,q,aB,N])
 .rw[hh]at q;exact eS D l (c.qz.C i _ l q)
 .rw[hh]at q;rw[F];exact c.qz.low i b q
 .rw[he]at hv;exact l9 D v (c.qp t v hv)
def RA {f:Nat->M R} {r:R}:∀{m i:Nat},spl a f i m=Z r->∃j,a=bC j/\f j=Z r
 |0,i,h=>by cases h
 |m+1,i,h=>by
  rcases kK h with ⟨h1,c⟩|⟨_,c⟩
  .grind
  .exact RA c
def acp {s':TS} (c:iI P E nt np V e Q w) {kd:IntKind} {v:Int} (h1:ae5 e i m=Z (kd,v)) (z:VV e i m kd v=Z s'):iI P E nt np V s' Q w/\erHF s'.h=erHF e.h/\∀t,s'.e.get t=e.e.get t:=by
 unfold ae5 at h1;unfold VV at z;cases hk:e.e.get i with
 |none=>rw[hk]at h1;cases h1
 |some x=>
  rw[hk]at h1 z;cases x with
  |f T q=>
   cases T with
   |int kd'=>
    simp[af,aU]at h1;obtain⟨rfl,rfl⟩:=h1;simp[af]at z;subst z;have he:∀t,(e.e.set i (Z (.f (.int kd') q))).get t=e.e.get t:=λt=>by
     rw[PT.get_set];split
     .grind
     .rfl
    let⟨N,I⟩:=c.congr (s':=⟨e.e.set i (Z (.f (.int kd') q)),e.h,e.nx⟩) he (λ_=>rfl) rfl;exact⟨N,I,he⟩
   |_=>cases h1
  |H a0 A=>
   simp[]at h1 z;cases F:e.h.get a0 with
   |none=>rw[F]at h1;cases h1
   |some b=>
    rw[F]at h1 z;cases b with
    |C ty l=>
     cases ty with
     |none=>cases h1
     |some ty=>
     simp only[]at h1 z;cases D:l[A+m]? with
     |none=>rw[D]at h1;cases h1
     |some y=>
      rw[D]at h1;cases y with
      |f T q=>
       cases T with
       |int kd'=>
        simp[af,aU]at h1;obtain⟨rfl,rfl⟩:=h1;simp[af]at z;subst z;have hh:∀k,(e.h.set a0 (Z (.C (Z ty) (splice l (A+m) [.f (.int kd') q])))).get k=e.h.get k:=λk=>by
         rw[PT.get_set];split
         next s=>subst s;rw[F,zF D]
         .rfl
        let⟨N,I⟩:=c.congr (s':=⟨e.e,e.h.set a0 (Z (.C (Z ty) (splice l (A+m) [.f (.int kd') q]))),e.nx⟩) (λ_=>rfl) hh rfl;exact⟨N,I,λ_=>rfl⟩
       |_=>cases h1
      |_=>cases h1
    |_=>cases h1
  |_=>cases h1
mutual
def NH (id sz n:Nat):∀v:TV,uI v=J->Mq id sz n v=v
 |.f _ _,_|.zw _ _ _ _ _,_|.emp,_|.nil,_|.undef,_|.np,_|.qv,_=>rfl
 |.agg l,h|.qb l,h=>by simp[Mq];rw[Cx id sz n l h]
 |.qr _ _ _ _,h|.H _ _,h|.qk _ _ _,h|.G _,h|.zp _ _,h|.mp _,h|.qh _ _,h|.qy _ _,h|.sb _,h=>by cases h
def Cx (id sz n:Nat):∀l:Y TV,qT l=J->Gd id sz n l=l
 |[],_=>rfl
 |x::r,h=>by
  simp[qT,al]at h;simp only[Gd];rw[NH id sz n x h.1,Cx id sz n r h.2]
end
section subs
variable {id sz n:Nat} {h h':a_}
mutual
def Pc (hr:b8 h h') (hid:ep h' id=Z (aa,sz,n)):∀(v:TV) (y:AV),b7 h v=Z y->b7 h' (Mq id sz n v)=Z y
 |.qk i s m,y,he=>by
  simp[b7,af]at he;subst he;simp only[Mq];split
  .rename_i hq;simp only[al]at hq;have e1:=au hq.1.1;have e2:=au hq.1.2;have e3:=au hq.2;subst e1 e2 e3;simp[b7,hid,dA,dY,cg,eV]
  .rfl
 |.agg l,y,he|.qb l,y,he|.qy g l,y,he=>by
  simp[b7]at he;cases hl:cN h l with
  |none=>rw[hl]at he;cases he
  |some l'=>rw[hl]at he;simp only[Mq,b7,wj hr hid l l' hl];exact he
 |.f T v,y,he|.zw T xs j hj off,y,he|.qr _ _ _ _,y,he|.H _ _,y,he|.G _,y,he|.zp _ _,y,he|.emp,y,he|.nil,y,he|.mp _,y,he|.undef,y,he|.np,y,he|.qv,y,he|.qh _ _,y,he|.sb _,y,he=>fm hr _ _ he
def wj (hr:b8 h h') (hid:ep h' id=Z (aa,sz,n)):∀(l:Y TV) (l':Y AV),cN h l=Z l'->cN h' (Gd id sz n l)=Z l'
 |[],l',he=>by simp[cN,af]at he;subst he;rfl
 |x::r,l',he=>by
  obtain⟨y,l2,rfl,h1,h2⟩:=cY he;exact pu (Pc hr hid x y h1) (wj hr hid r l2 h2)
end
end subs
def aqb (c:iI P E nt np V e Q w) {n:Nat} {s':TS} (hp:pkS e T i m n=Z s'):iI P E nt np V s' Q w/\vT np V V (erHF e.h) (erHF s'.h) w w/\fA 0 e.e s'.e:=by
 unfold pkS at hp;split at hp
 .rename_i ty l hb;split at hp
  .rename_i hs;have hs:=au hs;subst hs;split at hp
   .rename_i xs sz hpk;split at hp
    .cases hp
    .rename_i hmid;cases hp;have hm:dH e.h sz:=Ps n l xs sz hpk;let⟨l',hl⟩:=fb e.h l (c.qz.C i _ l hb);have hidlt:=c.qz.low i _ hb;have jF:∀id,((PT.updI (λ_ b=>VR i T.size n b) 1 0 (dI sz e.h)).set i (Z (.F ty aa T xs))).get id=if id=i then Z (.F ty aa T xs) else if aC sz id then (e.h.get id).map tA else (e.h.get id).map (VR i T.size n):=λid=>by
      rw[PT.get_set];by_cases s:id=i
      .rw[aR s,aR s]
      .rw[aE s,aE s,PT.get_updI,iq];split
       .cases A:e.h.get id with
        |none=>rfl
        |some b=>
         let⟨p1,s1,n1,e1⟩:=JW b;simp only[bw,e1,VR]
       .rfl
     generalize hH2:((PT.updI (λ_ b=>VR i T.size n b) 1 0 (dI sz e.h)).set i (Z (.F ty aa T xs)))=h2 at jF ⊢;have hr:b8 e.h h2:=λid r hi=>by
      rw[bH]at hi ⊢;rw[jF];by_cases s:id=i
      .subst s;rw[hb]at hi;cases hi
      .rw[aE s];cases A:e.h.get id with
       |none=>rw[A]at hi;cases hi
       |some b=>
        rw[A]at hi;split
        .exact NO hi
        .cases b<;>first|exact hi|cases hi
     have hnone:∀id,aC sz id=J->erHF h2 (nm id)=U:=λid hi=>by
      have s:id≠i:=λs=>by subst s;exact hmid hi
      let⟨ty',p',T',xs',I⟩:=hm id hi;rw[bU,jF,aE s,aR hi,I];rfl
     have hme:il e.h h2:=λid k=>by
      rw[jF];by_cases s:id=i
      .rw[aR s,s,hb];rfl
      .rw[aE s];split
       next hmi=>let⟨ty',p',T',xs',I⟩:=hm id hmi;rw[I];rfl
       .cases A:e.h.get id with
        |none=>rfl
        |some b=>cases b<;>rfl
     have hdom:qe (erHF e.h) (erHF h2):=λq b hq=>by
      rcases KE hme hq with h0|⟨id,cc,rfl,D,h4⟩
      .exact⟨b,h0⟩
      rw[bU];rw[jF]at D;by_cases s:id=i
      .subst s;rw[hb];simp only[aB,jG,hl];exact⟨_,rfl⟩
      .rw[aE s]at D;cases A:e.h.get id with
       |none=>rw[A]at D;split at D<;>cases D
       |some b0=>
        rw[A]at D;split at D
        .grind
        .simp only[bw,af]at D;subst D;simp only[aB];cases b0 with
         |C ty0 l0=>
          let⟨l0',hl0⟩:=fb e.h l0 (c.qz.C id _ l0 A);exact⟨afb ty0 l0',by cases ty0<;>(simp only[jG,hl0];rfl)⟩
         |_=>exact⟨_,h4⟩
     have giv:C4 e.h (erHF e.h) (erHF h2) sz:=λid hi=>⟨rfl,hnone id hi⟩
     let⟨hle,hlen⟩:=Ds hdom n l xs sz l' hpk hl giv;have hrow:ep h2 i=Z (aa,T.size,n):=by rw[bH,jF,aR rfl,<-hlen];rfl
     have hV:L4 (erHF e.h) (erHF h2):=⟨hdom,λq b b' D h4=>by
      rcases KE hme h4 with h0|⟨id,cc,rfl,h5,h6⟩
      .rw[D]at h0;cases h0;exact fM.refl hdom _
      rw[bU]at D;rw[jF]at h5;by_cases s:id=i
      .subst s;rw[aR rfl]at h5;cases h5;rw[hb]at D;simp only[aB,jG,hl,af]at D;subst D;simp only[jG,dY,cg,eV,af]at h6;subst h6;refine fM.C rfl rfl hle λx I=>?_
       simp only[BC.toMx]at I;obtain⟨q,hq,rfl⟩:=bR.1 I;exact lq T _ q hq
      .rw[aE s]at h5;cases A:e.h.get id with
       |none=>rw[A]at h5;split at h5<;>cases h5
       |some b0=>
        rw[A]at h5 D;split at h5
        .grind
        .simp only[bw,af]at h5;subst h5;have:b=b':=by
          simp only[aB]at D;cases b0 with
          |C ty0 l0=>
           let⟨l0',hl0⟩:=fb e.h l0 (c.qz.C id _ l0 A);cases ty0<;>
            (simp only[jG,hl0,af]at D
             simp only[VR,jG,wj hr hrow l0 l0' hl0,af]at h6;rw[<- D,<-h6])
          |F ty1 p1 T1 xs1=>
           have N:jG h2 (.F ty1 p1 T1 xs1)=Z b:=D;exact eW (N.symm.trans h6)
          |qj p1 s1 n1=>
           have N:jG h2 (.qj p1 s1 n1)=Z b:=D;exact eW (N.symm.trans h6)
          |mp K1 V1 es1=>
           have N:jG h2 (.mp K1 V1 es1)=Z b:=D;exact eW (N.symm.trans h6)
          |qw F1 a1 x1=>
           have N:jG h2 (.qw F1 a1 x1)=Z b:=D;exact eW (N.symm.trans h6)
          |qm F1 a1 x1 k1 p1=>
           have N:jG h2 (.qm F1 a1 x1 k1 p1)=Z b:=D;exact eW (N.symm.trans h6)
         subst this;exact fM.refl hdom b⟩
     refine ⟨⟨hV.zq c.zq,?_,c.dom,c.low,⟨λid ty' l2 A=>?_,λid b A=>?_⟩,?_,c.inert,c.size⟩,⟨C5.refl _ _,λk _ hk=>hdom.own hk,λ_ _=>rfl⟩,?_⟩
     .intro t x I;simp only[fB,PT.get_updI]at I;cases he:e.e.get t with
      |none=>rw[he]at I;cases I
      |some v=>
       rw[he]at I;let⟨z,hz⟩:=oA e.h v (c.qp t v he);simp only[bw,aB,Pc hr hrow v z hz,af]at I;subst I;exact (c.env t _ (by simp only[fB,he,aB,hz])).dom hdom
     .rw[jF]at A;by_cases s:id=i
      .rw[aR s]at A;cases A
      .rw[aE s]at A;cases hg0:e.h.get id with
       |none=>rw[hg0]at A;split at A<;>cases A
       |some b0=>
        rw[hg0]at A;split at A
        .simp only[bw,af]at A;exact (zV A).elim
        .simp only[bw,af]at A;cases b0 with
         |C ty0 l0=>
          simp only[VR,eC.C.injEq]at A;obtain⟨_,rfl⟩:=A;let⟨l0',hl0⟩:=fb e.h l0 (c.qz.C id _ l0 hg0);exact kY _ _ _ (wj hr hrow l0 l0' hl0)
         |_=>cases A
     .rw[jF]at A;by_cases s:id=i
      .subst s;exact hidlt
      .rw[aE s]at A;cases hg0:e.h.get id with
       |none=>rw[hg0]at A;split at A<;>cases A
       |some b0=>exact c.qz.low id b0 hg0
     .intro t x I;simp only[PT.get_updI]at I;cases he:e.e.get t with
      |none=>rw[he]at I;cases I
      |some v=>
       rw[he]at I;simp only[bw,af]at I;subst I;let⟨z,hz⟩:=oA e.h v (c.qp t v he);exact FG _ _ _ (Pc hr hrow v z hz)
     .intro k _ v' hv';simp only[PT.get_updI]at hv';cases he:e.e.get k with
      |none=>rw[he]at hv';cases hv'
      |some v=>
       rw[he]at hv';simp only[bw,af]at hv';subst hv';exact⟨v,rfl,λhf=>NH _ _ _ v hf⟩
   .cases hp
  .cases hp
 .cases hp
def aq7 (c:iI P E nt np V e Q w) {s':TS} (h:Iq e (.qx i m)=Z s'):∃φ',iI P E nt np φ' s' Q w/\vT np V φ' (erHF e.h) (erHF s'.h) w w/\fA (lW [.qx i m] 0) e.e s'.e:=by
 simp only[Iq]at h;split at h
 .rename_i b o hk;split at h
  .rename_i cty l hb;split at h
   .rename_i id hv;split at h
    .rename_i ty p T xs D;cases h;have hfr:=c.qz.fresh;have hidlt:=c.qz.low id _ D;have hblt:=c.qz.low b _ hb;have hbid:b≠id:=λs=>by rw[s,D]at hb;cases hb
     have hbn:b≠e.nx:=by omega
     have hin:id≠e.nx:=by omega
     generalize hh2:(((e.h.set id (Z (.qj p T.size (l! xs)))).set e.nx (Z (.F ty p T xs))).set b (Z (.C (Z cty) (splice l (o+m) [.G e.nx]))))=I;have jF:∀k,I.get k=if k=b then Z (.C (Z cty) (splice l (o+m) [.G e.nx])) else if k=e.nx then Z (.F ty p T xs) else if k=id then Z (.qj p T.size (l! xs)) else e.h.get k:=λk=>by
      rw[<- hh2,PT.get_set,PT.get_set,PT.get_set]
     have hr:b8 e.h I:=λk r hi=>by
      rw[bH]at hi ⊢;rw[jF];by_cases e1:k=b
      .subst e1;rw[hb]at hi;cases hi
      .rw[aE e1];by_cases e2:k=e.nx
       .subst e2;rw[hfr]at hi;cases hi
       .rw[aE e2];by_cases N:k=id
        .subst N;rw[aR rfl];rw[D]at hi;exact hi
        .rw[aE N];exact hi
     have hlo:=c.qz.C b _ l hb;let⟨l',hl'⟩:=fb e.h l hlo;have hrow:b7 I (.G e.nx)=Z (dA p e.nx T.size (l! xs)):=by
      simp only[b7,bH,jF];rw[aE hbn.symm];simp only[bo,aB,hZ]
     have hsp:cN I (splice l (o+m) [.G e.nx])=Z (splice l' (o+m) [dA p e.nx T.size (l! xs)]):=pY _ (gB hr _ _ hl') (by simp only[cN,hrow]);let⟨y,hy,hey⟩:=lw hl' _ _ hv;have hy0:y=dA p id T.size (l! xs):=by
      simp only[b7,bH,D,aB,hZ,af]at hey;exact hey.symm
     subst hy0;have hold:erHF e.h (nm b)=Z ⟨cty,.mx l'⟩:=by rw[bU,hb];simp only[aB,jG,hl']
     have hnew:erHF I (nm b)=Z ⟨cty,.mx (splice l' (o+m) [dA p e.nx T.size (l! xs)])⟩:=by
      rw[bU,jF,aR rfl];simp only[aB,jG,hsp]
     have hdead:erHF I (nm id)=U:=by rw[bU,jF,aE hbid.symm,aE hin,aR rfl];rfl
     have hnx2:erHF I (nm e.nx)=if p&&l! xs==0 then U else Z ⟨ty,.fz (xs.flatMap (bP T))⟩:=by rw[bU,jF,aE hbn.symm,aR rfl];rfl
     have hid0:erHF e.h (nm id)=if p&&l! xs==0 then U else Z ⟨ty,.fz (xs.flatMap (bP T))⟩:=by rw[bU,D];rfl
     have hoth:∀n,n≠nm b->n≠nm e.nx->n≠nm id->erHF I n=erHF e.h n:=λn e1 e2 N=>lT c.qz hr (il.of λk=>by
      rw[jF];by_cases f1:k=b
      .rw[aR f1,f1,hb];exact .inr ⟨rfl,rfl⟩
      .rw[aE f1];by_cases f2:k=e.nx
       .rw[aR f2,f2,hfr];exact .inr ⟨rfl,rfl⟩
       .rw[aE f2];by_cases f3:k=id
        .rw[aR f3,f3,D];exact .inr ⟨rfl,rfl⟩
        .rw[aE f3];exact .inl rfl) λk s=>by
      subst s;rw[jF,aE (λs=>e1 (by rw[s])),aE (λs=>e2 (by rw[s])),aE (λs=>N (by rw[s]))]
     have hnb:nm b≠nm e.nx:=λs=>hbn (s5 s)
     have hbi:nm b≠nm id:=λs=>hbid (s5 s)
     have hni:nm e.nx≠nm id:=λs=>hin (s5 s).symm
     have hinv:gC I (e.nx+1):=by
      refine ⟨λk ty2 l2 hil=>?_,λk q hiq=>?_⟩
      .rw[jF]at hil;split at hil
       .simp only[af,eC.C.injEq]at hil;obtain⟨_,rfl⟩:=hil;exact kY _ _ _ hsp
       .split at hil
        .cases hil
        .split at hil
         .cases hil
         .exact eS hr l2 (c.qz.C k _ l2 hil)
      .rw[jF]at hiq;split at hiq
       .omega
       .split at hiq
        .omega
        .split at hiq
         .omega
         .have:=c.qz.low k q hiq;omega
     have hE:∀t x,fB e.e I t=Z x->fB e.e e.h t=Z x:=λt x A=>by
      simp only[fB]at A ⊢;cases he:e.e.get t with
      |none=>rw[he]at A;cases A
      |some q=>
       rw[he]at A;let⟨z,hz⟩:=oA e.h q (c.qp t q he);simp only[aB,fm hr q z hz,af]at A;subst A;simp only[aB,hz]
     by_cases hp:(p&&l! xs==0)=J
     ·
      have hH:erHF I=erHF e.h:=by
       funext n;by_cases e1:n=nm b
       .subst e1;rw[hold,hnew];have:dA p e.nx T.size (l! xs)=dA p id T.size (l! xs):=by unfold dA;rw[aR hp,aR hp]
        rw[this,zF hy]
       .by_cases e2:n=nm e.nx
        .subst e2;rw[hnx2,aR hp,bU,hfr];rfl
        .by_cases N:n=nm id
         .subst N;rw[hdead,hid0,aR hp]
         .exact hoth n e1 e2 N
      refine ⟨V,⟨by rw[hH];exact c.zq,λt x A=>by rw[hH];exact c.env t x (hE t x A),λn q hq=>tK (c.dom n q hq),fJ c.low,hinv,λt x A=>l9 hr x (c.qp t x A),c.inert,c.size⟩,by rw[hH];exact vT.refl _ _ _ _,fA.refl _ _⟩
     .have hid1:erHF e.h (nm id)=Z ⟨ty,.fz (xs.flatMap (bP T))⟩:=by rw[hid0,aE hp]
      let⟨kk,k1,k2,ob,k3,k4⟩:=c.zq.at_ _ _ hid1;have hφn:V (nm e.nx)=U:=by
       cases hq:V (nm e.nx) with
       |none=>rfl
       |some q=>have:=c.dom _ q hq;rw[dh]at this;omega
      let nw:HF:=λn=>if n=nm e.nx then Z ⟨ty,.fz (xs.flatMap (bP T))⟩ else U
      have hsh:F4 w w kk ob:=⟨rfl,rfl,rfl,rfl,k3,λ_ _=>rfl,λ_=>rfl⟩
      let⟨φ',p1,p2,p3,p4⟩:=c.zq.wren hid1 k1 hφn hsh k4 nw (by simp[nw]) (by simp only[nw];rw[aE hni.symm]);have hb1:dZ (erHF e.h) [nm e.nx,nm id] nw (nm b)=Z ⟨cty,.mx l'⟩:=by
       unfold dZ;rw[aE (by simp[hnb,hbi]),hold]
      let⟨kb,b1,b2,ob2,b3,b4⟩:=p4.at_ _ _ hb1;have hlt:o+m<l! l':=by
       rcases bZ (o+m) (l! l') with h'|h'
       .exact h'
       .rw[kF h']at hy;cases hy
      have hob:gQ φ' (tot E φ' (dZ (erHF e.h) [nm e.nx,nm id] nw)) w ⟨cty,.mx (splice l' (o+m) [dA p e.nx T.size (l! xs)])⟩ ob2:=by
       rw[pO rfl]at b4 ⊢;let⟨arr,a1,a2⟩:=b4;refine ⟨arr,a1,?_⟩;unfold tZ at a2 ⊢;refine ⟨by simp only[BC.len]at a2 ⊢;rw[mi (by simp;omega)];exact a2.1,λj x A=>?_⟩;simp only[BC.get]at A a2;rw[mS (by simp;omega)]at A;split at A
       .exact a2.2 j x A
       .split at A
        .rename_i h3 h4;simp only[aJ]at h4;have hj:j=o+m:=by omega
         subst hj;simp only[Ix,gJ,af]at A;subst A;let⟨_,v,a3,a4⟩:=a2.2 _ _ hy;unfold dA at a4 ⊢;rw[aE hp]at a4 ⊢;refine ⟨rfl,v,a3,?_⟩;cases a4 with
         |@G _ _ _ cc q hφq hn hc hs2=>
          have:=p2.sub _ _ k1;rw[this,af]at hφq;subst hφq;exact .G p1 hn hc hs2
        .exact a2.2 j x A
      let⟨q1,q2⟩:=p4.wset hb1 b1 (⟨rfl,rfl,rfl,rfl,b3,λ_ _=>rfl,λ_=>rfl⟩:F4 w w kb ob2) hob (λn=>if n=nm b then Z ⟨cty,.mx (splice l' (o+m) [dA p e.nx T.size (l! xs)])⟩ else U) (by simp);have hH:dZ (dZ (erHF e.h) [nm e.nx,nm id] nw) [nm b] (λn=>if n=nm b then Z ⟨cty,.mx (splice l' (o+m) [dA p e.nx T.size (l! xs)])⟩ else U)=erHF I:=by
       funext n;by_cases e1:n=nm b
       .subst e1;rw[hnew];simp[dZ]
       .by_cases e2:n=nm e.nx
        .subst e2;rw[hnx2,aE hp];simp[dZ,nw,hnb.symm]
        .by_cases N:n=nm id
         .subst N;rw[hdead];simp[dZ,nw,hbi.symm,hni.symm]
         .rw[hoth n e1 e2 N];simp[dZ,e1,e2,N]
      rw[hH]at q1 q2;have off:=p2.trans q1;refine ⟨φ',⟨q2,λt x A=>off.ql (c.env t x (hE t x A)),λn q hq=>?_,fJ c.low,hinv,λt x A=>l9 hr x (c.qp t x A),c.inert,c.size⟩,⟨C5.refl _ _,off.qn,λk hi=>?_⟩,fA.refl _ _⟩
      .rcases p3 n q hq with h4|h4
       .exact tK (c.dom n q h4)
       .simp only[aA]at h4;subst h4;rw[dh];exact ib _
      .cases hq:φ' k with
       |none=>
        cases hq2:V k with
        |none=>rfl
        |some z=>rw[p2.sub _ _ hq2]at hq;cases hq
       |some z=>
        rcases p3 _ _ hq with h4|h4
        .exact h4.symm
        .simp only[aA]at h4;subst h4;rw[dh]at hi;have:=c.low;omega
    next ty ai js D=>cases h;let⟨φ',p1,p2⟩:=ami c hb hv D;exact⟨φ',p1,p2,fA.refl _ _⟩
    .cases h
   .cases h
  .cases h
 .rename_i id hk;split at h
  .rename_i ty p T xs D;cases h;have hfr:=c.qz.fresh;have hidlt:=c.qz.low id _ D;have hin:id≠e.nx:=by omega
   generalize hh2:((e.h.set id (Z (.qj p T.size (l! xs)))).set e.nx (Z (.F ty p T xs)))=I;have jF:∀k,I.get k=if k=e.nx then Z (.F ty p T xs) else if k=id then Z (.qj p T.size (l! xs)) else e.h.get k:=λk=>by
    rw[<- hh2,PT.get_set,PT.get_set]
   have hr:b8 e.h I:=λk r hi=>by
    rw[bH]at hi ⊢;rw[jF];by_cases e2:k=e.nx
    .subst e2;rw[hfr]at hi;cases hi
    .rw[aE e2];by_cases N:k=id
     .subst N;rw[aR rfl];rw[D]at hi;exact hi
     .rw[aE N];exact hi
   have hrow:b7 I (.G e.nx)=Z (dA p e.nx T.size (l! xs)):=by
    simp only[b7,bH,jF,bo,aB,hZ]
   have hrow0:b7 e.h (.G id)=Z (dA p id T.size (l! xs)):=by
    simp only[b7,bH,D,aB,hZ]
   have hdead:erHF I (nm id)=U:=by rw[bU,jF,aE hin,aR rfl];rfl
   have hnx2:erHF I (nm e.nx)=if p&&l! xs==0 then U else Z ⟨ty,.fz (xs.flatMap (bP T))⟩:=by rw[bU,jF,aR rfl];rfl
   have hid0:erHF e.h (nm id)=if p&&l! xs==0 then U else Z ⟨ty,.fz (xs.flatMap (bP T))⟩:=by rw[bU,D];rfl
   have hoth:∀n,n≠nm e.nx->n≠nm id->erHF I n=erHF e.h n:=λn e2 N=>lT c.qz hr (il.of λk=>by
    rw[jF];by_cases f2:k=e.nx
    .rw[aR f2,f2,hfr];exact .inr ⟨rfl,rfl⟩
    .rw[aE f2];by_cases f3:k=id
     .rw[aR f3,f3,D];exact .inr ⟨rfl,rfl⟩
     .rw[aE f3];exact .inl rfl) λk s=>by
    subst s;rw[jF,aE (λs=>e2 (by rw[s])),aE (λs=>N (by rw[s]))]
   have hni:nm e.nx≠nm id:=λs=>hin (s5 s).symm
   have hinv:gC I (e.nx+1):=by
    refine ⟨λk ty2 l2 hil=>?_,λk q hiq=>?_⟩
    .rw[jF]at hil;split at hil
     .cases hil
     .split at hil
      .cases hil
      .exact eS hr l2 (c.qz.C k _ l2 hil)
    .rw[jF]at hiq;split at hiq
     .omega
     .split at hiq
      .omega
      .have:=c.qz.low k q hiq;omega
   have hE:∀t x,t≠i->fB (e.e.set i (Z (.G e.nx))) I t=Z x->fB e.e e.h t=Z x:=λt x ht A=>by
    simp only[fB,PT.get_set]at A ⊢;rw[aE ht]at A;cases he:e.e.get t with
    |none=>rw[he]at A;cases A
    |some q=>
     rw[he]at A;let⟨z,hz⟩:=oA e.h q (c.qp t q he);simp only[aB,fm hr q z hz,af]at A;subst A;simp only[aB,hz]
   have hIE:rz (e.e.set i (Z (.G e.nx))) I:=λt x A=>by
    simp only[PT.get_set]at A;split at A
    .cases A;exact FG _ _ _ hrow
    .exact l9 hr x (c.qp t x A)
   have hKp:fA (lW [.qx i m] 0) e.e (e.e.set i (Z (.G e.nx))):=λt ht v' hv'=>by
    simp only[PT.get_set]at hv';split at hv'
    next et=>subst et;simp only[lW]at ht;rw[bj,bq.2 rfl]at ht;simp at ht
    .exact⟨v',hv',λ_=>rfl⟩
   have hk0:=c.env i (dA p id T.size (l! xs)) (by simp only[fB,hk,aB,hrow0]);by_cases hp:(p&&l! xs==0)=J
   .have hH:erHF I=erHF e.h:=by
     funext n;by_cases e2:n=nm e.nx
     .subst e2;rw[hnx2,aR hp,bU,hfr];rfl
     .by_cases N:n=nm id
      .subst N;rw[hdead,hid0,aR hp]
      .exact hoth n e2 N
    have hsame:dA p e.nx T.size (l! xs)=dA p id T.size (l! xs):=by unfold dA;rw[aR hp,aR hp]
    refine ⟨V,⟨by rw[hH];exact c.zq,λt x A=>?_,λn q hq=>tK (c.dom n q hq),fJ c.low,hinv,hIE,c.inert,c.size⟩,by rw[hH];exact vT.refl _ _ _ _,hKp⟩;rw[hH];by_cases ht:t=i
    .subst ht;simp only[fB,PT.get_set,bo,aB,hrow,af]at A;subst A;rw[hsame];exact hk0
    .exact c.env t x (hE t x ht A)
   .have hid1:erHF e.h (nm id)=Z ⟨ty,.fz (xs.flatMap (bP T))⟩:=by rw[hid0,aE hp]
    let⟨kk,k1,k2,ob,k3,k4⟩:=c.zq.at_ _ _ hid1;have hφn:V (nm e.nx)=U:=by
     cases hq:V (nm e.nx) with
     |none=>rfl
     |some q=>have:=c.dom _ q hq;rw[dh]at this;omega
    let nw:HF:=λn=>if n=nm e.nx then Z ⟨ty,.fz (xs.flatMap (bP T))⟩ else U
    have hsh:F4 w w kk ob:=⟨rfl,rfl,rfl,rfl,k3,λ_ _=>rfl,λ_=>rfl⟩
    let⟨φ',p1,p2,p3,p4⟩:=c.zq.wren hid1 k1 hφn hsh k4 nw (by simp[nw]) (by simp only[nw];rw[aE hni.symm]);have hH:dZ (erHF e.h) [nm e.nx,nm id] nw=erHF I:=by
     funext n;by_cases e2:n=nm e.nx
     .subst e2;rw[hnx2,aE hp];simp[dZ,nw]
     .by_cases N:n=nm id
      .subst N;rw[hdead];simp[dZ,nw,hni.symm]
      .rw[hoth n e2 N];simp[dZ,e2,N]
    rw[hH]at p2 p4;refine ⟨φ',⟨p4,λt x A=>?_,λn q hq=>?_,fJ c.low,hinv,hIE,c.inert,c.size⟩,⟨C5.refl _ _,p2.qn,λk hi=>?_⟩,hKp⟩
    .by_cases ht:t=i
     .subst ht;simp only[fB,PT.get_set,bo,aB,hrow,af]at A;subst A;unfold dA at hk0 ⊢;rw[aE hp]at hk0 ⊢;generalize Q.tmps.getD t undef=z at hk0;cases hk0 with
      |@G _ _ _ cc q hφq hn hc hs2=>
       rw[k1,af]at hφq;subst hφq;exact .G p1 hn hc hs2
     .exact p2.ql (c.env t x (hE t x ht A))
    .rcases p3 n q hq with h4|h4
     .exact tK (c.dom n q h4)
     .simp only[aA]at h4;subst h4;rw[dh];exact ib _
    .cases hq:φ' k with
     |none=>
      cases hq2:V k with
      |none=>rfl
      |some z=>rw[p2.sub _ _ hq2]at hq;cases hq
     |some z=>
      rcases p3 _ _ hq with h4|h4
      .exact h4.symm
      .simp only[aA]at h4;subst h4;rw[dh]at hi;have:=c.low;omega
  .cases h
 .cases h
def anp (c:iI P E nt np V e Q w) {ad:Adj} {s':TS} (h:Iq e ad=Z s') (hnr:∀k off,ad≠ .qx k off) (hnt:∀k off,ad≠ .tak k off):iI P E nt np V s' Q w/\vT np V V (erHF e.h) (erHF s'.h) w w/\fA (lW [ad] 0) e.e s'.e:=by
 cases ad with
 |qx k off=>exact bO rfl (hnr k off)
 |tak k off=>exact bO rfl (hnt k off)
 |fmp k off ty S=>
  simp only[Iq]at h;split at h
  .split at h
   .rename_i K' V' es D;split at h
    next hE=>cases h;let⟨h1,h2⟩:=aqw c D hE ty S;exact⟨h1,h2,fA.refl _ _⟩
    .cases h
   .cases h;exact⟨c,vT.refl _ _ _ _,fA.refl _ _⟩
   .cases h
  .cases h
 |frw k off off2 ty=>
  simp only[Iq]at h;split at h
  .rename_i o id q _ _;split at h
   .rename_i ai es cty l ho D;split at h
    .rename_i v hv;split at h
     .rename_i hn;cases h;let⟨F,I⟩:=aqu c ai ty;have hid:id≠e.nx:=λs=>by have:=c.qz.low id _ D;omega
      let⟨c2,t2⟩:=U2 F (id:=id) (cty:=cty) (l:=l) (v:=v) (u:=.G e.nx) (by show (e.h.set e.nx _).get id=_;rw[PT.get_set,aE hid];exact D) hv hn (by simp only[b7,bH,PT.get_set,bo,aB,hZ,qY,dA];rfl) (by simp only[Mv,bH,PT.get_set,bo];rfl);exact⟨c2,by rw[<- I];exact t2,fA.refl _ _⟩
     .cases h;exact⟨c,vT.refl _ _ _ _,fA.refl _ _⟩
    .cases h
   .cases h
  .cases h
 |nil k ty T=>
  simp only[Iq]at h;split at h
  .rename_i v hv;split at h
   .rename_i hn;cases h;let⟨F,I,N⟩:=Zh c ty T;refine ⟨⟨F.zq,?_,F.dom,F.low,F.qz,?_,F.inert,F.size⟩,by rw[I];exact vT.refl _ _ _ _,?_⟩
    .intro t x A;simp only[fB,PT.get_set]at A;split at A
     next et=>subst et;simp only[aB,b7,bH,PT.get_set,bo,hZ,dA,em,cz,sX,af]at A;subst A;let⟨z,hz⟩:=oA e.h v (c.qp _ v hv);rw[I];exact Tr hn hz _ _ _ _ (c.env _ _ (by simp only[fB,hv,aB,hz]))
     .exact F.env t x A
    .intro t x A;simp only[PT.get_set]at A;split at A
     .cases A;simp only[Mv,bH,PT.get_set,bo];rfl
     .exact F.qp t x A
    .intro t ht v' hv';simp only[PT.get_set]at hv';split at hv'
     next et=>subst et;simp only[lW]at ht;rw[bj,bq.2 rfl]at ht;simp at ht
     .exact⟨v',hv',λ_=>rfl⟩
   .cases h;exact⟨c,vT.refl _ _ _ _,fA.refl _ _⟩
  .cases h
 |qc k off ty T=>
  simp only[Iq]at h;split at h
  .rename_i id o hk;split at h
   .rename_i cty l D;split at h
    .rename_i v hv;split at h
     .rename_i hn;cases h;let⟨F,I,N⟩:=Zh c ty T;have hid:id≠e.nx:=λs=>by have:=c.qz.low id _ D;omega
      let⟨c2,t2⟩:=U2 F (id:=id) (cty:=cty) (l:=l) (v:=v) (u:=.G e.nx) (by show (e.h.set e.nx _).get id=_;rw[PT.get_set,aE hid];exact D) hv hn (by simp only[b7,bH,PT.get_set,bo,aB,hZ,dA,em,cz,sX]) (by simp only[Mv,bH,PT.get_set,bo];rfl);exact⟨c2,by rw[<- I];exact t2,fA.refl _ _⟩
     .cases h;exact⟨c,vT.refl _ _ _ _,fA.refl _ _⟩
    .cases h
   .cases h
  .cases h
 |mpt k K φ=>
  simp only[Iq]at h;split at h
  .rename_i id hk;split at h
   .rename_i K' V' es D;split at h
    .rename_i hE;cases h;have N:b8 e.h (e.h.set id (Z (.mp K φ []))):=b8.set λr N=>by rw[bH,D]at N;cases N
     have I:erHF (e.h.set id (Z (.mp K φ [])))=erHF e.h:=by
      funext n;by_cases hn:n=nm id
      .subst hn;rw[bU,bU,PT.get_set,aR rfl,D];simp only[aB,jG,zR (adl (lD.1 hE).1),zR (lD.1 hE).2,PA (lD.1 hE).1,kV]
      .refine lT c.qz N (il.set (by rw[D];rfl) rfl) λi s=>?_
       subst s;rw[PT.get_set,aE (λs=>hn (by rw[s]))]
     refine ⟨⟨by rw[I];exact c.zq,?_,c.dom,c.low,c.qz.set N (c.qz.low id _ D) (bL _) (λ_ _ he=>by cases he),λt x A=>l9 N x (c.qp t x A),c.inert,c.size⟩,by rw[I];exact vT.refl _ _ _ _,fA.refl _ _⟩;intro t x A;rw[I];simp only[fB]at A;cases he:e.e.get t with
     |none=>rw[he]at A;cases A
     |some q=>
      rw[he]at A;let⟨z,hz⟩:=oA e.h q (c.qp t q he);simp only[aB,fm N q z hz,af]at A;subst A;exact c.env t _ (by simp only[fB,he,aB,hz])
    .cases h;exact⟨c,vT.refl _ _ _ _,fA.refl _ _⟩
   .cases h
  .cases h
 |pk k off T=>
  simp only[Iq]at h;split at h
  .obtain⟨h1,h2,h3⟩:=aqb c h;exact⟨h1,h2,h3.mono λk hk=>by simp at hk⟩
  .cases h
def ano (c:iI P E nt np V e Q w) {z:Adj} {s':TS} (h:Iq e z=Z s'):∃φ',iI P E nt np φ' s' Q w/\vT np V φ' (erHF e.h) (erHF s'.h) w w/\fA (lW [z] 0) e.e s'.e:=by
 by_cases A:∃k off,z= .qx k off
 .obtain⟨k,off,rfl⟩:=A;exact aq7 c h
 .by_cases q:∃k off,z= .tak k off
  .obtain⟨k,off,rfl⟩:=q;simp[Iq]at h;split at h
   .obtain⟨he,φ',h1,D⟩:=am9 c h;exact⟨φ',h1,D,by rw[he];exact fA.refl _ _⟩
   .cases h
  .exact⟨V,anp c h (λk off s=>A ⟨k,off,s⟩) λk off s=>q ⟨k,off,s⟩⟩
def Rd {φ:PM} {a:Act} {w:World}:∀{l:Y Adj} {s s':TS},iI P E nt np φ s a w->U0 s l=Z s'->∃φ',iI P E nt np φ' s' a w/\vT np φ φ' (erHF s.h) (erHF s'.h) w w/\fA (lW l 0) s.e s'.e
 |[],s,s',c,h=>by simp[U0,af]at h;subst h;exact⟨φ,c,vT.refl _ _ _ _,fA.refl _ _⟩
 |A::r,s,s',c,h=>by
  simp[U0]at h;split at h
  .rename_i s1 h1;let⟨φ1,c1,F,k1⟩:=ano c h1;let⟨φ2,N,D,k2⟩:=Rd c1 h;refine ⟨φ2,N,F.trans D,(k1.mono ?_).trans (k2.mono ?_)⟩
   .intro k z;cases A with
    |nil q ty T|qx q off=>simp[lW]at z ⊢;rw[jY,bj,z];rfl
    |_=>simp[lW]at z
   .intro k z;cases A with
    |nil q ty T|qx q off=>simp[lW];rw[jY,bj,z];simp
    |_=>simp[lW];exact z
  .cases h
mutual
def Tb {h:a_}:∀(v:TV) (y:AV),uI v=J->b7 h v=Z y->y.all (λ_=>aa)=J
 |.f _ _,y,_,he|.zw _ _ _ _ _,y,_,he|.emp,y,_,he|.nil,y,_,he|.undef,y,_,he|.np,y,_,he|.qv,y,_,he=>by simp[b7,af]at he;subst he;rfl
 |.agg l,y,hl,he|.qb l,y,hl,he=>by
  simp[b7]at he;split at he
  .rename_i l' hl';simp[af]at he;subst he;exact Fz l l' hl hl'
  .cases he
 |.qr _ _ _ _,_,h,_|.H _ _,_,h,_|.qk _ _ _,_,h,_|.G _,_,h,_|.zp _ _,_,h,_|.mp _,_,h,_|.qh _ _,_,h,_|.qy _ _,_,h,_=>by cases h
def Fz {h:a_}:∀(l:Y TV) (l':Y AV),qT l=J->cN h l=Z l'->AV.allL (λ_=>aa) l'=J
 |[],l',_,he=>by simp[cN,af]at he;subst he;rfl
 |x::r,l',hl,he=>by
  obtain⟨y,l2,rfl,e1,e2⟩:=cY he;simp[qT,al]at hl;simp[AV.allL,al];exact⟨Tb x y hl.1 e1,Fz r l2 hl.2 e2⟩
end
mutual
def YJ (h:a_):∀(v:TV),uI v=J->Mv h v=J
 |.f _ _,_|.zw _ _ _ _ _,_|.emp,_|.nil,_|.undef,_|.np,_|.qv,_=>rfl
 |.agg l,hl|.qb l,hl=>Kq h l hl
 |.qr _ _ _ _,h|.H _ _,h|.qk _ _ _,h|.G _,h|.zp _ _,h|.mp _,h|.qh _ _,h|.qy _ _,h=>by cases h
def Kq (h:a_):∀(l:Y TV),qT l=J->kR h l=J
 |[],_=>rfl
 |x::r,hl=>by
  simp[qT,al]at hl;simp[kR,al];exact⟨YJ h x hl.1,Kq h r hl.2⟩
end
structure Seen (np:Nat) (t:Tm) (x:t.ty.den) (us:List TV) (h1:a_) (φ φ':PM) (H:HF) (E:Nat->Prop) (w:World) (la lu:List AV):Prop where
 zq:oM φ' E (erHF h1) w
 val:∀(j:Nat) y v,lu[j]? =Z y->∃z,la[j]? =Z z/\(cm φ (tot E φ H) w z v->cm φ' (tot E φ' (erHF h1)) w y v)
 len:l! lu=l! la
 tot_:∀k,tot E φ' (erHF h1) k->tot E φ H k
 qn:∀k,own φ' (erHF h1) k->own φ H k
 dom:∀n k,φ' n=Z k->ow n<l! t.bs
 par:∀n,ow n<np->ow n<l! t.bs->φ' n=φ n
def Ms {t:Tm} {x:t.ty.den} {h1:a_} {l1:Y (M eC)} (I:nL t x B h1 l1) (hinv:gC h i) {vs:Y TV} {σ:PT Nat} {sm:Nat} (g:I8 np t vs h x m σ sm) (hla:cN h vs=Z N) (r:oM V E (erHF h) w):∃φ' lu,cN h1 B=Z lu/\Seen np t x B h1 V φ' (erHF h) E w N lu:=by
 let⟨x1,m1,x2,m2,hx,hmm,gv,gb⟩:=g.ex;have pvg:oO (gU σ) t.vs x1=Z (kq (gU σ) B):=by
  have h3:=t_ (gU σ) t.vs x1;have D:=I.pv;rw[hx,tT]at D;rw[h3,D];rfl
 have pbg:pM (gU σ) t.bs x2=Z (l1.map (gS (kg (gU σ)))):=by
  have h3:=wx (gU σ) t.bs x2;have D:=I.pb;rw[hx,vx]at D;rw[h3,D];rfl
 have hbm:∀nx b,l1[nx]? =Z (Z b)->∃b0,h.get (gU σ nx)=Z b0/\BM (gU σ) h m b0 (kg (gU σ) b):=λnx b A=>by
  let⟨b0,q1,q2⟩:=Ko t.bs 0 x2 m2 _ gb pbg nx (kg (gU σ) b) (by grind);rw[b6]at q1;exact⟨b0,q1,q2.mono λj hj=>by rw[hmm,bj,hj];simp⟩
 let la:a_:=Bv (gU σ) 0 (l1.map (gS (kg (gU σ)))) PT.leaf
 have hv_at:∀nx b,l1[nx]? =Z (Z b)->la.get (gU σ nx)=Z (kg (gU σ) b):=λnx b A=>by
  have:=vF (gU σ) (l1.map (gS (kg (gU σ)))) 0 PT.leaf (λa b ha A=>by
   simp only[bN,I.len]at ha A;simp only[b6];exact g.inj a b ha A) nx (Z (kg (gU σ) b)) (by grind)
  grind
 have hv_ex:∀j c,la.get j=Z c->∃nx b,l1[nx]? =Z (Z b)/\j=gU σ nx/\c=kg (gU σ) b:=λj c hj=>by
  by_cases hex:∃nx,nx<l1.length/\j=gU σ nx
  .obtain⟨nx,hi,rfl⟩:=hex;have hcc:=aH hi;cases hcv:l1[nx] with
   |some b=>rw[hcv]at hcc;rw[hv_at nx b hcc]at hj;cases hj;exact⟨nx,b,hcc,rfl,rfl⟩
   |none=>
    rw[hcv]at hcc;have:=vF (gU σ) (l1.map (gS (kg (gU σ)))) 0 PT.leaf (λa b ha A=>by
     simp only[bN,I.len]at ha A;simp only[b6];exact g.inj a b ha A) nx U (by grind)
    rw[b6]at this;have hj':(Bv (gU σ) 0 (l1.map (gS (kg (gU σ)))) PT.leaf).get (gU σ nx)=Z c:=hj;rw[this]at hj';simp[PT.get]at hj'
  .have:la.get j=(PT.leaf:a_).get j:=vE (gU σ) _ 0 _ j λk F=>by
    grind
   rw[this]at hj;simp[PT.get]at hj
 have rows_in:yd la h:=λj q hq=>by
  rw[bH]at hq ⊢;cases hc:la.get j with
  |none=>rw[hc]at hq;cases hq
  |some c=>
   rw[hc]at hq;obtain⟨nx,b,q1,rfl,rfl⟩:=hv_ex j c hc;let⟨b0,q2,q3⟩:=hbm nx b q1;rw[q2];simp only[aB]at hq ⊢;rw[<- q3.G];exact hq
 have rows_h1:∀nx q,ep h1 nx=Z q->ep la (gU σ nx)=Z q:=λnx q hq=>by
  rw[bH]at hq ⊢;cases A:h1.get nx with
  |none=>rw[A]at hq;cases hq
  |some b=>
   rw[A]at hq;rw[hv_at nx b ((I.at_ nx b).1 A)];simp only[aB,Jj]at hq ⊢;exact hq
 have hd:qe (erHF h) (erHF la):=λn y hy=>by
  let⟨c,h3,D⟩:=gV hy;obtain⟨nx,b,q1,e,rfl⟩:=hv_ex _ c h3;let⟨b0,q2,q3⟩:=hbm nx b q1;unfold erHF;rw[e,q2];rw[e]at D;cases F:ix n with
  |zero=>
   rw[F]at D;exact BM.erB_some hinv q2 q3 D
  |succ k=>
   rw[F]at D;exact⟨y,(q3.mem _ _).trans D⟩
 have gvv:C4 h (erHF h) (erHF la) m:=λnx hi=>⟨rfl,by
  cases hc:erHF la (nm nx) with
  |none=>rfl
  |some y=>
   let⟨c,h3,D⟩:=gV hc;rw[dh]at h3;obtain⟨k,b,q1,rfl,rfl⟩:=hv_ex nx c h3;have F:k<t.bs.length:=by rw[<- I.len];exact (bm.1 q1).1
   have h5:=g.disj _ hi;rw[(g.sig _).2 ⟨k,F,rfl⟩]at h5;cases h5⟩
 have φ:L4 (erHF h) (erHF la):=⟨hd,λn b b' A hb'=>by
  let⟨c,h3,D⟩:=gV hb';obtain⟨nx,bb,q1,e,rfl⟩:=hv_ex _ c h3;let⟨b0,q2,q3⟩:=hbm nx bb q1;unfold erHF at A;rw[e,q2]at A;rw[e]at D;have A:Mn h (gU σ nx) (ix n) b0=Z b:=A;cases F:ix n with
  |zero=>
   rw[F]at D A;exact BM.view hd gvv rows_in q3 A D
  |succ k=>
   rw[F]at D A;have:=(q3.mem _ _).symm.trans A;have D:vh (gU σ nx) k (kg (gU σ) bb)=Z b':=D;rw[D]at this;cases this;exact fM.refl hd _⟩
 have rv:=φ.zq r;have T:ajx t x B h1 (gU σ) V E E (erHF la) w:=by
  have hat:∀n y,erHF h1 n=Z y->erHF la (oL (gU σ) n)=Z (y.qx (oL (gU σ))):=λn y hn=>by
   let⟨b,A,hyb⟩:=gV hn;unfold erHF;rw[vV,xI,hv_at _ b ((I.at_ _ b).1 A)];exact Bi rows_h1 hyb
  refine oM.toId I g.inj rv hat (λk F=>.inl F) (λn k y hn D hE=>?_) rv.el;let⟨k',p1,p2,_⟩:=rv.at_ _ _ (hat n y hn)
  grind
 let⟨lu,hlu⟩:=fb h1 B I.ok;have hlug:cN la (kq (gU σ) B)=Z (AV.renL (oL (gU σ)) lu):=pt rows_h1 B lu hlu;have hle:=DX hd rows_in t.vs vs x1 m1 _ N _ gv pvg hla hlug (λnx hi=>gvv nx (by grind));have hall:=tQ B lu I.lt hlu;refine ⟨_,lu,hlu,T.zq,λj y v hy=>?_,?_,λk F=>hd.tot (T.tot_ k F),λk F=>hd.own (T.qn k F),λn k F=>?_,λnx hi A=>?_⟩
 .rw[mV]at hle;let⟨z,hz,hlz⟩:=hle.get j (y.qx (oL (gU σ))) (by grind);exact⟨z,hz,λhr=>T.val y v (mg hall y (bd hy)) (hlz _ _ _ _ r hr)⟩
 .have:=gu.length hle;rw[mV,bN]at this;exact this
 .exact (xn F).1
 .rw[ac6 A];unfold oL;rw[g.fix _ hi,j9]
def PK (c:iI P E nt np V e Q w) {A:Ann} {s0 s1:TS} {x:A.D} (q:MY np A i s0 e=Z x) (hs:HQ A i s0 x=Z s1)
 (hk:∀k,k∈A.ql->k∉A.ks->∀v,s0.e.get k=Z v->uI v=J->aC i k=aa->∀v',e.e.get k=Z v'->v'=v):∃φ',iI P E nt np φ' s1 Q w/\vT np V φ' (erHF e.h) (erHF s1.h) w w:=by
 unfold MY at q;split at q
 .rename_i hc;simp only[al]at hc;have hnp:=aW hc.1;split at q
  .rename_i s2 h2;let⟨φ2,c2,t2,_⟩:=Rd c h2;split at q
   .rename_i vs hvs;split at q
    .rename_i z m σ sm hM;simp[af]at q;subst q;have g:=wJ hM;unfold HQ at hs;split at hs
     .rename_i us h1 hi;let⟨l1,I⟩:=wP hi;split at hs
      .rename_i hlen;have hlen:=au hlen;simp[af]at hs;subst hs;let⟨g1,g2⟩:=YI hvs;have hvok:kR s2.h vs=J:=Jy c2.qp hvs;let⟨la,hla⟩:=fb s2.h vs hvok;let⟨φ',lu,hlu,S⟩:=Ms (E:=E) I c2.qz g hla c2.zq;refine ⟨φ',⟨S.zq,?_,S.dom,hnp,⟨λam ty l hl=>(I.C am _ l hl).1,λam b hb=>I.lt_len hb⟩,?_,c.inert,c.size⟩,t2.trans ⟨C5.refl _ _,λk _ h=>S.qn k h,λam hi=>S.par am hi (by omega)⟩⟩
       .intro t y F;simp[fB]at F;cases ht:(Zx (DH i s0.e A.ql) A.ks us).get t with
        |none=>rw[ht]at F;cases F
        |some v=>
         rw[ht]at F;simp[aB]at F;rcases Dg hlen t v ht with ⟨j,q1,N⟩|⟨q1,N⟩
         .obtain⟨y',p1,p2⟩:=lw hlu j v N;rw[F]at p2;cases p2;let⟨z,p3,p4⟩:=S.val j y (Q.tmps.getD t undef) p1;refine p4 ?_;let⟨v0,p5,p6⟩:=g2 j t q1;let⟨z',p7,p8⟩:=lw hla j v0 p5;rw[p3]at p7;cases p7;exact c2.env t _ (by simp[fB,p6,aB,p8])
         .obtain⟨k1,k2,k3,k4⟩:=ub N;let⟨v',k5⟩:=JY hc.2 t v k1 k2 k3 k4;have:=hk t k1 q1 v k2 k3 k4 v' k5;subst this;have h3:=c.env t y (by simp[fB,k5,aB];rw[Ts e.h h1 v' k3];exact F);exact h3.restrict (p:=λ_=>aa) (λam k hi _=>by cases hi) (λk hk=>by
           have h4:=S.tot_ k hk;rcases h4 with h4|h4
           .exact .inl h4
           .exact .inr (by
             have hkl:k<w.heap.size:=by
              let⟨n,b,e1,e2⟩:=h4;let⟨k',p1,_,ob,p3,_⟩:=c2.zq.at_ n b e1
              grind
             exact t2.qn k hkl h4)) (Tb v' y k3 F)
       .intro t v hv;rcases Dg hlen t v hv with ⟨j,q1,N⟩|⟨q1,N⟩
        .obtain⟨y',_,p2⟩:=lw hlu j v N;exact FG _ _ _ p2
        .exact YJ _ v (ub N).2.2.1
      .cases hs
     .cases hs
    .cases q
   .cases q
  .cases q
 .cases q
def E6 {A:Ann} {z:TS} {x:A.D} (c:HQ A i e x=Z z):fA (Mx A.ks 0) e.e z.e/\∀k,k∉A.ks->∀v,z.e.get k=Z v->e.e.get k=Z v:=by
 unfold HQ at c;split at c
 .rename_i N h1 hi;split at c
  .rename_i hlen;have hlen:=au hlen;simp[af]at c;subst c;have key:∀k,k∉A.ks->∀v,(Zx (DH i e.e A.ql) A.ks N).get k=Z v->e.e.get k=Z v:=λk F v I=>by
    rcases Dg hlen k v I with ⟨j,q1,_⟩|⟨_,q2⟩
    .grind
    .exact (ub q2).2.1
   refine ⟨λk F v' I=>?_,key⟩;have hnk:k∉A.ks:=λhm=>by rw[Yt hm]at F;cases F
   grind
  .cases c
 .cases c
end walk
inductive Er:TC->SC->Prop
 |skip:Er .skip .skip
 |jw (ops:List o9) (prs:List (Nat×Nat)):Er (.jw ops prs) (.jw ops prs)
 |seq {a b:TC} {a' b':SC}:Er a a'->Er b b'->Er (.seq a b) (.seq a' b')
 |zl (A:Ann) {a b:TC} {a' b':SC}:Er a a'->Er b b'->Er (.zl A a b) (.seq a' b')
 |cond (c:Nat) {a b:TC} {a' b':SC}:Er a a'->Er b b'->Er (.cond c a b) (.cond c a' b')
 |block (id:Nat) {b:TC} {b':SC}:Er b b'->Er (.block id b) (.block id b')
 |zj (A:Ann) (id:Nat) {b:TC} {b':SC}:Er b b'->Er (.zj A id b) (.block id b')
 |loop (A:Ann) {b:TC} {b':SC}:Er b b'->Er (.loop A b) (.loop b')
 |exit (id:Nat):Er (.exit id) (.exit id)
 |ret:Er .ret .ret
 |defer (f:FuncId) (c:List Operand) (t:Nat):Er (.defer f c t) (.defer f c t)
 |adj (l:List Adj) {c:TC} {c':SC}:Er c c'->Er (.adj l c) c'
 |split (k off lo n:Nat) {c:TC} {c':SC}:Er c c'->Er (.split k off lo n c) c'
 |bsp (t:Nat) {a b:TC} {c':SC}:Er a c'->Er b c'->Er (.bsp t a b) c'
 |unl (n:Nat) {b:TC} {b':SC}:Er b b'->Er (.unl n b) (.loop b')
 |zh (c:SC):Er .zh c
def Db {H:PT agf} {c:TC} {q:SC} (h:Er c q):Er (Jb H i c) q:=by
 unfold Jb;split
 .exact .adj _ h
 .exact .split _ _ _ _ h
 .exact .bsp _ (.split _ _ _ _ h) h
 .exact h
def xX (H:PT agf):∀(c:SC) (n:Nat),Er (FK H c n).1 c
 |.skip,n=>Db .skip
 |.jw o p,n=>Db (.jw o p)
 |.seq a b,n=>by
  have h1:=xX H a (n+1);have q:=xX H b (FK H a (n+1)).2;simp[FK];split
  .exact .zl _ h1 q
  .exact .seq h1 q
 |.cond c a b,n=>by
  have h1:=xX H a (n+1);have q:=xX H b (FK H a (n+1)).2;exact Db (.cond c h1 q)
 |.block id b,n=>by
  have h1:=xX H b (n+1);simp[FK];split
  .exact .zj _ id h1
  .exact .block id h1
 |.loop b,n=>by
  have h1:=xX H b (n+1);simp[FK];split
  .exact .loop _ h1
  .exact .unl _ h1
  .exact .zh _
 |.exit id,n=>Db (.exit id)
 |.ret,n=>Db .ret
 |.defer f c t,n=>.defer f c t
 |.zh,n=>.zh _
def ZQ {σ:Type} {step:σ->M (σ⊕R)} {x:σ} {r:R} (h:iter step x=Z r):∃n,iterN step n x=Z r:=by
 unfold iter at h;split at h
 .exact⟨_,h⟩
 .cases h
def Yw {α:Type} {o:M (R⊕α)} {k:α->M R} {r:R} (h:jn o k=Z r):(∃x,o=Z (.inr x)/\k x=Z r)\/o=Z (.inl r):=by
 unfold jn at h
 grind
section inv
variable {P:Program} {nt:Nat}
def AB (id:Nat) (ops:Array Oper) (c:Bool):bA P nt (.region id ops c)= .zh\/
 ((ops.toList.all λo=>match o.dst with|some d=>decide (d<nt)|none=>J)=J/\
   ((∃f caps t,xW ops c=Z (f,caps,t)/\bA P nt (.region id ops c)= .defer f caps t)\/
    ∃l prs,mL P ops ops.toList=Z l/\Dq ops l=Z prs/\bA P nt (.region id ops c)= .jw l prs)):=by
 simp[bA]
 grind
def Fe:Code->Bool
 |.cond (.const (.bool _)) _ _=>aa
 |_=>J
def kn (P:Program) (nt:Nat) (c:Code):∃q,Fe q=J/\bA P nt q=bA P nt c/\∀Q a w,q.wp P Q a w->c.wp P Q a w:=by
 have self:∀c:Code,Fe c=J->∃q,Fe q=J/\bA P nt q=bA P nt c/\∀Q a w,q.wp P Q a w->c.wp P Q a w:=λc h=>⟨c,h,rfl,λ_ _ _ h=>h⟩
 induction c with
 |cond o x y ihx ihy=>
  cases o with
  |const v=>
   cases v with
   |bool b=>
    cases b with
    |true=>
     let⟨q,h1,A,z⟩:=ihx;exact⟨q,h1,A,λQ a w h=>wp_cond_true rfl (z Q a w h)⟩
    |false=>
     let⟨q,h1,A,z⟩:=ihy;exact⟨q,h1,A,λQ a w h=>wp_cond_false rfl (z Q a w h)⟩
   |_=>exact self _ rfl
  |_=>exact self _ rfl
 |_=>exact self _ rfl
variable {c:Operand}
def Gs {α:Prop} {x y:Code} {o:SC} (z:Fe (.cond c x y)=J) (h:bA P nt (.cond c x y)=o) (h1:o≠ .zh) (A:∀t a b,o≠ .cond t a b):α:=by
 cases c with
 |tmp q=>exact (A _ _ _ h.symm).elim
 |const v=>cases v<;>first|exact (h1 h.symm).elim|cases z
 |_=>exact (h1 h.symm).elim
def aia {c:Code} {sl:Y o9} {prs:Y n!} (z:Fe c=J) (h:bA P nt c= .jw sl prs):∃id ops q,c= .region id ops q/\(ops.toList.all λo=>match o.dst with|some d=>decide (d<nt)|none=>J)=J/\mL P ops ops.toList=Z sl/\Dq ops sl=Z prs:=by
 cases c with
 |region id ops q=>
  rcases AB (P:=P) (nt:=nt) id ops q with h1|⟨hd,⟨f,caps,t,_,h1⟩|⟨l,p,D,A,h1⟩⟩
  .rw[h1]at h;cases h
  .rw[h1]at h;cases h
  .grind
 |cond o x y=>exact Gs z h (by simp) (by simp)
 |_=>simp[bA]at h
def ZR {c:Code} {caps:Y Operand} (z:Fe c=J) (h:bA P nt c= .defer f caps i):∃id ops q,c= .region id ops q/\(ops.toList.all λo=>match o.dst with|some d=>decide (d<nt)|none=>J)=J/\xW ops q=Z (f,caps,i):=by
 cases c with
 |region id ops q=>
  rcases AB (P:=P) (nt:=nt) id ops q with h1|⟨hd,⟨I,caps',D,A,h1⟩|⟨l,p,A,F,h1⟩⟩
  .rw[h1]at h;cases h
  .grind
  .rw[h1]at h;cases h
 |cond o x y=>exact Gs z h (by simp) (by simp)
 |_=>simp[bA]at h
def px {c:Code} {q:SC} (h:bA P nt c=q) (h1:q≠ .zh) (F:∀a b,q≠ .jw a b) (D:∀a b t,q≠ .defer a b t):∀id ops A,c≠ .region id ops A:=by
 rintro id ops A rfl;rcases AB (P:=P) (nt:=nt) id ops A with z|⟨_,⟨f,caps,t,_,z⟩|⟨l,p,_,_,z⟩⟩<;>rw[z]at h
 .exact h1 h.symm
 .exact D _ _ _ h.symm
 .exact F _ _ h.symm
def ae2 {c:Code} (q:Fe c=J) (h:bA P nt c= .skip):c= .skip:=by
 have nr:=px h (by simp) (by simp) (by simp);cases c with
 |skip=>rfl
 |region id ops z=>exact bO rfl (nr id ops z)
 |cond o x y=>exact Gs q h (by simp) (by simp)
 |_=>simp[bA]at h
def ai9 {c:Code} (q:Fe c=J) (h:bA P nt c= .ret):c= .ret:=by
 have nr:=px h (by simp) (by simp) (by simp);cases c with
 |ret=>rfl
 |region id ops z=>exact bO rfl (nr id ops z)
 |cond o x y=>exact Gs q h (by simp) (by simp)
 |_=>simp[bA]at h
def ae3 {c:Code} (q:Fe c=J) (h:bA P nt c= .exit i):c= .exit i:=by
 have nr:=px h (by simp) (by simp) (by simp);cases c with
 |exit id=>simp[bA]at h;rw[h]
 |region id ops z=>exact bO rfl (nr id ops z)
 |cond o x y=>exact Gs q h (by simp) (by simp)
 |_=>simp[bA]at h
def Yy {c:Code} {a b:SC} (q:Fe c=J) (h:bA P nt c= .seq a b):∃x y,c= .seq x y/\bA P nt x=a/\bA P nt y=b:=by
 have nr:=px h (by simp) (by simp) (by simp);cases c with
 |seq x y=>simp[bA]at h;exact⟨x,y,rfl,h.1,h.2⟩
 |region id ops z=>exact bO rfl (nr id ops z)
 |cond o x y=>exact Gs q h (by simp) (by simp)
 |_=>simp[bA]at h
def ae4 {c:Code} {a b:SC} (z:Fe c=J) (h:bA P nt c= .cond i a b):∃x y,c= .cond (.tmp i) x y/\bA P nt x=a/\bA P nt y=b:=by
 have nr:=px h (by simp) (by simp) (by simp);cases c with
 |cond o x y=>
  cases o with
  |tmp q=>simp[bA]at h;obtain⟨rfl,h1,A⟩:=h;exact⟨x,y,rfl,h1,A⟩
  |const v=>cases v<;>first|(simp [bA]at h;done)|cases z
  |_=>simp[bA]at h
 |region id ops D=>exact bO rfl (nr id ops D)
 |_=>simp[bA]at h
def N5 {c:Code} {b:SC} (q:Fe c=J) (h:bA P nt c= .block i b):∃y,c= .block i y/\bA P nt y=b:=by
 have nr:=px h (by simp) (by simp) (by simp);cases c with
 |block id y=>simp[bA]at h;obtain⟨rfl,h1⟩:=h;exact⟨y,rfl,h1⟩
 |region i ops z=>exact bO rfl (nr i ops z)
 |cond o x y=>exact Gs q h (by simp) (by simp)
 |_=>simp[bA]at h
def Sd {c:Code} {b:SC} (q:Fe c=J) (h:bA P nt c= .loop b):∃y,c= .loop y/\bA P nt y=b:=by
 have nr:=px h (by simp) (by simp) (by simp);cases c with
 |loop y=>simp[bA]at h;exact⟨y,rfl,h⟩
 |region id ops z=>exact bO rfl (nr id ops z)
 |cond o x y=>exact Gs q h (by simp) (by simp)
 |_=>simp[bA]at h
end inv
def alx (P:Program) (E:Nat->Prop) (nt np:Nat) (φ:PM) (s:TS) (w:World) (am:Nat) (K:Ex->TS->M R) (r:R):Exit->Act->World->Prop:=
 λe c w'=>∃ex s' φ',e=ex.to/\K ex s'=Z r/\iI P E nt np φ' s' c w'/\vT np φ φ' (erHF s.h) (erHF s'.h) w w'/\fA am s.e s'.e
def iI.bool (c:iI P O i m V e Q w) {t:Nat} (ht:e.e.get t=Z (.f .bool b)):Q.eval (.tmp t)= .bool b:=
 dL (c.env t _ (by simp[fB,ht,aB,b7];rfl))
def iI.qv (c:iI P O i m V e Q w) {t:Nat} (ht:e.e.get t=Z .qv):∃b,Q.eval (.tmp t)= .bool b:=by
 have:=c.env t .qv (by simp[fB,ht,aB,b7]);show ∃b,Q.tmps.getD t undef= .bool b;generalize Q.tmps.getD t undef=z at this;cases this with
 |qv=>exact⟨_,rfl⟩
def aar {a b:M R} {r:R} (h:FX a b=Z r):a=Z r/\b=Z r:=by
 unfold FX at h
 grind
variable {d:FuncId->Bool}
def aj4 (hin:yi P d) (ha:∀inert∈Q.defers,Vf P inert) (hs:Q.tmps.size=i) {caps:Y Operand} {t:Nat} (hd:(L.toList.all λo=>match o.dst with|some inert=>decide (inert<i)|none=>J)=J) (hdf:xW L b=Z (f,caps,t)) (hi:d f=J) {a:Exit->Act->World->Prop}
 (hQ:∀D,(∀u,u≠t->D.tmps.getD u undef=Q.tmps.getD u undef)->(∀inert∈D.defers,Vf P inert)->D.tmps.size=i->a .normal D w):(Code.region m L b).wp P a Q w:=by
 unfold xW at hdf;split at hdf
 .rename_i p q hops;split at hdf
  .rename_i A first caps' F cl hpo hpg hpd hqo hqg hqd
   split at hdf
   .rename_i t2 hcl hca;split at hdf
    .rename_i hcond;simp only[al]at hcond;let⟨h1,h2⟩:=hcond;have h1:=au h1;have h2:first=#[]:=by grind
     simp only[af,aU]at hdf;obtain⟨rfl,rfl,rfl⟩:=hdf;subst h1 h2;have hops':L=#[p,q]:=by grind
     let⟨hcb,hincalls⟩:=hin A hi;have htn:F<i:=by grind
     let c:Value:=.func (.func A) #[] (caps'.map Q.eval)
     refine wp_region ?_;have I:lY L.size=[0,1]:=by rw[hops'];rfl
     rw[I];have e0:L[0]? =Z p:=by grind
     have e1:L[1]? =Z q:=by grind
     rw[wpOps_cons];have hexec1:(execOp Q.eval p).run P w= .ok (.value c) w:=by
      unfold execOp;rw[hpo];simp[Instr.makeFunc,c]
     have w1:iJ p (yielded L Q.tmps)=J:=by unfold iJ;rw[hpg]
     unfold wpOp;simp only[e0,w1,bo];left;unfold vp;rw[hexec1];show wpOps P L a [1] (Q.put p.dst c) w;rw[wpOps_cons];unfold wpOp;have w2:iJ q (yielded L (Q.put p.dst c).tmps)=J:=by unfold iJ;rw[hqg]
     simp only[e1,w2,bo];left;have N:∀u,(Q.put p.dst c).tmps.getD u undef=if p.dst=Z u then c else Q.tmps.getD u undef:=λu=>Dn (by intro inert z;rw[hpd]at z;cases z;rw[hs];exact htn)
     have heval:(Q.put p.dst c).eval (.tmp F)=c:=by
      show (Q.put p.dst c).tmps.getD F undef=c;rw[N,aR hpd]
     have hargs:cl.args=#[]:=by grind
     have hexec2:(execOp (Q.put p.dst c).eval q).run P w= .ok (.defer {target:=.fn (.func A) (caps'.map Q.eval),args:=#[]}) w:=by
      unfold execOp;rw[hqo];simp[resolve,hcl,heval,c,vu,hargs]
     unfold vp;rw[hexec2];show wpOps P L a [] _ w;refine hQ _ (λu hu=>?_) (λinert z=>?_) ?_
     .rw[hqd];show (Q.put p.dst c).tmps.getD u undef=_;rw[N,aE (by rw[hpd];intro e;cases e;exact hu rfl)]
     .rw[hqd]at z;have hd'':inert={target:=.fn (.func A) (caps'.map Q.eval),args:=#[]}\/inert∈(Q.put p.dst c).defers:=by
       simpa[Act.put] using z
      rcases hd'' with rfl|hd''
      .intro w0;refine ⟨_,_,A,caps'.map Q.eval,rfl,?_,hincalls _ w0⟩;simp[invoke,nR hcb]
      .rw[CA]at hd'';exact ha inert hd''
     .rw[hqd];show (Q.put p.dst c).tmps.size=i;rw[Jn];exact hs
    .cases hdf
   .cases hdf
  .cases hdf
 .cases hdf
def am6 {E:Nat->Prop} (hm:P.follows .mixedOrders=J) (hcon:EV P X) (hin:yi P d):
 ∀{tc:TC} {sc:SC},Er tc sc->∀(c:Code),bA P i c=sc->∀(R:Type) (s:TS) (K:Ex->TS->M R) (r:R),nQ m X W d tc s K=Z r->∀(φ:PM) (a:Act) (w:World),iI P E i m φ s a w->c.wp P (alx P E i m φ s w (tc.asg 0) K r) a w:=by
 intro tc sc hE;induction hE with
 |skip=>
  intro c N R s K r h φ a w g;let⟨c',hn,F,hsim⟩:=kn P i c;refine hsim _ _ _ ?_;rw[<- F]at N;rw[ae2 hn N];exact wp_skip ⟨.normal,s,φ,rfl,h,g,vT.refl _ _ _ _,fA.refl _ _⟩
 |jw ops prs=>
  intro c N R s K r h φ a w g;let⟨c',hn,F,hsim⟩:=kn P i c;refine hsim _ _ _ ?_;rw[<- F]at N;obtain⟨id,os,dr,rfl,h1,h2,h3⟩:=aia hn N;simp only[nQ]at h;refine acz (K:=λs'=>K .normal s') hm hcon g (am:=Ra ops 0) (λj o inert ho hd=>?_) h1 h2 h3 h λa' w' s' φ' q1 I q3 q4=>⟨.normal,s',φ',rfl,q1,I,q3,q4⟩
  have hmem:o∈os.toList:=by have:=Array.mem_of_getElem? ho;simpa using this
  have key:∀(rest:Y Oper) (sl:Y o9),mL P os rest=Z sl->∀o∈rest,∃so∈sl,so.dst=o.dst:=by
   intro rest;induction rest with
   |nil=>intro sl _ o ho;cases ho
   |cons x rest ih=>
    intro sl hsl o ho;simp only[mL]at hsl;split at hsl
    .rename_i l hl;have:∃so,sl=so::l/\so.dst=x.dst:=by
      split at hsl
      .simp only[af]at hsl;exact⟨_,hsl.symm,rfl⟩
      .split at hsl
       .simp only[af]at hsl;exact⟨_,hsl.symm,rfl⟩
       .cases hsl
     obtain⟨so,rfl,hso⟩:=this;rcases bB.1 ho with rfl|ho
     .exact⟨so,by simp,hso⟩
     .obtain⟨q,hq,hq2⟩:=ih l hl o ho;exact⟨q,by simp[hq],hq2⟩
    .cases hsl
  let⟨so,hso,hd2⟩:=key os.toList ops h2 o hmem;exact UV hso (by rw[hd2];exact hd)
 |@seq x y x' y' _ _ ihx ihy=>
  intro c N R s K r h φ a w g;let⟨c',hn,F,hsim⟩:=kn P i c;refine hsim _ _ _ ?_;rw[<- F]at N;obtain⟨cx,cy,rfl,h1,h2⟩:=Yy hn N;simp only[nQ]at h;refine wp_seq (wp_mono (ihx cx h1 R s _ r h φ a w g) ?_);rintro e a' w' ⟨ex,s',φ',rfl,z,g',st,kp⟩;have kp':fA ((TC.seq x y).asg 0) s.e s'.e:=kp.mono λk z=>by simp only[TC.asg];exact jN z
  cases ex with
  |normal=>
   refine wp_mono (ihy cy h2 R s' K r z φ' a' w' g') ?_;rintro e2 a2 w2 ⟨ex2,s2,φ2,rfl,hk2,g2,st2,kp2⟩;exact⟨ex2,s2,φ2,rfl,hk2,g2,st.trans st2,kp'.trans (kp2.mono λk z=>by simp only[TC.asg];exact tX z)⟩
  |exit id=>exact⟨.exit id,s',φ',rfl,z,g',st,kp'⟩
  |ret=>exact⟨.ret,s',φ',rfl,z,g',st,kp'⟩
 |@zl A x y x' y' _ _ ihx ihy=>
  intro c N R s K r h φ a w g;let⟨c',hn,F,hsim⟩:=kn P i c;refine hsim _ _ _ ?_;rw[<- F]at N;obtain⟨cx,cy,rfl,h1,h2⟩:=Yy hn N;simp only[nQ]at h;have sub1:∀k,aC (x.asg 0) k=J->aC ((TC.zl A x y).asg 0) k=J:=λk z=>by simp only[TC.asg];exact jN (tX z)
  have sub2:∀k,aC (y.asg 0) k=J->aC ((TC.zl A x y).asg 0) k=J:=λk z=>by simp only[TC.asg];exact tX z
  have sub3:∀k,aC (Mx A.ks 0) k=J->aC ((TC.zl A x y).asg 0) k=J:=λk z=>by simp only[TC.asg];exact jN (jN z)
  rcases Yw h with ⟨inert,h3,h4⟩|h3
  .refine wp_seq (wp_mono (ihx cx h1 _ s _ _ h3 φ a w g) ?_);rintro e a' w' ⟨ex,s',φ',rfl,z,g',st,kp⟩;cases ex with
   |normal=>
    simp only[]at z;let⟨d',q1,I⟩:=dV z;simp only[af,Sum.inr.injEq]at I;subst I;split at h4
    .rename_i s1 hs1;let⟨φ1,g1,st1⟩:=PK g' q1 hs1 λk _ _ v hv hf ha v' hv'=>by
      let⟨v0,e1,e2⟩:=kp k ha v' hv';rw[hv]at e1;cases e1;exact e2 hf
     refine wp_mono (ihy cy h2 R s1 K r h4 φ1 a' w' g1) ?_;rintro e2 a2 w2 ⟨ex2,s2,φ2,rfl,hk2,g2,st2,kp2⟩;exact⟨ex2,s2,φ2,rfl,hk2,g2,(st.trans st1).trans st2,((E6 hs1).1.mono sub3).trans (kp2.mono sub2)⟩
    .cases h4
   |_=>simp only[]at z;let⟨_,_,I⟩:=dV z;simp at I
  .refine wp_seq (wp_mono (ihx cx h1 _ s _ _ h3 φ a w g) ?_);rintro e a' w' ⟨ex,s',φ',rfl,z,g',st,kp⟩;cases ex with
   |normal=>simp only[]at z;let⟨_,_,I⟩:=dV z;simp at I
   |exit id=>
    simp only[]at z;let⟨r',q1,I⟩:=dV z;simp only[af,Sum.inl.injEq]at I;subst I;exact⟨.exit id,s',φ',rfl,q1,g',st,kp.mono sub1⟩
   |ret=>
    simp only[]at z;let⟨r',q1,I⟩:=dV z;simp only[af,Sum.inl.injEq]at I;subst I;exact⟨.ret,s',φ',rfl,q1,g',st,kp.mono sub1⟩
 |@cond t x y x' y' _ _ ihx ihy=>
  intro c N R s K r h φ a w g;let⟨c',hn,F,hsim⟩:=kn P i c;refine hsim _ _ _ ?_;rw[<- F]at N;obtain⟨cx,cy,rfl,h1,h2⟩:=ae4 hn N;simp only[nQ]at h;split at h
  .rename_i b hb;rcases kK h with ⟨rfl,h⟩|⟨rfl,h⟩
   .refine wp_cond_true (g.bool hb) (wp_mono (ihx cx h1 R s K r h φ a w g) ?_);rintro e a' w' ⟨ex,s',φ',rfl,z,g',st,kp⟩;exact⟨ex,s',φ',rfl,z,g',st,kp.mono λk z=>by simp only[TC.asg];exact jN z⟩
   .refine wp_cond_false (g.bool hb) (wp_mono (ihy cy h2 R s K r h φ a w g) ?_);rintro e a' w' ⟨ex,s',φ',rfl,z,g',st,kp⟩;exact⟨ex,s',φ',rfl,z,g',st,kp.mono λk z=>by simp only[TC.asg];exact tX z⟩
  .rename_i hb;let⟨ha,hbb⟩:=aar h;let⟨bv,hbv⟩:=g.qv hb;cases bv with
   |true=>
    refine wp_cond_true hbv (wp_mono (ihx cx h1 R s K r ha φ a w g) ?_);rintro e a' w' ⟨ex,s',φ',rfl,z,g',st,kp⟩;exact⟨ex,s',φ',rfl,z,g',st,kp.mono λk z=>by simp only[TC.asg];exact jN z⟩
   |false=>
    refine wp_cond_false hbv (wp_mono (ihy cy h2 R s K r hbb φ a w g) ?_);rintro e a' w' ⟨ex,s',φ',rfl,z,g',st,kp⟩;exact⟨ex,s',φ',rfl,z,g',st,kp.mono λk z=>by simp only[TC.asg];exact tX z⟩
  .cases h
 |@block id b b' _ ih=>
  intro c N R s K r h φ a w g;let⟨c',hn,F,hsim⟩:=kn P i c;refine hsim _ _ _ ?_;rw[<- F]at N;obtain⟨cb,rfl,h1⟩:=N5 hn N;simp only[nQ]at h;refine wp_block (wp_mono (ih cb h1 R s _ r h φ a w g) ?_);rintro e a' w' ⟨ex,s',φ',rfl,z,g',st,kp⟩;cases ex with
  |normal=>exact⟨.normal,s',φ',rfl,z,g',st,kp⟩
  |ret=>exact⟨.ret,s',φ',rfl,z,g',st,kp⟩
  |exit nt=>
   simp only[Ex.to,Exit.inBlock];simp only[]at z;split at z
   next hb=>rw[aR (au hb)];exact⟨.normal,s',φ',rfl,z,g',st,kp⟩
   next hb=>rw[aE (λe=>hb (by rw[e];exact AT id))];exact⟨.exit nt,s',φ',rfl,z,g',st,kp⟩
 |@zj A id b b' _ ih=>
  intro c N R s K r h φ a w g;let⟨c',hn,F,hsim⟩:=kn P i c;refine hsim _ _ _ ?_;rw[<- F]at N;obtain⟨cb,rfl,h1⟩:=N5 hn N;simp only[nQ]at h;have sub1:∀k,aC (b.asg 0) k=J->aC ((TC.zj A id b).asg 0) k=J:=λk z=>by simp only[TC.asg];exact tX z
  have sub3:∀k,aC (Mx A.ks 0) k=J->aC ((TC.zj A id b).asg 0) k=J:=λk z=>by simp only[TC.asg];exact jN z
  rcases Yw h with ⟨inert,h3,h4⟩|h3
  .refine wp_block (wp_mono (ih cb h1 _ s _ _ h3 φ a w g) ?_);rintro e a' w' ⟨ex,s',φ',rfl,z,g',st,kp⟩;have fin:aw (MY m A (b.asg 0) s s') (λx=>Z (bV (α:=R) x))=Z (bV inert)->alx P E i m φ s w ((TC.zj A id b).asg 0) K r .normal a' w':=by
    intro z;let⟨d',q1,I⟩:=dV z;simp only[af,Sum.inr.injEq]at I;subst I;split at h4
    .rename_i s1 hs1;let⟨φ1,g1,st1⟩:=PK g' q1 hs1 λk _ _ v hv hf ha v' hv'=>by
      let⟨v0,e1,e2⟩:=kp k ha v' hv';rw[hv]at e1;cases e1;exact e2 hf
     exact⟨.normal,s1,φ1,rfl,h4,g1,st.trans st1,(E6 hs1).1.mono sub3⟩
    .cases h4
   cases ex with
   |normal=>exact fin z
   |ret=>simp only[]at z;let⟨_,_,I⟩:=dV z;simp at I
   |exit nt=>
    simp only[Ex.to,Exit.inBlock];simp only[]at z;split at z
    next hb=>rw[aR (au hb)];exact fin z
    .obtain⟨_,_,I⟩:=dV z;simp at I
  .refine wp_block (wp_mono (ih cb h1 _ s _ _ h3 φ a w g) ?_);rintro e a' w' ⟨ex,s',φ',rfl,z,g',st,kp⟩;cases ex with
   |normal=>simp only[]at z;let⟨_,_,I⟩:=dV z;simp at I
   |ret=>
    simp only[]at z;let⟨r',q1,I⟩:=dV z;simp only[af,Sum.inl.injEq]at I;subst I;exact⟨.ret,s',φ',rfl,q1,g',st,kp.mono sub1⟩
   |exit nt=>
    simp only[Ex.to,Exit.inBlock];simp only[]at z;split at z
    .obtain⟨_,_,I⟩:=dV z;simp at I
    next hb=>rw[aE (λe=>hb (by rw[e];exact AT id))];let⟨r',q1,I⟩:=dV z;simp only[af,Sum.inl.injEq]at I;subst I;exact⟨.exit nt,s',φ',rfl,q1,g',st,kp.mono sub1⟩
 |@loop A b b' _ ih=>
  intro c N R s K r h φ a w g;let⟨c',hn,F,hsim⟩:=kn P i c;refine hsim _ _ _ ?_;rw[<- F]at N;obtain⟨cb,rfl,h1⟩:=Sd hn N;simp only[nQ]at h;let⟨x0,hx0,h⟩:=dV h;let⟨n,hn⟩:=ZQ h;have sub1:∀k,aC (b.asg 0) k=J->aC ((TC.loop A b).asg 0) k=J:=λk z=>by simp only[TC.asg];exact tX z
  have sub3:∀k,aC (Mx A.ks 0) k=J->aC ((TC.loop A b).asg 0) k=J:=λk z=>by simp only[TC.asg];exact jN z
  obtain⟨step,hstep⟩:∃step:A.D->M (A.D⊕R),step=λx=>(match HQ A (b.asg 0) s x with
   |some s'=>nQ m X W d b s' λex s'=>(match ex with
    |.normal=>aw (MY m A (b.asg 0) s s') λy=>Z (kS y)
    |ex=>aw (K ex s') λr=>Z (bV r))
   |none=>U):=⟨_,rfl⟩
  have hn:iterN step n x0=Z r:=by rw[hstep];exact hn
  have stepEq:∀x,step x=(match HQ A (b.asg 0) s x with
   |some s'=>nQ m X W d b s' λex s'=>(match ex with
    |.normal=>aw (MY m A (b.asg 0) s s') λy=>Z (kS y)
    |ex=>aw (K ex s') λr=>Z (bV r))
   |none=>U):=λx=>by rw[hstep]
  let Inv:Nat->Act->World->Prop:=λn a w'=>∃x s1 φ1,iterN step n x=Z r/\HQ A (b.asg 0) s x=Z s1/\iI P E i m φ1 s1 a w'/\vT m φ φ1 (erHF s.h) (erHF s1.h) w w'
  have head:∀(n:Nat) (x:A.D),iterN step n x=Z r->∃s1,HQ A (b.asg 0) s x=Z s1:=by
   intro n x hn;cases n with
   |zero=>cases hn
   |succ n=>
    simp only[iterN]at hn;cases hr:HQ A (b.asg 0) s x with
    |some s1=>exact⟨s1,rfl⟩
    |none=>rw[stepEq,hr]at hn;cases hn
  refine xo Inv ?_ (n:=n) ?_
  .rintro n a1 w1 ⟨x,s1,φ1,hi,hr,g1,st1⟩;cases n with
   |zero=>cases hi
   |succ n=>
    simp only[iterN]at hi;have hse:=stepEq x;rw[hr]at hse;simp only[]at hse;let⟨kp1,kp1'⟩:=E6 hr;split at hi
    .rename_i y hy;rw[hy]at hse;refine wp_mono (ih cb h1 _ s1 _ _ hse.symm φ1 a1 w1 g1) ?_;rintro e a' w' ⟨ex,s',φ',rfl,z,g',st,kp⟩;cases ex with
     |normal=>
      simp only[]at z;let⟨d',q1,I⟩:=dV z;simp only[af,Sum.inl.injEq]at I;subst I;let⟨s2,hs2⟩:=head n d' hi;let⟨φ2,g2,st2⟩:=PK g' q1 hs2 λk hkk hks v hv hf ha v' hv'=>by
       let⟨v0,e1,e2⟩:=kp k ha v' hv';have:=kp1' k hks v0 e1;rw[hv]at this;cases this;exact e2 hf
      exact⟨n,by omega,d',s2,φ2,hi,hs2,g2,(st1.trans st).trans st2⟩
     |_=>simp only[]at z;let⟨_,_,I⟩:=dV z;simp at I
    .rename_i r' hy;cases hi;rw[hy]at hse;refine wp_mono (ih cb h1 _ s1 _ _ hse.symm φ1 a1 w1 g1) ?_;rintro e a' w' ⟨ex,s',φ',rfl,z,g',st,kp⟩;cases ex with
     |normal=>simp only[]at z;let⟨_,_,I⟩:=dV z;simp at I
     |exit id=>
      simp only[]at z;let⟨r',q1,I⟩:=dV z;simp only[af,Sum.inr.injEq]at I;subst I;exact⟨.exit id,s',φ',rfl,q1,g',st1.trans st,(kp1.mono sub3).trans (kp.mono sub1)⟩
     |ret=>
      simp only[]at z;let⟨r',q1,I⟩:=dV z;simp only[af,Sum.inr.injEq]at I;subst I;exact⟨.ret,s',φ',rfl,q1,g',st1.trans st,(kp1.mono sub3).trans (kp.mono sub1)⟩
    .cases hi
  .obtain⟨s1,hs1⟩:=head n x0 hn;let⟨φ1,g1,st1⟩:=PK g hx0 hs1 λk _ _ v hv _ _ v' hv'=>by rw[hv]at hv';cases hv';rfl
   exact⟨x0,s1,φ1,hn,hs1,g1,st1⟩
 |exit id=>
  intro c N R s K r h φ a w g;let⟨c',hn,F,hsim⟩:=kn P i c;refine hsim _ _ _ ?_;rw[<- F]at N;rw[ae3 hn N];exact wp_exit ⟨.exit id,s,φ,rfl,h,g,vT.refl _ _ _ _,fA.refl _ _⟩
 |ret=>
  intro c N R s K r h φ a w g;let⟨c',hn,F,hsim⟩:=kn P i c;refine hsim _ _ _ ?_;rw[<- F]at N;rw[ai9 hn N];exact wp_ret ⟨.ret,s,φ,rfl,h,g,vT.refl _ _ _ _,fA.refl _ _⟩
 |defer f caps t=>
  intro c N R s K r h φ a w g;let⟨c',hn,F,hsim⟩:=kn P i c;refine hsim _ _ _ ?_;rw[<- F]at N;obtain⟨id,ops,dr,rfl,h1,h2⟩:=ZR hn N;simp only[nQ]at h;split at h
  .rename_i hi;refine aj4 hin g.inert g.size h1 h2 hi λa' d1 d2 d3=>⟨.normal,_,φ,rfl,h,⟨g.zq,λu x hx=>?_,g.dom,g.low,g.qz,λu x hx=>?_,d2,d3⟩,vT.refl _ _ _ _,λk z v' hv'=>?_⟩
   .simp only[fB,PT.get_set]at hx;split at hx
    .cases hx
    next hu=>rw[d1 u hu];exact g.env u x hx
   .simp only[PT.get_set]at hx;split at hx
    .cases hx
    .exact g.qp u x hx
   .simp only[PT.get_set]at hv';split at hv'
    .cases hv'
    .exact⟨v',hv',λ_=>rfl⟩
  .cases h
 |@adj l tc' sc' _ ih=>
  intro c N R s K r h φ a w g;let⟨c',hn,F,hsim⟩:=kn P i c;refine hsim _ _ _ ?_;rw[<- F]at N;simp only[nQ]at h;split at h
  next s1 hs1=>let⟨φ1,g1,st1,kp1⟩:=Rd g hs1;refine wp_mono (ih c' N R s1 K r h φ1 a w g1) ?_;rintro e a' w' ⟨ex,s',φ',rfl,z,g',st,kp⟩;exact⟨ex,s',φ',rfl,z,g',st1.trans st,(kp1.mono λk z=>by simp only[TC.asg];exact jN z).trans (kp.mono λk z=>by simp only[TC.asg];exact tX z)⟩
  .cases h
 |@split k off lo n tc' sc' _ ih=>
  intro c N R s K r h φ a w g;let⟨c',hn,F,hsim⟩:=kn P i c;refine hsim _ _ _ ?_;rw[<- F]at N;simp only[nQ]at h;split at h
  .rename_i kd v hv;let⟨j,hj,h2⟩:=RA h;subst hj;split at h2
   .rename_i s1 hs1;let⟨g1,hH,he⟩:=acp g hv hs1;refine wp_mono (ih c' N R s1 K r h2 φ a w g1) ?_;rintro e a' w' ⟨ex,s',φ',rfl,z,g',st,kp⟩;exact⟨ex,s',φ',rfl,z,g',by rw[<- hH];exact st,λk z v' hv'=>by
     let⟨v,q1,I⟩:=kp k z v' hv';exact⟨v,by rw[<- he];exact q1,I⟩⟩
   .cases h2
  .cases h
 |@bsp t x y sc' _ _ ihx ihy=>
  intro c N R s K r h φ a w g;simp only[nQ]at h;split at h
  .rename_i v hv;rcases kK h with ⟨rfl,h⟩|⟨rfl,h⟩
   .have he:∀q,(s.e.set t (Z (.f .bool J))).get q=s.e.get q:=λq=>by
     rw[PT.get_set];split
     next e=>subst e;exact hv.symm
     .rfl
    let⟨g1,hH⟩:=g.congr (s':=⟨s.e.set t (Z (.f .bool J)),s.h,s.nx⟩) he (λ_=>rfl) rfl;refine wp_mono (ihx c N R _ K r h φ a w g1) ?_;rintro e a' w' ⟨ex,s',φ',rfl,z,g',st,kp⟩;exact⟨ex,s',φ',rfl,z,g',by rw[<- hH];exact st,λk z v' hv'=>by
     let⟨v,q1,I⟩:=(kp.mono λk z=>by simp only[TC.asg];exact jN z) k z v' hv';exact⟨v,by rw[<- he];exact q1,I⟩⟩
   .have he:∀q,(s.e.set t (Z (.f .bool aa))).get q=s.e.get q:=λq=>by
     rw[PT.get_set];split
     next e=>subst e;exact hv.symm
     .rfl
    let⟨g1,hH⟩:=g.congr (s':=⟨s.e.set t (Z (.f .bool aa)),s.h,s.nx⟩) he (λ_=>rfl) rfl;refine wp_mono (ihy c N R _ K r h φ a w g1) ?_;rintro e a' w' ⟨ex,s',φ',rfl,z,g',st,kp⟩;exact⟨ex,s',φ',rfl,z,g',by rw[<- hH];exact st,λk z v' hv'=>by
     let⟨v,q1,I⟩:=(kp.mono λk z=>by simp only[TC.asg];exact tX z) k z v' hv';exact⟨v,by rw[<- he];exact q1,I⟩⟩
  .cases h
 |@unl n b b' _ ih=>
  intro c N R s K r h φ a w g;let⟨c',hn,F,hsim⟩:=kn P i c;refine hsim _ _ _ ?_;rw[<- F]at N;obtain⟨cb,rfl,h1⟩:=Sd hn N;simp only[nQ]at h
  let Inv:Nat->Act->World->Prop:=λnp a w'=>∃s1 φ1,ah2 (λs K=>nQ m X W d b s K) np s1 K=Z r/\iI P E i m φ1 s1 a w'/\vT m φ φ1 (erHF s.h) (erHF s1.h) w w'/\fA (b.asg 0) s.e s1.e
  refine xo Inv ?_ (n:=n) ⟨s,φ,h,g,vT.refl _ _ _ _,fA.refl _ _⟩;rintro np a1 w1 ⟨s1,φ1,hi,g1,st1,kp1⟩;cases np with
  |zero=>cases hi
  |succ np=>
   simp only[ah2]at hi;refine wp_mono (ih cb h1 R s1 _ r hi φ1 a1 w1 g1) ?_;rintro e a' w' ⟨ex,s',φ',rfl,z,g',st,kp⟩;cases ex with
   |normal=>exact⟨np,ib np,s',φ',z,g',st1.trans st,kp1.trans kp⟩
   |exit id=>exact⟨.exit id,s',φ',rfl,z,g',st1.trans st,kp1.trans kp⟩
   |ret=>exact⟨.ret,s',φ',rfl,z,g',st1.trans st,kp1.trans kp⟩
 |zh sc'=>
  intro c N R s K r h;simp[nQ]at h
def Pk (hinv:gC e.h e.nx) (hiE:rz e.e e.h) (r:oM V O (erHF e.h) w) (en:Mf V (tot O V (erHF e.h)) w (fB e.e e.h) Q):∀(F:Y ResultVar) (rvs:Y RV) (l:Y TV),mK P F=Z rvs->RG e rvs=Z l->
 ∃I vs,cN e.h l=Z I/\(F.mapM (Pn Q.tmps)).run P w= .ok vs w/\ik V (tot O V (erHF e.h)) w I vs
 |[],rvs,l,z,c=>by
  simp[mK,af]at z;subst z;simp[RG,af]at c;subst c;exact⟨[],[],rfl,by simp,trivial⟩
 |.tmp t::F,rvs,l,z,c=>by
  simp[mK]at z;split at z
  .rename_i rvs' hrs;simp[af]at z;subst z;simp[RG]at c;split at c
   .rename_i v A;split at c
    next l' D=>simp[af]at c;subst c;let⟨I,vs,h0,h1,h2⟩:=Pk hinv hiE r en F rvs' l' hrs D;simp[rvT]at A;let⟨y,hy⟩:=oA e.h v (hiE t v A);refine ⟨y::I,Q.tmps.getD t undef::vs,pu hy h0,?_,en t y (by simp[fB,A,aB,hy]),h2⟩;simp[List.mapM_cons,ec,Pn,mB,cJ];simp_all
    .cases c
   .cases c
  .cases z
 |.cell ad t::F,rvs,l,z,c=>by
  simp[mK]at z;split at z
  .rename_i rvs' sz ag hrs hsz hag;simp[af]at z;subst z;simp[RG]at c;split at c
   .rename_i v A;split at c
    .rename_i l' D;simp[af]at c;subst c;let⟨I,vs,h0,h1,h2⟩:=Pk hinv hiE r en F rvs' l' hrs D;simp[rvT]at A;split at A
     .rename_i id off hp;split at A
      .rename_i ty q hb;let⟨q',N⟩:=fb e.h q (hinv.C id _ q hb);let⟨y,e1,e2⟩:=X8 N A;let⟨H,hH⟩:=fW e.h;have hR:tH H sz ag (.H (nm id) off)=Z ⟨y,[nm id],[],[],[]⟩:=by
        have hg:H.get (nm id)=Z ⟨ty,.mx q'⟩:=by rw[hH,bU,hb];simp[aB,jG,N]
        simp[tH,hg,e2]
       let⟨_,_,_,h3⟩:=LX (P:=P) hsz hag hR;let⟨qq,v',h4,h5,h6⟩:=h3 V O (erHF e.h) w _ (λi _=>by rw[hH]) r (en ad _ (by simp[fB,hp,aB,b7]));refine ⟨y::I,v'::vs,pu e1 h0,?_,h6,h2⟩;have hone:(Pn Q.tmps (.cell ad t)).run P w= .ok v' w:=by
        simp[Pn,ec,h4,asAddr,mB,cJ,h5]
       simp_all
      .cases A
     .cases A
    .cases c
   .cases c
  .cases z
def F2:∀(args:Y TV) (k t:Nat) (x:TV),(LU k args).get t=Z x->k<=t/\args[t-k]? =Z x
 |[],k,t,x,h=>by simp[LU,PT.get]at h
 |y::args,k,t,x,h=>by
  rw[LU,PT.get_set]at h;split at h
  .grind
  .obtain⟨h1,c⟩:=F2 args (k+1) t x h
   grind
def adc (q:kR h B=J) (A:B[i]? =Z u):Mv h u=J:=by
 let⟨l',z⟩:=fb h B q;let⟨y,_,c⟩:=lw z i u A;exact FG _ _ _ c
def VP (hm:P.follows .mixedOrders=J) (hcon:EV P X) (hin:yi P d) {sf:SF} (hf:yO P f=Z sf) (D:FT) (m:D.pre.ty.den->M D.post.ty.den) (hmod:∀x y,m x=Z y->aci X W d (Z sf) D x=Z y):pa P f ⟨D.pre,D.post,m⟩:=by
 let⟨fn,c,hfn,hb,hnm,hcode,hres,hnt⟩:=LA hf;refine ⟨⟨fn,hfn,by rw[hb];rfl,hnm⟩,λx y hxy vs hp l1 rs hq l2 la lr I A hla hlr φ E w us hrep hrel hdom=>?_⟩;have ht:=hmod x y hxy;unfold aci at ht;simp only[]at ht;split at ht
 .rename_i args h hins;let⟨l1',I'⟩:=wP hins;have e1:args=vs:=by have h1:=I.pv;have F:=I'.pv;rw[h1]at F;cases F;rfl
  have e2:l1'=l1:=by have h1:=I.pb;have F:=I'.pb;rw[h1]at F;cases F;rfl
  subst e1 e2;have hget:∀i,h.get i=hp.get i:=λi=>by
   cases h3:hp.get i with
   |some b=>exact (I'.at_ i b).2 ((I.at_ i b).1 h3)
   |none=>
    cases h4:h.get i with
    |none=>rfl
    |some b=>have:=(I.at_ i b).2 ((I'.at_ i b).1 h4);rw[h3]at this;cases this
  have hrow:∀i,ep h i=ep hp i:=λi=>by rw[bH,bH,hget]
  have herH:erHF h=erHF hp:=by
   funext n;unfold erHF;rw[hget];cases h3:hp.get (ow n) with
   |none=>rfl
   |some b=>
    simp only[aB];refine lx (λi r hr=>by rw[hrow];exact hr) (λty l e=>?_) _ _;exact (I.C _ _ l (by rw[h3,e])).1
  have hla':cN h args=Z la:=gB (λi r hr=>by rw[hrow];exact hr) args la hla;split at ht
  .rename_i hle;simp only[al]at hle;have hle2:=aW hle.2;have hle:=aW hle.1;have hlen:=ik.length hrel;have hargl:args.length=la.length:=(hY hla).symm;refine calls_of_wp_defers hfn hb ?_;have hcfg:iI P E fn.ntmps D.pre.bs.length φ ⟨LU 0 args,h,D.pre.bs.length⟩ {tmps:=us.toArray++lZ (fn.ntmps-us.toArray.size) undef,defers:=[]} w:=by
    refine ⟨by rw[herH];exact hrep,?_,hdom,bL _,⟨λi ty l hl=>(I'.C i _ l hl).1,λi b hbb=>I'.lt_len hbb⟩,?_,by simp,by simp;omega⟩
    .intro t z N;simp only[fB]at N;cases hx:(LU 0 args).get t with
     |none=>rw[hx]at N;cases N
     |some v0=>
      rw[hx]at N;let⟨_,F⟩:=F2 args 0 t v0 hx;rw[Nat.sub_zero]at F;let⟨y0,q1,q2⟩:=lw hla' t v0 F;simp only[aB]at N;rw[N]at q2;cases q2;let⟨v,h3,h4⟩:=hrel.get t z q1;have hlt:t<us.length:=(bm.1 h3).1;have:(us.toArray++lZ (fn.ntmps-us.toArray.size) undef).getD t undef=v:=by
       rw[gE,Array.getElem?_append]
       grind
      grind
    .intro t v0 hv0;let⟨_,F⟩:=F2 args 0 t v0 hv0;exact adc I'.ok F
   refine wp_mono (am6 (E:=E) hm hcon hin (xX D.hints sf.code 0) c hcode.symm _ _ _ _ ht φ _ w hcfg) ?_;rintro e a' w' ⟨ex,s',φ',rfl,q,g',st,_⟩;have fin:∀(s':TS) (φ':PM),iI P E fn.ntmps D.pre.bs.length φ' s' a' w'->vT D.pre.bs.length φ φ' (erHF h) (erHF s'.h) w w'->(match RG s' sf.res with
    |some l=>(match CJ D.pre.bs.length D.post l s'.h with
     |some ⟨y,_,_,_⟩=>(match BQ D.post y with|some _=>Z y|none=>U)
     |none=>U)
    |none=>U)=Z y->Leaves P fn a'.tmps (λen w'=>∃v φ',en= .returned v/\C5 (own φ (erHF hp)) w w'/\(∀k,k<w.heap.size->own φ' (erHF hq) k->own φ (erHF hp) k)/\(∀n,ow n<D.pre.bs.length->φ' n=φ n)/\oM φ' E (erHF hq) w'/\cm φ' (tot E φ' (erHF hq)) w' (yU lr) v) a'.defers .returning w':=by
    intro s' φ' g' st q;split at q
    .rename_i l hl;split at q
     .rename_i y' m' σ sm hM;split at q
      .cases q;let⟨lo,rvs,q0,q1,q2⟩:=Pk g'.qz g'.qp g'.zq g'.env fn.results.toList sf.res l hres hl;have g:=wJ hM;let⟨φ2,lu,hlu,S⟩:=Ms (np:=D.pre.bs.length) (E:=E) A g'.qz g q0 g'.zq;rw[hlr]at hlu;cases hlu;have hresults:(results fn a'.tmps).run P w'= .ok (if h:rvs.toArray.size=1 then rvs.toArray[0] else .tuple rvs.toArray) w':=by
        rw[Jk,NC];simp only[ec,Sem.run_map,q1,cJ,mB]
       have hrl:ik φ2 (tot E φ2 (erHF hq)) w' lr rvs:=by
        refine ik.of (by rw[q2.length,S.len]) λj z v N hv=>?_
        let⟨z0,p1,p2⟩:=S.val j z v N;let⟨v',p3,p4⟩:=q2.get j z0 p1;rw[hv]at p3;cases p3;exact p2 p4
       have hval:cm φ2 (tot E φ2 (erHF hq)) w' (yU lr) (if h:rvs.toArray.size=1 then rvs.toArray[0] else .tuple rvs.toArray):=by
        have hll:=ik.length hrl;clear hlr S;cases lr with
        |nil=>
         cases rvs with
         |nil=>exact cm.qb (vs:=[]) rfl (by intro j x v hx;simp at hx)
         |cons _ _=>exact hrl.elim
        |cons z lr=>
         cases rvs with
         |nil=>exact hrl.elim
         |cons v rvs=>
          cases lr with
          |nil=>
           cases rvs with
           |nil=>exact hrl.1
           |cons _ _=>exact hrl.2.elim
          |cons y l=>
           cases rvs with
           |nil=>exact hrl.2.elim
           |cons u rvs=>
            rw[dif_neg (by simp)];refine cm.qb (vs:=v::u::rvs) (by simpa using hll) λj x' v' hx hv=>?_
            let⟨v'',q1,q2⟩:=hrl.get j x' hx;rw[hv]at q1;cases q1;exact q2
       have st':vT D.pre.bs.length φ φ' (erHF hp) (erHF s'.h) w w':=by rw[<- herH];exact st
       refine xE hresults ⟨_,φ2,rfl,st'.ext,λk q ho=>st'.qn k q (S.qn k ho),λi hi=>?_,S.zq,hval⟩ a'.defers g'.inert;rw[S.par i hi (dj hi hle2),st'.par i hi]
      .cases q
     .cases q
    .cases q
   have fin2:(match U0 s' (aqx D) with
    |some s=>(match RG s sf.res with
     |some l=>(match CJ D.pre.bs.length D.post l s.h with
      |some ⟨y,_,_,_⟩=>(match BQ D.post y with|some _=>Z y|none=>U)
      |none=>U)
     |none=>U)
    |none=>U)=Z y->Leaves P fn a'.tmps (λen w'=>∃v φ',en= .returned v/\C5 (own φ (erHF hp)) w w'/\(∀k,k<w.heap.size->own φ' (erHF hq) k->own φ (erHF hp) k)/\(∀n,ow n<D.pre.bs.length->φ' n=φ n)/\oM φ' E (erHF hq) w'/\cm φ' (tot E φ' (erHF hq)) w' (yU lr) v) a'.defers .returning w':=by
    intro q;split at q
    next s2 ha=>let⟨φ3,c3,t3,_⟩:=Rd g' ha;exact fin s2 φ3 c3 (st.trans t3) q
    .cases q
   cases ex with
   |exit id=>cases q
   |_=>exact fin2 q
  .cases ht
 .cases ht
abbrev z!:=FuncId×cu
def XB:Y z!->FuncId->M cu
 |[],_=>U
 |(g,c)::r,f=>if ay g f then Z c else XB r f
def Nz (P:Program):Y z!->Prop
 |[]=>True
 |p::r=>aN P (p.1%65536) p.2/\Nz P r
def Y5 :∀{l:Y z!},Nz P l->EV P (XB l)
 |[],_,f,c,h=>by simp[XB]at h
 |(g,d)::r,q,f,c,h=>by
  simp only[XB]at h;split at h
  next z=>have:=au z;subst this;cases h;exact q.1
  .exact Y5 q.2 f c h
def SX (hm:P.follows .mixedOrders=J) (hin:yi P d) {l:Y z!} (q:Nz P l) {D:FT} {m:D.pre.ty.den->M D.post.ty.den} (c:(yO P f).isSome=J) (he:∀x,aci (XB l) W d (yO P f) D x=m x):pa P f ⟨D.pre,D.post,m⟩:=by
 let⟨z,hf⟩:=iK.1 c;exact VP hm (Y5 q) hin hf D m λx y hxy=>by rw[<- hf,he];exact hxy
def pa.sub {pre post:Tm} {m m':pre.ty.den->M post.ty.den} (h:pa P f ⟨pre,post,m⟩) (c:∀x y,m' x=Z y->m x=Z y):pa P f ⟨pre,post,m'⟩:=
 ⟨h.qd,λx y hxy=>h.calls x y (c x y hxy)⟩
def aN.sub {P:Program} {f:FuncId} {pre post:Tm} {m m':pre.ty.den->M post.ty.den} (h:aN P f ⟨pre,post,m⟩) (c:dc (l! pre.bs) (l! post.bs)=J) (q:∀x y,m' x=Z y->m x=Z y):aN P f ⟨pre,post,m'⟩:=
 ((h.holds c).sub q).toC c
def rV {b:Nat}:∀(x y:Y R),chk (bl (ah x) b) (λ_=>Z x)=Z y->aI (ay (ah x) 0) (FX (Z ([]:Y R)) (chk (bl (ah ([]:Y R)+ah x) b) λ_=>(Z (([]:Y R)++x)))) (chk (bl (ah ([]:Y R)+ah x) b) λ_=>(Z (([]:Y R)++x)))=Z y:=by
 intro x y h;rw[gW,em,b6,h];cases x with
 |nil=>
  let⟨_,h⟩:=cB h;cases h;show FX (Z []) (Z [])=_;unfold FX;rw[aR rfl]
 |cons a r=>rfl
def P' {v:T.den} (sp:ak2 P f [] PT.leaf 0 ⟨.f (fC T v),PT.leaf,0,0⟩) (m:(Tm.ty ⟨[],[]⟩).den->M (Tm.ty ⟨[.d T],[]⟩).den) (hm:∀x y,m x=Z y->oO IV [.d T] (Qk (PV.tyL [.d T]) (PB.tyL []) y)=Z [.f T v]):pa P f ⟨⟨[],[]⟩,⟨[.d T],[]⟩,m⟩:=by
 refine ⟨sp.qd,λx y hxy vs hp l1 A hq l2 la lr I g hla hlr φ E w q hrep hrel hdom=>?_⟩;have F:vs=[]:=by have:=I.pv;simp only[oO,af]at this;exact this.symm
 subst F;simp[cN,af]at hla;subst hla;have hrs:A=[.f T v]:=by
  have h1:=g.pv
  grind
 subst hrs;simp[cN,b7,af]at hlr;subst hlr;have noH:∀{h1:a_} {t:Tm} {z:t.ty.den} {q:Y TV} {l:Y (M eC)},nL t z q h1 l->l! t.bs=0->erHF h1=(PT.leaf:gy).get:=by
  intro h1 t z q l I h0;funext n;cases N:erHF h1 n with
  |none=>rfl
  |some b=>
   let⟨c,h3,_⟩:=gV N;have:=I.lt_len h3;omega
 have e1:=noH I rfl;have e2:=noH g rfl;rw[e1]at hrep hrel ⊢;rw[e2];cases q with
 |cons _ _=>exact hrel.elim
 |nil=>
  have hφ:∀i k,φ i=Z k->i<0:=λi k hk=>by grind
  refine Calls.mono (sp.calls φ E w [] hrep trivial hφ) ?_;rintro en w' ⟨u,φ',rfl,mv,D,rv',nm'⟩;refine ⟨u,φ',rfl,mv.ext,mv.qn,λi hi=>by simp at hi,D,rv'⟩
def WH {pre post:Tm} (q:(yO P f).isSome=J):pa P f ⟨pre,post,λ_=>U⟩:=by
 let⟨A,hf⟩:=iK.1 q;let⟨fn,c,hfn,z,hnm,_⟩:=LA hf;exact⟨⟨fn,hfn,by rw[z];rfl,hnm⟩,λx y h=>by cases h⟩
def pa.orElse {pre post:Tm} {m m':pre.ty.den->M post.ty.den} (h:pa P f ⟨pre,post,m⟩) (h':pa P f ⟨pre,post,m'⟩):pa P f ⟨pre,post,λx=>match m x with|some y=>Z y|none=>m' x⟩:=
 ⟨h.qd,λx y hxy=>by
   cases hm:m x with
   |some z=>rw[show (cu.m ⟨pre,post,λx=>match m x with|some y=>Z y|none=>m' x⟩ x)=Z z by show (match m x with|some y=>Z y|none=>m' x)=Z z;rw[hm]]at hxy;cases hxy;exact h.calls x _ hm
   |none=>rw[show (cu.m ⟨pre,post,λx=>match m x with|some y=>Z y|none=>m' x⟩ x)=m' x by show (match m x with|some y=>Z y|none=>m' x)=m' x;rw[hm]]at hxy;exact h'.calls x y hxy⟩
def aN.orE {pre post:Tm} {m m':pre.ty.den->M post.ty.den} (c:dc (l! pre.bs) (l! post.bs)=J) (h:aN P f ⟨pre,post,m⟩) (h':aN P f ⟨pre,post,m'⟩):aN P f ⟨pre,post,λx=>AI.orE (m x) (m' x)⟩:=by
 have e:(λx=>AI.orE (m x) (m' x))=λx=>match m x with|some y=>Z y|none=>m' x:=by funext x;cases m x<;>rfl
 rw[e];exact ((h.holds c).orElse (h'.holds c)).toC c
def inert (_:FuncId):Bool:=aa
def J2:yi Tryz.prog inert:=λ_ h=>by cases h
def dK :Y (Nat×R)->PT R
 |[]=>.leaf
 |p::r=>(dK r).set p.1 (Z p.2)
noncomputable abbrev Pg:Program:=Tryz.prog
def cn (D:FT) (m:D.pre.ty.den->M D.post.ty.den):cu:=⟨D.pre,D.post,m⟩
def an0:Pg.follows .mixedOrders=J:=by kernel_rfl
def ac {c:cu} {l:Y z!} (h:aN Pg f c) (t:Nz Pg l) (hf:db f 65536=J:=by rfl):Nz Pg ((f,c)::l):=⟨by rw[rn (Q9 hf)];exact h,t⟩
def ac2 {c:cu} {l:Y z!} (q:FuncId) (z:q%65536=f) (h:aN Pg f c) (t:Nz Pg l):Nz Pg ((q,c)::l):=⟨by rw[z];exact h,t⟩
def an:Nz Pg []:=trivial
inductive OI {R:Type}:Option R->Option R->Prop where
 |rfl {a:Option R}:OI a a
 |chk {b:Bool} {k k':Option R} (h:rF k k'):OI (chk b λ_=>k) (chk b λ_=>k')
 |aI {b:Bool} {t f t' f':Option R} (h1:rF t t') (h2:rF f f'):OI (aI b t f) (aI b t' f')
 |lt {α:Type} {x:α} {k k':α->Option R} (h:∀y,rF (k y) (k' y)):OI (lt x k) (lt x k')
 |jn {α:Type} {o o':Option (R⊕α)} {k k':α->Option R} (h:rF o o') (hk:∀x,rF (k x) (k' x)):OI (jn o k) (jn o' k')
 |aw {α:Type} {o o':Option α} {k k':α->Option R} (h:rF o o') (hk:∀x,rF (k x) (k' x)):OI (aw o k) (aw o' k')
 |iter {σ:Type} {f g:σ->Option (σ⊕R)} {x:σ} (h:∀x,rF (f x) (g x)):OI (wO f x) (iter g x)
def OI.o {a b:M R} (h:OI a b):rF a b:=by
 cases h with
 |rfl=>exact rF.rfl
 |chk h=>exact rF.chk h
 |aI h g=>exact rF.bcase h g
 |lt h=>exact rF.lt h
 |jn h g=>exact rF.jn h g
 |aw h g=>exact rF.obind h g
 |iter h=>exact rF.iter h
def mk (D:FT) (m:D.pre.ty.den->M D.post.ty.den) {l:Y z!} (A:Nz Pg l) (c:TypeId->M Ty) (he:∀x,aci (XB l) c inert (yO Pg f) D x=m x:=by intro x;kernel_rfl) (q:(yO Pg f).isSome=J:=by kernel_rfl) (z:dc (l! D.pre.bs) (l! D.post.bs)=J:=by kernel_rfl):aN Pg f (cn D m):=(SX an0 J2 A q he).toC z
def mkn (D:FT) (m n:D.pre.ty.den->M D.post.ty.den) (z:∀x,rF (m x) (n x)) {l:Y z!} (F:Nz Pg l) (c:TypeId->M Ty) (he:∀x,aci (XB l) c inert (yO Pg f) D x=n x:=by intro x;kernel_rfl) (q:(yO Pg f).isSome=J:=by kernel_rfl) (A:dc (l! D.pre.bs) (l! D.post.bs)=J:=by kernel_rfl):aN Pg f (cn D m):=((SX an0 J2 F q he).sub z).toC A
def Ff (D:FT) (c:(yO Pg f).isSome=J:=by kernel_rfl) (q:dc (l! D.pre.bs) (l! D.post.bs)=J:=by kernel_rfl):aN Pg f (cn D λ_=>U):=(WH c).toC q
end
end Go.Proofs.YtlmflgjjamepmaaGreatDoor.AI
