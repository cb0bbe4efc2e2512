/-
  Texts of the proof, part 6 of 6: what is used to prove the statement. No condition.
-/
import Derived.Test.YtononplakadipaaGreatDoorFirstRacePredictedQ4
import Derived.Test.YtononplakadipaaGreatDoorRows
import Derived.LaidMore
namespace Go.Proofs.YtononplakadipaaGreatDoor.AI
open Go.RowKit
set_option maxRecDepth 100000
set_option maxHeartbeats 4000000
set_option linter.unusedVariables false
set_option linter.unusedSimpArgs false
set_option linter.defProp false
open _root_.Bool renaming true→J
open _root_.List renaming length→l!
open _root_.Nat renaming mul_one→I7
open _root_.Option renaming some→Z,none→U,map_some→cj
noncomputable section
variable {P:Program} {f:FuncId} {W:World} {C:Y AV} {k:ξ}
def run_law {pre:Tm} {m:pre.ty.den->aj (Tm.ty ⟨[.d .bool],[]⟩).den} (sp:qV P f ⟨pre,⟨[.d .bool],[]⟩,m⟩) (h0:l! pre.bs=0) {x:pre.ty.den} (hx:m x=Z J) {vs:Y TV} {hp:ba} (hi:Fn pre x=Z (vs,hp)) (hla:dx hp vs=Z C)
 (hg:∀g cells,G g=Z cells->oz (λ_=>False) W (.K cells 0) (.pointer (Z ⟨g,0,U⟩))) (hrel:km (λ_=>U) (λ_=>False) W C k):
 Calls P f k.toArray W λe w'=>e= .returned (.bool J)/\Below W.heap.size W w':=by
 let⟨l1,I⟩:=Ab hi;let⟨l2,y⟩:=Ab (t:=⟨[.d .bool],[]⟩) (x:=J) (vs:=[.f .bool J]) (h1:=PT.leaf) rfl;have hn:erHF hp=λ_=>U:=by
  funext n;cases hb:erHF hp n with
  |none=>rfl
  |some b=>
   let⟨c,h1,_⟩:=jA hb;have:=I.lt_len h1;omega
 have own0:∀(φ:PM) q,¬own φ (erHF hp) q:=by rintro φ q ⟨i,b,h1,_⟩;rw[hn]at h1;cases h1
 have htot:tot (λ_=>False) (λ_=>U) (erHF hp)=λ_=>False:=by
  funext q;exact propext ⟨λh=>h.elim id λh=>bi h (own0 _ q),λh=>h.elim⟩
 refine Calls.mono (sp.calls x J hx vs hp l1 _ PT.leaf l2 C _ I y hla rfl (λ_=>U) (λ_=>False) W k ⟨(λi j b b' q h1=>by rw[hn]at h1;cases h1),(λi b h1=>by rw[hn]at h1;cases h1),(λq h=>h.elim),(λg cells h=>by rw[htot];exact hg g cells h)⟩ (by rw[htot];exact hrel) (λn q h=>by cases h)) ?_;rintro en w' ⟨v,φ',rfl,he,_,_,_,hv⟩;refine ⟨?_,⟨he.os,he.tape,he.output,he.size,λq hk=>he.jg q hk (own0 _ q)⟩⟩;have hv:cC φ' _ w' (.f (.raw (.bool J))) v:=hv;cases hv with
 |f h=>cases h;rfl
def gKw:Tryz.prog.globalNamed "interleave/token.keywords" =Z 1:=by kernel_rfl
def tKw:(Tryz.prog.globals[1]?).map (·.type)=Z 384:=by kernel_rfl
def kw_of_laid (h:laidMetH Tryz.prog [("interleave/token.keywords",Rows.laid_interleave_token_keywords)] W):∀g cells,G g=Z cells→oz (λ_=>False) W (.K cells 0) (.pointer (Z ⟨g,0,U⟩)):=by
 intro g cells hG;unfold G at hG;split at hG
 .rename_i hg;have hg:=eq_of_beq hg;subst hg;cases hG;rw[MakeChecks.laidMetH_plain _ _ _ (by kernel_rfl)]at h;let⟨ps,⟨g0,t0,cs0,f0,p0,q0,I,ht0,hv0,hd0,_,_⟩,_,_⟩:=h;obtain rfl:=gH (gKw.symm.trans I);obtain rfl:=gH (tKw.symm.trans ht0);obtain⟨xs,m1,rfl,A,hlen,hn,hel⟩:=DataW.trod_array Tryz.underlying384 hd0;have c1:Tryz.prog.cellsOf 9=1:=by kernel_rfl
  have c22:Tryz.prog.cellsOf 384=22:=by kernel_rfl
  rw[c22]at hlen;simp only[aT,Rows.laid_interleave_token_keywords,DataW.agg.injEq]at A;have hxs:=A.1;have hcell:∀j,j<22→∃l,(xs.map (·.1))[j]? =Z (.lit (.string l))∧W.cell? ⟨1,j,U⟩=Z (.string ⟨l.toArray⟩):=λj hj=>by
   have h1:=hel j hj;rw[c1,I7]at h1;rw[aI M]at h1;let⟨s,e1,e2,_⟩:=DataW.trod_string Tryz.underlying9 h1;refine ⟨s.data.toList,?_,?_⟩;rw[bH,aI M,cj,e2];have:=World.var?_cell I hv0 j;rw[this];have h2:cs0.toList[j]? =Z (.string s):=by
    have:((cs0.toList.drop j).take 1)[0]? =Z (.string s):=by rw[e1];rfl
    rw[dF,aD M,kH]at this;simpa using this
   rw[← eV,h2]
  have hb:1<W.heap.size:=by
   let⟨l,_,h2⟩:=hcell 0 M;exact World.block_lt_of_cell? W _ h2
  refine .K HH 0 1 0 (λj=>(W.cell? ⟨1,j,U⟩).getD undef) (λh=>h) hb (λx q=>?_) (λj hj=>?_) (λj x q=>?_);simp only[HH,bc,cA,fM]at q;rcases q with rfl|rfl|rfl|rfl|rfl|rfl|rfl|rfl|rfl|rfl|rfl|rfl|rfl|rfl|rfl|rfl|rfl|rfl|rfl|rfl|rfl|rfl<;>rfl;let⟨l,_,h2⟩:=hcell j hj;rw[bV,h2];rfl
  .have hj:j<22:=(bG.1 q).1;let⟨l,h1,h2⟩:=hcell j hj;rw[← hxs]at h1;have:x= .raw (.string ⟨l.toArray⟩):=by
    rcases j with _|_|_|_|_|_|_|_|_|_|_|_|_|_|_|_|_|_|_|_|_|_|j;all_goals first|(simp only[List.getElem?_cons_zero,List.getElem?_cons_succ,al,DataW.lit.injEq,Lit.string.injEq,HH]at h1 q;subst h1 q;rfl)|omega
   rw[this,h2];exact .raw _
 cases hG
end
end Go.Proofs.YtononplakadipaaGreatDoor.AI
