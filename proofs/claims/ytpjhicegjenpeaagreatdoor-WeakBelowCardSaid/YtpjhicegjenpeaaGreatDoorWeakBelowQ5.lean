/-
  Texts of the proof, part 6 of 6: what is used to prove the statement. No condition.
-/
import Derived.Test.YtpjhicegjenpeaaGreatDoorWeakBelowQ4
import Derived.Test.YtpjhicegjenpeaaGreatDoorRows
import Derived.LaidMore
namespace Go.Proofs.YtpjhicegjenpeaaGreatDoor.AI
open Go.RowKit
set_option maxRecDepth 100000
set_option maxHeartbeats 4000000
set_option linter.unusedVariables false
set_option linter.unusedSimpArgs false
set_option linter.defProp false
open _root_.Bool renaming true→J
open _root_.List renaming length→l!,getElem?_cons_zero→hZ,getElem?_cons_succ→BQ
open _root_.Nat renaming mul_one→HU
open _root_.Option renaming some→Z,none→U,map_some→bh
open _root_.Prod renaming a→bf,b→bA,c→bH,d→cF,n→ic
noncomputable section
def ang x:md (Gh x) (SH x):=by
 unfold Gh SH Tv bf bA bH cF ic bU bT c5 aH cS;with_reducible repeat' first|apply OI.o;constructor|intro _
def ao5:aJ Pg 25 ap5:=Bs acw Gh SH ang an bY
def KX:aJ Pg 20 Lj:=mk _ _ (ac ao5 an) bY
def To:aJ Pg 11 Uf:=mk _ _ (ac VN (ac KX an)) bY
def PU:aJ Pg 10 Qi:=mk _ _ an bY
def hlaw26_WeakBelow:aJ Pg 3 I7:=mk _ _ (ac Iu (ac S_ (ac Zt (ac aje (ac aca (ac PU (ac To an))))))) bY
variable {f:FuncId} {T:Program} {L:ξ}
def run_law {pre:Tm} {m:pre.ty.den->M (Tm.ty ⟨[.d .bool],[]⟩).den} (sp:ru T f ⟨pre,⟨[.d .bool],[]⟩,m⟩) (h0:l! pre.bs=0) {x:pre.ty.den} (hx:m x=Z J) {vs:Y TV} {hp:aX} (hi:D' pre x=Z (vs,hp)) {la:Y AV} (hla:cJ hp vs=Z la)
 {W:World} (hg:∀g cells,G g=Z cells->nu (λ_=>False) W (.P cells 0) (.pointer (Z ⟨g,0,U⟩))) (hrel:lV (λ_=>U) (λ_=>False) W la L):
 Calls T f L.toArray W λe w'=>e= .returned (.bool J)/\Below W.heap.size W w':=by
 let⟨l1,I⟩:=zu hi;let⟨z,y⟩:=zu (t:=⟨[.d .bool],[]⟩) (x:=J) (vs:=[.f .bool J]) (h1:=PT.leaf) rfl;have D:erHF hp=λ_=>U:=by
  funext n;cases hb:erHF hp n with
  |none=>rfl
  |some b=>
   let⟨c,h1,_⟩:=iW hb;have:=I.lt_len h1;omega
 have own0:∀(φ:PM) k,¬own φ (erHF hp) k:=by rintro φ k ⟨i,b,h1,_⟩;rw[D]at h1;cases h1
 have htot:tot (λ_=>False) (λ_=>U) (erHF hp)=λ_=>False:=by
  funext k;exact propext ⟨λh=>h.elim id λh=>cq h (own0 _ k),λh=>h.elim⟩
 refine Calls.mono (sp.calls x J hx vs hp l1 _ PT.leaf z la _ I y hla rfl (λ_=>U) (λ_=>False) W L ⟨(λi j b b' k h1=>by rw[D]at h1;cases h1),(λi b h1=>by rw[D]at h1;cases h1),(λk h=>h.elim),(λg cells h=>by rw[htot];exact hg g cells h)⟩ (by rw[htot];exact hrel) (λn k h=>by cases h)) ?_;rintro en w' ⟨v,φ',rfl,he,_,_,_,A⟩;refine ⟨?_,⟨he.os,he.tape,he.output,he.size,λk hk=>he.jp k hk (own0 _ k)⟩⟩;have A:cf φ' _ w' (.f (.raw (.bool J))) v:=A;cases A with
 |f h=>cases h;rfl
def gKw:Tryz.prog.globalNamed "interleave/token.keywords" =Z 0:=by kernel_rfl
def tKw:(Tryz.prog.globals[0]?).map (·.type)=Z 274:=by kernel_rfl
def kw_of_laid {W:World} (h:laidMetH Tryz.prog [("interleave/token.keywords",Rows.laid_interleave_token_keywords)] W):∀g cells,G g=Z cells→nu (λ_=>False) W (.P cells 0) (.pointer (Z ⟨g,0,U⟩)):=by
 intro g cells hG;unfold G at hG;split at hG
 .rename_i hg;have hg:=eq_of_beq hg;subst hg;cases hG;rw[MakeChecks.laidMetH_plain _ _ _ (by kernel_rfl)]at h;let⟨ps,⟨g0,t0,cs0,f0,p0,q0,hg0,ht0,hv0,hd0,_,_⟩,_,_⟩:=h;obtain rfl:=fX (gKw.symm.trans hg0);obtain rfl:=fX (tKw.symm.trans ht0);obtain⟨xs,m1,rfl,D,hlen,hn,hel⟩:=DataW.trod_array Tryz.underlying274 hd0;have c1:Tryz.prog.cellsOf 9=1:=by kernel_rfl
  have c22:Tryz.prog.cellsOf 274=22:=by kernel_rfl
  rw[c22]at hlen;simp only[aR,Rows.laid_interleave_token_keywords,DataW.agg.injEq]at D;have hxs:=D.1;have hcell:∀j,j<22→∃l,(xs.map (·.1))[j]? =Z (.lit (.string l))∧W.cell? ⟨0,j,U⟩=Z (.string ⟨l.toArray⟩):=λj L=>by
   have h1:=hel j L;rw[c1,HU]at h1;rw[aG (by omega)]at h1;let⟨s,e1,e2,_⟩:=DataW.trod_string Tryz.underlying9 h1;refine ⟨s.data.toList,?_,?_⟩
   .rw[bB,aG (by omega),bh,e2]
   .have:=World.var?_cell hg0 hv0 j;rw[this];have z:cs0.toList[j]? =Z (.string s):=by
     have:((cs0.toList.drop j).take 1)[0]? =Z (.string s):=by rw[e1];rfl
     rw[fc,aD (by omega),tN]at this;simpa using this
    rw[← c9,z]
  have hb:0<W.heap.size:=by
   let⟨l,_,z⟩:=hcell 0 (by omega);exact World.block_lt_of_cell? W _ z
  refine .P Gj 0 0 0 (λj=>(W.cell? ⟨0,j,U⟩).getD undef) (λh=>h) hb (λx A=>?_) (λj L=>?_) (λj x A=>?_)
  .simp only[Gj,aV,b7,fk]at A;rcases A with rfl|rfl|rfl|rfl|rfl|rfl|rfl|rfl|rfl|rfl|rfl|rfl|rfl|rfl|rfl|rfl|rfl|rfl|rfl|rfl|rfl|rfl<;>rfl
  .obtain⟨l,_,z⟩:=hcell j L;rw[bX,z];rfl
  .have L:j<22:=(bz.1 A).1;let⟨l,h1,z⟩:=hcell j L;rw[← hxs]at h1;have:x= .raw (.string ⟨l.toArray⟩):=by
    rcases j with _|_|_|_|_|_|_|_|_|_|_|_|_|_|_|_|_|_|_|_|_|_|j;all_goals first|(simp only[hZ,BQ,ah,DataW.lit.injEq,Lit.string.injEq,Gj]at h1 A;subst h1 A;rfl)|omega
   rw[this,z];exact .raw _
 .cases hG
end
end Go.Proofs.YtpjhicegjenpeaaGreatDoor.AI
