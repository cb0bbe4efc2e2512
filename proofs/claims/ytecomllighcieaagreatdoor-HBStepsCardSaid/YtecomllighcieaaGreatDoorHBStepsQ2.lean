/-
  Texts of the proof, part 3 of 6: what is used to prove the statement. No condition.
-/
import Derived.Test.YtecomllighcieaaGreatDoorHBStepsQ1
namespace Go.Proofs.YtecomllighcieaaGreatDoor.AI
open Go.RowKit
set_option maxRecDepth 100000
set_option maxHeartbeats 4000000
set_option linter.unusedVariables false
set_option linter.unusedSimpArgs false
open _root_.Bool renaming not_true→cu,not_false→cF,and_self→gw
open _root_.Int renaming ofNat→ah,ofNat_eq_natCast→aj,toNat→aM,reduceEq→aT,natCast_nonneg→bA,reduceNeg→dw,le_refl→fM,ofNat_lt→gu,toNat_natCast→qz
open _root_.List renaming length→aa,getElem?_eq_getElem→aw,replicate→aF,mem_singleton→aH,getD_eq_getElem?_getD→aN,getElem?_map→aY,mem_cons→bo,mem_append→bD,length_cons→bO,getElem?_eq_none→bU,getElem?_append_left→bV,not_mem_nil→cf,length_take→cj,getElem?_append_right→co,length_append→cq,length_map→cK,mem_cons_of_mem→cS,ext_getElem→cT,getElem?_of_mem→db,take→dD,take_of_length_le→dF,length_singleton→dM,length_replicate→eE,mem_cons_self→eU,mem_of_mem_take→fa,cons_append→fc,range→fE,take_length→gm,contains_iff_mem→iQ,append_assoc→jM,mem_range→k9,getElem_range→mb,getElem_mem→nY,getElem_map→nZ,take_succ_cons→oI,drop_succ_cons→oJ,length_range→qy,getElem_set→rM,length_set→uj,foldl_cons→uk,getElem?_set→xQ
open _root_.Nat renaming beq→av,lt_or_ge→cA,le_refl→cD,le_trans→cO,blt→eg,le_succ_of_le→eC,zero_le→nP,beq_refl→nW,add_assoc→pi,lt_succ_self→rL,not_lt_zero→uh
open _root_.Option renaming map_some→bN,getD_some→rK
open _root_.Prod.mk renaming injEq→ay
open _root_.Sum renaming inr→af,inl→aO
abbrev Kd0:Ty:=(.st (.pr Ka23 (.pr Ka23 (.pr Ka23 (.pr Ka23 (.pr Ka23 (.pr Ka23 (.pr (.sl Ka0) (.pr Ka23 (.sl Ka0))))))))))
abbrev Kd1:Ty:=(.st (.pr .bool .bool))
abbrev Yd0:=((List (List Int))×(List (List Int))×(List (List Int))×(List (List Int))×(List (List Int))×(List (List Int))×(List Int)×(List (List Int))×List Int)
abbrev Yd1:=((List Int)×(List (List Int))×(List (List Int))×(List (List Int))×(List (List Int))×(List (List Int))×(List (List Int))×(List (List Int))×(List Int)×List Int)
abbrev Yd2:=((List Int)×(List (List Int))×(List (List Int))×(List (List Int))×(List (List Int))×(List (List Int))×(List (List Int))×(List (List Int))×List Int)
abbrev Yd3:=(Int×Ya20×(List Bool)×List Ya16)
abbrev Yd4:=(Int×Ya14×Ya17×(List Ya18)×Ya11×Ya11×List (Int×Int×Int))
abbrev Yd5:=(Int×(List (List Int))×(List (List Int))×(List (List Int))×(List (List Int))×(List (List Int))×(List (List Int))×(List (List Int))×List Int)
abbrev Yd6:=(Ya0×Int×Int×Int×Int×Int×(List Int)×List Int)
abbrev Yd7:=(List (Int×Int))
def xn {α R:Type} [DecidableEq α] (a b:α) (r:Option R):Option R:=if a=b then r else none
theorem zg {α R:Type} [DecidableEq α] (a b:α) (r:Option R):xn a b r=same a b r:=by unfold xn same;by_cases h:a=b<;>simp[h]
theorem zf {α R:Type} [DecidableEq α] {a b:α} (h:a=b) (r:Option R):xn a b r=r:=by unfold xn;rw[if_pos h]
noncomputable def eQ (x:(List Int)×Int):Option (Int):=
 (jn (α:=Bool) (bcase (bz x.2 0) (some (af true)) (some (af (b9 (ah (aa x.1)) x.2)))) fun x1=>(bcase x1 (some 0) (chk (aS x.2 (aa x.1)) fun _=>(some (aB (T:=Ka0) x.1 x.2)))))
noncomputable def oh (it:Itr) (x:(List Int)×List Int):Option (List Int):=
 (chk (b9 0 (eI (ah (aa x.1)) (ah (aa x.2)))&&b9 (eI (ah (aa x.1)) (ah (aa x.2))) (eI (ah (aa x.1)) (ah (aa x.2)))&&aZ (aM (eI (ah (aa x.1)) (ah (aa x.2)))) 8) fun _=>(it (Int×List Int) _ (fun x1=>(bcase (bz x1.1 (ah (aa (aF (aM (eI (ah (aa x.1)) (ah (aa x.2)))) (0:Int))))) (obind (eQ (x.1,x1.1)) fun y2=>(obind (eQ (x.2,x1.1)) fun y3=>(chk (aS x1.1 (aa x1.2)) fun _=>(chk (aS x1.1 (aa x1.2)) fun _=>(some (aO ((aJ .i64 (x1.1+1)),(ch x1.2 x1.1 (eI y2 y3))))))))) (some (af x1.2)))) (0,(aF (aM (eI (ah (aa x.1)) (ah (aa x.2)))) (0:Int)))))
noncomputable def qe (x:(List Int)×List Int):Option (List Int):=oh @iter x
noncomputable def gN (x:(List Int)×List Int):Option (List Int):=oh @dT x
noncomputable def pw (x:(List Int)×Int):Option (Int):=
 (jn (α:=Bool) (bcase (bz x.2 0) (some (af true)) (some (af (b9 (ah (aa x.1)) x.2)))) fun x1=>(bcase x1 (some 0) (chk (aS x.2 (aa x.1)) fun _=>(some (aB (T:=Ka0) x.1 x.2)))))
noncomputable def tR (it:Itr) (x:(List Int)×List Int):Option (List Int):=
 (chk (b9 0 (eI (ah (aa x.1)) (ah (aa x.2)))&&b9 (eI (ah (aa x.1)) (ah (aa x.2))) (eI (ah (aa x.1)) (ah (aa x.2)))&&aZ (aM (eI (ah (aa x.1)) (ah (aa x.2)))) 8) fun _=>(it (Int×List Int) _ (fun x1=>(bcase (bz x1.1 (ah (aa (aF (aM (eI (ah (aa x.1)) (ah (aa x.2)))) (0:Int))))) (obind (pw (x.1,x1.1)) fun y2=>(obind (pw (x.2,x1.1)) fun y3=>(chk (aS x1.1 (aa x1.2)) fun _=>(chk (aS x1.1 (aa x1.2)) fun _=>(some (aO ((aJ .i64 (x1.1+1)),(ch x1.2 x1.1 (eI y2 y3))))))))) (some (af x1.2)))) (0,(aF (aM (eI (ah (aa x.1)) (ah (aa x.2)))) (0:Int)))))
noncomputable def tE (x:(List Int)×List Int):Option (List Int):=tR @iter x
noncomputable def dz (x:(List Int)×List Int):Option (List Int):=tR @dT x
noncomputable def yn (x:List Int):Option (List Int):=
 (bcase (av (aa x) 0) (wD (some ([]:List Int)) (chk (aZ (aa ([]:List Int)+aa x) 8) fun _=>(some (([]:List Int)++x)))) (chk (aZ (aa ([]:List Int)+aa x) 8) fun _=>(some (([]:List Int)++x))))
def rA (x:List Int):Option (List Int):=chk (aZ (aa x) 8) fun _=>some x
noncomputable def pI (it:Itr) (x:List (List Int)):Option (List (List Int)):=
 (chk (b9 0 (ah (aa x))&&b9 (ah (aa x)) (ah (aa x))&&aZ (aM (ah (aa x))) 24) fun _=>(it (Int×List (List Int)) _ (fun x1=>(bcase (bz x1.1 (ah (aa x))) (chk (aS x1.1 (aa x)) fun _=>(obind (rA (aB (T:=(.sl Ka0)) x x1.1)) fun y2=>(chk (aS x1.1 (aa x1.2)) fun _=>(chk (aS x1.1 (aa x1.2)) fun _=>(some (aO ((aJ .i64 (x1.1+1)),(ch x1.2 x1.1 y2)))))))) (some (af x1.2)))) (0,(aF (aM (ah (aa x))) ([]:List Int)))))
noncomputable def rq (x:List (List Int)):Option (List (List Int)):=pI @iter x
noncomputable def er (x:List (List Int)):Option (List (List Int)):=pI @dT x
noncomputable def vU (x:List Int):Option (List Int):=
 (bcase (av (aa x) 0) (wD (some ([]:List Int)) (chk (aZ (aa ([]:List Int)+aa x) 8) fun _=>(some (([]:List Int)++x)))) (chk (aZ (aa ([]:List Int)+aa x) 8) fun _=>(some (([]:List Int)++x))))
def qG (x:List Int):Option (List Int):=chk (aZ (aa x) 8) fun _=>some x
noncomputable def nI (x:(List (List Int))×(List (List Int))×(List (List Int))×(List (List Int))×(List (List Int))×(List (List Int))×(List Int)×(List (List Int))×List Int):Option Yd2:=
 (obind (er x.1) fun y1=>(obind (er x.2.1) fun y2=>(obind (er x.2.2.1) fun y3=>(obind (er x.2.2.2.1) fun y4=>(obind (er x.2.2.2.2.1) fun y5=>(obind (er x.2.2.2.2.2.1) fun y6=>(obind (qG x.2.2.2.2.2.2.1) fun y7=>(obind (er x.2.2.2.2.2.2.2.1) fun y8=>(obind (qG x.2.2.2.2.2.2.2.2) fun y9=>(some (y7,y1,y2,y3,y4,y5,y6,y8,y9)))))))))))
noncomputable def m8 (x:Int×List (List Int)):Option ((List Int)×List (List Int)):=
 (jn (α:=Bool×List (List Int)) (bcase (bz x.1 0) (some (af (true,x.2))) (some (af ((b9 (ah (aa x.2)) x.1),x.2)))) fun x1=>(bcase x1.1 (some (([]:List Int),x1.2)) (chk (aS x.1 (aa x1.2)) fun _=>(chk (aS x.1 (aa x1.2)) fun _=>(some ((aB (T:=(.sl Ka0)) x1.2 x.1),x1.2))))))
noncomputable def nJ (x:Ya5×(List Int)×Ya0×(List (List Int))×(List (List Int))×(List (List Int))×(List (List Int))×(List (List Int))×(List (List Int))×(List (List Int))×List Int):Option ((List (List Int))×Ya5×(List Int)×Ya0×(List (List Int))×(List (List Int))×(List (List Int))×(List (List Int))×(List (List Int))×(List (List Int))×(List (List Int))×List Int):=
 (bcase (decide ((x.1.2.1:Int)=1)) (chk (aS x.1.1 (aa x.2.2.2.2.1)) fun _=>(chk (aS x.1.1 (aa x.2.2.2.2.1)) fun _=>(some ([(aB (T:=(.sl Ka0)) x.2.2.2.2.1 x.1.1)],(x.1.1,x.1.2.1,x.1.2.2.1,x.1.2.2.2.1,x.1.2.2.2.2.1,x.1.2.2.2.2.2.1,x.1.2.2.2.2.2.2),x.2.1,(x.2.2.1.1,x.2.2.1.2.1,x.2.2.1.2.2.1,x.2.2.1.2.2.2.1,x.2.2.1.2.2.2.2.1,x.2.2.1.2.2.2.2.2),x.2.2.2.1,x.2.2.2.2.1,x.2.2.2.2.2.1,x.2.2.2.2.2.2.1,x.2.2.2.2.2.2.2.1,x.2.2.2.2.2.2.2.2.1,x.2.2.2.2.2.2.2.2.2.1,x.2.2.2.2.2.2.2.2.2.2)))) (bcase (decide ((x.1.2.1:Int)=21)) (chk (aS x.1.2.2.1 (aa x.2.2.2.1)) fun _=>(chk (aS x.1.2.2.1 (aa x.2.2.2.1)) fun _=>(some ([(aB (T:=(.sl Ka0)) x.2.2.2.1 x.1.2.2.1)],(x.1.1,x.1.2.1,x.1.2.2.1,x.1.2.2.2.1,x.1.2.2.2.2.1,x.1.2.2.2.2.2.1,x.1.2.2.2.2.2.2),x.2.1,(x.2.2.1.1,x.2.2.1.2.1,x.2.2.1.2.2.1,x.2.2.1.2.2.2.1,x.2.2.1.2.2.2.2.1,x.2.2.1.2.2.2.2.2),x.2.2.2.1,x.2.2.2.2.1,x.2.2.2.2.2.1,x.2.2.2.2.2.2.1,x.2.2.2.2.2.2.2.1,x.2.2.2.2.2.2.2.2.1,x.2.2.2.2.2.2.2.2.2.1,x.2.2.2.2.2.2.2.2.2.2)))) (jn (α:=Bool×Ya5×(List Int)×Ya0×(List (List Int))×(List (List Int))×(List (List Int))×(List (List Int))×(List (List Int))×(List (List Int))×(List (List Int))×List Int) (bcase (decide ((x.1.2.1:Int)=6)) (some (af ((decide ((x.1.2.1:Int)=6)),(x.1.1,x.1.2.1,x.1.2.2.1,x.1.2.2.2.1,x.1.2.2.2.2.1,x.1.2.2.2.2.2.1,x.1.2.2.2.2.2.2),x.2.1,(x.2.2.1.1,x.2.2.1.2.1,x.2.2.1.2.2.1,x.2.2.1.2.2.2.1,x.2.2.1.2.2.2.2.1,x.2.2.1.2.2.2.2.2),x.2.2.2.1,x.2.2.2.2.1,x.2.2.2.2.2.1,x.2.2.2.2.2.2.1,x.2.2.2.2.2.2.2.1,x.2.2.2.2.2.2.2.2.1,x.2.2.2.2.2.2.2.2.2.1,x.2.2.2.2.2.2.2.2.2.2))) (some (af ((decide ((x.1.2.1:Int)=10)),(x.1.1,x.1.2.1,x.1.2.2.1,x.1.2.2.2.1,x.1.2.2.2.2.1,x.1.2.2.2.2.2.1,x.1.2.2.2.2.2.2),x.2.1,(x.2.2.1.1,x.2.2.1.2.1,x.2.2.1.2.2.1,x.2.2.1.2.2.2.1,x.2.2.1.2.2.2.2.1,x.2.2.1.2.2.2.2.2),x.2.2.2.1,x.2.2.2.2.1,x.2.2.2.2.2.1,x.2.2.2.2.2.2.1,x.2.2.2.2.2.2.2.1,x.2.2.2.2.2.2.2.2.1,x.2.2.2.2.2.2.2.2.2.1,x.2.2.2.2.2.2.2.2.2.2)))) fun x1=>(bcase x1.1 (chk (aS x1.2.1.2.2.1 (aa x1.2.2.2.2.2.2.1)) fun _=>(chk (aS x1.2.1.2.2.1 (aa x1.2.2.2.2.2.2.1)) fun _=>(chk (aS x1.2.1.2.2.1 (aa x1.2.2.2.2.2.2.2.1)) fun _=>(chk (aS x1.2.1.2.2.1 (aa x1.2.2.2.2.2.2.2.1)) fun _=>(some ([(aB (T:=(.sl Ka0)) x1.2.2.2.2.2.2.1 x1.2.1.2.2.1),(aB (T:=(.sl Ka0)) x1.2.2.2.2.2.2.2.1 x1.2.1.2.2.1)],(x1.2.1.1,x1.2.1.2.1,x1.2.1.2.2.1,x1.2.1.2.2.2.1,x1.2.1.2.2.2.2.1,x1.2.1.2.2.2.2.2.1,x1.2.1.2.2.2.2.2.2),x1.2.2.1,(x1.2.2.2.1.1,x1.2.2.2.1.2.1,x1.2.2.2.1.2.2.1,x1.2.2.2.1.2.2.2.1,x1.2.2.2.1.2.2.2.2.1,x1.2.2.2.1.2.2.2.2.2),x1.2.2.2.2.1,x1.2.2.2.2.2.1,x1.2.2.2.2.2.2.1,x1.2.2.2.2.2.2.2.1,x1.2.2.2.2.2.2.2.2.1,x1.2.2.2.2.2.2.2.2.2.1,x1.2.2.2.2.2.2.2.2.2.2.1,x1.2.2.2.2.2.2.2.2.2.2.2)))))) (bcase (decide ((x.1.2.1:Int)=8)) (chk (aS x1.2.1.2.2.1 (aa x1.2.2.2.2.2.2.1)) fun _=>(chk (aS x1.2.1.2.2.1 (aa x1.2.2.2.2.2.2.1)) fun _=>(some ([(aB (T:=(.sl Ka0)) x1.2.2.2.2.2.2.1 x1.2.1.2.2.1)],(x1.2.1.1,x1.2.1.2.1,x1.2.1.2.2.1,x1.2.1.2.2.2.1,x1.2.1.2.2.2.2.1,x1.2.1.2.2.2.2.2.1,x1.2.1.2.2.2.2.2.2),x1.2.2.1,(x1.2.2.2.1.1,x1.2.2.2.1.2.1,x1.2.2.2.1.2.2.1,x1.2.2.2.1.2.2.2.1,x1.2.2.2.1.2.2.2.2.1,x1.2.2.2.1.2.2.2.2.2),x1.2.2.2.2.1,x1.2.2.2.2.2.1,x1.2.2.2.2.2.2.1,x1.2.2.2.2.2.2.2.1,x1.2.2.2.2.2.2.2.2.1,x1.2.2.2.2.2.2.2.2.2.1,x1.2.2.2.2.2.2.2.2.2.2.1,x1.2.2.2.2.2.2.2.2.2.2.2)))) (bcase (decide ((x.1.2.1:Int)=17)) (chk (aS x1.2.1.2.2.1 (aa x1.2.2.2.1.2.2.1)) fun _=>(obind (m8 ((aB (T:=Ka20) x1.2.2.2.1.2.2.1 x1.2.1.2.2.1).2,x1.2.2.2.2.2.2.1)) fun y2=>(chk (av (aa x1.2.2.2.2.2.2.1) (aa y2.2)&&true) fun _=>(obind (m8 ((aB (T:=Ka20) x1.2.2.2.1.2.2.1 x1.2.1.2.2.1).2,x1.2.2.2.2.2.2.2.1)) fun y3=>(chk (av (aa x1.2.2.2.2.2.2.2.1) (aa y3.2)&&true) fun _=>(chk (aS x1.2.1.1 (aa x1.2.2.2.2.2.2.2.2.2.2.1)) fun _=>(chk (aS x1.2.1.1 (aa x1.2.2.2.2.2.2.2.2.2.2.1)) fun _=>(some ([y2.1,y3.1,(aB (T:=(.sl Ka0)) x1.2.2.2.2.2.2.2.2.2.2.1 x1.2.1.1)],(x1.2.1.1,x1.2.1.2.1,x1.2.1.2.2.1,x1.2.1.2.2.2.1,x1.2.1.2.2.2.2.1,x1.2.1.2.2.2.2.2.1,x1.2.1.2.2.2.2.2.2),x1.2.2.1,(x1.2.2.2.1.1,x1.2.2.2.1.2.1,x1.2.2.2.1.2.2.1,x1.2.2.2.1.2.2.2.1,x1.2.2.2.1.2.2.2.2.1,x1.2.2.2.1.2.2.2.2.2),x1.2.2.2.2.1,x1.2.2.2.2.2.1,y2.2,y3.2,x1.2.2.2.2.2.2.2.2.1,x1.2.2.2.2.2.2.2.2.2.1,x1.2.2.2.2.2.2.2.2.2.2.1,x1.2.2.2.2.2.2.2.2.2.2.2))))))))) (bcase (decide ((x.1.2.1:Int)=3)) (chk (aS x1.2.1.2.2.1 (aa x1.2.2.2.2.2.2.2.2.1)) fun _=>(chk (aS x1.2.1.2.2.1 (aa x1.2.2.2.2.2.2.2.2.1)) fun _=>(some ([(aB (T:=(.sl Ka0)) x1.2.2.2.2.2.2.2.2.1 x1.2.1.2.2.1)],(x1.2.1.1,x1.2.1.2.1,x1.2.1.2.2.1,x1.2.1.2.2.2.1,x1.2.1.2.2.2.2.1,x1.2.1.2.2.2.2.2.1,x1.2.1.2.2.2.2.2.2),x1.2.2.1,(x1.2.2.2.1.1,x1.2.2.2.1.2.1,x1.2.2.2.1.2.2.1,x1.2.2.2.1.2.2.2.1,x1.2.2.2.1.2.2.2.2.1,x1.2.2.2.1.2.2.2.2.2),x1.2.2.2.2.1,x1.2.2.2.2.2.1,x1.2.2.2.2.2.2.1,x1.2.2.2.2.2.2.2.1,x1.2.2.2.2.2.2.2.2.1,x1.2.2.2.2.2.2.2.2.2.1,x1.2.2.2.2.2.2.2.2.2.2.1,x1.2.2.2.2.2.2.2.2.2.2.2)))) (bcase (decide ((x.1.2.1:Int)=23)) (chk (aS x1.2.1.2.2.1 (aa x1.2.2.2.2.2.2.2.2.2.1)) fun _=>(chk (aS x1.2.1.2.2.1 (aa x1.2.2.2.2.2.2.2.2.2.1)) fun _=>(some ([(aB (T:=(.sl Ka0)) x1.2.2.2.2.2.2.2.2.2.1 x1.2.1.2.2.1)],(x1.2.1.1,x1.2.1.2.1,x1.2.1.2.2.1,x1.2.1.2.2.2.1,x1.2.1.2.2.2.2.1,x1.2.1.2.2.2.2.2.1,x1.2.1.2.2.2.2.2.2),x1.2.2.1,(x1.2.2.2.1.1,x1.2.2.2.1.2.1,x1.2.2.2.1.2.2.1,x1.2.2.2.1.2.2.2.1,x1.2.2.2.1.2.2.2.2.1,x1.2.2.2.1.2.2.2.2.2),x1.2.2.2.2.1,x1.2.2.2.2.2.1,x1.2.2.2.2.2.2.1,x1.2.2.2.2.2.2.2.1,x1.2.2.2.2.2.2.2.2.1,x1.2.2.2.2.2.2.2.2.2.1,x1.2.2.2.2.2.2.2.2.2.2.1,x1.2.2.2.2.2.2.2.2.2.2.2)))) (bcase (decide ((x.1.2.1:Int)=12)) (some ([x1.2.2.1],(x1.2.1.1,x1.2.1.2.1,x1.2.1.2.2.1,x1.2.1.2.2.2.1,x1.2.1.2.2.2.2.1,x1.2.1.2.2.2.2.2.1,x1.2.1.2.2.2.2.2.2),x1.2.2.1,(x1.2.2.2.1.1,x1.2.2.2.1.2.1,x1.2.2.2.1.2.2.1,x1.2.2.2.1.2.2.2.1,x1.2.2.2.1.2.2.2.2.1,x1.2.2.2.1.2.2.2.2.2),x1.2.2.2.2.1,x1.2.2.2.2.2.1,x1.2.2.2.2.2.2.1,x1.2.2.2.2.2.2.2.1,x1.2.2.2.2.2.2.2.2.1,x1.2.2.2.2.2.2.2.2.2.1,x1.2.2.2.2.2.2.2.2.2.2.1,x1.2.2.2.2.2.2.2.2.2.2.2)) (some (([]:List (List Int)),(x1.2.1.1,x1.2.1.2.1,x1.2.1.2.2.1,x1.2.1.2.2.2.1,x1.2.1.2.2.2.2.1,x1.2.1.2.2.2.2.2.1,x1.2.1.2.2.2.2.2.2),x1.2.2.1,(x1.2.2.2.1.1,x1.2.2.2.1.2.1,x1.2.2.2.1.2.2.1,x1.2.2.2.1.2.2.2.1,x1.2.2.2.1.2.2.2.2.1,x1.2.2.2.1.2.2.2.2.2),x1.2.2.2.2.1,x1.2.2.2.2.2.1,x1.2.2.2.2.2.2.1,x1.2.2.2.2.2.2.2.1,x1.2.2.2.2.2.2.2.2.1,x1.2.2.2.2.2.2.2.2.2.1,x1.2.2.2.2.2.2.2.2.2.2.1,x1.2.2.2.2.2.2.2.2.2.2.2)))))))))))
noncomputable def qN (it:Itr) (x:Ya14×Ya17×(List Ya18)×Ya11×Ya11×List (Int×Int×Int)):Option Yd0:=
 (chk (b9 0 (ah (aa x.2.2.2.2.1))&&b9 (ah (aa x.2.2.2.2.1)) (ah (aa x.2.2.2.2.1))&&aZ (aM (ah (aa x.2.2.2.2.1))) 24) fun _=>(chk (b9 0 (ah (aa x.2.2.2.2.1))&&b9 (ah (aa x.2.2.2.2.1)) (ah (aa x.2.2.2.2.1))&&aZ (aM (ah (aa x.2.2.2.2.1))) 24) fun _=>(chk (b9 0 (ah (aa x.2.1))&&b9 (ah (aa x.2.1)) (ah (aa x.2.1))&&aZ (aM (ah (aa x.2.1))) 24) fun _=>(chk (b9 0 (ah (aa x.2.1))&&b9 (ah (aa x.2.1)) (ah (aa x.2.1))&&aZ (aM (ah (aa x.2.1))) 24) fun _=>(chk (b9 0 (ah (aa x.1))&&b9 (ah (aa x.1)) (ah (aa x.1))&&aZ (aM (ah (aa x.1))) 24) fun _=>(chk (b9 0 (ah (aa x.2.2.2.1))&&b9 (ah (aa x.2.2.2.1)) (ah (aa x.2.2.2.1))&&aZ (aM (ah (aa x.2.2.2.1))) 24) fun _=>(chk (b9 0 (ah (aa x.2.2.2.2.1))&&b9 (ah (aa x.2.2.2.2.1)) (ah (aa x.2.2.2.2.1))&&aZ (aM (ah (aa x.2.2.2.2.1))) 24) fun _=>(chk (b9 0 (ah (aa x.2.2.2.2.1))&&b9 (ah (aa x.2.2.2.2.1)) (ah (aa x.2.2.2.2.1))&&aZ (aM (ah (aa x.2.2.2.2.1))) 8) fun _=>(it Yd5 _ (fun x1=>(bcase (bz x1.1 (ah (aa (aF (aM (ah (aa x.2.2.2.2.1))) (0:Int))))) (chk (aS x1.1 (aa x1.2.2.2.2.2.2.2.2)) fun _=>(chk (aS x1.1 (aa x1.2.2.2.2.2.2.2.2)) fun _=>(some (aO ((aJ .i64 (x1.1+1)),x1.2.1,x1.2.2.1,x1.2.2.2.1,x1.2.2.2.2.1,x1.2.2.2.2.2.1,x1.2.2.2.2.2.2.1,x1.2.2.2.2.2.2.2.1,(ch x1.2.2.2.2.2.2.2.2 x1.1 (-1))))))) (some (af (x1.2.1,x1.2.2.1,x1.2.2.2.1,x1.2.2.2.2.1,x1.2.2.2.2.2.1,x1.2.2.2.2.2.2.1,([]:List Int),x1.2.2.2.2.2.2.2.1,x1.2.2.2.2.2.2.2.2))))) (0,(aF (aM (ah (aa x.2.2.2.2.1))) ([]:List Int)),(aF (aM (ah (aa x.2.2.2.2.1))) ([]:List Int)),(aF (aM (ah (aa x.2.1))) ([]:List Int)),(aF (aM (ah (aa x.2.1))) ([]:List Int)),(aF (aM (ah (aa x.1))) ([]:List Int)),(aF (aM (ah (aa x.2.2.2.1))) ([]:List Int)),(aF (aM (ah (aa x.2.2.2.2.1))) ([]:List Int)),(aF (aM (ah (aa x.2.2.2.2.1))) (0:Int))))))))))))
noncomputable def tG (x:Ya14×Ya17×(List Ya18)×Ya11×Ya11×List (Int×Int×Int)):Option Yd0:=qN @iter x
noncomputable def ja (x:Ya14×Ya17×(List Ya18)×Ya11×Ya11×List (Int×Int×Int)):Option Yd0:=qN @dT x
noncomputable def mF (x:(List Int)×Int):Option (List Int):=
 (jn (α:=Bool) (bcase (b9 0 x.2) (some (af (bz x.2 4))) (some (af false))) fun x1=>(jn (α:=Int) (bcase x1 (some (af (eI (ah (aa x.1)) (aJ .i64 (x.2+1))))) (some (af (ah (aa x.1))))) fun x2=>(chk (b9 0 x2&&b9 x2 x2&&aZ (aM x2) 8) fun _=>(jn (α:=List Int) (jn (α:=Bool×List Int) (bcase x1 (chk (aS x.2 (aa (Aa (aF (aM x2) (0:Int)) x.1))) fun _=>(chk (aS x.2 (aa (Aa (aF (aM x2) (0:Int)) x.1))) fun _=>(some (af ((bz (aB (T:=Ka0) (Aa (aF (aM x2) (0:Int)) x.1) x.2) 9223372036854775807),(Aa (aF (aM x2) (0:Int)) x.1)))))) (some (af (false,(Aa (aF (aM x2) (0:Int)) x.1))))) fun x4=>(bcase x4.1 (chk (aS x.2 (aa x4.2)) fun _=>(chk (aS x.2 (aa x4.2)) fun _=>(chk (aS x.2 (aa x4.2)) fun _=>(chk (aS x.2 (aa x4.2)) fun _=>(some (af (ch x4.2 x.2 (aJ .i64 ((aB (T:=Ka0) x4.2 x.2)+1))))))))) (some (af x4.2)))) fun x3=>(some x3)))))
noncomputable def oY (x:List Int):Option ((List Int)×List Int):=
 (chk (aZ (aa ([]:List Int)+aa x) 8) fun _=>(some ((([]:List Int)++x),x)))
noncomputable def oc (x:List Int):Option (List Int):=obind (oY x) fun y=>xn y.2 x (some y.1)
noncomputable def vg (it:Itr) (x:(List Int)×List Int):Option ((List Int)×List Int):=
 (chk (b9 0 (eI (ah (aa x.1)) (ah (aa x.2)))&&b9 (eI (ah (aa x.1)) (ah (aa x.2))) (eI (ah (aa x.1)) (ah (aa x.2)))&&aZ (aM (eI (ah (aa x.1)) (ah (aa x.2)))) 8) fun _=>(it (Int×(List Int)×List Int) _ (fun x1=>(bcase (bz x1.1 (ah (aa (aF (aM (eI (ah (aa x.1)) (ah (aa x.2)))) (0:Int))))) (obind (eQ (x.1,x1.1)) fun y2=>(obind (eQ (x1.2.1,x1.1)) fun y3=>(chk (aS x1.1 (aa x1.2.2)) fun _=>(chk (aS x1.1 (aa x1.2.2)) fun _=>(some (aO ((aJ .i64 (x1.1+1)),x1.2.1,(ch x1.2.2 x1.1 (eI y2 y3))))))))) (some (af (x1.2.2,x1.2.1))))) (0,x.2,(aF (aM (eI (ah (aa x.1)) (ah (aa x.2)))) (0:Int)))))
noncomputable def yl (x:(List Int)×List Int):Option ((List Int)×List Int):=vg @iter x
noncomputable def mT (x:(List Int)×List Int):Option ((List Int)×List Int):=vg @dT x
noncomputable def rz (x:(List Int)×List Int):Option (List Int):=obind (mT x) fun y=>xn y.2 x.2 (some y.1)
noncomputable def gR (x:Int×(List (List Int))×List Int):Option ((List (List Int))×List Int):=
 (jn (α:=Bool×(List (List Int))×List Int) (bcase (b9 0 x.1) (some (af ((bz x.1 (ah (aa x.2.1))),x.2.1,x.2.2))) (some (af (false,x.2.1,x.2.2)))) fun x1=>(bcase x1.1 (chk (aS x.1 (aa x1.2.1)) fun _=>(chk (aS x.1 (aa x1.2.1)) fun _=>(obind (rz ((aB (T:=(.sl Ka0)) x1.2.1 x.1),x1.2.2)) fun y2=>(chk (aS x.1 (aa x1.2.1)) fun _=>(chk (aS x.1 (aa x1.2.1)) fun _=>(some ((ch x1.2.1 x.1 y2),x1.2.2))))))) (some (x1.2.1,x1.2.2))))
noncomputable def oW (x:Int×(List Int)×(List (List Int))×(List (List Int))×(List (List Int))×(List (List Int))×(List (List Int))×(List (List Int))×(List (List Int))×(List Int)×List Int):Option Yd1:=
 (obind (oc x.2.2.2.2.2.2.2.2.2.2) fun y1=>(chk (aS x.1 (aa x.2.2.2.2.2.2.2.2.1)) fun _=>(chk (aS x.1 (aa x.2.2.2.2.2.2.2.2.1)) fun _=>(chk (aS x.1 (aa x.2.2.2.2.2.2.2.2.2.1)) fun _=>(chk (aS x.1 (aa x.2.2.2.2.2.2.2.2.2.1)) fun _=>(some (x.2.1,x.2.2.1,x.2.2.2.1,x.2.2.2.2.1,x.2.2.2.2.2.1,x.2.2.2.2.2.2.1,x.2.2.2.2.2.2.2.1,(ch x.2.2.2.2.2.2.2.2.1 x.1 y1),(ch x.2.2.2.2.2.2.2.2.2.1 x.1 (-1)),x.2.2.2.2.2.2.2.2.2.2)))))))
noncomputable def qM (it:Itr) (x:Yd6×(List Int)×(List (List Int))×(List (List Int))×(List (List Int))×(List (List Int))×(List (List Int))×(List (List Int))×(List (List Int))×(List Int)×List Int):Option Yd1:=
 (obind (oc x.2.2.2.2.2.2.2.2.2.2) fun y1=>(chk (aS x.1.2.1 (aa x.2.2.1)) fun _=>(chk (aS x.1.2.1 (aa x.2.2.1)) fun _=>(jn (α:=(List Int)×(List (List Int))×(List (List Int))×(List (List Int))×(List (List Int))×(List (List Int))×(List (List Int))×(List (List Int))×(List Int)×List Int) (bcase (decide ((x.1.2.2.1:Int)=20)) (obind (oc x.2.2.2.2.2.2.2.2.2.2) fun y3=>(chk (aS x.1.2.2.2.1 (aa x.2.2.2.1)) fun _=>(chk (aS x.1.2.2.2.1 (aa x.2.2.2.1)) fun _=>(some (af (x.2.1,(ch x.2.2.1 x.1.2.1 y1),(ch x.2.2.2.1 x.1.2.2.2.1 y3),x.2.2.2.2.1,x.2.2.2.2.2.1,x.2.2.2.2.2.2.1,x.2.2.2.2.2.2.2.1,x.2.2.2.2.2.2.2.2.1,x.2.2.2.2.2.2.2.2.2.1,x.2.2.2.2.2.2.2.2.2.2)))))) (jn (α:=Bool×(List Int)×(List (List Int))×(List (List Int))×(List (List Int))×(List (List Int))×(List (List Int))×(List (List Int))×(List (List Int))×(List Int)×(List Int)×Ya0×Int×Int×Int×Int×Int×(List Int)×List Int) (bcase (decide ((x.1.2.2.1:Int)=7)) (some (af ((decide ((x.1.2.2.1:Int)=7)),x.2.1,(ch x.2.2.1 x.1.2.1 y1),x.2.2.2.1,x.2.2.2.2.1,x.2.2.2.2.2.1,x.2.2.2.2.2.2.1,x.2.2.2.2.2.2.2.1,x.2.2.2.2.2.2.2.2.1,x.2.2.2.2.2.2.2.2.2.1,x.2.2.2.2.2.2.2.2.2.2,(x.1.1.1,x.1.1.2.1,x.1.1.2.2.1,x.1.1.2.2.2.1,x.1.1.2.2.2.2.1,x.1.1.2.2.2.2.2),x.1.2.1,x.1.2.2.1,x.1.2.2.2.1,x.1.2.2.2.2.1,x.1.2.2.2.2.2.1,x.1.2.2.2.2.2.2.1,x.1.2.2.2.2.2.2.2))) (some (af ((decide ((x.1.2.2.1:Int)=11)),x.2.1,(ch x.2.2.1 x.1.2.1 y1),x.2.2.2.1,x.2.2.2.2.1,x.2.2.2.2.2.1,x.2.2.2.2.2.2.1,x.2.2.2.2.2.2.2.1,x.2.2.2.2.2.2.2.2.1,x.2.2.2.2.2.2.2.2.2.1,x.2.2.2.2.2.2.2.2.2.2,(x.1.1.1,x.1.1.2.1,x.1.1.2.2.1,x.1.1.2.2.2.1,x.1.1.2.2.2.2.1,x.1.1.2.2.2.2.2),x.1.2.1,x.1.2.2.1,x.1.2.2.2.1,x.1.2.2.2.2.1,x.1.2.2.2.2.2.1,x.1.2.2.2.2.2.2.1,x.1.2.2.2.2.2.2.2)))) fun x4=>(bcase x4.1 (obind (gR (x4.2.2.2.2.2.2.2.2.2.2.2.2.2.2.1,x4.2.2.2.2.1,x4.2.2.2.2.2.2.2.2.2.2.1)) fun y5=>(chk (av (aa x4.2.2.2.2.2.2.2.2.2.2.1) (aa y5.2)&&(av (aa x4.2.2.2.2.1) (aa y5.1)&&true)) fun _=>(some (af (x4.2.1,x4.2.2.1,x4.2.2.2.1,y5.1,x4.2.2.2.2.2.1,x4.2.2.2.2.2.2.1,x4.2.2.2.2.2.2.2.1,x4.2.2.2.2.2.2.2.2.1,x4.2.2.2.2.2.2.2.2.2.1,y5.2))))) (bcase (decide ((x.1.2.2.1:Int)=9)) (obind (gR (x4.2.2.2.2.2.2.2.2.2.2.2.2.2.2.1,x4.2.2.2.2.2.1,x4.2.2.2.2.2.2.2.2.2.2.1)) fun y6=>(chk (av (aa x4.2.2.2.2.2.2.2.2.2.2.1) (aa y6.2)&&(av (aa x4.2.2.2.2.2.1) (aa y6.1)&&true)) fun _=>(some (af (x4.2.1,x4.2.2.1,x4.2.2.2.1,x4.2.2.2.2.1,y6.1,x4.2.2.2.2.2.2.1,x4.2.2.2.2.2.2.2.1,x4.2.2.2.2.2.2.2.2.1,x4.2.2.2.2.2.2.2.2.2.1,y6.2))))) (bcase (decide ((x.1.2.2.1:Int)=16)) (chk (aS x4.2.2.2.2.2.2.2.2.2.2.2.2.1 (aa x4.2.2.2.2.2.2.2.2.2.1)) fun _=>(chk (aS x4.2.2.2.2.2.2.2.2.2.2.2.2.1 (aa x4.2.2.2.2.2.2.2.2.2.1)) fun _=>(chk (aS x4.2.2.2.2.2.2.2.2.2.2.2.2.2.2.1 (aa x4.2.2.2.2.2.2.2.2.2.2.2.1.2.2.1)) fun _=>(obind (gR ((aB (T:=Ka20) x4.2.2.2.2.2.2.2.2.2.2.2.1.2.2.1 x4.2.2.2.2.2.2.2.2.2.2.2.2.2.2.1).2,x4.2.2.2.2.1,x4.2.2.2.2.2.2.2.2.2.2.1)) fun y7=>(chk (av (aa x4.2.2.2.2.2.2.2.2.2.2.1) (aa y7.2)&&(av (aa x4.2.2.2.2.1) (aa y7.1)&&true)) fun _=>(some (af (x4.2.1,x4.2.2.1,x4.2.2.2.1,y7.1,x4.2.2.2.2.2.1,x4.2.2.2.2.2.2.1,x4.2.2.2.2.2.2.2.1,x4.2.2.2.2.2.2.2.2.1,(ch x4.2.2.2.2.2.2.2.2.2.1 x4.2.2.2.2.2.2.2.2.2.2.2.2.1 x4.2.2.2.2.2.2.2.2.2.2.2.2.2.2.1),y7.2)))))))) (bcase (decide ((x.1.2.2.1:Int)=4)) (chk (aS x4.2.2.2.2.2.2.2.2.2.2.2.2.2.2.1 (aa x4.2.2.2.2.2.2.2.2.2.2.2.1.1)) fun _=>(bcase (((((aB (T:=Ka10) x4.2.2.2.2.2.2.2.2.2.2.2.1.1 x4.2.2.2.2.2.2.2.2.2.2.2.2.2.2.1).2).2).2).1) (obind (gR (x4.2.2.2.2.2.2.2.2.2.2.2.2.2.2.1,x4.2.2.2.2.2.2.1,x4.2.2.2.2.2.2.2.2.2.2.1)) fun y8=>(chk (av (aa x4.2.2.2.2.2.2.2.2.2.2.1) (aa y8.2)&&(av (aa x4.2.2.2.2.2.2.1) (aa y8.1)&&true)) fun _=>(some (af (x4.2.1,x4.2.2.1,x4.2.2.2.1,x4.2.2.2.2.1,x4.2.2.2.2.2.1,y8.1,x4.2.2.2.2.2.2.2.1,x4.2.2.2.2.2.2.2.2.1,x4.2.2.2.2.2.2.2.2.2.1,y8.2))))) (some (af (x4.2.1,x4.2.2.1,x4.2.2.2.1,x4.2.2.2.2.1,x4.2.2.2.2.2.1,x4.2.2.2.2.2.2.1,x4.2.2.2.2.2.2.2.1,x4.2.2.2.2.2.2.2.2.1,x4.2.2.2.2.2.2.2.2.2.1,x4.2.2.2.2.2.2.2.2.2.2.1))))) (bcase (decide ((x.1.2.2.1:Int)=22)) (obind (gR (x4.2.2.2.2.2.2.2.2.2.2.2.2.2.2.1,x4.2.2.2.2.2.2.2.1,x4.2.2.2.2.2.2.2.2.2.2.1)) fun y9=>(chk (av (aa x4.2.2.2.2.2.2.2.2.2.2.1) (aa y9.2)&&(av (aa x4.2.2.2.2.2.2.2.1) (aa y9.1)&&true)) fun _=>(some (af (x4.2.1,x4.2.2.1,x4.2.2.2.1,x4.2.2.2.2.1,x4.2.2.2.2.2.1,x4.2.2.2.2.2.2.1,y9.1,x4.2.2.2.2.2.2.2.2.1,x4.2.2.2.2.2.2.2.2.2.1,y9.2))))) (bcase (decide ((x.1.2.2.1:Int)=13)) (obind (rz (x4.2.1,x4.2.2.2.2.2.2.2.2.2.2.1)) fun y10=>(some (af (y10,x4.2.2.1,x4.2.2.2.1,x4.2.2.2.2.1,x4.2.2.2.2.2.1,x4.2.2.2.2.2.2.1,x4.2.2.2.2.2.2.2.1,x4.2.2.2.2.2.2.2.2.1,x4.2.2.2.2.2.2.2.2.2.1,x4.2.2.2.2.2.2.2.2.2.2.1)))) (bcase (decide ((x.1.2.2.1:Int)=18)) (jn (α:=Bool×(List Int)×(List (List Int))×(List (List Int))×(List (List Int))×(List (List Int))×(List (List Int))×(List (List Int))×(List (List Int))×(List Int)×(List Int)×Int×Int×Int×Int×Int×(List Int)×List Int) (bcase (b9 0 x4.2.2.2.2.2.2.2.2.2.2.2.2.2.2.2.1) (some (af ((bz x4.2.2.2.2.2.2.2.2.2.2.2.2.2.2.2.1 (ah (aa x4.2.2.2.2.2.2.2.2.1))),x4.2.1,x4.2.2.1,x4.2.2.2.1,x4.2.2.2.2.1,x4.2.2.2.2.2.1,x4.2.2.2.2.2.2.1,x4.2.2.2.2.2.2.2.1,x4.2.2.2.2.2.2.2.2.1,x4.2.2.2.2.2.2.2.2.2.1,x4.2.2.2.2.2.2.2.2.2.2.1,x4.2.2.2.2.2.2.2.2.2.2.2.2.1,x4.2.2.2.2.2.2.2.2.2.2.2.2.2.1,x4.2.2.2.2.2.2.2.2.2.2.2.2.2.2.1,x4.2.2.2.2.2.2.2.2.2.2.2.2.2.2.2.1,x4.2.2.2.2.2.2.2.2.2.2.2.2.2.2.2.2.1,x4.2.2.2.2.2.2.2.2.2.2.2.2.2.2.2.2.2.1,x4.2.2.2.2.2.2.2.2.2.2.2.2.2.2.2.2.2.2))) (some (af (false,x4.2.1,x4.2.2.1,x4.2.2.2.1,x4.2.2.2.2.1,x4.2.2.2.2.2.1,x4.2.2.2.2.2.2.1,x4.2.2.2.2.2.2.2.1,x4.2.2.2.2.2.2.2.2.1,x4.2.2.2.2.2.2.2.2.2.1,x4.2.2.2.2.2.2.2.2.2.2.1,x4.2.2.2.2.2.2.2.2.2.2.2.2.1,x4.2.2.2.2.2.2.2.2.2.2.2.2.2.1,x4.2.2.2.2.2.2.2.2.2.2.2.2.2.2.1,x4.2.2.2.2.2.2.2.2.2.2.2.2.2.2.2.1,x4.2.2.2.2.2.2.2.2.2.2.2.2.2.2.2.2.1,x4.2.2.2.2.2.2.2.2.2.2.2.2.2.2.2.2.2.1,x4.2.2.2.2.2.2.2.2.2.2.2.2.2.2.2.2.2.2)))) fun x11=>(bcase x11.1 (obind (oW (x11.2.2.2.2.2.2.2.2.2.2.2.2.2.2.1,x11.2.1,x11.2.2.1,x11.2.2.2.1,x11.2.2.2.2.1,x11.2.2.2.2.2.1,x11.2.2.2.2.2.2.1,x11.2.2.2.2.2.2.2.1,x11.2.2.2.2.2.2.2.2.1,x11.2.2.2.2.2.2.2.2.2.1,x11.2.2.2.2.2.2.2.2.2.2.1)) fun y12=>(chk (av (aa x11.2.2.2.2.2.2.2.2.2.2.1) (aa y12.2.2.2.2.2.2.2.2.2)&&(av (aa x11.2.2.2.2.2.2.2.2.2.1) (aa y12.2.2.2.2.2.2.2.2.1)&&(av (aa x11.2.2.2.2.2.2.2.2.1) (aa y12.2.2.2.2.2.2.2.1)&&(av (aa x11.2.2.2.2.2.2.2.1) (aa y12.2.2.2.2.2.2.1)&&(av (aa x11.2.2.2.2.2.2.1) (aa y12.2.2.2.2.2.1)&&(av (aa x11.2.2.2.2.2.1) (aa y12.2.2.2.2.1)&&(av (aa x11.2.2.2.2.1) (aa y12.2.2.2.1)&&(av (aa x11.2.2.2.1) (aa y12.2.2.1)&&(av (aa x11.2.2.1) (aa y12.2.1)&&true))))))))) fun _=>(some (af (y12.1,y12.2.1,y12.2.2.1,y12.2.2.2.1,y12.2.2.2.2.1,y12.2.2.2.2.2.1,y12.2.2.2.2.2.2.1,y12.2.2.2.2.2.2.2.1,y12.2.2.2.2.2.2.2.2.1,y12.2.2.2.2.2.2.2.2.2))))) (some (af (x11.2.1,x11.2.2.1,x11.2.2.2.1,x11.2.2.2.2.1,x11.2.2.2.2.2.1,x11.2.2.2.2.2.2.1,x11.2.2.2.2.2.2.2.1,x11.2.2.2.2.2.2.2.2.1,x11.2.2.2.2.2.2.2.2.2.1,x11.2.2.2.2.2.2.2.2.2.2.1))))) (bcase (decide ((x.1.2.2.1:Int)=19)) (it (Int×(List Int)×(List (List Int))×(List (List Int))×(List (List Int))×(List (List Int))×(List (List Int))×(List (List Int))×(List (List Int))×(List Int)×(List Int)×Int×Int×Int×Int×Int×(List Int)×List Int) _ (fun x13=>(bcase (bz x13.1 (ah (aa x4.2.2.2.2.2.2.2.2.2.1))) (jn (α:=(List Int)×(List (List Int))×(List (List Int))×(List (List Int))×(List (List Int))×(List (List Int))×(List (List Int))×(List (List Int))×(List Int)×(List Int)×Int×Int×Int×Int×Int×(List Int)×List Int) (chk (aS x13.1 (aa x13.2.2.2.2.2.2.2.2.2.1)) fun _=>(chk (aS x13.1 (aa x13.2.2.2.2.2.2.2.2.2.1)) fun _=>(bcase (decide (((aB (T:=Ka0) x13.2.2.2.2.2.2.2.2.2.1 x13.1):Int)=x13.2.2.2.2.2.2.2.2.2.2.2.2.2.1)) (obind (oW (x13.1,x13.2.1,x13.2.2.1,x13.2.2.2.1,x13.2.2.2.2.1,x13.2.2.2.2.2.1,x13.2.2.2.2.2.2.1,x13.2.2.2.2.2.2.2.1,x13.2.2.2.2.2.2.2.2.1,x13.2.2.2.2.2.2.2.2.2.1,x13.2.2.2.2.2.2.2.2.2.2.1)) fun y15=>(chk (av (aa x13.2.2.2.2.2.2.2.2.2.2.1) (aa y15.2.2.2.2.2.2.2.2.2)&&(av (aa x13.2.2.2.2.2.2.2.2.2.1) (aa y15.2.2.2.2.2.2.2.2.1)&&(av (aa x13.2.2.2.2.2.2.2.2.1) (aa y15.2.2.2.2.2.2.2.1)&&(av (aa x13.2.2.2.2.2.2.2.1) (aa y15.2.2.2.2.2.2.1)&&(av (aa x13.2.2.2.2.2.2.1) (aa y15.2.2.2.2.2.1)&&(av (aa x13.2.2.2.2.2.1) (aa y15.2.2.2.2.1)&&(av (aa x13.2.2.2.2.1) (aa y15.2.2.2.1)&&(av (aa x13.2.2.2.1) (aa y15.2.2.1)&&(av (aa x13.2.2.1) (aa y15.2.1)&&true))))))))) fun _=>(some (af (y15.1,y15.2.1,y15.2.2.1,y15.2.2.2.1,y15.2.2.2.2.1,y15.2.2.2.2.2.1,y15.2.2.2.2.2.2.1,y15.2.2.2.2.2.2.2.1,y15.2.2.2.2.2.2.2.2.1,y15.2.2.2.2.2.2.2.2.2,x13.2.2.2.2.2.2.2.2.2.2.2.1,x13.2.2.2.2.2.2.2.2.2.2.2.2.1,x13.2.2.2.2.2.2.2.2.2.2.2.2.2.1,x13.2.2.2.2.2.2.2.2.2.2.2.2.2.2.1,x13.2.2.2.2.2.2.2.2.2.2.2.2.2.2.2.1,x13.2.2.2.2.2.2.2.2.2.2.2.2.2.2.2.2.1,x13.2.2.2.2.2.2.2.2.2.2.2.2.2.2.2.2.2))))) (some (af (x13.2.1,x13.2.2.1,x13.2.2.2.1,x13.2.2.2.2.1,x13.2.2.2.2.2.1,x13.2.2.2.2.2.2.1,x13.2.2.2.2.2.2.2.1,x13.2.2.2.2.2.2.2.2.1,x13.2.2.2.2.2.2.2.2.2.1,x13.2.2.2.2.2.2.2.2.2.2.1,x13.2.2.2.2.2.2.2.2.2.2.2.1,x13.2.2.2.2.2.2.2.2.2.2.2.2.1,x13.2.2.2.2.2.2.2.2.2.2.2.2.2.1,x13.2.2.2.2.2.2.2.2.2.2.2.2.2.2.1,x13.2.2.2.2.2.2.2.2.2.2.2.2.2.2.2.1,x13.2.2.2.2.2.2.2.2.2.2.2.2.2.2.2.2.1,x13.2.2.2.2.2.2.2.2.2.2.2.2.2.2.2.2.2)))))) fun x14=>(some (aO ((aJ .i64 (x13.1+1)),x14.1,x14.2.1,x14.2.2.1,x14.2.2.2.1,x14.2.2.2.2.1,x14.2.2.2.2.2.1,x14.2.2.2.2.2.2.1,x14.2.2.2.2.2.2.2.1,x14.2.2.2.2.2.2.2.2.1,x14.2.2.2.2.2.2.2.2.2.1,x14.2.2.2.2.2.2.2.2.2.2.1,x14.2.2.2.2.2.2.2.2.2.2.2.1,x14.2.2.2.2.2.2.2.2.2.2.2.2.1,x14.2.2.2.2.2.2.2.2.2.2.2.2.2.1,x14.2.2.2.2.2.2.2.2.2.2.2.2.2.2.1,x14.2.2.2.2.2.2.2.2.2.2.2.2.2.2.2.1,x14.2.2.2.2.2.2.2.2.2.2.2.2.2.2.2.2)))) (some (af (af (x13.2.1,x13.2.2.1,x13.2.2.2.1,x13.2.2.2.2.1,x13.2.2.2.2.2.1,x13.2.2.2.2.2.2.1,x13.2.2.2.2.2.2.2.1,x13.2.2.2.2.2.2.2.2.1,x13.2.2.2.2.2.2.2.2.2.1,x13.2.2.2.2.2.2.2.2.2.2.1)))))) (0,x4.2.1,x4.2.2.1,x4.2.2.2.1,x4.2.2.2.2.1,x4.2.2.2.2.2.1,x4.2.2.2.2.2.2.1,x4.2.2.2.2.2.2.2.1,x4.2.2.2.2.2.2.2.2.1,x4.2.2.2.2.2.2.2.2.2.1,x4.2.2.2.2.2.2.2.2.2.2.1,x4.2.2.2.2.2.2.2.2.2.2.2.2.1,x4.2.2.2.2.2.2.2.2.2.2.2.2.2.1,x4.2.2.2.2.2.2.2.2.2.2.2.2.2.2.1,x4.2.2.2.2.2.2.2.2.2.2.2.2.2.2.2.1,x4.2.2.2.2.2.2.2.2.2.2.2.2.2.2.2.2.1,x4.2.2.2.2.2.2.2.2.2.2.2.2.2.2.2.2.2.1,x4.2.2.2.2.2.2.2.2.2.2.2.2.2.2.2.2.2.2)) (some (af (x4.2.1,x4.2.2.1,x4.2.2.2.1,x4.2.2.2.2.1,x4.2.2.2.2.2.1,x4.2.2.2.2.2.2.1,x4.2.2.2.2.2.2.2.1,x4.2.2.2.2.2.2.2.2.1,x4.2.2.2.2.2.2.2.2.2.1,x4.2.2.2.2.2.2.2.2.2.2.1))))))))))))) fun x2=>(some (x2.1,x2.2.1,x2.2.2.1,x2.2.2.2.1,x2.2.2.2.2.1,x2.2.2.2.2.2.1,x2.2.2.2.2.2.2.1,x2.2.2.2.2.2.2.2.1,x2.2.2.2.2.2.2.2.2.1,x2.2.2.2.2.2.2.2.2.2))))))
noncomputable def tF (x:Yd6×(List Int)×(List (List Int))×(List (List Int))×(List (List Int))×(List (List Int))×(List (List Int))×(List (List Int))×(List (List Int))×(List Int)×List Int):Option Yd1:=qM @iter x
noncomputable def lY (x:Yd6×(List Int)×(List (List Int))×(List (List Int))×(List (List Int))×(List (List Int))×(List (List Int))×(List (List Int))×(List (List Int))×(List Int)×List Int):Option Yd1:=qM @dT x
noncomputable def sJ (it:Itr) (x:Ya0×Yd0×Int×Int×Int×Int×Int×(List Int)×List Int):Option (Yd0×List Int):=
 (obind (nI (x.2.1.1,x.2.1.2.1,x.2.1.2.2.1,x.2.1.2.2.2.1,x.2.1.2.2.2.2.1,x.2.1.2.2.2.2.2.1,x.2.1.2.2.2.2.2.2.1,x.2.1.2.2.2.2.2.2.2.1,x.2.1.2.2.2.2.2.2.2.2)) fun y1=>(chk (aS x.2.2.1 (aa y1.2.1)) fun _=>(chk (aS x.2.2.1 (aa y1.2.1)) fun _=>(obind (nJ ((x.2.2.1,x.2.2.2.1,x.2.2.2.2.1,x.2.2.2.2.2.1,x.2.2.2.2.2.2.1,x.2.2.2.2.2.2.2.1,x.2.2.2.2.2.2.2.2),y1.1,(x.1.1,x.1.2.1,x.1.2.2.1,x.1.2.2.2.1,x.1.2.2.2.2.1,x.1.2.2.2.2.2),y1.2.1,y1.2.2.1,y1.2.2.2.1,y1.2.2.2.2.1,y1.2.2.2.2.2.1,y1.2.2.2.2.2.2.1,y1.2.2.2.2.2.2.2.1,y1.2.2.2.2.2.2.2.2)) fun y2=>(chk (av (aa y1.2.2.2.2.2.2.2.2) (aa y2.2.2.2.2.2.2.2.2.2.2.2)&&(av (aa y1.2.2.2.2.2.2.2.1) (aa y2.2.2.2.2.2.2.2.2.2.2.1)&&(av (aa y1.2.2.2.2.2.2.1) (aa y2.2.2.2.2.2.2.2.2.2.1)&&(av (aa y1.2.2.2.2.2.1) (aa y2.2.2.2.2.2.2.2.2.1)&&(av (aa y1.2.2.2.2.1) (aa y2.2.2.2.2.2.2.2.1)&&(av (aa y1.2.2.2.1) (aa y2.2.2.2.2.2.2.1)&&(av (aa y1.2.2.1) (aa y2.2.2.2.2.2.1)&&(av (aa y1.2.1) (aa y2.2.2.2.2.1)&&true)))))))) fun _=>(it (Int×Ya0×Ya5×(List Int)×(List Int)×(List (List Int))×(List (List Int))×(List (List Int))×(List (List Int))×(List (List Int))×(List (List Int))×(List (List Int))×List Int) _ (fun x3=>(bcase (bz x3.1 (ah (aa y2.1))) (chk (aS x3.1 (aa y2.1)) fun _=>(obind (gN (x3.2.2.2.2.1,(aB (T:=(.sl Ka0)) y2.1 x3.1))) fun y4=>(some (aO ((aJ .i64 (x3.1+1)),(x3.2.1.1,x3.2.1.2.1,x3.2.1.2.2.1,x3.2.1.2.2.2.1,x3.2.1.2.2.2.2.1,x3.2.1.2.2.2.2.2),(x3.2.2.1.1,x3.2.2.1.2.1,x3.2.2.1.2.2.1,x3.2.2.1.2.2.2.1,x3.2.2.1.2.2.2.2.1,x3.2.2.1.2.2.2.2.2.1,x3.2.2.1.2.2.2.2.2.2),x3.2.2.2.1,y4,x3.2.2.2.2.2.1,x3.2.2.2.2.2.2.1,x3.2.2.2.2.2.2.2.1,x3.2.2.2.2.2.2.2.2.1,x3.2.2.2.2.2.2.2.2.2.1,x3.2.2.2.2.2.2.2.2.2.2.1,x3.2.2.2.2.2.2.2.2.2.2.2.1,x3.2.2.2.2.2.2.2.2.2.2.2.2))))) (obind (obind (mF (x3.2.2.2.2.1,x3.2.2.1.1)) fun y5=>(obind (lY (((x3.2.1.1,x3.2.1.2.1,x3.2.1.2.2.1,x3.2.1.2.2.2.1,x3.2.1.2.2.2.2.1,x3.2.1.2.2.2.2.2),x3.2.2.1.1,x3.2.2.1.2.1,x3.2.2.1.2.2.1,x3.2.2.1.2.2.2.1,x3.2.2.1.2.2.2.2.1,x3.2.2.1.2.2.2.2.2.1,x3.2.2.1.2.2.2.2.2.2),x3.2.2.2.1,x3.2.2.2.2.2.1,x3.2.2.2.2.2.2.1,x3.2.2.2.2.2.2.2.1,x3.2.2.2.2.2.2.2.2.1,x3.2.2.2.2.2.2.2.2.2.1,x3.2.2.2.2.2.2.2.2.2.2.1,x3.2.2.2.2.2.2.2.2.2.2.2.1,x3.2.2.2.2.2.2.2.2.2.2.2.2,y5)) fun y6=>(chk (av (aa y5) (aa y6.2.2.2.2.2.2.2.2.2)&&(av (aa x3.2.2.2.2.2.2.2.2.2.2.2.2) (aa y6.2.2.2.2.2.2.2.2.1)&&(av (aa x3.2.2.2.2.2.2.2.2.2.2.2.1) (aa y6.2.2.2.2.2.2.2.1)&&(av (aa x3.2.2.2.2.2.2.2.2.2.2.1) (aa y6.2.2.2.2.2.2.1)&&(av (aa x3.2.2.2.2.2.2.2.2.2.1) (aa y6.2.2.2.2.2.1)&&(av (aa x3.2.2.2.2.2.2.2.2.1) (aa y6.2.2.2.2.1)&&(av (aa x3.2.2.2.2.2.2.2.1) (aa y6.2.2.2.1)&&(av (aa x3.2.2.2.2.2.2.1) (aa y6.2.2.1)&&(av (aa x3.2.2.2.2.2.1) (aa y6.2.1)&&true))))))))) fun _=>(some ((y6.2.1,y6.2.2.1,y6.2.2.2.1,y6.2.2.2.2.1,y6.2.2.2.2.2.1,y6.2.2.2.2.2.2.1,y6.1,y6.2.2.2.2.2.2.2.1,y6.2.2.2.2.2.2.2.2.1),y6.2.2.2.2.2.2.2.2.2))))) fun r=>some (af r)))) (0,(y2.2.2.2.1.1,y2.2.2.2.1.2.1,y2.2.2.2.1.2.2.1,y2.2.2.2.1.2.2.2.1,y2.2.2.2.1.2.2.2.2.1,y2.2.2.2.1.2.2.2.2.2),(y2.2.1.1,y2.2.1.2.1,y2.2.1.2.2.1,y2.2.1.2.2.2.1,y2.2.1.2.2.2.2.1,y2.2.1.2.2.2.2.2.1,y2.2.1.2.2.2.2.2.2),y2.2.2.1,(aB (T:=(.sl Ka0)) y1.2.1 x.2.2.1),y2.2.2.2.2.1,y2.2.2.2.2.2.1,y2.2.2.2.2.2.2.1,y2.2.2.2.2.2.2.2.1,y2.2.2.2.2.2.2.2.2.1,y2.2.2.2.2.2.2.2.2.2.1,y2.2.2.2.2.2.2.2.2.2.2.1,y2.2.2.2.2.2.2.2.2.2.2.2)))))))
noncomputable def vM (x:Ya0×Yd0×Int×Int×Int×Int×Int×(List Int)×List Int):Option (Yd0×List Int):=sJ @iter x
noncomputable def mE (x:Ya0×Yd0×Int×Int×Int×Int×Int×(List Int)×List Int):Option (Yd0×List Int):=sJ @dT x
noncomputable def iS (x:List Int):Option (List Int):=
 (chk (aZ (aa (x:List Int)) 8) fun _=>(some x))
noncomputable def mW (it:Itr) (x:List (List Int)):Option (List (List Int)):=
 (chk (b9 0 (ah (aa x))&&b9 (ah (aa x)) (ah (aa x))&&aZ (aM (ah (aa x))) 24) fun _=>(it (Int×List (List Int)) _ (fun x1=>(bcase (bz x1.1 (ah (aa x))) (chk (aS x1.1 (aa x)) fun _=>(obind (iS (aB (T:=(.sl Ka0)) x x1.1)) fun y2=>(chk (aS x1.1 (aa x1.2)) fun _=>(chk (aS x1.1 (aa x1.2)) fun _=>(some (aO ((aJ .i64 (x1.1+1)),(ch x1.2 x1.1 y2)))))))) (some (af x1.2)))) (0,(aF (aM (ah (aa x))) ([]:List Int)))))
noncomputable def pt (x:List (List Int)):Option (List (List Int)):=mW @iter x
noncomputable def dA (x:List (List Int)):Option (List (List Int)):=mW @dT x
noncomputable def jZ (x:List Int):Option (List Int):=
 (chk (aZ (aa (x:List Int)) 8) fun _=>(some x))
noncomputable def mt (x:(List (List Int))×(List (List Int))×(List (List Int))×(List (List Int))×(List (List Int))×(List (List Int))×(List Int)×(List (List Int))×List Int):Option Yd2:=
 (obind (dA x.1) fun y1=>(obind (dA x.2.1) fun y2=>(obind (dA x.2.2.1) fun y3=>(obind (dA x.2.2.2.1) fun y4=>(obind (dA x.2.2.2.2.1) fun y5=>(obind (dA x.2.2.2.2.2.1) fun y6=>(obind (jZ x.2.2.2.2.2.2.1) fun y7=>(obind (dA x.2.2.2.2.2.2.2.1) fun y8=>(obind (jZ x.2.2.2.2.2.2.2.2) fun y9=>(some (y7,y1,y2,y3,y4,y5,y6,y8,y9)))))))))))
noncomputable def qK (it:Itr) (x:(List Int)×Int):Option (List Int):=
 (obind (jZ x.1) fun y1=>(jn (α:=Bool×List Int) (bcase (bz x.2 0) (some (af (true,y1))) (some (af ((b9 4 x.2),y1)))) fun x2=>(bcase x2.1 (some x2.2) (it (List Int) _ (fun x3=>(bcase (b9 (ah (aa x3)) x.2) (chk (aZ (aa x3+aa ([0])) 8) fun _=>(some (aO (x3++([0]))))) (obind (jn (α:=List Int) (chk (aS x.2 (aa x3)) fun _=>(chk (aS x.2 (aa x3)) fun _=>(bcase (bz (aB (T:=Ka0) x3 x.2) 9223372036854775807) (chk (aS x.2 (aa x3)) fun _=>(chk (aS x.2 (aa x3)) fun _=>(chk (aS x.2 (aa x3)) fun _=>(chk (aS x.2 (aa x3)) fun _=>(some (af (ch x3 x.2 (aJ .i64 ((aB (T:=Ka0) x3 x.2)+1))))))))) (some (af x3))))) fun x4=>(some x4)) fun r=>some (af r)))) x2.2))))
noncomputable def tC (x:(List Int)×Int):Option (List Int):=qK @iter x
noncomputable def kn (x:(List Int)×Int):Option (List Int):=qK @dT x
noncomputable def pC (it:Itr) (x:(List Int)×List Int):Option (Bool):=
 (bcase (!decide (((ah (aa x.1)):Int)=(ah (aa x.2)))) (some false) (it (Int) _ (fun x1=>(bcase (bz x1 (ah (aa x.1))) (chk (aS x1 (aa x.1)) fun _=>(chk (aS x1 (aa x.2)) fun _=>(bcase (!decide (((aB (T:=Ka0) x.1 x1):Int)=(aB (T:=Ka0) x.2 x1))) (some (af false)) (some (aO (aJ .i64 (x1+1))))))) (some (af true)))) 0))
noncomputable def rm (x:(List Int)×List Int):Option (Bool):=pC @iter x
noncomputable def jY (x:(List Int)×List Int):Option (Bool):=pC @dT x
noncomputable def sI (it:Itr) (x:(List Int)×List Int):Option (Bool):=
 (it (Int) _ (fun x1=>(bcase (bz x1 (eI (ah (aa x.1)) (ah (aa x.2)))) (obind (pw (x.1,x1)) fun y2=>(obind (pw (x.2,x1)) fun y3=>(bcase (bz y3 y2) (some (af false)) (some (aO (aJ .i64 (x1+1))))))) (some (af true)))) 0)
noncomputable def vK (x:(List Int)×List Int):Option (Bool):=sI @iter x
noncomputable def mw (x:(List Int)×List Int):Option (Bool):=sI @dT x
noncomputable def lG (x:(List Int)×List Int):Option (Bool):=
 (jn (α:=Bool) (obind (mw (x.1,x.2)) fun y2=>(bcase y2 (obind (mw (x.2,x.1)) fun y3=>(some (af y3))) (some (af false)))) fun x1=>(some x1))
noncomputable def mV (it:Itr) (x:(List (List Int))×List (List Int)):Option (Bool):=
 (bcase (!decide (((ah (aa x.1)):Int)=(ah (aa x.2)))) (some false) (it (Int) _ (fun x1=>(bcase (bz x1 (ah (aa x.1))) (chk (aS x1 (aa x.1)) fun _=>(chk (aS x1 (aa x.2)) fun _=>(obind (lG ((aB (T:=(.sl Ka0)) x.1 x1),(aB (T:=(.sl Ka0)) x.2 x1))) fun y2=>(bcase (!y2) (some (af false)) (some (aO (aJ .i64 (x1+1)))))))) (some (af true)))) 0))
noncomputable def pq (x:(List (List Int))×List (List Int)):Option (Bool):=mV @iter x
noncomputable def dy (x:(List (List Int))×List (List Int)):Option (Bool):=mV @dT x
noncomputable def gJ (x:Yd0×(List (List Int))×(List (List Int))×(List (List Int))×(List (List Int))×(List (List Int))×(List (List Int))×(List Int)×(List (List Int))×List Int):Option (Bool):=
 (jn (α:=Bool) (obind (dy (x.1.1,x.2.1)) fun y2=>(bcase y2 (obind (dy (x.1.2.1,x.2.2.1)) fun y3=>(bcase y3 (obind (dy (x.1.2.2.1,x.2.2.2.1)) fun y4=>(bcase y4 (obind (dy (x.1.2.2.2.1,x.2.2.2.2.1)) fun y5=>(bcase y5 (obind (dy (x.1.2.2.2.2.1,x.2.2.2.2.2.1)) fun y6=>(bcase y6 (obind (dy (x.1.2.2.2.2.2.1,x.2.2.2.2.2.2.1)) fun y7=>(bcase y7 (obind (lG (x.1.2.2.2.2.2.2.1,x.2.2.2.2.2.2.2.1)) fun y8=>(bcase y8 (obind (dy (x.1.2.2.2.2.2.2.2.1,x.2.2.2.2.2.2.2.2.1)) fun y9=>(bcase y9 (obind (jY (x.1.2.2.2.2.2.2.2.2,x.2.2.2.2.2.2.2.2.2)) fun y10=>(some (af y10))) (some (af false)))) (some (af false)))) (some (af false)))) (some (af false)))) (some (af false)))) (some (af false)))) (some (af false)))) (some (af false)))) fun x1=>(some x1))
noncomputable def lH (x:Ya0×Int):Option (Int):=
 (jn (α:=Bool×Ya14×Ya17×(List Ya18)×Ya11×Ya11×List (Int×Int×Int)) (bcase (bz x.2 0) (some (af (true,x.1.1,x.1.2.1,x.1.2.2.1,x.1.2.2.2.1,x.1.2.2.2.2.1,x.1.2.2.2.2.2))) (some (af ((b9 (ah (aa x.1.2.2.1)) x.2),x.1.1,x.1.2.1,x.1.2.2.1,x.1.2.2.2.1,x.1.2.2.2.2.1,x.1.2.2.2.2.2)))) fun x1=>(bcase x1.1 (some (-1)) (chk (aS x.2 (aa x1.2.2.2.1)) fun _=>(some ((aB (T:=Ka20) x1.2.2.2.1 x.2).2)))))
noncomputable def jA (x:Ya0×Int×Int×Int×Int×Int×(List Int)×List Int):Option (Int×Bool):=
 (jn (α:=Bool×Ya0×Int×Int×Int×Int×Int×(List Int)×List Int) (bcase (decide ((x.2.2.1:Int)=6)) (some (af ((decide ((x.2.2.1:Int)=6)),(x.1.1,x.1.2.1,x.1.2.2.1,x.1.2.2.2.1,x.1.2.2.2.2.1,x.1.2.2.2.2.2),x.2.1,x.2.2.1,x.2.2.2.1,x.2.2.2.2.1,x.2.2.2.2.2.1,x.2.2.2.2.2.2.1,x.2.2.2.2.2.2.2))) (some (af ((decide ((x.2.2.1:Int)=10)),(x.1.1,x.1.2.1,x.1.2.2.1,x.1.2.2.2.1,x.1.2.2.2.2.1,x.1.2.2.2.2.2),x.2.1,x.2.2.1,x.2.2.2.1,x.2.2.2.2.1,x.2.2.2.2.2.1,x.2.2.2.2.2.2.1,x.2.2.2.2.2.2.2)))) fun x1=>(bcase x1.1 (some (x1.2.2.2.2.1,false)) (bcase (decide ((x.2.2.1:Int)=8)) (some (x1.2.2.2.2.1,true)) (bcase (decide ((x.2.2.1:Int)=17)) (obind (lH ((x1.2.1.1,x1.2.1.2.1,x1.2.1.2.2.1,x1.2.1.2.2.2.1,x1.2.1.2.2.2.2.1,x1.2.1.2.2.2.2.2),x1.2.2.2.2.1)) fun y2=>(some (y2,false))) (some ((-1),false))))))
noncomputable def jz (x:Ya0×Int×Int×Int×Int×Int×(List Int)×List Int):Option (Int×Bool):=
 (jn (α:=Bool×Ya0×Int×Int×Int×Int×Int×(List Int)×List Int) (bcase (decide ((x.2.2.1:Int)=7)) (some (af ((decide ((x.2.2.1:Int)=7)),(x.1.1,x.1.2.1,x.1.2.2.1,x.1.2.2.2.1,x.1.2.2.2.2.1,x.1.2.2.2.2.2),x.2.1,x.2.2.1,x.2.2.2.1,x.2.2.2.2.1,x.2.2.2.2.2.1,x.2.2.2.2.2.2.1,x.2.2.2.2.2.2.2))) (some (af ((decide ((x.2.2.1:Int)=11)),(x.1.1,x.1.2.1,x.1.2.2.1,x.1.2.2.2.1,x.1.2.2.2.2.1,x.1.2.2.2.2.2),x.2.1,x.2.2.1,x.2.2.2.1,x.2.2.2.2.1,x.2.2.2.2.2.1,x.2.2.2.2.2.2.1,x.2.2.2.2.2.2.2)))) fun x1=>(bcase x1.1 (some (x1.2.2.2.2.1,false)) (bcase (decide ((x.2.2.1:Int)=9)) (some (x1.2.2.2.2.1,true)) (bcase (decide ((x.2.2.1:Int)=16)) (obind (lH ((x1.2.1.1,x1.2.1.2.1,x1.2.1.2.2.1,x1.2.1.2.2.2.1,x1.2.1.2.2.2.2.1,x1.2.1.2.2.2.2.2),x1.2.2.2.2.1)) fun y2=>(some (y2,false))) (some ((-1),false))))))
noncomputable def gj (x:(Ya0×(List Int)×Int×Int×Int×Int×Int×(List Int)×List Int)×(List (List Int))×(List (List Int))×(List (List Int))×(List (List Int))×(List (List Int))×(List (List Int))×(List (List Int))×List Int):Option Yd2:=
 (obind (jA ((x.1.1.1,x.1.1.2.1,x.1.1.2.2.1,x.1.1.2.2.2.1,x.1.1.2.2.2.2.1,x.1.1.2.2.2.2.2),x.1.2.2.1,x.1.2.2.2.1,x.1.2.2.2.2.1,x.1.2.2.2.2.2.1,x.1.2.2.2.2.2.2.1,x.1.2.2.2.2.2.2.2.1,x.1.2.2.2.2.2.2.2.2)) fun y1=>(jn (α:=(List Int)×(List (List Int))×(List (List Int))×(List (List Int))×(List (List Int))×(List (List Int))×(List (List Int))×(List (List Int))×(List Int)×(List Int)×Int×Int×Int×Int×Int×(List Int)×List Int) (jn (α:=Bool×(List (List Int))×(List (List Int))×(List (List Int))×(List (List Int))×(List (List Int))×(List (List Int))×(List (List Int))×(List Int)×(List Int)×Int×Int×Int×Int×Int×(List Int)×List Int) (bcase (b9 0 y1.1) (some (af ((bz y1.1 (ah (aa x.2.2.2.1))),x.2.1,x.2.2.1,x.2.2.2.1,x.2.2.2.2.1,x.2.2.2.2.2.1,x.2.2.2.2.2.2.1,x.2.2.2.2.2.2.2.1,x.2.2.2.2.2.2.2.2,x.1.2.1,x.1.2.2.1,x.1.2.2.2.1,x.1.2.2.2.2.1,x.1.2.2.2.2.2.1,x.1.2.2.2.2.2.2.1,x.1.2.2.2.2.2.2.2.1,x.1.2.2.2.2.2.2.2.2))) (some (af (false,x.2.1,x.2.2.1,x.2.2.2.1,x.2.2.2.2.1,x.2.2.2.2.2.1,x.2.2.2.2.2.2.1,x.2.2.2.2.2.2.2.1,x.2.2.2.2.2.2.2.2,x.1.2.1,x.1.2.2.1,x.1.2.2.2.1,x.1.2.2.2.2.1,x.1.2.2.2.2.2.1,x.1.2.2.2.2.2.2.1,x.1.2.2.2.2.2.2.2.1,x.1.2.2.2.2.2.2.2.2)))) fun x3=>(bcase x3.1 (chk (aS y1.1 (aa x3.2.2.2.1)) fun _=>(chk (aS y1.1 (aa x3.2.2.2.1)) fun _=>(bcase (!y1.2) (chk (aS y1.1 (aa x3.2.2.2.2.1)) fun _=>(chk (aS y1.1 (aa x3.2.2.2.2.1)) fun _=>(obind (dz ((aB (T:=(.sl Ka0)) x3.2.2.2.1 y1.1),(aB (T:=(.sl Ka0)) x3.2.2.2.2.1 y1.1))) fun y4=>(some (af (y4,x3.2.1,x3.2.2.1,x3.2.2.2.1,x3.2.2.2.2.1,x3.2.2.2.2.2.1,x3.2.2.2.2.2.2.1,x3.2.2.2.2.2.2.2.1,x3.2.2.2.2.2.2.2.2.1,x3.2.2.2.2.2.2.2.2.2.1,x3.2.2.2.2.2.2.2.2.2.2.1,x3.2.2.2.2.2.2.2.2.2.2.2.1,x3.2.2.2.2.2.2.2.2.2.2.2.2.1,x3.2.2.2.2.2.2.2.2.2.2.2.2.2.1,x3.2.2.2.2.2.2.2.2.2.2.2.2.2.2.1,x3.2.2.2.2.2.2.2.2.2.2.2.2.2.2.2.1,x3.2.2.2.2.2.2.2.2.2.2.2.2.2.2.2.2)))))) (some (af ((aB (T:=(.sl Ka0)) x3.2.2.2.1 y1.1),x3.2.1,x3.2.2.1,x3.2.2.2.1,x3.2.2.2.2.1,x3.2.2.2.2.2.1,x3.2.2.2.2.2.2.1,x3.2.2.2.2.2.2.2.1,x3.2.2.2.2.2.2.2.2.1,x3.2.2.2.2.2.2.2.2.2.1,x3.2.2.2.2.2.2.2.2.2.2.1,x3.2.2.2.2.2.2.2.2.2.2.2.1,x3.2.2.2.2.2.2.2.2.2.2.2.2.1,x3.2.2.2.2.2.2.2.2.2.2.2.2.2.1,x3.2.2.2.2.2.2.2.2.2.2.2.2.2.2.1,x3.2.2.2.2.2.2.2.2.2.2.2.2.2.2.2.1,x3.2.2.2.2.2.2.2.2.2.2.2.2.2.2.2.2)))))) (some (af (([]:List Int),x3.2.1,x3.2.2.1,x3.2.2.2.1,x3.2.2.2.2.1,x3.2.2.2.2.2.1,x3.2.2.2.2.2.2.1,x3.2.2.2.2.2.2.2.1,x3.2.2.2.2.2.2.2.2.1,x3.2.2.2.2.2.2.2.2.2.1,x3.2.2.2.2.2.2.2.2.2.2.1,x3.2.2.2.2.2.2.2.2.2.2.2.1,x3.2.2.2.2.2.2.2.2.2.2.2.2.1,x3.2.2.2.2.2.2.2.2.2.2.2.2.2.1,x3.2.2.2.2.2.2.2.2.2.2.2.2.2.2.1,x3.2.2.2.2.2.2.2.2.2.2.2.2.2.2.2.1,x3.2.2.2.2.2.2.2.2.2.2.2.2.2.2.2.2))))) fun x2=>(jn (α:=(List Int)×(List (List Int))×(List (List Int))×(List (List Int))×(List (List Int))×(List (List Int))×(List (List Int))×(List (List Int))×List Int) (bcase (decide ((x2.2.2.2.2.2.2.2.2.2.2.2.1:Int)=1)) (chk (aS x2.2.2.2.2.2.2.2.2.2.2.1 (aa x2.2.2.1)) fun _=>(chk (aS x2.2.2.2.2.2.2.2.2.2.2.1 (aa x2.2.2.1)) fun _=>(obind (dz (x2.1,(aB (T:=(.sl Ka0)) x2.2.2.1 x2.2.2.2.2.2.2.2.2.2.2.1))) fun y6=>(some (af (y6,x2.2.1,x2.2.2.1,x2.2.2.2.1,x2.2.2.2.2.1,x2.2.2.2.2.2.1,x2.2.2.2.2.2.2.1,x2.2.2.2.2.2.2.2.1,x2.2.2.2.2.2.2.2.2.1)))))) (bcase (decide ((x2.2.2.2.2.2.2.2.2.2.2.2.1:Int)=21)) (chk (aS x2.2.2.2.2.2.2.2.2.2.2.2.2.1 (aa x2.2.1)) fun _=>(chk (aS x2.2.2.2.2.2.2.2.2.2.2.2.2.1 (aa x2.2.1)) fun _=>(obind (dz (x2.1,(aB (T:=(.sl Ka0)) x2.2.1 x2.2.2.2.2.2.2.2.2.2.2.2.2.1))) fun y7=>(some (af (y7,x2.2.1,x2.2.2.1,x2.2.2.2.1,x2.2.2.2.2.1,x2.2.2.2.2.2.1,x2.2.2.2.2.2.2.1,x2.2.2.2.2.2.2.2.1,x2.2.2.2.2.2.2.2.2.1)))))) (bcase (decide ((x2.2.2.2.2.2.2.2.2.2.2.2.1:Int)=17)) (chk (aS x2.2.2.2.2.2.2.2.2.2.2.1 (aa x2.2.2.2.2.2.2.2.1)) fun _=>(chk (aS x2.2.2.2.2.2.2.2.2.2.2.1 (aa x2.2.2.2.2.2.2.2.1)) fun _=>(obind (dz (x2.1,(aB (T:=(.sl Ka0)) x2.2.2.2.2.2.2.2.1 x2.2.2.2.2.2.2.2.2.2.2.1))) fun y8=>(some (af (y8,x2.2.1,x2.2.2.1,x2.2.2.2.1,x2.2.2.2.2.1,x2.2.2.2.2.2.1,x2.2.2.2.2.2.2.1,x2.2.2.2.2.2.2.2.1,x2.2.2.2.2.2.2.2.2.1)))))) (bcase (decide ((x2.2.2.2.2.2.2.2.2.2.2.2.1:Int)=3)) (chk (aS x2.2.2.2.2.2.2.2.2.2.2.2.2.1 (aa x2.2.2.2.2.2.1)) fun _=>(chk (aS x2.2.2.2.2.2.2.2.2.2.2.2.2.1 (aa x2.2.2.2.2.2.1)) fun _=>(obind (dz (x2.1,(aB (T:=(.sl Ka0)) x2.2.2.2.2.2.1 x2.2.2.2.2.2.2.2.2.2.2.2.2.1))) fun y9=>(some (af (y9,x2.2.1,x2.2.2.1,x2.2.2.2.1,x2.2.2.2.2.1,x2.2.2.2.2.2.1,x2.2.2.2.2.2.2.1,x2.2.2.2.2.2.2.2.1,x2.2.2.2.2.2.2.2.2.1)))))) (bcase (decide ((x2.2.2.2.2.2.2.2.2.2.2.2.1:Int)=23)) (chk (aS x2.2.2.2.2.2.2.2.2.2.2.2.2.1 (aa x2.2.2.2.2.2.2.1)) fun _=>(chk (aS x2.2.2.2.2.2.2.2.2.2.2.2.2.1 (aa x2.2.2.2.2.2.2.1)) fun _=>(obind (dz (x2.1,(aB (T:=(.sl Ka0)) x2.2.2.2.2.2.2.1 x2.2.2.2.2.2.2.2.2.2.2.2.2.1))) fun y10=>(some (af (y10,x2.2.1,x2.2.2.1,x2.2.2.2.1,x2.2.2.2.2.1,x2.2.2.2.2.2.1,x2.2.2.2.2.2.2.1,x2.2.2.2.2.2.2.2.1,x2.2.2.2.2.2.2.2.2.1)))))) (bcase (decide ((x2.2.2.2.2.2.2.2.2.2.2.2.1:Int)=12)) (obind (dz (x2.1,x2.2.2.2.2.2.2.2.2.2.1)) fun y11=>(some (af (y11,x2.2.1,x2.2.2.1,x2.2.2.2.1,x2.2.2.2.2.1,x2.2.2.2.2.2.1,x2.2.2.2.2.2.2.1,x2.2.2.2.2.2.2.2.1,x2.2.2.2.2.2.2.2.2.1)))) (some (af (x2.1,x2.2.1,x2.2.2.1,x2.2.2.2.1,x2.2.2.2.2.1,x2.2.2.2.2.2.1,x2.2.2.2.2.2.2.1,x2.2.2.2.2.2.2.2.1,x2.2.2.2.2.2.2.2.2.1))))))))) fun x5=>(some (x5.1,x5.2.1,x5.2.2.1,x5.2.2.2.1,x5.2.2.2.2.1,x5.2.2.2.2.2.1,x5.2.2.2.2.2.2.1,x5.2.2.2.2.2.2.2.1,x5.2.2.2.2.2.2.2.2)))))
noncomputable def gE (x:(Ya0×(List Int)×Int×Int×Int×Int×Int×(List Int)×List Int)×(List (List Int))×(List (List Int))×(List (List Int))×(List (List Int))×(List (List Int))×(List (List Int))×(List (List Int))×List Int):Option (List Int):=obind (gj x) fun y=>same y.2 x.2 (some y.1)
noncomputable def qL (it:Itr) (x:Ya0×Yd0×Int×Int×Int×Int×Int×(List Int)×List Int):Option (Yd0×List Int):=
 (obind (mt (x.2.1.1,x.2.1.2.1,x.2.1.2.2.1,x.2.1.2.2.2.1,x.2.1.2.2.2.2.1,x.2.1.2.2.2.2.2.1,x.2.1.2.2.2.2.2.2.1,x.2.1.2.2.2.2.2.2.2.1,x.2.1.2.2.2.2.2.2.2.2)) fun y1=>(chk (aS x.2.2.1 (aa y1.2.1)) fun _=>(chk (aS x.2.2.1 (aa y1.2.1)) fun _=>(obind (gE (((x.1.1,x.1.2.1,x.1.2.2.1,x.1.2.2.2.1,x.1.2.2.2.2.1,x.1.2.2.2.2.2),y1.1,x.2.2.1,x.2.2.2.1,x.2.2.2.2.1,x.2.2.2.2.2.1,x.2.2.2.2.2.2.1,x.2.2.2.2.2.2.2.1,x.2.2.2.2.2.2.2.2),y1.2.1,y1.2.2.1,y1.2.2.2.1,y1.2.2.2.2.1,y1.2.2.2.2.2.1,y1.2.2.2.2.2.2.1,y1.2.2.2.2.2.2.2.1,y1.2.2.2.2.2.2.2.2)) fun y2=>(obind (dz ((aB (T:=(.sl Ka0)) y1.2.1 x.2.2.1),y2)) fun y3=>(obind (kn (y3,x.2.2.1)) fun y4=>(obind (iS y4) fun y5=>(chk (aS x.2.2.1 (aa y1.2.1)) fun _=>(chk (aS x.2.2.1 (aa y1.2.1)) fun _=>(obind (jz ((x.1.1,x.1.2.1,x.1.2.2.1,x.1.2.2.2.1,x.1.2.2.2.2.1,x.1.2.2.2.2.2),x.2.2.1,x.2.2.2.1,x.2.2.2.2.1,x.2.2.2.2.2.1,x.2.2.2.2.2.2.1,x.2.2.2.2.2.2.2.1,x.2.2.2.2.2.2.2.2)) fun y6=>(jn (α:=Ya0×(List Int)×Ya5×(List (List Int))×(List (List Int))×(List (List Int))×(List (List Int))×(List (List Int))×(List (List Int))×(List (List Int))×List Int) (jn (α:=Bool×Ya0×(List Int)×Ya5×(List (List Int))×(List (List Int))×(List (List Int))×(List (List Int))×(List (List Int))×(List (List Int))×(List (List Int))×List Int) (bcase (b9 0 y6.1) (some (af ((bz y6.1 (ah (aa y1.2.2.2.1))),(x.1.1,x.1.2.1,x.1.2.2.1,x.1.2.2.2.1,x.1.2.2.2.2.1,x.1.2.2.2.2.2),y1.1,(x.2.2.1,x.2.2.2.1,x.2.2.2.2.1,x.2.2.2.2.2.1,x.2.2.2.2.2.2.1,x.2.2.2.2.2.2.2.1,x.2.2.2.2.2.2.2.2),(ch y1.2.1 x.2.2.1 y5),y1.2.2.1,y1.2.2.2.1,y1.2.2.2.2.1,y1.2.2.2.2.2.1,y1.2.2.2.2.2.2.1,y1.2.2.2.2.2.2.2.1,y1.2.2.2.2.2.2.2.2))) (some (af (false,(x.1.1,x.1.2.1,x.1.2.2.1,x.1.2.2.2.1,x.1.2.2.2.2.1,x.1.2.2.2.2.2),y1.1,(x.2.2.1,x.2.2.2.1,x.2.2.2.2.1,x.2.2.2.2.2.1,x.2.2.2.2.2.2.1,x.2.2.2.2.2.2.2.1,x.2.2.2.2.2.2.2.2),(ch y1.2.1 x.2.2.1 y5),y1.2.2.1,y1.2.2.2.1,y1.2.2.2.2.1,y1.2.2.2.2.2.1,y1.2.2.2.2.2.2.1,y1.2.2.2.2.2.2.2.1,y1.2.2.2.2.2.2.2.2)))) fun x8=>(bcase x8.1 (bcase y6.2 (chk (aS y6.1 (aa x8.2.2.2.2.2.2.2.1)) fun _=>(chk (aS y6.1 (aa x8.2.2.2.2.2.2.2.1)) fun _=>(obind (dz ((aB (T:=(.sl Ka0)) x8.2.2.2.2.2.2.2.1 y6.1),y4)) fun y9=>(chk (aS y6.1 (aa x8.2.2.2.2.2.2.2.1)) fun _=>(chk (aS y6.1 (aa x8.2.2.2.2.2.2.2.1)) fun _=>(some (af ((x8.2.1.1,x8.2.1.2.1,x8.2.1.2.2.1,x8.2.1.2.2.2.1,x8.2.1.2.2.2.2.1,x8.2.1.2.2.2.2.2),x8.2.2.1,(x8.2.2.2.1.1,x8.2.2.2.1.2.1,x8.2.2.2.1.2.2.1,x8.2.2.2.1.2.2.2.1,x8.2.2.2.1.2.2.2.2.1,x8.2.2.2.1.2.2.2.2.2.1,x8.2.2.2.1.2.2.2.2.2.2),x8.2.2.2.2.1,x8.2.2.2.2.2.1,x8.2.2.2.2.2.2.1,(ch x8.2.2.2.2.2.2.2.1 y6.1 y9),x8.2.2.2.2.2.2.2.2.1,x8.2.2.2.2.2.2.2.2.2.1,x8.2.2.2.2.2.2.2.2.2.2.1,x8.2.2.2.2.2.2.2.2.2.2.2)))))))) (chk (aS y6.1 (aa x8.2.2.2.2.2.2.1)) fun _=>(chk (aS y6.1 (aa x8.2.2.2.2.2.2.1)) fun _=>(obind (dz ((aB (T:=(.sl Ka0)) x8.2.2.2.2.2.2.1 y6.1),y4)) fun y10=>(chk (aS y6.1 (aa x8.2.2.2.2.2.2.1)) fun _=>(chk (aS y6.1 (aa x8.2.2.2.2.2.2.1)) fun _=>(some (af ((x8.2.1.1,x8.2.1.2.1,x8.2.1.2.2.1,x8.2.1.2.2.2.1,x8.2.1.2.2.2.2.1,x8.2.1.2.2.2.2.2),x8.2.2.1,(x8.2.2.2.1.1,x8.2.2.2.1.2.1,x8.2.2.2.1.2.2.1,x8.2.2.2.1.2.2.2.1,x8.2.2.2.1.2.2.2.2.1,x8.2.2.2.1.2.2.2.2.2.1,x8.2.2.2.1.2.2.2.2.2.2),x8.2.2.2.2.1,x8.2.2.2.2.2.1,(ch x8.2.2.2.2.2.2.1 y6.1 y10),x8.2.2.2.2.2.2.2.1,x8.2.2.2.2.2.2.2.2.1,x8.2.2.2.2.2.2.2.2.2.1,x8.2.2.2.2.2.2.2.2.2.2.1,x8.2.2.2.2.2.2.2.2.2.2.2))))))))) (some (af ((x8.2.1.1,x8.2.1.2.1,x8.2.1.2.2.1,x8.2.1.2.2.2.1,x8.2.1.2.2.2.2.1,x8.2.1.2.2.2.2.2),x8.2.2.1,(x8.2.2.2.1.1,x8.2.2.2.1.2.1,x8.2.2.2.1.2.2.1,x8.2.2.2.1.2.2.2.1,x8.2.2.2.1.2.2.2.2.1,x8.2.2.2.1.2.2.2.2.2.1,x8.2.2.2.1.2.2.2.2.2.2),x8.2.2.2.2.1,x8.2.2.2.2.2.1,x8.2.2.2.2.2.2.1,x8.2.2.2.2.2.2.2.1,x8.2.2.2.2.2.2.2.2.1,x8.2.2.2.2.2.2.2.2.2.1,x8.2.2.2.2.2.2.2.2.2.2.1,x8.2.2.2.2.2.2.2.2.2.2.2))))) fun x7=>(jn (α:=(List Int)×(List (List Int))×(List (List Int))×(List (List Int))×(List (List Int))×(List (List Int))×(List (List Int))×(List (List Int))×List Int) (bcase (decide ((x7.2.2.1.2.1:Int)=20)) (obind (iS y4) fun y12=>(chk (aS x7.2.2.1.2.2.1 (aa x7.2.2.2.2.1)) fun _=>(chk (aS x7.2.2.1.2.2.1 (aa x7.2.2.2.2.1)) fun _=>(some (af (x7.2.1,x7.2.2.2.1,(ch x7.2.2.2.2.1 x7.2.2.1.2.2.1 y12),x7.2.2.2.2.2.1,x7.2.2.2.2.2.2.1,x7.2.2.2.2.2.2.2.1,x7.2.2.2.2.2.2.2.2.1,x7.2.2.2.2.2.2.2.2.2.1,x7.2.2.2.2.2.2.2.2.2.2)))))) (bcase (decide ((x7.2.2.1.2.1:Int)=4)) (chk (aS x7.2.2.1.2.2.1 (aa x7.1.1)) fun _=>(bcase (((((aB (T:=Ka10) x7.1.1 x7.2.2.1.2.2.1).2).2).2).1) (chk (aS x7.2.2.1.2.2.1 (aa x7.2.2.2.2.2.2.2.1)) fun _=>(chk (aS x7.2.2.1.2.2.1 (aa x7.2.2.2.2.2.2.2.1)) fun _=>(obind (dz ((aB (T:=(.sl Ka0)) x7.2.2.2.2.2.2.2.1 x7.2.2.1.2.2.1),y4)) fun y13=>(chk (aS x7.2.2.1.2.2.1 (aa x7.2.2.2.2.2.2.2.1)) fun _=>(chk (aS x7.2.2.1.2.2.1 (aa x7.2.2.2.2.2.2.2.1)) fun _=>(some (af (x7.2.1,x7.2.2.2.1,x7.2.2.2.2.1,x7.2.2.2.2.2.1,x7.2.2.2.2.2.2.1,(ch x7.2.2.2.2.2.2.2.1 x7.2.2.1.2.2.1 y13),x7.2.2.2.2.2.2.2.2.1,x7.2.2.2.2.2.2.2.2.2.1,x7.2.2.2.2.2.2.2.2.2.2)))))))) (some (af (x7.2.1,x7.2.2.2.1,x7.2.2.2.2.1,x7.2.2.2.2.2.1,x7.2.2.2.2.2.2.1,x7.2.2.2.2.2.2.2.1,x7.2.2.2.2.2.2.2.2.1,x7.2.2.2.2.2.2.2.2.2.1,x7.2.2.2.2.2.2.2.2.2.2))))) (bcase (decide ((x7.2.2.1.2.1:Int)=22)) (chk (aS x7.2.2.1.2.2.1 (aa x7.2.2.2.2.2.2.2.2.1)) fun _=>(chk (aS x7.2.2.1.2.2.1 (aa x7.2.2.2.2.2.2.2.2.1)) fun _=>(obind (dz ((aB (T:=(.sl Ka0)) x7.2.2.2.2.2.2.2.2.1 x7.2.2.1.2.2.1),y4)) fun y14=>(chk (aS x7.2.2.1.2.2.1 (aa x7.2.2.2.2.2.2.2.2.1)) fun _=>(chk (aS x7.2.2.1.2.2.1 (aa x7.2.2.2.2.2.2.2.2.1)) fun _=>(some (af (x7.2.1,x7.2.2.2.1,x7.2.2.2.2.1,x7.2.2.2.2.2.1,x7.2.2.2.2.2.2.1,x7.2.2.2.2.2.2.2.1,(ch x7.2.2.2.2.2.2.2.2.1 x7.2.2.1.2.2.1 y14),x7.2.2.2.2.2.2.2.2.2.1,x7.2.2.2.2.2.2.2.2.2.2)))))))) (bcase (decide ((x7.2.2.1.2.1:Int)=13)) (obind (dz (x7.2.1,y4)) fun y15=>(some (af (y15,x7.2.2.2.1,x7.2.2.2.2.1,x7.2.2.2.2.2.1,x7.2.2.2.2.2.2.1,x7.2.2.2.2.2.2.2.1,x7.2.2.2.2.2.2.2.2.1,x7.2.2.2.2.2.2.2.2.2.1,x7.2.2.2.2.2.2.2.2.2.2)))) (bcase (decide ((x7.2.2.1.2.1:Int)=16)) (chk (aS x7.2.2.1.1 (aa x7.2.2.2.2.2.2.2.2.2.2)) fun _=>(chk (aS x7.2.2.1.1 (aa x7.2.2.2.2.2.2.2.2.2.2)) fun _=>(some (af (x7.2.1,x7.2.2.2.1,x7.2.2.2.2.1,x7.2.2.2.2.2.1,x7.2.2.2.2.2.2.1,x7.2.2.2.2.2.2.2.1,x7.2.2.2.2.2.2.2.2.1,x7.2.2.2.2.2.2.2.2.2.1,(ch x7.2.2.2.2.2.2.2.2.2.2 x7.2.2.1.1 x7.2.2.1.2.2.1)))))) (bcase (decide ((x7.2.2.1.2.1:Int)=18)) (jn (α:=Bool×(List Int)×Ya5×(List (List Int))×(List (List Int))×(List (List Int))×(List (List Int))×(List (List Int))×(List (List Int))×(List (List Int))×List Int) (bcase (b9 0 x7.2.2.1.2.2.2.1) (some (af ((bz x7.2.2.1.2.2.2.1 (ah (aa x7.2.2.2.1))),x7.2.1,(x7.2.2.1.1,x7.2.2.1.2.1,x7.2.2.1.2.2.1,x7.2.2.1.2.2.2.1,x7.2.2.1.2.2.2.2.1,x7.2.2.1.2.2.2.2.2.1,x7.2.2.1.2.2.2.2.2.2),x7.2.2.2.1,x7.2.2.2.2.1,x7.2.2.2.2.2.1,x7.2.2.2.2.2.2.1,x7.2.2.2.2.2.2.2.1,x7.2.2.2.2.2.2.2.2.1,x7.2.2.2.2.2.2.2.2.2.1,x7.2.2.2.2.2.2.2.2.2.2))) (some (af (false,x7.2.1,(x7.2.2.1.1,x7.2.2.1.2.1,x7.2.2.1.2.2.1,x7.2.2.1.2.2.2.1,x7.2.2.1.2.2.2.2.1,x7.2.2.1.2.2.2.2.2.1,x7.2.2.1.2.2.2.2.2.2),x7.2.2.2.1,x7.2.2.2.2.1,x7.2.2.2.2.2.1,x7.2.2.2.2.2.2.1,x7.2.2.2.2.2.2.2.1,x7.2.2.2.2.2.2.2.2.1,x7.2.2.2.2.2.2.2.2.2.1,x7.2.2.2.2.2.2.2.2.2.2)))) fun x16=>(bcase x16.1 (obind (iS y4) fun y17=>(chk (aS x16.2.2.1.2.2.2.1 (aa x16.2.2.2.2.2.2.2.2.2.1)) fun _=>(chk (aS x16.2.2.1.2.2.2.1 (aa x16.2.2.2.2.2.2.2.2.2.1)) fun _=>(chk (aS x16.2.2.1.2.2.2.1 (aa x16.2.2.2.2.2.2.2.2.2.2)) fun _=>(chk (aS x16.2.2.1.2.2.2.1 (aa x16.2.2.2.2.2.2.2.2.2.2)) fun _=>(some (af (x16.2.1,x16.2.2.2.1,x16.2.2.2.2.1,x16.2.2.2.2.2.1,x16.2.2.2.2.2.2.1,x16.2.2.2.2.2.2.2.1,x16.2.2.2.2.2.2.2.2.1,(ch x16.2.2.2.2.2.2.2.2.2.1 x16.2.2.1.2.2.2.1 y17),(ch x16.2.2.2.2.2.2.2.2.2.2 x16.2.2.1.2.2.2.1 (-1)))))))))) (some (af (x16.2.1,x16.2.2.2.1,x16.2.2.2.2.1,x16.2.2.2.2.2.1,x16.2.2.2.2.2.2.1,x16.2.2.2.2.2.2.2.1,x16.2.2.2.2.2.2.2.2.1,x16.2.2.2.2.2.2.2.2.2.1,x16.2.2.2.2.2.2.2.2.2.2))))) (bcase (decide ((x7.2.2.1.2.1:Int)=19)) (it (Int×(List Int)×Ya5×(List (List Int))×(List (List Int))×(List (List Int))×(List (List Int))×(List (List Int))×(List (List Int))×(List (List Int))×List Int) _ (fun x18=>(bcase (bz x18.1 (ah (aa x7.2.2.2.2.2.2.2.2.2.2))) (jn (α:=(List Int)×Ya5×(List (List Int))×(List (List Int))×(List (List Int))×(List (List Int))×(List (List Int))×(List (List Int))×(List (List Int))×List Int) (chk (aS x18.1 (aa x18.2.2.2.2.2.2.2.2.2.2)) fun _=>(chk (aS x18.1 (aa x18.2.2.2.2.2.2.2.2.2.2)) fun _=>(bcase (decide (((aB (T:=Ka0) x18.2.2.2.2.2.2.2.2.2.2 x18.1):Int)=x18.2.2.1.2.2.1)) (obind (iS y4) fun y20=>(chk (aS x18.1 (aa x18.2.2.2.2.2.2.2.2.2.1)) fun _=>(chk (aS x18.1 (aa x18.2.2.2.2.2.2.2.2.2.1)) fun _=>(chk (aS x18.1 (aa x18.2.2.2.2.2.2.2.2.2.2)) fun _=>(chk (aS x18.1 (aa x18.2.2.2.2.2.2.2.2.2.2)) fun _=>(some (af (x18.2.1,(x18.2.2.1.1,x18.2.2.1.2.1,x18.2.2.1.2.2.1,x18.2.2.1.2.2.2.1,x18.2.2.1.2.2.2.2.1,x18.2.2.1.2.2.2.2.2.1,x18.2.2.1.2.2.2.2.2.2),x18.2.2.2.1,x18.2.2.2.2.1,x18.2.2.2.2.2.1,x18.2.2.2.2.2.2.1,x18.2.2.2.2.2.2.2.1,x18.2.2.2.2.2.2.2.2.1,(ch x18.2.2.2.2.2.2.2.2.2.1 x18.1 y20),(ch x18.2.2.2.2.2.2.2.2.2.2 x18.1 (-1)))))))))) (some (af (x18.2.1,(x18.2.2.1.1,x18.2.2.1.2.1,x18.2.2.1.2.2.1,x18.2.2.1.2.2.2.1,x18.2.2.1.2.2.2.2.1,x18.2.2.1.2.2.2.2.2.1,x18.2.2.1.2.2.2.2.2.2),x18.2.2.2.1,x18.2.2.2.2.1,x18.2.2.2.2.2.1,x18.2.2.2.2.2.2.1,x18.2.2.2.2.2.2.2.1,x18.2.2.2.2.2.2.2.2.1,x18.2.2.2.2.2.2.2.2.2.1,x18.2.2.2.2.2.2.2.2.2.2)))))) fun x19=>(some (aO ((aJ .i64 (x18.1+1)),x19.1,(x19.2.1.1,x19.2.1.2.1,x19.2.1.2.2.1,x19.2.1.2.2.2.1,x19.2.1.2.2.2.2.1,x19.2.1.2.2.2.2.2.1,x19.2.1.2.2.2.2.2.2),x19.2.2.1,x19.2.2.2.1,x19.2.2.2.2.1,x19.2.2.2.2.2.1,x19.2.2.2.2.2.2.1,x19.2.2.2.2.2.2.2.1,x19.2.2.2.2.2.2.2.2.1,x19.2.2.2.2.2.2.2.2.2)))) (some (af (af (x18.2.1,x18.2.2.2.1,x18.2.2.2.2.1,x18.2.2.2.2.2.1,x18.2.2.2.2.2.2.1,x18.2.2.2.2.2.2.2.1,x18.2.2.2.2.2.2.2.2.1,x18.2.2.2.2.2.2.2.2.2.1,x18.2.2.2.2.2.2.2.2.2.2)))))) (0,x7.2.1,(x7.2.2.1.1,x7.2.2.1.2.1,x7.2.2.1.2.2.1,x7.2.2.1.2.2.2.1,x7.2.2.1.2.2.2.2.1,x7.2.2.1.2.2.2.2.2.1,x7.2.2.1.2.2.2.2.2.2),x7.2.2.2.1,x7.2.2.2.2.1,x7.2.2.2.2.2.1,x7.2.2.2.2.2.2.1,x7.2.2.2.2.2.2.2.1,x7.2.2.2.2.2.2.2.2.1,x7.2.2.2.2.2.2.2.2.2.1,x7.2.2.2.2.2.2.2.2.2.2)) (some (af (x7.2.1,x7.2.2.2.1,x7.2.2.2.2.1,x7.2.2.2.2.2.1,x7.2.2.2.2.2.2.1,x7.2.2.2.2.2.2.2.1,x7.2.2.2.2.2.2.2.2.1,x7.2.2.2.2.2.2.2.2.2.1,x7.2.2.2.2.2.2.2.2.2.2)))))))))) fun x11=>(some ((x11.2.1,x11.2.2.1,x11.2.2.2.1,x11.2.2.2.2.1,x11.2.2.2.2.2.1,x11.2.2.2.2.2.2.1,x11.1,x11.2.2.2.2.2.2.2.1,x11.2.2.2.2.2.2.2.2),y4))))))))))))))
noncomputable def tD (x:Ya0×Yd0×Int×Int×Int×Int×Int×(List Int)×List Int):Option (Yd0×List Int):=qL @iter x
noncomputable def lD (x:Ya0×Yd0×Int×Int×Int×Int×Int×(List Int)×List Int):Option (Yd0×List Int):=qL @dT x
noncomputable def rB (it:Itr) (x:Ya14×Ya17×(List Ya18)×Ya11×Ya11×List (Int×Int×Int)):Option Yd0:=
 (chk (b9 0 (ah (aa x.2.2.2.2.1))&&b9 (ah (aa x.2.2.2.2.1)) (ah (aa x.2.2.2.2.1))&&aZ (aM (ah (aa x.2.2.2.2.1))) 24) fun _=>(chk (b9 0 (ah (aa x.2.2.2.2.1))&&b9 (ah (aa x.2.2.2.2.1)) (ah (aa x.2.2.2.2.1))&&aZ (aM (ah (aa x.2.2.2.2.1))) 24) fun _=>(chk (b9 0 (ah (aa x.2.1))&&b9 (ah (aa x.2.1)) (ah (aa x.2.1))&&aZ (aM (ah (aa x.2.1))) 24) fun _=>(chk (b9 0 (ah (aa x.2.1))&&b9 (ah (aa x.2.1)) (ah (aa x.2.1))&&aZ (aM (ah (aa x.2.1))) 24) fun _=>(chk (b9 0 (ah (aa x.1))&&b9 (ah (aa x.1)) (ah (aa x.1))&&aZ (aM (ah (aa x.1))) 24) fun _=>(chk (b9 0 (ah (aa x.2.2.2.1))&&b9 (ah (aa x.2.2.2.1)) (ah (aa x.2.2.2.1))&&aZ (aM (ah (aa x.2.2.2.1))) 24) fun _=>(chk (b9 0 (ah (aa x.2.2.2.2.1))&&b9 (ah (aa x.2.2.2.2.1)) (ah (aa x.2.2.2.2.1))&&aZ (aM (ah (aa x.2.2.2.2.1))) 24) fun _=>(chk (b9 0 (ah (aa x.2.2.2.2.1))&&b9 (ah (aa x.2.2.2.2.1)) (ah (aa x.2.2.2.2.1))&&aZ (aM (ah (aa x.2.2.2.2.1))) 8) fun _=>(it Yd5 _ (fun x1=>(bcase (bz x1.1 (ah (aa (aF (aM (ah (aa x.2.2.2.2.1))) (0:Int))))) (chk (aS x1.1 (aa x1.2.2.2.2.2.2.2.2)) fun _=>(chk (aS x1.1 (aa x1.2.2.2.2.2.2.2.2)) fun _=>(some (aO ((aJ .i64 (x1.1+1)),x1.2.1,x1.2.2.1,x1.2.2.2.1,x1.2.2.2.2.1,x1.2.2.2.2.2.1,x1.2.2.2.2.2.2.1,x1.2.2.2.2.2.2.2.1,(ch x1.2.2.2.2.2.2.2.2 x1.1 (-1))))))) (some (af (x1.2.1,x1.2.2.1,x1.2.2.2.1,x1.2.2.2.2.1,x1.2.2.2.2.2.1,x1.2.2.2.2.2.2.1,([]:List Int),x1.2.2.2.2.2.2.2.1,x1.2.2.2.2.2.2.2.2))))) (0,(aF (aM (ah (aa x.2.2.2.2.1))) ([]:List Int)),(aF (aM (ah (aa x.2.2.2.2.1))) ([]:List Int)),(aF (aM (ah (aa x.2.1))) ([]:List Int)),(aF (aM (ah (aa x.2.1))) ([]:List Int)),(aF (aM (ah (aa x.1))) ([]:List Int)),(aF (aM (ah (aa x.2.2.2.1))) ([]:List Int)),(aF (aM (ah (aa x.2.2.2.2.1))) ([]:List Int)),(aF (aM (ah (aa x.2.2.2.2.1))) (0:Int))))))))))))
noncomputable def rk (x:Ya14×Ya17×(List Ya18)×Ya11×Ya11×List (Int×Int×Int)):Option Yd0:=rB @iter x
noncomputable def lE (x:Ya14×Ya17×(List Ya18)×Ya11×Ya11×List (Int×Int×Int)):Option Yd0:=rB @dT x
noncomputable def l7 (it:Itr) (x:List UInt8):Option (Bool):=
 (lt (aB (T:=(.st (.pr .str (.pr .str (.pr .str (.pr .str (.pr .str (.pr .str (.pr .str (.pr .str (.pr .str (.pr .str (.pr .str (.pr .str (.pr .str (.pr .str (.pr .str (.pr .str (.pr .str (.pr .str (.pr .str (.pr .str (.pr .str .str))))))))))))))))))))))) ([kwV]) 0) fun z1=>(it (Int) _ (fun x2=>(bcase (bz x2 22) (chk (b9 0 x2&&bz x2 22) fun _=>(lt (aB (T:=.str) [z1.1,z1.2.1,z1.2.2.1,z1.2.2.2.1,z1.2.2.2.2.1,z1.2.2.2.2.2.1,z1.2.2.2.2.2.2.1,z1.2.2.2.2.2.2.2.1,z1.2.2.2.2.2.2.2.2.1,z1.2.2.2.2.2.2.2.2.2.1,z1.2.2.2.2.2.2.2.2.2.2.1,z1.2.2.2.2.2.2.2.2.2.2.2.1,z1.2.2.2.2.2.2.2.2.2.2.2.2.1,z1.2.2.2.2.2.2.2.2.2.2.2.2.2.1,z1.2.2.2.2.2.2.2.2.2.2.2.2.2.2.1,z1.2.2.2.2.2.2.2.2.2.2.2.2.2.2.2.1,z1.2.2.2.2.2.2.2.2.2.2.2.2.2.2.2.2.1,z1.2.2.2.2.2.2.2.2.2.2.2.2.2.2.2.2.2.1,z1.2.2.2.2.2.2.2.2.2.2.2.2.2.2.2.2.2.2.1,z1.2.2.2.2.2.2.2.2.2.2.2.2.2.2.2.2.2.2.2.1,z1.2.2.2.2.2.2.2.2.2.2.2.2.2.2.2.2.2.2.2.2.1,z1.2.2.2.2.2.2.2.2.2.2.2.2.2.2.2.2.2.2.2.2.2] x2) fun z3=>(bcase (decide ((x:List UInt8)=z3)) (some (af true)) (some (aO (aJ .i64 (x2+1))))))) (some (af false)))) 0))
noncomputable def lz (x:List UInt8):Option (Bool):=l7 @iter x
noncomputable def gB (x:List UInt8):Option (Bool):=l7 @dT x
noncomputable def oF (it:Itr) (x:List UInt8):Option (Bool):=
 (jn (α:=Bool) (bcase (bz (ah (aa x)) 1) (some (af true)) (bcase (bz 12 (ah (aa x))) (some (af true)) (obind (gB x) fun y2=>(some (af y2))))) fun x1=>(bcase x1 (some false) (it (List (Ya18×Unit)) _ (fun x3=>(bcase (eg (itP x3) (aa (itS x3))) (chk (bz (rh (itS x3) (ah (itP x3))) 128) fun _=>(jn (α:=List (Ya18×Unit)) (jn (α:=Bool×List (Ya18×Unit)) (bcase (b9 97 (rh (itS x3) (ah (itP x3)))) (bcase (b9 (rh (itS x3) (ah (itP x3))) 122) (some (af (true,[(((itS x3),(ah ((itP x3)+1))),())]))) (bcase (b9 65 (rh (itS x3) (ah (itP x3)))) (some (af ((b9 (rh (itS x3) (ah (itP x3))) 90),[(((itS x3),(ah ((itP x3)+1))),())]))) (some (af (false,[(((itS x3),(ah ((itP x3)+1))),())]))))) (bcase (b9 65 (rh (itS x3) (ah (itP x3)))) (some (af ((b9 (rh (itS x3) (ah (itP x3))) 90),[(((itS x3),(ah ((itP x3)+1))),())]))) (some (af (false,[(((itS x3),(ah ((itP x3)+1))),())]))))) fun x5=>(bcase x5.1 (some (af x5.2)) (jn (α:=Bool×List (Ya18×Unit)) (bcase (bz 0 (ah (itP x3))) (bcase (decide (((rh (itS x3) (ah (itP x3))):Int)=95)) (some (af (true,x5.2))) (bcase (b9 48 (rh (itS x3) (ah (itP x3)))) (some (af ((b9 (rh (itS x3) (ah (itP x3))) 57),x5.2))) (some (af (false,x5.2))))) (some (af (false,x5.2)))) fun x6=>(bcase x6.1 (some (af x6.2)) (some (aO (af false))))))) fun x4=>(some (aO x4)))) (some (af true)))) ([((x,0),())]))))
noncomputable def oz (x:List UInt8):Option (Bool):=oF @iter x
noncomputable def jx (x:List UInt8):Option (Bool):=oF @dT x
noncomputable def rF (it:Itr) (x:(List Int)×Int):Option (Int):=
 (it (Int) _ (fun x1=>(bcase (bz x1 (ah (aa x.1))) (chk (aS x1 (aa x.1)) fun _=>(lt (aB (T:=Ka0) x.1 x1) fun z2=>(bcase (decide ((x.2:Int)=z2)) (some (af x1)) (some (aO (aJ .i64 (x1+1))))))) (some (af (-1))))) 0)
noncomputable def rx (x:(List Int)×Int):Option (Int):=rF @iter x
noncomputable def nL (x:(List Int)×Int):Option (Int):=rF @dT x
noncomputable def mh (x:(List Int)×Int):Option (Bool):=
 (obind (nL x) fun y1=>(some (b9 0 y1)))
noncomputable def oE (x:(List Int)×Int×Int):Option (Bool):=
 (obind (eQ (x.1,x.2.2)) fun y1=>(some (b9 x.2.1 y1)))
noncomputable def pB (x:Int×Int×Int×Int×Int×(List Int)×List Int):Option (Bool):=
 (jn (α:=Bool) (bcase (decide ((x.2.1:Int)=3)) (some (af true)) (some (af (decide ((x.2.1:Int)=4))))) fun x1=>(some x1))
noncomputable def pA (x:(Ya0×List Ya5)×Int×Int):Option (Bool):=
 (chk (aS x.2.1 (aa x.1.2)) fun _=>(lt (aB (T:=Ka5) x.1.2 x.2.1) fun z1=>(chk (aS x.2.2 (aa x.1.2)) fun _=>(lt (aB (T:=Ka5) x.1.2 x.2.2) fun z2=>(jn (α:=Bool×(Ya0×List Ya5)×Ya5×Int×Int×Int×Int×Int×(List Int)×List Int) (bcase (decide ((z1.1:Int)=z2.1)) (some (af (true,x.1,z1,z2))) (some (af ((!decide ((z1.2.2.1:Int)=z2.2.2.1)),x.1,z1,z2)))) fun x3=>(bcase x3.1 (some false) (jn (α:=Bool×Ya5×Int×Int×Int×Int×Int×(List Int)×List Int) (obind (pB x3.2.2.1) fun y5=>(bcase (!y5) (some (af (true,x3.2.2))) (obind (pB x3.2.2.2) fun y6=>(bcase (!y6) (some (af (true,x3.2.2))) (chk (aS x3.2.2.1.2.2.1 (aa x3.2.1.1.1)) fun _=>(lt (((((aB (T:=Ka10) x3.2.1.1.1 x3.2.2.1.2.2.1).2).2).2).1) fun z7=>(some (af (z7,x3.2.2))))))))) fun x4=>(bcase x4.1 (some false) (jn (α:=Bool) (bcase (decide ((x4.2.1.2.1:Int)=4)) (some (af true)) (some (af (decide ((x4.2.2.2.1:Int)=4))))) fun x8=>(some x8))))))))))
noncomputable def rC (it:Itr) (x:List Ya5):Option Yd7:=
 (chk (b9 0 (ah (aa x))&&b9 (ah (aa x)) (ah (aa x))&&aZ (aM (ah (aa x))) 16) fun _=>(it (Int×Yd7×List (Int×Int)) _ (fun x1=>(bcase (bz x1.1 (ah (aa x))) (chk (aS x1.1 (aa x)) fun _=>(lt (aB (T:=Ka5) x x1.1) fun z2=>(chk (aS x1.1 (aa x1.2.2)) fun _=>(chk (aS x1.1 (aa x1.2.2)) fun _=>(some (aO ((aJ .i64 (x1.1+1)),(ym (K:=Ka0) (V:=Ka0) z2.1 (aJ .i64 ((vR (K:=Ka0) (V:=Ka0) z2.1 x1.2.1 0)+1)) x1.2.1),(ch x1.2.2 x1.1 ((vR (K:=Ka0) (V:=Ka0) z2.1 (ym (K:=Ka0) (V:=Ka0) z2.1 (aJ .i64 ((vR (K:=Ka0) (V:=Ka0) z2.1 x1.2.1 0)+1)) x1.2.1) 0),z2.1))))))))) (some (af x1.2.2)))) (0,([]:List (Int×Int)),(aF (aM (ah (aa x))) ((0,0):Int×Int)))))
noncomputable def rn (x:List Ya5):Option Yd7:=rC @iter x
noncomputable def nH (x:List Ya5):Option Yd7:=rC @dT x
noncomputable def mL (x:Int×Int):Option (Bool):=
 (jn (α:=Bool) (bcase (b9 0 x.1) (some (af (bz x.1 x.2))) (some (af false))) fun x1=>(some x1))
noncomputable def mM (x:Ya0×Int×Bool):Option (Bool):=
 (jn (α:=Bool) (obind (mL (x.2.1,(ah (aa x.1.2.1)))) fun y2=>(bcase y2 (chk (aS x.2.1 (aa x.1.2.1)) fun _=>(lt ((aB (T:=Ka19) x.1.2.1 x.2.1).2) fun z3=>(some (af ((z3==x.2.2) !=false))))) (some (af false)))) fun x1=>(some x1))
noncomputable def jp (it:Itr) (x:List Ya38):Option (Ya11×Bool):=
 (it (Int×List (List UInt8)) _ (fun x1=>(bcase (bz x1.1 (ah (aa x))) (jn (α:=Int×List (List UInt8)) (chk (aS x1.1 (aa x)) fun _=>(lt (aB (T:=Ka10) x x1.1) fun z3=>(chk (aZ (aa x1.2+aa ([z3.1])) 16) fun _=>(bcase (decide ((z3.2.2.1:Int)=0)) (bcase (!decide ((z3.2.1:Int)=0)) (some (aO (af (([]:List (List UInt8)),false)))) (some (af ((aJ .i64 (x1.1+1)),(x1.2++([z3.1])))))) (jn (α:=Bool×Ya11×(List UInt8)×Int×Int×Bool×Int) (bcase (bz z3.2.2.1 1) (some (af (true,(x1.2++([z3.1])),z3))) (bcase (bz 4 z3.2.2.1) (some (af (true,(x1.2++([z3.1])),z3))) (bcase z3.2.2.2.1 (some (af (true,(x1.2++([z3.1])),z3))) (some (af ((bz (aJ .i64 ((ah (aa x))-x1.1)) z3.2.2.1),(x1.2++([z3.1])),z3)))))) fun x4=>(bcase x4.1 (some (aO (af (([]:List (List UInt8)),false)))) (it (Int×Ya11×(List UInt8)×Int×Int×Bool×Int) _ (fun x5=>(bcase (bz x5.1 x4.2.2.2.2.1) (chk (aS (aJ .i64 (x1.1+x5.1)) (aa x)) fun _=>(lt (aB (T:=Ka10) x (aJ .i64 (x1.1+x5.1))) fun z6=>(bcase (eqT (.pr .str (.pr Ka0 (.pr Ka0 (.pr .bool (.pr Ka0 .un))))) (z6.1,z6.2.1,z6.2.2.1,z6.2.2.2.1,z6.2.2.2.2,()) (x5.2.2.1,x5.1,x5.2.2.2.2.1,x5.2.2.2.2.2.1,x5.2.2.2.2.2.2,()) !=true) (some (af (aO (af (([]:List (List UInt8)),false))))) (some (aO ((aJ .i64 (x5.1+1)),x5.2.1,x5.2.2.1,x5.1,x5.2.2.2.2)))))) (some (af (af ((aJ .i64 (x1.1+x5.2.2.2.2.1)),x5.2.1)))))) (0,x4.2)))))))) fun x2=>(some (aO x2))) (some (af (x1.2,true))))) (0,([]:List (List UInt8))))
noncomputable def jj (x:List Ya38):Option (Ya11×Bool):=jp @iter x
noncomputable def eX (x:List Ya38):Option (Ya11×Bool):=jp @dT x
noncomputable def jo (it:Itr) (x:Ya0×List (List UInt8)):Option (Bool):=
 (chk (aZ (aa (x.2:List (List UInt8))) 16) fun _=>(it (Int×Ya0×List (List UInt8)) _ (fun x1=>(bcase (bz x1.1 (ah (aa x.1.2.1))) (chk (aS x1.1 (aa x.1.2.1)) fun _=>(lt (aB (T:=Ka19) x.1.2.1 x1.1) fun z2=>(chk (aZ (aa x1.2.2+aa ([z2.1])) 16) fun _=>(some (aO ((aJ .i64 (x1.1+1)),x1.2.1,(x1.2.2++([z2.1])))))))) (obind (it (Int×Ya0×List (List UInt8)) _ (fun x3=>(bcase (bz x3.1 (ah (aa x1.2.1.2.2.1))) (chk (aS x3.1 (aa x1.2.1.2.2.1)) fun _=>(lt (aB (T:=Ka20) x1.2.1.2.2.1 x3.1) fun z4=>(chk (aZ (aa x3.2.2+aa ([z4.1])) 16) fun _=>(some (aO ((aJ .i64 (x3.1+1)),x3.2.1,(x3.2.2++([z4.1])))))))) (obind (chk (aZ (aa x3.2.2+aa x3.2.1.2.2.2.1) 16) fun _=>(chk (aZ (aa (x3.2.2++x3.2.1.2.2.2.1)+aa x3.2.1.2.2.2.2.1) 16) fun _=>(it (Int×Ya17×List (List UInt8)) _ (fun x5=>(bcase (bz x5.1 (ah (aa ((x3.2.2++x3.2.1.2.2.2.1)++x3.2.1.2.2.2.2.1)))) (chk (aS x5.1 (aa x5.2.2)) fun _=>(chk (aS x5.1 (aa x5.2.2)) fun _=>(lt (aB (T:=.str) x5.2.2 x5.1) fun z6=>(jn (α:=Bool×Ya17×List (List UInt8)) (obind (jx z6) fun y8=>(bcase (!y8) (some (af (true,x5.2))) (some (af ((vR (K:=.str) (V:=.bool) z6 x5.2.1 false),x5.2))))) fun x7=>(bcase x7.1 (some (af false)) (some (aO ((aJ .i64 (x5.1+1)),(ym (K:=.str) (V:=.bool) z6 true x7.2.1),x7.2.2)))))))) (some (af true)))) (0,([]:List ((List UInt8)×Bool)),((x3.2.2++x3.2.1.2.2.2.1)++x3.2.1.2.2.2.2.1))))) fun r=>some (af r)))) (0,x1.2)) fun r=>some (af r)))) (0,x)))
noncomputable def ji (x:Ya0×List (List UInt8)):Option (Bool):=jo @iter x
noncomputable def eW (x:Ya0×List (List UInt8)):Option (Bool):=jo @dT x
noncomputable def jm (it:Itr) (x:Ya14×Ya17×(List Ya18)×Ya11×Ya11×List (Int×Int×Int)):Option (Bool):=
 (it ((Int×Int×Int)×Ya14×Ya17×(List Ya18)×Ya11×Ya11×List (Int×Int×Int)) _ (fun x1=>(bcase (bz x1.1.2.2 (ah (aa x.2.2.2.2.2))) (chk (aS x1.1.2.2 (aa x.2.2.2.2.2)) fun _=>(lt (aB (T:=Ka16) x.2.2.2.2.2 x1.1.2.2) fun z2=>(jn (α:=Bool×Ya0×Int×Int×Int) (bcase (bz z2.1 x1.1.1) (some (af (true,x1.2,z2))) (some (af ((b9 (ah (aa x1.2.2.2.2.2.1)) z2.1),x1.2,z2)))) fun x3=>(bcase x3.1 (some (af false)) (jn (α:=(Int×Int)×Ya0×Int×Int×Int) (bcase (bz x1.1.1 x3.2.2.1) (some (af ((x3.2.2.1,0),x3.2))) (some (af ((x1.1.1,x1.1.2.1),x3.2)))) fun x4=>(bcase (!decide ((x4.2.2.2.1:Int)=x4.1.2)) (some (af false)) (some (aO ((x4.1.1,(aJ .i64 (x4.1.2+1)),(aJ .i64 (x1.1.2.2+1))),x4.2.1))))))))) (some (af true)))) ((0,0,0),x))
noncomputable def jh (x:Ya14×Ya17×(List Ya18)×Ya11×Ya11×List (Int×Int×Int)):Option (Bool):=jm @iter x
noncomputable def eV (x:Ya14×Ya17×(List Ya18)×Ya11×Ya11×List (Int×Int×Int)):Option (Bool):=jm @dT x
noncomputable def jq (it:Itr) (x:Ya14×Ya17×(List Ya18)×Ya11×Ya11×List (Int×Int×Int)):Option (Bool):=
 (jn (α:=Bool×Ya14×Ya17×(List Ya18)×Ya11×Ya11×List (Int×Int×Int)) (bcase (bz 12 (ah (aa x.1))) (some (af (true,x))) (bcase (bz 4 (ah (aa x.2.1))) (some (af (true,x))) (bcase (bz 2 (ah (aa x.2.2.1))) (some (af (true,x))) (bcase (bz 2 (ah (aa x.2.2.2.1))) (some (af (true,x))) (some (af ((bz 60 (ah (aa x.2.2.2.2.2))),x))))))) fun x1=>(bcase x1.1 (some false) (jn (α:=Bool×Ya14×Ya17×(List Ya18)×Ya11×Ya11×List (Int×Int×Int)) (bcase (bz (ah (aa x1.2.2.2.2.2.1)) 1) (some (af (true,x1.2))) (some (af ((bz 4 (ah (aa x1.2.2.2.2.2.1))),x1.2)))) fun x2=>(bcase x2.1 (some false) (obind (eX x2.2.1) fun y3=>(jn (α:=Bool×Ya14×Ya17×(List Ya18)×Ya11×Ya11×List (Int×Int×Int)) (bcase (!y3.2) (some (af (true,x2.2))) (obind (eW (x2.2,y3.1)) fun y5=>(some (af ((!y5),x2.2))))) fun x4=>(bcase x4.1 (some false) (it Yd4 _ (fun x6=>(bcase (bz x6.1 (ah (aa x4.2.2.2.1))) (chk (aS x6.1 (aa x4.2.2.2.1)) fun _=>(lt (aB (T:=Ka20) x4.2.2.2.1 x6.1) fun z7=>(obind (mM (x6.2,z7.2,false)) fun y8=>(bcase (!y8) (some (af false)) (some (aO ((aJ .i64 (x6.1+1)),x6.2))))))) (obind (obind (eV x6.2) fun y9=>(some y9)) fun r=>some (af r)))) (0,x4.2)))))))))
noncomputable def jk (x:Ya14×Ya17×(List Ya18)×Ya11×Ya11×List (Int×Int×Int)):Option (Bool):=jq @iter x
noncomputable def eY (x:Ya14×Ya17×(List Ya18)×Ya11×Ya11×List (Int×Int×Int)):Option (Bool):=jq @dT x
noncomputable def oH (it:Itr) (x:Ya14×Ya17×(List Ya18)×Ya11×Ya11×List (Int×Int×Int)):Option Ya2:=
 (chk (b9 0 (ah (aa x.2.1))&&b9 (ah (aa x.2.1)) (ah (aa x.2.1))&&aZ (aM (ah (aa x.2.1))) 32) fun _=>(chk (b9 0 (ah (aa x.2.2.2.1))&&b9 (ah (aa x.2.2.2.1)) (ah (aa x.2.2.2.1))&&aZ (aM (ah (aa x.2.2.2.1))) 1) fun _=>(chk (b9 0 (ah (aa x.2.2.2.2.1))&&b9 (ah (aa x.2.2.2.2.1)) (ah (aa x.2.2.2.2.1))&&aZ (aM (ah (aa x.2.2.2.2.1))) 24) fun _=>(it (Int×Int×Int×Ya20×(List Bool)×List Ya16) _ (fun x1=>(bcase (bz x1.1 (ah (aa (aF (aM (ah (aa x.2.1))) ((0,[]):Int×List Int))))) (chk (aS x1.1 (aa x1.2.2.2.1)) fun _=>(chk (aS x1.1 (aa x1.2.2.2.1)) fun _=>(some (aO ((aJ .i64 (x1.1+1)),x1.2.1,x1.2.2.1,(ch x1.2.2.2.1 x1.1 ((-1),(aB (T:=Ka11) x1.2.2.2.1 x1.1).2)),x1.2.2.2.2))))) (obind (jn (α:=Int×Int×Ya20×(List Bool)×List Ya16) (bcase (bz 0 (ah (aa x1.2.2.2.2.2))) (chk (aS 0 (aa x1.2.2.2.2.2)) fun _=>(chk (aS 0 (aa x1.2.2.2.2.2)) fun _=>(some (af (x1.2.1,x1.2.2.1,x1.2.2.2.1,x1.2.2.2.2.1,(ch x1.2.2.2.2.2 0 (1,(aB (T:=Ka7) x1.2.2.2.2.2 0).2))))))) (some (af x1.2))) fun x2=>(some (x2.2.2.1,x2.2.1,x2.2.2.2))) fun r=>some (af r)))) (0,0,(-1),(aF (aM (ah (aa x.2.1))) ((0,[]):Int×List Int)),(aF (aM (ah (aa x.2.2.2.1))) (false:Bool)),(aF (aM (ah (aa x.2.2.2.2.1))) ((0,(0,false)):Int×Int×Bool)))))))
noncomputable def oB (x:Ya14×Ya17×(List Ya18)×Ya11×Ya11×List (Int×Int×Int)):Option Ya2:=oH @iter x
noncomputable def jF (x:Ya14×Ya17×(List Ya18)×Ya11×Ya11×List (Int×Int×Int)):Option Ya2:=oH @dT x
noncomputable def kQ (it:Itr) (x:Ya14×Ya17×(List Ya18)×Ya11×Ya11×List (Int×Int×Int)):Option Ya12:=
 (obind (jF x) fun y1=>(chk (b9 0 0&&b9 0 (ah (aa x.1))&&aZ (aM (ah (aa x.1))) 8) fun _=>(chk (b9 0 (ah (aa x.2.2.2.1))&&b9 (ah (aa x.2.2.2.1)) (ah (aa x.2.2.2.1))&&aZ (aM (ah (aa x.2.2.2.1))) 8) fun _=>(chk (b9 0 (ah (aa x.2.2.2.2.1))&&b9 (ah (aa x.2.2.2.2.1)) (ah (aa x.2.2.2.2.1))&&aZ (aM (ah (aa x.2.2.2.2.1))) 8) fun _=>(it (Int×Int×Ya2×(List Int)×(List Int)×List Int) _ (fun x2=>(bcase (bz x2.1 (ah (aa x.1))) (chk (aS x2.1 (aa x.1)) fun _=>(lt (aB (T:=Ka10) x.1 x2.1) fun z3=>(chk (aZ (aa x2.2.2.2.1+aa ([z3.2.2.2.2])) 8) fun _=>(some (aO ((aJ .i64 (x2.1+1)),x2.2.1,x2.2.2.1,(x2.2.2.2.1++([z3.2.2.2.2])),x2.2.2.2.2)))))) (some (af x2.2.2)))) (0,0,y1,(aF (aM 0) (0:Int)),(aF (aM (ah (aa x.2.2.2.1))) (0:Int)),(aF (aM (ah (aa x.2.2.2.2.1))) (0:Int))))))))
noncomputable def kB (x:Ya14×Ya17×(List Ya18)×Ya11×Ya11×List (Int×Int×Int)):Option Ya12:=kQ @iter x
noncomputable def fU (x:Ya14×Ya17×(List Ya18)×Ya11×Ya11×List (Int×Int×Int)):Option Ya12:=kQ @dT x
noncomputable def iJ (it:Itr) (x:(List Bool)×Int×Int×Int×Int×Int×(List Int)×List Int):Option (Bool):=
 (it (Int) _ (fun x1=>(bcase (bz x1 2) (chk (b9 0 x1&&bz x1 2) fun _=>(lt (aB (T:=(.sl Ka0)) [x.2.2.2.2.2.2.1,x.2.2.2.2.2.2.2] x1) fun z2=>(it (Int) _ (fun x3=>(bcase (bz x3 (ah (aa z2))) (chk (aS x3 (aa z2)) fun _=>(lt (aB (T:=Ka0) z2 x3) fun z4=>(jn (α:=Bool) (bcase (bz z4 0) (some (af true)) (bcase (b9 (ah (aa x.1)) z4) (some (af true)) (chk (aS z4 (aa x.1)) fun _=>(lt (aB (T:=.bool) x.1 z4) fun z6=>(some (af (!z6))))))) fun x5=>(bcase x5 (some (af (af false))) (some (aO (aJ .i64 (x3+1)))))))) (some (af (aO (aJ .i64 (x1+1))))))) 0))) (some (af true)))) 0)
noncomputable def ip (x:(List Bool)×Int×Int×Int×Int×Int×(List Int)×List Int):Option (Bool):=iJ @iter x
noncomputable def c6 (x:(List Bool)×Int×Int×Int×Int×Int×(List Int)×List Int):Option (Bool):=iJ @dT x
noncomputable def dI (x:Int×Int):Option (Bool):=
 (jn (α:=Bool) (bcase (b9 0 x.1) (some (af (bz x.1 x.2))) (some (af false))) fun x1=>(some x1))
noncomputable def mK (x:Ya0×Int×Int):Option (Bool):=
 (jn (α:=Bool×Ya14×Ya17×(List Ya18)×Ya11×Ya11×List (Int×Int×Int)) (bcase (decide ((x.2.1:Int)=1)) (some (af ((decide ((x.2.1:Int)=1)),x.1))) (bcase (decide ((x.2.1:Int)=2)) (some (af ((decide ((x.2.1:Int)=2)),x.1))) (bcase (decide ((x.2.1:Int)=5)) (some (af ((decide ((x.2.1:Int)=5)),x.1))) (bcase (decide ((x.2.1:Int)=12)) (some (af ((decide ((x.2.1:Int)=12)),x.1))) (bcase (decide ((x.2.1:Int)=13)) (some (af ((decide ((x.2.1:Int)=13)),x.1))) (bcase (decide ((x.2.1:Int)=14)) (some (af ((decide ((x.2.1:Int)=14)),x.1))) (some (af ((decide ((x.2.1:Int)=15)),x.1))))))))) fun x1=>(bcase x1.1 (some (decide ((x.2.2:Int)=(-1)))) (jn (α:=Bool×Ya14×Ya17×(List Ya18)×Ya11×Ya11×List (Int×Int×Int)) (bcase (decide ((x.2.1:Int)=3)) (some (af ((decide ((x.2.1:Int)=3)),x1.2))) (some (af ((decide ((x.2.1:Int)=4)),x1.2)))) fun x2=>(bcase x2.1 (obind (dI (x.2.2,(ah (aa x2.2.1)))) fun y3=>(some y3)) (jn (α:=Bool×Ya14×Ya17×(List Ya18)×Ya11×Ya11×List (Int×Int×Int)) (bcase (decide ((x.2.1:Int)=6)) (some (af ((decide ((x.2.1:Int)=6)),x2.2))) (some (af ((decide ((x.2.1:Int)=7)),x2.2)))) fun x4=>(bcase x4.1 (jn (α:=Bool) (obind (dI (x.2.2,(ah (aa x4.2.2.1)))) fun y6=>(bcase y6 (chk (aS x.2.2 (aa x4.2.2.1)) fun _=>(lt ((aB (T:=Ka19) x4.2.2.1 x.2.2).2) fun z7=>(some (af (!z7))))) (some (af false)))) fun x5=>(some x5)) (jn (α:=Bool×Ya14×Ya17×(List Ya18)×Ya11×Ya11×List (Int×Int×Int)) (bcase (decide ((x.2.1:Int)=8)) (some (af ((decide ((x.2.1:Int)=8)),x4.2))) (bcase (decide ((x.2.1:Int)=9)) (some (af ((decide ((x.2.1:Int)=9)),x4.2))) (bcase (decide ((x.2.1:Int)=10)) (some (af ((decide ((x.2.1:Int)=10)),x4.2))) (some (af ((decide ((x.2.1:Int)=11)),x4.2)))))) fun x8=>(bcase x8.1 (jn (α:=Bool) (obind (dI (x.2.2,(ah (aa x8.2.2.1)))) fun y10=>(bcase y10 (chk (aS x.2.2 (aa x8.2.2.1)) fun _=>(lt ((aB (T:=Ka19) x8.2.2.1 x.2.2).2) fun z11=>(some (af z11)))) (some (af false)))) fun x9=>(some x9)) (jn (α:=Bool×Ya14×Ya17×(List Ya18)×Ya11×Ya11×List (Int×Int×Int)) (bcase (decide ((x.2.1:Int)=16)) (some (af ((decide ((x.2.1:Int)=16)),x8.2))) (bcase (decide ((x.2.1:Int)=17)) (some (af ((decide ((x.2.1:Int)=17)),x8.2))) (bcase (decide ((x.2.1:Int)=18)) (some (af ((decide ((x.2.1:Int)=18)),x8.2))) (some (af ((decide ((x.2.1:Int)=19)),x8.2)))))) fun x12=>(bcase x12.1 (obind (dI (x.2.2,(ah (aa x12.2.2.2.1)))) fun y13=>(some y13)) (jn (α:=Bool×Ya14×Ya17×(List Ya18)×Ya11×Ya11×List (Int×Int×Int)) (bcase (decide ((x.2.1:Int)=20)) (some (af ((decide ((x.2.1:Int)=20)),x12.2))) (some (af ((decide ((x.2.1:Int)=21)),x12.2)))) fun x14=>(bcase x14.1 (obind (dI (x.2.2,(ah (aa x14.2.2.2.2.2.1)))) fun y15=>(some y15)) (jn (α:=Bool×Ya14×Ya17×(List Ya18)×Ya11×Ya11×List (Int×Int×Int)) (bcase (decide ((x.2.1:Int)=22)) (some (af ((decide ((x.2.1:Int)=22)),x14.2))) (some (af ((decide ((x.2.1:Int)=23)),x14.2)))) fun x16=>(bcase x16.1 (obind (dI (x.2.2,(ah (aa x16.2.2.2.2.1)))) fun y17=>(some y17)) (some false)))))))))))))))
noncomputable def pH (it:Itr) (x:Ya0×Ya20×Int×(List Bool)×List Ya16):Option (Bool):=
 (jn (α:=Bool×Ya14×Ya17×(List Ya18)×Ya11×Ya11×List (Int×Int×Int)) (bcase (!decide (((ah (aa x.2.1)):Int)=(ah (aa x.1.2.1)))) (some (af (true,x.1))) (bcase (!decide (((ah (aa x.2.2.2.1)):Int)=(ah (aa x.1.2.2.2.1)))) (some (af (true,x.1))) (some (af ((!decide (((ah (aa x.2.2.2.2)):Int)=(ah (aa x.1.2.2.2.2.1)))),x.1))))) fun x1=>(bcase x1.1 (some false) (it Yd4 _ (fun x2=>(bcase (bz x2.1 (ah (aa x1.2.2.2.1))) (chk (aS x2.1 (aa x1.2.2.2.1)) fun _=>(lt (aB (T:=Ka20) x1.2.2.2.1 x2.1) fun z3=>(obind (dI (z3.2,(ah (aa x2.2.2.1)))) fun y4=>(bcase (!y4) (some (af false)) (some (aO ((aJ .i64 (x2.1+1)),x2.2))))))) (some (af true)))) (0,x1.2))))
noncomputable def pu (x:Ya0×Ya20×Int×(List Bool)×List Ya16):Option (Bool):=pH @iter x
noncomputable def iX (x:Ya0×Ya20×Int×(List Bool)×List Ya16):Option (Bool):=pH @dT x
noncomputable def oC (x:Ya0×Ya2×Int×Int×Int):Option (Bool):=
 (bcase (decide ((x.2.2.2.1:Int)=6)) (chk (aS x.2.2.2.2 (aa x.2.1.1)) fun _=>(lt ((aB (T:=Ka11) x.2.1.1 x.2.2.2.2).1) fun z1=>(some (decide ((z1:Int)=(-1)))))) (bcase (decide ((x.2.2.2.1:Int)=10)) (jn (α:=Bool) (chk (aS x.2.2.2.2 (aa x.2.1.1)) fun _=>(lt ((aB (T:=Ka11) x.2.1.1 x.2.2.2.2).1) fun z3=>(bcase (decide ((z3:Int)=(-1))) (chk (aS x.2.2.2.2 (aa x.2.1.1)) fun _=>(lt ((aB (T:=Ka11) x.2.1.1 x.2.2.2.2).2) fun z4=>(some (af (decide (((ah (aa z4)):Int)=0)))))) (some (af false))))) fun x2=>(some x2)) (bcase (decide ((x.2.2.2.1:Int)=8)) (jn (α:=Bool) (chk (aS x.2.2.2.2 (aa x.2.1.1)) fun _=>(lt ((aB (T:=Ka11) x.2.1.1 x.2.2.2.2).1) fun z6=>(bcase (decide ((z6:Int)=(-1))) (chk (aS x.2.2.2.2 (aa x.2.1.1)) fun _=>(lt ((aB (T:=Ka11) x.2.1.1 x.2.2.2.2).2) fun z7=>(obind (mh (z7,x.2.2.1)) fun y8=>(some (af (!y8)))))) (some (af false))))) fun x5=>(some x5)) (jn (α:=Bool×Ya0×Ya20×Int×(List Bool)×List Ya16) (bcase (decide ((x.2.2.2.1:Int)=7)) (some (af ((decide ((x.2.2.2.1:Int)=7)),x.1,x.2.1))) (some (af ((decide ((x.2.2.2.1:Int)=11)),x.1,x.2.1)))) fun x9=>(bcase x9.1 (chk (aS x.2.2.2.2 (aa x9.2.2.1)) fun _=>(lt ((aB (T:=Ka11) x9.2.2.1 x.2.2.2.2).1) fun z10=>(some (decide ((z10:Int)=x.2.2.1))))) (bcase (decide ((x.2.2.2.1:Int)=9)) (chk (aS x.2.2.2.2 (aa x9.2.2.1)) fun _=>(lt ((aB (T:=Ka11) x9.2.2.1 x.2.2.2.2).2) fun z11=>(obind (mh (z11,x.2.2.1)) fun y12=>(some y12)))) (bcase (decide ((x.2.2.2.1:Int)=12)) (some (decide ((x9.2.2.2.1:Int)=(-1)))) (bcase (decide ((x.2.2.2.1:Int)=13)) (some (decide ((x9.2.2.2.1:Int)=x.2.2.1))) (bcase (decide ((x.2.2.2.1:Int)=14)) (chk (aS x.2.2.1 (aa x9.2.2.2.2.2)) fun _=>(lt (((aB (T:=Ka7) x9.2.2.2.2.2 x.2.2.1).2).2) fun z13=>(some (!z13)))) (bcase (decide ((x.2.2.2.1:Int)=15)) (chk (aS x.2.2.1 (aa x9.2.2.2.2.2)) fun _=>(lt (((aB (T:=Ka7) x9.2.2.2.2.2 x.2.2.1).2).2) fun z14=>(some z14))) (jn (α:=Bool×Ya0×Ya20×Int×(List Bool)×List Ya16) (bcase (decide ((x.2.2.2.1:Int)=16)) (some (af ((decide ((x.2.2.2.1:Int)=16)),x9.2))) (bcase (decide ((x.2.2.2.1:Int)=18)) (some (af ((decide ((x.2.2.2.1:Int)=18)),x9.2))) (some (af ((decide ((x.2.2.2.1:Int)=19)),x9.2))))) fun x15=>(bcase x15.1 (chk (aS x.2.2.2.2 (aa x15.2.1.2.2.1)) fun _=>(lt ((aB (T:=Ka20) x15.2.1.2.2.1 x.2.2.2.2).2) fun z16=>(chk (aS z16 (aa x15.2.2.1)) fun _=>(lt ((aB (T:=Ka11) x15.2.2.1 z16).1) fun z17=>(some (decide ((z17:Int)=x.2.2.1))))))) (bcase (decide ((x.2.2.2.1:Int)=20)) (jn (α:=Bool) (bcase (!decide ((x.2.2.2.2:Int)=x.2.2.1)) (chk (aS x.2.2.2.2 (aa x15.2.2.2.2.2)) fun _=>(lt ((aB (T:=Ka7) x15.2.2.2.2.2 x.2.2.2.2).1) fun z19=>(some (af (decide ((z19:Int)=0)))))) (some (af false))) fun x18=>(some x18)) (bcase (decide ((x.2.2.2.1:Int)=21)) (jn (α:=Bool) (bcase (!decide ((x.2.2.2.2:Int)=x.2.2.1)) (chk (aS x.2.2.2.2 (aa x15.2.2.2.2.2)) fun _=>(lt ((aB (T:=Ka7) x15.2.2.2.2.2 x.2.2.2.2).1) fun z21=>(some (af (decide ((z21:Int)=5)))))) (some (af false))) fun x20=>(some x20)) (bcase (decide ((x.2.2.2.1:Int)=22)) (chk (aS x.2.2.2.2 (aa x15.2.2.2.2.1)) fun _=>(lt (aB (T:=.bool) x15.2.2.2.2.1 x.2.2.2.2) fun z22=>(some (!z22)))) (bcase (decide ((x.2.2.2.1:Int)=23)) (chk (aS x.2.2.2.2 (aa x15.2.2.2.2.1)) fun _=>(lt (aB (T:=.bool) x15.2.2.2.2.1 x.2.2.2.2) fun z23=>(some z23))) (some true)))))))))))))))))
noncomputable def jP (x:Ya0×Ya2×Int×Int×Int):Option (Bool):=
 (jn (α:=Bool×Ya0×Ya20×Int×(List Bool)×List Ya16) (obind (iX (x.1,x.2.1)) fun y2=>(bcase (!y2) (some (af (true,x.1,x.2.1))) (obind (dI (x.2.2.1,(ah (aa x.1.2.2.2.2.1)))) fun y3=>(bcase (!y3) (some (af (true,x.1,x.2.1))) (obind (mK (x.1,x.2.2.2)) fun y4=>(some (af ((!y4),x.1,x.2.1)))))))) fun x1=>(bcase x1.1 (some false) (chk (aS x.2.2.1 (aa x1.2.2.2.2.2)) fun _=>(lt (aB (T:=Ka7) x1.2.2.2.2.2 x.2.2.1) fun z5=>(bcase (decide ((x.2.2.2.1:Int)=1)) (some (decide ((z5.1:Int)=1))) (bcase (decide ((x.2.2.2.1:Int)=17)) (jn (α:=Bool) (bcase (decide ((z5.1:Int)=4)) (bcase (decide ((z5.2.1:Int)=x.2.2.2.2)) (chk (aS x.2.2.2.2 (aa x1.2.1.2.2.1)) fun _=>(lt ((aB (T:=Ka20) x1.2.1.2.2.1 x.2.2.2.2).2) fun z7=>(chk (aS z7 (aa x1.2.2.1)) fun _=>(lt ((aB (T:=Ka11) x1.2.2.1 z7).1) fun z8=>(some (af (decide ((z8:Int)=(-1))))))))) (some (af false))) (some (af false))) fun x6=>(some x6)) (jn (α:=Bool) (bcase (decide ((z5.1:Int)=2)) (obind (oC (x1.2.1,x1.2.2,x.2.2)) fun y10=>(some (af y10))) (some (af false))) fun x9=>(some x9))))))))
noncomputable def lA (x:Ya0×Ya2×(List Int)×(List Int)×List Int):Option (Bool):=
 (jn (α:=Bool) (obind (iX (x.1,x.2.1)) fun y2=>(bcase y2 (bcase (decide (((ah (aa x.2.2.1)):Int)=(ah (aa x.1.1)))) (bcase (decide (((ah (aa x.2.2.2.1)):Int)=(ah (aa x.1.2.2.2.1)))) (some (af (decide (((ah (aa x.2.2.2.2)):Int)=(ah (aa x.1.2.2.2.2.1)))))) (some (af false))) (some (af false))) (some (af false)))) fun x1=>(some x1))
noncomputable def jX (x:Ya0×Int×Int×Int×Int×Int×(List Int)×List Int):Option (Bool):=
 (jn (α:=Bool×Ya0×Int×Int×Int×Int×Int×(List Int)×List Int) (bcase (decide ((x.2.2.1:Int)=1)) (some (af (true,x))) (some (af ((decide ((x.2.2.1:Int)=2)),x)))) fun x1=>(bcase x1.1 (some (decide ((x1.2.2.2.2.2.2.1:Int)=(-1)))) (jn (α:=Bool) (bcase (b9 0 x1.2.2.2.2.2.2.1) (bcase (bz x1.2.2.2.2.2.2.1 (ah (aa x1.2.1.2.2.2.2.2))) (chk (aS x1.2.2.2.2.2.2.1 (aa x1.2.1.2.2.2.2.2)) fun _=>(lt ((aB (T:=Ka16) x1.2.1.2.2.2.2.2 x1.2.2.2.2.2.2.1).1) fun z3=>(some (af (decide ((z3:Int)=x1.2.2.1)))))) (some (af false))) (some (af false))) fun x2=>(some x2))))
noncomputable def gS (it:Itr) (x:Ya0×Ya12×Int×Int×Int×Int×Int×(List Int)×List Int):Option (Bool):=
 (jn (α:=Bool×Ya12×Int×Int×Int×Int×Int×(List Int)×List Int) (bcase (decide ((x.2.2.2.1:Int)=3)) (chk (aS x.2.2.2.2.1 (aa x.1.1)) fun _=>(lt ((((aB (T:=Ka10) x.1.1 x.2.2.2.2.1).2).2).1) fun z2=>(some (af ((!decide ((z2:Int)=0)),x.2))))) (bcase (decide ((x.2.2.2.1:Int)=4)) (chk (aS x.2.2.2.2.1 (aa x.1.1)) fun _=>(lt ((((aB (T:=Ka10) x.1.1 x.2.2.2.2.1).2).2).1) fun z3=>(some (af ((!decide ((z3:Int)=0)),x.2))))) (some (af (false,x.2))))) fun x1=>(jn (α:=Ya12×Ya5×Bool×Bool) (bcase (decide ((x1.2.2.2.1:Int)=5)) (bcase (decide ((x1.2.2.2.1:Int)=4)) (some (af (x1.2.1,x1.2.2,true,true))) (some (af (x1.2.1,x1.2.2,true,(decide ((x1.2.2.2.1:Int)=22)))))) (bcase (decide ((x1.2.2.2.1:Int)=4)) (some (af (x1.2.1,x1.2.2,x1.1,true))) (some (af (x1.2.1,x1.2.2,x1.1,(decide ((x1.2.2.2.1:Int)=22))))))) fun x4=>(it (Int×Ya12×Ya5×Bool×Bool) _ (fun x5=>(bcase (bz x5.1 2) (chk (b9 0 x5.1&&bz x5.1 2) fun _=>(lt (aB (T:=(.sl Ka0)) [x4.2.1.2.2.2.2.2.1,x4.2.1.2.2.2.2.2.2] x5.1) fun z6=>(jn (α:=Bool×Ya12×Ya5×Bool×Bool) (bcase (bz 0 (ah (aa z6))) (chk (b9 0 x5.1&&bz x5.1 2) fun _=>(chk (aS x5.1 2) fun _=>(lt (aB (T:=.bool) [x5.2.2.2.1,x5.2.2.2.2] x5.1) fun z8=>(some (af ((!z8),x5.2)))))) (some (af (false,x5.2)))) fun x7=>(bcase x7.1 (some (af false)) (it ((Int×Int)×Ya12×Ya5×Bool×Bool) _ (fun x9=>(bcase (bz x9.1.2 (ah (aa z6))) (chk (aS x9.1.2 (aa z6)) fun _=>(lt (aB (T:=Ka0) z6 x9.1.2) fun z10=>(jn (α:=Bool×Ya12×Ya5×Bool×Bool) (bcase (b9 z10 x9.1.1) (some (af (true,x9.2))) (chk (aS x9.2.2.1.1 (aa x9.2.1.2.2.2)) fun _=>(lt (aB (T:=Ka0) x9.2.1.2.2.2 x9.2.2.1.1) fun z12=>(some (af ((b9 z12 z10),x9.2)))))) fun x11=>(bcase x11.1 (some (af (af false))) (some (aO ((z10,(aJ .i64 (x9.1.2+1))),x11.2))))))) (some (af (aO ((aJ .i64 (x5.1+1)),x9.2)))))) ((0,0),x7.2)))))) (some (af true)))) (0,x4))))
noncomputable def gP (x:Ya0×Ya12×Int×Int×Int×Int×Int×(List Int)×List Int):Option (Bool):=gS @iter x
noncomputable def dV (x:Ya0×Ya12×Int×Int×Int×Int×Int×(List Int)×List Int):Option (Bool):=gS @dT x
noncomputable def kc (it:Itr) (x:Ya12×Int×Int×Int×Int×Int×(List Int)×List Int):Option (Bool):=
 (bcase (decide ((x.2.2.1:Int)=3)) (chk (aS x.2.2.2.1 (aa x.1.2.1)) fun _=>(lt (aB (T:=Ka0) x.1.2.1 x.2.2.2.1) fun z1=>(some (decide ((x.2.2.2.2.1:Int)=z1))))) (bcase (decide ((x.2.2.1:Int)=23)) (chk (aS x.2.2.2.1 (aa x.1.2.2.1)) fun _=>(lt (aB (T:=Ka0) x.1.2.2.1 x.2.2.2.1) fun z2=>(some (decide ((x.2.2.2.2.1:Int)=z2))))) (bcase (decide ((x.2.2.1:Int)=5)) (jn (α:=Bool) (bcase (decide ((x.2.2.2.2.1:Int)=0)) (some (af true)) (some (af (decide ((x.2.2.2.2.1:Int)=1))))) fun x3=>(some x3)) (jn (α:=Bool×Ya12×Int×Int×Int×Int×Int×(List Int)×List Int) (bcase (decide ((x.2.2.1:Int)=4)) (some (af ((decide ((x.2.2.1:Int)=4)),x))) (some (af ((decide ((x.2.2.1:Int)=22)),x)))) fun x4=>(bcase x4.1 (some true) (bcase (decide ((x.2.2.1:Int)=18)) (it ((Int×Bool×Int)×Int×Int×Int×Int×Int×(List Int)×List Int) _ (fun x5=>(bcase (bz x5.1.2.2 (ah (aa x4.2.1.1.2.2.2))) (jn (α:=(Int×Bool)×Int×Int×Int×Int×Int×(List Int)×List Int) (chk (aS x5.1.2.2 (aa x4.2.1.1.2.2.2)) fun _=>(lt (aB (T:=Ka7) x4.2.1.1.2.2.2 x5.1.2.2) fun z7=>(jn (α:=Bool×Int×Int×Int×Int×Int×(List Int)×List Int) (bcase (decide ((z7.1:Int)=3)) (some (af ((decide ((z7.2.1:Int)=x5.2.2.2.1)),x5.2))) (some (af (false,x5.2)))) fun x8=>(bcase x8.1 (bcase x5.1.2.1 (some (af (((aJ .i64 (x5.1.1+1)),true),x8.2))) (some (af (((aJ .i64 (x5.1.1+1)),(decide ((x8.2.2.2.2.1:Int)=x5.1.2.2))),x8.2)))) (some (af ((x5.1.1,x5.1.2.1),x8.2))))))) fun x6=>(some (aO ((x6.1.1,x6.1.2,(aJ .i64 (x5.1.2.2+1))),x6.2)))) (obind (jn (α:=Bool) (bcase x5.1.2.1 (some (af true)) (bcase (decide ((x5.1.1:Int)=0)) (some (af (decide ((x5.2.2.2.2.1:Int)=(-1))))) (some (af false)))) fun x9=>(some x9)) fun r=>some (af r)))) ((0,false,0),x4.2.2)) (bcase (decide ((x.2.2.1:Int)=19)) (it ((Int×Int)×Int×Int×Int×Int×Int×(List Int)×List Int) _ (fun x10=>(bcase (bz x10.1.2 (ah (aa x4.2.1.1.2.2.2))) (jn (α:=Int×Int×Int×Int×Int×Int×(List Int)×List Int) (chk (aS x10.1.2 (aa x4.2.1.1.2.2.2)) fun _=>(lt (aB (T:=Ka7) x4.2.1.1.2.2.2 x10.1.2) fun z12=>(jn (α:=Bool×Int×Int×Int×Int×Int×(List Int)×List Int) (bcase (decide ((z12.1:Int)=3)) (some (af ((decide ((z12.2.1:Int)=x10.2.2.2.1)),x10.2))) (some (af (false,x10.2)))) fun x13=>(bcase x13.1 (some (af ((aJ .i64 (x10.1.1+1)),x13.2))) (some (af (x10.1.1,x13.2))))))) fun x11=>(some (aO ((x11.1,(aJ .i64 (x10.1.2+1))),x11.2)))) (some (af (decide ((x10.2.2.2.2.1:Int)=x10.1.1)))))) ((0,0),x4.2.2)) (some (decide ((x4.2.2.2.2.2.1:Int)=0))))))))))
noncomputable def jV (x:Ya12×Int×Int×Int×Int×Int×(List Int)×List Int):Option (Bool):=kc @iter x
noncomputable def fx (x:Ya12×Int×Int×Int×Int×Int×(List Int)×List Int):Option (Bool):=kc @dT x
noncomputable def mg (x:Ya16×Int):Option (Bool):=
 (jn (α:=Bool) (bcase (decide ((x.1.1:Int)=3)) (some (af (decide ((x.1.2.1:Int)=x.2)))) (some (af false))) fun x1=>(some x1))
noncomputable def tL (x:List Bool):Option (List Bool):=
 (bcase (av (aa x) 0) (wD (some ([]:List Bool)) (chk (aZ (aa ([]:List Bool)+aa x) 1) fun _=>(some (([]:List Bool)++x)))) (chk (aZ (aa ([]:List Bool)+aa x) 1) fun _=>(some (([]:List Bool)++x))))
def vV (x:List Bool):Option (List Bool):=chk (aZ (aa x) 1) fun _=>some x
noncomputable def tJ (x:List Ya16):Option (List Ya16):=
 (bcase (av (aa x) 0) (wD (some ([]:List Ya16)) (chk (aZ (aa ([]:List Ya16)+aa x) 24) fun _=>(some (([]:List Ya16)++x)))) (chk (aZ (aa ([]:List Ya16)+aa x) 24) fun _=>(some (([]:List Ya16)++x))))
def vT (x:List Ya16):Option (List Ya16):=chk (aZ (aa x) 24) fun _=>some x
noncomputable def tK (x:List Int):Option (List Int):=
 (bcase (av (aa x) 0) (wD (some ([]:List Int)) (chk (aZ (aa ([]:List Int)+aa x) 8) fun _=>(some (([]:List Int)++x)))) (chk (aZ (aa ([]:List Int)+aa x) 8) fun _=>(some (([]:List Int)++x))))
def sv (x:List Int):Option (List Int):=chk (aZ (aa x) 8) fun _=>some x
noncomputable def oG (it:Itr) (x:Ya20×Int×(List Bool)×List Ya16):Option Yd3:=
 (chk (b9 0 (ah (aa x.1))&&b9 (ah (aa x.1)) (ah (aa x.1))&&aZ (aM (ah (aa x.1))) 32) fun _=>(it (Int×Ya2×Int×List (Int×List Int)) _ (fun x1=>(bcase (bz x1.1 (ah (aa x.1))) (chk (aS x1.1 (aa x.1)) fun _=>(lt (aB (T:=Ka11) x.1 x1.1) fun z2=>(obind (rA z2.2) fun y3=>(chk (aS x1.1 (aa x1.2.2.2)) fun _=>(chk (aS x1.1 (aa x1.2.2.2)) fun _=>(some (aO ((aJ .i64 (x1.1+1)),x1.2.1,x1.2.2.1,(ch x1.2.2.2 x1.1 (z2.1,y3)))))))))) (obind (obind (vV x1.2.1.2.2.1) fun y4=>(obind (vT x1.2.1.2.2.2) fun y5=>(some (x1.2.1.2.1,x1.2.2.2,y4,y5)))) fun r=>some (af r)))) (0,x,0,(aF (aM (ah (aa x.1))) ((0,[]):Int×List Int)))))
noncomputable def oA (x:Ya20×Int×(List Bool)×List Ya16):Option Yd3:=oG @iter x
noncomputable def jE (x:Ya20×Int×(List Bool)×List Ya16):Option Yd3:=oG @dT x
noncomputable def nM (it:Itr) (x:(Int×Int×Int)×Ya20×(List Bool)×List Ya16):Option Yd3:=
 (it ((Int×Int)×Ya20×(List Bool)×(List Ya16)×Int) _ (fun x1=>(bcase (bz x1.1.2 (ah (aa x.2.2.2))) (jn (α:=Int×Ya20×(List Bool)×(List Ya16)×Int) (chk (aS x1.1.2 (aa x1.2.2.2.1)) fun _=>(chk (aS x1.1.2 (aa x1.2.2.2.1)) fun _=>(lt (aB (T:=Ka7) x1.2.2.2.1 x1.1.2) fun z3=>(jn (α:=Bool×Ya20×(List Bool)×(List Ya16)×Int) (obind (mg (z3,x.1.2.1)) fun y5=>(bcase y5 (bcase (bz x1.1.1 0) (some (af (true,x1.2))) (some (af ((decide ((x1.1.2:Int)=x.1.2.2)),x1.2)))) (some (af (false,x1.2))))) fun x4=>(bcase x4.1 (some (af (x1.1.2,x4.2))) (some (af (x1.1.1,x4.2)))))))) fun x2=>(some (aO ((x2.1,(aJ .i64 (x1.1.2+1))),x2.2)))) (obind (jn (α:=Ya20×(List Bool)×List Ya16) (bcase (b9 0 x1.1.1) (chk (aS x1.1.1 (aa x1.2.2.2.1)) fun _=>(chk (aS x1.1.1 (aa x1.2.2.2.1)) fun _=>(some (af (x1.2.1,x1.2.2.1,(ch x1.2.2.2.1 x1.1.1 (4,(aB (T:=Ka7) x1.2.2.2.1 x1.1.1).2))))))) (some (af (x1.2.1,x1.2.2.1,x1.2.2.2.1)))) fun x6=>(some (x1.1.1,x6))) fun r=>some (af r)))) (((-1),0),x.2.1,x.2.2.1,x.2.2.2,x.1.1))
noncomputable def nl (x:(Int×Int×Int)×Ya20×(List Bool)×List Ya16):Option Yd3:=nM @iter x
noncomputable def iG (x:(Int×Int×Int)×Ya20×(List Bool)×List Ya16):Option Yd3:=nM @dT x
noncomputable def kU (it:Itr) (x:(Int×Int)×Ya20×(List Bool)×List Ya16):Option Yd3:=
 (it ((Int×Int)×Ya20×(List Bool)×(List Ya16)×Int) _ (fun x1=>(bcase (bz x1.1.2 (ah (aa x.2.2.2))) (jn (α:=Int×Ya20×(List Bool)×(List Ya16)×Int) (chk (aS x1.1.2 (aa x1.2.2.2.1)) fun _=>(chk (aS x1.1.2 (aa x1.2.2.2.1)) fun _=>(lt (aB (T:=Ka7) x1.2.2.2.1 x1.1.2) fun z3=>(obind (mg (z3,x.1.2)) fun y4=>(bcase y4 (chk (aS x1.1.2 (aa x1.2.2.2.1)) fun _=>(chk (aS x1.1.2 (aa x1.2.2.2.1)) fun _=>(some (af ((aJ .i64 (x1.1.1+1)),x1.2.1,x1.2.2.1,(ch x1.2.2.2.1 x1.1.2 (4,(aB (T:=Ka7) x1.2.2.2.1 x1.1.2).2)),x1.2.2.2.2))))) (some (af (x1.1.1,x1.2)))))))) fun x2=>(some (aO ((x2.1,(aJ .i64 (x1.1.2+1))),x2.2)))) (some (af (x1.1.1,x1.2.1,x1.2.2.1,x1.2.2.2.1))))) ((0,0),x.2.1,x.2.2.1,x.2.2.2,x.1.1))
noncomputable def kD (x:(Int×Int)×Ya20×(List Bool)×List Ya16):Option Yd3:=kU @iter x
noncomputable def gd (x:(Int×Int)×Ya20×(List Bool)×List Ya16):Option Yd3:=kU @dT x
noncomputable def oD (x:Ya0×Ya2×Int×Int×Int×Int):Option (Ya2×Int×Bool):=
 (obind (jP (x.1,x.2.1,x.2.2.1,x.2.2.2.1,x.2.2.2.2.1)) fun y1=>(bcase (!y1) (some ((([]:List (Int×List Int)),0,([]:List Bool),([]:List Ya16)),0,false)) (obind (jE x.2.1) fun y2=>(jn (α:=Int×Int×Int×Ya20×(List Bool)×List Ya16) (bcase (decide ((x.2.2.2.1:Int)=1)) (chk (aS x.2.2.1 (aa y2.2.2.2)) fun _=>(chk (aS x.2.2.1 (aa y2.2.2.2)) fun _=>(some (af (0,y2.1,0,y2.2.1,y2.2.2.1,(ch y2.2.2.2 x.2.2.1 (2,(aB (T:=Ka7) y2.2.2.2 x.2.2.1).2))))))) (bcase (decide ((x.2.2.2.1:Int)=2)) (chk (aS x.2.2.1 (aa y2.2.2.2)) fun _=>(chk (aS x.2.2.1 (aa y2.2.2.2)) fun _=>(some (af (0,y2.1,0,y2.2.1,y2.2.2.1,(ch y2.2.2.2 x.2.2.1 (5,(aB (T:=Ka7) y2.2.2.2 x.2.2.1).2))))))) (jn (α:=Bool×Ya0×Int×Int×Int×Ya20×(List Bool)×List Ya16) (bcase (decide ((x.2.2.2.1:Int)=6)) (some (af ((decide ((x.2.2.2.1:Int)=6)),x.1,y2.1,x.2.2.1,0,y2.2))) (some (af ((decide ((x.2.2.2.1:Int)=10)),x.1,y2.1,x.2.2.1,0,y2.2)))) fun x4=>(bcase x4.1 (chk (aS x.2.2.2.2.1 (aa x4.2.2.2.2.2.1)) fun _=>(chk (aS x.2.2.2.2.1 (aa x4.2.2.2.2.2.1)) fun _=>(some (af (0,x4.2.2.1,x4.2.2.2.2.1,(ch x4.2.2.2.2.2.1 x.2.2.2.2.1 (x4.2.2.2.1,(aB (T:=Ka11) x4.2.2.2.2.2.1 x.2.2.2.2.1).2)),x4.2.2.2.2.2.2))))) (jn (α:=Bool×Ya0×Int×Int×Int×Ya20×(List Bool)×List Ya16) (bcase (decide ((x.2.2.2.1:Int)=7)) (some (af ((decide ((x.2.2.2.1:Int)=7)),x4.2))) (some (af ((decide ((x.2.2.2.1:Int)=11)),x4.2)))) fun x5=>(bcase x5.1 (chk (aS x.2.2.2.2.1 (aa x5.2.2.2.2.2.1)) fun _=>(chk (aS x.2.2.2.2.1 (aa x5.2.2.2.2.2.1)) fun _=>(some (af (0,x5.2.2.1,x5.2.2.2.2.1,(ch x5.2.2.2.2.2.1 x.2.2.2.2.1 ((-1),(aB (T:=Ka11) x5.2.2.2.2.2.1 x.2.2.2.2.1).2)),x5.2.2.2.2.2.2))))) (bcase (decide ((x.2.2.2.1:Int)=8)) (chk (aS x.2.2.2.2.1 (aa x5.2.2.2.2.2.1)) fun _=>(chk (aS x.2.2.2.2.1 (aa x5.2.2.2.2.2.1)) fun _=>(lt ((aB (T:=Ka11) x5.2.2.2.2.2.1 x.2.2.2.2.1).2) fun z6=>none))) (bcase (decide ((x.2.2.2.1:Int)=9)) (chk (aS x.2.2.2.2.1 (aa x5.2.2.2.2.2.1)) fun _=>(chk (aS x.2.2.2.2.1 (aa x5.2.2.2.2.2.1)) fun _=>(lt ((aB (T:=Ka11) x5.2.2.2.2.2.1 x.2.2.2.2.1).2) fun z7=>none))) (bcase (decide ((x.2.2.2.1:Int)=12)) (some (af (0,x5.2.2.2))) (bcase (decide ((x.2.2.2.1:Int)=13)) (some (af (0,(-1),x5.2.2.2.2))) (bcase (decide ((x.2.2.2.1:Int)=14)) (chk (aS x5.2.2.2.1 (aa x5.2.2.2.2.2.2.2)) fun _=>(chk (aS x5.2.2.2.1 (aa x5.2.2.2.2.2.2.2)) fun _=>(some (af (0,x5.2.2.1,x5.2.2.2.2.1,x5.2.2.2.2.2.1,x5.2.2.2.2.2.2.1,(ch x5.2.2.2.2.2.2.2 x5.2.2.2.1 ((aB (T:=Ka7) x5.2.2.2.2.2.2.2 x5.2.2.2.1).1,((aB (T:=Ka7) x5.2.2.2.2.2.2.2 x5.2.2.2.1).2).1,true))))))) (bcase (decide ((x.2.2.2.1:Int)=15)) (chk (aS x5.2.2.2.1 (aa x5.2.2.2.2.2.2.2)) fun _=>(chk (aS x5.2.2.2.1 (aa x5.2.2.2.2.2.2.2)) fun _=>(some (af (0,x5.2.2.1,x5.2.2.2.2.1,x5.2.2.2.2.2.1,x5.2.2.2.2.2.2.1,(ch x5.2.2.2.2.2.2.2 x5.2.2.2.1 ((aB (T:=Ka7) x5.2.2.2.2.2.2.2 x5.2.2.2.1).1,((aB (T:=Ka7) x5.2.2.2.2.2.2.2 x5.2.2.2.1).2).1,false))))))) (bcase (decide ((x.2.2.2.1:Int)=16)) (chk (aS x.2.2.2.2.1 (aa x5.2.1.2.2.1)) fun _=>(lt ((aB (T:=Ka20) x5.2.1.2.2.1 x.2.2.2.2.1).2) fun z8=>(chk (aS z8 (aa x5.2.2.2.2.2.1)) fun _=>(chk (aS z8 (aa x5.2.2.2.2.2.1)) fun _=>(chk (aS x5.2.2.2.1 (aa x5.2.2.2.2.2.2.2)) fun _=>(chk (aS x5.2.2.2.1 (aa x5.2.2.2.2.2.2.2)) fun _=>(chk (aS x5.2.2.2.1 (aa (ch x5.2.2.2.2.2.2.2 x5.2.2.2.1 (3,(aB (T:=Ka7) x5.2.2.2.2.2.2.2 x5.2.2.2.1).2)))) fun _=>(chk (aS x5.2.2.2.1 (aa (ch x5.2.2.2.2.2.2.2 x5.2.2.2.1 (3,(aB (T:=Ka7) x5.2.2.2.2.2.2.2 x5.2.2.2.1).2)))) fun _=>(some (af (0,x5.2.2.1,x5.2.2.2.2.1,(ch x5.2.2.2.2.2.1 z8 ((-1),(aB (T:=Ka11) x5.2.2.2.2.2.1 z8).2)),x5.2.2.2.2.2.2.1,(ch (ch x5.2.2.2.2.2.2.2 x5.2.2.2.1 (3,(aB (T:=Ka7) x5.2.2.2.2.2.2.2 x5.2.2.2.1).2)) x5.2.2.2.1 ((aB (T:=Ka7) (ch x5.2.2.2.2.2.2.2 x5.2.2.2.1 (3,(aB (T:=Ka7) x5.2.2.2.2.2.2.2 x5.2.2.2.1).2)) x5.2.2.2.1).1,x.2.2.2.2.1,((aB (T:=Ka7) (ch x5.2.2.2.2.2.2.2 x5.2.2.2.1 (3,(aB (T:=Ka7) x5.2.2.2.2.2.2.2 x5.2.2.2.1).2)) x5.2.2.2.1).2).2))))))))))))) (bcase (decide ((x.2.2.2.1:Int)=17)) (chk (aS x.2.2.2.2.1 (aa x5.2.1.2.2.1)) fun _=>(lt ((aB (T:=Ka20) x5.2.1.2.2.1 x.2.2.2.2.1).2) fun z9=>(chk (aS z9 (aa x5.2.2.2.2.2.1)) fun _=>(chk (aS z9 (aa x5.2.2.2.2.2.1)) fun _=>(chk (aS x5.2.2.2.1 (aa x5.2.2.2.2.2.2.2)) fun _=>(chk (aS x5.2.2.2.1 (aa x5.2.2.2.2.2.2.2)) fun _=>(chk (aS x5.2.2.2.1 (aa (ch x5.2.2.2.2.2.2.2 x5.2.2.2.1 (2,(aB (T:=Ka7) x5.2.2.2.2.2.2.2 x5.2.2.2.1).2)))) fun _=>(chk (aS x5.2.2.2.1 (aa (ch x5.2.2.2.2.2.2.2 x5.2.2.2.1 (2,(aB (T:=Ka7) x5.2.2.2.2.2.2.2 x5.2.2.2.1).2)))) fun _=>(some (af (0,x5.2.2.1,x5.2.2.2.2.1,(ch x5.2.2.2.2.2.1 z9 (x5.2.2.2.1,(aB (T:=Ka11) x5.2.2.2.2.2.1 z9).2)),x5.2.2.2.2.2.2.1,(ch (ch x5.2.2.2.2.2.2.2 x5.2.2.2.1 (2,(aB (T:=Ka7) x5.2.2.2.2.2.2.2 x5.2.2.2.1).2)) x5.2.2.2.1 ((aB (T:=Ka7) (ch x5.2.2.2.2.2.2.2 x5.2.2.2.1 (2,(aB (T:=Ka7) x5.2.2.2.2.2.2.2 x5.2.2.2.1).2)) x5.2.2.2.1).1,0,((aB (T:=Ka7) (ch x5.2.2.2.2.2.2.2 x5.2.2.2.1 (2,(aB (T:=Ka7) x5.2.2.2.2.2.2.2 x5.2.2.2.1).2)) x5.2.2.2.1).2).2))))))))))))) (bcase (decide ((x.2.2.2.1:Int)=18)) (obind (iG ((x5.2.2.1,x.2.2.2.2),x5.2.2.2.2.2)) fun y10=>(chk (av (aa x5.2.2.2.2.2.2.2) (aa y10.2.2.2)&&(av (aa x5.2.2.2.2.2.2.1) (aa y10.2.2.1)&&(av (aa x5.2.2.2.2.2.1) (aa y10.2.1)&&true))) fun _=>(some (af (y10.1,x5.2.2.1,x5.2.2.2.2.1,y10.2))))) (bcase (decide ((x.2.2.2.1:Int)=19)) (obind (gd ((x5.2.2.1,x.2.2.2.2.1),x5.2.2.2.2.2)) fun y11=>(chk (av (aa x5.2.2.2.2.2.2.2) (aa y11.2.2.2)&&(av (aa x5.2.2.2.2.2.2.1) (aa y11.2.2.1)&&(av (aa x5.2.2.2.2.2.1) (aa y11.2.1)&&true))) fun _=>(some (af (y11.1,x5.2.2.1,x5.2.2.2.2.1,y11.2))))) (bcase (decide ((x.2.2.2.1:Int)=20)) (chk (aS x.2.2.2.2.1 (aa x5.2.2.2.2.2.2.2)) fun _=>(chk (aS x.2.2.2.2.1 (aa x5.2.2.2.2.2.2.2)) fun _=>(some (af (0,x5.2.2.1,x5.2.2.2.2.1,x5.2.2.2.2.2.1,x5.2.2.2.2.2.2.1,(ch x5.2.2.2.2.2.2.2 x.2.2.2.2.1 (1,(aB (T:=Ka7) x5.2.2.2.2.2.2.2 x.2.2.2.2.1).2))))))) (bcase (decide ((x.2.2.2.1:Int)=22)) (chk (aS x.2.2.2.2.1 (aa x5.2.2.2.2.2.2.1)) fun _=>(chk (aS x.2.2.2.2.1 (aa x5.2.2.2.2.2.2.1)) fun _=>(some (af (0,x5.2.2.1,x5.2.2.2.2.1,x5.2.2.2.2.2.1,(ch x5.2.2.2.2.2.2.1 x.2.2.2.2.1 true),x5.2.2.2.2.2.2.2))))) (some (af (0,x5.2.2.1,x5.2.2.2.2))))))))))))))))))))) fun x3=>(some ((x3.2.2.2.1,x3.2.1,x3.2.2.2.2),x3.1,true))))))
noncomputable def lB (x:Ya0×Ya12×Int×Int×Int×Int×Int×(List Int)×List Int):Option (Ya12×Bool):=
 (jn (α:=Bool×Ya0×Ya12×Ya5×Int) (obind (lA (x.1,x.2.1)) fun y2=>(bcase (!y2) (some (af (true,x.1,x.2.1,x.2.2,0))) (bcase (bz x.2.2.1 0) (some (af (true,x.1,x.2.1,x.2.2,0))) (bcase (b9 (ah (aa x.1.2.2.2.2.1)) x.2.2.1) (some (af (true,x.1,x.2.1,x.2.2,0))) (bcase (bz x.2.2.2.1 1) (some (af (true,x.1,x.2.1,x.2.2,0))) (some (af ((bz 23 x.2.2.2.1),x.1,x.2.1,x.2.2,0)))))))) fun x1=>(bcase x1.1 (some (((([]:List (Int×List Int)),0,([]:List Bool),([]:List Ya16)),([]:List Int),([]:List Int),([]:List Int)),false)) (jn (α:=Bool×Ya0×Ya12×Ya5×Int) (obind (jP (x1.2.1,x1.2.2.1.1,x1.2.2.2.1.1,x1.2.2.2.1.2.1,x1.2.2.2.1.2.2.1)) fun y4=>(bcase (!y4) (some (af (true,x1.2))) (obind (jX (x1.2.1,x1.2.2.2.1)) fun y5=>(bcase (!y5) (some (af (true,x1.2))) (obind (dV (x1.2.1,x1.2.2.1,x1.2.2.2.1)) fun y6=>(bcase (!y6) (some (af (true,x1.2))) (obind (fx (x1.2.2.1,x1.2.2.2.1)) fun y7=>(some (af ((!y7),x1.2)))))))))) fun x3=>(bcase x3.1 (some (((([]:List (Int×List Int)),0,([]:List Bool),([]:List Ya16)),([]:List Int),([]:List Int),([]:List Int)),false)) (jn (α:=Int×Ya0×Ya12×Ya5×Int) (bcase (decide ((x3.2.2.2.1.2.1:Int)=18)) (some (af (x3.2.2.2.1.2.2.2.1,x3.2))) (some (af ((-1),x3.2)))) fun x8=>(obind (oD (x8.2.1,x8.2.2.1.1,x8.2.2.2.1.1,x8.2.2.2.1.2.1,x8.2.2.2.1.2.2.1,x8.1)) fun y9=>(bcase (!y9.2.2) (some (((([]:List (Int×List Int)),0,([]:List Bool),([]:List Ya16)),([]:List Int),([]:List Int),([]:List Int)),false)) (obind (sv x8.2.2.1.2.1) fun y10=>(obind (sv x8.2.2.1.2.2.1) fun y11=>(obind (qG x8.2.2.1.2.2.2) fun y12=>(jn (α:=Ya5×Int×Ya2×(List Int)×(List Int)×List Int) (bcase (decide ((x8.2.2.2.1.2.1:Int)=4)) (chk (aS x8.2.2.2.1.2.2.1 (aa y10)) fun _=>(chk (aS x8.2.2.2.1.2.2.1 (aa y10)) fun _=>(some (af (x8.2.2.2.1,x8.2.2.2.2,y9.1,(ch y10 x8.2.2.2.1.2.2.1 x8.2.2.2.1.2.2.2.1),y11,y12))))) (bcase (decide ((x8.2.2.2.1.2.1:Int)=22)) (chk (aS x8.2.2.2.1.2.2.1 (aa y11)) fun _=>(chk (aS x8.2.2.2.1.2.2.1 (aa y11)) fun _=>(some (af (x8.2.2.2.1,x8.2.2.2.2,y9.1,y10,(ch y11 x8.2.2.2.1.2.2.1 x8.2.2.2.1.2.2.2.1),y12))))) (some (af (x8.2.2.2.1,x8.2.2.2.2,y9.1,y10,y11,y12))))) fun x13=>(chk (aS x13.1.1 (aa x13.2.2.2.2.2)) fun _=>(chk (aS x13.1.1 (aa x13.2.2.2.2.2)) fun _=>(lt (aB (T:=Ka0) x13.2.2.2.2.2 x13.1.1) fun z14=>(chk (aS x13.1.1 (aa x13.2.2.2.2.2)) fun _=>(chk (aS x13.1.1 (aa x13.2.2.2.2.2)) fun _=>(some ((x13.2.2.1,x13.2.2.2.1,x13.2.2.2.2.1,(ch x13.2.2.2.2.2 x13.1.1 (aJ .i64 (z14+1)))),true))))))))))))))))))
noncomputable def kR (it:Itr) (x:Ya0×List Ya5):Option (Int×Int):=
 (bcase (bz 400 (ah (aa x.2))) (some (0,2)) (obind (eY x.1) fun y1=>(bcase (!y1) (some (0,1)) (obind (fU x.1) fun y2=>(chk (b9 0 (ah (aa x.1.2.2.2.2.1))&&b9 (ah (aa x.1.2.2.2.2.1)) (ah (aa x.1.2.2.2.2.1))&&aZ (aM (ah (aa x.1.2.2.2.2.1))) 24&&decide (((ah (aa x.1.2.2.2.2.1)):Int)=4)) fun _=>(it (Int×(Ya0×List Ya5)×Ya12×(List Bool)×(List Bool)×(List Bool)×List Bool) _ (fun x3=>(bcase (bz x3.1 (ah (aa x.2))) (chk (aS x3.1 (aa x.2)) fun _=>(lt (aB (T:=Ka5) x.2 x3.1) fun z4=>(obind (lB (x3.2.1.1,x3.2.2.1,z4)) fun y5=>(jn (α:=Bool×(Ya0×List Ya5)×Ya12×Ya5×Ya12×(List Bool)×(List Bool)×(List Bool)×List Bool) (bcase (decide ((z4.1:Int)=0)) (bcase (!y5.2) (some (af (true,x3.2.1,x3.2.2.1,(0,z4.2),y5.1,x3.2.2.2))) (obind (c6 (x3.2.2.2.1,0,z4.2)) fun y7=>(some (af ((!y7),x3.2.1,x3.2.2.1,(0,z4.2),y5.1,x3.2.2.2))))) (bcase (decide ((z4.1:Int)=1)) (bcase (!y5.2) (some (af (true,x3.2.1,x3.2.2.1,(1,z4.2),y5.1,x3.2.2.2))) (obind (c6 (x3.2.2.2.2.1,1,z4.2)) fun y8=>(some (af ((!y8),x3.2.1,x3.2.2.1,(1,z4.2),y5.1,x3.2.2.2))))) (bcase (decide ((z4.1:Int)=2)) (bcase (!y5.2) (some (af (true,x3.2.1,x3.2.2.1,(2,z4.2),y5.1,x3.2.2.2))) (obind (c6 (x3.2.2.2.2.2.1,2,z4.2)) fun y9=>(some (af ((!y9),x3.2.1,x3.2.2.1,(2,z4.2),y5.1,x3.2.2.2))))) (bcase (decide ((z4.1:Int)=3)) (bcase (!y5.2) (some (af (true,x3.2.1,x3.2.2.1,(3,z4.2),y5.1,x3.2.2.2))) (obind (c6 (x3.2.2.2.2.2.2,3,z4.2)) fun y10=>(some (af ((!y10),x3.2.1,x3.2.2.1,(3,z4.2),y5.1,x3.2.2.2))))) none)))) fun x6=>(bcase x6.1 (some (af (x3.1,12))) (jn (α:=(Ya0×List Ya5)×Ya12×Ya12×(List Bool)×(List Bool)×(List Bool)×List Bool) (bcase (decide ((x6.2.2.2.1.1:Int)=0)) (bcase (decide ((x6.2.2.2.1.2.1:Int)=3)) (chk (aZ (aa x6.2.2.2.2.2.1+aa ([true])) 1) fun _=>(some (af (x6.2.1,x6.2.2.1,x6.2.2.2.2.1,(x6.2.2.2.2.2.1++([true])),x6.2.2.2.2.2.2)))) (chk (aZ (aa x6.2.2.2.2.2.1+aa ([(decide ((x6.2.2.2.1.2.1:Int)=23))])) 1) fun _=>(some (af (x6.2.1,x6.2.2.1,x6.2.2.2.2.1,(x6.2.2.2.2.2.1++([(decide ((x6.2.2.2.1.2.1:Int)=23))])),x6.2.2.2.2.2.2))))) (bcase (decide ((x6.2.2.2.1.1:Int)=1)) (bcase (decide ((x6.2.2.2.1.2.1:Int)=3)) (chk (aZ (aa x6.2.2.2.2.2.2.1+aa ([true])) 1) fun _=>(some (af (x6.2.1,x6.2.2.1,x6.2.2.2.2.1,x6.2.2.2.2.2.1,(x6.2.2.2.2.2.2.1++([true])),x6.2.2.2.2.2.2.2)))) (chk (aZ (aa x6.2.2.2.2.2.2.1+aa ([(decide ((x6.2.2.2.1.2.1:Int)=23))])) 1) fun _=>(some (af (x6.2.1,x6.2.2.1,x6.2.2.2.2.1,x6.2.2.2.2.2.1,(x6.2.2.2.2.2.2.1++([(decide ((x6.2.2.2.1.2.1:Int)=23))])),x6.2.2.2.2.2.2.2))))) (bcase (decide ((x6.2.2.2.1.1:Int)=2)) (bcase (decide ((x6.2.2.2.1.2.1:Int)=3)) (chk (aZ (aa x6.2.2.2.2.2.2.2.1+aa ([true])) 1) fun _=>(some (af (x6.2.1,x6.2.2.1,x6.2.2.2.2.1,x6.2.2.2.2.2.1,x6.2.2.2.2.2.2.1,(x6.2.2.2.2.2.2.2.1++([true])),x6.2.2.2.2.2.2.2.2)))) (chk (aZ (aa x6.2.2.2.2.2.2.2.1+aa ([(decide ((x6.2.2.2.1.2.1:Int)=23))])) 1) fun _=>(some (af (x6.2.1,x6.2.2.1,x6.2.2.2.2.1,x6.2.2.2.2.2.1,x6.2.2.2.2.2.2.1,(x6.2.2.2.2.2.2.2.1++([(decide ((x6.2.2.2.1.2.1:Int)=23))])),x6.2.2.2.2.2.2.2.2))))) (bcase (decide ((x6.2.2.2.1.1:Int)=3)) (bcase (decide ((x6.2.2.2.1.2.1:Int)=3)) (chk (aZ (aa x6.2.2.2.2.2.2.2.2+aa ([true])) 1) fun _=>(some (af (x6.2.1,x6.2.2.1,x6.2.2.2.2.1,x6.2.2.2.2.2.1,x6.2.2.2.2.2.2.1,x6.2.2.2.2.2.2.2.1,(x6.2.2.2.2.2.2.2.2++([true])))))) (chk (aZ (aa x6.2.2.2.2.2.2.2.2+aa ([(decide ((x6.2.2.2.1.2.1:Int)=23))])) 1) fun _=>(some (af (x6.2.1,x6.2.2.1,x6.2.2.2.2.1,x6.2.2.2.2.2.1,x6.2.2.2.2.2.2.1,x6.2.2.2.2.2.2.2.1,(x6.2.2.2.2.2.2.2.2++([(decide ((x6.2.2.2.1.2.1:Int)=23))]))))))) none)))) fun x11=>(some (aO ((aJ .i64 (x3.1+1)),x11.1,x11.2.2))))))))) (some (af (0,0))))) (0,x,y2,([]:List Bool),([]:List Bool),([]:List Bool),([]:List Bool))))))))
noncomputable def kC (x:Ya0×List Ya5):Option (Int×Int):=kR @iter x
noncomputable def fV (x:Ya0×List Ya5):Option (Int×Int):=kR @dT x
noncomputable def rD (it:Itr) (x:Ya0×List Ya5):Option ((List (List Int))×Int):=
 (obind (fV x) fun y1=>(bcase (!decide ((y1.2:Int)=0)) (some (([]:List (List Int)),12)) (obind (ja x.1) fun y2=>(chk (b9 0 (ah (aa x.2))&&b9 (ah (aa x.2)) (ah (aa x.2))&&aZ (aM (ah (aa x.2))) 24) fun _=>(it (Int×(Ya0×List Ya5)×Yd0×List (List Int)) _ (fun x3=>(bcase (bz x3.1 (ah (aa x.2))) (chk (aS x3.1 (aa x.2)) fun _=>(lt (aB (T:=Ka5) x.2 x3.1) fun z4=>(obind (mE (x3.2.1.1,x3.2.2.1,z4)) fun y5=>(chk (aS x3.1 (aa x3.2.2.2)) fun _=>(chk (aS x3.1 (aa x3.2.2.2)) fun _=>(some (aO ((aJ .i64 (x3.1+1)),x3.2.1,y5.1,(ch x3.2.2.2 x3.1 y5.2))))))))) (some (af (x3.2.2.2,0))))) (0,x,y2,(aF (aM (ah (aa x.2))) ([]:List Int))))))))
noncomputable def ru (x:Ya0×List Ya5):Option ((List (List Int))×Int):=rD @iter x
noncomputable def nK (x:Ya0×List Ya5):Option ((List (List Int))×Int):=rD @dT x
noncomputable def tS (it:Itr) (x:Ya0×List Ya5):Option (Yd7×Int):=
 (obind (nK x) fun y1=>(bcase (!decide ((y1.2:Int)=0)) (some (([]:List (Int×Int)),y1.2)) (obind (nH x.2) fun y2=>(it (Int×(Ya0×List Ya5)×List (Int×Int)) _ (fun x3=>(bcase (bz x3.1 (ah (aa x.2))) (it (Int×(Ya0×List Ya5)×List (Int×Int)) _ (fun x4=>(bcase (bz x4.1 x3.1) (jn (α:=(Ya0×List Ya5)×List (Int×Int)) (jn (α:=Bool×(Ya0×List Ya5)×List (Int×Int)) (obind (pA (x4.2.1,x4.1,x3.1)) fun y7=>(bcase y7 (chk (aS x3.1 (aa y1.1)) fun _=>(lt (aB (T:=(.sl Ka0)) y1.1 x3.1) fun z8=>(chk (aS x4.1 (aa y2)) fun _=>(lt (aB (T:=Ka17) y2 x4.1) fun z9=>(obind (oE (z8,z9)) fun y10=>(some (af ((!y10),x4.2)))))))) (some (af (false,x4.2))))) fun x6=>(bcase x6.1 (chk (aZ (aa x6.2.2+aa ([(x4.1,x3.1)])) 16) fun _=>(some (af (x6.2.1,(x6.2.2++([(x4.1,x3.1)])))))) (some (af x6.2)))) fun x5=>(some (aO ((aJ .i64 (x4.1+1)),x5)))) (some (af (aO ((aJ .i64 (x3.1+1)),x4.2)))))) (0,x3.2)) (some (af (x3.2.2,0))))) (0,x,([]:List (Int×Int)))))))
noncomputable def tH (x:Ya0×List Ya5):Option (Yd7×Int):=tS @iter x
noncomputable def na (x:Ya0×List Ya5):Option (Yd7×Int):=tS @dT x
noncomputable def yA (it:Itr) (x:Unit):Option Ya0:=
 (it Yd4 _ (fun x1=>(bcase (bz x1.1 (ah (aa ([[109,97,105,110],[116,49],[116,50],[116,51]])))) (it Yd4 _ (fun x2=>(bcase (bz x2.1 6) (chk (aZ (aa x2.2.2.2.2.2.2+aa ([(x1.1,x2.1,(aJ .i64 ((aJ .i64 ((aJ .i64 (10*x1.1))+x2.1))+1)))])) 24) fun _=>(some (aO ((aJ .i64 (x2.1+1)),x2.2.1,x2.2.2.1,x2.2.2.2.1,x2.2.2.2.2.1,x2.2.2.2.2.2.1,(x2.2.2.2.2.2.2++([(x1.1,x2.1,(aJ .i64 ((aJ .i64 ((aJ .i64 (10*x1.1))+x2.1))+1)))])))))) (some (af (aO ((aJ .i64 (x1.1+1)),x2.2)))))) (0,x1.2)) (some (af x1.2)))) (0,[([120],0,0,false,0),([121],0,0,false,1),([118],0,0,true,0),([113],0,2,false,0),([113],1,2,false,0)],[([109],false),([110],false),([114],true)],[([99],0)],[[102]],[[109,97,105,110],[116,49],[116,50],[116,51]],([]:List (Int×Int×Int))))
noncomputable def yk (x:Unit):Option Ya0:=yA @iter x
noncomputable def su (x:Unit):Option Ya0:=yA @dT x
noncomputable def pz (x:Bool):Option (Ya0×List Ya5):=
 (obind (su ()) fun y1=>(jn (α:=Ya0×List Ya5) (bcase x (chk (aS 0 (aa ([(0,1,(-1),0,(-1),([]:List Int),([]:List Int)),(0,20,1,0,0,([]:List Int),([]:List Int)),(1,1,(-1),0,(-1),([]:List Int),([]:List Int)),(0,6,0,0,0,([]:List Int),([]:List Int)),(0,4,0,1,0,([]:List Int),([]:List Int)),(0,7,0,0,0,([]:List Int),([]:List Int)),(1,6,0,0,6,([]:List Int),([]:List Int)),(1,4,0,2,6,([]:List Int),([]:List Int))]))) fun _=>(chk (aS 0 (aa ([(0,1,(-1),0,(-1),([]:List Int),([]:List Int)),(0,20,1,0,0,([]:List Int),([]:List Int)),(1,1,(-1),0,(-1),([]:List Int),([]:List Int)),(0,6,0,0,0,([]:List Int),([]:List Int)),(0,4,0,1,0,([]:List Int),([]:List Int)),(0,7,0,0,0,([]:List Int),([]:List Int)),(1,6,0,0,6,([]:List Int),([]:List Int)),(1,4,0,2,6,([]:List Int),([]:List Int))]))) fun _=>(lt (aB (T:=Ka5) ([(0,1,(-1),0,(-1),([]:List Int),([]:List Int)),(0,20,1,0,0,([]:List Int),([]:List Int)),(1,1,(-1),0,(-1),([]:List Int),([]:List Int)),(0,6,0,0,0,([]:List Int),([]:List Int)),(0,4,0,1,0,([]:List Int),([]:List Int)),(0,7,0,0,0,([]:List Int),([]:List Int)),(1,6,0,0,6,([]:List Int),([]:List Int)),(1,4,0,2,6,([]:List Int),([]:List Int))]) 0) fun z3=>(chk (aS 1 (aa ([(0,1,(-1),0,(-1),([]:List Int),([]:List Int)),(0,20,1,0,0,([]:List Int),([]:List Int)),(1,1,(-1),0,(-1),([]:List Int),([]:List Int)),(0,6,0,0,0,([]:List Int),([]:List Int)),(0,4,0,1,0,([]:List Int),([]:List Int)),(0,7,0,0,0,([]:List Int),([]:List Int)),(1,6,0,0,6,([]:List Int),([]:List Int)),(1,4,0,2,6,([]:List Int),([]:List Int))]))) fun _=>(chk (aS 1 (aa ([(0,1,(-1),0,(-1),([]:List Int),([]:List Int)),(0,20,1,0,0,([]:List Int),([]:List Int)),(1,1,(-1),0,(-1),([]:List Int),([]:List Int)),(0,6,0,0,0,([]:List Int),([]:List Int)),(0,4,0,1,0,([]:List Int),([]:List Int)),(0,7,0,0,0,([]:List Int),([]:List Int)),(1,6,0,0,6,([]:List Int),([]:List Int)),(1,4,0,2,6,([]:List Int),([]:List Int))]))) fun _=>(lt (aB (T:=Ka5) ([(0,1,(-1),0,(-1),([]:List Int),([]:List Int)),(0,20,1,0,0,([]:List Int),([]:List Int)),(1,1,(-1),0,(-1),([]:List Int),([]:List Int)),(0,6,0,0,0,([]:List Int),([]:List Int)),(0,4,0,1,0,([]:List Int),([]:List Int)),(0,7,0,0,0,([]:List Int),([]:List Int)),(1,6,0,0,6,([]:List Int),([]:List Int)),(1,4,0,2,6,([]:List Int),([]:List Int))]) 1) fun z4=>(chk (aS 2 (aa ([(0,1,(-1),0,(-1),([]:List Int),([]:List Int)),(0,20,1,0,0,([]:List Int),([]:List Int)),(1,1,(-1),0,(-1),([]:List Int),([]:List Int)),(0,6,0,0,0,([]:List Int),([]:List Int)),(0,4,0,1,0,([]:List Int),([]:List Int)),(0,7,0,0,0,([]:List Int),([]:List Int)),(1,6,0,0,6,([]:List Int),([]:List Int)),(1,4,0,2,6,([]:List Int),([]:List Int))]))) fun _=>(chk (aS 2 (aa ([(0,1,(-1),0,(-1),([]:List Int),([]:List Int)),(0,20,1,0,0,([]:List Int),([]:List Int)),(1,1,(-1),0,(-1),([]:List Int),([]:List Int)),(0,6,0,0,0,([]:List Int),([]:List Int)),(0,4,0,1,0,([]:List Int),([]:List Int)),(0,7,0,0,0,([]:List Int),([]:List Int)),(1,6,0,0,6,([]:List Int),([]:List Int)),(1,4,0,2,6,([]:List Int),([]:List Int))]))) fun _=>(lt (aB (T:=Ka5) ([(0,1,(-1),0,(-1),([]:List Int),([]:List Int)),(0,20,1,0,0,([]:List Int),([]:List Int)),(1,1,(-1),0,(-1),([]:List Int),([]:List Int)),(0,6,0,0,0,([]:List Int),([]:List Int)),(0,4,0,1,0,([]:List Int),([]:List Int)),(0,7,0,0,0,([]:List Int),([]:List Int)),(1,6,0,0,6,([]:List Int),([]:List Int)),(1,4,0,2,6,([]:List Int),([]:List Int))]) 2) fun z5=>(chk (aS 6 (aa ([(0,1,(-1),0,(-1),([]:List Int),([]:List Int)),(0,20,1,0,0,([]:List Int),([]:List Int)),(1,1,(-1),0,(-1),([]:List Int),([]:List Int)),(0,6,0,0,0,([]:List Int),([]:List Int)),(0,4,0,1,0,([]:List Int),([]:List Int)),(0,7,0,0,0,([]:List Int),([]:List Int)),(1,6,0,0,6,([]:List Int),([]:List Int)),(1,4,0,2,6,([]:List Int),([]:List Int))]))) fun _=>(chk (aS 6 (aa ([(0,1,(-1),0,(-1),([]:List Int),([]:List Int)),(0,20,1,0,0,([]:List Int),([]:List Int)),(1,1,(-1),0,(-1),([]:List Int),([]:List Int)),(0,6,0,0,0,([]:List Int),([]:List Int)),(0,4,0,1,0,([]:List Int),([]:List Int)),(0,7,0,0,0,([]:List Int),([]:List Int)),(1,6,0,0,6,([]:List Int),([]:List Int)),(1,4,0,2,6,([]:List Int),([]:List Int))]))) fun _=>(lt (aB (T:=Ka5) ([(0,1,(-1),0,(-1),([]:List Int),([]:List Int)),(0,20,1,0,0,([]:List Int),([]:List Int)),(1,1,(-1),0,(-1),([]:List Int),([]:List Int)),(0,6,0,0,0,([]:List Int),([]:List Int)),(0,4,0,1,0,([]:List Int),([]:List Int)),(0,7,0,0,0,([]:List Int),([]:List Int)),(1,6,0,0,6,([]:List Int),([]:List Int)),(1,4,0,2,6,([]:List Int),([]:List Int))]) 6) fun z6=>(chk (aS 4 (aa ([(0,1,(-1),0,(-1),([]:List Int),([]:List Int)),(0,20,1,0,0,([]:List Int),([]:List Int)),(1,1,(-1),0,(-1),([]:List Int),([]:List Int)),(0,6,0,0,0,([]:List Int),([]:List Int)),(0,4,0,1,0,([]:List Int),([]:List Int)),(0,7,0,0,0,([]:List Int),([]:List Int)),(1,6,0,0,6,([]:List Int),([]:List Int)),(1,4,0,2,6,([]:List Int),([]:List Int))]))) fun _=>(chk (aS 4 (aa ([(0,1,(-1),0,(-1),([]:List Int),([]:List Int)),(0,20,1,0,0,([]:List Int),([]:List Int)),(1,1,(-1),0,(-1),([]:List Int),([]:List Int)),(0,6,0,0,0,([]:List Int),([]:List Int)),(0,4,0,1,0,([]:List Int),([]:List Int)),(0,7,0,0,0,([]:List Int),([]:List Int)),(1,6,0,0,6,([]:List Int),([]:List Int)),(1,4,0,2,6,([]:List Int),([]:List Int))]))) fun _=>(lt (aB (T:=Ka5) ([(0,1,(-1),0,(-1),([]:List Int),([]:List Int)),(0,20,1,0,0,([]:List Int),([]:List Int)),(1,1,(-1),0,(-1),([]:List Int),([]:List Int)),(0,6,0,0,0,([]:List Int),([]:List Int)),(0,4,0,1,0,([]:List Int),([]:List Int)),(0,7,0,0,0,([]:List Int),([]:List Int)),(1,6,0,0,6,([]:List Int),([]:List Int)),(1,4,0,2,6,([]:List Int),([]:List Int))]) 4) fun z7=>(chk (aS 7 (aa ([(0,1,(-1),0,(-1),([]:List Int),([]:List Int)),(0,20,1,0,0,([]:List Int),([]:List Int)),(1,1,(-1),0,(-1),([]:List Int),([]:List Int)),(0,6,0,0,0,([]:List Int),([]:List Int)),(0,4,0,1,0,([]:List Int),([]:List Int)),(0,7,0,0,0,([]:List Int),([]:List Int)),(1,6,0,0,6,([]:List Int),([]:List Int)),(1,4,0,2,6,([]:List Int),([]:List Int))]))) fun _=>(chk (aS 7 (aa ([(0,1,(-1),0,(-1),([]:List Int),([]:List Int)),(0,20,1,0,0,([]:List Int),([]:List Int)),(1,1,(-1),0,(-1),([]:List Int),([]:List Int)),(0,6,0,0,0,([]:List Int),([]:List Int)),(0,4,0,1,0,([]:List Int),([]:List Int)),(0,7,0,0,0,([]:List Int),([]:List Int)),(1,6,0,0,6,([]:List Int),([]:List Int)),(1,4,0,2,6,([]:List Int),([]:List Int))]))) fun _=>(lt (aB (T:=Ka5) ([(0,1,(-1),0,(-1),([]:List Int),([]:List Int)),(0,20,1,0,0,([]:List Int),([]:List Int)),(1,1,(-1),0,(-1),([]:List Int),([]:List Int)),(0,6,0,0,0,([]:List Int),([]:List Int)),(0,4,0,1,0,([]:List Int),([]:List Int)),(0,7,0,0,0,([]:List Int),([]:List Int)),(1,6,0,0,6,([]:List Int),([]:List Int)),(1,4,0,2,6,([]:List Int),([]:List Int))]) 7) fun z8=>(some (af (y1,[z3,z4,z5,z6,z7,z8]))))))))))))))))))))) (some (af (y1,[(0,1,(-1),0,(-1),([]:List Int),([]:List Int)),(0,20,1,0,0,([]:List Int),([]:List Int)),(1,1,(-1),0,(-1),([]:List Int),([]:List Int)),(0,6,0,0,0,([]:List Int),([]:List Int)),(0,4,0,1,0,([]:List Int),([]:List Int)),(0,7,0,0,0,([]:List Int),([]:List Int)),(1,6,0,0,6,([]:List Int),([]:List Int)),(1,4,0,2,6,([]:List Int),([]:List Int))])))) fun x2=>(some x2)))
noncomputable def kO (x:Unit):Option (Bool):=
 (obind (pz false) fun y1=>(obind (na y1) fun y2=>(obind (pz true) fun y3=>(obind (na y3) fun y4=>(jn (α:=Bool) (bcase (decide ((y2.2:Int)=0)) (bcase (decide ((y4.2:Int)=0)) (bcase (decide (((ah (aa y2.1)):Int)=0)) (bcase (decide (((ah (aa y4.1)):Int)=1)) (chk (aS 0 (aa y4.1)) fun _=>(lt (aB (T:=Ka17) y4.1 0) fun z6=>(some (af (eqT (.pr Ka0 (.pr Ka0 .un)) (z6.1,z6.2,()) (4,5,()) !=false))))) (some (af false))) (some (af false))) (some (af false))) (some (af false))) fun x5=>(some x5))))))
noncomputable def iH (x:(List Int)×(List Int)×List Int):Option (Bool):=
 (obind (gD (x,40)) fun y1=>(obind (ja y1.1) fun y2=>(obind (lE y1.1) fun y3=>(iter (σ:=Int×(Ya0×List Ya5)×Yd0×(List (List Int))×(List (List Int))×(List (List Int))×(List (List Int))×(List (List Int))×(List (List Int))×(List Int)×(List (List Int))×List Int) (fun x4=>(bcase (bz x4.1 (ah (aa y1.2))) (chk (aS x4.1 (aa y1.2)) fun _=>(lt (aB (T:=Ka5) y1.2 x4.1) fun z5=>(obind (mE (x4.2.1.1,x4.2.2.1,z5)) fun y6=>(obind (lD (x4.2.1.1,x4.2.2.2,z5)) fun y7=>(jn (α:=Bool×(Ya0×List Ya5)×Yd0×Yd0×Yd0×(List Int)×(List (List Int))×(List (List Int))×(List (List Int))×(List (List Int))×(List (List Int))×(List (List Int))×(List Int)×(List (List Int))×List Int) (obind (lG (y6.2,y7.2)) fun y9=>(bcase (!y9) (some (af (true,x4.2.1,x4.2.2.1,x4.2.2.2,y6.1,y6.2,y7.1))) (obind (gJ (y6.1,y7.1)) fun y10=>(bcase (!y10) (some (af (true,x4.2.1,x4.2.2.1,x4.2.2.2,y6.1,y6.2,y7.1))) (obind (gJ x4.2.2) fun y11=>(some (af ((!y11),x4.2.1,x4.2.2.1,x4.2.2.2,y6.1,y6.2,y7.1)))))))) fun x8=>(bcase x8.1 (some (af false)) (iter (σ:=Int×(Ya0×List Ya5)×Yd0×Yd0×Yd0×(List Int)×(List (List Int))×(List (List Int))×(List (List Int))×(List (List Int))×(List (List Int))×(List (List Int))×(List Int)×(List (List Int))×List Int) (fun x12=>(bcase (bz x12.1 (ah (aa x8.2.2.2.2.2.1))) (chk (aS x12.1 (aa x12.2.2.2.2.2.1)) fun _=>(chk (aS x12.1 (aa x12.2.2.2.2.2.1)) fun _=>(some (aO ((aJ .i64 (x12.1+1)),x12.2.1,x12.2.2.1,x12.2.2.2.1,x12.2.2.2.2.1,(ch x12.2.2.2.2.2.1 x12.1 (-9)),x12.2.2.2.2.2.2))))) (obind (jn (α:=Bool×(Ya0×List Ya5)×Yd0×Yd0×Yd0×(List (List Int))×(List (List Int))×(List (List Int))×(List (List Int))×(List (List Int))×(List (List Int))×(List Int)×(List (List Int))×List Int) (obind (gJ (x12.2.2.2.2.1,x12.2.2.2.2.2.2)) fun y14=>(bcase (!y14) (some (af (true,x12.2.1,x12.2.2.1,x12.2.2.2.1,x12.2.2.2.2.1,x12.2.2.2.2.2.2))) (obind (gJ (x12.2.2.1,x12.2.2.2.1)) fun y15=>(some (af ((!y15),x12.2.1,x12.2.2.1,x12.2.2.2.1,x12.2.2.2.2.1,x12.2.2.2.2.2.2)))))) fun x13=>(bcase x13.1 (some (af false)) (some (aO ((aJ .i64 (x4.1+1)),x13.2.1,x13.2.2.2.2))))) fun r=>some (af r)))) (0,x8.2)))))))) (obind (obind (kO ()) fun y16=>(some y16)) fun r=>some (af r)))) (0,y1,y2,y3)))))
def big:Nat:=1000000000
def jl (a b:List Int):List Int:=(fE (max a.length b.length)).map fun i=>eI (a.getD i 0) (b.getD i 0)
theorem qJ (a b:List Int):(jl a b).length=max a.length b.length:=by simp[jl]
theorem yq (a b:List Int) (i:Nat):(jl a b).getD i 0=eI (a.getD i 0) (b.getD i 0):=by
 unfold jl;simp only[aN,aY];by_cases h:i<max a.length b.length
 ·rw[List.getElem?_range h];rfl
 ·rw[bU (by simp only[qy];omega),bU (l:=a) (by omega),bU (l:=b) (by omega)];rfl
theorem wT (c:List Int) (i:Nat):eQ (c,(i:Int))=some (c.getD i 0):=by
 unfold eQ;simp only[];rw[jI (by omega)];simp only[bt,cX];by_cases h:i<c.length
 ·rw[kr (by simp;omega)];simp only[bt];rw[bk (bi h),mG];rfl
 ·rw[fB (by simp;omega)];simp only[bm];rw[aN,bU (by omega)];rfl
theorem r22At:pw=eQ:=rfl
theorem Fw (a b:List Int) (ha:a.length≤big) (hb:b.length≤big):gN (a,b)=some (jl a b):=by
 unfold big at ha hb;unfold gN oh;have hm:max a.length b.length≤1000000000:=by omega
 rw[bk (by simp only[o7];rw[fB (by omega),fB (by omega),me (by simp;omega) (by simp;omega)];rfl)];simp only[o7,qz,eE];have:=kP (σ:=Int×List Int) (R:=List Int) (max a.length b.length) (by omega) (fun i=>((i:Int),(fE (max a.length b.length)).map fun k=>if k<i then eI (a.getD k 0) (b.getD k 0) else 0)) (f:=(fun x1=>(bcase (bz x1.1 (ah (max a.length b.length))) (obind (eQ (a,x1.1)) fun y2=>(obind (eQ (b,x1.1)) fun y3=>(chk (aS x1.1 (aa x1.2)) fun _=>(chk (aS x1.1 (aa x1.2)) fun _=>(some (aO ((aJ .i64 (x1.1+1)),(ch x1.2 x1.1 (eI y2 y3))))))))) (some (af x1.2))))) (r:=jl a b) ?_ ?_
 ·refine Eq.trans ?_ this;congr 1;simp only[Int.natCast_zero,uh,if_false,ay,true_and];apply cT<;>simp
 ·intro i hi;simp only[];rw[gf (by simp;omega),bm,wT,wT,bd,bd,bk (bi (by simpa using hi)),bk (bi (by simpa using hi)),gy hi (by omega),cw];congr 3;apply cT
  ·simp
  ·intro k h1 h2;simp only[cK,qy] at h2;simp only[rM,nZ,mb];by_cases e:i=k
   ·subst e;simp
   ·by_cases h:k<i
    ·rw[if_neg e,if_pos h,if_pos (by omega)]
    ·rw[if_neg e,if_neg h,if_neg (by omega)]
 ·simp only[];rw[jI (by simp),bt];congr 2;unfold jl;apply List.map_congr_left;intro k hk;rw[if_pos (k9.1 hk)]
theorem Da (a b:List Int) (ha:a.length≤big) (hb:b.length≤big):mT (a,b)=some (jl a b,b):=by
 unfold big at ha hb;unfold mT vg;have hm:max a.length b.length≤1000000000:=by omega
 rw[bk (by simp only[o7];rw[fB (by omega),fB (by omega),me (by simp;omega) (by simp;omega)];rfl)];simp only[o7,qz,eE];have:=kP (σ:=Int×List Int×List Int) (R:=List Int×List Int) (max a.length b.length) (by omega) (fun i=>((i:Int),b,(fE (max a.length b.length)).map fun k=>if k<i then eI (a.getD k 0) (b.getD k 0) else 0)) (f:=(fun x1=>(bcase (bz x1.1 (ah (max a.length b.length))) (obind (eQ (a,x1.1)) fun y2=>(obind (eQ (x1.2.1,x1.1)) fun y3=>(chk (aS x1.1 (aa x1.2.2)) fun _=>(chk (aS x1.1 (aa x1.2.2)) fun _=>(some (aO ((aJ .i64 (x1.1+1)),x1.2.1,(ch x1.2.2 x1.1 (eI y2 y3))))))))) (some (af (x1.2.2,x1.2.1)))))) (r:=(jl a b,b)) ?_ ?_
 ·refine Eq.trans ?_ this;congr 1;simp only[Int.natCast_zero,uh,if_false,ay,true_and];apply cT<;>simp
 ·intro i hi;simp only[];rw[gf (by simp;omega),bm,wT,wT,bd,bd,bk (bi (by simpa using hi)),bk (bi (by simpa using hi)),gy hi (by omega),cw];congr 4;apply cT
  ·simp
  ·intro k h1 h2;simp only[cK,qy] at h2;simp only[rM,nZ,mb];by_cases e:i=k
   ·subst e;simp
   ·by_cases h:k<i
    ·rw[if_neg e,if_pos h,if_pos (by omega)]
    ·rw[if_neg e,if_neg h,if_neg (by omega)]
 ·simp only[];rw[jI (by simp),bt];congr 3;unfold jl;apply List.map_congr_left;intro k hk;rw[if_pos (k9.1 hk)]
theorem Ap (a b:List Int) (ha:a.length≤big) (hb:b.length≤big):rz (a,b)=some (jl a b):=by
 unfold rz;rw[Da a b ha hb,bd];exact zf rfl _
def tk (c:List Int) (t:Nat):List Int:=(c++aF (t+1-c.length) 0).set t (c.getD t 0+1)
theorem Cm (c:List Int) (t:Nat):(tk c t).length=max c.length (t+1):=by simp[tk];omega
theorem F4 (c:List Int) (n i:Nat):(c++aF n 0).getD i 0=c.getD i 0:=by
 simp only[aN];by_cases h:i<c.length
 ·rw[bV h]
 ·rw[co (by omega),bU (l:=c) (by omega),List.getElem?_replicate];split<;>rfl
theorem F2 (c:List Int) (t i:Nat):(tk c t).getD i 0=if i=t then c.getD t 0+1 else c.getD i 0:=by
 unfold tk;rw[aN,xQ];by_cases h:t=i
 ·subst h;rw[if_pos rfl,if_pos (by simp;omega),if_pos rfl];rfl
 ·rw[if_neg h,if_neg (fun e=>h e.symm),←aN,F4]
theorem Ek (c:List Int) (n:Nat) (h:c.length≤n):Aa (aF n 0) c=c++aF (n-c.length) 0:=by
 unfold Aa;rw[eE,dF h,List.drop_replicate]
theorem Fn (c:List Int) (t:Nat) (hc:c.length≤big) (ht:t<4) (h0:0≤c.getD t 0) (h1:c.getD t 0<9223372036854775807):mF (c,(t:Int))=some (tk c t):=by
 unfold big at hc;unfold mF;simp only[];rw[fB (by omega),bm,cX,gf (by omega)];simp only[bm,cX];have e1:eI (ah c.length) (aJ .i64 ((t:Int)+1))=((max c.length (t+1):Nat):Int):=by
  rw[gy ht (by omega)];exact o7 _ _
 rw[e1];rw[bk (by rw[fB (by omega),fB (by omega),me (by simp;omega) (by simp;omega)];rfl)];rw[qz];have e2:Aa (aF (max c.length (t+1)) (0:Int)) c=c++aF (t+1-c.length) 0:=by
  rw[Ek c _ (by omega)];rw[show max c.length (t+1)-c.length=t+1-c.length from by omega]
 rw[e2];have hl:t<(c++aF (t+1-c.length) (0:Int)).length:=by simp;omega
 rw[bk (bi hl),bk (bi hl),cX];have e3:aB (T:=.int .i64) (c++aF (t+1-c.length) (0:Int)) (t:Int)=c.getD t 0:=by
  rw[mG];exact F4 c _ t
 simp only[];rw[e3,gf h1,bm,bk (bi hl),bk (bi hl),bk (bi hl),bk (bi hl),cX,Dq (by omega) (by omega),cw];rfl
theorem sY (c:List Int) (hc:c.length≤big):jZ c=some c:=by
 unfold big at hc;unfold jZ;rw[bk (me (by omega) (by omega))]
theorem Ar (c:List Int) (hc:c.length≤big):iS c=some c:=sY c hc
theorem AC (c:List Int) (hc:c.length≤big):rA c=some c:=by
 unfold big at hc;unfold rA;rw[bk (me (by omega) (by omega))]
theorem xN (c:List Int) (hc:c.length≤big):oc c=some c:=by
 unfold big at hc;unfold oc oY;rw[bk (me (by simp;omega) (by simp;omega)),bd];exact zf rfl _
theorem xO (c:List Int) (hc:c.length≤big):qG c=some c:=AC c hc
theorem AX (c:List Int) (t:Nat) (hc:c.length≤big) (ht:t<4) (h0:0≤c.getD t 0) (h1:c.getD t 0<9223372036854775807):kn (c,(t:Int))=some (tk c t):=by
 unfold big at hc;unfold kn qK;simp only[];rw[sY c (by unfold big;omega),bd,jI (by omega),bt,cX,kr (by omega)];simp only[bt];have:=kP (σ:=List Int) (R:=List Int) (t+1-c.length) (by omega) (fun i=>c++aF i 0) (f:=(fun x3=>(bcase (b9 (ah (aa x3)) (t:Int)) (chk (aZ (aa x3+aa ([(0:Int)])) 8) fun _=>(some (aO (x3++([0]))))) (obind (jn (α:=List Int) (chk (aS (t:Int) (aa x3)) fun _=>(chk (aS (t:Int) (aa x3)) fun _=>(bcase (bz (aB (T:=(.int .i64)) x3 (t:Int)) 9223372036854775807) (chk (aS (t:Int) (aa x3)) fun _=>(chk (aS (t:Int) (aa x3)) fun _=>(chk (aS (t:Int) (aa x3)) fun _=>(chk (aS (t:Int) (aa x3)) fun _=>(some (af (ch x3 (t:Int) (aJ .i64 ((aB (T:=(.int .i64)) x3 (t:Int))+1))))))))) (some (af x3))))) fun x4=>(some x4)) fun r=>some (af r))))) (r:=tk c t) ?_ ?_
 ·simpa using this
 ·intro i hi;rw[fB (by simp;omega),bm,bk (me (by simp;omega) (by simp;omega)),jM,←List.replicate_succ']
 ·have hl:t<(c++aF (t+1-c.length) (0:Int)).length:=by simp;omega
  have e3:aB (T:=.int .i64) (c++aF (t+1-c.length) (0:Int)) (t:Int)=c.getD t 0:=by
   rw[mG];exact F4 c _ t
  rw[kr (by simp;omega),bt,bk (bi hl),bk (bi hl),e3,gf h1,bm,bk (bi hl),bk (bi hl),bk (bi hl),bk (bi hl),cX,bd,Dq (by omega) (by omega),cw];rfl
def GL (l:List (List Int)):Prop:=l.length≤big∧∀ c∈l,c.length≤big
abbrev HTp:Type:=List (List Int)×List (List Int)×List (List Int)×List (List Int)×List (List Int)×List (List Int)×List Int×List (List Int)×List Int
def GH (h:HTp):Prop:=GL h.1∧GL h.2.1∧GL h.2.2.1∧GL h.2.2.2.1∧GL h.2.2.2.2.1∧GL h.2.2.2.2.2.1∧h.2.2.2.2.2.2.1.length≤big∧GL h.2.2.2.2.2.2.2.1∧h.2.2.2.2.2.2.2.2.length≤big
theorem wj {l:List (List Int)} {i:Nat} (h:i<l.length):l.getD i []∈l:=by
 rw[aN,aw h];exact nY h
theorem GL.at {l:List (List Int)} (h:GL l) (i:Nat):(l.getD i []).length≤big:=by
 by_cases hi:i<l.length
 ·exact h.2 _ (wj hi)
 ·rw[aN,bU (by omega)];simp
theorem xF (g:List Int→Option (List Int)) (l:List (List Int)) (hl:l.length≤big) (hg:∀ c∈l,g c=some c):
 dT (σ:=Int×List (List Int)) (fun x1=>(bcase (bz x1.1 (ah (aa l))) (chk (aS x1.1 (aa l)) fun _=>(obind (g (aB (T:=(.sl (.int .i64))) l x1.1)) fun y2=>(chk (aS x1.1 (aa x1.2)) fun _=>(chk (aS x1.1 (aa x1.2)) fun _=>(some (aO ((aJ .i64 (x1.1+1)),(ch x1.2 x1.1 y2)))))))) (some (af x1.2)))) (0,(aF (aM (ah (aa l))) ([]:List Int)))=some l:=by
 unfold big at hl;have:=kP (σ:=Int×List (List Int)) (R:=List (List Int)) l.length (by omega) (fun i=>((i:Int),(fE l.length).map fun k=>if k<i then l.getD k [] else [])) (f:=(fun x1=>(bcase (bz x1.1 (ah (aa l))) (chk (aS x1.1 (aa l)) fun _=>(obind (g (aB (T:=(.sl (.int .i64))) l x1.1)) fun y2=>(chk (aS x1.1 (aa x1.2)) fun _=>(chk (aS x1.1 (aa x1.2)) fun _=>(some (aO ((aJ .i64 (x1.1+1)),(ch x1.2 x1.1 y2)))))))) (some (af x1.2))))) (r:=l) ?_ ?_
 ·refine Eq.trans ?_ this;congr 1;simp only[Int.natCast_zero,uh,if_false,ay,true_and,aj,qz];apply cT<;>simp
 ·intro i hi;simp only[];rw[gf (by simp;omega),bm,bk (bi hi),mG,show (l.getD i (Ty.zero (.sl (.int .i64))))=l.getD i [] from rfl,hg _ (wj hi),bd,bk (bi (by simpa using hi)),bk (bi (by simpa using hi)),gy hi (by omega),cw];congr 3;apply cT
  ·simp
  ·intro k h1 h2;simp only[cK,qy] at h2;simp only[rM,nZ,mb];by_cases e:i=k
   ·subst e;simp
   ·by_cases h:k<i
    ·rw[if_neg e,if_pos h,if_pos (by omega)]
    ·rw[if_neg e,if_neg h,if_neg (by omega)]
 ·simp only[];rw[jI (by simp),bt];congr 2;apply cT
  ·simp
  ·intro k h1 h2;simp only[nZ,mb];rw[if_pos h2,aN,aw h2];rfl
theorem l9 (l:List (List Int)) (h:GL l):er l=some l:=by
 have hl:=h.1;unfold big at hl;unfold er pI;rw[bk (by rw[fB (by simp),fB (by omega),me (by simp;omega) (by simp;omega)];rfl)];exact xF rA l h.1 fun c hc=>AC c (h.2 c hc)
theorem kh (l:List (List Int)) (h:GL l):dA l=some l:=by
 have hl:=h.1;unfold big at hl;unfold dA mW;rw[bk (by rw[fB (by simp),fB (by omega),me (by simp;omega) (by simp;omega)];rfl)];exact xF iS l h.1 fun c hc=>Ar c (h.2 c hc)
theorem CQ (h:HTp) (g:GH h):nI h=some (h.2.2.2.2.2.2.1,h.1,h.2.1,h.2.2.1,h.2.2.2.1,h.2.2.2.2.1,h.2.2.2.2.2.1,h.2.2.2.2.2.2.2.1,h.2.2.2.2.2.2.2.2):=by
 obtain⟨g1,g2,g3,g4,g5,g6,g7,g8,g9⟩:=g;unfold nI;rw[l9 _ g1,bd,l9 _ g2,bd,l9 _ g3,bd,l9 _ g4,bd,l9 _ g5,bd,l9 _ g6,bd,xO _ g7,bd,l9 _ g8,bd,xO _ g9,bd]
theorem yc (h:HTp) (g:GH h):mt h=some (h.2.2.2.2.2.2.1,h.1,h.2.1,h.2.2.1,h.2.2.2.1,h.2.2.2.2.1,h.2.2.2.2.2.1,h.2.2.2.2.2.2.2.1,h.2.2.2.2.2.2.2.2):=by
 obtain⟨g1,g2,g3,g4,g5,g6,g7,g8,g9⟩:=g;unfold mt;rw[kh _ g1,bd,kh _ g2,bd,kh _ g3,bd,kh _ g4,bd,kh _ g5,bd,kh _ g6,bd,sY _ g7,bd,kh _ g8,bd,sY _ g9,bd]
theorem xA (n:Nat):eI (ah n) (ah n)=(n:Int):=by rw[o7,Nat.max_self]
theorem ED (a:List Int) (h:a.length≤big):mw (a,a)=some true:=by
 unfold big at h;unfold mw sI;refine kP (σ:=Int) a.length (by omega) (fun i=>(i:Int)) (fun i hi=>?_) ?_
 ·simp only[xA];rw[gf (by omega),bm,r22At,wT,bd,bd,jI (by omega),bt,gy hi (by omega)]
 ·simp only[xA];rw[jI (by omega),bt]
theorem uf (a:List Int) (h:a.length≤big):lG (a,a)=some true:=by
 unfold lG;rw[ED a h,bd,bm,bd,cX]
theorem gW (l:List (List Int)) (h:GL l):dy (l,l)=some true:=by
 have hl:=h.1;unfold big at hl;unfold dy mV;simp only[decide_true,cu,bt];refine kP (σ:=Int) l.length (by omega) (fun i=>(i:Int)) (fun i hi=>?_) ?_
 ·rw[gf (by simp;omega),bm,bk (bi hi),bk (bi hi),d9,uf _ (h.at i),bd];simp only[cu,bt];rw[gy hi (by omega)]
 ·rw[jI (by simp),bt]
theorem BI (l:List Int) (h:l.length≤big):jY (l,l)=some true:=by
 unfold big at h;unfold jY pC;simp only[decide_true,cu,bt];refine kP (σ:=Int) l.length (by omega) (fun i=>(i:Int)) (fun i hi=>?_) ?_
 ·rw[gf (by simp;omega),bm,bk (bi hi),bk (bi hi)];rw[gy hi (by omega)]
 ·rw[jI (by simp),bt]
theorem uz (h:HTp) (g:GH h):gJ (h,h)=some true:=by
 obtain⟨g1,g2,g3,g4,g5,g6,g7,g8,g9⟩:=g;unfold gJ;simp only[];rw[gW _ g1,bd,bm,gW _ g2,bd,bm,gW _ g3,bd,bm,gW _ g4,bd,bm,gW _ g5,bd,bm,gW _ g6,bd,bm,uf _ g7,bd,bm,gW _ g8,bd,bm,BI _ g9,bd,cX]
theorem r22Start:lE=ja:=rfl
abbrev WTp:Type:=List (List UInt8×Int×Int×Bool×Int)×List (List UInt8×Bool)×List (List UInt8×Int)×List (List UInt8)×List (List UInt8)×List (Int×Int×Int)
def h0 (w:WTp):HTp:=(aF w.2.2.2.2.1.length [],aF w.2.2.2.2.1.length [],aF w.2.1.length [],aF w.2.1.length [],aF w.1.length [],aF w.2.2.2.1.length [],[],aF w.2.2.2.2.1.length [],aF w.2.2.2.2.1.length (-1))
theorem EA (w:WTp) (h1:w.1.length≤big) (h2:w.2.1.length≤big) (h3:w.2.2.2.1.length≤big) (h4:w.2.2.2.2.1.length≤big):ja w=some (h0 w):=by
 unfold big at h1 h2 h3 h4;have c:∀ n b:Nat,n≤1000000000→b≤24→(b9 0 (ah n)&&b9 (ah n) (ah n)&&aZ (aM (ah n)) b)=true:=fun n b hn hb=>by
  have:n*b≤n*24:=Nat.mul_le_mul_left n hb;rw[fB (by simp),fB (by omega),me (by simp;omega) (by simp;omega)];rfl
 unfold ja qN;rw[bk (c _ 24 h4 (by omega)),bk (c _ 24 h4 (by omega)),bk (c _ 24 h2 (by omega)),bk (c _ 24 h2 (by omega)),bk (c _ 24 h1 (by omega)),bk (c _ 24 h3 (by omega)),bk (c _ 24 h4 (by omega)),bk (c _ 8 h4 (by omega))];simp only[aj,qz,eE];have:=kP (σ:=Int×(List (List Int))×(List (List Int))×(List (List Int))×(List (List Int))×(List (List Int))×(List (List Int))×(List (List Int))×List Int) (R:=HTp) w.2.2.2.2.1.length (by omega) (fun i=>((i:Int),aF w.2.2.2.2.1.length [],aF w.2.2.2.2.1.length [],aF w.2.1.length [],aF w.2.1.length [],aF w.1.length [],aF w.2.2.2.1.length [],aF w.2.2.2.2.1.length [],(fE w.2.2.2.2.1.length).map fun k=>if k<i then -1 else 0)) (f:=(fun x1=>(bcase (bz x1.1 (w.2.2.2.2.1.length:Int)) (chk (aS x1.1 (aa x1.2.2.2.2.2.2.2.2)) fun _=>(chk (aS x1.1 (aa x1.2.2.2.2.2.2.2.2)) fun _=>(some (aO ((aJ .i64 (x1.1+1)),x1.2.1,x1.2.2.1,x1.2.2.2.1,x1.2.2.2.2.1,x1.2.2.2.2.2.1,x1.2.2.2.2.2.2.1,x1.2.2.2.2.2.2.2.1,(ch x1.2.2.2.2.2.2.2.2 x1.1 (-1))))))) (some (af (x1.2.1,x1.2.2.1,x1.2.2.2.1,x1.2.2.2.2.1,x1.2.2.2.2.2.1,x1.2.2.2.2.2.2.1,([]:List Int),x1.2.2.2.2.2.2.2.1,x1.2.2.2.2.2.2.2.2)))))) (r:=h0 w) ?_ ?_
 ·refine Eq.trans ?_ this;congr 1;simp only[Int.natCast_zero,uh,if_false,ay,true_and];apply cT<;>simp
 ·intro i hi;simp only[];rw[gf (by omega),bm,bk (bi (by simpa using hi)),bk (bi (by simpa using hi)),gy hi (by omega),cw];congr 3;simp only[ay,true_and];apply cT
  ·simp
  ·intro k h1 h2;simp only[cK,qy] at h2;simp only[rM,nZ,mb];by_cases e:i=k
   ·subst e;simp
   ·by_cases h:k<i
    ·rw[if_neg e,if_pos h,if_pos (by omega)]
    ·rw[if_neg e,if_neg h,if_neg (by omega)]
 ·simp only[];rw[jI (by omega),bt];unfold h0;congr 3;simp only[ay,true_and];apply cT
  ·simp
  ·intro k h1 h2;simp only[eE] at h2;simp only[nZ,mb,List.getElem_replicate];rw[if_pos h2]
theorem wh (x y:Int):eI x y=max x y:=by
 unfold eI;by_cases h:x<y
 ·rw[gf h,if_pos rfl];omega
 ·rw[jI (by omega)];simp;omega
theorem Bi (a b c:Int):eI (eI a b) c=eI a (eI b c):=by
 simp only[wh];omega
theorem tM {a b:List Int} (hl:a.length=b.length) (h:∀ i,a.getD i 0=b.getD i 0):a=b:=by
 apply cT hl;intro i h1 h2;have:=h i;simpa[aN,aw h1,aw h2] using this
theorem sD (a b c:List Int):jl (jl a b) c=jl a (jl b c):=
 tM (by simp only[qJ];omega) fun i=>by simp only[yq,Bi]
def En (n:Int) (c:List Int):Prop:=c.length≤4∧∀ i,0≤c.getD i 0∧c.getD i 0≤n
theorem En.nil {n:Int} (h:0≤n):En n []:=⟨by simp,fun i=>by simp;exact h⟩
theorem En.mono {n m:Int} {c:List Int} (h:En n c) (hm:n≤m):En m c:=⟨h.1,fun i=>⟨(h.2 i).1,Int.le_trans (h.2 i).2 hm⟩⟩
theorem En.jl {n:Int} {a b:List Int} (ha:En n a) (hb:En n b):En n (jl a b):=⟨by rw[qJ];have:=ha.1;have:=hb.1;omega,fun i=>by
 rw[yq];obtain⟨h1,h2⟩:=ha.2 i;obtain⟨h3,h4⟩:=hb.2 i;unfold eI;split<;>exact⟨by assumption,by assumption⟩⟩
theorem En.tk {n:Int} {c:List Int} {t:Nat} (h:En n c) (ht:t<4):En (n+1) (tk c t):=⟨by rw[Cm];have:=h.1;omega,fun i=>by
 rw[F2];obtain⟨h1,h2⟩:=h.2 i;obtain⟨h3,h4⟩:=h.2 t;split<;>omega⟩
theorem F9 {n:Int} {c:List Int} (h:En n c):jl c []=c:=tM (by simp[qJ]) fun i=>by
 rw[yq,wh];have:=(h.2 i).1;simp only[List.getD_nil];omega
theorem vL {n:Int} {c:List Int} (h:En n c):jl [] c=c:=tM (by simp[qJ]) fun i=>by
 rw[yq,wh];have:=(h.2 i).1;simp only[List.getD_nil];omega
def q8 (n:Int) (l:List (List Int)):Prop:=∀ i,En n (l.getD i [])
theorem q8.mono {n m:Int} {l:List (List Int)} (h:q8 n l) (hm:n≤m):q8 m l:=fun i=>(h i).mono hm
theorem q8.set {n:Int} {l:List (List Int)} (h:q8 n l) {c:List Int} (hc:En n c) (j:Nat):q8 n (l.set j c):=fun i=>by
 rw[aN,xQ];by_cases e:j=i
 ·subst e;rw[if_pos rfl];split
  ·exact hc
  ·have:=h j;simp only[aN] at this;rename_i hj;rw[bU (by omega)] at this;exact this
 ·rw[if_neg e,←aN];exact h i
theorem q8.repl {n:Int} (h:0≤n) (k:Nat):q8 n (aF k []):=fun i=>by
 rw[aN,List.getElem?_replicate];split<;>exact En.nil h
structure HS where
 T:List (List Int)
 S:List (List Int)
 L:List (List Int)
 R:List (List Int)
 C:List (List Int)
 F:List (List Int)
 X:List Int
 N:List (List Int)
 W:List Int
def HS.t (h:HS):HTp:=(h.T,h.S,h.L,h.R,h.C,h.F,h.X,h.N,h.W)
structure EV where
 th:Nat
 k:Nat
 ob:Nat
 va:Int
abbrev WTc:=List (List UInt8×Int)
def uE (wd:WTc) (o:Nat):Nat:=((wd.getD o ([],0)).2).toNat
def xS (wc:List (List UInt8×Int×Int×Bool×Int)) (o:Nat):Bool:=(wc.getD o ([],0,0,false,0)).2.2.2.1
def rf (w:WTp) (h:HS) (e:EV):List (List Int):=
 if e.k=1 then [h.S.getD e.th []]
 else if e.k=21 then [h.T.getD e.ob []]
 else if e.k=6∨e.k=10 then [h.L.getD e.ob [],h.R.getD e.ob []]
 else if e.k=8 then [h.L.getD e.ob []]
 else if e.k=17 then [h.L.getD (uE w.2.2.1 e.ob) [],h.R.getD (uE w.2.2.1 e.ob) [],h.N.getD e.th []]
 else if e.k=3 then [h.C.getD e.ob []]
 else if e.k=23 then [h.F.getD e.ob []]
 else if e.k=12 then [h.X]
 else []
def rH (w:WTp) (h:HS) (e:EV):List Int:=tk ((rf w h e).foldl jl (h.T.getD e.th [])) e.th
def jat (l:List (List Int)) (i:Nat) (c:List Int):List (List Int):=l.set i (jl (l.getD i []) c)
def uW (p:Nat→Bool) (c:List Int) (h:HS):HS:={h with N:=h.N.mapIdx fun u x=>if p u then c else x,W:=h.W.mapIdx fun u x=>if p u then -1 else x}
def pK (w:WTp) (h:HS) (e:EV) (c:List Int):HS:=
 let h:={h with T:=h.T.set e.th c}
 if e.k=20 then {h with S:=h.S.set e.ob c}
 else if e.k=7∨e.k=11 then {h with L:=jat h.L e.ob c}
 else if e.k=9 then {h with R:=jat h.R e.ob c}
 else if e.k=16 then {h with L:=jat h.L (uE w.2.2.1 e.ob) c,W:=h.W.set e.th e.ob}
 else if e.k=4 then (if xS w.1 e.ob then {h with C:=jat h.C e.ob c} else h)
 else if e.k=22 then {h with F:=jat h.F e.ob c}
 else if e.k=13 then {h with X:=jl h.X c}
 else if e.k=18 then (if 0≤e.va∧e.va<h.N.length then {h with N:=h.N.set e.va.toNat c,W:=h.W.set e.va.toNat (-1)} else h)
 else if e.k=19 then uW (fun u=>decide (h.W.getD u 0=(e.ob:Int))) c h
 else h
def rV (w:WTp) (h:HS) (e:EV):HS×List Int:=(pK w h e (rH w h e),rH w h e)
structure Fy (w:WTp) (h:HS) (e:EV):Prop where
 th4:e.th<4
 th:e.th<h.T.length
 k1:1≤e.k
 k2:e.k≤23
 sp:e.k=20∨e.k=21→e.ob<h.T.length
 lk:6≤e.k∧e.k≤11→e.ob<h.L.length
 cd:e.k=16∨e.k=17→e.ob<w.2.2.1.length∧0≤(w.2.2.1.getD e.ob ([],0)).2∧uE w.2.2.1 e.ob<h.L.length
 ce:e.k=3∨e.k=4→e.ob<h.C.length∧e.ob<w.1.length
 fu:e.k=22∨e.k=23→e.ob<h.F.length
structure yS (n:Int) (h:HS):Prop where
 n0:0≤n
 n1:n≤1000000
 T:q8 n h.T
 S:q8 n h.S
 L:q8 n h.L
 R:q8 n h.R
 C:q8 n h.C
 F:q8 n h.F
 X:En n h.X
 N:q8 n h.N
 lT:h.T.length≤1000
 lS:h.S.length=h.T.length
 lN:h.N.length=h.T.length
 lW:h.W.length=h.T.length
 lL:h.L.length≤1000
 lR:h.R.length=h.L.length
 lC:h.C.length≤1000
 lF:h.F.length≤1000
theorem En.lb {n:Int} {c:List Int} (h:En n c):c.length≤big:=by have:=h.1;unfold big;omega
theorem q8.GL {n:Int} {l:List (List Int)} (h:q8 n l) (hl:l.length≤1000):GL l:=⟨by unfold big;omega,fun c hc=>by
 obtain⟨i,hi⟩:=db hc;have:=(h i).lb
 rwa [aN,hi] at this⟩
theorem yS.GH {n:Int} {h:HS} (o:yS n h):GH h.t:=
 ⟨o.T.GL o.lT,o.S.GL (by rw[o.lS];exact o.lT),o.L.GL o.lL,o.R.GL (by rw[o.lR];exact o.lL),o.C.GL o.lC,o.F.GL o.lF,o.X.lb,o.N.GL (by rw[o.lN];exact o.lT),by show h.W.length≤big;have:=o.lT;rw[o.lW];unfold big;omega⟩
theorem En.join {n:Int} {a b:List Int} (ha:En n a) (hb:En n b):gN (a,b)=some (AI.jl a b):=Fw a b ha.lb hb.lb
theorem xX {n:Int} {w:WTp} {h:HS} (o:yS n h) (e:EV):∀ c∈rf w h e,En n c:=by
 intro c hc;unfold rf at hc;repeat' (split at hc)
 all_goals simp only[bo,cf,or_false] at hc
 ·subst hc;exact o.S _
 ·subst hc;exact o.T _
 ·rcases hc with rfl|rfl
  ·exact o.L _
  ·exact o.R _
 ·subst hc;exact o.L _
 ·rcases hc with rfl|rfl|rfl
  ·exact o.L _
  ·exact o.R _
  ·exact o.N _
 ·subst hc;exact o.C _
 ·subst hc;exact o.F _
 ·subst hc;exact o.X
theorem qO {n:Int}:∀ (l:List (List Int)) (c:List Int),En n c→(∀ x∈l,En n x)→En n (l.foldl jl c)
 |[],_,hc,_=>hc
 |x::r,c,hc,h=>qO r _ (hc.jl (h x (eU ..))) fun y hy=>h y (cS _ hy)
theorem wB {n:Int} {w:WTp} {h:HS} (o:yS n h) {e:EV} (he:e.th<4):En (n+1) (rH w h e):=(qO _ _ (o.T _) (xX o e)).tk he
theorem q8.jat {n:Int} {l:List (List Int)} {c:List Int} (h:q8 n l) (hc:En n c) (i:Nat):q8 n (jat l i c):=h.set ((h i).jl hc) i
theorem q8.mapIdx {n:Int} {l:List (List Int)} {c:List Int} (h:q8 n l) (hc:En n c) (p:Nat→Bool):q8 n (l.mapIdx fun u x=>if p u then c else x):=fun i=>by
 rw[aN,List.getElem?_mapIdx];have:=h i;rw[aN] at this;cases hx:l[i]? with
 |none=>rw[hx] at this;exact this
 |some x=>
  rw[hx] at this;simp only[bN,rK];split
  ·exact hc
  ·exact this
theorem DB {n:Int} {w:WTp} {h:HS} (o:yS n h) (hn:n+1≤1000000) {e:EV} (he:e.th<4):yS (n+1) (rV w h e).1:=by
 have hc:=wB (w:=w) o he;have m:n≤n+1:=by omega
 have oT:q8 (n+1) (h.T.set e.th (rH w h e)):=(o.T.mono m).set hc _;have b:yS (n+1) {h with T:=h.T.set e.th (rH w h e)}:=⟨by have:=o.n0;omega,hn,oT,o.S.mono m,o.L.mono m,o.R.mono m,o.C.mono m,o.F.mono m,o.X.mono m,o.N.mono m,by simpa using o.lT,by simpa using o.lS,by simpa using o.lN,by simpa using o.lW,o.lL,o.lR,o.lC,o.lF⟩
 unfold rV pK;simp only[];repeat' split
 ·exact {b with S:=(o.S.mono m).set hc _,lS:=by simpa using b.lS}
 ·exact {b with L:=(o.L.mono m).jat hc _,lL:=by simpa[jat] using b.lL,lR:=by simpa[jat] using b.lR}
 ·exact {b with R:=(o.R.mono m).jat hc _,lR:=by simpa[jat] using b.lR}
 ·exact {b with L:=(o.L.mono m).jat hc _,lL:=by simpa[jat] using b.lL,lR:=by simpa[jat] using b.lR,lW:=by simpa using b.lW}
 ·exact {b with C:=(o.C.mono m).jat hc _,lC:=by simpa[jat] using b.lC}
 ·exact b
 ·exact {b with F:=(o.F.mono m).jat hc _,lF:=by simpa[jat] using b.lF}
 ·exact {b with X:=(o.X.mono m).jl hc}
 ·exact {b with N:=(o.N.mono m).set hc _,lN:=by simpa using b.lN,lW:=by simpa using b.lW}
 ·exact b
 ·exact {b with N:=(o.N.mono m).mapIdx hc _,lN:=by simpa[uW] using b.lN,lW:=by simpa[uW] using b.lW}
 ·exact b
theorem Et {a b:Nat} (h:a=b):av a b=true:=by subst h;exact nW a
theorem zW (l:List (List Int)) (i:Nat) (h:i<l.length):m8 ((i:Int),l)=some (l.getD i [],l):=by
 unfold m8;simp only[];rw[jI (by omega)];simp only[bt,cX];rw[kr (by simp;omega)];simp only[bt];rw[bk (bi h),bk (bi h),d9]
theorem nd {n:Int} (l:List (List Int)) (i:Nat) (c:List Int) (h:i<l.length) (hl:q8 n l) (hc:En n c):gR ((i:Int),l,c)=some (jat l i c,c):=by
 unfold gR;simp only[];rw[fB (by omega)];simp only[bm,cX];rw[gf (by simp;omega)];simp only[bm];rw[bk (bi h),bk (bi h),d9,Ap _ _ (hl i).lb hc.lb,bd,bk (bi h),bk (bi h),cw];rfl
theorem lZ (l:List (List Int)) (i:Nat) (c:List Int):(jat l i c).length=l.length:=by simp[jat]
theorem BK {n:Int} (h:HS) (u:Nat) (c:List Int) (h1:u<h.N.length) (h2:u<h.W.length) (hc:En n c):oW ((u:Int),h.X,h.T,h.S,h.L,h.R,h.C,h.F,h.N,h.W,c)=some (h.X,h.T,h.S,h.L,h.R,h.C,h.F,h.N.set u c,h.W.set u (-1),c):=by
 unfold oW;simp only[];rw[xN c hc.lb,bd,bk (bi h1),bk (bi h1),bk (bi h2),bk (bi h2),cw,cw]
theorem yw (wd:WTc) (i:Nat):aB (T:=.st (.pr .str (.int .i64))) wd (i:Int)=wd.getD i ([],0):=mG (T:=.st (.pr .str (.int .i64))) wd i
theorem B4 (wc:List (List UInt8×Int×Int×Bool×Int)) (i:Nat):aB (T:=.st (.pr .str (.pr (.int .i64) (.pr (.int .i64) (.pr .bool (.int .i64)))))) wc (i:Int)=wc.getD i ([],0,0,false,0):=mG (T:=.st (.pr .str (.pr (.int .i64) (.pr (.int .i64) (.pr .bool (.int .i64)))))) wc i
abbrev ETp:Type:=Int×Int×Int×Int×Int×List Int×List Int
structure Fx (e:EV) (x:ETp):Prop where
 th:x.1=(e.th:Int)
 k:x.2.1=(e.k:Int)
 ob:e.k∈[3,4,6,7,8,9,10,11,16,17,18,19,20,21,22,23]→x.2.2.1=(e.ob:Int)
 va:x.2.2.2.1=e.va
theorem qI {k:Nat} {z:Int} (hz:z=(k:Int)) (h1:1≤k) (h2:k≤23):(k=1∧z=1)∨(k=2∧z=2)∨(k=3∧z=3)∨(k=4∧z=4)∨(k=5∧z=5)∨(k=6∧z=6)∨(k=7∧z=7)∨(k=8∧z=8)∨(k=9∧z=9)∨(k=10∧z=10)∨(k=11∧z=11)∨(k=12∧z=12)∨(k=13∧z=13)∨(k=14∧z=14)∨(k=15∧z=15)∨(k=16∧z=16)∨(k=17∧z=17)∨(k=18∧z=18)∨(k=19∧z=19)∨(k=20∧z=20)∨(k=21∧z=21)∨(k=22∧z=22)∨(k=23∧z=23):=by
 have h:k=1∨k=2∨k=3∨k=4∨k=5∨k=6∨k=7∨k=8∨k=9∨k=10∨k=11∨k=12∨k=13∨k=14∨k=15∨k=16∨k=17∨k=18∨k=19∨k=20∨k=21∨k=22∨k=23:=by omega
 subst hz;rcases h with rfl|rfl|rfl|rfl|rfl|rfl|rfl|rfl|rfl|rfl|rfl|rfl|rfl|rfl|rfl|rfl|rfl|rfl|rfl|rfl|rfl|rfl|rfl<;>simp
theorem Bv (a:Nat):(av a a&&true)=true:=by rw[Et rfl];rfl
theorem Ez {n:Int} {w:WTp} {h:HS} (o:yS n h) {e:EV} (ok:Fy w h e) {x:ETp} (hx:Fx e x):nJ (x,h.X,w,h.T,h.S,h.L,h.R,h.C,h.F,h.N,h.W)=some (rf w h e,x,h.X,w,h.T,h.S,h.L,h.R,h.C,h.F,h.N,h.W):=by
 obtain⟨x1,x2,x3,x4,x5,x6,x7⟩:=x;obtain⟨w1,w2,w3,w4,w5,w6⟩:=w;obtain⟨th,k,ob,va⟩:=e;obtain⟨q1,q2,q3,q4⟩:=hx;simp only at q1 q2 q3 q4;subst q1 q4;have t1:=ok.th;simp only at t1;have fS:aS (th:Int) h.S.length=true:=bi (by rw[o.lS];exact t1);have fN:aS (th:Int) h.N.length=true:=bi (by rw[o.lN];exact t1);have fT:k=21→aS (ob:Int) h.T.length=true∧x3=(ob:Int):=fun e=>by
  subst e;have:=ok.sp (.inr rfl);exact⟨bi this,q3 (by decide)⟩
 have fL:(k=6∨k=10∨k=8)→aS (ob:Int) h.L.length=true∧aS (ob:Int) h.R.length=true∧x3=(ob:Int):=fun e=>by
  have h1:ob<h.L.length:=ok.lk (by rcases e with rfl|rfl|rfl<;>(simp only[];omega));exact⟨bi h1,bi (by rw[o.lR];exact h1),q3 (by rcases e with rfl|rfl|rfl<;>decide)⟩
 have fC:k=3→aS (ob:Int) h.C.length=true∧x3=(ob:Int):=fun e=>by
  subst e;have:=(ok.ce (.inl rfl)).1;exact⟨bi this,q3 (by decide)⟩
 have fF:k=23→aS (ob:Int) h.F.length=true∧x3=(ob:Int):=fun e=>by
  subst e;have:=ok.fu (.inr rfl);exact⟨bi this,q3 (by decide)⟩
 unfold nJ rf;rcases qI q2 ok.k1 ok.k2 with ⟨e,e'⟩|⟨e,e'⟩|⟨e,e'⟩|⟨e,e'⟩|⟨e,e'⟩|⟨e,e'⟩|⟨e,e'⟩|⟨e,e'⟩|⟨e,e'⟩|⟨e,e'⟩|⟨e,e'⟩|⟨e,e'⟩|⟨e,e'⟩|⟨e,e'⟩|⟨e,e'⟩|⟨e,e'⟩|⟨e,e'⟩|⟨e,e'⟩|⟨e,e'⟩|⟨e,e'⟩|⟨e,e'⟩|⟨e,e'⟩|⟨e,e'⟩<;>clear q2<;>subst e<;>subst e'
 case inr.inr.inr.inr.inr.inr.inr.inr.inr.inr.inr.inr.inr.inr.inr.inr.inl=>
  have q3:=q3 (by decide);subst q3;obtain⟨d1,d2,d3⟩:=ok.cd (.inr rfl);simp only at d1 d2 d3;have d4:uE w3 ob<h.R.length:=by rw[o.lR];exact d3
  have e1:(w3.getD ob ([],0)).2=((uE w3 ob:Nat):Int):=by unfold uE;omega
  simp only[aT,decide_false,decide_true,bm,bt,cX,bk,bi d1,yw,e1,zW _ _ d3,zW _ _ d4,bd,Bv,fN,d9];rfl
 case inr.inr.inl=>
  obtain⟨c1,rfl⟩:=fC rfl;simp only[aT,decide_false,decide_true,bm,bt,cX,bk,c1,d9];rfl
 case inr.inr.inr.inr.inr.inr.inr.inr.inr.inr.inr.inr.inr.inr.inr.inr.inr.inr.inr.inr.inr.inr=>
  obtain⟨c1,rfl⟩:=fF rfl;simp only[aT,decide_false,decide_true,bm,bt,cX,bk,c1,d9];rfl
 case inr.inr.inr.inr.inr.inr.inr.inr.inr.inr.inr.inr.inr.inr.inr.inr.inr.inr.inr.inr.inl=>
  obtain⟨c1,rfl⟩:=fT rfl;simp only[aT,decide_false,decide_true,bm,bt,cX,bk,c1,d9];rfl
 case inl=>
  simp only[aT,decide_false,decide_true,bm,bt,cX,bk,fS,d9];rfl
 case inr.inr.inr.inr.inr.inl=>
  obtain⟨c1,c3,rfl⟩:=fL (by decide);simp only[aT,decide_false,decide_true,bm,bt,cX,bk,c1,c3,d9];rfl
 case inr.inr.inr.inr.inr.inr.inr.inr.inr.inl=>
  obtain⟨c1,c3,rfl⟩:=fL (by decide);simp only[aT,decide_false,decide_true,bm,bt,cX,bk,c1,c3,d9];rfl
 case inr.inr.inr.inr.inr.inr.inr.inl=>
  obtain⟨c1,c3,rfl⟩:=fL (by decide);simp only[aT,decide_false,decide_true,bm,bt,cX,bk,c1,c3,d9];rfl
 all_goals
  simp only[aT,decide_false,decide_true,bm,bt,cX];rfl
theorem tQ {σ R:Type} {f:σ→Option (σ⊕R)} {x0:σ} {r:R} (n:Nat) (hn:n<18446744073709551616) (st:Nat→σ) (hx:x0=st 0) (h0:∀ i,i<n→f (st i)=some (.inl (st (i+1)))) (h1:f (st n)=some (.inr r)):dT f x0=some r:=by
 subst hx;exact kP n hn st h0 h1
def ta {α:Type} (p:Nat→Bool) (c:α) (u:Nat) (l:List α):List α:=l.mapIdx fun k x=>if decide (k<u)&&p k then c else x
theorem yU {α:Type} (p:Nat→Bool) (c:α) (l:List α):ta p c 0 l=l:=by
 unfold ta;apply cT
 ·simp
 ·intro i h1 h2;simp
theorem pl {α:Type} (p:Nat→Bool) (c:α) (u:Nat) (l:List α):(ta p c u l).length=l.length:=by simp[ta]
theorem rS {α:Type} (p:Nat→Bool) (c:α) (u:Nat) (l:List α) (h:l.length≤u):ta p c u l=l.mapIdx fun k x=>if p k then c else x:=by
 unfold ta;apply cT
 ·simp
 ·intro i h1 h2;simp only[List.length_mapIdx] at h1;simp only[List.getElem_mapIdx];rw[show decide (i<u)=true from decide_eq_true (by omega)];rfl
theorem uV {α:Type} (p:Nat→Bool) (c:α) (u:Nat) (l:List α) (hp:p u=true):(ta p c u l).set u c=ta p c (u+1) l:=by
 unfold ta;apply cT
 ·simp
 ·intro i h1 h2;simp only[rM,List.getElem_mapIdx];by_cases e:u=i
  ·subst e;simp[hp]
  ·rw[if_neg e];by_cases h:i<u
   ·rw[decide_eq_true h,decide_eq_true (show i<u+1 by omega)]
   ·rw[decide_eq_false h,decide_eq_false (show ¬i<u+1 by omega)]
theorem rR {α:Type} (p:Nat→Bool) (c:α) (u:Nat) (l:List α) (hp:p u=false):ta p c u l=ta p c (u+1) l:=by
 unfold ta;apply cT
 ·simp
 ·intro i h1 h2;simp only[List.getElem_mapIdx];by_cases e:u=i
  ·subst e;simp[hp]
  ·by_cases h:i<u
   ·rw[decide_eq_true h,decide_eq_true (show i<u+1 by omega)]
   ·rw[decide_eq_false h,decide_eq_false (show ¬i<u+1 by omega)]
theorem Dr (p:Nat→Bool) (c:Int) (u:Nat) (l:List Int):(ta p c u l).getD u 0=l.getD u 0:=by
 unfold ta;rw[aN,List.getElem?_mapIdx,aN];cases l[u]? with
 |none=>rfl
 |some x=>simp
def HS.e (h:HS) (c:List Int):List Int×List (List Int)×List (List Int)×List (List Int)×List (List Int)×List (List Int)×List (List Int)×List (List Int)×List Int×List Int:=(h.X,h.T,h.S,h.L,h.R,h.C,h.F,h.N,h.W,c)
theorem Ej {n:Int} {w:WTp} {h:HS} (o:yS n h) (hn:n+1≤1000000) {e:EV} (ok:Fy w h e) {x:ETp} (hx:Fx e x) {c:List Int} (hc:En (n+1) c):lY ((w,x),h.e c)=some ((pK w h e c).e c):=by
 obtain⟨x1,x2,x3,x4,x5,x6,x7⟩:=x;obtain⟨w1,w2,w3,w4,w5,w6⟩:=w;obtain⟨th,k,ob,va⟩:=e;obtain⟨q1,q2,q3,q4⟩:=hx;simp only at q1 q2 q3 q4;subst q1 q4;have t1:=ok.th;simp only at t1;have m:n≤n+1:=by omega
 have fT:aS (th:Int) h.T.length=true:=bi t1;have fW:aS (th:Int) h.W.length=true:=bi (by rw[o.lW];exact t1);have cl:=xN c hc.lb;unfold lY qM HS.e;rcases qI q2 ok.k1 ok.k2 with ⟨e,e'⟩|⟨e,e'⟩|⟨e,e'⟩|⟨e,e'⟩|⟨e,e'⟩|⟨e,e'⟩|⟨e,e'⟩|⟨e,e'⟩|⟨e,e'⟩|⟨e,e'⟩|⟨e,e'⟩|⟨e,e'⟩|⟨e,e'⟩|⟨e,e'⟩|⟨e,e'⟩|⟨e,e'⟩|⟨e,e'⟩|⟨e,e'⟩|⟨e,e'⟩|⟨e,e'⟩|⟨e,e'⟩|⟨e,e'⟩|⟨e,e'⟩<;>clear q2<;>subst e<;>subst e'
 case inr.inr.inr.inr.inr.inr.inr.inr.inr.inr.inr.inr.inr.inr.inr.inr.inr.inr.inr.inl=>
  obtain rfl:=q3 (by decide);have f:aS (ob:Int) h.S.length=true:=bi (by rw[o.lS];exact ok.sp (.inl rfl));simp only[aT,decide_false,decide_true,bm,bt,cX,bd,bk,cl,fT,f,cw];rfl
 case inr.inr.inr.inr.inr.inr.inl=>
  obtain rfl:=q3 (by decide);have f:ob<h.L.length:=ok.lk (by simp only[];omega);simp only[aT,decide_false,decide_true,bm,bt,cX,bd,bk,cl,fT,cw,nd _ _ _ f (o.L.mono m) hc,lZ,Bv];rfl
 case inr.inr.inr.inr.inr.inr.inr.inr.inr.inr.inl=>
  obtain rfl:=q3 (by decide);have f:ob<h.L.length:=ok.lk (by simp only[];omega);simp only[aT,decide_false,decide_true,bm,bt,cX,bd,bk,cl,fT,cw,nd _ _ _ f (o.L.mono m) hc,lZ,Bv];rfl
 case inr.inr.inr.inr.inr.inr.inr.inr.inl=>
  obtain rfl:=q3 (by decide);have f:ob<h.R.length:=by rw[o.lR];exact ok.lk (by simp only[];omega)
  simp only[aT,decide_false,decide_true,bm,bt,cX,bd,bk,cl,fT,cw,nd _ _ _ f (o.R.mono m) hc,lZ,Bv];rfl
 case inr.inr.inr.inr.inr.inr.inr.inr.inr.inr.inr.inr.inr.inr.inr.inl=>
  obtain rfl:=q3 (by decide);obtain⟨d1,d2,d3⟩:=ok.cd (.inl rfl);simp only at d1 d2 d3;have e1:(w3.getD ob ([],0)).2=((uE w3 ob:Nat):Int):=by unfold uE;omega
  simp only[aT,decide_false,decide_true,bm,bt,cX,bd,bk,cl,fT,fW,cw,bi d1,yw,e1,nd _ _ _ d3 (o.L.mono m) hc,lZ,Bv];rfl
 case inr.inr.inr.inl=>
  obtain rfl:=q3 (by decide);obtain⟨d1,d2⟩:=ok.ce (.inr rfl);simp only at d1 d2;simp only[aT,decide_false,decide_true,bm,bt,cX,bd,bk,cl,fT,cw,bi d2,B4];cases hv:(w1.getD ob ([],0,0,false,0)).2.2.2.1 with
  |true=>
   simp only[bm,bd,bk,nd _ _ _ d1 (o.C.mono m) hc,lZ,Bv,cX];have hE:pK (w1,w2,w3,w4,w5,w6) h ⟨th,4,ob,x4⟩ c=if xS w1 ob then {h with T:=h.T.set th c,C:=jat h.C ob c} else {h with T:=h.T.set th c}:=rfl
   rw[hE,show xS w1 ob=true from hv];rfl
  |false=>
   simp only[bt,cX];have hE:pK (w1,w2,w3,w4,w5,w6) h ⟨th,4,ob,x4⟩ c=if xS w1 ob then {h with T:=h.T.set th c,C:=jat h.C ob c} else {h with T:=h.T.set th c}:=rfl
   rw[hE,show xS w1 ob=false from hv];rfl
 case inr.inr.inr.inr.inr.inr.inr.inr.inr.inr.inr.inr.inr.inr.inr.inr.inr.inr.inr.inr.inr.inl=>
  obtain rfl:=q3 (by decide);have f:ob<h.F.length:=ok.fu (.inl rfl);simp only[aT,decide_false,decide_true,bm,bt,cX,bd,bk,cl,fT,cw,nd _ _ _ f (o.F.mono m) hc,lZ,Bv];rfl
 case inr.inr.inr.inr.inr.inr.inr.inr.inr.inr.inr.inr.inl=>
  simp only[aT,decide_false,decide_true,bm,bt,cX,bd,bk,cl,fT,cw,Ap _ _ (o.X.mono m).lb hc.lb];rfl
 case inr.inr.inr.inr.inr.inr.inr.inr.inr.inr.inr.inr.inr.inr.inr.inr.inr.inl=>
  simp only[aT,decide_false,decide_true,bm,bt,cX,bd,bk,cl,fT,cw];have hE:pK (w1,w2,w3,w4,w5,w6) h ⟨th,18,ob,x4⟩ c=if 0≤x4∧x4<h.N.length then {h with T:=h.T.set th c,N:=h.N.set x4.toNat c,W:=h.W.set x4.toNat (-1)} else {h with T:=h.T.set th c}:=rfl
  rw[hE];by_cases h0:0≤x4
  ·by_cases h1:x4<h.N.length
   ·rw[fB h0];simp only[bm,cX];rw[gf (show x4<ah h.N.length from h1)];obtain⟨v,rfl⟩:∃ v:Nat,x4=(v:Int):=⟨x4.toNat,by omega⟩
    have v1:v<h.N.length:=by omega
    have v2:v<h.W.length:=by rw[o.lW,←o.lN];exact v1
    have:=BK {h with T:=h.T.set th c} v c v1 v2 hc;simp only[] at this;simp only[bm,this,bd,uj,bk,Et rfl,gw,cX];rw[if_pos ⟨h0,h1⟩];rfl
   ·rw[fB h0];simp only[bm,cX];rw[jI (show ah h.N.length≤x4 from Int.not_lt.1 h1)];simp only[bt,cX];rw[if_neg (fun q=>h1 q.2)]
  ·rw[kr (by omega)];simp only[bt,cX];rw[if_neg (fun q=>h0 q.1)]
 case inr.inr.inr.inr.inr.inr.inr.inr.inr.inr.inr.inr.inr.inr.inr.inr.inr.inr.inl=>
  obtain rfl:=q3 (by decide);simp only[aT,decide_false,decide_true,bm,bt,cX,bd,bk,cl,fT,cw];rw[tQ (r:=af (h.X,h.T.set th c,h.S,h.L,h.R,h.C,h.F,ta (fun u=>decide (h.W.getD u 0=(ob:Int))) c h.W.length h.N,ta (fun u=>decide (h.W.getD u 0=(ob:Int))) (-1) h.W.length h.W,c)) h.W.length (by have:=o.lW;have:=o.lT;omega)
   (fun i=>((i:Int),h.X,h.T.set th c,h.S,h.L,h.R,h.C,h.F,ta (fun u=>decide (h.W.getD u 0=(ob:Int))) c i h.N,ta (fun u=>decide (h.W.getD u 0=(ob:Int))) (-1) i h.W,c,(th:Int),(19:Int),(ob:Int),x4,x5,x6,x7)) ?_ ?_ ?_]
  ·simp only[cX];rw[rS _ _ _ h.W (cD _),rS _ _ _ h.N (by rw[o.lN,o.lW];exact cD _)];rfl
  ·simp only[yU];rfl
  ·intro i hi;simp only[];have hN:i<(ta (fun u=>decide (h.W.getD u 0=(ob:Int))) c i h.N).length:=by rw[pl,o.lN,←o.lW];exact hi
   have hW:i<(ta (fun u=>decide (h.W.getD u 0=(ob:Int))) (-1) i h.W).length:=by rw[pl];exact hi
   rw[gf (by simp;omega),bm,bk (bi hW),bk (bi hW),Eg,Dr];have ws:=gy hi (show h.W.length≤1099511627776 by have:=o.lW;have:=o.lT;omega);by_cases hp:h.W.getD i 0=(ob:Int)
   ·rw[decide_eq_true hp,bm];have:=BK {h with T:=h.T.set th c,N:=ta (fun u=>decide (h.W.getD u 0=(ob:Int))) c i h.N,W:=ta (fun u=>decide (h.W.getD u 0=(ob:Int))) (-1) i h.W} i c hN hW hc;simp only[] at this;rw[this,bd,bk (by simp only[uj,Et rfl,gw]),cX,ws,uV _ _ _ _ (decide_eq_true hp),uV _ _ _ _ (decide_eq_true hp)]
   ·rw[decide_eq_false hp,bt,cX,ws,←rR _ _ _ _ (decide_eq_false hp),←rR _ _ _ _ (decide_eq_false hp)]
  ·simp only[];rw[jI (by simp),bt]
 all_goals
  simp only[aT,decide_false,decide_true,bm,bt,cX,bd,bk,cl,fT,cw];rfl
theorem Bl (l:List (List Int)) (c:List Int) (i:Nat) (hi:i<l.length):(l.take (i+1)).foldl jl c=jl ((l.take i).foldl jl c) (l.getD i []):=by
 rw[List.take_add_one,List.foldl_append,aw hi,aN,aw hi];rfl
theorem yZ (w:WTp) (h:HS) (e:EV):(rf w h e).length≤3:=by
 unfold rf;repeat' split
 all_goals simp
theorem Eo {n:Int} {w:WTp} {h:HS} (o:yS n h) (e:EV) (i:Nat):0≤((rf w h e).foldl jl (h.T.getD e.th [])).getD i 0∧((rf w h e).foldl jl (h.T.getD e.th [])).getD i 0<9223372036854775807:=by
 have:=(qO _ _ (o.T e.th) (xX (w:=w) o e)).2 i;have:=o.n1;omega
theorem uw (w:WTp) (h:HS) (e:EV) (c:List Int):(pK w h e c).T.length=h.T.length∧(pK w h e c).S.length=h.S.length∧(pK w h e c).L.length=h.L.length∧(pK w h e c).R.length=h.R.length∧(pK w h e c).C.length=h.C.length∧(pK w h e c).F.length=h.F.length∧(pK w h e c).N.length=h.N.length∧(pK w h e c).W.length=h.W.length:=by
 unfold pK;simp only[];repeat' split
 all_goals simp[jat,uW]
theorem Fq {n:Int} {w:WTp} {h:HS} (o:yS n h) (hn:n+1≤1000000) {e:EV} (ok:Fy w h e) {x:ETp} (hx:Fx e x):mE (w,h.t,x)=some ((rV w h e).1.t,(rV w h e).2):=by
 have s2:=Ez o ok hx;have hce:En (n+1) (rH w h e):=wB o ok.th4;have en:=Ej o hn ok hx hce;have cp:=CQ h.t o.GH;have sl:=yZ w h e;have sE:=xX (w:=w) o e;have hlen:=uw w h e (rH w h e);obtain⟨x1,x2,x3,x4,x5,x6,x7⟩:=x;obtain⟨w1,w2,w3,w4,w5,w6⟩:=w;have t1:=hx.th;simp only at t1;subst t1;unfold HS.t at cp;simp only[] at cp;have fT:aS (e.th:Int) h.T.length=true:=bi ok.th;unfold mE sJ HS.t;simp only[];rw[cp,bd];simp only[];rw[bk fT,bk fT,s2,bd];simp only[];rw[bk (by simp only[Et rfl,gw])];refine tQ (rf (w1,w2,w3,w4,w5,w6) h e).length (by omega) (fun i=>((i:Int),(w1,w2,w3,w4,w5,w6),((e.th:Int),x2,x3,x4,x5,x6,x7),h.X,((rf (w1,w2,w3,w4,w5,w6) h e).take i).foldl jl (h.T.getD e.th []),h.T,h.S,h.L,h.R,h.C,h.F,h.N,h.W)) ?_ ?_ ?_
 ·simp only[d9,List.take_zero,List.foldl_nil];rfl
 ·intro i hi;simp only[];rw[gf (by simp;omega),bm,bk (bi hi),d9,(qO _ _ (o.T e.th) (fun y hy=>sE y (fa hy))).join (sE _ (wj hi)),bd,gy hi (by omega),Bl _ _ _ hi]
 ·simp only[];rw[jI (by simp),bt,dF (cD _)];have hl:=Eo (w:=(w1,w2,w3,w4,w5,w6)) o e e.th;rw[Fn _ e.th (qO _ _ (o.T e.th) sE).lb ok.th4 hl.1 hl.2,bd];unfold HS.e at en;unfold rH at en hlen;rw[en,bd];simp only[];rw[bk (by rw[hlen.1,hlen.2.1,hlen.2.2.1,hlen.2.2.2.1,hlen.2.2.2.2.1,hlen.2.2.2.2.2.1,hlen.2.2.2.2.2.2.1,hlen.2.2.2.2.2.2.2];simp only[Et rfl,gw])];rfl
theorem Ao (w:WTp) (o:Nat) (h:o<w.2.2.1.length) (h0:0≤(w.2.2.1.getD o ([],0)).2):lH (w,(o:Int))=some ((uE w.2.2.1 o:Nat):Int):=by
 have e1:(w.2.2.1.getD o ([],0)).2=((uE w.2.2.1 o:Nat):Int):=by unfold uE;omega
 unfold lH;simp only[];rw[jI (by omega)];simp only[bt,cX];rw[kr (by simp;omega)];simp only[bt];rw[bk (bi h),yw,e1]
def wH (w:WTp) (e:EV):Int×Bool:=if e.k=6∨e.k=10 then ((e.ob:Int),false) else if e.k=8 then ((e.ob:Int),true) else if e.k=17 then ((uE w.2.2.1 e.ob:Nat),false) else (-1,false)
def uD (w:WTp) (e:EV):Int×Bool:=if e.k=7∨e.k=11 then ((e.ob:Int),false) else if e.k=9 then ((e.ob:Int),true) else if e.k=16 then ((uE w.2.2.1 e.ob:Nat),false) else (-1,false)
theorem GZ {w:WTp} {h:HS} {e:EV} (ok:Fy w h e) {x:ETp} (hx:Fx e x):jA (w,x)=some (wH w e):=by
 obtain⟨x1,x2,x3,x4,x5,x6,x7⟩:=x;obtain⟨w1,w2,w3,w4,w5,w6⟩:=w;obtain⟨th,k,ob,va⟩:=e;obtain⟨q1,q2,q3,q4⟩:=hx;simp only at q1 q2 q3 q4;subst q1 q4;unfold jA;rcases qI q2 ok.k1 ok.k2 with ⟨e,e'⟩|⟨e,e'⟩|⟨e,e'⟩|⟨e,e'⟩|⟨e,e'⟩|⟨e,e'⟩|⟨e,e'⟩|⟨e,e'⟩|⟨e,e'⟩|⟨e,e'⟩|⟨e,e'⟩|⟨e,e'⟩|⟨e,e'⟩|⟨e,e'⟩|⟨e,e'⟩|⟨e,e'⟩|⟨e,e'⟩|⟨e,e'⟩|⟨e,e'⟩|⟨e,e'⟩|⟨e,e'⟩|⟨e,e'⟩|⟨e,e'⟩<;>clear q2<;>subst e<;>subst e'
 case inr.inr.inr.inr.inr.inl=>
  obtain rfl:=q3 (by decide);simp only[aT,decide_false,decide_true,bm,bt,cX,bd];rfl
 case inr.inr.inr.inr.inr.inr.inr.inr.inr.inl=>
  obtain rfl:=q3 (by decide);simp only[aT,decide_false,decide_true,bm,bt,cX,bd];rfl
 case inr.inr.inr.inr.inr.inr.inr.inl=>
  obtain rfl:=q3 (by decide);simp only[aT,decide_false,decide_true,bm,bt,cX,bd];rfl
 case inr.inr.inr.inr.inr.inr.inr.inr.inr.inr.inr.inr.inr.inr.inr.inr.inl=>
  obtain rfl:=q3 (by decide);obtain⟨d1,d2,d3⟩:=ok.cd (.inr rfl);have mu:=Ao (w1,w2,w3,w4,w5,w6) ob d1 d2;simp only[aT,decide_false,decide_true,bm,bt,cX,bd,mu];rfl
 all_goals
  simp only[aT,decide_false,decide_true,bm,bt,cX,bd];rfl
theorem GD {w:WTp} {h:HS} {e:EV} (ok:Fy w h e) {x:ETp} (hx:Fx e x):jz (w,x)=some (uD w e):=by
 obtain⟨x1,x2,x3,x4,x5,x6,x7⟩:=x;obtain⟨w1,w2,w3,w4,w5,w6⟩:=w;obtain⟨th,k,ob,va⟩:=e;obtain⟨q1,q2,q3,q4⟩:=hx;simp only at q1 q2 q3 q4;subst q1 q4;unfold jz;rcases qI q2 ok.k1 ok.k2 with ⟨e,e'⟩|⟨e,e'⟩|⟨e,e'⟩|⟨e,e'⟩|⟨e,e'⟩|⟨e,e'⟩|⟨e,e'⟩|⟨e,e'⟩|⟨e,e'⟩|⟨e,e'⟩|⟨e,e'⟩|⟨e,e'⟩|⟨e,e'⟩|⟨e,e'⟩|⟨e,e'⟩|⟨e,e'⟩|⟨e,e'⟩|⟨e,e'⟩|⟨e,e'⟩|⟨e,e'⟩|⟨e,e'⟩|⟨e,e'⟩|⟨e,e'⟩<;>clear q2<;>subst e<;>subst e'
 case inr.inr.inr.inr.inr.inr.inl=>
  obtain rfl:=q3 (by decide);simp only[aT,decide_false,decide_true,bm,bt,cX,bd];rfl
 case inr.inr.inr.inr.inr.inr.inr.inr.inr.inr.inl=>
  obtain rfl:=q3 (by decide);simp only[aT,decide_false,decide_true,bm,bt,cX,bd];rfl
 case inr.inr.inr.inr.inr.inr.inr.inr.inl=>
  obtain rfl:=q3 (by decide);simp only[aT,decide_false,decide_true,bm,bt,cX,bd];rfl
 case inr.inr.inr.inr.inr.inr.inr.inr.inr.inr.inr.inr.inr.inr.inr.inl=>
  obtain rfl:=q3 (by decide);obtain⟨d1,d2,d3⟩:=ok.cd (.inl rfl);have mu:=Ao (w1,w2,w3,w4,w5,w6) ob d1 d2;simp only[aT,decide_false,decide_true,bm,bt,cX,bd,mu];rfl
 all_goals
  simp only[aT,decide_false,decide_true,bm,bt,cX,bd];rfl
def Bx (w:WTp) (h:HS) (e:EV):List Int:=
 if e.k=1 then jl [] (h.S.getD e.th [])
 else if e.k=21 then jl [] (h.T.getD e.ob [])
 else if e.k=6∨e.k=10 then jl (h.L.getD e.ob []) (h.R.getD e.ob [])
 else if e.k=8 then h.L.getD e.ob []
 else if e.k=17 then jl (jl (h.L.getD (uE w.2.2.1 e.ob) []) (h.R.getD (uE w.2.2.1 e.ob) [])) (h.N.getD e.th [])
 else if e.k=3 then jl [] (h.C.getD e.ob [])
 else if e.k=23 then jl [] (h.F.getD e.ob [])
 else if e.k=12 then jl [] h.X
 else []
theorem Fl {n:Int} {w:WTp} {h:HS} (o:yS n h) (e:EV):jl (h.T.getD e.th []) (Bx w h e)=(rf w h e).foldl jl (h.T.getD e.th []):=by
 unfold Bx rf;repeat' split
 all_goals simp only[uk,List.foldl_nil]
 ·rw[vL (o.S _)]
 ·rw[vL (o.T _)]
 ·rw[sD]
 ·rw[sD,sD,sD]
 ·rw[vL (o.C _)]
 ·rw[vL (o.F _)]
 ·rw[vL o.X]
 ·rw[F9 (o.T _)]
theorem Gj {n:Int} {w:WTp} {h:HS} (o:yS n h) (e:EV):En n (Bx w h e):=by
 have z:=En.nil o.n0;unfold Bx;repeat' split
 ·exact z.jl (o.S _)
 ·exact z.jl (o.T _)
 ·exact (o.L _).jl (o.R _)
 ·exact o.L _
 ·exact ((o.L _).jl (o.R _)).jl (o.N _)
 ·exact z.jl (o.C _)
 ·exact z.jl (o.F _)
 ·exact z.jl o.X
 ·exact z
theorem lj {n:Int} {a b:List Int} (ha:En n a) (hb:En n b):dz (a,b)=some (jl a b):=ha.join hb
theorem Af {n:Int} {w:WTp} {h:HS} (o:yS n h) {e:EV} (ok:Fy w h e) {x:ETp} (hx:Fx e x):gj ((w,h.X,x),h.T,h.S,h.L,h.R,h.C,h.F,h.N,h.W)=some (Bx w h e,h.T,h.S,h.L,h.R,h.C,h.F,h.N,h.W):=by
 have aq:=GZ ok hx;have z:=En.nil o.n0;obtain⟨x1,x2,x3,x4,x5,x6,x7⟩:=x;obtain⟨w1,w2,w3,w4,w5,w6⟩:=w;obtain⟨th,k,ob,va⟩:=e;obtain⟨q1,q2,q3,q4⟩:=hx;simp only at q1 q2 q3 q4;subst q1 q4;have t1:=ok.th;simp only at t1;have fS:aS (th:Int) h.S.length=true:=bi (by rw[o.lS];exact t1);have fN:aS (th:Int) h.N.length=true:=bi (by rw[o.lN];exact t1);unfold gj;simp only[];rw[aq,bd];clear aq;rcases qI q2 ok.k1 ok.k2 with ⟨e,e'⟩|⟨e,e'⟩|⟨e,e'⟩|⟨e,e'⟩|⟨e,e'⟩|⟨e,e'⟩|⟨e,e'⟩|⟨e,e'⟩|⟨e,e'⟩|⟨e,e'⟩|⟨e,e'⟩|⟨e,e'⟩|⟨e,e'⟩|⟨e,e'⟩|⟨e,e'⟩|⟨e,e'⟩|⟨e,e'⟩|⟨e,e'⟩|⟨e,e'⟩|⟨e,e'⟩|⟨e,e'⟩|⟨e,e'⟩|⟨e,e'⟩<;>clear q2<;>subst e<;>subst e'
 case inr.inr.inr.inr.inr.inl=>
  obtain rfl:=q3 (by decide);have f:ob<h.L.length:=ok.lk (by simp only[];omega);have f2:ob<h.R.length:=by rw[o.lR];exact f
  rw[show wH (w1,w2,w3,w4,w5,w6) ⟨th,6,ob,x4⟩=(((ob:Nat):Int),false) from rfl];simp only[fB (show (0:Int)≤((ob:Nat):Int) from bA _),gf (show ((ob:Nat):Int)<ah h.L.length from gu.2 f),aT,decide_false,decide_true,bm,bt,cX,bd,bk,bi f,bi f2,d9,cu,cF,lj (o.L _) (o.R _)];rfl
 case inr.inr.inr.inr.inr.inr.inr.inr.inr.inl=>
  obtain rfl:=q3 (by decide);have f:ob<h.L.length:=ok.lk (by simp only[];omega);have f2:ob<h.R.length:=by rw[o.lR];exact f
  rw[show wH (w1,w2,w3,w4,w5,w6) ⟨th,10,ob,x4⟩=(((ob:Nat):Int),false) from rfl];simp only[fB (show (0:Int)≤((ob:Nat):Int) from bA _),gf (show ((ob:Nat):Int)<ah h.L.length from gu.2 f),aT,decide_false,decide_true,bm,bt,cX,bd,bk,bi f,bi f2,d9,cu,cF,lj (o.L _) (o.R _)];rfl
 case inr.inr.inr.inr.inr.inr.inr.inl=>
  obtain rfl:=q3 (by decide);have f:ob<h.L.length:=ok.lk (by simp only[];omega);have f2:ob<h.R.length:=by rw[o.lR];exact f
  rw[show wH (w1,w2,w3,w4,w5,w6) ⟨th,8,ob,x4⟩=(((ob:Nat):Int),true) from rfl];simp only[fB (show (0:Int)≤((ob:Nat):Int) from bA _),gf (show ((ob:Nat):Int)<ah h.L.length from gu.2 f),aT,decide_false,decide_true,bm,bt,cX,bd,bk,bi f,bi f2,d9,cu,cF,lj (o.L _) (o.R _)];rfl
 case inr.inr.inr.inr.inr.inr.inr.inr.inr.inr.inr.inr.inr.inr.inr.inr.inl=>
  obtain rfl:=q3 (by decide);obtain⟨d1,d2,f⟩:=ok.cd (.inr rfl);simp only at d1 d2 f;have f2:uE w3 ob<h.R.length:=by rw[o.lR];exact f
  rw[show wH (w1,w2,w3,w4,w5,w6) ⟨th,17,ob,x4⟩=(((uE w3 ob:Nat):Int),false) from rfl];simp only[fB (show (0:Int)≤((uE w3 ob:Nat):Int) from bA _),gf (show ((uE w3 ob:Nat):Int)<ah h.L.length from gu.2 f),aT,decide_false,decide_true,bm,bt,cX,bd,bk,bi f,bi f2,d9,cu,cF,lj (o.L _) (o.R _),lj ((o.L _).jl (o.R _)) (o.N _),fN];rfl
 case inl=>
  rw[show wH (w1,w2,w3,w4,w5,w6) ⟨th,1,ob,x4⟩=(-1,false) from rfl];simp only[kr (show (-1:Int)<0 by decide),aT,decide_false,decide_true,bm,bt,cX,bd,bk,fS,d9,lj z (o.S _)];rfl
 case inr.inr.inr.inr.inr.inr.inr.inr.inr.inr.inr.inr.inr.inr.inr.inr.inr.inr.inr.inr.inl=>
  obtain rfl:=q3 (by decide);have f:aS (ob:Int) h.T.length=true:=bi (ok.sp (.inr rfl));rw[show wH (w1,w2,w3,w4,w5,w6) ⟨th,21,ob,x4⟩=(-1,false) from rfl];simp only[kr (show (-1:Int)<0 by decide),aT,decide_false,decide_true,bm,bt,cX,bd,bk,f,d9,lj z (o.T _)];rfl
 case inr.inr.inl=>
  obtain rfl:=q3 (by decide);have f:aS (ob:Int) h.C.length=true:=bi (ok.ce (.inl rfl)).1;rw[show wH (w1,w2,w3,w4,w5,w6) ⟨th,3,ob,x4⟩=(-1,false) from rfl];simp only[kr (show (-1:Int)<0 by decide),aT,decide_false,decide_true,bm,bt,cX,bd,bk,f,d9,lj z (o.C _)];rfl
 case inr.inr.inr.inr.inr.inr.inr.inr.inr.inr.inr.inr.inr.inr.inr.inr.inr.inr.inr.inr.inr.inr=>
  obtain rfl:=q3 (by decide);have f:aS (ob:Int) h.F.length=true:=bi (ok.fu (.inr rfl));rw[show wH (w1,w2,w3,w4,w5,w6) ⟨th,23,ob,x4⟩=(-1,false) from rfl];simp only[kr (show (-1:Int)<0 by decide),aT,decide_false,decide_true,bm,bt,cX,bd,bk,f,d9,lj z (o.F _)];rfl
 case inr.inr.inr.inr.inr.inr.inr.inr.inr.inr.inr.inl=>
  rw[show wH (w1,w2,w3,w4,w5,w6) ⟨th,12,ob,x4⟩=(-1,false) from rfl];simp only[kr (show (-1:Int)<0 by decide),aT,decide_false,decide_true,bm,bt,cX,bd,bk,lj z o.X];rfl
 all_goals
  simp only[wH,Nat.reduceEqDiff,or_self,if_false,reduceIte,kr (show (-1:Int)<0 by decide),aT,decide_false,decide_true,bm,bt,cX,bd];rfl
theorem yI {n:Int} {w:WTp} {h:HS} (o:yS n h) {e:EV} (ok:Fy w h e) {x:ETp} (hx:Fx e x):gE ((w,h.X,x),h.T,h.S,h.L,h.R,h.C,h.F,h.N,h.W)=some (Bx w h e):=by
 unfold gE;rw[Af o ok hx,bd,EP rfl]
theorem DI {n:Int} {w:WTp} {h:HS} (o:yS n h) (hn:n+1≤1000000) {e:EV} (ok:Fy w h e) {x:ETp} (hx:Fx e x):lD (w,h.t,x)=some ((rV w h e).1.t,(rV w h e).2):=by
 have ar:=yI o ok hx;have rl:=GD ok hx;have hc:En (n+1) (rH w h e):=wB o ok.th4;have cp:=yc h.t o.GH;have js:dz (h.T.getD e.th [],Bx w h e)=some ((rf w h e).foldl jl (h.T.getD e.th [])):=by rw[lj (o.T _) (Gj o e),Fl o]
 have hl:=Eo (w:=w) o e e.th;have tick:kn ((rf w h e).foldl jl (h.T.getD e.th []),(e.th:Int))=some (rH w h e):=AX _ e.th (qO _ _ (o.T e.th) (xX o e)).lb ok.th4 hl.1 hl.2;have cl:=Ar (rH w h e) hc.lb;have m:n≤n+1:=by omega
 unfold rV;generalize rH w h e=c at hc tick cl ⊢;obtain⟨x1,x2,x3,x4,x5,x6,x7⟩:=x;obtain⟨w1,w2,w3,w4,w5,w6⟩:=w;obtain⟨th,k,ob,va⟩:=e;obtain⟨q1,q2,q3,q4⟩:=hx;simp only at q1 q2 q3 q4;subst q1 q4;have t1:=ok.th;simp only at t1 js tick;have fT:aS (th:Int) h.T.length=true:=bi t1;have fW:aS (th:Int) h.W.length=true:=bi (by rw[o.lW];exact t1);unfold HS.t at cp;simp only[] at cp;unfold lD qL HS.t;simp only[];rw[cp,bd];simp only[];rw[bk fT,bk fT,ar,bd,d9,js,bd,tick,bd,cl,bd,bk fT,bk fT,rl,bd,cw];clear ar rl js tick cp;rcases qI q2 ok.k1 ok.k2 with ⟨e,e'⟩|⟨e,e'⟩|⟨e,e'⟩|⟨e,e'⟩|⟨e,e'⟩|⟨e,e'⟩|⟨e,e'⟩|⟨e,e'⟩|⟨e,e'⟩|⟨e,e'⟩|⟨e,e'⟩|⟨e,e'⟩|⟨e,e'⟩|⟨e,e'⟩|⟨e,e'⟩|⟨e,e'⟩|⟨e,e'⟩|⟨e,e'⟩|⟨e,e'⟩|⟨e,e'⟩|⟨e,e'⟩|⟨e,e'⟩|⟨e,e'⟩<;>clear q2<;>subst e<;>subst e'
 case inr.inr.inr.inr.inr.inr.inl=>
  obtain rfl:=q3 (by decide);have f:ob<h.L.length:=ok.lk (by simp only[];omega);have f2:ob<h.R.length:=by rw[o.lR];exact f
  rw[show uD (w1,w2,w3,w4,w5,w6) ⟨th,7,ob,x4⟩=(((ob:Nat):Int),false) from rfl];simp only[fB (show (0:Int)≤((ob:Nat):Int) from bA _),gf (show ((ob:Nat):Int)<ah h.L.length from gu.2 f),aT,decide_false,decide_true,bm,bt,cX,bd,bk,cw,bi f,bi f2,d9,lj ((o.L.mono m) _) hc];rfl
 case inr.inr.inr.inr.inr.inr.inr.inr.inr.inr.inl=>
  obtain rfl:=q3 (by decide);have f:ob<h.L.length:=ok.lk (by simp only[];omega);have f2:ob<h.R.length:=by rw[o.lR];exact f
  rw[show uD (w1,w2,w3,w4,w5,w6) ⟨th,11,ob,x4⟩=(((ob:Nat):Int),false) from rfl];simp only[fB (show (0:Int)≤((ob:Nat):Int) from bA _),gf (show ((ob:Nat):Int)<ah h.L.length from gu.2 f),aT,decide_false,decide_true,bm,bt,cX,bd,bk,cw,bi f,bi f2,d9,lj ((o.L.mono m) _) hc];rfl
 case inr.inr.inr.inr.inr.inr.inr.inr.inl=>
  obtain rfl:=q3 (by decide);have f:ob<h.L.length:=ok.lk (by simp only[];omega);have f2:ob<h.R.length:=by rw[o.lR];exact f
  rw[show uD (w1,w2,w3,w4,w5,w6) ⟨th,9,ob,x4⟩=(((ob:Nat):Int),true) from rfl];simp only[fB (show (0:Int)≤((ob:Nat):Int) from bA _),gf (show ((ob:Nat):Int)<ah h.L.length from gu.2 f),aT,decide_false,decide_true,bm,bt,cX,bd,bk,cw,bi f,bi f2,d9,lj ((o.R.mono m) _) hc];rfl
 case inr.inr.inr.inr.inr.inr.inr.inr.inr.inr.inr.inr.inr.inr.inr.inl=>
  obtain rfl:=q3 (by decide);obtain⟨d1,d2,f⟩:=ok.cd (.inl rfl);simp only at d1 d2 f;have f2:uE w3 ob<h.R.length:=by rw[o.lR];exact f
  rw[show uD (w1,w2,w3,w4,w5,w6) ⟨th,16,ob,x4⟩=(((uE w3 ob:Nat):Int),false) from rfl];simp only[fB (show (0:Int)≤((uE w3 ob:Nat):Int) from bA _),gf (show ((uE w3 ob:Nat):Int)<ah h.L.length from gu.2 f),aT,decide_false,decide_true,bm,bt,cX,bd,bk,cw,bi f,bi f2,d9,lj ((o.L.mono m) _) hc,fW];rfl
 case inr.inr.inr.inr.inr.inr.inr.inr.inr.inr.inr.inr.inr.inr.inr.inr.inr.inr.inr.inl=>
  obtain rfl:=q3 (by decide);have f:aS (ob:Int) h.S.length=true:=bi (by rw[o.lS];exact ok.sp (.inl rfl));rw[show uD (w1,w2,w3,w4,w5,w6) ⟨th,20,ob,x4⟩=(-1,false) from rfl];simp only[kr (show (-1:Int)<0 by decide),aT,decide_false,decide_true,bm,bt,cX,bd,bk,cw,cl,f];rfl
 case inr.inr.inr.inl=>
  obtain rfl:=q3 (by decide);obtain⟨d1,d2⟩:=ok.ce (.inr rfl);simp only at d1 d2;rw[show uD (w1,w2,w3,w4,w5,w6) ⟨th,4,ob,x4⟩=(-1,false) from rfl];simp only[kr (show (-1:Int)<0 by decide),aT,decide_false,decide_true,bm,bt,cX,bd,bk,cw,bi d2,B4];cases hv:(w1.getD ob ([],0,0,false,0)).2.2.2.1 with
  |true=>
   simp only[aT,decide_false,decide_true,bm,bt,cX,bd,bk,cw,bi d1,d9,lj ((o.C.mono m) _) hc];have hE:pK (w1,w2,w3,w4,w5,w6) h ⟨th,4,ob,x4⟩ c=if xS w1 ob then {h with T:=h.T.set th c,C:=jat h.C ob c} else {h with T:=h.T.set th c}:=rfl
   rw[hE,show xS w1 ob=true from hv];rfl
  |false=>
   simp only[bt,cX];have hE:pK (w1,w2,w3,w4,w5,w6) h ⟨th,4,ob,x4⟩ c=if xS w1 ob then {h with T:=h.T.set th c,C:=jat h.C ob c} else {h with T:=h.T.set th c}:=rfl
   rw[hE,show xS w1 ob=false from hv];rfl
 case inr.inr.inr.inr.inr.inr.inr.inr.inr.inr.inr.inr.inr.inr.inr.inr.inr.inr.inr.inr.inr.inl=>
  obtain rfl:=q3 (by decide);have f:aS (ob:Int) h.F.length=true:=bi (ok.fu (.inl rfl));rw[show uD (w1,w2,w3,w4,w5,w6) ⟨th,22,ob,x4⟩=(-1,false) from rfl];simp only[kr (show (-1:Int)<0 by decide),aT,decide_false,decide_true,bm,bt,cX,bd,bk,cw,f,d9,lj ((o.F.mono m) _) hc];rfl
 case inr.inr.inr.inr.inr.inr.inr.inr.inr.inr.inr.inr.inl=>
  rw[show uD (w1,w2,w3,w4,w5,w6) ⟨th,13,ob,x4⟩=(-1,false) from rfl];simp only[kr (show (-1:Int)<0 by decide),aT,decide_false,decide_true,bm,bt,cX,bd,bk,cw,lj (o.X.mono m) hc];rfl
 case inr.inr.inr.inr.inr.inr.inr.inr.inr.inr.inr.inr.inr.inr.inr.inr.inr.inl=>
  rw[show uD (w1,w2,w3,w4,w5,w6) ⟨th,18,ob,x4⟩=(-1,false) from rfl];simp only[kr (show (-1:Int)<0 by decide),aT,decide_false,decide_true,bm,bt,cX,bd,bk,cw,uj];have hE:pK (w1,w2,w3,w4,w5,w6) h ⟨th,18,ob,x4⟩ c=if 0≤x4∧x4<h.N.length then {h with T:=h.T.set th c,N:=h.N.set x4.toNat c,W:=h.W.set x4.toNat (-1)} else {h with T:=h.T.set th c}:=rfl
  rw[hE];by_cases h0:0≤x4
  ·by_cases h1:x4<h.N.length
   ·have h2:x4<ah h.T.length:=by rw[← o.lN];exact h1
    rw[fB h0];simp only[bm,cX];rw[gf h2];obtain⟨v,rfl⟩:∃ v:Nat,x4=(v:Int):=⟨x4.toNat,by omega⟩
    have v1:v<h.N.length:=by omega
    have v2:v<h.W.length:=by rw[o.lW,←o.lN];exact v1
    simp only[aT,decide_false,decide_true,bm,bt,cX,bd,bk,cw,cl,bi v1,bi v2];rw[if_pos ⟨h0,h1⟩];rfl
   ·have h2:ah h.T.length≤x4:=by rw[← o.lN];exact Int.not_lt.1 h1
    rw[fB h0];simp only[bm,cX];rw[jI h2];simp only[bt,cX];rw[if_neg (fun q=>h1 q.2)]
  ·rw[kr (by omega)];simp only[bt,cX];rw[if_neg (fun q=>h0 q.1)]
 case inr.inr.inr.inr.inr.inr.inr.inr.inr.inr.inr.inr.inr.inr.inr.inr.inr.inr.inl=>
  obtain rfl:=q3 (by decide);rw[show uD (w1,w2,w3,w4,w5,w6) ⟨th,19,ob,x4⟩=(-1,false) from rfl];simp only[kr (show (-1:Int)<0 by decide),aT,decide_false,decide_true,bm,bt,cX,bd,bk,cw];rw[tQ (r:=af (h.X,h.T.set th c,h.S,h.L,h.R,h.C,h.F,ta (fun u=>decide (h.W.getD u 0=(ob:Int))) c h.W.length h.N,ta (fun u=>decide (h.W.getD u 0=(ob:Int))) (-1) h.W.length h.W)) h.W.length (by have:=o.lW;have:=o.lT;omega)
   (fun i=>((i:Int),h.X,((th:Int),(19:Int),(ob:Int),x4,x5,x6,x7),h.T.set th c,h.S,h.L,h.R,h.C,h.F,ta (fun u=>decide (h.W.getD u 0=(ob:Int))) c i h.N,ta (fun u=>decide (h.W.getD u 0=(ob:Int))) (-1) i h.W)) ?_ ?_ ?_]
  ·simp only[cX];rw[rS _ _ _ h.W (cD _),rS _ _ _ h.N (by rw[o.lN,o.lW];exact cD _)];rfl
  ·simp only[yU];rfl
  ·intro i hi;simp only[];have hN:i<(ta (fun u=>decide (h.W.getD u 0=(ob:Int))) c i h.N).length:=by rw[pl,o.lN,←o.lW];exact hi
   have hW:i<(ta (fun u=>decide (h.W.getD u 0=(ob:Int))) (-1) i h.W).length:=by rw[pl];exact hi
   rw[gf (by simp;omega),bm,bk (bi hW),bk (bi hW),Eg,Dr];have ws:=gy hi (show h.W.length≤1099511627776 by have:=o.lW;have:=o.lT;omega);by_cases hp:h.W.getD i 0=(ob:Int)
   ·rw[decide_eq_true hp,bm,bk (bi hN),bk (bi hN),bk (bi hW),bk (bi hW),cX,cw,cw,ws,uV _ _ _ _ (decide_eq_true hp),uV _ _ _ _ (decide_eq_true hp)]
   ·rw[decide_eq_false hp,bt,cX,ws,←rR _ _ _ _ (decide_eq_false hp),←rR _ _ _ _ (decide_eq_false hp)]
  ·simp only[];rw[jI (by simp),bt]
 all_goals
  simp only[uD,Nat.reduceEqDiff,or_self,if_false,reduceIte,kr (show (-1:Int)<0 by decide),aT,decide_false,decide_true,bm,bt,cX,bd,bk,cw];rfl
def Ok {R:Type} (o:Option R) (Q:R→Prop):Prop:=∃ y,o=some y∧Q y
theorem Ok.mono {R:Type} {o:Option R} {Q Q':R→Prop} (h:Ok o Q) (hq:∀ y,Q y→Q' y):Ok o Q':=by obtain⟨y,h1,h2⟩:=h;exact⟨y,h1,hq y h2⟩
theorem ai {R:Type} {y:R} {Q:R→Prop} (h:Q y):Ok (some y) Q:=⟨y,rfl,h⟩
theorem bf {R:Type} {b:Bool} {k:Option R} {Q:R→Prop} (h:b=true) (hk:Ok k Q):Ok (chk b fun _=>k) Q:=by subst h;exact hk
theorem ax {R:Type} {b:Bool} {t f:Option R} {Q:R→Prop} (ht:b=true→Ok t Q) (hf:b=false→Ok f Q):Ok (bcase b t f) Q:=by
 cases b with
 |true=>exact ht rfl
 |false=>exact hf rfl
theorem b7 {R:Type} {b:Bool} {t f:Option R} {Q:R→Prop} (h:b=true) (ht:Ok t Q):Ok (bcase b t f) Q:=by subst h;exact ht
theorem dq {R:Type} {b:Bool} {t f:Option R} {Q:R→Prop} (h:b=false) (hf:Ok f Q):Ok (bcase b t f) Q:=by subst h;exact hf
theorem al {α R:Type} {o:Option α} {k:α→Option R} {P:α→Prop} {Q:R→Prop} (h:Ok o P) (hk:∀ x,P x→Ok (k x) Q):Ok (obind o k) Q:=by
 obtain⟨x,rfl,hx⟩:=h;exact hk x hx
theorem bC {α R:Type} {o:Option α} {k:α→Option R} {x:α} {Q:R→Prop} (h:o=some x) (hk:Ok (k x) Q):Ok (obind o k) Q:=by subst h;exact hk
theorem aL {α R:Type} {x:α} {k:α→Option R} {Q:R→Prop} (h:Ok (k x) Q):Ok (lt x k) Q:=h
theorem bn {α R:Type} {o:Option (R⊕α)} {k:α→Option R} {Q:R→Prop} (P:α→Prop) (h:Ok o fun r=>match r with|.inl r=>Q r|.inr x=>P x) (hk:∀ x,P x→Ok (k x) Q):Ok (jn o k) Q:=by
 obtain⟨r,rfl,hr⟩:=h;cases r with
 |inl r=>exact⟨r,rfl,hr⟩
 |inr x=>exact hk x hr
theorem ba {α R:Type} {o:Option (R⊕α)} {k:α→Option R} {Q:R→Prop} (h:Ok o fun r=>match r with|.inl r=>Q r|.inr x=>Ok (k x) Q):Ok (jn o k) Q:=bn (fun x=>Ok (k x) Q) h fun _ h=>h
theorem EX {α R:Type} {a b:α} {r:Option R} {Q:R→Prop} (e:a=b) (h:Ok r Q):Ok (same a b r) Q:=by unfold same;rw[if_pos e];exact h
theorem kz {σ R:Type} {f:σ→Option (σ⊕R)} {Q:R→Prop} (μ:σ→Nat) (I:σ→Prop) (h:∀ x,I x→Ok (f x) fun r=>match r with|.inl y=>I y∧μ y<μ x|.inr r=>Q r) {x:σ} (hx:I x):Ok (iter f x) Q:=by
 have key:∀ n x,μ x<n→I x→∃ m r,iterN f m x=some r∧Q r:=by
  intro n;induction n with
  |zero=>intro x hm;omega
  |succ n ih=>
   intro x hm hx;obtain⟨r,h1,h2⟩:=h x hx;cases r with
   |inl y=>
    obtain⟨m,r,h3,h4⟩:=ih y (by have:=h2.2;omega) h2.1;exact⟨m+1,r,by rw[iterN,h1];exact h3,h4⟩
   |inr r=>exact⟨1,r,by rw[iterN,h1],h2⟩
 obtain⟨m,r,h1,h2⟩:=key (μ x+1) x (rL _) hx;exact⟨r,v8 h1,h2⟩
theorem bY {σ R:Type} {f:σ→Option (σ⊕R)} {Q:R→Prop} (n:Nat) (I:Nat→σ→Prop) (h0:∀ i x,i<n→I i x→Ok (f x) fun r=>match r with|.inl y=>I (i+1) y|.inr r=>Q r) (h1:∀ x,I n x→Ok (f x) fun r=>match r with|.inl _=>False|.inr r=>Q r) {x:σ} (hx:I 0 x):Ok (iter f x) Q:=by
 have key:∀ m i x,i+m=n→I i x→∃ k r,iterN f k x=some r∧Q r:=by
  intro m;induction m with
  |zero=>
   intro i x hi hx;have:i=n:=by omega
   subst this;obtain⟨r,g1,g2⟩:=h1 x hx;cases r with
   |inl y=>exact g2.elim
   |inr r=>exact⟨1,r,by rw[iterN,g1],g2⟩
  |succ m ih=>
   intro i x hi hx;obtain⟨r,g1,g2⟩:=h0 i x (by omega) hx;cases r with
   |inl y=>
    obtain⟨k,r,g3,g4⟩:=ih (i+1) y (by omega) g2;exact⟨k+1,r,by rw[iterN,g1];exact g3,g4⟩
   |inr r=>exact⟨1,r,by rw[iterN,g1],g2⟩
 obtain⟨m,r,g1,g2⟩:=key n 0 x (by omega) hx;exact⟨r,v8 g1,g2⟩
theorem E8 {j:Int} {n:Nat}:aS j n=true↔0≤j∧j<n:=by simp[aS,b9,bz]
theorem B3 {a b:Int}:b9 a b=true↔a≤b:=by simp[b9]
theorem og {a b:Int}:bz a b=true↔a<b:=by simp[bz]
theorem o8 {a b:Int}:bz a b=false↔b≤a:=by simp[bz]
theorem o9 {a b:Int}:b9 a b=false↔b<a:=by simp[b9]
theorem Cr {n b:Nat}:aZ n b=true↔n≤1099511627776∧n*b≤1099511627776:=by simp[aZ]
theorem ii {R:Type} {o:Option R} {v:R} (h:Ok o (·=v)):o=some v:=by obtain⟨y,h1,h2⟩:=h;rw[h1,h2]
section steps
variable {R:Type} {k t f:Option R} {Q:R→Prop}
theorem aA {j:Int} {n:Nat} (h0:0≤j) (h1:j<n) (hk:Ok k Q):Ok (chk (aS j n) fun _=>k) Q:=bf (E8.2 ⟨h0,h1⟩) hk
theorem aK {n b:Nat} (h0:n≤1073741824) (h1:b≤1024) (hk:Ok k Q):Ok (chk (aZ n b) fun _=>k) Q:=
 bf (Cr.2 ⟨by omega,cO (Nat.mul_le_mul h0 h1) (by omega)⟩) hk
theorem aQ {a b:Bool} (h:Ok (chk a fun _=>chk b fun _=>k) Q):Ok (chk (a&&b) fun _=>k) Q:=by
 cases a with
 |true=>exact h
 |false=>obtain⟨y,h,_⟩:=h;cases h
theorem aU {a b:Int} (h:a≤b) (hk:Ok k Q):Ok (chk (b9 a b) fun _=>k) Q:=bf (B3.2 h) hk
theorem a8 {a b:Int} (h:a<b) (hk:Ok k Q):Ok (chk (bz a b) fun _=>k) Q:=bf (og.2 h) hk
theorem a9 {p:Prop} {i:Decidable p} (h:p) (hk:Ok k Q):Ok (chk (decide p) fun _=>k) Q:=bf (decide_eq_true h) hk
theorem aR {p:Prop} {i:Decidable p} (h:¬p) (hk:Ok k Q):Ok (chk (!decide p) fun _=>k) Q:=bf (by simp[h]) hk
theorem aV {a b:Nat} (h:a=b) (hk:Ok k Q):Ok (chk (av a b) fun _=>k) Q:=bf (by subst h;exact nW a) hk
theorem bE (hk:Ok k Q):Ok (chk true fun _=>k) Q:=hk
theorem aG {a b:Int} (ht:a<b→Ok t Q) (hf:b≤a→Ok f Q):Ok (bcase (bz a b) t f) Q:=ax (fun h=>ht (og.1 h)) (fun h=>hf (o8.1 h))
theorem be {a b:Int} (ht:a≤b→Ok t Q) (hf:b<a→Ok f Q):Ok (bcase (b9 a b) t f) Q:=ax (fun h=>ht (B3.1 h)) (fun h=>hf (o9.1 h))
theorem aE {p:Prop} {i:Decidable p} (ht:p→Ok t Q) (hf:¬p→Ok f Q):Ok (bcase (decide p) t f) Q:=ax (fun h=>ht (of_decide_eq_true h)) (fun h=>hf (of_decide_eq_false h))
theorem aP {p:Prop} {i:Decidable p} (ht:¬p→Ok t Q) (hf:p→Ok f Q):Ok (bcase (!decide p) t f) Q:=ax (fun h=>ht (by simpa using h)) (fun h=>hf (by simpa using h))
theorem aX {b:Bool} (ht:b=false→Ok t Q) (hf:b=true→Ok f Q):Ok (bcase (!b) t f) Q:=ax (fun h=>ht (by simpa using h)) (fun h=>hf (by simpa using h))
theorem bK (ht:Ok t Q):Ok (bcase true t f) Q:=ht
theorem bL (hf:Ok f Q):Ok (bcase false t f) Q:=hf
end steps
theorem ux {R:Type} (t f:Option R):bcase true t f=t:=rfl
theorem uc {R:Type} (t f:Option R):bcase false t f=f:=rfl
theorem zF {α R:Type} (x:α) (k:α→Option R):jn (some (.inr x)) k=k x:=rfl
theorem AG {α R:Type} (r:R) (k:α→Option R):jn (some (.inl r)) k=some r:=rfl
theorem tB {α R:Type} (x:α) (k:α→Option R):obind (some x) k=k x:=rfl
theorem AF {α R:Type} (x:α) (k:α→Option R):lt x k=k x:=rfl
theorem xy {k:Int}:k=1∨k=2∨k=3∨k=4∨k=5∨k=6∨k=7∨k=8∨k=9∨k=10∨k=11∨k=12∨k=13∨k=14∨k=15∨k=16∨k=17∨k=18∨k=19∨k=20∨k=21∨k=22∨k=23∨((∀ j:Int,1≤j→j≤23→(k=j)=False)∧(k<1∨23<k)):=by
 by_cases h:1≤k∧k≤23
 ·omega
 ·have:(∀ j:Int,1≤j→j≤23→(k=j)=False)∧(k<1∨23<k):=⟨fun j h1 h2=>eq_false (by omega),by omega⟩
  repeat (first|exact this|refine Or.inr ?_)
theorem io {n:Int} (h0: -9223372036854775808≤n) (h1:n≤9223372036854775807):aJ .i64 n=n:=by
 rw[uU];unfold xj;simp[b9,h0,h1]
theorem hJ {i:Nat} (h:i<9223372036854775807):aJ .i64 ((i:Int)+1)=((i+1:Nat):Int):=by rw[io (by omega) (by omega)];omega
theorem Gd {T:Ty} (xs:List T.den) (i:Nat):aB xs (i:Int)=xs.getD i T.zero:=by unfold aB;simp
theorem Fa (xs:List Int) (i:Nat):aB (T:=.int .i64) xs (i:Int)=xs.getD i 0:=Gd (T:=.int .i64) xs i
theorem bZ {T:Ty} {xs:List T.den} {j:Int} (h0:0≤j) (h1:j<xs.length):aB xs j∈xs:=by
 unfold aB;rw[aN,aw (by omega)];exact nY _
theorem cJ {α:Type} (xs:List α) (j:Int) (x:α):(ch xs j x).length=xs.length:=by unfold ch;simp
theorem vr {α:Type} {xs:List α} {j:Int} {x y:α} (h:y∈ch xs j x):y∈xs∨y=x:=List.mem_or_eq_of_mem_set h
abbrev WT:Type:=List (List UInt8×Int×Int×Bool×Int)×List (List UInt8×Bool)×List (List UInt8×Int)×List (List UInt8)×List (List UInt8)×List (Int×Int×Int)
abbrev SY:Type:=List (Int×List Int)×Int×List Bool×List (Int×Int×Bool)
theorem Ec (a b:Int):kI (a,b)=some (decide (0≤a∧a<b)):=by
 refine ii ?_;unfold kI;with_reducible repeat' first|apply aQ|apply aA|apply aK|apply aU|apply a8|apply a9|apply aR|apply aV|apply bE|apply aL|apply bK|apply bL|refine aG (fun _=>?_) fun _=>?_|refine be (fun _=>?_) fun _=>?_|refine aE (fun _=>?_) fun _=>?_|refine aP (fun _=>?_) fun _=>?_|refine aX (fun _=>?_) fun _=>?_|refine ax (fun _=>?_) fun _=>?_|apply ba|apply ai
 ·by_cases h:a<b<;>simp[*,bz]
 ·simp;omega
theorem BH (l:List Int) (n:Int) (hl:l.length≤1000000):kJ (l,n)=some (l.contains n):=by
 refine ii ?_;unfold kJ;refine bY l.length (fun i x=>x=(i:Int)∧∀ k,k<i→l.getD k 0≠n) ?_ ?_ ⟨rfl,fun k hk=>by omega⟩
 ·rintro i x hi ⟨rfl,hx⟩;with_reducible repeat' first|apply aQ|apply aA|apply aK|apply aU|apply a8|apply a9|apply aR|apply aV|apply bE|apply aL|apply bK|apply bL|refine aG (fun _=>?_) fun _=>?_|refine be (fun _=>?_) fun _=>?_|refine aE (fun _=>?_) fun _=>?_|refine aP (fun _=>?_) fun _=>?_|refine aX (fun _=>?_) fun _=>?_|refine ax (fun _=>?_) fun _=>?_|apply ba|apply ai
  all_goals try simp only[aj,decide_eq_true_eq,true_or,or_true,true_implies,true_and,and_true] at*
  ·omega
  ·omega
  ·rename_i h;rw[Fa] at h;show true=_
   symm
   rw[iQ,←h,aN,aw hi];exact nY _
  ·rename_i h;rw[Fa] at h;refine ⟨hJ (by omega),fun k hk=>?_⟩;rcases cA k i with h1|h1
   ·exact hx k h1
   ·rw[show k=i by omega];exact h
  ·omega
 ·rintro x ⟨rfl,hx⟩;with_reducible repeat' first|apply aQ|apply aA|apply aK|apply aU|apply a8|apply a9|apply aR|apply aV|apply bE|apply aL|apply bK|apply bL|refine aG (fun _=>?_) fun _=>?_|refine be (fun _=>?_) fun _=>?_|refine aE (fun _=>?_) fun _=>?_|refine aP (fun _=>?_) fun _=>?_|refine aX (fun _=>?_) fun _=>?_|refine ax (fun _=>?_) fun _=>?_|apply ba|apply ai
  all_goals try simp only[aj,decide_eq_true_eq,true_or,or_true,true_implies,true_and,and_true] at*
  ·omega
  ·omega
  ·omega
  ·omega
  ·symm
   rw[Bool.eq_false_iff];intro hc;rw[iQ] at hc;obtain⟨k,hk,he⟩:=List.getElem_of_mem hc;exact hx k hk (by rw[aN,aw hk];exact he)
theorem kg {T:Ty} {xs:List T.den} {p:T.den→Prop} (h:∀ k:Nat,k<aa xs→p (aB xs (k:Int))):∀ c∈xs,p c:=fun c hc=>by
 obtain⟨k,hk,he⟩:=List.getElem_of_mem hc;have:=h k hk;rw[Gd,aN,aw hk,rK,he] at this;exact this
theorem yO (w:WT) (s:SY) (hw:w.2.2.1.length≤1000000):Ok (lM (w,s)) fun b=>b=true→(∀ c∈w.2.2.1,0≤c.2∧c.2<w.2.1.length)∧s.1.length=w.2.1.length∧s.2.2.1.length=w.2.2.2.1.length∧s.2.2.2.length=w.2.2.2.2.1.length:=by
 unfold lM;refine bY w.2.2.1.length (fun i x=>x.1=(i:Int)∧x.2=(w,s)∧∀ k:Nat,k<i→0≤(aB (T:=(.st (.pr .str (.int .i64)))) w.2.2.1 (k:Int)).2∧(aB (T:=(.st (.pr .str (.int .i64)))) w.2.2.1 (k:Int)).2<w.2.1.length) ?_ ?_ ⟨rfl,rfl,fun k hk=>by omega⟩
 ·rintro i ⟨x1,x2⟩ hi ⟨hx1,hx2,hx⟩;dsimp only at hx1 hx2;subst hx1;subst hx2;with_reducible repeat' first|apply aQ|apply aA|apply aK|apply aU|apply a8|apply a9|apply aR|apply aV|apply bE|apply aL|apply bK|apply bL|refine aG (fun _=>?_) fun _=>?_|refine be (fun _=>?_) fun _=>?_|refine aE (fun _=>?_) fun _=>?_|refine aP (fun _=>?_) fun _=>?_|refine aX (fun _=>?_) fun _=>?_|refine ax (fun _=>?_) fun _=>?_|apply ba|apply ai
  all_goals try simp only[aj,decide_eq_true_eq,true_or,or_true,true_implies,true_and,and_true] at*
  all_goals first|omega|skip
  ·intro h;cases h
  ·intro h;cases h
  ·refine ⟨hJ (by omega),fun k hk=>?_⟩;rcases cA k i with h1|h1
   ·exact hx k h1
   ·rename_i h2 h3;rw[show k=i by omega];exact⟨h2,h3⟩
 ·rintro⟨x1,x2⟩ ⟨hx1,hx2,hx⟩;dsimp only at hx1 hx2;subst hx1;subst hx2;with_reducible repeat' first|apply aQ|apply aA|apply aK|apply aU|apply a8|apply a9|apply aR|apply aV|apply bE|apply aL|apply bK|apply bL|refine aG (fun _=>?_) fun _=>?_|refine be (fun _=>?_) fun _=>?_|refine aE (fun _=>?_) fun _=>?_|refine aP (fun _=>?_) fun _=>?_|refine aX (fun _=>?_) fun _=>?_|refine ax (fun _=>?_) fun _=>?_|apply ba|apply ai
  all_goals try simp only[aj,decide_eq_true_eq,true_or,or_true,true_implies,true_and,and_true] at*
  all_goals first|omega|skip
  refine al (P:=fun b=>b=true→s.1.length=w.2.1.length∧s.2.2.1.length=w.2.2.2.1.length∧s.2.2.2.length=w.2.2.2.2.1.length) ?_ ?_
  ·with_reducible repeat' first|apply aQ|apply aA|apply aK|apply aU|apply a8|apply a9|apply aR|apply aV|apply bE|apply aL|apply bK|apply bL|refine aG (fun _=>?_) fun _=>?_|refine be (fun _=>?_) fun _=>?_|refine aE (fun _=>?_) fun _=>?_|refine aP (fun _=>?_) fun _=>?_|refine aX (fun _=>?_) fun _=>?_|refine ax (fun _=>?_) fun _=>?_|apply ba|apply ai
   all_goals try simp only[aj,decide_eq_true_eq,true_or,or_true,true_implies,true_and,and_true] at*
   ·intro h;omega
   ·intro h;cases h
   ·intro h;cases h
  ·intro b hb;with_reducible repeat' first|apply aQ|apply aA|apply aK|apply aU|apply a8|apply a9|apply aR|apply aV|apply bE|apply aL|apply bK|apply bL|refine aG (fun _=>?_) fun _=>?_|refine be (fun _=>?_) fun _=>?_|refine aE (fun _=>?_) fun _=>?_|refine aP (fun _=>?_) fun _=>?_|refine aX (fun _=>?_) fun _=>?_|refine ax (fun _=>?_) fun _=>?_|apply ba|apply ai
   exact fun h=>⟨kg (T:=(.st (.pr .str (.int .i64)))) hx,hb h⟩
structure NM (w:WT) (k o:Int):Prop where
 k1:1≤k
 k2:k≤23
 ce:k=3∨k=4→0≤o∧o<w.1.length
 lk:6≤k∧k≤11→0≤o∧o<w.2.1.length
 cd:16≤k∧k≤19→0≤o∧o<w.2.2.1.length
 th:k=20∨k=21→0≤o∧o<w.2.2.2.2.1.length
 fu:k=22∨k=23→0≤o∧o<w.2.2.2.1.length
theorem DX (w:WT) (k o:Int):Ok (nz (w,k,o)) fun b=>b=true→NM w k o:=by
 unfold nz;rcases @xy k with rfl|rfl|rfl|rfl|rfl|rfl|rfl|rfl|rfl|rfl|rfl|rfl|rfl|rfl|rfl|rfl|rfl|rfl|rfl|rfl|rfl|rfl|rfl|⟨hk,hk2⟩
 case inr.inr.inr.inr.inr.inr.inr.inr.inr.inr.inr.inr.inr.inr.inr.inr.inr.inr.inr.inr.inr.inr.inr=>
  simp only[hk 1 (by decide) (by decide),hk 2 (by decide) (by decide),hk 3 (by decide) (by decide),hk 4 (by decide) (by decide),hk 5 (by decide) (by decide),hk 6 (by decide) (by decide),hk 7 (by decide) (by decide),hk 8 (by decide) (by decide),hk 9 (by decide) (by decide),hk 10 (by decide) (by decide),hk 11 (by decide) (by decide),hk 12 (by decide) (by decide),hk 13 (by decide) (by decide),hk 14 (by decide) (by decide),hk 15 (by decide) (by decide),hk 16 (by decide) (by decide),hk 17 (by decide) (by decide),hk 18 (by decide) (by decide),hk 19 (by decide) (by decide),hk 20 (by decide) (by decide),hk 21 (by decide) (by decide),hk 22 (by decide) (by decide),hk 23 (by decide) (by decide),aT,dw,decide_true,decide_false,ux,uc,zF,AG,tB,AF,cu,cF];exact ai fun h=>by cases h
 all_goals simp only[aT,dw,decide_true,decide_false,ux,uc,zF,AG,tB,AF,cu,cF,Ec]
 all_goals with_reducible repeat' first|apply aQ|apply aA|apply aK|apply aU|apply a8|apply a9|apply aR|apply aV|apply bE|apply aL|apply bK|apply bL|refine aG (fun _=>?_) fun _=>?_|refine be (fun _=>?_) fun _=>?_|refine aE (fun _=>?_) fun _=>?_|refine aP (fun _=>?_) fun _=>?_|refine aX (fun _=>?_) fun _=>?_|refine ax (fun _=>?_) fun _=>?_|apply ba|apply ai
 all_goals try simp only[aj,decide_eq_true_eq,true_or,or_true,true_implies,true_and,and_true] at*
 all_goals first|omega|(intro h;constructor<;>omega)|(intro h;cases h;done)
structure SB (n:Nat) (s:SY):Prop where
 n1:n≤100000
 lk:s.1.length≤1000
 rd:∀ l∈s.1,l.2.length≤n
 dn:s.2.2.1.length≤1000
 th:s.2.2.2.length≤1000
structure EN (w:WT) (s:SY) (t k o:Int):Prop where
 nm:NM w k o
 t0:0≤t
 t1:t<w.2.2.2.2.1.length
 cd:∀ c∈w.2.2.1,0≤c.2∧c.2<w.2.1.length
 e1:s.1.length=w.2.1.length
 e2:s.2.2.1.length=w.2.2.2.1.length
 e3:s.2.2.2.length=w.2.2.2.2.1.length
theorem wR {n:Nat} (w:WT) (s:SY) (hs:SB n s) (hw:w.2.2.1.length≤1000) (t k o:Int):Ok (fY (w,s,t,k,o)) fun b=>b=true→EN w s t k o:=by
 unfold fY;refine bn (fun x=>x.2=(w,s)∧(x.1=false→EN w s t k o)) ?_ ?_
 ·refine al (yO w s (by omega)) fun b hb=>?_
  with_reducible repeat' first|apply aQ|apply aA|apply aK|apply aU|apply a8|apply a9|apply aR|apply aV|apply bE|apply aL|apply bK|apply bL|refine aG (fun _=>?_) fun _=>?_|refine be (fun _=>?_) fun _=>?_|refine aE (fun _=>?_) fun _=>?_|refine aP (fun _=>?_) fun _=>?_|refine aX (fun _=>?_) fun _=>?_|refine ax (fun _=>?_) fun _=>?_|apply ba|apply ai
  ·exact⟨rfl,fun h=>by cases h⟩
  ·simp only[Ec,tB];with_reducible repeat' first|apply aQ|apply aA|apply aK|apply aU|apply a8|apply a9|apply aR|apply aV|apply bE|apply aL|apply bK|apply bL|refine aG (fun _=>?_) fun _=>?_|refine be (fun _=>?_) fun _=>?_|refine aE (fun _=>?_) fun _=>?_|refine aP (fun _=>?_) fun _=>?_|refine aX (fun _=>?_) fun _=>?_|refine ax (fun _=>?_) fun _=>?_|apply ba|apply ai
   ·exact⟨rfl,fun h=>by cases h⟩
   ·refine al (DX w k o) fun c hc=>?_
    with_reducible repeat' first|apply aQ|apply aA|apply aK|apply aU|apply a8|apply a9|apply aR|apply aV|apply bE|apply aL|apply bK|apply bL|refine aG (fun _=>?_) fun _=>?_|refine be (fun _=>?_) fun _=>?_|refine aE (fun _=>?_) fun _=>?_|refine aP (fun _=>?_) fun _=>?_|refine aX (fun _=>?_) fun _=>?_|refine ax (fun _=>?_) fun _=>?_|apply ba|apply ai
    all_goals try simp only[aj,decide_eq_true_eq,true_or,or_true,true_implies,true_and,and_true] at*
    rename_i h1 h2;obtain⟨f1,f2,f3,f4⟩:=hb h1;exact fun h=>⟨hc (by simpa using h),by omega,by omega,f1,f2,f3,f4⟩
 ·rintro⟨x1,x2⟩ ⟨hx2,hx⟩;dsimp only at hx2 hx;subst hx2;refine ax (fun h=>ai fun h=>by cases h) (fun h=>?_);have he:=hx h;obtain⟨nm,t0,t1,cd,e1,e2,e3⟩:=id he;obtain⟨_,_,ce,lk,cn,th,fu⟩:=nm;have hm:16≤k∧k≤19→0≤(aB (T:=(.st (.pr .str (.int .i64)))) w.2.2.1 o).2∧(aB (T:=(.st (.pr .str (.int .i64)))) w.2.2.1 o).2<w.2.1.length:=fun h=>cd _ (bZ (cn h).1 (cn h).2)
  have hH:6≤k∧k≤11→kJ ((aB (T:=(.st (.pr (.int .i64) (.sl (.int .i64))))) s.1 o).2,t)=some ((aB (T:=(.st (.pr (.int .i64) (.sl (.int .i64))))) s.1 o).2.contains t):=fun h=>BH _ _ (by
   have:=hs.rd _ (bZ (T:=(.st (.pr (.int .i64) (.sl (.int .i64))))) (lk h).1 (by have:=(lk h).2;omega));have:=hs.n1;omega)
  rcases @xy k with rfl|rfl|rfl|rfl|rfl|rfl|rfl|rfl|rfl|rfl|rfl|rfl|rfl|rfl|rfl|rfl|rfl|rfl|rfl|rfl|rfl|rfl|rfl|⟨hk,hk2⟩
  case inr.inr.inr.inr.inr.inr.inr.inr.inr.inr.inr.inr.inr.inr.inr.inr.inr.inr.inr.inr.inr.inr.inr=>omega
  all_goals simp only[aT,dw,decide_true,decide_false,ux,uc,zF,AG,tB,AF,cu,cF]
  all_goals with_reducible repeat' first|apply aQ|apply aA|apply aK|apply aU|apply a8|apply a9|apply aR|apply aV|apply bE|apply aL|apply bK|apply bL|refine aG (fun _=>?_) fun _=>?_|refine be (fun _=>?_) fun _=>?_|refine aE (fun _=>?_) fun _=>?_|refine aP (fun _=>?_) fun _=>?_|refine aX (fun _=>?_) fun _=>?_|refine ax (fun _=>?_) fun _=>?_|apply ba|apply ai
  all_goals try simp only[hH (by omega),tB]
  all_goals with_reducible repeat' first|apply aQ|apply aA|apply aK|apply aU|apply a8|apply a9|apply aR|apply aV|apply bE|apply aL|apply bK|apply bL|refine aG (fun _=>?_) fun _=>?_|refine be (fun _=>?_) fun _=>?_|refine aE (fun _=>?_) fun _=>?_|refine aP (fun _=>?_) fun _=>?_|refine aX (fun _=>?_) fun _=>?_|refine ax (fun _=>?_) fun _=>?_|apply ba|apply ai
  all_goals try simp only[aj,decide_eq_true_eq,true_or,or_true,true_implies,true_and,and_true] at*
  all_goals first|omega|exact fun _=>he|(intro h;cases h;done)|exact (hm ⟨by decide,by decide⟩).1|(rw [e1];exact (hm ⟨by decide,by decide⟩).2)
def putL:List Int→Int→List Int
 |[],n=>[n]
 |x::r,n=>if x<n then x::putL r n else if x=n then x::r else n::x::r
theorem tm (n:Int):∀ (i:Nat) (l:List Int),i≤l.length→(∀ k,k<i→l.getD k 0<n)→putL l n=l.take i++putL (l.drop i) n
 |0,l,_,_=>by simp
 |i+1,[],h,_=>by simp at h
 |i+1,x::r,h,hk=>by
  have h0:=hk 0 (by omega);simp at h0;have:=tm n i r (by simpa using h) (fun k hk'=>by have:=hk (k+1) (by omega);simpa using this);rw[putL,if_pos h0,this,oI,oJ,fc]
theorem up (n:Int):∀ l:List Int,(putL l n).length≤l.length+1
 |[]=>by simp[putL]
 |x::r=>by
  have:=up n r;rw[putL];split
  ·simp;omega
  ·split<;>simp
theorem vB {n y:Int}:∀ {l:List Int},y∈putL l n↔y=n∨y∈l
 |[]=>by simp[putL]
 |x::r=>by
  have:=vB (n:=n) (y:=y) (l:=r);rw[putL];split
  ·simp[this];constructor
   ·rintro (h|h|h)<;>simp[h]
   ·rintro (h|h|h)<;>simp[h]
  ·split
   ·rename_i h;subst h;simp
   ·simp
def Asc:List Int→Prop
 |[]=>True
 |x::r=>(∀ y∈r,x<y)∧Asc r
theorem zo {n:Int}:∀ {l:List Int},Asc l→Asc (putL l n)
 |[],_=>by simp[putL,Asc]
 |x::r,h=>by
  rw[putL];split
  ·rename_i hx;refine ⟨fun y hy=>?_,zo h.2⟩;rcases vB.1 hy with rfl|hy
   ·exact hx
   ·exact h.1 y hy
  ·split
   ·exact h
   ·rename_i h1 h2;refine ⟨fun y hy=>?_,h⟩;rcases bo.1 hy with rfl|hy
    ·omega
    ·have:=h.1 y hy;omega
theorem EC (l:List Int) (n:Int) (hl:l.length≤1000000):oV (l,n)=some (putL l n):=by
 refine ii ?_;unfold oV;have fin:∀ i:Nat,i≤l.length→(∀ k,k<i→l.getD k 0<n)→(i<l.length→¬l.getD i 0<n∧l.getD i 0≠n)→l.take i++[n]++l.drop i=putL l n:=fun i hi hk hn=>by
  rw[tm n i l hi hk];cases hd:l.drop i with
  |nil=>simp[putL]
  |cons y r=>
   have hlt:i<l.length:=by
    rcases cA i l.length with h|h
    ·exact h
    ·rw[List.drop_eq_nil_of_le h] at hd;cases hd
   have hy:l.getD i 0=y:=by
    rw[aN,←List.head?_drop,hd];rfl
   obtain⟨h1,h2⟩:=hn hlt;rw[hy] at h1 h2;rw[putL,if_neg h1,if_neg h2];simp
 refine bY l.length (fun i x=>x=(i:Int)∧∀ k,k<i→l.getD k 0<n) ?_ ?_ ⟨rfl,fun k hk=>by omega⟩
 ·rintro i x hi ⟨rfl,hx⟩;by_cases hlt:l.getD i 0<n
  ·with_reducible repeat' first|apply aQ|apply aA|apply aK|apply aU|apply a8|apply a9|apply aR|apply aV|apply bE|apply aL|apply bK|apply bL|refine aG (fun _=>?_) fun _=>?_|refine be (fun _=>?_) fun _=>?_|refine aE (fun _=>?_) fun _=>?_|refine aP (fun _=>?_) fun _=>?_|refine aX (fun _=>?_) fun _=>?_|refine ax (fun _=>?_) fun _=>?_|apply ba|apply ai
   all_goals try simp only[aj,decide_eq_true_eq,true_or,or_true,true_implies,true_and,and_true] at*
   all_goals first|omega|skip
   ·refine ⟨hJ (by omega),fun k hk=>?_⟩;rcases cA k i with h1|h1
    ·exact hx k h1
    ·rw[show k=i by omega];exact hlt
   ·rename_i h;exact absurd hlt (Int.not_lt.2 h)
  ·have key:l.getD i 0=n→putL l n=l:=fun he=>by
    rw[tm n i l (by omega) hx];cases hd:l.drop i with
    |nil=>have:=congrArg aa hd;simp at this;omega
    |cons y r=>
     have hy:l.getD i 0=y:=by rw[aN,←List.head?_drop,hd];rfl
     rw[hy] at he;rw[putL,if_neg (by omega),if_pos he,←hd,List.take_append_drop]
   with_reducible repeat' first|apply aQ|apply aA|apply aK|apply aU|apply a8|apply a9|apply aR|apply aV|apply bE|apply aL|apply bK|apply bL|refine aG (fun _=>?_) fun _=>?_|refine be (fun _=>?_) fun _=>?_|refine aE (fun _=>?_) fun _=>?_|refine aP (fun _=>?_) fun _=>?_|refine aX (fun _=>?_) fun _=>?_|refine ax (fun _=>?_) fun _=>?_|apply ba|apply ai
   all_goals try simp only[aj,decide_eq_true_eq,true_or,or_true,true_implies,true_and,and_true] at*
   all_goals first|omega|skip
   ·rename_i h;exact absurd h hlt
   ·refine al (P:=fun r=>r=putL l n) ?_ fun r hr=>ai hr
    with_reducible repeat' first|apply aQ|apply aA|apply aK|apply aU|apply a8|apply a9|apply aR|apply aV|apply bE|apply aL|apply bK|apply bL|refine aG (fun _=>?_) fun _=>?_|refine be (fun _=>?_) fun _=>?_|refine aE (fun _=>?_) fun _=>?_|refine aP (fun _=>?_) fun _=>?_|refine aX (fun _=>?_) fun _=>?_|refine ax (fun _=>?_) fun _=>?_|apply ba|apply ai
    all_goals try simp only[aj,decide_eq_true_eq,true_or,or_true,true_implies,true_and,and_true] at*
    all_goals first|omega|skip
    ·rename_i h;exact (key h).symm
    ·simp;omega
    ·simp;omega
    ·simp;omega
    ·rename_i h;simpa using fin i (by omega) hx (fun _=>⟨hlt,h⟩)
 ·rintro x ⟨rfl,hx⟩;with_reducible repeat' first|apply aQ|apply aA|apply aK|apply aU|apply a8|apply a9|apply aR|apply aV|apply bE|apply aL|apply bK|apply bL|refine aG (fun _=>?_) fun _=>?_|refine be (fun _=>?_) fun _=>?_|refine aE (fun _=>?_) fun _=>?_|refine aP (fun _=>?_) fun _=>?_|refine aX (fun _=>?_) fun _=>?_|refine ax (fun _=>?_) fun _=>?_|apply ba|apply ai
  all_goals try simp only[aj,decide_eq_true_eq,true_or,or_true,true_implies,true_and,and_true] at*
  all_goals first|omega|skip
  refine al (P:=fun r=>r=putL l n) ?_ fun r hr=>ai hr
  with_reducible repeat' first|apply aQ|apply aA|apply aK|apply aU|apply a8|apply a9|apply aR|apply aV|apply bE|apply aL|apply bK|apply bL|refine aG (fun _=>?_) fun _=>?_|refine be (fun _=>?_) fun _=>?_|refine aE (fun _=>?_) fun _=>?_|refine aP (fun _=>?_) fun _=>?_|refine aX (fun _=>?_) fun _=>?_|refine ax (fun _=>?_) fun _=>?_|apply ba|apply ai
  all_goals try simp only[aj,decide_eq_true_eq,true_or,or_true,true_implies,true_and,and_true] at*
  all_goals first|omega|skip
  ·simp;omega
  ·simp;omega
  ·simp;omega
  ·simpa using fin l.length (by omega) hx (fun h=>by omega)
def yV (a b:List Int):List Int:=b.foldl putL (a.foldl putL [])
theorem fold_len:∀ (b acc:List Int),(b.foldl putL acc).length≤acc.length+b.length
 |[],acc=>by simp
 |x::r,acc=>by
  have:=fold_len r (putL acc x);have:=up x acc;rw[uk,bO];omega
theorem fold_asc:∀ {b acc:List Int},Asc acc→Asc (b.foldl putL acc)
 |[],_,h=>h
 |x::r,acc,h=>by rw[uk];exact fold_asc (zo h)
theorem wn {y:Int}:∀ {b acc:List Int},y∈b.foldl putL acc↔y∈acc∨y∈b
 |[],acc=>by simp
 |x::r,acc=>by
  rw[uk,wn,vB];simp;constructor
  ·rintro ((h|h)|h)<;>simp[h]
  ·rintro (h|h|h)<;>simp[h]
theorem Dw (a b:List Int):Asc (yV a b):=fold_asc (fold_asc trivial)
theorem Du {a b:List Int} {y:Int}:y∈yV a b↔y∈a∨y∈b:=by unfold yV;rw[wn,wn];simp
theorem Dv (a b:List Int):(yV a b).length≤a.length+b.length:=by
 have:=fold_len b (a.foldl putL []);have:=fold_len a [];unfold yV;simp at *;omega
theorem xC {b acc:List Int} {i:Nat} (hi:i<b.length):(b.take (i+1)).foldl putL acc=putL ((b.take i).foldl putL acc) (b.getD i 0):=by
 rw[List.take_succ_eq_append_getElem hi,List.foldl_append,aN,aw hi];rfl
theorem Am (a b:List Int) (ha:a.length≤400000) (hb:b.length≤400000):lO (a,b)=some (yV a b):=by
 refine ii ?_;unfold lO;refine bY a.length (fun i x=>x.2=(i:Int)∧x.1=(a.take i).foldl putL []) ?_ ?_ ⟨rfl,rfl⟩
 ·rintro i ⟨x1,x2⟩ hi ⟨h1,h2⟩;dsimp only at h1 h2;subst h1;subst h2;have hl:((a.take i).foldl putL []).length≤1000000:=by have:=fold_len (a.take i) [];have:=List.length_take_le i a;simp at *;omega
  with_reducible repeat' first|apply aQ|apply aA|apply aK|apply aU|apply a8|apply a9|apply aR|apply aV|apply bE|apply aL|apply bK|apply bL|refine aG (fun _=>?_) fun _=>?_|refine be (fun _=>?_) fun _=>?_|refine aE (fun _=>?_) fun _=>?_|refine aP (fun _=>?_) fun _=>?_|refine aX (fun _=>?_) fun _=>?_|refine ax (fun _=>?_) fun _=>?_|apply ba|apply ai
  all_goals try simp only[aj,decide_eq_true_eq,true_or,or_true,true_implies,true_and,and_true] at*
  all_goals first|omega|skip
  refine bC (EC _ _ hl) (ai ?_);dsimp only;refine ⟨hJ (by omega),?_⟩;rw[Fa,xC hi]
 ·rintro⟨x1,x2⟩ ⟨h1,h2⟩;dsimp only at h1 h2;subst h1;subst h2;rw[gm];have hla:=fold_len a [];with_reducible repeat' first|apply aQ|apply aA|apply aK|apply aU|apply a8|apply a9|apply aR|apply aV|apply bE|apply aL|apply bK|apply bL|refine aG (fun _=>?_) fun _=>?_|refine be (fun _=>?_) fun _=>?_|refine aE (fun _=>?_) fun _=>?_|refine aP (fun _=>?_) fun _=>?_|refine aX (fun _=>?_) fun _=>?_|refine ax (fun _=>?_) fun _=>?_|apply ba|apply ai
  all_goals try simp only[aj,decide_eq_true_eq,true_or,or_true,true_implies,true_and,and_true] at*
  all_goals first|omega|skip
  refine al (P:=fun r=>r=yV a b) ?_ fun r hr=>ai hr
  refine bY b.length (fun i x=>x.2=(i:Int)∧x.1=(b.take i).foldl putL (a.foldl putL [])) ?_ ?_ ⟨rfl,rfl⟩
  ·rintro i ⟨x1,x2⟩ hi ⟨h1,h2⟩;dsimp only at h1 h2;subst h1;subst h2;have hl:((b.take i).foldl putL (a.foldl putL [])).length≤1000000:=by have:=fold_len (b.take i) (a.foldl putL []);have:=List.length_take_le i b;simp at *;omega
   with_reducible repeat' first|apply aQ|apply aA|apply aK|apply aU|apply a8|apply a9|apply aR|apply aV|apply bE|apply aL|apply bK|apply bL|refine aG (fun _=>?_) fun _=>?_|refine be (fun _=>?_) fun _=>?_|refine aE (fun _=>?_) fun _=>?_|refine aP (fun _=>?_) fun _=>?_|refine aX (fun _=>?_) fun _=>?_|refine ax (fun _=>?_) fun _=>?_|apply ba|apply ai
   all_goals try simp only[aj,decide_eq_true_eq,true_or,or_true,true_implies,true_and,and_true] at*
   all_goals first|omega|skip
   refine bC (EC _ _ hl) (ai ?_);dsimp only;refine ⟨hJ (by omega),?_⟩;rw[Fa,xC hi]
  ·rintro⟨x1,x2⟩ ⟨h1,h2⟩;dsimp only at h1 h2;subst h1;subst h2;rw[gm];with_reducible repeat' first|apply aQ|apply aA|apply aK|apply aU|apply a8|apply a9|apply aR|apply aV|apply bE|apply aL|apply bK|apply bL|refine aG (fun _=>?_) fun _=>?_|refine be (fun _=>?_) fun _=>?_|refine aE (fun _=>?_) fun _=>?_|refine aP (fun _=>?_) fun _=>?_|refine aX (fun _=>?_) fun _=>?_|refine ax (fun _=>?_) fun _=>?_|apply ba|apply ai
   all_goals try simp only[aj,decide_eq_true_eq,true_or,or_true,true_implies,true_and,and_true] at*
   all_goals first|omega|rfl
theorem BB (s:SY) (c:Int) (hs:s.2.2.2.length≤1000):Ok (iV (s,c)) fun l=>l.length≤s.2.2.2.length∧∀ u:Int,u∈l→0≤u∧u<s.2.2.2.length:=by
 unfold iV;refine bY s.2.2.2.length (fun i x=>x.1=(i:Int)∧x.2.1=s∧x.2.2.length≤i∧∀ u:Int,u∈x.2.2→0≤u∧u<i) ?_ ?_ ⟨rfl,rfl,by simp,by simp⟩
 ·rintro i ⟨x1,x2,x3⟩ hi ⟨h1,h2,h3,h4⟩;dsimp only at h1 h2 h3 h4;subst h1;subst h2;with_reducible repeat' first|apply aQ|apply aA|apply aK|apply aU|apply a8|apply a9|apply aR|apply aV|apply bE|apply aL|apply bK|apply bL|refine aG (fun _=>?_) fun _=>?_|refine be (fun _=>?_) fun _=>?_|refine aE (fun _=>?_) fun _=>?_|refine aP (fun _=>?_) fun _=>?_|refine aX (fun _=>?_) fun _=>?_|refine ax (fun _=>?_) fun _=>?_|apply ba|apply ai
  all_goals try simp only[aj,decide_eq_true_eq,true_or,or_true,true_implies,true_and,and_true] at*
  all_goals first|omega|skip
  all_goals first|(simp;omega)|skip
  ·refine ⟨hJ (by omega),by simp;omega,fun u hu=>?_⟩;rcases bD.1 hu with hu|hu
   ·have:=h4 u hu;omega
   ·simp at hu;omega
  ·exact⟨hJ (by omega),by omega,fun u hu=>by have:=h4 u hu;omega⟩
  ·exact⟨hJ (by omega),by omega,fun u hu=>by have:=h4 u hu;omega⟩
 ·rintro⟨x1,x2,x3⟩ ⟨h1,h2,h3,h4⟩;dsimp only at h1 h2 h3 h4;subst h1;subst h2;with_reducible repeat' first|apply aQ|apply aA|apply aK|apply aU|apply a8|apply a9|apply aR|apply aV|apply bE|apply aL|apply bK|apply bL|refine aG (fun _=>?_) fun _=>?_|refine be (fun _=>?_) fun _=>?_|refine aE (fun _=>?_) fun _=>?_|refine aP (fun _=>?_) fun _=>?_|refine aX (fun _=>?_) fun _=>?_|refine ax (fun _=>?_) fun _=>?_|apply ba|apply ai
  all_goals try simp only[aj,decide_eq_true_eq,true_or,or_true,true_implies,true_and,and_true] at*
  all_goals first|omega|skip
  exact⟨h3,h4⟩
theorem AH (l:List Int) (n:Int) (hl:l.length≤1000000):Ok (kH (l,n)) fun r=>r.length≤l.length:=by
 unfold kH;refine bY l.length (fun i x=>x.1=(i:Int)∧x.2.length≤i) ?_ ?_ ⟨rfl,by simp⟩
 ·rintro i ⟨x1,x2⟩ hi ⟨h1,h2⟩;dsimp only at h1 h2;subst h1;with_reducible repeat' first|apply aQ|apply aA|apply aK|apply aU|apply a8|apply a9|apply aR|apply aV|apply bE|apply aL|apply bK|apply bL|refine aG (fun _=>?_) fun _=>?_|refine be (fun _=>?_) fun _=>?_|refine aE (fun _=>?_) fun _=>?_|refine aP (fun _=>?_) fun _=>?_|refine aX (fun _=>?_) fun _=>?_|refine ax (fun _=>?_) fun _=>?_|apply ba|apply ai
  all_goals try simp only[aj,decide_eq_true_eq,true_or,or_true,true_implies,true_and,and_true] at*
  all_goals first|omega|skip
  ·simp;omega
  ·exact⟨hJ (by omega),by simp;omega⟩
  ·exact⟨hJ (by omega),by omega⟩
 ·rintro⟨x1,x2⟩ ⟨h1,h2⟩;dsimp only at h1 h2;subst h1;with_reducible repeat' first|apply aQ|apply aA|apply aK|apply aU|apply a8|apply a9|apply aR|apply aV|apply bE|apply aL|apply bK|apply bL|refine aG (fun _=>?_) fun _=>?_|refine be (fun _=>?_) fun _=>?_|refine aE (fun _=>?_) fun _=>?_|refine aP (fun _=>?_) fun _=>?_|refine aX (fun _=>?_) fun _=>?_|refine ax (fun _=>?_) fun _=>?_|apply ba|apply ai
  all_goals try simp only[aj,decide_eq_true_eq,true_or,or_true,true_implies,true_and,and_true] at*
  all_goals omega
theorem Fz {T:Ty} {xs:List T.den} {i:Nat} (hi:i<aa xs):dD (i+1) xs=dD i xs++[aB xs (i:Int)]:=by
 rw[List.take_succ_eq_append_getElem hi,Gd,aN,aw hi];rfl
theorem kZ {n:Nat} (s:SY) (hs:SB n s):ep s=some (s.2.1,s.1,s.2.2.1,s.2.2.2):=by
 refine ii ?_;obtain⟨s1,s2,s3,s4⟩:=s;have hn:=hs.n1;have g1:=hs.lk;have g2:=hs.dn;have g3:=hs.th;dsimp only at g1 g2 g3;unfold ep;with_reducible repeat' first|apply aQ|apply aA|apply aK|apply aU|apply a8|apply a9|apply aR|apply aV|apply bE|apply aL|apply bK|apply bL|refine aG (fun _=>?_) fun _=>?_|refine be (fun _=>?_) fun _=>?_|refine aE (fun _=>?_) fun _=>?_|refine aP (fun _=>?_) fun _=>?_|refine aX (fun _=>?_) fun _=>?_|refine ax (fun _=>?_) fun _=>?_|apply ba|apply ai
 all_goals try simp only[aj,decide_eq_true_eq,true_or,or_true,true_implies,true_and,and_true] at*
 ·simp;omega
 ·omega
 ·simp;omega
 ·omega
 refine bY s1.length (fun i x=>x=((i:Int),(s1,s2,s3,s4),0,s2,s1.take i,s3,s4)) ?_ ?_ ?_
 ·rintro i x hi rfl;have hg:=hs.rd _ (bZ (T:=(.st (.pr (.int .i64) (.sl (.int .i64))))) (xs:=s1) (j:=(i:Int)) (by omega) (by omega));with_reducible repeat' first|apply aQ|apply aA|apply aK|apply aU|apply a8|apply a9|apply aR|apply aV|apply bE|apply aL|apply bK|apply bL|refine aG (fun _=>?_) fun _=>?_|refine be (fun _=>?_) fun _=>?_|refine aE (fun _=>?_) fun _=>?_|refine aP (fun _=>?_) fun _=>?_|refine aX (fun _=>?_) fun _=>?_|refine ax (fun _=>?_) fun _=>?_|apply ba|apply ai
  all_goals try simp only[aj,decide_eq_true_eq,true_or,or_true,true_implies,true_and,and_true] at*
  all_goals first|omega|skip
  ·simp;omega
  ·simp;omega
  ·rw[hJ (by omega),Fz (T:=(.st (.pr (.int .i64) (.sl (.int .i64))))) hi];rfl
 ·rintro x rfl;with_reducible repeat' first|apply aQ|apply aA|apply aK|apply aU|apply a8|apply a9|apply aR|apply aV|apply bE|apply aL|apply bK|apply bL|refine aG (fun _=>?_) fun _=>?_|refine be (fun _=>?_) fun _=>?_|refine aE (fun _=>?_) fun _=>?_|refine aP (fun _=>?_) fun _=>?_|refine aX (fun _=>?_) fun _=>?_|refine ax (fun _=>?_) fun _=>?_|apply ba|apply ai
  all_goals try simp only[aj,decide_eq_true_eq,true_or,or_true,true_implies,true_and,and_true] at*
  all_goals first|omega|skip
  simp
 ·simp
theorem uy (s:SY) (c:Int) (hs:s.2.2.2.length≤1000):Ok (fy ((s.2.1,c),s.1,s.2.2.1,s.2.2.2)) fun l=>l.length≤s.2.2.2.length∧∀ u:Int,u∈l→0≤u∧u<s.2.2.2.length:=by
 unfold fy;refine al (P:=fun y=>y.2=(s.1,s.2.2.1,s.2.2.2)∧y.1.length≤s.2.2.2.length∧∀ u:Int,u∈y.1→0≤u∧u<s.2.2.2.length) ?_ fun y hy=>EX hy.1 (ai hy.2)
 unfold ie;refine bY s.2.2.2.length (fun i x=>x.1=(i:Int)∧x.2=(s.1,s.2.2.1,s.2.2.2,s.2.1,x.2.2.2.2.2)∧x.2.2.2.2.2.length≤i∧∀ u:Int,u∈x.2.2.2.2.2→0≤u∧u<i) ?_ ?_ ⟨rfl,rfl,by simp,by simp⟩
 ·rintro i ⟨x1,x2,x3,x4,x5,x6⟩ hi ⟨h1,h2,h3,h4⟩;simp only[ay,and_true] at h1 h2 h3 h4;obtain⟨rfl,rfl,rfl,rfl⟩:=h2;subst h1;with_reducible repeat' first|apply aQ|apply aA|apply aK|apply aU|apply a8|apply a9|apply aR|apply aV|apply bE|apply aL|apply bK|apply bL|refine aG (fun _=>?_) fun _=>?_|refine be (fun _=>?_) fun _=>?_|refine aE (fun _=>?_) fun _=>?_|refine aP (fun _=>?_) fun _=>?_|refine aX (fun _=>?_) fun _=>?_|refine ax (fun _=>?_) fun _=>?_|apply ba|apply ai
  all_goals try simp only[aj,decide_eq_true_eq,true_or,or_true,true_implies,true_and,and_true] at*
  all_goals first|omega|skip
  all_goals first|(simp;omega)|skip
  ·refine ⟨hJ (by omega),by simp;omega,fun u hu=>?_⟩;rcases bD.1 hu with hu|hu
   ·have:=h4 u hu;omega
   ·simp at hu;omega
  ·exact⟨hJ (by omega),by omega,fun u hu=>by have:=h4 u hu;omega⟩
  ·exact⟨hJ (by omega),by omega,fun u hu=>by have:=h4 u hu;omega⟩
 ·rintro⟨x1,x2,x3,x4,x5,x6⟩ ⟨h1,h2,h3,h4⟩;simp only[ay,and_true] at h1 h2 h3 h4;obtain⟨rfl,rfl,rfl,rfl⟩:=h2;subst h1;with_reducible repeat' first|apply aQ|apply aA|apply aK|apply aU|apply a8|apply a9|apply aR|apply aV|apply bE|apply aL|apply bK|apply bL|refine aG (fun _=>?_) fun _=>?_|refine be (fun _=>?_) fun _=>?_|refine aE (fun _=>?_) fun _=>?_|refine aP (fun _=>?_) fun _=>?_|refine aX (fun _=>?_) fun _=>?_|refine ax (fun _=>?_) fun _=>?_|apply ba|apply ai
  all_goals try simp only[aj,decide_eq_true_eq,true_or,or_true,true_implies,true_and,and_true] at*
  all_goals first|omega|skip
  exact⟨h3,h4⟩
structure AP (n:Nat) (s y:SY):Prop where
 a1:y.1.length=s.1.length
 a2:y.2.2.1.length=s.2.2.1.length
 a3:y.2.2.2.length=s.2.2.2.length
 rd:∀ l∈y.1,l.2.length≤n+1
theorem AP.toSB {n:Nat} {s y:SY} (h:AP n s y) (hs:SB n s) (hn:n+1≤100000):SB (n+1) y:=
 ⟨hn,by rw[h.a1];exact hs.lk,h.rd,by rw[h.a2];exact hs.dn,by rw[h.a3];exact hs.th⟩
theorem AP.same {n:Nat} {s:SY} (hs:SB n s) (x:Int) (d:List Bool) (t:List (Int×Int×Bool)) (hd:d.length=s.2.2.1.length) (ht:t.length=s.2.2.2.length):AP n s (s.1,x,d,t):=
 ⟨rfl,hd,ht,fun l hl=>eC (hs.rd l hl)⟩
theorem AP.set {n:Nat} {s:SY} (hs:SB n s) (j a:Int) (r:List Int) (hr:r.length≤n+1) (x:Int) (d:List Bool) (t:List (Int×Int×Bool)) (hd:d.length=s.2.2.1.length) (ht:t.length=s.2.2.2.length):AP n s (ch s.1 j (a,r),x,d,t):=
 ⟨cJ _ _ _,hd,ht,fun l hl=>by
   rcases vr hl with h|rfl
   ·exact eC (hs.rd l h)
   ·exact hr⟩
theorem AD {n:Nat} (w:WT) (s:SY) (hs:SB n s) (hw:w.2.2.1.length≤1000) (t k o u:Int):Ok (j7 (w,s,t,k,o,u)) fun y=>(y.2.2=true→EN w s t k o∧AP n s y.1)∧(y.2.2=false→y.1=([],0,[],[]))∧(fY (w,s,t,k,o)=some true→y.2.2=true):=by
 unfold j7;obtain⟨b,hb0,hb⟩:=wR w s hs hw t k o;refine bC hb0 ?_;refine aX (fun h=>ai ⟨fun h=>(by cases h),fun _=>rfl,fun h2=>(by rw[hb0,h] at h2;cases h2)⟩) (fun h=>?_);have he:=hb h;refine bC (kZ s hs) ?_;suffices hmain:Ok _ _ from bn (fun x=>AP n s (x.2.2.2.1,x.2.1,x.2.2.2.2)) hmain fun x hx=>ai ⟨fun _=>⟨he,hx⟩,fun h=>(by cases h),fun _=>rfl⟩
 obtain⟨nm,t0,t1,cd,e1,e2,e3⟩:=id he;obtain⟨_,_,ce,lk,cn,th,fu⟩:=nm;have hn:=hs.n1;have hlk:=hs.lk;have hm:16≤k∧k≤19→0≤(aB (T:=(.st (.pr .str (.int .i64)))) w.2.2.1 o).2∧(aB (T:=(.st (.pr .str (.int .i64)))) w.2.2.1 o).2<w.2.1.length:=fun h=>cd _ (bZ (cn h).1 (cn h).2)
 have hr:∀ j:Int,0≤j→j<s.1.length→(aB (T:=(.st (.pr (.int .i64) (.sl (.int .i64))))) s.1 j).2.length≤n:=fun j h0 h1=>hs.rd _ (bZ (T:=(.st (.pr (.int .i64) (.sl (.int .i64))))) h0 h1)
 rcases @xy k with rfl|rfl|rfl|rfl|rfl|rfl|rfl|rfl|rfl|rfl|rfl|rfl|rfl|rfl|rfl|rfl|rfl|rfl|rfl|rfl|rfl|rfl|rfl|⟨hk,hk2⟩
 case inr.inr.inr.inr.inr.inr.inr.inr.inr.inr.inr.inr.inr.inr.inr.inr.inr.inr.inr.inr.inr.inr.inr=>omega
 all_goals simp only[aT,dw,decide_true,decide_false,ux,uc,zF,AG,tB,AF,cu,cF]
 all_goals with_reducible repeat' first|apply aQ|apply aA|apply aK|apply aU|apply a8|apply a9|apply aR|apply aV|apply bE|apply aL|apply bK|apply bL|refine aG (fun _=>?_) fun _=>?_|refine be (fun _=>?_) fun _=>?_|refine aE (fun _=>?_) fun _=>?_|refine aP (fun _=>?_) fun _=>?_|refine aX (fun _=>?_) fun _=>?_|refine ax (fun _=>?_) fun _=>?_|apply ba|apply ai
 all_goals try simp only[aj,decide_eq_true_eq,true_or,or_true,true_implies,true_and,and_true] at*
 all_goals try rw[cJ]
 all_goals first|omega|exact (hm ⟨by decide,by decide⟩).1|exact e1▸(hm ⟨by decide,by decide⟩).2|exact AP.same hs _ _ _ rfl rfl|exact AP.same hs _ _ _ rfl (cJ _ _ _)|exact AP.same hs _ _ _ (cJ _ _ _) rfl|skip
 all_goals try exact AP.set hs _ _ _ (eC (hr o (by omega) (by omega))) _ _ _ rfl rfl
 ·have:=hr o (by omega) (by omega);refine bC (Am _ _ (cO this (by have:=hs.n1;omega)) (by simp)) ?_;with_reducible repeat' first|apply aQ|apply aA|apply aK|apply aU|apply a8|apply a9|apply aR|apply aV|apply bE|apply aL|apply bK|apply bL|refine aG (fun _=>?_) fun _=>?_|refine be (fun _=>?_) fun _=>?_|refine aE (fun _=>?_) fun _=>?_|refine aP (fun _=>?_) fun _=>?_|refine aX (fun _=>?_) fun _=>?_|refine ax (fun _=>?_) fun _=>?_|apply ba|apply ai
  all_goals try simp only[aj,decide_eq_true_eq,true_or,or_true,true_implies,true_and,and_true] at*
  all_goals first|omega|skip
  exact AP.set hs _ _ _ (by have:=Dv (aB (T:=(.st (.pr (.int .i64) (.sl (.int .i64))))) s.1 o).2 [t];simp at this;omega) _ _ _ rfl rfl
 ·have:=hr o (by omega) (by omega);refine al (AH _ _ (by omega)) fun l hl=>?_
  with_reducible repeat' first|apply aQ|apply aA|apply aK|apply aU|apply a8|apply a9|apply aR|apply aV|apply bE|apply aL|apply bK|apply bL|refine aG (fun _=>?_) fun _=>?_|refine be (fun _=>?_) fun _=>?_|refine aE (fun _=>?_) fun _=>?_|refine aP (fun _=>?_) fun _=>?_|refine aX (fun _=>?_) fun _=>?_|refine ax (fun _=>?_) fun _=>?_|apply ba|apply ai
  all_goals try simp only[aj,decide_eq_true_eq,true_or,or_true,true_implies,true_and,and_true] at*
  all_goals first|omega|skip
  exact AP.set hs _ _ _ (cO hl (by omega)) _ _ _ rfl rfl
 ·exact AP.set hs _ _ _ (eC (hr _ (hm ⟨by decide,by decide⟩).1 (by rw[e1];exact (hm ⟨by decide,by decide⟩).2))) _ _ _ rfl (by rw[cJ,cJ])
 ·exact AP.set hs _ _ _ (eC (hr _ (hm ⟨by decide,by decide⟩).1 (by rw[e1];exact (hm ⟨by decide,by decide⟩).2))) _ _ _ rfl (by rw[cJ,cJ])
 ·refine al (uy s o hs.th) fun l hl=>?_
  have hth:=hs.th;with_reducible repeat' first|apply aQ|apply aA|apply aK|apply aU|apply a8|apply a9|apply aR|apply aV|apply bE|apply aL|apply bK|apply bL|refine aG (fun _=>?_) fun _=>?_|refine be (fun _=>?_) fun _=>?_|refine aE (fun _=>?_) fun _=>?_|refine aP (fun _=>?_) fun _=>?_|refine aX (fun _=>?_) fun _=>?_|refine ax (fun _=>?_) fun _=>?_|apply ba|apply ai
  all_goals try simp only[aj,decide_eq_true_eq,true_or,or_true,true_implies,true_and,and_true] at*
  all_goals first|omega|skip
  ·have hz:aB (T:=.int .i64) l 0∈l:=bZ (by omega) (by omega);have hz2:=hl.2 _ hz;simp only[BH l u (by omega),tB];with_reducible repeat' first|apply aQ|apply aA|apply aK|apply aU|apply a8|apply a9|apply aR|apply aV|apply bE|apply aL|apply bK|apply bL|refine aG (fun _=>?_) fun _=>?_|refine be (fun _=>?_) fun _=>?_|refine aE (fun _=>?_) fun _=>?_|refine aP (fun _=>?_) fun _=>?_|refine aX (fun _=>?_) fun _=>?_|refine ax (fun _=>?_) fun _=>?_|apply ba|apply ai
   all_goals try simp only[aj,decide_eq_true_eq,true_or,or_true,true_implies,true_and,and_true] at*
   ·rename_i h1;exact (hl.2 u (iQ.1 h1)).1
   ·rename_i h1;exact (hl.2 u (iQ.1 h1)).2
   ·rename_i h1;exact (hl.2 u (iQ.1 h1)).1
   ·rename_i h1;exact (hl.2 u (iQ.1 h1)).2
   ·exact AP.same hs _ _ _ rfl (cJ _ _ _)
   ·exact hz2.1
   ·exact hz2.2
   ·exact hz2.1
   ·exact hz2.2
   ·exact AP.same hs _ _ _ rfl (cJ _ _ _)
  ·exact AP.same hs _ _ _ rfl rfl
 ·refine al (uy s o hs.th) fun l hl=>?_
  have hth:=hs.th;refine bY l.length (fun i x=>x.1=(i:Int)∧x.2=(s.2.1,0,s.1,s.2.2.1,x.2.2.2.2.2)∧x.2.2.2.2.2.length=s.2.2.2.length) ?_ ?_ ⟨rfl,rfl,rfl⟩
  ·rintro i ⟨x1,x2,x3,x4,x5,x6⟩ hi ⟨h1,h2,h3⟩;simp only[ay,and_true] at h1 h2 h3;obtain⟨rfl,rfl,rfl,rfl⟩:=h2;subst h1;have hz2:=hl.2 _ (bZ (T:=.int .i64) (xs:=l) (j:=(i:Int)) (by omega) (by omega));with_reducible repeat' first|apply aQ|apply aA|apply aK|apply aU|apply a8|apply a9|apply aR|apply aV|apply bE|apply aL|apply bK|apply bL|refine aG (fun _=>?_) fun _=>?_|refine be (fun _=>?_) fun _=>?_|refine aE (fun _=>?_) fun _=>?_|refine aP (fun _=>?_) fun _=>?_|refine aX (fun _=>?_) fun _=>?_|refine ax (fun _=>?_) fun _=>?_|apply ba|apply ai
   all_goals try simp only[aj,decide_eq_true_eq,true_or,or_true,true_implies,true_and,and_true] at*
   all_goals first|omega|skip
   all_goals first|exact hz2.1|(rw [h3];exact hz2.2)|skip
   exact⟨hJ (by omega),by rw[cJ];exact h3⟩
  ·rintro⟨x1,x2,x3,x4,x5,x6⟩ ⟨h1,h2,h3⟩;simp only[ay,and_true] at h1 h2 h3;obtain⟨rfl,rfl,rfl,rfl⟩:=h2;subst h1;with_reducible repeat' first|apply aQ|apply aA|apply aK|apply aU|apply a8|apply a9|apply aR|apply aV|apply bE|apply aL|apply bK|apply bL|refine aG (fun _=>?_) fun _=>?_|refine be (fun _=>?_) fun _=>?_|refine aE (fun _=>?_) fun _=>?_|refine aP (fun _=>?_) fun _=>?_|refine aX (fun _=>?_) fun _=>?_|refine ax (fun _=>?_) fun _=>?_|apply ba|apply ai
   all_goals try simp only[aj,decide_eq_true_eq,true_or,or_true,true_implies,true_and,and_true] at*
   all_goals first|omega|skip
   exact AP.same hs _ _ _ rfl h3
abbrev SN:Type:=SY×List Int×List Int×List Int
abbrev ET:Type:=Int×Int×Int×Int×Int×List Int×List Int
theorem G8 (a b:Int):sq (a,b)=some (decide (0≤a∧a<b)):=Ec a b
structure NB (n:Nat) (s:SN):Prop where
 sb:SB n s.1
 c:s.2.1.length≤1000
 f:s.2.2.1.length≤1000
 k:s.2.2.2.length≤1000
structure SP (n:Nat) (s y:SN):Prop where
 ap:AP n s.1 y.1
 c:y.2.1.length=s.2.1.length
 f:y.2.2.1.length=s.2.2.1.length
 k:y.2.2.2.length=s.2.2.2.length
theorem SP.NB {n:Nat} {s y:SN} (h:SP n s y) (hs:NB n s) (hn:n+1≤100000):NB (n+1) y:=
 ⟨h.ap.toSB hs.sb hn,by rw[h.c];exact hs.c,by rw[h.f];exact hs.f,by rw[h.k];exact hs.k⟩
def sn0:SN:=(([],0,[],[]),[],[],[])
structure F16 (w:WT) (s:SN):Prop where
 c:s.2.1.length=w.1.length
 f:s.2.2.1.length=w.2.2.2.1.length
 k:s.2.2.2.length=w.2.2.2.2.1.length
theorem Db (w:WT) (s:SN) (hw:w.2.2.1.length≤1000):Ok (oP (w,s)) fun b=>b=true→F16 w s:=by
 unfold oP;refine ba (al (yO w s.1 (by omega)) fun b hb=>?_);with_reducible repeat' first|apply aQ|apply aA|apply aK|apply aU|apply a8|apply a9|apply aR|apply aV|apply bE|apply aL|apply bK|apply bL|refine aG (fun _=>?_) fun _=>?_|refine be (fun _=>?_) fun _=>?_|refine aE (fun _=>?_) fun _=>?_|refine aP (fun _=>?_) fun _=>?_|refine aX (fun _=>?_) fun _=>?_|refine ax (fun _=>?_) fun _=>?_|apply ba|apply ai
 all_goals try simp only[aj,decide_eq_true_eq,true_or,or_true,true_implies,true_and,and_true] at*
 all_goals first|(intro h;constructor<;>omega)|(intro h;cases h;done)
theorem vJ (l:List Int) (c:Int) (hl:l.length≤1000000000):Ok (iT (l,c)) fun b=>b=true→∀ x:Int,x∈l→1≤x∧x<c:=by
 unfold iT;refine bY l.length (fun i x=>x=(i:Int)∧∀ k:Nat,k<i→1≤aB (T:=.int .i64) l (k:Int)∧aB (T:=.int .i64) l (k:Int)<c) ?_ ?_ ⟨rfl,fun k hk=>by omega⟩
 ·rintro i x hi ⟨rfl,hx⟩;have hw:0<(i:Int)→aJ .i64 ((i:Int)-1)=(i:Int)-1:=fun h=>io (by omega) (by omega)
  with_reducible repeat' first|apply aQ|apply aA|apply aK|apply aU|apply a8|apply a9|apply aR|apply aV|apply bE|apply aL|apply bK|apply bL|refine aG (fun _=>?_) fun _=>?_|refine be (fun _=>?_) fun _=>?_|refine aE (fun _=>?_) fun _=>?_|refine aP (fun _=>?_) fun _=>?_|refine aX (fun _=>?_) fun _=>?_|refine ax (fun _=>?_) fun _=>?_|apply ba|apply ai
  all_goals try simp only[aj,decide_eq_true_eq,true_or,or_true,true_implies,true_and,and_true] at*
  all_goals first|omega|(intro h;cases h;done)|(rw [hw (by omega)];omega)|skip
  ·refine ⟨hJ (by omega),fun k hk=>?_⟩;rcases cA k i with h1|h1
   ·exact hx k h1
   ·rw[show k=i by omega];constructor<;>omega
  ·refine ⟨hJ (by omega),fun k hk=>?_⟩;rcases cA k i with h1|h1
   ·exact hx k h1
   ·rw[show k=i by omega];constructor<;>omega
 ·rintro x ⟨rfl,hx⟩;with_reducible repeat' first|apply aQ|apply aA|apply aK|apply aU|apply a8|apply a9|apply aR|apply aV|apply bE|apply aL|apply bK|apply bL|refine aG (fun _=>?_) fun _=>?_|refine be (fun _=>?_) fun _=>?_|refine aE (fun _=>?_) fun _=>?_|refine aP (fun _=>?_) fun _=>?_|refine aX (fun _=>?_) fun _=>?_|refine ax (fun _=>?_) fun _=>?_|apply ba|apply ai
  all_goals try simp only[aj,decide_eq_true_eq,true_or,or_true,true_implies,true_and,and_true] at*
  all_goals first|omega|skip
  exact kg (T:=.int .i64) hx
theorem Dt {n:Nat} (w:WT) (s:SN) (hs:NB n s) (hf:F16 w s) (e:ET) (he:EN w s.1 e.1 e.2.1 e.2.2.1):Ok (nu (s,e)) fun _=>True:=by
 obtain⟨t,k,o,v,si,de,fr⟩:=e;obtain⟨s1,s2,s3,s4⟩:=s;obtain⟨nm,t0,t1,cd,e1,e2,e3⟩:=he;obtain⟨_,_,ce,lk,cn,th,fu⟩:=nm;obtain⟨f1,f2,f3⟩:=hf;have hth:=hs.sb.th;dsimp only at*
 unfold nu;have hW:=BB s1 o hth;rcases @xy k with rfl|rfl|rfl|rfl|rfl|rfl|rfl|rfl|rfl|rfl|rfl|rfl|rfl|rfl|rfl|rfl|rfl|rfl|rfl|rfl|rfl|rfl|rfl|⟨hk,hk2⟩
 case inr.inr.inr.inr.inr.inr.inr.inr.inr.inr.inr.inr.inr.inr.inr.inr.inr.inr.inr.inr.inr.inr.inr=>omega
 all_goals simp only[aT,dw,decide_true,decide_false,ux,uc,zF,AG,tB,AF,cu,cF]
 all_goals with_reducible repeat' first|apply aQ|apply aA|apply aK|apply aU|apply a8|apply a9|apply aR|apply aV|apply bE|apply aL|apply bK|apply bL|refine aG (fun _=>?_) fun _=>?_|refine be (fun _=>?_) fun _=>?_|refine aE (fun _=>?_) fun _=>?_|refine aP (fun _=>?_) fun _=>?_|refine aX (fun _=>?_) fun _=>?_|refine ax (fun _=>?_) fun _=>?_|apply ba|apply ai
 all_goals try exact trivial
 all_goals try simp only[aj,decide_eq_true_eq,true_or,or_true,true_implies,true_and,and_true] at*
 all_goals first|omega|skip
 ·refine al hW fun l hl=>?_
  have hH:=BH l v (by omega);with_reducible repeat' first|apply aQ|apply aA|apply aK|apply aU|apply a8|apply a9|apply aR|apply aV|apply bE|apply aL|apply bK|apply bL|refine aG (fun _=>?_) fun _=>?_|refine be (fun _=>?_) fun _=>?_|refine aE (fun _=>?_) fun _=>?_|refine aP (fun _=>?_) fun _=>?_|refine aX (fun _=>?_) fun _=>?_|refine ax (fun _=>?_) fun _=>?_|apply ba|apply ai
  all_goals try exact trivial
  refine bC hH (ai ?_);exact ai trivial
 ·refine al hW fun l hl=>ai trivial
theorem ue {n:Nat} (w:WT) (s:SN) (hs:NB n s) (hw:w.2.2.1.length≤1000) (e:ET) (hd:e.2.2.2.2.2.1.length≤1000000000) (hf:e.2.2.2.2.2.2.length≤1000000000):Ok (lJ (w,s,e)) fun y=>(y.2=true→EN w s.1 e.1 e.2.1 e.2.2.1∧SP n s y.1)∧(y.2=false→y.1=sn0):=by
 have hz:∀ {Q:SN×Bool→Prop},Q (sn0,false)→Ok (some (sn0,false)) Q:=fun h=>ai h
 have z0:((sn0,false).2=true→EN w s.1 e.1 e.2.1 e.2.2.1∧SP n s (sn0,false).1)∧((sn0,false).2=false→(sn0,false).1=sn0):=⟨fun h=>(by cases h),fun _=>rfl⟩
 unfold lJ;refine bn (fun x=>x.2=(w,s,e,0)∧(x.1=false→F16 w s∧EN w s.1 e.1 e.2.1 e.2.2.1∧fY (w,s.1,e.1,e.2.1,e.2.2.1)=some true)) ?_ ?_
 ·refine al (Db w s hw) fun b hb=>?_
  with_reducible repeat' first|apply aQ|apply aA|apply aK|apply aU|apply a8|apply a9|apply aR|apply aV|apply bE|apply aL|apply bK|apply bL|refine aG (fun _=>?_) fun _=>?_|refine be (fun _=>?_) fun _=>?_|refine aE (fun _=>?_) fun _=>?_|refine aP (fun _=>?_) fun _=>?_|refine aX (fun _=>?_) fun _=>?_|refine ax (fun _=>?_) fun _=>?_|apply ba|apply ai
  ·exact⟨rfl,fun h=>(by cases h)⟩
  simp only[G8,tB];with_reducible repeat' first|apply aQ|apply aA|apply aK|apply aU|apply a8|apply a9|apply aR|apply aV|apply bE|apply aL|apply bK|apply bL|refine aG (fun _=>?_) fun _=>?_|refine be (fun _=>?_) fun _=>?_|refine aE (fun _=>?_) fun _=>?_|refine aP (fun _=>?_) fun _=>?_|refine aX (fun _=>?_) fun _=>?_|refine ax (fun _=>?_) fun _=>?_|apply ba|apply ai
  ·exact⟨rfl,fun h=>(by cases h)⟩
  ·exact⟨rfl,fun h=>(by cases h)⟩
  ·exact⟨rfl,fun h=>(by cases h)⟩
  obtain⟨c,hc0,hc⟩:=wR w s.1 hs.sb hw e.1 e.2.1 e.2.2.1;refine bC hc0 (ai ⟨rfl,fun h=>?_⟩);have h:c=true:=by simpa using h
  exact⟨hb (by assumption),hc h,h▸hc0⟩
 rintro⟨x1,x2⟩ ⟨hx2,hx⟩;dsimp only at hx2 hx;subst hx2;refine ax (fun _=>hz z0) fun h1=>?_
 obtain⟨hF,hE,hEn⟩:=hx h1;clear hx h1;refine bn (fun x=>x=(w,s,e,0)) ?_ ?_
 ·refine bn (fun x=>x.2=(w,s,e,0)) ?_ ?_
  ·with_reducible repeat' first|apply aQ|apply aA|apply aK|apply aU|apply a8|apply a9|apply aR|apply aV|apply bE|apply aL|apply bK|apply bL|refine aG (fun _=>?_) fun _=>?_|refine be (fun _=>?_) fun _=>?_|refine aE (fun _=>?_) fun _=>?_|refine aP (fun _=>?_) fun _=>?_|refine aX (fun _=>?_) fun _=>?_|refine ax (fun _=>?_) fun _=>?_|apply ba|apply ai
   all_goals rfl
  rintro⟨x1,x2⟩ hx2;dsimp only at hx2;subst hx2;refine ax (fun _=>?_) fun _=>?_
  ·with_reducible repeat' first|apply aQ|apply aA|apply aK|apply aU|apply a8|apply a9|apply aR|apply aV|apply bE|apply aL|apply bK|apply bL|refine aG (fun _=>?_) fun _=>?_|refine be (fun _=>?_) fun _=>?_|refine aE (fun _=>?_) fun _=>?_|refine aP (fun _=>?_) fun _=>?_|refine aX (fun _=>?_) fun _=>?_|refine ax (fun _=>?_) fun _=>?_|apply ba|apply ai
   ·exact z0
   ·rfl
  ·refine bn (fun x=>x.2=(w,s,e,0)) ?_ ?_
   ·simp only[G8,tB];with_reducible repeat' first|apply aQ|apply aA|apply aK|apply aU|apply a8|apply a9|apply aR|apply aV|apply bE|apply aL|apply bK|apply bL|refine aG (fun _=>?_) fun _=>?_|refine be (fun _=>?_) fun _=>?_|refine aE (fun _=>?_) fun _=>?_|refine aP (fun _=>?_) fun _=>?_|refine aX (fun _=>?_) fun _=>?_|refine ax (fun _=>?_) fun _=>?_|apply ba|apply ai
    all_goals try simp only[aj,decide_eq_true_eq,true_or,or_true,true_implies,true_and,and_true] at*
    all_goals first|omega|rfl
   rintro⟨x1,x2⟩ hx2;dsimp only at hx2;subst hx2;with_reducible repeat' first|apply aQ|apply aA|apply aK|apply aU|apply a8|apply a9|apply aR|apply aV|apply bE|apply aL|apply bK|apply bL|refine aG (fun _=>?_) fun _=>?_|refine be (fun _=>?_) fun _=>?_|refine aE (fun _=>?_) fun _=>?_|refine aP (fun _=>?_) fun _=>?_|refine aX (fun _=>?_) fun _=>?_|refine ax (fun _=>?_) fun _=>?_|apply ba|apply ai
   ·exact z0
   ·rfl
 rintro x rfl;obtain⟨nm,t0,t1,cd,e1,e2,e3⟩:=id hE;obtain⟨_,_,ce,lk,cn,th,fu⟩:=nm;obtain⟨f1,f2,f3⟩:=id hF;refine bn (fun x=>x.2=(w,s,e,0)∧(x.1=true→e.2.1=3∨e.2.1=4)) ?_ ?_
 ·with_reducible repeat' first|apply aQ|apply aA|apply aK|apply aU|apply a8|apply a9|apply aR|apply aV|apply bE|apply aL|apply bK|apply bL|refine aG (fun _=>?_) fun _=>?_|refine be (fun _=>?_) fun _=>?_|refine aE (fun _=>?_) fun _=>?_|refine aP (fun _=>?_) fun _=>?_|refine aX (fun _=>?_) fun _=>?_|refine ax (fun _=>?_) fun _=>?_|apply ba|apply ai
  ·exact⟨rfl,fun _=>.inl (by assumption)⟩
  ·exact⟨rfl,fun h=>.inr (of_decide_eq_true h)⟩
 rintro⟨x1,x2⟩ ⟨hx2,hx1⟩;dsimp only at hx2 hx1;subst hx2;refine bn (fun x=>x.2=(w,s,e,0)) ?_ ?_
 ·with_reducible repeat' first|apply aQ|apply aA|apply aK|apply aU|apply a8|apply a9|apply aR|apply aV|apply bE|apply aL|apply bK|apply bL|refine aG (fun _=>?_) fun _=>?_|refine be (fun _=>?_) fun _=>?_|refine aE (fun _=>?_) fun _=>?_|refine aP (fun _=>?_) fun _=>?_|refine aX (fun _=>?_) fun _=>?_|refine ax (fun _=>?_) fun _=>?_|apply ba|apply ai
  all_goals first|rfl|skip
  ·exact (ce (hx1 (by assumption))).1
  ·exact (ce (hx1 (by assumption))).2
 rintro⟨x1,x2⟩ hx2;dsimp only at hx2;subst hx2;refine ax (fun _=>hz z0) fun _=>?_
 refine bn (fun x=>x.2=(w,s,e,0)) ?_ ?_
 ·with_reducible repeat' first|apply aQ|apply aA|apply aK|apply aU|apply a8|apply a9|apply aR|apply aV|apply bE|apply aL|apply bK|apply bL|refine aG (fun _=>?_) fun _=>?_|refine be (fun _=>?_) fun _=>?_|refine aE (fun _=>?_) fun _=>?_|refine aP (fun _=>?_) fun _=>?_|refine aX (fun _=>?_) fun _=>?_|refine ax (fun _=>?_) fun _=>?_|apply ba|apply ai
  all_goals rfl
 rintro⟨x1,x2⟩ hx2;dsimp only at hx2;subst hx2;refine ax (fun _=>hz z0) fun _=>?_
 have hk:=hs.k;have hc:=hs.c;have hfu:=hs.f;refine bn (fun x=>x.2=(w,s,e,0)) ?_ ?_
 ·have hv:=Dt w s hs hF e hE;refine aA t0 (by rw[f3];exact t1) (aL (al (vJ _ _ hd) fun b hb=>?_));refine ax (fun _=>ai rfl) fun _=>?_
  refine aA t0 (by rw[f3];exact t1) (aL (al (vJ _ _ hf) fun b hb=>?_));refine ax (fun _=>ai rfl) fun _=>?_
  exact al hv fun b hb=>ai rfl
 rintro⟨x1,x2⟩ hx2;dsimp only at hx2;subst hx2;refine ax (fun _=>hz z0) fun _=>?_
 refine aK (by simp;omega) (by omega) (aK (by simp;omega) (by omega) (aK (by simp;omega) (by omega) ?_));refine bn (fun x=>x.2=(w,s,e,0,0,s.2.1,s.2.2.1,s.2.2.2)) ?_ ?_
 ·with_reducible repeat' first|apply aQ|apply aA|apply aK|apply aU|apply a8|apply a9|apply aR|apply aV|apply bE|apply aL|apply bK|apply bL|refine aG (fun _=>?_) fun _=>?_|refine be (fun _=>?_) fun _=>?_|refine aE (fun _=>?_) fun _=>?_|refine aP (fun _=>?_) fun _=>?_|refine aX (fun _=>?_) fun _=>?_|refine ax (fun _=>?_) fun _=>?_|apply ba|apply ai
  all_goals rfl
 rintro⟨x1,x2⟩ hx2;dsimp only at hx2;subst hx2;refine al (AD w s.1 hs.sb hw e.1 e.2.1 e.2.2.1 x1) fun y hy=>?_
 obtain⟨_,hap⟩:=hy.1 (hy.2.2 hEn);refine bn (fun x=>x.1=e∧x.2.2.1=y.1∧x.2.2.2.1.length=s.2.1.length∧x.2.2.2.2=(s.2.2.1,s.2.2.2)) ?_ ?_
 ·with_reducible repeat' first|apply aQ|apply aA|apply aK|apply aU|apply a8|apply a9|apply aR|apply aV|apply bE|apply aL|apply bK|apply bL|refine aG (fun _=>?_) fun _=>?_|refine be (fun _=>?_) fun _=>?_|refine aE (fun _=>?_) fun _=>?_|refine aP (fun _=>?_) fun _=>?_|refine aX (fun _=>?_) fun _=>?_|refine ax (fun _=>?_) fun _=>?_|apply ba|apply ai
  all_goals try simp only[aj,decide_eq_true_eq,true_or,or_true,true_implies,true_and,and_true] at*
  all_goals first|omega|exact cJ _ _ _|(rw [cJ];omega)
 rintro⟨x1,x2,x3,x4,x5,x6⟩ ⟨h1,h2,h3,h4⟩;simp only[ay] at h1 h2 h3 h4;obtain⟨rfl,rfl⟩:=h4;subst h1;subst h2;refine bn (fun x=>x.1=x1∧x.2.2.1=y.1∧x.2.2.2.1.length=s.2.1.length∧x.2.2.2.2.1.length=s.2.2.1.length∧x.2.2.2.2.2=s.2.2.2) ?_ ?_
 ·with_reducible repeat' first|apply aQ|apply aA|apply aK|apply aU|apply a8|apply a9|apply aR|apply aV|apply bE|apply aL|apply bK|apply bL|refine aG (fun _=>?_) fun _=>?_|refine be (fun _=>?_) fun _=>?_|refine aE (fun _=>?_) fun _=>?_|refine aP (fun _=>?_) fun _=>?_|refine aX (fun _=>?_) fun _=>?_|refine ax (fun _=>?_) fun _=>?_|apply ba|apply ai
  all_goals try simp only[aj,decide_eq_true_eq,true_or,or_true,true_implies,true_and,and_true] at*
  all_goals first|omega|exact cJ _ _ _|(rw [cJ];omega)
 rintro⟨x1,x2,x3,x4,x5,x6⟩ ⟨h1,h2,h4,h5,h6⟩;simp only at h1 h2 h4 h5 h6;subst h1;subst h2;subst h6;with_reducible repeat' first|apply aQ|apply aA|apply aK|apply aU|apply a8|apply a9|apply aR|apply aV|apply bE|apply aL|apply bK|apply bL|refine aG (fun _=>?_) fun _=>?_|refine be (fun _=>?_) fun _=>?_|refine aE (fun _=>?_) fun _=>?_|refine aP (fun _=>?_) fun _=>?_|refine aX (fun _=>?_) fun _=>?_|refine ax (fun _=>?_) fun _=>?_|apply ba|apply ai
 all_goals try simp only[aj,decide_eq_true_eq,true_or,or_true,true_implies,true_and,and_true] at*
 all_goals first|omega|skip
 trace_state
 exact⟨⟨hE,⟨hap,h4,h5,by rw[cJ]⟩⟩,fun h=>(by cases h)⟩
theorem Keywords_ok:Ok (jD ()) fun l=>l.length=22:=by
 unfold jD;with_reducible repeat' first|apply aQ|apply aA|apply aK|apply aU|apply a8|apply a9|apply aR|apply aV|apply bE|apply aL|apply bK|apply bL|refine aG (fun _=>?_) fun _=>?_|refine be (fun _=>?_) fun _=>?_|refine aE (fun _=>?_) fun _=>?_|refine aP (fun _=>?_) fun _=>?_|refine aX (fun _=>?_) fun _=>?_|refine ax (fun _=>?_) fun _=>?_|apply ba|apply ai
 all_goals rfl
theorem yN (s:List UInt8):Ok (iF s) fun _=>True:=by
 unfold iF;refine al Keywords_ok fun l hl=>?_
 refine bY l.length (fun i x=>x=(i:Int)) ?_ ?_ rfl
 ·rintro i x hi rfl;with_reducible repeat' first|apply aQ|apply aA|apply aK|apply aU|apply a8|apply a9|apply aR|apply aV|apply bE|apply aL|apply bK|apply bL|refine aG (fun _=>?_) fun _=>?_|refine be (fun _=>?_) fun _=>?_|refine aE (fun _=>?_) fun _=>?_|refine aP (fun _=>?_) fun _=>?_|refine aX (fun _=>?_) fun _=>?_|refine ax (fun _=>?_) fun _=>?_|apply ba|apply ai
  all_goals try simp only[aj,decide_eq_true_eq,true_or,or_true,true_implies,true_and,and_true] at*
  all_goals first|omega|exact hJ (by omega)
 ·rintro x rfl;with_reducible repeat' first|apply aQ|apply aA|apply aK|apply aU|apply a8|apply a9|apply aR|apply aV|apply bE|apply aL|apply bK|apply bL|refine aG (fun _=>?_) fun _=>?_|refine be (fun _=>?_) fun _=>?_|refine aE (fun _=>?_) fun _=>?_|refine aP (fun _=>?_) fun _=>?_|refine aX (fun _=>?_) fun _=>?_|refine ax (fun _=>?_) fun _=>?_|apply ba|apply ai
  all_goals try simp only[aj,decide_eq_true_eq,true_or,or_true,true_implies,true_and,and_true] at*
  all_goals omega
theorem xL (c:Int):Ok (kq c) fun _=>True:=by
 unfold kq;with_reducible repeat' first|apply aQ|apply aA|apply aK|apply aU|apply a8|apply a9|apply aR|apply aV|apply bE|apply aL|apply bK|apply bL|refine aG (fun _=>?_) fun _=>?_|refine be (fun _=>?_) fun _=>?_|refine aE (fun _=>?_) fun _=>?_|refine aP (fun _=>?_) fun _=>?_|refine aX (fun _=>?_) fun _=>?_|refine ax (fun _=>?_) fun _=>?_|apply ba|apply ai
 all_goals exact trivial
theorem Ea (c:Int):Ok (nG c) fun _=>True:=by
 unfold nG px;refine ba (al (xL c) fun _ _=>?_);with_reducible repeat' first|apply aQ|apply aA|apply aK|apply aU|apply a8|apply a9|apply aR|apply aV|apply bE|apply aL|apply bK|apply bL|refine aG (fun _=>?_) fun _=>?_|refine be (fun _=>?_) fun _=>?_|refine aE (fun _=>?_) fun _=>?_|refine aP (fun _=>?_) fun _=>?_|refine aX (fun _=>?_) fun _=>?_|refine ax (fun _=>?_) fun _=>?_|apply ba|apply ai
 all_goals try exact trivial
 refine al (P:=fun _=>True) ?_ fun _ _=>?_
 ·with_reducible repeat' first|apply aQ|apply aA|apply aK|apply aU|apply a8|apply a9|apply aR|apply aV|apply bE|apply aL|apply bK|apply bL|refine aG (fun _=>?_) fun _=>?_|refine be (fun _=>?_) fun _=>?_|refine aE (fun _=>?_) fun _=>?_|refine aP (fun _=>?_) fun _=>?_|refine aX (fun _=>?_) fun _=>?_|refine ax (fun _=>?_) fun _=>?_|apply ba|apply ai
  all_goals exact trivial
 ·with_reducible repeat' first|apply aQ|apply aA|apply aK|apply aU|apply a8|apply a9|apply aR|apply aV|apply bE|apply aL|apply bK|apply bL|refine aG (fun _=>?_) fun _=>?_|refine be (fun _=>?_) fun _=>?_|refine aE (fun _=>?_) fun _=>?_|refine aP (fun _=>?_) fun _=>?_|refine aX (fun _=>?_) fun _=>?_|refine ax (fun _=>?_) fun _=>?_|apply ba|apply ai
  all_goals exact trivial
theorem eB (s:List UInt8):Ok (dQ s) fun _=>True:=by
 unfold dQ;refine bn (fun b=>b=false→s.length≤12) ?_ ?_
 ·with_reducible repeat' first|apply aQ|apply aA|apply aK|apply aU|apply a8|apply a9|apply aR|apply aV|apply bE|apply aL|apply bK|apply bL|refine aG (fun _=>?_) fun _=>?_|refine be (fun _=>?_) fun _=>?_|refine aE (fun _=>?_) fun _=>?_|refine aP (fun _=>?_) fun _=>?_|refine aX (fun _=>?_) fun _=>?_|refine ax (fun _=>?_) fun _=>?_|apply ba|apply ai
  ·exact fun h=>(by cases h)
  ·exact fun h=>(by cases h)
  ·omega
  ·simp only[aj] at *;omega
  refine al (xL _) fun _ _=>?_
  with_reducible repeat' first|apply aQ|apply aA|apply aK|apply aU|apply a8|apply a9|apply aR|apply aV|apply bE|apply aL|apply bK|apply bL|refine aG (fun _=>?_) fun _=>?_|refine be (fun _=>?_) fun _=>?_|refine aE (fun _=>?_) fun _=>?_|refine aP (fun _=>?_) fun _=>?_|refine aX (fun _=>?_) fun _=>?_|refine ax (fun _=>?_) fun _=>?_|apply ba|apply ai
  ·exact fun h=>(by cases h)
  refine al (yN _) fun _ _=>ai fun _=>?_
  simp only[aj] at *;omega
 ·rintro b hb;refine ax (fun _=>ai trivial) fun h=>?_
  have hb:=hb h;refine bY s.length (fun i x=>x=(i:Int)) ?_ ?_ rfl
  ·rintro i x hi rfl;with_reducible repeat' first|apply aQ|apply aA|apply aK|apply aU|apply a8|apply a9|apply aR|apply aV|apply bE|apply aL|apply bK|apply bL|refine aG (fun _=>?_) fun _=>?_|refine be (fun _=>?_) fun _=>?_|refine aE (fun _=>?_) fun _=>?_|refine aP (fun _=>?_) fun _=>?_|refine aX (fun _=>?_) fun _=>?_|refine ax (fun _=>?_) fun _=>?_|apply ba|apply ai
   all_goals try simp only[aj,decide_eq_true_eq,true_or,or_true,true_implies,true_and,and_true] at*
   all_goals first|omega|skip
   refine al (Ea _) fun _ _=>?_
   with_reducible repeat' first|apply aQ|apply aA|apply aK|apply aU|apply a8|apply a9|apply aR|apply aV|apply bE|apply aL|apply bK|apply bL|refine aG (fun _=>?_) fun _=>?_|refine be (fun _=>?_) fun _=>?_|refine aE (fun _=>?_) fun _=>?_|refine aP (fun _=>?_) fun _=>?_|refine aX (fun _=>?_) fun _=>?_|refine ax (fun _=>?_) fun _=>?_|apply ba|apply ai
   ·exact trivial
   ·exact hJ (by omega)
  ·rintro x rfl;with_reducible repeat' first|apply aQ|apply aA|apply aK|apply aU|apply a8|apply a9|apply aR|apply aV|apply bE|apply aL|apply bK|apply bL|refine aG (fun _=>?_) fun _=>?_|refine be (fun _=>?_) fun _=>?_|refine aE (fun _=>?_) fun _=>?_|refine aP (fun _=>?_) fun _=>?_|refine aX (fun _=>?_) fun _=>?_|refine ax (fun _=>?_) fun _=>?_|apply ba|apply ai
   all_goals try simp only[aj,decide_eq_true_eq,true_or,or_true,true_implies,true_and,and_true] at*
   all_goals first|omega|exact trivial
theorem s5 (l:List (List UInt8)) (s:List UInt8) (hl:l.length≤1000000000):Ok (fH (l,s)) fun r=> -1≤r∧r<l.length∧(0≤r→aB (T:=.str) l r=s):=by
 unfold fH;refine bY l.length (fun i x=>x=(i:Int)) ?_ ?_ rfl
 ·rintro i x hi rfl;with_reducible repeat' first|apply aQ|apply aA|apply aK|apply aU|apply a8|apply a9|apply aR|apply aV|apply bE|apply aL|apply bK|apply bL|refine aG (fun _=>?_) fun _=>?_|refine be (fun _=>?_) fun _=>?_|refine aE (fun _=>?_) fun _=>?_|refine aP (fun _=>?_) fun _=>?_|refine aX (fun _=>?_) fun _=>?_|refine ax (fun _=>?_) fun _=>?_|apply ba|apply ai
  all_goals try simp only[aj,decide_eq_true_eq,true_or,or_true,true_implies,true_and,and_true] at*
  all_goals first|omega|exact hJ (by omega)|skip
  exact⟨by omega,by omega,fun _=>by assumption⟩
 ·rintro x rfl;with_reducible repeat' first|apply aQ|apply aA|apply aK|apply aU|apply a8|apply a9|apply aR|apply aV|apply bE|apply aL|apply bK|apply bL|refine aG (fun _=>?_) fun _=>?_|refine be (fun _=>?_) fun _=>?_|refine aE (fun _=>?_) fun _=>?_|refine aP (fun _=>?_) fun _=>?_|refine aX (fun _=>?_) fun _=>?_|refine ax (fun _=>?_) fun _=>?_|apply ba|apply ai
  all_goals try simp only[aj,decide_eq_true_eq,true_or,or_true,true_implies,true_and,and_true] at*
  all_goals omega
structure VL (w:WT):Prop where
 c:w.1.length≤12
 l:w.2.1.length≤4
 d:w.2.2.1.length≤2
 f:w.2.2.2.1.length≤2
 t0:1≤w.2.2.2.2.1.length
 t:w.2.2.2.2.1.length≤4
 s:w.2.2.2.2.2.length≤60
theorem DW (w:WT) (h:VL w):Ok (nA w) fun y=>y.1.length≤100:=by
 obtain⟨w1,w2,w3,w4,w5,w6⟩:=w;obtain⟨h1,h2,h3,h4,_,h5,h6⟩:=h;dsimp only at*
 unfold nA;refine kz (fun x=>((w1.length:Int)-x.1).toNat) (fun x=>x.2.1=(w1,w2,w3,w4,w5,w6)∧0≤x.1∧x.1≤(w1.length:Int)∧(x.2.2.length:Int)≤x.1) ?_ ⟨rfl,by simp,by simp,by simp⟩;rintro⟨x1,x2,x3⟩ ⟨e,g1,g2,g3⟩;dsimp only at e g1 g2 g3;subst e;refine aG (fun g4=>?_) fun g4=>?_
 ·dsimp only[aj] at g4;refine bn (fun x=>x.2.1=(w1,w2,w3,w4,w5,w6)∧x1<x.1∧x.1≤(w1.length:Int)∧(x.2.2.length:Int)≤x.1) ?_ ?_
  ·refine aA (by omega) (by omega) (aL (aK (by simp;omega) (by omega) ?_));refine aE (fun _=>?_) fun _=>?_
   ·with_reducible repeat' first|apply aQ|apply aA|apply aK|apply aU|apply a8|apply a9|apply aR|apply aV|apply bE|apply aL|apply bK|apply bL|refine aG (fun _=>?_) fun _=>?_|refine be (fun _=>?_) fun _=>?_|refine aE (fun _=>?_) fun _=>?_|refine aP (fun _=>?_) fun _=>?_|refine aX (fun _=>?_) fun _=>?_|refine ax (fun _=>?_) fun _=>?_|apply ba|apply ai
    ·exact nP _
    ·rw[io (by omega) (by omega)];exact⟨rfl,by dsimp only;omega,by dsimp only;omega,by simp;omega⟩
   ·generalize hz:aB _ x1=z;obtain⟨z1,(z2:Int),(z3:Int),z4,z5⟩:=z;dsimp only;refine bn (fun x=>x.2=((w1,w2,w3,w4,w5,w6),x3++[z1],z1,z2,z3,z4,z5)∧(x.1=false→1≤z3∧z3≤4∧x1+z3≤w1.length)) ?_ ?_
    ·with_reducible repeat' first|apply aQ|apply aA|apply aK|apply aU|apply a8|apply a9|apply aR|apply aV|apply bE|apply aL|apply bK|apply bL|refine aG (fun _=>?_) fun _=>?_|refine be (fun _=>?_) fun _=>?_|refine aE (fun _=>?_) fun _=>?_|refine aP (fun _=>?_) fun _=>?_|refine aX (fun _=>?_) fun _=>?_|refine ax (fun _=>?_) fun _=>?_|apply ba|apply ai
     ·exact⟨rfl,fun h=>(by cases h)⟩
     ·exact⟨rfl,fun h=>(by cases h)⟩
     ·refine ⟨rfl,fun h=>?_⟩;dsimp only[aj] at*
      rw[io (by omega) (by omega),o8] at h;omega
    ·rintro⟨b,y⟩ ⟨e,hb⟩;dsimp only at e hb;subst e;refine ax (fun _=>ai (nP _)) fun h=>?_
     obtain⟨q1,q2,q3⟩:=hb h;refine kz (fun x=>(z3-x.1).toNat) (fun x=>x.2=((w1,w2,w3,w4,w5,w6),x3++[z1],z1,z2,z3,z4,z5)∧0≤x.1∧x.1≤z3) ?_ ⟨rfl,by simp,by dsimp only;omega⟩;rintro⟨k,y⟩ ⟨e,k0,k1⟩;dsimp only at e k0 k1;subst e;refine aG (fun k2=>?_) fun k2=>?_
     ·dsimp only at k2;have e1:aJ .i64 (x1+k)=x1+k:=io (by omega) (by omega);refine aA (by dsimp only;rw[e1];omega) (by dsimp only;rw[e1];omega) (aL ?_);refine bn (fun x=>x.2=((w1,w2,w3,w4,w5,w6),x3++[z1],z1,z2,z3,z4,z5)) ?_ ?_
      ·with_reducible repeat' first|apply aQ|apply aA|apply aK|apply aU|apply a8|apply a9|apply aR|apply aV|apply bE|apply aL|apply bK|apply bL|refine aG (fun _=>?_) fun _=>?_|refine be (fun _=>?_) fun _=>?_|refine aE (fun _=>?_) fun _=>?_|refine aP (fun _=>?_) fun _=>?_|refine aX (fun _=>?_) fun _=>?_|refine ax (fun _=>?_) fun _=>?_|apply ba|apply ai
       all_goals rfl
      ·rintro⟨b,y⟩ e;dsimp only at e;subst e;refine ax (fun _=>ai (nP _)) fun _=>ai ?_
       dsimp only;rw[io (by omega) (by omega)];exact⟨⟨rfl,by omega,by omega⟩,by omega⟩
     ·dsimp only at k2;refine ai ?_;dsimp only;rw[io (by omega) (by omega)];exact⟨rfl,by omega,by omega,by simp;omega⟩
  ·rintro⟨y1,y2,y3⟩ ⟨e,g5,g6,g7⟩;dsimp only at e g5 g6 g7;subst e;refine ai ⟨⟨rfl,by dsimp only;omega,g6,g7⟩,?_⟩;dsimp only;omega
 ·dsimp only[aj] at g4;refine al (P:=fun y=>y.1.length≤100) ?_ fun y hy=>ai hy
  refine bY w2.length (fun i x=>x.1=(i:Int)∧x.2.1=(w1,w2,w3,w4,w5,w6)∧x.2.2.length≤12+i) ?_ ?_ ⟨rfl,rfl,by dsimp only;omega⟩
  ·rintro i ⟨a,b,c⟩ hi ⟨e1,e2,e3⟩;dsimp only at e1 e2 e3;subst e1;subst e2;with_reducible repeat' first|apply aQ|apply aA|apply aK|apply aU|apply a8|apply a9|apply aR|apply aV|apply bE|apply aL|apply bK|apply bL|refine aG (fun _=>?_) fun _=>?_|refine be (fun _=>?_) fun _=>?_|refine aE (fun _=>?_) fun _=>?_|refine aP (fun _=>?_) fun _=>?_|refine aX (fun _=>?_) fun _=>?_|refine ax (fun _=>?_) fun _=>?_|apply ba|apply ai
   all_goals try simp only[aj,decide_eq_true_eq,true_or,or_true,true_implies,true_and,and_true] at*
   all_goals first|omega|(simp;omega)|skip
   exact⟨hJ (by omega),by simp;omega⟩
  ·rintro⟨a,b,c⟩ ⟨e1,e2,e3⟩;dsimp only at e1 e2 e3;subst e1;subst e2;refine aG (fun g4=>(by dsimp only[aj] at g4;omega)) fun _=>?_
   refine al (P:=fun y=>y.1.length≤100) ?_ fun y hy=>ai hy
   refine bY w3.length (fun i x=>x.1=(i:Int)∧x.2.1=(w1,w2,w3,w4,w5,w6)∧x.2.2.length≤16+i) ?_ ?_ ⟨rfl,rfl,by dsimp only;omega⟩
   ·rintro i ⟨a,b,c⟩ hi ⟨e1,e2,e3⟩;dsimp only at e1 e2 e3;subst e1;subst e2;with_reducible repeat' first|apply aQ|apply aA|apply aK|apply aU|apply a8|apply a9|apply aR|apply aV|apply bE|apply aL|apply bK|apply bL|refine aG (fun _=>?_) fun _=>?_|refine be (fun _=>?_) fun _=>?_|refine aE (fun _=>?_) fun _=>?_|refine aP (fun _=>?_) fun _=>?_|refine aX (fun _=>?_) fun _=>?_|refine ax (fun _=>?_) fun _=>?_|apply ba|apply ai
    all_goals try simp only[aj,decide_eq_true_eq,true_or,or_true,true_implies,true_and,and_true] at*
    all_goals first|omega|(simp;omega)|skip
    exact⟨hJ (by omega),by simp;omega⟩
   ·rintro⟨a,b,c⟩ ⟨e1,e2,e3⟩;dsimp only at e1 e2 e3;subst e1;subst e2;refine aG (fun g4=>(by dsimp only[aj] at g4;omega)) fun _=>?_
    refine al (P:=fun y=>y.1.length≤100) ?_ fun y hy=>ai hy
    with_reducible repeat' first|apply aQ|apply aA|apply aK|apply aU|apply a8|apply a9|apply aR|apply aV|apply bE|apply aL|apply bK|apply bL|refine aG (fun _=>?_) fun _=>?_|refine be (fun _=>?_) fun _=>?_|refine aE (fun _=>?_) fun _=>?_|refine aP (fun _=>?_) fun _=>?_|refine aX (fun _=>?_) fun _=>?_|refine ax (fun _=>?_) fun _=>?_|apply ba|apply ai
    all_goals try simp only[aj,decide_eq_true_eq,true_or,or_true,true_implies,true_and,and_true] at*
    all_goals first|omega|(simp;omega)
theorem qZ (w:WT):Ok (fQ w) fun b=>b=true→VL w:=by
 unfold fQ;refine bn (fun x=>x.2=w∧(x.1=false→VL w)) ?_ ?_
 ·with_reducible repeat' first|apply aQ|apply aA|apply aK|apply aU|apply a8|apply a9|apply aR|apply aV|apply bE|apply aL|apply bK|apply bL|refine aG (fun _=>?_) fun _=>?_|refine be (fun _=>?_) fun _=>?_|refine aE (fun _=>?_) fun _=>?_|refine aP (fun _=>?_) fun _=>?_|refine aX (fun _=>?_) fun _=>?_|refine ax (fun _=>?_) fun _=>?_|apply ba|apply ai
  all_goals first|exact⟨rfl,fun h=>(by cases h)⟩|skip
  dsimp only[aj] at*
  refine ⟨rfl,fun h=>?_⟩;rw[o8] at h;constructor<;>omega
 rintro⟨b,x⟩ ⟨e,hb⟩;dsimp only at e hb;subst e;refine ax (fun _=>ai fun h=>(by cases h)) fun h=>?_
 have hv:=hb h;refine al (DW _ hv) fun y hy=>?_
 refine aX (fun _=>ai fun h=>(by cases h)) fun _=>?_
 obtain⟨w1,w2,w3,w4,w5,w6⟩:=x;have h6:=hv.s;have h3:=hv.d;dsimp only at h6 h3;refine bY y.1.length (fun i x=>x.1=(i:Int)∧x.2=(w1,w2,w3,w4,w5,w6)) ?_ ?_ ⟨rfl,rfl⟩
 ·rintro i ⟨a,b⟩ hi ⟨e1,e2⟩;dsimp only at e1 e2;subst e1;subst e2;refine aG (fun g4=>?_) fun g4=>(by dsimp only[aj] at g4;omega)
  refine bn (fun x=>x.2=(w1,w2,w3,w4,w5,w6)) ?_ ?_
  ·refine aA (by dsimp only;omega) (by dsimp only;omega) (aL (al (eB _) fun _ _=>?_));refine aX (fun _=>ai rfl) fun _=>?_
   with_reducible repeat' first|apply aQ|apply aA|apply aK|apply aU|apply a8|apply a9|apply aR|apply aV|apply bE|apply aL|apply bK|apply bL|refine aG (fun _=>?_) fun _=>?_|refine be (fun _=>?_) fun _=>?_|refine aE (fun _=>?_) fun _=>?_|refine aP (fun _=>?_) fun _=>?_|refine aX (fun _=>?_) fun _=>?_|refine ax (fun _=>?_) fun _=>?_|apply ba|apply ai
   all_goals try simp only[aj,decide_eq_true_eq,true_or,or_true,true_implies,true_and,and_true] at*
   all_goals first|omega|skip
   refine al (s5 _ _ (by simp;omega)) fun _ _=>ai rfl
  ·rintro⟨a,b⟩ e;dsimp only at e;subst e;with_reducible repeat' first|apply aQ|apply aA|apply aK|apply aU|apply a8|apply a9|apply aR|apply aV|apply bE|apply aL|apply bK|apply bL|refine aG (fun _=>?_) fun _=>?_|refine be (fun _=>?_) fun _=>?_|refine aE (fun _=>?_) fun _=>?_|refine aP (fun _=>?_) fun _=>?_|refine aX (fun _=>?_) fun _=>?_|refine ax (fun _=>?_) fun _=>?_|apply ba|apply ai
   ·exact fun _=>hv
   ·dsimp only;exact⟨hJ (by omega),rfl⟩
 rintro⟨a,b⟩ ⟨e1,e2⟩;dsimp only at e1 e2;subst e1;subst e2;refine aG (fun g4=>(by dsimp only[aj] at g4;omega)) fun _=>?_
 refine al (P:=fun b=>b=true→VL (w1,w2,w3,w4,w5,w6)) ?_ fun y hy=>ai hy
 refine bY w3.length (fun i x=>x.1=(i:Int)∧x.2=(w1,w2,w3,w4,w5,w6)) ?_ ?_ ⟨rfl,rfl⟩
 ·rintro i ⟨a,b⟩ hi ⟨e1,e2⟩;dsimp only at e1 e2;subst e1;subst e2;refine aG (fun g4=>?_) fun g4=>(by dsimp only[aj] at g4;omega)
  refine aA (by dsimp only;omega) (by dsimp only;omega) (aL ?_);refine bn (fun x=>x.2=(w1,w2,w3,w4,w5,w6)) ?_ ?_
  ·with_reducible repeat' first|apply aQ|apply aA|apply aK|apply aU|apply a8|apply a9|apply aR|apply aV|apply bE|apply aL|apply bK|apply bL|refine aG (fun _=>?_) fun _=>?_|refine be (fun _=>?_) fun _=>?_|refine aE (fun _=>?_) fun _=>?_|refine aP (fun _=>?_) fun _=>?_|refine aX (fun _=>?_) fun _=>?_|refine ax (fun _=>?_) fun _=>?_|apply ba|apply ai
   all_goals try simp only[aj,decide_eq_true_eq,true_or,or_true,true_implies,true_and,and_true] at*
   all_goals first|omega|rfl
  ·rintro⟨a,b⟩ e;dsimp only at e;subst e;with_reducible repeat' first|apply aQ|apply aA|apply aK|apply aU|apply a8|apply a9|apply aR|apply aV|apply bE|apply aL|apply bK|apply bL|refine aG (fun _=>?_) fun _=>?_|refine be (fun _=>?_) fun _=>?_|refine aE (fun _=>?_) fun _=>?_|refine aP (fun _=>?_) fun _=>?_|refine aX (fun _=>?_) fun _=>?_|refine ax (fun _=>?_) fun _=>?_|apply ba|apply ai
   ·exact fun _=>hv
   ·dsimp only;exact⟨hJ (by omega),rfl⟩
 rintro⟨a,b⟩ ⟨e1,e2⟩;dsimp only at e1 e2;subst e1;subst e2;refine aG (fun g4=>(by dsimp only[aj] at g4;omega)) fun _=>?_
 refine al (P:=fun b=>b=true→VL (w1,w2,w3,w4,w5,w6)) ?_ fun y hy=>ai hy
 refine bY w6.length (fun i x=>x.1=(i:Int)∧x.2=(w1,w2,w3,w4,w5,w6)) ?_ ?_ ⟨rfl,rfl⟩
 ·rintro i ⟨a,b⟩ hi ⟨e1,e2⟩;dsimp only at e1 e2;subst e1;subst e2;have hw:¬(i:Int)=0→aJ .i64 ((i:Int)-1)=(i:Int)-1:=fun h=>io (by omega) (by omega)
  refine aG (fun g4=>?_) fun g4=>(by dsimp only[aj] at g4;omega)
  refine bn (fun x=>x=(w1,w2,w3,w4,w5,w6)) ?_ ?_
  ·refine aA (by dsimp only;omega) (by dsimp only;omega) (aL ?_);generalize hz:aB _ (i:Int)=z;obtain⟨(z1:Int),(z2:Int),(z3:Int)⟩:=z;dsimp only;refine bn (fun x=>x.2=((w1,w2,w3,w4,w5,w6),z1,z2,z3)) ?_ ?_
   ·with_reducible repeat' first|apply aQ|apply aA|apply aK|apply aU|apply a8|apply a9|apply aR|apply aV|apply bE|apply aL|apply bK|apply bL|refine aG (fun _=>?_) fun _=>?_|refine be (fun _=>?_) fun _=>?_|refine aE (fun _=>?_) fun _=>?_|refine aP (fun _=>?_) fun _=>?_|refine aX (fun _=>?_) fun _=>?_|refine ax (fun _=>?_) fun _=>?_|apply ba|apply ai
    all_goals rfl
   rintro⟨c,y⟩ e;dsimp only at e;subst e;refine ax (fun _=>ai fun h=>(by cases h)) fun _=>?_
   refine bn (fun x=>x.2=((w1,w2,w3,w4,w5,w6),z1,z2,z3)∧(x.1=false→¬(i:Int)=0)) ?_ ?_
   ·refine aE (fun _=>ai ⟨rfl,fun h=>(by cases h)⟩) fun h=>?_
    rw[hw h];refine aA (by omega) (by dsimp only;omega) (aL (ai ⟨rfl,fun _=>h⟩))
   rintro⟨c,y⟩ ⟨e,hc⟩;dsimp only at e hc;subst e;refine ax (fun _=>?_) fun hcf=>?_
   ·refine bn (fun x=>x.2=(w1,w2,w3,w4,w5,w6)) ?_ ?_
    ·refine aP (fun _=>ai rfl) fun _=>?_
     refine aG (fun h=>?_) fun _=>ai rfl
     rw[hw (by omega)];refine aA (by omega) (by dsimp only;omega) (aL (ai rfl))
    rintro⟨c,y⟩ e;dsimp only at e;subst e;with_reducible repeat' first|apply aQ|apply aA|apply aK|apply aU|apply a8|apply a9|apply aR|apply aV|apply bE|apply aL|apply bK|apply bL|refine aG (fun _=>?_) fun _=>?_|refine be (fun _=>?_) fun _=>?_|refine aE (fun _=>?_) fun _=>?_|refine aP (fun _=>?_) fun _=>?_|refine aX (fun _=>?_) fun _=>?_|refine ax (fun _=>?_) fun _=>?_|apply ba|apply ai
    ·exact fun h=>(by cases h)
    ·rfl
   ·rw[hw (hc hcf)];have:=hc hcf;refine aA (by omega) (by dsimp only;omega) (aL ?_);with_reducible repeat' first|apply aQ|apply aA|apply aK|apply aU|apply a8|apply a9|apply aR|apply aV|apply bE|apply aL|apply bK|apply bL|refine aG (fun _=>?_) fun _=>?_|refine be (fun _=>?_) fun _=>?_|refine aE (fun _=>?_) fun _=>?_|refine aP (fun _=>?_) fun _=>?_|refine aX (fun _=>?_) fun _=>?_|refine ax (fun _=>?_) fun _=>?_|apply ba|apply ai
    ·exact fun h=>(by cases h)
    ·rfl
  ·rintro x rfl;refine ai ?_;dsimp only;exact⟨hJ (by omega),rfl⟩
 ·rintro⟨a,b⟩ ⟨e1,e2⟩;dsimp only at e1 e2;subst e1;subst e2;refine aG (fun g4=>(by dsimp only[aj] at g4;omega)) fun _=>?_
  exact ai fun _=>hv
theorem wM (w:WT) (h:VL w):Ok (lK w) fun s=>SB 0 s:=by
 obtain⟨w1,w2,w3,w4,w5,w6⟩:=w;obtain⟨h1,h2,h3,h4,_,h5,h6⟩:=h;dsimp only at*
 unfold lK;refine bY w2.length (fun i x=>x.1=(i:Int)∧x.2.1=(w1,w2,w3,w4,w5,w6)∧x.2.2.2.2.length=i∧∀ l∈x.2.2.2.2,l.2.length≤0) ?_ ?_ ⟨rfl,rfl,rfl,fun l hl=>(by cases hl)⟩
 ·rintro i ⟨a,b,c,d,e⟩ hi ⟨e1,e2,e3,e4⟩;dsimp only at e1 e2 e3 e4;subst e1;subst e2;with_reducible repeat' first|apply aQ|apply aA|apply aK|apply aU|apply a8|apply a9|apply aR|apply aV|apply bE|apply aL|apply bK|apply bL|refine aG (fun _=>?_) fun _=>?_|refine be (fun _=>?_) fun _=>?_|refine aE (fun _=>?_) fun _=>?_|refine aP (fun _=>?_) fun _=>?_|refine aX (fun _=>?_) fun _=>?_|refine ax (fun _=>?_) fun _=>?_|apply ba|apply ai
  all_goals try simp only[aj,decide_eq_true_eq,true_or,or_true,true_implies,true_and,and_true] at*
  all_goals first|omega|(simp;omega)|skip
  refine ⟨hJ (by omega),by simp;omega,fun l hl=>?_⟩;rcases bD.1 hl with hl|hl
  ·exact e4 l hl
  ·simp at hl;subst hl;simp
 rintro⟨a,b,c,d,e⟩ ⟨e1,e2,e3,e4⟩;dsimp only at e1 e2 e3 e4;subst e1;subst e2;refine aG (fun g4=>(by dsimp only[aj] at g4;omega)) fun _=>?_
 refine al (P:=fun s=>SB 0 s) ?_ fun y hy=>ai hy
 refine bY w4.length (fun i x=>x.1=(i:Int)∧x.2.1=(w1,w2,w3,w4,w5,w6)∧x.2.2.2.2.1=e∧x.2.2.2.2.2.length=i) ?_ ?_ ⟨rfl,rfl,rfl,rfl⟩
 ·rintro i ⟨a,b,c,d,e',f⟩ hi ⟨e1,e2,e5,e6⟩;dsimp only at e1 e2 e5 e6;subst e1;subst e2;subst e5;with_reducible repeat' first|apply aQ|apply aA|apply aK|apply aU|apply a8|apply a9|apply aR|apply aV|apply bE|apply aL|apply bK|apply bL|refine aG (fun _=>?_) fun _=>?_|refine be (fun _=>?_) fun _=>?_|refine aE (fun _=>?_) fun _=>?_|refine aP (fun _=>?_) fun _=>?_|refine aX (fun _=>?_) fun _=>?_|refine ax (fun _=>?_) fun _=>?_|apply ba|apply ai
  all_goals try simp only[aj,decide_eq_true_eq,true_or,or_true,true_implies,true_and,and_true] at*
  all_goals first|omega|(simp;omega)|skip
  exact⟨hJ (by omega),by simp;omega⟩
 rintro⟨a,b,c,d,e',f⟩ ⟨e1,e2,e5,e6⟩;dsimp only at e1 e2 e5 e6;subst e1;subst e2;subst e5;refine aG (fun g4=>(by dsimp only[aj] at g4;omega)) fun _=>?_
 refine al (P:=fun s=>SB 0 s) ?_ fun y hy=>ai hy
 refine bY w5.length (fun i x=>x.1=(i:Int)∧x.2.1=(w1,w2,w3,w4,w5,w6)∧x.2.2.2.2.1=e'∧x.2.2.2.2.2.1=f∧x.2.2.2.2.2.2.length=i) ?_ ?_ ⟨rfl,rfl,rfl,rfl,rfl⟩
 ·rintro i ⟨a,b,c,d,e'',f',g⟩ hi ⟨e1,e2,e5,e6,e7⟩;dsimp only at e1 e2 e5 e6 e7;subst e1;subst e2;subst e5;subst e6;with_reducible repeat' first|apply aQ|apply aA|apply aK|apply aU|apply a8|apply a9|apply aR|apply aV|apply bE|apply aL|apply bK|apply bL|refine aG (fun _=>?_) fun _=>?_|refine be (fun _=>?_) fun _=>?_|refine aE (fun _=>?_) fun _=>?_|refine aP (fun _=>?_) fun _=>?_|refine aX (fun _=>?_) fun _=>?_|refine ax (fun _=>?_) fun _=>?_|apply ba|apply ai
  all_goals try simp only[aj,decide_eq_true_eq,true_or,or_true,true_implies,true_and,and_true] at*
  all_goals first|omega|(simp;omega)|skip
  all_goals exact⟨hJ (by omega),by simp;omega⟩
 rintro⟨a,b,c,d,e'',f',g⟩ ⟨e1,e2,e5,e6,e7⟩;dsimp only at e1 e2 e5 e6 e7;subst e1;subst e2;subst e5;subst e6;refine aG (fun g4=>(by dsimp only[aj] at g4;omega)) fun _=>ai ?_
 exact⟨by omega,by dsimp only;omega,e4,by dsimp only;omega,by dsimp only;omega⟩
theorem wL (w:WT) (h:VL w):Ok (j6 w) fun s=>NB 0 s∧s.2.1.length=w.1.length∧s.2.2.1.length=w.2.2.2.1.length∧s.2.2.2.length=w.2.2.2.2.1.length:=by
 have hs:=wM w h;obtain⟨w1,w2,w3,w4,w5,w6⟩:=w;obtain⟨h1,h2,h3,h4,_,h5,h6⟩:=h;dsimp only at*
 unfold j6;refine al hs fun y hy=>?_
 with_reducible repeat' first|apply aQ|apply aA|apply aK|apply aU|apply a8|apply a9|apply aR|apply aV|apply bE|apply aL|apply bK|apply bL|refine aG (fun _=>?_) fun _=>?_|refine be (fun _=>?_) fun _=>?_|refine aE (fun _=>?_) fun _=>?_|refine aP (fun _=>?_) fun _=>?_|refine aX (fun _=>?_) fun _=>?_|refine ax (fun _=>?_) fun _=>?_|apply ba|apply ai
 all_goals try simp only[aj,decide_eq_true_eq,true_or,or_true,true_implies,true_and,and_true] at*
 all_goals first|omega|skip
 refine bY w1.length (fun i x=>x.1=(i:Int)∧x.2.1=(w1,w2,w3,w4,w5,w6)∧x.2.2.2.1=y∧x.2.2.2.2.1.length=i∧x.2.2.2.2.2.1.length=w4.length∧x.2.2.2.2.2.2.length=w5.length) ?_ ?_ ⟨rfl,rfl,rfl,rfl,by simp,by simp⟩
 ·rintro i ⟨a,b,c,d,e,f,g⟩ hi ⟨e1,e2,e3,e4,e5,e6⟩;dsimp only at e1 e2 e3 e4 e5 e6;subst e1;subst e2;subst e3;with_reducible repeat' first|apply aQ|apply aA|apply aK|apply aU|apply a8|apply a9|apply aR|apply aV|apply bE|apply aL|apply bK|apply bL|refine aG (fun _=>?_) fun _=>?_|refine be (fun _=>?_) fun _=>?_|refine aE (fun _=>?_) fun _=>?_|refine aP (fun _=>?_) fun _=>?_|refine aX (fun _=>?_) fun _=>?_|refine ax (fun _=>?_) fun _=>?_|apply ba|apply ai
  all_goals try simp only[aj,decide_eq_true_eq,true_or,or_true,true_implies,true_and,and_true] at*
  all_goals first|omega|(simp;omega)|skip
  exact⟨hJ (by omega),by simp;omega,e5,e6⟩
 rintro⟨a,b,c,d,e,f,g⟩ ⟨e1,e2,e3,e4,e5,e6⟩;dsimp only at e1 e2 e3 e4 e5 e6;subst e1;subst e2;subst e3;refine aG (fun g4=>(by dsimp only[aj] at g4;omega)) fun _=>ai ?_
 exact⟨⟨hy,by dsimp only;omega,by dsimp only;omega,by dsimp only;omega⟩,by dsimp only;omega,by dsimp only;omega,by dsimp only;omega⟩
theorem zl (l:List ET) (i t:Int) (ns:List Int) (hl:l.length≤1000000000) (hi:0≤i∧i≤l.length) (hn:ns.length≤1000000000):Ok (lI (l,i,t,ns)) fun _=>True:=by
 unfold lI;refine bY ns.length (fun k x=>x=(k:Int)) ?_ ?_ rfl
 ·rintro k x hk rfl;refine aG (fun g4=>?_) fun g4=>(by dsimp only[aj] at g4;omega)
  refine kz (fun x=>(i-x.2.2).toNat) (fun x=>0≤x.2.2∧x.2.2≤i) ?_ ⟨by simp,hi.1⟩;rintro⟨a,b,(c:Int)⟩ ⟨c0,c1⟩;dsimp only at c0 c1;refine aG (fun g5=>?_) fun g5=>?_
  ·dsimp only at g5;refine bn (fun _=>True) ?_ ?_
   ·refine aA c0 (by dsimp only;omega) (aL ?_);refine aP (fun _=>ai trivial) fun _=>?_
    refine bn (fun _=>True) ?_ fun _ _=>ai trivial
    refine ax (fun _=>ai trivial) fun _=>?_
    refine aA (by omega) (by dsimp only;omega) (aL ?_);refine aE (fun _=>?_) fun _=>ai trivial
    refine aA c0 (by dsimp only;omega) (aL ?_);refine aE (fun _=>ai trivial) fun _=>?_
    exact aA c0 (by dsimp only;omega) (aL (ai trivial))
   ·rintro⟨p,q⟩ _;refine ai ?_;dsimp only;rw[io (by omega) (by omega)];exact⟨⟨by omega,by omega⟩,by omega⟩
  ·refine al (P:=fun r=>match r with|.inl y=>y=((k+1:Nat):Int)|.inr r=>True) ?_ fun r hr=>ai ?_
   ·with_reducible repeat' first|apply aQ|apply aA|apply aK|apply aU|apply a8|apply a9|apply aR|apply aV|apply bE|apply aL|apply bK|apply bL|refine aG (fun _=>?_) fun _=>?_|refine be (fun _=>?_) fun _=>?_|refine aE (fun _=>?_) fun _=>?_|refine aP (fun _=>?_) fun _=>?_|refine aX (fun _=>?_) fun _=>?_|refine ax (fun _=>?_) fun _=>?_|apply ba|apply ai
    ·exact trivial
    ·exact hJ (by omega)
   ·cases r with
    |inl y=>exact hr
    |inr r=>exact trivial
 ·rintro x rfl;refine aG (fun g4=>(by dsimp only[aj] at g4;omega)) fun _=>ai trivial
structure EL (w:WT) (e:ET):Prop where
 nm:NM w e.2.1 e.2.2.1
 t0:0≤e.1
 t1:e.1<w.2.2.2.2.1.length
 cd:∀ c∈w.2.2.1,0≤c.2∧c.2<w.2.1.length
theorem EI (w:WT) (l:List ET) (hd:∀ e∈l,e.2.2.2.2.2.1.length≤1000000000∧e.2.2.2.2.2.2.length≤1000000000):Ok (nv (w,l)) fun y=>y.2=0→VL w∧∀ e∈l,EL w e:=by
 unfold nv;refine aG (fun _=>ai fun h=>(by cases h)) fun hl=>?_
 dsimp only[aj] at hl;refine al (qZ w) fun b hb=>?_
 refine aX (fun _=>ai fun h=>(by cases h)) fun h=>?_
 have hv:=hb h;refine al (wL w hv) fun s hs=>?_
 have hs:=hs.1;have hw:w.2.2.1.length≤1000:=by have:=hv.d;omega
 refine bY l.length (fun i x=>x.1=(i:Int)∧x.2.1=(w,l)∧NB i x.2.2∧∀ k:Nat,k<i→EL w (aB (T:=(.st (.pr (.int .i64) (.pr (.int .i64) (.pr (.int .i64) (.pr (.int .i64) (.pr (.int .i64) (.pr (.sl (.int .i64)) (.sl (.int .i64)))))))))) l (k:Int))) ?_ ?_ ⟨rfl,rfl,hs,fun k hk=>(by omega)⟩
 ·rintro i ⟨a,b,s⟩ hi ⟨e1,e2,e3,e4⟩;dsimp only at e1 e2 e3 e4;subst e1;subst e2;refine aG (fun g4=>?_) fun g4=>(by dsimp only[aj] at g4;omega)
  refine aA (by dsimp only;omega) (by dsimp only;omega) (aL ?_);have hmem:=bZ (T:=(.st (.pr (.int .i64) (.pr (.int .i64) (.pr (.int .i64) (.pr (.int .i64) (.pr (.int .i64) (.pr (.sl (.int .i64)) (.sl (.int .i64)))))))))) (xs:=l) (j:=(i:Int)) (by omega) (by omega);obtain⟨d1,d2⟩:=hd _ hmem;refine al (ue w s e3 hw _ d1 d2) fun y hy=>?_
  refine bn (fun x=>x.2.1=(w,l)∧x.2.2.2=y.1∧(x.1=false→y.2=true)) ?_ ?_
  ·refine aX (fun _=>ai ⟨rfl,rfl,fun h=>(by cases h)⟩) fun h=>?_
   refine al (zl l _ _ _ (by omega) ⟨by dsimp only;omega,by dsimp only;omega⟩ d1) fun _ _=>?_
   refine aX (fun _=>ai ⟨rfl,rfl,fun h=>(by cases h)⟩) fun _=>?_
   refine al (zl l _ _ _ (by omega) ⟨by dsimp only;omega,by dsimp only;omega⟩ d2) fun _ _=>ai ⟨rfl,rfl,fun _=>h⟩
  ·rintro⟨c,p,q,r⟩ ⟨f1,f2,f3⟩;dsimp only at f1 f2 f3;subst f1;subst f2;refine ax (fun _=>ai fun h=>(by cases h)) fun h=>?_
   obtain⟨g1,g2⟩:=hy.1 (f3 h);refine ai ?_;dsimp only;refine ⟨hJ (by omega),rfl,g2.NB e3 (by omega),fun k hk=>?_⟩;rcases cA k i with h1|h1
   ·exact e4 k h1
   ·rw[show k=i by omega];exact⟨g1.nm,g1.t0,g1.t1,g1.cd⟩
 ·rintro⟨a,b,s⟩ ⟨e1,e2,e3,e4⟩;dsimp only at e1 e2 e3 e4;subst e1;subst e2;refine aG (fun g4=>(by dsimp only[aj] at g4;omega)) fun _=>ai fun _=>⟨hv,kg (T:=(.st (.pr (.int .i64) (.pr (.int .i64) (.pr (.int .i64) (.pr (.int .i64) (.pr (.int .i64) (.pr (.sl (.int .i64)) (.sl (.int .i64)))))))))) e4⟩
structure TP (t:List Int×Int):Prop where
 l0:t.1.length≤9223372036854775807
 by_:∀ x∈t.1,0≤x∧x≤255
 a0:0≤t.2
 a1:t.2≤t.1.length
structure nV (t t':List Int×Int):Prop where
 e:t'.1=t.1
 m:t.2≤t'.2
 p:TP t'
theorem nV.refl {t:List Int×Int} (h:TP t):nV t t:=⟨rfl,fM _,h⟩
theorem nV.trans {a b c:List Int×Int} (h:nV a b) (g:nV b c):nV a c:=⟨g.e.trans h.e,Int.le_trans h.m g.m,g.p⟩
theorem dK (n:Int) (t:List Int×Int) (h:TP t):Ok (bl (n,t)) fun y=>nV t y.2∧0≤y.1∧(1≤n→y.1<n)∧(t.2<t.1.length→1≤n→t.2<y.2.2):=by
 obtain⟨L,a⟩:=t;have hT:=h;obtain⟨l0,hb,a0,a1⟩:=h;dsimp only at l0 hb a0 a1;unfold bl;refine bn (fun x=>x.2=(L,a)∧(x.1=true→a=L.length∨n<1)∧(x.1=false→a<L.length∧1≤n)) ?_ ?_
 ·refine be (fun h=>ai ⟨rfl,fun _=>?_,fun h=>(by cases h)⟩) fun h=>ai ⟨rfl,fun h2=>?_,fun h2=>?_⟩
  ·dsimp only[aj] at h;omega
  ·rw[og] at h2;exact .inr h2
  ·rw[o8] at h2;dsimp only[aj] at h h2;omega
 rintro⟨b,x⟩ ⟨e,h1,h2⟩;dsimp only at e h1 h2;subst e;refine ax (fun h=>ai ⟨nV.refl hT,fM _,fun h3=>(by dsimp only;omega),fun h3 h4=>?_⟩) fun h=>?_
 ·have:=h1 h;dsimp only at h3;omega
 obtain⟨q1,q2⟩:=h2 h;refine aL ?_;have e1:aJ .i64 (a+1)=a+1:=io (by omega) (by omega);dsimp only;rw[e1,io (n:=a+1-1) (by omega) (by omega),show a+1-1=a by omega];have hz:=hb _ (bZ (T:=.int .u8) (xs:=L) (j:=a) a0 q1);refine aA a0 q1 (aL ?_);generalize (aB _ a)=z at hz;have hz:0≤z∧z≤255:=hz;rw[io (n:=z) (by omega) (by omega)];refine aR (by omega) (ai ?_);dsimp only;refine ⟨⟨rfl,by dsimp only;omega,⟨l0,hb,by dsimp only;omega,by dsimp only;omega⟩⟩,Int.tmod_nonneg _ hz.1,fun _=>?_,fun _ _=>by omega⟩;exact Int.tmod_lt_of_pos _ (by omega)
theorem AK (s:SY) (hs:s.2.2.2.length≤1000) (y:List Int×List Int×List Int):Ok (gC (s,y)) fun l=>l.length≤s.2.2.2.length:=by
 unfold gC;refine bY s.2.2.2.length (fun i x=>x.1=(i:Int)∧x.2.length≤i) ?_ ?_ ⟨rfl,by simp⟩
 ·rintro i ⟨a,b⟩ hi ⟨e1,e2⟩;dsimp only at e1 e2;subst e1;with_reducible repeat' first|apply aQ|apply aA|apply aK|apply aU|apply a8|apply a9|apply aR|apply aV|apply bE|apply aL|apply bK|apply bL|refine aG (fun _=>?_) fun _=>?_|refine be (fun _=>?_) fun _=>?_|refine aE (fun _=>?_) fun _=>?_|refine aP (fun _=>?_) fun _=>?_|refine aX (fun _=>?_) fun _=>?_|refine ax (fun _=>?_) fun _=>?_|apply ba|apply ai
  all_goals try simp only[aj,decide_eq_true_eq,true_or,or_true,true_implies,true_and,and_true] at*
  all_goals first|omega|(simp;omega)|skip
  ·exact⟨hJ (by omega),by simp;omega⟩
  ·exact⟨hJ (by omega),by omega⟩
 ·rintro⟨a,b⟩ ⟨e1,e2⟩;dsimp only at e1 e2;subst e1;refine aG (fun g4=>(by dsimp only[aj] at g4;omega)) fun _=>ai e2
theorem CC (k u:Int) (t:List Int×Int) (h:TP t):Ok (jy ((k,u),t)) fun y=>nV t y.2∧(k=3∨k=4→0≤y.1∧y.1<5):=by
 unfold jy;rcases @xy k with rfl|rfl|rfl|rfl|rfl|rfl|rfl|rfl|rfl|rfl|rfl|rfl|rfl|rfl|rfl|rfl|rfl|rfl|rfl|rfl|rfl|rfl|rfl|⟨hk,hk2⟩
 case inr.inr.inr.inr.inr.inr.inr.inr.inr.inr.inr.inr.inr.inr.inr.inr.inr.inr.inr.inr.inr.inr.inr=>
  simp only[hk 1 (by decide) (by decide),hk 2 (by decide) (by decide),hk 3 (by decide) (by decide),hk 4 (by decide) (by decide),hk 5 (by decide) (by decide),hk 6 (by decide) (by decide),hk 7 (by decide) (by decide),hk 8 (by decide) (by decide),hk 9 (by decide) (by decide),hk 10 (by decide) (by decide),hk 11 (by decide) (by decide),hk 12 (by decide) (by decide),hk 13 (by decide) (by decide),hk 14 (by decide) (by decide),hk 15 (by decide) (by decide),hk 16 (by decide) (by decide),hk 17 (by decide) (by decide),hk 18 (by decide) (by decide),hk 19 (by decide) (by decide),hk 20 (by decide) (by decide),hk 21 (by decide) (by decide),hk 22 (by decide) (by decide),hk 23 (by decide) (by decide),aT,dw,decide_true,decide_false,ux,uc,zF,AG,tB,AF,cu,cF];exact ai ⟨nV.refl h,fun h=>(by first|omega|(simp at h;done)|(rcases h with h|h<;>cases h;done))⟩
 all_goals simp only[aT,dw,decide_true,decide_false,ux,uc,zF,AG,tB,AF,cu,cF]
 all_goals first
  |exact ai ⟨nV.refl h,fun h=>(by first|omega|(simp at h;done)|(rcases h with h|h<;>cases h;done))⟩
  |exact al (dK 2 t h) fun y hy=>ai ⟨hy.1,fun h=>(by first|omega|(simp at h;done)|(rcases h with h|h<;>cases h;done))⟩
  |exact al (dK 3 t h) fun y hy=>ai ⟨hy.1,fun h=>(by first|omega|(simp at h;done)|(rcases h with h|h<;>cases h;done))⟩
  |skip
 all_goals
  refine al (dK 8 t h) fun y hy=>?_
  have h1:=hy.2.1;have h2:=hy.2.2.1 (by omega);refine aA h1 (by simp;omega) (aA h1 (by simp;omega) (aL (ai ⟨hy.1,fun _=>?_⟩)));have:∀ z:Int,z∈([0,0,0,1,1,2,3,4]:List Int)→0≤z∧z<5:=by decide
  exact this _ (bZ (T:=.int .i64) h1 (by simp;omega))
structure SZ (n:Nat) (s:SN):Prop where
 nb:NB n s
 c:s.2.1.length=5
 f:s.2.2.1.length=1
 k:s.2.2.2.length=4
theorem SZ.step {n:Nat} {s y:SN} (h:SZ n s) (hp:SP n s y) (hn:n+1≤100000):SZ (n+1) y:=
 ⟨hp.NB h.nb hn,by rw[hp.c];exact h.c,by rw[hp.f];exact h.f,by rw[hp.k];exact h.k⟩
theorem Cn {n:Nat} (s:SN) (hs:SZ n s) (k o:Int) (ho:k=3→0≤o∧o<5) (t:List Int×Int) (h:TP t):Ok (kE ((s,k,o),t)) fun y=>nV t y.2:=by
 obtain⟨s1,s2,s3,s4⟩:=s;have hc:=hs.c;have hf:=hs.f;have hth:=hs.nb.sb.th;dsimp only at hc hf hth;have hw:=AK s1 hth (s2,s3,s4);unfold kE;rcases @xy k with rfl|rfl|rfl|rfl|rfl|rfl|rfl|rfl|rfl|rfl|rfl|rfl|rfl|rfl|rfl|rfl|rfl|rfl|rfl|rfl|rfl|rfl|rfl|⟨hk,hk2⟩
 case inr.inr.inr.inr.inr.inr.inr.inr.inr.inr.inr.inr.inr.inr.inr.inr.inr.inr.inr.inr.inr.inr.inr=>
  simp only[hk 1 (by decide) (by decide),hk 2 (by decide) (by decide),hk 3 (by decide) (by decide),hk 4 (by decide) (by decide),hk 5 (by decide) (by decide),hk 6 (by decide) (by decide),hk 7 (by decide) (by decide),hk 8 (by decide) (by decide),hk 9 (by decide) (by decide),hk 10 (by decide) (by decide),hk 11 (by decide) (by decide),hk 12 (by decide) (by decide),hk 13 (by decide) (by decide),hk 14 (by decide) (by decide),hk 15 (by decide) (by decide),hk 16 (by decide) (by decide),hk 17 (by decide) (by decide),hk 18 (by decide) (by decide),hk 19 (by decide) (by decide),hk 20 (by decide) (by decide),hk 21 (by decide) (by decide),hk 22 (by decide) (by decide),hk 23 (by decide) (by decide),aT,dw,decide_true,decide_false,ux,uc,zF,AG,tB,AF,cu,cF];exact ai (nV.refl h)
 all_goals simp only[aT,dw,decide_true,decide_false,ux,uc,zF,AG,tB,AF,cu,cF]
 all_goals first
  |exact ai (nV.refl h)
  |exact al (dK 2 t h) fun y hy=>ai hy.1
  |exact al (dK 3 t h) fun y hy=>ai hy.1
  |exact al hw fun y hy=>ai (nV.refl h)
  |exact aA (by decide) (by omega) (aL (ai (nV.refl h)))
  |exact aA (ho rfl).1 (by have:=(ho rfl).2;omega) (aL (ai (nV.refl h)))
  |skip
 refine al hw fun l hl=>?_
 refine aG (fun h1=>?_) fun _=>ai (nV.refl h)
 refine al (dK _ t h) fun y hy=>?_
 dsimp only[aj] at h1;have h2:=hy.2.2.1 (by dsimp only[aj];omega);exact aA hy.2.1 h2 (aL (ai hy.1))
theorem EO (t:List Int×Int) (h:TP t) (r:List Int) (hr:r.length≤1000000):Ok (dO (t,r)) fun y=>y.1.length≤r.length∧nV t y.2.1∧y.2.2=r:=by
 unfold dO;refine bY r.length (fun i x=>x.1=(i:Int)∧nV t x.2.1∧x.2.2.1=r∧x.2.2.2.length≤i) ?_ ?_ ⟨rfl,nV.refl h,rfl,by simp⟩
 ·rintro i ⟨a,b,c,d⟩ hi ⟨e1,e2,e3,e4⟩;dsimp only at e1 e2 e3 e4;subst e1;subst e3;refine aG (fun g4=>?_) fun g4=>(by dsimp only[aj] at g4;omega)
  refine bn (fun x=>nV t x.1∧x.2.1=c∧x.2.2.length≤i+1) ?_ ?_
  ·refine aA (by dsimp only;omega) (by dsimp only;omega) (aA (by dsimp only;omega) (by dsimp only;omega) (aL ?_));refine bn (fun x=>nV t x.2.1∧x.2.2=(c,d)) ?_ ?_
   ·refine ax (fun _=>?_) fun _=>ai ⟨e2,rfl⟩
    exact al (dK 2 b e2.p) fun y hy=>ai ⟨e2.trans hy.1,rfl⟩
   ·rintro⟨p,q,u⟩ ⟨f1,f2⟩;dsimp only at f1 f2;subst f2;refine ax (fun _=>?_) fun _=>ai ⟨f1,rfl,by dsimp only;omega⟩
    exact aK (by simp;omega) (by omega) (ai ⟨f1,rfl,by simp;omega⟩)
  ·rintro⟨p,q,u⟩ ⟨f1,f2,f3⟩;dsimp only at f1 f2 f3;subst f2;refine ai ?_;dsimp only;exact⟨hJ (by omega),f1,rfl,f3⟩
 ·rintro⟨a,b,c,d⟩ ⟨e1,e2,e3,e4⟩;dsimp only at e1 e2 e3 e4;subst e1;subst e3;refine aG (fun g4=>(by dsimp only[aj] at g4;omega)) fun _=>ai ⟨e4,e2,rfl⟩
theorem kinds_eq:mR ()=some [3,3,3,3,3,4,4,4,4,4,5,5,5,6,6,6,7,7,7,8,9,10,11,12,13,14,14,15,16,16,17,17,18,18,19,20,1,1,2,21,22,23,23]:=rfl
abbrev RR:Type:=List Int×List Int×List Int×List Int
structure RB4 (m:Nat) (r:RR):Prop where
 r0:r.1.length≤m
 r1:r.2.1.length≤m
 r2:r.2.2.1.length≤m
 r3:r.2.2.2.length≤m
theorem Eh {n:Nat} (s:SN) (hs:SZ n s) (w:WT) (hw:w.1.length=5) (t:List Int×Int) (h:TP t) (r:RR) (hr:RB4 1000000 r):Ok (kF ((s,w),t,r)) fun y=>nV t y.2.1∧y.2.2=r∧(t.2<t.1.length→t.2<y.2.1.2)∧y.1.2.2.2.2.2.1.length≤1000000∧y.1.2.2.2.2.2.2.length≤1000000:=by
 obtain⟨r0,r1,r2,r3⟩:=r;obtain⟨h0,h1,h2,h3⟩:=hr;dsimp only at h0 h1 h2 h3;unfold kF;refine al (dK 4 t h) fun y hy=>?_
 refine bC kinds_eq ?_;refine al (dK _ y.2 hy.1.p) fun z hz=>?_
 obtain⟨y1,yt⟩:=y;obtain⟨z1,zt⟩:=z;obtain⟨ty,yy0,yy1,yy2⟩:=hy;obtain⟨tz,zz0,zz1,_⟩:=hz;dsimp only at ty yy0 yy1 yy2 tz zz0 zz1;have yy1:=yy1 (by decide);have hzl:=zz1 (by decide);refine aA zz0 hzl (aL ?_);generalize (aB _ z1)=k;refine al (dK 6 zt tz.p) fun v hv=>?_
 obtain⟨v1,vt⟩:=v;have tv:=hv.1;dsimp only at tv;have tt:=(ty.trans tz).trans tv;have hadv:t.2<t.1.length→t.2<vt.2:=fun h=>by
  have:=yy2 h (by decide);have:=tz.m;have:=tv.m;omega
 refine bn (fun x=>x.1=vt∧x.2.1=r0∧x.2.2.1=r1∧x.2.2.2.1=r2∧x.2.2.2.2.1=r3∧x.2.2.2.2.2.1=s∧x.2.2.2.2.2.2.1=w) ?_ ?_
 ·refine bn (fun x=>x.2.1=vt∧x.2.2.1=r0∧x.2.2.2.1=r1∧x.2.2.2.2.1=r2∧x.2.2.2.2.2.1=r3∧x.2.2.2.2.2.2.1=s∧x.2.2.2.2.2.2.2.1=w) ?_ ?_
  ·with_reducible repeat' first|apply aQ|apply aA|apply aK|apply aU|apply a8|apply a9|apply aR|apply aV|apply bE|apply aL|apply bK|apply bL|refine aG (fun _=>?_) fun _=>?_|refine be (fun _=>?_) fun _=>?_|refine aE (fun _=>?_) fun _=>?_|refine aP (fun _=>?_) fun _=>?_|refine aX (fun _=>?_) fun _=>?_|refine ax (fun _=>?_) fun _=>?_|apply ba|apply ai
   all_goals exact⟨rfl,rfl,rfl,rfl,rfl,rfl,rfl⟩
  ·rintro⟨p,q⟩ hq;dsimp only at hq;with_reducible repeat' first|apply aQ|apply aA|apply aK|apply aU|apply a8|apply a9|apply aR|apply aV|apply bE|apply aL|apply bK|apply bL|refine aG (fun _=>?_) fun _=>?_|refine be (fun _=>?_) fun _=>?_|refine aE (fun _=>?_) fun _=>?_|refine aP (fun _=>?_) fun _=>?_|refine aX (fun _=>?_) fun _=>?_|refine ax (fun _=>?_) fun _=>?_|apply ba|apply ai
   all_goals exact hq
 rintro⟨x1,x2,x3,x4,x5,x6,x7,x8,x9,x10⟩ ⟨f1,f2,f3,f4,f5,f6,f7⟩;dsimp only at f1 f2 f3 f4 f5 f6 f7;subst f1;subst f2;subst f3;subst f4;subst f5;subst f6;subst f7;refine al (CC _ _ _ tv.p) fun o ho=>?_
 obtain⟨o1,ot⟩:=o;obtain⟨to,ho⟩:=ho;dsimp only at to ho;refine al (Cn _ hs _ _ (fun hk=>ho (.inl hk)) _ to.p) fun q hq=>?_
 obtain⟨q1,qt⟩:=q;dsimp only at hq;have tq:=(tt.trans to).trans hq;have hadv2:t.2<t.1.length→t.2<qt.2:=fun h=>by have:=hadv h;have:=to.m;have:=hq.m;omega
 have row:∀ (T:List Int×Int) (c:List Int) {R:Type} (k:List Int×((List Int×Int)×List Int)→Option R) (Q:R→Prop),nV t T→c.length≤1000000→(∀ v T',nV T T'→v.length≤1000000→Ok (k (v,T',c)) Q)→Ok (obind (dO (T,c)) k) Q:=fun T c R k Q hT hc hk=>by
  refine al (EO T hT.p c hc) fun y hy=>?_
  obtain⟨a,b,d⟩:=y;obtain⟨g1,g2,g3⟩:=hy;dsimp only at g1 g2 g3;subst g3;exact hk a b g2 (by omega)
 refine bn (fun x=>nV t x.1∧(t.2<t.1.length→t.2<x.1.2)∧x.2.1=x2∧x.2.2.1=x3∧x.2.2.2.1=x4∧x.2.2.2.2.1=x5∧x.2.2.2.2.2.2.2.2.2.2.2.length≤1000000) ?_ ?_
 ·refine bn (fun x=>x.2.1=qt∧x.2.2.1=x2∧x.2.2.2.1=x3∧x.2.2.2.2.1=x4∧x.2.2.2.2.2.1=x5) ?_ ?_
  ·refine aE (fun _=>ai ⟨rfl,rfl,rfl,rfl,rfl⟩) fun _=>?_
   refine aE (fun hk=>?_) fun _=>aE (fun hk=>?_) fun _=>ai ⟨rfl,rfl,rfl,rfl,rfl⟩
   ·exact aA (ho (.inl hk)).1 (by dsimp only;rw[hw];exact (ho (.inl hk)).2) (aL (ai ⟨rfl,rfl,rfl,rfl,rfl⟩))
   ·exact aA (ho (.inr hk)).1 (by dsimp only;rw[hw];exact (ho (.inr hk)).2) (aL (ai ⟨rfl,rfl,rfl,rfl,rfl⟩))
  ·rintro⟨b,p1,p2,p3,p4,p5,p6⟩ ⟨f1,f2,f3,f4,f5⟩;dsimp only at f1 f2 f3 f4 f5;subst f1;subst f2;subst f3;subst f4;subst f5;refine ax (fun _=>?_) fun _=>ai ⟨tq,hadv2,rfl,rfl,rfl,rfl,by simp⟩
   have adv3:∀ T',nV p1 T'→t.2<t.1.length→t.2<T'.2:=fun T' hT h=>by have:=hadv2 h;have:=hT.m;omega
   refine aE (fun _=>?_) fun _=>aE (fun _=>?_) fun _=>aE (fun _=>?_) fun _=>aE (fun _=>?_) fun _=>?_
   ·refine row p1 p2 _ _ tq h0 fun v T' hT hv=>?_
    refine aQ (aV rfl (bE ?_));exact ai ⟨tq.trans hT,adv3 T' hT,rfl,rfl,rfl,rfl,hv⟩
   ·refine row p1 p3 _ _ tq h1 fun v T' hT hv=>?_
    refine aQ (aV rfl (bE ?_));exact ai ⟨tq.trans hT,adv3 T' hT,rfl,rfl,rfl,rfl,hv⟩
   ·refine row p1 p4 _ _ tq h2 fun v T' hT hv=>?_
    refine aQ (aV rfl (bE ?_));exact ai ⟨tq.trans hT,adv3 T' hT,rfl,rfl,rfl,rfl,hv⟩
   ·refine row p1 p5 _ _ tq h3 fun v T' hT hv=>?_
    refine aQ (aV rfl (bE ?_));exact ai ⟨tq.trans hT,adv3 T' hT,rfl,rfl,rfl,rfl,hv⟩
   ·omega
 rintro⟨u1,u2,u3,u4,u5,u6,u7,u8,u9,u10,u11,u12⟩ ⟨f1,f2,f3,f4,f5,f6,f7⟩;dsimp only at f1 f2 f3 f4 f5 f6 f7;subst f3;subst f4;subst f5;subst f6;refine bn (fun x=>nV t x.1∧(t.2<t.1.length→t.2<x.1.2)∧x.2.1=u2∧x.2.2.1=u3∧x.2.2.2.1=u4∧x.2.2.2.2.1=u5∧x.2.2.2.2.2.2.2.2.2.2.2.1.length≤1000000∧x.2.2.2.2.2.2.2.2.2.2.2.2.length≤1000000) ?_ ?_
 ·refine bn (fun x=>x.2=(u1,u2,u3,u4,u5,u6,u7,u8,u9,u10,u11,u12)) ?_ ?_
  ·with_reducible repeat' first|apply aQ|apply aA|apply aK|apply aU|apply a8|apply a9|apply aR|apply aV|apply bE|apply aL|apply bK|apply bL|refine aG (fun _=>?_) fun _=>?_|refine be (fun _=>?_) fun _=>?_|refine aE (fun _=>?_) fun _=>?_|refine aP (fun _=>?_) fun _=>?_|refine aX (fun _=>?_) fun _=>?_|refine ax (fun _=>?_) fun _=>?_|apply ba|apply ai
   all_goals rfl
  ·rintro⟨b,x⟩ e;dsimp only at e;subst e;refine ax (fun _=>?_) fun _=>ai ⟨f1,f2,rfl,rfl,rfl,rfl,f7,by simp⟩
   have adv3:∀ T',nV u1 T'→t.2<t.1.length→t.2<T'.2:=fun T' hT h=>by have:=f2 h;have:=hT.m;omega
   refine aE (fun _=>?_) fun _=>aE (fun _=>?_) fun _=>aE (fun _=>?_) fun _=>aE (fun _=>?_) fun _=>?_
   ·refine row u1 u2 _ _ f1 h0 fun v T' hT hv=>?_
    refine aQ (aV rfl (bE ?_));exact ai ⟨f1.trans hT,adv3 T' hT,rfl,rfl,rfl,rfl,f7,hv⟩
   ·refine row u1 u3 _ _ f1 h1 fun v T' hT hv=>?_
    refine aQ (aV rfl (bE ?_));exact ai ⟨f1.trans hT,adv3 T' hT,rfl,rfl,rfl,rfl,f7,hv⟩
   ·refine row u1 u4 _ _ f1 h2 fun v T' hT hv=>?_
    refine aQ (aV rfl (bE ?_));exact ai ⟨f1.trans hT,adv3 T' hT,rfl,rfl,rfl,rfl,f7,hv⟩
   ·refine row u1 u5 _ _ f1 h3 fun v T' hT hv=>?_
    refine aQ (aV rfl (bE ?_));exact ai ⟨f1.trans hT,adv3 T' hT,rfl,rfl,rfl,rfl,f7,hv⟩
   ·omega
 rintro⟨a1,a2,a3,a4,a5,a6,a7⟩ ⟨g1,g2,g3,g4,g5,g6,g7,g8⟩;dsimp only at g1 g2 g3 g4 g5 g6 g7 g8;subst g3;subst g4;subst g5;subst g6;exact ai ⟨g1,rfl,g2,g7,g8⟩
def Cj (e:ET):Prop:=e.2.2.2.2.2.1.length≤1000000∧e.2.2.2.2.2.2.length≤1000000
theorem EW {m:Nat} (hm:m≤1000) (s:SN) (hs:SZ m s) (w:WT) (hw:w.1.length=5) (hwt:w.2.2.2.2.1.length=4) (hwc:w.2.2.1.length≤1000) (n:Int) (hn:n≤60) (t:List Int×Int) (h:TP t):Ok (mr ((s,w,n,false),t)) fun y=>(∀ e∈y.1,Cj e)∧y.1.length≤60:=by
 unfold mr;refine aQ (aQ (aQ (aU (by dsimp only[aj];omega) (aU (fM _) (aK (by dsimp only[aj];omega) (by omega) (a9 (by dsimp only[aj];omega) ?_))))));refine bn (fun x=>x=(t,s,w,[],[],[],[])) ⟨_,rfl,rfl⟩ ?_;rintro x rfl;refine kz (fun x=>((t.1.length:Int)-x.1.2).toNat) (fun x=>nV t x.1∧x.2.2.1=w∧SZ (m+x.2.2.2.1.length) x.2.1∧x.2.2.2.1.length≤60∧(∀ e∈x.2.2.2.1,Cj e)∧RB4 x.2.2.2.1.length x.2.2.2.2) ?_ ⟨nV.refl h,rfl,(by simpa using hs),by simp,fun e he=>(by cases he),⟨by simp,by simp,by simp,by simp⟩⟩;rintro⟨tp,s,w',out,r⟩ ⟨i1,i2,i3,i4,i5,i6⟩;dsimp only at i1 i2 i3 i4 i5 i6;subst i2;refine bn (fun x=>x.2=(tp,s,w',out,r)∧(x.1=true→out.length<60∧tp.2<tp.1.length)) ?_ ?_
 ·refine aG (fun h1=>ai ⟨rfl,fun h2=>?_⟩) fun _=>ai ⟨rfl,fun h=>(by cases h)⟩
  rw[og] at h2;dsimp only[aj] at h1 h2;exact⟨by omega,h2⟩
 rintro⟨b,x⟩ ⟨e,hb⟩;dsimp only at e hb;subst e;refine ax (fun h1=>?_) fun _=>ai ⟨i5,i4⟩
 obtain⟨ho,ht⟩:=hb h1;obtain⟨q0,q1,q2,q3⟩:=id i6;refine bn (fun x=>nV tp x.1∧tp.2<x.1.2∧x.2.2.1=w'∧SZ (m+x.2.2.2.1.length) x.2.1∧x.2.2.2.1.length≤60∧(∀ e∈x.2.2.2.1,Cj e)∧RB4 x.2.2.2.1.length x.2.2.2.2) ?_ ?_
 ·refine al (Eh s i3 w' hw tp i1.p r ⟨by omega,by omega,by omega,by omega⟩) fun y hy=>?_
  obtain⟨ev,tp',r'⟩:=y;obtain⟨j1,j2,j3,j4,j5⟩:=hy;dsimp only at j1 j2 j3 j4 j5;subst j2;have j3:=j3 ht;refine aQ (aV rfl (aQ (aV rfl (aQ (aV rfl (aQ (aV rfl (bE ?_))))))));refine al (ue w' s i3.nb hwc ev (by omega) (by omega)) fun z hz=>?_
  refine aX (fun _=>ai ⟨j1,j3,rfl,i3,i4,i5,i6⟩) fun h2=>?_
  obtain⟨z1,z2⟩:=z;obtain⟨hE,hS⟩:=hz.1 h2;have hS2:=i3.step hS (by omega);refine bn (fun x=>x.1=tp'∧x.2.2.1=w'∧x.2.2.2.1=out∧Cj x.2.2.2.2.1∧x.2.2.2.2.2.1=z1∧RB4 (out.length+1) x.2.2.2.2.2.2) ?_ ?_
  ·refine bn (fun x=>x.2=(tp',s,w',out,ev,z1,r')) ?_ ?_
   ·refine aE (fun _=>ai rfl) fun _=>ai rfl
   ·rintro⟨b,x⟩ e;dsimp only at e;subst e;have hk:=i3.k;obtain⟨ev1,ev2⟩:=ev;have t0:=hE.t0;have t1:=hE.t1;rw[hwt] at t1;dsimp only at t0 t1;refine ax (fun _=>?_) fun _=>ai ⟨rfl,rfl,rfl,⟨j4,j5⟩,rfl,⟨by dsimp only;omega,by dsimp only;omega,by dsimp only;omega,by dsimp only;omega⟩⟩
    refine aE (fun _=>?_) fun _=>aE (fun _=>?_) fun _=>aE (fun _=>?_) fun _=>aE (fun _=>?_) fun _=>?_
    ·exact aA (by decide) (by dsimp only;omega) (aL (aK (by simp;omega) (by omega) (ai ⟨rfl,rfl,rfl,⟨j4,j5⟩,rfl,⟨by simp;omega,by dsimp only;omega,by dsimp only;omega,by dsimp only;omega⟩⟩)))
    ·exact aA (by decide) (by dsimp only;omega) (aL (aK (by simp;omega) (by omega) (ai ⟨rfl,rfl,rfl,⟨j4,j5⟩,rfl,⟨by dsimp only;omega,by simp;omega,by dsimp only;omega,by dsimp only;omega⟩⟩)))
    ·exact aA (by decide) (by dsimp only;omega) (aL (aK (by simp;omega) (by omega) (ai ⟨rfl,rfl,rfl,⟨j4,j5⟩,rfl,⟨by dsimp only;omega,by dsimp only;omega,by simp;omega,by dsimp only;omega⟩⟩)))
    ·exact aA (by decide) (by dsimp only;omega) (aL (aK (by simp;omega) (by omega) (ai ⟨rfl,rfl,rfl,⟨j4,j5⟩,rfl,⟨by dsimp only;omega,by dsimp only;omega,by dsimp only;omega,by simp;omega⟩⟩)))
    ·dsimp only at *;omega
  ·rintro⟨x1,x2,x3,x4,x5,x6,x7⟩ ⟨k1,k2,k3,k4,k5,k6⟩;dsimp only at k1 k2 k3 k4 k5 k6;subst k1;subst k2;subst k3;subst k5;refine aK (by simp;omega) (by omega) (ai ⟨j1,j3,rfl,?_,by simp;omega,fun e he=>?_,?_⟩)
   ·dsimp only;rw[cq,dM,←pi];exact hS2
   ·rcases bD.1 he with he|he
    ·exact i5 e he
    ·rw[aH] at he;subst he;exact k4
   ·dsimp only;rw[cq,dM];exact k6
 rintro⟨tp',s',w'',out',r'⟩ ⟨k1,k2,k3,k4,k5,k6,k7⟩;dsimp only at k1 k2 k3 k4 k5 k6 k7;have e1:=i1.e;have a1:=k1.p.a1;have e2:=k1.e;refine ai ⟨⟨i1.trans k1,k3,k4,k5,k6,k7⟩,?_⟩;dsimp only;rw[e2,e1] at a1;omega
structure W0 (w:WT):Prop where
 c:w.1.length=5
 l:w.2.1.length=3
 d:w.2.2.1.length=1
 f:w.2.2.2.1.length=1
 t:w.2.2.2.2.1.length=4
 s:w.2.2.2.2.2.length≤24
theorem W0.vl {w:WT} (h:W0 w):VL w:=⟨by rw[h.c];decide,by rw[h.l];decide,by rw[h.d];decide,by rw[h.f];decide,by rw[h.t];decide,by rw[h.t];decide,by have:=h.s;omega⟩
theorem World_ok:Ok (iR ()) W0:=by
 unfold iR;refine bY 4 (fun i x=>x.1=(i:Int)∧x.2.1.length=5∧x.2.2.1.length=3∧x.2.2.2.1.length=1∧x.2.2.2.2.1.length=1∧x.2.2.2.2.2.1.length=4∧x.2.2.2.2.2.2.length≤6*i) ?_ ?_ ⟨rfl,rfl,rfl,rfl,rfl,rfl,by simp⟩
 ·rintro i ⟨a,w1,w2,w3,w4,w5,w6⟩ hi ⟨e1,e2,e3,e4,e5,e6,e7⟩;dsimp only at e1 e2 e3 e4 e5 e6 e7;subst e1;refine aG (fun _=>?_) fun g=>(by dsimp only[aj] at g;simp at g;omega)
  refine bY 6 (fun j x=>x.1=(j:Int)∧x.2.1=w1∧x.2.2.1=w2∧x.2.2.2.1=w3∧x.2.2.2.2.1=w4∧x.2.2.2.2.2.1=w5∧x.2.2.2.2.2.2.length≤6*i+j) ?_ ?_ ⟨rfl,rfl,rfl,rfl,rfl,rfl,by dsimp only;omega⟩
  ·rintro j ⟨b,v1,v2,v3,v4,v5,v6⟩ hj ⟨d1,d2,d3,d4,d5,d6,d7⟩;dsimp only at d1 d2 d3 d4 d5 d6 d7;subst d1;refine aG (fun _=>?_) fun g=>(by dsimp only at g;omega)
   refine aK (by simp;omega) (by omega) (ai ?_);dsimp only;exact⟨hJ (by omega),d2,d3,d4,d5,d6,by simp;omega⟩
  ·rintro⟨b,v1,v2,v3,v4,v5,v6⟩ ⟨d1,d2,d3,d4,d5,d6,d7⟩;dsimp only at d1 d2 d3 d4 d5 d6 d7;subst d1;subst d2;subst d3;subst d4;subst d5;subst d6;refine aG (fun g=>(by dsimp only at g;omega)) fun _=>ai ?_
   dsimp only;exact⟨hJ (by omega),e2,e3,e4,e5,e6,by omega⟩
 ·rintro⟨a,w1,w2,w3,w4,w5,w6⟩ ⟨e1,e2,e3,e4,e5,e6,e7⟩;dsimp only at e1 e2 e3 e4 e5 e6 e7;subst e1;refine aG (fun g=>(by dsimp only[aj] at g;simp at g)) fun _=>ai ?_
  exact⟨e2,e3,e4,e5,e6,by omega⟩
theorem SZ.mono {n m:Nat} {s:SN} (h:SZ n s) (hnm:n≤m) (hm:m≤100000):SZ m s:=
 ⟨⟨⟨hm,h.nb.sb.lk,fun l hl=>cO (h.nb.sb.rd l hl) hnm,h.nb.sb.dn,h.nb.sb.th⟩,h.nb.c,h.nb.f,h.nb.k⟩,h.c,h.f,h.k⟩
theorem BD (w:WT) (hw:W0 w):Ok (j6 w) fun s=>SZ 0 s:=by
 refine (wL w hw.vl).mono fun s hs=>⟨hs.1,?_,?_,?_⟩
 ·rw[hs.2.1,hw.c]
 ·rw[hs.2.2.1,hw.f]
 ·rw[hs.2.2.2,hw.t]
structure WB (w:WT):Prop where
 c:w.1.length≤12
 l:w.2.1.length≤4
 d:w.2.2.1.length≤2
 f:w.2.2.2.1.length≤2
 t:w.2.2.2.2.1.length≤4
 s:w.2.2.2.2.2.length≤60
theorem VL.wb {w:WT} (h:VL w):WB w:=⟨h.c,h.l,h.d,h.f,h.t,h.s⟩
structure TR (y:WT×List ET):Prop where
 wb:WB y.1
 vl:y.2≠[]→VL y.1
 ev:∀ e∈y.2,EL y.1 e
 len:y.2.length≤100000
 ls:∀ e∈y.2,Cj e
theorem vu (L:List Int) (n:Int) (hl:L.length≤9223372036854775807) (hb:∀ x∈L,0≤x∧x≤255):Ok (kG (L,n)) TR:=by
 unfold kG;refine bn (fun x=>x.length≤600∧∀ z∈x,0≤z∧z≤255) ?_ ?_
 ·refine aG (fun g=>?_) fun g=>?_
  ·dsimp only[aj] at g;refine aQ (aU (by omega) (aU (by dsimp only;omega) (ai ⟨by dsimp only;rw[cj];simp;omega,fun z hz=>hb z (fa hz)⟩)))
  ·dsimp only[aj] at g;exact ai ⟨by dsimp only;omega,hb⟩
 rintro L' ⟨hL,hB⟩;refine al World_ok fun w hw=>?_
 have hvl:=hw.vl;refine al (BD w hw) fun s hs=>?_
 refine al (dK 3 (L',0) ⟨by dsimp only;omega,hB,by dsimp only;omega,by dsimp only;omega⟩) fun y hy=>?_
 obtain⟨y1,yt⟩:=y;obtain⟨ty,yy0,yy1,_⟩:=hy;have yy1:=yy1 (by decide);dsimp only at ty yy0 yy1;have ew:aJ .i64 (1+y1)=1+y1:=io (by omega) (by omega);refine kz (fun x=>(1+y1+1-x.1).toNat) (fun x=>1≤x.1∧x.1≤2+y1∧x.2.1=yt∧x.2.2.1=w∧x.2.2.2.1=s∧((x.2.2.2.2.length:Nat):Int)≤2*x.1∧∀ e∈x.2.2.2.2,Cj e) ?_ ⟨by dsimp only;omega,by dsimp only;omega,rfl,rfl,rfl,by simp,fun e he=>?_⟩
 ·rintro⟨a,t,w',s',es⟩ ⟨e1,e2,e3,e4,e5,e6,e7⟩;dsimp only at e1 e2 e3 e4 e5 e6 e7;subst e3;subst e4;subst e5;refine be (fun g=>?_) fun g=>?_
  ·dsimp only at g;rw[ew] at g;refine aK (by simp;omega) (by omega) (ai ?_);dsimp only;rw[io (n:=a+1) (by omega) (by omega)];refine ⟨⟨by omega,by omega,rfl,rfl,rfl,by simp;omega,fun e he=>?_⟩,by omega⟩;rcases bD.1 he with he|he
   ·exact e7 e he
   ·simp only[bo,cf,or_false] at he;rcases he with he|he<;>subst he<;>exact⟨by simp,by simp⟩
  ·refine al (P:=TR) ?_ fun r hr=>ai hr
   refine bY es.length (fun i x=>x.1=(i:Int)∧TP x.2.1∧x.2.2.1=w'∧SZ i x.2.2.2.1∧x.2.2.2.2.1=es∧x.2.2.2.2.2.length≤i∧∀ e∈x.2.2.2.2.2,Cj e) ?_ ?_ ⟨rfl,ty.p,rfl,hs,rfl,by simp,fun e he=>(by cases he)⟩
   ·rintro i ⟨b,t,w',s',es',out⟩ hi ⟨d1,d2,d3,d4,d5,d6,d7⟩;dsimp only at d1 d2 d3 d4 d5 d6 d7;subst d1;subst d3;subst d5;refine aG (fun _=>?_) fun g=>(by dsimp only[aj] at g;omega)
    refine bn (fun x=>TP x.1∧x.2.1=w'∧SZ (i+1) x.2.2.1∧x.2.2.2.1=es'∧x.2.2.2.2.length≤i+1∧∀ e∈x.2.2.2.2,Cj e) ?_ ?_
    ·refine aA (by dsimp only;omega) (by dsimp only;omega) (aA (by dsimp only;omega) (by dsimp only;omega) (aL ?_));have hz:=e7 _ (bZ (T:=.st (.pr (.int .i64) (.pr (.int .i64) (.pr (.int .i64) (.pr (.int .i64) (.pr (.int .i64) (.pr (.sl (.int .i64)) (.sl (.int .i64))))))))) (xs:=es') (j:=(i:Int)) (by omega) (by omega));revert hz;generalize (aB _ _)=z;intro hz;refine al (ue w' s' d4.nb (by rw[hw.d];decide) z (by have:=hz.1;omega) (by have:=hz.2;omega)) fun v hv=>?_
     refine ax (fun h=>?_) fun h=>ai ⟨d2,rfl,d4.mono (by omega) (by omega),rfl,by dsimp only;omega,d7⟩
     refine aK (by simp;omega) (by omega) (ai ⟨d2,rfl,d4.step (hv.1 h).2 (by omega),rfl,by simp;omega,fun e he=>?_⟩);rcases bD.1 he with he|he
     ·exact d7 e he
     ·rw[aH] at he;subst he;exact hz
    ·rintro⟨t,w'',s'',es'',out'⟩ ⟨f1,f2,f3,f4,f5,f6⟩;dsimp only at f1 f2 f3 f4 f5 f6;refine ai ?_;dsimp only;exact⟨hJ (by omega),f1,f2,f3,f4,f5,f6⟩
   ·rintro⟨b,t,w',s',es',out⟩ ⟨d1,d2,d3,d4,d5,d6,d7⟩;dsimp only at d1 d2 d3 d4 d5 d6 d7;subst d1;subst d3;subst d5;refine aG (fun g=>(by dsimp only[aj] at g;omega)) fun _=>?_
    refine al (P:=TR) ?_ fun r hr=>ai hr
    have hmin:uJ (eI n 0) 60≤60:=by
     unfold uJ;split
     ·omega
     ·rename_i h;simp[bz] at h;exact h
    refine al (EW (by omega) s' d4 w' hw.c hw.t (by rw[hw.d];decide) _ hmin t d2) fun v hv=>?_
    refine aK (by have:=hv.2;dsimp only;omega) (by omega) ?_;have hall:∀ e∈out++v.1,Cj e:=fun e he=>by
     rcases bD.1 he with he|he
     ·exact d7 e he
     ·exact hv.1 e he
    refine al (EI w' (out++v.1) fun e he=>by have:=hall e he;exact⟨by have:=this.1;omega,by have:=this.2;omega⟩) fun c hc=>?_
    refine aP (fun _=>?_) fun h=>?_
    ·exact al World_ok fun u hu=>ai ⟨hu.vl.wb,fun _=>hu.vl,fun e he=>(by cases he),by simp,fun e he=>(by cases he)⟩
    ·exact ai ⟨(hc h).1.wb,fun _=>(hc h).1,(hc h).2,by have:=hv.2;simp;omega,hall⟩
 ·rw[aH] at he;subst he;exact⟨by simp,by simp⟩
end Go.Proofs.YtecomllighcieaaGreatDoor.AI
