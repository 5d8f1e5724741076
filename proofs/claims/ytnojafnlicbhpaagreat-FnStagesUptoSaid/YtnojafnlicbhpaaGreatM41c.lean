/-
  Plain functions and their walks. Written by wip/tools/lift.py.
-/
import Derived.Test.YtnojafnlicbhpaaGreatM41b
open Bool renaming false→aa,true→Z
open Option renaming some→J
set_option linter.defProp false
namespace Go.Pm
open Go.Am IntKind
open Go.Proofs
set_option maxRecDepth 100000
set_option maxHeartbeats 4000000
attribute [local irreducible] pw pwx pw1 pwg qv qz qf
attribute [-simp] List.map_set
set_option linter.unusedSimpArgs false
set_option linter.unusedVariables false
def zph{a0 r}(hr:IC a0=J r):ap Tryz.prog 107 [(.sh,vL a0)] (Eo (.bool r) [.au]):=by
 apply pE [] hr zHy Tryz.func107;intro Φ ak hF g;unfold IC at hF;refine wW ?_;refine wJ hF (λx3=>[(2,.v (.bool x3))]) (λx3 hF=>?_) λ_ hj0 hF=>?_
 ·exact wm ak hF
 have c0:= @ZU;exact wL
noncomputable def Lx(a0:am)(a1:Int)(a2:List an)(a3:en):Option Bool:=
 (Ee a0 a3.Out).bind λz1=>
 if(!z1)=Z then(
 J aa)else(
 if(a3.dB==1)=Z then(
 (Fz a0 a1 a2 a3.Out a3.br).bind λz4=>
 ((if z4.2=Z then(
 if z4.1=Z then(
 (J3 a3.Poly).bind λbX=>
 J bX)else(
 J aa))else(
 J aa):Option Bool).bind λx7=>
 J x7))else(
 if(a3.dB==2)=Z then(
 (Gi a0 a1 a2 a3.Out a3.Poly).bind λbH=>
 ((if bH.2=Z then(
 if bH.1=Z then(
 (IC a3.br).bind λfN=>
 J fN)else(
 J aa))else(
 J aa):Option Bool).bind λdq=>
 J dq))else(
 J aa)))
def zqR{a0 a1 a2 a3 r}(hr:Lx a0 a1 a2 a3=J r):ap Tryz.prog 55 [(.sh,vE a0),(.sh,.int .i64 a1),(.sh,vH a2),(.sh,vN a3)] (Eo (.bool r) kL):=by
 apply pE [] hr zM2 Tryz.func55;intro Φ ak hF g;unfold Lx at hF;refine wW ?_;refine wE hF Ya λz1 hF=>?_
 refine wW ?_;refine wI hF (λh2 hF=>?_) λh2 hF=>?_
 ·exact wl ak hF
 refine wW ?_;refine wK [1,2,4,7,19] ?_;refine wB ?_;refine wW ?_;refine wI hF (λh3 hF=>?_) λh3 hF=>?_
 ·refine wE hF zm3 λz4 hF=>?_
  refine wK [7,9,10] ?_;refine wJ hF (λx7=>[(8,.v (.bool x7))]) (λx7 hF=>?_) λ_ hj0 hF=>?_
  ·exact wm ak hF
  have c0:= @zqC;exact wL
 refine wW ?_;refine wI hF (λCj hF=>?_) λCj hF=>?_
 ·refine wE hF zoz λbH hF=>?_
  refine wK [7,11,12] ?_;refine wJ hF (λdq=>[(8,.v (.bool dq))]) (λdq hF=>?_) λ_ hj0 hF=>?_
  ·exact wm ak hF
  have c0:= @zph;exact wL
 exact wL
noncomputable def AU(a0:am)(a1:Int)(a2:List an)(a3:en):Option (Bool×Bool):=
 (tc a0 a1 a2).bind λz1=>
 if(!z1)=Z then(
 J (aa,aa))else(
 (Lx a0 a1 a2 a3).bind λz3=>
 J (z3,Z))
def zm9{a0 a1 a2 a3 r}(hr:AU a0 a1 a2 a3=J r):ap Tryz.prog 15 [(.sh,vE a0),(.sh,.int .i64 a1),(.sh,vH a2),(.sh,vN a3)] (Eo (.bO [.bool r.1,.bool r.2]) kL):=by
 apply pE [] hr zKn Tryz.func15;intro Φ ak hF g;unfold AU at hF;have c0:= @UQ;have c1:= @zqR;exact wL
noncomputable def J8(a0:List Int)(a1:List Int):Option Bool:=
 (Ln a0 a1).bind λz1=>
 if z1=Z then(
 J Z)else(
 (Fr a0).bind λz3=>
 (tV z3.1 z3.2.1 z3.2.2.1 z3.2.2.2.1 z3.2.2.2.2.1 z3.2.2.2.2.2).bind λz4=>
 (sV z3.1 z3.2.1 z3.2.2.1 z3.2.2.2.1 z3.2.2.2.2.1 z3.2.2.2.2.2).bind λz5=>
 ((if(z4.2 !=z5.2)=Z then(
 J Z)else(
 (Hy z4.1.Out z5.1.Out).bind λbX=>
 J (!bX)):Option Bool).bind λx8=>
 if x8=Z then(
 J aa)else(
 ((if z4.2=Z then(
 (sQ z3.1 z3.2.1 z3.2.2.1 z4.1).bind λlI=>
 ((if(!lI.2)=Z then(
 J Z)else(
 J (!lI.1)):Option Bool).bind λog=>
 if og=Z then(
 J (.inr aa))else(
 (BU z4.1).bind λkM=>
 (ze kM.1).bind λwU=>
 (BU wU.1).bind λtK=>
 ((if kM.2=Z then(
 if(!wU.2)=Z then(
 J Z)else(
 if(!tK.2)=Z then(
 J Z)else(
 (JU kM.1 tK.1).bind λgp=>
 J (!gp))))else(
 J aa):Option Bool).bind λfM=>
 if fM=Z then(
 J (.inr aa))else(
 J (.inl ()))))))else(
 J (.inl ())):Option (Unit ⊕ Bool)).bind (Sum.elim (λe8=>
 (HP a1).bind λiC=>
 (sQ iC.1 iC.2.1 iC.2.2.1 iC.2.2.2).bind λnI=>
 (AU iC.1 iC.2.1 iC.2.2.1 iC.2.2.2).bind λgZ=>
 ((if(nI.2==gZ.2)=Z then(
 J (nI.1==gZ.1))else(
 J aa):Option Bool).bind λgN=>
 J gN)) J)))))
def zpV{a0 a1 r}(hr:J8 a0 a1=J r):ap Tryz.prog 3 [(.sh,.sl aa 1 (a0.map qt)),(.sh,.sl aa 1 (a1.map qt))] (Eo (.bool r) cI):=by
 apply pF 150 [] [46,48] [] [.tmp 4] hr cl3 Tryz.func3;intro Φ ak hF g;unfold J8 at hF;refine wW ?_;refine wE hF zwb λz1 hF=>?_
 refine wW ?_;refine wI hF (λh2 hF=>?_) λh2 hF=>?_
 ·exact wl ak hF
 refine wW ?_;refine wE hF YZ λz3 hF=>?_
 refine wK [1,5,6,7,8,9,10] ?_;refine wE hF zp0 λz4 hF=>?_
 refine wK [1,5,6,7,8,9,10,11,12] ?_;refine wE hF Xs λz5 hF=>?_
 refine wK [1,5,6,7,11,12,13,14] ?_;refine bT hF [1,5,6,7,11,12] (λx8=>[(73,.v (.bool x8))]) (λx8 hF=>?_) λ_ hj0 hF=>?_
 ·refine wI hF (λCj hF=>?_) λCj hF=>?_
  ·exact wl ak hF
  iterate 2 refine wW ?_
  refine wS hF (λe8=>[(1,.v (vA a1))]) (λe8 hF=>?_) λ_ hj0 dD hF=>?_
  ·refine wE hF zlA λiC hF=>?_
   refine wK [23,24,25,26] ?_;refine wE hF zjW λnI hF=>?_
   refine wK [23,24,25,26,27,28] ?_;refine wE hF zm9 λgZ hF=>?_
   refine wK [27,28,29,30] ?_;refine wJ hF (λgN=>[(4,.v (.bool gN))]) (λgN hF=>?_) λ_ hj0 hF=>?_
   ·exact wm ak hF
   exact wL
  refine wI hF (λQ0 hF=>?_) λQ0 hF=>?_
  ·refine wE hF zjW λlI hF=>?_
   refine wK [1,11,15,16] ?_;refine bT hF [1,11] (λog=>[(88,.v (.bool og))]) (λog hF=>?_) λ_ kg hF=>?_
   ·refine wI hF (λJd hF=>?_) λJd hF=>?_
    ·exact wL
    refine wW ?_;refine wE hF PT λkM hF=>?_
    refine wW ?_;refine wE hF zmm λwU hF=>?_
    refine wK [1,17,18,19,20] ?_;refine wE hF PT λtK hF=>?_
    refine wW ?_;refine wJ hF (λfM=>[(1,.v (vA a1)),(118,.v (.bool fM))]) (λfM hF=>?_) λ_ kg hF=>?_
    ·exact wL
    have c0:= @zpC;exact wL
   exact wL
  exact wT (hj0 _) (eZ hF)
 have c0:= @zm2;exact wL
end Go.Pm
