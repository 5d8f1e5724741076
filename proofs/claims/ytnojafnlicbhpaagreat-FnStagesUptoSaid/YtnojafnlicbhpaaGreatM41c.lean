/-
  Plain functions and their walks. Written by wip/tools/lift.py.
-/
import Derived.Test.YtnojafnlicbhpaaGreatM41b
namespace Go.Pm
set_option linter.defProp false
open Go.Am IntKind
open Go.Proofs
open Bool renaming false→aa,true→Z
open Option renaming some→J
set_option maxRecDepth 100000
set_option maxHeartbeats 4000000
attribute [local irreducible] pw pwx pw1 pwg qv qz qf
attribute [-simp] List.map_set
set_option linter.unusedSimpArgs false
set_option linter.unusedVariables false
def zo4{a0 r}(hr:Jv a0=J r):ap Tryz.prog 107 [(.sh,vL a0)] (Eo (.bool r) [.au]):=by
 apply pE [] hr zFz Tryz.AcD;intro Φ ak hF g;unfold Jv at hF;refine wW ?_;refine wJ hF (λx3=>[(2,.v (.bool x3))]) (λx3 hF=>?_) λ_ hj0 hF=>?_
 ·exact wm ak hF
 have c0:= @UH;exact wL
noncomputable def N7(a0:am)(a1:Int)(a2:List an)(a3:ec):Option Bool:=
 (F3 a0 a3.Out).bind λz1=>
 if(!z1)=Z then(
 J aa)else(
 if(a3.dD==1)=Z then(
 (E5 a0 a1 a2 a3.Out a3.br).bind λz4=>
 ((if z4.2=Z then(
 if z4.1=Z then(
 (GD a3.Poly).bind λbX=>
 J bX)else(
 J aa))else(
 J aa):Option Bool).bind λx7=>
 J x7))else(
 if(a3.dD==2)=Z then(
 (El a0 a1 a2 a3.Out a3.Poly).bind λbH=>
 ((if bH.2=Z then(
 if bH.1=Z then(
 (Jv a3.br).bind λfM=>
 J fM)else(
 J aa))else(
 J aa):Option Bool).bind λdi=>
 J di))else(
 J aa)))
def zq5{a0 a1 a2 a3 r}(hr:N7 a0 a1 a2 a3=J r):ap Tryz.prog 55 [(.sh,vE a0),(.sh,.int .i64 a1),(.sh,vH a2),(.sh,vN a3)] (Eo (.bool r) ky):=by
 apply pE [] hr zME Tryz.AeU;intro Φ ak hF g;unfold N7 at hF;refine wW ?_;refine wE hF U8 λz1 hF=>?_
 refine wW ?_;refine wI hF (λh2 hF=>?_) λh2 hF=>?_
 ·exact wl ak hF
 refine wW ?_;refine wK [1,2,4,7,19] ?_;refine wB ?_;refine wW ?_;refine wI hF (λh3 hF=>?_) λh3 hF=>?_
 ·refine wE hF zm3 λz4 hF=>?_
  refine wK [7,9,10] ?_;refine wJ hF (λx7=>[(8,.v (.bool x7))]) (λx7 hF=>?_) λ_ hj0 hF=>?_
  ·exact wm ak hF
  have c0:= @zqB;exact wL
 refine wW ?_;refine wI hF (λCV hF=>?_) λCV hF=>?_
 ·refine wE hF zoz λbH hF=>?_
  refine wK [7,11,12] ?_;refine wJ hF (λdi=>[(8,.v (.bool di))]) (λdi hF=>?_) λ_ hj0 hF=>?_
  ·exact wm ak hF
  have c0:= @zo4;exact wL
 exact wL
noncomputable def AP(a0:am)(a1:Int)(a2:List an)(a3:ec):Option (Bool×Bool):=
 (th a0 a1 a2).bind λz1=>
 if(!z1)=Z then(
 J (aa,aa))else(
 (N7 a0 a1 a2 a3).bind λz3=>
 J (z3,Z))
def znH{a0 a1 a2 a3 r}(hr:AP a0 a1 a2 a3=J r):ap Tryz.prog 15 [(.sh,vE a0),(.sh,.int .i64 a1),(.sh,vH a2),(.sh,vN a3)] (Eo (.bO [.bool r.1,.bool r.2]) ky):=by
 apply pE [] hr zMl Tryz.Aia;intro Φ ak hF g;unfold AP at hF;have c0:= @zmZ;have c1:= @zq5;exact wL
noncomputable def Hy(a0:List Int)(a1:List Int):Option Bool:=
 (Mm a0 a1).bind λz1=>
 if z1=Z then(
 J Z)else(
 (DM a0).bind λz3=>
 (tC z3.1 z3.2.1 z3.2.2.1 z3.2.2.2.1 z3.2.2.2.2.1 z3.2.2.2.2.2).bind λz4=>
 (sP z3.1 z3.2.1 z3.2.2.1 z3.2.2.2.1 z3.2.2.2.2.1 z3.2.2.2.2.2).bind λz5=>
 ((if(z4.2 !=z5.2)=Z then(
 J Z)else(
 (Jf z4.1.Out z5.1.Out).bind λbX=>
 J (!bX)):Option Bool).bind λx8=>
 if x8=Z then(
 J aa)else(
 ((if z4.2=Z then(
 (ta z3.1 z3.2.1 z3.2.2.1 z4.1).bind λk8=>
 ((if(!k8.2)=Z then(
 J Z)else(
 J (!k8.1)):Option Bool).bind λoU=>
 if oU=Z then(
 J (.inr aa))else(
 (C4 z4.1).bind λkr=>
 (zG kr.1).bind λyf=>
 (C4 yf.1).bind λtO=>
 ((if kr.2=Z then(
 if(!yf.2)=Z then(
 J Z)else(
 if(!tO.2)=Z then(
 J Z)else(
 (HA kr.1 tO.1).bind λgw=>
 J (!gw))))else(
 J aa):Option Bool).bind λfO=>
 if fO=Z then(
 J (.inr aa))else(
 J (.inl ()))))))else(
 J (.inl ())):Option (Unit ⊕ Bool)).bind (Sum.elim (λe7=>
 (I6 a1).bind λiJ=>
 (ta iJ.1 iJ.2.1 iJ.2.2.1 iJ.2.2.2).bind λnE=>
 (AP iJ.1 iJ.2.1 iJ.2.2.1 iJ.2.2.2).bind λhZ=>
 ((if(nE.2==hZ.2)=Z then(
 J (nE.1==hZ.1))else(
 J aa):Option Bool).bind λgL=>
 J gL)) J)))))
def zpJ{a0 a1 r}(hr:Hy a0 a1=J r):ap Tryz.prog 3 [(.sh,.sl aa 1 (a0.map qM)),(.sh,.sl aa 1 (a1.map qM))] (Eo (.bool r) cI):=by
 apply pF 150 [] [46,48] [] [.tmp 4] hr cl3 Tryz.X0;intro Φ ak hF g;unfold Hy at hF;refine wW ?_;refine wE hF zwP λz1 hF=>?_
 refine wW ?_;refine wI hF (λh2 hF=>?_) λh2 hF=>?_
 ·exact wl ak hF
 refine wW ?_;refine wE hF X4 λz3 hF=>?_
 refine wK [1,5,6,7,8,9,10] ?_;refine wE hF zqh λz4 hF=>?_
 refine wK [1,5,6,7,8,9,10,11,12] ?_;refine wE hF zlj λz5 hF=>?_
 refine wK [1,5,6,7,11,12,13,14] ?_;refine bS hF [1,5,6,7,11,12] (λx8=>[(73,.v (.bool x8))]) (λx8 hF=>?_) λ_ hj0 hF=>?_
 ·refine wI hF (λCV hF=>?_) λCV hF=>?_
  ·exact wl ak hF
  iterate 2 refine wW ?_
  refine wS hF (λe7=>[(1,.v (vA a1))]) (λe7 hF=>?_) λ_ hj0 dB hF=>?_
  ·refine wE hF zlO λiJ hF=>?_
   refine wK [23,24,25,26] ?_;refine wE hF Xj λnE hF=>?_
   refine wK [23,24,25,26,27,28] ?_;refine wE hF znH λhZ hF=>?_
   refine wK [27,28,29,30] ?_;refine wJ hF (λgL=>[(4,.v (.bool gL))]) (λgL hF=>?_) λ_ hj0 hF=>?_
   ·exact wm ak hF
   exact wL
  refine wI hF (λT3 hF=>?_) λT3 hF=>?_
  ·refine wE hF Xj λk8 hF=>?_
   refine wK [1,11,15,16] ?_;refine bS hF [1,11] (λoU=>[(88,.v (.bool oU))]) (λoU hF=>?_) λ_ j6 hF=>?_
   ·refine wI hF (λHD hF=>?_) λHD hF=>?_
    ·exact wL
    refine wW ?_;refine wE hF P9 λkr hF=>?_
    refine wW ?_;refine wE hF zmH λyf hF=>?_
    refine wK [1,17,18,19,20] ?_;refine wE hF P9 λtO hF=>?_
    refine wW ?_;refine wJ hF (λfO=>[(1,.v (vA a1)),(118,.v (.bool fO))]) (λfO hF=>?_) λ_ j6 hF=>?_
    ·exact wL
    have c0:= @zqj;exact wL
   exact wL
  exact wT (hj0 _) (eX hF)
 have c0:= @zm2;exact wL
end Go.Pm
