/-
  Plain functions and their walks. Written by wip/tools/lift.py.
-/
import Derived.Test.YtnojafnlicbhpaaGreatM41b
open Bool renaming false→aa,true→Z
open Option renaming some→J
set_option linter.defProp false
namespace Go.Pm
open Go.Am IntKind
open Go.Proofs
set_option maxRecDepth 100000
set_option maxHeartbeats 4000000
attribute [local irreducible] pw pwx pw1 pwg qv qz qf
attribute [-simp] List.map_set
set_option linter.unusedSimpArgs false
set_option linter.unusedVariables false
def zo7{a0 r}(hr:J9 a0=J r):ap Tryz.prog 107 [(.sh,vL a0)] (Eo (.bool r) [.au]):=by
 apply pE [] hr zGe Tryz.func107;intro Φ ak hF g;unfold J9 at hF;refine wW ?_;refine wJ hF (λx3=>[(2,.v (.bool x3))]) (λx3 hF=>?_) λ_ hj0 hF=>?_
 ·exact wm ak hF
 have c0:= @UH;exact wL
noncomputable def LO(a0:am)(a1:Int)(a2:List an)(a3:d8):Option Bool:=
 (DB a0 a3.Out).bind λz1=>
 if(!z1)=Z then(
 J aa)else(
 if(a3.dF==1)=Z then(
 (F2 a0 a1 a2 a3.Out a3.br).bind λz4=>
 ((if z4.2=Z then(
 if z4.1=Z then(
 (Js a3.Poly).bind λbX=>
 J bX)else(
 J aa))else(
 J aa):Option Bool).bind λx7=>
 J x7))else(
 if(a3.dF==2)=Z then(
 (Di a0 a1 a2 a3.Out a3.Poly).bind λbH=>
 ((if bH.2=Z then(
 if bH.1=Z then(
 (J9 a3.br).bind λfQ=>
 J fQ)else(
 J aa))else(
 J aa):Option Bool).bind λdn=>
 J dn))else(
 J aa)))
def zqz{a0 a1 a2 a3 r}(hr:LO a0 a1 a2 a3=J r):ap Tryz.prog 55 [(.sh,vE a0),(.sh,.int .i64 a1),(.sh,vH a2),(.sh,vN a3)] (Eo (.bool r) kP):=by
 apply pE [] hr zNI Tryz.func55;intro Φ ak hF g;unfold LO at hF;refine wW ?_;refine wE hF Vt λz1 hF=>?_
 refine wW ?_;refine wI hF (λh2 hF=>?_) λh2 hF=>?_
 ·exact wl ak hF
 refine wW ?_;refine wK [1,2,4,7,19] ?_;refine wB ?_;refine wW ?_;refine wI hF (λh3 hF=>?_) λh3 hF=>?_
 ·refine wE hF zm3 λz4 hF=>?_
  refine wK [7,9,10] ?_;refine wJ hF (λx7=>[(8,.v (.bool x7))]) (λx7 hF=>?_) λ_ hj0 hF=>?_
  ·exact wm ak hF
  have c0:= @zqT;exact wL
 refine wW ?_;refine wI hF (λBL hF=>?_) λBL hF=>?_
 ·refine wE hF zoA λbH hF=>?_
  refine wK [7,11,12] ?_;refine wJ hF (λdn=>[(8,.v (.bool dn))]) (λdn hF=>?_) λ_ hj0 hF=>?_
  ·exact wm ak hF
  have c0:= @zo7;exact wL
 exact wL
noncomputable def zZ(a0:am)(a1:Int)(a2:List an)(a3:d8):Option (Bool×Bool):=
 (tI a0 a1 a2).bind λz1=>
 if(!z1)=Z then(
 J (aa,aa))else(
 (LO a0 a1 a2 a3).bind λz3=>
 J (z3,Z))
def znS{a0 a1 a2 a3 r}(hr:zZ a0 a1 a2 a3=J r):ap Tryz.prog 15 [(.sh,vE a0),(.sh,.int .i64 a1),(.sh,vH a2),(.sh,vN a3)] (Eo (.bO [.bool r.1,.bool r.2]) kP):=by
 apply pE [] hr zKE Tryz.func15;intro Φ ak hF g;unfold zZ at hF;have c0:= @Yx;have c1:= @zqz;exact wL
noncomputable def IJ(a0:List Int)(a1:List Int):Option Bool:=
 (NO a0 a1).bind λz1=>
 if z1=Z then(
 J Z)else(
 (EA a0).bind λz3=>
 (tj z3.1 z3.2.1 z3.2.2.1 z3.2.2.2.1 z3.2.2.2.2.1 z3.2.2.2.2.2).bind λz4=>
 (tO z3.1 z3.2.1 z3.2.2.1 z3.2.2.2.1 z3.2.2.2.2.1 z3.2.2.2.2.2).bind λz5=>
 ((if(z4.2 !=z5.2)=Z then(
 J Z)else(
 (IV z4.1.Out z5.1.Out).bind λbX=>
 J (!bX)):Option Bool).bind λx8=>
 if x8=Z then(
 J aa)else(
 ((if z4.2=Z then(
 (sO z3.1 z3.2.1 z3.2.2.1 z4.1).bind λlD=>
 ((if(!lD.2)=Z then(
 J Z)else(
 J (!lD.1)):Option Bool).bind λoZ=>
 if oZ=Z then(
 J (.inr aa))else(
 (Cq z4.1).bind λky=>
 (Ah ky.1).bind λyi=>
 (Cq yi.1).bind λtA=>
 ((if ky.2=Z then(
 if(!yi.2)=Z then(
 J Z)else(
 if(!tA.2)=Z then(
 J Z)else(
 (JT ky.1 tA.1).bind λgy=>
 J (!gy))))else(
 J aa):Option Bool).bind λfR=>
 if fR=Z then(
 J (.inr aa))else(
 J (.inl ()))))))else(
 J (.inl ())):Option (Unit ⊕ Bool)).bind (Sum.elim (λeX=>
 (Ij a1).bind λiG=>
 (sO iG.1 iG.2.1 iG.2.2.1 iG.2.2.2).bind λnx=>
 (zZ iG.1 iG.2.1 iG.2.2.1 iG.2.2.2).bind λgX=>
 ((if(nx.2==gX.2)=Z then(
 J (nx.1==gX.1))else(
 J aa):Option Bool).bind λgH=>
 J gH)) J)))))
def zqj{a0 a1 r}(hr:IJ a0 a1=J r):ap Tryz.prog 3 [(.sh,.sl aa 1 (a0.map qr)),(.sh,.sl aa 1 (a1.map qr))] (Eo (.bool r) cJ):=by
 apply pF 150 [] [46,48] [] [.tmp 4] hr cl3 Tryz.func3;intro Φ ak hF g;unfold IJ at hF;refine wW ?_;refine wE hF zvT λz1 hF=>?_
 refine wW ?_;refine wI hF (λh2 hF=>?_) λh2 hF=>?_
 ·exact wl ak hF
 refine wW ?_;refine wE hF ZO λz3 hF=>?_
 refine wK [1,5,6,7,8,9,10] ?_;refine wE hF zpX λz4 hF=>?_
 refine wK [1,5,6,7,8,9,10,11,12] ?_;refine wE hF VW λz5 hF=>?_
 refine wK [1,5,6,7,11,12,13,14] ?_;refine bT hF [1,5,6,7,11,12] (λx8=>[(73,.v (.bool x8))]) (λx8 hF=>?_) λ_ hj0 hF=>?_
 ·refine wI hF (λBL hF=>?_) λBL hF=>?_
  ·exact wl ak hF
  iterate 2 refine wW ?_
  refine wS hF (λeX=>[(1,.v (vA a1))]) (λeX hF=>?_) λ_ hj0 dE hF=>?_
  ·refine wE hF zlP λiG hF=>?_
   refine wK [23,24,25,26] ?_;refine wE hF WP λnx hF=>?_
   refine wK [23,24,25,26,27,28] ?_;refine wE hF znS λgX hF=>?_
   refine wK [27,28,29,30] ?_;refine wJ hF (λgH=>[(4,.v (.bool gH))]) (λgH hF=>?_) λ_ hj0 hF=>?_
   ·exact wm ak hF
   exact wL
  refine wI hF (λTW hF=>?_) λTW hF=>?_
  ·refine wE hF WP λlD hF=>?_
   refine wK [1,11,15,16] ?_;refine bT hF [1,11] (λoZ=>[(88,.v (.bool oZ))]) (λoZ hF=>?_) λ_ j8 hF=>?_
   ·refine wI hF (λHy hF=>?_) λHy hF=>?_
    ·exact wL
    refine wW ?_;refine wE hF P9 λky hF=>?_
    refine wW ?_;refine wE hF zmy λyi hF=>?_
    refine wK [1,17,18,19,20] ?_;refine wE hF P9 λtA hF=>?_
    refine wW ?_;refine wJ hF (λfR=>[(1,.v (vA a1)),(118,.v (.bool fR))]) (λfR hF=>?_) λ_ j8 hF=>?_
    ·exact wL
    have c0:= @zp8;exact wL
   exact wL
  exact wT (hj0 _) (eW hF)
 have c0:= @zm6;exact wL
end Go.Pm
