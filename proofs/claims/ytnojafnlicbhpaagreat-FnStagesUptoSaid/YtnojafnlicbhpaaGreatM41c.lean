/-
  Plain functions and their walks. Written by wip/tools/lift.py.
-/
import Derived.Test.YtnojafnlicbhpaaGreatM41b
open Bool renaming false→aa,true→Z
open Option renaming some→J
set_option linter.defProp false
namespace Go.Pm
open Go.Am IntKind
open Go.Proofs
set_option maxRecDepth 100000
attribute [local irreducible] pw pwx pw1 pwg qv qz qf
attribute [-simp] List.map_set
set_option linter.unusedSimpArgs false
set_option linter.unusedVariables false
def zpq{a0 r}(hr:K0 a0=J r):au Tryz.prog 107 [(.sh,vL a0)] (Eo (.bool r) [.ax]):=by
 apply pF 16 [] [] [] [.tmp 2] hr zEq Tryz.func107;intro Φ ai hF g;unfold K0 at hF;refine wW ?_;refine wJ hF (λx3=>[(2,.v (.bool x3))]) (λx3 hF=>?_) λ_ ao hF=>?_
 ·exact wm ai hF
 try simp[go_sem,g]
 try intros
 refine wG hF (λh4 hF=>?_) λh4 hF=>?_
 ·try simp[go_sem,g,h4]
  refine wE hF XX λz5 hF=>?_
  exact wV h4 (ao _) (aj hF)
 exact wV h4 (ao _) (aj hF)
noncomputable def P6(a0:an)(a1:Int)(a2:List aq)(a3:eg):Option Bool:=
 (FW a0 a3.Out).bind λz1=>
 if(!z1)=Z then(
 J aa)else(
 if(a3.dG==1)=Z then(
 (G4 a0 a1 a2 a3.Out a3.bt).bind λz4=>
 ((if z4.2=Z then(
 if z4.1=Z then(
 (LN a3.Poly).bind λbF=>
 J bF)else(
 J aa))else(
 J aa):Option Bool).bind λx7=>
 J x7))else(
 if(a3.dG==2)=Z then(
 (Fj a0 a1 a2 a3.Out a3.Poly).bind λbr=>
 ((if br.2=Z then(
 if br.1=Z then(
 (K0 a3.bt).bind λfe=>
 J fe)else(
 J aa))else(
 J aa):Option Bool).bind λdw=>
 J dw))else(
 J aa)))
def zqP{a0 a1 a2 a3 r}(hr:P6 a0 a1 a2 a3=J r):au Tryz.prog 55 [(.sh,vE a0),(.sh,.int .i64 a1),(.sh,vH a2),(.sh,vN a3)] (Eo (.bool r) kY):=by
 apply pF 64 [] [] [] [.tmp 8] hr zKs Tryz.func55;intro Φ ai hF g;unfold P6 at hF;refine wW ?_;refine wE hF zno λz1 hF=>?_
 refine wW ?_;refine wI hF (λh2 hF=>?_) λh2 hF=>?_
 ·exact wl ai hF
 refine wW ?_;refine wK [1,2,4,7,19] ?_;refine wB ?_;refine wW ?_;refine wI hF (λh3 hF=>?_) λh3 hF=>?_
 ·refine wE hF zm9 λz4 hF=>?_
  refine wK [7,9,10] ?_;refine wJ hF (λx7=>[(8,.v (.bool x7))]) (λx7 hF=>?_) λ_ sw hF=>?_
  ·exact wm ai hF
  refine wG hF (λh8 hF=>?_) λh8 hF=>?_
  ·try simp[go_sem,g,h8]
   refine wG hF (λh9 hF=>?_) λh9 hF=>?_
   ·try simp[go_sem,g,h9]
    refine wE hF zq5 λbF hF=>?_
    exact wV h9 (sw _) (aj hF)
   exact wV h9 (sw _) (aj hF)
  exact wV h8 (sw _) (aj hF)
 refine wW ?_;refine wI hF (λeQ hF=>?_) λeQ hF=>?_
 ·refine wE hF zoE λbr hF=>?_
  refine wK [7,11,12] ?_;refine wJ hF (λdw=>[(8,.v (.bool dw))]) (λdw hF=>?_) λ_ Fk hF=>?_
  ·exact wm ai hF
  refine wG hF (λk7 hF=>?_) λk7 hF=>?_
  ·try simp[go_sem,g,k7]
   refine wG hF (λiH hF=>?_) λiH hF=>?_
   ·try simp[go_sem,g,iH]
    refine wE hF zpq λfe hF=>?_
    exact wV iH (Fk _) (aj hF)
   exact wV iH (Fk _) (aj hF)
  exact wV k7 (Fk _) (aj hF)
 cases ai _ (aj hF)
 iterate 2 refine wW ?_
 try simp[go_sem,g]
noncomputable def yB(a0:an)(a1:Int)(a2:List aq)(a3:eg):Option (Bool×Bool):=
 (uw a0 a1 a2).bind λz1=>
 if(!z1)=Z then(
 J (aa,aa))else(
 (P6 a0 a1 a2 a3).bind λz3=>
 J (z3,Z))
def znU{a0 a1 a2 a3 r}(hr:yB a0 a1 a2 a3=J r):au Tryz.prog 15 [(.sh,vE a0),(.sh,.int .i64 a1),(.sh,vH a2),(.sh,vN a3)] (Eo (.bS [.bool r.1,.bool r.2]) kY):=by
 apply pF 20 [] [] [] [.tmp 8,.tmp 9] hr zJM Tryz.func15;intro Φ ai hF g;unfold yB at hF;refine wW ?_;refine wE hF zm1 λz1 hF=>?_
 refine wW ?_;refine wI hF (λh2 hF=>?_) λh2 hF=>?_
 ·refine wK [8,9] ?_;exact wm ai hF
 refine wW ?_;refine wE hF zqP λz3 hF=>?_
 refine wK [8,9] ?_;exact wm ai hF
noncomputable def H4(a0:List Int)(a1:List Int):Option Bool:=
 (OZ a0 a1).bind λz1=>
 if z1=Z then(
 J Z)else(
 (F9 a0).bind λz3=>
 (uA z3.1 z3.2.1 z3.2.2.1 z3.2.2.2.1 z3.2.2.2.2.1 z3.2.2.2.2.2).bind λz4=>
 (uD z3.1 z3.2.1 z3.2.2.1 z3.2.2.2.1 z3.2.2.2.2.1 z3.2.2.2.2.2).bind λz5=>
 ((if(z4.2 !=z5.2)=Z then(
 J Z)else(
 (JS z4.1.Out z5.1.Out).bind λbF=>
 J (!bF)):Option Bool).bind λx8=>
 if x8=Z then(
 J aa)else(
 ((if z4.2=Z then(
 (sJ z3.1 z3.2.1 z3.2.2.1 z4.1).bind λiW=>
 ((if(!iW.2)=Z then(
 J Z)else(
 J (!iW.1)):Option Bool).bind λpo=>
 if po=Z then(
 J (.inr aa))else(
 (Ei z4.1).bind λkd=>
 (A6 kd.1).bind λwc=>
 (Ei wc.1).bind λtI=>
 ((if kd.2=Z then(
 if(!wc.2)=Z then(
 J Z)else(
 if(!tI.2)=Z then(
 J Z)else(
 (Ky kd.1 tI.1).bind λfy=>
 J (!fy))))else(
 J aa):Option Bool).bind λfR=>
 if fR=Z then(
 J (.inr aa))else(
 J (.inl ()))))))else(
 J (.inl ())):Option (Unit ⊕ Bool)).bind (Sum.elim (λfb=>
 (Kv a1).bind λiG=>
 (sJ iG.1 iG.2.1 iG.2.2.1 iG.2.2.2).bind λn9=>
 (yB iG.1 iG.2.1 iG.2.2.1 iG.2.2.2).bind λib=>
 ((if(n9.2==ib.2)=Z then(
 J (n9.1==ib.1))else(
 J aa):Option Bool).bind λgV=>
 J gV)) J)))))
def zqi{a0 a1 r}(hr:H4 a0 a1=J r):au Tryz.prog 3 [(.sh,.sl aa 1 (a0.map rH)),(.sh,.sl aa 1 (a1.map rH))] (Eo (.bool r) cO):=by
 apply pF 150 [] [46,48] [] [.tmp 4] hr cl3 Tryz.func3;intro Φ ai hF g;unfold H4 at hF;refine wW ?_;refine wE hF zwo λz1 hF=>?_
 refine wW ?_;refine wI hF (λh2 hF=>?_) λh2 hF=>?_
 ·exact wl ai hF
 refine wW ?_;refine wE hF XP λz3 hF=>?_
 refine wK [1,5,6,7,8,9,10] ?_;refine wE hF zp9 λz4 hF=>?_
 refine wK [1,5,6,7,8,9,10,11,12] ?_;refine wE hF zlk λz5 hF=>?_
 refine wK [1,5,6,7,11,12,13,14] ?_;refine bX hF [1,5,6,7,11,12] (λx8=>[(73,.v (.bool x8))]) (λx8 hF=>?_) λ_ hj6 hF=>?_
 ·refine wI hF (λeQ hF=>?_) λeQ hF=>?_
  ·exact wl ai hF
  iterate 2 refine wW ?_
  refine wS hF (λfb=>[(1,.v (vA a1))]) (λfb hF=>?_) λ_ zh a0L hF=>?_
  ·refine wE hF zlM λiG hF=>?_
   refine wK [23,24,25,26] ?_;refine wE hF zjX λn9 hF=>?_
   refine wK [23,24,25,26,27,28] ?_;refine wE hF znU λib hF=>?_
   refine wK [27,28,29,30] ?_;refine wJ hF (λgV=>[(4,.v (.bool gV))]) (λgV hF=>?_) λ_ uX hF=>?_
   ·exact wm ai hF
   refine wG hF (λzZ hF=>?_) λzZ hF=>?_
   ·exact wV zZ (uX _) (aj hF)
   exact wV zZ (uX _) (aj hF)
  refine wI hF (λiT hF=>?_) λiT hF=>?_
  ·refine wE hF zjX λiW hF=>?_
   refine wK [1,11,15,16] ?_;refine bX hF [1,11] (λpo=>[(88,.v (.bool po))]) (λpo hF=>?_) λ_ XZ hF=>?_
   ·refine wI hF (λyH hF=>?_) λyH hF=>?_
    ·cases ai _ (a0L _ (aj hF));refine wW ?_;try simp[go_sem,g]
    refine wW ?_;refine wE hF Si λkd hF=>?_
    refine wW ?_;refine wE hF zms λwc hF=>?_
    refine wK [1,17,18,19,20] ?_;refine wE hF Si λtI hF=>?_
    refine wW ?_;refine wJ hF (λfR=>[(1,.v (vA a1)),(118,.v (.bool fR))]) (λfR hF=>?_) λ_ tB hF=>?_
    ·refine wI hF (λCz hF=>?_) λCz hF=>?_
     ·cases ai _ (a0L _ (aj hF));refine wW ?_;try simp[go_sem,g]
     exact wT (zh _) (aj hF)
    refine wG hF (λrm hF=>?_) λrm hF=>?_
    ·try simp[go_sem,g,rm]
     refine wG hF (λyW hF=>?_) λyW hF=>?_
     ·try simp[go_sem,g,yW,rm]
      exact wT (tB _) (aj hF)
     try simp[go_sem,g,yW,rm]
     refine wG hF (λtX hF=>?_) λtX hF=>?_
     ·try simp[go_sem,g,tX,rm]
      exact wT (tB _) (aj hF)
     try simp[go_sem,g,tX]
     refine wE hF zpC λfy hF=>?_
     try simp[go_sem,g,tX,rm]
     exact wT (tB _) (aj hF)
    exact wV rm (tB _) (aj hF)
   refine wG hF (λU4 hF=>?_) λU4 hF=>?_
   ·exact wV U4 (XZ _) (aj hF)
   exact wV U4 (XZ _) (aj hF)
  exact wT (zh _) (aj hF)
 refine wG hF (λh9 hF=>?_) λh9 hF=>?_
 ·exact wV h9 (hj6 _) (aj hF)
 try simp[go_sem,g,h9]
 refine wE hF zm8 λbF hF=>?_
 exact wV h9 (hj6 _) (aj hF)
end Go.Pm
