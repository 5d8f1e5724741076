/-
  Plain functions and their walks. Written by wip/tools/lift.py.
-/
import Derived.Test.YtnojafnlicbhpaaGreatPS
open Bool renaming false→aa,true→Z
open Option renaming none→ae,some→J
set_option linter.defProp false
namespace Go.Pm
open Go.Am IntKind
open Go.Proofs
def HM:=@List.map_congr_left
def HN:=@List.map_set
def L7:=@List.length_set
set_option maxRecDepth 100000
attribute [local irreducible] pw pwx pw1 pwg qv qz qf
attribute [-simp] List.map_set
set_option linter.unusedSimpArgs false
set_option linter.unusedVariables false
noncomputable section
structure an where
 P:Int
 Q:Int
 G:Int
structure aq where
 A:Int
 B:Int
structure a6u where
 code:(List Int)
 at_:Int
 dJ:Int
structure cb where
 aE:(List Int)
 aW:(List Int)
 aG:(List Int)
structure cM where
 cy:(List Int)
 aH:(List Int)
 Pi:cb
structure ct where
 bV:(List Int)
 bM:(List Int)
 aH:(List Int)
 Pi:cb
structure eg where
 dG:Int
 Out:(List aq)
 bt:cM
 Poly:ct
structure cA where
 H:Int
 Hs:(List Int)
structure a6t where
 l:(List Int)
structure a57 where
 f0:(List Int)
 f1:(List Int)
 f2:(List Int)
 f3:(List Int)
 f4:(List Int)
structure a5O where
 s:Int
 t:Int
structure a53 where
 l:(List Int)
 ok:Bool
def rH(x:Int):List PV:=[.int .u8 x]
variable{i:Nat}{l:List Int}{x:(List Int)}
@[go_sem] def zJz{x:Int}:rH x=[.int .u8 x]:=(rfl)
@[go_sem] def zuc :List.map (List.map drop∘rH) l=l.map rH:=by refine HM λx _=>?_;simp[go_sem]
@[go_sem] def zDW :List.map (List.map drop) (l.map rH)=l.map rH:=by rw[tf];exact zuc
@[go_sem] def zFM{a:Int}:(l.map rH).set i [.int .u8 a]=(l.set i a).map rH:=by rw[HN];rfl
def aL(x:Int):List PV:=[.int .i64 x]
@[go_sem] def zG9{x:Int}:aL x=[.int .i64 x]:=(rfl)
@[go_sem] def ztk :List.map (List.map drop∘aL) l=l.map aL:=by refine HM λx _=>?_;simp[go_sem]
@[go_sem] def zB8 :List.map (List.map drop) (l.map aL)=l.map aL:=by rw[tf];exact ztk
@[go_sem] def zEi{a:Int}:(l.map aL).set i [.int .i64 a]=(l.set i a).map aL:=by rw[HN];rfl
def jE(x:aq):List PV:=[.int .i64 x.A,.int .i64 x.B]
@[go_sem] def zCb{x:aq}:jE x=[.int .i64 x.A,.int .i64 x.B]:=(rfl)
@[go_sem] def zqa{l:List aq}:List.map (List.map drop∘jE) l=l.map jE:=by refine HM λx _=>?_;simp[go_sem]
@[go_sem] def zyM{l:List aq}:List.map (List.map drop) (l.map jE)=l.map jE:=by rw[tf];exact zqa
@[go_sem] def zA9{l:List aq}{A:Int}{B:Int}:(l.map jE).set i [.int .i64 A,.int .i64 B]=(l.set i (aq.mk A B)).map jE:=by rw[HN];rfl
def lJ(x:List Int):List PV:=[.sl aa 1 (x.map aL)]
@[go_sem] def zEp :lJ x=[.sl aa 1 (x.map aL)]:=(rfl)
@[go_sem] def zrH{l:List (List Int)}:List.map (List.map drop∘lJ) l=l.map lJ:=by refine HM λx _=>?_;simp[go_sem]
@[go_sem] def zBg{l:List (List Int)}:List.map (List.map drop) (l.map lJ)=l.map lJ:=by rw[tf];exact zrH
@[go_sem] def zDs{l:List (List Int)}{a:(List Int)}:(l.map lJ).set i [.sl aa 1 (a.map aL)]=(l.set i a).map lJ:=by rw[HN];rfl
def uo(x:(List (List Int))):List PV:=[.sl aa 1 (x.map lJ)]
@[go_sem] def zDL{x:(List (List Int))}:uo x=[.sl aa 1 (x.map lJ)]:=(rfl)
@[go_sem] def zre{l:List (List (List Int))}:List.map (List.map drop∘uo) l=l.map uo:=by refine HM λx _=>?_;simp[go_sem]
@[go_sem] def zAg{l:List (List (List Int))}:List.map (List.map drop) (l.map uo)=l.map uo:=by rw[tf];exact zre
@[go_sem] def zCa{l:List (List (List Int))}{a:(List (List Int))}:(l.map uo).set i [.sl aa 1 (a.map lJ)]=(l.set i a).map uo:=by rw[HN];rfl
def DW(x:(List (List Int))):List PV:=[.sl Z 1 (x.map lJ)]
@[go_sem] def zCj{x:(List (List Int))}:DW x=[.sl Z 1 (x.map lJ)]:=(rfl)
@[go_sem] def zqx{l:List (List (List Int))}:List.map (List.map drop∘DW) l=l.map uo:=by refine HM λx _=>?_;simp[go_sem]
@[go_sem] def zzZ{l:List (List (List Int))}:List.map (List.map drop) (l.map DW)=l.map uo:=by rw[tf];exact zqx
@[go_sem] def zCf{l:List (List (List Int))}{a:(List (List Int))}:(l.map DW).set i [.sl Z 1 (a.map lJ)]=(l.set i a).map DW:=by rw[HN];rfl
def Dw(x:List Int):List PV:=[.sl Z 1 (x.map aL)]
@[go_sem] def zD6 :Dw x=[.sl Z 1 (x.map aL)]:=(rfl)
@[go_sem] def zrL{l:List (List Int)}:List.map (List.map drop∘Dw) l=l.map lJ:=by refine HM λx _=>?_;simp[go_sem]
@[go_sem] def zB2{l:List (List Int)}:List.map (List.map drop) (l.map Dw)=l.map lJ:=by rw[tf];exact zrL
@[go_sem] def zCx{l:List (List Int)}{a:(List Int)}:(l.map Dw).set i [.sl Z 1 (a.map aL)]=(l.set i a).map Dw:=by rw[HN];rfl
def vA(x:List Int):PV:=.sl aa 1 (x.map rH)
@[go_sem] def zUH :vA x=.sl aa 1 (x.map rH):=(rfl)
def vB(x0:List Int)(x1:Int)(x2:Int):PV:=.bx [.sl aa 1 (x0.map rH),.int .i64 x1,.int .u64 x2]
@[go_sem] def zT0{x0:(List Int)}{x1:Int}{x2:Int}:vB x0 x1 x2=.bx [.sl aa 1 (x0.map rH),.int .i64 x1,.int .u64 x2]:=(rfl)
def vC(x:List Int):PV:=.sl aa 1 (x.map aL)
@[go_sem] def zVM :vC x=.sl aa 1 (x.map aL):=(rfl)
def vD(x:List Int):PV:=.sl Z 1 (x.map aL)
@[go_sem] def zUR :vD x=.sl Z 1 (x.map aL):=(rfl)
def vE(x:an):PV:=.agg [.int .i64 x.P,.int .i64 x.Q,.int .i64 x.G]
@[go_sem] def zTI{x:an}:vE x=.agg [.int .i64 x.P,.int .i64 x.Q,.int .i64 x.G]:=(rfl)
def vF(x:aq):PV:=.agg [.int .i64 x.A,.int .i64 x.B]
@[go_sem] def zTV{x:aq}:vF x=.agg [.int .i64 x.A,.int .i64 x.B]:=(rfl)
def vG(x:List aq):PV:=.sl Z 2 (x.map jE)
@[go_sem] def zUL{x:(List aq)}:vG x=.sl Z 2 (x.map jE):=(rfl)
def vH(x:List aq):PV:=.sl aa 2 (x.map jE)
@[go_sem] def zVr{x:(List aq)}:vH x=.sl aa 2 (x.map jE):=(rfl)
def vI(x:cA):PV:=.agg [.int .i64 x.H,.sl Z 1 (x.Hs.map aL)]
@[go_sem] def zUe{x:cA}:vI x=.agg [.int .i64 x.H,.sl Z 1 (x.Hs.map aL)]:=(rfl)
def vJ(x:cA):PV:=.agg [.int .i64 x.H,.sl aa 1 (x.Hs.map aL)]
@[go_sem] def zVE{x:cA}:vJ x=.agg [.int .i64 x.H,.sl aa 1 (x.Hs.map aL)]:=(rfl)
def vK(x:(List (List Int))):PV:=.sl aa 1 (x.map lJ)
@[go_sem] def zTR{x:(List (List Int))}:vK x=.sl aa 1 (x.map lJ):=(rfl)
def vL(x:cM):PV:=.agg [.sl aa 1 (x.cy.map aL),.sl aa 1 (x.aH.map aL),.sl aa 1 (x.Pi.aE.map aL),.sl aa 1 (x.Pi.aW.map aL),.sl aa 1 (x.Pi.aG.map aL)]
@[go_sem] def zUl{x:cM}:vL x=.agg [.sl aa 1 (x.cy.map aL),.sl aa 1 (x.aH.map aL),.sl aa 1 (x.Pi.aE.map aL),.sl aa 1 (x.Pi.aW.map aL),.sl aa 1 (x.Pi.aG.map aL)]:=(rfl)
def vM(x:ct):PV:=.agg [.sl aa 1 (x.bV.map aL),.sl aa 1 (x.bM.map aL),.sl aa 1 (x.aH.map aL),.sl aa 1 (x.Pi.aE.map aL),.sl aa 1 (x.Pi.aW.map aL),.sl aa 1 (x.Pi.aG.map aL)]
@[go_sem] def zTT{x:ct}:vM x=.agg [.sl aa 1 (x.bV.map aL),.sl aa 1 (x.bM.map aL),.sl aa 1 (x.aH.map aL),.sl aa 1 (x.Pi.aE.map aL),.sl aa 1 (x.Pi.aW.map aL),.sl aa 1 (x.Pi.aG.map aL)]:=(rfl)
def vN(x:eg):PV:=.agg [.int .i64 x.dG,.sl aa 2 (x.Out.map jE),.sl aa 1 (x.bt.cy.map aL),.sl aa 1 (x.bt.aH.map aL),.sl aa 1 (x.bt.Pi.aE.map aL),.sl aa 1 (x.bt.Pi.aW.map aL),.sl aa 1 (x.bt.Pi.aG.map aL),.sl aa 1 (x.Poly.bV.map aL),.sl aa 1 (x.Poly.bM.map aL),.sl aa 1 (x.Poly.aH.map aL),.sl aa 1 (x.Poly.Pi.aE.map aL),.sl aa 1 (x.Poly.Pi.aW.map aL),.sl aa 1 (x.Poly.Pi.aG.map aL)]
@[go_sem] def zUv{x:eg}:vN x=.agg [.int .i64 x.dG,.sl aa 2 (x.Out.map jE),.sl aa 1 (x.bt.cy.map aL),.sl aa 1 (x.bt.aH.map aL),.sl aa 1 (x.bt.Pi.aE.map aL),.sl aa 1 (x.bt.Pi.aW.map aL),.sl aa 1 (x.bt.Pi.aG.map aL),.sl aa 1 (x.Poly.bV.map aL),.sl aa 1 (x.Poly.bM.map aL),.sl aa 1 (x.Poly.aH.map aL),.sl aa 1 (x.Poly.Pi.aE.map aL),.sl aa 1 (x.Poly.Pi.aW.map aL),.sl aa 1 (x.Poly.Pi.aG.map aL)]:=(rfl)
def vO(x0:Int)(x1:Int):PV:=.bx [.int .i64 x0,.int .i64 x1]
@[go_sem] def zTM{x0:Int}{x1:Int}:vO x0 x1=.bx [.int .i64 x0,.int .i64 x1]:=(rfl)
def vP(x:cM):PV:=.agg [.sl Z 1 (x.cy.map aL),.sl Z 1 (x.aH.map aL),.sl Z 1 (x.Pi.aE.map aL),.sl Z 1 (x.Pi.aW.map aL),.sl Z 1 (x.Pi.aG.map aL)]
@[go_sem] def zTr{x:cM}:vP x=.agg [.sl Z 1 (x.cy.map aL),.sl Z 1 (x.aH.map aL),.sl Z 1 (x.Pi.aE.map aL),.sl Z 1 (x.Pi.aW.map aL),.sl Z 1 (x.Pi.aG.map aL)]:=(rfl)
def vQ(x:ct):PV:=.agg [.sl Z 1 (x.bV.map aL),.sl Z 1 (x.bM.map aL),.sl Z 1 (x.aH.map aL),.sl Z 1 (x.Pi.aE.map aL),.sl Z 1 (x.Pi.aW.map aL),.sl Z 1 (x.Pi.aG.map aL)]
@[go_sem] def zTC{x:ct}:vQ x=.agg [.sl Z 1 (x.bV.map aL),.sl Z 1 (x.bM.map aL),.sl Z 1 (x.aH.map aL),.sl Z 1 (x.Pi.aE.map aL),.sl Z 1 (x.Pi.aW.map aL),.sl Z 1 (x.Pi.aG.map aL)]:=(rfl)
def vR(x:eg):PV:=.agg [.int .i64 x.dG,.sl Z 2 (x.Out.map jE),.sl Z 1 (x.bt.cy.map aL),.sl Z 1 (x.bt.aH.map aL),.sl Z 1 (x.bt.Pi.aE.map aL),.sl Z 1 (x.bt.Pi.aW.map aL),.sl Z 1 (x.bt.Pi.aG.map aL),.sl Z 1 (x.Poly.bV.map aL),.sl Z 1 (x.Poly.bM.map aL),.sl Z 1 (x.Poly.aH.map aL),.sl Z 1 (x.Poly.Pi.aE.map aL),.sl Z 1 (x.Poly.Pi.aW.map aL),.sl Z 1 (x.Poly.Pi.aG.map aL)]
@[go_sem] def zTZ{x:eg}:vR x=.agg [.int .i64 x.dG,.sl Z 2 (x.Out.map jE),.sl Z 1 (x.bt.cy.map aL),.sl Z 1 (x.bt.aH.map aL),.sl Z 1 (x.bt.Pi.aE.map aL),.sl Z 1 (x.bt.Pi.aW.map aL),.sl Z 1 (x.bt.Pi.aG.map aL),.sl Z 1 (x.Poly.bV.map aL),.sl Z 1 (x.Poly.bM.map aL),.sl Z 1 (x.Poly.aH.map aL),.sl Z 1 (x.Poly.Pi.aE.map aL),.sl Z 1 (x.Poly.Pi.aW.map aL),.sl Z 1 (x.Poly.Pi.aG.map aL)]:=(rfl)
def vS(x:cb):PV:=.agg [.sl aa 1 (x.aE.map aL),.sl aa 1 (x.aW.map aL),.sl aa 1 (x.aG.map aL)]
@[go_sem] def zVf{x:cb}:vS x=.agg [.sl aa 1 (x.aE.map aL),.sl aa 1 (x.aW.map aL),.sl aa 1 (x.aG.map aL)]:=(rfl)
def vT(x:(List (List Int))):PV:=.sl Z 1 (x.map lJ)
@[go_sem] def zVl{x:(List (List Int))}:vT x=.sl Z 1 (x.map lJ):=(rfl)
def vU(x:(List (List (List Int)))):PV:=.sl aa 1 (x.map uo)
@[go_sem] def zUI{x:(List (List (List Int)))}:vU x=.sl aa 1 (x.map uo):=(rfl)
def vV(x:(List (List (List Int)))):PV:=.sl Z 1 (x.map DW)
@[go_sem] def zVn{x:(List (List (List Int)))}:vV x=.sl Z 1 (x.map DW):=(rfl)
def vW(x0:List Int)(x1:Bool):PV:=.bx [.sl aa 1 (x0.map aL),.bool x1]
@[go_sem] def zVA{x0:(List Int)}{x1:Bool}:vW x0 x1=.bx [.sl aa 1 (x0.map aL),.bool x1]:=(rfl)
def vX(x:(List (List Int))):PV:=.sl Z 1 (x.map Dw)
@[go_sem] def zVT{x:(List (List Int))}:vX x=.sl Z 1 (x.map Dw):=(rfl)
def vY(x:cb):PV:=.agg [.sl Z 1 (x.aE.map aL),.sl Z 1 (x.aW.map aL),.sl Z 1 (x.aG.map aL)]
@[go_sem] def zVL{x:cb}:vY x=.agg [.sl Z 1 (x.aE.map aL),.sl Z 1 (x.aW.map aL),.sl Z 1 (x.aG.map aL)]:=(rfl)
def vZ(x:eg):PV:=.agg [.int .i64 x.dG,.sl Z 2 (x.Out.map jE),.sl aa 1 (x.bt.cy.map aL),.sl aa 1 (x.bt.aH.map aL),.sl aa 1 (x.bt.Pi.aE.map aL),.sl aa 1 (x.bt.Pi.aW.map aL),.sl aa 1 (x.bt.Pi.aG.map aL),.sl aa 1 (x.Poly.bV.map aL),.sl aa 1 (x.Poly.bM.map aL),.sl aa 1 (x.Poly.aH.map aL),.sl aa 1 (x.Poly.Pi.aE.map aL),.sl aa 1 (x.Poly.Pi.aW.map aL),.sl aa 1 (x.Poly.Pi.aG.map aL)]
@[go_sem] def zUr{x:eg}:vZ x=.agg [.int .i64 x.dG,.sl Z 2 (x.Out.map jE),.sl aa 1 (x.bt.cy.map aL),.sl aa 1 (x.bt.aH.map aL),.sl aa 1 (x.bt.Pi.aE.map aL),.sl aa 1 (x.bt.Pi.aW.map aL),.sl aa 1 (x.bt.Pi.aG.map aL),.sl aa 1 (x.Poly.bV.map aL),.sl aa 1 (x.Poly.bM.map aL),.sl aa 1 (x.Poly.aH.map aL),.sl aa 1 (x.Poly.Pi.aE.map aL),.sl aa 1 (x.Poly.Pi.aW.map aL),.sl aa 1 (x.Poly.Pi.aG.map aL)]:=(rfl)
def OZ(a0:List Int)(a1:List Int):Option Bool:=
 ((if decide (1048576<(a0.length:Int))=Z then(
 J Z)else(
 J (decide ((i64.wrap (1048576-(a0.length:Int)))<(a1.length:Int)))):Option Bool).bind λx3=>
 J x3)
def zwo{a0 a1 r}(hr:OZ a0 a1=J r):au Tryz.prog 5 [(.sh,vA a0),(.sh,vA a1)] (Eo (.bool r) cO):=by
 apply pF 16 [] [] [] [.tmp 4] hr cl5 Tryz.func5;intro Φ ai hF g;unfold OZ at hF;refine wW ?_;refine wJ hF (λx3=>[(4,.v (.bool x3))]) (λx3 hF=>?_) λ_ ao hF=>?_
 ·exact wm ai hF
 try simp[go_sem,g]
 try intros
 refine wG hF (λh4 hF=>?_) λh4 hF=>?_
 ·exact wV h4 (ao _) (aj hF)
 try simp[go_sem,g,h4]
 try intros
 exact wT (ao _) (aj hF)
def EX(aO:List Int)(aV:Int)(bp:Int):Option (Int×(List Int×Int×Int)):=
 ((if decide (aV<(aO.length:Int))=Z then(
 (ix aO aV).bind λx5=>
 J (i64.wrap x5))else(
 J 0):Option Int).bind λx3=>
 if decide ((i64.wrap (aV+1))<=(aO.length:Int))=Z then(
 J (x3,(aO,i64.wrap (aV+1),u64.wrap ((u64.wrap ((u64.wrap (bp*6364136223846793005))+(u64.wrap x3)))+1442695040888963407))))else(
 J (i64.wrap (u64.wrap ((BitVec.ofInt u64.bits ((u64.wrap ((u64.wrap ((u64.wrap (bp*6364136223846793005))+(u64.wrap x3)))+1442695040888963407)).fdiv 1099511627776)&&&BitVec.ofInt u64.bits 255).toNat)),(aO,i64.wrap (aV+1),u64.wrap ((u64.wrap ((u64.wrap (bp*6364136223846793005))+(u64.wrap x3)))+1442695040888963407)))))
def Z1{aO aV bp r}(hr:EX aO aV bp=J r):au Tryz.prog 113 [(.io,vB aO aV bp)] (Eo (.int .i64 r.1) [vB r.2.1 r.2.2.1 r.2.2.2]):=by
 apply pF 62 [0] [] [] [.tmp 2] hr zGy Tryz.func113;intro Φ ai hF g;unfold EX at hF
 iterate 2 refine wW ?_
 refine wZ (kD 0 [0,0,0,0,0,0,0,0,0,0]) follows ?_;try simp[go_sem,g]
 try intros
 refine wK [0,3,13] ?_;refine wJ hF (λx3=>[(0,.v (vB aO aV bp)),(3,.v (.int .i64 x3))]) (λx3 hF=>?_) λ_ ao hF=>?_
 ·refine wW ?_;refine wK [0,3] ?_;refine wZ (kD 0 [0,0,0,0,0,0,0,0,0,0]) follows ?_;try simp[go_sem,g]
  try intros
  refine wK [0,3,53] ?_;refine wI hF (λh6 hF=>?_) λh6 hF=>?_
  ·exact wl ai hF
  have g:=Ls g 40;cases ai _ (aj hF)
  iterate 2 refine wW ?_
  try simp[go_sem,g]
 refine wI hF (λh4 hF=>?_) λh4 hF=>?_
 ·refine wZ (kD 0 [0,0,0,0,0,0,0,0,0,0,0,0]) follows ?_;obtain⟨x5,g,hF⟩:=Rx g hF;exact wT (ao _) (aj hF)
 exact wT (ao _) (aj hF)
def gW(aO:List Int)(aV:Int)(bp:Int)(a1:Int):Option (Int×(List Int×Int×Int)):=
 if decide (a1<=1)=Z then(
 J (0,(aO,aV,bp)))else(
 (EX aO aV bp).bind λz2=>
 ((if decide (200<a1)=Z then(
 (EX z2.2.1 z2.2.2.1 z2.2.2.2).bind λz7=>
 J ((z7.2.1,z7.2.2.1,z7.2.2.2),i64.wrap ((i64.wrap (z2.1*256))+z7.1)))else(
 J ((z2.2.1,z2.2.2.1,z2.2.2.2),z2.1)):Option (((List Int×Int×Int)×Int))).bind λx5=>
 gd (a1≠0)<|
 J (x5.2.tmod a1,(x5.1.1,x5.1.2.1,x5.1.2.2))))
def j7{aO aV bp a1 r}(hr:gW aO aV bp a1=J r):au Tryz.prog 59 [(.io,vB aO aV bp),(.sh,.int .i64 a1)] (Eo (.int .i64 r.1) [vB r.2.1 r.2.2.1 r.2.2.2,.ax]):=by
 apply pF 20 [0] [] [] [.tmp 4] hr zKM Tryz.func59;intro Φ ai hF g;unfold gW at hF
 iterate 2 refine wW ?_
 refine wI hF (λh1 hF=>?_) λh1 hF=>?_
 ·exact wl ai hF
 refine wW ?_;refine wC hF [.io] Z1 λz2 hF=>?_
 iterate 2 refine wW ?_
 refine wJ hF (λx5=>[(0,.v (vB x5.1.1 x5.1.2.1 x5.1.2.2)),(1,.v (.int .i64 a1)),(5,.v (.int .i64 x5.2))]) (λx5 hF=>?_) λ_ iu hF=>?_
 ·obtain⟨g,hF⟩:=Rz g hF;refine wK [0,4] ?_;exact wm ai hF
 refine wI hF (λh6 hF=>?_) λh6 hF=>?_
 ·refine wC hF [.io] Z1 λz7 hF=>?_
  exact wT (iu _) (aj hF)
 exact wT (iu _) (aj hF)
def zig(aO:List Int)(aV:Int)(bp:Int)(a1:List Int):Option (Int×(List Int×Int×Int)):=
 (gW aO aV bp (a1.length:Int)).bind λz1=>
 (ix a1 z1.1).bind λx2=>
 J (x2,(z1.2.1,z1.2.2.1,z1.2.2.2))
def zt8{aO aV bp a1 r}(hr:zig aO aV bp a1=J r):au Tryz.prog 73 [(.io,vB aO aV bp),(.sh,vC a1)] (Eo (.int .i64 r.1) [vB r.2.1 r.2.2.1 r.2.2.2,.ax]):=by
 apply pF 12 [0] [] [] [.tmp 4] hr zCP Tryz.func73;intro Φ ai hF g;unfold zig at hF;try simp[go_sem,g]
 try intros
 refine bh ?_;try simp[go_sem,g]
 try intros
 refine wC hF [.io,.sh] j7 λz1 hF=>?_
 obtain⟨x2,g,hF⟩:=Rx g hF;exact wl ai hF
def pZ(aO:List Int)(aV:Int)(bp:Int)(a1:List Int):Option (Int×(List Int×Int×Int)):=
 (gW aO aV bp (a1.length:Int)).bind λz1=>
 (ix a1 z1.1).bind λx2=>
 J (x2,(z1.2.1,z1.2.2.1,z1.2.2.2))
def wL{aO aV bp a1 r}(hr:pZ aO aV bp a1=J r):au Tryz.prog 73 [(.io,vB aO aV bp),(.mv,vD a1)] (Eo (.int .i64 r.1) [vB r.2.1 r.2.2.1 r.2.2.2,.ax]):=by
 apply pF 12 [0] [] [] [.tmp 4] hr zCP Tryz.func73;intro Φ ai hF g;unfold pZ at hF;try simp[go_sem,g]
 try intros
 refine bh ?_;try simp[go_sem,g]
 try intros
 refine wC hF [.io,.sh] j7 λz1 hF=>?_
 obtain⟨x2,g,hF⟩:=Rx g hF;exact wl ai hF
def o0(a0:Int)(a1:Int)(a2:Int):Option Bool:=
 ((if decide (a1<=a0)=Z then(
 J (decide (a0<=a2)))else(
 J aa):Option Bool).bind λx3=>
 J x3)
def tq{a0 a1 a2 r}(hr:o0 a0 a1 a2=J r):au Tryz.prog 66 [(.sh,.int .i64 a0),(.sh,.int .i64 a1),(.sh,.int .i64 a2)] (Eo (.bool r) gH):=by
 apply pF 15 [] [] [] [.tmp 6] hr zLo Tryz.func66;intro Φ ai hF g;unfold o0 at hF;refine wW ?_;refine wJ hF (λx3=>[(6,.v (.bool x3))]) (λx3 hF=>?_) λ_ ao hF=>?_
 ·exact wm ai hF
 refine wG hF (λh4 hF=>?_) λh4 hF=>?_
 ·exact wV h4 (ao _) (aj hF)
 exact wV h4 (ao _) (aj hF)
def Bd(a0:Int):Option Bool:=
 if decide (a0<2)=Z then(
 J aa)else(
 ((dP (σ:=Int) (λs5=>
 if decide ((i64.wrap (s5*s5))<=a0)=Z then(
 gd (s5≠0)<|
 if((a0.tmod s5)==0)=Z then(
 J (.out (.inr aa)))else(
 J (.go (i64.wrap (s5+1)))))else(
 J (.out (.inl ())))) 2:Option (Unit ⊕ Bool)).bind (Sum.elim (λx4=>
 J Z) J)))
def M0{a0 r}(hr:Bd a0=J r):au Tryz.prog 180 [(.sh,.int .i64 a0)] (Eo (.bool r) [.ax]):=by
 apply pF 17 [] [] [] [.tmp 2] hr zIi Tryz.func180;intro Φ ai hF g;unfold Bd at hF
 iterate 2 refine wW ?_
 refine wI hF (λh1 hF=>?_) λh1 hF=>?_
 ·exact wl ai hF
 iterate 2 refine wW ?_
 refine wS hF (λx4=>[]) (λx4 hF=>?_) λ_ cE yZ hF=>?_
 ·exact wl ai hF
 refine wB ?_;obtain⟨yI,mq,pQ⟩:=hF;refine pL mq (λs5=>[(0,.v (.int .i64 a0)),(3,.v (.int .i64 s5))]) λs5 _ _ uP yg hF=>?_
 refine wW ?_;refine wI hF (λdf hF=>?_) λdf hF=>?_
 ·refine wW ?_;refine wB ?_;obtain⟨g,hF⟩:=Rz g hF;refine wK [0,3,16] ?_;refine wI hF (λeQ hF=>?_) λeQ hF=>?_
  ·cases uP _ (aj hF);cases ai _ (yZ _ pQ);refine wW ?_;try simp[go_sem,g]
  refine wW ?_;exact wT (yg _) (aj hF)
 cases uP _ (aj hF);exact wT (cE _) pQ
def l6(a0:Int)(a1:Int)(a2:Int):Option Int:=
 gd (a2≠0)<|
 ((dP (σ:=Int×Int×Int) (λs4=>
 if decide (0<s4.2.1)=Z then(
 ((if((s4.2.1.tmod 2)==1)=Z then(
 gd (a2≠0)<|
 J ((i64.wrap (s4.2.2*s4.1)).tmod a2))else(
 J s4.2.2):Option Int).bind λcC=>
 gd (a2≠0)<|
 J (.go ((i64.wrap (s4.1*s4.1)).tmod a2,i64.wrap (s4.2.1.tdiv 2),cC))))else(
 J (.out s4.2.2))) (a0,a1,(1:Int).tmod a2):Option Int).bind λx3=>
 J x3)
def yp{a0 a1 a2 r}(hr:l6 a0 a1 a2=J r):au Tryz.prog 179 [(.sh,.int .i64 a0),(.sh,.int .i64 a1),(.sh,.int .i64 a2)] (Eo (.int .i64 r) gH):=by
 apply pF 28 [] [] [] [.tmp 6] hr zEB Tryz.func179;intro Φ ai hF g;unfold l6 at hF;obtain⟨g,hF⟩:=Rz g hF
 iterate 2 refine wW ?_
 refine wJ hF (λx3=>[(7,.v (.int .i64 x3))]) (λx3 hF=>?_) λ_ ao hF=>?_
 ·exact wl ai hF
 refine wB ?_;obtain⟨oq,fT,bo⟩:=hF;refine pL fT (λs4=>[(0,.v (.int .i64 s4.1)),(1,.v (.int .i64 s4.2.1)),(2,.v (.int .i64 a2)),(7,.v (.int .i64 s4.2.2))]) λs4 _ _ b8 bD hF=>?_
 refine wW ?_;refine wI hF (λh9 hF=>?_) λh9 hF=>?_
 ·refine wW ?_;refine wB ?_;have g:=Ld g 2;refine wW ?_;refine bX hF [0,1,2] (λcC=>[(7,.v (.int .i64 cC))]) (λcC hF=>?_) λ_ AS hF=>?_
  ·obtain⟨g,hF⟩:=Rz g hF;refine wK [0,1,2,7] ?_;exact wT (bD _) (aj hF)
  refine wI hF (λcZ hF=>?_) λcZ hF=>?_
  ·obtain⟨g,hF⟩:=Rz g hF;exact wT (AS _) (aj hF)
  exact wT (AS _) (aj hF)
 cases b8 _ (aj hF);exact wT (ao _) bo
def uN(a0:Int):Option (an×Bool):=
 (((o0 a0 2 1000000).bind λz4=>
 if(!z4)=Z then(
 J Z)else(
 (Bd a0).bind λz6=>
 J (!z6)):Option Bool).bind λx3=>
 if x3=Z then(
 J ((an.mk 0 0 0),aa))else(
 ((dP (σ:=Int) (λcL=>
 if decide (cL<=2000000000)=Z then(
 (Bd cL).bind λgK=>
 if(!gK)=Z then(
 J (.go (i64.wrap (cL+a0))))else(
 ((dP (σ:=Int) (λFG=>
 gd (a0≠0)<|
 (l6 FG (i64.wrap ((i64.wrap (cL-1)).tdiv a0)) cL).bind λmB=>
 if(mB==1)=Z then(
 J (.go (i64.wrap (FG+1))))else(
 J (.out FG))) 2:Option Int).bind λtT=>
 gd (a0≠0)<|
 (l6 tT (i64.wrap ((i64.wrap (cL-1)).tdiv a0)) cL).bind λfy=>
 J (.out (.inr ((an.mk cL a0 fy),Z))))))else(
 J (.out (.inl ())))) (i64.wrap (a0+1)):Option (Unit ⊕ (an×Bool))).bind (Sum.elim (λd9=>
 J ((an.mk 0 0 0),aa)) J))))
def Zm{a0 r}(hr:uN a0=J r):au Tryz.prog 169 [(.sh,.int .i64 a0)] (Eo (.bS [vE r.1,.bool r.2]) [.ax]):=by
 apply pF 46 [] [] [] [.cell 2 25,.tmp 3] hr zEH Tryz.func169;intro Φ ai hF g;unfold uN at hF;refine wW ?_;refine bX hF [0,2] (λx3=>[(13,.v (.bool x3))]) (λx3 hF=>?_) λ_ ao hF=>?_
 ·refine wI hF (λh7 hF=>?_) λh7 hF=>?_
  ·exact wl ai hF
  iterate 2 refine wW ?_
  refine wS hF (λd9=>[(2,.bl [.int .i64 0,.int .i64 0,.int .i64 0])]) (λd9 hF=>?_) λ_ DX SD hF=>?_
  ·exact wl ai hF
  refine wB ?_;obtain⟨b32,UH,ym⟩:=hF;refine jW UH [0,2] (λcL=>[(4,.v (.int .i64 cL))]) λcL _ _ BT Dx hF=>?_
  refine wW ?_;refine wI hF (λk7 hF=>?_) λk7 hF=>?_
  ·refine wW ?_;refine wB ?_;refine wE hF M0 λgK hF=>?_
   refine wK [0,2,4,24] ?_;refine wI hF (λrI hF=>?_) λrI hF=>?_
   ·refine wW ?_;exact wT (Dx _) (aj hF)
   iterate 2 refine wW ?_
   refine bX hF [0,2,4] (λtT=>[(5,.v (.int .i64 tT))]) (λtT hF=>?_) λ_ a4X hF=>?_
   ·obtain⟨g,hF⟩:=Rz g hF;refine wE hF yp λfy hF=>?_
    refine wK [2,3] ?_;cases BT _ (aj hF);cases ai _ (SD _ ym);try simp[go_sem,g]
   refine wB ?_;obtain⟨M8,yq,a1Z⟩:=hF;refine jW yq [0,2,4] (λFG=>[(5,.v (.int .i64 FG))]) λFG _ _ a1N a2m hF=>?_
   obtain⟨g,hF⟩:=Rz g hF;refine wE hF yp λmB hF=>?_
   refine wW ?_;refine wI hF (λrm hF=>?_) λrm hF=>?_
   ·refine wW ?_;refine wB ?_;exact wT (a2m _) (aj hF)
   cases a1N _ (aj hF);exact wT (a4X _) a1Z
  cases BT _ (aj hF);exact wT (DX _) ym
 refine wE hF tq λz4 hF=>?_
 refine wG hF (λh5 hF=>?_) λh5 hF=>?_
 ·exact wV h5 (ao _) (aj hF)
 try simp[go_sem,g,h5]
 refine wE hF M0 λz6 hF=>?_
 exact wV h5 (ao _) (aj hF)
def EV(aO:List Int)(aV:Int)(bp:Int):Option (an×(List Int×Int×Int)):=
 (pZ aO aV bp [3,5,5,7,11,11,13,23]).bind λz1=>
 (uN z1.1).bind λz2=>
 J (z2.1,(z1.2.1,z1.2.2.1,z1.2.2.2))
def zlA{aO aV bp r}(hr:EV aO aV bp=J r):au Tryz.prog 170 [(.io,vB aO aV bp)] (Eo (vE r.1) [vB r.2.1 r.2.2.1 r.2.2.2]):=by
 apply pF 13 [0] [] [] [.cell 2 25] hr zHi Tryz.func170;intro Φ ai hF g;unfold EV at hF;refine wW ?_;refine wC hF [.io,.mv] wL λz1 hF=>?_
 refine wE hF Zm λz2 hF=>?_
 refine wK [0,2,3] ?_;exact wl ai hF
def rO(a0:Int)(a1:Int):Option Int:=
 gd (a1≠0)<|
 gd (a1≠0)<|
 J ((i64.wrap ((a0.tmod a1)+a1)).tmod a1)
def ID{a0 a1 r}(hr:rO a0 a1=J r):au Tryz.prog 173 [(.sh,.int .i64 a0),(.sh,.int .i64 a1)] (Eo (.int .i64 r) cO):=by
 apply pF 12 [] [] [] [.tmp 4] hr zF3 Tryz.func173;intro Φ ai hF g;unfold rO at hF
 iterate 2 obtain⟨g,hF⟩:=Rz g hF
 cases ai _ (aj hF)
 iterate 2 refine wW ?_
 try simp[go_sem,g]
def cH(a0:an)(a1:Int)(a2:Int):Option Int:=
 (rO a2 a0.Q).bind λz1=>
 (l6 a1 z1 a0.P).bind λz2=>
 J z2
def eK{a0 a1 a2 r}(hr:cH a0 a1 a2=J r):au Tryz.prog 171 [(.sh,vE a0),(.sh,.int .i64 a1),(.sh,.int .i64 a2)] (Eo (.int .i64 r) gH):=by
 apply pF 15 [] [] [] [.tmp 6] hr zH8 Tryz.func171;intro Φ ai hF g;unfold cH at hF;refine wW ?_;refine wZ (kE [0,1,2,3,5,6,4,7,8] [0,0,25,26,25,26,3,3,0]) follows ?_;refine wE hF ID λz1 hF=>?_
 refine wE hF yp λz2 hF=>?_
 refine wK [6] ?_;exact wm ai hF
def AC(aO:List Int)(aV:Int)(bp:Int):Option (an×(List Int×Int×Int)):=
 (gW aO aV bp 6).bind λz1=>
 if(z1.1==0)=Z then(
 J ((an.mk 1000000007 500000003 4),(z1.2.1,z1.2.2.1,z1.2.2.2)))else(
 if(z1.1==1)=Z then(
 (pZ z1.2.1 z1.2.2.1 z1.2.2.2 [101,1009,1019,65537,999983]).bind λz4=>
 (uN z4.1).bind λz5=>
 J (z5.1,(z4.2.1,z4.2.2.1,z4.2.2.2)))else(
 (EV z1.2.1 z1.2.2.1 z1.2.2.2).bind λz6=>
 (gW z6.2.1 z6.2.2.1 z6.2.2.2 (i64.wrap (z6.1.Q-1))).bind λz7=>
 (cH z6.1 z6.1.G (i64.wrap (1+z7.1))).bind λz8=>
 J ((an.mk z6.1.P z6.1.Q z8),(z7.2.1,z7.2.2.1,z7.2.2.2))))
def zif{aO aV bp r}(hr:AC aO aV bp=J r):au Tryz.prog 108 [(.io,vB aO aV bp)] (Eo (vE r.1) [vB r.2.1 r.2.2.1 r.2.2.2]):=by
 apply pF 35 [0] [] [] [.cell 2 25] hr zIe Tryz.func108;intro Φ ai hF g;unfold AC at hF;refine wW ?_;refine wC hF [.io,.sh] j7 λz1 hF=>?_
 refine wW ?_;refine wB ?_;refine wW ?_;refine wI hF (λh2 hF=>?_) λh2 hF=>?_
 ·exact wl ai hF
 refine wW ?_;refine wI hF (λh3 hF=>?_) λh3 hF=>?_
 ·refine wC hF [.io,.mv] wL λz4 hF=>?_
  refine wE hF Zm λz5 hF=>?_
  refine wK [0,2,3] ?_;exact wl ai hF
 refine wW ?_;refine wC hF [.io] zlA λz6 hF=>?_
 refine wK [0,2,5] ?_;refine wZ (kD 0 [42,41,42,0,41,42,0,3,0,3,41,42]) follows ?_;refine wC hF [.io,.sh] j7 λz7 hF=>?_
 refine wE hF eK λz8 hF=>?_
 refine wK [0,2,5] ?_;exact wl ai hF
def zQ(aO:List Int)(aV:Int)(bp:Int)(a1:Int):Option (Bool×(List Int×Int×Int)):=
 (gW aO aV bp a1).bind λz1=>
 J ((z1.1==0),(z1.2.1,z1.2.2.1,z1.2.2.2))
def NP{aO aV bp a1 r}(hr:zQ aO aV bp a1=J r):au Tryz.prog 61 [(.io,vB aO aV bp),(.sh,.int .i64 a1)] (Eo (.bool r.1) [vB r.2.1 r.2.2.1 r.2.2.2,.ax]):=by
 apply pF 9 [0] [] [] [.tmp 4] hr zLa Tryz.func61;intro Φ ai hF g;unfold zQ at hF;refine wW ?_;refine wC hF [.io,.sh] j7 λz1 hF=>?_
 exact wl ai hF
def Ej(aO:List Int)(aV:Int)(bp:Int):Option (an×(List Int×Int×Int)):=
 (AC aO aV bp).bind λz1=>
 (gW z1.2.1 z1.2.2.1 z1.2.2.2 24).bind λz2=>
 ((if(z2.1==0)=Z then(
 (pZ z2.2.1 z2.2.2.1 z2.2.2.2 [0,i64.wrap (z1.1.P+2),4,(-7)]).bind λz7=>
 J ((z7.2.1,z7.2.2.1,z7.2.2.2),z7.1,z1.1.Q,z1.1.G))else(
 if(z2.1==1)=Z then(
 (pZ z2.2.1 z2.2.2.1 z2.2.2.2 [0,1,i64.wrap (z1.1.Q+1),i64.wrap (z1.1.P-1)]).bind λz9=>
 J ((z9.2.1,z9.2.2.1,z9.2.2.2),z1.1.P,z9.1,z1.1.G))else(
 if(z2.1==2)=Z then(
 (pZ z2.2.1 z2.2.2.1 z2.2.2.2 [0,1,i64.wrap (z1.1.P-1),z1.1.P,i64.wrap (z1.1.G+1)]).bind λbQ=>
 J ((bQ.2.1,bQ.2.2.1,bQ.2.2.2),z1.1.P,z1.1.Q,bQ.1))else(
 J ((z2.2.1,z2.2.2.1,z2.2.2.2),z1.1.P,z1.1.Q,z1.1.G)))):Option (((List Int×Int×Int)×Int×Int×Int))).bind λx5=>
 J ((an.mk x5.2.1 x5.2.2.1 x5.2.2.2),(x5.1.1,x5.1.2.1,x5.1.2.2)))
def zj9{aO aV bp r}(hr:Ej aO aV bp=J r):au Tryz.prog 109 [(.io,vB aO aV bp)] (Eo (vE r.1) [vB r.2.1 r.2.2.1 r.2.2.2]):=by
 apply pF 44 [0] [] [] [.cell 2 25] hr zEt Tryz.func109;intro Φ ai hF g;unfold Ej at hF;refine wW ?_;refine wC hF [.io] zif λz1 hF=>?_
 refine wW ?_;refine wC hF [.io,.sh] j7 λz2 hF=>?_
 refine wW ?_;refine wJ hF (λx5=>[(0,.v (vB x5.1.1 x5.1.2.1 x5.1.2.2)),(2,.bl [.int .i64 0,.int .i64 0,.int .i64 0]),(3,.bl [.int .i64 x5.2.1,.int .i64 x5.2.2.1,.int .i64 x5.2.2.2])]) (λx5 hF=>?_) λ_ iu hF=>?_
 ·exact wl ai hF
 refine wB ?_;refine wW ?_;refine wI hF (λh6 hF=>?_) λh6 hF=>?_
 ·refine wC hF [.io,.mv] wL λz7 hF=>?_
  exact wT (iu _) (aj hF)
 refine wK [0,2,3,7,17] ?_;refine wI hF (λh8 hF=>?_) λh8 hF=>?_
 ·refine wC hF [.io,.mv] wL λz9 hF=>?_
  exact wT (iu _) (aj hF)
 refine wW ?_;refine wI hF (λdf hF=>?_) λdf hF=>?_
 ·refine wC hF [.io,.mv] wL λbQ hF=>?_
  exact wT (iu _) (aj hF)
 exact wT (iu _) (aj hF)
def D2(aO:List Int)(aV:Int)(bp:Int)(a1:an):Option (Int×(List Int×Int×Int)):=
 if decide (a1.Q<2)=Z then(
 J (0,(aO,aV,bp)))else(
 (gW aO aV bp 60000).bind λz2=>
 (gW z2.2.1 z2.2.2.1 z2.2.2.2 60000).bind λz3=>
 gd (a1.Q≠0)<|
 J ((i64.wrap ((i64.wrap (z2.1*60000))+z3.1)).tmod a1.Q,(z3.2.1,z3.2.2.1,z3.2.2.2)))
def Sq{aO aV bp a1 r}(hr:D2 aO aV bp a1=J r):au Tryz.prog 172 [(.io,vB aO aV bp),(.sh,vE a1)] (Eo (.int .i64 r.1) [vB r.2.1 r.2.2.1 r.2.2.2,.ax]):=by
 apply pF 17 [0] [] [] [.tmp 4] hr zFU Tryz.func172;intro Φ ai hF g;unfold D2 at hF
 iterate 2 refine wW ?_
 refine wI hF (λh1 hF=>?_) λh1 hF=>?_
 ·exact wl ai hF
 refine wW ?_;refine wZ (kE [0,3,6,7,1,2,4,5,8,9] [0,0,25,26,3,0,3,0,0,0]) follows ?_;refine wC hF [.io,.sh] j7 λz2 hF=>?_
 refine wC hF [.io,.sh] j7 λz3 hF=>?_
 obtain⟨g,hF⟩:=Rz g hF;refine wK [0,4] ?_;exact wm ai hF
def Dl(aO:List Int)(aV:Int)(bp:Int)(a1:an):Option (Int×(List Int×Int×Int)):=
 ((if decide (a1.P<3)=Z then(
 J Z)else(
 J (decide (a1.Q<1))):Option Bool).bind λx3=>
 if x3=Z then(
 J (1,(aO,aV,bp)))else(
 (rO a1.G a1.P).bind λz6=>
 (D2 aO aV bp a1).bind λz7=>
 (cH a1 z6 z7.1).bind λz8=>
 J (z8,(z7.2.1,z7.2.2.1,z7.2.2.2))))
def Sz{aO aV bp a1 r}(hr:Dl aO aV bp a1=J r):au Tryz.prog 112 [(.io,vB aO aV bp),(.sh,vE a1)] (Eo (.int .i64 r.1) [vB r.2.1 r.2.2.1 r.2.2.2,.ax]):=by
 apply pF 23 [0] [] [] [.tmp 4] hr zGq Tryz.func112;intro Φ ai hF g;unfold Dl at hF;refine wW ?_;refine bX hF [0,3] (λx3=>[(12,.v (.bool x3))]) (λx3 hF=>?_) λ_ ao hF=>?_
 ·refine wI hF (λh5 hF=>?_) λh5 hF=>?_
  ·exact wl ai hF
  refine wW ?_;refine wZ (kE [0,1,2,3,4,6,7,5,8,9,10] [26,25,26,25,26,0,26,3,3,3,0]) follows ?_;refine wE hF ID λz6 hF=>?_
  refine wC hF [.io,.sh] Sq λz7 hF=>?_
  refine wE hF eK λz8 hF=>?_
  refine wK [0,4] ?_;exact wm ai hF
 refine wG hF (λh4 hF=>?_) λh4 hF=>?_
 ·exact wV h4 (ao _) (aj hF)
 exact wV h4 (ao _) (aj hF)
def Kx(aO:List Int)(aV:Int)(bp:Int)(a1:an):Option (aq×(List Int×Int×Int)):=
 (Dl aO aV bp a1).bind λz1=>
 (Dl z1.2.1 z1.2.2.1 z1.2.2.2 a1).bind λz2=>
 J ((aq.mk z1.1 z2.1),(z2.2.1,z2.2.2.1,z2.2.2.2))
def zkP{aO aV bp a1 r}(hr:Kx aO aV bp a1=J r):au Tryz.prog 110 [(.io,vB aO aV bp),(.sh,vE a1)] (Eo (vF r.1) [vB r.2.1 r.2.2.1 r.2.2.2,.ax]):=by
 apply pF 12 [0] [] [] [.cell 4 86] hr zG0 Tryz.func110;intro Φ ai hF g;unfold Kx at hF;refine wW ?_;refine wZ (kE [0,1,3,4,2,5,6,7] [0,26,0,26,3,3,0,34]) follows ?_;refine wC hF [.io,.sh] Sz λz1 hF=>?_
 refine wC hF [.io,.sh] Sz λz2 hF=>?_
 refine wK [0,4] ?_;exact wm ai hF
def Jx(aO:List Int)(aV:Int)(bp:Int)(a1:Int):Option (List Int×(List Int×Int×Int)):=
 ((dP (σ:=(List Int)×Int) (λs4=>
 if decide (s4.2<a1)=Z then(
 gd ((s4.1.length+1)*8<=140737488355328/\s4.1.length+1<=4611686018427387904)<|
 J (.go (s4.1++[s4.2],i64.wrap (s4.2+1))))else(
 J (.out s4.1))) ([],0):Option ((List Int))).bind λx3=>
 ((dP (σ:=(List Int×Int×Int)×List Int×Int) (λjj=>
 if decide (0<jj.2.2)=Z then(
 (gW jj.1.1 jj.1.2.1 jj.1.2.2 (i64.wrap (jj.2.2+1))).bind λfy=>
 (ix jj.2.1 jj.2.2).bind λnk=>
 (ix jj.2.1 fy.1).bind λjl=>
 (ix (jj.2.1.set jj.2.2.toNat jl) fy.1).bind λx34=>
 J (.go ((fy.2.1,fy.2.2.1,fy.2.2.2),(jj.2.1.set jj.2.2.toNat jl).set fy.1.toNat nk,i64.wrap (jj.2.2-1))))else(
 J (.out ((jj.1.1,jj.1.2.1,jj.1.2.2),jj.2.1)))) ((aO,aV,bp),x3,i64.wrap (a1-1)):Option (((List Int×Int×Int)×List Int))).bind λfb=>
 J (fb.2,(fb.1.1,fb.1.2.1,fb.1.2.2))))
def zlN{aO aV bp a1 r}(hr:Jx aO aV bp a1=J r):au Tryz.prog 118 [(.io,vB aO aV bp),(.sh,.int .i64 a1)] (Eo (vD r.1) [vB r.2.1 r.2.2.1 r.2.2.2,.ax]):=by
 apply pF 45 [0] [] [] [.tmp 4] hr zGP Tryz.func118;intro Φ ai hF g;unfold Jx at hF
 iterate 3 refine wW ?_
 refine bX hF [0,1] (λx3=>[(5,.v (vD x3))]) (λx3 hF=>?_) λ_ ao hF=>?_
 ·refine wW ?_;refine wJ hF (λfb=>[(0,.v (vB fb.1.1 fb.1.2.1 fb.1.2.2)),(5,.v (vD fb.2))]) (λfb hF=>?_) λ_ zh hF=>?_
  ·exact wl ai hF
  refine wB ?_;obtain⟨b35,a1H,a2O⟩:=hF;refine pL a1H (λjj=>[(0,.v (vB jj.1.1 jj.1.2.1 jj.1.2.2)),(5,.v (vD jj.2.1)),(7,.v (.int .i64 jj.2.2))]) λjj _ _ a2y a4D hF=>?_
  refine wW ?_;refine wI hF (λtX hF=>?_) λtX hF=>?_
  ·refine wW ?_;refine wB ?_;refine wC hF [.io,.sh] j7 λfy hF=>?_
   refine wK [0,5,7,8] ?_;obtain⟨nk,g,hF⟩:=Rx g hF;obtain⟨jl,g,hF⟩:=Rx g hF;refine wW ?_;refine wK [0,5,7,8,9] ?_;obtain⟨x34,g,hF⟩:=Rx g hF;try simp only[L7]at g
   refine wW ?_;exact wT (a4D _) (aj hF)
  cases a2y _ (aj hF);exact wT (zh _) a2O
 refine wB ?_;obtain⟨b10,a5n,bo⟩:=hF;refine jW a5n [0,1] (λs4=>[(5,.v (vD s4.1)),(6,.v (.int .i64 s4.2))]) λs4 _ _ b8 bD hF=>?_
 refine wW ?_;refine wI hF (λh9 hF=>?_) λh9 hF=>?_
 ·refine wW ?_;refine wB ?_;obtain⟨g,hF⟩:=Rg g hF;refine wK [0,1,5,6] ?_;exact wT (bD _) (aj hF)
 cases b8 _ (aj hF);exact wT (ao _) bo
def JB(aO:List Int)(aV:Int)(bp:Int)(a1:an)(a2:Int):Option (List Int×(List Int×Int×Int)):=
 ((dP (σ:=(List Int×Int×Int)×Int×List Int) (λcL=>
 if decide (0<cL.2.1)=Z then(
 (D2 cL.1.1 cL.1.2.1 cL.1.2.2 a1).bind λgK=>
 gd ((cL.2.2.length+1)*8<=140737488355328/\cL.2.2.length+1<=4611686018427387904)<|
 J (.go ((gK.2.1,gK.2.2.1,gK.2.2.2),i64.wrap (cL.2.1-1),cL.2.2++[gK.1])))else(
 J (.out ((cL.1.1,cL.1.2.1,cL.1.2.2),cL.2.2)))) ((aO,aV,bp),a2,[]):Option (((List Int×Int×Int)×List Int))).bind λx3=>
 J (x3.2,(x3.1.1,x3.1.2.1,x3.1.2.2)))
def zlf{aO aV bp a1 a2 r}(hr:JB aO aV bp a1 a2=J r):au Tryz.prog 111 [(.io,vB aO aV bp),(.sh,vE a1),(.sh,.int .i64 a2)] (Eo (vD r.1) [vB r.2.1 r.2.2.1 r.2.2.2,.ax,.ax]):=by
 apply pF 19 [0] [] [] [.tmp 6] hr zE5 Tryz.func111;intro Φ ai hF g;unfold JB at hF
 iterate 2 refine wW ?_
 refine wJ hF (λx3=>[(0,.v (vB x3.1.1 x3.1.2.1 x3.1.2.2)),(7,.v (vD x3.2))]) (λx3 hF=>?_) λ_ ao hF=>?_
 ·exact wl ai hF
 refine wB ?_;obtain⟨b18,QW,ym⟩:=hF;refine pL QW (λcL=>[(0,.v (vB cL.1.1 cL.1.2.1 cL.1.2.2)),(2,.v (.int .i64 cL.2.1)),(4,.bl [.int .i64 a1.P,.int .i64 a1.Q,.int .i64 a1.G]),(7,.v (vD cL.2.2))]) λcL _ _ BT Dx hF=>?_
 refine wW ?_;refine wI hF (λk7 hF=>?_) λk7 hF=>?_
 ·refine wW ?_;refine wB ?_;refine wC hF [.io,.sh] Sq λgK hF=>?_
  obtain⟨g,hF⟩:=Rg g hF;refine wK [0,2,4,7] ?_;exact wT (Dx _) (aj hF)
 cases BT _ (aj hF);exact wT (ao _) ym
def F0(aO:List Int)(aV:Int)(bp:Int)(a1:an)(a2:Int):Option (List Int×(List Int×Int×Int)):=
 (JB aO aV bp a1 a2).bind λz1=>
 (gW z1.2.1 z1.2.2.1 z1.2.2.2 30).bind λz2=>
 ((if(z2.1==0)=Z then(
 gd ((z1.1.length+1)*8<=140737488355328/\z1.1.length+1<=4611686018427387904)<|
 J (.inr (z1.1++[0],(z2.2.1,z2.2.2.1,z2.2.2.2))))else(
 if(z2.1==1)=Z then(
 if decide (0<a2)=Z then(
 gd (1<=z1.1.length/\z1.1.length<=z1.1.length)<|
 J (.inr ((z1.1.take z1.1.length).drop 1,(z2.2.1,z2.2.2.1,z2.2.2.2))))else(
 J (.inl ((z2.2.1,z2.2.2.1,z2.2.2.2),z1.1))))else(
 if(z2.1==2)=Z then(
 if decide (0<a2)=Z then(
 (gW z2.2.1 z2.2.2.1 z2.2.2.2 a2).bind λbQ=>
 (pZ bQ.2.1 bQ.2.2.1 bQ.2.2.2 [(-1),a1.Q]).bind λbr=>
 (ix z1.1 bQ.1).bind λfQ=>
 J (.inl ((br.2.1,br.2.2.1,br.2.2.2),z1.1.set bQ.1.toNat br.1)))else(
 J (.inl ((z2.2.1,z2.2.2.1,z2.2.2.2),z1.1))))else(
 J (.inl ((z2.2.1,z2.2.2.1,z2.2.2.2),z1.1))))):Option (((List Int×Int×Int)×List Int) ⊕ (List Int×(List Int×Int×Int)))).bind (Sum.elim (λx5=>
 J (x5.2,(x5.1.1,x5.1.2.1,x5.1.2.2))) J))
def Y6{aO aV bp a1 a2 r}(hr:F0 aO aV bp a1 a2=J r):au Tryz.prog 74 [(.io,vB aO aV bp),(.sh,vE a1),(.sh,.int .i64 a2)] (Eo (vC r.1) [vB r.2.1 r.2.2.1 r.2.2.2,.ax,.ax]):=by
 apply pF 40 [0] [6] [] [.tmp 6] hr zMf Tryz.func74;intro Φ ai hF g;unfold F0 at hF;refine wW ?_;refine wC hF [.io,.sh,.sh] zlf λz1 hF=>?_
 refine wW ?_;refine wC hF [.io,.sh] j7 λz2 hF=>?_
 refine wW ?_;refine wS hF (λx5=>[(0,.v (vB x5.1.1 x5.1.2.1 x5.1.2.2)),(7,.v (vD x5.2))]) (λx5 hF=>?_) λ_ iu Wy hF=>?_
 ·refine wK [0,6] ?_;exact wm ai hF
 refine wB ?_;refine wK [0,2,4,7,13,14] ?_;refine wI hF (λh6 hF=>?_) λh6 hF=>?_
 ·obtain⟨g,hF⟩:=Rg g hF;cases ai _ (Wy _ (aj hF));refine wW ?_;try simp[go_sem,g]
 refine wW ?_;refine wI hF (λh7 hF=>?_) λh7 hF=>?_
 ·refine wW ?_;refine wI hF (λh8 hF=>?_) λh8 hF=>?_
  ·obtain⟨g,hF⟩:=Rg g hF;cases ai _ (Wy _ (aj hF));refine wW ?_;try simp[go_sem,g]
  exact wT (iu _) (aj hF)
 refine wW ?_;refine wI hF (λh9 hF=>?_) λh9 hF=>?_
 ·refine wW ?_;refine wI hF (λdf hF=>?_) λdf hF=>?_
  ·refine wZ (kE [0,1,2,4,5,6,7,3,8,9,10] [0,0,0,0,33,34,0,3,6,0,0]) follows ?_;refine wC hF [.io,.sh] j7 λbQ hF=>?_
   refine wC hF [.io,.mv] wL λbr hF=>?_
   obtain⟨fQ,g,hF⟩:=Rx g hF;exact wT (iu _) (aj hF)
  exact wT (iu _) (aj hF)
 exact wT (iu _) (aj hF)
def y6(aO:List Int)(aV:Int)(bp:Int)(a1:an):Option (Int×(List Int×Int×Int)):=
 (zQ aO aV bp 20).bind λz1=>
 if z1.1=Z then(
 (pZ z1.2.1 z1.2.2.1 z1.2.2.2 [0,1,i64.wrap (a1.P-1),a1.P,(-1),5]).bind λz3=>
 J (z3.1,(z3.2.1,z3.2.2.1,z3.2.2.2)))else(
 (Dl z1.2.1 z1.2.2.1 z1.2.2.2 a1).bind λz4=>
 J (z4.1,(z4.2.1,z4.2.2.1,z4.2.2.2)))
def LC{aO aV bp a1 r}(hr:y6 aO aV bp a1=J r):au Tryz.prog 101 [(.io,vB aO aV bp),(.sh,vE a1)] (Eo (.int .i64 r.1) [vB r.2.1 r.2.2.1 r.2.2.2,.ax]):=by
 apply pF 18 [0] [] [] [.tmp 4] hr zH5 Tryz.func101;intro Φ ai hF g;unfold y6 at hF;refine wW ?_;refine wC hF [.io,.sh] NP λz1 hF=>?_
 refine wW ?_;refine wI hF (λh2 hF=>?_) λh2 hF=>?_
 ·refine wC hF [.io,.mv] wL λz3 hF=>?_
  refine wK [0,4] ?_;exact wm ai hF
 refine wW ?_;refine wC hF [.io,.sh] Sz λz4 hF=>?_
 exact wl ai hF
def J6(aO:List Int)(aV:Int)(bp:Int)(a1:an):Option (aq×(List Int×Int×Int)):=
 (y6 aO aV bp a1).bind λz1=>
 (y6 z1.2.1 z1.2.2.1 z1.2.2.2 a1).bind λz2=>
 J ((aq.mk z1.1 z2.1),(z2.2.1,z2.2.2.1,z2.2.2.2))
def zj8{aO aV bp a1 r}(hr:J6 aO aV bp a1=J r):au Tryz.prog 119 [(.io,vB aO aV bp),(.sh,vE a1)] (Eo (vF r.1) [vB r.2.1 r.2.2.1 r.2.2.2,.ax]):=by
 apply pF 12 [0] [] [] [.cell 4 86] hr zHB Tryz.func119;intro Φ ai hF g;unfold J6 at hF;refine wW ?_;refine wZ (kE [0,1,3,4,2,5,6,7] [0,26,0,26,3,3,0,34]) follows ?_;refine wC hF [.io,.sh] LC λz1 hF=>?_
 refine wC hF [.io,.sh] LC λz2 hF=>?_
 refine wK [0,4] ?_;exact wm ai hF
def Kq(aO:List Int)(aV:Int)(bp:Int):Option (an×Int×List aq×List Int×List Int×(List Int×Int×Int)):=
 (AC aO aV bp).bind λz1=>
 (zQ z1.2.1 z1.2.2.1 z1.2.2.2 20).bind λz2=>
 ((if z2.1=Z then(
 (Ej z2.2.1 z2.2.2.1 z2.2.2.2).bind λz7=>
 J ((z7.2.1,z7.2.2.1,z7.2.2.2),z7.1.P,z7.1.Q,z7.1.G))else(
 J ((z2.2.1,z2.2.2.1,z2.2.2.2),z1.1.P,z1.1.Q,z1.1.G)):Option (((List Int×Int×Int)×Int×Int×Int))).bind λx5=>
 (gW x5.1.1 x5.1.2.1 x5.1.2.2 4).bind λz8=>
 ((dP (σ:=(List Int×Int×Int)×List aq×Int) (λeE=>
 if decide (0<eE.2.2)=Z then(
 (Kx eE.1.1 eE.1.2.1 eE.1.2.2 (an.mk x5.2.1 x5.2.2.1 x5.2.2.2)).bind λsV=>
 gd ((eE.2.1.length+1)*16<=140737488355328/\eE.2.1.length+1<=4611686018427387904)<|
 J (.go ((sV.2.1,sV.2.2.1,sV.2.2.2),eE.2.1++[sV.1],i64.wrap (eE.2.2-1))))else(
 J (.out ((eE.1.1,eE.1.2.1,eE.1.2.2),eE.2.1)))) ((z8.2.1,z8.2.2.1,z8.2.2.2),[],i64.wrap (1+z8.1)):Option (((List Int×Int×Int)×List aq))).bind λaN=>
 (Jx aN.1.1 aN.1.2.1 aN.1.2.2 (aN.2.length:Int)).bind λfL=>
 (F0 fL.2.1 fL.2.2.1 fL.2.2.2 (an.mk x5.2.1 x5.2.2.1 x5.2.2.2) (aN.2.length:Int)).bind λnB=>
 (gW nB.2.1 nB.2.2.1 nB.2.2.2 24).bind λeX=>
 ((if(eX.1==0)=Z then(
 (J6 eX.2.1 eX.2.2.1 eX.2.2.2 (an.mk x5.2.1 x5.2.2.1 x5.2.2.2)).bind λib=>
 (ix aN.2 0).bind λni=>
 J ((ib.2.1,ib.2.2.1,ib.2.2.2),aN.2.set 0 ib.1,fL.1))else(
 if(eX.1==1)=Z then(
 (pZ eX.2.1 eX.2.2.1 eX.2.2.2 [(-1),(aN.2.length:Int),0]).bind λt9=>
 (ix fL.1 0).bind λrY=>
 J ((t9.2.1,t9.2.2.1,t9.2.2.2),aN.2,fL.1.set 0 t9.1))else(
 if(eX.1==2)=Z then(
 J ((eX.2.1,eX.2.2.1,eX.2.2.2),[],fL.1))else(
 if(eX.1==3)=Z then(
 dP (σ:=(List Int×Int×Int)×List aq) (λoQ=>
 (gW oQ.1.1 oQ.1.2.1 oQ.1.2.2 2).bind λBu=>
 if decide ((oQ.2.length:Int)<(i64.wrap (12+Bu.1)))=Z then(
 (ix oQ.2 0).bind λHS=>
 gd ((oQ.2.length+1)*16<=140737488355328/\oQ.2.length+1<=4611686018427387904)<|
 J (.go ((Bu.2.1,Bu.2.2.1,Bu.2.2.2),oQ.2++[HS])))else(
 J (.out ((Bu.2.1,Bu.2.2.1,Bu.2.2.2),oQ.2,fL.1)))) ((eX.2.1,eX.2.2.1,eX.2.2.2),aN.2))else(
 J ((eX.2.1,eX.2.2.1,eX.2.2.2),aN.2,fL.1))))):Option (((List Int×Int×Int)×List aq×List Int))).bind λjl=>
 (y6 jl.1.1 jl.1.2.1 jl.1.2.2 (an.mk x5.2.1 x5.2.2.1 x5.2.2.2)).bind λzO=>
 J ((an.mk x5.2.1 x5.2.2.1 x5.2.2.2),zO.1,jl.2.1,jl.2.2,nB.1,(zO.2.1,zO.2.2.1,zO.2.2.2)))))
def zla{aO aV bp r}(hr:Kq aO aV bp=J r):au Tryz.prog 72 [(.io,vB aO aV bp)] (Eo (.bS [vE r.1,.int .i64 r.2.1,vG r.2.2.1,vD r.2.2.2.1,vC r.2.2.2.2.1]) [vB r.2.2.2.2.2.1 r.2.2.2.2.2.2.1 r.2.2.2.2.2.2.2]):=by
 apply pF 81 [0] [] [] [.cell 2 25,.tmp 3,.tmp 4,.tmp 5,.tmp 6] hr zNv Tryz.func72;intro Φ ai hF g;unfold Kq at hF;refine wW ?_;refine wC hF [.io] zif λz1 hF=>?_
 refine wW ?_;refine wC hF [.io,.sh] NP λz2 hF=>?_
 refine wK [0,2,7,15] ?_;refine wJ hF (λx5=>[(0,.v (vB x5.1.1 x5.1.2.1 x5.1.2.2)),(2,.bl [.int .i64 0,.int .i64 0,.int .i64 0]),(7,.bl [.int .i64 x5.2.1,.int .i64 x5.2.2.1,.int .i64 x5.2.2.2])]) (λx5 hF=>?_) λ_ iu hF=>?_
 ·refine wW ?_;refine wC hF [.io,.sh] j7 λz8 hF=>?_
  refine wW ?_;refine bX hF [2,7] (λaN=>[(0,.v (vB aN.1.1 aN.1.2.1 aN.1.2.2)),(8,.v (vG aN.2))]) (λaN hF=>?_) λ_ A2 hF=>?_
  ·try simp[go_sem,g]
   try intros
   refine wC hF [.io,.sh] zlN λfL hF=>?_
   refine wK [0,2,7,8,10] ?_;try simp[go_sem,g]
   try intros
   refine wC hF [.io,.sh,.sh] Y6 λnB hF=>?_
   refine wW ?_;refine wC hF [.io,.sh] j7 λeX hF=>?_
   refine wW ?_;refine bX hF [2,7,11] (λjl=>[(0,.v (vB jl.1.1 jl.1.2.1 jl.1.2.2)),(8,.v (vG jl.2.1)),(10,.v (vD jl.2.2))]) (λjl hF=>?_) λ_ Dv hF=>?_
   ·refine wZ (kE [0,1,2,4,5,6,3,7,8,9,10,11] [58,0,58,0,0,0,3,18,0,0,0,0]) follows ?_;refine wC hF [.io,.sh] LC λzO hF=>?_
    refine wK [0,2,3,4,5,6] ?_;exact wm ai hF
   refine wB ?_;refine wK [0,2,7,8,10,11,41,42] ?_;refine wI hF (λDZ hF=>?_) λDZ hF=>?_
   ·refine wC hF [.io,.sh] zj8 λib hF=>?_
    obtain⟨ni,g,hF⟩:=fj g 0 hF;exact wT (Dv _) (aj hF)
   refine wW ?_;refine wI hF (λCi hF=>?_) λCi hF=>?_
   ·try simp[go_sem,g]
    try intros
    refine wC hF [.io,.mv] wL λt9 hF=>?_
    obtain⟨rY,g,hF⟩:=fj g 0 hF;exact wT (Dv _) (aj hF)
   refine wW ?_;refine wI hF (λh40 hF=>?_) λh40 hF=>?_
   ·exact wT (Dv _) (aj hF)
   refine wW ?_;refine wI hF (λQ0 hF=>?_) λQ0 hF=>?_
   ·refine wB ?_;obtain⟨b58,a5d,a3w⟩:=hF;refine jW a5d [2,7,10,11] (λoQ=>[(0,.v (vB oQ.1.1 oQ.1.2.1 oQ.1.2.2)),(8,.v (vG oQ.2))]) λoQ _ _ a2c a5l hF=>?_
    try simp[go_sem,g]
    try intros
    refine wC hF [.io,.sh] j7 λBu hF=>?_
    refine wK [0,2,7,8,10,11,67] ?_;refine wI hF (λh56 hF=>?_) λh56 hF=>?_
    ·refine wW ?_;refine wB ?_;obtain⟨HS,g,hF⟩:=fj g 0 hF;obtain⟨g,hF⟩:=Rg g hF;exact wT (a5l _) (aj hF)
    cases a2c _ (aj hF);exact wT (Dv _) a3w
   exact wT (Dv _) (aj hF)
  refine wB ?_;obtain⟨b26,a1W,JZ⟩:=hF;refine jW a1W [2,7] (λeE=>[(0,.v (vB eE.1.1 eE.1.2.1 eE.1.2.2)),(8,.v (vG eE.2.1)),(9,.v (.int .i64 eE.2.2))]) λeE _ _ U3 Lc hF=>?_
  refine wW ?_;refine wI hF (λCb hF=>?_) λCb hF=>?_
  ·refine wW ?_;refine wB ?_;refine wC hF [.io,.sh] zkP λsV hF=>?_
   obtain⟨g,hF⟩:=Rg g hF;refine wK [0,2,7,8,9] ?_;exact wT (Lc _) (aj hF)
  cases U3 _ (aj hF);exact wT (A2 _) JZ
 refine wI hF (λh6 hF=>?_) λh6 hF=>?_
 ·refine wC hF [.io] zj9 λz7 hF=>?_
  exact wT (iu _) (aj hF)
 exact wT (iu _) (aj hF)
def Gy(a0:Int)(a1:Int):Option (Int×Bool):=
 (o0 a1 1 12).bind λz1=>
 if(!z1)=Z then(
 J (0,aa))else(
 if(a0==1)=Z then(
 J (i64.wrap ((i64.wrap (5*a1))+4),Z))else(
 if(a0==2)=Z then(
 J (i64.wrap ((i64.wrap (9*a1))+2),Z))else(
 J (0,aa))))
def Y3{a0 a1 r}(hr:Gy a0 a1=J r):au Tryz.prog 35 [(.sh,.int .i64 a0),(.sh,.int .i64 a1)] (Eo (.bS [.int .i64 r.1,.bool r.2]) cO):=by
 apply pF 20 [] [] [] [.tmp 4,.tmp 5] hr zLj Tryz.func35;intro Φ ai hF g;unfold Gy at hF;refine wW ?_;refine wE hF tq λz1 hF=>?_
 refine wW ?_;refine wI hF (λh2 hF=>?_) λh2 hF=>?_
 ·exact wl ai hF
 iterate 2 refine wW ?_
 refine wB ?_;refine wW ?_;refine wI hF (λh3 hF=>?_) λh3 hF=>?_
 ·refine wK [4,5] ?_;exact wm ai hF
 refine wK [1,15] ?_;refine wI hF (λh4 hF=>?_) λh4 hF=>?_
 ·exact wl ai hF
 cases ai _ (aj hF)
 iterate 2 refine wW ?_
 try simp[go_sem,g]
def PP(aO:List Int)(aV:Int)(bp:Int):Option (an×Int×List aq×Int×List Int×List Int×(List Int×Int×Int)):=
 (Kq aO aV bp).bind λz1=>
 (gW z1.2.2.2.2.2.1 z1.2.2.2.2.2.2.1 z1.2.2.2.2.2.2.2 2).bind λz2=>
 (zQ z2.2.1 z2.2.2.1 z2.2.2.2 20).bind λz3=>
 ((if z3.1=Z then(
 (pZ z3.2.1 z3.2.2.1 z3.2.2.2 [0,3]).bind λz8=>
 J ((z8.2.1,z8.2.2.1,z8.2.2.2),z8.1))else(
 J ((z3.2.1,z3.2.2.1,z3.2.2.2),i64.wrap (1+z2.1))):Option (((List Int×Int×Int)×Int))).bind λx6=>
 (Gy x6.2 (z1.2.2.1.length:Int)).bind λz9=>
 (F0 x6.1.1 x6.1.2.1 x6.1.2.2 z1.1 z9.1).bind λbF=>
 J (z1.1,z1.2.1,z1.2.2.1,x6.2,z1.2.2.2.1,bF.1,(bF.2.1,bF.2.2.1,bF.2.2.2)))
def zkU{aO aV bp r}(hr:PP aO aV bp=J r):au Tryz.prog 27 [(.io,vB aO aV bp)] (Eo (.bS [vE r.1,.int .i64 r.2.1,vG r.2.2.1,.int .i64 r.2.2.2.1,vD r.2.2.2.2.1,vC r.2.2.2.2.2.1]) [vB r.2.2.2.2.2.2.1 r.2.2.2.2.2.2.2.1 r.2.2.2.2.2.2.2.2]):=by
 apply pF 48 [0] [] [] [.cell 2 25,.tmp 3,.tmp 4,.tmp 5,.tmp 6,.tmp 7] hr zJW Tryz.func27;intro Φ ai hF g;unfold PP at hF;refine wW ?_;refine wC hF [.io] zla λz1 hF=>?_
 refine wK [0,2,8,9,10,11] ?_;refine wC hF [.io,.sh] j7 λz2 hF=>?_
 refine wW ?_;refine wC hF [.io,.sh] NP λz3 hF=>?_
 refine wW ?_;refine bX hF [2,8,9,10,11] (λx6=>[(0,.v (vB x6.1.1 x6.1.2.1 x6.1.2.2)),(13,.v (.int .i64 x6.2))]) (λx6 hF=>?_) λ_ Af hF=>?_
 ·try simp[go_sem,g]
  try intros
  refine wE hF Y3 λz9 hF=>?_
  refine wK [0,2,8,9,10,11,13,14] ?_;refine wZ (kD 0 [66,0,0,0,0,0,66,0,3,18,0,0,0,0,0]) follows ?_;refine wC hF [.io,.sh,.sh] Y6 λbF hF=>?_
  refine wK [0,2,3,4,5,6,7] ?_;exact wm ai hF
 refine wI hF (λh7 hF=>?_) λh7 hF=>?_
 ·refine wC hF [.io,.mv] wL λz8 hF=>?_
  exact wT (Af _) (aj hF)
 exact wT (Af _) (aj hF)
def F9(a0:List Int):Option (an×Int×List aq×Int×List Int×List Int):=
 (PP a0 0 0).bind λz1=>
 J (z1.1,z1.2.1,z1.2.2.1,z1.2.2.2.1,z1.2.2.2.2.1,z1.2.2.2.2.2.1)
def XP{a0 r}(hr:F9 a0=J r):au Tryz.prog 6 [(.sh,vA a0)] (Eo (.bS [vE r.1,.int .i64 r.2.1,vG r.2.2.1,.int .i64 r.2.2.2.1,vD r.2.2.2.2.1,vC r.2.2.2.2.2]) [.ax]):=by
 apply pF 20 [] [] [11] [.cell 2 25,.tmp 3,.tmp 4,.tmp 5,.tmp 6,.tmp 7] hr cl6 Tryz.func6;intro Φ ai hF g;unfold F9 at hF;refine wW ?_;refine wK [2,8] ?_;refine wC hF [.io] zkU λz1 hF=>?_
 refine wK [2,3,4,5,6,7] ?_;exact wm ai hF
def pY(a0:Int)(a1:Int)(a2:Int):Option Bool:=
 ((if decide (a1<=a0)=Z then(
 J (decide (a0<=a2)))else(
 J aa):Option Bool).bind λx3=>
 J x3)
def uT{a0 a1 a2 r}(hr:pY a0 a1 a2=J r):au Tryz.prog 63 [(.sh,.int .i64 a0),(.sh,.int .i64 a1),(.sh,.int .i64 a2)] (Eo (.bool r) gH):=by
 apply pF 15 [] [] [] [.tmp 6] hr zLR Tryz.func63;intro Φ ai hF g;unfold pY at hF;refine wW ?_;refine wJ hF (λx3=>[(6,.v (.bool x3))]) (λx3 hF=>?_) λ_ ao hF=>?_
 ·exact wm ai hF
 refine wG hF (λh4 hF=>?_) λh4 hF=>?_
 ·exact wV h4 (ao _) (aj hF)
 exact wV h4 (ao _) (aj hF)
def IU(a0:Int):Option Bool:=
 (pY a0 2 2000000000).bind λz1=>
 J z1
def zpc{a0 r}(hr:IU a0=J r):au Tryz.prog 176 [(.sh,.int .i64 a0)] (Eo (.bool r) [.ax]):=by
 apply pF 5 [] [] [] [.tmp 2] hr zES Tryz.func176;intro Φ ai hF g;unfold IU at hF;refine wW ?_;refine wE hF uT λz1 hF=>?_
 exact wl ai hF
def FB(a0:Int):Option Bool:=
 (((IU a0).bind λz4=>
 if(!z4)=Z then(
 J Z)else(
 if((a0.tmod 2)==0)=Z then(
 J (a0 !=2))else(
 J aa)):Option Bool).bind λx3=>
 if x3=Z then(
 J aa)else(
 ((dP (σ:=Int) (λcL=>
 if decide ((i64.wrap (cL*cL))<=a0)=Z then(
 gd (cL≠0)<|
 if((a0.tmod cL)==0)=Z then(
 J (.out (.inr aa)))else(
 J (.go (i64.wrap (cL+2)))))else(
 J (.out (.inl ())))) 3:Option (Unit ⊕ Bool)).bind (Sum.elim (λd9=>
 J Z) J))))
def zl0{a0 r}(hr:FB a0=J r):au Tryz.prog 120 [(.sh,.int .i64 a0)] (Eo (.bool r) [.ax]):=by
 apply pF 27 [] [] [] [.tmp 2] hr zEY Tryz.func120;intro Φ ai hF g;unfold FB at hF;refine wW ?_;refine wJ hF (λx3=>[(0,.v (.int .i64 a0)),(15,.v (.bool x3))]) (λx3 hF=>?_) λ_ ao hF=>?_
 ·refine wI hF (λh7 hF=>?_) λh7 hF=>?_
  ·exact wl ai hF
  iterate 2 refine wW ?_
  refine wS hF (λd9=>[]) (λd9 hF=>?_) λ_ DX SD hF=>?_
  ·exact wl ai hF
  refine wB ?_;obtain⟨b18,QW,ym⟩:=hF;refine pL QW (λcL=>[(0,.v (.int .i64 a0)),(3,.v (.int .i64 cL))]) λcL _ _ BT Dx hF=>?_
  refine wW ?_;refine wI hF (λk7 hF=>?_) λk7 hF=>?_
  ·refine wW ?_;refine wB ?_;obtain⟨g,hF⟩:=Rz g hF;refine wK [0,3,26] ?_;refine wI hF (λiH hF=>?_) λiH hF=>?_
   ·cases BT _ (aj hF);cases ai _ (SD _ ym);refine wW ?_;try simp[go_sem,g]
   refine wW ?_;exact wT (Dx _) (aj hF)
  cases BT _ (aj hF);exact wT (DX _) ym
 refine wE hF zpc λz4 hF=>?_
 refine wG hF (λh5 hF=>?_) λh5 hF=>?_
 ·exact wV h5 (ao _) (aj hF)
 have g:=Ld g 2;try simp[go_sem,g,h5]
 refine wG hF (λh6 hF=>?_) λh6 hF=>?_
 ·try simp[go_sem,g,h6,h5]
  exact wT (ao _) (aj hF)
 try simp[go_sem,g,h6,h5]
 exact wT (ao _) (aj hF)
def n6(a0:Int)(a1:Int)(a2:Int):Option Int:=
 gd (a2≠0)<|
 ((dP (σ:=Int×Int×Int) (λs4=>
 if decide (0<s4.2.1)=Z then(
 ((if((i64.wrap ((BitVec.ofInt i64.bits s4.2.1&&&BitVec.ofInt i64.bits 1).toNat))==1)=Z then(
 gd (a2≠0)<|
 J ((i64.wrap (s4.2.2*s4.1)).tmod a2))else(
 J s4.2.2):Option Int).bind λcC=>
 gd (a2≠0)<|
 J (.go ((i64.wrap (s4.1*s4.1)).tmod a2,s4.2.1.fdiv 2,cC))))else(
 J (.out s4.2.2))) (a0,a1,(1:Int).tmod a2):Option Int).bind λx3=>
 J x3)
def FC{a0 a1 a2 r}(hr:n6 a0 a1 a2=J r):au Tryz.prog 121 [(.sh,.int .i64 a0),(.sh,.int .i64 a1),(.sh,.int .i64 a2)] (Eo (.int .i64 r) gH):=by
 apply pF 28 [] [] [] [.tmp 6] hr zHV Tryz.func121;intro Φ ai hF g;unfold n6 at hF;obtain⟨g,hF⟩:=Rz g hF
 iterate 2 refine wW ?_
 refine wJ hF (λx3=>[(7,.v (.int .i64 x3))]) (λx3 hF=>?_) λ_ ao hF=>?_
 ·exact wl ai hF
 refine wB ?_;obtain⟨oq,fT,bo⟩:=hF;refine pL fT (λs4=>[(0,.v (.int .i64 s4.1)),(1,.v (.int .i64 s4.2.1)),(2,.v (.int .i64 a2)),(7,.v (.int .i64 s4.2.2))]) λs4 _ _ b8 bD hF=>?_
 refine wW ?_;refine wI hF (λh9 hF=>?_) λh9 hF=>?_
 ·refine wW ?_;refine wB ?_;refine wW ?_;refine bX hF [0,1,2] (λcC=>[(7,.v (.int .i64 cC))]) (λcC hF=>?_) λ_ AS hF=>?_
  ·obtain⟨g,hF⟩:=Rz g hF;refine wK [0,1,2,7] ?_;have g:=Ls g 1;exact wT (bD _) (aj hF)
  refine wI hF (λcZ hF=>?_) λcZ hF=>?_
  ·obtain⟨g,hF⟩:=Rz g hF;exact wT (AS _) (aj hF)
  exact wT (AS _) (aj hF)
 cases b8 _ (aj hF);exact wT (ao _) bo
def Jm(a0:an):Option Bool:=
 (((pY a0.P 3 2000000000).bind λz4=>
 if z4=Z then(
 (pY a0.Q 2 (i64.wrap (a0.P-1))).bind λz6=>
 if z6=Z then(
 gd (a0.Q≠0)<|
 if(((i64.wrap (a0.P-1)).tmod a0.Q)==0)=Z then(
 (pY a0.G 2 (i64.wrap (a0.P-1))).bind λz9=>
 if z9=Z then(
 (FB a0.P).bind λbQ=>
 if bQ=Z then(
 (FB a0.Q).bind λcN=>
 if cN=Z then(
 (n6 a0.G a0.Q a0.P).bind λew=>
 J (ew==1))else(
 J aa))else(
 J aa))else(
 J aa))else(
 J aa))else(
 J aa))else(
 J aa):Option Bool).bind λx3=>
 J x3)
def zm6{a0 r}(hr:Jm a0=J r):au Tryz.prog 75 [(.sh,vE a0)] (Eo (.bool r) [.ax]):=by
 apply pF 51 [] [] [] [.tmp 2] hr zNp Tryz.func75;intro Φ ai hF g;unfold Jm at hF;refine wW ?_;refine wJ hF (λx3=>[(2,.v (.bool x3))]) (λx3 hF=>?_) λ_ ao hF=>?_
 ·exact wm ai hF
 refine wE hF uT λz4 hF=>?_
 refine wG hF (λh5 hF=>?_) λh5 hF=>?_
 ·try simp[go_sem,g,h5]
  refine wE hF uT λz6 hF=>?_
  try simp[go_sem,g,h5]
  refine wG hF (λh7 hF=>?_) λh7 hF=>?_
  ·obtain⟨g,hF⟩:=Rz g hF;try simp[go_sem,g,h7]
   refine wG hF (λh8 hF=>?_) λh8 hF=>?_
   ·try simp[go_sem,g,h8]
    refine wE hF uT λz9 hF=>?_
    try simp[go_sem,g,h8]
    refine wG hF (λdf hF=>?_) λdf hF=>?_
    ·try simp[go_sem,g,df]
     refine wE hF zl0 λbQ hF=>?_
     try simp[go_sem,g,df]
     refine wG hF (λfB hF=>?_) λfB hF=>?_
     ·try simp[go_sem,g,fB]
      refine wE hF zl0 λcN hF=>?_
      try simp[go_sem,g,fB]
      refine wG hF (λeD hF=>?_) λeD hF=>?_
      ·try simp[go_sem,g,eD]
       refine wE hF FC λew hF=>?_
       exact wV eD (ao _) (aj hF)
      exact wV eD (ao _) (aj hF)
     exact wV fB (ao _) (aj hF)
    exact wV df (ao _) (aj hF)
   exact wV h8 (ao _) (aj hF)
  exact wV h7 (ao _) (aj hF)
 exact wV h5 (ao _) (aj hF)
def AN(a0:an)(a1:Int):Option Bool:=
 (((pY a1 1 (i64.wrap (a0.P-1))).bind λz4=>
 if z4=Z then(
 (n6 a1 a0.Q a0.P).bind λz6=>
 J (z6==1))else(
 J aa):Option Bool).bind λx3=>
 J x3)
def P3{a0 a1 r}(hr:AN a0 a1=J r):au Tryz.prog 76 [(.sh,vE a0),(.sh,.int .i64 a1)] (Eo (.bool r) cO):=by
 apply pF 19 [] [] [] [.tmp 4] hr zMj Tryz.func76;intro Φ ai hF g;unfold AN at hF;refine wW ?_;refine wJ hF (λx3=>[(4,.v (.bool x3))]) (λx3 hF=>?_) λ_ ao hF=>?_
 ·exact wm ai hF
 refine wE hF uT λz4 hF=>?_
 refine wG hF (λh5 hF=>?_) λh5 hF=>?_
 ·try simp[go_sem,g,h5]
  refine wE hF FC λz6 hF=>?_
  exact wV h5 (ao _) (aj hF)
 exact wV h5 (ao _) (aj hF)
def KO(a0:an)(a1:aq):Option Bool:=
 (((AN a0 a1.A).bind λz4=>
 if z4=Z then(
 (AN a0 a1.B).bind λz6=>
 J z6)else(
 J aa):Option Bool).bind λx3=>
 J x3)
def zlE{a0 a1 r}(hr:KO a0 a1=J r):au Tryz.prog 155 [(.sh,vE a0),(.sh,vF a1)] (Eo (.bool r) cO):=by
 apply pF 15 [] [] [] [.tmp 4] hr zHQ Tryz.func155;intro Φ ai hF g;unfold KO at hF;refine wW ?_;refine wJ hF (λx3=>[(4,.v (.bool x3))]) (λx3 hF=>?_) λ_ ao hF=>?_
 ·exact wm ai hF
 refine wE hF P3 λz4 hF=>?_
 refine wG hF (λh5 hF=>?_) λh5 hF=>?_
 ·try simp[go_sem,g,h5]
  refine wE hF P3 λz6 hF=>?_
  exact wV h5 (ao _) (aj hF)
 exact wV h5 (ao _) (aj hF)
def NL(a0:aq)(xQ:Int)(Pd:Int)(P8:Int):Option Bool:=
 (KO (an.mk xQ Pd P8) a0).bind λz1=>
 J (!z1)
def zkg{a0 xQ Pd P8 r}(hr:NL a0 xQ Pd P8=J r):au Tryz.prog 154 [(.sh,vF a0),(.sh,.fp [.int .i64 xQ,.int .i64 Pd,.int .i64 P8])] (Eo (.bool r) cO):=by
 apply pF 8 [] [] [] [.tmp 3] hr zHL Tryz.func154;intro Φ ai hF g;unfold NL at hF;refine wW ?_;refine wE hF zlE λz1 hF=>?_
 exact wl ai hF
def IB(a0:List aq)(qA:Int)(zj:Int)(yz:Int):Option Int:=
 ((aU (σ:=Unit) (λi5 s4=>
 (ix a0 i5).bind λaN=>
 (NL aN qA zj yz).bind λbr=>
 if br=Z then(
 J (.out (.inr i5)))else(
 J (.go ()))) (λs4=>.inl ()) (a0.length) 0 ():Option (Unit ⊕ Int)).bind (Sum.elim (λx3=>
 J (-1)) J))
def zef{a0 qA zj yz r}(hr:IB a0 qA zj yz=J r):au Tryz.prog 202 [(.sh,vH a0),(.sh,.func (.func 154) [] [.fp [.int .i64 qA,.int .i64 zj,.int .i64 yz]])] (Eo (.int .i64 r) cO):=by
 apply pF 19 [] [] [] [.tmp 4] hr zFP Tryz.func202;intro Φ ai hF g;unfold IB at hF
 iterate 2 (try simp[go_sem,g];try intros;refine bh ?_)
 refine wS hF (λx3=>[]) (λx3 hF=>?_) λ_ ao fD hF=>?_
 ·exact wl ai hF
 refine wB ?_;obtain⟨oq,fT,bo⟩:=hF;refine bU fT [0,1,7] (λi5 s4=>[(8,.v (.int .i64 i5))]) (λs4 _ iy=>?_) λi5 s4 _ _ bq ba b8 bD hF=>?_
 ·exact wn iy (ao _) bo
 refine wW ?_;refine wu bq ba ?_;refine wW ?_;refine wB ?_;obtain⟨aN,g,hF⟩:=Rx g hF;refine wW ?_;refine wE hF zkg λbr hF=>?_
 refine wK [0,1,5,7,8,16] ?_;refine wI hF (λcZ hF=>?_) λcZ hF=>?_
 ·cases b8 _ (aj hF);cases ai _ (fD _ bo);refine wW ?_;try simp[go_sem,g]
 refine wW ?_;exact wi bq ba (bD _) (aj hF)
def MB(a0:List aq)(qA:Int)(zj:Int)(yz:Int):Option Bool:=
 (IB a0 qA zj yz).bind λz1=>
 J (decide (0<=z1))
def zdU{a0 qA zj yz r}(hr:MB a0 qA zj yz=J r):au Tryz.prog 153 [(.sh,vH a0),(.sh,.func (.func 154) [] [.fp [.int .i64 qA,.int .i64 zj,.int .i64 yz]])] (Eo (.bool r) cO):=by
 apply pF 9 [] [] [] [.tmp 4] hr zGK Tryz.func153;intro Φ ai hF g;unfold MB at hF;refine wW ?_;refine wE hF zef λz1 hF=>?_
 exact wl ai hF
def HV(a0:an)(a1:List aq):Option Bool:=
 ((if decide ((a1.length:Int)<=24)=Z then(
 (MB a1 a0.P a0.Q a0.G).bind λz5=>
 J (!z5))else(
 J aa):Option Bool).bind λx3=>
 J x3)
def zlb{a0 a1 r}(hr:HV a0 a1=J r):au Tryz.prog 89 [(.sh,vE a0),(.sh,vH a1)] (Eo (.bool r) cO):=by
 apply pF 14 [] [] [1000000] [.tmp 4] hr zMH Tryz.func89;intro Φ ai hF g;unfold HV at hF;refine wW ?_;refine wJ hF (λx3=>[(4,.v (.bool x3))]) (λx3 hF=>?_) λ_ ao hF=>?_
 ·exact wm ai hF
 try simp[go_sem,g]
 try intros
 refine wG hF (λh4 hF=>?_) λh4 hF=>?_
 ·try simp[go_sem,g,h4]
  refine wE hF zdU λz5 hF=>?_
  exact wV h4 (ao _) (aj hF)
 exact wV h4 (ao _) (aj hF)
def Al(a0:an)(a1:List aq):Option Bool:=
 (((pY (a1.length:Int) 1 12).bind λz4=>
 if z4=Z then(
 (HV a0 a1).bind λz6=>
 J z6)else(
 J aa):Option Bool).bind λx3=>
 J x3)
def Oo{a0 a1 r}(hr:Al a0 a1=J r):au Tryz.prog 41 [(.sh,vE a0),(.sh,vH a1)] (Eo (.bool r) cO):=by
 apply pF 13 [] [] [] [.tmp 4] hr zN4 Tryz.func41;intro Φ ai hF g;unfold Al at hF;refine wW ?_;refine wJ hF (λx3=>[(4,.v (.bool x3))]) (λx3 hF=>?_) λ_ ao hF=>?_
 ·exact wm ai hF
 try simp[go_sem,g]
 try intros
 refine wE hF uT λz4 hF=>?_
 refine wG hF (λh5 hF=>?_) λh5 hF=>?_
 ·try simp[go_sem,g,h5]
  refine wE hF zlb λz6 hF=>?_
  exact wV h5 (ao _) (aj hF)
 exact wV h5 (ao _) (aj hF)
def PH(a0:ByteArray)(a1:List Int):Option ((List Int)):=
 ((dP (σ:=(List Int)×Int) (λs4=>
 if decide (s4.2<(a0.size:Int))=Z then(
 (xX a0 s4.2).bind λd9=>
 gd ((s4.1.length+1)*8<=140737488355328/\s4.1.length+1<=4611686018427387904)<|
 J (.go (s4.1++[i64.wrap d9],i64.wrap (s4.2+1))))else(
 J (.out s4.1))) ([(a0.size:Int)],0):Option ((List Int))).bind λx3=>
 gd ((x3.length+a1.length)*8<=140737488355328/\x3.length+a1.length<=4611686018427387904)<|
 J (x3++a1))
def zpA{a0 a1 r}(hr:PH a0 a1=J r):au Tryz.prog 211 [(.sh,.str a0),(.sh,vC a1)] (Eo (vD r) cO):=by
 apply pF 26 [] [] [] [.tmp 4] hr zFx Tryz.func211;intro Φ ai hF g;unfold PH at hF
 iterate 3 refine wW ?_
 refine wJ hF (λx3=>[(1,.v (vC a1)),(5,.v (vD x3))]) (λx3 hF=>?_) λ_ ao hF=>?_
 ·obtain⟨g,hF⟩:=Rg g hF;refine wK [4] ?_;exact wm ai hF
 refine wB ?_;obtain⟨MS,yv,bo⟩:=hF;refine jW yv [0,1,11] (λs4=>[(5,.v (vD s4.1)),(12,.v (.int .i64 s4.2))]) λs4 _ _ b8 bD hF=>?_
 refine wW ?_;refine wI hF (λh9 hF=>?_) λh9 hF=>?_
 ·refine wW ?_;refine wB ?_;refine wK [0,1,5,6,11,12] ?_;obtain⟨d9,g,hF⟩:=Rxs g hF;obtain⟨g,hF⟩:=Rg g hF;refine wW ?_;exact wT (bD _) (aj hF)
 cases b8 _ (aj hF);exact wT (ao _) bo
def KU(a0:Int):Option Bool:=
 (pY a0 0 4611686018427387903).bind λz1=>
 J z1
def zqj{a0 r}(hr:KU a0=J r):au Tryz.prog 163 [(.sh,.int .i64 a0)] (Eo (.bool r) [.ax]):=by
 apply pF 5 [] [] [] [.tmp 2] hr zHp Tryz.func163;intro Φ ai hF g;unfold KU at hF;refine wW ?_;refine wE hF uT λz1 hF=>?_
 exact wl ai hF
def Cw(a0:Int):Option Bool:=
 (KU a0).bind λz1=>
 J (!z1)
def zji{a0 r}(hr:Cw a0=J r):au Tryz.prog 116 [(.sh,.int .i64 a0),(.sh,.fp [.func (.func 163) [] []])] (Eo (.bool r) cO):=by
 apply pF 8 [] [] [] [.tmp 3] hr NN Tryz.func116;intro Φ ai hF g;unfold Cw at hF;refine wW ?_;refine wE hF zqj λz1 hF=>?_
 exact wl ai hF
def Tf(a0:List Int):Option Int:=
 ((aU (σ:=Unit) (λi5 s4=>
 (ix a0 i5).bind λaN=>
 (Cw aN).bind λbr=>
 if br=Z then(
 J (.out (.inr i5)))else(
 J (.go ()))) (λs4=>.inl ()) (a0.length) 0 ():Option (Unit ⊕ Int)).bind (Sum.elim (λx3=>
 J (-1)) J))
def zfp{a0 r}(hr:Tf a0=J r):au Tryz.prog 174 [(.sh,vC a0),(.sh,.func (.func 116) [] [.fp [.func (.func 163) [] []]])] (Eo (.int .i64 r) cO):=by
 apply pF 19 [] [] [] [.tmp 4] hr M5 Tryz.func174;intro Φ ai hF g;unfold Tf at hF
 iterate 2 (try simp[go_sem,g];try intros;refine bh ?_)
 refine wS hF (λx3=>[]) (λx3 hF=>?_) λ_ ao fD hF=>?_
 ·exact wl ai hF
 refine wB ?_;obtain⟨oq,fT,bo⟩:=hF;refine bU fT [0,1,7] (λi5 s4=>[(8,.v (.int .i64 i5))]) (λs4 _ iy=>?_) λi5 s4 _ _ bq ba b8 bD hF=>?_
 ·exact wn iy (ao _) bo
 refine wW ?_;refine wu bq ba ?_;refine wW ?_;refine wB ?_;obtain⟨aN,g,hF⟩:=Rx g hF;refine wW ?_;refine wE hF zji λbr hF=>?_
 refine wK [0,1,5,7,8,16] ?_;refine wI hF (λcZ hF=>?_) λcZ hF=>?_
 ·cases b8 _ (aj hF);cases ai _ (fD _ bo);refine wW ?_;try simp[go_sem,g]
 refine wW ?_;exact wi bq ba (bD _) (aj hF)
def QZ(a0:List Int):Option Bool:=
 (Tf a0).bind λz1=>
 J (decide (0<=z1))
def ze4{a0 r}(hr:QZ a0=J r):au Tryz.prog 115 [(.sh,vC a0),(.sh,.func (.func 116) [] [.fp [.func (.func 163) [] []]])] (Eo (.bool r) cO):=by
 apply pF 9 [] [] [] [.tmp 4] hr Nh Tryz.func115;intro Φ ai hF g;unfold QZ at hF;refine wW ?_;refine wE hF zfp λz1 hF=>?_
 exact wl ai hF
def Hm(a0:List Int):Option Bool:=
 (QZ a0).bind λz1=>
 J (!z1)
def zgZ{a0 r}(hr:Hm a0=J r):au Tryz.prog 69 [(.sh,vC a0),(.sh,.func (.func 163) [] [])] (Eo (.bool r) cO):=by
 apply pF 9 [] [] [1000000] [.tmp 4] hr N0 Tryz.func69;intro Φ ai hF g;unfold Hm at hF;refine wW ?_;refine wE hF ze4 λz1 hF=>?_
 exact wl ai hF
def Kd(a0:List Int):Option Bool:=
 ((if decide ((a0.length:Int)<=400)=Z then(
 (Hm a0).bind λz5=>
 J z5)else(
 J aa):Option Bool).bind λx3=>
 J x3)
def zoF{a0 r}(hr:Kd a0=J r):au Tryz.prog 214 [(.sh,vC a0)] (Eo (.bool r) [.ax]):=by
 apply pF 10 [] [] [] [.tmp 2] hr zHF Tryz.func214;intro Φ ai hF g;unfold Kd at hF;refine wW ?_;refine wJ hF (λx3=>[(2,.v (.bool x3))]) (λx3 hF=>?_) λ_ ao hF=>?_
 ·exact wm ai hF
 try simp[go_sem,g]
 try intros
 refine wG hF (λh4 hF=>?_) λh4 hF=>?_
 ·try simp[go_sem,g,h4]
  refine wE hF zgZ λz5 hF=>?_
  exact wV h4 (ao _) (aj hF)
 exact wV h4 (ao _) (aj hF)
def Kh(a0:List Int):Option Int:=
 gd (([(a0.length:Int)].length+a0.length)*8<=140737488355328/\[(a0.length:Int)].length+a0.length<=4611686018427387904)<|
 (J ([(a0.length:Int)]++a0)).bind λx1=>
 ((aU (σ:=Int×Int) (λi7 s6=>
 (ix x1 i7).bind λfQ=>
 J (.go ((i64.wrap ((i64.wrap ((i64.wrap (48271*((i64.wrap ((i64.wrap ((i64.wrap (48271*s6.1))+(i64.wrap ((BitVec.ofInt i64.bits fQ&&&BitVec.ofInt i64.bits 2147483647).toNat))))+1)).tmod 2147483647)))+(fQ.fdiv 2147483648)))+1)).tmod 2147483647,(i64.wrap ((i64.wrap ((i64.wrap (69621*((i64.wrap ((i64.wrap ((i64.wrap (69621*s6.2))+(i64.wrap ((BitVec.ofInt i64.bits fQ&&&BitVec.ofInt i64.bits 2147483647).toNat))))+1)).tmod 2147483647)))+(fQ.fdiv 2147483648)))+1)).tmod 2147483647))) (λs6=>(s6.1,s6.2)) (x1.length) 0 (1,2):Option ((Int×Int))).bind λx5=>
 J (i64.wrap ((i64.wrap (x5.1*2147483648))+x5.2)))
def zuj{a0 r}(hr:Kh a0=J r):au Tryz.prog 215 [(.sh,vC a0)] (Eo (.int .i64 r) [.ax]):=by
 apply pF 52 [] [] [] [.tmp 2] hr zGd Tryz.func215;intro Φ ai hF g;unfold Kh at hF;obtain⟨g,hF⟩:=Rg g hF;obtain⟨x1,e2,hF⟩:=mM hF;have g:=And.intro g (show[.int .i64 (a0.length:Int)]::(List.map aL a0)=x1.map aL by injection e2 with e2;rw[<-e2];simp[go_sem])
 iterate 2 (try simp[go_sem,g];try intros;refine bh ?_)
 try simp[go_sem,g]
 try intros
 refine wK [3,4,13,14,15] ?_;refine wJ hF (λx5=>[(3,.v (.int .i64 x5.1)),(4,.v (.int .i64 x5.2))]) (λx5 hF=>?_) λ_ iu hF=>?_
 ·have g:=Ls g 31;exact wl ai hF
 refine wB ?_;obtain⟨oq,fT,a4e⟩:=hF;refine bU fT [13,14] (λi7 s6=>[(3,.v (.int .i64 s6.1)),(4,.v (.int .i64 s6.2)),(15,.v (.int .i64 i7))]) (λs6 _ iy=>?_) λi7 s6 _ _ pV Jg ho8 hg9 hF=>?_
 ·exact wn iy (iu _) a4e
 refine wW ?_;refine wu pV Jg ?_;refine wW ?_;refine wB ?_;obtain⟨fQ,g,hF⟩:=Rx g hF;have g:=Ls g 31;refine wW ?_;refine wK [3,4,7,8,13,14,15] ?_;have g:=Ld g 2147483647;refine wW ?_;refine wK [3,4,7,8,13,14,15] ?_;refine wW ?_;refine wK [3,4,13,14,15] ?_;exact wi pV Jg (hg9 _) (aj hF)
def I4(a0:List Int):Option (Int×Bool):=
 (Kd a0).bind λz1=>
 if(!z1)=Z then(
 J (0,aa))else(
 (Kh a0).bind λz3=>
 J (z3,Z))
def zqo{a0 r}(hr:I4 a0=J r):au Tryz.prog 210 [(.sh,vC a0)] (Eo (.bS [.int .i64 r.1,.bool r.2]) [.ax]):=by
 apply pF 9 [] [] [] [.tmp 2,.tmp 3] hr zFc Tryz.func210;intro Φ ai hF g;unfold I4 at hF;refine wW ?_;refine wE hF zoF λz1 hF=>?_
 refine wW ?_;refine wI hF (λh2 hF=>?_) λh2 hF=>?_
 ·exact wl ai hF
 refine wW ?_;refine wE hF zuj λz3 hF=>?_
 exact wl ai hF
def DO(a0:ByteArray)(a1:List Int):Option (Int×Bool):=
 ((if decide (40<(a0.size:Int))=Z then(
 J Z)else(
 J (decide (400<(a1.length:Int)))):Option Bool).bind λx3=>
 if x3=Z then(
 J (0,aa))else(
 (PH a0 a1).bind λz6=>
 (I4 z6).bind λz7=>
 J (z7.1,z7.2)))
def zjs{a0 a1 r}(hr:DO a0 a1=J r):au Tryz.prog 177 [(.sh,.str a0),(.sh,vC a1)] (Eo (.bS [.int .i64 r.1,.bool r.2]) cO):=by
 apply pF 20 [] [] [] [.tmp 4,.tmp 5] hr zEM Tryz.func177;intro Φ ai hF g;unfold DO at hF;refine wW ?_;refine bX hF [0,1] (λx3=>[(13,.v (.bool x3))]) (λx3 hF=>?_) λ_ ao hF=>?_
 ·refine wI hF (λh5 hF=>?_) λh5 hF=>?_
  ·exact wl ai hF
  refine wW ?_;refine wE hF zpA λz6 hF=>?_
  refine wE hF zqo λz7 hF=>?_
  refine wK [4,5] ?_;exact wm ai hF
 refine wG hF (λh4 hF=>?_) λh4 hF=>?_
 ·exact wV h4 (ao _) (aj hF)
 try simp[go_sem,g,h4]
 try intros
 exact wT (ao _) (aj hF)
def xZ(a0:an)(a1:ByteArray)(a2:Int):Option (Int×Bool):=
 ((dP (σ:=Int) (λs4=>
 if decide (s4<1000)=Z then(
 (DO a1 [a0.P,a0.Q,a0.G,a2,s4]).bind λbF=>
 if(!bF.2)=Z then(
 J (.out (.inr (0,aa))))else(
 gd (i64.wrap (a0.P-1)≠0)<|
 gd (a0.Q≠0)<|
 (n6 (i64.wrap (1+(bF.1.tmod (i64.wrap (a0.P-1))))) (i64.wrap ((i64.wrap (a0.P-1)).tdiv a0.Q)) a0.P).bind λbr=>
 if(br !=1)=Z then(
 J (.out (.inr (br,Z))))else(
 J (.go (i64.wrap (s4+1))))))else(
 J (.out (.inl ())))) 0:Option (Unit ⊕ (Int×Bool))).bind (Sum.elim (λx3=>
 J (0,aa)) J))
def Y7{a0 a1 a2 r}(hr:xZ a0 a1 a2=J r):au Tryz.prog 122 [(.sh,vE a0),(.sh,.str a1),(.sh,.int .i64 a2)] (Eo (.bS [.int .i64 r.1,.bool r.2]) gH):=by
 apply pF 50 [] [] [] [.tmp 6,.tmp 7] hr zGo Tryz.func122;intro Φ ai hF g;unfold xZ at hF
 iterate 2 refine wW ?_
 refine wS hF (λx3=>[]) (λx3 hF=>?_) λ_ ao fD hF=>?_
 ·exact wl ai hF
 refine wB ?_;obtain⟨oq,fT,bo⟩:=hF;refine jW fT [1,2,3] (λs4=>[(12,.v (.int .i64 s4))]) λs4 _ _ b8 bD hF=>?_
 refine wW ?_;refine wI hF (λh9 hF=>?_) λh9 hF=>?_
 ·refine wW ?_;refine wB ?_;refine wW ?_;refine wE hF zjs λbF hF=>?_
  refine wK [1,2,3,9,10,12] ?_;refine wW ?_;refine wI hF (λeQ hF=>?_) λeQ hF=>?_
  ·cases b8 _ (aj hF);cases ai _ (fD _ bo);refine wW ?_;try simp[go_sem,g]
  refine wW ?_;refine wZ (kD 0 [0,25,26,0,0,0,25,26,0,25,26,0,25,26,3,0]) follows ?_
  iterate 2 obtain⟨g,hF⟩:=Rz g hF
  refine wE hF FC λbr hF=>?_
  refine wK [1,2,3,11,12] ?_;refine wW ?_;refine wI hF (λcZ hF=>?_) λcZ hF=>?_
  ·cases b8 _ (aj hF);cases ai _ (fD _ bo);refine wW ?_;try simp[go_sem,g]
  refine wW ?_;exact wT (bD _) (aj hF)
 cases b8 _ (aj hF);exact wT (ao _) bo
def kO(a0:an)(a1:Int):Option (cA×Bool):=
 (xZ a0 (⟨#[104]⟩:ByteArray) 0).bind λz1=>
 ((dP (σ:=Int×List Int×Bool×Int) (λgL=>
 if decide (gL.2.2.2<a1)=Z then(
 (xZ a0 (⟨#[104,115]⟩:ByteArray) gL.2.2.2).bind λkd=>
 ((if gL.2.2.1=Z then(
 J kd.2)else(
 J aa):Option Bool).bind λri=>
 gd ((gL.2.1.length+1)*8<=140737488355328/\gL.2.1.length+1<=4611686018427387904)<|
 J (.go (gL.1,gL.2.1++[kd.1],ri,i64.wrap (gL.2.2.2+1)))))else(
 J (.out (gL.1,gL.2.1,gL.2.2.1)))) (z1.1,[],Z,0):Option ((Int×List Int×Bool))).bind λx4=>
 ((if(!z1.2)=Z then(
 J Z)else(
 J (!x4.2.2)):Option Bool).bind λDu=>
 if Du=Z then(
 J ((cA.mk 0 []),aa))else(
 J ((cA.mk x4.1 x4.2.1),Z))))
def zjo{a0 a1 r}(hr:kO a0 a1=J r):au Tryz.prog 77 [(.sh,vE a0),(.sh,.int .i64 a1)] (Eo (.bS [vI r.1,.bool r.2]) cO):=by
 apply pF 49 [] [] [] [.cell 4 70,.tmp 5] hr zKS Tryz.func77;intro Φ ai hF g;unfold kO at hF;refine wW ?_;refine wE hF Y7 λz1 hF=>?_
 refine wK [1,2,4,6,7] ?_
 iterate 2 refine wW ?_
 refine bX hF [4,7] (λx4=>[(8,.bl [.int .i64 x4.1,vD x4.2.1]),(9,.v (.bool x4.2.2))]) (λx4 hF=>?_) λ_ cE hF=>?_
 ·refine bX hF [4,8] (λDu=>[(46,.v (.bool Du))]) (λDu hF=>?_) λ_ a04 hF=>?_
  ·refine wI hF (λh33 hF=>?_) λh33 hF=>?_
   ·refine wK [4,5] ?_;exact wm ai hF
   refine wW ?_;refine wK [4,5] ?_;exact wm ai hF
  refine wG hF (λCz hF=>?_) λCz hF=>?_
  ·exact wV Cz (a04 _) (aj hF)
  exact wV Cz (a04 _) (aj hF)
 refine wB ?_;obtain⟨b27,Ju,a4G⟩:=hF;refine jW Ju [2,4,7,20] (λgL=>[(8,.bl [.int .i64 gL.1,vD gL.2.1]),(9,.v (.bool gL.2.2.1)),(21,.v (.int .i64 gL.2.2.2))]) λgL _ _ a20 a1E hF=>?_
 refine wW ?_;refine wI hF (λyH hF=>?_) λyH hF=>?_
 ·refine wW ?_;refine wB ?_;refine wK [2,4,7,8,9,10,20,21] ?_;refine wE hF Y7 λkd hF=>?_
  refine wW ?_;refine bX hF [2,4,7,8,11,20,21] (λri=>[(9,.v (.bool ri))]) (λri hF=>?_) λ_ ZQ hF=>?_
  ·obtain⟨g,hF⟩:=Rg g hF;refine wK [2,4,7,8,9,20,21] ?_;exact wT (a1E _) (aj hF)
  refine wG hF (λTT hF=>?_) λTT hF=>?_
  ·exact wV TT (ZQ _) (aj hF)
  exact wV TT (ZQ _) (aj hF)
 cases a20 _ (aj hF);exact wT (cE _) a4G
def ux(a0:an)(a1:Int)(a2:List aq):Option (cA×Bool):=
 (((Jm a0).bind λz4=>
 if(!z4)=Z then(
 J Z)else(
 (AN a0 a1).bind λz6=>
 if(!z6)=Z then(
 J Z)else(
 (Al a0 a2).bind λz8=>
 J (!z8))):Option Bool).bind λx3=>
 if x3=Z then(
 J ((cA.mk 0 []),aa))else(
 (kO a0 (a2.length:Int)).bind λbF=>
 J (bF.1,bF.2)))
def OY{a0 a1 a2 r}(hr:ux a0 a1 a2=J r):au Tryz.prog 28 [(.sh,vE a0),(.sh,.int .i64 a1),(.sh,vH a2)] (Eo (.bS [vI r.1,.bool r.2]) gH):=by
 apply pF 30 [] [] [] [.cell 6 70,.tmp 7] hr zLZ Tryz.func28;intro Φ ai hF g;unfold ux at hF;refine wW ?_;refine bX hF [2,3,6] (λx3=>[(22,.v (.bool x3))]) (λx3 hF=>?_) λ_ ao hF=>?_
 ·refine wI hF (λh9 hF=>?_) λh9 hF=>?_
  ·exact wl ai hF
  try simp[go_sem,g]
  try intros
  refine bh ?_;try simp[go_sem,g]
  try intros
  refine wE hF zjo λbF hF=>?_
  refine wK [6,7] ?_;exact wm ai hF
 refine wE hF zm6 λz4 hF=>?_
 refine wG hF (λh5 hF=>?_) λh5 hF=>?_
 ·exact wV h5 (ao _) (aj hF)
 try simp[go_sem,g,h5]
 refine wE hF P3 λz6 hF=>?_
 try simp[go_sem,g,h5]
 refine wG hF (λh7 hF=>?_) λh7 hF=>?_
 ·exact wV h7 (ao _) (aj hF)
 try simp[go_sem,g,h7]
 refine wE hF Oo λz8 hF=>?_
 exact wV h7 (ao _) (aj hF)
def Ha(a0:Int):Option Bool:=
 ((if(a0==1)=Z then(
 J Z)else(
 J (a0==2)):Option Bool).bind λx3=>
 J x3)
def Xs{a0 r}(hr:Ha a0=J r):au Tryz.prog 29 [(.sh,.int .i64 a0)] (Eo (.bool r) [.ax]):=by
 apply pF 9 [] [] [] [.tmp 2] hr zKP Tryz.func29;intro Φ ai hF g;unfold Ha at hF;refine wW ?_;refine wJ hF (λx3=>[(2,.v (.bool x3))]) (λx3 hF=>?_) λ_ ao hF=>?_
 ·exact wm ai hF
 refine wG hF (λh4 hF=>?_) λh4 hF=>?_
 ·exact wV h4 (ao _) (aj hF)
 exact wV h4 (ao _) (aj hF)
def JL(a0:Int)(a1:Int):Option Int:=
 if(a0==1)=Z then(
 J (i64.wrap ((i64.wrap (5*a1))+4)))else(
 J (i64.wrap ((i64.wrap (9*a1))+2)))
def zmH{a0 a1 r}(hr:JL a0 a1=J r):au Tryz.prog 30 [(.sh,.int .i64 a0),(.sh,.int .i64 a1)] (Eo (.int .i64 r) cO):=by
 apply pF 13 [] [] [] [.tmp 4] hr zME Tryz.func30;intro Φ ai hF g;unfold JL at hF
 iterate 2 refine wW ?_
 refine wI hF (λh1 hF=>?_) λh1 hF=>?_
 ·exact wl ai hF
 cases ai _ (aj hF)
 iterate 2 refine wW ?_
 try simp[go_sem,g]
def NH(a0:Int)(xQ:List Int):Option Bool:=
 (pY a0 0 (i64.wrap ((xQ.length:Int)-1))).bind λz1=>
 J z1
def zlc{a0 xQ r}(hr:NH a0 xQ=J r):au Tryz.prog 70 [(.sh,.int .i64 a0),(.sh,.fp [vC xQ])] (Eo (.bool r) cO):=by
 apply pF 9 [] [] [] [.tmp 3] hr zM5 Tryz.func70;intro Φ ai hF g;unfold NH at hF;try simp[go_sem,g]
 try intros
 refine bh ?_;try simp[go_sem,g]
 try intros
 refine wE hF uT λz1 hF=>?_
 exact wl ai hF
def Ly(a0:Int)(PO:List Int):Option Bool:=
 (NH a0 PO).bind λz1=>
 J (!z1)
def zhP{a0 PO r}(hr:Ly a0 PO=J r):au Tryz.prog 116 [(.sh,.int .i64 a0),(.sh,.fp [.func (.func 70) [] [.fp [vC PO]]])] (Eo (.bool r) cO):=by
 apply pF 8 [] [] [] [.tmp 3] hr NN Tryz.func116;intro Φ ai hF g;unfold Ly at hF;refine wW ?_;refine wE hF zlc λz1 hF=>?_
 exact wl ai hF
def Ps(a0:List Int)(yl:List Int):Option Int:=
 ((aU (σ:=Unit) (λi5 s4=>
 (ix a0 i5).bind λaN=>
 (Ly aN yl).bind λbr=>
 if br=Z then(
 J (.out (.inr i5)))else(
 J (.go ()))) (λs4=>.inl ()) (a0.length) 0 ():Option (Unit ⊕ Int)).bind (Sum.elim (λx3=>
 J (-1)) J))
def zeF{a0 yl r}(hr:Ps a0 yl=J r):au Tryz.prog 174 [(.sh,vC a0),(.sh,.func (.func 116) [] [.fp [.func (.func 70) [] [.fp [vC yl]]]])] (Eo (.int .i64 r) cO):=by
 apply pF 19 [] [] [] [.tmp 4] hr M5 Tryz.func174;intro Φ ai hF g;unfold Ps at hF
 iterate 2 (try simp[go_sem,g];try intros;refine bh ?_)
 refine wS hF (λx3=>[]) (λx3 hF=>?_) λ_ ao fD hF=>?_
 ·exact wl ai hF
 refine wB ?_;obtain⟨oq,fT,bo⟩:=hF;refine bU fT [0,1,7] (λi5 s4=>[(8,.v (.int .i64 i5))]) (λs4 _ iy=>?_) λi5 s4 _ _ bq ba b8 bD hF=>?_
 ·exact wn iy (ao _) bo
 refine wW ?_;refine wu bq ba ?_;refine wW ?_;refine wB ?_;obtain⟨aN,g,hF⟩:=Rx g hF;refine wW ?_;refine wE hF zhP λbr hF=>?_
 refine wK [0,1,5,7,8,16] ?_;refine wI hF (λcZ hF=>?_) λcZ hF=>?_
 ·cases b8 _ (aj hF);cases ai _ (fD _ bo);refine wW ?_;try simp[go_sem,g]
 refine wW ?_;exact wi bq ba (bD _) (aj hF)
def Mo(a0:List Int)(yl:List Int):Option Bool:=
 (Ps a0 yl).bind λz1=>
 J (decide (0<=z1))
def zet{a0 yl r}(hr:Mo a0 yl=J r):au Tryz.prog 115 [(.sh,vC a0),(.sh,.func (.func 116) [] [.fp [.func (.func 70) [] [.fp [vC yl]]]])] (Eo (.bool r) cO):=by
 apply pF 9 [] [] [] [.tmp 4] hr Nh Tryz.func115;intro Φ ai hF g;unfold Mo at hF;refine wW ?_;refine wE hF zeF λz1 hF=>?_
 exact wl ai hF
def IA(a0:List Int)(qA:List Int):Option Bool:=
 (Mo a0 qA).bind λz1=>
 J (!z1)
def zia{a0 qA r}(hr:IA a0 qA=J r):au Tryz.prog 69 [(.sh,vC a0),(.sh,.func (.func 70) [] [.fp [vC qA]])] (Eo (.bool r) cO):=by
 apply pF 9 [] [] [1000000] [.tmp 4] hr N0 Tryz.func69;intro Φ ai hF g;unfold IA at hF;refine wW ?_;refine wE hF zet λz1 hF=>?_
 exact wl ai hF
def FH(a0:List Int)(a1:Int):Option Int:=
 ((aU (σ:=Unit) (λi5 s4=>
 (ix a0 i5).bind λaN=>
 if(a1==aN)=Z then(
 J (.out (.inr i5)))else(
 J (.go ()))) (λs4=>.inl ()) (a0.length) 0 ():Option (Unit ⊕ Int)).bind (Sum.elim (λx3=>
 J (-1)) J))
def zlz{a0 a1 r}(hr:FH a0 a1=J r):au Tryz.prog 175 [(.sh,vC a0),(.sh,.int .i64 a1)] (Eo (.int .i64 r) cO):=by
 apply pF 19 [] [] [] [.tmp 4] hr zFs Tryz.func175;intro Φ ai hF g;unfold FH at hF
 iterate 2 (try simp[go_sem,g];try intros;refine bh ?_)
 refine wS hF (λx3=>[]) (λx3 hF=>?_) λ_ ao fD hF=>?_
 ·exact wl ai hF
 refine wB ?_;obtain⟨uW,kB,bo⟩:=hF;refine bU kB [0,1,7] (λi5 s4=>[(8,.v (.int .i64 i5))]) (λs4 _ np=>?_) λi5 s4 _ _ bq ba b8 bD hF=>?_
 ·exact wn np (ao _) bo
 refine wW ?_;refine wu bq ba ?_;refine wW ?_;refine wB ?_;obtain⟨aN,g,hF⟩:=Rx g hF;refine wW ?_;refine wK [0,1,5,7,8,16] ?_;refine wI hF (λfB hF=>?_) λfB hF=>?_
 ·cases b8 _ (aj hF);cases ai _ (fD _ bo);refine wW ?_;try simp[go_sem,g]
 refine wW ?_;exact wi bq ba (bD _) (aj hF)
def Ig(a0:List Int)(a1:Int):Option Bool:=
 (FH a0 a1).bind λz1=>
 J (decide (0<=z1))
def zks{a0 a1 r}(hr:Ig a0 a1=J r):au Tryz.prog 117 [(.sh,vC a0),(.sh,.int .i64 a1)] (Eo (.bool r) cO):=by
 apply pF 9 [] [] [] [.tmp 4] hr zHx Tryz.func117;intro Φ ai hF g;unfold Ig at hF;refine wW ?_;refine wE hF zlz λz1 hF=>?_
 exact wl ai hF
def Gg(a0:List Int):Option Bool:=
 ((aU (σ:=Unit) (λi5 s4=>
 (ix a0 i5).bind λaN=>
 gd (0<=i5)<|
 gd (0<=i5.toNat/\i5.toNat<=a0.length)<|
 (Ig ((a0.take i5.toNat).drop 0) aN).bind λbr=>
 if br=Z then(
 J (.out (.inr aa)))else(
 J (.go ()))) (λs4=>.inl ()) (a0.length) 0 ():Option (Unit ⊕ Bool)).bind (Sum.elim (λx3=>
 J Z) J))
def zm4{a0 r}(hr:Gg a0=J r):au Tryz.prog 71 [(.sh,vC a0)] (Eo (.bool r) [.ax]):=by
 apply pF 18 [] [] [] [.tmp 2] hr zN7 Tryz.func71;intro Φ ai hF g;unfold Gg at hF
 iterate 2 (try simp[go_sem,g];try intros;refine bh ?_)
 refine wS hF (λx3=>[]) (λx3 hF=>?_) λ_ ao fD hF=>?_
 ·exact wl ai hF
 refine wB ?_;obtain⟨oq,fT,bo⟩:=hF;refine bU fT [0,5,6] (λi5 s4=>[(7,.v (.int .i64 i5))]) (λs4 _ iy=>?_) λi5 s4 _ _ bq ba b8 bD hF=>?_
 ·exact wn iy (ao _) bo
 refine wW ?_;refine wu bq ba ?_;refine wW ?_;refine wB ?_;obtain⟨aN,g,hF⟩:=Rx g hF;refine wK [0,3,4,5,6,7] ?_
 iterate 2 obtain⟨g,hF⟩:=Rg g hF
 refine wE hF zks λbr hF=>?_
 refine wW ?_;refine wI hF (λcZ hF=>?_) λcZ hF=>?_
 ·cases b8 _ (aj hF);cases ai _ (fD _ bo);refine wW ?_;try simp[go_sem,g]
 refine wW ?_;exact wi bq ba (bD _) (aj hF)
def Ln(a0:List Int):Option Bool:=
 ((if decide ((a0.length:Int)<=24)=Z then(
 (IA a0 a0).bind λz5=>
 if z5=Z then(
 (Gg a0).bind λz7=>
 J z7)else(
 J aa))else(
 J aa):Option Bool).bind λx3=>
 J x3)
def zmp{a0 r}(hr:Ln a0=J r):au Tryz.prog 26 [(.sh,vC a0)] (Eo (.bool r) [.ax]):=by
 apply pF 15 [] [] [1000000] [.tmp 2] hr zNY Tryz.func26;intro Φ ai hF g;unfold Ln at hF;refine wW ?_;refine wJ hF (λx3=>[(2,.v (.bool x3))]) (λx3 hF=>?_) λ_ ao hF=>?_
 ·exact wm ai hF
 try simp[go_sem,g]
 try intros
 refine wG hF (λh4 hF=>?_) λh4 hF=>?_
 ·try simp[go_sem,g,h4]
  refine wE hF zia λz5 hF=>?_
  try simp[go_sem,g,h4]
  refine wG hF (λh6 hF=>?_) λh6 hF=>?_
  ·try simp[go_sem,g,h6]
   refine wE hF zm4 λz7 hF=>?_
   exact wV h6 (ao _) (aj hF)
  exact wV h6 (ao _) (aj hF)
 exact wV h4 (ao _) (aj hF)
def Jp(a0:an)(a1:Int):Option Bool:=
 (pY a1 0 (i64.wrap (a0.Q-1))).bind λz1=>
 J z1
def znu{a0 a1 r}(hr:Jp a0 a1=J r):au Tryz.prog 123 [(.sh,vE a0),(.sh,.int .i64 a1)] (Eo (.bool r) cO):=by
 apply pF 10 [] [] [] [.tmp 4] hr zGs Tryz.func123;intro Φ ai hF g;unfold Jp at hF;refine wW ?_;refine wE hF uT λz1 hF=>?_
 exact wl ai hF
def LF(a0:Int)(ye:an):Option Bool:=
 (Jp ye a0).bind λz1=>
 J (!z1)
def ziq{a0 ye r}(hr:LF a0 ye=J r):au Tryz.prog 116 [(.sh,.int .i64 a0),(.sh,.fp [.func (.func 123) [vE ye] []])] (Eo (.bool r) cO):=by
 apply pF 8 [] [] [] [.tmp 3] hr NN Tryz.func116;intro Φ ai hF g;unfold LF at hF;refine wW ?_;refine wE hF znu λz1 hF=>?_
 exact wl ai hF
def UI(a0:List Int)(mg:an):Option Int:=
 ((aU (σ:=Unit) (λi5 s4=>
 (ix a0 i5).bind λaN=>
 (LF aN mg).bind λbr=>
 if br=Z then(
 J (.out (.inr i5)))else(
 J (.go ()))) (λs4=>.inl ()) (a0.length) 0 ():Option (Unit ⊕ Int)).bind (Sum.elim (λx3=>
 J (-1)) J))
def ze5{a0 mg r}(hr:UI a0 mg=J r):au Tryz.prog 174 [(.sh,vC a0),(.sh,.func (.func 116) [] [.fp [.func (.func 123) [vE mg] []]])] (Eo (.int .i64 r) cO):=by
 apply pF 19 [] [] [] [.tmp 4] hr M5 Tryz.func174;intro Φ ai hF g;unfold UI at hF
 iterate 2 (try simp[go_sem,g];try intros;refine bh ?_)
 refine wS hF (λx3=>[]) (λx3 hF=>?_) λ_ ao fD hF=>?_
 ·exact wl ai hF
 refine wB ?_;obtain⟨oq,fT,bo⟩:=hF;refine bU fT [0,1,7] (λi5 s4=>[(8,.v (.int .i64 i5))]) (λs4 _ iy=>?_) λi5 s4 _ _ bq ba b8 bD hF=>?_
 ·exact wn iy (ao _) bo
 refine wW ?_;refine wu bq ba ?_;refine wW ?_;refine wB ?_;obtain⟨aN,g,hF⟩:=Rx g hF;refine wW ?_;refine wE hF ziq λbr hF=>?_
 refine wK [0,1,5,7,8,16] ?_;refine wI hF (λcZ hF=>?_) λcZ hF=>?_
 ·cases b8 _ (aj hF);cases ai _ (fD _ bo);refine wW ?_;try simp[go_sem,g]
 refine wW ?_;exact wi bq ba (bD _) (aj hF)
def QG(a0:List Int)(mg:an):Option Bool:=
 (UI a0 mg).bind λz1=>
 J (decide (0<=z1))
def zeH{a0 mg r}(hr:QG a0 mg=J r):au Tryz.prog 115 [(.sh,vC a0),(.sh,.func (.func 116) [] [.fp [.func (.func 123) [vE mg] []]])] (Eo (.bool r) cO):=by
 apply pF 9 [] [] [] [.tmp 4] hr Nh Tryz.func115;intro Φ ai hF g;unfold QG at hF;refine wW ?_;refine wE hF ze5 λz1 hF=>?_
 exact wl ai hF
def O0(a0:List Int)(yQ:an):Option Bool:=
 (QG a0 yQ).bind λz1=>
 J (!z1)
def zi3{a0 yQ r}(hr:O0 a0 yQ=J r):au Tryz.prog 69 [(.sh,vC a0),(.sh,.func (.func 123) [vE yQ] [])] (Eo (.bool r) cO):=by
 apply pF 9 [] [] [1000000] [.tmp 4] hr N0 Tryz.func69;intro Φ ai hF g;unfold O0 at hF;refine wW ?_;refine wE hF zeH λz1 hF=>?_
 exact wl ai hF
def v3(a0:an)(a1:List Int):Option Bool:=
 (O0 a1 a0).bind λz1=>
 J z1
def IH{a0 a1 r}(hr:v3 a0 a1=J r):au Tryz.prog 78 [(.sh,vE a0),(.sh,vC a1)] (Eo (.bool r) cO):=by
 apply pF 9 [] [] [] [.tmp 4] hr zKn Tryz.func78;intro Φ ai hF g;unfold v3 at hF;refine wW ?_;refine wE hF zi3 λz1 hF=>?_
 exact wl ai hF
def B6(a0:an)(a1:List Int)(a2:List Int)(a3:Int):Option Bool:=
 (((Ln a1).bind λz4=>
 if z4=Z then(
 if((a1.length:Int)==a3)=Z then(
 if((a2.length:Int)==a3)=Z then(
 (v3 a0 a2).bind λz8=>
 J z8)else(
 J aa))else(
 J aa))else(
 J aa):Option Bool).bind λx3=>
 J x3)
def Vj{a0 a1 a2 a3 r}(hr:B6 a0 a1 a2 a3=J r):au Tryz.prog 31 [(.sh,vE a0),(.sh,vC a1),(.sh,vC a2),(.sh,.int .i64 a3)] (Eo (.bool r) kY):=by
 apply pF 28 [] [] [] [.tmp 8] hr zLk Tryz.func31;intro Φ ai hF g;unfold B6 at hF;refine wW ?_;refine wJ hF (λx3=>[(8,.v (.bool x3))]) (λx3 hF=>?_) λ_ ao hF=>?_
 ·exact wm ai hF
 refine wE hF zmp λz4 hF=>?_
 refine wG hF (λh5 hF=>?_) λh5 hF=>?_
 ·try simp[go_sem,g,h5]
  try intros
  refine wG hF (λh6 hF=>?_) λh6 hF=>?_
  ·try simp[go_sem,g,h6]
   try intros
   refine wG hF (λh7 hF=>?_) λh7 hF=>?_
   ·try simp[go_sem,g,h7]
    refine wE hF IH λz8 hF=>?_
    exact wV h7 (ao _) (aj hF)
   exact wV h7 (ao _) (aj hF)
  exact wV h6 (ao _) (aj hF)
 exact wV h5 (ao _) (aj hF)
def AG(a0:Int)(a1:Int):Option Int:=
 gd (a1≠0)<|
 gd (a1≠0)<|
 J ((i64.wrap ((a0.tmod a1)+a1)).tmod a1)
def VN{a0 a1 r}(hr:AG a0 a1=J r):au Tryz.prog 178 [(.sh,.int .i64 a0),(.sh,.int .i64 a1)] (Eo (.int .i64 r) cO):=by
 apply pF 12 [] [] [] [.tmp 4] hr zFG Tryz.func178;intro Φ ai hF g;unfold AG at hF
 iterate 2 obtain⟨g,hF⟩:=Rz g hF
 cases ai _ (aj hF)
 iterate 2 refine wW ?_
 try simp[go_sem,g]
def cU(a0:an)(a1:Int)(a2:Int):Option Int:=
 (AG a2 a0.Q).bind λz1=>
 (n6 a1 z1 a0.P).bind λz2=>
 J z2
def eP{a0 a1 a2 r}(hr:cU a0 a1 a2=J r):au Tryz.prog 134 [(.sh,vE a0),(.sh,.int .i64 a1),(.sh,.int .i64 a2)] (Eo (.int .i64 r) gH):=by
 apply pF 15 [] [] [] [.tmp 6] hr zH6 Tryz.func134;intro Φ ai hF g;unfold cU at hF;refine wW ?_;refine wZ (kE [0,1,2,3,5,6,4,7,8] [0,0,25,26,25,26,3,3,0]) follows ?_;refine wE hF VN λz1 hF=>?_
 refine wE hF FC λz2 hF=>?_
 refine wK [6] ?_;exact wm ai hF
def er(a0:an)(a1:List Int):Option Int:=
 ((aU (σ:=Int) (λi5 s4=>
 (ix a1 i5).bind λaN=>
 gd (a0.P≠0)<|
 J (.go ((i64.wrap (s4*aN)).tmod a0.P))) (λs4=>s4) (a1.length) 0 1:Option Int).bind λx3=>
 J x3)
def ip{a0 a1 r}(hr:er a0 a1=J r):au Tryz.prog 135 [(.sh,vE a0),(.sh,vC a1)] (Eo (.int .i64 r) cO):=by
 apply pF 22 [] [] [] [.tmp 4] hr zG1 Tryz.func135;intro Φ ai hF g;unfold er at hF
 iterate 3 (try simp[go_sem,g];try intros;refine bh ?_)
 refine wJ hF (λx3=>[(5,.v (.int .i64 x3))]) (λx3 hF=>?_) λ_ ao hF=>?_
 ·exact wl ai hF
 refine wB ?_;obtain⟨yI,mq,bo⟩:=hF;refine bU mq [2,8,9] (λi5 s4=>[(5,.v (.int .i64 s4)),(10,.v (.int .i64 i5))]) (λs4 _ pH=>?_) λi5 s4 _ _ bq ba b8 bD hF=>?_
 ·exact wn pH (ao _) bo
 refine wW ?_;refine wu bq ba ?_;refine wW ?_;refine wB ?_;obtain⟨aN,g,hF⟩:=Rx g hF;refine wK [2,5,7,8,9,10] ?_;obtain⟨g,hF⟩:=Rz g hF;refine wW ?_;exact wi bq ba (bD _) (aj hF)
def Il(a0:an)(a1:Int)(a2:Int)(a3:Int):Option aq:=
 (cU a0 a0.G a3).bind λz1=>
 (cU a0 a1 a3).bind λz2=>
 (er a0 [a2,z2]).bind λz3=>
 J (aq.mk z1 z3)
def zmY{a0 a1 a2 a3 r}(hr:Il a0 a1 a2 a3=J r):au Tryz.prog 125 [(.sh,vE a0),(.sh,.int .i64 a1),(.sh,.int .i64 a2),(.sh,.int .i64 a3)] (Eo (vF r) kY):=by
 apply pF 23 [] [] [] [.cell 8 86] hr zGa Tryz.func125;intro Φ ai hF g;unfold Il at hF;refine wW ?_;refine wZ (kE [0,1,2,3,5,6,7,8,9,4,10,11,12,13,14] [34,33,34,0,34,0,34,0,0,3,3,0,6,0,66]) follows ?_;refine wE hF eP λz1 hF=>?_
 refine wE hF eP λz2 hF=>?_
 refine wE hF ip λz3 hF=>?_
 refine wK [8] ?_;exact wm ai hF
def Pu(a0:an)(a1:aq)(a2:aq):Option aq:=
 (er a0 [a1.A,a2.A]).bind λz1=>
 (er a0 [a1.B,a2.B]).bind λz2=>
 J (aq.mk z1 z2)
def zm5{a0 a1 a2 r}(hr:Pu a0 a1 a2=J r):au Tryz.prog 124 [(.sh,vE a0),(.sh,vF a1),(.sh,vF a2)] (Eo (vF r) gH):=by
 apply pF 22 [] [] [] [.cell 6 86] hr zFH Tryz.func124;intro Φ ai hF g;unfold Pu at hF;refine wW ?_;refine wZ (kE [0,1,2,3,4,5,7,8,9,10,11,12,6,13,14,15] [26,33,34,41,42,0,26,33,34,41,42,0,6,6,0,50]) follows ?_;refine wE hF ip λz1 hF=>?_
 refine wE hF ip λz2 hF=>?_
 refine wK [6] ?_;exact wm ai hF
def Hx(a0:an)(a1:Int)(a2:aq)(a3:Int):Option aq:=
 (Il a0 a1 1 a3).bind λz1=>
 (Pu a0 a2 z1).bind λz2=>
 J z2
def zlD{a0 a1 a2 a3 r}(hr:Hx a0 a1 a2 a3=J r):au Tryz.prog 79 [(.sh,vE a0),(.sh,.int .i64 a1),(.sh,vF a2),(.sh,.int .i64 a3)] (Eo (vF r) kY):=by
 apply pF 16 [] [] [] [.cell 8 86] hr zKm Tryz.func79;intro Φ ai hF g;unfold Hx at hF;refine wW ?_;refine wZ (kD 0 [34,50,34,0,0,3,3,66]) follows ?_;refine wE hF zmY λz1 hF=>?_
 refine wE hF zm5 λz2 hF=>?_
 refine wK [8] ?_;exact wm ai hF
def CC(a0:an)(a1:Int)(a2:List aq)(a3:List Int)(a4:List Int):Option ((List aq)):=
 ((aU (σ:=(List aq)) (λi5 s4=>
 (ix a3 i5).bind λaN=>
 (ix a2 aN).bind λcC=>
 (ix a4 i5).bind λfQ=>
 (Hx a0 a1 cC fQ).bind λdK=>
 gd ((s4.length+1)*16<=140737488355328/\s4.length+1<=4611686018427387904)<|
 J (.go (s4++[dK]))) (λs4=>s4) (a3.length) 0 []:Option ((List aq))).bind λx3=>
 J x3)
def Tw{a0 a1 a2 a3 a4 r}(hr:CC a0 a1 a2 a3 a4=J r):au Tryz.prog 32 [(.sh,vE a0),(.sh,.int .i64 a1),(.sh,vH a2),(.sh,vC a3),(.sh,vC a4)] (Eo (vG r) rU):=by
 apply pF 38 [] [] [] [.tmp 10] hr zMX Tryz.func32;intro Φ ai hF g;unfold CC at hF
 iterate 3 (try simp[go_sem,g];try intros;refine bh ?_)
 refine wJ hF (λx3=>[(11,.v (vG x3))]) (λx3 hF=>?_) λ_ ao hF=>?_
 ·exact wl ai hF
 refine wB ?_;obtain⟨CO,pi,bo⟩:=hF;refine bU pi [1,2,4,5,15,16] (λi5 s4=>[(11,.v (vG s4)),(17,.v (.int .i64 i5))]) (λs4 _ oI=>?_) λi5 s4 _ _ bq ba b8 bD hF=>?_
 ·exact wn oI (ao _) bo
 refine wW ?_;refine wu bq ba ?_;refine wW ?_;refine wB ?_;obtain⟨aN,g,hF⟩:=Rx g hF;refine wK [1,2,4,5,11,12,13,15,16,17] ?_;refine wZ (kD 0 [0,42,0,0,0,0,0,0,0,0,0,3,0,5,0]) follows ?_;obtain⟨cC,g,hF⟩:=Rx g hF;obtain⟨fQ,g,hF⟩:=Rx g hF;refine wE hF zlD λdK hF=>?_
 obtain⟨g,hF⟩:=Rg g hF;refine wK [1,2,4,5,11,15,16,17] ?_;exact wi bq ba (bD _) (aj hF)
def jg(aO:List Int)(a1:Int):Option (List Int×List Int):=
 gd (0<=a1)<|
 gd (0<=a1.toNat/\a1.toNat<=aO.length)<|
 gd (0<=a1)<|
 gd (a1.toNat<=aO.length/\aO.length<=aO.length)<|
 J ((aO.take a1.toNat).drop 0,(aO.take aO.length).drop a1.toNat)
def mY{aO a1 r}(hr:jg aO a1=J r):au Tryz.prog 126 [(.io,.bx [vC aO]),(.sh,.int .i64 a1)] (Eo (vC r.1) [.bx [vC r.2],.ax]):=by
 apply pF 22 [0] [] [] [.tmp 4] hr zIk Tryz.func126;intro Φ ai hF g;unfold jg at hF
 iterate 4 obtain⟨g,hF⟩:=Rg g hF
 iterate 2 refine wW ?_
 refine wK [0,5] ?_;exact wl ai hF
def su(aO:List Int):Option (Int×List Int):=
 (jg aO 1).bind λz1=>
 (ix z1.1 0).bind λx2=>
 J (x2,z1.2)
def AU{aO r}(hr:su aO=J r):au Tryz.prog 127 [(.io,.bx [vC aO])] (Eo (.int .i64 r.1) [.bx [vC r.2]]):=by
 apply pF 7 [0] [] [] [.tmp 2] hr zG7 Tryz.func127;intro Φ ai hF g;unfold su at hF;refine wW ?_;refine wC hF [.io,.sh] mY λz1 hF=>?_
 obtain⟨x2,g,hF⟩:=fj g 0 hF;exact wl ai hF
def Kf(a0:an)(a1:cA)(a2:List Int)(a3:List Int):Option ((List Int)):=
 gd (0<=(a2.length:Int)/\(a2.length:Int)<=(a2.length:Int)/\8*(a2.length:Int)<=140737488355328/\(a2.length:Int)<=4611686018427387904)<|
 (J (List.replicate a2.length 0)).bind λx1=>
 ((aU (σ:=(List Int)) (λmS du=>
 (ix a2 mS).bind λfR=>
 (ix a3 fR).bind λgi=>
 (ix a1.Hs mS).bind λjo=>
 (cU a0 a0.G gi).bind λeX=>
 (er a0 [eX,jo]).bind λfy=>
 (ix du fR).bind λnk=>
 J (.go (du.set fR.toNat fy))) (λdu=>du) (a2.length) 0 x1:Option ((List Int))).bind λx6=>
 J x6)
def zkf{a0 a1 a2 a3 r}(hr:Kf a0 a1 a2 a3=J r):au Tryz.prog 128 [(.sh,vE a0),(.sh,vJ a1),(.sh,vC a2),(.sh,vC a3)] (Eo (vD r) kY):=by
 apply pF 43 [] [] [] [.tmp 8] hr zHc Tryz.func128;intro Φ ai hF g;unfold Kf at hF;obtain⟨g,hF⟩:=Rg g hF;obtain⟨x1,e2,hF⟩:=mM hF;have g3:List.replicate a2.length ([.int .i64 0]:List PV)=x1.map aL:=by injection e2 with e2;rw[<-e2];simp[go_sem]
 iterate 2 (try simp[go_sem,g,g3];try intros;refine bh ?_)
 try simp[go_sem,g,g3]
 try intros
 refine wK [3,4,5,9,15,16,17] ?_;refine wJ hF (λx6=>[(9,.v (vD x6))]) (λx6 hF=>?_) λ_ Af hF=>?_
 ·exact wl ai hF
 refine wB ?_;obtain⟨b33,Vb,K4⟩:=hF;refine bU Vb [3,4,5,15,16] (λmS du=>[(9,.v (vD du)),(17,.v (.int .i64 mS))]) (λdu _ R8=>?_) λmS du _ _ t5 kW Tc LG hF=>?_
 ·exact wn R8 (Af _) K4
 refine wW ?_;refine wu t5 kW ?_;refine wW ?_;refine wB ?_;obtain⟨fR,g,hF⟩:=Rx g hF;refine wW ?_;refine wZ (kE [0,1,2,3,4,5,6,7,8,9,11,12,13,14,15,10,16,17,18,19] [0,0,34,34,33,34,0,0,0,0,41,42,0,0,0,4,0,6,0,0]) follows ?_;obtain⟨gi,g,hF⟩:=Rx g hF;obtain⟨jo,g,hF⟩:=Rx g hF;refine wD hF eP λeX hF=>?_
 refine wE hF ip λfy hF=>?_
 obtain⟨nk,g,hF⟩:=Rx g hF;refine wK [3,4,5,9,15,16,17] ?_;exact wi t5 kW (LG _) (aj hF)
def M1(a0:List aq):Option (List aq):=
 gd (a0.length*16<=140737488355328/\a0.length<=4611686018427387904)<|
 J a0
def zhF{a0:(List aq)}{r:(List aq)}(hr:M1 a0=J r):au Tryz.prog 58 [(.sh,.sl aa 2 (a0.map jE))] (Eo (.sl Z 2 (r.map jE)) [.ax]):=by
 apply Sy 8 [] [] [1000000] [.tmp 2] hr zLv Tryz.func58 rfl rfl rfl
 ·exact⟨by simp,rfl⟩
 intro Φ ai hF;unfold M1 at hF;obtain⟨g,hF⟩:=ut hF;have h1:=ai _ (aj hF);subst h1;try simp[go_sem]
 refine Is [(0,.v (.sl aa 2 (a0.map jE)))] (by simp[go_sem]) ?_;try simp[go_sem]
 refine zvg rfl rfl (by simp[go_sem]) rfl (by rfl) λb hb=>?_
 try simp[go_sem]
 refine bh ?_
 repeat rw[Q1]
 cases b
 ·refine Vy (by simp[go_sem]) ?_;try simp[go_sem]
  refine bh ?_;try simp[go_sem,g]
  refine bh ?_;try simp[go_sem,g]
 have yA:a0=[]:=by
  cases a0 with
  |nil=>rfl
  |cons x l=>exact absurd (hb (by simp)) (by simp)
 subst yA;refine MF (by simp[go_sem]) ?_;try simp[go_sem]
 refine bh ?_;try simp[go_sem]
def qY(a0:Int)(a1:List aq)(a2:List aq)(a3:List Int):Option ((List Int)):=
 (M1 a1).bind λz1=>
 gd ((z1.length+a2.length)*16<=140737488355328/\z1.length+a2.length<=4611686018427387904)<|
 (J (z1++a2)).bind λx2=>
 ((aU (σ:=(List Int)) (λi8 s7=>
 (ix x2 i8).bind λfb=>
 gd ((s7.length+2)*8<=140737488355328/\s7.length+2<=4611686018427387904)<|
 J (.go (s7++[fb.A,fb.B]))) (λs7=>s7) (x2.length) 0 [a0]:Option ((List Int))).bind λx6=>
 gd ((x6.length+a3.length)*8<=140737488355328/\x6.length+a3.length<=4611686018427387904)<|
 J (x6++a3))
def Hj{a0 a1 a2 a3 r}(hr:qY a0 a1 a2 a3=J r):au Tryz.prog 129 [(.sh,.int .i64 a0),(.sh,vH a1),(.sh,vH a2),(.sh,vC a3)] (Eo (vD r) kY):=by
 apply pF 34 [] [] [] [.tmp 8] hr zF2 Tryz.func129;intro Φ ai hF g;unfold qY at hF
 iterate 2 refine wW ?_
 refine wE hF zhF λz1 hF=>?_
 obtain⟨g,hF⟩:=Rg g hF;obtain⟨x2,e3,hF⟩:=mM hF;have g:=And.intro g (show List.map jE z1++List.map jE a2=x2.map jE by injection e3 with e3;rw[<-e3];simp[go_sem]);try simp[go_sem,g]
 try intros
 refine wK [3,9,17,18,19] ?_;refine wJ hF (λx6=>[(3,.v (vC a3)),(9,.v (vD x6))]) (λx6 hF=>?_) λ_ Af hF=>?_
 ·obtain⟨g,hF⟩:=Rg g hF;exact wl ai hF
 refine wB ?_;obtain⟨CO,pi,a3H⟩:=hF;refine bU pi [3,17,18] (λi8 s7=>[(9,.v (vD s7)),(19,.v (.int .i64 i8))]) (λs7 _ oI=>?_) λi8 s7 _ _ Jg ZP ho9 a24 hF=>?_
 ·exact wn oI (Af _) a3H
 refine wW ?_;refine wu Jg ZP ?_;refine wW ?_;refine wB ?_;obtain⟨fb,g,hF⟩:=Rx g hF;obtain⟨g,hF⟩:=Rg g hF;refine wW ?_;refine wK [3,9,17,18,19] ?_;exact wi Jg ZP (a24 _) (aj hF)
def vh(a0:List Int):Option (List Int):=
 gd (a0.length*8<=140737488355328/\a0.length<=4611686018427387904)<|
 J a0
def Pg{a0:(List Int)}{r:(List Int)}(hr:vh a0=J r):au Tryz.prog 64 [(.sh,.sl aa 1 (a0.map aL))] (Eo (.sl Z 1 (r.map aL)) [.ax]):=by
 apply Sy 8 [] [] [1000000] [.tmp 2] hr zMx Tryz.func64 rfl rfl rfl
 ·exact⟨by simp,rfl⟩
 intro Φ ai hF;unfold vh at hF;obtain⟨g,hF⟩:=ut hF;have h1:=ai _ (aj hF);subst h1;try simp[go_sem]
 refine Is [(0,.v (.sl aa 1 (a0.map aL)))] (by simp[go_sem]) ?_;try simp[go_sem]
 refine zvg rfl rfl (by simp[go_sem]) rfl (by rfl) λb hb=>?_
 try simp[go_sem]
 refine bh ?_
 repeat rw[Q1]
 cases b
 ·refine Vy (by simp[go_sem]) ?_;try simp[go_sem]
  refine bh ?_;try simp[go_sem,g]
  refine bh ?_;try simp[go_sem,g]
 have yA:a0=[]:=by
  cases a0 with
  |nil=>rfl
  |cons x l=>exact absurd (hb (by simp)) (by simp)
 subst yA;refine MF (by simp[go_sem]) ?_;try simp[go_sem]
 refine bh ?_;try simp[go_sem]
def m7(a0:an)(a1:ByteArray)(a2:List Int):Option (Int×Bool):=
 gd (([a0.P,a0.Q,a0.G].length+a2.length)*8<=140737488355328/\[a0.P,a0.Q,a0.G].length+a2.length<=4611686018427387904)<|
 (DO a1 ([a0.P,a0.Q,a0.G]++a2)).bind λz1=>
 if(!z1.2)=Z then(
 J (0,aa))else(
 gd (a0.Q≠0)<|
 J (z1.1.tmod a0.Q,Z))
def yn{a0 a1 a2 r}(hr:m7 a0 a1 a2=J r):au Tryz.prog 137 [(.sh,vE a0),(.sh,.str a1),(.sh,vC a2)] (Eo (.bS [.int .i64 r.1,.bool r.2]) gH):=by
 apply pF 30 [] [] [] [.tmp 6,.tmp 7] hr zEU Tryz.func137;intro Φ ai hF g;unfold m7 at hF;obtain⟨g,hF⟩:=Rg g hF;refine wW ?_;refine wE hF zjs λz1 hF=>?_
 refine wK [3,8,9] ?_;refine wW ?_;refine wI hF (λh2 hF=>?_) λh2 hF=>?_
 ·exact wl ai hF
 obtain⟨g,hF⟩:=Rz g hF;cases ai _ (aj hF)
 iterate 2 refine wW ?_
 try simp[go_sem,g]
def A0(a0:an)(a1:ByteArray)(a2:List Int)(a3:Int):Option (List Int×Bool):=
 ((dP (σ:=(List Int)×Int) (λs4=>
 if decide (s4.2<(if a3<1 then 1 else a3))=Z then(
 (vh a2).bind λbF=>
 gd ((bF.length+1)*8<=140737488355328/\bF.length+1<=4611686018427387904)<|
 (m7 a0 a1 (bF++[s4.2])).bind λbQ=>
 if(!bQ.2)=Z then(
 J (.out (.inr ([],aa))))else(
 gd ((s4.1.length+1)*8<=140737488355328/\s4.1.length+1<=4611686018427387904)<|
 J (.go (s4.1++[bQ.1],i64.wrap (s4.2+1)))))else(
 J (.out (.inl s4.1)))) ([],0):Option ((List Int) ⊕ (List Int×Bool))).bind (Sum.elim (λx3=>
 gd (0<=a3)<|
 gd (0<=a3.toNat/\a3.toNat<=x3.length)<|
 J (x3.take a3.toNat,Z)) J))
def Y0{a0 a1 a2 a3 r}(hr:A0 a0 a1 a2 a3=J r):au Tryz.prog 130 [(.sh,vE a0),(.sh,.str a1),(.sh,vC a2),(.sh,.int .i64 a3)] (Eo (.bS [vD r.1,.bool r.2]) kY):=by
 apply pF 41 [] [] [] [.tmp 8,.tmp 9] hr zFj Tryz.func130;intro Φ ai hF g;unfold A0 at hF
 iterate 3 refine wW ?_
 refine wS hF (λx3=>[(3,.v (.int .i64 a3)),(10,.v (vD x3))]) (λx3 hF=>?_) λ_ ao fD hF=>?_
 ·obtain⟨g,hF⟩:=Rg g hF;obtain⟨g,hF⟩:=Rg g hF;refine wK [8,9] ?_;exact wm ai hF
 refine wB ?_;obtain⟨uW,kB,bo⟩:=hF;refine jW kB [1,2,3,4,16] (λs4=>[(10,.v (vD s4.1)),(17,.v (.int .i64 s4.2))]) λs4 _ _ b8 bD hF=>?_
 refine wW ?_;refine wI hF (λh9 hF=>?_) λh9 hF=>?_
 ·refine wW ?_;refine wB ?_;refine wK [1,2,3,4,10,11,16,17] ?_;refine wZ (kE [0,1,2,4,5,3,6,7,8,9,10,11,12] [34,0,0,0,0,3,5,3,0,0,0,0,0]) follows ?_;refine wE hF Pg λbF hF=>?_
  obtain⟨g,hF⟩:=Rg g hF;refine wE hF yn λbQ hF=>?_
  refine wK [1,2,3,4,10,12,13,16,17] ?_;refine wW ?_;refine wI hF (λfB hF=>?_) λfB hF=>?_
  ·cases b8 _ (aj hF);cases ai _ (fD _ bo);refine wW ?_;try simp[go_sem,g]
  obtain⟨g,hF⟩:=Rg g hF
  iterate 2 refine wW ?_
  exact wT (bD _) (aj hF)
 cases b8 _ (aj hF);exact wT (ao _) bo
def Gc(a0:List Int)(a1:List Int):Option ((List Int)):=
 ((aU (σ:=(List Int)) (λi5 s4=>
 (ix a1 i5).bind λaN=>
 (ix a0 aN).bind λcC=>
 gd ((s4.length+1)*8<=140737488355328/\s4.length+1<=4611686018427387904)<|
 J (.go (s4++[cC]))) (λs4=>s4) (a1.length) 0 []:Option ((List Int))).bind λx3=>
 J x3)
def zw8{a0 a1 r}(hr:Gc a0 a1=J r):au Tryz.prog 65 [(.sh,vC a0),(.sh,vC a1)] (Eo (vD r) cO):=by
 apply pF 24 [] [] [] [.tmp 4] hr zNn Tryz.func65;intro Φ ai hF g;unfold Gc at hF
 iterate 3 (try simp[go_sem,g];try intros;refine bh ?_)
 refine wJ hF (λx3=>[(5,.v (vD x3))]) (λx3 hF=>?_) λ_ ao hF=>?_
 ·exact wl ai hF
 refine wB ?_;obtain⟨uW,kB,bo⟩:=hF;refine bU kB [0,9,10] (λi5 s4=>[(5,.v (vD s4)),(11,.v (.int .i64 i5))]) (λs4 _ np=>?_) λi5 s4 _ _ bq ba b8 bD hF=>?_
 ·exact wn np (ao _) bo
 refine wW ?_;refine wu bq ba ?_;refine wW ?_;refine wB ?_;obtain⟨aN,g,hF⟩:=Rx g hF;refine wK [0,5,7,9,10,11] ?_;obtain⟨cC,g,hF⟩:=Rx g hF;obtain⟨g,hF⟩:=Rg g hF;refine wW ?_;exact wi bq ba (bD _) (aj hF)
def Ii(a0:an)(a1:Int)(a2:List Int)(a3:List Int):Option ((List Int)):=
 ((aU (σ:=Int×List Int) (λi5 s4=>
 (ix a2 i5).bind λaN=>
 (ix a3 i5).bind λcC=>
 (cU a0 a0.G cC).bind λcN=>
 (cU a0 s4.1 aN).bind λdK=>
 (er a0 [cN,dK]).bind λew=>
 gd ((s4.2.length+1)*8<=140737488355328/\s4.2.length+1<=4611686018427387904)<|
 J (.go (ew,s4.2++[ew]))) (λs4=>s4.2) (a2.length) 0 (a1,[]):Option ((List Int))).bind λx3=>
 J x3)
def znV{a0 a1 a2 a3 r}(hr:Ii a0 a1 a2 a3=J r):au Tryz.prog 131 [(.sh,vE a0),(.sh,.int .i64 a1),(.sh,vC a2),(.sh,vC a3)] (Eo (vD r) kY):=by
 apply pF 41 [] [] [] [.tmp 8] hr zGB Tryz.func131;intro Φ ai hF g;unfold Ii at hF
 iterate 3 (try simp[go_sem,g];try intros;refine bh ?_)
 refine wJ hF (λx3=>[(9,.v (vD x3))]) (λx3 hF=>?_) λ_ ao hF=>?_
 ·exact wl ai hF
 refine wB ?_;obtain⟨b16,RZ,bo⟩:=hF;refine bU RZ [3,4,13,14] (λi5 s4=>[(1,.v (.int .i64 s4.1)),(9,.v (vD s4.2)),(15,.v (.int .i64 i5))]) (λs4 _ RT=>?_) λi5 s4 _ _ bq ba b8 bD hF=>?_
 ·exact wn RT (ao _) bo
 refine wW ?_;refine wu bq ba ?_;refine wW ?_;refine wB ?_;obtain⟨aN,g,hF⟩:=Rx g hF;refine wK [1,3,4,9,10,11,13,14,15] ?_;refine wZ (kE [0,1,2,3,4,5,6,7,9,10,11,8,12,13,14,15] [34,34,33,34,0,0,0,0,34,0,0,3,3,0,6,0]) follows ?_;obtain⟨cC,g,hF⟩:=Rx g hF;refine wE hF eP λcN hF=>?_
 refine wE hF eP λdK hF=>?_
 refine wE hF ip λew hF=>?_
 refine wK [1,3,4,9,13,14,15] ?_;obtain⟨g,hF⟩:=Rg g hF;refine wW ?_;exact wi bq ba (bD _) (aj hF)
def fa(a0:an)(a1:Int):Option Int:=
 (AG a1 a0.Q).bind λz1=>
 J z1
def kV{a0 a1 r}(hr:fa a0 a1=J r):au Tryz.prog 132 [(.sh,vE a0),(.sh,.int .i64 a1)] (Eo (.int .i64 r) cO):=by
 apply pF 9 [] [] [] [.tmp 4] hr zFL Tryz.func132;intro Φ ai hF g;unfold fa at hF;refine wW ?_;refine wE hF VN λz1 hF=>?_
 exact wl ai hF
def vd(a0:List aq):Option (List Int×List Int):=
 ((aU (σ:=(List Int)×List Int) (λi5 s4=>
 (ix a0 i5).bind λaN=>
 gd ((s4.1.length+1)*8<=140737488355328/\s4.1.length+1<=4611686018427387904)<|
 gd ((s4.2.length+1)*8<=140737488355328/\s4.2.length+1<=4611686018427387904)<|
 J (.go (s4.1++[aN.A],s4.2++[aN.B]))) (λs4=>(s4.1,s4.2)) (a0.length) 0 ([],[]):Option ((List Int×List Int))).bind λx3=>
 J (x3.1,x3.2))
def F7{a0 r}(hr:vd a0=J r):au Tryz.prog 133 [(.sh,vH a0)] (Eo (.bS [vD r.1,vD r.2]) [.ax]):=by
 apply pF 29 [] [] [] [.tmp 2,.tmp 3] hr zIn Tryz.func133;intro Φ ai hF g;unfold vd at hF
 iterate 3 (try simp[go_sem,g];try intros;refine bh ?_)
 refine wJ hF (λx3=>[(4,.v (vD x3.1)),(5,.v (vD x3.2))]) (λx3 hF=>?_) λ_ ao hF=>?_
 ·refine wK [2,3] ?_;exact wm ai hF
 refine wB ?_;obtain⟨yI,mq,bo⟩:=hF;refine bU mq [10,11] (λi5 s4=>[(4,.v (vD s4.1)),(5,.v (vD s4.2)),(12,.v (.int .i64 i5))]) (λs4 _ pH=>?_) λi5 s4 _ _ bq ba b8 bD hF=>?_
 ·exact wn pH (ao _) bo
 refine wK [4,5,10,11,12,13] ?_;refine wu bq ba ?_;refine wW ?_;refine wB ?_;obtain⟨aN,g,hF⟩:=Rx g hF;refine wW ?_;refine wZ (kE [0,1,2,3,5,6,7,8,4,9,10,11] [0,57,58,0,0,57,58,0,5,5,0,0]) follows ?_
 iterate 2 obtain⟨g,hF⟩:=Rg g hF
 refine wK [4,5,10,11,12] ?_;exact wi bq ba (bD _) (aj hF)
def mf(a0:an)(a1:List Int)(a2:List Int):Option Int:=
 ((aU (σ:=Int) (λi5 s4=>
 (ix a1 i5).bind λaN=>
 (ix a2 i5).bind λcC=>
 (cU a0 aN cC).bind λcN=>
 (er a0 [s4,cN]).bind λdK=>
 J (.go dK)) (λs4=>s4) (a1.length) 0 1:Option Int).bind λx3=>
 J x3)
def oP{a0 a1 a2 r}(hr:mf a0 a1 a2=J r):au Tryz.prog 136 [(.sh,vE a0),(.sh,vC a1),(.sh,vC a2)] (Eo (.int .i64 r) gH):=by
 apply pF 30 [] [] [] [.tmp 6] hr zHT Tryz.func136;intro Φ ai hF g;unfold mf at hF
 iterate 3 (try simp[go_sem,g];try intros;refine bh ?_)
 refine wJ hF (λx3=>[(7,.v (.int .i64 x3))]) (λx3 hF=>?_) λ_ ao hF=>?_
 ·exact wl ai hF
 refine wB ?_;obtain⟨CO,pi,bo⟩:=hF;refine bU pi [2,3,10,11] (λi5 s4=>[(7,.v (.int .i64 s4)),(12,.v (.int .i64 i5))]) (λs4 _ oI=>?_) λi5 s4 _ _ bq ba b8 bD hF=>?_
 ·exact wn oI (ao _) bo
 refine wW ?_;refine wu bq ba ?_;refine wW ?_;refine wB ?_;obtain⟨aN,g,hF⟩:=Rx g hF;refine wK [2,3,7,8,9,10,11,12] ?_;refine wZ (kD 0 [26,0,26,0,0,0,0,0,3,0,6,0]) follows ?_;obtain⟨cC,g,hF⟩:=Rx g hF;refine wE hF eP λcN hF=>?_
 refine wE hF ip λdK hF=>?_
 refine wK [2,3,7,10,11,12] ?_;exact wi bq ba (bD _) (aj hF)
def zEu:Ng Tryz.prog 162 27:=by
 intro n H e b es cG z e1 e2 h0 h1 h2 h3 h4 h5;refine TY zEE Tryz.func162 rfl rfl (by simp[Tryz.f162]) λhw=>?_
 have hn:¬n<0:=by omega
 have hw1:i64.wrap n=n:=Hi (by omega);have uv:i64.wrap 0=0:=Hi (by omega);have ei:(j9 Tryz.prog 3).isSome=Z:=by kernel_rfl
 by_cases hp:0<n
 ·have hne:n≠0:=by omega
  have yj:=h5;simp[cz]at yj;simp[Tryz.f162,fu,nr,aP,fC,dE,gG,cr,bg,eY,bC,F4,FR.put,FR.init,be,bO,di,kh,cz,Am.iX,n7,oR,v5,za,ED,qi,s8,xT,hn,e1,e2,ei,hw1,uv,hp,h1,h2,h3,h4,hne]
  first|exact yj|exact .inl yj
 have hz:n=0:=by omega
 subst hz;simp[Tryz.f162,fu,nr,aP,fC,dE,gG,cr,bg,eY,bC,F4,FR.put,FR.init,be,bO,di,kh,cz,Am.iX,n7,oR,v5,za,ED,qi,s8,xT,hn,e1,e2,hw1,uv,hp]
def pW(a0:(List (List Int))):Option ((List Int)):=
 ((aU (σ:=Int) (λi5 s4=>
 (ix a0 i5).bind λaN=>
 if decide ((i64.wrap (s4+(aN.length:Int)))<0)=Z then(
 ae)else(
 J (.go (i64.wrap (s4+(aN.length:Int)))))) (λs4=>s4) (a0.length) 0 0:Option Int).bind λx3=>
 gd (0<=x3/\8*x3<=140737488355328/\x3<=4611686018427387904)<|
 ((aU (σ:=(List Int)) (λf7 bR=>
 (ix a0 f7).bind λgi=>
 gd ((bR.length+gi.length)*8<=140737488355328/\bR.length+gi.length<=4611686018427387904)<|
 J (.go (bR++gi))) (λbR=>bR) (a0.length) 0 []:Option ((List Int))).bind λfI=>
 J fI))
def FZ{a0 r}(hr:pW a0=J r):au Tryz.prog 94 [(.sh,vK a0)] (Eo (vD r) [.ax]):=by
 apply pF 36 [] [] [] [.tmp 2] hr zNK Tryz.func94;intro Φ ai hF g;unfold pW at hF
 iterate 3 (try simp[go_sem,g];try intros;refine bh ?_)
 refine wJ hF (λx3=>[(0,.v (vK a0)),(3,.v (.int .i64 x3))]) (λx3 hF=>?_) λ_ ao hF=>?_
 ·obtain⟨Lu,hF⟩:=ut hF;try simp[go_sem,g]
  refine Tj zEu zNM (by simp[go_sem,g]) Lu ?_;try simp[go_sem,g]
  try intros
  refine bh ?_;try simp[go_sem,g]
  try intros
  refine wK [6,25,26,27] ?_;refine wJ hF (λfI=>[(6,.v (vD fI))]) (λfI hF=>?_) λ_ u9 hF=>?_
  ·exact wl ai hF
  refine wB ?_;obtain⟨M8,yq,yb⟩:=hF;refine bU yq [25,26] (λf7 bR=>[(6,.v (vD bR)),(27,.v (.int .i64 f7))]) (λbR _ DT=>?_) λf7 bR _ _ kW qt Mt zm hF=>?_
  ·exact wn DT (u9 _) yb
  refine wW ?_;refine wu kW qt ?_;refine wW ?_;refine wB ?_;obtain⟨gi,g,hF⟩:=Rx g hF;obtain⟨g,hF⟩:=Rg g hF
  iterate 2 refine wW ?_
  exact wi kW qt (zm _) (aj hF)
 refine wB ?_;obtain⟨uW,kB,bo⟩:=hF;refine bU kB [0,9,10] (λi5 s4=>[(3,.v (.int .i64 s4)),(11,.v (.int .i64 i5))]) (λs4 _ np=>?_) λi5 s4 _ _ bq ba b8 bD hF=>?_
 ·exact wn np (ao _) bo
 refine wW ?_;refine wu bq ba ?_;refine wW ?_;refine wB ?_;obtain⟨aN,g,hF⟩:=Rx g hF;try simp[go_sem,g]
 try intros
 refine bh ?_;try simp[go_sem,g]
 try intros
 refine wK [0,3,9,10,11] ?_;refine wW ?_;refine wI hF (λfB hF=>?_) λfB hF=>?_
 ·exact(NR hF).elim
 refine wW ?_;exact wi bq ba (bD _) (aj hF)
def Fs(a0:List Int)(a1:Int):Option Int:=
 ((aU (σ:=Int) (λi5 s4=>
 (ix a0 i5).bind λaN=>
 gd (a1≠0)<|
 J (.go ((i64.wrap (s4+aN)).tmod a1))) (λs4=>s4) (a0.length) 0 0:Option Int).bind λx3=>
 J x3)
def zwe{a0 a1 r}(hr:Fs a0 a1=J r):au Tryz.prog 138 [(.sh,vC a0),(.sh,.int .i64 a1)] (Eo (.int .i64 r) cO):=by
 apply pF 21 [] [] [] [.tmp 4] hr zGc Tryz.func138;intro Φ ai hF g;unfold Fs at hF
 iterate 3 (try simp[go_sem,g];try intros;refine bh ?_)
 refine wJ hF (λx3=>[(5,.v (.int .i64 x3))]) (λx3 hF=>?_) λ_ ao hF=>?_
 ·exact wl ai hF
 refine wB ?_;obtain⟨yI,mq,bo⟩:=hF;refine bU mq [1,8,9] (λi5 s4=>[(5,.v (.int .i64 s4)),(10,.v (.int .i64 i5))]) (λs4 _ pH=>?_) λi5 s4 _ _ bq ba b8 bD hF=>?_
 ·exact wn pH (ao _) bo
 refine wW ?_;refine wu bq ba ?_;refine wW ?_;refine wB ?_;obtain⟨aN,g,hF⟩:=Rx g hF;obtain⟨g,hF⟩:=Rz g hF;refine wW ?_;refine wK [1,5,8,9,10] ?_;exact wi bq ba (bD _) (aj hF)
def xe(a0:List Int)(a1:List Int)(a2:Int):Option Int:=
 ((aU (σ:=Int) (λi5 s4=>
 (ix a0 i5).bind λaN=>
 (ix a1 i5).bind λcC=>
 gd (a2≠0)<|
 gd (a2≠0)<|
 J (.go ((i64.wrap (s4+((i64.wrap (aN*cC)).tmod a2))).tmod a2))) (λs4=>s4) (a0.length) 0 0:Option Int).bind λx3=>
 J x3)
def VL{a0 a1 a2 r}(hr:xe a0 a1 a2=J r):au Tryz.prog 139 [(.sh,vC a0),(.sh,vC a1),(.sh,.int .i64 a2)] (Eo (.int .i64 r) gH):=by
 apply pF 31 [] [] [] [.tmp 6] hr zGw Tryz.func139;intro Φ ai hF g;unfold xe at hF
 iterate 3 (try simp[go_sem,g];try intros;refine bh ?_)
 refine wJ hF (λx3=>[(7,.v (.int .i64 x3))]) (λx3 hF=>?_) λ_ ao hF=>?_
 ·exact wl ai hF
 refine wB ?_;obtain⟨uW,kB,bo⟩:=hF;refine bU kB [0,1,2,10] (λi5 s4=>[(7,.v (.int .i64 s4)),(11,.v (.int .i64 i5))]) (λs4 _ np=>?_) λi5 s4 _ _ bq ba b8 bD hF=>?_
 ·exact wn np (ao _) bo
 refine wW ?_;refine wu bq ba ?_;refine wW ?_;refine wB ?_;refine wW ?_;refine wZ (kD 0 [0,0,0,0,0,0,0,0,0,0,0,0,0,0,0,0]) follows ?_;obtain⟨aN,g,hF⟩:=Rx g hF;obtain⟨cC,g,hF⟩:=Rx g hF
 iterate 2 obtain⟨g,hF⟩:=Rz g hF
 refine wK [0,1,2,7,10,11] ?_;exact wi bq ba (bD _) (aj hF)
def FE(a0:an)(a1:cA)(a2:Int)(a3:List aq)(a4:List Int)(a5:List Int)(a6:List Int):Option (cM×Bool):=
 (jg a6 (a3.length:Int)).bind λz1=>
 (jg z1.2 (a3.length:Int)).bind λz2=>
 (su z2.2).bind λz3=>
 (su z3.2).bind λz4=>
 (su z4.2).bind λz5=>
 (su z5.2).bind λz6=>
 (jg z6.2 (a3.length:Int)).bind λz7=>
 (jg z7.2 (a3.length:Int)).bind λz8=>
 (CC a0 a2 a3 a4 a5).bind λz9=>
 (Kf a0 a1 a4 z1.1).bind λbF=>
 (qY a2 a3 z9 bF).bind λbQ=>
 (A0 a0 (⟨#[109,105,120,32,99,111,108,117,109,110,115]⟩:ByteArray) bQ (a3.length:Int)).bind λbr=>
 if(!br.2)=Z then(
 J ((cM.mk [] [] (cb.mk [] [] [])),aa))else(
 (Gc br.1 a4).bind λdK=>
 (Ii a0 a1.H dK z2.1).bind λew=>
 ((aU (σ:=Int) (λrD eE=>
 (ix z2.1 rD).bind λBM=>
 (ix dK rD).bind λfR=>
 (fa a0 (i64.wrap (BM+(i64.wrap (fR*eE))))).bind λfL=>
 J (.go fL)) (λeE=>eE) (a3.length) 0 0:Option Int).bind λlT=>
 (vd z9).bind λiG=>
 (cU a0 a0.G z3.1).bind λn9=>
 (cU a0 a0.G z4.1).bind λib=>
 (mf a0 a1.Hs z8.1).bind λtv=>
 (er a0 [ib,tv]).bind λAp=>
 (cU a0 a0.G z5.1).bind λt9=>
 (cU a0 a0.G (i64.wrap (0-z6.1))).bind λZj=>
 (mf a0 iG.1 z8.1).bind λtr=>
 (er a0 [Zj,tr]).bind λI3=>
 (cU a0 a2 (i64.wrap (0-z6.1))).bind λH6=>
 (mf a0 iG.2 z8.1).bind λzR=>
 (er a0 [H6,zR]).bind λBR=>
 gd (([a1.H].length+ew.length)*8<=140737488355328/\[a1.H].length+ew.length<=4611686018427387904)<|
 (J ([a1.H]++ew)).bind λAM=>
 ((aU (σ:=(List Int)×List Int×List Int×List Int×List Int) (λi64 ky=>
 (ix z7.1 i64).bind λOz=>
 (ix AM i64).bind λHY=>
 (ix z8.1 i64).bind λnj=>
 (cU a0 a0.G Oz).bind λqe=>
 (cU a0 HY nj).bind λtR=>
 (er a0 [qe,tR]).bind λAP=>
 gd ((ky.2.2.1.length+1)*8<=140737488355328/\ky.2.2.1.length+1<=4611686018427387904)<|
 J (.go (ky.1,ky.2.1,ky.2.2.1++[AP],ky.2.2.2.1,ky.2.2.2.2))) (λky=>(ky.1,ky.2.1,ky.2.2.1,ky.2.2.2.1,ky.2.2.2.2)) (a3.length) 0 (bF,ew,[n9,Ap,t9,I3,BR],[],[]):Option ((List Int×List Int×List Int×List Int×List Int))).bind λta=>
 (pW [bQ,ta.2.1,ta.2.2.1]).bind λwU=>
 (m7 a0 (⟨#[109,105,120,32,112,114,111,111,102]⟩:ByteArray) wU).bind λnq=>
 if(!nq.2)=Z then(
 J ((cM.mk [] [] (cb.mk [] [] [])),aa))else(
 (Fs z1.1 a0.Q).bind λJz=>
 (fa a0 (i64.wrap (z3.1+(i64.wrap (nq.1*Jz))))).bind λWB=>
 (xe z1.1 br.1 a0.Q).bind λz85=>
 (fa a0 (i64.wrap (z4.1+(i64.wrap (nq.1*z85))))).bind λz86=>
 (fa a0 (i64.wrap (z5.1+(i64.wrap (nq.1*lT))))).bind λuS=>
 (xe a5 dK a0.Q).bind λou=>
 (fa a0 (i64.wrap (z6.1+(i64.wrap (nq.1*ou))))).bind λCW=>
 ((aU (σ:=(List Int)×List Int×List Int×List Int×List Int) (λLK kM=>
 (ix z7.1 LK).bind λEk=>
 (ix z2.1 LK).bind λDy=>
 (fa a0 (i64.wrap (Ek+(i64.wrap (nq.1*Dy))))).bind λKF=>
 gd ((kM.2.2.2.2.length+1)*8<=140737488355328/\kM.2.2.2.2.length+1<=4611686018427387904)<|
 J (.go (kM.1,kM.2.1,kM.2.2.1,kM.2.2.2.1,kM.2.2.2.2++[KF]))) (λkM=>(kM.1,kM.2.1,kM.2.2.1,kM.2.2.2.1,kM.2.2.2.2)) (a3.length) 0 (ta.1,ta.2.1,ta.2.2.1,[nq.1],[WB,z86,uS,CW]):Option ((List Int×List Int×List Int×List Int×List Int))).bind λjt=>
 ((aU (σ:=(List Int)×List Int×List Int×List Int×List Int) (λIz kx=>
 (ix z8.1 Iz).bind λgU=>
 (ix dK Iz).bind λa0G=>
 (fa a0 (i64.wrap (gU+(i64.wrap (nq.1*a0G))))).bind λCh=>
 gd ((kx.2.2.2.2.length+1)*8<=140737488355328/\kx.2.2.2.2.length+1<=4611686018427387904)<|
 J (.go (kx.1,kx.2.1,kx.2.2.1,kx.2.2.2.1,kx.2.2.2.2++[Ch]))) (λkx=>(kx.1,kx.2.1,kx.2.2.1,kx.2.2.2.1,kx.2.2.2.2)) (a3.length) 0 (jt.1,jt.2.1,jt.2.2.1,jt.2.2.2.1,jt.2.2.2.2):Option ((List Int×List Int×List Int×List Int×List Int))).bind λkU=>
 J ((cM.mk kU.1 kU.2.1 (cb.mk kU.2.2.1 kU.2.2.2.1 kU.2.2.2.2)),Z)))))))
set_option maxHeartbeats 1000000 in
def zkY{a0 a1 a2 a3 a4 a5 a6 r}(hr:FE a0 a1 a2 a3 a4 a5 a6=J r):au Tryz.prog 80 [(.sh,vE a0),(.sh,vJ a1),(.sh,.int .i64 a2),(.sh,vH a3),(.sh,vC a4),(.sh,vC a5),(.sh,vC a6)] (Eo (.bS [vL r.1,.bool r.2]) Qa):=by
 apply EJ 330 [] [219,221,224] [45] [.cell 14 33,.tmp 15] hr zKF Tryz.func80;intro Φ ai hF g;unfold FE at hF;try simp[go_sem,g]
 try intros
 refine bh ?_;try simp[go_sem,g]
 try intros
 refine wK [2,3,4,5,7,8,14,16,17] ?_;refine wC hF [.io,.sh] mY λz1 hF=>?_
 refine wC hF [.io,.sh] mY λz2 hF=>?_
 refine wW ?_;refine wC hF [.io] AU λz3 hF=>?_
 refine wC hF [.io] AU λz4 hF=>?_
 refine wC hF [.io] AU λz5 hF=>?_
 refine wC hF [.io] AU λz6 hF=>?_
 refine wK [2,3,4,5,7,8,14,16,17,18,19,20,21,22,23] ?_;refine wC hF [.io,.sh] mY λz7 hF=>?_
 refine wC hF [.io,.sh] mY λz8 hF=>?_
 refine wW ?_;refine wE hF Tw λz9 hF=>?_
 refine wK [2,3,4,5,7,8,14,16,18,19,20,21,22,23,24,25,26] ?_;refine wE hF zkf λbF hF=>?_
 refine wW ?_;refine wE hF Hj λbQ hF=>?_
 refine wK [2,4,5,7,8,14,16,18,19,20,21,22,23,24,25,26,27,28] ?_;refine wE hF Y0 λbr hF=>?_
 refine wW ?_;refine wK [2,4,5,7,8,14,16,18,19,20,21,22,23,24,25,26,27,28,29,92] ?_;refine wI hF (λcZ hF=>?_) λcZ hF=>?_
 ·exact wl ai hF
 refine wW ?_;refine wE hF zw8 λdK hF=>?_
 refine wW ?_;refine wE hF znV λew hF=>?_
 refine wK [2,5,7,8,14,16,18,19,20,21,22,23,24,25,26,27,28,29,31] ?_
 iterate 2 refine wW ?_
 refine bX hF [2,5,7,8,14,16,18,19,20,21,22,23,24,25,26,27,28,29,31] (λlT=>[(32,.v (.int .i64 lT))]) (λlT hF=>?_) λ_ UO hF=>?_
 ·refine wE hF F7 λiG hF=>?_
  refine wK [2,5,7,8,14,16,18,19,20,21,22,23,24,25,27,28,29,31,32,34,35] ?_;refine wZ [k2 0 7,k1 1 7,k2 2 7,k0 3,k2 5 7,k2 6 7,k1 7 7,k2 8 7,k0 9,k2 11 7,k1 12 8,k2 13 8,k0 14,k2 18 7,k1 19 7,k2 20 7,k0 21,k2 23 7,k2 24 7,k1 25 7,k2 26 7,k0 27,k0 28,k2 30 7,k0 31,k0 32,k2 36 7,k2 37 7,k0 38,k0 39,k0 40,k2 42 7,k0 43,k0 44,k3 4,k3 10,k3 15,k0 16,λ_=>⟨17,[132,143],[],ae,Z,Z,Z⟩,k3 22,k3 29,k3 33,k0 34,λ_=>⟨35,[150,161],[],ae,Z,Z,Z⟩,k3 41,k3 45,k0 46,λ_=>⟨47,[163,173],[],ae,Z,Z,Z⟩,k0 48,k1 49 27,k1 50 27,λ_=>⟨51,[177,175],[27],J 177,Z,Z,Z⟩] follows ?_;refine wE hF eP λn9 hF=>?_
  refine wE hF eP λib hF=>?_
  refine wE hF oP λtv hF=>?_
  refine wE hF ip λAp hF=>?_
  refine wE hF eP λt9 hF=>?_
  refine wE hF eP λZj hF=>?_
  refine wE hF oP λtr hF=>?_
  refine wE hF ip λI3 hF=>?_
  refine wE hF eP λH6 hF=>?_
  refine wE hF oP λzR hF=>?_
  refine wE hF ip λBR hF=>?_
  refine wK [5,7,8,14,16,18,19,20,21,22,23,24,25,27,28,29,31,32] ?_;obtain⟨g,hF⟩:=Rg g hF;obtain⟨AM,Uh,hF⟩:=mM hF;have g:=And.intro g (show[.int .i64 a1.H]::(List.map aL ew)=AM.map aL by injection Uh with Uh;rw[<-Uh];simp[go_sem])
  iterate 2 refine wW ?_
  refine bX hF [5,7,14,16,18,19,20,21,22,23,24,25,28,29,31,32] (λta=>[(27,.bl [vD ta.1,vD ta.2.1,vD ta.2.2.1,vD ta.2.2.2.1,vD ta.2.2.2.2])]) (λta hF=>?_) λ_ a4C hF=>?_
  ·refine wZ (kD 0 [58,0,217,218,217,217,218,0,6,3,0,0,0,0,0]) follows ?_;refine wE hF FZ λwU hF=>?_
   refine wE hF yn λnq hF=>?_
   refine wK [5,7,14,16,18,19,20,21,22,23,24,25,27,29,30,31,32,38] ?_;refine wW ?_;refine wI hF (λh82 hF=>?_) λh82 hF=>?_
   ·exact wl ai hF
   iterate 2 refine wW ?_
   refine wZ [k2 0 7,k0 1,k0 2,k0 3,k1 4 7,k2 5 7,k2 10 7,k0 11,k0 12,k0 13,k0 14,k1 15 7,k2 16 7,k2 21 7,k0 22,k0 23,k0 24,k0 25,k0 26,k2 28 7,k0 29,k0 30,k0 31,k0 32,k1 33 7,k2 34 7,k3 6,k0 7,k0 8,k3 9,k3 17,k0 18,k0 19,k3 20,k3 27,k3 35,k0 36,k0 37,k3 38,k0 39,k1 40 27,k1 41 27,λ_=>⟨42,[278,276],[27],J 278,Z,Z,Z⟩] follows ?_;refine wE hF zwe λJz hF=>?_
   refine wE hF kV λWB hF=>?_
   refine wE hF VL λz85 hF=>?_
   refine wE hF kV λz86 hF=>?_
   refine wE hF kV λuS hF=>?_
   refine wE hF VL λou hF=>?_
   refine wE hF kV λCW hF=>?_
   refine wK [7,14,16,19,24,25,27,31,38] ?_;refine wW ?_;refine bX hF [7,14,16,25,31,38] (λjt=>[(27,.bl [vD jt.1,vC jt.2.1,vC jt.2.2.1,vD jt.2.2.2.1,vD jt.2.2.2.2])]) (λjt hF=>?_) λ_ a5j hF=>?_
   ·refine wW ?_;refine wJ hF (λkU=>[(14,.bl [.sl Z 1 [],.sl Z 1 [],.sl Z 1 [],.sl Z 1 [],.sl Z 1 []]),(27,.bl [vD kU.1,vC kU.2.1,vC kU.2.2.1,vD kU.2.2.2.1,vD kU.2.2.2.2])]) (λkU hF=>?_) λ_ a3f hF=>?_
    ·exact wl ai hF
    refine wB ?_;obtain⟨a6n,a4d,a4k⟩:=hF;refine bU a4d [7,14,25,31,38,304] (λIz kx=>[(27,.bl [vD kx.1,vC kx.2.1,vC kx.2.2.1,vD kx.2.2.2.1,vD kx.2.2.2.2]),(305,.v (.int .i64 Iz))]) (λkx _ a4B=>?_) λIz kx _ _ a0z ZA a6f a4K hF=>?_
    ·exact wn a4B (a3f _) a4k
    refine wW ?_;refine wu a0z ZA ?_;refine wW ?_;refine wB ?_;refine wW ?_;refine wZ (kD 0 [217,217,218,58,0,0,0,0,0,0,0,0,0,0,0,3,0,5,217,217,218]) follows ?_;obtain⟨gU,g,hF⟩:=Rx g hF;obtain⟨a0G,g,hF⟩:=Rx g hF;refine wE hF kV λCh hF=>?_
    obtain⟨g,hF⟩:=Rg g hF;refine wK [7,14,25,27,31,38,304,305] ?_;exact wi a0z ZA (a4K _) (aj hF)
   refine wB ?_;obtain⟨a59,a4i,a3j⟩:=hF;refine bU a4i [7,14,16,19,24,25,31,38,279] (λLK kM=>[(27,.bl [vD kM.1,vC kM.2.1,vC kM.2.2.1,vD kM.2.2.2.1,vD kM.2.2.2.2]),(280,.v (.int .i64 LK))]) (λkM _ a3r=>?_) λLK kM _ _ a08 H7 a6k a2A hF=>?_
   ·exact wn a3r (a5j _) a3j
   refine wW ?_;refine wu a08 H7 ?_;refine wW ?_;refine wB ?_;refine wW ?_;refine wZ (kD 0 [217,217,218,58,0,0,0,0,0,0,0,0,0,0,0,3,0,5,217,217,218]) follows ?_;obtain⟨Ek,g,hF⟩:=Rx g hF;obtain⟨Dy,g,hF⟩:=Rx g hF;refine wE hF kV λKF hF=>?_
   obtain⟨g,hF⟩:=Rg g hF;refine wK [7,14,16,19,24,25,27,31,38,279,280] ?_;exact wi a08 H7 (a2A _) (aj hF)
  refine wB ?_;obtain⟨b76,a2S,a3q⟩:=hF;refine bU a2S [5,7,14,16,18,19,20,21,22,23,24,25,28,29,31,32,36,184] (λi64 ky=>[(27,.bl [vD ky.1,vD ky.2.1,vD ky.2.2.1,vD ky.2.2.2.1,vD ky.2.2.2.2]),(185,.v (.int .i64 i64))]) (λky _ a3C=>?_) λi64 ky _ _ a0d a0p a5I a4M hF=>?_
  ·exact wn a3C (a4C _) a3q
  refine wK [5,7,14,16,18,19,20,21,22,23,24,25,27,28,29,31,32,36,184,185,186] ?_;refine wu a0d a0p ?_;refine wW ?_;refine wB ?_;refine wW ?_;refine wZ (kE [0,1,2,3,4,5,6,7,8,9,10,12,13,14,15,16,17,18,19,20,11,21,22,23,24,25,26,27,28] [217,217,218,58,58,57,58,0,0,0,0,58,0,0,0,0,0,0,0,0,4,3,0,6,0,5,217,217,218]) follows ?_;obtain⟨Oz,g,hF⟩:=Rx g hF;obtain⟨HY,g,hF⟩:=Rx g hF;obtain⟨nj,g,hF⟩:=Rx g hF;refine wD hF eP λqe hF=>?_
  refine wE hF eP λtR hF=>?_
  refine wE hF ip λAP hF=>?_
  obtain⟨g,hF⟩:=Rg g hF;refine wK [5,7,14,16,18,19,20,21,22,23,24,25,27,28,29,31,32,36,184,185] ?_;exact wi a0d a0p (a4M _) (aj hF)
 refine wB ?_;obtain⟨M8,yq,JZ⟩:=hF;refine bU yq [2,5,7,8,14,16,18,19,20,21,22,23,24,25,26,27,28,29,31,104] (λrD eE=>[(32,.v (.int .i64 eE)),(105,.v (.int .i64 rD))]) (λeE _ DT=>?_) λrD eE _ _ JT t5 U3 Lc hF=>?_
 ·exact wn DT (UO _) JZ
 refine wW ?_;refine wu JT t5 ?_;refine wW ?_;refine wB ?_;refine wW ?_;refine wZ (kD 0 [58,0,0,0,0,0,0,0,0,0,0,0,3,0]) follows ?_;obtain⟨BM,g,hF⟩:=Rx g hF;obtain⟨fR,g,hF⟩:=Rx g hF;refine wE hF kV λfL hF=>?_
 refine wK [2,5,7,8,14,16,18,19,20,21,22,23,24,25,26,27,28,29,31,32,104,105] ?_;exact wi JT t5 (Lc _) (aj hF)
def qq(a0:an)(a1:Int)(a2:List aq)(a3:List Int)(a4:List Int)(a5:List Int):Option (cM×Bool):=
 (ux a0 a1 a2).bind λz1=>
 ((if(!z1.2)=Z then(
 J Z)else(
 (B6 a0 a3 a4 (a2.length:Int)).bind λz6=>
 if(!z6)=Z then(
 J Z)else(
 if((a5.length:Int) !=(i64.wrap ((i64.wrap (4*(a2.length:Int)))+4)))=Z then(
 J Z)else(
 (v3 a0 a5).bind λz9=>
 J (!z9)))):Option Bool).bind λx4=>
 if x4=Z then(
 J ((cM.mk [] [] (cb.mk [] [] [])),aa))else(
 (FE a0 z1.1 a1 a2 a3 a4 a5).bind λbQ=>
 J (bQ.1,bQ.2)))
def znm{a0 a1 a2 a3 a4 a5 r}(hr:qq a0 a1 a2 a3 a4 a5=J r):au Tryz.prog 33 [(.sh,vE a0),(.sh,.int .i64 a1),(.sh,vH a2),(.sh,vC a3),(.sh,vC a4),(.sh,vC a5)] (Eo (.bS [vL r.1,.bool r.2]) sH):=by
 apply EJ 60 [] [51] [] [.cell 12 33,.tmp 13] hr zNJ Tryz.func33;intro Φ ai hF g;unfold qq at hF;refine wW ?_;refine wE hF OY λz1 hF=>?_
 refine wK [1,2,3,4,5,6,12,14,15] ?_;refine bX hF [1,2,3,4,5,6,12,14] (λx4=>[(48,.v (.bool x4))]) (λx4 hF=>?_) λ_ cE hF=>?_
 ·refine wI hF (λdf hF=>?_) λdf hF=>?_
  ·exact wl ai hF
  refine wW ?_;refine wE hF zkY λbQ hF=>?_
  refine wK [12,13] ?_;exact wm ai hF
 refine wG hF (λh5 hF=>?_) λh5 hF=>?_
 ·exact wV h5 (cE _) (aj hF)
 try simp[go_sem,g,h5]
 try intros
 refine wE hF Vj λz6 hF=>?_
 try simp[go_sem,g,h5]
 refine wG hF (λh7 hF=>?_) λh7 hF=>?_
 ·exact wV h7 (cE _) (aj hF)
 try simp[go_sem,g,h7]
 try intros
 refine wG hF (λh8 hF=>?_) λh8 hF=>?_
 ·exact wV h8 (cE _) (aj hF)
 try simp[go_sem,g,h8]
 refine wE hF IH λz9 hF=>?_
 exact wV h8 (cE _) (aj hF)
def vw(a0:an)(a1:Int)(a2:List aq):Option (cA×Bool):=
 (ux a0 a1 a2).bind λz1=>
 if(!z1.2)=Z then(
 J ((cA.mk 0 []),aa))else(
 (kO a0 0).bind λz3=>
 J (z3.1,z3.2))
def RH{a0 a1 a2 r}(hr:vw a0 a1 a2=J r):au Tryz.prog 40 [(.sh,vE a0),(.sh,.int .i64 a1),(.sh,vH a2)] (Eo (.bS [vI r.1,.bool r.2]) gH):=by
 apply pF 24 [] [] [] [.cell 6 70,.tmp 7] hr zNe Tryz.func40;intro Φ ai hF g;unfold vw at hF;refine wW ?_;refine wE hF OY λz1 hF=>?_
 refine wK [3,6,9] ?_;refine wW ?_;refine wI hF (λh2 hF=>?_) λh2 hF=>?_
 ·exact wl ai hF
 refine wW ?_;refine wE hF zjo λz3 hF=>?_
 exact wl ai hF
def pB(a0:an)(a1:cA)(a2:Int)(a3:Int):Option Int:=
 (cU a0 a0.G a2).bind λz1=>
 (cU a0 a1.H a3).bind λz2=>
 (er a0 [z1,z2]).bind λz3=>
 J z3
def C4{a0 a1 a2 a3 r}(hr:pB a0 a1 a2 a3=J r):au Tryz.prog 141 [(.sh,vE a0),(.sh,vJ a1),(.sh,.int .i64 a2),(.sh,.int .i64 a3)] (Eo (.int .i64 r) kY):=by
 apply pF 22 [] [] [] [.tmp 8] hr zGX Tryz.func141;intro Φ ai hF g;unfold pB at hF;refine wW ?_;refine wZ (kE [0,1,2,3,4,6,7,8,9,5,10,11,12,13] [34,34,33,34,0,34,41,42,0,3,3,0,6,0]) follows ?_;refine wE hF eP λz1 hF=>?_
 refine wE hF eP λz2 hF=>?_
 refine wE hF ip λz3 hF=>?_
 refine wK [8] ?_;exact wm ai hF
def KN(a0:an)(a1:cA)(a2:List Int)(a3:List Int):Option ((List Int)):=
 ((aU (σ:=(List Int)) (λi5 s4=>
 (ix a2 i5).bind λaN=>
 (ix a3 i5).bind λcC=>
 (pB a0 a1 (i64.wrap (aN+1)) cC).bind λcN=>
 gd ((s4.length+1)*8<=140737488355328/\s4.length+1<=4611686018427387904)<|
 J (.go (s4++[cN]))) (λs4=>s4) (a2.length) 0 []:Option ((List Int))).bind λx3=>
 J x3)
def zkm{a0 a1 a2 a3 r}(hr:KN a0 a1 a2 a3=J r):au Tryz.prog 140 [(.sh,vE a0),(.sh,vJ a1),(.sh,vC a2),(.sh,vC a3)] (Eo (vD r) kY):=by
 apply pF 34 [] [] [] [.tmp 8] hr zGI Tryz.func140;intro Φ ai hF g;unfold KN at hF
 iterate 3 (try simp[go_sem,g];try intros;refine bh ?_)
 refine wJ hF (λx3=>[(9,.v (vD x3))]) (λx3 hF=>?_) λ_ ao hF=>?_
 ·refine wK [8] ?_;exact wm ai hF
 refine wB ?_;obtain⟨oq,fT,bo⟩:=hF;refine bU fT [3,4,5,13,14] (λi5 s4=>[(9,.v (vD s4)),(15,.v (.int .i64 i5))]) (λs4 _ iy=>?_) λi5 s4 _ _ bq ba b8 bD hF=>?_
 ·exact wn iy (ao _) bo
 refine wW ?_;refine wu bq ba ?_;refine wW ?_;refine wB ?_;obtain⟨aN,g,hF⟩:=Rx g hF;refine wK [3,4,5,9,10,11,13,14,15] ?_;refine wZ (kD 0 [0,34,42,0,0,0,0,0,0,3,0,5,0]) follows ?_;obtain⟨cC,g,hF⟩:=Rx g hF;refine wE hF C4 λcN hF=>?_
 obtain⟨g,hF⟩:=Rg g hF;refine wK [3,4,5,9,13,14,15] ?_;exact wi bq ba (bD _) (aj hF)
def Cx(a0:an)(a1:List Int):Option (Int×Int×Bool):=
 (m7 a0 (⟨#[109,105,120,32,121]⟩:ByteArray) a1).bind λz1=>
 (m7 a0 (⟨#[109,105,120,32,122]⟩:ByteArray) a1).bind λz2=>
 ((if(!z1.2)=Z then(
 J Z)else(
 J (!z2.2)):Option Bool).bind λx5=>
 if x5=Z then(
 J (0,0,aa))else(
 J (z1.1,z2.1,Z)))
def zjt{a0 a1 r}(hr:Cx a0 a1=J r):au Tryz.prog 142 [(.sh,vE a0),(.sh,vC a1)] (Eo (.bS [.int .i64 r.1,.int .i64 r.2.1,.bool r.2.2]) cO):=by
 apply pF 31 [] [] [] [.tmp 4,.tmp 5,.tmp 6] hr zFQ Tryz.func142;intro Φ ai hF g;unfold Cx at hF;refine wW ?_;refine wE hF yn λz1 hF=>?_
 refine wK [1,2,7,8] ?_;refine wE hF yn λz2 hF=>?_
 refine wW ?_;refine bX hF [7,9] (λx5=>[(28,.v (.bool x5))]) (λx5 hF=>?_) λ_ iu hF=>?_
 ·refine wI hF (λh7 hF=>?_) λh7 hF=>?_
  ·refine wK [4,5,6] ?_;exact wm ai hF
  refine wW ?_;refine wK [4,5,6] ?_;exact wm ai hF
 refine wG hF (λh6 hF=>?_) λh6 hF=>?_
 ·exact wV h6 (iu _) (aj hF)
 exact wV h6 (iu _) (aj hF)
def Fv(a0:an)(a1:cA)(a2:Int)(a3:List aq)(a4:List Int)(a5:List Int)(a6:List Int):Option (ct×Bool):=
 (jg a6 (a3.length:Int)).bind λz1=>
 (jg z1.2 (a3.length:Int)).bind λz2=>
 (jg z2.2 (a3.length:Int)).bind λz3=>
 (jg z3.2 (a3.length:Int)).bind λz4=>
 (jg z4.2 (a3.length:Int)).bind λz5=>
 (jg z5.2 (a3.length:Int)).bind λz6=>
 (su z6.2).bind λz7=>
 (jg z7.2 (a3.length:Int)).bind λz8=>
 (jg z8.2 (a3.length:Int)).bind λz9=>
 (su z9.2).bind λbF=>
 (CC a0 a2 a3 a4 a5).bind λbQ=>
 (KN a0 a1 a4 z1.1).bind λbr=>
 (qY a2 a3 bQ br).bind λcN=>
 (m7 a0 (⟨#[109,105,120,32,120]⟩:ByteArray) cN).bind λdK=>
 ((aU (σ:=(List Int)×List Int×List Int×List Int×List Int×List Int×List Int) (λv6 dy=>
 (ix a4 v6).bind λrY=>
 (n6 dK.1 (i64.wrap (rY+1)) a0.Q).bind λtr=>
 gd ((dy.2.2.2.2.2.2.length+1)*8<=140737488355328/\dy.2.2.2.2.2.2.length+1<=4611686018427387904)<|
 (J (dy.2.2.2.2.2.2++[tr])).bind λvj=>
 (ix vj v6).bind λtC=>
 (ix z2.1 v6).bind λyM=>
 (pB a0 a1 tC yM).bind λvf=>
 gd ((dy.2.1.length+1)*8<=140737488355328/\dy.2.1.length+1<=4611686018427387904)<|
 J (.go (dy.1,dy.2.1++[vf],dy.2.2.1,dy.2.2.2.1,dy.2.2.2.2.1,dy.2.2.2.2.2.1,vj))) (λdy=>(dy.1,dy.2.1,dy.2.2.1,dy.2.2.2.1,dy.2.2.2.2.1,dy.2.2.2.2.2.1,dy.2.2.2.2.2.2)) (a4.length) 0 (br,[],[],[],[],[],[]):Option ((List Int×List Int×List Int×List Int×List Int×List Int×List Int))).bind λbJ=>
 (vh bJ.1).bind λwQ=>
 gd ((wQ.length+bJ.2.1.length)*8<=140737488355328/\wQ.length+bJ.2.1.length<=4611686018427387904)<|
 (qY a2 a3 bQ (wQ++bJ.2.1)).bind λyR=>
 (Cx a0 yR).bind λqr=>
 ((aU (σ:=(List Int)×List Int×List Int×List Int×List Int×List Int×List Int×Int×List Int) (λn8 cK=>
 (ix a4 n8).bind λpE=>
 (ix bJ.2.2.2.2.2.2 n8).bind λOm=>
 (fa a0 (i64.wrap ((i64.wrap ((i64.wrap (qr.1*(i64.wrap (pE+1))))+Om))-qr.2.1))).bind λou=>
 gd ((cK.2.2.2.2.2.2.1.length+1)*8<=140737488355328/\cK.2.2.2.2.2.2.1.length+1<=4611686018427387904)<|
 (J (cK.2.2.2.2.2.2.1++[ou])).bind λzq=>
 (ix zq n8).bind λmL=>
 (fa a0 (i64.wrap (cK.2.2.2.2.2.2.2.1*mL))).bind λF1=>
 (ix z3.1 n8).bind λjI=>
 (pB a0 a1 F1 jI).bind λoF=>
 gd ((cK.2.2.1.length+1)*8<=140737488355328/\cK.2.2.1.length+1<=4611686018427387904)<|
 ((if decide (0<n8)=Z then(
 (ix z3.1 (i64.wrap (n8-1))).bind λN9=>
 (fa a0 (i64.wrap (N9*mL))).bind λC0=>
 (fa a0 (i64.wrap (jI-C0))).bind λCk=>
 J Ck)else(
 J jI):Option Int).bind λyr=>
 gd ((cK.2.2.2.2.2.2.2.2.length+1)*8<=140737488355328/\cK.2.2.2.2.2.2.2.2.length+1<=4611686018427387904)<|
 J (.go (cK.1,cK.2.1,cK.2.2.1++[oF],cK.2.2.2.1,cK.2.2.2.2.1,cK.2.2.2.2.2.1,zq,F1,cK.2.2.2.2.2.2.2.2++[yr])))) (λcK=>(cK.1,cK.2.1,cK.2.2.1,cK.2.2.2.1,cK.2.2.2.2.1,cK.2.2.2.2.2.1,cK.2.2.2.2.2.2.1,cK.2.2.2.2.2.2.2.2)) (a4.length) 0 (bJ.1,bJ.2.1,bJ.2.2.1,bJ.2.2.2.1,bJ.2.2.2.2.1,bJ.2.2.2.2.2.1,[],1,[]):Option ((List Int×List Int×List Int×List Int×List Int×List Int×List Int×List Int))).bind λiB=>
 gd (([a0.G].length+iB.2.2.1.length)*8<=140737488355328/\[a0.G].length+iB.2.2.1.length<=4611686018427387904)<|
 (J ([a0.G]++iB.2.2.1)).bind λVm=>
 ((aU (σ:=(List Int)) (λBK pz=>
 (ix z4.1 BK).bind λOh=>
 (ix z5.1 BK).bind λkU=>
 (pB a0 a1 Oh kU).bind λCK=>
 gd ((pz.length+1)*8<=140737488355328/\pz.length+1<=4611686018427387904)<|
 J (.go (pz++[CK]))) (λpz=>pz) (a3.length) 0 []:Option ((List Int))).bind λEk=>
 ((aU (σ:=(List Int)) (λxD pu=>
 (ix Vm xD).bind λMs=>
 (ix z4.1 xD).bind λMx=>
 (ix z6.1 xD).bind λgU=>
 (cU a0 Ms Mx).bind λMl=>
 (cU a0 a1.H gU).bind λCh=>
 (er a0 [Ml,Ch]).bind λNU=>
 gd ((pu.length+1)*8<=140737488355328/\pu.length+1<=4611686018427387904)<|
 J (.go (pu++[NU]))) (λpu=>pu) (a3.length) 0 Ek:Option ((List Int))).bind λGD=>
 (cU a0 a1.H z7.1).bind λZI=>
 gd ((GD.length+1)*8<=140737488355328/\GD.length+1<=4611686018427387904)<|
 ((aU (σ:=(List Int)) (λt6 eL=>
 (ix z8.1 t6).bind λZE=>
 (ix z9.1 t6).bind λLV=>
 (pB a0 a1 ZE LV).bind λa0A=>
 gd ((eL.length+1)*8<=140737488355328/\eL.length+1<=4611686018427387904)<|
 J (.go (eL++[a0A]))) (λeL=>eL) (a3.length) 0 (GD++[ZI]):Option ((List Int))).bind λB9=>
 (vd bQ).bind λVU=>
 (cU a0 a0.G (i64.wrap (0-bF.1))).bind λJh=>
 (mf a0 VU.1 z8.1).bind λI7=>
 (er a0 [Jh,I7]).bind λC8=>
 (cU a0 a2 (i64.wrap (0-bF.1))).bind λKr=>
 (mf a0 VU.2 z8.1).bind λIc=>
 (er a0 [Kr,Ic]).bind λCG=>
 gd ((B9.length+2)*8<=140737488355328/\B9.length+2<=4611686018427387904)<|
 (pW [yR,iB.2.2.1,B9++[C8,CG]]).bind λnG=>
 (m7 a0 (⟨#[109,105,120,32,101,110,100]⟩:ByteArray) nG).bind λu7=>
 ((if(!dK.2)=Z then(
 J Z)else(
 if(!qr.2.2)=Z then(
 J Z)else(
 J (!u7.2))):Option Bool).bind λPn=>
 if Pn=Z then(
 J ((ct.mk [] [] [] (cb.mk [] [] [])),aa))else(
 ((aU (σ:=(List Int)×List Int×List Int×List Int×List Int) (λjk dt=>
 (ix z4.1 jk).bind λPE=>
 (ix iB.2.2.2.2.2.2.1 jk).bind λNc=>
 (fa a0 (i64.wrap (PE+(i64.wrap (u7.1*Nc))))).bind λN7=>
 gd ((dt.1.length+1)*8<=140737488355328/\dt.1.length+1<=4611686018427387904)<|
 (ix z5.1 jk).bind λOD=>
 (ix z1.1 jk).bind λPf=>
 (ix z2.1 jk).bind λFM=>
 (fa a0 (i64.wrap ((i64.wrap (qr.1*Pf))+FM))).bind λPJ=>
 (fa a0 (i64.wrap (OD+(i64.wrap (u7.1*PJ))))).bind λOR=>
 gd ((dt.2.1.length+1)*8<=140737488355328/\dt.2.1.length+1<=4611686018427387904)<|
 (ix z6.1 jk).bind λOI=>
 (ix iB.2.2.2.2.2.2.2 jk).bind λOl=>
 (fa a0 (i64.wrap (OI+(i64.wrap (u7.1*Ol))))).bind λPG=>
 gd ((dt.2.2.1.length+1)*8<=140737488355328/\dt.2.2.1.length+1<=4611686018427387904)<|
 (ix z8.1 jk).bind λMy=>
 (ix bJ.2.2.2.2.2.2 jk).bind λC5=>
 (fa a0 (i64.wrap (My+(i64.wrap (u7.1*C5))))).bind λOA=>
 gd ((dt.2.2.2.1.length+1)*8<=140737488355328/\dt.2.2.2.1.length+1<=4611686018427387904)<|
 (ix z9.1 jk).bind λOW=>
 (fa a0 (i64.wrap (OW+(i64.wrap (u7.1*FM))))).bind λPL=>
 gd ((dt.2.2.2.2.length+1)*8<=140737488355328/\dt.2.2.2.2.length+1<=4611686018427387904)<|
 J (.go (dt.1++[N7],dt.2.1++[OR],dt.2.2.1++[PG],dt.2.2.2.1++[OA],dt.2.2.2.2++[PL]))) (λdt=>(dt.1,dt.2.1,dt.2.2.1,dt.2.2.2.1,dt.2.2.2.2)) (a3.length) 0 ([],[],[],[],[]):Option ((List Int×List Int×List Int×List Int×List Int))).bind λr6=>
 (ix z3.1 (i64.wrap ((a3.length:Int)-1))).bind λZX=>
 (fa a0 (i64.wrap (z7.1+(i64.wrap (u7.1*ZX))))).bind λa0J=>
 (xe a5 bJ.2.2.2.2.2.2 a0.Q).bind λa0F=>
 (fa a0 (i64.wrap (bF.1+(i64.wrap (u7.1*a0F))))).bind λa0o=>
 (pW [r6.1,r6.2.1,r6.2.2.1,[a0J],r6.2.2.2.1,r6.2.2.2.2,[a0o]]).bind λYU=>
 J ((ct.mk iB.1 iB.2.1 iB.2.2.1 (cb.mk (B9++[C8,CG]) [u7.1] YU)),Z)))))))))
set_option maxHeartbeats 1000000 in
def zlK{a0 a1 a2 a3 a4 a5 a6 r}(hr:Fv a0 a1 a2 a3 a4 a5 a6=J r):au Tryz.prog 81 [(.sh,vE a0),(.sh,vJ a1),(.sh,.int .i64 a2),(.sh,vH a3),(.sh,vC a4),(.sh,vC a5),(.sh,vC a6)] (Eo (.bS [vM r.1,.bool r.2]) Qa):=by
 apply EJ 528 [] [358,360,363,490,492,494,506,508,510,522,2107] [60] [.cell 14 35,.tmp 15] hr zMS Tryz.func81;intro Φ ai hF g;unfold Fv at hF;try simp[go_sem,g]
 try intros
 refine bh ?_;try simp[go_sem,g]
 try intros
 refine wK [2,3,4,5,7,8,14,16,17] ?_;refine wC hF [.io,.sh] mY λz1 hF=>?_
 refine wC hF [.io,.sh] mY λz2 hF=>?_
 refine wC hF [.io,.sh] mY λz3 hF=>?_
 refine wC hF [.io,.sh] mY λz4 hF=>?_
 refine wC hF [.io,.sh] mY λz5 hF=>?_
 refine wC hF [.io,.sh] mY λz6 hF=>?_
 refine wK [2,3,4,5,7,8,14,16,17,18,19,20,21,22,23] ?_;refine wC hF [.io] AU λz7 hF=>?_
 refine wW ?_;refine wC hF [.io,.sh] mY λz8 hF=>?_
 refine wC hF [.io,.sh] mY λz9 hF=>?_
 refine wK [2,3,4,5,7,8,14,16,17,18,19,20,21,22,23,24,25,26] ?_;refine wC hF [.io] AU λbF hF=>?_
 refine wW ?_;refine wE hF Tw λbQ hF=>?_
 refine wK [2,3,4,5,7,8,14,16,18,19,20,21,22,23,24,25,26,27,28] ?_;refine wE hF zkm λbr hF=>?_
 refine wW ?_;refine wZ (kD 0 [58,0,0,0,233,234,3,3,0,0,0,0,0]) follows ?_;refine wE hF Hj λcN hF=>?_
 refine wE hF yn λdK hF=>?_
 refine wK [2,3,4,5,7,8,14,16,18,19,20,21,22,23,24,25,26,27,28,29,30,31] ?_
 iterate 2 (try simp[go_sem,g];try intros;refine bh ?_)
 refine bX hF [2,3,4,5,7,8,14,16,18,19,20,21,22,23,24,25,26,27,28,31] (λbJ=>[(29,.bl [vD bJ.1,vD bJ.2.1,vD bJ.2.2.1,vD bJ.2.2.2.1,vD bJ.2.2.2.2.1,vD bJ.2.2.2.2.2.1]),(32,.v (vD bJ.2.2.2.2.2.2))]) (λbJ hF=>?_) λ_ wR hF=>?_
 ·refine wZ (kE [0,1,2,3,4,6,7,5,8,9,10] [0,0,0,233,234,233,234,3,0,3,0]) follows ?_;refine wE hF Pg λwQ hF=>?_
  obtain⟨g,hF⟩:=Rg g hF;refine wE hF Hj λyR hF=>?_
  refine wK [2,4,5,7,8,14,16,18,19,20,21,22,23,24,25,26,27,28,29,31,32,35] ?_;refine wE hF zjt λqr hF=>?_
  refine wK [2,4,5,7,8,14,16,18,19,20,21,22,23,24,25,26,27,28,29,31,32,35,36,37,38] ?_
  iterate 2 (try simp[go_sem,g];try intros;refine bh ?_)
  refine bX hF [2,5,7,8,14,16,18,19,20,21,22,23,24,25,26,27,28,31,32,35,36,38] (λiB=>[(29,.bl [vD iB.1,vD iB.2.1,vD iB.2.2.1,vD iB.2.2.2.1,vD iB.2.2.2.2.1,vD iB.2.2.2.2.2.1]),(39,.v (vD iB.2.2.2.2.2.2.1)),(41,.v (vD iB.2.2.2.2.2.2.2))]) (λiB hF=>?_) λ_ a1M hF=>?_
  ·obtain⟨g,hF⟩:=Rg g hF;obtain⟨Vm,TF,hF⟩:=mM hF;have g:=And.intro g (show[.int .i64 a0.G]::(List.map aL iB.2.2.1)=Vm.map aL by injection TF with TF;rw[<-TF];simp[go_sem]);refine wK [2,5,7,8,14,16,18,19,20,21,22,23,24,25,26,27,28,29,31,32,35,36,38,39,41,45] ?_
   iterate 2 refine wW ?_
   refine bX hF [2,5,7,8,14,16,18,19,20,21,22,23,24,25,26,27,28,29,31,32,35,36,38,39,41,45] (λEk=>[(46,.v (vD Ek))]) (λEk hF=>?_) λ_ a4b hF=>?_
   ·refine wW ?_;refine bX hF [2,5,7,8,14,16,18,19,20,21,22,23,24,25,26,27,28,29,31,32,35,36,38,39,41] (λGD=>[(46,.v (vD GD))]) (λGD hF=>?_) λ_ a3Y hF=>?_
    ·refine wE hF eP λZI hF=>?_
     obtain⟨g,hF⟩:=Rg g hF;refine wK [2,5,7,8,14,16,18,19,20,21,22,23,24,25,26,27,28,29,31,32,35,36,38,39,41,46] ?_;refine wW ?_;refine bX hF [2,5,7,14,16,18,19,20,21,22,23,24,25,26,27,28,29,31,32,35,36,38,39,41] (λB9=>[(46,.v (vD B9))]) (λB9 hF=>?_) λ_ a14 hF=>?_
     ·refine wE hF F7 λVU hF=>?_
      refine wW ?_;refine wZ (kE [0,1,2,3,4,5,6,8,9,10,14,15,16,17,18,20,21,22,7,11,12,13,19,23,24,25,26,27,28,29,30] [0,58,58,57,58,0,0,58,0,0,58,58,0,0,0,58,0,0,3,3,0,6,3,3,0,6,0,5,233,233,234]) follows ?_;refine wE hF eP λJh hF=>?_
      refine wE hF oP λI7 hF=>?_
      refine wE hF ip λC8 hF=>?_
      refine wE hF eP λKr hF=>?_
      refine wE hF oP λIc hF=>?_
      refine wE hF ip λCG hF=>?_
      obtain⟨g,hF⟩:=Rg g hF;refine wK [5,7,14,16,18,19,20,21,22,23,24,25,26,27,29,31,32,35,36,38,39,41] ?_;refine wZ (kD 0 [58,0,233,234,233,233,234,0,6,3,0,0,0,0,0]) follows ?_;refine wE hF FZ λnG hF=>?_
      refine wE hF yn λu7 hF=>?_
      refine wK [5,7,14,16,18,19,20,21,22,23,24,25,26,27,29,31,32,36,38,39,41,52,53] ?_;refine bX hF [5,7,14,16,18,19,20,21,22,23,24,25,26,27,29,32,36,39,41,52] (λPn=>[(378,.v (.bool Pn))]) (λPn hF=>?_) λ_ Vo hF=>?_
      ·refine wI hF (λa3l hF=>?_) λa3l hF=>?_
       ·exact wl ai hF
       iterate 3 refine wW ?_
       refine wK [5,7,14,16,18,19,20,21,22,23,24,25,26,27,29,32,36,39,41,52,54,385,386] ?_;refine bX hF [5,7,14,16,20,24,27,29,32,52] (λr6=>[(54,.bl [vD r6.1,vD r6.2.1,vD r6.2.2.1,vD r6.2.2.2.1,vD r6.2.2.2.2])]) (λr6 hF=>?_) λ_ a3T hF=>?_
       ·refine wZ (kE [0,1,2,3,4,5,6,7,8,9,10,11,12,13,14,15,18,19,20,21,22,23,24,25,26,27,28,16,17,29,30,31,32,33,34,35,36,37,38] [433,434,433,434,433,434,58,0,0,0,0,0,0,0,0,0,433,434,433,434,58,0,0,0,0,57,58,3,0,3,0,0,3,0,7,6,233,233,234]) follows ?_;obtain⟨ZX,g,hF⟩:=Rx g hF;refine wE hF kV λa0J hF=>?_
        refine wE hF VL λa0F hF=>?_
        refine wE hF kV λa0o hF=>?_
        refine wE hF FZ λYU hF=>?_
        refine wK [14,29] ?_;exact wl ai hF
       refine wB ?_;obtain⟨a6h,a1O,a2X⟩:=hF;refine bU a1O [5,7,14,16,18,19,20,21,22,23,24,25,26,27,29,32,36,39,41,52,385] (λjk dt=>[(54,.bl [vD dt.1,vD dt.2.1,vD dt.2.2.1,vD dt.2.2.2.1,vD dt.2.2.2.2]),(386,.v (.int .i64 jk))]) (λdt _ a2R=>?_) λjk dt _ _ WX ZD a50 a1F hF=>?_
       ·exact wn a2R (a3T _) a2X
       refine wW ?_;refine wu WX ZD ?_;refine wW ?_;refine wB ?_;refine wW ?_;refine wZ (kD 0 [433,434,58,0,0,0,0,0,0,0,0,0,0,0,3,0,5,433,434]) follows ?_;obtain⟨PE,g,hF⟩:=Rx g hF;obtain⟨Nc,g,hF⟩:=Rx g hF;refine wE hF kV λN7 hF=>?_
       obtain⟨g,hF⟩:=Rg g hF;refine wK [5,7,14,16,18,19,20,21,22,23,24,25,26,27,29,32,36,39,41,52,54,55,385,386] ?_;refine wZ (kD 0 [433,434,58,0,0,0,0,0,58,0,0,0,0,0,0,0,0,0,0,0,4,0,0,3,0,5,433,434]) follows ?_;obtain⟨OD,g,hF⟩:=Rx g hF;obtain⟨Pf,g,hF⟩:=Rx g hF;obtain⟨FM,g,hF⟩:=Rx g hF;refine wD hF kV λPJ hF=>?_
       refine wE hF kV λOR hF=>?_
       obtain⟨g,hF⟩:=Rg g hF;refine wK [5,7,14,16,18,19,20,21,22,23,24,25,26,27,29,32,36,39,41,52,54,55,385,386] ?_;refine wZ (kD 0 [433,434,58,0,0,0,0,0,0,0,0,0,0,0,3,0,5,433,434]) follows ?_;obtain⟨OI,g,hF⟩:=Rx g hF;obtain⟨Ol,g,hF⟩:=Rx g hF;refine wE hF kV λPG hF=>?_
       obtain⟨g,hF⟩:=Rg g hF;refine wK [5,7,14,16,18,19,20,21,22,23,24,25,26,27,29,32,36,39,41,52,54,55,385,386] ?_;refine wZ (kD 0 [433,434,58,0,0,0,0,0,0,0,0,0,0,0,3,0,5,433,434]) follows ?_;obtain⟨My,g,hF⟩:=Rx g hF;obtain⟨C5,g,hF⟩:=Rx g hF;refine wE hF kV λOA hF=>?_
       obtain⟨g,hF⟩:=Rg g hF;refine wK [5,7,14,16,18,19,20,21,22,23,24,25,26,27,29,32,36,39,41,52,54,55,385,386] ?_;refine wZ (kD 0 [433,434,58,0,0,0,0,0,0,0,0,0,0,0,3,0,5,433,434]) follows ?_;obtain⟨OW,g,hF⟩:=Rx g hF;refine wE hF kV λPL hF=>?_
       obtain⟨g,hF⟩:=Rg g hF;refine wK [5,7,14,16,18,19,20,21,22,23,24,25,26,27,29,32,36,39,41,52,54,385,386] ?_;exact wi WX ZD (a1F _) (aj hF)
      refine wG hF (λTn hF=>?_) λTn hF=>?_
      ·exact wV Tn (Vo _) (aj hF)
      try simp[go_sem,g,Tn]
      refine wG hF (λT8 hF=>?_) λT8 hF=>?_
      ·exact wV T8 (Vo _) (aj hF)
      exact wV T8 (Vo _) (aj hF)
     refine wB ?_;obtain⟨a6i,a2h,Q4⟩:=hF;refine bU a2h [2,5,7,8,14,16,18,19,20,21,22,23,24,25,26,27,28,29,31,32,35,36,38,39,41,302] (λt6 eL=>[(46,.v (vD eL)),(303,.v (.int .i64 t6))]) (λeL _ a3R=>?_) λt6 eL _ _ JH HB a1T TR hF=>?_
     ·exact wn a3R (a14 _) Q4
     refine wW ?_;refine wu JH HB ?_;refine wW ?_;refine wB ?_;refine wW ?_;refine wZ (kD 0 [0,58,66,0,0,0,0,0,0,0,0,3,0,5,0]) follows ?_;obtain⟨ZE,g,hF⟩:=Rx g hF;obtain⟨LV,g,hF⟩:=Rx g hF;refine wE hF C4 λa0A hF=>?_
     obtain⟨g,hF⟩:=Rg g hF;refine wK [2,5,7,8,14,16,18,19,20,21,22,23,24,25,26,27,28,29,31,32,35,36,38,39,41,46,302,303] ?_;exact wi JH HB (TR _) (aj hF)
    refine wB ?_;obtain⟨a6j,a30,a2n⟩:=hF;refine bU a30 [2,5,7,8,14,16,18,19,20,21,22,23,24,25,26,27,28,29,31,32,35,36,38,39,41,45,265] (λxD pu=>[(46,.v (vD pu)),(266,.v (.int .i64 xD))]) (λpu _ a35=>?_) λxD pu _ _ Yh Z7 a58 a2T hF=>?_
    ·exact wn a35 (a3Y _) a2n
    refine wW ?_;refine wu Yh Z7 ?_;refine wW ?_;refine wB ?_;refine wW ?_;refine wZ (kE [0,1,2,3,4,5,6,7,8,9,10,12,13,14,15,16,17,18,11,19,20,21,22,23,24] [0,58,58,0,0,0,0,0,0,0,0,58,65,66,0,0,0,0,4,3,0,6,0,5,0]) follows ?_;obtain⟨Ms,g,hF⟩:=Rx g hF;obtain⟨Mx,g,hF⟩:=Rx g hF;obtain⟨gU,g,hF⟩:=Rx g hF;refine wD hF eP λMl hF=>?_
    refine wE hF eP λCh hF=>?_
    refine wE hF ip λNU hF=>?_
    obtain⟨g,hF⟩:=Rg g hF;refine wK [2,5,7,8,14,16,18,19,20,21,22,23,24,25,26,27,28,29,31,32,35,36,38,39,41,45,46,265,266] ?_;exact wi Yh Z7 (a2T _) (aj hF)
   refine wB ?_;obtain⟨a4u,Vs,a4z⟩:=hF;refine bU Vs [2,5,7,8,14,16,18,19,20,21,22,23,24,25,26,27,28,29,31,32,35,36,38,39,41,45,246] (λBK pz=>[(46,.v (vD pz)),(247,.v (.int .i64 BK))]) (λpz _ UE=>?_) λBK pz _ _ a0n J0 a6m a1X hF=>?_
   ·exact wn UE (a4b _) a4z
   refine wW ?_;refine wu a0n J0 ?_;refine wW ?_;refine wB ?_;refine wW ?_;refine wZ (kD 0 [0,58,66,0,0,0,0,0,0,0,0,3,0,5,0]) follows ?_;obtain⟨Oh,g,hF⟩:=Rx g hF;obtain⟨kU,g,hF⟩:=Rx g hF;refine wE hF C4 λCK hF=>?_
   obtain⟨g,hF⟩:=Rg g hF;refine wK [2,5,7,8,14,16,18,19,20,21,22,23,24,25,26,27,28,29,31,32,35,36,38,39,41,45,46,246,247] ?_;exact wi a0n J0 (a1X _) (aj hF)
  refine wB ?_;obtain⟨a1J,Uc,a4A⟩:=hF;refine bU Uc [2,5,7,8,14,16,18,19,20,21,22,23,24,25,26,27,28,31,32,35,36,37,38,165,166] (λn8 cK=>[(29,.bl [vD cK.1,vD cK.2.1,vD cK.2.2.1,vD cK.2.2.2.1,vD cK.2.2.2.2.1,vD cK.2.2.2.2.2.1]),(39,.v (vD cK.2.2.2.2.2.2.1)),(40,.v (.int .i64 cK.2.2.2.2.2.2.2.1)),(41,.v (vD cK.2.2.2.2.2.2.2.2)),(167,.v (.int .i64 n8))]) (λcK _ SU=>?_) λn8 cK _ _ WU YN a6s a1V hF=>?_
  ·exact wn SU (a1M _) a4A
  refine wW ?_;refine wu WU YN ?_;refine wW ?_;refine wB ?_;obtain⟨pE,g,hF⟩:=Rx g hF;refine wK [2,5,7,8,14,16,18,19,20,21,22,23,24,25,26,27,28,29,31,32,35,36,37,38,39,40,41,42,43,165,166,167] ?_;refine wZ (kD 0 [0,58,0,0,0,0,0,0,0,0,0,0,0,3,0,5,0]) follows ?_;obtain⟨Om,g,hF⟩:=Rx g hF;refine wE hF kV λou hF=>?_
  obtain⟨g,hF⟩:=Rg g hF;refine wK [2,5,7,8,14,16,18,19,20,21,22,23,24,25,26,27,28,29,31,32,35,36,37,38,39,40,41,42,165,166,167] ?_;refine wZ (kD 0 [58,0,0,0,0,0,0,3,0]) follows ?_;obtain⟨zq,UA,hF⟩:=mM hF;have g:=And.intro g (show List.map aL cK.2.2.2.2.2.2.1++[[.int .i64 ou]]=zq.map aL by injection UA with UA;rw[<-UA];simp[go_sem]);obtain⟨mL,g,hF⟩:=Rx g hF;refine wE hF kV λF1 hF=>?_
  refine wW ?_;refine wZ (kD 0 [233,234,58,66,0,0,0,0,0,3,0,5,233,234]) follows ?_;obtain⟨jI,g,hF⟩:=Rx g hF;refine wE hF C4 λoF hF=>?_
  obtain⟨g,hF⟩:=Rg g hF;refine wK [2,5,7,8,14,16,18,19,20,21,22,23,24,25,26,27,28,29,31,32,35,36,37,38,39,40,41,42,165,166,167] ?_
  iterate 2 refine wW ?_
  refine bX hF [2,5,7,8,14,16,18,19,20,21,22,23,24,25,26,27,28,29,31,32,35,36,37,38,39,40,41,165,166,167] (λyr=>[(44,.v (.int .i64 yr))]) (λyr hF=>?_) λ_ a0v hF=>?_
  ·obtain⟨g,hF⟩:=Rg g hF;refine wK [2,5,7,8,14,16,18,19,20,21,22,23,24,25,26,27,28,29,31,32,35,36,37,38,39,40,41,165,166,167] ?_;exact wi WU YN (a1V _) (aj hF)
  refine wI hF (λh98 hF=>?_) λh98 hF=>?_
  ·refine wZ (kD 0 [58,0,0,0,0,58,0,0,0,0,0,0,0,0,0,0,4,0,3,0]) follows ?_;obtain⟨N9,g,hF⟩:=Rx g hF;refine wD hF kV λC0 hF=>?_
   refine wE hF kV λCk hF=>?_
   exact wT (a0v _) (aj hF)
  exact wT (a0v _) (aj hF)
 refine wB ?_;obtain⟨b46,a3P,a5b⟩:=hF;refine bU a3P [2,3,4,5,7,8,14,16,18,19,20,21,22,23,24,25,26,27,28,30,31,113,114] (λv6 dy=>[(29,.bl [vD dy.1,vD dy.2.1,vD dy.2.2.1,vD dy.2.2.2.1,vD dy.2.2.2.2.1,vD dy.2.2.2.2.2.1]),(32,.v (vD dy.2.2.2.2.2.2)),(115,.v (.int .i64 v6))]) (λdy _ a3S=>?_) λv6 dy _ _ YA a0e a6c a4H hF=>?_
 ·exact wn a3S (wR _) a5b
 refine wW ?_;refine wu YA a0e ?_;refine wW ?_;refine wB ?_;obtain⟨rY,g,hF⟩:=Rx g hF;refine wK [2,3,4,5,7,8,14,16,18,19,20,21,22,23,24,25,26,27,28,29,30,31,32,33,34,113,114,115] ?_;refine wE hF FC λtr hF=>?_
 obtain⟨g,hF⟩:=Rg g hF;refine wK [2,3,4,5,7,8,14,16,18,19,20,21,22,23,24,25,26,27,28,29,30,31,32,33,113,114,115] ?_;refine wZ (kD 0 [233,234,58,66,0,0,0,0,0,0,0,0,3,0,5,233,234]) follows ?_;obtain⟨vj,Vx,hF⟩:=mM hF;have g:=And.intro g (show List.map aL dy.2.2.2.2.2.2++[[.int .i64 tr]]=vj.map aL by injection Vx with Vx;rw[<-Vx];simp[go_sem]);obtain⟨tC,g,hF⟩:=Rx g hF;obtain⟨yM,g,hF⟩:=Rx g hF;refine wE hF C4 λvf hF=>?_
 obtain⟨g,hF⟩:=Rg g hF;refine wK [2,3,4,5,7,8,14,16,18,19,20,21,22,23,24,25,26,27,28,29,30,31,32,113,114,115] ?_;exact wi YA a0e (a4H _) (aj hF)
def sA(a0:an)(a1:Int)(a2:List aq)(a3:List Int)(a4:List Int)(a5:List Int):Option (ct×Bool):=
 (vw a0 a1 a2).bind λz1=>
 ((if(!z1.2)=Z then(
 J Z)else(
 (B6 a0 a3 a4 (a2.length:Int)).bind λz6=>
 if(!z6)=Z then(
 J Z)else(
 if((a5.length:Int) !=(i64.wrap ((i64.wrap (8*(a2.length:Int)))+2)))=Z then(
 J Z)else(
 (v3 a0 a5).bind λz9=>
 J (!z9)))):Option Bool).bind λx4=>
 if x4=Z then(
 J ((ct.mk [] [] [] (cb.mk [] [] [])),aa))else(
 (Fv a0 z1.1 a1 a2 a3 a4 a5).bind λbQ=>
 J (bQ.1,bQ.2)))
def zph{a0 a1 a2 a3 a4 a5 r}(hr:sA a0 a1 a2 a3 a4 a5=J r):au Tryz.prog 34 [(.sh,vE a0),(.sh,.int .i64 a1),(.sh,vH a2),(.sh,vC a3),(.sh,vC a4),(.sh,vC a5)] (Eo (.bS [vM r.1,.bool r.2]) sH):=by
 apply EJ 60 [] [51] [] [.cell 12 35,.tmp 13] hr zMg Tryz.func34;intro Φ ai hF g;unfold sA at hF;refine wW ?_;refine wE hF RH λz1 hF=>?_
 refine wK [1,2,3,4,5,6,12,14,15] ?_;refine bX hF [1,2,3,4,5,6,12,14] (λx4=>[(48,.v (.bool x4))]) (λx4 hF=>?_) λ_ cE hF=>?_
 ·refine wI hF (λdf hF=>?_) λdf hF=>?_
  ·exact wl ai hF
  refine wW ?_;refine wE hF zlK λbQ hF=>?_
  refine wK [12,13] ?_;exact wm ai hF
 refine wG hF (λh5 hF=>?_) λh5 hF=>?_
 ·exact wV h5 (cE _) (aj hF)
 try simp[go_sem,g,h5]
 try intros
 refine wE hF Vj λz6 hF=>?_
 try simp[go_sem,g,h5]
 refine wG hF (λh7 hF=>?_) λh7 hF=>?_
 ·exact wV h7 (cE _) (aj hF)
 try simp[go_sem,g,h7]
 try intros
 refine wG hF (λh8 hF=>?_) λh8 hF=>?_
 ·exact wV h8 (cE _) (aj hF)
 try simp[go_sem,g,h8]
 refine wE hF IH λz9 hF=>?_
 exact wV h8 (cE _) (aj hF)
def uA(a0:an)(a1:Int)(a2:List aq)(a3:Int)(a4:List Int)(a5:List Int):Option (eg×Bool):=
 (ux a0 a1 a2).bind λz1=>
 ((if(!z1.2)=Z then(
 J Z)else(
 (Ha a3).bind λz6=>
 if(!z6)=Z then(
 J Z)else(
 (JL a3 (a2.length:Int)).bind λz8=>
 if((a5.length:Int) !=z8)=Z then(
 J Z)else(
 gd (0<=(a2.length:Int))<|
 gd (0<=a2.length/\a2.length<=a5.length)<|
 (B6 a0 a4 ((a5.take a2.length).drop 0) (a2.length:Int)).bind λbF=>
 J (!bF)))):Option Bool).bind λx4=>
 if x4=Z then(
 J ((eg.mk 0 [] (cM.mk [] [] (cb.mk [] [] [])) (ct.mk [] [] [] (cb.mk [] [] []))),aa))else(
 gd (0<=(a2.length:Int))<|
 gd (0<=a2.length/\a2.length<=a5.length)<|
 gd (0<=(a2.length:Int))<|
 gd (a2.length<=a5.length/\a5.length<=a5.length)<|
 (CC a0 a1 a2 a4 ((a5.take a2.length).drop 0)).bind λbr=>
 ((if(a3==1)=Z then(
 (qq a0 a1 a2 a4 ((a5.take a2.length).drop 0) ((a5.take a5.length).drop a2.length)).bind λgK=>
 J (a3,br,gK.1.cy,gK.1.aH,gK.1.Pi.aE,gK.1.Pi.aW,gK.1.Pi.aG,[],[],[],[],[],[],gK.2))else(
 (sA a0 a1 a2 a4 ((a5.take a2.length).drop 0) ((a5.take a5.length).drop a2.length)).bind λfe=>
 J (a3,br,[],[],[],[],[],fe.1.bV,fe.1.bM,fe.1.aH,fe.1.Pi.aE,fe.1.Pi.aW,fe.1.Pi.aG,fe.2)):Option ((Int×List aq×List Int×List Int×List Int×List Int×List Int×List Int×List Int×List Int×List Int×List Int×List Int×Bool))).bind λdw=>
 if(!dw.2.2.2.2.2.2.2.2.2.2.2.2.2)=Z then(
 J ((eg.mk 0 [] (cM.mk [] [] (cb.mk [] [] [])) (ct.mk [] [] [] (cb.mk [] [] []))),aa))else(
 J ((eg.mk dw.1 dw.2.1 (cM.mk dw.2.2.1 dw.2.2.2.1 (cb.mk dw.2.2.2.2.1 dw.2.2.2.2.2.1 dw.2.2.2.2.2.2.1)) (ct.mk dw.2.2.2.2.2.2.2.1 dw.2.2.2.2.2.2.2.2.1 dw.2.2.2.2.2.2.2.2.2.1 (cb.mk dw.2.2.2.2.2.2.2.2.2.2.1 dw.2.2.2.2.2.2.2.2.2.2.2.1 dw.2.2.2.2.2.2.2.2.2.2.2.2.1))),Z)))))
def zp9{a0 a1 a2 a3 a4 a5 r}(hr:uA a0 a1 a2 a3 a4 a5=J r):au Tryz.prog 7 [(.sh,vE a0),(.sh,.int .i64 a1),(.sh,vH a2),(.sh,.int .i64 a3),(.sh,vC a4),(.sh,vC a5)] (Eo (.bS [vN r.1,.bool r.2]) sH):=by
 apply EJ 98 [] [] [] [.cell 12 37,.tmp 13] hr cl7 Tryz.func7;intro Φ ai hF g;unfold uA at hF
 iterate 2 (try simp[go_sem,g];try intros;refine bh ?_)
 try simp[go_sem,g]
 try intros
 refine wE hF OY λz1 hF=>?_
 refine wK [1,2,3,4,5,6,12,14,16] ?_;refine bX hF [1,2,3,4,5,6,12,14] (λx4=>[(54,.v (.bool x4))]) (λx4 hF=>?_) λ_ cE hF=>?_
 ·refine wI hF (λeQ hF=>?_) λeQ hF=>?_
  ·exact wl ai hF
  refine wW ?_;refine wZ (kD 0 [0,0,0,0,0,0,0,0]) follows ?_
  iterate 4 obtain⟨g,hF⟩:=Rg g hF
  refine wW ?_;refine wE hF Tw λbr hF=>?_
  refine wK [1,2,3,4,6,12,17,18,19] ?_;refine wW ?_;refine wJ hF (λdw=>[(12,.bl [.int .i64 0,.sl Z 2 [],.sl Z 1 [],.sl Z 1 [],.sl Z 1 [],.sl Z 1 [],.sl Z 1 [],.sl Z 1 [],.sl Z 1 [],.sl Z 1 [],.sl Z 1 [],.sl Z 1 [],.sl Z 1 []]),(19,.bl [.int .i64 dw.1,vG dw.2.1,vC dw.2.2.1,vC dw.2.2.2.1,vC dw.2.2.2.2.1,vC dw.2.2.2.2.2.1,vC dw.2.2.2.2.2.2.1,vC dw.2.2.2.2.2.2.2.1,vC dw.2.2.2.2.2.2.2.2.1,vC dw.2.2.2.2.2.2.2.2.2.1,vC dw.2.2.2.2.2.2.2.2.2.2.1,vC dw.2.2.2.2.2.2.2.2.2.2.2.1,vC dw.2.2.2.2.2.2.2.2.2.2.2.2.1]),(20,.v (.bool dw.2.2.2.2.2.2.2.2.2.2.2.2.2))]) (λdw hF=>?_) λ_ Fk hF=>?_
  ·refine wW ?_;refine wI hF (λnU hF=>?_) λnU hF=>?_
   ·exact wl ai hF
   cases ai _ (aj hF)
   iterate 2 refine wW ?_
   try simp[go_sem,g]
  refine wI hF (λk7 hF=>?_) λk7 hF=>?_
  ·refine wE hF znm λgK hF=>?_
   try simp[go_sem,g]
   refine j4 19 7 (by simp[go_sem,g];rfl) rfl (by simp[go_sem]) ?_;refine j4 19 8 (by simp[go_sem,g];rfl) rfl (by simp[go_sem]) ?_;refine j4 19 9 (by simp[go_sem,g];rfl) rfl (by simp[go_sem]) ?_;refine j4 19 10 (by simp[go_sem,g];rfl) rfl (by simp[go_sem]) ?_;refine j4 19 11 (by simp[go_sem,g];rfl) rfl (by simp[go_sem]) ?_;refine j4 19 12 (by simp[go_sem,g];rfl) rfl (by simp[go_sem]) ?_;exact wT (Fk _) (aj hF)
  refine wE hF zph λfe hF=>?_
  try simp[go_sem,g]
  refine j4 19 2 (by simp[go_sem,g];rfl) rfl (by simp[go_sem]) ?_;refine j4 19 3 (by simp[go_sem,g];rfl) rfl (by simp[go_sem]) ?_;refine j4 19 4 (by simp[go_sem,g];rfl) rfl (by simp[go_sem]) ?_;refine j4 19 5 (by simp[go_sem,g];rfl) rfl (by simp[go_sem]) ?_;refine j4 19 6 (by simp[go_sem,g];rfl) rfl (by simp[go_sem]) ?_;exact wT (Fk _) (aj hF)
 refine wZ (kD 0 [0,0,0,0,3,0,0,0,0,0,0,0,3,0,0,0,50,0,0,0,0,0,3,0,0]) follows ?_;refine wH hF (λh5 hF=>?_) λh5 hF=>?_
 ·exact wV h5 (cE _) (aj hF)
 try simp[go_sem,g,h5]
 refine wE hF Xs λz6 hF=>?_
 try simp[go_sem,g,h5]
 refine wH hF (λh7 hF=>?_) λh7 hF=>?_
 ·exact wV h7 (cE _) (aj hF)
 try simp[go_sem,g,h7]
 try intros
 refine wE hF zmH λz8 hF=>?_
 try simp[go_sem,g,h7]
 refine wH hF (λh9 hF=>?_) λh9 hF=>?_
 ·exact wV h9 (cE _) (aj hF)
 obtain⟨g,hF⟩:=Rg g hF;obtain⟨g,hF⟩:=Rg g hF;try simp[go_sem,g,h9]
 refine wE hF Vj λbF hF=>?_
 exact wV h9 (cE _) (aj hF)
def Ai(a0:an):Option Bool:=
 (((o0 a0.P 3 2000000000).bind λz4=>
 if z4=Z then(
 (o0 a0.Q 2 (i64.wrap (a0.P-1))).bind λz6=>
 if z6=Z then(
 gd (a0.Q≠0)<|
 if(((i64.wrap (a0.P-1)).tmod a0.Q)==0)=Z then(
 (o0 a0.G 2 (i64.wrap (a0.P-1))).bind λz9=>
 if z9=Z then(
 (l6 a0.G a0.Q a0.P).bind λbQ=>
 if(bQ==1)=Z then(
 (Bd a0.Q).bind λcN=>
 if cN=Z then(
 (Bd a0.P).bind λew=>
 J ew)else(
 J aa))else(
 J aa))else(
 J aa))else(
 J aa))else(
 J aa))else(
 J aa):Option Bool).bind λx3=>
 J x3)
def Ob{a0 r}(hr:Ai a0=J r):au Tryz.prog 144 [(.sh,vE a0)] (Eo (.bool r) [.ax]):=by
 apply pF 51 [] [] [] [.tmp 2] hr zHI Tryz.func144;intro Φ ai hF g;unfold Ai at hF;refine wW ?_;refine wJ hF (λx3=>[(2,.v (.bool x3))]) (λx3 hF=>?_) λ_ ao hF=>?_
 ·exact wm ai hF
 refine wE hF tq λz4 hF=>?_
 refine wG hF (λh5 hF=>?_) λh5 hF=>?_
 ·try simp[go_sem,g,h5]
  refine wE hF tq λz6 hF=>?_
  try simp[go_sem,g,h5]
  refine wG hF (λh7 hF=>?_) λh7 hF=>?_
  ·obtain⟨g,hF⟩:=Rz g hF;try simp[go_sem,g,h7]
   refine wG hF (λh8 hF=>?_) λh8 hF=>?_
   ·try simp[go_sem,g,h8]
    refine wE hF tq λz9 hF=>?_
    try simp[go_sem,g,h8]
    refine wG hF (λdf hF=>?_) λdf hF=>?_
    ·try simp[go_sem,g,df]
     refine wE hF yp λbQ hF=>?_
     try simp[go_sem,g,df]
     refine wG hF (λfB hF=>?_) λfB hF=>?_
     ·try simp[go_sem,g,fB]
      refine wE hF M0 λcN hF=>?_
      try simp[go_sem,g,fB]
      refine wG hF (λeD hF=>?_) λeD hF=>?_
      ·try simp[go_sem,g,eD]
       refine wE hF M0 λew hF=>?_
       exact wV eD (ao _) (aj hF)
      exact wV eD (ao _) (aj hF)
     exact wV fB (ao _) (aj hF)
    exact wV df (ao _) (aj hF)
   exact wV h8 (ao _) (aj hF)
  exact wV h7 (ao _) (aj hF)
 exact wV h5 (ao _) (aj hF)
def qF(a0:an)(a1:List Int):Option Bool:=
 ((aU (σ:=Unit) (λi5 s4=>
 (ix a1 i5).bind λaN=>
 (((o0 aN 1 (i64.wrap (a0.P-1))).bind λew=>
 if(!ew)=Z then(
 J Z)else(
 (l6 aN a0.Q a0.P).bind λgK=>
 J (gK !=1)):Option Bool).bind λfb=>
 if fb=Z then(
 J (.out (.inr aa)))else(
 J (.go ())))) (λs4=>.inl ()) (a1.length) 0 ():Option (Unit ⊕ Bool)).bind (Sum.elim (λx3=>
 J Z) J))
def yD{a0 a1 r}(hr:qF a0 a1=J r):au Tryz.prog 165 [(.sh,vE a0),(.sh,vC a1)] (Eo (.bool r) cO):=by
 apply pF 29 [] [] [] [.tmp 4] hr zHZ Tryz.func165;intro Φ ai hF g;unfold qF at hF
 iterate 2 (try simp[go_sem,g];try intros;refine bh ?_)
 refine wS hF (λx3=>[]) (λx3 hF=>?_) λ_ ao fD hF=>?_
 ·exact wl ai hF
 refine wB ?_;obtain⟨b19,a5e,bo⟩:=hF;refine bU a5e [2,7,8] (λi5 s4=>[(9,.v (.int .i64 i5))]) (λs4 _ a3M=>?_) λi5 s4 _ _ bq ba b8 bD hF=>?_
 ·exact wn a3M (ao _) bo
 refine wW ?_;refine wu bq ba ?_;refine wW ?_;refine wB ?_;obtain⟨aN,g,hF⟩:=Rx g hF;refine wW ?_;refine bX hF [2,7,8,9] (λfb=>[(27,.v (.bool fb))]) (λfb hF=>?_) λ_ zh hF=>?_
 ·refine wI hF (λrI hF=>?_) λrI hF=>?_
  ·refine wK [4] ?_;cases b8 _ (aj hF);cases ai _ (fD _ bo);try simp[go_sem,g]
  refine wW ?_;exact wi bq ba (bD _) (aj hF)
 refine wE hF tq λew hF=>?_
 refine wG hF (λk7 hF=>?_) λk7 hF=>?_
 ·exact wV k7 (zh _) (aj hF)
 try simp[go_sem,g,k7]
 refine wE hF yp λgK hF=>?_
 exact wV k7 (zh _) (aj hF)
def Jr(a0:an)(a1:Int):Option Bool:=
 (((Ai a0).bind λz4=>
 if z4=Z then(
 (qF a0 [a1]).bind λz6=>
 J z6)else(
 J aa):Option Bool).bind λx3=>
 J x3)
def zuP{a0 a1 r}(hr:Jr a0 a1=J r):au Tryz.prog 143 [(.sh,vE a0),(.sh,.int .i64 a1)] (Eo (.bool r) cO):=by
 apply pF 13 [] [] [] [.tmp 4] hr zH9 Tryz.func143;intro Φ ai hF g;unfold Jr at hF;refine wW ?_;refine wJ hF (λx3=>[(4,.v (.bool x3))]) (λx3 hF=>?_) λ_ ao hF=>?_
 ·exact wm ai hF
 refine wE hF Ob λz4 hF=>?_
 refine wG hF (λh5 hF=>?_) λh5 hF=>?_
 ·try simp[go_sem,g,h5]
  refine wE hF yD λz6 hF=>?_
  exact wV h5 (ao _) (aj hF)
 exact wV h5 (ao _) (aj hF)
def FW(a0:an)(a1:List aq):Option Bool:=
 if decide (24<(a1.length:Int))=Z then(
 J aa)else(
 ((aU (σ:=Unit) (λi6 s5=>
 (ix a1 i6).bind λcC=>
 (qF a0 [cC.A,cC.B]).bind λcN=>
 if(!cN)=Z then(
 J (.out (.inr aa)))else(
 J (.go ()))) (λs5=>.inl ()) (a1.length) 0 ():Option (Unit ⊕ Bool)).bind (Sum.elim (λx4=>
 J Z) J)))
def zno{a0 a1 r}(hr:FW a0 a1=J r):au Tryz.prog 103 [(.sh,vE a0),(.sh,vH a1)] (Eo (.bool r) cO):=by
 apply pF 25 [] [] [] [.tmp 4] hr zFm Tryz.func103;intro Φ ai hF g;unfold FW at hF
 iterate 2 (try simp[go_sem,g];try intros;refine bh ?_)
 refine wI hF (λh1 hF=>?_) λh1 hF=>?_
 ·exact wl ai hF
 iterate 2 (try simp[go_sem,g];try intros;refine bh ?_)
 refine wS hF (λx4=>[]) (λx4 hF=>?_) λ_ cE yZ hF=>?_
 ·exact wl ai hF
 refine wB ?_;obtain⟨CO,pi,pQ⟩:=hF;refine bU pi [2,10,11] (λi6 s5=>[(12,.v (.int .i64 i6))]) (λs5 _ oI=>?_) λi6 s5 _ _ ba pV uP yg hF=>?_
 ·exact wn oI (cE _) pQ
 refine wW ?_;refine wu ba pV ?_;refine wW ?_;refine wB ?_;obtain⟨cC,g,hF⟩:=Rx g hF;refine wK [2,6,10,11,12] ?_;refine wE hF yD λcN hF=>?_
 refine wW ?_;refine wI hF (λeD hF=>?_) λeD hF=>?_
 ·cases uP _ (aj hF);cases ai _ (yZ _ pQ);refine wW ?_;try simp[go_sem,g]
 refine wW ?_;exact wi ba pV (yg _) (aj hF)
def qw(a0:an)(a1:Int)(a2:List aq):Option Bool:=
 (((Jr a0 a1).bind λz4=>
 if z4=Z then(
 (o0 (a2.length:Int) 1 12).bind λz6=>
 if z6=Z then(
 (FW a0 a2).bind λz8=>
 J z8)else(
 J aa))else(
 J aa):Option Bool).bind λx3=>
 J x3)
def B4{a0 a1 a2 r}(hr:qw a0 a1 a2=J r):au Tryz.prog 82 [(.sh,vE a0),(.sh,.int .i64 a1),(.sh,vH a2)] (Eo (.bool r) gH):=by
 apply pF 20 [] [] [] [.tmp 6] hr zLI Tryz.func82;intro Φ ai hF g;unfold qw at hF;refine wW ?_;refine wJ hF (λx3=>[(6,.v (.bool x3))]) (λx3 hF=>?_) λ_ ao hF=>?_
 ·exact wm ai hF
 refine wE hF zuP λz4 hF=>?_
 refine wG hF (λh5 hF=>?_) λh5 hF=>?_
 ·try simp[go_sem,g,h5]
  try intros
  refine wE hF tq λz6 hF=>?_
  try simp[go_sem,g,h5]
  refine wG hF (λh7 hF=>?_) λh7 hF=>?_
  ·try simp[go_sem,g,h7]
   refine wE hF zno λz8 hF=>?_
   exact wV h7 (ao _) (aj hF)
  exact wV h7 (ao _) (aj hF)
 exact wV h5 (ao _) (aj hF)
def Kb(a0:Int):Option Bool:=
 (o0 a0 0 4611686018427387903).bind λz1=>
 J z1
def zpX{a0 r}(hr:Kb a0=J r):au Tryz.prog 181 [(.sh,.int .i64 a0)] (Eo (.bool r) [.ax]):=by
 apply pF 5 [] [] [] [.tmp 2] hr zHR Tryz.func181;intro Φ ai hF g;unfold Kb at hF;refine wW ?_;refine wE hF tq λz1 hF=>?_
 exact wl ai hF
def LP(a0:ByteArray)(a1:List Int):Option ((List Int)):=
 ((dP (σ:=(List Int)×Int) (λs4=>
 if decide (s4.2<(a0.size:Int))=Z then(
 (xX a0 s4.2).bind λd9=>
 gd ((s4.1.length+1)*8<=140737488355328/\s4.1.length+1<=4611686018427387904)<|
 J (.go (s4.1++[i64.wrap d9],i64.wrap (s4.2+1))))else(
 J (.out s4.1))) ([(a0.size:Int)],0):Option ((List Int))).bind λx3=>
 gd ((x3.length+a1.length)*8<=140737488355328/\x3.length+a1.length<=4611686018427387904)<|
 J (x3++a1))
def zrI{a0 a1 r}(hr:LP a0 a1=J r):au Tryz.prog 217 [(.sh,.str a0),(.sh,vC a1)] (Eo (vD r) cO):=by
 apply pF 26 [] [] [] [.tmp 4] hr zGZ Tryz.func217;intro Φ ai hF g;unfold LP at hF
 iterate 3 refine wW ?_
 refine wJ hF (λx3=>[(1,.v (vC a1)),(5,.v (vD x3))]) (λx3 hF=>?_) λ_ ao hF=>?_
 ·obtain⟨g,hF⟩:=Rg g hF;refine wK [4] ?_;exact wm ai hF
 refine wB ?_;obtain⟨MS,yv,bo⟩:=hF;refine jW yv [0,1] (λs4=>[(5,.v (vD s4.1)),(6,.v (.int .i64 s4.2))]) λs4 _ _ b8 bD hF=>?_
 refine wK [0,1,5,6,13] ?_;refine wI hF (λh9 hF=>?_) λh9 hF=>?_
 ·refine wW ?_;refine wB ?_;obtain⟨d9,g,hF⟩:=Rxs g hF;obtain⟨g,hF⟩:=Rg g hF;refine wW ?_;exact wT (bD _) (aj hF)
 cases b8 _ (aj hF);exact wT (ao _) bo
def FI(aO:Int)(aV:Int)(a1:Int):Option ((Int×Int)):=
 (J [a1.tmod 2147483648,i64.wrap (a1.tdiv 2147483648)]).bind λx1=>
 dP (σ:=(Int×Int)×Int) (λrT=>
 if decide (rT.2<(x1.length:Int))=Z then(
 (ix x1 rT.2).bind λtt=>
 J (.go (((i64.wrap ((i64.wrap ((i64.wrap (48271*rT.1.1))+tt))+1)).tmod 2147483647,(i64.wrap ((i64.wrap ((i64.wrap (69621*rT.1.2))+tt))+1)).tmod 2147483647),i64.wrap (rT.2+1))))else(
 J (.out (rT.1.1,rT.1.2)))) ((aO,aV),0)
def YJ{aO aV a1 r}(hr:FI aO aV a1=J r):au Tryz.prog 218 [(.io,vO aO aV),(.sh,.int .i64 a1)] (Eo (.ax) [vO r.1 r.2,.ax]):=by
 apply pF 41 [0] [] [] [] hr zE2 Tryz.func218;intro Φ ai hF g;unfold FI at hF;have g:=Ld g 2147483648;obtain⟨x1,e2,hF⟩:=mM hF;have g:=And.intro g (show[[.int .i64 (a1.tmod 2147483648)],[.int .i64 (i64.wrap (a1.tdiv 2147483648))]]=x1.map aL by injection e2 with e2;rw[<-e2];simp[go_sem]);try simp[go_sem,g]
 try intros
 refine bh ?_;refine wB ?_;obtain⟨b17,a3d,a3h⟩:=hF;refine jW a3d [10,11] (λrT=>[(0,.v (vO rT.1.1 rT.1.2)),(12,.v (.int .i64 rT.2))]) λrT _ _ a37 a4f hF=>?_
 refine wW ?_;refine wI hF (λiT hF=>?_) λiT hF=>?_
 ·refine wW ?_;refine wB ?_;obtain⟨tt,g,hF⟩:=Rx g hF;refine wK [0,5,10,11,12] ?_;have g:=Ld g 2147483647;refine wK [0,5,10,11,12] ?_;refine wK [0,10,11,12] ?_;exact wT (a4f _) (aj hF)
 cases a37 _ (aj hF);cases ai _ a3h;try simp[go_sem,g]
def LQ(a0:List Int):Option Int:=
 (FI 1 2 (a0.length:Int)).bind λz1=>
 ((aU (σ:=(Int×Int)) (λzn e8=>
 (ix a0 zn).bind λtT=>
 (FI e8.1 e8.2 tT).bind λkd=>
 J (.go (kd.1,kd.2))) (λe8=>(e8.1,e8.2)) (a0.length) 0 (z1.1,z1.2):Option ((Int×Int))).bind λx4=>
 J (i64.wrap ((i64.wrap (x4.1*2147483648))+x4.2)))
def ztv{a0 r}(hr:LQ a0=J r):au Tryz.prog 216 [(.sh,vC a0)] (Eo (.int .i64 r) [.ax]):=by
 apply pF 32 [] [] [7] [.tmp 2] hr zEx Tryz.func216;intro Φ ai hF g;unfold LQ at hF
 iterate 2 (try simp[go_sem,g];try intros;refine bh ?_)
 try simp[go_sem,g]
 try intros
 refine wC hF [.io,.sh] YJ λz1 hF=>?_
 try simp[go_sem,g]
 try intros
 refine bh ?_;try simp[go_sem,g]
 try intros
 refine wK [3,12,13,14] ?_;refine wJ hF (λx4=>[(3,.v (vO x4.1 x4.2))]) (λx4 hF=>?_) λ_ cE hF=>?_
 ·refine wZ (kD 0 [0,0,0,0,0,0,0,0,0,0,0]) follows ?_;refine wK [2] ?_;exact wm ai hF
 refine wB ?_;obtain⟨b23,Sm,Ia⟩:=hF;refine bU Sm [12,13] (λzn e8=>[(3,.v (vO e8.1 e8.2)),(14,.v (.int .i64 zn))]) (λe8 _ Ry=>?_) λzn e8 _ _ LH zL SR IG hF=>?_
 ·exact wn Ry (cE _) Ia
 refine wW ?_;refine wu LH zL ?_;refine wW ?_;refine wB ?_;obtain⟨tT,g,hF⟩:=Rx g hF;refine wW ?_;refine wC hF [.io,.sh] YJ λkd hF=>?_
 refine wW ?_;exact wi LH zL (IG _) (aj hF)
def Fh(a0:ByteArray)(a1:List Int):Option Int:=
 (LP a0 a1).bind λz1=>
 (LQ z1).bind λz2=>
 J z2
def zkL{a0 a1 r}(hr:Fh a0 a1=J r):au Tryz.prog 212 [(.sh,.str a0),(.sh,vC a1)] (Eo (.int .i64 r) cO):=by
 apply pF 9 [] [] [] [.tmp 4] hr zGJ Tryz.func212;intro Φ ai hF g;unfold Fh at hF;refine wW ?_;refine wE hF zrI λz1 hF=>?_
 refine wE hF ztv λz2 hF=>?_
 exact wl ai hF
def Bv(a0:an)(a1:ByteArray)(a2:Int):Option Int:=
 ((dP (σ:=Int) (λs4=>
 if decide (s4<1000)=Z then(
 (Fh a1 [a0.P,a0.Q,a0.G,a2,s4]).bind λbF=>
 gd (i64.wrap (a0.P-1)≠0)<|
 gd (a0.Q≠0)<|
 (l6 (i64.wrap (1+(bF.tmod (i64.wrap (a0.P-1))))) (i64.wrap ((i64.wrap (a0.P-1)).tdiv a0.Q)) a0.P).bind λbQ=>
 if(bQ !=1)=Z then(
 J (.out (.inr bQ)))else(
 J (.go (i64.wrap (s4+1)))))else(
 J (.out (.inl ())))) 0:Option (Unit ⊕ Int)).bind (Sum.elim (λx3=>
 J 0) J))
def zli{a0 a1 a2 r}(hr:Bv a0 a1 a2=J r):au Tryz.prog 182 [(.sh,vE a0),(.sh,.str a1),(.sh,.int .i64 a2)] (Eo (.int .i64 r) gH):=by
 apply pF 43 [] [] [] [.tmp 6] hr zF4 Tryz.func182;intro Φ ai hF g;unfold Bv at hF
 iterate 2 refine wW ?_
 refine wS hF (λx3=>[]) (λx3 hF=>?_) λ_ ao fD hF=>?_
 ·exact wl ai hF
 refine wB ?_;obtain⟨uW,kB,bo⟩:=hF;refine jW kB [1,2,3] (λs4=>[(7,.v (.int .i64 s4))]) λs4 _ _ b8 bD hF=>?_
 refine wW ?_;refine wI hF (λh9 hF=>?_) λh9 hF=>?_
 ·refine wW ?_;refine wB ?_;refine wZ (kE [0,1,2,3,4,5,6,7,8,9,11,12,13,10,14,15,16] [0,25,26,25,26,25,26,0,0,0,25,26,0,6,0,0,0]) follows ?_;refine wE hF zkL λbF hF=>?_
  obtain⟨g,hF⟩:=Rz g hF;refine wK [1,2,3,7,8] ?_;refine wZ (kD 0 [0,25,26,0,25,26,0,25,26,3,0]) follows ?_;obtain⟨g,hF⟩:=Rz g hF;refine wE hF yp λbQ hF=>?_
  refine wK [1,2,3,7,9] ?_;refine wW ?_;refine wI hF (λfB hF=>?_) λfB hF=>?_
  ·cases b8 _ (aj hF);cases ai _ (fD _ bo);refine wW ?_;try simp[go_sem,g]
  refine wW ?_;exact wT (bD _) (aj hF)
 cases b8 _ (aj hF);exact wT (ao _) bo
def LB(a0:an)(a1:ByteArray)(a2:Int):Option (Int×Bool):=
 (((Ai a0).bind λz4=>
 if(!z4)=Z then(
 J Z)else(
 if decide (40<(a1.size:Int))=Z then(
 J Z)else(
 (Kb a2).bind λz7=>
 J (!z7))):Option Bool).bind λx3=>
 if x3=Z then(
 J (0,aa))else(
 (Bv a0 a1 a2).bind λz9=>
 J (z9,decide (0<z9))))
def zmu{a0 a1 a2 r}(hr:LB a0 a1 a2=J r):au Tryz.prog 145 [(.sh,vE a0),(.sh,.str a1),(.sh,.int .i64 a2)] (Eo (.bS [.int .i64 r.1,.bool r.2]) gH):=by
 apply pF 29 [] [] [] [.tmp 6,.tmp 7] hr zH7 Tryz.func145;intro Φ ai hF g;unfold LB at hF;refine wW ?_;refine bX hF [1,2,3] (λx3=>[(21,.v (.bool x3))]) (λx3 hF=>?_) λ_ ao hF=>?_
 ·refine wI hF (λh8 hF=>?_) λh8 hF=>?_
  ·exact wl ai hF
  refine wW ?_;refine wE hF zli λz9 hF=>?_
  refine wW ?_;refine wK [6,7] ?_;exact wm ai hF
 refine wE hF Ob λz4 hF=>?_
 refine wG hF (λh5 hF=>?_) λh5 hF=>?_
 ·exact wV h5 (ao _) (aj hF)
 try simp[go_sem,g,h5]
 refine wG hF (λh6 hF=>?_) λh6 hF=>?_
 ·exact wV h6 (ao _) (aj hF)
 try simp[go_sem,g,h6]
 refine wE hF zpX λz7 hF=>?_
 exact wV h6 (ao _) (aj hF)
def I9(a0:an)(a1:ByteArray)(a2:Int):Option (List Int×Bool):=
 (((Ai a0).bind λz4=>
 if(!z4)=Z then(
 J Z)else(
 if decide (40<(a1.size:Int))=Z then(
 J Z)else(
 (o0 a2 0 100).bind λz7=>
 J (!z7))):Option Bool).bind λx3=>
 if x3=Z then(
 J ([],aa))else(
 ((dP (σ:=(List Int)×Int) (λtA=>
 if decide (tA.2<a2)=Z then(
 (Bv a0 a1 tA.2).bind λfe=>
 if(fe==0)=Z then(
 J (.out (.inr ([],aa))))else(
 gd ((tA.1.length+1)*8<=140737488355328/\tA.1.length+1<=4611686018427387904)<|
 J (.go (tA.1++[fe],i64.wrap (tA.2+1)))))else(
 J (.out (.inl tA.1)))) ([],0):Option ((List Int) ⊕ (List Int×Bool))).bind (Sum.elim (λaN=>
 J (aN,Z)) J))))
def zlR{a0 a1 a2 r}(hr:I9 a0 a1 a2=J r):au Tryz.prog 146 [(.sh,vE a0),(.sh,.str a1),(.sh,.int .i64 a2)] (Eo (.bS [vD r.1,.bool r.2]) gH):=by
 apply pF 40 [] [] [] [.tmp 6,.tmp 7] hr zHU Tryz.func146;intro Φ ai hF g;unfold I9 at hF;refine wW ?_;refine bX hF [1,2,3] (λx3=>[(23,.v (.bool x3))]) (λx3 hF=>?_) λ_ ao hF=>?_
 ·refine wI hF (λh8 hF=>?_) λh8 hF=>?_
  ·exact wl ai hF
  iterate 3 refine wW ?_
  refine wS hF (λaN=>[(8,.v (vD aN))]) (λaN hF=>?_) λ_ A2 a3Z hF=>?_
  ·exact wl ai hF
  refine wB ?_;obtain⟨b20,a2M,a0D⟩:=hF;refine jW a2M [1,2,3] (λtA=>[(8,.v (vD tA.1)),(9,.v (.int .i64 tA.2))]) λtA _ _ Xq a4Z hF=>?_
  refine wW ?_;refine wI hF (λiH hF=>?_) λiH hF=>?_
  ·refine wW ?_;refine wB ?_;refine wE hF zli λfe hF=>?_
   refine wK [1,2,3,8,9,10] ?_;refine wW ?_;refine wI hF (λnU hF=>?_) λnU hF=>?_
   ·cases Xq _ (aj hF);cases ai _ (a3Z _ a0D);refine wW ?_;try simp[go_sem,g]
   obtain⟨g,hF⟩:=Rg g hF
   iterate 2 refine wW ?_
   exact wT (a4Z _) (aj hF)
  cases Xq _ (aj hF);exact wT (A2 _) a0D
 refine wE hF Ob λz4 hF=>?_
 refine wG hF (λh5 hF=>?_) λh5 hF=>?_
 ·exact wV h5 (ao _) (aj hF)
 try simp[go_sem,g,h5]
 refine wG hF (λh6 hF=>?_) λh6 hF=>?_
 ·exact wV h6 (ao _) (aj hF)
 try simp[go_sem,g,h6]
 refine wE hF tq λz7 hF=>?_
 exact wV h6 (ao _) (aj hF)
def p8(a0:an)(a1:Int):Option (cA×Bool):=
 (((Ai a0).bind λz4=>
 if(!z4)=Z then(
 J Z)else(
 (o0 a1 0 24).bind λz6=>
 J (!z6)):Option Bool).bind λx3=>
 if x3=Z then(
 J ((cA.mk 0 []),aa))else(
 (LB a0 (⟨#[104]⟩:ByteArray) 0).bind λz8=>
 (I9 a0 (⟨#[104,115]⟩:ByteArray) a1).bind λz9=>
 ((if(!z8.2)=Z then(
 J Z)else(
 J (!z9.2)):Option Bool).bind λcC=>
 if cC=Z then(
 J ((cA.mk 0 []),aa))else(
 J ((cA.mk z8.1 z9.1),Z)))))
def Pb{a0 a1 r}(hr:p8 a0 a1=J r):au Tryz.prog 83 [(.sh,vE a0),(.sh,.int .i64 a1)] (Eo (.bS [vI r.1,.bool r.2]) cO):=by
 apply pF 40 [] [] [] [.cell 4 70,.tmp 5] hr zLQ Tryz.func83;intro Φ ai hF g;unfold p8 at hF;refine wW ?_;refine bX hF [1,2,4] (λx3=>[(17,.v (.bool x3))]) (λx3 hF=>?_) λ_ ao hF=>?_
 ·refine wI hF (λh7 hF=>?_) λh7 hF=>?_
  ·exact wl ai hF
  refine wW ?_;refine wE hF zmu λz8 hF=>?_
  refine wK [1,2,4,6,7] ?_;refine wE hF zlR λz9 hF=>?_
  refine wW ?_;refine bX hF [4,6,8] (λcC=>[(35,.v (.bool cC))]) (λcC hF=>?_) λ_ AS hF=>?_
  ·refine wI hF (λeD hF=>?_) λeD hF=>?_
   ·refine wK [4,5] ?_;exact wm ai hF
   refine wW ?_;refine wK [4,5] ?_;exact wm ai hF
  refine wG hF (λcZ hF=>?_) λcZ hF=>?_
  ·exact wV cZ (AS _) (aj hF)
  exact wV cZ (AS _) (aj hF)
 refine wE hF Ob λz4 hF=>?_
 refine wG hF (λh5 hF=>?_) λh5 hF=>?_
 ·exact wV h5 (ao _) (aj hF)
 try simp[go_sem,g,h5]
 refine wE hF tq λz6 hF=>?_
 exact wV h5 (ao _) (aj hF)
def uw(a0:an)(a1:Int)(a2:List aq):Option Bool:=
 (qw a0 a1 a2).bind λz1=>
 if(!z1)=Z then(
 J aa)else(
 (p8 a0 (a2.length:Int)).bind λz3=>
 J z3.2)
def zm1{a0 a1 a2 r}(hr:uw a0 a1 a2=J r):au Tryz.prog 36 [(.sh,vE a0),(.sh,.int .i64 a1),(.sh,vH a2)] (Eo (.bool r) gH):=by
 apply pF 22 [] [] [] [.tmp 6] hr zLy Tryz.func36;intro Φ ai hF g;unfold uw at hF;refine wW ?_;refine wE hF B4 λz1 hF=>?_
 refine wW ?_;refine wI hF (λh2 hF=>?_) λh2 hF=>?_
 ·exact wl ai hF
 try simp[go_sem,g]
 try intros
 refine bh ?_;try simp[go_sem,g]
 try intros
 refine wE hF Pb λz3 hF=>?_
 refine wK [8] ?_;exact wl ai hF
def Cs(a0:List Int)(a1:Int)(a2:Int):Option Bool:=
 ((aU (σ:=Unit) (λi5 s4=>
 (ix a0 i5).bind λaN=>
 (o0 aN a1 a2).bind λbr=>
 if(!br)=Z then(
 J (.out (.inr aa)))else(
 J (.go ()))) (λs4=>.inl ()) (a0.length) 0 ():Option (Unit ⊕ Bool)).bind (Sum.elim (λx3=>
 J Z) J))
def Ti{a0 a1 a2 r}(hr:Cs a0 a1 a2=J r):au Tryz.prog 84 [(.sh,vC a0),(.sh,.int .i64 a1),(.sh,.int .i64 a2)] (Eo (.bool r) gH):=by
 apply pF 21 [] [] [] [.tmp 6] hr zKY Tryz.func84;intro Φ ai hF g;unfold Cs at hF
 iterate 2 (try simp[go_sem,g];try intros;refine bh ?_)
 refine wS hF (λx3=>[]) (λx3 hF=>?_) λ_ ao fD hF=>?_
 ·exact wl ai hF
 refine wB ?_;obtain⟨oq,fT,bo⟩:=hF;refine bU fT [1,2,9,10] (λi5 s4=>[(11,.v (.int .i64 i5))]) (λs4 _ iy=>?_) λi5 s4 _ _ bq ba b8 bD hF=>?_
 ·exact wn iy (ao _) bo
 refine wW ?_;refine wu bq ba ?_;refine wW ?_;refine wB ?_;obtain⟨aN,g,hF⟩:=Rx g hF;refine wW ?_;refine wE hF tq λbr hF=>?_
 refine wK [1,2,9,10,11,19] ?_;refine wI hF (λcZ hF=>?_) λcZ hF=>?_
 ·cases b8 _ (aj hF);cases ai _ (fD _ bo);refine wW ?_;try simp[go_sem,g]
 refine wW ?_;exact wi bq ba (bD _) (aj hF)
def EI(a0:List Int)(a1:Int):Option Bool:=
 ((aU (σ:=Unit) (λi5 s4=>
 (ix a0 i5).bind λaN=>
 if(aN==a1)=Z then(
 J (.out (.inr Z)))else(
 J (.go ()))) (λs4=>.inl ()) (a0.length) 0 ():Option (Unit ⊕ Bool)).bind (Sum.elim (λx3=>
 J aa) J))
def zng{a0 a1 r}(hr:EI a0 a1=J r):au Tryz.prog 147 [(.sh,vC a0),(.sh,.int .i64 a1)] (Eo (.bool r) cO):=by
 apply pF 17 [] [] [] [.tmp 4] hr zHK Tryz.func147;intro Φ ai hF g;unfold EI at hF
 iterate 2 (try simp[go_sem,g];try intros;refine bh ?_)
 refine wS hF (λx3=>[]) (λx3 hF=>?_) λ_ ao fD hF=>?_
 ·exact wl ai hF
 refine wB ?_;obtain⟨uW,kB,bo⟩:=hF;refine bU kB [1,7,8] (λi5 s4=>[(9,.v (.int .i64 i5))]) (λs4 _ np=>?_) λi5 s4 _ _ bq ba b8 bD hF=>?_
 ·exact wn np (ao _) bo
 refine wW ?_;refine wu bq ba ?_;refine wW ?_;refine wB ?_;obtain⟨aN,g,hF⟩:=Rx g hF;refine wW ?_;refine wK [1,7,8,9,15] ?_;refine wI hF (λfB hF=>?_) λfB hF=>?_
 ·cases b8 _ (aj hF);cases ai _ (fD _ bo);refine wW ?_;try simp[go_sem,g]
 refine wW ?_;exact wi bq ba (bD _) (aj hF)
def MC(a0:List Int):Option Bool:=
 ((aU (σ:=Unit) (λi5 s4=>
 (ix a0 i5).bind λaN=>
 gd (0<=i5)<|
 gd (0<=i5.toNat/\i5.toNat<=a0.length)<|
 (EI ((a0.take i5.toNat).drop 0) aN).bind λbr=>
 if br=Z then(
 J (.out (.inr aa)))else(
 J (.go ()))) (λs4=>.inl ()) (a0.length) 0 ():Option (Unit ⊕ Bool)).bind (Sum.elim (λx3=>
 J Z) J))
def zoD{a0 r}(hr:MC a0=J r):au Tryz.prog 85 [(.sh,vC a0)] (Eo (.bool r) [.ax]):=by
 apply pF 18 [] [] [] [.tmp 2] hr zMC Tryz.func85;intro Φ ai hF g;unfold MC at hF
 iterate 2 (try simp[go_sem,g];try intros;refine bh ?_)
 refine wS hF (λx3=>[]) (λx3 hF=>?_) λ_ ao fD hF=>?_
 ·exact wl ai hF
 refine wB ?_;obtain⟨oq,fT,bo⟩:=hF;refine bU fT [0,5,6] (λi5 s4=>[(7,.v (.int .i64 i5))]) (λs4 _ iy=>?_) λi5 s4 _ _ bq ba b8 bD hF=>?_
 ·exact wn iy (ao _) bo
 refine wW ?_;refine wu bq ba ?_;refine wW ?_;refine wB ?_;obtain⟨aN,g,hF⟩:=Rx g hF;refine wK [0,3,4,5,6,7] ?_
 iterate 2 obtain⟨g,hF⟩:=Rg g hF
 refine wE hF zng λbr hF=>?_
 refine wW ?_;refine wI hF (λcZ hF=>?_) λcZ hF=>?_
 ·cases b8 _ (aj hF);cases ai _ (fD _ bo);refine wW ?_;try simp[go_sem,g]
 refine wW ?_;exact wi bq ba (bD _) (aj hF)
def LD(a0:List Int):Option Bool:=
 ((if decide ((a0.length:Int)<=24)=Z then(
 (Cs a0 0 (i64.wrap ((a0.length:Int)-1))).bind λz5=>
 if z5=Z then(
 (MC a0).bind λz7=>
 J z7)else(
 J aa))else(
 J aa):Option Bool).bind λx3=>
 J x3)
def ztO{a0 r}(hr:LD a0=J r):au Tryz.prog 37 [(.sh,vC a0)] (Eo (.bool r) [.ax]):=by
 apply pF 17 [] [] [] [.tmp 2] hr zLe Tryz.func37;intro Φ ai hF g;unfold LD at hF;refine wW ?_;refine wJ hF (λx3=>[(2,.v (.bool x3))]) (λx3 hF=>?_) λ_ ao hF=>?_
 ·exact wm ai hF
 try simp[go_sem,g]
 try intros
 refine wG hF (λh4 hF=>?_) λh4 hF=>?_
 ·try simp[go_sem,g,h4]
  try intros
  refine wE hF Ti λz5 hF=>?_
  try simp[go_sem,g,h4]
  refine wG hF (λh6 hF=>?_) λh6 hF=>?_
  ·try simp[go_sem,g,h6]
   refine wE hF zoD λz7 hF=>?_
   exact wV h6 (ao _) (aj hF)
  exact wV h6 (ao _) (aj hF)
 exact wV h4 (ao _) (aj hF)
def sO(a0:an)(a1:List Int):Option Bool:=
 (Cs a1 0 (i64.wrap (a0.Q-1))).bind λz1=>
 J z1
def Ep{a0 a1 r}(hr:sO a0 a1=J r):au Tryz.prog 38 [(.sh,vE a0),(.sh,vC a1)] (Eo (.bool r) cO):=by
 apply pF 10 [] [] [] [.tmp 4] hr zKL Tryz.func38;intro Φ ai hF g;unfold sO at hF;refine wW ?_;refine wE hF Ti λz1 hF=>?_
 exact wl ai hF
def ej(a0:an)(a1:List Int):Option Int:=
 ((aU (σ:=Int) (λi5 s4=>
 (ix a1 i5).bind λaN=>
 gd (a0.P≠0)<|
 J (.go ((i64.wrap (s4*aN)).tmod a0.P))) (λs4=>s4) (a1.length) 0 1:Option Int).bind λx3=>
 J x3)
def gZ{a0 a1 r}(hr:ej a0 a1=J r):au Tryz.prog 190 [(.sh,vE a0),(.sh,vC a1)] (Eo (.int .i64 r) cO):=by
 apply pF 22 [] [] [] [.tmp 4] hr zEV Tryz.func190;intro Φ ai hF g;unfold ej at hF
 iterate 3 (try simp[go_sem,g];try intros;refine bh ?_)
 refine wJ hF (λx3=>[(5,.v (.int .i64 x3))]) (λx3 hF=>?_) λ_ ao hF=>?_
 ·exact wl ai hF
 refine wB ?_;obtain⟨yI,mq,bo⟩:=hF;refine bU mq [2,8,9] (λi5 s4=>[(5,.v (.int .i64 s4)),(10,.v (.int .i64 i5))]) (λs4 _ pH=>?_) λi5 s4 _ _ bq ba b8 bD hF=>?_
 ·exact wn pH (ao _) bo
 refine wW ?_;refine wu bq ba ?_;refine wW ?_;refine wB ?_;obtain⟨aN,g,hF⟩:=Rx g hF;refine wK [2,5,7,8,9,10] ?_;obtain⟨g,hF⟩:=Rz g hF;refine wW ?_;exact wi bq ba (bD _) (aj hF)
def IE(a0:an)(a1:Int)(a2:Int)(a3:Int):Option aq:=
 (cH a0 a0.G a3).bind λz1=>
 (cH a0 a1 a3).bind λz2=>
 (ej a0 [a2,z2]).bind λz3=>
 J (aq.mk z1 z3)
def zus{a0 a1 a2 a3 r}(hr:IE a0 a1 a2 a3=J r):au Tryz.prog 184 [(.sh,vE a0),(.sh,.int .i64 a1),(.sh,.int .i64 a2),(.sh,.int .i64 a3)] (Eo (vF r) kY):=by
 apply pF 23 [] [] [] [.cell 8 86] hr zHt Tryz.func184;intro Φ ai hF g;unfold IE at hF;refine wW ?_;refine wZ (kE [0,1,2,3,5,6,7,8,9,4,10,11,12,13,14] [34,33,34,0,34,0,34,0,0,3,3,0,6,0,66]) follows ?_;refine wE hF eK λz1 hF=>?_
 refine wE hF eK λz2 hF=>?_
 refine wE hF gZ λz3 hF=>?_
 refine wK [8] ?_;exact wm ai hF
def Mf(a0:an)(a1:List aq):Option aq:=
 ((aU (σ:=Int×Int) (λzn e8=>
 (ix a1 zn).bind λtT=>
 (ej a0 [e8.1,tT.A]).bind λkd=>
 (ej a0 [e8.2,tT.B]).bind λwc=>
 J (.go (kd,wc))) (λe8=>(e8.1,e8.2)) (a1.length) 0 (1,1):Option ((Int×Int))).bind λx3=>
 J (aq.mk x3.1 x3.2))
def zux{a0 a1 r}(hr:Mf a0 a1=J r):au Tryz.prog 183 [(.sh,vE a0),(.sh,vH a1)] (Eo (vF r) cO):=by
 apply pF 32 [] [] [] [.cell 4 86] hr zG8 Tryz.func183;intro Φ ai hF g;unfold Mf at hF
 iterate 3 (try simp[go_sem,g];try intros;refine bh ?_)
 refine wJ hF (λx3=>[(4,.bl [.int .i64 0,.int .i64 0]),(5,.bl [.int .i64 x3.1,.int .i64 x3.2])]) (λx3 hF=>?_) λ_ ao hF=>?_
 ·refine wK [4] ?_;exact wm ai hF
 refine wB ?_;obtain⟨b24,a43,Ia⟩:=hF;refine bU a43 [2,4,9,10] (λzn e8=>[(5,.bl [.int .i64 e8.1,.int .i64 e8.2]),(11,.v (.int .i64 zn))]) (λe8 _ a2C=>?_) λzn e8 _ _ LH zL SR IG hF=>?_
 ·exact wn a2C (ao _) Ia
 refine wW ?_;refine wu LH zL ?_;refine wW ?_;refine wB ?_;obtain⟨tT,g,hF⟩:=Rx g hF;refine wK [2,4,5,7,9,10,11] ?_;refine wZ (kE [0,1,2,3,4,5,7,8,9,10,11,12,6,13,14,15] [18,41,42,57,58,0,18,41,42,57,58,0,6,6,0,42]) follows ?_;refine wE hF gZ λkd hF=>?_
 refine wE hF gZ λwc hF=>?_
 refine wK [2,4,5,9,10,11] ?_;exact wi LH zL (IG _) (aj hF)
def FX(a0:an)(a1:Int)(a2:aq)(a3:Int):Option aq:=
 (IE a0 a1 1 a3).bind λz1=>
 (Mf a0 [a2,z1]).bind λz2=>
 J z2
def zwP{a0 a1 a2 a3 r}(hr:FX a0 a1 a2 a3=J r):au Tryz.prog 148 [(.sh,vE a0),(.sh,.int .i64 a1),(.sh,vF a2),(.sh,.int .i64 a3)] (Eo (vF r) kY):=by
 apply pF 17 [] [] [] [.cell 8 86] hr zHA Tryz.func148;intro Φ ai hF g;unfold FX at hF;refine wW ?_;refine wZ (kD 0 [34,50,34,0,0,3,0,6,66]) follows ?_;refine wE hF zus λz1 hF=>?_
 refine wE hF zux λz2 hF=>?_
 refine wK [8] ?_;exact wm ai hF
def Em(a0:an)(a1:Int)(a2:List aq)(a3:List Int)(a4:List Int):Option ((List aq)):=
 ((aU (σ:=(List aq)) (λi5 s4=>
 (ix a3 i5).bind λaN=>
 (ix a2 aN).bind λcC=>
 (ix a4 i5).bind λfQ=>
 (FX a0 a1 cC fQ).bind λdK=>
 gd ((s4.length+1)*16<=140737488355328/\s4.length+1<=4611686018427387904)<|
 J (.go (s4++[dK]))) (λs4=>s4) (a3.length) 0 []:Option ((List aq))).bind λx3=>
 J x3)
def SH{a0 a1 a2 a3 a4 r}(hr:Em a0 a1 a2 a3 a4=J r):au Tryz.prog 86 [(.sh,vE a0),(.sh,.int .i64 a1),(.sh,vH a2),(.sh,vC a3),(.sh,vC a4)] (Eo (vG r) rU):=by
 apply pF 37 [] [] [] [.tmp 10] hr zNL Tryz.func86;intro Φ ai hF g;unfold Em at hF
 iterate 3 (try simp[go_sem,g];try intros;refine bh ?_)
 refine wJ hF (λx3=>[(11,.v (vG x3))]) (λx3 hF=>?_) λ_ ao hF=>?_
 ·exact wl ai hF
 refine wB ?_;obtain⟨CO,pi,bo⟩:=hF;refine bU pi [1,2,4,5,14,15] (λi5 s4=>[(11,.v (vG s4)),(16,.v (.int .i64 i5))]) (λs4 _ oI=>?_) λi5 s4 _ _ bq ba b8 bD hF=>?_
 ·exact wn oI (ao _) bo
 refine wW ?_;refine wu bq ba ?_;refine wW ?_;refine wB ?_;obtain⟨aN,g,hF⟩:=Rx g hF;refine wK [1,2,4,5,11,12,13,14,15,16] ?_;refine wZ (kD 0 [0,42,0,0,0,0,0,0,0,0,0,3,0,5,0]) follows ?_;obtain⟨cC,g,hF⟩:=Rx g hF;obtain⟨fQ,g,hF⟩:=Rx g hF;refine wE hF zwP λdK hF=>?_
 obtain⟨g,hF⟩:=Rg g hF;refine wK [1,2,4,5,11,14,15,16] ?_;exact wi bq ba (bD _) (aj hF)
def GN(a0:List Int):Option Bool:=
 ((aU (σ:=Unit) (λi5 s4=>
 (ix a0 i5).bind λaN=>
 gd (0<=i5)<|
 gd (0<=i5.toNat/\i5.toNat<=a0.length)<|
 (EI ((a0.take i5.toNat).drop 0) aN).bind λbr=>
 if br=Z then(
 J (.out (.inr aa)))else(
 J (.go ()))) (λs4=>.inl ()) (a0.length) 0 ():Option (Unit ⊕ Bool)).bind (Sum.elim (λx3=>
 J Z) J))
def zq7{a0 r}(hr:GN a0=J r):au Tryz.prog 185 [(.sh,vC a0)] (Eo (.bool r) [.ax]):=by
 apply pF 18 [] [] [] [.tmp 2] hr zFk Tryz.func185;intro Φ ai hF g;unfold GN at hF
 iterate 2 (try simp[go_sem,g];try intros;refine bh ?_)
 refine wS hF (λx3=>[]) (λx3 hF=>?_) λ_ ao fD hF=>?_
 ·exact wl ai hF
 refine wB ?_;obtain⟨oq,fT,bo⟩:=hF;refine bU fT [0,5,6] (λi5 s4=>[(7,.v (.int .i64 i5))]) (λs4 _ iy=>?_) λi5 s4 _ _ bq ba b8 bD hF=>?_
 ·exact wn iy (ao _) bo
 refine wW ?_;refine wu bq ba ?_;refine wW ?_;refine wB ?_;obtain⟨aN,g,hF⟩:=Rx g hF;refine wK [0,3,4,5,6,7] ?_
 iterate 2 obtain⟨g,hF⟩:=Rg g hF
 refine wE hF zng λbr hF=>?_
 refine wW ?_;refine wI hF (λcZ hF=>?_) λcZ hF=>?_
 ·cases b8 _ (aj hF);cases ai _ (fD _ bo);refine wW ?_;try simp[go_sem,g]
 refine wW ?_;exact wi bq ba (bD _) (aj hF)
def Hy(a0:List Int)(a1:Int):Option Bool:=
 ((if((a0.length:Int)==a1)=Z then(
 (Cs a0 0 (i64.wrap (a1-1))).bind λz5=>
 if z5=Z then(
 (GN a0).bind λz7=>
 J z7)else(
 J aa))else(
 J aa):Option Bool).bind λx3=>
 J x3)
def znF{a0 a1 r}(hr:Hy a0 a1=J r):au Tryz.prog 149 [(.sh,vC a0),(.sh,.int .i64 a1)] (Eo (.bool r) cO):=by
 apply pF 19 [] [] [] [.tmp 4] hr zFp Tryz.func149;intro Φ ai hF g;unfold Hy at hF;refine wW ?_;refine wJ hF (λx3=>[(4,.v (.bool x3))]) (λx3 hF=>?_) λ_ ao hF=>?_
 ·exact wm ai hF
 try simp[go_sem,g]
 try intros
 refine wG hF (λh4 hF=>?_) λh4 hF=>?_
 ·try simp[go_sem,g,h4]
  refine wE hF Ti λz5 hF=>?_
  try simp[go_sem,g,h4]
  refine wG hF (λh6 hF=>?_) λh6 hF=>?_
  ·try simp[go_sem,g,h6]
   refine wE hF zq7 λz7 hF=>?_
   exact wV h6 (ao _) (aj hF)
  exact wV h6 (ao _) (aj hF)
 exact wV h4 (ao _) (aj hF)
def Lm(a0:an)(a1:cA)(a2:List Int)(a3:List Int):Option ((List Int)):=
 gd (0<=(a2.length:Int)/\(a2.length:Int)<=(a2.length:Int)/\8*(a2.length:Int)<=140737488355328/\(a2.length:Int)<=4611686018427387904)<|
 (J (List.replicate a2.length 0)).bind λx1=>
 ((aU (σ:=(List Int)) (λmS du=>
 (ix a2 mS).bind λfR=>
 (ix a3 fR).bind λgi=>
 (ix a1.Hs mS).bind λjo=>
 (cH a0 a0.G gi).bind λeX=>
 (ej a0 [eX,jo]).bind λfy=>
 (ix du fR).bind λnk=>
 J (.go (du.set fR.toNat fy))) (λdu=>du) (a2.length) 0 x1:Option ((List Int))).bind λx6=>
 J x6)
end
end Go.Pm
