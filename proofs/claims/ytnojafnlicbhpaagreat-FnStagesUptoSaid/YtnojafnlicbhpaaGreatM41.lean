/-
  Plain functions and their walks. Written by wip/tools/lift.py.
-/
import Derived.Test.YtnojafnlicbhpaaGreatPS
namespace Go.Pm
set_option linter.defProp false
open Go.Am IntKind
open Go.Proofs
open Bool renaming false→aa,true→Z
open Option renaming none→ae,some→J
def Gy:=@List.map_congr_left
def Gz:=@List.map_set
def KC:=@List.length_set
set_option maxRecDepth 100000
set_option maxHeartbeats 4000000
attribute [local irreducible] pw pwx pw1 pwg qv qz qf
attribute [-simp] List.map_set
set_option linter.unusedSimpArgs false
set_option linter.unusedVariables false
noncomputable section
structure am where
 P:Int
 Q:Int
 G:Int
structure an where
 A:Int
 B:Int
structure AiG where
 code:(List Int)
 at_:Int
 dC:Int
structure bZ where
 aC:(List Int)
 aV:(List Int)
 aD:(List Int)
structure cF where
 cu:(List Int)
 aF:(List Int)
 Pi:bZ
structure cn where
 bQ:(List Int)
 bL:(List Int)
 aF:(List Int)
 Pi:bZ
structure ec where
 dD:Int
 Out:(List an)
 br:cF
 Poly:cn
structure ct where
 H:Int
 Hs:(List Int)
structure AgS where
 l:(List Int)
structure Aiw where
 f0:(List Int)
 f1:(List Int)
 f2:(List Int)
 f3:(List Int)
 f4:(List Int)
structure AhB where
 s:Int
 t:Int
structure AfB where
 l:(List Int)
 ok:Bool
def qM(x:Int):List PV:=[.int .u8 x]
variable{i:Nat}{l:List Int}{x:(List Int)}
@[go_sem] def zJb{x:Int}:qM x=[.int .u8 x]:=(rfl)
@[go_sem] def zuH :List.map (List.map drop∘qM) l=l.map qM:=by refine Gy λx _=>?_;simp[go_sem]
@[go_sem] def zCI :List.map (List.map drop) (l.map qM)=l.map qM:=by rw[sF];exact zuH
@[go_sem] def zE4{a:Int}:(l.map qM).set i [.int .u8 a]=(l.set i a).map qM:=by rw[Gz];rfl
def aJ(x:Int):List PV:=[.int .i64 x]
@[go_sem] def zEC{x:Int}:aJ x=[.int .i64 x]:=(rfl)
@[go_sem] def zt0 :List.map (List.map drop∘aJ) l=l.map aJ:=by refine Gy λx _=>?_;simp[go_sem]
@[go_sem] def zB9 :List.map (List.map drop) (l.map aJ)=l.map aJ:=by rw[sF];exact zt0
@[go_sem] def zD6{a:Int}:(l.map aJ).set i [.int .i64 a]=(l.set i a).map aJ:=by rw[Gz];rfl
def jA(x:an):List PV:=[.int .i64 x.A,.int .i64 x.B]
@[go_sem] def zCg{x:an}:jA x=[.int .i64 x.A,.int .i64 x.B]:=(rfl)
@[go_sem] def zqb{l:List an}:List.map (List.map drop∘jA) l=l.map jA:=by refine Gy λx _=>?_;simp[go_sem]
@[go_sem] def zy5{l:List an}:List.map (List.map drop) (l.map jA)=l.map jA:=by rw[sF];exact zqb
@[go_sem] def zAT{l:List an}{A:Int}{B:Int}:(l.map jA).set i [.int .i64 A,.int .i64 B]=(l.set i (an.mk A B)).map jA:=by rw[Gz];rfl
def lF(x:List Int):List PV:=[.sl aa 1 (x.map aJ)]
@[go_sem] def zD0 :lF x=[.sl aa 1 (x.map aJ)]:=(rfl)
@[go_sem] def zrM{l:List (List Int)}:List.map (List.map drop∘lF) l=l.map lF:=by refine Gy λx _=>?_;simp[go_sem]
@[go_sem] def zBP{l:List (List Int)}:List.map (List.map drop) (l.map lF)=l.map lF:=by rw[sF];exact zrM
@[go_sem] def zDY{l:List (List Int)}{a:(List Int)}:(l.map lF).set i [.sl aa 1 (a.map aJ)]=(l.set i a).map lF:=by rw[Gz];rfl
def sL(x:(List (List Int))):List PV:=[.sl aa 1 (x.map lF)]
@[go_sem] def zDd{x:(List (List Int))}:sL x=[.sl aa 1 (x.map lF)]:=(rfl)
@[go_sem] def zqZ{l:List (List (List Int))}:List.map (List.map drop∘sL) l=l.map sL:=by refine Gy λx _=>?_;simp[go_sem]
@[go_sem] def zz8{l:List (List (List Int))}:List.map (List.map drop) (l.map sL)=l.map sL:=by rw[sF];exact zqZ
@[go_sem] def zCf{l:List (List (List Int))}{a:(List (List Int))}:(l.map sL).set i [.sl aa 1 (a.map lF)]=(l.set i a).map sL:=by rw[Gz];rfl
def Bo(x:(List (List Int))):List PV:=[.sl Z 1 (x.map lF)]
@[go_sem] def zDc{x:(List (List Int))}:Bo x=[.sl Z 1 (x.map lF)]:=(rfl)
@[go_sem] def zqF{l:List (List (List Int))}:List.map (List.map drop∘Bo) l=l.map sL:=by refine Gy λx _=>?_;simp[go_sem]
@[go_sem] def zz6{l:List (List (List Int))}:List.map (List.map drop) (l.map Bo)=l.map sL:=by rw[sF];exact zqF
@[go_sem] def zCh{l:List (List (List Int))}{a:(List (List Int))}:(l.map Bo).set i [.sl Z 1 (a.map lF)]=(l.set i a).map Bo:=by rw[Gz];rfl
def BI(x:List Int):List PV:=[.sl Z 1 (x.map aJ)]
@[go_sem] def zEm :BI x=[.sl Z 1 (x.map aJ)]:=(rfl)
@[go_sem] def zrF{l:List (List Int)}:List.map (List.map drop∘BI) l=l.map lF:=by refine Gy λx _=>?_;simp[go_sem]
@[go_sem] def zBM{l:List (List Int)}:List.map (List.map drop) (l.map BI)=l.map lF:=by rw[sF];exact zrF
@[go_sem] def zDZ{l:List (List Int)}{a:(List Int)}:(l.map BI).set i [.sl Z 1 (a.map aJ)]=(l.set i a).map BI:=by rw[Gz];rfl
def vA(x:List Int):PV:=.sl aa 1 (x.map qM)
@[go_sem] def zUl :vA x=.sl aa 1 (x.map qM):=(rfl)
def vB(x0:List Int)(x1:Int)(x2:Int):PV:=.bx [.sl aa 1 (x0.map qM),.int .i64 x1,.int .u64 x2]
@[go_sem] def zTL{x0:(List Int)}{x1:Int}{x2:Int}:vB x0 x1 x2=.bx [.sl aa 1 (x0.map qM),.int .i64 x1,.int .u64 x2]:=(rfl)
def vC(x:List Int):PV:=.sl aa 1 (x.map aJ)
@[go_sem] def zVb :vC x=.sl aa 1 (x.map aJ):=(rfl)
def vD(x:List Int):PV:=.sl Z 1 (x.map aJ)
@[go_sem] def zUf :vD x=.sl Z 1 (x.map aJ):=(rfl)
def vE(x:am):PV:=.agg [.int .i64 x.P,.int .i64 x.Q,.int .i64 x.G]
@[go_sem] def zUx{x:am}:vE x=.agg [.int .i64 x.P,.int .i64 x.Q,.int .i64 x.G]:=(rfl)
def vF(x:an):PV:=.agg [.int .i64 x.A,.int .i64 x.B]
@[go_sem] def zUo{x:an}:vF x=.agg [.int .i64 x.A,.int .i64 x.B]:=(rfl)
def vG(x:List an):PV:=.sl Z 2 (x.map jA)
@[go_sem] def zUY{x:(List an)}:vG x=.sl Z 2 (x.map jA):=(rfl)
def vH(x:List an):PV:=.sl aa 2 (x.map jA)
@[go_sem] def zUz{x:(List an)}:vH x=.sl aa 2 (x.map jA):=(rfl)
def vI(x:ct):PV:=.agg [.int .i64 x.H,.sl Z 1 (x.Hs.map aJ)]
@[go_sem] def zVg{x:ct}:vI x=.agg [.int .i64 x.H,.sl Z 1 (x.Hs.map aJ)]:=(rfl)
def vJ(x:ct):PV:=.agg [.int .i64 x.H,.sl aa 1 (x.Hs.map aJ)]
@[go_sem] def zVV{x:ct}:vJ x=.agg [.int .i64 x.H,.sl aa 1 (x.Hs.map aJ)]:=(rfl)
def vK(x:(List (List Int))):PV:=.sl aa 1 (x.map lF)
@[go_sem] def zVk{x:(List (List Int))}:vK x=.sl aa 1 (x.map lF):=(rfl)
def vL(x:cF):PV:=.agg [.sl aa 1 (x.cu.map aJ),.sl aa 1 (x.aF.map aJ),.sl aa 1 (x.Pi.aC.map aJ),.sl aa 1 (x.Pi.aV.map aJ),.sl aa 1 (x.Pi.aD.map aJ)]
@[go_sem] def zTV{x:cF}:vL x=.agg [.sl aa 1 (x.cu.map aJ),.sl aa 1 (x.aF.map aJ),.sl aa 1 (x.Pi.aC.map aJ),.sl aa 1 (x.Pi.aV.map aJ),.sl aa 1 (x.Pi.aD.map aJ)]:=(rfl)
def vM(x:cn):PV:=.agg [.sl aa 1 (x.bQ.map aJ),.sl aa 1 (x.bL.map aJ),.sl aa 1 (x.aF.map aJ),.sl aa 1 (x.Pi.aC.map aJ),.sl aa 1 (x.Pi.aV.map aJ),.sl aa 1 (x.Pi.aD.map aJ)]
@[go_sem] def zVI{x:cn}:vM x=.agg [.sl aa 1 (x.bQ.map aJ),.sl aa 1 (x.bL.map aJ),.sl aa 1 (x.aF.map aJ),.sl aa 1 (x.Pi.aC.map aJ),.sl aa 1 (x.Pi.aV.map aJ),.sl aa 1 (x.Pi.aD.map aJ)]:=(rfl)
def vN(x:ec):PV:=.agg [.int .i64 x.dD,.sl aa 2 (x.Out.map jA),.sl aa 1 (x.br.cu.map aJ),.sl aa 1 (x.br.aF.map aJ),.sl aa 1 (x.br.Pi.aC.map aJ),.sl aa 1 (x.br.Pi.aV.map aJ),.sl aa 1 (x.br.Pi.aD.map aJ),.sl aa 1 (x.Poly.bQ.map aJ),.sl aa 1 (x.Poly.bL.map aJ),.sl aa 1 (x.Poly.aF.map aJ),.sl aa 1 (x.Poly.Pi.aC.map aJ),.sl aa 1 (x.Poly.Pi.aV.map aJ),.sl aa 1 (x.Poly.Pi.aD.map aJ)]
@[go_sem] def zVt{x:ec}:vN x=.agg [.int .i64 x.dD,.sl aa 2 (x.Out.map jA),.sl aa 1 (x.br.cu.map aJ),.sl aa 1 (x.br.aF.map aJ),.sl aa 1 (x.br.Pi.aC.map aJ),.sl aa 1 (x.br.Pi.aV.map aJ),.sl aa 1 (x.br.Pi.aD.map aJ),.sl aa 1 (x.Poly.bQ.map aJ),.sl aa 1 (x.Poly.bL.map aJ),.sl aa 1 (x.Poly.aF.map aJ),.sl aa 1 (x.Poly.Pi.aC.map aJ),.sl aa 1 (x.Poly.Pi.aV.map aJ),.sl aa 1 (x.Poly.Pi.aD.map aJ)]:=(rfl)
def vO(x0:Int)(x1:Int):PV:=.bx [.int .i64 x0,.int .i64 x1]
@[go_sem] def zUM{x0:Int}{x1:Int}:vO x0 x1=.bx [.int .i64 x0,.int .i64 x1]:=(rfl)
def vP(x:cF):PV:=.agg [.sl Z 1 (x.cu.map aJ),.sl Z 1 (x.aF.map aJ),.sl Z 1 (x.Pi.aC.map aJ),.sl Z 1 (x.Pi.aV.map aJ),.sl Z 1 (x.Pi.aD.map aJ)]
@[go_sem] def zTX{x:cF}:vP x=.agg [.sl Z 1 (x.cu.map aJ),.sl Z 1 (x.aF.map aJ),.sl Z 1 (x.Pi.aC.map aJ),.sl Z 1 (x.Pi.aV.map aJ),.sl Z 1 (x.Pi.aD.map aJ)]:=(rfl)
def vQ(x:cn):PV:=.agg [.sl Z 1 (x.bQ.map aJ),.sl Z 1 (x.bL.map aJ),.sl Z 1 (x.aF.map aJ),.sl Z 1 (x.Pi.aC.map aJ),.sl Z 1 (x.Pi.aV.map aJ),.sl Z 1 (x.Pi.aD.map aJ)]
@[go_sem] def zUb{x:cn}:vQ x=.agg [.sl Z 1 (x.bQ.map aJ),.sl Z 1 (x.bL.map aJ),.sl Z 1 (x.aF.map aJ),.sl Z 1 (x.Pi.aC.map aJ),.sl Z 1 (x.Pi.aV.map aJ),.sl Z 1 (x.Pi.aD.map aJ)]:=(rfl)
def vR(x:ec):PV:=.agg [.int .i64 x.dD,.sl Z 2 (x.Out.map jA),.sl Z 1 (x.br.cu.map aJ),.sl Z 1 (x.br.aF.map aJ),.sl Z 1 (x.br.Pi.aC.map aJ),.sl Z 1 (x.br.Pi.aV.map aJ),.sl Z 1 (x.br.Pi.aD.map aJ),.sl Z 1 (x.Poly.bQ.map aJ),.sl Z 1 (x.Poly.bL.map aJ),.sl Z 1 (x.Poly.aF.map aJ),.sl Z 1 (x.Poly.Pi.aC.map aJ),.sl Z 1 (x.Poly.Pi.aV.map aJ),.sl Z 1 (x.Poly.Pi.aD.map aJ)]
@[go_sem] def zUQ{x:ec}:vR x=.agg [.int .i64 x.dD,.sl Z 2 (x.Out.map jA),.sl Z 1 (x.br.cu.map aJ),.sl Z 1 (x.br.aF.map aJ),.sl Z 1 (x.br.Pi.aC.map aJ),.sl Z 1 (x.br.Pi.aV.map aJ),.sl Z 1 (x.br.Pi.aD.map aJ),.sl Z 1 (x.Poly.bQ.map aJ),.sl Z 1 (x.Poly.bL.map aJ),.sl Z 1 (x.Poly.aF.map aJ),.sl Z 1 (x.Poly.Pi.aC.map aJ),.sl Z 1 (x.Poly.Pi.aV.map aJ),.sl Z 1 (x.Poly.Pi.aD.map aJ)]:=(rfl)
def vS(x:bZ):PV:=.agg [.sl aa 1 (x.aC.map aJ),.sl aa 1 (x.aV.map aJ),.sl aa 1 (x.aD.map aJ)]
@[go_sem] def zTC{x:bZ}:vS x=.agg [.sl aa 1 (x.aC.map aJ),.sl aa 1 (x.aV.map aJ),.sl aa 1 (x.aD.map aJ)]:=(rfl)
def vT(x:(List (List Int))):PV:=.sl Z 1 (x.map lF)
@[go_sem] def zTS{x:(List (List Int))}:vT x=.sl Z 1 (x.map lF):=(rfl)
def vU(x:(List (List (List Int)))):PV:=.sl aa 1 (x.map sL)
@[go_sem] def zVx{x:(List (List (List Int)))}:vU x=.sl aa 1 (x.map sL):=(rfl)
def vV(x:(List (List (List Int)))):PV:=.sl Z 1 (x.map Bo)
@[go_sem] def zTt{x:(List (List (List Int)))}:vV x=.sl Z 1 (x.map Bo):=(rfl)
def vW(x0:List Int)(x1:Bool):PV:=.bx [.sl aa 1 (x0.map aJ),.bool x1]
@[go_sem] def zU0{x0:(List Int)}{x1:Bool}:vW x0 x1=.bx [.sl aa 1 (x0.map aJ),.bool x1]:=(rfl)
def vX(x:(List (List Int))):PV:=.sl Z 1 (x.map BI)
@[go_sem] def zTq{x:(List (List Int))}:vX x=.sl Z 1 (x.map BI):=(rfl)
def vY(x:bZ):PV:=.agg [.sl Z 1 (x.aC.map aJ),.sl Z 1 (x.aV.map aJ),.sl Z 1 (x.aD.map aJ)]
@[go_sem] def zVi{x:bZ}:vY x=.agg [.sl Z 1 (x.aC.map aJ),.sl Z 1 (x.aV.map aJ),.sl Z 1 (x.aD.map aJ)]:=(rfl)
def vZ(x:ec):PV:=.agg [.int .i64 x.dD,.sl Z 2 (x.Out.map jA),.sl aa 1 (x.br.cu.map aJ),.sl aa 1 (x.br.aF.map aJ),.sl aa 1 (x.br.Pi.aC.map aJ),.sl aa 1 (x.br.Pi.aV.map aJ),.sl aa 1 (x.br.Pi.aD.map aJ),.sl aa 1 (x.Poly.bQ.map aJ),.sl aa 1 (x.Poly.bL.map aJ),.sl aa 1 (x.Poly.aF.map aJ),.sl aa 1 (x.Poly.Pi.aC.map aJ),.sl aa 1 (x.Poly.Pi.aV.map aJ),.sl aa 1 (x.Poly.Pi.aD.map aJ)]
@[go_sem] def zU9{x:ec}:vZ x=.agg [.int .i64 x.dD,.sl Z 2 (x.Out.map jA),.sl aa 1 (x.br.cu.map aJ),.sl aa 1 (x.br.aF.map aJ),.sl aa 1 (x.br.Pi.aC.map aJ),.sl aa 1 (x.br.Pi.aV.map aJ),.sl aa 1 (x.br.Pi.aD.map aJ),.sl aa 1 (x.Poly.bQ.map aJ),.sl aa 1 (x.Poly.bL.map aJ),.sl aa 1 (x.Poly.aF.map aJ),.sl aa 1 (x.Poly.Pi.aC.map aJ),.sl aa 1 (x.Poly.Pi.aV.map aJ),.sl aa 1 (x.Poly.Pi.aD.map aJ)]:=(rfl)
def Mm(a0:List Int)(a1:List Int):Option Bool:=
 ((if decide (1048576<(a0.length:Int))=Z then(
 J Z)else(
 J (decide ((i64.wrap (1048576-(a0.length:Int)))<(a1.length:Int)))):Option Bool).bind λx3=>
 J x3)
def zwP{a0 a1 r}(hr:Mm a0 a1=J r):ap Tryz.prog 5 [(.sh,vA a0),(.sh,vA a1)] (Eo (.bool r) cI):=by
 apply pE [] hr cl5 Tryz.Agy;intro Φ ak hF g;unfold Mm at hF;refine wW ?_;refine wJ hF (λx3=>[(4,.v (.bool x3))]) (λx3 hF=>?_) λ_ hj0 hF=>?_
 ·exact wm ak hF
 exact wL
def Dq(aL:List Int)(aW:Int)(bp:Int):Option (Int×(List Int×Int×Int)):=
 ((if decide (aW<(aL.length:Int))=Z then(
 (ix aL aW).bind λx5=>
 J (i64.wrap x5))else(
 J 0):Option Int).bind λx3=>
 if decide ((i64.wrap (aW+1))<=(aL.length:Int))=Z then(
 J (x3,(aL,i64.wrap (aW+1),u64.wrap ((u64.wrap ((u64.wrap (bp*6364136223846793005))+(u64.wrap x3)))+1442695040888963407))))else(
 J (i64.wrap (u64.wrap ((BitVec.ofInt u64.bits ((u64.wrap ((u64.wrap ((u64.wrap (bp*6364136223846793005))+(u64.wrap x3)))+1442695040888963407)).fdiv 1099511627776)&&&BitVec.ofInt u64.bits 255).toNat)),(aL,i64.wrap (aW+1),u64.wrap ((u64.wrap ((u64.wrap (bp*6364136223846793005))+(u64.wrap x3)))+1442695040888963407)))))
def Xv{aL aW bp r}(hr:Dq aL aW bp=J r):ap Tryz.prog 113 [(.io,vB aL aW bp)] (Eo (.int .i64 r.1) [vB r.2.1 r.2.2.1 r.2.2.2]):=by
 apply pE [0] hr zH5 Tryz.AhX;intro Φ ak hF g;unfold Dq at hF
 iterate 2 refine wW ?_
 refine wZ (kD 0 [0,0,0,0,0,0,0,0,0,0]) follows ?_;try simp[go_sem,g]
 try intros
 refine wK [0,3,13] ?_;refine wJ hF (λx3=>[(0,.v (vB aL aW bp)),(3,.v (.int .i64 x3))]) (λx3 hF=>?_) λ_ hj0 hF=>?_
 ·refine wW ?_;refine wK [0,3] ?_;refine wZ (kD 0 [0,0,0,0,0,0,0,0,0,0]) follows ?_;try simp[go_sem,g]
  try intros
  refine wK [0,3,53] ?_;refine wI hF (λh6 hF=>?_) λh6 hF=>?_
  ·exact wl ak hF
  have g:=Ls g 40;exact wL
 refine wI hF (λh4 hF=>?_) λh4 hF=>?_
 ·refine wZ (kD 0 [0,0,0,0,0,0,0,0,0,0,0,0]) follows ?_;exact wL
 exact wT (hj0 _) (eX hF)
def gH(aL:List Int)(aW:Int)(bp:Int)(a1:Int):Option (Int×(List Int×Int×Int)):=
 if decide (a1<=1)=Z then(
 J (0,(aL,aW,bp)))else(
 (Dq aL aW bp).bind λz2=>
 ((if decide (200<a1)=Z then(
 (Dq z2.2.1 z2.2.2.1 z2.2.2.2).bind λz7=>
 J ((z7.2.1,z7.2.2.1,z7.2.2.2),i64.wrap ((i64.wrap (z2.1*256))+z7.1)))else(
 J ((z2.2.1,z2.2.2.1,z2.2.2.2),z2.1)):Option (((List Int×Int×Int)×Int))).bind λx5=>
 gd (a1≠0)<|
 J (x5.2.tmod a1,(x5.1.1,x5.1.2.1,x5.1.2.2))))
def j7{aL aW bp a1 r}(hr:gH aL aW bp a1=J r):ap Tryz.prog 59 [(.io,vB aL aW bp),(.sh,.int .i64 a1)] (Eo (.int .i64 r.1) [vB r.2.1 r.2.2.1 r.2.2.2,.au]):=by
 apply pE [0] hr zNM Tryz.AdB;intro Φ ak hF g;unfold gH at hF
 iterate 2 refine wW ?_
 refine wI hF (λh1 hF=>?_) λh1 hF=>?_
 ·exact wl ak hF
 refine wW ?_;refine wC hF [.io] Xv λz2 hF=>?_
 iterate 2 refine wW ?_
 refine wJ hF (λx5=>[(0,.v (vB x5.1.1 x5.1.2.1 x5.1.2.2)),(1,.v (.int .i64 a1)),(5,.v (.int .i64 x5.2))]) (λx5 hF=>?_) λ_ hj0 hF=>?_
 ·exact wL
 have AQ:= @Xv;exact wL
def YP(aL:List Int)(aW:Int)(bp:Int)(a1:List Int):Option (Int×(List Int×Int×Int)):=
 (gH aL aW bp (a1.length:Int)).bind λz1=>
 (ix a1 z1.1).bind λx2=>
 J (x2,(z1.2.1,z1.2.2.1,z1.2.2.2))
def zt6{aL aW bp a1 r}(hr:YP aL aW bp a1=J r):ap Tryz.prog 73 [(.io,vB aL aW bp),(.sh,vC a1)] (Eo (.int .i64 r.1) [vB r.2.1 r.2.2.1 r.2.2.2,.au]):=by
 apply pE [0] hr zDP Tryz.Ab0;intro Φ ak hF g;unfold YP at hF;have ja:= @j7;exact wL
def pZ(aL:List Int)(aW:Int)(bp:Int)(a1:List Int):Option (Int×(List Int×Int×Int)):=
 (gH aL aW bp (a1.length:Int)).bind λz1=>
 (ix a1 z1.1).bind λx2=>
 J (x2,(z1.2.1,z1.2.2.1,z1.2.2.2))
def zq{aL aW bp a1 r}(hr:pZ aL aW bp a1=J r):ap Tryz.prog 73 [(.io,vB aL aW bp),(.mv,vD a1)] (Eo (.int .i64 r.1) [vB r.2.1 r.2.2.1 r.2.2.2,.au]):=by
 apply pE [0] hr zDP Tryz.Ab0;intro Φ ak hF g;unfold pZ at hF;have ja:= @j7;exact wL
def oz(a0:Int)(a1:Int)(a2:Int):Option Bool:=
 ((if decide (a1<=a0)=Z then(
 J (decide (a0<=a2)))else(
 J aa):Option Bool).bind λx3=>
 J x3)
def ym{a0 a1 a2 r}(hr:oz a0 a1 a2=J r):ap Tryz.prog 66 [(.sh,.int .i64 a0),(.sh,.int .i64 a1),(.sh,.int .i64 a2)] (Eo (.bool r) gq):=by
 apply pE [] hr zJP Tryz.AdP;intro Φ ak hF g;unfold oz at hF;refine wW ?_;refine wJ hF (λx3=>[(6,.v (.bool x3))]) (λx3 hF=>?_) λ_ hj0 hF=>?_
 ·exact wm ak hF
 exact wL
def zy(a0:Int):Option Bool:=
 if decide (a0<2)=Z then(
 J aa)else(
 ((dI (σ:=Int) (λs5=>
 if decide ((i64.wrap (s5*s5))<=a0)=Z then(
 gd (s5≠0)<|
 if((a0.tmod s5)==0)=Z then(
 J (.out (.inr aa)))else(
 J (.go (i64.wrap (s5+1)))))else(
 J (.out (.inl ())))) 2:Option (Unit ⊕ Bool)).bind (Sum.elim (λx4=>
 J Z) J)))
def RZ{a0 r}(hr:zy a0=J r):ap Tryz.prog 180 [(.sh,.int .i64 a0)] (Eo (.bool r) [.au]):=by
 apply pE [] hr zHo Tryz.Aef;intro Φ ak hF g;unfold zy at hF
 iterate 2 refine wW ?_
 refine wI hF (λh1 hF=>?_) λh1 hF=>?_
 ·exact wl ak hF
 iterate 2 refine wW ?_
 refine wS hF (λx4=>[]) (λx4 hF=>?_) λ_ hj0 dB hF=>?_
 ·exact wl ak hF
 refine wB ?_;obtain⟨b12,TV,bg⟩:=hF;refine pL TV (λs5=>[(0,.v (.int .i64 a0)),(3,.v (.int .i64 s5))]) λs5 _ _ bo ba hF=>?_
 exact wL
def kW(a0:Int)(a1:Int)(a2:Int):Option Int:=
 gd (a2≠0)<|
 ((dI (σ:=Int×Int×Int) (λs4=>
 if decide (0<s4.2.1)=Z then(
 ((if((s4.2.1.tmod 2)==1)=Z then(
 gd (a2≠0)<|
 J ((i64.wrap (s4.2.2*s4.1)).tmod a2))else(
 J s4.2.2):Option Int).bind λdf=>
 gd (a2≠0)<|
 J (.go ((i64.wrap (s4.1*s4.1)).tmod a2,i64.wrap (s4.2.1.tdiv 2),df))))else(
 J (.out s4.2.2))) (a0,a1,(1:Int).tmod a2):Option Int).bind λx3=>
 J x3)
def ye{a0 a1 a2 r}(hr:kW a0 a1 a2=J r):ap Tryz.prog 179 [(.sh,.int .i64 a0),(.sh,.int .i64 a1),(.sh,.int .i64 a2)] (Eo (.int .i64 r) gq):=by
 apply pE [] hr zHQ Tryz.AgI;intro Φ ak hF g;unfold kW at hF;obtain⟨g,hF⟩:=Rz g hF
 iterate 2 refine wW ?_
 refine wJ hF (λx3=>[(7,.v (.int .i64 x3))]) (λx3 hF=>?_) λ_ hj0 hF=>?_
 ·exact wl ak hF
 refine wB ?_;obtain⟨b14,Kk,bg⟩:=hF;refine pL Kk (λs4=>[(0,.v (.int .i64 s4.1)),(1,.v (.int .i64 s4.2.1)),(2,.v (.int .i64 a2)),(7,.v (.int .i64 s4.2.2))]) λs4 _ _ bo ba hF=>?_
 refine wW ?_;refine wI hF (λh9 hF=>?_) λh9 hF=>?_
 ·refine wW ?_;refine wB ?_;have g:=Ld g 2;refine wW ?_;refine bS hF [0,1,2] (λdf=>[(7,.v (.int .i64 df))]) (λdf hF=>?_) λ_ j6 hF=>?_
  ·exact wL
  exact wL
 exact wL
def uc(a0:Int):Option (am×Bool):=
 (((oz a0 2 1000000).bind λz4=>
 if(!z4)=Z then(
 J Z)else(
 (zy a0).bind λz6=>
 J (!z6)):Option Bool).bind λx3=>
 if x3=Z then(
 J ((am.mk 0 0 0),aa))else(
 ((dI (σ:=Int) (λcJ=>
 if decide (cJ<=2000000000)=Z then(
 (zy cJ).bind λgX=>
 if(!gX)=Z then(
 J (.go (i64.wrap (cJ+a0))))else(
 ((dI (σ:=Int) (λGf=>
 gd (a0≠0)<|
 (kW Gf (i64.wrap ((i64.wrap (cJ-1)).tdiv a0)) cJ).bind λnm=>
 if(nm==1)=Z then(
 J (.go (i64.wrap (Gf+1))))else(
 J (.out Gf))) 2:Option Int).bind λuf=>
 gd (a0≠0)<|
 (kW uf (i64.wrap ((i64.wrap (cJ-1)).tdiv a0)) cJ).bind λgw=>
 J (.out (.inr ((am.mk cJ a0 gw),Z))))))else(
 J (.out (.inl ())))) (i64.wrap (a0+1)):Option (Unit ⊕ (am×Bool))).bind (Sum.elim (λer=>
 J ((am.mk 0 0 0),aa)) J))))
def U6{a0 r}(hr:uc a0=J r):ap Tryz.prog 169 [(.sh,.int .i64 a0)] (Eo (.bO [vE r.1,.bool r.2]) [.au]):=by
 apply pE [] hr zFl Tryz.AdV;intro Φ ak hF g;unfold uc at hF;refine wW ?_;refine bS hF [0,2] (λx3=>[(13,.v (.bool x3))]) (λx3 hF=>?_) λ_ hj0 hF=>?_
 ·refine wI hF (λh7 hF=>?_) λh7 hF=>?_
  ·exact wl ak hF
  iterate 2 refine wW ?_
  refine wS hF (λer=>[(2,.bl [.int .i64 0,.int .i64 0,.int .i64 0])]) (λer hF=>?_) λ_ hj0 dB hF=>?_
  ·exact wl ak hF
  refine wB ?_;obtain⟨b32,O2,bg⟩:=hF;refine jI O2 [0,2] (λcJ=>[(4,.v (.int .i64 cJ))]) λcJ _ _ bo ba hF=>?_
  refine wW ?_;refine wI hF (λBi hF=>?_) λBi hF=>?_
  ·refine wW ?_;refine wB ?_;refine wE hF RZ λgX hF=>?_
   refine wK [0,2,4,24] ?_;refine wI hF (λSg hF=>?_) λSg hF=>?_
   ·exact wL
   iterate 2 refine wW ?_
   refine bS hF [0,2,4] (λuf=>[(5,.v (.int .i64 uf))]) (λuf hF=>?_) λ_ j6 hF=>?_
   ·have c0:= @ye;exact wL
   refine wB ?_;obtain⟨b29,Aa9,NZ⟩:=hF;refine jI Aa9 [0,2,4] (λGf=>[(5,.v (.int .i64 Gf))]) λGf _ _ Sa qZ hF=>?_
   have c0:= @ye;exact wL
  exact wL
 have c0:= @ym;have c1:= @RZ;exact wL
def FI(aL:List Int)(aW:Int)(bp:Int):Option (am×(List Int×Int×Int)):=
 (pZ aL aW bp [3,5,5,7,11,11,13,23]).bind λz1=>
 (uc z1.1).bind λz2=>
 J (z2.1,(z1.2.1,z1.2.2.1,z1.2.2.2))
def zlL{aL aW bp r}(hr:FI aL aW bp=J r):ap Tryz.prog 170 [(.io,vB aL aW bp)] (Eo (vE r.1) [vB r.2.1 r.2.2.1 r.2.2.2]):=by
 apply pE [0] hr zIf Tryz.AfI;intro Φ ak hF g;unfold FI at hF;have xG:= @zq;have c0:= @U6;exact wL
def qk(a0:Int)(a1:Int):Option Int:=
 gd (a1≠0)<|
 gd (a1≠0)<|
 J ((i64.wrap ((a0.tmod a1)+a1)).tmod a1)
def Ka{a0 a1 r}(hr:qk a0 a1=J r):ap Tryz.prog 173 [(.sh,.int .i64 a0),(.sh,.int .i64 a1)] (Eo (.int .i64 r) cI):=by
 apply pE [] hr zFt Tryz.Afr;intro Φ ak hF g;unfold qk at hF;exact wL
def cC(a0:am)(a1:Int)(a2:Int):Option Int:=
 (qk a2 a0.Q).bind λz1=>
 (kW a1 z1 a0.P).bind λz2=>
 J z2
def ft{a0 a1 a2 r}(hr:cC a0 a1 a2=J r):ap Tryz.prog 171 [(.sh,vE a0),(.sh,.int .i64 a1),(.sh,.int .i64 a2)] (Eo (.int .i64 r) gq):=by
 apply pE [] hr zGj Tryz.Afo;intro Φ ak hF g;unfold cC at hF;refine wW ?_;refine wZ (kE [0,1,2,3,5,6,4,7,8] [0,0,25,26,25,26,3,3,0]) follows ?_;have c0:= @Ka;have c1:= @ye;exact wL
def zK(aL:List Int)(aW:Int)(bp:Int):Option (am×(List Int×Int×Int)):=
 (gH aL aW bp 6).bind λz1=>
 if(z1.1==0)=Z then(
 J ((am.mk 1000000007 500000003 4),(z1.2.1,z1.2.2.1,z1.2.2.2)))else(
 if(z1.1==1)=Z then(
 (pZ z1.2.1 z1.2.2.1 z1.2.2.2 [101,1009,1019,65537,999983]).bind λz4=>
 (uc z4.1).bind λz5=>
 J (z5.1,(z4.2.1,z4.2.2.1,z4.2.2.2)))else(
 (FI z1.2.1 z1.2.2.1 z1.2.2.2).bind λz6=>
 (gH z6.2.1 z6.2.2.1 z6.2.2.2 (i64.wrap (z6.1.Q-1))).bind λz7=>
 (cC z6.1 z6.1.G (i64.wrap (1+z7.1))).bind λz8=>
 J ((am.mk z6.1.P z6.1.Q z8),(z7.2.1,z7.2.2.1,z7.2.2.2))))
def zid{aL aW bp r}(hr:zK aL aW bp=J r):ap Tryz.prog 108 [(.io,vB aL aW bp)] (Eo (vE r.1) [vB r.2.1 r.2.2.1 r.2.2.2]):=by
 apply pE [0] hr zFs Tryz.AfM;intro Φ ak hF g;unfold zK at hF;refine wW ?_;refine wC hF [.io,.sh] j7 λz1 hF=>?_
 refine wW ?_;refine wB ?_;refine wW ?_;refine wI hF (λh2 hF=>?_) λh2 hF=>?_
 ·exact wl ak hF
 refine wW ?_;refine wI hF (λh3 hF=>?_) λh3 hF=>?_
 ·have xG:= @zq;have c0:= @U6;exact wL
 refine wW ?_;refine wC hF [.io] zlL λz6 hF=>?_
 refine wK [0,2,5] ?_;refine wZ (kD 0 [42,41,42,0,41,42,0,3,0,3,41,42]) follows ?_;have ja:= @j7;have c0:= @ft;exact wL
def zT(aL:List Int)(aW:Int)(bp:Int)(a1:Int):Option (Bool×(List Int×Int×Int)):=
 (gH aL aW bp a1).bind λz1=>
 J ((z1.1==0),(z1.2.1,z1.2.2.1,z1.2.2.2))
def LK{aL aW bp a1 r}(hr:zT aL aW bp a1=J r):ap Tryz.prog 61 [(.io,vB aL aW bp),(.sh,.int .i64 a1)] (Eo (.bool r.1) [vB r.2.1 r.2.2.1 r.2.2.2,.au]):=by
 apply pE [0] hr zLj Tryz.AfE;intro Φ ak hF g;unfold zT at hF;have ja:= @j7;exact wL
def CC(aL:List Int)(aW:Int)(bp:Int):Option (am×(List Int×Int×Int)):=
 (zK aL aW bp).bind λz1=>
 (gH z1.2.1 z1.2.2.1 z1.2.2.2 24).bind λz2=>
 ((if(z2.1==0)=Z then(
 (pZ z2.2.1 z2.2.2.1 z2.2.2.2 [0,i64.wrap (z1.1.P+2),4,(-7)]).bind λz7=>
 J ((z7.2.1,z7.2.2.1,z7.2.2.2),z7.1,z1.1.Q,z1.1.G))else(
 if(z2.1==1)=Z then(
 (pZ z2.2.1 z2.2.2.1 z2.2.2.2 [0,1,i64.wrap (z1.1.Q+1),i64.wrap (z1.1.P-1)]).bind λz9=>
 J ((z9.2.1,z9.2.2.1,z9.2.2.2),z1.1.P,z9.1,z1.1.G))else(
 if(z2.1==2)=Z then(
 (pZ z2.2.1 z2.2.2.1 z2.2.2.2 [0,1,i64.wrap (z1.1.P-1),z1.1.P,i64.wrap (z1.1.G+1)]).bind λb7=>
 J ((b7.2.1,b7.2.2.1,b7.2.2.2),z1.1.P,z1.1.Q,b7.1))else(
 J ((z2.2.1,z2.2.2.1,z2.2.2.2),z1.1.P,z1.1.Q,z1.1.G)))):Option (((List Int×Int×Int)×Int×Int×Int))).bind λx5=>
 J ((am.mk x5.2.1 x5.2.2.1 x5.2.2.2),(x5.1.1,x5.1.2.1,x5.1.2.2)))
def zkb{aL aW bp r}(hr:CC aL aW bp=J r):ap Tryz.prog 109 [(.io,vB aL aW bp)] (Eo (vE r.1) [vB r.2.1 r.2.2.1 r.2.2.2]):=by
 apply pE [0] hr zED Tryz.AeD;intro Φ ak hF g;unfold CC at hF;refine wW ?_;refine wC hF [.io] zid λz1 hF=>?_
 refine wW ?_;refine wC hF [.io,.sh] j7 λz2 hF=>?_
 refine wW ?_;refine wJ hF (λx5=>[(0,.v (vB x5.1.1 x5.1.2.1 x5.1.2.2)),(2,.bl [.int .i64 0,.int .i64 0,.int .i64 0]),(3,.bl [.int .i64 x5.2.1,.int .i64 x5.2.2.1,.int .i64 x5.2.2.2])]) (λx5 hF=>?_) λ_ hj0 hF=>?_
 ·exact wl ak hF
 have xG:= @zq;exact wL
def Ci(aL:List Int)(aW:Int)(bp:Int)(a1:am):Option (Int×(List Int×Int×Int)):=
 if decide (a1.Q<2)=Z then(
 J (0,(aL,aW,bp)))else(
 (gH aL aW bp 60000).bind λz2=>
 (gH z2.2.1 z2.2.2.1 z2.2.2.2 60000).bind λz3=>
 gd (a1.Q≠0)<|
 J ((i64.wrap ((i64.wrap (z2.1*60000))+z3.1)).tmod a1.Q,(z3.2.1,z3.2.2.1,z3.2.2.2)))
def OK{aL aW bp a1 r}(hr:Ci aL aW bp a1=J r):ap Tryz.prog 172 [(.io,vB aL aW bp),(.sh,vE a1)] (Eo (.int .i64 r.1) [vB r.2.1 r.2.2.1 r.2.2.2,.au]):=by
 apply pE [0] hr zGR Tryz.Aha;intro Φ ak hF g;unfold Ci at hF
 iterate 2 refine wW ?_
 refine wI hF (λh1 hF=>?_) λh1 hF=>?_
 ·exact wl ak hF
 refine wW ?_;refine wZ (kE [0,3,6,7,1,2,4,5,8,9] [0,0,25,26,3,0,3,0,0,0]) follows ?_;have ja:= @j7;exact wL
def CZ(aL:List Int)(aW:Int)(bp:Int)(a1:am):Option (Int×(List Int×Int×Int)):=
 ((if decide (a1.P<3)=Z then(
 J Z)else(
 J (decide (a1.Q<1))):Option Bool).bind λx3=>
 if x3=Z then(
 J (1,(aL,aW,bp)))else(
 (qk a1.G a1.P).bind λz6=>
 (Ci aL aW bp a1).bind λz7=>
 (cC a1 z6 z7.1).bind λz8=>
 J (z8,(z7.2.1,z7.2.2.1,z7.2.2.2))))
def zhD{aL aW bp a1 r}(hr:CZ aL aW bp a1=J r):ap Tryz.prog 112 [(.io,vB aL aW bp),(.sh,vE a1)] (Eo (.int .i64 r.1) [vB r.2.1 r.2.2.1 r.2.2.2,.au]):=by
 apply pE [0] hr zGs Tryz.Air;intro Φ ak hF g;unfold CZ at hF;refine wW ?_;refine bS hF [0,3] (λx3=>[(12,.v (.bool x3))]) (λx3 hF=>?_) λ_ hj0 hF=>?_
 ·refine wI hF (λh5 hF=>?_) λh5 hF=>?_
  ·exact wl ak hF
  refine wW ?_;refine wZ (kE [0,1,2,3,4,6,7,5,8,9,10] [26,25,26,25,26,0,26,3,3,3,0]) follows ?_;have c0:= @Ka;have ja:= @OK;have c1:= @ft;exact wL
 exact wL
def Ic(aL:List Int)(aW:Int)(bp:Int)(a1:am):Option (an×(List Int×Int×Int)):=
 (CZ aL aW bp a1).bind λz1=>
 (CZ z1.2.1 z1.2.2.1 z1.2.2.2 a1).bind λz2=>
 J ((an.mk z1.1 z2.1),(z2.2.1,z2.2.2.1,z2.2.2.2))
def zk4{aL aW bp a1 r}(hr:Ic aL aW bp a1=J r):ap Tryz.prog 110 [(.io,vB aL aW bp),(.sh,vE a1)] (Eo (vF r.1) [vB r.2.1 r.2.2.1 r.2.2.2,.au]):=by
 apply pE [0] hr zHX Tryz.Agc;intro Φ ak hF g;unfold Ic at hF;refine wW ?_;refine wZ (kE [0,1,3,4,2,5,6,7] [0,26,0,26,3,3,0,34]) follows ?_;have ja:= @zhD;exact wL
def Hi(aL:List Int)(aW:Int)(bp:Int)(a1:Int):Option (List Int×(List Int×Int×Int)):=
 ((dI (σ:=(List Int)×Int) (λs4=>
 if decide (s4.2<a1)=Z then(
 gd ((s4.1.length+1)*8<=140737488355328/\s4.1.length+1<=4611686018427387904)<|
 J (.go (s4.1++[s4.2],i64.wrap (s4.2+1))))else(
 J (.out s4.1))) ([],0):Option ((List Int))).bind λx3=>
 ((dI (σ:=(List Int×Int×Int)×List Int×Int) (λiU=>
 if decide (0<iU.2.2)=Z then(
 (gH iU.1.1 iU.1.2.1 iU.1.2.2 (i64.wrap (iU.2.2+1))).bind λgw=>
 (ix iU.2.1 iU.2.2).bind λoG=>
 (ix iU.2.1 gw.1).bind λjb=>
 (ix (iU.2.1.set iU.2.2.toNat jb) gw.1).bind λx34=>
 J (.go ((gw.2.1,gw.2.2.1,gw.2.2.2),(iU.2.1.set iU.2.2.toNat jb).set gw.1.toNat oG,i64.wrap (iU.2.2-1))))else(
 J (.out ((iU.1.1,iU.1.2.1,iU.1.2.2),iU.2.1)))) ((aL,aW,bp),x3,i64.wrap (a1-1)):Option (((List Int×Int×Int)×List Int))).bind λe7=>
 J (e7.2,(e7.1.1,e7.1.2.1,e7.1.2.2))))
def zlN{aL aW bp a1 r}(hr:Hi aL aW bp a1=J r):ap Tryz.prog 118 [(.io,vB aL aW bp),(.sh,.int .i64 a1)] (Eo (vD r.1) [vB r.2.1 r.2.2.1 r.2.2.2,.au]):=by
 apply pE [0] hr zHa Tryz.AeR;intro Φ ak hF g;unfold Hi at hF
 iterate 3 refine wW ?_
 refine bS hF [0,1] (λx3=>[(5,.v (vD x3))]) (λx3 hF=>?_) λ_ hj0 hF=>?_
 ·refine wW ?_;refine wJ hF (λe7=>[(0,.v (vB e7.1.1 e7.1.2.1 e7.1.2.2)),(5,.v (vD e7.2))]) (λe7 hF=>?_) λ_ hj0 hF=>?_
  ·exact wl ak hF
  refine wB ?_;obtain⟨b35,AaU,bg⟩:=hF;refine pL AaU (λiU=>[(0,.v (vB iU.1.1 iU.1.2.1 iU.1.2.2)),(5,.v (vD iU.2.1)),(7,.v (.int .i64 iU.2.2))]) λiU _ _ bo ba hF=>?_
  refine wW ?_;refine wI hF (λh30 hF=>?_) λh30 hF=>?_
  ·refine wW ?_;refine wB ?_;refine wC hF [.io,.sh] j7 λgw hF=>?_
   refine wK [0,5,7,8] ?_;obtain⟨oG,g,hF⟩:=Rx g hF;obtain⟨jb,g,hF⟩:=Rx g hF;refine wW ?_;refine wK [0,5,7,8,9] ?_;obtain⟨x34,g,hF⟩:=Rx g hF;try simp only[KC]at g
   exact wL
  exact wL
 refine wB ?_;obtain⟨b10,AbB,bg⟩:=hF;refine jI AbB [0,1] (λs4=>[(5,.v (vD s4.1)),(6,.v (.int .i64 s4.2))]) λs4 _ _ bo ba hF=>?_
 exact wL
def J3(aL:List Int)(aW:Int)(bp:Int)(a1:am)(a2:Int):Option (List Int×(List Int×Int×Int)):=
 ((dI (σ:=(List Int×Int×Int)×Int×List Int) (λcJ=>
 if decide (0<cJ.2.1)=Z then(
 (Ci cJ.1.1 cJ.1.2.1 cJ.1.2.2 a1).bind λgX=>
 gd ((cJ.2.2.length+1)*8<=140737488355328/\cJ.2.2.length+1<=4611686018427387904)<|
 J (.go ((gX.2.1,gX.2.2.1,gX.2.2.2),i64.wrap (cJ.2.1-1),cJ.2.2++[gX.1])))else(
 J (.out ((cJ.1.1,cJ.1.2.1,cJ.1.2.2),cJ.2.2)))) ((aL,aW,bp),a2,[]):Option (((List Int×Int×Int)×List Int))).bind λx3=>
 J (x3.2,(x3.1.1,x3.1.2.1,x3.1.2.2)))
def zk9{aL aW bp a1 a2 r}(hr:J3 aL aW bp a1 a2=J r):ap Tryz.prog 111 [(.io,vB aL aW bp),(.sh,vE a1),(.sh,.int .i64 a2)] (Eo (vD r.1) [vB r.2.1 r.2.2.1 r.2.2.2,.au,.au]):=by
 apply pE [0] hr zGF Tryz.AfO;intro Φ ak hF g;unfold J3 at hF
 iterate 2 refine wW ?_
 refine wJ hF (λx3=>[(0,.v (vB x3.1.1 x3.1.2.1 x3.1.2.2)),(7,.v (vD x3.2))]) (λx3 hF=>?_) λ_ hj0 hF=>?_
 ·exact wl ak hF
 refine wB ?_;obtain⟨b18,TM,bg⟩:=hF;refine pL TM (λcJ=>[(0,.v (vB cJ.1.1 cJ.1.2.1 cJ.1.2.2)),(2,.v (.int .i64 cJ.2.1)),(4,.bl [.int .i64 a1.P,.int .i64 a1.Q,.int .i64 a1.G]),(7,.v (vD cJ.2.2))]) λcJ _ _ bo ba hF=>?_
 have ja:= @OK;exact wL
def FM(aL:List Int)(aW:Int)(bp:Int)(a1:am)(a2:Int):Option (List Int×(List Int×Int×Int)):=
 (J3 aL aW bp a1 a2).bind λz1=>
 (gH z1.2.1 z1.2.2.1 z1.2.2.2 30).bind λz2=>
 ((if(z2.1==0)=Z then(
 gd ((z1.1.length+1)*8<=140737488355328/\z1.1.length+1<=4611686018427387904)<|
 J (.inr (z1.1++[0],(z2.2.1,z2.2.2.1,z2.2.2.2))))else(
 if(z2.1==1)=Z then(
 if decide (0<a2)=Z then(
 gd (1<=z1.1.length/\z1.1.length<=z1.1.length)<|
 J (.inr ((z1.1.take z1.1.length).drop 1,(z2.2.1,z2.2.2.1,z2.2.2.2))))else(
 J (.inl ((z2.2.1,z2.2.2.1,z2.2.2.2),z1.1))))else(
 if(z2.1==2)=Z then(
 if decide (0<a2)=Z then(
 (gH z2.2.1 z2.2.2.1 z2.2.2.2 a2).bind λb7=>
 (pZ b7.2.1 b7.2.2.1 b7.2.2.2 [(-1),a1.Q]).bind λbH=>
 (ix z1.1 b7.1).bind λg8=>
 J (.inl ((bH.2.1,bH.2.2.1,bH.2.2.2),z1.1.set b7.1.toNat bH.1)))else(
 J (.inl ((z2.2.1,z2.2.2.1,z2.2.2.2),z1.1))))else(
 J (.inl ((z2.2.1,z2.2.2.1,z2.2.2.2),z1.1))))):Option (((List Int×Int×Int)×List Int) ⊕ (List Int×(List Int×Int×Int)))).bind (Sum.elim (λx5=>
 J (x5.2,(x5.1.1,x5.1.2.1,x5.1.2.2))) J))
def YK{aL aW bp a1 a2 r}(hr:FM aL aW bp a1 a2=J r):ap Tryz.prog 74 [(.io,vB aL aW bp),(.sh,vE a1),(.sh,.int .i64 a2)] (Eo (vC r.1) [vB r.2.1 r.2.2.1 r.2.2.2,.au,.au]):=by
 apply pF 40 [0] [6] [] [.tmp 6] hr zNv Tryz.Ae2;intro Φ ak hF g;unfold FM at hF;refine wW ?_;refine wC hF [.io,.sh,.sh] zk9 λz1 hF=>?_
 refine wW ?_;refine wC hF [.io,.sh] j7 λz2 hF=>?_
 refine wW ?_;refine wS hF (λx5=>[(0,.v (vB x5.1.1 x5.1.2.1 x5.1.2.2)),(7,.v (vD x5.2))]) (λx5 hF=>?_) λ_ hj0 dB hF=>?_
 ·exact wL
 refine wB ?_;refine wK [0,2,4,7,13,14] ?_;refine wI hF (λh6 hF=>?_) λh6 hF=>?_
 ·exact wL
 refine wW ?_;refine wI hF (λh7 hF=>?_) λh7 hF=>?_
 ·exact wL
 refine wW ?_;refine wI hF (λh9 hF=>?_) λh9 hF=>?_
 ·refine wW ?_;refine wI hF (λxd hF=>?_) λxd hF=>?_
  ·refine wZ (kE [0,1,2,4,5,6,7,3,8,9,10] [0,0,0,0,33,34,0,3,6,0,0]) follows ?_;have ja:= @j7;have xG:= @zq;exact wL
  exact wT (hj0 _) (eX hF)
 exact wT (hj0 _) (eX hF)
def xA(aL:List Int)(aW:Int)(bp:Int)(a1:am):Option (Int×(List Int×Int×Int)):=
 (zT aL aW bp 20).bind λz1=>
 if z1.1=Z then(
 (pZ z1.2.1 z1.2.2.1 z1.2.2.2 [0,1,i64.wrap (a1.P-1),a1.P,(-1),5]).bind λz3=>
 J (z3.1,(z3.2.1,z3.2.2.1,z3.2.2.2)))else(
 (CZ z1.2.1 z1.2.2.1 z1.2.2.2 a1).bind λz4=>
 J (z4.1,(z4.2.1,z4.2.2.1,z4.2.2.2)))
def NX{aL aW bp a1 r}(hr:xA aL aW bp a1=J r):ap Tryz.prog 101 [(.io,vB aL aW bp),(.sh,vE a1)] (Eo (.int .i64 r.1) [vB r.2.1 r.2.2.1 r.2.2.2,.au]):=by
 apply pE [0] hr zEM Tryz.Acw;intro Φ ak hF g;unfold xA at hF;have ja:= @LK;have xG:= @zq;have BC:= @zhD;exact wL
def Jr(aL:List Int)(aW:Int)(bp:Int)(a1:am):Option (an×(List Int×Int×Int)):=
 (xA aL aW bp a1).bind λz1=>
 (xA z1.2.1 z1.2.2.1 z1.2.2.2 a1).bind λz2=>
 J ((an.mk z1.1 z2.1),(z2.2.1,z2.2.2.1,z2.2.2.2))
def zjV{aL aW bp a1 r}(hr:Jr aL aW bp a1=J r):ap Tryz.prog 119 [(.io,vB aL aW bp),(.sh,vE a1)] (Eo (vF r.1) [vB r.2.1 r.2.2.1 r.2.2.2,.au]):=by
 apply pE [0] hr zGp Tryz.Afu;intro Φ ak hF g;unfold Jr at hF;refine wW ?_;refine wZ (kE [0,1,3,4,2,5,6,7] [0,26,0,26,3,3,0,34]) follows ?_;have ja:= @NX;exact wL
def H7(aL:List Int)(aW:Int)(bp:Int):Option (am×Int×List an×List Int×List Int×(List Int×Int×Int)):=
 (zK aL aW bp).bind λz1=>
 (zT z1.2.1 z1.2.2.1 z1.2.2.2 20).bind λz2=>
 ((if z2.1=Z then(
 (CC z2.2.1 z2.2.2.1 z2.2.2.2).bind λz7=>
 J ((z7.2.1,z7.2.2.1,z7.2.2.2),z7.1.P,z7.1.Q,z7.1.G))else(
 J ((z2.2.1,z2.2.2.1,z2.2.2.2),z1.1.P,z1.1.Q,z1.1.G)):Option (((List Int×Int×Int)×Int×Int×Int))).bind λx5=>
 (gH x5.1.1 x5.1.2.1 x5.1.2.2 4).bind λz8=>
 ((dI (σ:=(List Int×Int×Int)×List an×Int) (λeK=>
 if decide (0<eK.2.2)=Z then(
 (Ic eK.1.1 eK.1.2.1 eK.1.2.2 (am.mk x5.2.1 x5.2.2.1 x5.2.2.2)).bind λtM=>
 gd ((eK.2.1.length+1)*16<=140737488355328/\eK.2.1.length+1<=4611686018427387904)<|
 J (.go ((tM.2.1,tM.2.2.1,tM.2.2.2),eK.2.1++[tM.1],i64.wrap (eK.2.2-1))))else(
 J (.out ((eK.1.1,eK.1.2.1,eK.1.2.2),eK.2.1)))) ((z8.2.1,z8.2.2.1,z8.2.2.2),[],i64.wrap (1+z8.1)):Option (((List Int×Int×Int)×List an))).bind λaU=>
 (Hi aU.1.1 aU.1.2.1 aU.1.2.2 (aU.2.length:Int)).bind λfS=>
 (FM fS.2.1 fS.2.2.1 fS.2.2.2 (am.mk x5.2.1 x5.2.2.1 x5.2.2.2) (aU.2.length:Int)).bind λnM=>
 (gH nM.2.1 nM.2.2.1 nM.2.2.2 24).bind λeY=>
 ((if(eY.1==0)=Z then(
 (Jr eY.2.1 eY.2.2.1 eY.2.2.2 (am.mk x5.2.1 x5.2.2.1 x5.2.2.2)).bind λhZ=>
 (ix aU.2 0).bind λnL=>
 J ((hZ.2.1,hZ.2.2.1,hZ.2.2.2),aU.2.set 0 hZ.1,fS.1))else(
 if(eY.1==1)=Z then(
 (pZ eY.2.1 eY.2.2.1 eY.2.2.2 [(-1),(aU.2.length:Int),0]).bind λvn=>
 (ix fS.1 0).bind λuC=>
 J ((vn.2.1,vn.2.2.1,vn.2.2.2),aU.2,fS.1.set 0 vn.1))else(
 if(eY.1==2)=Z then(
 J ((eY.2.1,eY.2.2.1,eY.2.2.2),[],fS.1))else(
 if(eY.1==3)=Z then(
 dI (σ:=(List Int×Int×Int)×List an) (λoj=>
 (gH oj.1.1 oj.1.2.1 oj.1.2.2 2).bind λBP=>
 if decide ((oj.2.length:Int)<(i64.wrap (12+BP.1)))=Z then(
 (ix oj.2 0).bind λPy=>
 gd ((oj.2.length+1)*16<=140737488355328/\oj.2.length+1<=4611686018427387904)<|
 J (.go ((BP.2.1,BP.2.2.1,BP.2.2.2),oj.2++[Py])))else(
 J (.out ((BP.2.1,BP.2.2.1,BP.2.2.2),oj.2,fS.1)))) ((eY.2.1,eY.2.2.1,eY.2.2.2),aU.2))else(
 J ((eY.2.1,eY.2.2.1,eY.2.2.2),aU.2,fS.1))))):Option (((List Int×Int×Int)×List an×List Int))).bind λjb=>
 (xA jb.1.1 jb.1.2.1 jb.1.2.2 (am.mk x5.2.1 x5.2.2.1 x5.2.2.2)).bind λEt=>
 J ((am.mk x5.2.1 x5.2.2.1 x5.2.2.2),Et.1,jb.2.1,jb.2.2,nM.1,(Et.2.1,Et.2.2.1,Et.2.2.2)))))
def zla{aL aW bp r}(hr:H7 aL aW bp=J r):ap Tryz.prog 72 [(.io,vB aL aW bp)] (Eo (.bO [vE r.1,.int .i64 r.2.1,vG r.2.2.1,vD r.2.2.2.1,vC r.2.2.2.2.1]) [vB r.2.2.2.2.2.1 r.2.2.2.2.2.2.1 r.2.2.2.2.2.2.2]):=by
 apply pE [0] hr zNz Tryz.AfK;intro Φ ak hF g;unfold H7 at hF;refine wW ?_;refine wC hF [.io] zid λz1 hF=>?_
 refine wW ?_;refine wC hF [.io,.sh] LK λz2 hF=>?_
 refine wK [0,2,7,15] ?_;refine wJ hF (λx5=>[(0,.v (vB x5.1.1 x5.1.2.1 x5.1.2.2)),(2,.bl [.int .i64 0,.int .i64 0,.int .i64 0]),(7,.bl [.int .i64 x5.2.1,.int .i64 x5.2.2.1,.int .i64 x5.2.2.2])]) (λx5 hF=>?_) λ_ hj0 hF=>?_
 ·refine wW ?_;refine wC hF [.io,.sh] j7 λz8 hF=>?_
  refine wW ?_;refine bS hF [2,7] (λaU=>[(0,.v (vB aU.1.1 aU.1.2.1 aU.1.2.2)),(8,.v (vG aU.2))]) (λaU hF=>?_) λ_ hj0 hF=>?_
  ·try simp[go_sem,g]
   try intros
   refine wC hF [.io,.sh] zlN λfS hF=>?_
   refine wK [0,2,7,8,10] ?_;try simp[go_sem,g]
   try intros
   refine wC hF [.io,.sh,.sh] YK λnM hF=>?_
   refine wW ?_;refine wC hF [.io,.sh] j7 λeY hF=>?_
   refine wW ?_;refine bS hF [2,7,11] (λjb=>[(0,.v (vB jb.1.1 jb.1.2.1 jb.1.2.2)),(8,.v (vG jb.2.1)),(10,.v (vD jb.2.2))]) (λjb hF=>?_) λ_ hj0 hF=>?_
   ·refine wZ (kE [0,1,2,4,5,6,3,7,8,9,10,11] [58,0,58,0,0,0,3,18,0,0,0,0]) follows ?_;have ja:= @NX;exact wL
   refine wB ?_;refine wK [0,2,7,8,10,11,41,42] ?_;refine wI hF (λPM hF=>?_) λPM hF=>?_
   ·have ja:= @zjV;exact wL
   refine wW ?_;refine wI hF (λh37 hF=>?_) λh37 hF=>?_
   ·have xG:= @zq;exact wL
   refine wW ?_;refine wI hF (λh40 hF=>?_) λh40 hF=>?_
   ·exact wT (hj0 _) (eX hF)
   refine wW ?_;refine wI hF (λh41 hF=>?_) λh41 hF=>?_
   ·refine wB ?_;obtain⟨b58,Ab6,bg⟩:=hF;refine jI Ab6 [2,7,10,11] (λoj=>[(0,.v (vB oj.1.1 oj.1.2.1 oj.1.2.2)),(8,.v (vG oj.2))]) λoj _ _ bo ba hF=>?_
    have ja:= @j7;exact wL
   exact wT (hj0 _) (eX hF)
  refine wB ?_;obtain⟨b26,AaV,bg⟩:=hF;refine jI AaV [2,7] (λeK=>[(0,.v (vB eK.1.1 eK.1.2.1 eK.1.2.2)),(8,.v (vG eK.2.1)),(9,.v (.int .i64 eK.2.2))]) λeK _ _ bo ba hF=>?_
  have ja:= @zk4;exact wL
 have AQ:= @zkb;exact wL
def DC(a0:Int)(a1:Int):Option (Int×Bool):=
 (oz a1 1 12).bind λz1=>
 if(!z1)=Z then(
 J (0,aa))else(
 if(a0==1)=Z then(
 J (i64.wrap ((i64.wrap (5*a1))+4),Z))else(
 if(a0==2)=Z then(
 J (i64.wrap ((i64.wrap (9*a1))+2),Z))else(
 J (0,aa))))
def XI{a0 a1 r}(hr:DC a0 a1=J r):ap Tryz.prog 35 [(.sh,.int .i64 a0),(.sh,.int .i64 a1)] (Eo (.bO [.int .i64 r.1,.bool r.2]) cI):=by
 apply pE [] hr zLk Tryz.Ada;intro Φ ak hF g;unfold DC at hF;have c0:= @ym;exact wL
def LY(aL:List Int)(aW:Int)(bp:Int):Option (am×Int×List an×Int×List Int×List Int×(List Int×Int×Int)):=
 (H7 aL aW bp).bind λz1=>
 (gH z1.2.2.2.2.2.1 z1.2.2.2.2.2.2.1 z1.2.2.2.2.2.2.2 2).bind λz2=>
 (zT z2.2.1 z2.2.2.1 z2.2.2.2 20).bind λz3=>
 ((if z3.1=Z then(
 (pZ z3.2.1 z3.2.2.1 z3.2.2.2 [0,3]).bind λz8=>
 J ((z8.2.1,z8.2.2.1,z8.2.2.2),z8.1))else(
 J ((z3.2.1,z3.2.2.1,z3.2.2.2),i64.wrap (1+z2.1))):Option (((List Int×Int×Int)×Int))).bind λx6=>
 (DC x6.2 (z1.2.2.1.length:Int)).bind λz9=>
 (FM x6.1.1 x6.1.2.1 x6.1.2.2 z1.1 z9.1).bind λbX=>
 J (z1.1,z1.2.1,z1.2.2.1,x6.2,z1.2.2.2.1,bX.1,(bX.2.1,bX.2.2.1,bX.2.2.2)))
def zkU{aL aW bp r}(hr:LY aL aW bp=J r):ap Tryz.prog 27 [(.io,vB aL aW bp)] (Eo (.bO [vE r.1,.int .i64 r.2.1,vG r.2.2.1,.int .i64 r.2.2.2.1,vD r.2.2.2.2.1,vC r.2.2.2.2.2.1]) [vB r.2.2.2.2.2.2.1 r.2.2.2.2.2.2.2.1 r.2.2.2.2.2.2.2.2]):=by
 apply pE [0] hr zMO Tryz.AcI;intro Φ ak hF g;unfold LY at hF;refine wW ?_;refine wC hF [.io] zla λz1 hF=>?_
 refine wK [0,2,8,9,10,11] ?_;refine wC hF [.io,.sh] j7 λz2 hF=>?_
 refine wW ?_;refine wC hF [.io,.sh] LK λz3 hF=>?_
 refine wW ?_;refine bS hF [2,8,9,10,11] (λx6=>[(0,.v (vB x6.1.1 x6.1.2.1 x6.1.2.2)),(13,.v (.int .i64 x6.2))]) (λx6 hF=>?_) λ_ hj0 hF=>?_
 ·try simp[go_sem,g]
  try intros
  refine wE hF XI λz9 hF=>?_
  refine wK [0,2,8,9,10,11,13,14] ?_;refine wZ (kD 0 [66,0,0,0,0,0,66,0,3,18,0,0,0,0,0]) follows ?_;have O8:= @YK;exact wL
 have xG:= @zq;exact wL
def DM(a0:List Int):Option (am×Int×List an×Int×List Int×List Int):=
 (LY a0 0 0).bind λz1=>
 J (z1.1,z1.2.1,z1.2.2.1,z1.2.2.2.1,z1.2.2.2.2.1,z1.2.2.2.2.2.1)
def X4{a0 r}(hr:DM a0=J r):ap Tryz.prog 6 [(.sh,vA a0)] (Eo (.bO [vE r.1,.int .i64 r.2.1,vG r.2.2.1,.int .i64 r.2.2.2.1,vD r.2.2.2.2.1,vC r.2.2.2.2.2]) [.au]):=by
 apply pF 20 [] [] [11] [.cell 2 25,.tmp 3,.tmp 4,.tmp 5,.tmp 6,.tmp 7] hr cl6 Tryz.AhZ;intro Φ ak hF g;unfold DM at hF;have AQ:= @zkU;exact wL
def pK(a0:Int)(a1:Int)(a2:Int):Option Bool:=
 ((if decide (a1<=a0)=Z then(
 J (decide (a0<=a2)))else(
 J aa):Option Bool).bind λx3=>
 J x3)
def yE{a0 a1 a2 r}(hr:pK a0 a1 a2=J r):ap Tryz.prog 63 [(.sh,.int .i64 a0),(.sh,.int .i64 a1),(.sh,.int .i64 a2)] (Eo (.bool r) gq):=by
 apply pE [] hr zLh Tryz.AfF;intro Φ ak hF g;unfold pK at hF;refine wW ?_;refine wJ hF (λx3=>[(6,.v (.bool x3))]) (λx3 hF=>?_) λ_ hj0 hF=>?_
 ·exact wm ak hF
 exact wL
def Iu(a0:Int):Option Bool:=
 (pK a0 2 2000000000).bind λz1=>
 J z1
def zpk{a0 r}(hr:Iu a0=J r):ap Tryz.prog 176 [(.sh,.int .i64 a0)] (Eo (.bool r) [.au]):=by
 apply pE [] hr zIg Tryz.AiC;intro Φ ak hF g;unfold Iu at hF;have c0:= @yE;exact wL
def Do(a0:Int):Option Bool:=
 (((Iu a0).bind λz4=>
 if(!z4)=Z then(
 J Z)else(
 if((a0.tmod 2)==0)=Z then(
 J (a0 !=2))else(
 J aa)):Option Bool).bind λx3=>
 if x3=Z then(
 J aa)else(
 ((dI (σ:=Int) (λcJ=>
 if decide ((i64.wrap (cJ*cJ))<=a0)=Z then(
 gd (cJ≠0)<|
 if((a0.tmod cJ)==0)=Z then(
 J (.out (.inr aa)))else(
 J (.go (i64.wrap (cJ+2)))))else(
 J (.out (.inl ())))) 3:Option (Unit ⊕ Bool)).bind (Sum.elim (λer=>
 J Z) J))))
def zqq{a0 r}(hr:Do a0=J r):ap Tryz.prog 120 [(.sh,.int .i64 a0)] (Eo (.bool r) [.au]):=by
 apply pE [] hr zG9 Tryz.AeK;intro Φ ak hF g;unfold Do at hF;refine wW ?_;refine wJ hF (λx3=>[(0,.v (.int .i64 a0)),(15,.v (.bool x3))]) (λx3 hF=>?_) λ_ hj0 hF=>?_
 ·refine wI hF (λh7 hF=>?_) λh7 hF=>?_
  ·exact wl ak hF
  iterate 2 refine wW ?_
  refine wS hF (λer=>[]) (λer hF=>?_) λ_ hj0 dB hF=>?_
  ·exact wl ak hF
  refine wB ?_;obtain⟨b18,TM,bg⟩:=hF;refine pL TM (λcJ=>[(0,.v (.int .i64 a0)),(3,.v (.int .i64 cJ))]) λcJ _ _ bo ba hF=>?_
  exact wL
 refine wE hF zpk λz4 hF=>?_
 refine wG hF (λh5 hF=>?_) λh5 hF=>?_
 ·exact wV h5 (hj0 _) (eX hF)
 have g:=Ld g 2;have h:=h5;exact wL
def nQ(a0:Int)(a1:Int)(a2:Int):Option Int:=
 gd (a2≠0)<|
 ((dI (σ:=Int×Int×Int) (λs4=>
 if decide (0<s4.2.1)=Z then(
 ((if((i64.wrap ((BitVec.ofInt i64.bits s4.2.1&&&BitVec.ofInt i64.bits 1).toNat))==1)=Z then(
 gd (a2≠0)<|
 J ((i64.wrap (s4.2.2*s4.1)).tmod a2))else(
 J s4.2.2):Option Int).bind λdf=>
 gd (a2≠0)<|
 J (.go ((i64.wrap (s4.1*s4.1)).tmod a2,s4.2.1.fdiv 2,df))))else(
 J (.out s4.2.2))) (a0,a1,(1:Int).tmod a2):Option Int).bind λx3=>
 J x3)
def D9{a0 a1 a2 r}(hr:nQ a0 a1 a2=J r):ap Tryz.prog 121 [(.sh,.int .i64 a0),(.sh,.int .i64 a1),(.sh,.int .i64 a2)] (Eo (.int .i64 r) gq):=by
 apply pE [] hr zFL Tryz.AfY;intro Φ ak hF g;unfold nQ at hF;obtain⟨g,hF⟩:=Rz g hF
 iterate 2 refine wW ?_
 refine wJ hF (λx3=>[(7,.v (.int .i64 x3))]) (λx3 hF=>?_) λ_ hj0 hF=>?_
 ·exact wl ak hF
 refine wB ?_;obtain⟨b14,Kk,bg⟩:=hF;refine pL Kk (λs4=>[(0,.v (.int .i64 s4.1)),(1,.v (.int .i64 s4.2.1)),(2,.v (.int .i64 a2)),(7,.v (.int .i64 s4.2.2))]) λs4 _ _ bo ba hF=>?_
 refine wW ?_;refine wI hF (λh9 hF=>?_) λh9 hF=>?_
 ·refine wW ?_;refine wB ?_;refine wW ?_;refine bS hF [0,1,2] (λdf=>[(7,.v (.int .i64 df))]) (λdf hF=>?_) λ_ j6 hF=>?_
  ·obtain⟨g,hF⟩:=Rz g hF;refine wK [0,1,2,7] ?_;have g:=Ls g 1;exact wT (ba _) (eX hF)
  exact wL
 exact wL
def Jd(a0:am):Option Bool:=
 (((pK a0.P 3 2000000000).bind λz4=>
 if z4=Z then(
 (pK a0.Q 2 (i64.wrap (a0.P-1))).bind λz6=>
 if z6=Z then(
 gd (a0.Q≠0)<|
 if(((i64.wrap (a0.P-1)).tmod a0.Q)==0)=Z then(
 (pK a0.G 2 (i64.wrap (a0.P-1))).bind λz9=>
 if z9=Z then(
 (Do a0.P).bind λb7=>
 if b7=Z then(
 (Do a0.Q).bind λdk=>
 if dk=Z then(
 (nQ a0.G a0.Q a0.P).bind λfE=>
 J (fE==1))else(
 J aa))else(
 J aa))else(
 J aa))else(
 J aa))else(
 J aa))else(
 J aa):Option Bool).bind λx3=>
 J x3)
def zm6{a0 r}(hr:Jd a0=J r):ap Tryz.prog 75 [(.sh,vE a0)] (Eo (.bool r) [.au]):=by
 apply pE [] hr zJJ Tryz.AcO;intro Φ ak hF g;unfold Jd at hF;refine wW ?_;refine wJ hF (λx3=>[(2,.v (.bool x3))]) (λx3 hF=>?_) λ_ hj0 hF=>?_
 ·exact wm ak hF
 have c0:= @yE;have c1:= @zqq;have c2:= @D9;exact wL
def zi(a0:am)(a1:Int):Option Bool:=
 (((pK a1 1 (i64.wrap (a0.P-1))).bind λz4=>
 if z4=Z then(
 (nQ a1 a0.Q a0.P).bind λz6=>
 J (z6==1))else(
 J aa):Option Bool).bind λx3=>
 J x3)
def RD{a0 a1 r}(hr:zi a0 a1=J r):ap Tryz.prog 76 [(.sh,vE a0),(.sh,.int .i64 a1)] (Eo (.bool r) cI):=by
 apply pE [] hr zNF Tryz.Ac5;intro Φ ak hF g;unfold zi at hF;refine wW ?_;refine wJ hF (λx3=>[(4,.v (.bool x3))]) (λx3 hF=>?_) λ_ hj0 hF=>?_
 ·exact wm ak hF
 have c0:= @yE;have c1:= @D9;exact wL
def Jz(a0:am)(a1:an):Option Bool:=
 (((zi a0 a1.A).bind λz4=>
 if z4=Z then(
 (zi a0 a1.B).bind λz6=>
 J z6)else(
 J aa):Option Bool).bind λx3=>
 J x3)
def zlA{a0 a1 r}(hr:Jz a0 a1=J r):ap Tryz.prog 155 [(.sh,vE a0),(.sh,vF a1)] (Eo (.bool r) cI):=by
 apply pE [] hr zG4 Tryz.Ais;intro Φ ak hF g;unfold Jz at hF;refine wW ?_;refine wJ hF (λx3=>[(4,.v (.bool x3))]) (λx3 hF=>?_) λ_ hj0 hF=>?_
 ·exact wm ak hF
 have c0:= @RD;exact wL
def MP(a0:an)(yb:Int)(Ng:Int)(MN:Int):Option Bool:=
 (Jz (am.mk yb Ng MN) a0).bind λz1=>
 J (!z1)
def zka{a0 yb Ng MN r}(hr:MP a0 yb Ng MN=J r):ap Tryz.prog 154 [(.sh,vF a0),(.sh,.fp [.int .i64 yb,.int .i64 Ng,.int .i64 MN])] (Eo (.bool r) cI):=by
 apply pE [] hr zEY Tryz.Ael;intro Φ ak hF g;unfold MP at hF;have c0:= @zlA;exact wL
def GJ(a0:List an)(pO:Int)(xi:Int)(yk:Int):Option Int:=
 ((aS (σ:=Unit) (λi5 s4=>
 (ix a0 i5).bind λaU=>
 (MP aU pO xi yk).bind λbH=>
 if bH=Z then(
 J (.out (.inr i5)))else(
 J (.go ()))) (λs4=>.inl ()) (a0.length) 0 ():Option (Unit ⊕ Int)).bind (Sum.elim (λx3=>
 J (-1)) J))
def zea{a0 pO xi yk r}(hr:GJ a0 pO xi yk=J r):ap Tryz.prog 202 [(.sh,vH a0),(.sh,.func (.func 154) [] [.fp [.int .i64 pO,.int .i64 xi,.int .i64 yk]])] (Eo (.int .i64 r) cI):=by
 apply pE [] hr zFb Tryz.Af1;intro Φ ak hF g;unfold GJ at hF
 iterate 2 (try simp[go_sem,g];try intros;refine bu ?_)
 refine wS hF (λx3=>[]) (λx3 hF=>?_) λ_ hj0 dB hF=>?_
 ·exact wl ak hF
 refine wR hF [0,1,7] (λi5 s4=>[(8,.v (.int .i64 i5))]) λb bg i5 s4 _ _ aO aN bo ba hF=>?_
 have c0:= @zka;exact wL
def Lu(a0:List an)(pO:Int)(xi:Int)(yk:Int):Option Bool:=
 (GJ a0 pO xi yk).bind λz1=>
 J (decide (0<=z1))
def zdR{a0 pO xi yk r}(hr:Lu a0 pO xi yk=J r):ap Tryz.prog 153 [(.sh,vH a0),(.sh,.func (.func 154) [] [.fp [.int .i64 pO,.int .i64 xi,.int .i64 yk]])] (Eo (.bool r) cI):=by
 apply pE [] hr zHp Tryz.Af2;intro Φ ak hF g;unfold Lu at hF;have c0:= @zea;exact wL
def GS(a0:am)(a1:List an):Option Bool:=
 ((if decide ((a1.length:Int)<=24)=Z then(
 (Lu a1 a0.P a0.Q a0.G).bind λz5=>
 J (!z5))else(
 J aa):Option Bool).bind λx3=>
 J x3)
def zle{a0 a1 r}(hr:GS a0 a1=J r):ap Tryz.prog 89 [(.sh,vE a0),(.sh,vH a1)] (Eo (.bool r) cI):=by
 apply pF 14 [] [] [1000000] [.tmp 4] hr zMS Tryz.AhV;intro Φ ak hF g;unfold GS at hF;refine wW ?_;refine wJ hF (λx3=>[(4,.v (.bool x3))]) (λx3 hF=>?_) λ_ hj0 hF=>?_
 ·exact wm ak hF
 have c0:= @zdR;exact wL
def yM(a0:am)(a1:List an):Option Bool:=
 (((pK (a1.length:Int) 1 12).bind λz4=>
 if z4=Z then(
 (GS a0 a1).bind λz6=>
 J z6)else(
 J aa):Option Bool).bind λx3=>
 J x3)
def KU{a0 a1 r}(hr:yM a0 a1=J r):ap Tryz.prog 41 [(.sh,vE a0),(.sh,vH a1)] (Eo (.bool r) cI):=by
 apply pE [] hr zMR Tryz.AgW;intro Φ ak hF g;unfold yM at hF;refine wW ?_;refine wJ hF (λx3=>[(4,.v (.bool x3))]) (λx3 hF=>?_) λ_ hj0 hF=>?_
 ·exact wm ak hF
 have c0:= @yE;have c1:= @zle;exact wL
def Nb(a0:ByteArray)(a1:List Int):Option ((List Int)):=
 ((dI (σ:=(List Int)×Int) (λs4=>
 if decide (s4.2<(a0.size:Int))=Z then(
 (rN a0 s4.2).bind λer=>
 gd ((s4.1.length+1)*8<=140737488355328/\s4.1.length+1<=4611686018427387904)<|
 J (.go (s4.1++[i64.wrap er],i64.wrap (s4.2+1))))else(
 J (.out s4.1))) ([(a0.size:Int)],0):Option ((List Int))).bind λx3=>
 gd ((x3.length+a1.length)*8<=140737488355328/\x3.length+a1.length<=4611686018427387904)<|
 J (x3++a1))
def zpA{a0 a1 r}(hr:Nb a0 a1=J r):ap Tryz.prog 211 [(.sh,.str a0),(.sh,vC a1)] (Eo (vD r) cI):=by
 apply pE [] hr zGI Tryz.Afa;intro Φ ak hF g;unfold Nb at hF
 iterate 3 refine wW ?_
 refine wJ hF (λx3=>[(1,.v (vC a1)),(5,.v (vD x3))]) (λx3 hF=>?_) λ_ hj0 hF=>?_
 ·exact wL
 refine wB ?_;obtain⟨KV,xq,bg⟩:=hF;refine jI xq [0,1,11] (λs4=>[(5,.v (vD s4.1)),(12,.v (.int .i64 s4.2))]) λs4 _ _ bo ba hF=>?_
 exact wL
def Kc(a0:Int):Option Bool:=
 (pK a0 0 4611686018427387903).bind λz1=>
 J z1
def zpS{a0 r}(hr:Kc a0=J r):ap Tryz.prog 163 [(.sh,.int .i64 a0)] (Eo (.bool r) [.au]):=by
 apply pE [] hr zEH Tryz.AgE;intro Φ ak hF g;unfold Kc at hF;have c0:= @yE;exact wL
def Bu(a0:Int):Option Bool:=
 (Kc a0).bind λz1=>
 J (!z1)
def zjc{a0 r}(hr:Bu a0=J r):ap Tryz.prog 116 [(.sh,.int .i64 a0),(.sh,.fp [.func (.func 163) [] []])] (Eo (.bool r) cI):=by
 apply pE [] hr Nm Tryz.Ps;intro Φ ak hF g;unfold Bu at hF;have c0:= @zpS;exact wL
def T1(a0:List Int):Option Int:=
 ((aS (σ:=Unit) (λi5 s4=>
 (ix a0 i5).bind λaU=>
 (Bu aU).bind λbH=>
 if bH=Z then(
 J (.out (.inr i5)))else(
 J (.go ()))) (λs4=>.inl ()) (a0.length) 0 ():Option (Unit ⊕ Int)).bind (Sum.elim (λx3=>
 J (-1)) J))
def zfl{a0 r}(hr:T1 a0=J r):ap Tryz.prog 174 [(.sh,vC a0),(.sh,.func (.func 116) [] [.fp [.func (.func 163) [] []]])] (Eo (.int .i64 r) cI):=by
 apply pE [] hr LG Tryz.Pw;intro Φ ak hF g;unfold T1 at hF
 iterate 2 (try simp[go_sem,g];try intros;refine bu ?_)
 refine wS hF (λx3=>[]) (λx3 hF=>?_) λ_ hj0 dB hF=>?_
 ·exact wl ak hF
 refine wR hF [0,1,7] (λi5 s4=>[(8,.v (.int .i64 i5))]) λb bg i5 s4 _ _ aO aN bo ba hF=>?_
 have c0:= @zjc;exact wL
def QW(a0:List Int):Option Bool:=
 (T1 a0).bind λz1=>
 J (decide (0<=z1))
def ze1{a0 r}(hr:QW a0=J r):ap Tryz.prog 115 [(.sh,vC a0),(.sh,.func (.func 116) [] [.fp [.func (.func 163) [] []]])] (Eo (.bool r) cI):=by
 apply pE [] hr Lg Tryz.Rc;intro Φ ak hF g;unfold QW at hF;have c0:= @zfl;exact wL
def DR(a0:List Int):Option Bool:=
 (QW a0).bind λz1=>
 J (!z1)
def WU{a0 r}(hr:DR a0=J r):ap Tryz.prog 69 [(.sh,vC a0),(.sh,.func (.func 163) [] [])] (Eo (.bool r) cI):=by
 apply pF 9 [] [] [1000000] [.tmp 4] hr Lm Tryz.SX;intro Φ ak hF g;unfold DR at hF;have c0:= @ze1;exact wL
def Hk(a0:List Int):Option Bool:=
 ((if decide ((a0.length:Int)<=400)=Z then(
 (DR a0).bind λz5=>
 J z5)else(
 J aa):Option Bool).bind λx3=>
 J x3)
def zoC{a0 r}(hr:Hk a0=J r):ap Tryz.prog 214 [(.sh,vC a0)] (Eo (.bool r) [.au]):=by
 apply pE [] hr zH8 Tryz.Adz;intro Φ ak hF g;unfold Hk at hF;refine wW ?_;refine wJ hF (λx3=>[(2,.v (.bool x3))]) (λx3 hF=>?_) λ_ hj0 hF=>?_
 ·exact wm ak hF
 have c0:= @WU;exact wL
def Hx(a0:List Int):Option Int:=
 gd (([(a0.length:Int)].length+a0.length)*8<=140737488355328/\[(a0.length:Int)].length+a0.length<=4611686018427387904)<|
 (J ([(a0.length:Int)]++a0)).bind λx1=>
 ((aS (σ:=Int×Int) (λi7 s6=>
 (ix x1 i7).bind λg8=>
 J (.go ((i64.wrap ((i64.wrap ((i64.wrap (48271*((i64.wrap ((i64.wrap ((i64.wrap (48271*s6.1))+(i64.wrap ((BitVec.ofInt i64.bits g8&&&BitVec.ofInt i64.bits 2147483647).toNat))))+1)).tmod 2147483647)))+(g8.fdiv 2147483648)))+1)).tmod 2147483647,(i64.wrap ((i64.wrap ((i64.wrap (69621*((i64.wrap ((i64.wrap ((i64.wrap (69621*s6.2))+(i64.wrap ((BitVec.ofInt i64.bits g8&&&BitVec.ofInt i64.bits 2147483647).toNat))))+1)).tmod 2147483647)))+(g8.fdiv 2147483648)))+1)).tmod 2147483647))) (λs6=>(s6.1,s6.2)) (x1.length) 0 (1,2):Option ((Int×Int))).bind λx5=>
 J (i64.wrap ((i64.wrap (x5.1*2147483648))+x5.2)))
def zud{a0 r}(hr:Hx a0=J r):ap Tryz.prog 215 [(.sh,vC a0)] (Eo (.int .i64 r) [.au]):=by
 apply pE [] hr zGH Tryz.AeO;intro Φ ak hF g;unfold Hx at hF;obtain⟨g,hF⟩:=Rg g hF;obtain⟨x1,e2,hF⟩:=mJ hF;have g:=And.intro g (show[.int .i64 (a0.length:Int)]::(List.map aJ a0)=x1.map aJ by injection e2 with e2;rw[<-e2];simp[go_sem])
 iterate 2 (try simp[go_sem,g];try intros;refine bu ?_)
 try simp[go_sem,g]
 try intros
 refine wK [3,4,13,14,15] ?_;refine wJ hF (λx5=>[(3,.v (.int .i64 x5.1)),(4,.v (.int .i64 x5.2))]) (λx5 hF=>?_) λ_ hj0 hF=>?_
 ·have g:=Ls g 31;exact wl ak hF
 refine wR hF [13,14] (λi7 s6=>[(3,.v (.int .i64 s6.1)),(4,.v (.int .i64 s6.2)),(15,.v (.int .i64 i7))]) λb bg i7 s6 _ _ aO aN bo ba hF=>?_
 refine wW ?_;refine wu aO aN ?_;refine wW ?_;refine wB ?_;obtain⟨g8,g,hF⟩:=Rx g hF;have g:=Ls g 31;refine wW ?_;refine wK [3,4,7,8,13,14,15] ?_;have g:=Ld g 2147483647;exact wL
def G3(a0:List Int):Option (Int×Bool):=
 (Hk a0).bind λz1=>
 if(!z1)=Z then(
 J (0,aa))else(
 (Hx a0).bind λz3=>
 J (z3,Z))
def zpW{a0 r}(hr:G3 a0=J r):ap Tryz.prog 210 [(.sh,vC a0)] (Eo (.bO [.int .i64 r.1,.bool r.2]) [.au]):=by
 apply pE [] hr zF2 Tryz.Agg;intro Φ ak hF g;unfold G3 at hF;have c0:= @zoC;have c1:= @zud;exact wL
def BW(a0:ByteArray)(a1:List Int):Option (Int×Bool):=
 ((if decide (40<(a0.size:Int))=Z then(
 J Z)else(
 J (decide (400<(a1.length:Int)))):Option Bool).bind λx3=>
 if x3=Z then(
 J (0,aa))else(
 (Nb a0 a1).bind λz6=>
 (G3 z6).bind λz7=>
 J (z7.1,z7.2)))
def VL{a0 a1 r}(hr:BW a0 a1=J r):ap Tryz.prog 177 [(.sh,.str a0),(.sh,vC a1)] (Eo (.bO [.int .i64 r.1,.bool r.2]) cI):=by
 apply pE [] hr zIl Tryz.Afv;intro Φ ak hF g;unfold BW at hF;refine wW ?_;refine bS hF [0,1] (λx3=>[(13,.v (.bool x3))]) (λx3 hF=>?_) λ_ hj0 hF=>?_
 ·have c0:= @zpA;have c1:= @zpW;exact wL
 exact wL
def wM(a0:am)(a1:ByteArray)(a2:Int):Option (Int×Bool):=
 ((dI (σ:=Int) (λs4=>
 if decide (s4<1000)=Z then(
 (BW a1 [a0.P,a0.Q,a0.G,a2,s4]).bind λbX=>
 if(!bX.2)=Z then(
 J (.out (.inr (0,aa))))else(
 gd (i64.wrap (a0.P-1)≠0)<|
 gd (a0.Q≠0)<|
 (nQ (i64.wrap (1+(bX.1.tmod (i64.wrap (a0.P-1))))) (i64.wrap ((i64.wrap (a0.P-1)).tdiv a0.Q)) a0.P).bind λbH=>
 if(bH !=1)=Z then(
 J (.out (.inr (bH,Z))))else(
 J (.go (i64.wrap (s4+1))))))else(
 J (.out (.inl ())))) 0:Option (Unit ⊕ (Int×Bool))).bind (Sum.elim (λx3=>
 J (0,aa)) J))
def Vc{a0 a1 a2 r}(hr:wM a0 a1 a2=J r):ap Tryz.prog 122 [(.sh,vE a0),(.sh,.str a1),(.sh,.int .i64 a2)] (Eo (.bO [.int .i64 r.1,.bool r.2]) gq):=by
 apply pE [] hr zGM Tryz.Aeo;intro Φ ak hF g;unfold wM at hF
 iterate 2 refine wW ?_
 refine wS hF (λx3=>[]) (λx3 hF=>?_) λ_ hj0 dB hF=>?_
 ·exact wl ak hF
 refine wB ?_;obtain⟨b14,Kk,bg⟩:=hF;refine jI Kk [1,2,3] (λs4=>[(12,.v (.int .i64 s4))]) λs4 _ _ bo ba hF=>?_
 refine wW ?_;refine wI hF (λh9 hF=>?_) λh9 hF=>?_
 ·refine wW ?_;refine wB ?_;refine wW ?_;refine wE hF VL λbX hF=>?_
  refine wK [1,2,3,9,10,12] ?_;refine wW ?_;refine wI hF (λCV hF=>?_) λCV hF=>?_
  ·exact wL
  refine wW ?_;refine wZ (kD 0 [0,25,26,0,0,0,25,26,0,25,26,0,25,26,3,0]) follows ?_;have c0:= @D9;exact wL
 exact wL
def lN(a0:am)(a1:Int):Option (ct×Bool):=
 (wM a0 (⟨#[104]⟩:ByteArray) 0).bind λz1=>
 ((dI (σ:=Int×List Int×Bool×Int) (λgy=>
 if decide (gy.2.2.2<a1)=Z then(
 (wM a0 (⟨#[104,115]⟩:ByteArray) gy.2.2.2).bind λkr=>
 ((if gy.2.2.1=Z then(
 J kr.2)else(
 J aa):Option Bool).bind λqx=>
 gd ((gy.2.1.length+1)*8<=140737488355328/\gy.2.1.length+1<=4611686018427387904)<|
 J (.go (gy.1,gy.2.1++[kr.1],qx,i64.wrap (gy.2.2.2+1)))))else(
 J (.out (gy.1,gy.2.1,gy.2.2.1)))) (z1.1,[],Z,0):Option ((Int×List Int×Bool))).bind λx4=>
 ((if(!z1.2)=Z then(
 J Z)else(
 J (!x4.2.2)):Option Bool).bind λBp=>
 if Bp=Z then(
 J ((ct.mk 0 []),aa))else(
 J ((ct.mk x4.1 x4.2.1),Z))))
def W8{a0 a1 r}(hr:lN a0 a1=J r):ap Tryz.prog 77 [(.sh,vE a0),(.sh,.int .i64 a1)] (Eo (.bO [vI r.1,.bool r.2]) cI):=by
 apply pE [] hr zMv Tryz.AgF;intro Φ ak hF g;unfold lN at hF;refine wW ?_;refine wE hF Vc λz1 hF=>?_
 refine wK [1,2,4,6,7] ?_
 iterate 2 refine wW ?_
 refine bS hF [4,7] (λx4=>[(8,.bl [.int .i64 x4.1,vD x4.2.1]),(9,.v (.bool x4.2.2))]) (λx4 hF=>?_) λ_ hj0 hF=>?_
 ·refine bS hF [4,8] (λBp=>[(46,.v (.bool Bp))]) (λBp hF=>?_) λ_ hj0 hF=>?_
  ·exact wL
  exact wL
 refine wB ?_;obtain⟨b27,Tu,bg⟩:=hF;refine jI Tu [2,4,7,20] (λgy=>[(8,.bl [.int .i64 gy.1,vD gy.2.1]),(9,.v (.bool gy.2.2.1)),(21,.v (.int .i64 gy.2.2.2))]) λgy _ _ bo ba hF=>?_
 refine wW ?_;refine wI hF (λHD hF=>?_) λHD hF=>?_
 ·refine wW ?_;refine wB ?_;refine wK [2,4,7,8,9,10,20,21] ?_;refine wE hF Vc λkr hF=>?_
  refine wW ?_;refine bS hF [2,4,7,8,11,20,21] (λqx=>[(9,.v (.bool qx))]) (λqx hF=>?_) λ_ j6 hF=>?_
  ·exact wL
  exact wL
 exact wL
def s9(a0:am)(a1:Int)(a2:List an):Option (ct×Bool):=
 (((Jd a0).bind λz4=>
 if(!z4)=Z then(
 J Z)else(
 (zi a0 a1).bind λz6=>
 if(!z6)=Z then(
 J Z)else(
 (yM a0 a2).bind λz8=>
 J (!z8))):Option Bool).bind λx3=>
 if x3=Z then(
 J ((ct.mk 0 []),aa))else(
 (lN a0 (a2.length:Int)).bind λbX=>
 J (bX.1,bX.2)))
def L9{a0 a1 a2 r}(hr:s9 a0 a1 a2=J r):ap Tryz.prog 28 [(.sh,vE a0),(.sh,.int .i64 a1),(.sh,vH a2)] (Eo (.bO [vI r.1,.bool r.2]) gq):=by
 apply pE [] hr zNS Tryz.Af0;intro Φ ak hF g;unfold s9 at hF;refine wW ?_;refine bS hF [2,3,6] (λx3=>[(22,.v (.bool x3))]) (λx3 hF=>?_) λ_ hj0 hF=>?_
 ·have c0:= @W8;exact wL
 have c0:= @zm6;have c1:= @RD;have c2:= @KU;exact wL
def Fv(a0:Int):Option Bool:=
 ((if(a0==1)=Z then(
 J Z)else(
 J (a0==2)):Option Bool).bind λx3=>
 J x3)
def WQ{a0 r}(hr:Fv a0=J r):ap Tryz.prog 29 [(.sh,.int .i64 a0)] (Eo (.bool r) [.au]):=by
 apply pE [] hr zMB Tryz.Acx;intro Φ ak hF g;unfold Fv at hF;refine wW ?_;refine wJ hF (λx3=>[(2,.v (.bool x3))]) (λx3 hF=>?_) λ_ hj0 hF=>?_
 ·exact wm ak hF
 exact wL
def HJ(a0:Int)(a1:Int):Option Int:=
 if(a0==1)=Z then(
 J (i64.wrap ((i64.wrap (5*a1))+4)))else(
 J (i64.wrap ((i64.wrap (9*a1))+2)))
def zmt{a0 a1 r}(hr:HJ a0 a1=J r):ap Tryz.prog 30 [(.sh,.int .i64 a0),(.sh,.int .i64 a1)] (Eo (.int .i64 r) cI):=by
 apply pE [] hr zLv Tryz.Aeu;intro Φ ak hF g;unfold HJ at hF;exact wL
def Mq(a0:Int)(yb:List Int):Option Bool:=
 (pK a0 0 (i64.wrap ((yb.length:Int)-1))).bind λz1=>
 J z1
def zld{a0 yb r}(hr:Mq a0 yb=J r):ap Tryz.prog 70 [(.sh,.int .i64 a0),(.sh,.fp [vC yb])] (Eo (.bool r) cI):=by
 apply pE [] hr zLU Tryz.Aft;intro Φ ak hF g;unfold Mq at hF;have c0:= @yE;exact wL
def Iz(a0:Int)(NK:List Int):Option Bool:=
 (Mq a0 NK).bind λz1=>
 J (!z1)
def zhM{a0 NK r}(hr:Iz a0 NK=J r):ap Tryz.prog 116 [(.sh,.int .i64 a0),(.sh,.fp [.func (.func 70) [] [.fp [vC NK]]])] (Eo (.bool r) cI):=by
 apply pE [] hr Nm Tryz.Ps;intro Φ ak hF g;unfold Iz at hF;have c0:= @zld;exact wL
def Nx(a0:List Int)(xF:List Int):Option Int:=
 ((aS (σ:=Unit) (λi5 s4=>
 (ix a0 i5).bind λaU=>
 (Iz aU xF).bind λbH=>
 if bH=Z then(
 J (.out (.inr i5)))else(
 J (.go ()))) (λs4=>.inl ()) (a0.length) 0 ():Option (Unit ⊕ Int)).bind (Sum.elim (λx3=>
 J (-1)) J))
def zeA{a0 xF r}(hr:Nx a0 xF=J r):ap Tryz.prog 174 [(.sh,vC a0),(.sh,.func (.func 116) [] [.fp [.func (.func 70) [] [.fp [vC xF]]]])] (Eo (.int .i64 r) cI):=by
 apply pE [] hr LG Tryz.Pw;intro Φ ak hF g;unfold Nx at hF
 iterate 2 (try simp[go_sem,g];try intros;refine bu ?_)
 refine wS hF (λx3=>[]) (λx3 hF=>?_) λ_ hj0 dB hF=>?_
 ·exact wl ak hF
 refine wR hF [0,1,7] (λi5 s4=>[(8,.v (.int .i64 i5))]) λb bg i5 s4 _ _ aO aN bo ba hF=>?_
 have c0:= @zhM;exact wL
def Ln(a0:List Int)(xF:List Int):Option Bool:=
 (Nx a0 xF).bind λz1=>
 J (decide (0<=z1))
def zen{a0 xF r}(hr:Ln a0 xF=J r):ap Tryz.prog 115 [(.sh,vC a0),(.sh,.func (.func 116) [] [.fp [.func (.func 70) [] [.fp [vC xF]]]])] (Eo (.bool r) cI):=by
 apply pE [] hr Lg Tryz.Rc;intro Φ ak hF g;unfold Ln at hF;have c0:= @zeA;exact wL
def Ig(a0:List Int)(pO:List Int):Option Bool:=
 (Ln a0 pO).bind λz1=>
 J (!z1)
def zib{a0 pO r}(hr:Ig a0 pO=J r):ap Tryz.prog 69 [(.sh,vC a0),(.sh,.func (.func 70) [] [.fp [vC pO]])] (Eo (.bool r) cI):=by
 apply pF 9 [] [] [1000000] [.tmp 4] hr Lm Tryz.SX;intro Φ ak hF g;unfold Ig at hF;have c0:= @zen;exact wL
def FG(a0:List Int)(a1:Int):Option Int:=
 ((aS (σ:=Unit) (λi5 s4=>
 (ix a0 i5).bind λaU=>
 if(a1==aU)=Z then(
 J (.out (.inr i5)))else(
 J (.go ()))) (λs4=>.inl ()) (a0.length) 0 ():Option (Unit ⊕ Int)).bind (Sum.elim (λx3=>
 J (-1)) J))
def zlF{a0 a1 r}(hr:FG a0 a1=J r):ap Tryz.prog 175 [(.sh,vC a0),(.sh,.int .i64 a1)] (Eo (.int .i64 r) cI):=by
 apply pE [] hr zGx Tryz.Adn;intro Φ ak hF g;unfold FG at hF
 iterate 2 (try simp[go_sem,g];try intros;refine bu ?_)
 refine wS hF (λx3=>[]) (λx3 hF=>?_) λ_ hj0 dB hF=>?_
 ·exact wl ak hF
 refine wR hF [0,1,7] (λi5 s4=>[(8,.v (.int .i64 i5))]) λb bg i5 s4 _ _ aO aN bo ba hF=>?_
 exact wL
def G2(a0:List Int)(a1:Int):Option Bool:=
 (FG a0 a1).bind λz1=>
 J (decide (0<=z1))
def zkk{a0 a1 r}(hr:G2 a0 a1=J r):ap Tryz.prog 117 [(.sh,vC a0),(.sh,.int .i64 a1)] (Eo (.bool r) cI):=by
 apply pE [] hr zGm Tryz.Add;intro Φ ak hF g;unfold G2 at hF;have c0:= @zlF;exact wL
def DZ(a0:List Int):Option Bool:=
 ((aS (σ:=Unit) (λi5 s4=>
 (ix a0 i5).bind λaU=>
 gd (0<=i5)<|
 gd (0<=i5.toNat/\i5.toNat<=a0.length)<|
 (G2 ((a0.take i5.toNat).drop 0) aU).bind λbH=>
 if bH=Z then(
 J (.out (.inr aa)))else(
 J (.go ()))) (λs4=>.inl ()) (a0.length) 0 ():Option (Unit ⊕ Bool)).bind (Sum.elim (λx3=>
 J Z) J))
def zm5{a0 r}(hr:DZ a0=J r):ap Tryz.prog 71 [(.sh,vC a0)] (Eo (.bool r) [.au]):=by
 apply pE [] hr zNB Tryz.AeP;intro Φ ak hF g;unfold DZ at hF
 iterate 2 (try simp[go_sem,g];try intros;refine bu ?_)
 refine wS hF (λx3=>[]) (λx3 hF=>?_) λ_ hj0 dB hF=>?_
 ·exact wl ak hF
 refine wR hF [0,5,6] (λi5 s4=>[(7,.v (.int .i64 i5))]) λb bg i5 s4 _ _ aO aN bo ba hF=>?_
 have c0:= @zkk;exact wL
def JO(a0:List Int):Option Bool:=
 ((if decide ((a0.length:Int)<=24)=Z then(
 (Ig a0 a0).bind λz5=>
 if z5=Z then(
 (DZ a0).bind λz7=>
 J z7)else(
 J aa))else(
 J aa):Option Bool).bind λx3=>
 J x3)
def zmY{a0 r}(hr:JO a0=J r):ap Tryz.prog 26 [(.sh,vC a0)] (Eo (.bool r) [.au]):=by
 apply pF 15 [] [] [1000000] [.tmp 2] hr zMt Tryz.AdG;intro Φ ak hF g;unfold JO at hF;refine wW ?_;refine wJ hF (λx3=>[(2,.v (.bool x3))]) (λx3 hF=>?_) λ_ hj0 hF=>?_
 ·exact wm ak hF
 have c0:= @zib;have c1:= @zm5;exact wL
def HS(a0:am)(a1:Int):Option Bool:=
 (pK a1 0 (i64.wrap (a0.Q-1))).bind λz1=>
 J z1
def zn5{a0 a1 r}(hr:HS a0 a1=J r):ap Tryz.prog 123 [(.sh,vE a0),(.sh,.int .i64 a1)] (Eo (.bool r) cI):=by
 apply pE [] hr zGn Tryz.Ae4;intro Φ ak hF g;unfold HS at hF;have c0:= @yE;exact wL
def JL(a0:Int)(xX:am):Option Bool:=
 (HS xX a0).bind λz1=>
 J (!z1)
def zii{a0 xX r}(hr:JL a0 xX=J r):ap Tryz.prog 116 [(.sh,.int .i64 a0),(.sh,.fp [.func (.func 123) [vE xX] []])] (Eo (.bool r) cI):=by
 apply pE [] hr Nm Tryz.Ps;intro Φ ak hF g;unfold JL at hF;have c0:= @zn5;exact wL
def SI(a0:List Int)(k7:am):Option Int:=
 ((aS (σ:=Unit) (λi5 s4=>
 (ix a0 i5).bind λaU=>
 (JL aU k7).bind λbH=>
 if bH=Z then(
 J (.out (.inr i5)))else(
 J (.go ()))) (λs4=>.inl ()) (a0.length) 0 ():Option (Unit ⊕ Int)).bind (Sum.elim (λx3=>
 J (-1)) J))
def ze0{a0 k7 r}(hr:SI a0 k7=J r):ap Tryz.prog 174 [(.sh,vC a0),(.sh,.func (.func 116) [] [.fp [.func (.func 123) [vE k7] []]])] (Eo (.int .i64 r) cI):=by
 apply pE [] hr LG Tryz.Pw;intro Φ ak hF g;unfold SI at hF
 iterate 2 (try simp[go_sem,g];try intros;refine bu ?_)
 refine wS hF (λx3=>[]) (λx3 hF=>?_) λ_ hj0 dB hF=>?_
 ·exact wl ak hF
 refine wR hF [0,1,7] (λi5 s4=>[(8,.v (.int .i64 i5))]) λb bg i5 s4 _ _ aO aN bo ba hF=>?_
 have c0:= @zii;exact wL
def Qt(a0:List Int)(k7:am):Option Bool:=
 (SI a0 k7).bind λz1=>
 J (decide (0<=z1))
def zeB{a0 k7 r}(hr:Qt a0 k7=J r):ap Tryz.prog 115 [(.sh,vC a0),(.sh,.func (.func 116) [] [.fp [.func (.func 123) [vE k7] []]])] (Eo (.bool r) cI):=by
 apply pE [] hr Lg Tryz.Rc;intro Φ ak hF g;unfold Qt at hF;have c0:= @ze0;exact wL
def ND(a0:List Int)(xy:am):Option Bool:=
 (Qt a0 xy).bind λz1=>
 J (!z1)
def zi0{a0 xy r}(hr:ND a0 xy=J r):ap Tryz.prog 69 [(.sh,vC a0),(.sh,.func (.func 123) [vE xy] [])] (Eo (.bool r) cI):=by
 apply pF 9 [] [] [1000000] [.tmp 4] hr Lm Tryz.SX;intro Φ ak hF g;unfold ND at hF;have c0:= @zeB;exact wL
def vf(a0:am)(a1:List Int):Option Bool:=
 (ND a1 a0).bind λz1=>
 J z1
def IB{a0 a1 r}(hr:vf a0 a1=J r):ap Tryz.prog 78 [(.sh,vE a0),(.sh,vC a1)] (Eo (.bool r) cI):=by
 apply pE [] hr zJV Tryz.Ae7;intro Φ ak hF g;unfold vf at hF;have c0:= @zi0;exact wL
def CJ(a0:am)(a1:List Int)(a2:List Int)(a3:Int):Option Bool:=
 (((JO a1).bind λz4=>
 if z4=Z then(
 if((a1.length:Int)==a3)=Z then(
 if((a2.length:Int)==a3)=Z then(
 (vf a0 a2).bind λz8=>
 J z8)else(
 J aa))else(
 J aa))else(
 J aa):Option Bool).bind λx3=>
 J x3)
def Qg{a0 a1 a2 a3 r}(hr:CJ a0 a1 a2 a3=J r):ap Tryz.prog 31 [(.sh,vE a0),(.sh,vC a1),(.sh,vC a2),(.sh,.int .i64 a3)] (Eo (.bool r) ky):=by
 apply pE [] hr zNq Tryz.Afp;intro Φ ak hF g;unfold CJ at hF;refine wW ?_;refine wJ hF (λx3=>[(8,.v (.bool x3))]) (λx3 hF=>?_) λ_ hj0 hF=>?_
 ·exact wm ak hF
 have c0:= @zmY;have c1:= @IB;exact wL
def zo(a0:Int)(a1:Int):Option Int:=
 gd (a1≠0)<|
 gd (a1≠0)<|
 J ((i64.wrap ((a0.tmod a1)+a1)).tmod a1)
def Qn{a0 a1 r}(hr:zo a0 a1=J r):ap Tryz.prog 178 [(.sh,.int .i64 a0),(.sh,.int .i64 a1)] (Eo (.int .i64 r) cI):=by
 apply pE [] hr zHc Tryz.Aht;intro Φ ak hF g;unfold zo at hF;exact wL
def cP(a0:am)(a1:Int)(a2:Int):Option Int:=
 (zo a2 a0.Q).bind λz1=>
 (nQ a1 z1 a0.P).bind λz2=>
 J z2
def gN{a0 a1 a2 r}(hr:cP a0 a1 a2=J r):ap Tryz.prog 134 [(.sh,vE a0),(.sh,.int .i64 a1),(.sh,.int .i64 a2)] (Eo (.int .i64 r) gq):=by
 apply pE [] hr zFF Tryz.Aih;intro Φ ak hF g;unfold cP at hF;refine wW ?_;refine wZ (kE [0,1,2,3,5,6,4,7,8] [0,0,25,26,25,26,3,3,0]) follows ?_;have c0:= @Qn;have c1:= @D9;exact wL
def d9(a0:am)(a1:List Int):Option Int:=
 ((aS (σ:=Int) (λi5 s4=>
 (ix a1 i5).bind λaU=>
 gd (a0.P≠0)<|
 J (.go ((i64.wrap (s4*aU)).tmod a0.P))) (λs4=>s4) (a1.length) 0 1:Option Int).bind λx3=>
 J x3)
def jJ{a0 a1 r}(hr:d9 a0 a1=J r):ap Tryz.prog 135 [(.sh,vE a0),(.sh,vC a1)] (Eo (.int .i64 r) cI):=by
 apply pE [] hr zF6 Tryz.AcC;intro Φ ak hF g;unfold d9 at hF
 iterate 3 (try simp[go_sem,g];try intros;refine bu ?_)
 refine wJ hF (λx3=>[(5,.v (.int .i64 x3))]) (λx3 hF=>?_) λ_ hj0 hF=>?_
 ·exact wl ak hF
 refine wR hF [2,8,9] (λi5 s4=>[(5,.v (.int .i64 s4)),(10,.v (.int .i64 i5))]) λb bg i5 s4 _ _ aO aN bo ba hF=>?_
 exact wL
def I8(a0:am)(a1:Int)(a2:Int)(a3:Int):Option an:=
 (cP a0 a0.G a3).bind λz1=>
 (cP a0 a1 a3).bind λz2=>
 (d9 a0 [a2,z2]).bind λz3=>
 J (an.mk z1 z3)
def zmi{a0 a1 a2 a3 r}(hr:I8 a0 a1 a2 a3=J r):ap Tryz.prog 125 [(.sh,vE a0),(.sh,.int .i64 a1),(.sh,.int .i64 a2),(.sh,.int .i64 a3)] (Eo (vF r) ky):=by
 apply pE [] hr zHU Tryz.Acz;intro Φ ak hF g;unfold I8 at hF;refine wW ?_;refine wZ (kE [0,1,2,3,5,6,7,8,9,4,10,11,12,13,14] [34,33,34,0,34,0,34,0,0,3,3,0,6,0,66]) follows ?_;have c0:= @gN;have c1:= @jJ;exact wL
def L0(a0:am)(a1:an)(a2:an):Option an:=
 (d9 a0 [a1.A,a2.A]).bind λz1=>
 (d9 a0 [a1.B,a2.B]).bind λz2=>
 J (an.mk z1 z2)
def zm7{a0 a1 a2 r}(hr:L0 a0 a1 a2=J r):ap Tryz.prog 124 [(.sh,vE a0),(.sh,vF a1),(.sh,vF a2)] (Eo (vF r) gq):=by
 apply pE [] hr zHI Tryz.Ail;intro Φ ak hF g;unfold L0 at hF;refine wW ?_;refine wZ (kE [0,1,2,3,4,5,7,8,9,10,11,12,6,13,14,15] [26,33,34,41,42,0,26,33,34,41,42,0,6,6,0,50]) follows ?_;have c0:= @jJ;exact wL
def FY(a0:am)(a1:Int)(a2:an)(a3:Int):Option an:=
 (I8 a0 a1 1 a3).bind λz1=>
 (L0 a0 a2 z1).bind λz2=>
 J z2
def zlE{a0 a1 a2 a3 r}(hr:FY a0 a1 a2 a3=J r):ap Tryz.prog 79 [(.sh,vE a0),(.sh,.int .i64 a1),(.sh,vF a2),(.sh,.int .i64 a3)] (Eo (vF r) ky):=by
 apply pE [] hr zMs Tryz.AcZ;intro Φ ak hF g;unfold FY at hF;refine wW ?_;refine wZ (kD 0 [34,50,34,0,0,3,3,66]) follows ?_;have c0:= @zmi;have c1:= @zm7;exact wL
def CS(a0:am)(a1:Int)(a2:List an)(a3:List Int)(a4:List Int):Option ((List an)):=
 ((aS (σ:=(List an)) (λi5 s4=>
 (ix a3 i5).bind λaU=>
 (ix a2 aU).bind λdf=>
 (ix a4 i5).bind λg8=>
 (FY a0 a1 df g8).bind λeQ=>
 gd ((s4.length+1)*16<=140737488355328/\s4.length+1<=4611686018427387904)<|
 J (.go (s4++[eQ]))) (λs4=>s4) (a3.length) 0 []:Option ((List an))).bind λx3=>
 J x3)
def Qq{a0 a1 a2 a3 a4 r}(hr:CS a0 a1 a2 a3 a4=J r):ap Tryz.prog 32 [(.sh,vE a0),(.sh,.int .i64 a1),(.sh,vH a2),(.sh,vC a3),(.sh,vC a4)] (Eo (vG r) rX):=by
 apply pE [] hr zMh Tryz.Ahi;intro Φ ak hF g;unfold CS at hF
 iterate 3 (try simp[go_sem,g];try intros;refine bu ?_)
 refine wJ hF (λx3=>[(11,.v (vG x3))]) (λx3 hF=>?_) λ_ hj0 hF=>?_
 ·exact wl ak hF
 refine wR hF [1,2,4,5,15,16] (λi5 s4=>[(11,.v (vG s4)),(17,.v (.int .i64 i5))]) λb bg i5 s4 _ _ aO aN bo ba hF=>?_
 refine wW ?_;refine wu aO aN ?_;refine wW ?_;refine wB ?_;obtain⟨aU,g,hF⟩:=Rx g hF;refine wK [1,2,4,5,11,12,13,15,16,17] ?_;refine wZ (kD 0 [0,42,0,0,0,0,0,0,0,0,0,3,0,5,0]) follows ?_;have c0:= @zlE;exact wL
def iR(aL:List Int)(a1:Int):Option (List Int×List Int):=
 gd (0<=a1)<|
 gd (0<=a1.toNat/\a1.toNat<=aL.length)<|
 gd (0<=a1)<|
 gd (a1.toNat<=aL.length/\aL.length<=aL.length)<|
 J ((aL.take a1.toNat).drop 0,(aL.take aL.length).drop a1.toNat)
def mC{aL a1 r}(hr:iR aL a1=J r):ap Tryz.prog 126 [(.io,.bx [vC aL]),(.sh,.int .i64 a1)] (Eo (vC r.1) [.bx [vC r.2],.au]):=by
 apply pE [0] hr zHl Tryz.AcF;intro Φ ak hF g;unfold iR at hF;exact wL
def rH(aL:List Int):Option (Int×List Int):=
 (iR aL 1).bind λz1=>
 (ix z1.1 0).bind λx2=>
 J (x2,z1.2)
def zX{aL r}(hr:rH aL=J r):ap Tryz.prog 127 [(.io,.bx [vC aL])] (Eo (.int .i64 r.1) [.bx [vC r.2]]):=by
 apply pE [0] hr zHZ Tryz.AcG;intro Φ ak hF g;unfold rH at hF;have ja:= @mC;exact wL
def Ht(a0:am)(a1:ct)(a2:List Int)(a3:List Int):Option ((List Int)):=
 gd (0<=(a2.length:Int)/\(a2.length:Int)<=(a2.length:Int)/\8*(a2.length:Int)<=140737488355328/\(a2.length:Int)<=4611686018427387904)<|
 (J (List.replicate a2.length 0)).bind λx1=>
 ((aS (σ:=(List Int)) (λmz dw=>
 (ix a2 mz).bind λfO=>
 (ix a3 fO).bind λiv=>
 (ix a1.Hs mz).bind λke=>
 (cP a0 a0.G iv).bind λeY=>
 (d9 a0 [eY,ke]).bind λgw=>
 (ix dw fO).bind λoG=>
 J (.go (dw.set fO.toNat gw))) (λdw=>dw) (a2.length) 0 x1:Option ((List Int))).bind λx6=>
 J x6)
def zj7{a0 a1 a2 a3 r}(hr:Ht a0 a1 a2 a3=J r):ap Tryz.prog 128 [(.sh,vE a0),(.sh,vJ a1),(.sh,vC a2),(.sh,vC a3)] (Eo (vD r) ky):=by
 apply pE [] hr zFI Tryz.Adi;intro Φ ak hF g;unfold Ht at hF;obtain⟨g,hF⟩:=Rg g hF;obtain⟨x1,e2,hF⟩:=mJ hF;have g3:List.replicate a2.length ([.int .i64 0]:List PV)=x1.map aJ:=by injection e2 with e2;rw[<-e2];simp[go_sem]
 iterate 2 (try simp[go_sem,g,g3];try intros;refine bu ?_)
 try simp[go_sem,g,g3]
 try intros
 refine wK [3,4,5,9,15,16,17] ?_;refine wJ hF (λx6=>[(9,.v (vD x6))]) (λx6 hF=>?_) λ_ hj0 hF=>?_
 ·exact wl ak hF
 refine wR hF [3,4,5,15,16] (λmz dw=>[(9,.v (vD dw)),(17,.v (.int .i64 mz))]) λb bg mz dw _ _ aO aN bo ba hF=>?_
 refine wW ?_;refine wu aO aN ?_;refine wW ?_;refine wB ?_;obtain⟨fO,g,hF⟩:=Rx g hF;refine wW ?_;refine wZ (kE [0,1,2,3,4,5,6,7,8,9,11,12,13,14,15,10,16,17,18,19] [0,0,34,34,33,34,0,0,0,0,41,42,0,0,0,4,0,6,0,0]) follows ?_;have c0:= @gN;have c1:= @jJ;exact wL
def Lx(a0:List an):Option (List an):=
 gd (a0.length*16<=140737488355328/\a0.length<=4611686018427387904)<|
 J a0
def zhC{a0:(List an)}{r:(List an)}(hr:Lx a0=J r):ap Tryz.prog 58 [(.sh,.sl aa 2 (a0.map jA))] (Eo (.sl Z 2 (r.map jA)) [.au]):=by
 apply K8 8 [] [] [1000000] [.tmp 2] hr zK7 Tryz.Agl rfl rfl rfl
 ·exact⟨by simp,rfl⟩
 intro Φ ak hF;unfold Lx at hF;obtain⟨g,hF⟩:=mU hF;have h1:=ak _ (eX hF);subst h1;try simp[go_sem]
 refine Iq [(0,.v (.sl aa 2 (a0.map jA)))] (by simp[go_sem]) ?_;try simp[go_sem]
 refine Zx rfl rfl (by simp[go_sem]) rfl (by rfl) λb hb=>?_
 try simp[go_sem]
 refine bu ?_
 repeat rw[O3]
 cases b
 ·refine Qu (by simp[go_sem]) ?_;try simp[go_sem]
  refine bu ?_;try simp[go_sem,g]
  refine bu ?_;try simp[go_sem,g]
 have xJ:a0=[]:=by
  cases a0 with
  |nil=>rfl
  |cons x l=>exact absurd (hb (by simp)) (by simp)
 subst xJ;refine MF (by simp[go_sem]) ?_;try simp[go_sem]
 refine bu ?_;try simp[go_sem]
def qG(a0:Int)(a1:List an)(a2:List an)(a3:List Int):Option ((List Int)):=
 (Lx a1).bind λz1=>
 gd ((z1.length+a2.length)*16<=140737488355328/\z1.length+a2.length<=4611686018427387904)<|
 (J (z1++a2)).bind λx2=>
 ((aS (σ:=(List Int)) (λi8 s7=>
 (ix x2 i8).bind λe7=>
 gd ((s7.length+2)*8<=140737488355328/\s7.length+2<=4611686018427387904)<|
 J (.go (s7++[e7.A,e7.B]))) (λs7=>s7) (x2.length) 0 [a0]:Option ((List Int))).bind λx6=>
 gd ((x6.length+a3.length)*8<=140737488355328/\x6.length+a3.length<=4611686018427387904)<|
 J (x6++a3))
def Ez{a0 a1 a2 a3 r}(hr:qG a0 a1 a2 a3=J r):ap Tryz.prog 129 [(.sh,.int .i64 a0),(.sh,vH a1),(.sh,vH a2),(.sh,vC a3)] (Eo (vD r) ky):=by
 apply pE [] hr zEQ Tryz.Aee;intro Φ ak hF g;unfold qG at hF
 iterate 2 refine wW ?_
 refine wE hF zhC λz1 hF=>?_
 obtain⟨g,hF⟩:=Rg g hF;obtain⟨x2,e3,hF⟩:=mJ hF;have g:=And.intro g (show List.map jA z1++List.map jA a2=x2.map jA by injection e3 with e3;rw[<-e3];simp[go_sem]);try simp[go_sem,g]
 try intros
 refine wK [3,9,17,18,19] ?_;refine wJ hF (λx6=>[(3,.v (vC a3)),(9,.v (vD x6))]) (λx6 hF=>?_) λ_ hj0 hF=>?_
 ·exact wL
 refine wR hF [3,17,18] (λi8 s7=>[(9,.v (vD s7)),(19,.v (.int .i64 i8))]) λb bg i8 s7 _ _ aO aN bo ba hF=>?_
 exact wL
def vj(a0:List Int):Option (List Int):=
 gd (a0.length*8<=140737488355328/\a0.length<=4611686018427387904)<|
 J a0
def NI{a0:(List Int)}{r:(List Int)}(hr:vj a0=J r):ap Tryz.prog 64 [(.sh,.sl aa 1 (a0.map aJ))] (Eo (.sl Z 1 (r.map aJ)) [.au]):=by
 apply K8 8 [] [] [1000000] [.tmp 2] hr zJ5 Tryz.Af7 rfl rfl rfl
 ·exact⟨by simp,rfl⟩
 intro Φ ak hF;unfold vj at hF;obtain⟨g,hF⟩:=mU hF;have h1:=ak _ (eX hF);subst h1;try simp[go_sem]
 refine Iq [(0,.v (.sl aa 1 (a0.map aJ)))] (by simp[go_sem]) ?_;try simp[go_sem]
 refine Zx rfl rfl (by simp[go_sem]) rfl (by rfl) λb hb=>?_
 try simp[go_sem]
 refine bu ?_
 repeat rw[O3]
 cases b
 ·refine Qu (by simp[go_sem]) ?_;try simp[go_sem]
  refine bu ?_;try simp[go_sem,g]
  refine bu ?_;try simp[go_sem,g]
 have xJ:a0=[]:=by
  cases a0 with
  |nil=>rfl
  |cons x l=>exact absurd (hb (by simp)) (by simp)
 subst xJ;refine MF (by simp[go_sem]) ?_;try simp[go_sem]
 refine bu ?_;try simp[go_sem]
def mt(a0:am)(a1:ByteArray)(a2:List Int):Option (Int×Bool):=
 gd (([a0.P,a0.Q,a0.G].length+a2.length)*8<=140737488355328/\[a0.P,a0.Q,a0.G].length+a2.length<=4611686018427387904)<|
 (BW a1 ([a0.P,a0.Q,a0.G]++a2)).bind λz1=>
 if(!z1.2)=Z then(
 J (0,aa))else(
 gd (a0.Q≠0)<|
 J (z1.1.tmod a0.Q,Z))
def wo{a0 a1 a2 r}(hr:mt a0 a1 a2=J r):ap Tryz.prog 137 [(.sh,vE a0),(.sh,.str a1),(.sh,vC a2)] (Eo (.bO [.int .i64 r.1,.bool r.2]) gq):=by
 apply pE [] hr zHA Tryz.Ag6;intro Φ ak hF g;unfold mt at hF;have c0:= @VL;exact wL
def Ac(a0:am)(a1:ByteArray)(a2:List Int)(a3:Int):Option (List Int×Bool):=
 ((dI (σ:=(List Int)×Int) (λs4=>
 if decide (s4.2<(if a3<1 then 1 else a3))=Z then(
 (vj a2).bind λbX=>
 gd ((bX.length+1)*8<=140737488355328/\bX.length+1<=4611686018427387904)<|
 (mt a0 a1 (bX++[s4.2])).bind λb7=>
 if(!b7.2)=Z then(
 J (.out (.inr ([],aa))))else(
 gd ((s4.1.length+1)*8<=140737488355328/\s4.1.length+1<=4611686018427387904)<|
 J (.go (s4.1++[b7.1],i64.wrap (s4.2+1)))))else(
 J (.out (.inl s4.1)))) ([],0):Option ((List Int) ⊕ (List Int×Bool))).bind (Sum.elim (λx3=>
 gd (0<=a3)<|
 gd (0<=a3.toNat/\a3.toNat<=x3.length)<|
 J (x3.take a3.toNat,Z)) J))
def VC{a0 a1 a2 a3 r}(hr:Ac a0 a1 a2 a3=J r):ap Tryz.prog 130 [(.sh,vE a0),(.sh,.str a1),(.sh,vC a2),(.sh,.int .i64 a3)] (Eo (.bO [vD r.1,.bool r.2]) ky):=by
 apply pE [] hr zGk Tryz.Ah5;intro Φ ak hF g;unfold Ac at hF
 iterate 3 refine wW ?_
 refine wS hF (λx3=>[(3,.v (.int .i64 a3)),(10,.v (vD x3))]) (λx3 hF=>?_) λ_ hj0 dB hF=>?_
 ·exact wL
 refine wB ?_;obtain⟨b13,SU,bg⟩:=hF;refine jI SU [1,2,3,4,16] (λs4=>[(10,.v (vD s4.1)),(17,.v (.int .i64 s4.2))]) λs4 _ _ bo ba hF=>?_
 refine wW ?_;refine wI hF (λh9 hF=>?_) λh9 hF=>?_
 ·refine wW ?_;refine wB ?_;refine wK [1,2,3,4,10,11,16,17] ?_;refine wZ (kE [0,1,2,4,5,3,6,7,8,9,10,11,12] [34,0,0,0,0,3,5,3,0,0,0,0,0]) follows ?_;have c0:= @NI;have c1:= @wo;exact wL
 exact wL
def FH(a0:List Int)(a1:List Int):Option ((List Int)):=
 ((aS (σ:=(List Int)) (λi5 s4=>
 (ix a1 i5).bind λaU=>
 (ix a0 aU).bind λdf=>
 gd ((s4.length+1)*8<=140737488355328/\s4.length+1<=4611686018427387904)<|
 J (.go (s4++[df]))) (λs4=>s4) (a1.length) 0 []:Option ((List Int))).bind λx3=>
 J x3)
def zyk{a0 a1 r}(hr:FH a0 a1=J r):ap Tryz.prog 65 [(.sh,vC a0),(.sh,vC a1)] (Eo (vD r) cI):=by
 apply pE [] hr zMG Tryz.AdK;intro Φ ak hF g;unfold FH at hF
 iterate 3 (try simp[go_sem,g];try intros;refine bu ?_)
 refine wJ hF (λx3=>[(5,.v (vD x3))]) (λx3 hF=>?_) λ_ hj0 hF=>?_
 ·exact wl ak hF
 refine wR hF [0,9,10] (λi5 s4=>[(5,.v (vD s4)),(11,.v (.int .i64 i5))]) λb bg i5 s4 _ _ aO aN bo ba hF=>?_
 exact wL
def Hm(a0:am)(a1:Int)(a2:List Int)(a3:List Int):Option ((List Int)):=
 ((aS (σ:=Int×List Int) (λi5 s4=>
 (ix a2 i5).bind λaU=>
 (ix a3 i5).bind λdf=>
 (cP a0 a0.G df).bind λdk=>
 (cP a0 s4.1 aU).bind λeQ=>
 (d9 a0 [dk,eQ]).bind λfE=>
 gd ((s4.2.length+1)*8<=140737488355328/\s4.2.length+1<=4611686018427387904)<|
 J (.go (fE,s4.2++[fE]))) (λs4=>s4.2) (a2.length) 0 (a1,[]):Option ((List Int))).bind λx3=>
 J x3)
def znW{a0 a1 a2 a3 r}(hr:Hm a0 a1 a2 a3=J r):ap Tryz.prog 131 [(.sh,vE a0),(.sh,.int .i64 a1),(.sh,vC a2),(.sh,vC a3)] (Eo (vD r) ky):=by
 apply pE [] hr zH4 Tryz.Aeq;intro Φ ak hF g;unfold Hm at hF
 iterate 3 (try simp[go_sem,g];try intros;refine bu ?_)
 refine wJ hF (λx3=>[(9,.v (vD x3))]) (λx3 hF=>?_) λ_ hj0 hF=>?_
 ·exact wl ak hF
 refine wR hF [3,4,13,14] (λi5 s4=>[(1,.v (.int .i64 s4.1)),(9,.v (vD s4.2)),(15,.v (.int .i64 i5))]) λb bg i5 s4 _ _ aO aN bo ba hF=>?_
 refine wW ?_;refine wu aO aN ?_;refine wW ?_;refine wB ?_;obtain⟨aU,g,hF⟩:=Rx g hF;refine wK [1,3,4,9,10,11,13,14,15] ?_;refine wZ (kE [0,1,2,3,4,5,6,7,9,10,11,8,12,13,14,15] [34,34,33,34,0,0,0,0,34,0,0,3,3,0,6,0]) follows ?_;have c0:= @gN;have c1:= @jJ;exact wL
def eU(a0:am)(a1:Int):Option Int:=
 (zo a1 a0.Q).bind λz1=>
 J z1
def mg{a0 a1 r}(hr:eU a0 a1=J r):ap Tryz.prog 132 [(.sh,vE a0),(.sh,.int .i64 a1)] (Eo (.int .i64 r) cI):=by
 apply pE [] hr zGA Tryz.Ahy;intro Φ ak hF g;unfold eU at hF;have c0:= @Qn;exact wL
def uB(a0:List an):Option (List Int×List Int):=
 ((aS (σ:=(List Int)×List Int) (λi5 s4=>
 (ix a0 i5).bind λaU=>
 gd ((s4.1.length+1)*8<=140737488355328/\s4.1.length+1<=4611686018427387904)<|
 gd ((s4.2.length+1)*8<=140737488355328/\s4.2.length+1<=4611686018427387904)<|
 J (.go (s4.1++[aU.A],s4.2++[aU.B]))) (λs4=>(s4.1,s4.2)) (a0.length) 0 ([],[]):Option ((List Int×List Int))).bind λx3=>
 J (x3.1,x3.2))
def Dw{a0 r}(hr:uB a0=J r):ap Tryz.prog 133 [(.sh,vH a0)] (Eo (.bO [vD r.1,vD r.2]) [.au]):=by
 apply pE [] hr zH1 Tryz.AfN;intro Φ ak hF g;unfold uB at hF
 iterate 3 (try simp[go_sem,g];try intros;refine bu ?_)
 refine wJ hF (λx3=>[(4,.v (vD x3.1)),(5,.v (vD x3.2))]) (λx3 hF=>?_) λ_ hj0 hF=>?_
 ·exact wL
 refine wR hF [10,11] (λi5 s4=>[(4,.v (vD s4.1)),(5,.v (vD s4.2)),(12,.v (.int .i64 i5))]) λb bg i5 s4 _ _ aO aN bo ba hF=>?_
 refine wK [4,5,10,11,12,13] ?_;refine wu aO aN ?_;refine wW ?_;refine wB ?_;obtain⟨aU,g,hF⟩:=Rx g hF;refine wW ?_;refine wZ (kE [0,1,2,3,5,6,7,8,4,9,10,11] [0,57,58,0,0,57,58,0,5,5,0,0]) follows ?_;exact wL
def lT(a0:am)(a1:List Int)(a2:List Int):Option Int:=
 ((aS (σ:=Int) (λi5 s4=>
 (ix a1 i5).bind λaU=>
 (ix a2 i5).bind λdf=>
 (cP a0 aU df).bind λdk=>
 (d9 a0 [s4,dk]).bind λeQ=>
 J (.go eQ)) (λs4=>s4) (a1.length) 0 1:Option Int).bind λx3=>
 J x3)
def vg{a0 a1 a2 r}(hr:lT a0 a1 a2=J r):ap Tryz.prog 136 [(.sh,vE a0),(.sh,vC a1),(.sh,vC a2)] (Eo (.int .i64 r) gq):=by
 apply pE [] hr zEE Tryz.Agn;intro Φ ak hF g;unfold lT at hF
 iterate 3 (try simp[go_sem,g];try intros;refine bu ?_)
 refine wJ hF (λx3=>[(7,.v (.int .i64 x3))]) (λx3 hF=>?_) λ_ hj0 hF=>?_
 ·exact wl ak hF
 refine wR hF [2,3,10,11] (λi5 s4=>[(7,.v (.int .i64 s4)),(12,.v (.int .i64 i5))]) λb bg i5 s4 _ _ aO aN bo ba hF=>?_
 refine wW ?_;refine wu aO aN ?_;refine wW ?_;refine wB ?_;obtain⟨aU,g,hF⟩:=Rx g hF;refine wK [2,3,7,8,9,10,11,12] ?_;refine wZ (kD 0 [26,0,26,0,0,0,0,0,3,0,6,0]) follows ?_;have c0:= @gN;have c1:= @jJ;exact wL
def zEW:L3 Tryz.prog 162 27:=by
 intro n H e b es cz z e1 e2 h0 h1 h2 h3 h4 h5;refine PB zHw Tryz.AdQ rfl rfl (by simp[Tryz.Aaa]) λhw=>?_
 have hn:¬n<0:=by omega
 have hw1:i64.wrap n=n:=EW (by omega);have sV:i64.wrap 0=0:=EW (by omega);have ei:(jG Tryz.prog 3).isSome=Z:=by kernel_rfl
 by_cases hp:0<n
 ·have hne:n≠0:=by omega
  have xb:=h5;simp[cq]at xb;simp[Tryz.Aaa,fa,nj,aM,fq,dA,gp,ck,bh,eD,bB,Dz,FR.put,FR.init,be,bM,cW,jW,cq,Am.iH,nK,nW,vq,xe,Gg,pP,sy,yi,hn,e1,e2,ei,hw1,sV,hp,h1,h2,h3,h4,hne]
  first|exact xb|exact .inl xb
 have hz:n=0:=by omega
 subst hz;simp[Tryz.Aaa,fa,nj,aM,fq,dA,gp,ck,bh,eD,bB,Dz,FR.put,FR.init,be,bM,cW,jW,cq,Am.iH,nK,nW,vq,xe,Gg,pP,sy,yi,hn,e1,e2,hw1,sV,hp]
def pj(a0:(List (List Int))):Option ((List Int)):=
 ((aS (σ:=Int) (λi5 s4=>
 (ix a0 i5).bind λaU=>
 if decide ((i64.wrap (s4+(aU.length:Int)))<0)=Z then(
 ae)else(
 J (.go (i64.wrap (s4+(aU.length:Int)))))) (λs4=>s4) (a0.length) 0 0:Option Int).bind λx3=>
 gd (0<=x3/\8*x3<=140737488355328/\x3<=4611686018427387904)<|
 ((aS (σ:=(List Int)) (λfQ bV=>
 (ix a0 fQ).bind λiv=>
 gd ((bV.length+iv.length)*8<=140737488355328/\bV.length+iv.length<=4611686018427387904)<|
 J (.go (bV++iv))) (λbV=>bV) (a0.length) 0 []:Option ((List Int))).bind λfF=>
 J fF))
def EA{a0 r}(hr:pj a0=J r):ap Tryz.prog 94 [(.sh,vK a0)] (Eo (vD r) [.au]):=by
 apply pE [] hr zJW Tryz.AfH;intro Φ ak hF g;unfold pj at hF
 iterate 3 (try simp[go_sem,g];try intros;refine bu ?_)
 refine wJ hF (λx3=>[(0,.v (vK a0)),(3,.v (.int .i64 x3))]) (λx3 hF=>?_) λ_ hj0 hF=>?_
 ·obtain⟨GM,hF⟩:=mU hF;try simp[go_sem,g]
  refine Ts zEW zND (by simp[go_sem,g]) GM ?_;try simp[go_sem,g]
  try intros
  refine bu ?_;try simp[go_sem,g]
  try intros
  refine wK [6,25,26,27] ?_;refine wJ hF (λfF=>[(6,.v (vD fF))]) (λfF hF=>?_) λ_ hj0 hF=>?_
  ·exact wl ak hF
  refine wR hF [25,26] (λfQ bV=>[(6,.v (vD bV)),(27,.v (.int .i64 fQ))]) λb bg fQ bV _ _ aO aN bo ba hF=>?_
  exact wL
 refine wR hF [0,9,10] (λi5 s4=>[(3,.v (.int .i64 s4)),(11,.v (.int .i64 i5))]) λb bg i5 s4 _ _ aO aN bo ba hF=>?_
 exact wL
def Ga(a0:List Int)(a1:Int):Option Int:=
 ((aS (σ:=Int) (λi5 s4=>
 (ix a0 i5).bind λaU=>
 gd (a1≠0)<|
 J (.go ((i64.wrap (s4+aU)).tmod a1))) (λs4=>s4) (a0.length) 0 0:Option Int).bind λx3=>
 J x3)
def zwE{a0 a1 r}(hr:Ga a0 a1=J r):ap Tryz.prog 138 [(.sh,vC a0),(.sh,.int .i64 a1)] (Eo (.int .i64 r) cI):=by
 apply pE [] hr zH3 Tryz.AeF;intro Φ ak hF g;unfold Ga at hF
 iterate 3 (try simp[go_sem,g];try intros;refine bu ?_)
 refine wJ hF (λx3=>[(5,.v (.int .i64 x3))]) (λx3 hF=>?_) λ_ hj0 hF=>?_
 ·exact wl ak hF
 refine wR hF [1,8,9] (λi5 s4=>[(5,.v (.int .i64 s4)),(10,.v (.int .i64 i5))]) λb bg i5 s4 _ _ aO aN bo ba hF=>?_
 exact wL
def t9(a0:List Int)(a1:List Int)(a2:Int):Option Int:=
 ((aS (σ:=Int) (λi5 s4=>
 (ix a0 i5).bind λaU=>
 (ix a1 i5).bind λdf=>
 gd (a2≠0)<|
 gd (a2≠0)<|
 J (.go ((i64.wrap (s4+((i64.wrap (aU*df)).tmod a2))).tmod a2))) (λs4=>s4) (a0.length) 0 0:Option Int).bind λx3=>
 J x3)
def Tn{a0 a1 a2 r}(hr:t9 a0 a1 a2=J r):ap Tryz.prog 139 [(.sh,vC a0),(.sh,vC a1),(.sh,.int .i64 a2)] (Eo (.int .i64 r) gq):=by
 apply pE [] hr zGa Tryz.Agj;intro Φ ak hF g;unfold t9 at hF
 iterate 3 (try simp[go_sem,g];try intros;refine bu ?_)
 refine wJ hF (λx3=>[(7,.v (.int .i64 x3))]) (λx3 hF=>?_) λ_ hj0 hF=>?_
 ·exact wl ak hF
 refine wR hF [0,1,2,10] (λi5 s4=>[(7,.v (.int .i64 s4)),(11,.v (.int .i64 i5))]) λb bg i5 s4 _ _ aO aN bo ba hF=>?_
 refine wW ?_;refine wu aO aN ?_;refine wW ?_;refine wB ?_;refine wW ?_;refine wZ (kD 0 [0,0,0,0,0,0,0,0,0,0,0,0,0,0,0,0]) follows ?_;exact wL
def EU(a0:am)(a1:ct)(a2:Int)(a3:List an)(a4:List Int)(a5:List Int)(a6:List Int):Option (cF×Bool):=
 (iR a6 (a3.length:Int)).bind λz1=>
 (iR z1.2 (a3.length:Int)).bind λz2=>
 (rH z2.2).bind λz3=>
 (rH z3.2).bind λz4=>
 (rH z4.2).bind λz5=>
 (rH z5.2).bind λz6=>
 (iR z6.2 (a3.length:Int)).bind λz7=>
 (iR z7.2 (a3.length:Int)).bind λz8=>
 (CS a0 a2 a3 a4 a5).bind λz9=>
 (Ht a0 a1 a4 z1.1).bind λbX=>
 (qG a2 a3 z9 bX).bind λb7=>
 (Ac a0 (⟨#[109,105,120,32,99,111,108,117,109,110,115]⟩:ByteArray) b7 (a3.length:Int)).bind λbH=>
 if(!bH.2)=Z then(
 J ((cF.mk [] [] (bZ.mk [] [] [])),aa))else(
 (FH bH.1 a4).bind λeQ=>
 (Hm a0 a1.H eQ z2.1).bind λfE=>
 ((aS (σ:=Int) (λqD eK=>
 (ix z2.1 qD).bind λFy=>
 (ix eQ qD).bind λfO=>
 (eU a0 (i64.wrap (Fy+(i64.wrap (fO*eK))))).bind λfS=>
 J (.go fS)) (λeK=>eK) (a3.length) 0 0:Option Int).bind λlL=>
 (uB z9).bind λiJ=>
 (cP a0 a0.G z3.1).bind λnE=>
 (cP a0 a0.G z4.1).bind λhZ=>
 (lT a0 a1.Hs z8.1).bind λv4=>
 (d9 a0 [hZ,v4]).bind λyW=>
 (cP a0 a0.G z5.1).bind λvn=>
 (cP a0 a0.G (i64.wrap (0-z6.1))).bind λVP=>
 (lT a0 iJ.1 z8.1).bind λuq=>
 (d9 a0 [VP,uq]).bind λNr=>
 (cP a0 a2 (i64.wrap (0-z6.1))).bind λNh=>
 (lT a0 iJ.2 z8.1).bind λBr=>
 (d9 a0 [Nh,Br]).bind λCm=>
 gd (([a1.H].length+fE.length)*8<=140737488355328/\[a1.H].length+fE.length<=4611686018427387904)<|
 (J ([a1.H]++fE)).bind λA9=>
 ((aS (σ:=(List Int)×List Int×List Int×List Int×List Int) (λi64 kR=>
 (ix z7.1 i64).bind λQC=>
 (ix A9 i64).bind λTz=>
 (ix z8.1 i64).bind λnR=>
 (cP a0 a0.G QC).bind λrQ=>
 (cP a0 Tz nR).bind λxz=>
 (d9 a0 [rQ,xz]).bind λFg=>
 gd ((kR.2.2.1.length+1)*8<=140737488355328/\kR.2.2.1.length+1<=4611686018427387904)<|
 J (.go (kR.1,kR.2.1,kR.2.2.1++[Fg],kR.2.2.2.1,kR.2.2.2.2))) (λkR=>(kR.1,kR.2.1,kR.2.2.1,kR.2.2.2.1,kR.2.2.2.2)) (a3.length) 0 (bX,fE,[nE,yW,vn,Nr,Cm],[],[]):Option ((List Int×List Int×List Int×List Int×List Int))).bind λrG=>
 (pj [b7,rG.2.1,rG.2.2.1]).bind λvl=>
 (mt a0 (⟨#[109,105,120,32,112,114,111,111,102]⟩:ByteArray) vl).bind λnc=>
 if(!nc.2)=Z then(
 J ((cF.mk [] [] (bZ.mk [] [] [])),aa))else(
 (Ga z1.1 a0.Q).bind λIh=>
 (eU a0 (i64.wrap (z3.1+(i64.wrap (nc.1*Ih))))).bind λz84=>
 (t9 z1.1 bH.1 a0.Q).bind λYt=>
 (eU a0 (i64.wrap (z4.1+(i64.wrap (nc.1*Yt))))).bind λYh=>
 (eU a0 (i64.wrap (z5.1+(i64.wrap (nc.1*lL))))).bind λyr=>
 (t9 a5 eQ a0.Q).bind λoA=>
 (eU a0 (i64.wrap (z6.1+(i64.wrap (nc.1*oA))))).bind λCL=>
 ((aS (σ:=(List Int)×List Int×List Int×List Int×List Int) (λKh kQ=>
 (ix z7.1 Kh).bind λEu=>
 (ix z2.1 Kh).bind λFf=>
 (eU a0 (i64.wrap (Eu+(i64.wrap (nc.1*Ff))))).bind λMW=>
 gd ((kQ.2.2.2.2.length+1)*8<=140737488355328/\kQ.2.2.2.2.length+1<=4611686018427387904)<|
 J (.go (kQ.1,kQ.2.1,kQ.2.2.1,kQ.2.2.2.1,kQ.2.2.2.2++[MW]))) (λkQ=>(kQ.1,kQ.2.1,kQ.2.2.1,kQ.2.2.2.1,kQ.2.2.2.2)) (a3.length) 0 (rG.1,rG.2.1,rG.2.2.1,[nc.1],[z84,Yh,yr,CL]):Option ((List Int×List Int×List Int×List Int×List Int))).bind λiS=>
 ((aS (σ:=(List Int)×List Int×List Int×List Int×List Int) (λJE kt=>
 (ix z8.1 JE).bind λiw=>
 (ix eQ JE).bind λAbG=>
 (eU a0 (i64.wrap (iw+(i64.wrap (nc.1*AbG))))).bind λIA=>
 gd ((kt.2.2.2.2.length+1)*8<=140737488355328/\kt.2.2.2.2.length+1<=4611686018427387904)<|
 J (.go (kt.1,kt.2.1,kt.2.2.1,kt.2.2.2.1,kt.2.2.2.2++[IA]))) (λkt=>(kt.1,kt.2.1,kt.2.2.1,kt.2.2.2.1,kt.2.2.2.2)) (a3.length) 0 (iS.1,iS.2.1,iS.2.2.1,iS.2.2.2.1,iS.2.2.2.2):Option ((List Int×List Int×List Int×List Int×List Int))).bind λlO=>
 J ((cF.mk lO.1 lO.2.1 (bZ.mk lO.2.2.1 lO.2.2.2.1 lO.2.2.2.2)),Z)))))))
set_option maxHeartbeats 16000000 in
def zk5{a0 a1 a2 a3 a4 a5 a6 r}(hr:EU a0 a1 a2 a3 a4 a5 a6=J r):ap Tryz.prog 80 [(.sh,vE a0),(.sh,vJ a1),(.sh,.int .i64 a2),(.sh,vH a3),(.sh,vC a4),(.sh,vC a5),(.sh,vC a6)] (Eo (.bO [vL r.1,.bool r.2]) MO):=by
 apply F0 330 [] [219,221,224] [45] [.cell 14 33,.tmp 15] hr zNU Tryz.AfJ;intro Φ ak hF g;unfold EU at hF;try simp[go_sem,g]
 try intros
 refine bu ?_;try simp[go_sem,g]
 try intros
 refine wK [2,3,4,5,7,8,14,16,17] ?_;refine wC hF [.io,.sh] mC λz1 hF=>?_
 refine wC hF [.io,.sh] mC λz2 hF=>?_
 refine wW ?_;refine wC hF [.io] zX λz3 hF=>?_
 refine wC hF [.io] zX λz4 hF=>?_
 refine wC hF [.io] zX λz5 hF=>?_
 refine wC hF [.io] zX λz6 hF=>?_
 refine wK [2,3,4,5,7,8,14,16,17,18,19,20,21,22,23] ?_;refine wC hF [.io,.sh] mC λz7 hF=>?_
 refine wC hF [.io,.sh] mC λz8 hF=>?_
 refine wW ?_;refine wE hF Qq λz9 hF=>?_
 refine wK [2,3,4,5,7,8,14,16,18,19,20,21,22,23,24,25,26] ?_;refine wE hF zj7 λbX hF=>?_
 refine wW ?_;refine wE hF Ez λb7 hF=>?_
 refine wK [2,4,5,7,8,14,16,18,19,20,21,22,23,24,25,26,27,28] ?_;refine wE hF VC λbH hF=>?_
 refine wW ?_;refine wK [2,4,5,7,8,14,16,18,19,20,21,22,23,24,25,26,27,28,29,92] ?_;refine wI hF (λGQ hF=>?_) λGQ hF=>?_
 ·exact wl ak hF
 refine wW ?_;refine wE hF zyk λeQ hF=>?_
 refine wW ?_;refine wE hF znW λfE hF=>?_
 refine wK [2,5,7,8,14,16,18,19,20,21,22,23,24,25,26,27,28,29,31] ?_
 iterate 2 refine wW ?_
 refine bS hF [2,5,7,8,14,16,18,19,20,21,22,23,24,25,26,27,28,29,31] (λlL=>[(32,.v (.int .i64 lL))]) (λlL hF=>?_) λ_ hj0 hF=>?_
 ·refine wE hF Dw λiJ hF=>?_
  refine wK [2,5,7,8,14,16,18,19,20,21,22,23,24,25,27,28,29,31,32,34,35] ?_;refine wZ [k2 0 7,k1 1 7,k2 2 7,k0 3,k2 5 7,k2 6 7,k1 7 7,k2 8 7,k0 9,k2 11 7,k1 12 8,k2 13 8,k0 14,k2 18 7,k1 19 7,k2 20 7,k0 21,k2 23 7,k2 24 7,k1 25 7,k2 26 7,k0 27,k0 28,k2 30 7,k0 31,k0 32,k2 36 7,k2 37 7,k0 38,k0 39,k0 40,k2 42 7,k0 43,k0 44,k3 4,k3 10,k3 15,k0 16,λ_=>⟨17,[132,143],[],ae,Z,Z,Z⟩,k3 22,k3 29,k3 33,k0 34,λ_=>⟨35,[150,161],[],ae,Z,Z,Z⟩,k3 41,k3 45,k0 46,λ_=>⟨47,[163,173],[],ae,Z,Z,Z⟩,k0 48,k1 49 27,k1 50 27,λ_=>⟨51,[177,175],[27],J 177,Z,Z,Z⟩] follows ?_;refine wE hF gN λnE hF=>?_
  refine wE hF gN λhZ hF=>?_
  refine wE hF vg λv4 hF=>?_
  refine wE hF jJ λyW hF=>?_
  refine wE hF gN λvn hF=>?_
  refine wE hF gN λVP hF=>?_
  refine wE hF vg λuq hF=>?_
  refine wE hF jJ λNr hF=>?_
  refine wE hF gN λNh hF=>?_
  refine wE hF vg λBr hF=>?_
  refine wE hF jJ λCm hF=>?_
  refine wK [5,7,8,14,16,18,19,20,21,22,23,24,25,27,28,29,31,32] ?_;obtain⟨g,hF⟩:=Rg g hF;obtain⟨A9,RN,hF⟩:=mJ hF;have g:=And.intro g (show[.int .i64 a1.H]::(List.map aJ fE)=A9.map aJ by injection RN with RN;rw[<-RN];simp[go_sem])
  iterate 2 refine wW ?_
  refine bS hF [5,7,14,16,18,19,20,21,22,23,24,25,28,29,31,32] (λrG=>[(27,.bl [vD rG.1,vD rG.2.1,vD rG.2.2.1,vD rG.2.2.2.1,vD rG.2.2.2.2])]) (λrG hF=>?_) λ_ hj0 hF=>?_
  ·refine wZ (kD 0 [58,0,217,218,217,217,218,0,6,3,0,0,0,0,0]) follows ?_;refine wE hF EA λvl hF=>?_
   refine wE hF wo λnc hF=>?_
   refine wK [5,7,14,16,18,19,20,21,22,23,24,25,27,29,30,31,32,38] ?_;refine wW ?_;refine wI hF (λh82 hF=>?_) λh82 hF=>?_
   ·exact wl ak hF
   iterate 2 refine wW ?_
   refine wZ [k2 0 7,k0 1,k0 2,k0 3,k1 4 7,k2 5 7,k2 10 7,k0 11,k0 12,k0 13,k0 14,k1 15 7,k2 16 7,k2 21 7,k0 22,k0 23,k0 24,k0 25,k0 26,k2 28 7,k0 29,k0 30,k0 31,k0 32,k1 33 7,k2 34 7,k3 6,k0 7,k0 8,k3 9,k3 17,k0 18,k0 19,k3 20,k3 27,k3 35,k0 36,k0 37,k3 38,k0 39,k1 40 27,k1 41 27,λ_=>⟨42,[278,276],[27],J 278,Z,Z,Z⟩] follows ?_;refine wE hF zwE λIh hF=>?_
   refine wE hF mg λz84 hF=>?_
   refine wE hF Tn λYt hF=>?_
   refine wE hF mg λYh hF=>?_
   refine wE hF mg λyr hF=>?_
   refine wE hF Tn λoA hF=>?_
   refine wE hF mg λCL hF=>?_
   refine wK [7,14,16,19,24,25,27,31,38] ?_;refine wW ?_;refine bS hF [7,14,16,25,31,38] (λiS=>[(27,.bl [vD iS.1,vC iS.2.1,vC iS.2.2.1,vD iS.2.2.2.1,vD iS.2.2.2.2])]) (λiS hF=>?_) λ_ hj0 hF=>?_
   ·refine wW ?_;refine wJ hF (λlO=>[(14,.bl [.sl Z 1 [],.sl Z 1 [],.sl Z 1 [],.sl Z 1 [],.sl Z 1 []]),(27,.bl [vD lO.1,vC lO.2.1,vC lO.2.2.1,vD lO.2.2.2.1,vD lO.2.2.2.2])]) (λlO hF=>?_) λ_ hj0 hF=>?_
    ·exact wl ak hF
    refine wR hF [7,14,25,31,38,304] (λJE kt=>[(27,.bl [vD kt.1,vC kt.2.1,vC kt.2.2.1,vD kt.2.2.2.1,vD kt.2.2.2.2]),(305,.v (.int .i64 JE))]) λb bg JE kt _ _ aO aN bo ba hF=>?_
    refine wW ?_;refine wu aO aN ?_;refine wW ?_;refine wB ?_;refine wW ?_;refine wZ (kD 0 [217,217,218,58,0,0,0,0,0,0,0,0,0,0,0,3,0,5,217,217,218]) follows ?_;have c0:= @mg;exact wL
   refine wR hF [7,14,16,19,24,25,31,38,279] (λKh kQ=>[(27,.bl [vD kQ.1,vC kQ.2.1,vC kQ.2.2.1,vD kQ.2.2.2.1,vD kQ.2.2.2.2]),(280,.v (.int .i64 Kh))]) λb bg Kh kQ _ _ aO aN bo ba hF=>?_
   refine wW ?_;refine wu aO aN ?_;refine wW ?_;refine wB ?_;refine wW ?_;refine wZ (kD 0 [217,217,218,58,0,0,0,0,0,0,0,0,0,0,0,3,0,5,217,217,218]) follows ?_;have c0:= @mg;exact wL
  refine wR hF [5,7,14,16,18,19,20,21,22,23,24,25,28,29,31,32,36,184] (λi64 kR=>[(27,.bl [vD kR.1,vD kR.2.1,vD kR.2.2.1,vD kR.2.2.2.1,vD kR.2.2.2.2]),(185,.v (.int .i64 i64))]) λb bg i64 kR _ _ aO aN bo ba hF=>?_
  refine wK [5,7,14,16,18,19,20,21,22,23,24,25,27,28,29,31,32,36,184,185,186] ?_;refine wu aO aN ?_;refine wW ?_;refine wB ?_;refine wW ?_;refine wZ (kE [0,1,2,3,4,5,6,7,8,9,10,12,13,14,15,16,17,18,19,20,11,21,22,23,24,25,26,27,28] [217,217,218,58,58,57,58,0,0,0,0,58,0,0,0,0,0,0,0,0,4,3,0,6,0,5,217,217,218]) follows ?_;have c0:= @gN;have c1:= @jJ;exact wL
 refine wR hF [2,5,7,8,14,16,18,19,20,21,22,23,24,25,26,27,28,29,31,104] (λqD eK=>[(32,.v (.int .i64 eK)),(105,.v (.int .i64 qD))]) λb bg qD eK _ _ aO aN bo ba hF=>?_
 refine wW ?_;refine wu aO aN ?_;refine wW ?_;refine wB ?_;refine wW ?_;refine wZ (kD 0 [58,0,0,0,0,0,0,0,0,0,0,0,3,0]) follows ?_;have c0:= @mg;exact wL
def pJ(a0:am)(a1:Int)(a2:List an)(a3:List Int)(a4:List Int)(a5:List Int):Option (cF×Bool):=
 (s9 a0 a1 a2).bind λz1=>
 ((if(!z1.2)=Z then(
 J Z)else(
 (CJ a0 a3 a4 (a2.length:Int)).bind λz6=>
 if(!z6)=Z then(
 J Z)else(
 if((a5.length:Int) !=(i64.wrap ((i64.wrap (4*(a2.length:Int)))+4)))=Z then(
 J Z)else(
 (vf a0 a5).bind λz9=>
 J (!z9)))):Option Bool).bind λx4=>
 if x4=Z then(
 J ((cF.mk [] [] (bZ.mk [] [] [])),aa))else(
 (EU a0 z1.1 a1 a2 a3 a4 a5).bind λb7=>
 J (b7.1,b7.2)))
def znn{a0 a1 a2 a3 a4 a5 r}(hr:pJ a0 a1 a2 a3 a4 a5=J r):ap Tryz.prog 33 [(.sh,vE a0),(.sh,.int .i64 a1),(.sh,vH a2),(.sh,vC a3),(.sh,vC a4),(.sh,vC a5)] (Eo (.bO [vL r.1,.bool r.2]) sj):=by
 apply F0 60 [] [51] [] [.cell 12 33,.tmp 13] hr zJS Tryz.AgO;intro Φ ak hF g;unfold pJ at hF;refine wW ?_;refine wE hF L9 λz1 hF=>?_
 refine wK [1,2,3,4,5,6,12,14,15] ?_;refine bS hF [1,2,3,4,5,6,12,14] (λx4=>[(48,.v (.bool x4))]) (λx4 hF=>?_) λ_ hj0 hF=>?_
 ·have c0:= @zk5;exact wL
 have c0:= @Qg;have c1:= @IB;exact wL
def yu(a0:am)(a1:Int)(a2:List an):Option (ct×Bool):=
 (s9 a0 a1 a2).bind λz1=>
 if(!z1.2)=Z then(
 J ((ct.mk 0 []),aa))else(
 (lN a0 0).bind λz3=>
 J (z3.1,z3.2))
def Q3{a0 a1 a2 r}(hr:yu a0 a1 a2=J r):ap Tryz.prog 40 [(.sh,vE a0),(.sh,.int .i64 a1),(.sh,vH a2)] (Eo (.bO [vI r.1,.bool r.2]) gq):=by
 apply pE [] hr zKg Tryz.Aev;intro Φ ak hF g;unfold yu at hF;have c0:= @L9;have c1:= @W8;exact wL
def oS(a0:am)(a1:ct)(a2:Int)(a3:Int):Option Int:=
 (cP a0 a0.G a2).bind λz1=>
 (cP a0 a1.H a3).bind λz2=>
 (d9 a0 [z1,z2]).bind λz3=>
 J z3
def Bs{a0 a1 a2 a3 r}(hr:oS a0 a1 a2 a3=J r):ap Tryz.prog 141 [(.sh,vE a0),(.sh,vJ a1),(.sh,.int .i64 a2),(.sh,.int .i64 a3)] (Eo (.int .i64 r) ky):=by
 apply pE [] hr zFK Tryz.Ad4;intro Φ ak hF g;unfold oS at hF;refine wW ?_;refine wZ (kE [0,1,2,3,4,6,7,8,9,5,10,11,12,13] [34,34,33,34,0,34,41,42,0,3,3,0,6,0]) follows ?_;have c0:= @gN;have c1:= @jJ;exact wL
def IC(a0:am)(a1:ct)(a2:List Int)(a3:List Int):Option ((List Int)):=
 ((aS (σ:=(List Int)) (λi5 s4=>
 (ix a2 i5).bind λaU=>
 (ix a3 i5).bind λdf=>
 (oS a0 a1 (i64.wrap (aU+1)) df).bind λdk=>
 gd ((s4.length+1)*8<=140737488355328/\s4.length+1<=4611686018427387904)<|
 J (.go (s4++[dk]))) (λs4=>s4) (a2.length) 0 []:Option ((List Int))).bind λx3=>
 J x3)
def zko{a0 a1 a2 a3 r}(hr:IC a0 a1 a2 a3=J r):ap Tryz.prog 140 [(.sh,vE a0),(.sh,vJ a1),(.sh,vC a2),(.sh,vC a3)] (Eo (vD r) ky):=by
 apply pE [] hr zER Tryz.Afm;intro Φ ak hF g;unfold IC at hF
 iterate 3 (try simp[go_sem,g];try intros;refine bu ?_)
 refine wJ hF (λx3=>[(9,.v (vD x3))]) (λx3 hF=>?_) λ_ hj0 hF=>?_
 ·refine wK [8] ?_;exact wm ak hF
 refine wR hF [3,4,5,13,14] (λi5 s4=>[(9,.v (vD s4)),(15,.v (.int .i64 i5))]) λb bg i5 s4 _ _ aO aN bo ba hF=>?_
 refine wW ?_;refine wu aO aN ?_;refine wW ?_;refine wB ?_;obtain⟨aU,g,hF⟩:=Rx g hF;refine wK [3,4,5,9,10,11,13,14,15] ?_;refine wZ (kD 0 [0,34,42,0,0,0,0,0,0,3,0,5,0]) follows ?_;have c0:= @Bs;exact wL
def Bx(a0:am)(a1:List Int):Option (Int×Int×Bool):=
 (mt a0 (⟨#[109,105,120,32,121]⟩:ByteArray) a1).bind λz1=>
 (mt a0 (⟨#[109,105,120,32,122]⟩:ByteArray) a1).bind λz2=>
 ((if(!z1.2)=Z then(
 J Z)else(
 J (!z2.2)):Option Bool).bind λx5=>
 if x5=Z then(
 J (0,0,aa))else(
 J (z1.1,z2.1,Z)))
def ZU{a0 a1 r}(hr:Bx a0 a1=J r):ap Tryz.prog 142 [(.sh,vE a0),(.sh,vC a1)] (Eo (.bO [.int .i64 r.1,.int .i64 r.2.1,.bool r.2.2]) cI):=by
 apply pE [] hr zE7 Tryz.AdF;intro Φ ak hF g;unfold Bx at hF;refine wW ?_;refine wE hF wo λz1 hF=>?_
 refine wK [1,2,7,8] ?_;refine wE hF wo λz2 hF=>?_
 refine wW ?_;refine bS hF [7,9] (λx5=>[(28,.v (.bool x5))]) (λx5 hF=>?_) λ_ hj0 hF=>?_
 ·exact wL
 exact wL
def FX(a0:am)(a1:ct)(a2:Int)(a3:List an)(a4:List Int)(a5:List Int)(a6:List Int):Option (cn×Bool):=
 (iR a6 (a3.length:Int)).bind λz1=>
 (iR z1.2 (a3.length:Int)).bind λz2=>
 (iR z2.2 (a3.length:Int)).bind λz3=>
 (iR z3.2 (a3.length:Int)).bind λz4=>
 (iR z4.2 (a3.length:Int)).bind λz5=>
 (iR z5.2 (a3.length:Int)).bind λz6=>
 (rH z6.2).bind λz7=>
 (iR z7.2 (a3.length:Int)).bind λz8=>
 (iR z8.2 (a3.length:Int)).bind λz9=>
 (rH z9.2).bind λbX=>
 (CS a0 a2 a3 a4 a5).bind λb7=>
 (IC a0 a1 a4 z1.1).bind λbH=>
 (qG a2 a3 b7 bH).bind λdk=>
 (mt a0 (⟨#[109,105,120,32,120]⟩:ByteArray) dk).bind λeQ=>
 ((aS (σ:=(List Int)×List Int×List Int×List Int×List Int×List Int×List Int) (λuQ dv=>
 (ix a4 uQ).bind λuC=>
 (nQ eQ.1 (i64.wrap (uC+1)) a0.Q).bind λuq=>
 gd ((dv.2.2.2.2.2.2.length+1)*8<=140737488355328/\dv.2.2.2.2.2.2.length+1<=4611686018427387904)<|
 (J (dv.2.2.2.2.2.2++[uq])).bind λuZ=>
 (ix uZ uQ).bind λuE=>
 (ix z2.1 uQ).bind λCU=>
 (oS a0 a1 uE CU).bind λzY=>
 gd ((dv.2.1.length+1)*8<=140737488355328/\dv.2.1.length+1<=4611686018427387904)<|
 J (.go (dv.1,dv.2.1++[zY],dv.2.2.1,dv.2.2.2.1,dv.2.2.2.2.1,dv.2.2.2.2.2.1,uZ))) (λdv=>(dv.1,dv.2.1,dv.2.2.1,dv.2.2.2.1,dv.2.2.2.2.1,dv.2.2.2.2.2.1,dv.2.2.2.2.2.2)) (a4.length) 0 (bH,[],[],[],[],[],[]):Option ((List Int×List Int×List Int×List Int×List Int×List Int×List Int))).bind λbG=>
 (vj bG.1).bind λxH=>
 gd ((xH.length+bG.2.1.length)*8<=140737488355328/\xH.length+bG.2.1.length<=4611686018427387904)<|
 (qG a2 a3 b7 (xH++bG.2.1)).bind λAb=>
 (Bx a0 Ab).bind λqY=>
 ((aS (σ:=(List Int)×List Int×List Int×List Int×List Int×List Int×List Int×Int×List Int) (λnB cG=>
 (ix a4 nB).bind λpy=>
 (ix bG.2.2.2.2.2.2 nB).bind λNz=>
 (eU a0 (i64.wrap ((i64.wrap ((i64.wrap (qY.1*(i64.wrap (py+1))))+Nz))-qY.2.1))).bind λoA=>
 gd ((cG.2.2.2.2.2.2.1.length+1)*8<=140737488355328/\cG.2.2.2.2.2.2.1.length+1<=4611686018427387904)<|
 (J (cG.2.2.2.2.2.2.1++[oA])).bind λxg=>
 (ix xg nB).bind λmi=>
 (eU a0 (i64.wrap (cG.2.2.2.2.2.2.2.1*mi))).bind λDO=>
 (ix z3.1 nB).bind λjB=>
 (oS a0 a1 DO jB).bind λod=>
 gd ((cG.2.2.1.length+1)*8<=140737488355328/\cG.2.2.1.length+1<=4611686018427387904)<|
 ((if decide (0<nB)=Z then(
 (ix z3.1 (i64.wrap (nB-1))).bind λQ6=>
 (eU a0 (i64.wrap (Q6*mi))).bind λKq=>
 (eU a0 (i64.wrap (jB-Kq))).bind λJP=>
 J JP)else(
 J jB):Option Int).bind λyl=>
 gd ((cG.2.2.2.2.2.2.2.2.length+1)*8<=140737488355328/\cG.2.2.2.2.2.2.2.2.length+1<=4611686018427387904)<|
 J (.go (cG.1,cG.2.1,cG.2.2.1++[od],cG.2.2.2.1,cG.2.2.2.2.1,cG.2.2.2.2.2.1,xg,DO,cG.2.2.2.2.2.2.2.2++[yl])))) (λcG=>(cG.1,cG.2.1,cG.2.2.1,cG.2.2.2.1,cG.2.2.2.2.1,cG.2.2.2.2.2.1,cG.2.2.2.2.2.2.1,cG.2.2.2.2.2.2.2.2)) (a4.length) 0 (bG.1,bG.2.1,bG.2.2.1,bG.2.2.2.1,bG.2.2.2.2.1,bG.2.2.2.2.2.1,[],1,[]):Option ((List Int×List Int×List Int×List Int×List Int×List Int×List Int×List Int))).bind λiE=>
 gd (([a0.G].length+iE.2.2.1.length)*8<=140737488355328/\[a0.G].length+iE.2.2.1.length<=4611686018427387904)<|
 (J ([a0.G]++iE.2.2.1)).bind λT7=>
 ((aS (σ:=(List Int)) (λyH pm=>
 (ix z4.1 yH).bind λQS=>
 (ix z5.1 yH).bind λlO=>
 (oS a0 a1 QS lO).bind λEV=>
 gd ((pm.length+1)*8<=140737488355328/\pm.length+1<=4611686018427387904)<|
 J (.go (pm++[EV]))) (λpm=>pm) (a3.length) 0 []:Option ((List Int))).bind λEu=>
 ((aS (σ:=(List Int)) (λvr pS=>
 (ix T7 vr).bind λPb=>
 (ix z4.1 vr).bind λPf=>
 (ix z6.1 vr).bind λiw=>
 (cP a0 Pb Pf).bind λPL=>
 (cP a0 a1.H iw).bind λIA=>
 (d9 a0 [PL,IA]).bind λTY=>
 gd ((pS.length+1)*8<=140737488355328/\pS.length+1<=4611686018427387904)<|
 J (.go (pS++[TY]))) (λpS=>pS) (a3.length) 0 Eu:Option ((List Int))).bind λFE=>
 (cP a0 a1.H z7.1).bind λY4=>
 gd ((FE.length+1)*8<=140737488355328/\FE.length+1<=4611686018427387904)<|
 ((aS (σ:=(List Int)) (λsT eN=>
 (ix z8.1 sT).bind λAbj=>
 (ix z9.1 sT).bind λLL=>
 (oS a0 a1 Abj LL).bind λAa1=>
 gd ((eN.length+1)*8<=140737488355328/\eN.length+1<=4611686018427387904)<|
 J (.go (eN++[Aa1]))) (λeN=>eN) (a3.length) 0 (FE++[Y4]):Option ((List Int))).bind λBz=>
 (uB b7).bind λOM=>
 (cP a0 a0.G (i64.wrap (0-bX.1))).bind λJ1=>
 (lT a0 OM.1 z8.1).bind λJF=>
 (d9 a0 [J1,JF]).bind λCk=>
 (cP a0 a2 (i64.wrap (0-bX.1))).bind λGX=>
 (lT a0 OM.2 z8.1).bind λJu=>
 (d9 a0 [GX,Ju]).bind λCH=>
 gd ((Bz.length+2)*8<=140737488355328/\Bz.length+2<=4611686018427387904)<|
 (pj [Ab,iE.2.2.1,Bz++[Ck,CH]]).bind λni=>
 (mt a0 (⟨#[109,105,120,32,101,110,100]⟩:ByteArray) ni).bind λve=>
 ((if(!eQ.2)=Z then(
 J Z)else(
 if(!qY.2.2)=Z then(
 J Z)else(
 J (!ve.2))):Option Bool).bind λMn=>
 if Mn=Z then(
 J ((cn.mk [] [] [] (bZ.mk [] [] [])),aa))else(
 ((aS (σ:=(List Int)×List Int×List Int×List Int×List Int) (λiY dj=>
 (ix z4.1 iY).bind λMZ=>
 (ix iE.2.2.2.2.2.2.1 iY).bind λLV=>
 (eU a0 (i64.wrap (MZ+(i64.wrap (ve.1*LV))))).bind λLR=>
 gd ((dj.1.length+1)*8<=140737488355328/\dj.1.length+1<=4611686018427387904)<|
 (ix z5.1 iY).bind λN3=>
 (ix z1.1 iY).bind λNJ=>
 (ix z2.1 iY).bind λE6=>
 (eU a0 (i64.wrap ((i64.wrap (qY.1*NJ))+E6))).bind λL2=>
 (eU a0 (i64.wrap (N3+(i64.wrap (ve.1*L2))))).bind λOn=>
 gd ((dj.2.1.length+1)*8<=140737488355328/\dj.2.1.length+1<=4611686018427387904)<|
 (ix z6.1 iY).bind λMR=>
 (ix iE.2.2.2.2.2.2.2 iY).bind λNF=>
 (eU a0 (i64.wrap (MR+(i64.wrap (ve.1*NF))))).bind λOm=>
 gd ((dj.2.2.1.length+1)*8<=140737488355328/\dj.2.2.1.length+1<=4611686018427387904)<|
 (ix z8.1 iY).bind λNV=>
 (ix bG.2.2.2.2.2.2 iY).bind λCx=>
 (eU a0 (i64.wrap (NV+(i64.wrap (ve.1*Cx))))).bind λLj=>
 gd ((dj.2.2.2.1.length+1)*8<=140737488355328/\dj.2.2.2.1.length+1<=4611686018427387904)<|
 (ix z9.1 iY).bind λTX=>
 (eU a0 (i64.wrap (TX+(i64.wrap (ve.1*E6))))).bind λSw=>
 gd ((dj.2.2.2.2.length+1)*8<=140737488355328/\dj.2.2.2.2.length+1<=4611686018427387904)<|
 J (.go (dj.1++[LR],dj.2.1++[On],dj.2.2.1++[Om],dj.2.2.2.1++[Lj],dj.2.2.2.2++[Sw]))) (λdj=>(dj.1,dj.2.1,dj.2.2.1,dj.2.2.2.1,dj.2.2.2.2)) (a3.length) 0 ([],[],[],[],[]):Option ((List Int×List Int×List Int×List Int×List Int))).bind λrR=>
 (ix z3.1 (i64.wrap ((a3.length:Int)-1))).bind λAbz=>
 (eU a0 (i64.wrap (z7.1+(i64.wrap (ve.1*Abz))))).bind λAbf=>
 (t9 a5 bG.2.2.2.2.2.2 a0.Q).bind λAaZ=>
 (eU a0 (i64.wrap (bX.1+(i64.wrap (ve.1*AaZ))))).bind λAaP=>
 (pj [rR.1,rR.2.1,rR.2.2.1,[Abf],rR.2.2.2.1,rR.2.2.2.2,[AaP]]).bind λAa5=>
 J ((cn.mk iE.1 iE.2.1 iE.2.2.1 (bZ.mk (Bz++[Ck,CH]) [ve.1] Aa5)),Z)))))))))
set_option maxHeartbeats 16000000 in
def zlD{a0 a1 a2 a3 a4 a5 a6 r}(hr:FX a0 a1 a2 a3 a4 a5 a6=J r):ap Tryz.prog 81 [(.sh,vE a0),(.sh,vJ a1),(.sh,.int .i64 a2),(.sh,vH a3),(.sh,vC a4),(.sh,vC a5),(.sh,vC a6)] (Eo (.bO [vM r.1,.bool r.2]) MO):=by
 apply F0 528 [] [358,360,363,490,492,494,506,508,510,522,2107] [60] [.cell 14 35,.tmp 15] hr zMa Tryz.AhN;intro Φ ak hF g;unfold FX at hF;try simp[go_sem,g]
 try intros
 refine bu ?_;try simp[go_sem,g]
 try intros
 refine wK [2,3,4,5,7,8,14,16,17] ?_;refine wC hF [.io,.sh] mC λz1 hF=>?_
 refine wC hF [.io,.sh] mC λz2 hF=>?_
 refine wC hF [.io,.sh] mC λz3 hF=>?_
 refine wC hF [.io,.sh] mC λz4 hF=>?_
 refine wC hF [.io,.sh] mC λz5 hF=>?_
 refine wC hF [.io,.sh] mC λz6 hF=>?_
 refine wK [2,3,4,5,7,8,14,16,17,18,19,20,21,22,23] ?_;refine wC hF [.io] zX λz7 hF=>?_
 refine wW ?_;refine wC hF [.io,.sh] mC λz8 hF=>?_
 refine wC hF [.io,.sh] mC λz9 hF=>?_
 refine wK [2,3,4,5,7,8,14,16,17,18,19,20,21,22,23,24,25,26] ?_;refine wC hF [.io] zX λbX hF=>?_
 refine wW ?_;refine wE hF Qq λb7 hF=>?_
 refine wK [2,3,4,5,7,8,14,16,18,19,20,21,22,23,24,25,26,27,28] ?_;refine wE hF zko λbH hF=>?_
 refine wW ?_;refine wZ (kD 0 [58,0,0,0,233,234,3,3,0,0,0,0,0]) follows ?_;refine wE hF Ez λdk hF=>?_
 refine wE hF wo λeQ hF=>?_
 refine wK [2,3,4,5,7,8,14,16,18,19,20,21,22,23,24,25,26,27,28,29,30,31] ?_
 iterate 2 (try simp[go_sem,g];try intros;refine bu ?_)
 refine bS hF [2,3,4,5,7,8,14,16,18,19,20,21,22,23,24,25,26,27,28,31] (λbG=>[(29,.bl [vD bG.1,vD bG.2.1,vD bG.2.2.1,vD bG.2.2.2.1,vD bG.2.2.2.2.1,vD bG.2.2.2.2.2.1]),(32,.v (vD bG.2.2.2.2.2.2))]) (λbG hF=>?_) λ_ hj0 hF=>?_
 ·refine wZ (kE [0,1,2,3,4,6,7,5,8,9,10] [0,0,0,233,234,233,234,3,0,3,0]) follows ?_;refine wE hF NI λxH hF=>?_
  obtain⟨g,hF⟩:=Rg g hF;refine wE hF Ez λAb hF=>?_
  refine wK [2,4,5,7,8,14,16,18,19,20,21,22,23,24,25,26,27,28,29,31,32,35] ?_;refine wE hF ZU λqY hF=>?_
  refine wK [2,4,5,7,8,14,16,18,19,20,21,22,23,24,25,26,27,28,29,31,32,35,36,37,38] ?_
  iterate 2 (try simp[go_sem,g];try intros;refine bu ?_)
  refine bS hF [2,5,7,8,14,16,18,19,20,21,22,23,24,25,26,27,28,31,32,35,36,38] (λiE=>[(29,.bl [vD iE.1,vD iE.2.1,vD iE.2.2.1,vD iE.2.2.2.1,vD iE.2.2.2.2.1,vD iE.2.2.2.2.2.1]),(39,.v (vD iE.2.2.2.2.2.2.1)),(41,.v (vD iE.2.2.2.2.2.2.2))]) (λiE hF=>?_) λ_ hj0 hF=>?_
  ·obtain⟨g,hF⟩:=Rg g hF;obtain⟨T7,RQ,hF⟩:=mJ hF;have g:=And.intro g (show[.int .i64 a0.G]::(List.map aJ iE.2.2.1)=T7.map aJ by injection RQ with RQ;rw[<-RQ];simp[go_sem]);refine wK [2,5,7,8,14,16,18,19,20,21,22,23,24,25,26,27,28,29,31,32,35,36,38,39,41,45] ?_
   iterate 2 refine wW ?_
   refine bS hF [2,5,7,8,14,16,18,19,20,21,22,23,24,25,26,27,28,29,31,32,35,36,38,39,41,45] (λEu=>[(46,.v (vD Eu))]) (λEu hF=>?_) λ_ hj0 hF=>?_
   ·refine wW ?_;refine bS hF [2,5,7,8,14,16,18,19,20,21,22,23,24,25,26,27,28,29,31,32,35,36,38,39,41] (λFE=>[(46,.v (vD FE))]) (λFE hF=>?_) λ_ hj0 hF=>?_
    ·refine wE hF gN λY4 hF=>?_
     obtain⟨g,hF⟩:=Rg g hF;refine wK [2,5,7,8,14,16,18,19,20,21,22,23,24,25,26,27,28,29,31,32,35,36,38,39,41,46] ?_;refine wW ?_;refine bS hF [2,5,7,14,16,18,19,20,21,22,23,24,25,26,27,28,29,31,32,35,36,38,39,41] (λBz=>[(46,.v (vD Bz))]) (λBz hF=>?_) λ_ hj0 hF=>?_
     ·refine wE hF Dw λOM hF=>?_
      refine wW ?_;refine wZ (kE [0,1,2,3,4,5,6,8,9,10,14,15,16,17,18,20,21,22,7,11,12,13,19,23,24,25,26,27,28,29,30] [0,58,58,57,58,0,0,58,0,0,58,58,0,0,0,58,0,0,3,3,0,6,3,3,0,6,0,5,233,233,234]) follows ?_;refine wE hF gN λJ1 hF=>?_
      refine wE hF vg λJF hF=>?_
      refine wE hF jJ λCk hF=>?_
      refine wE hF gN λGX hF=>?_
      refine wE hF vg λJu hF=>?_
      refine wE hF jJ λCH hF=>?_
      obtain⟨g,hF⟩:=Rg g hF;refine wK [5,7,14,16,18,19,20,21,22,23,24,25,26,27,29,31,32,35,36,38,39,41] ?_;refine wZ (kD 0 [58,0,233,234,233,233,234,0,6,3,0,0,0,0,0]) follows ?_;refine wE hF EA λni hF=>?_
      refine wE hF wo λve hF=>?_
      refine wK [5,7,14,16,18,19,20,21,22,23,24,25,26,27,29,31,32,36,38,39,41,52,53] ?_;refine bS hF [5,7,14,16,18,19,20,21,22,23,24,25,26,27,29,32,36,39,41,52] (λMn=>[(378,.v (.bool Mn))]) (λMn hF=>?_) λ_ hj0 hF=>?_
      ·refine wI hF (λAbK hF=>?_) λAbK hF=>?_
       ·exact wl ak hF
       iterate 3 refine wW ?_
       refine wK [5,7,14,16,18,19,20,21,22,23,24,25,26,27,29,32,36,39,41,52,54,385,386] ?_;refine bS hF [5,7,14,16,20,24,27,29,32,52] (λrR=>[(54,.bl [vD rR.1,vD rR.2.1,vD rR.2.2.1,vD rR.2.2.2.1,vD rR.2.2.2.2])]) (λrR hF=>?_) λ_ hj0 hF=>?_
       ·refine wZ (kE [0,1,2,3,4,5,6,7,8,9,10,11,12,13,14,15,18,19,20,21,22,23,24,25,26,27,28,16,17,29,30,31,32,33,34,35,36,37,38] [433,434,433,434,433,434,58,0,0,0,0,0,0,0,0,0,433,434,433,434,58,0,0,0,0,57,58,3,0,3,0,0,3,0,7,6,233,233,234]) follows ?_;have c0:= @mg;have c1:= @Tn;have c2:= @EA;exact wL
       refine wR hF [5,7,14,16,18,19,20,21,22,23,24,25,26,27,29,32,36,39,41,52,385] (λiY dj=>[(54,.bl [vD dj.1,vD dj.2.1,vD dj.2.2.1,vD dj.2.2.2.1,vD dj.2.2.2.2]),(386,.v (.int .i64 iY))]) λb bg iY dj _ _ aO aN bo ba hF=>?_
       refine wW ?_;refine wu aO aN ?_;refine wW ?_;refine wB ?_;refine wW ?_;refine wZ (kD 0 [433,434,58,0,0,0,0,0,0,0,0,0,0,0,3,0,5,433,434]) follows ?_;obtain⟨MZ,g,hF⟩:=Rx g hF;obtain⟨LV,g,hF⟩:=Rx g hF;refine wE hF mg λLR hF=>?_
       obtain⟨g,hF⟩:=Rg g hF;refine wK [5,7,14,16,18,19,20,21,22,23,24,25,26,27,29,32,36,39,41,52,54,55,385,386] ?_;refine wZ (kD 0 [433,434,58,0,0,0,0,0,58,0,0,0,0,0,0,0,0,0,0,0,4,0,0,3,0,5,433,434]) follows ?_;obtain⟨N3,g,hF⟩:=Rx g hF;obtain⟨NJ,g,hF⟩:=Rx g hF;obtain⟨E6,g,hF⟩:=Rx g hF;refine wD hF mg λL2 hF=>?_
       refine wE hF mg λOn hF=>?_
       obtain⟨g,hF⟩:=Rg g hF;refine wK [5,7,14,16,18,19,20,21,22,23,24,25,26,27,29,32,36,39,41,52,54,55,385,386] ?_;refine wZ (kD 0 [433,434,58,0,0,0,0,0,0,0,0,0,0,0,3,0,5,433,434]) follows ?_;obtain⟨MR,g,hF⟩:=Rx g hF;obtain⟨NF,g,hF⟩:=Rx g hF;refine wE hF mg λOm hF=>?_
       obtain⟨g,hF⟩:=Rg g hF;refine wK [5,7,14,16,18,19,20,21,22,23,24,25,26,27,29,32,36,39,41,52,54,55,385,386] ?_;refine wZ (kD 0 [433,434,58,0,0,0,0,0,0,0,0,0,0,0,3,0,5,433,434]) follows ?_;obtain⟨NV,g,hF⟩:=Rx g hF;obtain⟨Cx,g,hF⟩:=Rx g hF;refine wE hF mg λLj hF=>?_
       obtain⟨g,hF⟩:=Rg g hF;refine wK [5,7,14,16,18,19,20,21,22,23,24,25,26,27,29,32,36,39,41,52,54,55,385,386] ?_;refine wZ (kD 0 [433,434,58,0,0,0,0,0,0,0,0,0,0,0,3,0,5,433,434]) follows ?_;have c0:= @mg;exact wL
      exact wL
     refine wR hF [2,5,7,8,14,16,18,19,20,21,22,23,24,25,26,27,28,29,31,32,35,36,38,39,41,302] (λsT eN=>[(46,.v (vD eN)),(303,.v (.int .i64 sT))]) λb bg sT eN _ _ aO aN bo ba hF=>?_
     refine wW ?_;refine wu aO aN ?_;refine wW ?_;refine wB ?_;refine wW ?_;refine wZ (kD 0 [0,58,66,0,0,0,0,0,0,0,0,3,0,5,0]) follows ?_;have c0:= @Bs;exact wL
    refine wR hF [2,5,7,8,14,16,18,19,20,21,22,23,24,25,26,27,28,29,31,32,35,36,38,39,41,45,265] (λvr pS=>[(46,.v (vD pS)),(266,.v (.int .i64 vr))]) λb bg vr pS _ _ aO aN bo ba hF=>?_
    refine wW ?_;refine wu aO aN ?_;refine wW ?_;refine wB ?_;refine wW ?_;refine wZ (kE [0,1,2,3,4,5,6,7,8,9,10,12,13,14,15,16,17,18,11,19,20,21,22,23,24] [0,58,58,0,0,0,0,0,0,0,0,58,65,66,0,0,0,0,4,3,0,6,0,5,0]) follows ?_;have c0:= @gN;have c1:= @jJ;exact wL
   refine wR hF [2,5,7,8,14,16,18,19,20,21,22,23,24,25,26,27,28,29,31,32,35,36,38,39,41,45,246] (λyH pm=>[(46,.v (vD pm)),(247,.v (.int .i64 yH))]) λb bg yH pm _ _ aO aN bo ba hF=>?_
   refine wW ?_;refine wu aO aN ?_;refine wW ?_;refine wB ?_;refine wW ?_;refine wZ (kD 0 [0,58,66,0,0,0,0,0,0,0,0,3,0,5,0]) follows ?_;have c0:= @Bs;exact wL
  refine wR hF [2,5,7,8,14,16,18,19,20,21,22,23,24,25,26,27,28,31,32,35,36,37,38,165,166] (λnB cG=>[(29,.bl [vD cG.1,vD cG.2.1,vD cG.2.2.1,vD cG.2.2.2.1,vD cG.2.2.2.2.1,vD cG.2.2.2.2.2.1]),(39,.v (vD cG.2.2.2.2.2.2.1)),(40,.v (.int .i64 cG.2.2.2.2.2.2.2.1)),(41,.v (vD cG.2.2.2.2.2.2.2.2)),(167,.v (.int .i64 nB))]) λb bg nB cG _ _ aO aN bo ba hF=>?_
  refine wW ?_;refine wu aO aN ?_;refine wW ?_;refine wB ?_;obtain⟨py,g,hF⟩:=Rx g hF;refine wK [2,5,7,8,14,16,18,19,20,21,22,23,24,25,26,27,28,29,31,32,35,36,37,38,39,40,41,42,43,165,166,167] ?_;refine wZ (kD 0 [0,58,0,0,0,0,0,0,0,0,0,0,0,3,0,5,0]) follows ?_;obtain⟨Nz,g,hF⟩:=Rx g hF;refine wE hF mg λoA hF=>?_
  obtain⟨g,hF⟩:=Rg g hF;refine wK [2,5,7,8,14,16,18,19,20,21,22,23,24,25,26,27,28,29,31,32,35,36,37,38,39,40,41,42,165,166,167] ?_;refine wZ (kD 0 [58,0,0,0,0,0,0,3,0]) follows ?_;obtain⟨xg,Rq,hF⟩:=mJ hF;have g:=And.intro g (show List.map aJ cG.2.2.2.2.2.2.1++[[.int .i64 oA]]=xg.map aJ by injection Rq with Rq;rw[<-Rq];simp[go_sem]);obtain⟨mi,g,hF⟩:=Rx g hF;refine wE hF mg λDO hF=>?_
  refine wW ?_;refine wZ (kD 0 [233,234,58,66,0,0,0,0,0,3,0,5,233,234]) follows ?_;obtain⟨jB,g,hF⟩:=Rx g hF;refine wE hF Bs λod hF=>?_
  obtain⟨g,hF⟩:=Rg g hF;refine wK [2,5,7,8,14,16,18,19,20,21,22,23,24,25,26,27,28,29,31,32,35,36,37,38,39,40,41,42,165,166,167] ?_
  iterate 2 refine wW ?_
  refine bS hF [2,5,7,8,14,16,18,19,20,21,22,23,24,25,26,27,28,29,31,32,35,36,37,38,39,40,41,165,166,167] (λyl=>[(44,.v (.int .i64 yl))]) (λyl hF=>?_) λ_ j6 hF=>?_
  ·exact wL
  refine wI hF (λh98 hF=>?_) λh98 hF=>?_
  ·refine wZ (kD 0 [58,0,0,0,0,58,0,0,0,0,0,0,0,0,0,0,4,0,3,0]) follows ?_;have c0:= @mg;exact wL
  exact wT (j6 _) (eX hF)
 refine wR hF [2,3,4,5,7,8,14,16,18,19,20,21,22,23,24,25,26,27,28,30,31,113,114] (λuQ dv=>[(29,.bl [vD dv.1,vD dv.2.1,vD dv.2.2.1,vD dv.2.2.2.1,vD dv.2.2.2.2.1,vD dv.2.2.2.2.2.1]),(32,.v (vD dv.2.2.2.2.2.2)),(115,.v (.int .i64 uQ))]) λb bg uQ dv _ _ aO aN bo ba hF=>?_
 refine wW ?_;refine wu aO aN ?_;refine wW ?_;refine wB ?_;obtain⟨uC,g,hF⟩:=Rx g hF;refine wK [2,3,4,5,7,8,14,16,18,19,20,21,22,23,24,25,26,27,28,29,30,31,32,33,34,113,114,115] ?_;refine wE hF D9 λuq hF=>?_
 obtain⟨g,hF⟩:=Rg g hF;refine wK [2,3,4,5,7,8,14,16,18,19,20,21,22,23,24,25,26,27,28,29,30,31,32,33,113,114,115] ?_;refine wZ (kD 0 [233,234,58,66,0,0,0,0,0,0,0,0,3,0,5,233,234]) follows ?_;obtain⟨uZ,Pl,hF⟩:=mJ hF;have g:=And.intro g (show List.map aJ dv.2.2.2.2.2.2++[[.int .i64 uq]]=uZ.map aJ by injection Pl with Pl;rw[<-Pl];simp[go_sem]);have c0:= @Bs;exact wL
def rn(a0:am)(a1:Int)(a2:List an)(a3:List Int)(a4:List Int)(a5:List Int):Option (cn×Bool):=
 (yu a0 a1 a2).bind λz1=>
 ((if(!z1.2)=Z then(
 J Z)else(
 (CJ a0 a3 a4 (a2.length:Int)).bind λz6=>
 if(!z6)=Z then(
 J Z)else(
 if((a5.length:Int) !=(i64.wrap ((i64.wrap (8*(a2.length:Int)))+2)))=Z then(
 J Z)else(
 (vf a0 a5).bind λz9=>
 J (!z9)))):Option Bool).bind λx4=>
 if x4=Z then(
 J ((cn.mk [] [] [] (bZ.mk [] [] [])),aa))else(
 (FX a0 z1.1 a1 a2 a3 a4 a5).bind λb7=>
 J (b7.1,b7.2)))
def zoX{a0 a1 a2 a3 a4 a5 r}(hr:rn a0 a1 a2 a3 a4 a5=J r):ap Tryz.prog 34 [(.sh,vE a0),(.sh,.int .i64 a1),(.sh,vH a2),(.sh,vC a3),(.sh,vC a4),(.sh,vC a5)] (Eo (.bO [vM r.1,.bool r.2]) sj):=by
 apply F0 60 [] [51] [] [.cell 12 35,.tmp 13] hr zNw Tryz.Ag8;intro Φ ak hF g;unfold rn at hF;refine wW ?_;refine wE hF Q3 λz1 hF=>?_
 refine wK [1,2,3,4,5,6,12,14,15] ?_;refine bS hF [1,2,3,4,5,6,12,14] (λx4=>[(48,.v (.bool x4))]) (λx4 hF=>?_) λ_ hj0 hF=>?_
 ·have c0:= @zlD;exact wL
 have c0:= @Qg;have c1:= @IB;exact wL
def tC(a0:am)(a1:Int)(a2:List an)(a3:Int)(a4:List Int)(a5:List Int):Option (ec×Bool):=
 (s9 a0 a1 a2).bind λz1=>
 ((if(!z1.2)=Z then(
 J Z)else(
 (Fv a3).bind λz6=>
 if(!z6)=Z then(
 J Z)else(
 (HJ a3 (a2.length:Int)).bind λz8=>
 if((a5.length:Int) !=z8)=Z then(
 J Z)else(
 gd (0<=(a2.length:Int))<|
 gd (0<=a2.length/\a2.length<=a5.length)<|
 (CJ a0 a4 ((a5.take a2.length).drop 0) (a2.length:Int)).bind λbX=>
 J (!bX)))):Option Bool).bind λx4=>
 if x4=Z then(
 J ((ec.mk 0 [] (cF.mk [] [] (bZ.mk [] [] [])) (cn.mk [] [] [] (bZ.mk [] [] []))),aa))else(
 gd (0<=(a2.length:Int))<|
 gd (0<=a2.length/\a2.length<=a5.length)<|
 gd (0<=(a2.length:Int))<|
 gd (a2.length<=a5.length/\a5.length<=a5.length)<|
 (CS a0 a1 a2 a4 ((a5.take a2.length).drop 0)).bind λbH=>
 ((if(a3==1)=Z then(
 (pJ a0 a1 a2 a4 ((a5.take a2.length).drop 0) ((a5.take a5.length).drop a2.length)).bind λgX=>
 J (a3,bH,gX.1.cu,gX.1.aF,gX.1.Pi.aC,gX.1.Pi.aV,gX.1.Pi.aD,[],[],[],[],[],[],gX.2))else(
 (rn a0 a1 a2 a4 ((a5.take a2.length).drop 0) ((a5.take a5.length).drop a2.length)).bind λfM=>
 J (a3,bH,[],[],[],[],[],fM.1.bQ,fM.1.bL,fM.1.aF,fM.1.Pi.aC,fM.1.Pi.aV,fM.1.Pi.aD,fM.2)):Option ((Int×List an×List Int×List Int×List Int×List Int×List Int×List Int×List Int×List Int×List Int×List Int×List Int×Bool))).bind λdi=>
 if(!di.2.2.2.2.2.2.2.2.2.2.2.2.2)=Z then(
 J ((ec.mk 0 [] (cF.mk [] [] (bZ.mk [] [] [])) (cn.mk [] [] [] (bZ.mk [] [] []))),aa))else(
 J ((ec.mk di.1 di.2.1 (cF.mk di.2.2.1 di.2.2.2.1 (bZ.mk di.2.2.2.2.1 di.2.2.2.2.2.1 di.2.2.2.2.2.2.1)) (cn.mk di.2.2.2.2.2.2.2.1 di.2.2.2.2.2.2.2.2.1 di.2.2.2.2.2.2.2.2.2.1 (bZ.mk di.2.2.2.2.2.2.2.2.2.2.1 di.2.2.2.2.2.2.2.2.2.2.2.1 di.2.2.2.2.2.2.2.2.2.2.2.2.1))),Z)))))
def zqh{a0 a1 a2 a3 a4 a5 r}(hr:tC a0 a1 a2 a3 a4 a5=J r):ap Tryz.prog 7 [(.sh,vE a0),(.sh,.int .i64 a1),(.sh,vH a2),(.sh,.int .i64 a3),(.sh,vC a4),(.sh,vC a5)] (Eo (.bO [vN r.1,.bool r.2]) sj):=by
 apply F0 98 [] [] [] [.cell 12 37,.tmp 13] hr cl7 Tryz.AdR;intro Φ ak hF g;unfold tC at hF
 iterate 2 (try simp[go_sem,g];try intros;refine bu ?_)
 try simp[go_sem,g]
 try intros
 refine wE hF L9 λz1 hF=>?_
 refine wK [1,2,3,4,5,6,12,14,16] ?_;refine bS hF [1,2,3,4,5,6,12,14] (λx4=>[(54,.v (.bool x4))]) (λx4 hF=>?_) λ_ hj0 hF=>?_
 ·refine wI hF (λCV hF=>?_) λCV hF=>?_
  ·exact wl ak hF
  refine wW ?_;refine wZ (kD 0 [0,0,0,0,0,0,0,0]) follows ?_
  iterate 4 obtain⟨g,hF⟩:=Rg g hF
  refine wW ?_;refine wE hF Qq λbH hF=>?_
  refine wK [1,2,3,4,6,12,17,18,19] ?_;refine wW ?_;refine wJ hF (λdi=>[(12,.bl [.int .i64 0,.sl Z 2 [],.sl Z 1 [],.sl Z 1 [],.sl Z 1 [],.sl Z 1 [],.sl Z 1 [],.sl Z 1 [],.sl Z 1 [],.sl Z 1 [],.sl Z 1 [],.sl Z 1 [],.sl Z 1 []]),(19,.bl [.int .i64 di.1,vG di.2.1,vC di.2.2.1,vC di.2.2.2.1,vC di.2.2.2.2.1,vC di.2.2.2.2.2.1,vC di.2.2.2.2.2.2.1,vC di.2.2.2.2.2.2.2.1,vC di.2.2.2.2.2.2.2.2.1,vC di.2.2.2.2.2.2.2.2.2.1,vC di.2.2.2.2.2.2.2.2.2.2.1,vC di.2.2.2.2.2.2.2.2.2.2.2.1,vC di.2.2.2.2.2.2.2.2.2.2.2.2.1]),(20,.v (.bool di.2.2.2.2.2.2.2.2.2.2.2.2.2))]) (λdi hF=>?_) λ_ hj0 hF=>?_
  ·exact wL
  refine wI hF (λBi hF=>?_) λBi hF=>?_
  ·refine wE hF znn λgX hF=>?_
   try simp[go_sem,g]
   refine jH 19 7 (by simp[go_sem,g];rfl) rfl (by simp[go_sem]) ?_;refine jH 19 8 (by simp[go_sem,g];rfl) rfl (by simp[go_sem]) ?_;refine jH 19 9 (by simp[go_sem,g];rfl) rfl (by simp[go_sem]) ?_;refine jH 19 10 (by simp[go_sem,g];rfl) rfl (by simp[go_sem]) ?_;refine jH 19 11 (by simp[go_sem,g];rfl) rfl (by simp[go_sem]) ?_;refine jH 19 12 (by simp[go_sem,g];rfl) rfl (by simp[go_sem]) ?_;exact wT (hj0 _) (eX hF)
  refine wE hF zoX λfM hF=>?_
  try simp[go_sem,g]
  refine jH 19 2 (by simp[go_sem,g];rfl) rfl (by simp[go_sem]) ?_;refine jH 19 3 (by simp[go_sem,g];rfl) rfl (by simp[go_sem]) ?_;refine jH 19 4 (by simp[go_sem,g];rfl) rfl (by simp[go_sem]) ?_;refine jH 19 5 (by simp[go_sem,g];rfl) rfl (by simp[go_sem]) ?_;refine jH 19 6 (by simp[go_sem,g];rfl) rfl (by simp[go_sem]) ?_;exact wT (hj0 _) (eX hF)
 refine wZ (kD 0 [0,0,0,0,3,0,0,0,0,0,0,0,3,0,0,0,50,0,0,0,0,0,3,0,0]) follows ?_;have c0:= @WQ;have c1:= @zmt;have c2:= @Qg;exact wL
def An(a0:am):Option Bool:=
 (((oz a0.P 3 2000000000).bind λz4=>
 if z4=Z then(
 (oz a0.Q 2 (i64.wrap (a0.P-1))).bind λz6=>
 if z6=Z then(
 gd (a0.Q≠0)<|
 if(((i64.wrap (a0.P-1)).tmod a0.Q)==0)=Z then(
 (oz a0.G 2 (i64.wrap (a0.P-1))).bind λz9=>
 if z9=Z then(
 (kW a0.G a0.Q a0.P).bind λb7=>
 if(b7==1)=Z then(
 (zy a0.Q).bind λdk=>
 if dk=Z then(
 (zy a0.P).bind λfE=>
 J fE)else(
 J aa))else(
 J aa))else(
 J aa))else(
 J aa))else(
 J aa))else(
 J aa):Option Bool).bind λx3=>
 J x3)
def Ny{a0 r}(hr:An a0=J r):ap Tryz.prog 144 [(.sh,vE a0)] (Eo (.bool r) [.au]):=by
 apply pE [] hr zEB Tryz.Aeh;intro Φ ak hF g;unfold An at hF;refine wW ?_;refine wJ hF (λx3=>[(2,.v (.bool x3))]) (λx3 hF=>?_) λ_ hj0 hF=>?_
 ·exact wm ak hF
 have c0:= @ym;have c1:= @ye;have c2:= @RZ;exact wL
def pW(a0:am)(a1:List Int):Option Bool:=
 ((aS (σ:=Unit) (λi5 s4=>
 (ix a1 i5).bind λaU=>
 (((oz aU 1 (i64.wrap (a0.P-1))).bind λfE=>
 if(!fE)=Z then(
 J Z)else(
 (kW aU a0.Q a0.P).bind λgX=>
 J (gX !=1)):Option Bool).bind λe7=>
 if e7=Z then(
 J (.out (.inr aa)))else(
 J (.go ())))) (λs4=>.inl ()) (a1.length) 0 ():Option (Unit ⊕ Bool)).bind (Sum.elim (λx3=>
 J Z) J))
def Nl{a0 a1 r}(hr:pW a0 a1=J r):ap Tryz.prog 165 [(.sh,vE a0),(.sh,vC a1)] (Eo (.bool r) cI):=by
 apply pE [] hr zHz Tryz.AgM;intro Φ ak hF g;unfold pW at hF
 iterate 2 (try simp[go_sem,g];try intros;refine bu ?_)
 refine wS hF (λx3=>[]) (λx3 hF=>?_) λ_ hj0 dB hF=>?_
 ·exact wl ak hF
 refine wR hF [2,7,8] (λi5 s4=>[(9,.v (.int .i64 i5))]) λb bg i5 s4 _ _ aO aN bo ba hF=>?_
 refine wW ?_;refine wu aO aN ?_;refine wW ?_;refine wB ?_;obtain⟨aU,g,hF⟩:=Rx g hF;refine wW ?_;refine bS hF [2,7,8,9] (λe7=>[(27,.v (.bool e7))]) (λe7 hF=>?_) λ_ j6 hF=>?_
 ·exact wL
 have c0:= @ym;have c1:= @ye;exact wL
def IP(a0:am)(a1:Int):Option Bool:=
 (((An a0).bind λz4=>
 if z4=Z then(
 (pW a0 [a1]).bind λz6=>
 J z6)else(
 J aa):Option Bool).bind λx3=>
 J x3)
def zuy{a0 a1 r}(hr:IP a0 a1=J r):ap Tryz.prog 143 [(.sh,vE a0),(.sh,.int .i64 a1)] (Eo (.bool r) cI):=by
 apply pE [] hr zGw Tryz.AdH;intro Φ ak hF g;unfold IP at hF;refine wW ?_;refine wJ hF (λx3=>[(4,.v (.bool x3))]) (λx3 hF=>?_) λ_ hj0 hF=>?_
 ·exact wm ak hF
 have c0:= @Ny;have c1:= @Nl;exact wL
def F3(a0:am)(a1:List an):Option Bool:=
 if decide (24<(a1.length:Int))=Z then(
 J aa)else(
 ((aS (σ:=Unit) (λi6 s5=>
 (ix a1 i6).bind λdf=>
 (pW a0 [df.A,df.B]).bind λdk=>
 if(!dk)=Z then(
 J (.out (.inr aa)))else(
 J (.go ()))) (λs5=>.inl ()) (a1.length) 0 ():Option (Unit ⊕ Bool)).bind (Sum.elim (λx4=>
 J Z) J)))
def U8{a0 a1 r}(hr:F3 a0 a1=J r):ap Tryz.prog 103 [(.sh,vE a0),(.sh,vH a1)] (Eo (.bool r) cI):=by
 apply pE [] hr zGO Tryz.Ads;intro Φ ak hF g;unfold F3 at hF
 iterate 2 (try simp[go_sem,g];try intros;refine bu ?_)
 refine wI hF (λh1 hF=>?_) λh1 hF=>?_
 ·exact wl ak hF
 iterate 2 (try simp[go_sem,g];try intros;refine bu ?_)
 refine wS hF (λx4=>[]) (λx4 hF=>?_) λ_ hj0 dB hF=>?_
 ·exact wl ak hF
 refine wR hF [2,10,11] (λi6 s5=>[(12,.v (.int .i64 i6))]) λb bg i6 s5 _ _ aO aN bo ba hF=>?_
 have c0:= @Nl;exact wL
def pD(a0:am)(a1:Int)(a2:List an):Option Bool:=
 (((IP a0 a1).bind λz4=>
 if z4=Z then(
 (oz (a2.length:Int) 1 12).bind λz6=>
 if z6=Z then(
 (F3 a0 a2).bind λz8=>
 J z8)else(
 J aa))else(
 J aa):Option Bool).bind λx3=>
 J x3)
def HC{a0 a1 a2 r}(hr:pD a0 a1 a2=J r):ap Tryz.prog 82 [(.sh,vE a0),(.sh,.int .i64 a1),(.sh,vH a2)] (Eo (.bool r) gq):=by
 apply pE [] hr zLS Tryz.AhO;intro Φ ak hF g;unfold pD at hF;refine wW ?_;refine wJ hF (λx3=>[(6,.v (.bool x3))]) (λx3 hF=>?_) λ_ hj0 hF=>?_
 ·exact wm ak hF
 have c0:= @zuy;have c1:= @ym;have c2:= @U8;exact wL
def HP(a0:Int):Option Bool:=
 (oz a0 0 4611686018427387903).bind λz1=>
 J z1
def zp8{a0 r}(hr:HP a0=J r):ap Tryz.prog 181 [(.sh,.int .i64 a0)] (Eo (.bool r) [.au]):=by
 apply pE [] hr zFx Tryz.Agh;intro Φ ak hF g;unfold HP at hF;have c0:= @ym;exact wL
def GF(a0:ByteArray)(a1:List Int):Option ((List Int)):=
 ((dI (σ:=(List Int)×Int) (λs4=>
 if decide (s4.2<(a0.size:Int))=Z then(
 (rN a0 s4.2).bind λer=>
 gd ((s4.1.length+1)*8<=140737488355328/\s4.1.length+1<=4611686018427387904)<|
 J (.go (s4.1++[i64.wrap er],i64.wrap (s4.2+1))))else(
 J (.out s4.1))) ([(a0.size:Int)],0):Option ((List Int))).bind λx3=>
 gd ((x3.length+a1.length)*8<=140737488355328/\x3.length+a1.length<=4611686018427387904)<|
 J (x3++a1))
def zrC{a0 a1 r}(hr:GF a0 a1=J r):ap Tryz.prog 217 [(.sh,.str a0),(.sh,vC a1)] (Eo (vD r) cI):=by
 apply pE [] hr zIa Tryz.AiE;intro Φ ak hF g;unfold GF at hF
 iterate 3 refine wW ?_
 refine wJ hF (λx3=>[(1,.v (vC a1)),(5,.v (vD x3))]) (λx3 hF=>?_) λ_ hj0 hF=>?_
 ·exact wL
 refine wB ?_;obtain⟨KV,xq,bg⟩:=hF;refine jI xq [0,1] (λs4=>[(5,.v (vD s4.1)),(6,.v (.int .i64 s4.2))]) λs4 _ _ bo ba hF=>?_
 exact wL
def DL(aL:Int)(aW:Int)(a1:Int):Option ((Int×Int)):=
 (J [a1.tmod 2147483648,i64.wrap (a1.tdiv 2147483648)]).bind λx1=>
 dI (σ:=(Int×Int)×Int) (λrq=>
 if decide (rq.2<(x1.length:Int))=Z then(
 (ix x1 rq.2).bind λui=>
 J (.go (((i64.wrap ((i64.wrap ((i64.wrap (48271*rq.1.1))+ui))+1)).tmod 2147483647,(i64.wrap ((i64.wrap ((i64.wrap (69621*rq.1.2))+ui))+1)).tmod 2147483647),i64.wrap (rq.2+1))))else(
 J (.out (rq.1.1,rq.1.2)))) ((aL,aW),0)
def Xb{aL aW a1 r}(hr:DL aL aW a1=J r):ap Tryz.prog 218 [(.io,vO aL aW),(.sh,.int .i64 a1)] (Eo (.au) [vO r.1 r.2,.au]):=by
 apply pE [0] hr zHW Tryz.Ah2;intro Φ ak hF g;unfold DL at hF;have g:=Ld g 2147483648;obtain⟨x1,e2,hF⟩:=mJ hF;have g:=And.intro g (show[[.int .i64 (a1.tmod 2147483648)],[.int .i64 (i64.wrap (a1.tdiv 2147483648))]]=x1.map aJ by injection e2 with e2;rw[<-e2];simp[go_sem]);try simp[go_sem,g]
 try intros
 refine bu ?_;refine wB ?_;obtain⟨b17,AbZ,bg⟩:=hF;refine jI AbZ [10,11] (λrq=>[(0,.v (vO rq.1.1 rq.1.2)),(12,.v (.int .i64 rq.2))]) λrq _ _ bo ba hF=>?_
 refine wW ?_;refine wI hF (λT3 hF=>?_) λT3 hF=>?_
 ·refine wW ?_;refine wB ?_;obtain⟨ui,g,hF⟩:=Rx g hF;refine wK [0,5,10,11,12] ?_;have g:=Ld g 2147483647;exact wL
 exact wL
def HG(a0:List Int):Option Int:=
 (DL 1 2 (a0.length:Int)).bind λz1=>
 ((aS (σ:=(Int×Int)) (λxE eZ=>
 (ix a0 xE).bind λuf=>
 (DL eZ.1 eZ.2 uf).bind λkr=>
 J (.go (kr.1,kr.2))) (λeZ=>(eZ.1,eZ.2)) (a0.length) 0 (z1.1,z1.2):Option ((Int×Int))).bind λx4=>
 J (i64.wrap ((i64.wrap (x4.1*2147483648))+x4.2)))
def zti{a0 r}(hr:HG a0=J r):ap Tryz.prog 216 [(.sh,vC a0)] (Eo (.int .i64 r) [.au]):=by
 apply pF 32 [] [] [7] [.tmp 2] hr zFO Tryz.Aho;intro Φ ak hF g;unfold HG at hF
 iterate 2 (try simp[go_sem,g];try intros;refine bu ?_)
 try simp[go_sem,g]
 try intros
 refine wC hF [.io,.sh] Xb λz1 hF=>?_
 try simp[go_sem,g]
 try intros
 refine bu ?_;try simp[go_sem,g]
 try intros
 refine wK [3,12,13,14] ?_;refine wJ hF (λx4=>[(3,.v (vO x4.1 x4.2))]) (λx4 hF=>?_) λ_ hj0 hF=>?_
 ·refine wZ (kD 0 [0,0,0,0,0,0,0,0,0,0,0]) follows ?_;refine wK [2] ?_;exact wm ak hF
 refine wR hF [12,13] (λxE eZ=>[(3,.v (vO eZ.1 eZ.2)),(14,.v (.int .i64 xE))]) λb bg xE eZ _ _ aO aN bo ba hF=>?_
 have ja:= @Xb;exact wL
def EC(a0:ByteArray)(a1:List Int):Option Int:=
 (GF a0 a1).bind λz1=>
 (HG z1).bind λz2=>
 J z2
def Y3{a0 a1 r}(hr:EC a0 a1=J r):ap Tryz.prog 212 [(.sh,.str a0),(.sh,vC a1)] (Eo (.int .i64 r) cI):=by
 apply pE [] hr zHk Tryz.Ahj;intro Φ ak hF g;unfold EC at hF;have c0:= @zrC;have c1:= @zti;exact wL
def yQ(a0:am)(a1:ByteArray)(a2:Int):Option Int:=
 ((dI (σ:=Int) (λs4=>
 if decide (s4<1000)=Z then(
 (EC a1 [a0.P,a0.Q,a0.G,a2,s4]).bind λbX=>
 gd (i64.wrap (a0.P-1)≠0)<|
 gd (a0.Q≠0)<|
 (kW (i64.wrap (1+(bX.tmod (i64.wrap (a0.P-1))))) (i64.wrap ((i64.wrap (a0.P-1)).tdiv a0.Q)) a0.P).bind λb7=>
 if(b7 !=1)=Z then(
 J (.out (.inr b7)))else(
 J (.go (i64.wrap (s4+1)))))else(
 J (.out (.inl ())))) 0:Option (Unit ⊕ Int)).bind (Sum.elim (λx3=>
 J 0) J))
def WP{a0 a1 a2 r}(hr:yQ a0 a1 a2=J r):ap Tryz.prog 182 [(.sh,vE a0),(.sh,.str a1),(.sh,.int .i64 a2)] (Eo (.int .i64 r) gq):=by
 apply pE [] hr zH2 Tryz.Ahz;intro Φ ak hF g;unfold yQ at hF
 iterate 2 refine wW ?_
 refine wS hF (λx3=>[]) (λx3 hF=>?_) λ_ hj0 dB hF=>?_
 ·exact wl ak hF
 refine wB ?_;obtain⟨b13,SU,bg⟩:=hF;refine jI SU [1,2,3] (λs4=>[(7,.v (.int .i64 s4))]) λs4 _ _ bo ba hF=>?_
 refine wW ?_;refine wI hF (λh9 hF=>?_) λh9 hF=>?_
 ·refine wW ?_;refine wB ?_;refine wZ (kE [0,1,2,3,4,5,6,7,8,9,11,12,13,10,14,15,16] [0,25,26,25,26,25,26,0,0,0,25,26,0,6,0,0,0]) follows ?_;refine wE hF Y3 λbX hF=>?_
  obtain⟨g,hF⟩:=Rz g hF;refine wK [1,2,3,7,8] ?_;refine wZ (kD 0 [0,25,26,0,25,26,0,25,26,3,0]) follows ?_;have c0:= @ye;exact wL
 exact wL
def Hb(a0:am)(a1:ByteArray)(a2:Int):Option (Int×Bool):=
 (((An a0).bind λz4=>
 if(!z4)=Z then(
 J Z)else(
 if decide (40<(a1.size:Int))=Z then(
 J Z)else(
 (HP a2).bind λz7=>
 J (!z7))):Option Bool).bind λx3=>
 if x3=Z then(
 J (0,aa))else(
 (yQ a0 a1 a2).bind λz9=>
 J (z9,decide (0<z9))))
def zmS{a0 a1 a2 r}(hr:Hb a0 a1 a2=J r):ap Tryz.prog 145 [(.sh,vE a0),(.sh,.str a1),(.sh,.int .i64 a2)] (Eo (.bO [.int .i64 r.1,.bool r.2]) gq):=by
 apply pE [] hr zEz Tryz.AcX;intro Φ ak hF g;unfold Hb at hF;refine wW ?_;refine bS hF [1,2,3] (λx3=>[(21,.v (.bool x3))]) (λx3 hF=>?_) λ_ hj0 hF=>?_
 ·have c0:= @WP;exact wL
 have c0:= @Ny;have c1:= @zp8;exact wL
def Kj(a0:am)(a1:ByteArray)(a2:Int):Option (List Int×Bool):=
 (((An a0).bind λz4=>
 if(!z4)=Z then(
 J Z)else(
 if decide (40<(a1.size:Int))=Z then(
 J Z)else(
 (oz a2 0 100).bind λz7=>
 J (!z7))):Option Bool).bind λx3=>
 if x3=Z then(
 J ([],aa))else(
 ((dI (σ:=(List Int)×Int) (λti=>
 if decide (ti.2<a2)=Z then(
 (yQ a0 a1 ti.2).bind λfM=>
 if(fM==0)=Z then(
 J (.out (.inr ([],aa))))else(
 gd ((ti.1.length+1)*8<=140737488355328/\ti.1.length+1<=4611686018427387904)<|
 J (.go (ti.1++[fM],i64.wrap (ti.2+1)))))else(
 J (.out (.inl ti.1)))) ([],0):Option ((List Int) ⊕ (List Int×Bool))).bind (Sum.elim (λaU=>
 J (aU,Z)) J))))
def zmb{a0 a1 a2 r}(hr:Kj a0 a1 a2=J r):ap Tryz.prog 146 [(.sh,vE a0),(.sh,.str a1),(.sh,.int .i64 a2)] (Eo (.bO [vD r.1,.bool r.2]) gq):=by
 apply pE [] hr zIk Tryz.Ahg;intro Φ ak hF g;unfold Kj at hF;refine wW ?_;refine bS hF [1,2,3] (λx3=>[(23,.v (.bool x3))]) (λx3 hF=>?_) λ_ hj0 hF=>?_
 ·refine wI hF (λh8 hF=>?_) λh8 hF=>?_
  ·exact wl ak hF
  iterate 3 refine wW ?_
  refine wS hF (λaU=>[(8,.v (vD aU))]) (λaU hF=>?_) λ_ hj0 dB hF=>?_
  ·exact wl ak hF
  refine wB ?_;obtain⟨b20,AbM,bg⟩:=hF;refine jI AbM [1,2,3] (λti=>[(8,.v (vD ti.1)),(9,.v (.int .i64 ti.2))]) λti _ _ bo ba hF=>?_
  have c0:= @WP;exact wL
 have c0:= @Ny;have c1:= @ym;exact wL
def rC(a0:am)(a1:Int):Option (ct×Bool):=
 (((An a0).bind λz4=>
 if(!z4)=Z then(
 J Z)else(
 (oz a1 0 24).bind λz6=>
 J (!z6)):Option Bool).bind λx3=>
 if x3=Z then(
 J ((ct.mk 0 []),aa))else(
 (Hb a0 (⟨#[104]⟩:ByteArray) 0).bind λz8=>
 (Kj a0 (⟨#[104,115]⟩:ByteArray) a1).bind λz9=>
 ((if(!z8.2)=Z then(
 J Z)else(
 J (!z9.2)):Option Bool).bind λdf=>
 if df=Z then(
 J ((ct.mk 0 []),aa))else(
 J ((ct.mk z8.1 z9.1),Z)))))
def Nd{a0 a1 r}(hr:rC a0 a1=J r):ap Tryz.prog 83 [(.sh,vE a0),(.sh,.int .i64 a1)] (Eo (.bO [vI r.1,.bool r.2]) cI):=by
 apply pE [] hr zNg Tryz.Ahb;intro Φ ak hF g;unfold rC at hF;refine wW ?_;refine bS hF [1,2,4] (λx3=>[(17,.v (.bool x3))]) (λx3 hF=>?_) λ_ hj0 hF=>?_
 ·refine wI hF (λh7 hF=>?_) λh7 hF=>?_
  ·exact wl ak hF
  refine wW ?_;refine wE hF zmS λz8 hF=>?_
  refine wK [1,2,4,6,7] ?_;refine wE hF zmb λz9 hF=>?_
  refine wW ?_;refine bS hF [4,6,8] (λdf=>[(35,.v (.bool df))]) (λdf hF=>?_) λ_ hj0 hF=>?_
  ·exact wL
  exact wL
 have c0:= @Ny;have c1:= @ym;exact wL
def th(a0:am)(a1:Int)(a2:List an):Option Bool:=
 (pD a0 a1 a2).bind λz1=>
 if(!z1)=Z then(
 J aa)else(
 (rC a0 (a2.length:Int)).bind λz3=>
 J z3.2)
def zmZ{a0 a1 a2 r}(hr:th a0 a1 a2=J r):ap Tryz.prog 36 [(.sh,vE a0),(.sh,.int .i64 a1),(.sh,vH a2)] (Eo (.bool r) gq):=by
 apply pE [] hr zLn Tryz.Ag2;intro Φ ak hF g;unfold th at hF;have c0:= @HC;have c1:= @Nd;exact wL
def A5(a0:List Int)(a1:Int)(a2:Int):Option Bool:=
 ((aS (σ:=Unit) (λi5 s4=>
 (ix a0 i5).bind λaU=>
 (oz aU a1 a2).bind λbH=>
 if(!bH)=Z then(
 J (.out (.inr aa)))else(
 J (.go ()))) (λs4=>.inl ()) (a0.length) 0 ():Option (Unit ⊕ Bool)).bind (Sum.elim (λx3=>
 J Z) J))
def QV{a0 a1 a2 r}(hr:A5 a0 a1 a2=J r):ap Tryz.prog 84 [(.sh,vC a0),(.sh,.int .i64 a1),(.sh,.int .i64 a2)] (Eo (.bool r) gq):=by
 apply pE [] hr zNC Tryz.AfD;intro Φ ak hF g;unfold A5 at hF
 iterate 2 (try simp[go_sem,g];try intros;refine bu ?_)
 refine wS hF (λx3=>[]) (λx3 hF=>?_) λ_ hj0 dB hF=>?_
 ·exact wl ak hF
 refine wR hF [1,2,9,10] (λi5 s4=>[(11,.v (.int .i64 i5))]) λb bg i5 s4 _ _ aO aN bo ba hF=>?_
 have c0:= @ym;exact wL
def Fc(a0:List Int)(a1:Int):Option Bool:=
 ((aS (σ:=Unit) (λi5 s4=>
 (ix a0 i5).bind λaU=>
 if(aU==a1)=Z then(
 J (.out (.inr Z)))else(
 J (.go ()))) (λs4=>.inl ()) (a0.length) 0 ():Option (Unit ⊕ Bool)).bind (Sum.elim (λx3=>
 J aa) J))
def VS{a0 a1 r}(hr:Fc a0 a1=J r):ap Tryz.prog 147 [(.sh,vC a0),(.sh,.int .i64 a1)] (Eo (.bool r) cI):=by
 apply pE [] hr zGW Tryz.Aiu;intro Φ ak hF g;unfold Fc at hF
 iterate 2 (try simp[go_sem,g];try intros;refine bu ?_)
 refine wS hF (λx3=>[]) (λx3 hF=>?_) λ_ hj0 dB hF=>?_
 ·exact wl ak hF
 refine wR hF [1,7,8] (λi5 s4=>[(9,.v (.int .i64 i5))]) λb bg i5 s4 _ _ aO aN bo ba hF=>?_
 exact wL
def KO(a0:List Int):Option Bool:=
 ((aS (σ:=Unit) (λi5 s4=>
 (ix a0 i5).bind λaU=>
 gd (0<=i5)<|
 gd (0<=i5.toNat/\i5.toNat<=a0.length)<|
 (Fc ((a0.take i5.toNat).drop 0) aU).bind λbH=>
 if bH=Z then(
 J (.out (.inr aa)))else(
 J (.go ()))) (λs4=>.inl ()) (a0.length) 0 ():Option (Unit ⊕ Bool)).bind (Sum.elim (λx3=>
 J Z) J))
def zoA{a0 r}(hr:KO a0=J r):ap Tryz.prog 85 [(.sh,vC a0)] (Eo (.bool r) [.au]):=by
 apply pE [] hr zKK Tryz.AeZ;intro Φ ak hF g;unfold KO at hF
 iterate 2 (try simp[go_sem,g];try intros;refine bu ?_)
 refine wS hF (λx3=>[]) (λx3 hF=>?_) λ_ hj0 dB hF=>?_
 ·exact wl ak hF
 refine wR hF [0,5,6] (λi5 s4=>[(7,.v (.int .i64 i5))]) λb bg i5 s4 _ _ aO aN bo ba hF=>?_
 have c0:= @VS;exact wL
def Ik(a0:List Int):Option Bool:=
 ((if decide ((a0.length:Int)<=24)=Z then(
 (A5 a0 0 (i64.wrap ((a0.length:Int)-1))).bind λz5=>
 if z5=Z then(
 (KO a0).bind λz7=>
 J z7)else(
 J aa))else(
 J aa):Option Bool).bind λx3=>
 J x3)
def zsQ{a0 r}(hr:Ik a0=J r):ap Tryz.prog 37 [(.sh,vC a0)] (Eo (.bool r) [.au]):=by
 apply pE [] hr zMd Tryz.Ahr;intro Φ ak hF g;unfold Ik at hF;refine wW ?_;refine wJ hF (λx3=>[(2,.v (.bool x3))]) (λx3 hF=>?_) λ_ hj0 hF=>?_
 ·exact wm ak hF
 have c0:= @QV;have c1:= @zoA;exact wL
def r6(a0:am)(a1:List Int):Option Bool:=
 (A5 a1 0 (i64.wrap (a0.Q-1))).bind λz1=>
 J z1
def IE{a0 a1 r}(hr:r6 a0 a1=J r):ap Tryz.prog 38 [(.sh,vE a0),(.sh,vC a1)] (Eo (.bool r) cI):=by
 apply pE [] hr zM2 Tryz.AhP;intro Φ ak hF g;unfold r6 at hF;have c0:= @QV;exact wL
def ej(a0:am)(a1:List Int):Option Int:=
 ((aS (σ:=Int) (λi5 s4=>
 (ix a1 i5).bind λaU=>
 gd (a0.P≠0)<|
 J (.go ((i64.wrap (s4*aU)).tmod a0.P))) (λs4=>s4) (a1.length) 0 1:Option Int).bind λx3=>
 J x3)
def hJ{a0 a1 r}(hr:ej a0 a1=J r):ap Tryz.prog 190 [(.sh,vE a0),(.sh,vC a1)] (Eo (.int .i64 r) cI):=by
 apply pE [] hr zE8 Tryz.Agq;intro Φ ak hF g;unfold ej at hF
 iterate 3 (try simp[go_sem,g];try intros;refine bu ?_)
 refine wJ hF (λx3=>[(5,.v (.int .i64 x3))]) (λx3 hF=>?_) λ_ hj0 hF=>?_
 ·exact wl ak hF
 refine wR hF [2,8,9] (λi5 s4=>[(5,.v (.int .i64 s4)),(10,.v (.int .i64 i5))]) λb bg i5 s4 _ _ aO aN bo ba hF=>?_
 exact wL
def IU(a0:am)(a1:Int)(a2:Int)(a3:Int):Option an:=
 (cC a0 a0.G a3).bind λz1=>
 (cC a0 a1 a3).bind λz2=>
 (ej a0 [a2,z2]).bind λz3=>
 J (an.mk z1 z3)
def zun{a0 a1 a2 a3 r}(hr:IU a0 a1 a2 a3=J r):ap Tryz.prog 184 [(.sh,vE a0),(.sh,.int .i64 a1),(.sh,.int .i64 a2),(.sh,.int .i64 a3)] (Eo (vF r) ky):=by
 apply pE [] hr zFZ Tryz.AdD;intro Φ ak hF g;unfold IU at hF;refine wW ?_;refine wZ (kE [0,1,2,3,5,6,7,8,9,4,10,11,12,13,14] [34,33,34,0,34,0,34,0,0,3,3,0,6,0,66]) follows ?_;have c0:= @ft;have c1:= @hJ;exact wL
def Mh(a0:am)(a1:List an):Option an:=
 ((aS (σ:=Int×Int) (λxE eZ=>
 (ix a1 xE).bind λuf=>
 (ej a0 [eZ.1,uf.A]).bind λkr=>
 (ej a0 [eZ.2,uf.B]).bind λyf=>
 J (.go (kr,yf))) (λeZ=>(eZ.1,eZ.2)) (a1.length) 0 (1,1):Option ((Int×Int))).bind λx3=>
 J (an.mk x3.1 x3.2))
def zt9{a0 a1 r}(hr:Mh a0 a1=J r):ap Tryz.prog 183 [(.sh,vE a0),(.sh,vH a1)] (Eo (vF r) cI):=by
 apply pE [] hr zE9 Tryz.Acu;intro Φ ak hF g;unfold Mh at hF
 iterate 3 (try simp[go_sem,g];try intros;refine bu ?_)
 refine wJ hF (λx3=>[(4,.bl [.int .i64 0,.int .i64 0]),(5,.bl [.int .i64 x3.1,.int .i64 x3.2])]) (λx3 hF=>?_) λ_ hj0 hF=>?_
 ·refine wK [4] ?_;exact wm ak hF
 refine wR hF [2,4,9,10] (λxE eZ=>[(5,.bl [.int .i64 eZ.1,.int .i64 eZ.2]),(11,.v (.int .i64 xE))]) λb bg xE eZ _ _ aO aN bo ba hF=>?_
 refine wW ?_;refine wu aO aN ?_;refine wW ?_;refine wB ?_;obtain⟨uf,g,hF⟩:=Rx g hF;refine wK [2,4,5,7,9,10,11] ?_;refine wZ (kE [0,1,2,3,4,5,7,8,9,10,11,12,6,13,14,15] [18,41,42,57,58,0,18,41,42,57,58,0,6,6,0,42]) follows ?_;have c0:= @hJ;exact wL
def ED(a0:am)(a1:Int)(a2:an)(a3:Int):Option an:=
 (IU a0 a1 1 a3).bind λz1=>
 (Mh a0 [a2,z1]).bind λz2=>
 J z2
def zww{a0 a1 a2 a3 r}(hr:ED a0 a1 a2 a3=J r):ap Tryz.prog 148 [(.sh,vE a0),(.sh,.int .i64 a1),(.sh,vF a2),(.sh,.int .i64 a3)] (Eo (vF r) ky):=by
 apply pE [] hr zFB Tryz.AgV;intro Φ ak hF g;unfold ED at hF;refine wW ?_;refine wZ (kD 0 [34,50,34,0,0,3,0,6,66]) follows ?_;have c0:= @zun;have c1:= @zt9;exact wL
def Cc(a0:am)(a1:Int)(a2:List an)(a3:List Int)(a4:List Int):Option ((List an)):=
 ((aS (σ:=(List an)) (λi5 s4=>
 (ix a3 i5).bind λaU=>
 (ix a2 aU).bind λdf=>
 (ix a4 i5).bind λg8=>
 (ED a0 a1 df g8).bind λeQ=>
 gd ((s4.length+1)*16<=140737488355328/\s4.length+1<=4611686018427387904)<|
 J (.go (s4++[eQ]))) (λs4=>s4) (a3.length) 0 []:Option ((List an))).bind λx3=>
 J x3)
def P6{a0 a1 a2 a3 a4 r}(hr:Cc a0 a1 a2 a3 a4=J r):ap Tryz.prog 86 [(.sh,vE a0),(.sh,.int .i64 a1),(.sh,vH a2),(.sh,vC a3),(.sh,vC a4)] (Eo (vG r) rX):=by
 apply pE [] hr zJK Tryz.Agw;intro Φ ak hF g;unfold Cc at hF
 iterate 3 (try simp[go_sem,g];try intros;refine bu ?_)
 refine wJ hF (λx3=>[(11,.v (vG x3))]) (λx3 hF=>?_) λ_ hj0 hF=>?_
 ·exact wl ak hF
 refine wR hF [1,2,4,5,14,15] (λi5 s4=>[(11,.v (vG s4)),(16,.v (.int .i64 i5))]) λb bg i5 s4 _ _ aO aN bo ba hF=>?_
 refine wW ?_;refine wu aO aN ?_;refine wW ?_;refine wB ?_;obtain⟨aU,g,hF⟩:=Rx g hF;refine wK [1,2,4,5,11,12,13,14,15,16] ?_;refine wZ (kD 0 [0,42,0,0,0,0,0,0,0,0,0,3,0,5,0]) follows ?_;have c0:= @zww;exact wL
def Gk(a0:List Int):Option Bool:=
 ((aS (σ:=Unit) (λi5 s4=>
 (ix a0 i5).bind λaU=>
 gd (0<=i5)<|
 gd (0<=i5.toNat/\i5.toNat<=a0.length)<|
 (Fc ((a0.take i5.toNat).drop 0) aU).bind λbH=>
 if bH=Z then(
 J (.out (.inr aa)))else(
 J (.go ()))) (λs4=>.inl ()) (a0.length) 0 ():Option (Unit ⊕ Bool)).bind (Sum.elim (λx3=>
 J Z) J))
def zqy{a0 r}(hr:Gk a0=J r):ap Tryz.prog 185 [(.sh,vC a0)] (Eo (.bool r) [.au]):=by
 apply pE [] hr zGQ Tryz.Ae9;intro Φ ak hF g;unfold Gk at hF
 iterate 2 (try simp[go_sem,g];try intros;refine bu ?_)
 refine wS hF (λx3=>[]) (λx3 hF=>?_) λ_ hj0 dB hF=>?_
 ·exact wl ak hF
 refine wR hF [0,5,6] (λi5 s4=>[(7,.v (.int .i64 i5))]) λb bg i5 s4 _ _ aO aN bo ba hF=>?_
 have c0:= @VS;exact wL
def DT(a0:List Int)(a1:Int):Option Bool:=
 ((if((a0.length:Int)==a1)=Z then(
 (A5 a0 0 (i64.wrap (a1-1))).bind λz5=>
 if z5=Z then(
 (Gk a0).bind λz7=>
 J z7)else(
 J aa))else(
 J aa):Option Bool).bind λx3=>
 J x3)
def UR{a0 a1 r}(hr:DT a0 a1=J r):ap Tryz.prog 149 [(.sh,vC a0),(.sh,.int .i64 a1)] (Eo (.bool r) cI):=by
 apply pE [] hr zEq Tryz.AhU;intro Φ ak hF g;unfold DT at hF;refine wW ?_;refine wJ hF (λx3=>[(4,.v (.bool x3))]) (λx3 hF=>?_) λ_ hj0 hF=>?_
 ·exact wm ak hF
 have c0:= @QV;have c1:= @zqy;exact wL
def IM(a0:am)(a1:ct)(a2:List Int)(a3:List Int):Option ((List Int)):=
 gd (0<=(a2.length:Int)/\(a2.length:Int)<=(a2.length:Int)/\8*(a2.length:Int)<=140737488355328/\(a2.length:Int)<=4611686018427387904)<|
 (J (List.replicate a2.length 0)).bind λx1=>
 ((aS (σ:=(List Int)) (λmz dw=>
 (ix a2 mz).bind λfO=>
 (ix a3 fO).bind λiv=>
 (ix a1.Hs mz).bind λke=>
 (cC a0 a0.G iv).bind λeY=>
 (ej a0 [eY,ke]).bind λgw=>
 (ix dw fO).bind λoG=>
 J (.go (dw.set fO.toNat gw))) (λdw=>dw) (a2.length) 0 x1:Option ((List Int))).bind λx6=>
 J x6)
end
end Go.Pm
