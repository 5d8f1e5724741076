/-
  Plain functions and their walks. Written by wip/tools/lift.py.
-/
import Derived.Test.YtnojafnlicbhpaaGreatPS
open Bool renaming false→aa,true→Z
open Option renaming none→ae,some→J
set_option linter.defProp false
namespace Go.Pm
open Go.Am IntKind
open Go.Proofs
def GA:=@List.map_congr_left
def GB:=@List.map_set
def KF:=@List.length_set
set_option maxRecDepth 100000
set_option maxHeartbeats 4000000
attribute [local irreducible] pw pwx pw1 pwg qv qz qf
attribute [-simp] List.map_set
set_option linter.unusedSimpArgs false
set_option linter.unusedVariables false
noncomputable section
structure am where
 P:Int
 Q:Int
 G:Int
structure an where
 A:Int
 B:Int
structure a2D where
 code:(List Int)
 at_:Int
 dE:Int
structure bZ where
 aC:(List Int)
 aW:(List Int)
 aD:(List Int)
structure cH where
 cu:(List Int)
 aF:(List Int)
 Pi:bZ
structure ck where
 bQ:(List Int)
 bL:(List Int)
 aF:(List Int)
 Pi:bZ
structure en where
 dB:Int
 Out:(List an)
 br:cH
 Poly:ck
structure cr where
 H:Int
 Hs:(List Int)
structure a2C where
 l:(List Int)
structure a2A where
 f0:(List Int)
 f1:(List Int)
 f2:(List Int)
 f3:(List Int)
 f4:(List Int)
structure a2t where
 s:Int
 t:Int
structure a2H where
 l:(List Int)
 ok:Bool
def qt(x:Int):List PV:=[.int .u8 x]
variable{i:Nat}{l:List Int}{x:(List Int)}
@[go_sem] def zIo{x:Int}:qt x=[.int .u8 x]:=(rfl)
@[go_sem] def zuI :List.map (List.map drop∘qt) l=l.map qt:=by refine GA λx _=>?_;simp[go_sem]
@[go_sem] def zCn :List.map (List.map drop) (l.map qt)=l.map qt:=by rw[sG];exact zuI
@[go_sem] def zH4{a:Int}:(l.map qt).set i [.int .u8 a]=(l.set i a).map qt:=by rw[GB];rfl
def aJ(x:Int):List PV:=[.int .i64 x]
@[go_sem] def zF0{x:Int}:aJ x=[.int .i64 x]:=(rfl)
@[go_sem] def ztj :List.map (List.map drop∘aJ) l=l.map aJ:=by refine GA λx _=>?_;simp[go_sem]
@[go_sem] def zCe :List.map (List.map drop) (l.map aJ)=l.map aJ:=by rw[sG];exact ztj
@[go_sem] def zEo{a:Int}:(l.map aJ).set i [.int .i64 a]=(l.set i a).map aJ:=by rw[GB];rfl
def jl(x:an):List PV:=[.int .i64 x.A,.int .i64 x.B]
@[go_sem] def zCi{x:an}:jl x=[.int .i64 x.A,.int .i64 x.B]:=(rfl)
@[go_sem] def zpM{l:List an}:List.map (List.map drop∘jl) l=l.map jl:=by refine GA λx _=>?_;simp[go_sem]
@[go_sem] def zzT{l:List an}:List.map (List.map drop) (l.map jl)=l.map jl:=by rw[sG];exact zpM
@[go_sem] def zBz{l:List an}{A:Int}{B:Int}:(l.map jl).set i [.int .i64 A,.int .i64 B]=(l.set i (an.mk A B)).map jl:=by rw[GB];rfl
def lJ(x:List Int):List PV:=[.sl aa 1 (x.map aJ)]
@[go_sem] def zEe :lJ x=[.sl aa 1 (x.map aJ)]:=(rfl)
@[go_sem] def zrL{l:List (List Int)}:List.map (List.map drop∘lJ) l=l.map lJ:=by refine GA λx _=>?_;simp[go_sem]
@[go_sem] def zBy{l:List (List Int)}:List.map (List.map drop) (l.map lJ)=l.map lJ:=by rw[sG];exact zrL
@[go_sem] def zC6{l:List (List Int)}{a:(List Int)}:(l.map lJ).set i [.sl aa 1 (a.map aJ)]=(l.set i a).map lJ:=by rw[GB];rfl
def tM(x:(List (List Int))):List PV:=[.sl aa 1 (x.map lJ)]
@[go_sem] def zDM{x:(List (List Int))}:tM x=[.sl aa 1 (x.map lJ)]:=(rfl)
@[go_sem] def zq8{l:List (List (List Int))}:List.map (List.map drop∘tM) l=l.map tM:=by refine GA λx _=>?_;simp[go_sem]
@[go_sem] def zAD{l:List (List (List Int))}:List.map (List.map drop) (l.map tM)=l.map tM:=by rw[sG];exact zq8
@[go_sem] def zCg{l:List (List (List Int))}{a:(List (List Int))}:(l.map tM).set i [.sl aa 1 (a.map lJ)]=(l.set i a).map tM:=by rw[GB];rfl
def Cm(x:(List (List Int))):List PV:=[.sl Z 1 (x.map lJ)]
@[go_sem] def zDp{x:(List (List Int))}:Cm x=[.sl Z 1 (x.map lJ)]:=(rfl)
@[go_sem] def zqX{l:List (List (List Int))}:List.map (List.map drop∘Cm) l=l.map tM:=by refine GA λx _=>?_;simp[go_sem]
@[go_sem] def zAA{l:List (List (List Int))}:List.map (List.map drop) (l.map Cm)=l.map tM:=by rw[sG];exact zqX
@[go_sem] def zCf{l:List (List (List Int))}{a:(List (List Int))}:(l.map Cm).set i [.sl Z 1 (a.map lJ)]=(l.set i a).map Cm:=by rw[GB];rfl
def B1(x:List Int):List PV:=[.sl Z 1 (x.map aJ)]
@[go_sem] def zEd :B1 x=[.sl Z 1 (x.map aJ)]:=(rfl)
@[go_sem] def zrM{l:List (List Int)}:List.map (List.map drop∘B1) l=l.map lJ:=by refine GA λx _=>?_;simp[go_sem]
@[go_sem] def zBW{l:List (List Int)}:List.map (List.map drop) (l.map B1)=l.map lJ:=by rw[sG];exact zrM
@[go_sem] def zDI{l:List (List Int)}{a:(List Int)}:(l.map B1).set i [.sl Z 1 (a.map aJ)]=(l.set i a).map B1:=by rw[GB];rfl
def vA(x:List Int):PV:=.sl aa 1 (x.map qt)
@[go_sem] def zVW :vA x=.sl aa 1 (x.map qt):=(rfl)
def vB(x0:List Int)(x1:Int)(x2:Int):PV:=.bx [.sl aa 1 (x0.map qt),.int .i64 x1,.int .u64 x2]
@[go_sem] def zVr{x0:(List Int)}{x1:Int}{x2:Int}:vB x0 x1 x2=.bx [.sl aa 1 (x0.map qt),.int .i64 x1,.int .u64 x2]:=(rfl)
def vC(x:List Int):PV:=.sl aa 1 (x.map aJ)
@[go_sem] def zTQ :vC x=.sl aa 1 (x.map aJ):=(rfl)
def vD(x:List Int):PV:=.sl Z 1 (x.map aJ)
@[go_sem] def zU9 :vD x=.sl Z 1 (x.map aJ):=(rfl)
def vE(x:am):PV:=.agg [.int .i64 x.P,.int .i64 x.Q,.int .i64 x.G]
@[go_sem] def zUb{x:am}:vE x=.agg [.int .i64 x.P,.int .i64 x.Q,.int .i64 x.G]:=(rfl)
def vF(x:an):PV:=.agg [.int .i64 x.A,.int .i64 x.B]
@[go_sem] def zUA{x:an}:vF x=.agg [.int .i64 x.A,.int .i64 x.B]:=(rfl)
def vG(x:List an):PV:=.sl Z 2 (x.map jl)
@[go_sem] def zTC{x:(List an)}:vG x=.sl Z 2 (x.map jl):=(rfl)
def vH(x:List an):PV:=.sl aa 2 (x.map jl)
@[go_sem] def zVd{x:(List an)}:vH x=.sl aa 2 (x.map jl):=(rfl)
def vI(x:cr):PV:=.agg [.int .i64 x.H,.sl Z 1 (x.Hs.map aJ)]
@[go_sem] def zTT{x:cr}:vI x=.agg [.int .i64 x.H,.sl Z 1 (x.Hs.map aJ)]:=(rfl)
def vJ(x:cr):PV:=.agg [.int .i64 x.H,.sl aa 1 (x.Hs.map aJ)]
@[go_sem] def zTA{x:cr}:vJ x=.agg [.int .i64 x.H,.sl aa 1 (x.Hs.map aJ)]:=(rfl)
def vK(x:(List (List Int))):PV:=.sl aa 1 (x.map lJ)
@[go_sem] def zTv{x:(List (List Int))}:vK x=.sl aa 1 (x.map lJ):=(rfl)
def vL(x:cH):PV:=.agg [.sl aa 1 (x.cu.map aJ),.sl aa 1 (x.aF.map aJ),.sl aa 1 (x.Pi.aC.map aJ),.sl aa 1 (x.Pi.aW.map aJ),.sl aa 1 (x.Pi.aD.map aJ)]
@[go_sem] def zUN{x:cH}:vL x=.agg [.sl aa 1 (x.cu.map aJ),.sl aa 1 (x.aF.map aJ),.sl aa 1 (x.Pi.aC.map aJ),.sl aa 1 (x.Pi.aW.map aJ),.sl aa 1 (x.Pi.aD.map aJ)]:=(rfl)
def vM(x:ck):PV:=.agg [.sl aa 1 (x.bQ.map aJ),.sl aa 1 (x.bL.map aJ),.sl aa 1 (x.aF.map aJ),.sl aa 1 (x.Pi.aC.map aJ),.sl aa 1 (x.Pi.aW.map aJ),.sl aa 1 (x.Pi.aD.map aJ)]
@[go_sem] def zUv{x:ck}:vM x=.agg [.sl aa 1 (x.bQ.map aJ),.sl aa 1 (x.bL.map aJ),.sl aa 1 (x.aF.map aJ),.sl aa 1 (x.Pi.aC.map aJ),.sl aa 1 (x.Pi.aW.map aJ),.sl aa 1 (x.Pi.aD.map aJ)]:=(rfl)
def vN(x:en):PV:=.agg [.int .i64 x.dB,.sl aa 2 (x.Out.map jl),.sl aa 1 (x.br.cu.map aJ),.sl aa 1 (x.br.aF.map aJ),.sl aa 1 (x.br.Pi.aC.map aJ),.sl aa 1 (x.br.Pi.aW.map aJ),.sl aa 1 (x.br.Pi.aD.map aJ),.sl aa 1 (x.Poly.bQ.map aJ),.sl aa 1 (x.Poly.bL.map aJ),.sl aa 1 (x.Poly.aF.map aJ),.sl aa 1 (x.Poly.Pi.aC.map aJ),.sl aa 1 (x.Poly.Pi.aW.map aJ),.sl aa 1 (x.Poly.Pi.aD.map aJ)]
@[go_sem] def zTX{x:en}:vN x=.agg [.int .i64 x.dB,.sl aa 2 (x.Out.map jl),.sl aa 1 (x.br.cu.map aJ),.sl aa 1 (x.br.aF.map aJ),.sl aa 1 (x.br.Pi.aC.map aJ),.sl aa 1 (x.br.Pi.aW.map aJ),.sl aa 1 (x.br.Pi.aD.map aJ),.sl aa 1 (x.Poly.bQ.map aJ),.sl aa 1 (x.Poly.bL.map aJ),.sl aa 1 (x.Poly.aF.map aJ),.sl aa 1 (x.Poly.Pi.aC.map aJ),.sl aa 1 (x.Poly.Pi.aW.map aJ),.sl aa 1 (x.Poly.Pi.aD.map aJ)]:=(rfl)
def vO(x0:Int)(x1:Int):PV:=.bx [.int .i64 x0,.int .i64 x1]
@[go_sem] def zT7{x0:Int}{x1:Int}:vO x0 x1=.bx [.int .i64 x0,.int .i64 x1]:=(rfl)
def vP(x:cH):PV:=.agg [.sl Z 1 (x.cu.map aJ),.sl Z 1 (x.aF.map aJ),.sl Z 1 (x.Pi.aC.map aJ),.sl Z 1 (x.Pi.aW.map aJ),.sl Z 1 (x.Pi.aD.map aJ)]
@[go_sem] def zVk{x:cH}:vP x=.agg [.sl Z 1 (x.cu.map aJ),.sl Z 1 (x.aF.map aJ),.sl Z 1 (x.Pi.aC.map aJ),.sl Z 1 (x.Pi.aW.map aJ),.sl Z 1 (x.Pi.aD.map aJ)]:=(rfl)
def vQ(x:ck):PV:=.agg [.sl Z 1 (x.bQ.map aJ),.sl Z 1 (x.bL.map aJ),.sl Z 1 (x.aF.map aJ),.sl Z 1 (x.Pi.aC.map aJ),.sl Z 1 (x.Pi.aW.map aJ),.sl Z 1 (x.Pi.aD.map aJ)]
@[go_sem] def zTM{x:ck}:vQ x=.agg [.sl Z 1 (x.bQ.map aJ),.sl Z 1 (x.bL.map aJ),.sl Z 1 (x.aF.map aJ),.sl Z 1 (x.Pi.aC.map aJ),.sl Z 1 (x.Pi.aW.map aJ),.sl Z 1 (x.Pi.aD.map aJ)]:=(rfl)
def vR(x:en):PV:=.agg [.int .i64 x.dB,.sl Z 2 (x.Out.map jl),.sl Z 1 (x.br.cu.map aJ),.sl Z 1 (x.br.aF.map aJ),.sl Z 1 (x.br.Pi.aC.map aJ),.sl Z 1 (x.br.Pi.aW.map aJ),.sl Z 1 (x.br.Pi.aD.map aJ),.sl Z 1 (x.Poly.bQ.map aJ),.sl Z 1 (x.Poly.bL.map aJ),.sl Z 1 (x.Poly.aF.map aJ),.sl Z 1 (x.Poly.Pi.aC.map aJ),.sl Z 1 (x.Poly.Pi.aW.map aJ),.sl Z 1 (x.Poly.Pi.aD.map aJ)]
@[go_sem] def zUf{x:en}:vR x=.agg [.int .i64 x.dB,.sl Z 2 (x.Out.map jl),.sl Z 1 (x.br.cu.map aJ),.sl Z 1 (x.br.aF.map aJ),.sl Z 1 (x.br.Pi.aC.map aJ),.sl Z 1 (x.br.Pi.aW.map aJ),.sl Z 1 (x.br.Pi.aD.map aJ),.sl Z 1 (x.Poly.bQ.map aJ),.sl Z 1 (x.Poly.bL.map aJ),.sl Z 1 (x.Poly.aF.map aJ),.sl Z 1 (x.Poly.Pi.aC.map aJ),.sl Z 1 (x.Poly.Pi.aW.map aJ),.sl Z 1 (x.Poly.Pi.aD.map aJ)]:=(rfl)
def vS(x:bZ):PV:=.agg [.sl aa 1 (x.aC.map aJ),.sl aa 1 (x.aW.map aJ),.sl aa 1 (x.aD.map aJ)]
@[go_sem] def zUc{x:bZ}:vS x=.agg [.sl aa 1 (x.aC.map aJ),.sl aa 1 (x.aW.map aJ),.sl aa 1 (x.aD.map aJ)]:=(rfl)
def vT(x:(List (List Int))):PV:=.sl Z 1 (x.map lJ)
@[go_sem] def zTD{x:(List (List Int))}:vT x=.sl Z 1 (x.map lJ):=(rfl)
def vU(x:(List (List (List Int)))):PV:=.sl aa 1 (x.map tM)
@[go_sem] def zTS{x:(List (List (List Int)))}:vU x=.sl aa 1 (x.map tM):=(rfl)
def vV(x:(List (List (List Int)))):PV:=.sl Z 1 (x.map Cm)
@[go_sem] def zVO{x:(List (List (List Int)))}:vV x=.sl Z 1 (x.map Cm):=(rfl)
def vW(x0:List Int)(x1:Bool):PV:=.bx [.sl aa 1 (x0.map aJ),.bool x1]
@[go_sem] def zT6{x0:(List Int)}{x1:Bool}:vW x0 x1=.bx [.sl aa 1 (x0.map aJ),.bool x1]:=(rfl)
def vX(x:(List (List Int))):PV:=.sl Z 1 (x.map B1)
@[go_sem] def zVK{x:(List (List Int))}:vX x=.sl Z 1 (x.map B1):=(rfl)
def vY(x:bZ):PV:=.agg [.sl Z 1 (x.aC.map aJ),.sl Z 1 (x.aW.map aJ),.sl Z 1 (x.aD.map aJ)]
@[go_sem] def zTo{x:bZ}:vY x=.agg [.sl Z 1 (x.aC.map aJ),.sl Z 1 (x.aW.map aJ),.sl Z 1 (x.aD.map aJ)]:=(rfl)
def vZ(x:en):PV:=.agg [.int .i64 x.dB,.sl Z 2 (x.Out.map jl),.sl aa 1 (x.br.cu.map aJ),.sl aa 1 (x.br.aF.map aJ),.sl aa 1 (x.br.Pi.aC.map aJ),.sl aa 1 (x.br.Pi.aW.map aJ),.sl aa 1 (x.br.Pi.aD.map aJ),.sl aa 1 (x.Poly.bQ.map aJ),.sl aa 1 (x.Poly.bL.map aJ),.sl aa 1 (x.Poly.aF.map aJ),.sl aa 1 (x.Poly.Pi.aC.map aJ),.sl aa 1 (x.Poly.Pi.aW.map aJ),.sl aa 1 (x.Poly.Pi.aD.map aJ)]
@[go_sem] def zVM{x:en}:vZ x=.agg [.int .i64 x.dB,.sl Z 2 (x.Out.map jl),.sl aa 1 (x.br.cu.map aJ),.sl aa 1 (x.br.aF.map aJ),.sl aa 1 (x.br.Pi.aC.map aJ),.sl aa 1 (x.br.Pi.aW.map aJ),.sl aa 1 (x.br.Pi.aD.map aJ),.sl aa 1 (x.Poly.bQ.map aJ),.sl aa 1 (x.Poly.bL.map aJ),.sl aa 1 (x.Poly.aF.map aJ),.sl aa 1 (x.Poly.Pi.aC.map aJ),.sl aa 1 (x.Poly.Pi.aW.map aJ),.sl aa 1 (x.Poly.Pi.aD.map aJ)]:=(rfl)
def Ln(a0:List Int)(a1:List Int):Option Bool:=
 ((if decide (1048576<(a0.length:Int))=Z then(
 J Z)else(
 J (decide ((i64.wrap (1048576-(a0.length:Int)))<(a1.length:Int)))):Option Bool).bind λx3=>
 J x3)
def zwb{a0 a1 r}(hr:Ln a0 a1=J r):ap Tryz.prog 5 [(.sh,vA a0),(.sh,vA a1)] (Eo (.bool r) cI):=by
 apply pE [] hr cl5 Tryz.func5;intro Φ ak hF g;unfold Ln at hF;refine wW ?_;refine wJ hF (λx3=>[(4,.v (.bool x3))]) (λx3 hF=>?_) λ_ hj0 hF=>?_
 ·exact wm ak hF
 exact wL
def Gr(aL:List Int)(aV:Int)(bo:Int):Option (Int×(List Int×Int×Int)):=
 ((if decide (aV<(aL.length:Int))=Z then(
 (ix aL aV).bind λx5=>
 J (i64.wrap x5))else(
 J 0):Option Int).bind λx3=>
 if decide ((i64.wrap (aV+1))<=(aL.length:Int))=Z then(
 J (x3,(aL,i64.wrap (aV+1),u64.wrap ((u64.wrap ((u64.wrap (bo*6364136223846793005))+(u64.wrap x3)))+1442695040888963407))))else(
 J (i64.wrap (u64.wrap ((BitVec.ofInt u64.bits ((u64.wrap ((u64.wrap ((u64.wrap (bo*6364136223846793005))+(u64.wrap x3)))+1442695040888963407)).fdiv 1099511627776)&&&BitVec.ofInt u64.bits 255).toNat)),(aL,i64.wrap (aV+1),u64.wrap ((u64.wrap ((u64.wrap (bo*6364136223846793005))+(u64.wrap x3)))+1442695040888963407)))))
def Zg{aL aV bo r}(hr:Gr aL aV bo=J r):ap Tryz.prog 113 [(.io,vB aL aV bo)] (Eo (.int .i64 r.1) [vB r.2.1 r.2.2.1 r.2.2.2]):=by
 apply pE [0] hr zFZ Tryz.func113;intro Φ ak hF g;unfold Gr at hF
 iterate 2 refine wW ?_
 refine wZ (kD 0 [0,0,0,0,0,0,0,0,0,0]) follows ?_;try simp[go_sem,g]
 try intros
 refine wK [0,3,13] ?_;refine wJ hF (λx3=>[(0,.v (vB aL aV bo)),(3,.v (.int .i64 x3))]) (λx3 hF=>?_) λ_ hj0 hF=>?_
 ·refine wW ?_;refine wK [0,3] ?_;refine wZ (kD 0 [0,0,0,0,0,0,0,0,0,0]) follows ?_;try simp[go_sem,g]
  try intros
  refine wK [0,3,53] ?_;refine wI hF (λh6 hF=>?_) λh6 hF=>?_
  ·exact wl ak hF
  have g:=Ls g 40;exact wL
 refine wI hF (λh4 hF=>?_) λh4 hF=>?_
 ·refine wZ (kD 0 [0,0,0,0,0,0,0,0,0,0,0,0]) follows ?_;exact wL
 exact wT (hj0 _) (eZ hF)
def gJ(aL:List Int)(aV:Int)(bo:Int)(a1:Int):Option (Int×(List Int×Int×Int)):=
 if decide (a1<=1)=Z then(
 J (0,(aL,aV,bo)))else(
 (Gr aL aV bo).bind λz2=>
 ((if decide (200<a1)=Z then(
 (Gr z2.2.1 z2.2.2.1 z2.2.2.2).bind λz7=>
 J ((z7.2.1,z7.2.2.1,z7.2.2.2),i64.wrap ((i64.wrap (z2.1*256))+z7.1)))else(
 J ((z2.2.1,z2.2.2.1,z2.2.2.2),z2.1)):Option (((List Int×Int×Int)×Int))).bind λx5=>
 gd (a1≠0)<|
 J (x5.2.tmod a1,(x5.1.1,x5.1.2.1,x5.1.2.2))))
def ka{aL aV bo a1 r}(hr:gJ aL aV bo a1=J r):ap Tryz.prog 59 [(.io,vB aL aV bo),(.sh,.int .i64 a1)] (Eo (.int .i64 r.1) [vB r.2.1 r.2.2.1 r.2.2.2,.au]):=by
 apply pE [0] hr zK3 Tryz.func59;intro Φ ak hF g;unfold gJ at hF
 iterate 2 refine wW ?_
 refine wI hF (λh1 hF=>?_) λh1 hF=>?_
 ·exact wl ak hF
 refine wW ?_;refine wC hF [.io] Zg λz2 hF=>?_
 iterate 2 refine wW ?_
 refine wJ hF (λx5=>[(0,.v (vB x5.1.1 x5.1.2.1 x5.1.2.2)),(1,.v (.int .i64 a1)),(5,.v (.int .i64 x5.2))]) (λx5 hF=>?_) λ_ hj0 hF=>?_
 ·exact wL
 have AQ:= @Zg;exact wL
def Vp(aL:List Int)(aV:Int)(bo:Int)(a1:List Int):Option (Int×(List Int×Int×Int)):=
 (gJ aL aV bo (a1.length:Int)).bind λz1=>
 (ix a1 z1.1).bind λx2=>
 J (x2,(z1.2.1,z1.2.2.1,z1.2.2.2))
def zt6{aL aV bo a1 r}(hr:Vp aL aV bo a1=J r):ap Tryz.prog 73 [(.io,vB aL aV bo),(.sh,vC a1)] (Eo (.int .i64 r.1) [vB r.2.1 r.2.2.1 r.2.2.2,.au]):=by
 apply pE [0] hr YD Tryz.func73;intro Φ ak hF g;unfold Vp at hF;have jc:= @ka;exact wL
def pI(aL:List Int)(aV:Int)(bo:Int)(a1:List Int):Option (Int×(List Int×Int×Int)):=
 (gJ aL aV bo (a1.length:Int)).bind λz1=>
 (ix a1 z1.1).bind λx2=>
 J (x2,(z1.2.1,z1.2.2.1,z1.2.2.2))
def AS{aL aV bo a1 r}(hr:pI aL aV bo a1=J r):ap Tryz.prog 73 [(.io,vB aL aV bo),(.mv,vD a1)] (Eo (.int .i64 r.1) [vB r.2.1 r.2.2.1 r.2.2.2,.au]):=by
 apply pE [0] hr YD Tryz.func73;intro Φ ak hF g;unfold pI at hF;have jc:= @ka;exact wL
def oi(a0:Int)(a1:Int)(a2:Int):Option Bool:=
 ((if decide (a1<=a0)=Z then(
 J (decide (a0<=a2)))else(
 J aa):Option Bool).bind λx3=>
 J x3)
def wX{a0 a1 a2 r}(hr:oi a0 a1 a2=J r):ap Tryz.prog 66 [(.sh,.int .i64 a0),(.sh,.int .i64 a1),(.sh,.int .i64 a2)] (Eo (.bool r) gx):=by
 apply pE [] hr zJ0 Tryz.func66;intro Φ ak hF g;unfold oi at hF;refine wW ?_;refine wJ hF (λx3=>[(6,.v (.bool x3))]) (λx3 hF=>?_) λ_ hj0 hF=>?_
 ·exact wm ak hF
 exact wL
def zN(a0:Int):Option Bool:=
 if decide (a0<2)=Z then(
 J aa)else(
 ((dJ (σ:=Int) (λs5=>
 if decide ((i64.wrap (s5*s5))<=a0)=Z then(
 gd (s5≠0)<|
 if((a0.tmod s5)==0)=Z then(
 J (.out (.inr aa)))else(
 J (.go (i64.wrap (s5+1)))))else(
 J (.out (.inl ())))) 2:Option (Unit ⊕ Bool)).bind (Sum.elim (λx4=>
 J Z) J)))
def S6{a0 r}(hr:zN a0=J r):ap Tryz.prog 180 [(.sh,.int .i64 a0)] (Eo (.bool r) [.au]):=by
 apply pE [] hr zHm Tryz.func180;intro Φ ak hF g;unfold zN at hF
 iterate 2 refine wW ?_
 refine wI hF (λh1 hF=>?_) λh1 hF=>?_
 ·exact wl ak hF
 iterate 2 refine wW ?_
 refine wS hF (λx4=>[]) (λx4 hF=>?_) λ_ hj0 dD hF=>?_
 ·exact wl ak hF
 refine wB ?_;obtain⟨b12,Si,bg⟩:=hF;refine pL Si (λs5=>[(0,.v (.int .i64 a0)),(3,.v (.int .i64 s5))]) λs5 _ _ bp ba hF=>?_
 exact wL
def k9(a0:Int)(a1:Int)(a2:Int):Option Int:=
 gd (a2≠0)<|
 ((dJ (σ:=Int×Int×Int) (λs4=>
 if decide (0<s4.2.1)=Z then(
 ((if((s4.2.1.tmod 2)==1)=Z then(
 gd (a2≠0)<|
 J ((i64.wrap (s4.2.2*s4.1)).tmod a2))else(
 J s4.2.2):Option Int).bind λcY=>
 gd (a2≠0)<|
 J (.go ((i64.wrap (s4.1*s4.1)).tmod a2,i64.wrap (s4.2.1.tdiv 2),cY))))else(
 J (.out s4.2.2))) (a0,a1,(1:Int).tmod a2):Option Int).bind λx3=>
 J x3)
def xU{a0 a1 a2 r}(hr:k9 a0 a1 a2=J r):ap Tryz.prog 179 [(.sh,.int .i64 a0),(.sh,.int .i64 a1),(.sh,.int .i64 a2)] (Eo (.int .i64 r) gx):=by
 apply pE [] hr zGB Tryz.func179;intro Φ ak hF g;unfold k9 at hF;obtain⟨g,hF⟩:=Rz g hF
 iterate 2 refine wW ?_
 refine wJ hF (λx3=>[(7,.v (.int .i64 x3))]) (λx3 hF=>?_) λ_ hj0 hF=>?_
 ·exact wl ak hF
 refine wB ?_;obtain⟨b14,Jy,bg⟩:=hF;refine pL Jy (λs4=>[(0,.v (.int .i64 s4.1)),(1,.v (.int .i64 s4.2.1)),(2,.v (.int .i64 a2)),(7,.v (.int .i64 s4.2.2))]) λs4 _ _ bp ba hF=>?_
 refine wW ?_;refine wI hF (λh9 hF=>?_) λh9 hF=>?_
 ·refine wW ?_;refine wB ?_;have g:=Ld g 2;refine wW ?_;refine bT hF [0,1,2] (λcY=>[(7,.v (.int .i64 cY))]) (λcY hF=>?_) λ_ kg hF=>?_
  ·exact wL
  exact wL
 exact wL
def uM(a0:Int):Option (am×Bool):=
 (((oi a0 2 1000000).bind λz4=>
 if(!z4)=Z then(
 J Z)else(
 (zN a0).bind λz6=>
 J (!z6)):Option Bool).bind λx3=>
 if x3=Z then(
 J ((am.mk 0 0 0),aa))else(
 ((dJ (σ:=Int) (λcJ=>
 if decide (cJ<=2000000000)=Z then(
 (zN cJ).bind λhO=>
 if(!hO)=Z then(
 J (.go (i64.wrap (cJ+a0))))else(
 ((dJ (σ:=Int) (λFm=>
 gd (a0≠0)<|
 (k9 Fm (i64.wrap ((i64.wrap (cJ-1)).tdiv a0)) cJ).bind λnm=>
 if(nm==1)=Z then(
 J (.go (i64.wrap (Fm+1))))else(
 J (.out Fm))) 2:Option Int).bind λv6=>
 gd (a0≠0)<|
 (k9 v6 (i64.wrap ((i64.wrap (cJ-1)).tdiv a0)) cJ).bind λgp=>
 J (.out (.inr ((am.mk cJ a0 gp),Z))))))else(
 J (.out (.inl ())))) (i64.wrap (a0+1)):Option (Unit ⊕ (am×Bool))).bind (Sum.elim (λer=>
 J ((am.mk 0 0 0),aa)) J))))
def Xu{a0 r}(hr:uM a0=J r):ap Tryz.prog 169 [(.sh,.int .i64 a0)] (Eo (.bO [vE r.1,.bool r.2]) [.au]):=by
 apply pE [] hr zHP Tryz.func169;intro Φ ak hF g;unfold uM at hF;refine wW ?_;refine bT hF [0,2] (λx3=>[(13,.v (.bool x3))]) (λx3 hF=>?_) λ_ hj0 hF=>?_
 ·refine wI hF (λh7 hF=>?_) λh7 hF=>?_
  ·exact wl ak hF
  iterate 2 refine wW ?_
  refine wS hF (λer=>[(2,.bl [.int .i64 0,.int .i64 0,.int .i64 0])]) (λer hF=>?_) λ_ hj0 dD hF=>?_
  ·exact wl ak hF
  refine wB ?_;obtain⟨b32,Ro,bg⟩:=hF;refine jQ Ro [0,2] (λcJ=>[(4,.v (.int .i64 cJ))]) λcJ _ _ bp ba hF=>?_
  refine wW ?_;refine wI hF (λCP hF=>?_) λCP hF=>?_
  ·refine wW ?_;refine wB ?_;refine wE hF S6 λhO hF=>?_
   refine wK [0,2,4,24] ?_;refine wI hF (λRU hF=>?_) λRU hF=>?_
   ·exact wL
   iterate 2 refine wW ?_
   refine bT hF [0,2,4] (λv6=>[(5,.v (.int .i64 v6))]) (λv6 hF=>?_) λ_ kg hF=>?_
   ·have c0:= @xU;exact wL
   refine wB ?_;obtain⟨b29,a1h,MS⟩:=hF;refine jQ a1h [0,2,4] (λFm=>[(5,.v (.int .i64 Fm))]) λFm _ _ Tp qw hF=>?_
   have c0:= @xU;exact wL
  exact wL
 have c0:= @wX;have c1:= @S6;exact wL
def FM(aL:List Int)(aV:Int)(bo:Int):Option (am×(List Int×Int×Int)):=
 (pI aL aV bo [3,5,5,7,11,11,13,23]).bind λz1=>
 (uM z1.1).bind λz2=>
 J (z2.1,(z1.2.1,z1.2.2.1,z1.2.2.2))
def zlN{aL aV bo r}(hr:FM aL aV bo=J r):ap Tryz.prog 170 [(.io,vB aL aV bo)] (Eo (vE r.1) [vB r.2.1 r.2.2.1 r.2.2.2]):=by
 apply pE [0] hr zEx Tryz.func170;intro Φ ak hF g;unfold FM at hF;have xd:= @AS;have c0:= @Xu;exact wL
def qr(a0:Int)(a1:Int):Option Int:=
 gd (a1≠0)<|
 gd (a1≠0)<|
 J ((i64.wrap ((a0.tmod a1)+a1)).tmod a1)
def Km{a0 a1 r}(hr:qr a0 a1=J r):ap Tryz.prog 173 [(.sh,.int .i64 a0),(.sh,.int .i64 a1)] (Eo (.int .i64 r) cI):=by
 apply pE [] hr zG1 Tryz.func173;intro Φ ak hF g;unfold qr at hF;exact wL
def cD(a0:am)(a1:Int)(a2:Int):Option Int:=
 (qr a2 a0.Q).bind λz1=>
 (k9 a1 z1 a0.P).bind λz2=>
 J z2
def fm{a0 a1 a2 r}(hr:cD a0 a1 a2=J r):ap Tryz.prog 171 [(.sh,vE a0),(.sh,.int .i64 a1),(.sh,.int .i64 a2)] (Eo (.int .i64 r) gx):=by
 apply pE [] hr zGG Tryz.func171;intro Φ ak hF g;unfold cD at hF;refine wW ?_;refine wZ (kE [0,1,2,3,5,6,4,7,8] [0,0,25,26,25,26,3,3,0]) follows ?_;have c0:= @Km;have c1:= @xU;exact wL
def y8(aL:List Int)(aV:Int)(bo:Int):Option (am×(List Int×Int×Int)):=
 (gJ aL aV bo 6).bind λz1=>
 if(z1.1==0)=Z then(
 J ((am.mk 1000000007 500000003 4),(z1.2.1,z1.2.2.1,z1.2.2.2)))else(
 if(z1.1==1)=Z then(
 (pI z1.2.1 z1.2.2.1 z1.2.2.2 [101,1009,1019,65537,999983]).bind λz4=>
 (uM z4.1).bind λz5=>
 J (z5.1,(z4.2.1,z4.2.2.1,z4.2.2.2)))else(
 (FM z1.2.1 z1.2.2.1 z1.2.2.2).bind λz6=>
 (gJ z6.2.1 z6.2.2.1 z6.2.2.2 (i64.wrap (z6.1.Q-1))).bind λz7=>
 (cD z6.1 z6.1.G (i64.wrap (1+z7.1))).bind λz8=>
 J ((am.mk z6.1.P z6.1.Q z8),(z7.2.1,z7.2.2.1,z7.2.2.2))))
def zif{aL aV bo r}(hr:y8 aL aV bo=J r):ap Tryz.prog 108 [(.io,vB aL aV bo)] (Eo (vE r.1) [vB r.2.1 r.2.2.1 r.2.2.2]):=by
 apply pE [0] hr zHb Tryz.func108;intro Φ ak hF g;unfold y8 at hF;refine wW ?_;refine wC hF [.io,.sh] ka λz1 hF=>?_
 refine wW ?_;refine wB ?_;refine wW ?_;refine wI hF (λh2 hF=>?_) λh2 hF=>?_
 ·exact wl ak hF
 refine wW ?_;refine wI hF (λh3 hF=>?_) λh3 hF=>?_
 ·have xd:= @AS;have c0:= @Xu;exact wL
 refine wW ?_;refine wC hF [.io] zlN λz6 hF=>?_
 refine wK [0,2,5] ?_;refine wZ (kD 0 [42,41,42,0,41,42,0,3,0,3,41,42]) follows ?_;have jc:= @ka;have c0:= @fm;exact wL
def yU(aL:List Int)(aV:Int)(bo:Int)(a1:Int):Option (Bool×(List Int×Int×Int)):=
 (gJ aL aV bo a1).bind λz1=>
 J ((z1.1==0),(z1.2.1,z1.2.2.1,z1.2.2.2))
def MG{aL aV bo a1 r}(hr:yU aL aV bo a1=J r):ap Tryz.prog 61 [(.io,vB aL aV bo),(.sh,.int .i64 a1)] (Eo (.bool r.1) [vB r.2.1 r.2.2.1 r.2.2.2,.au]):=by
 apply pE [0] hr zLE Tryz.func61;intro Φ ak hF g;unfold yU at hF;have jc:= @ka;exact wL
def CL(aL:List Int)(aV:Int)(bo:Int):Option (am×(List Int×Int×Int)):=
 (y8 aL aV bo).bind λz1=>
 (gJ z1.2.1 z1.2.2.1 z1.2.2.2 24).bind λz2=>
 ((if(z2.1==0)=Z then(
 (pI z2.2.1 z2.2.2.1 z2.2.2.2 [0,i64.wrap (z1.1.P+2),4,(-7)]).bind λz7=>
 J ((z7.2.1,z7.2.2.1,z7.2.2.2),z7.1,z1.1.Q,z1.1.G))else(
 if(z2.1==1)=Z then(
 (pI z2.2.1 z2.2.2.1 z2.2.2.2 [0,1,i64.wrap (z1.1.Q+1),i64.wrap (z1.1.P-1)]).bind λz9=>
 J ((z9.2.1,z9.2.2.1,z9.2.2.2),z1.1.P,z9.1,z1.1.G))else(
 if(z2.1==2)=Z then(
 (pI z2.2.1 z2.2.2.1 z2.2.2.2 [0,1,i64.wrap (z1.1.P-1),z1.1.P,i64.wrap (z1.1.G+1)]).bind λb7=>
 J ((b7.2.1,b7.2.2.1,b7.2.2.2),z1.1.P,z1.1.Q,b7.1))else(
 J ((z2.2.1,z2.2.2.1,z2.2.2.2),z1.1.P,z1.1.Q,z1.1.G)))):Option (((List Int×Int×Int)×Int×Int×Int))).bind λx5=>
 J ((am.mk x5.2.1 x5.2.2.1 x5.2.2.2),(x5.1.1,x5.1.2.1,x5.1.2.2)))
def zj9{aL aV bo r}(hr:CL aL aV bo=J r):ap Tryz.prog 109 [(.io,vB aL aV bo)] (Eo (vE r.1) [vB r.2.1 r.2.2.1 r.2.2.2]):=by
 apply pE [0] hr zER Tryz.func109;intro Φ ak hF g;unfold CL at hF;refine wW ?_;refine wC hF [.io] zif λz1 hF=>?_
 refine wW ?_;refine wC hF [.io,.sh] ka λz2 hF=>?_
 refine wW ?_;refine wJ hF (λx5=>[(0,.v (vB x5.1.1 x5.1.2.1 x5.1.2.2)),(2,.bl [.int .i64 0,.int .i64 0,.int .i64 0]),(3,.bl [.int .i64 x5.2.1,.int .i64 x5.2.2.1,.int .i64 x5.2.2.2])]) (λx5 hF=>?_) λ_ hj0 hF=>?_
 ·exact wl ak hF
 have xd:= @AS;exact wL
def Bk(aL:List Int)(aV:Int)(bo:Int)(a1:am):Option (Int×(List Int×Int×Int)):=
 if decide (a1.Q<2)=Z then(
 J (0,(aL,aV,bo)))else(
 (gJ aL aV bo 60000).bind λz2=>
 (gJ z2.2.1 z2.2.2.1 z2.2.2.2 60000).bind λz3=>
 gd (a1.Q≠0)<|
 J ((i64.wrap ((i64.wrap (z2.1*60000))+z3.1)).tmod a1.Q,(z3.2.1,z3.2.2.1,z3.2.2.2)))
def TL{aL aV bo a1 r}(hr:Bk aL aV bo a1=J r):ap Tryz.prog 172 [(.io,vB aL aV bo),(.sh,vE a1)] (Eo (.int .i64 r.1) [vB r.2.1 r.2.2.1 r.2.2.2,.au]):=by
 apply pE [0] hr zHX Tryz.func172;intro Φ ak hF g;unfold Bk at hF
 iterate 2 refine wW ?_
 refine wI hF (λh1 hF=>?_) λh1 hF=>?_
 ·exact wl ak hF
 refine wW ?_;refine wZ (kE [0,3,6,7,1,2,4,5,8,9] [0,0,25,26,3,0,3,0,0,0]) follows ?_;have jc:= @ka;exact wL
def Cx(aL:List Int)(aV:Int)(bo:Int)(a1:am):Option (Int×(List Int×Int×Int)):=
 ((if decide (a1.P<3)=Z then(
 J Z)else(
 J (decide (a1.Q<1))):Option Bool).bind λx3=>
 if x3=Z then(
 J (1,(aL,aV,bo)))else(
 (qr a1.G a1.P).bind λz6=>
 (Bk aL aV bo a1).bind λz7=>
 (cD a1 z6 z7.1).bind λz8=>
 J (z8,(z7.2.1,z7.2.2.1,z7.2.2.2))))
def zhJ{aL aV bo a1 r}(hr:Cx aL aV bo a1=J r):ap Tryz.prog 112 [(.io,vB aL aV bo),(.sh,vE a1)] (Eo (.int .i64 r.1) [vB r.2.1 r.2.2.1 r.2.2.2,.au]):=by
 apply pE [0] hr zG2 Tryz.func112;intro Φ ak hF g;unfold Cx at hF;refine wW ?_;refine bT hF [0,3] (λx3=>[(12,.v (.bool x3))]) (λx3 hF=>?_) λ_ hj0 hF=>?_
 ·refine wI hF (λh5 hF=>?_) λh5 hF=>?_
  ·exact wl ak hF
  refine wW ?_;refine wZ (kE [0,1,2,3,4,6,7,5,8,9,10] [26,25,26,25,26,0,26,3,3,3,0]) follows ?_;have c0:= @Km;have jc:= @TL;have c1:= @fm;exact wL
 exact wL
def HW(aL:List Int)(aV:Int)(bo:Int)(a1:am):Option (an×(List Int×Int×Int)):=
 (Cx aL aV bo a1).bind λz1=>
 (Cx z1.2.1 z1.2.2.1 z1.2.2.2 a1).bind λz2=>
 J ((an.mk z1.1 z2.1),(z2.2.1,z2.2.2.1,z2.2.2.2))
def zk2{aL aV bo a1 r}(hr:HW aL aV bo a1=J r):ap Tryz.prog 110 [(.io,vB aL aV bo),(.sh,vE a1)] (Eo (vF r.1) [vB r.2.1 r.2.2.1 r.2.2.2,.au]):=by
 apply pE [0] hr zED Tryz.func110;intro Φ ak hF g;unfold HW at hF;refine wW ?_;refine wZ (kE [0,1,3,4,2,5,6,7] [0,26,0,26,3,3,0,34]) follows ?_;have jc:= @zhJ;exact wL
def JL(aL:List Int)(aV:Int)(bo:Int)(a1:Int):Option (List Int×(List Int×Int×Int)):=
 ((dJ (σ:=(List Int)×Int) (λs4=>
 if decide (s4.2<a1)=Z then(
 gd ((s4.1.length+1)*8<=140737488355328/\s4.1.length+1<=4611686018427387904)<|
 J (.go (s4.1++[s4.2],i64.wrap (s4.2+1))))else(
 J (.out s4.1))) ([],0):Option ((List Int))).bind λx3=>
 ((dJ (σ:=(List Int×Int×Int)×List Int×Int) (λiU=>
 if decide (0<iU.2.2)=Z then(
 (gJ iU.1.1 iU.1.2.1 iU.1.2.2 (i64.wrap (iU.2.2+1))).bind λgp=>
 (ix iU.2.1 iU.2.2).bind λn6=>
 (ix iU.2.1 gp.1).bind λiV=>
 (ix (iU.2.1.set iU.2.2.toNat iV) gp.1).bind λx34=>
 J (.go ((gp.2.1,gp.2.2.1,gp.2.2.2),(iU.2.1.set iU.2.2.toNat iV).set gp.1.toNat n6,i64.wrap (iU.2.2-1))))else(
 J (.out ((iU.1.1,iU.1.2.1,iU.1.2.2),iU.2.1)))) ((aL,aV,bo),x3,i64.wrap (a1-1)):Option (((List Int×Int×Int)×List Int))).bind λe8=>
 J (e8.2,(e8.1.1,e8.1.2.1,e8.1.2.2))))
def zlE{aL aV bo a1 r}(hr:JL aL aV bo a1=J r):ap Tryz.prog 118 [(.io,vB aL aV bo),(.sh,.int .i64 a1)] (Eo (vD r.1) [vB r.2.1 r.2.2.1 r.2.2.2,.au]):=by
 apply pE [0] hr zHt Tryz.func118;intro Φ ak hF g;unfold JL at hF
 iterate 3 refine wW ?_
 refine bT hF [0,1] (λx3=>[(5,.v (vD x3))]) (λx3 hF=>?_) λ_ hj0 hF=>?_
 ·refine wW ?_;refine wJ hF (λe8=>[(0,.v (vB e8.1.1 e8.1.2.1 e8.1.2.2)),(5,.v (vD e8.2))]) (λe8 hF=>?_) λ_ hj0 hF=>?_
  ·exact wl ak hF
  refine wB ?_;obtain⟨b35,a18,bg⟩:=hF;refine pL a18 (λiU=>[(0,.v (vB iU.1.1 iU.1.2.1 iU.1.2.2)),(5,.v (vD iU.2.1)),(7,.v (.int .i64 iU.2.2))]) λiU _ _ bp ba hF=>?_
  refine wW ?_;refine wI hF (λh30 hF=>?_) λh30 hF=>?_
  ·refine wW ?_;refine wB ?_;refine wC hF [.io,.sh] ka λgp hF=>?_
   refine wK [0,5,7,8] ?_;obtain⟨n6,g,hF⟩:=Rx g hF;obtain⟨iV,g,hF⟩:=Rx g hF;refine wW ?_;refine wK [0,5,7,8,9] ?_;obtain⟨x34,g,hF⟩:=Rx g hF;try simp only[KF]at g
   exact wL
  exact wL
 refine wB ?_;obtain⟨b10,a06,bg⟩:=hF;refine jQ a06 [0,1] (λs4=>[(5,.v (vD s4.1)),(6,.v (.int .i64 s4.2))]) λs4 _ _ bp ba hF=>?_
 exact wL
def He(aL:List Int)(aV:Int)(bo:Int)(a1:am)(a2:Int):Option (List Int×(List Int×Int×Int)):=
 ((dJ (σ:=(List Int×Int×Int)×Int×List Int) (λcJ=>
 if decide (0<cJ.2.1)=Z then(
 (Bk cJ.1.1 cJ.1.2.1 cJ.1.2.2 a1).bind λhO=>
 gd ((cJ.2.2.length+1)*8<=140737488355328/\cJ.2.2.length+1<=4611686018427387904)<|
 J (.go ((hO.2.1,hO.2.2.1,hO.2.2.2),i64.wrap (cJ.2.1-1),cJ.2.2++[hO.1])))else(
 J (.out ((cJ.1.1,cJ.1.2.1,cJ.1.2.2),cJ.2.2)))) ((aL,aV,bo),a2,[]):Option (((List Int×Int×Int)×List Int))).bind λx3=>
 J (x3.2,(x3.1.1,x3.1.2.1,x3.1.2.2)))
def zle{aL aV bo a1 a2 r}(hr:He aL aV bo a1 a2=J r):ap Tryz.prog 111 [(.io,vB aL aV bo),(.sh,vE a1),(.sh,.int .i64 a2)] (Eo (vD r.1) [vB r.2.1 r.2.2.1 r.2.2.2,.au,.au]):=by
 apply pE [0] hr zFn Tryz.func111;intro Φ ak hF g;unfold He at hF
 iterate 2 refine wW ?_
 refine wJ hF (λx3=>[(0,.v (vB x3.1.1 x3.1.2.1 x3.1.2.2)),(7,.v (vD x3.2))]) (λx3 hF=>?_) λ_ hj0 hF=>?_
 ·exact wl ak hF
 refine wB ?_;obtain⟨b18,Sw,bg⟩:=hF;refine pL Sw (λcJ=>[(0,.v (vB cJ.1.1 cJ.1.2.1 cJ.1.2.2)),(2,.v (.int .i64 cJ.2.1)),(4,.bl [.int .i64 a1.P,.int .i64 a1.Q,.int .i64 a1.G]),(7,.v (vD cJ.2.2))]) λcJ _ _ bp ba hF=>?_
 have jc:= @TL;exact wL
def Fk(aL:List Int)(aV:Int)(bo:Int)(a1:am)(a2:Int):Option (List Int×(List Int×Int×Int)):=
 (He aL aV bo a1 a2).bind λz1=>
 (gJ z1.2.1 z1.2.2.1 z1.2.2.2 30).bind λz2=>
 ((if(z2.1==0)=Z then(
 gd ((z1.1.length+1)*8<=140737488355328/\z1.1.length+1<=4611686018427387904)<|
 J (.inr (z1.1++[0],(z2.2.1,z2.2.2.1,z2.2.2.2))))else(
 if(z2.1==1)=Z then(
 if decide (0<a2)=Z then(
 gd (1<=z1.1.length/\z1.1.length<=z1.1.length)<|
 J (.inr ((z1.1.take z1.1.length).drop 1,(z2.2.1,z2.2.2.1,z2.2.2.2))))else(
 J (.inl ((z2.2.1,z2.2.2.1,z2.2.2.2),z1.1))))else(
 if(z2.1==2)=Z then(
 if decide (0<a2)=Z then(
 (gJ z2.2.1 z2.2.2.1 z2.2.2.2 a2).bind λb7=>
 (pI b7.2.1 b7.2.2.1 b7.2.2.2 [(-1),a1.Q]).bind λbH=>
 (ix z1.1 b7.1).bind λgW=>
 J (.inl ((bH.2.1,bH.2.2.1,bH.2.2.2),z1.1.set b7.1.toNat bH.1)))else(
 J (.inl ((z2.2.1,z2.2.2.1,z2.2.2.2),z1.1))))else(
 J (.inl ((z2.2.1,z2.2.2.1,z2.2.2.2),z1.1))))):Option (((List Int×Int×Int)×List Int) ⊕ (List Int×(List Int×Int×Int)))).bind (Sum.elim (λx5=>
 J (x5.2,(x5.1.1,x5.1.2.1,x5.1.2.2))) J))
def XF{aL aV bo a1 a2 r}(hr:Fk aL aV bo a1 a2=J r):ap Tryz.prog 74 [(.io,vB aL aV bo),(.sh,vE a1),(.sh,.int .i64 a2)] (Eo (vC r.1) [vB r.2.1 r.2.2.1 r.2.2.2,.au,.au]):=by
 apply pF 40 [0] [6] [] [.tmp 6] hr zLX Tryz.func74;intro Φ ak hF g;unfold Fk at hF;refine wW ?_;refine wC hF [.io,.sh,.sh] zle λz1 hF=>?_
 refine wW ?_;refine wC hF [.io,.sh] ka λz2 hF=>?_
 refine wW ?_;refine wS hF (λx5=>[(0,.v (vB x5.1.1 x5.1.2.1 x5.1.2.2)),(7,.v (vD x5.2))]) (λx5 hF=>?_) λ_ hj0 dD hF=>?_
 ·exact wL
 refine wB ?_;refine wK [0,2,4,7,13,14] ?_;refine wI hF (λh6 hF=>?_) λh6 hF=>?_
 ·exact wL
 refine wW ?_;refine wI hF (λh7 hF=>?_) λh7 hF=>?_
 ·exact wL
 refine wW ?_;refine wI hF (λh9 hF=>?_) λh9 hF=>?_
 ·refine wW ?_;refine wI hF (λxD hF=>?_) λxD hF=>?_
  ·refine wZ (kE [0,1,2,4,5,6,7,3,8,9,10] [0,0,0,0,33,34,0,3,6,0,0]) follows ?_;have jc:= @ka;have xd:= @AS;exact wL
  exact wT (hj0 _) (eZ hF)
 exact wT (hj0 _) (eZ hF)
def xK(aL:List Int)(aV:Int)(bo:Int)(a1:am):Option (Int×(List Int×Int×Int)):=
 (yU aL aV bo 20).bind λz1=>
 if z1.1=Z then(
 (pI z1.2.1 z1.2.2.1 z1.2.2.2 [0,1,i64.wrap (a1.P-1),a1.P,(-1),5]).bind λz3=>
 J (z3.1,(z3.2.1,z3.2.2.1,z3.2.2.2)))else(
 (Cx z1.2.1 z1.2.2.1 z1.2.2.2 a1).bind λz4=>
 J (z4.1,(z4.2.1,z4.2.2.1,z4.2.2.2)))
def Ma{aL aV bo a1 r}(hr:xK aL aV bo a1=J r):ap Tryz.prog 101 [(.io,vB aL aV bo),(.sh,vE a1)] (Eo (.int .i64 r.1) [vB r.2.1 r.2.2.1 r.2.2.2,.au]):=by
 apply pE [0] hr zEE Tryz.func101;intro Φ ak hF g;unfold xK at hF;have jc:= @MG;have xd:= @AS;have BJ:= @zhJ;exact wL
def HZ(aL:List Int)(aV:Int)(bo:Int)(a1:am):Option (an×(List Int×Int×Int)):=
 (xK aL aV bo a1).bind λz1=>
 (xK z1.2.1 z1.2.2.1 z1.2.2.2 a1).bind λz2=>
 J ((an.mk z1.1 z2.1),(z2.2.1,z2.2.2.1,z2.2.2.2))
def zj1{aL aV bo a1 r}(hr:HZ aL aV bo a1=J r):ap Tryz.prog 119 [(.io,vB aL aV bo),(.sh,vE a1)] (Eo (vF r.1) [vB r.2.1 r.2.2.1 r.2.2.2,.au]):=by
 apply pE [0] hr zGp Tryz.func119;intro Φ ak hF g;unfold HZ at hF;refine wW ?_;refine wZ (kE [0,1,3,4,2,5,6,7] [0,26,0,26,3,3,0,34]) follows ?_;have jc:= @Ma;exact wL
def I4(aL:List Int)(aV:Int)(bo:Int):Option (am×Int×List an×List Int×List Int×(List Int×Int×Int)):=
 (y8 aL aV bo).bind λz1=>
 (yU z1.2.1 z1.2.2.1 z1.2.2.2 20).bind λz2=>
 ((if z2.1=Z then(
 (CL z2.2.1 z2.2.2.1 z2.2.2.2).bind λz7=>
 J ((z7.2.1,z7.2.2.1,z7.2.2.2),z7.1.P,z7.1.Q,z7.1.G))else(
 J ((z2.2.1,z2.2.2.1,z2.2.2.2),z1.1.P,z1.1.Q,z1.1.G)):Option (((List Int×Int×Int)×Int×Int×Int))).bind λx5=>
 (gJ x5.1.1 x5.1.2.1 x5.1.2.2 4).bind λz8=>
 ((dJ (σ:=(List Int×Int×Int)×List an×Int) (λeI=>
 if decide (0<eI.2.2)=Z then(
 (HW eI.1.1 eI.1.2.1 eI.1.2.2 (am.mk x5.2.1 x5.2.2.1 x5.2.2.2)).bind λtr=>
 gd ((eI.2.1.length+1)*16<=140737488355328/\eI.2.1.length+1<=4611686018427387904)<|
 J (.go ((tr.2.1,tr.2.2.1,tr.2.2.2),eI.2.1++[tr.1],i64.wrap (eI.2.2-1))))else(
 J (.out ((eI.1.1,eI.1.2.1,eI.1.2.2),eI.2.1)))) ((z8.2.1,z8.2.2.1,z8.2.2.2),[],i64.wrap (1+z8.1)):Option (((List Int×Int×Int)×List an))).bind λaU=>
 (JL aU.1.1 aU.1.2.1 aU.1.2.2 (aU.2.length:Int)).bind λfP=>
 (Fk fP.2.1 fP.2.2.1 fP.2.2.2 (am.mk x5.2.1 x5.2.2.1 x5.2.2.2) (aU.2.length:Int)).bind λnO=>
 (gJ nO.2.1 nO.2.2.1 nO.2.2.2 24).bind λeY=>
 ((if(eY.1==0)=Z then(
 (HZ eY.2.1 eY.2.2.1 eY.2.2.2 (am.mk x5.2.1 x5.2.2.1 x5.2.2.2)).bind λgZ=>
 (ix aU.2 0).bind λnP=>
 J ((gZ.2.1,gZ.2.2.1,gZ.2.2.2),aU.2.set 0 gZ.1,fP.1))else(
 if(eY.1==1)=Z then(
 (pI eY.2.1 eY.2.2.1 eY.2.2.2 [(-1),(aU.2.length:Int),0]).bind λuy=>
 (ix fP.1 0).bind λvo=>
 J ((uy.2.1,uy.2.2.1,uy.2.2.2),aU.2,fP.1.set 0 uy.1))else(
 if(eY.1==2)=Z then(
 J ((eY.2.1,eY.2.2.1,eY.2.2.2),[],fP.1))else(
 if(eY.1==3)=Z then(
 dJ (σ:=(List Int×Int×Int)×List an) (λoW=>
 (gJ oW.1.1 oW.1.2.1 oW.1.2.2 2).bind λC1=>
 if decide ((oW.2.length:Int)<(i64.wrap (12+C1.1)))=Z then(
 (ix oW.2 0).bind λTG=>
 gd ((oW.2.length+1)*16<=140737488355328/\oW.2.length+1<=4611686018427387904)<|
 J (.go ((C1.2.1,C1.2.2.1,C1.2.2.2),oW.2++[TG])))else(
 J (.out ((C1.2.1,C1.2.2.1,C1.2.2.2),oW.2,fP.1)))) ((eY.2.1,eY.2.2.1,eY.2.2.2),aU.2))else(
 J ((eY.2.1,eY.2.2.1,eY.2.2.2),aU.2,fP.1))))):Option (((List Int×Int×Int)×List an×List Int))).bind λiV=>
 (xK iV.1.1 iV.1.2.1 iV.1.2.2 (am.mk x5.2.1 x5.2.2.1 x5.2.2.2)).bind λFv=>
 J ((am.mk x5.2.1 x5.2.2.1 x5.2.2.2),Fv.1,iV.2.1,iV.2.2,nO.1,(Fv.2.1,Fv.2.2.1,Fv.2.2.2)))))
def zlc{aL aV bo r}(hr:I4 aL aV bo=J r):ap Tryz.prog 72 [(.io,vB aL aV bo)] (Eo (.bO [vE r.1,.int .i64 r.2.1,vG r.2.2.1,vD r.2.2.2.1,vC r.2.2.2.2.1]) [vB r.2.2.2.2.2.1 r.2.2.2.2.2.2.1 r.2.2.2.2.2.2.2]):=by
 apply pE [0] hr zKW Tryz.func72;intro Φ ak hF g;unfold I4 at hF;refine wW ?_;refine wC hF [.io] zif λz1 hF=>?_
 refine wW ?_;refine wC hF [.io,.sh] MG λz2 hF=>?_
 refine wK [0,2,7,15] ?_;refine wJ hF (λx5=>[(0,.v (vB x5.1.1 x5.1.2.1 x5.1.2.2)),(2,.bl [.int .i64 0,.int .i64 0,.int .i64 0]),(7,.bl [.int .i64 x5.2.1,.int .i64 x5.2.2.1,.int .i64 x5.2.2.2])]) (λx5 hF=>?_) λ_ hj0 hF=>?_
 ·refine wW ?_;refine wC hF [.io,.sh] ka λz8 hF=>?_
  refine wW ?_;refine bT hF [2,7] (λaU=>[(0,.v (vB aU.1.1 aU.1.2.1 aU.1.2.2)),(8,.v (vG aU.2))]) (λaU hF=>?_) λ_ hj0 hF=>?_
  ·try simp[go_sem,g]
   try intros
   refine wC hF [.io,.sh] zlE λfP hF=>?_
   refine wK [0,2,7,8,10] ?_;try simp[go_sem,g]
   try intros
   refine wC hF [.io,.sh,.sh] XF λnO hF=>?_
   refine wW ?_;refine wC hF [.io,.sh] ka λeY hF=>?_
   refine wW ?_;refine bT hF [2,7,11] (λiV=>[(0,.v (vB iV.1.1 iV.1.2.1 iV.1.2.2)),(8,.v (vG iV.2.1)),(10,.v (vD iV.2.2))]) (λiV hF=>?_) λ_ hj0 hF=>?_
   ·refine wZ (kE [0,1,2,4,5,6,3,7,8,9,10,11] [58,0,58,0,0,0,3,18,0,0,0,0]) follows ?_;have jc:= @Ma;exact wL
   refine wB ?_;refine wK [0,2,7,8,10,11,41,42] ?_;refine wI hF (λQl hF=>?_) λQl hF=>?_
   ·have jc:= @zj1;exact wL
   refine wW ?_;refine wI hF (λh37 hF=>?_) λh37 hF=>?_
   ·have xd:= @AS;exact wL
   refine wW ?_;refine wI hF (λh40 hF=>?_) λh40 hF=>?_
   ·exact wT (hj0 _) (eZ hF)
   refine wW ?_;refine wI hF (λh41 hF=>?_) λh41 hF=>?_
   ·refine wB ?_;obtain⟨b58,a1g,bg⟩:=hF;refine jQ a1g [2,7,10,11] (λoW=>[(0,.v (vB oW.1.1 oW.1.2.1 oW.1.2.2)),(8,.v (vG oW.2))]) λoW _ _ bp ba hF=>?_
    have jc:= @ka;exact wL
   exact wT (hj0 _) (eZ hF)
  refine wB ?_;obtain⟨b26,a0W,bg⟩:=hF;refine jQ a0W [2,7] (λeI=>[(0,.v (vB eI.1.1 eI.1.2.1 eI.1.2.2)),(8,.v (vG eI.2.1)),(9,.v (.int .i64 eI.2.2))]) λeI _ _ bp ba hF=>?_
  have jc:= @zk2;exact wL
 have AQ:= @zj9;exact wL
def Gp(a0:Int)(a1:Int):Option (Int×Bool):=
 (oi a1 1 12).bind λz1=>
 if(!z1)=Z then(
 J (0,aa))else(
 if(a0==1)=Z then(
 J (i64.wrap ((i64.wrap (5*a1))+4),Z))else(
 if(a0==2)=Z then(
 J (i64.wrap ((i64.wrap (9*a1))+2),Z))else(
 J (0,aa))))
def ZS{a0 a1 r}(hr:Gp a0 a1=J r):ap Tryz.prog 35 [(.sh,.int .i64 a0),(.sh,.int .i64 a1)] (Eo (.bO [.int .i64 r.1,.bool r.2]) cI):=by
 apply pE [] hr zLF Tryz.func35;intro Φ ak hF g;unfold Gp at hF;have c0:= @wX;exact wL
def Ml(aL:List Int)(aV:Int)(bo:Int):Option (am×Int×List an×Int×List Int×List Int×(List Int×Int×Int)):=
 (I4 aL aV bo).bind λz1=>
 (gJ z1.2.2.2.2.2.1 z1.2.2.2.2.2.2.1 z1.2.2.2.2.2.2.2 2).bind λz2=>
 (yU z2.2.1 z2.2.2.1 z2.2.2.2 20).bind λz3=>
 ((if z3.1=Z then(
 (pI z3.2.1 z3.2.2.1 z3.2.2.2 [0,3]).bind λz8=>
 J ((z8.2.1,z8.2.2.1,z8.2.2.2),z8.1))else(
 J ((z3.2.1,z3.2.2.1,z3.2.2.2),i64.wrap (1+z2.1))):Option (((List Int×Int×Int)×Int))).bind λx6=>
 (Gp x6.2 (z1.2.2.1.length:Int)).bind λz9=>
 (Fk x6.1.1 x6.1.2.1 x6.1.2.2 z1.1 z9.1).bind λbX=>
 J (z1.1,z1.2.1,z1.2.2.1,x6.2,z1.2.2.2.1,bX.1,(bX.2.1,bX.2.2.1,bX.2.2.2)))
def zk6{aL aV bo r}(hr:Ml aL aV bo=J r):ap Tryz.prog 27 [(.io,vB aL aV bo)] (Eo (.bO [vE r.1,.int .i64 r.2.1,vG r.2.2.1,.int .i64 r.2.2.2.1,vD r.2.2.2.2.1,vC r.2.2.2.2.2.1]) [vB r.2.2.2.2.2.2.1 r.2.2.2.2.2.2.2.1 r.2.2.2.2.2.2.2.2]):=by
 apply pE [0] hr zL0 Tryz.func27;intro Φ ak hF g;unfold Ml at hF;refine wW ?_;refine wC hF [.io] zlc λz1 hF=>?_
 refine wK [0,2,8,9,10,11] ?_;refine wC hF [.io,.sh] ka λz2 hF=>?_
 refine wW ?_;refine wC hF [.io,.sh] MG λz3 hF=>?_
 refine wW ?_;refine bT hF [2,8,9,10,11] (λx6=>[(0,.v (vB x6.1.1 x6.1.2.1 x6.1.2.2)),(13,.v (.int .i64 x6.2))]) (λx6 hF=>?_) λ_ hj0 hF=>?_
 ·try simp[go_sem,g]
  try intros
  refine wE hF ZS λz9 hF=>?_
  refine wK [0,2,8,9,10,11,13,14] ?_;refine wZ (kD 0 [66,0,0,0,0,0,66,0,3,18,0,0,0,0,0]) follows ?_;have Pl:= @XF;exact wL
 have xd:= @AS;exact wL
def Fr(a0:List Int):Option (am×Int×List an×Int×List Int×List Int):=
 (Ml a0 0 0).bind λz1=>
 J (z1.1,z1.2.1,z1.2.2.1,z1.2.2.2.1,z1.2.2.2.2.1,z1.2.2.2.2.2.1)
def YZ{a0 r}(hr:Fr a0=J r):ap Tryz.prog 6 [(.sh,vA a0)] (Eo (.bO [vE r.1,.int .i64 r.2.1,vG r.2.2.1,.int .i64 r.2.2.2.1,vD r.2.2.2.2.1,vC r.2.2.2.2.2]) [.au]):=by
 apply pF 20 [] [] [11] [.cell 2 25,.tmp 3,.tmp 4,.tmp 5,.tmp 6,.tmp 7] hr cl6 Tryz.func6;intro Φ ak hF g;unfold Fr at hF;have AQ:= @zk6;exact wL
def pD(a0:Int)(a1:Int)(a2:Int):Option Bool:=
 ((if decide (a1<=a0)=Z then(
 J (decide (a0<=a2)))else(
 J aa):Option Bool).bind λx3=>
 J x3)
def Au{a0 a1 a2 r}(hr:pD a0 a1 a2=J r):ap Tryz.prog 63 [(.sh,.int .i64 a0),(.sh,.int .i64 a1),(.sh,.int .i64 a2)] (Eo (.bool r) gx):=by
 apply pE [] hr zM1 Tryz.func63;intro Φ ak hF g;unfold pD at hF;refine wW ?_;refine wJ hF (λx3=>[(6,.v (.bool x3))]) (λx3 hF=>?_) λ_ hj0 hF=>?_
 ·exact wm ak hF
 exact wL
def GU(a0:Int):Option Bool:=
 (pD a0 2 2000000000).bind λz1=>
 J z1
def zps{a0 r}(hr:GU a0=J r):ap Tryz.prog 176 [(.sh,.int .i64 a0)] (Eo (.bool r) [.au]):=by
 apply pE [] hr zGS Tryz.func176;intro Φ ak hF g;unfold GU at hF;have c0:= @Au;exact wL
def DN(a0:Int):Option Bool:=
 (((GU a0).bind λz4=>
 if(!z4)=Z then(
 J Z)else(
 if((a0.tmod 2)==0)=Z then(
 J (a0 !=2))else(
 J aa)):Option Bool).bind λx3=>
 if x3=Z then(
 J aa)else(
 ((dJ (σ:=Int) (λcJ=>
 if decide ((i64.wrap (cJ*cJ))<=a0)=Z then(
 gd (cJ≠0)<|
 if((a0.tmod cJ)==0)=Z then(
 J (.out (.inr aa)))else(
 J (.go (i64.wrap (cJ+2)))))else(
 J (.out (.inl ())))) 3:Option (Unit ⊕ Bool)).bind (Sum.elim (λer=>
 J Z) J))))
def zq3{a0 r}(hr:DN a0=J r):ap Tryz.prog 120 [(.sh,.int .i64 a0)] (Eo (.bool r) [.au]):=by
 apply pE [] hr zHh Tryz.func120;intro Φ ak hF g;unfold DN at hF;refine wW ?_;refine wJ hF (λx3=>[(0,.v (.int .i64 a0)),(15,.v (.bool x3))]) (λx3 hF=>?_) λ_ hj0 hF=>?_
 ·refine wI hF (λh7 hF=>?_) λh7 hF=>?_
  ·exact wl ak hF
  iterate 2 refine wW ?_
  refine wS hF (λer=>[]) (λer hF=>?_) λ_ hj0 dD hF=>?_
  ·exact wl ak hF
  refine wB ?_;obtain⟨b18,Sw,bg⟩:=hF;refine pL Sw (λcJ=>[(0,.v (.int .i64 a0)),(3,.v (.int .i64 cJ))]) λcJ _ _ bp ba hF=>?_
  exact wL
 refine wE hF zps λz4 hF=>?_
 refine wG hF (λh5 hF=>?_) λh5 hF=>?_
 ·exact wV h5 (hj0 _) (eZ hF)
 have g:=Ld g 2;have h:=h5;exact wL
def nA(a0:Int)(a1:Int)(a2:Int):Option Int:=
 gd (a2≠0)<|
 ((dJ (σ:=Int×Int×Int) (λs4=>
 if decide (0<s4.2.1)=Z then(
 ((if((i64.wrap ((BitVec.ofInt i64.bits s4.2.1&&&BitVec.ofInt i64.bits 1).toNat))==1)=Z then(
 gd (a2≠0)<|
 J ((i64.wrap (s4.2.2*s4.1)).tmod a2))else(
 J s4.2.2):Option Int).bind λcY=>
 gd (a2≠0)<|
 J (.go ((i64.wrap (s4.1*s4.1)).tmod a2,s4.2.1.fdiv 2,cY))))else(
 J (.out s4.2.2))) (a0,a1,(1:Int).tmod a2):Option Int).bind λx3=>
 J x3)
def Fa{a0 a1 a2 r}(hr:nA a0 a1 a2=J r):ap Tryz.prog 121 [(.sh,.int .i64 a0),(.sh,.int .i64 a1),(.sh,.int .i64 a2)] (Eo (.int .i64 r) gx):=by
 apply pE [] hr zE3 Tryz.func121;intro Φ ak hF g;unfold nA at hF;obtain⟨g,hF⟩:=Rz g hF
 iterate 2 refine wW ?_
 refine wJ hF (λx3=>[(7,.v (.int .i64 x3))]) (λx3 hF=>?_) λ_ hj0 hF=>?_
 ·exact wl ak hF
 refine wB ?_;obtain⟨b14,Jy,bg⟩:=hF;refine pL Jy (λs4=>[(0,.v (.int .i64 s4.1)),(1,.v (.int .i64 s4.2.1)),(2,.v (.int .i64 a2)),(7,.v (.int .i64 s4.2.2))]) λs4 _ _ bp ba hF=>?_
 refine wW ?_;refine wI hF (λh9 hF=>?_) λh9 hF=>?_
 ·refine wW ?_;refine wB ?_;refine wW ?_;refine bT hF [0,1,2] (λcY=>[(7,.v (.int .i64 cY))]) (λcY hF=>?_) λ_ kg hF=>?_
  ·obtain⟨g,hF⟩:=Rz g hF;refine wK [0,1,2,7] ?_;have g:=Ls g 1;exact wT (ba _) (eZ hF)
  exact wL
 exact wL
def HR(a0:am):Option Bool:=
 (((pD a0.P 3 2000000000).bind λz4=>
 if z4=Z then(
 (pD a0.Q 2 (i64.wrap (a0.P-1))).bind λz6=>
 if z6=Z then(
 gd (a0.Q≠0)<|
 if(((i64.wrap (a0.P-1)).tmod a0.Q)==0)=Z then(
 (pD a0.G 2 (i64.wrap (a0.P-1))).bind λz9=>
 if z9=Z then(
 (DN a0.P).bind λb7=>
 if b7=Z then(
 (DN a0.Q).bind λdk=>
 if dk=Z then(
 (nA a0.G a0.Q a0.P).bind λfA=>
 J (fA==1))else(
 J aa))else(
 J aa))else(
 J aa))else(
 J aa))else(
 J aa))else(
 J aa):Option Bool).bind λx3=>
 J x3)
def zm1{a0 r}(hr:HR a0=J r):ap Tryz.prog 75 [(.sh,vE a0)] (Eo (.bool r) [.au]):=by
 apply pE [] hr zK1 Tryz.func75;intro Φ ak hF g;unfold HR at hF;refine wW ?_;refine wJ hF (λx3=>[(2,.v (.bool x3))]) (λx3 hF=>?_) λ_ hj0 hF=>?_
 ·exact wm ak hF
 have c0:= @Au;have c1:= @zq3;have c2:= @Fa;exact wL
def yR(a0:am)(a1:Int):Option Bool:=
 (((pD a1 1 (i64.wrap (a0.P-1))).bind λz4=>
 if z4=Z then(
 (nA a1 a0.Q a0.P).bind λz6=>
 J (z6==1))else(
 J aa):Option Bool).bind λx3=>
 J x3)
def TD{a0 a1 r}(hr:yR a0 a1=J r):ap Tryz.prog 76 [(.sh,vE a0),(.sh,.int .i64 a1)] (Eo (.bool r) cI):=by
 apply pE [] hr zNL Tryz.func76;intro Φ ak hF g;unfold yR at hF;refine wW ?_;refine wJ hF (λx3=>[(4,.v (.bool x3))]) (λx3 hF=>?_) λ_ hj0 hF=>?_
 ·exact wm ak hF
 have c0:= @Au;have c1:= @Fa;exact wL
def GQ(a0:am)(a1:an):Option Bool:=
 (((yR a0 a1.A).bind λz4=>
 if z4=Z then(
 (yR a0 a1.B).bind λz6=>
 J z6)else(
 J aa):Option Bool).bind λx3=>
 J x3)
def zlO{a0 a1 r}(hr:GQ a0 a1=J r):ap Tryz.prog 155 [(.sh,vE a0),(.sh,vF a1)] (Eo (.bool r) cI):=by
 apply pE [] hr zF3 Tryz.func155;intro Φ ak hF g;unfold GQ at hF;refine wW ?_;refine wJ hF (λx3=>[(4,.v (.bool x3))]) (λx3 hF=>?_) λ_ hj0 hF=>?_
 ·exact wm ak hF
 have c0:= @TD;exact wL
def My(a0:an)(xF:Int)(M2:Int)(M6:Int):Option Bool:=
 (GQ (am.mk xF M2 M6) a0).bind λz1=>
 J (!z1)
def zkb{a0 xF M2 M6 r}(hr:My a0 xF M2 M6=J r):ap Tryz.prog 154 [(.sh,vF a0),(.sh,.fp [.int .i64 xF,.int .i64 M2,.int .i64 M6])] (Eo (.bool r) cI):=by
 apply pE [] hr zFN Tryz.func154;intro Φ ak hF g;unfold My at hF;have c0:= @zlO;exact wL
def HI(a0:List an)(pJ:Int)(wz:Int)(ya:Int):Option Int:=
 ((aS (σ:=Unit) (λi5 s4=>
 (ix a0 i5).bind λaU=>
 (My aU pJ wz ya).bind λbH=>
 if bH=Z then(
 J (.out (.inr i5)))else(
 J (.go ()))) (λs4=>.inl ()) (a0.length) 0 ():Option (Unit ⊕ Int)).bind (Sum.elim (λx3=>
 J (-1)) J))
def zea{a0 pJ wz ya r}(hr:HI a0 pJ wz ya=J r):ap Tryz.prog 202 [(.sh,vH a0),(.sh,.func (.func 154) [] [.fp [.int .i64 pJ,.int .i64 wz,.int .i64 ya]])] (Eo (.int .i64 r) cI):=by
 apply pE [] hr zFS Tryz.func202;intro Φ ak hF g;unfold HI at hF
 iterate 2 (try simp[go_sem,g];try intros;refine bu ?_)
 refine wS hF (λx3=>[]) (λx3 hF=>?_) λ_ hj0 dD hF=>?_
 ·exact wl ak hF
 refine wR hF [0,1,7] (λi5 s4=>[(8,.v (.int .i64 i5))]) λb bg i5 s4 _ _ aO aN bp ba hF=>?_
 have c0:= @zkb;exact wL
def NP(a0:List an)(pJ:Int)(wz:Int)(ya:Int):Option Bool:=
 (HI a0 pJ wz ya).bind λz1=>
 J (decide (0<=z1))
def zdT{a0 pJ wz ya r}(hr:NP a0 pJ wz ya=J r):ap Tryz.prog 153 [(.sh,vH a0),(.sh,.func (.func 154) [] [.fp [.int .i64 pJ,.int .i64 wz,.int .i64 ya]])] (Eo (.bool r) cI):=by
 apply pE [] hr zE4 Tryz.func153;intro Φ ak hF g;unfold NP at hF;have c0:= @zea;exact wL
def IR(a0:am)(a1:List an):Option Bool:=
 ((if decide ((a1.length:Int)<=24)=Z then(
 (NP a1 a0.P a0.Q a0.G).bind λz5=>
 J (!z5))else(
 J aa):Option Bool).bind λx3=>
 J x3)
def zld{a0 a1 r}(hr:IR a0 a1=J r):ap Tryz.prog 89 [(.sh,vE a0),(.sh,vH a1)] (Eo (.bool r) cI):=by
 apply pF 14 [] [] [1000000] [.tmp 4] hr zMY Tryz.func89;intro Φ ak hF g;unfold IR at hF;refine wW ?_;refine wJ hF (λx3=>[(4,.v (.bool x3))]) (λx3 hF=>?_) λ_ hj0 hF=>?_
 ·exact wm ak hF
 have c0:= @zdT;exact wL
def yG(a0:am)(a1:List an):Option Bool:=
 (((pD (a1.length:Int) 1 12).bind λz4=>
 if z4=Z then(
 (IR a0 a1).bind λz6=>
 J z6)else(
 J aa):Option Bool).bind λx3=>
 J x3)
def KT{a0 a1 r}(hr:yG a0 a1=J r):ap Tryz.prog 41 [(.sh,vE a0),(.sh,vH a1)] (Eo (.bool r) cI):=by
 apply pE [] hr zNA Tryz.func41;intro Φ ak hF g;unfold yG at hF;refine wW ?_;refine wJ hF (λx3=>[(4,.v (.bool x3))]) (λx3 hF=>?_) λ_ hj0 hF=>?_
 ·exact wm ak hF
 have c0:= @Au;have c1:= @zld;exact wL
def LH(a0:ByteArray)(a1:List Int):Option ((List Int)):=
 ((dJ (σ:=(List Int)×Int) (λs4=>
 if decide (s4.2<(a0.size:Int))=Z then(
 (r9 a0 s4.2).bind λer=>
 gd ((s4.1.length+1)*8<=140737488355328/\s4.1.length+1<=4611686018427387904)<|
 J (.go (s4.1++[i64.wrap er],i64.wrap (s4.2+1))))else(
 J (.out s4.1))) ([(a0.size:Int)],0):Option ((List Int))).bind λx3=>
 gd ((x3.length+a1.length)*8<=140737488355328/\x3.length+a1.length<=4611686018427387904)<|
 J (x3++a1))
def zpA{a0 a1 r}(hr:LH a0 a1=J r):ap Tryz.prog 211 [(.sh,.str a0),(.sh,vC a1)] (Eo (vD r) cI):=by
 apply pE [] hr zFh Tryz.func211;intro Φ ak hF g;unfold LH at hF
 iterate 3 refine wW ?_
 refine wJ hF (λx3=>[(1,.v (vC a1)),(5,.v (vD x3))]) (λx3 hF=>?_) λ_ hj0 hF=>?_
 ·exact wL
 refine wB ?_;obtain⟨KY,xH,bg⟩:=hF;refine jQ xH [0,1,11] (λs4=>[(5,.v (vD s4.1)),(12,.v (.int .i64 s4.2))]) λs4 _ _ bp ba hF=>?_
 exact wL
def I6(a0:Int):Option Bool:=
 (pD a0 0 4611686018427387903).bind λz1=>
 J z1
def zpw{a0 r}(hr:I6 a0=J r):ap Tryz.prog 163 [(.sh,.int .i64 a0)] (Eo (.bool r) [.au]):=by
 apply pE [] hr zG7 Tryz.func163;intro Φ ak hF g;unfold I6 at hF;have c0:= @Au;exact wL
def BB(a0:Int):Option Bool:=
 (I6 a0).bind λz1=>
 J (!z1)
def zi2{a0 r}(hr:BB a0=J r):ap Tryz.prog 116 [(.sh,.int .i64 a0),(.sh,.fp [.func (.func 163) [] []])] (Eo (.bool r) cI):=by
 apply pE [] hr LB Tryz.func116;intro Φ ak hF g;unfold BB at hF;have c0:= @zpw;exact wL
def SN(a0:List Int):Option Int:=
 ((aS (σ:=Unit) (λi5 s4=>
 (ix a0 i5).bind λaU=>
 (BB aU).bind λbH=>
 if bH=Z then(
 J (.out (.inr i5)))else(
 J (.go ()))) (λs4=>.inl ()) (a0.length) 0 ():Option (Unit ⊕ Int)).bind (Sum.elim (λx3=>
 J (-1)) J))
def zfn{a0 r}(hr:SN a0=J r):ap Tryz.prog 174 [(.sh,vC a0),(.sh,.func (.func 116) [] [.fp [.func (.func 163) [] []]])] (Eo (.int .i64 r) cI):=by
 apply pE [] hr Ms Tryz.func174;intro Φ ak hF g;unfold SN at hF
 iterate 2 (try simp[go_sem,g];try intros;refine bu ?_)
 refine wS hF (λx3=>[]) (λx3 hF=>?_) λ_ hj0 dD hF=>?_
 ·exact wl ak hF
 refine wR hF [0,1,7] (λi5 s4=>[(8,.v (.int .i64 i5))]) λb bg i5 s4 _ _ aO aN bp ba hF=>?_
 have c0:= @zi2;exact wL
def TJ(a0:List Int):Option Bool:=
 (SN a0).bind λz1=>
 J (decide (0<=z1))
def ze0{a0 r}(hr:TJ a0=J r):ap Tryz.prog 115 [(.sh,vC a0),(.sh,.func (.func 116) [] [.fp [.func (.func 163) [] []]])] (Eo (.bool r) cI):=by
 apply pE [] hr Nk Tryz.func115;intro Φ ak hF g;unfold TJ at hF;have c0:= @zfn;exact wL
def DZ(a0:List Int):Option Bool:=
 (TJ a0).bind λz1=>
 J (!z1)
def WB{a0 r}(hr:DZ a0=J r):ap Tryz.prog 69 [(.sh,vC a0),(.sh,.func (.func 163) [] [])] (Eo (.bool r) cI):=by
 apply pF 9 [] [] [1000000] [.tmp 4] hr Oq Tryz.func69;intro Φ ak hF g;unfold DZ at hF;have c0:= @ze0;exact wL
def HB(a0:List Int):Option Bool:=
 ((if decide ((a0.length:Int)<=400)=Z then(
 (DZ a0).bind λz5=>
 J z5)else(
 J aa):Option Bool).bind λx3=>
 J x3)
def zoC{a0 r}(hr:HB a0=J r):ap Tryz.prog 214 [(.sh,vC a0)] (Eo (.bool r) [.au]):=by
 apply pE [] hr zGH Tryz.func214;intro Φ ak hF g;unfold HB at hF;refine wW ?_;refine wJ hF (λx3=>[(2,.v (.bool x3))]) (λx3 hF=>?_) λ_ hj0 hF=>?_
 ·exact wm ak hF
 have c0:= @WB;exact wL
def HQ(a0:List Int):Option Int:=
 gd (([(a0.length:Int)].length+a0.length)*8<=140737488355328/\[(a0.length:Int)].length+a0.length<=4611686018427387904)<|
 (J ([(a0.length:Int)]++a0)).bind λx1=>
 ((aS (σ:=Int×Int) (λi7 s6=>
 (ix x1 i7).bind λgW=>
 J (.go ((i64.wrap ((i64.wrap ((i64.wrap (48271*((i64.wrap ((i64.wrap ((i64.wrap (48271*s6.1))+(i64.wrap ((BitVec.ofInt i64.bits gW&&&BitVec.ofInt i64.bits 2147483647).toNat))))+1)).tmod 2147483647)))+(gW.fdiv 2147483648)))+1)).tmod 2147483647,(i64.wrap ((i64.wrap ((i64.wrap (69621*((i64.wrap ((i64.wrap ((i64.wrap (69621*s6.2))+(i64.wrap ((BitVec.ofInt i64.bits gW&&&BitVec.ofInt i64.bits 2147483647).toNat))))+1)).tmod 2147483647)))+(gW.fdiv 2147483648)))+1)).tmod 2147483647))) (λs6=>(s6.1,s6.2)) (x1.length) 0 (1,2):Option ((Int×Int))).bind λx5=>
 J (i64.wrap ((i64.wrap (x5.1*2147483648))+x5.2)))
def zul{a0 r}(hr:HQ a0=J r):ap Tryz.prog 215 [(.sh,vC a0)] (Eo (.int .i64 r) [.au]):=by
 apply pE [] hr zGW Tryz.func215;intro Φ ak hF g;unfold HQ at hF;obtain⟨g,hF⟩:=Rg g hF;obtain⟨x1,e2,hF⟩:=mg hF;have g:=And.intro g (show[.int .i64 (a0.length:Int)]::(List.map aJ a0)=x1.map aJ by injection e2 with e2;rw[<-e2];simp[go_sem])
 iterate 2 (try simp[go_sem,g];try intros;refine bu ?_)
 try simp[go_sem,g]
 try intros
 refine wK [3,4,13,14,15] ?_;refine wJ hF (λx5=>[(3,.v (.int .i64 x5.1)),(4,.v (.int .i64 x5.2))]) (λx5 hF=>?_) λ_ hj0 hF=>?_
 ·have g:=Ls g 31;exact wl ak hF
 refine wR hF [13,14] (λi7 s6=>[(3,.v (.int .i64 s6.1)),(4,.v (.int .i64 s6.2)),(15,.v (.int .i64 i7))]) λb bg i7 s6 _ _ aO aN bp ba hF=>?_
 refine wW ?_;refine wu aO aN ?_;refine wW ?_;refine wB ?_;obtain⟨gW,g,hF⟩:=Rx g hF;have g:=Ls g 31;refine wW ?_;refine wK [3,4,7,8,13,14,15] ?_;have g:=Ld g 2147483647;exact wL
def Kk(a0:List Int):Option (Int×Bool):=
 (HB a0).bind λz1=>
 if(!z1)=Z then(
 J (0,aa))else(
 (HQ a0).bind λz3=>
 J (z3,Z))
def zpS{a0 r}(hr:Kk a0=J r):ap Tryz.prog 210 [(.sh,vC a0)] (Eo (.bO [.int .i64 r.1,.bool r.2]) [.au]):=by
 apply pE [] hr zGj Tryz.func210;intro Φ ak hF g;unfold Kk at hF;have c0:= @zoC;have c1:= @zul;exact wL
def Br(a0:ByteArray)(a1:List Int):Option (Int×Bool):=
 ((if decide (40<(a0.size:Int))=Z then(
 J Z)else(
 J (decide (400<(a1.length:Int)))):Option Bool).bind λx3=>
 if x3=Z then(
 J (0,aa))else(
 (LH a0 a1).bind λz6=>
 (Kk z6).bind λz7=>
 J (z7.1,z7.2)))
def UO{a0 a1 r}(hr:Br a0 a1=J r):ap Tryz.prog 177 [(.sh,.str a0),(.sh,vC a1)] (Eo (.bO [.int .i64 r.1,.bool r.2]) cI):=by
 apply pE [] hr zE1 Tryz.func177;intro Φ ak hF g;unfold Br at hF;refine wW ?_;refine bT hF [0,1] (λx3=>[(13,.v (.bool x3))]) (λx3 hF=>?_) λ_ hj0 hF=>?_
 ·have c0:= @zpA;have c1:= @zpS;exact wL
 exact wL
def xj(a0:am)(a1:ByteArray)(a2:Int):Option (Int×Bool):=
 ((dJ (σ:=Int) (λs4=>
 if decide (s4<1000)=Z then(
 (Br a1 [a0.P,a0.Q,a0.G,a2,s4]).bind λbX=>
 if(!bX.2)=Z then(
 J (.out (.inr (0,aa))))else(
 gd (i64.wrap (a0.P-1)≠0)<|
 gd (a0.Q≠0)<|
 (nA (i64.wrap (1+(bX.1.tmod (i64.wrap (a0.P-1))))) (i64.wrap ((i64.wrap (a0.P-1)).tdiv a0.Q)) a0.P).bind λbH=>
 if(bH !=1)=Z then(
 J (.out (.inr (bH,Z))))else(
 J (.go (i64.wrap (s4+1))))))else(
 J (.out (.inl ())))) 0:Option (Unit ⊕ (Int×Bool))).bind (Sum.elim (λx3=>
 J (0,aa)) J))
def W3{a0 a1 a2 r}(hr:xj a0 a1 a2=J r):ap Tryz.prog 122 [(.sh,vE a0),(.sh,.str a1),(.sh,.int .i64 a2)] (Eo (.bO [.int .i64 r.1,.bool r.2]) gx):=by
 apply pE [] hr zH1 Tryz.func122;intro Φ ak hF g;unfold xj at hF
 iterate 2 refine wW ?_
 refine wS hF (λx3=>[]) (λx3 hF=>?_) λ_ hj0 dD hF=>?_
 ·exact wl ak hF
 refine wB ?_;obtain⟨b14,Jy,bg⟩:=hF;refine jQ Jy [1,2,3] (λs4=>[(12,.v (.int .i64 s4))]) λs4 _ _ bp ba hF=>?_
 refine wW ?_;refine wI hF (λh9 hF=>?_) λh9 hF=>?_
 ·refine wW ?_;refine wB ?_;refine wW ?_;refine wE hF UO λbX hF=>?_
  refine wK [1,2,3,9,10,12] ?_;refine wW ?_;refine wI hF (λCj hF=>?_) λCj hF=>?_
  ·exact wL
  refine wW ?_;refine wZ (kD 0 [0,25,26,0,0,0,25,26,0,25,26,0,25,26,3,0]) follows ?_;have c0:= @Fa;exact wL
 exact wL
def lw(a0:am)(a1:Int):Option (cr×Bool):=
 (xj a0 (⟨#[104]⟩:ByteArray) 0).bind λz1=>
 ((dJ (σ:=Int×List Int×Bool×Int) (λgv=>
 if decide (gv.2.2.2<a1)=Z then(
 (xj a0 (⟨#[104,115]⟩:ByteArray) gv.2.2.2).bind λkM=>
 ((if gv.2.2.1=Z then(
 J kM.2)else(
 J aa):Option Bool).bind λqH=>
 gd ((gv.2.1.length+1)*8<=140737488355328/\gv.2.1.length+1<=4611686018427387904)<|
 J (.go (gv.1,gv.2.1++[kM.1],qH,i64.wrap (gv.2.2.2+1)))))else(
 J (.out (gv.1,gv.2.1,gv.2.2.1)))) (z1.1,[],Z,0):Option ((Int×List Int×Bool))).bind λx4=>
 ((if(!z1.2)=Z then(
 J Z)else(
 J (!x4.2.2)):Option Bool).bind λB5=>
 if B5=Z then(
 J ((cr.mk 0 []),aa))else(
 J ((cr.mk x4.1 x4.2.1),Z))))
def W6{a0 a1 r}(hr:lw a0 a1=J r):ap Tryz.prog 77 [(.sh,vE a0),(.sh,.int .i64 a1)] (Eo (.bO [vI r.1,.bool r.2]) cI):=by
 apply pE [] hr zLK Tryz.func77;intro Φ ak hF g;unfold lw at hF;refine wW ?_;refine wE hF W3 λz1 hF=>?_
 refine wK [1,2,4,6,7] ?_
 iterate 2 refine wW ?_
 refine bT hF [4,7] (λx4=>[(8,.bl [.int .i64 x4.1,vD x4.2.1]),(9,.v (.bool x4.2.2))]) (λx4 hF=>?_) λ_ hj0 hF=>?_
 ·refine bT hF [4,8] (λB5=>[(46,.v (.bool B5))]) (λB5 hF=>?_) λ_ hj0 hF=>?_
  ·exact wL
  exact wL
 refine wB ?_;obtain⟨b27,Tv,bg⟩:=hF;refine jQ Tv [2,4,7,20] (λgv=>[(8,.bl [.int .i64 gv.1,vD gv.2.1]),(9,.v (.bool gv.2.2.1)),(21,.v (.int .i64 gv.2.2.2))]) λgv _ _ bp ba hF=>?_
 refine wW ?_;refine wI hF (λJd hF=>?_) λJd hF=>?_
 ·refine wW ?_;refine wB ?_;refine wK [2,4,7,8,9,10,20,21] ?_;refine wE hF W3 λkM hF=>?_
  refine wW ?_;refine bT hF [2,4,7,8,11,20,21] (λqH=>[(9,.v (.bool qH))]) (λqH hF=>?_) λ_ kg hF=>?_
  ·exact wL
  exact wL
 exact wL
def tt(a0:am)(a1:Int)(a2:List an):Option (cr×Bool):=
 (((HR a0).bind λz4=>
 if(!z4)=Z then(
 J Z)else(
 (yR a0 a1).bind λz6=>
 if(!z6)=Z then(
 J Z)else(
 (yG a0 a2).bind λz8=>
 J (!z8))):Option Bool).bind λx3=>
 if x3=Z then(
 J ((cr.mk 0 []),aa))else(
 (lw a0 (a2.length:Int)).bind λbX=>
 J (bX.1,bX.2)))
def LZ{a0 a1 a2 r}(hr:tt a0 a1 a2=J r):ap Tryz.prog 28 [(.sh,vE a0),(.sh,.int .i64 a1),(.sh,vH a2)] (Eo (.bO [vI r.1,.bool r.2]) gx):=by
 apply pE [] hr zJW Tryz.func28;intro Φ ak hF g;unfold tt at hF;refine wW ?_;refine bT hF [2,3,6] (λx3=>[(22,.v (.bool x3))]) (λx3 hF=>?_) λ_ hj0 hF=>?_
 ·have c0:= @W6;exact wL
 have c0:= @zm1;have c1:= @TD;have c2:= @KT;exact wL
def D5(a0:Int):Option Bool:=
 ((if(a0==1)=Z then(
 J Z)else(
 J (a0==2)):Option Bool).bind λx3=>
 J x3)
def X6{a0 r}(hr:D5 a0=J r):ap Tryz.prog 29 [(.sh,.int .i64 a0)] (Eo (.bool r) [.au]):=by
 apply pE [] hr zMH Tryz.func29;intro Φ ak hF g;unfold D5 at hF;refine wW ?_;refine wJ hF (λx3=>[(2,.v (.bool x3))]) (λx3 hF=>?_) λ_ hj0 hF=>?_
 ·exact wm ak hF
 exact wL
def Hq(a0:Int)(a1:Int):Option Int:=
 if(a0==1)=Z then(
 J (i64.wrap ((i64.wrap (5*a1))+4)))else(
 J (i64.wrap ((i64.wrap (9*a1))+2)))
def zmz{a0 a1 r}(hr:Hq a0 a1=J r):ap Tryz.prog 30 [(.sh,.int .i64 a0),(.sh,.int .i64 a1)] (Eo (.int .i64 r) cI):=by
 apply pE [] hr zMN Tryz.func30;intro Φ ak hF g;unfold Hq at hF;exact wL
def Nw(a0:Int)(xF:List Int):Option Bool:=
 (pD a0 0 (i64.wrap ((xF.length:Int)-1))).bind λz1=>
 J z1
def zlb{a0 xF r}(hr:Nw a0 xF=J r):ap Tryz.prog 70 [(.sh,.int .i64 a0),(.sh,.fp [vC xF])] (Eo (.bool r) cI):=by
 apply pE [] hr zLN Tryz.func70;intro Φ ak hF g;unfold Nw at hF;have c0:= @Au;exact wL
def JC(a0:Int)(Mc:List Int):Option Bool:=
 (Nw a0 Mc).bind λz1=>
 J (!z1)
def zhM{a0 Mc r}(hr:JC a0 Mc=J r):ap Tryz.prog 116 [(.sh,.int .i64 a0),(.sh,.fp [.func (.func 70) [] [.fp [vC Mc]]])] (Eo (.bool r) cI):=by
 apply pE [] hr LB Tryz.func116;intro Φ ak hF g;unfold JC at hF;have c0:= @zlb;exact wL
def NH(a0:List Int)(ye:List Int):Option Int:=
 ((aS (σ:=Unit) (λi5 s4=>
 (ix a0 i5).bind λaU=>
 (JC aU ye).bind λbH=>
 if bH=Z then(
 J (.out (.inr i5)))else(
 J (.go ()))) (λs4=>.inl ()) (a0.length) 0 ():Option (Unit ⊕ Int)).bind (Sum.elim (λx3=>
 J (-1)) J))
def zeA{a0 ye r}(hr:NH a0 ye=J r):ap Tryz.prog 174 [(.sh,vC a0),(.sh,.func (.func 116) [] [.fp [.func (.func 70) [] [.fp [vC ye]]]])] (Eo (.int .i64 r) cI):=by
 apply pE [] hr Ms Tryz.func174;intro Φ ak hF g;unfold NH at hF
 iterate 2 (try simp[go_sem,g];try intros;refine bu ?_)
 refine wS hF (λx3=>[]) (λx3 hF=>?_) λ_ hj0 dD hF=>?_
 ·exact wl ak hF
 refine wR hF [0,1,7] (λi5 s4=>[(8,.v (.int .i64 i5))]) λb bg i5 s4 _ _ aO aN bp ba hF=>?_
 have c0:= @zhM;exact wL
def LS(a0:List Int)(ye:List Int):Option Bool:=
 (NH a0 ye).bind λz1=>
 J (decide (0<=z1))
def zen{a0 ye r}(hr:LS a0 ye=J r):ap Tryz.prog 115 [(.sh,vC a0),(.sh,.func (.func 116) [] [.fp [.func (.func 70) [] [.fp [vC ye]]]])] (Eo (.bool r) cI):=by
 apply pE [] hr Nk Tryz.func115;intro Φ ak hF g;unfold LS at hF;have c0:= @zeA;exact wL
def Kf(a0:List Int)(pJ:List Int):Option Bool:=
 (LS a0 pJ).bind λz1=>
 J (!z1)
def zh5{a0 pJ r}(hr:Kf a0 pJ=J r):ap Tryz.prog 69 [(.sh,vC a0),(.sh,.func (.func 70) [] [.fp [vC pJ]])] (Eo (.bool r) cI):=by
 apply pF 9 [] [] [1000000] [.tmp 4] hr Oq Tryz.func69;intro Φ ak hF g;unfold Kf at hF;have c0:= @zen;exact wL
def DC(a0:List Int)(a1:Int):Option Int:=
 ((aS (σ:=Unit) (λi5 s4=>
 (ix a0 i5).bind λaU=>
 if(a1==aU)=Z then(
 J (.out (.inr i5)))else(
 J (.go ()))) (λs4=>.inl ()) (a0.length) 0 ():Option (Unit ⊕ Int)).bind (Sum.elim (λx3=>
 J (-1)) J))
def zlL{a0 a1 r}(hr:DC a0 a1=J r):ap Tryz.prog 175 [(.sh,vC a0),(.sh,.int .i64 a1)] (Eo (.int .i64 r) cI):=by
 apply pE [] hr zFl Tryz.func175;intro Φ ak hF g;unfold DC at hF
 iterate 2 (try simp[go_sem,g];try intros;refine bu ?_)
 refine wS hF (λx3=>[]) (λx3 hF=>?_) λ_ hj0 dD hF=>?_
 ·exact wl ak hF
 refine wR hF [0,1,7] (λi5 s4=>[(8,.v (.int .i64 i5))]) λb bg i5 s4 _ _ aO aN bp ba hF=>?_
 exact wL
def IY(a0:List Int)(a1:Int):Option Bool:=
 (DC a0 a1).bind λz1=>
 J (decide (0<=z1))
def zkj{a0 a1 r}(hr:IY a0 a1=J r):ap Tryz.prog 117 [(.sh,vC a0),(.sh,.int .i64 a1)] (Eo (.bool r) cI):=by
 apply pE [] hr zIf Tryz.func117;intro Φ ak hF g;unfold IY at hF;have c0:= @zlL;exact wL
def Fl(a0:List Int):Option Bool:=
 ((aS (σ:=Unit) (λi5 s4=>
 (ix a0 i5).bind λaU=>
 gd (0<=i5)<|
 gd (0<=i5.toNat/\i5.toNat<=a0.length)<|
 (IY ((a0.take i5.toNat).drop 0) aU).bind λbH=>
 if bH=Z then(
 J (.out (.inr aa)))else(
 J (.go ()))) (λs4=>.inl ()) (a0.length) 0 ():Option (Unit ⊕ Bool)).bind (Sum.elim (λx3=>
 J Z) J))
def zm6{a0 r}(hr:Fl a0=J r):ap Tryz.prog 71 [(.sh,vC a0)] (Eo (.bool r) [.au]):=by
 apply pE [] hr zM3 Tryz.func71;intro Φ ak hF g;unfold Fl at hF
 iterate 2 (try simp[go_sem,g];try intros;refine bu ?_)
 refine wS hF (λx3=>[]) (λx3 hF=>?_) λ_ hj0 dD hF=>?_
 ·exact wl ak hF
 refine wR hF [0,5,6] (λi5 s4=>[(7,.v (.int .i64 i5))]) λb bg i5 s4 _ _ aO aN bp ba hF=>?_
 have c0:= @zkj;exact wL
def Ji(a0:List Int):Option Bool:=
 ((if decide ((a0.length:Int)<=24)=Z then(
 (Kf a0 a0).bind λz5=>
 if z5=Z then(
 (Fl a0).bind λz7=>
 J z7)else(
 J aa))else(
 J aa):Option Bool).bind λx3=>
 J x3)
def zmp{a0 r}(hr:Ji a0=J r):ap Tryz.prog 26 [(.sh,vC a0)] (Eo (.bool r) [.au]):=by
 apply pF 15 [] [] [1000000] [.tmp 2] hr zNh Tryz.func26;intro Φ ak hF g;unfold Ji at hF;refine wW ?_;refine wJ hF (λx3=>[(2,.v (.bool x3))]) (λx3 hF=>?_) λ_ hj0 hF=>?_
 ·exact wm ak hF
 have c0:= @zh5;have c1:= @zm6;exact wL
def IZ(a0:am)(a1:Int):Option Bool:=
 (pD a1 0 (i64.wrap (a0.Q-1))).bind λz1=>
 J z1
def znX{a0 a1 r}(hr:IZ a0 a1=J r):ap Tryz.prog 123 [(.sh,vE a0),(.sh,.int .i64 a1)] (Eo (.bool r) cI):=by
 apply pE [] hr zHp Tryz.func123;intro Φ ak hF g;unfold IZ at hF;have c0:= @Au;exact wL
def I1(a0:Int)(wo:am):Option Bool:=
 (IZ wo a0).bind λz1=>
 J (!z1)
def ziq{a0 wo r}(hr:I1 a0 wo=J r):ap Tryz.prog 116 [(.sh,.int .i64 a0),(.sh,.fp [.func (.func 123) [vE wo] []])] (Eo (.bool r) cI):=by
 apply pE [] hr LB Tryz.func116;intro Φ ak hF g;unfold I1 at hF;have c0:= @znX;exact wL
def P4(a0:List Int)(lY:am):Option Int:=
 ((aS (σ:=Unit) (λi5 s4=>
 (ix a0 i5).bind λaU=>
 (I1 aU lY).bind λbH=>
 if bH=Z then(
 J (.out (.inr i5)))else(
 J (.go ()))) (λs4=>.inl ()) (a0.length) 0 ():Option (Unit ⊕ Int)).bind (Sum.elim (λx3=>
 J (-1)) J))
def ze1{a0 lY r}(hr:P4 a0 lY=J r):ap Tryz.prog 174 [(.sh,vC a0),(.sh,.func (.func 116) [] [.fp [.func (.func 123) [vE lY] []]])] (Eo (.int .i64 r) cI):=by
 apply pE [] hr Ms Tryz.func174;intro Φ ak hF g;unfold P4 at hF
 iterate 2 (try simp[go_sem,g];try intros;refine bu ?_)
 refine wS hF (λx3=>[]) (λx3 hF=>?_) λ_ hj0 dD hF=>?_
 ·exact wl ak hF
 refine wR hF [0,1,7] (λi5 s4=>[(8,.v (.int .i64 i5))]) λb bg i5 s4 _ _ aO aN bp ba hF=>?_
 have c0:= @ziq;exact wL
def O7(a0:List Int)(lY:am):Option Bool:=
 (P4 a0 lY).bind λz1=>
 J (decide (0<=z1))
def zeB{a0 lY r}(hr:O7 a0 lY=J r):ap Tryz.prog 115 [(.sh,vC a0),(.sh,.func (.func 116) [] [.fp [.func (.func 123) [vE lY] []]])] (Eo (.bool r) cI):=by
 apply pE [] hr Nk Tryz.func115;intro Φ ak hF g;unfold O7 at hF;have c0:= @ze1;exact wL
def LW(a0:List Int)(xI:am):Option Bool:=
 (O7 a0 xI).bind λz1=>
 J (!z1)
def zi0{a0 xI r}(hr:LW a0 xI=J r):ap Tryz.prog 69 [(.sh,vC a0),(.sh,.func (.func 123) [vE xI] [])] (Eo (.bool r) cI):=by
 apply pF 9 [] [] [1000000] [.tmp 4] hr Oq Tryz.func69;intro Φ ak hF g;unfold LW at hF;have c0:= @zeB;exact wL
def uP(a0:am)(a1:List Int):Option Bool:=
 (LW a1 a0).bind λz1=>
 J z1
def Hf{a0 a1 r}(hr:uP a0 a1=J r):ap Tryz.prog 78 [(.sh,vE a0),(.sh,vC a1)] (Eo (.bool r) cI):=by
 apply pE [] hr zMd Tryz.func78;intro Φ ak hF g;unfold uP at hF;have c0:= @zi0;exact wL
def A6(a0:am)(a1:List Int)(a2:List Int)(a3:Int):Option Bool:=
 (((Ji a1).bind λz4=>
 if z4=Z then(
 if((a1.length:Int)==a3)=Z then(
 if((a2.length:Int)==a3)=Z then(
 (uP a0 a2).bind λz8=>
 J z8)else(
 J aa))else(
 J aa))else(
 J aa):Option Bool).bind λx3=>
 J x3)
def Ri{a0 a1 a2 a3 r}(hr:A6 a0 a1 a2 a3=J r):ap Tryz.prog 31 [(.sh,vE a0),(.sh,vC a1),(.sh,vC a2),(.sh,.int .i64 a3)] (Eo (.bool r) kL):=by
 apply pE [] hr zMz Tryz.func31;intro Φ ak hF g;unfold A6 at hF;refine wW ?_;refine wJ hF (λx3=>[(8,.v (.bool x3))]) (λx3 hF=>?_) λ_ hj0 hF=>?_
 ·exact wm ak hF
 have c0:= @zmp;have c1:= @Hf;exact wL
def AV(a0:Int)(a1:Int):Option Int:=
 gd (a1≠0)<|
 gd (a1≠0)<|
 J ((i64.wrap ((a0.tmod a1)+a1)).tmod a1)
def OR{a0 a1 r}(hr:AV a0 a1=J r):ap Tryz.prog 178 [(.sh,.int .i64 a0),(.sh,.int .i64 a1)] (Eo (.int .i64 r) cI):=by
 apply pE [] hr zFu Tryz.func178;intro Φ ak hF g;unfold AV at hF;exact wL
def cQ(a0:am)(a1:Int)(a2:Int):Option Int:=
 (AV a2 a0.Q).bind λz1=>
 (nA a1 z1 a0.P).bind λz2=>
 J z2
def gL{a0 a1 a2 r}(hr:cQ a0 a1 a2=J r):ap Tryz.prog 134 [(.sh,vE a0),(.sh,.int .i64 a1),(.sh,.int .i64 a2)] (Eo (.int .i64 r) gx):=by
 apply pE [] hr zFx Tryz.func134;intro Φ ak hF g;unfold cQ at hF;refine wW ?_;refine wZ (kE [0,1,2,3,5,6,4,7,8] [0,0,25,26,25,26,3,3,0]) follows ?_;have c0:= @OR;have c1:= @Fa;exact wL
def eg(a0:am)(a1:List Int):Option Int:=
 ((aS (σ:=Int) (λi5 s4=>
 (ix a1 i5).bind λaU=>
 gd (a0.P≠0)<|
 J (.go ((i64.wrap (s4*aU)).tmod a0.P))) (λs4=>s4) (a1.length) 0 1:Option Int).bind λx3=>
 J x3)
def jN{a0 a1 r}(hr:eg a0 a1=J r):ap Tryz.prog 135 [(.sh,vE a0),(.sh,vC a1)] (Eo (.int .i64 r) cI):=by
 apply pE [] hr zGa Tryz.func135;intro Φ ak hF g;unfold eg at hF
 iterate 3 (try simp[go_sem,g];try intros;refine bu ?_)
 refine wJ hF (λx3=>[(5,.v (.int .i64 x3))]) (λx3 hF=>?_) λ_ hj0 hF=>?_
 ·exact wl ak hF
 refine wR hF [2,8,9] (λi5 s4=>[(5,.v (.int .i64 s4)),(10,.v (.int .i64 i5))]) λb bg i5 s4 _ _ aO aN bp ba hF=>?_
 exact wL
def Jp(a0:am)(a1:Int)(a2:Int)(a3:Int):Option an:=
 (cQ a0 a0.G a3).bind λz1=>
 (cQ a0 a1 a3).bind λz2=>
 (eg a0 [a2,z2]).bind λz3=>
 J (an.mk z1 z3)
def zmB{a0 a1 a2 a3 r}(hr:Jp a0 a1 a2 a3=J r):ap Tryz.prog 125 [(.sh,vE a0),(.sh,.int .i64 a1),(.sh,.int .i64 a2),(.sh,.int .i64 a3)] (Eo (vF r) kL):=by
 apply pE [] hr zHc Tryz.func125;intro Φ ak hF g;unfold Jp at hF;refine wW ?_;refine wZ (kE [0,1,2,3,5,6,7,8,9,4,10,11,12,13,14] [34,33,34,0,34,0,34,0,0,3,3,0,6,0,66]) follows ?_;have c0:= @gL;have c1:= @jN;exact wL
def Ni(a0:am)(a1:an)(a2:an):Option an:=
 (eg a0 [a1.A,a2.A]).bind λz1=>
 (eg a0 [a1.B,a2.B]).bind λz2=>
 J (an.mk z1 z2)
def zm4{a0 a1 a2 r}(hr:Ni a0 a1 a2=J r):ap Tryz.prog 124 [(.sh,vE a0),(.sh,vF a1),(.sh,vF a2)] (Eo (vF r) gx):=by
 apply pE [] hr zFY Tryz.func124;intro Φ ak hF g;unfold Ni at hF;refine wW ?_;refine wZ (kE [0,1,2,3,4,5,7,8,9,10,11,12,6,13,14,15] [26,33,34,41,42,0,26,33,34,41,42,0,6,6,0,50]) follows ?_;have c0:= @jN;exact wL
def FI(a0:am)(a1:Int)(a2:an)(a3:Int):Option an:=
 (Jp a0 a1 1 a3).bind λz1=>
 (Ni a0 a2 z1).bind λz2=>
 J z2
def zlJ{a0 a1 a2 a3 r}(hr:FI a0 a1 a2 a3=J r):ap Tryz.prog 79 [(.sh,vE a0),(.sh,.int .i64 a1),(.sh,vF a2),(.sh,.int .i64 a3)] (Eo (vF r) kL):=by
 apply pE [] hr zMg Tryz.func79;intro Φ ak hF g;unfold FI at hF;refine wW ?_;refine wZ (kD 0 [34,50,34,0,0,3,3,66]) follows ?_;have c0:= @zmB;have c1:= @zm4;exact wL
def Cl(a0:am)(a1:Int)(a2:List an)(a3:List Int)(a4:List Int):Option ((List an)):=
 ((aS (σ:=(List an)) (λi5 s4=>
 (ix a3 i5).bind λaU=>
 (ix a2 aU).bind λcY=>
 (ix a4 i5).bind λgW=>
 (FI a0 a1 cY gW).bind λeT=>
 gd ((s4.length+1)*16<=140737488355328/\s4.length+1<=4611686018427387904)<|
 J (.go (s4++[eT]))) (λs4=>s4) (a3.length) 0 []:Option ((List an))).bind λx3=>
 J x3)
def OV{a0 a1 a2 a3 a4 r}(hr:Cl a0 a1 a2 a3 a4=J r):ap Tryz.prog 32 [(.sh,vE a0),(.sh,.int .i64 a1),(.sh,vH a2),(.sh,vC a3),(.sh,vC a4)] (Eo (vG r) rZ):=by
 apply pE [] hr zMT Tryz.func32;intro Φ ak hF g;unfold Cl at hF
 iterate 3 (try simp[go_sem,g];try intros;refine bu ?_)
 refine wJ hF (λx3=>[(11,.v (vG x3))]) (λx3 hF=>?_) λ_ hj0 hF=>?_
 ·exact wl ak hF
 refine wR hF [1,2,4,5,15,16] (λi5 s4=>[(11,.v (vG s4)),(17,.v (.int .i64 i5))]) λb bg i5 s4 _ _ aO aN bp ba hF=>?_
 refine wW ?_;refine wu aO aN ?_;refine wW ?_;refine wB ?_;obtain⟨aU,g,hF⟩:=Rx g hF;refine wK [1,2,4,5,11,12,13,15,16,17] ?_;refine wZ (kD 0 [0,42,0,0,0,0,0,0,0,0,0,3,0,5,0]) follows ?_;have c0:= @zlJ;exact wL
def i9(aL:List Int)(a1:Int):Option (List Int×List Int):=
 gd (0<=a1)<|
 gd (0<=a1.toNat/\a1.toNat<=aL.length)<|
 gd (0<=a1)<|
 gd (a1.toNat<=aL.length/\aL.length<=aL.length)<|
 J ((aL.take a1.toNat).drop 0,(aL.take aL.length).drop a1.toNat)
def mn{aL a1 r}(hr:i9 aL a1=J r):ap Tryz.prog 126 [(.io,.bx [vC aL]),(.sh,.int .i64 a1)] (Eo (vC r.1) [.bx [vC r.2],.au]):=by
 apply pE [0] hr zF7 Tryz.func126;intro Φ ak hF g;unfold i9 at hF;exact wL
def r8(aL:List Int):Option (Int×List Int):=
 (i9 aL 1).bind λz1=>
 (ix z1.1 0).bind λx2=>
 J (x2,z1.2)
def AJ{aL r}(hr:r8 aL=J r):ap Tryz.prog 127 [(.io,.bx [vC aL])] (Eo (.int .i64 r.1) [.bx [vC r.2]]):=by
 apply pE [0] hr zFH Tryz.func127;intro Φ ak hF g;unfold r8 at hF;have jc:= @mn;exact wL
def Jj(a0:am)(a1:cr)(a2:List Int)(a3:List Int):Option ((List Int)):=
 gd (0<=(a2.length:Int)/\(a2.length:Int)<=(a2.length:Int)/\8*(a2.length:Int)<=140737488355328/\(a2.length:Int)<=4611686018427387904)<|
 (J (List.replicate a2.length 0)).bind λx1=>
 ((aS (σ:=(List Int)) (λmB dx=>
 (ix a2 mB).bind λfM=>
 (ix a3 fM).bind λig=>
 (ix a1.Hs mB).bind λj6=>
 (cQ a0 a0.G ig).bind λeY=>
 (eg a0 [eY,j6]).bind λgp=>
 (ix dx fM).bind λn6=>
 J (.go (dx.set fM.toNat gp))) (λdx=>dx) (a2.length) 0 x1:Option ((List Int))).bind λx6=>
 J x6)
def zke{a0 a1 a2 a3 r}(hr:Jj a0 a1 a2 a3=J r):ap Tryz.prog 128 [(.sh,vE a0),(.sh,vJ a1),(.sh,vC a2),(.sh,vC a3)] (Eo (vD r) kL):=by
 apply pE [] hr zEA Tryz.func128;intro Φ ak hF g;unfold Jj at hF;obtain⟨g,hF⟩:=Rg g hF;obtain⟨x1,e2,hF⟩:=mg hF;have g3:List.replicate a2.length ([.int .i64 0]:List PV)=x1.map aJ:=by injection e2 with e2;rw[<-e2];simp[go_sem]
 iterate 2 (try simp[go_sem,g,g3];try intros;refine bu ?_)
 try simp[go_sem,g,g3]
 try intros
 refine wK [3,4,5,9,15,16,17] ?_;refine wJ hF (λx6=>[(9,.v (vD x6))]) (λx6 hF=>?_) λ_ hj0 hF=>?_
 ·exact wl ak hF
 refine wR hF [3,4,5,15,16] (λmB dx=>[(9,.v (vD dx)),(17,.v (.int .i64 mB))]) λb bg mB dx _ _ aO aN bp ba hF=>?_
 refine wW ?_;refine wu aO aN ?_;refine wW ?_;refine wB ?_;obtain⟨fM,g,hF⟩:=Rx g hF;refine wW ?_;refine wZ (kE [0,1,2,3,4,5,6,7,8,9,11,12,13,14,15,10,16,17,18,19] [0,0,34,34,33,34,0,0,0,0,41,42,0,0,0,4,0,6,0,0]) follows ?_;have c0:= @gL;have c1:= @jN;exact wL
def K8(a0:List an):Option (List an):=
 gd (a0.length*16<=140737488355328/\a0.length<=4611686018427387904)<|
 J a0
def zhB{a0:(List an)}{r:(List an)}(hr:K8 a0=J r):ap Tryz.prog 58 [(.sh,.sl aa 2 (a0.map jl))] (Eo (.sl Z 2 (r.map jl)) [.au]):=by
 apply On 8 [] [] [1000000] [.tmp 2] hr zLD Tryz.func58 rfl rfl rfl
 ·exact⟨by simp,rfl⟩
 intro Φ ak hF;unfold K8 at hF;obtain⟨g,hF⟩:=m7 hF;have h1:=ak _ (eZ hF);subst h1;try simp[go_sem]
 refine Hh [(0,.v (.sl aa 2 (a0.map jl)))] (by simp[go_sem]) ?_;try simp[go_sem]
 refine ZC rfl rfl (by simp[go_sem]) rfl (by rfl) λb hb=>?_
 try simp[go_sem]
 refine bu ?_
 repeat rw[QB]
 cases b
 ·refine RY (by simp[go_sem]) ?_;try simp[go_sem]
  refine bu ?_;try simp[go_sem,g]
  refine bu ?_;try simp[go_sem,g]
 have xN:a0=[]:=by
  cases a0 with
  |nil=>rfl
  |cons x l=>exact absurd (hb (by simp)) (by simp)
 subst xN;refine Na (by simp[go_sem]) ?_;try simp[go_sem]
 refine bu ?_;try simp[go_sem]
def qq(a0:Int)(a1:List an)(a2:List an)(a3:List Int):Option ((List Int)):=
 (K8 a1).bind λz1=>
 gd ((z1.length+a2.length)*16<=140737488355328/\z1.length+a2.length<=4611686018427387904)<|
 (J (z1++a2)).bind λx2=>
 ((aS (σ:=(List Int)) (λi8 s7=>
 (ix x2 i8).bind λe8=>
 gd ((s7.length+2)*8<=140737488355328/\s7.length+2<=4611686018427387904)<|
 J (.go (s7++[e8.A,e8.B]))) (λs7=>s7) (x2.length) 0 [a0]:Option ((List Int))).bind λx6=>
 gd ((x6.length+a3.length)*8<=140737488355328/\x6.length+a3.length<=4611686018427387904)<|
 J (x6++a3))
def D4{a0 a1 a2 a3 r}(hr:qq a0 a1 a2 a3=J r):ap Tryz.prog 129 [(.sh,.int .i64 a0),(.sh,vH a1),(.sh,vH a2),(.sh,vC a3)] (Eo (vD r) kL):=by
 apply pE [] hr zFT Tryz.func129;intro Φ ak hF g;unfold qq at hF
 iterate 2 refine wW ?_
 refine wE hF zhB λz1 hF=>?_
 obtain⟨g,hF⟩:=Rg g hF;obtain⟨x2,e3,hF⟩:=mg hF;have g:=And.intro g (show List.map jl z1++List.map jl a2=x2.map jl by injection e3 with e3;rw[<-e3];simp[go_sem]);try simp[go_sem,g]
 try intros
 refine wK [3,9,17,18,19] ?_;refine wJ hF (λx6=>[(3,.v (vC a3)),(9,.v (vD x6))]) (λx6 hF=>?_) λ_ hj0 hF=>?_
 ·exact wL
 refine wR hF [3,17,18] (λi8 s7=>[(9,.v (vD s7)),(19,.v (.int .i64 i8))]) λb bg i8 s7 _ _ aO aN bp ba hF=>?_
 exact wL
def u0(a0:List Int):Option (List Int):=
 gd (a0.length*8<=140737488355328/\a0.length<=4611686018427387904)<|
 J a0
def KX{a0:(List Int)}{r:(List Int)}(hr:u0 a0=J r):ap Tryz.prog 64 [(.sh,.sl aa 1 (a0.map aJ))] (Eo (.sl Z 1 (r.map aJ)) [.au]):=by
 apply On 8 [] [] [1000000] [.tmp 2] hr zNo Tryz.func64 rfl rfl rfl
 ·exact⟨by simp,rfl⟩
 intro Φ ak hF;unfold u0 at hF;obtain⟨g,hF⟩:=m7 hF;have h1:=ak _ (eZ hF);subst h1;try simp[go_sem]
 refine Hh [(0,.v (.sl aa 1 (a0.map aJ)))] (by simp[go_sem]) ?_;try simp[go_sem]
 refine ZC rfl rfl (by simp[go_sem]) rfl (by rfl) λb hb=>?_
 try simp[go_sem]
 refine bu ?_
 repeat rw[QB]
 cases b
 ·refine RY (by simp[go_sem]) ?_;try simp[go_sem]
  refine bu ?_;try simp[go_sem,g]
  refine bu ?_;try simp[go_sem,g]
 have xN:a0=[]:=by
  cases a0 with
  |nil=>rfl
  |cons x l=>exact absurd (hb (by simp)) (by simp)
 subst xN;refine Na (by simp[go_sem]) ?_;try simp[go_sem]
 refine bu ?_;try simp[go_sem]
def ml(a0:am)(a1:ByteArray)(a2:List Int):Option (Int×Bool):=
 gd (([a0.P,a0.Q,a0.G].length+a2.length)*8<=140737488355328/\[a0.P,a0.Q,a0.G].length+a2.length<=4611686018427387904)<|
 (Br a1 ([a0.P,a0.Q,a0.G]++a2)).bind λz1=>
 if(!z1.2)=Z then(
 J (0,aa))else(
 gd (a0.Q≠0)<|
 J (z1.1.tmod a0.Q,Z))
def yc{a0 a1 a2 r}(hr:ml a0 a1 a2=J r):ap Tryz.prog 137 [(.sh,vE a0),(.sh,.str a1),(.sh,vC a2)] (Eo (.bO [.int .i64 r.1,.bool r.2]) gx):=by
 apply pE [] hr zFQ Tryz.func137;intro Φ ak hF g;unfold ml at hF;have c0:= @UO;exact wL
def yJ(a0:am)(a1:ByteArray)(a2:List Int)(a3:Int):Option (List Int×Bool):=
 ((dJ (σ:=(List Int)×Int) (λs4=>
 if decide (s4.2<(if a3<1 then 1 else a3))=Z then(
 (u0 a2).bind λbX=>
 gd ((bX.length+1)*8<=140737488355328/\bX.length+1<=4611686018427387904)<|
 (ml a0 a1 (bX++[s4.2])).bind λb7=>
 if(!b7.2)=Z then(
 J (.out (.inr ([],aa))))else(
 gd ((s4.1.length+1)*8<=140737488355328/\s4.1.length+1<=4611686018427387904)<|
 J (.go (s4.1++[b7.1],i64.wrap (s4.2+1)))))else(
 J (.out (.inl s4.1)))) ([],0):Option ((List Int) ⊕ (List Int×Bool))).bind (Sum.elim (λx3=>
 gd (0<=a3)<|
 gd (0<=a3.toNat/\a3.toNat<=x3.length)<|
 J (x3.take a3.toNat,Z)) J))
def zid{a0 a1 a2 a3 r}(hr:yJ a0 a1 a2 a3=J r):ap Tryz.prog 130 [(.sh,vE a0),(.sh,.str a1),(.sh,vC a2),(.sh,.int .i64 a3)] (Eo (.bO [vD r.1,.bool r.2]) kL):=by
 apply pE [] hr zHl Tryz.func130;intro Φ ak hF g;unfold yJ at hF
 iterate 3 refine wW ?_
 refine wS hF (λx3=>[(3,.v (.int .i64 a3)),(10,.v (vD x3))]) (λx3 hF=>?_) λ_ hj0 dD hF=>?_
 ·exact wL
 refine wB ?_;obtain⟨b13,SS,bg⟩:=hF;refine jQ SS [1,2,3,4,16] (λs4=>[(10,.v (vD s4.1)),(17,.v (.int .i64 s4.2))]) λs4 _ _ bp ba hF=>?_
 refine wW ?_;refine wI hF (λh9 hF=>?_) λh9 hF=>?_
 ·refine wW ?_;refine wB ?_;refine wK [1,2,3,4,10,11,16,17] ?_;refine wZ (kE [0,1,2,4,5,3,6,7,8,9,10,11,12] [34,0,0,0,0,3,5,3,0,0,0,0,0]) follows ?_;have c0:= @KX;have c1:= @yc;exact wL
 exact wL
def EP(a0:List Int)(a1:List Int):Option ((List Int)):=
 ((aS (σ:=(List Int)) (λi5 s4=>
 (ix a1 i5).bind λaU=>
 (ix a0 aU).bind λcY=>
 gd ((s4.length+1)*8<=140737488355328/\s4.length+1<=4611686018427387904)<|
 J (.go (s4++[cY]))) (λs4=>s4) (a1.length) 0 []:Option ((List Int))).bind λx3=>
 J x3)
def zxm{a0 a1 r}(hr:EP a0 a1=J r):ap Tryz.prog 65 [(.sh,vC a0),(.sh,vC a1)] (Eo (vD r) cI):=by
 apply pE [] hr zKi Tryz.func65;intro Φ ak hF g;unfold EP at hF
 iterate 3 (try simp[go_sem,g];try intros;refine bu ?_)
 refine wJ hF (λx3=>[(5,.v (vD x3))]) (λx3 hF=>?_) λ_ hj0 hF=>?_
 ·exact wl ak hF
 refine wR hF [0,9,10] (λi5 s4=>[(5,.v (vD s4)),(11,.v (.int .i64 i5))]) λb bg i5 s4 _ _ aO aN bp ba hF=>?_
 exact wL
def J7(a0:am)(a1:Int)(a2:List Int)(a3:List Int):Option ((List Int)):=
 ((aS (σ:=Int×List Int) (λi5 s4=>
 (ix a2 i5).bind λaU=>
 (ix a3 i5).bind λcY=>
 (cQ a0 a0.G cY).bind λdk=>
 (cQ a0 s4.1 aU).bind λeT=>
 (eg a0 [dk,eT]).bind λfA=>
 gd ((s4.2.length+1)*8<=140737488355328/\s4.2.length+1<=4611686018427387904)<|
 J (.go (fA,s4.2++[fA]))) (λs4=>s4.2) (a2.length) 0 (a1,[]):Option ((List Int))).bind λx3=>
 J x3)
def zn1{a0 a1 a2 a3 r}(hr:J7 a0 a1 a2 a3=J r):ap Tryz.prog 131 [(.sh,vE a0),(.sh,.int .i64 a1),(.sh,vC a2),(.sh,vC a3)] (Eo (vD r) kL):=by
 apply pE [] hr zFF Tryz.func131;intro Φ ak hF g;unfold J7 at hF
 iterate 3 (try simp[go_sem,g];try intros;refine bu ?_)
 refine wJ hF (λx3=>[(9,.v (vD x3))]) (λx3 hF=>?_) λ_ hj0 hF=>?_
 ·exact wl ak hF
 refine wR hF [3,4,13,14] (λi5 s4=>[(1,.v (.int .i64 s4.1)),(9,.v (vD s4.2)),(15,.v (.int .i64 i5))]) λb bg i5 s4 _ _ aO aN bp ba hF=>?_
 refine wW ?_;refine wu aO aN ?_;refine wW ?_;refine wB ?_;obtain⟨aU,g,hF⟩:=Rx g hF;refine wK [1,3,4,9,10,11,13,14,15] ?_;refine wZ (kE [0,1,2,3,4,5,6,7,9,10,11,8,12,13,14,15] [34,34,33,34,0,0,0,0,34,0,0,3,3,0,6,0]) follows ?_;have c0:= @gL;have c1:= @jN;exact wL
def eU(a0:am)(a1:Int):Option Int:=
 (AV a1 a0.Q).bind λz1=>
 J z1
def mq{a0 a1 r}(hr:eU a0 a1=J r):ap Tryz.prog 132 [(.sh,vE a0),(.sh,.int .i64 a1)] (Eo (.int .i64 r) cI):=by
 apply pE [] hr zGb Tryz.func132;intro Φ ak hF g;unfold eU at hF;have c0:= @OR;exact wL
def ul(a0:List an):Option (List Int×List Int):=
 ((aS (σ:=(List Int)×List Int) (λi5 s4=>
 (ix a0 i5).bind λaU=>
 gd ((s4.1.length+1)*8<=140737488355328/\s4.1.length+1<=4611686018427387904)<|
 gd ((s4.2.length+1)*8<=140737488355328/\s4.2.length+1<=4611686018427387904)<|
 J (.go (s4.1++[aU.A],s4.2++[aU.B]))) (λs4=>(s4.1,s4.2)) (a0.length) 0 ([],[]):Option ((List Int×List Int))).bind λx3=>
 J (x3.1,x3.2))
def E8{a0 r}(hr:ul a0=J r):ap Tryz.prog 133 [(.sh,vH a0)] (Eo (.bO [vD r.1,vD r.2]) [.au]):=by
 apply pE [] hr zHj Tryz.func133;intro Φ ak hF g;unfold ul at hF
 iterate 3 (try simp[go_sem,g];try intros;refine bu ?_)
 refine wJ hF (λx3=>[(4,.v (vD x3.1)),(5,.v (vD x3.2))]) (λx3 hF=>?_) λ_ hj0 hF=>?_
 ·exact wL
 refine wR hF [10,11] (λi5 s4=>[(4,.v (vD s4.1)),(5,.v (vD s4.2)),(12,.v (.int .i64 i5))]) λb bg i5 s4 _ _ aO aN bp ba hF=>?_
 refine wK [4,5,10,11,12,13] ?_;refine wu aO aN ?_;refine wW ?_;refine wB ?_;obtain⟨aU,g,hF⟩:=Rx g hF;refine wW ?_;refine wZ (kE [0,1,2,3,5,6,7,8,4,9,10,11] [0,57,58,0,0,57,58,0,5,5,0,0]) follows ?_;exact wL
def kU(a0:am)(a1:List Int)(a2:List Int):Option Int:=
 ((aS (σ:=Int) (λi5 s4=>
 (ix a1 i5).bind λaU=>
 (ix a2 i5).bind λcY=>
 (cQ a0 aU cY).bind λdk=>
 (eg a0 [s4,dk]).bind λeT=>
 J (.go eT)) (λs4=>s4) (a1.length) 0 1:Option Int).bind λx3=>
 J x3)
def uK{a0 a1 a2 r}(hr:kU a0 a1 a2=J r):ap Tryz.prog 136 [(.sh,vE a0),(.sh,vC a1),(.sh,vC a2)] (Eo (.int .i64 r) gx):=by
 apply pE [] hr zH6 Tryz.func136;intro Φ ak hF g;unfold kU at hF
 iterate 3 (try simp[go_sem,g];try intros;refine bu ?_)
 refine wJ hF (λx3=>[(7,.v (.int .i64 x3))]) (λx3 hF=>?_) λ_ hj0 hF=>?_
 ·exact wl ak hF
 refine wR hF [2,3,10,11] (λi5 s4=>[(7,.v (.int .i64 s4)),(12,.v (.int .i64 i5))]) λb bg i5 s4 _ _ aO aN bp ba hF=>?_
 refine wW ?_;refine wu aO aN ?_;refine wW ?_;refine wB ?_;obtain⟨aU,g,hF⟩:=Rx g hF;refine wK [2,3,7,8,9,10,11,12] ?_;refine wZ (kD 0 [26,0,26,0,0,0,0,0,3,0,6,0]) follows ?_;have c0:= @gL;have c1:= @jN;exact wL
def zH5:KV Tryz.prog 162 27:=by
 intro n H e b es cB z e1 e2 h0 h1 h2 h3 h4 h5;refine Pf zEJ Tryz.func162 rfl rfl (by simp[Tryz.f162]) λhw=>?_
 have hn:¬n<0:=by omega
 have hw1:i64.wrap n=n:=EW (by omega);have tX:i64.wrap 0=0:=EW (by omega);have ei:(jW Tryz.prog 3).isSome=Z:=by kernel_rfl
 by_cases hp:0<n
 ·have hne:n≠0:=by omega
  have xP:=h5;simp[ct]at xP;simp[Tryz.f162,fc,nk,aM,fo,dA,gw,cn,bh,eD,bB,Ep,FR.put,FR.init,be,bM,cW,jK,ct,Am.iM,nL,oA,uS,xG,Ft,pB,rV,xc,hn,e1,e2,ei,hw1,tX,hp,h1,h2,h3,h4,hne]
  first|exact xP|exact .inl xP
 have hz:n=0:=by omega
 subst hz;simp[Tryz.f162,fc,nk,aM,fo,dA,gw,cn,bh,eD,bB,Ep,FR.put,FR.init,be,bM,cW,jK,ct,Am.iM,nL,oA,uS,xG,Ft,pB,rV,xc,hn,e1,e2,hw1,tX,hp]
def pS(a0:(List (List Int))):Option ((List Int)):=
 ((aS (σ:=Int) (λi5 s4=>
 (ix a0 i5).bind λaU=>
 if decide ((i64.wrap (s4+(aU.length:Int)))<0)=Z then(
 ae)else(
 J (.go (i64.wrap (s4+(aU.length:Int)))))) (λs4=>s4) (a0.length) 0 0:Option Int).bind λx3=>
 gd (0<=x3/\8*x3<=140737488355328/\x3<=4611686018427387904)<|
 ((aS (σ:=(List Int)) (λfL bW=>
 (ix a0 fL).bind λig=>
 gd ((bW.length+ig.length)*8<=140737488355328/\bW.length+ig.length<=4611686018427387904)<|
 J (.go (bW++ig))) (λbW=>bW) (a0.length) 0 []:Option ((List Int))).bind λfI=>
 J fI))
def Gh{a0 r}(hr:pS a0=J r):ap Tryz.prog 94 [(.sh,vK a0)] (Eo (vD r) [.au]):=by
 apply pE [] hr zNq Tryz.func94;intro Φ ak hF g;unfold pS at hF
 iterate 3 (try simp[go_sem,g];try intros;refine bu ?_)
 refine wJ hF (λx3=>[(0,.v (vK a0)),(3,.v (.int .i64 x3))]) (λx3 hF=>?_) λ_ hj0 hF=>?_
 ·obtain⟨Jl,hF⟩:=m7 hF;try simp[go_sem,g]
  refine OQ zH5 zNe (by simp[go_sem,g]) Jl ?_;try simp[go_sem,g]
  try intros
  refine bu ?_;try simp[go_sem,g]
  try intros
  refine wK [6,25,26,27] ?_;refine wJ hF (λfI=>[(6,.v (vD fI))]) (λfI hF=>?_) λ_ hj0 hF=>?_
  ·exact wl ak hF
  refine wR hF [25,26] (λfL bW=>[(6,.v (vD bW)),(27,.v (.int .i64 fL))]) λb bg fL bW _ _ aO aN bp ba hF=>?_
  exact wL
 refine wR hF [0,9,10] (λi5 s4=>[(3,.v (.int .i64 s4)),(11,.v (.int .i64 i5))]) λb bg i5 s4 _ _ aO aN bp ba hF=>?_
 exact wL
def Ff(a0:List Int)(a1:Int):Option Int:=
 ((aS (σ:=Int) (λi5 s4=>
 (ix a0 i5).bind λaU=>
 gd (a1≠0)<|
 J (.go ((i64.wrap (s4+aU)).tmod a1))) (λs4=>s4) (a0.length) 0 0:Option Int).bind λx3=>
 J x3)
def zvW{a0 a1 r}(hr:Ff a0 a1=J r):ap Tryz.prog 138 [(.sh,vC a0),(.sh,.int .i64 a1)] (Eo (.int .i64 r) cI):=by
 apply pE [] hr zHY Tryz.func138;intro Φ ak hF g;unfold Ff at hF
 iterate 3 (try simp[go_sem,g];try intros;refine bu ?_)
 refine wJ hF (λx3=>[(5,.v (.int .i64 x3))]) (λx3 hF=>?_) λ_ hj0 hF=>?_
 ·exact wl ak hF
 refine wR hF [1,8,9] (λi5 s4=>[(5,.v (.int .i64 s4)),(10,.v (.int .i64 i5))]) λb bg i5 s4 _ _ aO aN bp ba hF=>?_
 exact wL
def vg(a0:List Int)(a1:List Int)(a2:Int):Option Int:=
 ((aS (σ:=Int) (λi5 s4=>
 (ix a0 i5).bind λaU=>
 (ix a1 i5).bind λcY=>
 gd (a2≠0)<|
 gd (a2≠0)<|
 J (.go ((i64.wrap (s4+((i64.wrap (aU*cY)).tmod a2))).tmod a2))) (λs4=>s4) (a0.length) 0 0:Option Int).bind λx3=>
 J x3)
def SZ{a0 a1 a2 r}(hr:vg a0 a1 a2=J r):ap Tryz.prog 139 [(.sh,vC a0),(.sh,vC a1),(.sh,.int .i64 a2)] (Eo (.int .i64 r) gx):=by
 apply pE [] hr zHg Tryz.func139;intro Φ ak hF g;unfold vg at hF
 iterate 3 (try simp[go_sem,g];try intros;refine bu ?_)
 refine wJ hF (λx3=>[(7,.v (.int .i64 x3))]) (λx3 hF=>?_) λ_ hj0 hF=>?_
 ·exact wl ak hF
 refine wR hF [0,1,2,10] (λi5 s4=>[(7,.v (.int .i64 s4)),(11,.v (.int .i64 i5))]) λb bg i5 s4 _ _ aO aN bp ba hF=>?_
 refine wW ?_;refine wu aO aN ?_;refine wW ?_;refine wB ?_;refine wW ?_;refine wZ (kD 0 [0,0,0,0,0,0,0,0,0,0,0,0,0,0,0,0]) follows ?_;exact wL
def DI(a0:am)(a1:cr)(a2:Int)(a3:List an)(a4:List Int)(a5:List Int)(a6:List Int):Option (cH×Bool):=
 (i9 a6 (a3.length:Int)).bind λz1=>
 (i9 z1.2 (a3.length:Int)).bind λz2=>
 (r8 z2.2).bind λz3=>
 (r8 z3.2).bind λz4=>
 (r8 z4.2).bind λz5=>
 (r8 z5.2).bind λz6=>
 (i9 z6.2 (a3.length:Int)).bind λz7=>
 (i9 z7.2 (a3.length:Int)).bind λz8=>
 (Cl a0 a2 a3 a4 a5).bind λz9=>
 (Jj a0 a1 a4 z1.1).bind λbX=>
 (qq a2 a3 z9 bX).bind λb7=>
 (yJ a0 (⟨#[109,105,120,32,99,111,108,117,109,110,115]⟩:ByteArray) b7 (a3.length:Int)).bind λbH=>
 if(!bH.2)=Z then(
 J ((cH.mk [] [] (bZ.mk [] [] [])),aa))else(
 (EP bH.1 a4).bind λeT=>
 (J7 a0 a1.H eT z2.1).bind λfA=>
 ((aS (σ:=Int) (λqL eI=>
 (ix z2.1 qL).bind λD6=>
 (ix eT qL).bind λfM=>
 (eU a0 (i64.wrap (D6+(i64.wrap (fM*eI))))).bind λfP=>
 J (.go fP)) (λeI=>eI) (a3.length) 0 0:Option Int).bind λll=>
 (ul z9).bind λiC=>
 (cQ a0 a0.G z3.1).bind λnI=>
 (cQ a0 a0.G z4.1).bind λgZ=>
 (kU a0 a1.Hs z8.1).bind λu9=>
 (eg a0 [gZ,u9]).bind λzo=>
 (cQ a0 a0.G z5.1).bind λuy=>
 (cQ a0 a0.G (i64.wrap (0-z6.1))).bind λz39=>
 (kU a0 iC.1 z8.1).bind λut=>
 (eg a0 [z39,ut]).bind λME=>
 (cQ a0 a2 (i64.wrap (0-z6.1))).bind λN1=>
 (kU a0 iC.2 z8.1).bind λBu=>
 (eg a0 [N1,Bu]).bind λBc=>
 gd (([a1.H].length+fA.length)*8<=140737488355328/\[a1.H].length+fA.length<=4611686018427387904)<|
 (J ([a1.H]++fA)).bind λBG=>
 ((aS (σ:=(List Int)×List Int×List Int×List Int×List Int) (λi64 kI=>
 (ix z7.1 i64).bind λQ3=>
 (ix BG i64).bind λQm=>
 (ix z8.1 i64).bind λnN=>
 (cQ a0 a0.G Q3).bind λrJ=>
 (cQ a0 Qm nN).bind λyl=>
 (eg a0 [rJ,yl]).bind λD8=>
 gd ((kI.2.2.1.length+1)*8<=140737488355328/\kI.2.2.1.length+1<=4611686018427387904)<|
 J (.go (kI.1,kI.2.1,kI.2.2.1++[D8],kI.2.2.2.1,kI.2.2.2.2))) (λkI=>(kI.1,kI.2.1,kI.2.2.1,kI.2.2.2.1,kI.2.2.2.2)) (a3.length) 0 (bX,fA,[nI,zo,uy,ME,Bc],[],[]):Option ((List Int×List Int×List Int×List Int×List Int))).bind λrW=>
 (pS [b7,rW.2.1,rW.2.2.1]).bind λvd=>
 (ml a0 (⟨#[109,105,120,32,112,114,111,111,102]⟩:ByteArray) vd).bind λnp=>
 if(!np.2)=Z then(
 J ((cH.mk [] [] (bZ.mk [] [] [])),aa))else(
 (Ff z1.1 a0.Q).bind λI8=>
 (eU a0 (i64.wrap (z3.1+(i64.wrap (np.1*I8))))).bind λz84=>
 (vg z1.1 bH.1 a0.Q).bind λX4=>
 (eU a0 (i64.wrap (z4.1+(i64.wrap (np.1*X4))))).bind λYd=>
 (eU a0 (i64.wrap (z5.1+(i64.wrap (np.1*ll))))).bind λwj=>
 (vg a5 eT a0.Q).bind λoq=>
 (eU a0 (i64.wrap (z6.1+(i64.wrap (np.1*oq))))).bind λBN=>
 ((aS (σ:=(List Int)×List Int×List Int×List Int×List Int) (λJe kJ=>
 (ix z7.1 Je).bind λFU=>
 (ix z2.1 Je).bind λGq=>
 (eU a0 (i64.wrap (FU+(i64.wrap (np.1*Gq))))).bind λMJ=>
 gd ((kJ.2.2.2.2.length+1)*8<=140737488355328/\kJ.2.2.2.2.length+1<=4611686018427387904)<|
 J (.go (kJ.1,kJ.2.1,kJ.2.2.1,kJ.2.2.2.1,kJ.2.2.2.2++[MJ]))) (λkJ=>(kJ.1,kJ.2.1,kJ.2.2.1,kJ.2.2.2.1,kJ.2.2.2.2)) (a3.length) 0 (rW.1,rW.2.1,rW.2.2.1,[np.1],[z84,Yd,wj,BN]):Option ((List Int×List Int×List Int×List Int×List Int))).bind λiR=>
 ((aS (σ:=(List Int)×List Int×List Int×List Int×List Int) (λJS kt=>
 (ix z8.1 JS).bind λii=>
 (ix eT JS).bind λa17=>
 (eU a0 (i64.wrap (ii+(i64.wrap (np.1*a17))))).bind λIi=>
 gd ((kt.2.2.2.2.length+1)*8<=140737488355328/\kt.2.2.2.2.length+1<=4611686018427387904)<|
 J (.go (kt.1,kt.2.1,kt.2.2.1,kt.2.2.2.1,kt.2.2.2.2++[Ii]))) (λkt=>(kt.1,kt.2.1,kt.2.2.1,kt.2.2.2.1,kt.2.2.2.2)) (a3.length) 0 (iR.1,iR.2.1,iR.2.2.1,iR.2.2.2.1,iR.2.2.2.2):Option ((List Int×List Int×List Int×List Int×List Int))).bind λlZ=>
 J ((cH.mk lZ.1 lZ.2.1 (bZ.mk lZ.2.2.1 lZ.2.2.2.1 lZ.2.2.2.2)),Z)))))))
set_option maxHeartbeats 16000000 in
def zkL{a0 a1 a2 a3 a4 a5 a6 r}(hr:DI a0 a1 a2 a3 a4 a5 a6=J r):ap Tryz.prog 80 [(.sh,vE a0),(.sh,vJ a1),(.sh,.int .i64 a2),(.sh,vH a3),(.sh,vC a4),(.sh,vC a5),(.sh,vC a6)] (Eo (.bO [vL r.1,.bool r.2]) Nj):=by
 apply DW 330 [] [219,221,224] [45] [.cell 14 33,.tmp 15] hr zKI Tryz.func80;intro Φ ak hF g;unfold DI at hF;try simp[go_sem,g]
 try intros
 refine bu ?_;try simp[go_sem,g]
 try intros
 refine wK [2,3,4,5,7,8,14,16,17] ?_;refine wC hF [.io,.sh] mn λz1 hF=>?_
 refine wC hF [.io,.sh] mn λz2 hF=>?_
 refine wW ?_;refine wC hF [.io] AJ λz3 hF=>?_
 refine wC hF [.io] AJ λz4 hF=>?_
 refine wC hF [.io] AJ λz5 hF=>?_
 refine wC hF [.io] AJ λz6 hF=>?_
 refine wK [2,3,4,5,7,8,14,16,17,18,19,20,21,22,23] ?_;refine wC hF [.io,.sh] mn λz7 hF=>?_
 refine wC hF [.io,.sh] mn λz8 hF=>?_
 refine wW ?_;refine wE hF OV λz9 hF=>?_
 refine wK [2,3,4,5,7,8,14,16,18,19,20,21,22,23,24,25,26] ?_;refine wE hF zke λbX hF=>?_
 refine wW ?_;refine wE hF D4 λb7 hF=>?_
 refine wK [2,4,5,7,8,14,16,18,19,20,21,22,23,24,25,26,27,28] ?_;refine wE hF zid λbH hF=>?_
 refine wW ?_;refine wK [2,4,5,7,8,14,16,18,19,20,21,22,23,24,25,26,27,28,29,92] ?_;refine wI hF (λJt hF=>?_) λJt hF=>?_
 ·exact wl ak hF
 refine wW ?_;refine wE hF zxm λeT hF=>?_
 refine wW ?_;refine wE hF zn1 λfA hF=>?_
 refine wK [2,5,7,8,14,16,18,19,20,21,22,23,24,25,26,27,28,29,31] ?_
 iterate 2 refine wW ?_
 refine bT hF [2,5,7,8,14,16,18,19,20,21,22,23,24,25,26,27,28,29,31] (λll=>[(32,.v (.int .i64 ll))]) (λll hF=>?_) λ_ hj0 hF=>?_
 ·refine wE hF E8 λiC hF=>?_
  refine wK [2,5,7,8,14,16,18,19,20,21,22,23,24,25,27,28,29,31,32,34,35] ?_;refine wZ [k2 0 7,k1 1 7,k2 2 7,k0 3,k2 5 7,k2 6 7,k1 7 7,k2 8 7,k0 9,k2 11 7,k1 12 8,k2 13 8,k0 14,k2 18 7,k1 19 7,k2 20 7,k0 21,k2 23 7,k2 24 7,k1 25 7,k2 26 7,k0 27,k0 28,k2 30 7,k0 31,k0 32,k2 36 7,k2 37 7,k0 38,k0 39,k0 40,k2 42 7,k0 43,k0 44,k3 4,k3 10,k3 15,k0 16,λ_=>⟨17,[132,143],[],ae,Z,Z,Z⟩,k3 22,k3 29,k3 33,k0 34,λ_=>⟨35,[150,161],[],ae,Z,Z,Z⟩,k3 41,k3 45,k0 46,λ_=>⟨47,[163,173],[],ae,Z,Z,Z⟩,k0 48,k1 49 27,k1 50 27,λ_=>⟨51,[177,175],[27],J 177,Z,Z,Z⟩] follows ?_;refine wE hF gL λnI hF=>?_
  refine wE hF gL λgZ hF=>?_
  refine wE hF uK λu9 hF=>?_
  refine wE hF jN λzo hF=>?_
  refine wE hF gL λuy hF=>?_
  refine wE hF gL λz39 hF=>?_
  refine wE hF uK λut hF=>?_
  refine wE hF jN λME hF=>?_
  refine wE hF gL λN1 hF=>?_
  refine wE hF uK λBu hF=>?_
  refine wE hF jN λBc hF=>?_
  refine wK [5,7,8,14,16,18,19,20,21,22,23,24,25,27,28,29,31,32] ?_;obtain⟨g,hF⟩:=Rg g hF;obtain⟨BG,TF,hF⟩:=mg hF;have g:=And.intro g (show[.int .i64 a1.H]::(List.map aJ fA)=BG.map aJ by injection TF with TF;rw[<-TF];simp[go_sem])
  iterate 2 refine wW ?_
  refine bT hF [5,7,14,16,18,19,20,21,22,23,24,25,28,29,31,32] (λrW=>[(27,.bl [vD rW.1,vD rW.2.1,vD rW.2.2.1,vD rW.2.2.2.1,vD rW.2.2.2.2])]) (λrW hF=>?_) λ_ hj0 hF=>?_
  ·refine wZ (kD 0 [58,0,217,218,217,217,218,0,6,3,0,0,0,0,0]) follows ?_;refine wE hF Gh λvd hF=>?_
   refine wE hF yc λnp hF=>?_
   refine wK [5,7,14,16,18,19,20,21,22,23,24,25,27,29,30,31,32,38] ?_;refine wW ?_;refine wI hF (λh82 hF=>?_) λh82 hF=>?_
   ·exact wl ak hF
   iterate 2 refine wW ?_
   refine wZ [k2 0 7,k0 1,k0 2,k0 3,k1 4 7,k2 5 7,k2 10 7,k0 11,k0 12,k0 13,k0 14,k1 15 7,k2 16 7,k2 21 7,k0 22,k0 23,k0 24,k0 25,k0 26,k2 28 7,k0 29,k0 30,k0 31,k0 32,k1 33 7,k2 34 7,k3 6,k0 7,k0 8,k3 9,k3 17,k0 18,k0 19,k3 20,k3 27,k3 35,k0 36,k0 37,k3 38,k0 39,k1 40 27,k1 41 27,λ_=>⟨42,[278,276],[27],J 278,Z,Z,Z⟩] follows ?_;refine wE hF zvW λI8 hF=>?_
   refine wE hF mq λz84 hF=>?_
   refine wE hF SZ λX4 hF=>?_
   refine wE hF mq λYd hF=>?_
   refine wE hF mq λwj hF=>?_
   refine wE hF SZ λoq hF=>?_
   refine wE hF mq λBN hF=>?_
   refine wK [7,14,16,19,24,25,27,31,38] ?_;refine wW ?_;refine bT hF [7,14,16,25,31,38] (λiR=>[(27,.bl [vD iR.1,vC iR.2.1,vC iR.2.2.1,vD iR.2.2.2.1,vD iR.2.2.2.2])]) (λiR hF=>?_) λ_ hj0 hF=>?_
   ·refine wW ?_;refine wJ hF (λlZ=>[(14,.bl [.sl Z 1 [],.sl Z 1 [],.sl Z 1 [],.sl Z 1 [],.sl Z 1 []]),(27,.bl [vD lZ.1,vC lZ.2.1,vC lZ.2.2.1,vD lZ.2.2.2.1,vD lZ.2.2.2.2])]) (λlZ hF=>?_) λ_ hj0 hF=>?_
    ·exact wl ak hF
    refine wR hF [7,14,25,31,38,304] (λJS kt=>[(27,.bl [vD kt.1,vC kt.2.1,vC kt.2.2.1,vD kt.2.2.2.1,vD kt.2.2.2.2]),(305,.v (.int .i64 JS))]) λb bg JS kt _ _ aO aN bp ba hF=>?_
    refine wW ?_;refine wu aO aN ?_;refine wW ?_;refine wB ?_;refine wW ?_;refine wZ (kD 0 [217,217,218,58,0,0,0,0,0,0,0,0,0,0,0,3,0,5,217,217,218]) follows ?_;have c0:= @mq;exact wL
   refine wR hF [7,14,16,19,24,25,31,38,279] (λJe kJ=>[(27,.bl [vD kJ.1,vC kJ.2.1,vC kJ.2.2.1,vD kJ.2.2.2.1,vD kJ.2.2.2.2]),(280,.v (.int .i64 Je))]) λb bg Je kJ _ _ aO aN bp ba hF=>?_
   refine wW ?_;refine wu aO aN ?_;refine wW ?_;refine wB ?_;refine wW ?_;refine wZ (kD 0 [217,217,218,58,0,0,0,0,0,0,0,0,0,0,0,3,0,5,217,217,218]) follows ?_;have c0:= @mq;exact wL
  refine wR hF [5,7,14,16,18,19,20,21,22,23,24,25,28,29,31,32,36,184] (λi64 kI=>[(27,.bl [vD kI.1,vD kI.2.1,vD kI.2.2.1,vD kI.2.2.2.1,vD kI.2.2.2.2]),(185,.v (.int .i64 i64))]) λb bg i64 kI _ _ aO aN bp ba hF=>?_
  refine wK [5,7,14,16,18,19,20,21,22,23,24,25,27,28,29,31,32,36,184,185,186] ?_;refine wu aO aN ?_;refine wW ?_;refine wB ?_;refine wW ?_;refine wZ (kE [0,1,2,3,4,5,6,7,8,9,10,12,13,14,15,16,17,18,19,20,11,21,22,23,24,25,26,27,28] [217,217,218,58,58,57,58,0,0,0,0,58,0,0,0,0,0,0,0,0,4,3,0,6,0,5,217,217,218]) follows ?_;have c0:= @gL;have c1:= @jN;exact wL
 refine wR hF [2,5,7,8,14,16,18,19,20,21,22,23,24,25,26,27,28,29,31,104] (λqL eI=>[(32,.v (.int .i64 eI)),(105,.v (.int .i64 qL))]) λb bg qL eI _ _ aO aN bp ba hF=>?_
 refine wW ?_;refine wu aO aN ?_;refine wW ?_;refine wB ?_;refine wW ?_;refine wZ (kD 0 [58,0,0,0,0,0,0,0,0,0,0,0,3,0]) follows ?_;have c0:= @mq;exact wL
def pP(a0:am)(a1:Int)(a2:List an)(a3:List Int)(a4:List Int)(a5:List Int):Option (cH×Bool):=
 (tt a0 a1 a2).bind λz1=>
 ((if(!z1.2)=Z then(
 J Z)else(
 (A6 a0 a3 a4 (a2.length:Int)).bind λz6=>
 if(!z6)=Z then(
 J Z)else(
 if((a5.length:Int) !=(i64.wrap ((i64.wrap (4*(a2.length:Int)))+4)))=Z then(
 J Z)else(
 (uP a0 a5).bind λz9=>
 J (!z9)))):Option Bool).bind λx4=>
 if x4=Z then(
 J ((cH.mk [] [] (bZ.mk [] [] [])),aa))else(
 (DI a0 z1.1 a1 a2 a3 a4 a5).bind λb7=>
 J (b7.1,b7.2)))
def znH{a0 a1 a2 a3 a4 a5 r}(hr:pP a0 a1 a2 a3 a4 a5=J r):ap Tryz.prog 33 [(.sh,vE a0),(.sh,.int .i64 a1),(.sh,vH a2),(.sh,vC a3),(.sh,vC a4),(.sh,vC a5)] (Eo (.bO [vL r.1,.bool r.2]) rn):=by
 apply DW 60 [] [51] [] [.cell 12 33,.tmp 13] hr zK4 Tryz.func33;intro Φ ak hF g;unfold pP at hF;refine wW ?_;refine wE hF LZ λz1 hF=>?_
 refine wK [1,2,3,4,5,6,12,14,15] ?_;refine bT hF [1,2,3,4,5,6,12,14] (λx4=>[(48,.v (.bool x4))]) (λx4 hF=>?_) λ_ hj0 hF=>?_
 ·have c0:= @zkL;exact wL
 have c0:= @Ri;have c1:= @Hf;exact wL
def xB(a0:am)(a1:Int)(a2:List an):Option (cr×Bool):=
 (tt a0 a1 a2).bind λz1=>
 if(!z1.2)=Z then(
 J ((cr.mk 0 []),aa))else(
 (lw a0 0).bind λz3=>
 J (z3.1,z3.2))
def P1{a0 a1 a2 r}(hr:xB a0 a1 a2=J r):ap Tryz.prog 40 [(.sh,vE a0),(.sh,.int .i64 a1),(.sh,vH a2)] (Eo (.bO [vI r.1,.bool r.2]) gx):=by
 apply pE [] hr zMa Tryz.func40;intro Φ ak hF g;unfold xB at hF;have c0:= @LZ;have c1:= @W6;exact wL
def oC(a0:am)(a1:cr)(a2:Int)(a3:Int):Option Int:=
 (cQ a0 a0.G a2).bind λz1=>
 (cQ a0 a1.H a3).bind λz2=>
 (eg a0 [z1,z2]).bind λz3=>
 J z3
def CD{a0 a1 a2 a3 r}(hr:oC a0 a1 a2 a3=J r):ap Tryz.prog 141 [(.sh,vE a0),(.sh,vJ a1),(.sh,.int .i64 a2),(.sh,.int .i64 a3)] (Eo (.int .i64 r) kL):=by
 apply pE [] hr zGq Tryz.func141;intro Φ ak hF g;unfold oC at hF;refine wW ?_;refine wZ (kE [0,1,2,3,4,6,7,8,9,5,10,11,12,13] [34,34,33,34,0,34,41,42,0,3,3,0,6,0]) follows ?_;have c0:= @gL;have c1:= @jN;exact wL
def Kl(a0:am)(a1:cr)(a2:List Int)(a3:List Int):Option ((List Int)):=
 ((aS (σ:=(List Int)) (λi5 s4=>
 (ix a2 i5).bind λaU=>
 (ix a3 i5).bind λcY=>
 (oC a0 a1 (i64.wrap (aU+1)) cY).bind λdk=>
 gd ((s4.length+1)*8<=140737488355328/\s4.length+1<=4611686018427387904)<|
 J (.go (s4++[dk]))) (λs4=>s4) (a2.length) 0 []:Option ((List Int))).bind λx3=>
 J x3)
def zkl{a0 a1 a2 a3 r}(hr:Kl a0 a1 a2 a3=J r):ap Tryz.prog 140 [(.sh,vE a0),(.sh,vJ a1),(.sh,vC a2),(.sh,vC a3)] (Eo (vD r) kL):=by
 apply pE [] hr zG3 Tryz.func140;intro Φ ak hF g;unfold Kl at hF
 iterate 3 (try simp[go_sem,g];try intros;refine bu ?_)
 refine wJ hF (λx3=>[(9,.v (vD x3))]) (λx3 hF=>?_) λ_ hj0 hF=>?_
 ·refine wK [8] ?_;exact wm ak hF
 refine wR hF [3,4,5,13,14] (λi5 s4=>[(9,.v (vD s4)),(15,.v (.int .i64 i5))]) λb bg i5 s4 _ _ aO aN bp ba hF=>?_
 refine wW ?_;refine wu aO aN ?_;refine wW ?_;refine wB ?_;obtain⟨aU,g,hF⟩:=Rx g hF;refine wK [3,4,5,9,10,11,13,14,15] ?_;refine wZ (kD 0 [0,34,42,0,0,0,0,0,0,3,0,5,0]) follows ?_;have c0:= @CD;exact wL
def Cq(a0:am)(a1:List Int):Option (Int×Int×Bool):=
 (ml a0 (⟨#[109,105,120,32,121]⟩:ByteArray) a1).bind λz1=>
 (ml a0 (⟨#[109,105,120,32,122]⟩:ByteArray) a1).bind λz2=>
 ((if(!z1.2)=Z then(
 J Z)else(
 J (!z2.2)):Option Bool).bind λx5=>
 if x5=Z then(
 J (0,0,aa))else(
 J (z1.1,z2.1,Z)))
def X2{a0 a1 r}(hr:Cq a0 a1=J r):ap Tryz.prog 142 [(.sh,vE a0),(.sh,vC a1)] (Eo (.bO [.int .i64 r.1,.int .i64 r.2.1,.bool r.2.2]) cI):=by
 apply pE [] hr zFw Tryz.func142;intro Φ ak hF g;unfold Cq at hF;refine wW ?_;refine wE hF yc λz1 hF=>?_
 refine wK [1,2,7,8] ?_;refine wE hF yc λz2 hF=>?_
 refine wW ?_;refine bT hF [7,9] (λx5=>[(28,.v (.bool x5))]) (λx5 hF=>?_) λ_ hj0 hF=>?_
 ·exact wL
 exact wL
def E4(a0:am)(a1:cr)(a2:Int)(a3:List an)(a4:List Int)(a5:List Int)(a6:List Int):Option (ck×Bool):=
 (i9 a6 (a3.length:Int)).bind λz1=>
 (i9 z1.2 (a3.length:Int)).bind λz2=>
 (i9 z2.2 (a3.length:Int)).bind λz3=>
 (i9 z3.2 (a3.length:Int)).bind λz4=>
 (i9 z4.2 (a3.length:Int)).bind λz5=>
 (i9 z5.2 (a3.length:Int)).bind λz6=>
 (r8 z6.2).bind λz7=>
 (i9 z7.2 (a3.length:Int)).bind λz8=>
 (i9 z8.2 (a3.length:Int)).bind λz9=>
 (r8 z9.2).bind λbX=>
 (Cl a0 a2 a3 a4 a5).bind λb7=>
 (Kl a0 a1 a4 z1.1).bind λbH=>
 (qq a2 a3 b7 bH).bind λdk=>
 (ml a0 (⟨#[109,105,120,32,120]⟩:ByteArray) dk).bind λeT=>
 ((aS (σ:=(List Int)×List Int×List Int×List Int×List Int×List Int×List Int) (λuC dr=>
 (ix a4 uC).bind λvo=>
 (nA eT.1 (i64.wrap (vo+1)) a0.Q).bind λut=>
 gd ((dr.2.2.2.2.2.2.length+1)*8<=140737488355328/\dr.2.2.2.2.2.2.length+1<=4611686018427387904)<|
 (J (dr.2.2.2.2.2.2++[ut])).bind λuv=>
 (ix uv uC).bind λvq=>
 (ix z2.1 uC).bind λA5=>
 (oC a0 a1 vq A5).bind λyQ=>
 gd ((dr.2.1.length+1)*8<=140737488355328/\dr.2.1.length+1<=4611686018427387904)<|
 J (.go (dr.1,dr.2.1++[yQ],dr.2.2.1,dr.2.2.2.1,dr.2.2.2.2.1,dr.2.2.2.2.2.1,uv))) (λdr=>(dr.1,dr.2.1,dr.2.2.1,dr.2.2.2.1,dr.2.2.2.2.1,dr.2.2.2.2.2.1,dr.2.2.2.2.2.2)) (a4.length) 0 (bH,[],[],[],[],[],[]):Option ((List Int×List Int×List Int×List Int×List Int×List Int×List Int))).bind λbG=>
 (u0 bG.1).bind λxf=>
 gd ((xf.length+bG.2.1.length)*8<=140737488355328/\xf.length+bG.2.1.length<=4611686018427387904)<|
 (qq a2 a3 b7 (xf++bG.2.1)).bind λzQ=>
 (Cq a0 zQ).bind λqV=>
 ((aS (σ:=(List Int)×List Int×List Int×List Int×List Int×List Int×List Int×Int×List Int) (λnz cG=>
 (ix a4 nz).bind λpY=>
 (ix bG.2.2.2.2.2.2 nz).bind λKS=>
 (eU a0 (i64.wrap ((i64.wrap ((i64.wrap (qV.1*(i64.wrap (pY+1))))+KS))-qV.2.1))).bind λoq=>
 gd ((cG.2.2.2.2.2.2.1.length+1)*8<=140737488355328/\cG.2.2.2.2.2.2.1.length+1<=4611686018427387904)<|
 (J (cG.2.2.2.2.2.2.1++[oq])).bind λyi=>
 (ix yi nz).bind λmA=>
 (eU a0 (i64.wrap (cG.2.2.2.2.2.2.2.1*mA))).bind λD2=>
 (ix z3.1 nz).bind λjz=>
 (oC a0 a1 D2 jz).bind λo0=>
 gd ((cG.2.2.1.length+1)*8<=140737488355328/\cG.2.2.1.length+1<=4611686018427387904)<|
 ((if decide (0<nz)=Z then(
 (ix z3.1 (i64.wrap (nz-1))).bind λQf=>
 (eU a0 (i64.wrap (Qf*mA))).bind λJN=>
 (eU a0 (i64.wrap (jz-JN))).bind λHi=>
 J Hi)else(
 J jz):Option Int).bind λxz=>
 gd ((cG.2.2.2.2.2.2.2.2.length+1)*8<=140737488355328/\cG.2.2.2.2.2.2.2.2.length+1<=4611686018427387904)<|
 J (.go (cG.1,cG.2.1,cG.2.2.1++[o0],cG.2.2.2.1,cG.2.2.2.2.1,cG.2.2.2.2.2.1,yi,D2,cG.2.2.2.2.2.2.2.2++[xz])))) (λcG=>(cG.1,cG.2.1,cG.2.2.1,cG.2.2.2.1,cG.2.2.2.2.1,cG.2.2.2.2.2.1,cG.2.2.2.2.2.2.1,cG.2.2.2.2.2.2.2.2)) (a4.length) 0 (bG.1,bG.2.1,bG.2.2.1,bG.2.2.2.1,bG.2.2.2.2.1,bG.2.2.2.2.2.1,[],1,[]):Option ((List Int×List Int×List Int×List Int×List Int×List Int×List Int×List Int))).bind λiF=>
 gd (([a0.G].length+iF.2.2.1.length)*8<=140737488355328/\[a0.G].length+iF.2.2.1.length<=4611686018427387904)<|
 (J ([a0.G]++iF.2.2.1)).bind λQk=>
 ((aS (σ:=(List Int)) (λAg pe=>
 (ix z4.1 Ag).bind λQC=>
 (ix z5.1 Ag).bind λlZ=>
 (oC a0 a1 QC lZ).bind λDB=>
 gd ((pe.length+1)*8<=140737488355328/\pe.length+1<=4611686018427387904)<|
 J (.go (pe++[DB]))) (λpe=>pe) (a3.length) 0 []:Option ((List Int))).bind λFU=>
 ((aS (σ:=(List Int)) (λvz px=>
 (ix Qk vz).bind λQu=>
 (ix z4.1 vz).bind λPD=>
 (ix z6.1 vz).bind λii=>
 (cQ a0 Qu PD).bind λTe=>
 (cQ a0 a1.H ii).bind λIi=>
 (eg a0 [Te,Ii]).bind λTz=>
 gd ((px.length+1)*8<=140737488355328/\px.length+1<=4611686018427387904)<|
 J (.go (px++[Tz]))) (λpx=>px) (a3.length) 0 FU:Option ((List Int))).bind λDV=>
 (cQ a0 a1.H z7.1).bind λYH=>
 gd ((DV.length+1)*8<=140737488355328/\DV.length+1<=4611686018427387904)<|
 ((aS (σ:=(List Int)) (λtQ eO=>
 (ix z8.1 tQ).bind λa0V=>
 (ix z9.1 tQ).bind λML=>
 (oC a0 a1 a0V ML).bind λa03=>
 gd ((eO.length+1)*8<=140737488355328/\eO.length+1<=4611686018427387904)<|
 J (.go (eO++[a03]))) (λeO=>eO) (a3.length) 0 (DV++[YH]):Option ((List Int))).bind λB8=>
 (ul b7).bind λTq=>
 (cQ a0 a0.G (i64.wrap (0-bX.1))).bind λG7=>
 (kU a0 Tq.1 z8.1).bind λIl=>
 (eg a0 [G7,Il]).bind λCJ=>
 (cQ a0 a2 (i64.wrap (0-bX.1))).bind λIc=>
 (kU a0 Tq.2 z8.1).bind λHt=>
 (eg a0 [Ic,Ht]).bind λBz=>
 gd ((B8.length+2)*8<=140737488355328/\B8.length+2<=4611686018427387904)<|
 (pS [zQ,iF.2.2.1,B8++[CJ,Bz]]).bind λmR=>
 (ml a0 (⟨#[109,105,120,32,101,110,100]⟩:ByteArray) mR).bind λuo=>
 ((if(!eT.2)=Z then(
 J Z)else(
 if(!qV.2.2)=Z then(
 J Z)else(
 J (!uo.2))):Option Bool).bind λN6=>
 if N6=Z then(
 J ((ck.mk [] [] [] (bZ.mk [] [] [])),aa))else(
 ((aS (σ:=(List Int)×List Int×List Int×List Int×List Int) (λiS dj=>
 (ix z4.1 iS).bind λM7=>
 (ix iF.2.2.2.2.2.2.1 iS).bind λLO=>
 (eU a0 (i64.wrap (M7+(i64.wrap (uo.1*LO))))).bind λN8=>
 gd ((dj.1.length+1)*8<=140737488355328/\dj.1.length+1<=4611686018427387904)<|
 (ix z5.1 iS).bind λMw=>
 (ix z1.1 iS).bind λMn=>
 (ix z2.1 iS).bind λDG=>
 (eU a0 (i64.wrap ((i64.wrap (qV.1*Mn))+DG))).bind λOv=>
 (eU a0 (i64.wrap (Mw+(i64.wrap (uo.1*Ov))))).bind λLz=>
 gd ((dj.2.1.length+1)*8<=140737488355328/\dj.2.1.length+1<=4611686018427387904)<|
 (ix z6.1 iS).bind λMz=>
 (ix iF.2.2.2.2.2.2.2 iS).bind λMr=>
 (eU a0 (i64.wrap (Mz+(i64.wrap (uo.1*Mr))))).bind λOh=>
 gd ((dj.2.2.1.length+1)*8<=140737488355328/\dj.2.2.1.length+1<=4611686018427387904)<|
 (ix z8.1 iS).bind λNA=>
 (ix bG.2.2.2.2.2.2 iS).bind λBM=>
 (eU a0 (i64.wrap (NA+(i64.wrap (uo.1*BM))))).bind λNW=>
 gd ((dj.2.2.2.1.length+1)*8<=140737488355328/\dj.2.2.2.1.length+1<=4611686018427387904)<|
 (ix z9.1 iS).bind λO2=>
 (eU a0 (i64.wrap (O2+(i64.wrap (uo.1*DG))))).bind λRA=>
 gd ((dj.2.2.2.2.length+1)*8<=140737488355328/\dj.2.2.2.2.length+1<=4611686018427387904)<|
 J (.go (dj.1++[N8],dj.2.1++[Lz],dj.2.2.1++[Oh],dj.2.2.2.1++[NW],dj.2.2.2.2++[RA]))) (λdj=>(dj.1,dj.2.1,dj.2.2.1,dj.2.2.2.1,dj.2.2.2.2)) (a3.length) 0 ([],[],[],[],[]):Option ((List Int×List Int×List Int×List Int×List Int))).bind λrC=>
 (ix z3.1 (i64.wrap ((a3.length:Int)-1))).bind λa1z=>
 (eU a0 (i64.wrap (z7.1+(i64.wrap (uo.1*a1z))))).bind λa1G=>
 (vg a5 bG.2.2.2.2.2.2 a0.Q).bind λa1n=>
 (eU a0 (i64.wrap (bX.1+(i64.wrap (uo.1*a1n))))).bind λa1u=>
 (pS [rC.1,rC.2.1,rC.2.2.1,[a1G],rC.2.2.2.1,rC.2.2.2.2,[a1u]]).bind λa13=>
 J ((ck.mk iF.1 iF.2.1 iF.2.2.1 (bZ.mk (B8++[CJ,Bz]) [uo.1] a13)),Z)))))))))
set_option maxHeartbeats 16000000 in
def zlB{a0 a1 a2 a3 a4 a5 a6 r}(hr:E4 a0 a1 a2 a3 a4 a5 a6=J r):ap Tryz.prog 81 [(.sh,vE a0),(.sh,vJ a1),(.sh,.int .i64 a2),(.sh,vH a3),(.sh,vC a4),(.sh,vC a5),(.sh,vC a6)] (Eo (.bO [vM r.1,.bool r.2]) Nj):=by
 apply DW 528 [] [358,360,363,490,492,494,506,508,510,522,2107] [60] [.cell 14 35,.tmp 15] hr zLc Tryz.func81;intro Φ ak hF g;unfold E4 at hF;try simp[go_sem,g]
 try intros
 refine bu ?_;try simp[go_sem,g]
 try intros
 refine wK [2,3,4,5,7,8,14,16,17] ?_;refine wC hF [.io,.sh] mn λz1 hF=>?_
 refine wC hF [.io,.sh] mn λz2 hF=>?_
 refine wC hF [.io,.sh] mn λz3 hF=>?_
 refine wC hF [.io,.sh] mn λz4 hF=>?_
 refine wC hF [.io,.sh] mn λz5 hF=>?_
 refine wC hF [.io,.sh] mn λz6 hF=>?_
 refine wK [2,3,4,5,7,8,14,16,17,18,19,20,21,22,23] ?_;refine wC hF [.io] AJ λz7 hF=>?_
 refine wW ?_;refine wC hF [.io,.sh] mn λz8 hF=>?_
 refine wC hF [.io,.sh] mn λz9 hF=>?_
 refine wK [2,3,4,5,7,8,14,16,17,18,19,20,21,22,23,24,25,26] ?_;refine wC hF [.io] AJ λbX hF=>?_
 refine wW ?_;refine wE hF OV λb7 hF=>?_
 refine wK [2,3,4,5,7,8,14,16,18,19,20,21,22,23,24,25,26,27,28] ?_;refine wE hF zkl λbH hF=>?_
 refine wW ?_;refine wZ (kD 0 [58,0,0,0,233,234,3,3,0,0,0,0,0]) follows ?_;refine wE hF D4 λdk hF=>?_
 refine wE hF yc λeT hF=>?_
 refine wK [2,3,4,5,7,8,14,16,18,19,20,21,22,23,24,25,26,27,28,29,30,31] ?_
 iterate 2 (try simp[go_sem,g];try intros;refine bu ?_)
 refine bT hF [2,3,4,5,7,8,14,16,18,19,20,21,22,23,24,25,26,27,28,31] (λbG=>[(29,.bl [vD bG.1,vD bG.2.1,vD bG.2.2.1,vD bG.2.2.2.1,vD bG.2.2.2.2.1,vD bG.2.2.2.2.2.1]),(32,.v (vD bG.2.2.2.2.2.2))]) (λbG hF=>?_) λ_ hj0 hF=>?_
 ·refine wZ (kE [0,1,2,3,4,6,7,5,8,9,10] [0,0,0,233,234,233,234,3,0,3,0]) follows ?_;refine wE hF KX λxf hF=>?_
  obtain⟨g,hF⟩:=Rg g hF;refine wE hF D4 λzQ hF=>?_
  refine wK [2,4,5,7,8,14,16,18,19,20,21,22,23,24,25,26,27,28,29,31,32,35] ?_;refine wE hF X2 λqV hF=>?_
  refine wK [2,4,5,7,8,14,16,18,19,20,21,22,23,24,25,26,27,28,29,31,32,35,36,37,38] ?_
  iterate 2 (try simp[go_sem,g];try intros;refine bu ?_)
  refine bT hF [2,5,7,8,14,16,18,19,20,21,22,23,24,25,26,27,28,31,32,35,36,38] (λiF=>[(29,.bl [vD iF.1,vD iF.2.1,vD iF.2.2.1,vD iF.2.2.2.1,vD iF.2.2.2.2.1,vD iF.2.2.2.2.2.1]),(39,.v (vD iF.2.2.2.2.2.2.1)),(41,.v (vD iF.2.2.2.2.2.2.2))]) (λiF hF=>?_) λ_ hj0 hF=>?_
  ·obtain⟨g,hF⟩:=Rg g hF;obtain⟨Qk,S5,hF⟩:=mg hF;have g:=And.intro g (show[.int .i64 a0.G]::(List.map aJ iF.2.2.1)=Qk.map aJ by injection S5 with S5;rw[<-S5];simp[go_sem]);refine wK [2,5,7,8,14,16,18,19,20,21,22,23,24,25,26,27,28,29,31,32,35,36,38,39,41,45] ?_
   iterate 2 refine wW ?_
   refine bT hF [2,5,7,8,14,16,18,19,20,21,22,23,24,25,26,27,28,29,31,32,35,36,38,39,41,45] (λFU=>[(46,.v (vD FU))]) (λFU hF=>?_) λ_ hj0 hF=>?_
   ·refine wW ?_;refine bT hF [2,5,7,8,14,16,18,19,20,21,22,23,24,25,26,27,28,29,31,32,35,36,38,39,41] (λDV=>[(46,.v (vD DV))]) (λDV hF=>?_) λ_ hj0 hF=>?_
    ·refine wE hF gL λYH hF=>?_
     obtain⟨g,hF⟩:=Rg g hF;refine wK [2,5,7,8,14,16,18,19,20,21,22,23,24,25,26,27,28,29,31,32,35,36,38,39,41,46] ?_;refine wW ?_;refine bT hF [2,5,7,14,16,18,19,20,21,22,23,24,25,26,27,28,29,31,32,35,36,38,39,41] (λB8=>[(46,.v (vD B8))]) (λB8 hF=>?_) λ_ hj0 hF=>?_
     ·refine wE hF E8 λTq hF=>?_
      refine wW ?_;refine wZ (kE [0,1,2,3,4,5,6,8,9,10,14,15,16,17,18,20,21,22,7,11,12,13,19,23,24,25,26,27,28,29,30] [0,58,58,57,58,0,0,58,0,0,58,58,0,0,0,58,0,0,3,3,0,6,3,3,0,6,0,5,233,233,234]) follows ?_;refine wE hF gL λG7 hF=>?_
      refine wE hF uK λIl hF=>?_
      refine wE hF jN λCJ hF=>?_
      refine wE hF gL λIc hF=>?_
      refine wE hF uK λHt hF=>?_
      refine wE hF jN λBz hF=>?_
      obtain⟨g,hF⟩:=Rg g hF;refine wK [5,7,14,16,18,19,20,21,22,23,24,25,26,27,29,31,32,35,36,38,39,41] ?_;refine wZ (kD 0 [58,0,233,234,233,233,234,0,6,3,0,0,0,0,0]) follows ?_;refine wE hF Gh λmR hF=>?_
      refine wE hF yc λuo hF=>?_
      refine wK [5,7,14,16,18,19,20,21,22,23,24,25,26,27,29,31,32,36,38,39,41,52,53] ?_;refine bT hF [5,7,14,16,18,19,20,21,22,23,24,25,26,27,29,32,36,39,41,52] (λN6=>[(378,.v (.bool N6))]) (λN6 hF=>?_) λ_ hj0 hF=>?_
      ·refine wI hF (λa08 hF=>?_) λa08 hF=>?_
       ·exact wl ak hF
       iterate 3 refine wW ?_
       refine wK [5,7,14,16,18,19,20,21,22,23,24,25,26,27,29,32,36,39,41,52,54,385,386] ?_;refine bT hF [5,7,14,16,20,24,27,29,32,52] (λrC=>[(54,.bl [vD rC.1,vD rC.2.1,vD rC.2.2.1,vD rC.2.2.2.1,vD rC.2.2.2.2])]) (λrC hF=>?_) λ_ hj0 hF=>?_
       ·refine wZ (kE [0,1,2,3,4,5,6,7,8,9,10,11,12,13,14,15,18,19,20,21,22,23,24,25,26,27,28,16,17,29,30,31,32,33,34,35,36,37,38] [433,434,433,434,433,434,58,0,0,0,0,0,0,0,0,0,433,434,433,434,58,0,0,0,0,57,58,3,0,3,0,0,3,0,7,6,233,233,234]) follows ?_;have c0:= @mq;have c1:= @SZ;have c2:= @Gh;exact wL
       refine wR hF [5,7,14,16,18,19,20,21,22,23,24,25,26,27,29,32,36,39,41,52,385] (λiS dj=>[(54,.bl [vD dj.1,vD dj.2.1,vD dj.2.2.1,vD dj.2.2.2.1,vD dj.2.2.2.2]),(386,.v (.int .i64 iS))]) λb bg iS dj _ _ aO aN bp ba hF=>?_
       refine wW ?_;refine wu aO aN ?_;refine wW ?_;refine wB ?_;refine wW ?_;refine wZ (kD 0 [433,434,58,0,0,0,0,0,0,0,0,0,0,0,3,0,5,433,434]) follows ?_;obtain⟨M7,g,hF⟩:=Rx g hF;obtain⟨LO,g,hF⟩:=Rx g hF;refine wE hF mq λN8 hF=>?_
       obtain⟨g,hF⟩:=Rg g hF;refine wK [5,7,14,16,18,19,20,21,22,23,24,25,26,27,29,32,36,39,41,52,54,55,385,386] ?_;refine wZ (kD 0 [433,434,58,0,0,0,0,0,58,0,0,0,0,0,0,0,0,0,0,0,4,0,0,3,0,5,433,434]) follows ?_;obtain⟨Mw,g,hF⟩:=Rx g hF;obtain⟨Mn,g,hF⟩:=Rx g hF;obtain⟨DG,g,hF⟩:=Rx g hF;refine wD hF mq λOv hF=>?_
       refine wE hF mq λLz hF=>?_
       obtain⟨g,hF⟩:=Rg g hF;refine wK [5,7,14,16,18,19,20,21,22,23,24,25,26,27,29,32,36,39,41,52,54,55,385,386] ?_;refine wZ (kD 0 [433,434,58,0,0,0,0,0,0,0,0,0,0,0,3,0,5,433,434]) follows ?_;obtain⟨Mz,g,hF⟩:=Rx g hF;obtain⟨Mr,g,hF⟩:=Rx g hF;refine wE hF mq λOh hF=>?_
       obtain⟨g,hF⟩:=Rg g hF;refine wK [5,7,14,16,18,19,20,21,22,23,24,25,26,27,29,32,36,39,41,52,54,55,385,386] ?_;refine wZ (kD 0 [433,434,58,0,0,0,0,0,0,0,0,0,0,0,3,0,5,433,434]) follows ?_;obtain⟨NA,g,hF⟩:=Rx g hF;obtain⟨BM,g,hF⟩:=Rx g hF;refine wE hF mq λNW hF=>?_
       obtain⟨g,hF⟩:=Rg g hF;refine wK [5,7,14,16,18,19,20,21,22,23,24,25,26,27,29,32,36,39,41,52,54,55,385,386] ?_;refine wZ (kD 0 [433,434,58,0,0,0,0,0,0,0,0,0,0,0,3,0,5,433,434]) follows ?_;have c0:= @mq;exact wL
      exact wL
     refine wR hF [2,5,7,8,14,16,18,19,20,21,22,23,24,25,26,27,28,29,31,32,35,36,38,39,41,302] (λtQ eO=>[(46,.v (vD eO)),(303,.v (.int .i64 tQ))]) λb bg tQ eO _ _ aO aN bp ba hF=>?_
     refine wW ?_;refine wu aO aN ?_;refine wW ?_;refine wB ?_;refine wW ?_;refine wZ (kD 0 [0,58,66,0,0,0,0,0,0,0,0,3,0,5,0]) follows ?_;have c0:= @CD;exact wL
    refine wR hF [2,5,7,8,14,16,18,19,20,21,22,23,24,25,26,27,28,29,31,32,35,36,38,39,41,45,265] (λvz px=>[(46,.v (vD px)),(266,.v (.int .i64 vz))]) λb bg vz px _ _ aO aN bp ba hF=>?_
    refine wW ?_;refine wu aO aN ?_;refine wW ?_;refine wB ?_;refine wW ?_;refine wZ (kE [0,1,2,3,4,5,6,7,8,9,10,12,13,14,15,16,17,18,11,19,20,21,22,23,24] [0,58,58,0,0,0,0,0,0,0,0,58,65,66,0,0,0,0,4,3,0,6,0,5,0]) follows ?_;have c0:= @gL;have c1:= @jN;exact wL
   refine wR hF [2,5,7,8,14,16,18,19,20,21,22,23,24,25,26,27,28,29,31,32,35,36,38,39,41,45,246] (λAg pe=>[(46,.v (vD pe)),(247,.v (.int .i64 Ag))]) λb bg Ag pe _ _ aO aN bp ba hF=>?_
   refine wW ?_;refine wu aO aN ?_;refine wW ?_;refine wB ?_;refine wW ?_;refine wZ (kD 0 [0,58,66,0,0,0,0,0,0,0,0,3,0,5,0]) follows ?_;have c0:= @CD;exact wL
  refine wR hF [2,5,7,8,14,16,18,19,20,21,22,23,24,25,26,27,28,31,32,35,36,37,38,165,166] (λnz cG=>[(29,.bl [vD cG.1,vD cG.2.1,vD cG.2.2.1,vD cG.2.2.2.1,vD cG.2.2.2.2.1,vD cG.2.2.2.2.2.1]),(39,.v (vD cG.2.2.2.2.2.2.1)),(40,.v (.int .i64 cG.2.2.2.2.2.2.2.1)),(41,.v (vD cG.2.2.2.2.2.2.2.2)),(167,.v (.int .i64 nz))]) λb bg nz cG _ _ aO aN bp ba hF=>?_
  refine wW ?_;refine wu aO aN ?_;refine wW ?_;refine wB ?_;obtain⟨pY,g,hF⟩:=Rx g hF;refine wK [2,5,7,8,14,16,18,19,20,21,22,23,24,25,26,27,28,29,31,32,35,36,37,38,39,40,41,42,43,165,166,167] ?_;refine wZ (kD 0 [0,58,0,0,0,0,0,0,0,0,0,0,0,3,0,5,0]) follows ?_;obtain⟨KS,g,hF⟩:=Rx g hF;refine wE hF mq λoq hF=>?_
  obtain⟨g,hF⟩:=Rg g hF;refine wK [2,5,7,8,14,16,18,19,20,21,22,23,24,25,26,27,28,29,31,32,35,36,37,38,39,40,41,42,165,166,167] ?_;refine wZ (kD 0 [58,0,0,0,0,0,0,3,0]) follows ?_;obtain⟨yi,Qo,hF⟩:=mg hF;have g:=And.intro g (show List.map aJ cG.2.2.2.2.2.2.1++[[.int .i64 oq]]=yi.map aJ by injection Qo with Qo;rw[<-Qo];simp[go_sem]);obtain⟨mA,g,hF⟩:=Rx g hF;refine wE hF mq λD2 hF=>?_
  refine wW ?_;refine wZ (kD 0 [233,234,58,66,0,0,0,0,0,3,0,5,233,234]) follows ?_;obtain⟨jz,g,hF⟩:=Rx g hF;refine wE hF CD λo0 hF=>?_
  obtain⟨g,hF⟩:=Rg g hF;refine wK [2,5,7,8,14,16,18,19,20,21,22,23,24,25,26,27,28,29,31,32,35,36,37,38,39,40,41,42,165,166,167] ?_
  iterate 2 refine wW ?_
  refine bT hF [2,5,7,8,14,16,18,19,20,21,22,23,24,25,26,27,28,29,31,32,35,36,37,38,39,40,41,165,166,167] (λxz=>[(44,.v (.int .i64 xz))]) (λxz hF=>?_) λ_ kg hF=>?_
  ·exact wL
  refine wI hF (λh98 hF=>?_) λh98 hF=>?_
  ·refine wZ (kD 0 [58,0,0,0,0,58,0,0,0,0,0,0,0,0,0,0,4,0,3,0]) follows ?_;have c0:= @mq;exact wL
  exact wT (kg _) (eZ hF)
 refine wR hF [2,3,4,5,7,8,14,16,18,19,20,21,22,23,24,25,26,27,28,30,31,113,114] (λuC dr=>[(29,.bl [vD dr.1,vD dr.2.1,vD dr.2.2.1,vD dr.2.2.2.1,vD dr.2.2.2.2.1,vD dr.2.2.2.2.2.1]),(32,.v (vD dr.2.2.2.2.2.2)),(115,.v (.int .i64 uC))]) λb bg uC dr _ _ aO aN bp ba hF=>?_
 refine wW ?_;refine wu aO aN ?_;refine wW ?_;refine wB ?_;obtain⟨vo,g,hF⟩:=Rx g hF;refine wK [2,3,4,5,7,8,14,16,18,19,20,21,22,23,24,25,26,27,28,29,30,31,32,33,34,113,114,115] ?_;refine wE hF Fa λut hF=>?_
 obtain⟨g,hF⟩:=Rg g hF;refine wK [2,3,4,5,7,8,14,16,18,19,20,21,22,23,24,25,26,27,28,29,30,31,32,33,113,114,115] ?_;refine wZ (kD 0 [233,234,58,66,0,0,0,0,0,0,0,0,3,0,5,233,234]) follows ?_;obtain⟨uv,T3,hF⟩:=mg hF;have g:=And.intro g (show List.map aJ dr.2.2.2.2.2.2++[[.int .i64 ut]]=uv.map aJ by injection T3 with T3;rw[<-T3];simp[go_sem]);have c0:= @CD;exact wL
def rR(a0:am)(a1:Int)(a2:List an)(a3:List Int)(a4:List Int)(a5:List Int):Option (ck×Bool):=
 (xB a0 a1 a2).bind λz1=>
 ((if(!z1.2)=Z then(
 J Z)else(
 (A6 a0 a3 a4 (a2.length:Int)).bind λz6=>
 if(!z6)=Z then(
 J Z)else(
 if((a5.length:Int) !=(i64.wrap ((i64.wrap (8*(a2.length:Int)))+2)))=Z then(
 J Z)else(
 (uP a0 a5).bind λz9=>
 J (!z9)))):Option Bool).bind λx4=>
 if x4=Z then(
 J ((ck.mk [] [] [] (bZ.mk [] [] [])),aa))else(
 (E4 a0 z1.1 a1 a2 a3 a4 a5).bind λb7=>
 J (b7.1,b7.2)))
def zo1{a0 a1 a2 a3 a4 a5 r}(hr:rR a0 a1 a2 a3 a4 a5=J r):ap Tryz.prog 34 [(.sh,vE a0),(.sh,.int .i64 a1),(.sh,vH a2),(.sh,vC a3),(.sh,vC a4),(.sh,vC a5)] (Eo (.bO [vM r.1,.bool r.2]) rn):=by
 apply DW 60 [] [51] [] [.cell 12 35,.tmp 13] hr zNy Tryz.func34;intro Φ ak hF g;unfold rR at hF;refine wW ?_;refine wE hF P1 λz1 hF=>?_
 refine wK [1,2,3,4,5,6,12,14,15] ?_;refine bT hF [1,2,3,4,5,6,12,14] (λx4=>[(48,.v (.bool x4))]) (λx4 hF=>?_) λ_ hj0 hF=>?_
 ·have c0:= @zlB;exact wL
 have c0:= @Ri;have c1:= @Hf;exact wL
def tV(a0:am)(a1:Int)(a2:List an)(a3:Int)(a4:List Int)(a5:List Int):Option (en×Bool):=
 (tt a0 a1 a2).bind λz1=>
 ((if(!z1.2)=Z then(
 J Z)else(
 (D5 a3).bind λz6=>
 if(!z6)=Z then(
 J Z)else(
 (Hq a3 (a2.length:Int)).bind λz8=>
 if((a5.length:Int) !=z8)=Z then(
 J Z)else(
 gd (0<=(a2.length:Int))<|
 gd (0<=a2.length/\a2.length<=a5.length)<|
 (A6 a0 a4 ((a5.take a2.length).drop 0) (a2.length:Int)).bind λbX=>
 J (!bX)))):Option Bool).bind λx4=>
 if x4=Z then(
 J ((en.mk 0 [] (cH.mk [] [] (bZ.mk [] [] [])) (ck.mk [] [] [] (bZ.mk [] [] []))),aa))else(
 gd (0<=(a2.length:Int))<|
 gd (0<=a2.length/\a2.length<=a5.length)<|
 gd (0<=(a2.length:Int))<|
 gd (a2.length<=a5.length/\a5.length<=a5.length)<|
 (Cl a0 a1 a2 a4 ((a5.take a2.length).drop 0)).bind λbH=>
 ((if(a3==1)=Z then(
 (pP a0 a1 a2 a4 ((a5.take a2.length).drop 0) ((a5.take a5.length).drop a2.length)).bind λhO=>
 J (a3,bH,hO.1.cu,hO.1.aF,hO.1.Pi.aC,hO.1.Pi.aW,hO.1.Pi.aD,[],[],[],[],[],[],hO.2))else(
 (rR a0 a1 a2 a4 ((a5.take a2.length).drop 0) ((a5.take a5.length).drop a2.length)).bind λfN=>
 J (a3,bH,[],[],[],[],[],fN.1.bQ,fN.1.bL,fN.1.aF,fN.1.Pi.aC,fN.1.Pi.aW,fN.1.Pi.aD,fN.2)):Option ((Int×List an×List Int×List Int×List Int×List Int×List Int×List Int×List Int×List Int×List Int×List Int×List Int×Bool))).bind λdq=>
 if(!dq.2.2.2.2.2.2.2.2.2.2.2.2.2)=Z then(
 J ((en.mk 0 [] (cH.mk [] [] (bZ.mk [] [] [])) (ck.mk [] [] [] (bZ.mk [] [] []))),aa))else(
 J ((en.mk dq.1 dq.2.1 (cH.mk dq.2.2.1 dq.2.2.2.1 (bZ.mk dq.2.2.2.2.1 dq.2.2.2.2.2.1 dq.2.2.2.2.2.2.1)) (ck.mk dq.2.2.2.2.2.2.2.1 dq.2.2.2.2.2.2.2.2.1 dq.2.2.2.2.2.2.2.2.2.1 (bZ.mk dq.2.2.2.2.2.2.2.2.2.2.1 dq.2.2.2.2.2.2.2.2.2.2.2.1 dq.2.2.2.2.2.2.2.2.2.2.2.2.1))),Z)))))
def zp0{a0 a1 a2 a3 a4 a5 r}(hr:tV a0 a1 a2 a3 a4 a5=J r):ap Tryz.prog 7 [(.sh,vE a0),(.sh,.int .i64 a1),(.sh,vH a2),(.sh,.int .i64 a3),(.sh,vC a4),(.sh,vC a5)] (Eo (.bO [vN r.1,.bool r.2]) rn):=by
 apply DW 98 [] [] [] [.cell 12 37,.tmp 13] hr cl7 Tryz.func7;intro Φ ak hF g;unfold tV at hF
 iterate 2 (try simp[go_sem,g];try intros;refine bu ?_)
 try simp[go_sem,g]
 try intros
 refine wE hF LZ λz1 hF=>?_
 refine wK [1,2,3,4,5,6,12,14,16] ?_;refine bT hF [1,2,3,4,5,6,12,14] (λx4=>[(54,.v (.bool x4))]) (λx4 hF=>?_) λ_ hj0 hF=>?_
 ·refine wI hF (λCj hF=>?_) λCj hF=>?_
  ·exact wl ak hF
  refine wW ?_;refine wZ (kD 0 [0,0,0,0,0,0,0,0]) follows ?_
  iterate 4 obtain⟨g,hF⟩:=Rg g hF
  refine wW ?_;refine wE hF OV λbH hF=>?_
  refine wK [1,2,3,4,6,12,17,18,19] ?_;refine wW ?_;refine wJ hF (λdq=>[(12,.bl [.int .i64 0,.sl Z 2 [],.sl Z 1 [],.sl Z 1 [],.sl Z 1 [],.sl Z 1 [],.sl Z 1 [],.sl Z 1 [],.sl Z 1 [],.sl Z 1 [],.sl Z 1 [],.sl Z 1 [],.sl Z 1 []]),(19,.bl [.int .i64 dq.1,vG dq.2.1,vC dq.2.2.1,vC dq.2.2.2.1,vC dq.2.2.2.2.1,vC dq.2.2.2.2.2.1,vC dq.2.2.2.2.2.2.1,vC dq.2.2.2.2.2.2.2.1,vC dq.2.2.2.2.2.2.2.2.1,vC dq.2.2.2.2.2.2.2.2.2.1,vC dq.2.2.2.2.2.2.2.2.2.2.1,vC dq.2.2.2.2.2.2.2.2.2.2.2.1,vC dq.2.2.2.2.2.2.2.2.2.2.2.2.1]),(20,.v (.bool dq.2.2.2.2.2.2.2.2.2.2.2.2.2))]) (λdq hF=>?_) λ_ hj0 hF=>?_
  ·exact wL
  refine wI hF (λCP hF=>?_) λCP hF=>?_
  ·refine wE hF znH λhO hF=>?_
   try simp[go_sem,g]
   refine jM 19 7 (by simp[go_sem,g];rfl) rfl (by simp[go_sem]) ?_;refine jM 19 8 (by simp[go_sem,g];rfl) rfl (by simp[go_sem]) ?_;refine jM 19 9 (by simp[go_sem,g];rfl) rfl (by simp[go_sem]) ?_;refine jM 19 10 (by simp[go_sem,g];rfl) rfl (by simp[go_sem]) ?_;refine jM 19 11 (by simp[go_sem,g];rfl) rfl (by simp[go_sem]) ?_;refine jM 19 12 (by simp[go_sem,g];rfl) rfl (by simp[go_sem]) ?_;exact wT (hj0 _) (eZ hF)
  refine wE hF zo1 λfN hF=>?_
  try simp[go_sem,g]
  refine jM 19 2 (by simp[go_sem,g];rfl) rfl (by simp[go_sem]) ?_;refine jM 19 3 (by simp[go_sem,g];rfl) rfl (by simp[go_sem]) ?_;refine jM 19 4 (by simp[go_sem,g];rfl) rfl (by simp[go_sem]) ?_;refine jM 19 5 (by simp[go_sem,g];rfl) rfl (by simp[go_sem]) ?_;refine jM 19 6 (by simp[go_sem,g];rfl) rfl (by simp[go_sem]) ?_;exact wT (hj0 _) (eZ hF)
 refine wZ (kD 0 [0,0,0,0,3,0,0,0,0,0,0,0,3,0,0,0,50,0,0,0,0,0,3,0,0]) follows ?_;have c0:= @X6;have c1:= @zmz;have c2:= @Ri;exact wL
def Aa(a0:am):Option Bool:=
 (((oi a0.P 3 2000000000).bind λz4=>
 if z4=Z then(
 (oi a0.Q 2 (i64.wrap (a0.P-1))).bind λz6=>
 if z6=Z then(
 gd (a0.Q≠0)<|
 if(((i64.wrap (a0.P-1)).tmod a0.Q)==0)=Z then(
 (oi a0.G 2 (i64.wrap (a0.P-1))).bind λz9=>
 if z9=Z then(
 (k9 a0.G a0.Q a0.P).bind λb7=>
 if(b7==1)=Z then(
 (zN a0.Q).bind λdk=>
 if dk=Z then(
 (zN a0.P).bind λfA=>
 J fA)else(
 J aa))else(
 J aa))else(
 J aa))else(
 J aa))else(
 J aa))else(
 J aa):Option Bool).bind λx3=>
 J x3)
def LI{a0 r}(hr:Aa a0=J r):ap Tryz.prog 144 [(.sh,vE a0)] (Eo (.bool r) [.au]):=by
 apply pE [] hr zIj Tryz.func144;intro Φ ak hF g;unfold Aa at hF;refine wW ?_;refine wJ hF (λx3=>[(2,.v (.bool x3))]) (λx3 hF=>?_) λ_ hj0 hF=>?_
 ·exact wm ak hF
 have c0:= @wX;have c1:= @xU;have c2:= @S6;exact wL
def p6(a0:am)(a1:List Int):Option Bool:=
 ((aS (σ:=Unit) (λi5 s4=>
 (ix a1 i5).bind λaU=>
 (((oi aU 1 (i64.wrap (a0.P-1))).bind λfA=>
 if(!fA)=Z then(
 J Z)else(
 (k9 aU a0.Q a0.P).bind λhO=>
 J (hO !=1)):Option Bool).bind λe8=>
 if e8=Z then(
 J (.out (.inr aa)))else(
 J (.go ())))) (λs4=>.inl ()) (a1.length) 0 ():Option (Unit ⊕ Bool)).bind (Sum.elim (λx3=>
 J Z) J))
def Nd{a0 a1 r}(hr:p6 a0 a1=J r):ap Tryz.prog 165 [(.sh,vE a0),(.sh,vC a1)] (Eo (.bool r) cI):=by
 apply pE [] hr zEs Tryz.func165;intro Φ ak hF g;unfold p6 at hF
 iterate 2 (try simp[go_sem,g];try intros;refine bu ?_)
 refine wS hF (λx3=>[]) (λx3 hF=>?_) λ_ hj0 dD hF=>?_
 ·exact wl ak hF
 refine wR hF [2,7,8] (λi5 s4=>[(9,.v (.int .i64 i5))]) λb bg i5 s4 _ _ aO aN bp ba hF=>?_
 refine wW ?_;refine wu aO aN ?_;refine wW ?_;refine wB ?_;obtain⟨aU,g,hF⟩:=Rx g hF;refine wW ?_;refine bT hF [2,7,8,9] (λe8=>[(27,.v (.bool e8))]) (λe8 hF=>?_) λ_ kg hF=>?_
 ·exact wL
 have c0:= @wX;have c1:= @xU;exact wL
def JQ(a0:am)(a1:Int):Option Bool:=
 (((Aa a0).bind λz4=>
 if z4=Z then(
 (p6 a0 [a1]).bind λz6=>
 J z6)else(
 J aa):Option Bool).bind λx3=>
 J x3)
def zuo{a0 a1 r}(hr:JQ a0 a1=J r):ap Tryz.prog 143 [(.sh,vE a0),(.sh,.int .i64 a1)] (Eo (.bool r) cI):=by
 apply pE [] hr zE9 Tryz.func143;intro Φ ak hF g;unfold JQ at hF;refine wW ?_;refine wJ hF (λx3=>[(4,.v (.bool x3))]) (λx3 hF=>?_) λ_ hj0 hF=>?_
 ·exact wm ak hF
 have c0:= @LI;have c1:= @Nd;exact wL
def Ee(a0:am)(a1:List an):Option Bool:=
 if decide (24<(a1.length:Int))=Z then(
 J aa)else(
 ((aS (σ:=Unit) (λi6 s5=>
 (ix a1 i6).bind λcY=>
 (p6 a0 [cY.A,cY.B]).bind λdk=>
 if(!dk)=Z then(
 J (.out (.inr aa)))else(
 J (.go ()))) (λs5=>.inl ()) (a1.length) 0 ():Option (Unit ⊕ Bool)).bind (Sum.elim (λx4=>
 J Z) J)))
def Ya{a0 a1 r}(hr:Ee a0 a1=J r):ap Tryz.prog 103 [(.sh,vE a0),(.sh,vH a1)] (Eo (.bool r) cI):=by
 apply pE [] hr zFJ Tryz.func103;intro Φ ak hF g;unfold Ee at hF
 iterate 2 (try simp[go_sem,g];try intros;refine bu ?_)
 refine wI hF (λh1 hF=>?_) λh1 hF=>?_
 ·exact wl ak hF
 iterate 2 (try simp[go_sem,g];try intros;refine bu ?_)
 refine wS hF (λx4=>[]) (λx4 hF=>?_) λ_ hj0 dD hF=>?_
 ·exact wl ak hF
 refine wR hF [2,10,11] (λi6 s5=>[(12,.v (.int .i64 i6))]) λb bg i6 s5 _ _ aO aN bp ba hF=>?_
 have c0:= @Nd;exact wL
def p7(a0:am)(a1:Int)(a2:List an):Option Bool:=
 (((JQ a0 a1).bind λz4=>
 if z4=Z then(
 (oi (a2.length:Int) 1 12).bind λz6=>
 if z6=Z then(
 (Ee a0 a2).bind λz8=>
 J z8)else(
 J aa))else(
 J aa):Option Bool).bind λx3=>
 J x3)
def IF{a0 a1 a2 r}(hr:p7 a0 a1 a2=J r):ap Tryz.prog 82 [(.sh,vE a0),(.sh,.int .i64 a1),(.sh,vH a2)] (Eo (.bool r) gx):=by
 apply pE [] hr zKP Tryz.func82;intro Φ ak hF g;unfold p7 at hF;refine wW ?_;refine wJ hF (λx3=>[(6,.v (.bool x3))]) (λx3 hF=>?_) λ_ hj0 hF=>?_
 ·exact wm ak hF
 have c0:= @zuo;have c1:= @wX;have c2:= @Ya;exact wL
def Ij(a0:Int):Option Bool:=
 (oi a0 0 4611686018427387903).bind λz1=>
 J z1
def zqd{a0 r}(hr:Ij a0=J r):ap Tryz.prog 181 [(.sh,.int .i64 a0)] (Eo (.bool r) [.au]):=by
 apply pE [] hr zGI Tryz.func181;intro Φ ak hF g;unfold Ij at hF;have c0:= @wX;exact wL
def GY(a0:ByteArray)(a1:List Int):Option ((List Int)):=
 ((dJ (σ:=(List Int)×Int) (λs4=>
 if decide (s4.2<(a0.size:Int))=Z then(
 (r9 a0 s4.2).bind λer=>
 gd ((s4.1.length+1)*8<=140737488355328/\s4.1.length+1<=4611686018427387904)<|
 J (.go (s4.1++[i64.wrap er],i64.wrap (s4.2+1))))else(
 J (.out s4.1))) ([(a0.size:Int)],0):Option ((List Int))).bind λx3=>
 gd ((x3.length+a1.length)*8<=140737488355328/\x3.length+a1.length<=4611686018427387904)<|
 J (x3++a1))
def zrD{a0 a1 r}(hr:GY a0 a1=J r):ap Tryz.prog 217 [(.sh,.str a0),(.sh,vC a1)] (Eo (vD r) cI):=by
 apply pE [] hr zEz Tryz.func217;intro Φ ak hF g;unfold GY at hF
 iterate 3 refine wW ?_
 refine wJ hF (λx3=>[(1,.v (vC a1)),(5,.v (vD x3))]) (λx3 hF=>?_) λ_ hj0 hF=>?_
 ·exact wL
 refine wB ?_;obtain⟨KY,xH,bg⟩:=hF;refine jQ xH [0,1] (λs4=>[(5,.v (vD s4.1)),(6,.v (.int .i64 s4.2))]) λs4 _ _ bp ba hF=>?_
 exact wL
def Ew(aL:Int)(aV:Int)(a1:Int):Option ((Int×Int)):=
 (J [a1.tmod 2147483648,i64.wrap (a1.tdiv 2147483648)]).bind λx1=>
 dJ (σ:=(Int×Int)×Int) (λrq=>
 if decide (rq.2<(x1.length:Int))=Z then(
 (ix x1 rq.2).bind λuk=>
 J (.go (((i64.wrap ((i64.wrap ((i64.wrap (48271*rq.1.1))+uk))+1)).tmod 2147483647,(i64.wrap ((i64.wrap ((i64.wrap (69621*rq.1.2))+uk))+1)).tmod 2147483647),i64.wrap (rq.2+1))))else(
 J (.out (rq.1.1,rq.1.2)))) ((aL,aV),0)
def Wd{aL aV a1 r}(hr:Ew aL aV a1=J r):ap Tryz.prog 218 [(.io,vO aL aV),(.sh,.int .i64 a1)] (Eo (.au) [vO r.1 r.2,.au]):=by
 apply pE [0] hr zFR Tryz.func218;intro Φ ak hF g;unfold Ew at hF;have g:=Ld g 2147483648;obtain⟨x1,e2,hF⟩:=mg hF;have g:=And.intro g (show[[.int .i64 (a1.tmod 2147483648)],[.int .i64 (i64.wrap (a1.tdiv 2147483648))]]=x1.map aJ by injection e2 with e2;rw[<-e2];simp[go_sem]);try simp[go_sem,g]
 try intros
 refine bu ?_;refine wB ?_;obtain⟨b17,a1a,bg⟩:=hF;refine jQ a1a [10,11] (λrq=>[(0,.v (vO rq.1.1 rq.1.2)),(12,.v (.int .i64 rq.2))]) λrq _ _ bp ba hF=>?_
 refine wW ?_;refine wI hF (λQ0 hF=>?_) λQ0 hF=>?_
 ·refine wW ?_;refine wB ?_;obtain⟨uk,g,hF⟩:=Rx g hF;refine wK [0,5,10,11,12] ?_;have g:=Ld g 2147483647;exact wL
 exact wL
def JE(a0:List Int):Option Int:=
 (Ew 1 2 (a0.length:Int)).bind λz1=>
 ((aS (σ:=(Int×Int)) (λwP eX=>
 (ix a0 wP).bind λv6=>
 (Ew eX.1 eX.2 v6).bind λkM=>
 J (.go (kM.1,kM.2))) (λeX=>(eX.1,eX.2)) (a0.length) 0 (z1.1,z1.2):Option ((Int×Int))).bind λx4=>
 J (i64.wrap ((i64.wrap (x4.1*2147483648))+x4.2)))
def ztJ{a0 r}(hr:JE a0=J r):ap Tryz.prog 216 [(.sh,vC a0)] (Eo (.int .i64 r) [.au]):=by
 apply pF 32 [] [] [7] [.tmp 2] hr zFt Tryz.func216;intro Φ ak hF g;unfold JE at hF
 iterate 2 (try simp[go_sem,g];try intros;refine bu ?_)
 try simp[go_sem,g]
 try intros
 refine wC hF [.io,.sh] Wd λz1 hF=>?_
 try simp[go_sem,g]
 try intros
 refine bu ?_;try simp[go_sem,g]
 try intros
 refine wK [3,12,13,14] ?_;refine wJ hF (λx4=>[(3,.v (vO x4.1 x4.2))]) (λx4 hF=>?_) λ_ hj0 hF=>?_
 ·refine wZ (kD 0 [0,0,0,0,0,0,0,0,0,0,0]) follows ?_;refine wK [2] ?_;exact wm ak hF
 refine wR hF [12,13] (λwP eX=>[(3,.v (vO eX.1 eX.2)),(14,.v (.int .i64 wP))]) λb bg wP eX _ _ aO aN bp ba hF=>?_
 have jc:= @Wd;exact wL
def DJ(a0:ByteArray)(a1:List Int):Option Int:=
 (GY a0 a1).bind λz1=>
 (JE z1).bind λz2=>
 J z2
def X3{a0 a1 r}(hr:DJ a0 a1=J r):ap Tryz.prog 212 [(.sh,.str a0),(.sh,vC a1)] (Eo (.int .i64 r) cI):=by
 apply pE [] hr zFV Tryz.func212;intro Φ ak hF g;unfold DJ at hF;have c0:= @zrD;have c1:= @ztJ;exact wL
def zL(a0:am)(a1:ByteArray)(a2:Int):Option Int:=
 ((dJ (σ:=Int) (λs4=>
 if decide (s4<1000)=Z then(
 (DJ a1 [a0.P,a0.Q,a0.G,a2,s4]).bind λbX=>
 gd (i64.wrap (a0.P-1)≠0)<|
 gd (a0.Q≠0)<|
 (k9 (i64.wrap (1+(bX.tmod (i64.wrap (a0.P-1))))) (i64.wrap ((i64.wrap (a0.P-1)).tdiv a0.Q)) a0.P).bind λb7=>
 if(b7 !=1)=Z then(
 J (.out (.inr b7)))else(
 J (.go (i64.wrap (s4+1)))))else(
 J (.out (.inl ())))) 0:Option (Unit ⊕ Int)).bind (Sum.elim (λx3=>
 J 0) J))
def Zz{a0 a1 a2 r}(hr:zL a0 a1 a2=J r):ap Tryz.prog 182 [(.sh,vE a0),(.sh,.str a1),(.sh,.int .i64 a2)] (Eo (.int .i64 r) gx):=by
 apply pE [] hr zHG Tryz.func182;intro Φ ak hF g;unfold zL at hF
 iterate 2 refine wW ?_
 refine wS hF (λx3=>[]) (λx3 hF=>?_) λ_ hj0 dD hF=>?_
 ·exact wl ak hF
 refine wB ?_;obtain⟨b13,SS,bg⟩:=hF;refine jQ SS [1,2,3] (λs4=>[(7,.v (.int .i64 s4))]) λs4 _ _ bp ba hF=>?_
 refine wW ?_;refine wI hF (λh9 hF=>?_) λh9 hF=>?_
 ·refine wW ?_;refine wB ?_;refine wZ (kE [0,1,2,3,4,5,6,7,8,9,11,12,13,10,14,15,16] [0,25,26,25,26,25,26,0,0,0,25,26,0,6,0,0,0]) follows ?_;refine wE hF X3 λbX hF=>?_
  obtain⟨g,hF⟩:=Rz g hF;refine wK [1,2,3,7,8] ?_;refine wZ (kD 0 [0,25,26,0,25,26,0,25,26,3,0]) follows ?_;have c0:= @xU;exact wL
 exact wL
def GF(a0:am)(a1:ByteArray)(a2:Int):Option (Int×Bool):=
 (((Aa a0).bind λz4=>
 if(!z4)=Z then(
 J Z)else(
 if decide (40<(a1.size:Int))=Z then(
 J Z)else(
 (Ij a2).bind λz7=>
 J (!z7))):Option Bool).bind λx3=>
 if x3=Z then(
 J (0,aa))else(
 (zL a0 a1 a2).bind λz9=>
 J (z9,decide (0<z9))))
def zmk{a0 a1 a2 r}(hr:GF a0 a1 a2=J r):ap Tryz.prog 145 [(.sh,vE a0),(.sh,.str a1),(.sh,.int .i64 a2)] (Eo (.bO [.int .i64 r.1,.bool r.2]) gx):=by
 apply pE [] hr zE8 Tryz.func145;intro Φ ak hF g;unfold GF at hF;refine wW ?_;refine bT hF [1,2,3] (λx3=>[(21,.v (.bool x3))]) (λx3 hF=>?_) λ_ hj0 hF=>?_
 ·have c0:= @Zz;exact wL
 have c0:= @LI;have c1:= @zqd;exact wL
def JM(a0:am)(a1:ByteArray)(a2:Int):Option (List Int×Bool):=
 (((Aa a0).bind λz4=>
 if(!z4)=Z then(
 J Z)else(
 if decide (40<(a1.size:Int))=Z then(
 J Z)else(
 (oi a2 0 100).bind λz7=>
 J (!z7))):Option Bool).bind λx3=>
 if x3=Z then(
 J ([],aa))else(
 ((dJ (σ:=(List Int)×Int) (λtd=>
 if decide (td.2<a2)=Z then(
 (zL a0 a1 td.2).bind λfN=>
 if(fN==0)=Z then(
 J (.out (.inr ([],aa))))else(
 gd ((td.1.length+1)*8<=140737488355328/\td.1.length+1<=4611686018427387904)<|
 J (.go (td.1++[fN],i64.wrap (td.2+1)))))else(
 J (.out (.inl td.1)))) ([],0):Option ((List Int) ⊕ (List Int×Bool))).bind (Sum.elim (λaU=>
 J (aU,Z)) J))))
def zl1{a0 a1 a2 r}(hr:JM a0 a1 a2=J r):ap Tryz.prog 146 [(.sh,vE a0),(.sh,.str a1),(.sh,.int .i64 a2)] (Eo (.bO [vD r.1,.bool r.2]) gx):=by
 apply pE [] hr zG0 Tryz.func146;intro Φ ak hF g;unfold JM at hF;refine wW ?_;refine bT hF [1,2,3] (λx3=>[(23,.v (.bool x3))]) (λx3 hF=>?_) λ_ hj0 hF=>?_
 ·refine wI hF (λh8 hF=>?_) λh8 hF=>?_
  ·exact wl ak hF
  iterate 3 refine wW ?_
  refine wS hF (λaU=>[(8,.v (vD aU))]) (λaU hF=>?_) λ_ hj0 dD hF=>?_
  ·exact wl ak hF
  refine wB ?_;obtain⟨b20,a0U,bg⟩:=hF;refine jQ a0U [1,2,3] (λtd=>[(8,.v (vD td.1)),(9,.v (.int .i64 td.2))]) λtd _ _ bp ba hF=>?_
  have c0:= @Zz;exact wL
 have c0:= @LI;have c1:= @wX;exact wL
def sB(a0:am)(a1:Int):Option (cr×Bool):=
 (((Aa a0).bind λz4=>
 if(!z4)=Z then(
 J Z)else(
 (oi a1 0 24).bind λz6=>
 J (!z6)):Option Bool).bind λx3=>
 if x3=Z then(
 J ((cr.mk 0 []),aa))else(
 (GF a0 (⟨#[104]⟩:ByteArray) 0).bind λz8=>
 (JM a0 (⟨#[104,115]⟩:ByteArray) a1).bind λz9=>
 ((if(!z8.2)=Z then(
 J Z)else(
 J (!z9.2)):Option Bool).bind λcY=>
 if cY=Z then(
 J ((cr.mk 0 []),aa))else(
 J ((cr.mk z8.1 z9.1),Z)))))
def Lh{a0 a1 r}(hr:sB a0 a1=J r):ap Tryz.prog 83 [(.sh,vE a0),(.sh,.int .i64 a1)] (Eo (.bO [vI r.1,.bool r.2]) cI):=by
 apply pE [] hr zNZ Tryz.func83;intro Φ ak hF g;unfold sB at hF;refine wW ?_;refine bT hF [1,2,4] (λx3=>[(17,.v (.bool x3))]) (λx3 hF=>?_) λ_ hj0 hF=>?_
 ·refine wI hF (λh7 hF=>?_) λh7 hF=>?_
  ·exact wl ak hF
  refine wW ?_;refine wE hF zmk λz8 hF=>?_
  refine wK [1,2,4,6,7] ?_;refine wE hF zl1 λz9 hF=>?_
  refine wW ?_;refine bT hF [4,6,8] (λcY=>[(35,.v (.bool cY))]) (λcY hF=>?_) λ_ hj0 hF=>?_
  ·exact wL
  exact wL
 have c0:= @LI;have c1:= @wX;exact wL
def tc(a0:am)(a1:Int)(a2:List an):Option Bool:=
 (p7 a0 a1 a2).bind λz1=>
 if(!z1)=Z then(
 J aa)else(
 (sB a0 (a2.length:Int)).bind λz3=>
 J z3.2)
def UQ{a0 a1 a2 r}(hr:tc a0 a1 a2=J r):ap Tryz.prog 36 [(.sh,vE a0),(.sh,.int .i64 a1),(.sh,vH a2)] (Eo (.bool r) gx):=by
 apply pE [] hr zL8 Tryz.func36;intro Φ ak hF g;unfold tc at hF;have c0:= @IF;have c1:= @Lh;exact wL
def C2(a0:List Int)(a1:Int)(a2:Int):Option Bool:=
 ((aS (σ:=Unit) (λi5 s4=>
 (ix a0 i5).bind λaU=>
 (oi aU a1 a2).bind λbH=>
 if(!bH)=Z then(
 J (.out (.inr aa)))else(
 J (.go ()))) (λs4=>.inl ()) (a0.length) 0 ():Option (Unit ⊕ Bool)).bind (Sum.elim (λx3=>
 J Z) J))
def PX{a0 a1 a2 r}(hr:C2 a0 a1 a2=J r):ap Tryz.prog 84 [(.sh,vC a0),(.sh,.int .i64 a1),(.sh,.int .i64 a2)] (Eo (.bool r) gx):=by
 apply pE [] hr zKR Tryz.func84;intro Φ ak hF g;unfold C2 at hF
 iterate 2 (try simp[go_sem,g];try intros;refine bu ?_)
 refine wS hF (λx3=>[]) (λx3 hF=>?_) λ_ hj0 dD hF=>?_
 ·exact wl ak hF
 refine wR hF [1,2,9,10] (λi5 s4=>[(11,.v (.int .i64 i5))]) λb bg i5 s4 _ _ aO aN bp ba hF=>?_
 have c0:= @wX;exact wL
def EB(a0:List Int)(a1:Int):Option Bool:=
 ((aS (σ:=Unit) (λi5 s4=>
 (ix a0 i5).bind λaU=>
 if(aU==a1)=Z then(
 J (.out (.inr Z)))else(
 J (.go ()))) (λs4=>.inl ()) (a0.length) 0 ():Option (Unit ⊕ Bool)).bind (Sum.elim (λx3=>
 J aa) J))
def znj{a0 a1 r}(hr:EB a0 a1=J r):ap Tryz.prog 147 [(.sh,vC a0),(.sh,.int .i64 a1)] (Eo (.bool r) cI):=by
 apply pE [] hr zGc Tryz.func147;intro Φ ak hF g;unfold EB at hF
 iterate 2 (try simp[go_sem,g];try intros;refine bu ?_)
 refine wS hF (λx3=>[]) (λx3 hF=>?_) λ_ hj0 dD hF=>?_
 ·exact wl ak hF
 refine wR hF [1,7,8] (λi5 s4=>[(9,.v (.int .i64 i5))]) λb bg i5 s4 _ _ aO aN bp ba hF=>?_
 exact wL
def NE(a0:List Int):Option Bool:=
 ((aS (σ:=Unit) (λi5 s4=>
 (ix a0 i5).bind λaU=>
 gd (0<=i5)<|
 gd (0<=i5.toNat/\i5.toNat<=a0.length)<|
 (EB ((a0.take i5.toNat).drop 0) aU).bind λbH=>
 if bH=Z then(
 J (.out (.inr aa)))else(
 J (.go ()))) (λs4=>.inl ()) (a0.length) 0 ():Option (Unit ⊕ Bool)).bind (Sum.elim (λx3=>
 J Z) J))
def zoA{a0 r}(hr:NE a0=J r):ap Tryz.prog 85 [(.sh,vC a0)] (Eo (.bool r) [.au]):=by
 apply pE [] hr zLr Tryz.func85;intro Φ ak hF g;unfold NE at hF
 iterate 2 (try simp[go_sem,g];try intros;refine bu ?_)
 refine wS hF (λx3=>[]) (λx3 hF=>?_) λ_ hj0 dD hF=>?_
 ·exact wl ak hF
 refine wR hF [0,5,6] (λi5 s4=>[(7,.v (.int .i64 i5))]) λb bg i5 s4 _ _ aO aN bp ba hF=>?_
 have c0:= @znj;exact wL
def G0(a0:List Int):Option Bool:=
 ((if decide ((a0.length:Int)<=24)=Z then(
 (C2 a0 0 (i64.wrap ((a0.length:Int)-1))).bind λz5=>
 if z5=Z then(
 (NE a0).bind λz7=>
 J z7)else(
 J aa))else(
 J aa):Option Bool).bind λx3=>
 J x3)
def zsN{a0 r}(hr:G0 a0=J r):ap Tryz.prog 37 [(.sh,vC a0)] (Eo (.bool r) [.au]):=by
 apply pE [] hr zNi Tryz.func37;intro Φ ak hF g;unfold G0 at hF;refine wW ?_;refine wJ hF (λx3=>[(2,.v (.bool x3))]) (λx3 hF=>?_) λ_ hj0 hF=>?_
 ·exact wm ak hF
 have c0:= @PX;have c1:= @zoA;exact wL
def rI(a0:am)(a1:List Int):Option Bool:=
 (C2 a1 0 (i64.wrap (a0.Q-1))).bind λz1=>
 J z1
def HY{a0 a1 r}(hr:rI a0 a1=J r):ap Tryz.prog 38 [(.sh,vE a0),(.sh,vC a1)] (Eo (.bool r) cI):=by
 apply pE [] hr zLG Tryz.func38;intro Φ ak hF g;unfold rI at hF;have c0:= @PX;exact wL
def d8(a0:am)(a1:List Int):Option Int:=
 ((aS (σ:=Int) (λi5 s4=>
 (ix a1 i5).bind λaU=>
 gd (a0.P≠0)<|
 J (.go ((i64.wrap (s4*aU)).tmod a0.P))) (λs4=>s4) (a1.length) 0 1:Option Int).bind λx3=>
 J x3)
def hJ{a0 a1 r}(hr:d8 a0 a1=J r):ap Tryz.prog 190 [(.sh,vE a0),(.sh,vC a1)] (Eo (.int .i64 r) cI):=by
 apply pE [] hr zGA Tryz.func190;intro Φ ak hF g;unfold d8 at hF
 iterate 3 (try simp[go_sem,g];try intros;refine bu ?_)
 refine wJ hF (λx3=>[(5,.v (.int .i64 x3))]) (λx3 hF=>?_) λ_ hj0 hF=>?_
 ·exact wl ak hF
 refine wR hF [2,8,9] (λi5 s4=>[(5,.v (.int .i64 s4)),(10,.v (.int .i64 i5))]) λb bg i5 s4 _ _ aO aN bp ba hF=>?_
 exact wL
def Ku(a0:am)(a1:Int)(a2:Int)(a3:Int):Option an:=
 (cD a0 a0.G a3).bind λz1=>
 (cD a0 a1 a3).bind λz2=>
 (d8 a0 [a2,z2]).bind λz3=>
 J (an.mk z1 z3)
def zuK{a0 a1 a2 a3 r}(hr:Ku a0 a1 a2 a3=J r):ap Tryz.prog 184 [(.sh,vE a0),(.sh,.int .i64 a1),(.sh,.int .i64 a2),(.sh,.int .i64 a3)] (Eo (vF r) kL):=by
 apply pE [] hr zH9 Tryz.func184;intro Φ ak hF g;unfold Ku at hF;refine wW ?_;refine wZ (kE [0,1,2,3,5,6,7,8,9,4,10,11,12,13,14] [34,33,34,0,34,0,34,0,0,3,3,0,6,0,66]) follows ?_;have c0:= @fm;have c1:= @hJ;exact wL
def N0(a0:am)(a1:List an):Option an:=
 ((aS (σ:=Int×Int) (λwP eX=>
 (ix a1 wP).bind λv6=>
 (d8 a0 [eX.1,v6.A]).bind λkM=>
 (d8 a0 [eX.2,v6.B]).bind λwU=>
 J (.go (kM,wU))) (λeX=>(eX.1,eX.2)) (a1.length) 0 (1,1):Option ((Int×Int))).bind λx3=>
 J (an.mk x3.1 x3.2))
def zuE{a0 a1 r}(hr:N0 a0 a1=J r):ap Tryz.prog 183 [(.sh,vE a0),(.sh,vH a1)] (Eo (vF r) cI):=by
 apply pE [] hr zFP Tryz.func183;intro Φ ak hF g;unfold N0 at hF
 iterate 3 (try simp[go_sem,g];try intros;refine bu ?_)
 refine wJ hF (λx3=>[(4,.bl [.int .i64 0,.int .i64 0]),(5,.bl [.int .i64 x3.1,.int .i64 x3.2])]) (λx3 hF=>?_) λ_ hj0 hF=>?_
 ·refine wK [4] ?_;exact wm ak hF
 refine wR hF [2,4,9,10] (λwP eX=>[(5,.bl [.int .i64 eX.1,.int .i64 eX.2]),(11,.v (.int .i64 wP))]) λb bg wP eX _ _ aO aN bp ba hF=>?_
 refine wW ?_;refine wu aO aN ?_;refine wW ?_;refine wB ?_;obtain⟨v6,g,hF⟩:=Rx g hF;refine wK [2,4,5,7,9,10,11] ?_;refine wZ (kE [0,1,2,3,4,5,7,8,9,10,11,12,6,13,14,15] [18,41,42,57,58,0,18,41,42,57,58,0,6,6,0,42]) follows ?_;have c0:= @hJ;exact wL
def F8(a0:am)(a1:Int)(a2:an)(a3:Int):Option an:=
 (Ku a0 a1 1 a3).bind λz1=>
 (N0 a0 [a2,z1]).bind λz2=>
 J z2
def zwg{a0 a1 a2 a3 r}(hr:F8 a0 a1 a2 a3=J r):ap Tryz.prog 148 [(.sh,vE a0),(.sh,.int .i64 a1),(.sh,vF a2),(.sh,.int .i64 a3)] (Eo (vF r) kL):=by
 apply pE [] hr zEH Tryz.func148;intro Φ ak hF g;unfold F8 at hF;refine wW ?_;refine wZ (kD 0 [34,50,34,0,0,3,0,6,66]) follows ?_;have c0:= @zuK;have c1:= @zuE;exact wL
def Cw(a0:am)(a1:Int)(a2:List an)(a3:List Int)(a4:List Int):Option ((List an)):=
 ((aS (σ:=(List an)) (λi5 s4=>
 (ix a3 i5).bind λaU=>
 (ix a2 aU).bind λcY=>
 (ix a4 i5).bind λgW=>
 (F8 a0 a1 cY gW).bind λeT=>
 gd ((s4.length+1)*16<=140737488355328/\s4.length+1<=4611686018427387904)<|
 J (.go (s4++[eT]))) (λs4=>s4) (a3.length) 0 []:Option ((List an))).bind λx3=>
 J x3)
def Pb{a0 a1 a2 a3 a4 r}(hr:Cw a0 a1 a2 a3 a4=J r):ap Tryz.prog 86 [(.sh,vE a0),(.sh,.int .i64 a1),(.sh,vH a2),(.sh,vC a3),(.sh,vC a4)] (Eo (vG r) rZ):=by
 apply pE [] hr zNx Tryz.func86;intro Φ ak hF g;unfold Cw at hF
 iterate 3 (try simp[go_sem,g];try intros;refine bu ?_)
 refine wJ hF (λx3=>[(11,.v (vG x3))]) (λx3 hF=>?_) λ_ hj0 hF=>?_
 ·exact wl ak hF
 refine wR hF [1,2,4,5,14,15] (λi5 s4=>[(11,.v (vG s4)),(16,.v (.int .i64 i5))]) λb bg i5 s4 _ _ aO aN bp ba hF=>?_
 refine wW ?_;refine wu aO aN ?_;refine wW ?_;refine wB ?_;obtain⟨aU,g,hF⟩:=Rx g hF;refine wK [1,2,4,5,11,12,13,14,15,16] ?_;refine wZ (kD 0 [0,42,0,0,0,0,0,0,0,0,0,3,0,5,0]) follows ?_;have c0:= @zwg;exact wL
def Fo(a0:List Int):Option Bool:=
 ((aS (σ:=Unit) (λi5 s4=>
 (ix a0 i5).bind λaU=>
 gd (0<=i5)<|
 gd (0<=i5.toNat/\i5.toNat<=a0.length)<|
 (EB ((a0.take i5.toNat).drop 0) aU).bind λbH=>
 if bH=Z then(
 J (.out (.inr aa)))else(
 J (.go ()))) (λs4=>.inl ()) (a0.length) 0 ():Option (Unit ⊕ Bool)).bind (Sum.elim (λx3=>
 J Z) J))
def zq5{a0 r}(hr:Fo a0=J r):ap Tryz.prog 185 [(.sh,vC a0)] (Eo (.bool r) [.au]):=by
 apply pE [] hr zEq Tryz.func185;intro Φ ak hF g;unfold Fo at hF
 iterate 2 (try simp[go_sem,g];try intros;refine bu ?_)
 refine wS hF (λx3=>[]) (λx3 hF=>?_) λ_ hj0 dD hF=>?_
 ·exact wl ak hF
 refine wR hF [0,5,6] (λi5 s4=>[(7,.v (.int .i64 i5))]) λb bg i5 s4 _ _ aO aN bp ba hF=>?_
 have c0:= @znj;exact wL
def Ey(a0:List Int)(a1:Int):Option Bool:=
 ((if((a0.length:Int)==a1)=Z then(
 (C2 a0 0 (i64.wrap (a1-1))).bind λz5=>
 if z5=Z then(
 (Fo a0).bind λz7=>
 J z7)else(
 J aa))else(
 J aa):Option Bool).bind λx3=>
 J x3)
def zn0{a0 a1 r}(hr:Ey a0 a1=J r):ap Tryz.prog 149 [(.sh,vC a0),(.sh,.int .i64 a1)] (Eo (.bool r) cI):=by
 apply pE [] hr zFp Tryz.func149;intro Φ ak hF g;unfold Ey at hF;refine wW ?_;refine wJ hF (λx3=>[(4,.v (.bool x3))]) (λx3 hF=>?_) λ_ hj0 hF=>?_
 ·exact wm ak hF
 have c0:= @PX;have c1:= @zq5;exact wL
def GG(a0:am)(a1:cr)(a2:List Int)(a3:List Int):Option ((List Int)):=
 gd (0<=(a2.length:Int)/\(a2.length:Int)<=(a2.length:Int)/\8*(a2.length:Int)<=140737488355328/\(a2.length:Int)<=4611686018427387904)<|
 (J (List.replicate a2.length 0)).bind λx1=>
 ((aS (σ:=(List Int)) (λmB dx=>
 (ix a2 mB).bind λfM=>
 (ix a3 fM).bind λig=>
 (ix a1.Hs mB).bind λj6=>
 (cD a0 a0.G ig).bind λeY=>
 (d8 a0 [eY,j6]).bind λgp=>
 (ix dx fM).bind λn6=>
 J (.go (dx.set fM.toNat gp))) (λdx=>dx) (a2.length) 0 x1:Option ((List Int))).bind λx6=>
 J x6)
end
end Go.Pm
