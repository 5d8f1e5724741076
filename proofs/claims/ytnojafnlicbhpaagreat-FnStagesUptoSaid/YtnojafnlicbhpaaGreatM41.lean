/-
  Plain functions and their walks. Written by wip/tools/lift.py.
-/
import Derived.Test.YtnojafnlicbhpaaGreatPS
open Bool renaming false→aa,true→Z
open Option renaming none→ae,some→J
set_option linter.defProp false
namespace Go.Pm
open Go.Am IntKind
open Go.Proofs
def Gy:=@List.map_congr_left
def Gz:=@List.map_set
def KC:=@List.length_set
set_option maxRecDepth 100000
set_option maxHeartbeats 4000000
attribute [local irreducible] pw pwx pw1 pwg qv qz qf
attribute [-simp] List.map_set
set_option linter.unusedSimpArgs false
set_option linter.unusedVariables false
noncomputable section
structure am where
 P:Int
 Q:Int
 G:Int
structure an where
 A:Int
 B:Int
structure AcD where
 code:(List Int)
 at_:Int
 dC:Int
structure bZ where
 aC:(List Int)
 aV:(List Int)
 aE:(List Int)
structure cH where
 cq:(List Int)
 aF:(List Int)
 Pi:bZ
structure cn where
 bQ:(List Int)
 bK:(List Int)
 aF:(List Int)
 Pi:bZ
structure d8 where
 dF:Int
 Out:(List an)
 br:cH
 Poly:cn
structure ct where
 H:Int
 Hs:(List Int)
structure AcB where
 l:(List Int)
structure Acw where
 f0:(List Int)
 f1:(List Int)
 f2:(List Int)
 f3:(List Int)
 f4:(List Int)
structure AcC where
 s:Int
 t:Int
structure Acx where
 l:(List Int)
 ok:Bool
def qr(x:Int):List PV:=[.int .u8 x]
variable{i:Nat}{l:List Int}{x:(List Int)}
@[go_sem] def zI2{x:Int}:qr x=[.int .u8 x]:=(rfl)
@[go_sem] def zuH :List.map (List.map drop∘qr) l=l.map qr:=by refine Gy λx _=>?_;simp[go_sem]
@[go_sem] def zCZ :List.map (List.map drop) (l.map qr)=l.map qr:=by rw[sF];exact zuH
@[go_sem] def zG6{a:Int}:(l.map qr).set i [.int .u8 a]=(l.set i a).map qr:=by rw[Gz];rfl
def aJ(x:Int):List PV:=[.int .i64 x]
@[go_sem] def zEA{x:Int}:aJ x=[.int .i64 x]:=(rfl)
@[go_sem] def zsU :List.map (List.map drop∘aJ) l=l.map aJ:=by refine Gy λx _=>?_;simp[go_sem]
@[go_sem] def zCf :List.map (List.map drop) (l.map aJ)=l.map aJ:=by rw[sF];exact zsU
@[go_sem] def zEg{a:Int}:(l.map aJ).set i [.int .i64 a]=(l.set i a).map aJ:=by rw[Gz];rfl
def jo(x:an):List PV:=[.int .i64 x.A,.int .i64 x.B]
@[go_sem] def zCa{x:an}:jo x=[.int .i64 x.A,.int .i64 x.B]:=(rfl)
@[go_sem] def zqc{l:List an}:List.map (List.map drop∘jo) l=l.map jo:=by refine Gy λx _=>?_;simp[go_sem]
@[go_sem] def zy2{l:List an}:List.map (List.map drop) (l.map jo)=l.map jo:=by rw[sF];exact zqc
@[go_sem] def zBP{l:List an}{A:Int}{B:Int}:(l.map jo).set i [.int .i64 A,.int .i64 B]=(l.set i (an.mk A B)).map jo:=by rw[Gz];rfl
def kU(x:List Int):List PV:=[.sl aa 1 (x.map aJ)]
@[go_sem] def zEo :kU x=[.sl aa 1 (x.map aJ)]:=(rfl)
@[go_sem] def zrH{l:List (List Int)}:List.map (List.map drop∘kU) l=l.map kU:=by refine Gy λx _=>?_;simp[go_sem]
@[go_sem] def zA4{l:List (List Int)}:List.map (List.map drop) (l.map kU)=l.map kU:=by rw[sF];exact zrH
@[go_sem] def zC7{l:List (List Int)}{a:(List Int)}:(l.map kU).set i [.sl aa 1 (a.map aJ)]=(l.set i a).map kU:=by rw[Gz];rfl
def tM(x:(List (List Int))):List PV:=[.sl aa 1 (x.map kU)]
@[go_sem] def zDM{x:(List (List Int))}:tM x=[.sl aa 1 (x.map kU)]:=(rfl)
@[go_sem] def zqC{l:List (List (List Int))}:List.map (List.map drop∘tM) l=l.map tM:=by refine Gy λx _=>?_;simp[go_sem]
@[go_sem] def zAx{l:List (List (List Int))}:List.map (List.map drop) (l.map tM)=l.map tM:=by rw[sF];exact zqC
@[go_sem] def zB9{l:List (List (List Int))}{a:(List (List Int))}:(l.map tM).set i [.sl aa 1 (a.map kU)]=(l.set i a).map tM:=by rw[Gz];rfl
def BM(x:(List (List Int))):List PV:=[.sl Z 1 (x.map kU)]
@[go_sem] def zCI{x:(List (List Int))}:BM x=[.sl Z 1 (x.map kU)]:=(rfl)
@[go_sem] def zqD{l:List (List (List Int))}:List.map (List.map drop∘BM) l=l.map tM:=by refine Gy λx _=>?_;simp[go_sem]
@[go_sem] def zAu{l:List (List (List Int))}:List.map (List.map drop) (l.map BM)=l.map tM:=by rw[sF];exact zqD
@[go_sem] def zCe{l:List (List (List Int))}{a:(List (List Int))}:(l.map BM).set i [.sl Z 1 (a.map kU)]=(l.set i a).map BM:=by rw[Gz];rfl
def BN(x:List Int):List PV:=[.sl Z 1 (x.map aJ)]
@[go_sem] def zEf :BN x=[.sl Z 1 (x.map aJ)]:=(rfl)
@[go_sem] def zrL{l:List (List Int)}:List.map (List.map drop∘BN) l=l.map kU:=by refine Gy λx _=>?_;simp[go_sem]
@[go_sem] def zBa{l:List (List Int)}:List.map (List.map drop) (l.map BN)=l.map kU:=by rw[sF];exact zrL
@[go_sem] def zCP{l:List (List Int)}{a:(List Int)}:(l.map BN).set i [.sl Z 1 (a.map aJ)]=(l.set i a).map BN:=by rw[Gz];rfl
def vA(x:List Int):PV:=.sl aa 1 (x.map qr)
@[go_sem] def zUO :vA x=.sl aa 1 (x.map qr):=(rfl)
def vB(x0:List Int)(x1:Int)(x2:Int):PV:=.bx [.sl aa 1 (x0.map qr),.int .i64 x1,.int .u64 x2]
@[go_sem] def zTy{x0:(List Int)}{x1:Int}{x2:Int}:vB x0 x1 x2=.bx [.sl aa 1 (x0.map qr),.int .i64 x1,.int .u64 x2]:=(rfl)
def vC(x:List Int):PV:=.sl aa 1 (x.map aJ)
@[go_sem] def zVK :vC x=.sl aa 1 (x.map aJ):=(rfl)
def vD(x:List Int):PV:=.sl Z 1 (x.map aJ)
@[go_sem] def zVl :vD x=.sl Z 1 (x.map aJ):=(rfl)
def vE(x:am):PV:=.agg [.int .i64 x.P,.int .i64 x.Q,.int .i64 x.G]
@[go_sem] def zTH{x:am}:vE x=.agg [.int .i64 x.P,.int .i64 x.Q,.int .i64 x.G]:=(rfl)
def vF(x:an):PV:=.agg [.int .i64 x.A,.int .i64 x.B]
@[go_sem] def zUn{x:an}:vF x=.agg [.int .i64 x.A,.int .i64 x.B]:=(rfl)
def vG(x:List an):PV:=.sl Z 2 (x.map jo)
@[go_sem] def zUI{x:(List an)}:vG x=.sl Z 2 (x.map jo):=(rfl)
def vH(x:List an):PV:=.sl aa 2 (x.map jo)
@[go_sem] def zT3{x:(List an)}:vH x=.sl aa 2 (x.map jo):=(rfl)
def vI(x:ct):PV:=.agg [.int .i64 x.H,.sl Z 1 (x.Hs.map aJ)]
@[go_sem] def zUv{x:ct}:vI x=.agg [.int .i64 x.H,.sl Z 1 (x.Hs.map aJ)]:=(rfl)
def vJ(x:ct):PV:=.agg [.int .i64 x.H,.sl aa 1 (x.Hs.map aJ)]
@[go_sem] def zTI{x:ct}:vJ x=.agg [.int .i64 x.H,.sl aa 1 (x.Hs.map aJ)]:=(rfl)
def vK(x:(List (List Int))):PV:=.sl aa 1 (x.map kU)
@[go_sem] def zT5{x:(List (List Int))}:vK x=.sl aa 1 (x.map kU):=(rfl)
def vL(x:cH):PV:=.agg [.sl aa 1 (x.cq.map aJ),.sl aa 1 (x.aF.map aJ),.sl aa 1 (x.Pi.aC.map aJ),.sl aa 1 (x.Pi.aV.map aJ),.sl aa 1 (x.Pi.aE.map aJ)]
@[go_sem] def zT6{x:cH}:vL x=.agg [.sl aa 1 (x.cq.map aJ),.sl aa 1 (x.aF.map aJ),.sl aa 1 (x.Pi.aC.map aJ),.sl aa 1 (x.Pi.aV.map aJ),.sl aa 1 (x.Pi.aE.map aJ)]:=(rfl)
def vM(x:cn):PV:=.agg [.sl aa 1 (x.bQ.map aJ),.sl aa 1 (x.bK.map aJ),.sl aa 1 (x.aF.map aJ),.sl aa 1 (x.Pi.aC.map aJ),.sl aa 1 (x.Pi.aV.map aJ),.sl aa 1 (x.Pi.aE.map aJ)]
@[go_sem] def zUs{x:cn}:vM x=.agg [.sl aa 1 (x.bQ.map aJ),.sl aa 1 (x.bK.map aJ),.sl aa 1 (x.aF.map aJ),.sl aa 1 (x.Pi.aC.map aJ),.sl aa 1 (x.Pi.aV.map aJ),.sl aa 1 (x.Pi.aE.map aJ)]:=(rfl)
def vN(x:d8):PV:=.agg [.int .i64 x.dF,.sl aa 2 (x.Out.map jo),.sl aa 1 (x.br.cq.map aJ),.sl aa 1 (x.br.aF.map aJ),.sl aa 1 (x.br.Pi.aC.map aJ),.sl aa 1 (x.br.Pi.aV.map aJ),.sl aa 1 (x.br.Pi.aE.map aJ),.sl aa 1 (x.Poly.bQ.map aJ),.sl aa 1 (x.Poly.bK.map aJ),.sl aa 1 (x.Poly.aF.map aJ),.sl aa 1 (x.Poly.Pi.aC.map aJ),.sl aa 1 (x.Poly.Pi.aV.map aJ),.sl aa 1 (x.Poly.Pi.aE.map aJ)]
@[go_sem] def zTE{x:d8}:vN x=.agg [.int .i64 x.dF,.sl aa 2 (x.Out.map jo),.sl aa 1 (x.br.cq.map aJ),.sl aa 1 (x.br.aF.map aJ),.sl aa 1 (x.br.Pi.aC.map aJ),.sl aa 1 (x.br.Pi.aV.map aJ),.sl aa 1 (x.br.Pi.aE.map aJ),.sl aa 1 (x.Poly.bQ.map aJ),.sl aa 1 (x.Poly.bK.map aJ),.sl aa 1 (x.Poly.aF.map aJ),.sl aa 1 (x.Poly.Pi.aC.map aJ),.sl aa 1 (x.Poly.Pi.aV.map aJ),.sl aa 1 (x.Poly.Pi.aE.map aJ)]:=(rfl)
def vO(x0:Int)(x1:Int):PV:=.bx [.int .i64 x0,.int .i64 x1]
@[go_sem] def zVB{x0:Int}{x1:Int}:vO x0 x1=.bx [.int .i64 x0,.int .i64 x1]:=(rfl)
def vP(x:cH):PV:=.agg [.sl Z 1 (x.cq.map aJ),.sl Z 1 (x.aF.map aJ),.sl Z 1 (x.Pi.aC.map aJ),.sl Z 1 (x.Pi.aV.map aJ),.sl Z 1 (x.Pi.aE.map aJ)]
@[go_sem] def zUQ{x:cH}:vP x=.agg [.sl Z 1 (x.cq.map aJ),.sl Z 1 (x.aF.map aJ),.sl Z 1 (x.Pi.aC.map aJ),.sl Z 1 (x.Pi.aV.map aJ),.sl Z 1 (x.Pi.aE.map aJ)]:=(rfl)
def vQ(x:cn):PV:=.agg [.sl Z 1 (x.bQ.map aJ),.sl Z 1 (x.bK.map aJ),.sl Z 1 (x.aF.map aJ),.sl Z 1 (x.Pi.aC.map aJ),.sl Z 1 (x.Pi.aV.map aJ),.sl Z 1 (x.Pi.aE.map aJ)]
@[go_sem] def zVQ{x:cn}:vQ x=.agg [.sl Z 1 (x.bQ.map aJ),.sl Z 1 (x.bK.map aJ),.sl Z 1 (x.aF.map aJ),.sl Z 1 (x.Pi.aC.map aJ),.sl Z 1 (x.Pi.aV.map aJ),.sl Z 1 (x.Pi.aE.map aJ)]:=(rfl)
def vR(x:d8):PV:=.agg [.int .i64 x.dF,.sl Z 2 (x.Out.map jo),.sl Z 1 (x.br.cq.map aJ),.sl Z 1 (x.br.aF.map aJ),.sl Z 1 (x.br.Pi.aC.map aJ),.sl Z 1 (x.br.Pi.aV.map aJ),.sl Z 1 (x.br.Pi.aE.map aJ),.sl Z 1 (x.Poly.bQ.map aJ),.sl Z 1 (x.Poly.bK.map aJ),.sl Z 1 (x.Poly.aF.map aJ),.sl Z 1 (x.Poly.Pi.aC.map aJ),.sl Z 1 (x.Poly.Pi.aV.map aJ),.sl Z 1 (x.Poly.Pi.aE.map aJ)]
@[go_sem] def zUE{x:d8}:vR x=.agg [.int .i64 x.dF,.sl Z 2 (x.Out.map jo),.sl Z 1 (x.br.cq.map aJ),.sl Z 1 (x.br.aF.map aJ),.sl Z 1 (x.br.Pi.aC.map aJ),.sl Z 1 (x.br.Pi.aV.map aJ),.sl Z 1 (x.br.Pi.aE.map aJ),.sl Z 1 (x.Poly.bQ.map aJ),.sl Z 1 (x.Poly.bK.map aJ),.sl Z 1 (x.Poly.aF.map aJ),.sl Z 1 (x.Poly.Pi.aC.map aJ),.sl Z 1 (x.Poly.Pi.aV.map aJ),.sl Z 1 (x.Poly.Pi.aE.map aJ)]:=(rfl)
def vS(x:bZ):PV:=.agg [.sl aa 1 (x.aC.map aJ),.sl aa 1 (x.aV.map aJ),.sl aa 1 (x.aE.map aJ)]
@[go_sem] def zUP{x:bZ}:vS x=.agg [.sl aa 1 (x.aC.map aJ),.sl aa 1 (x.aV.map aJ),.sl aa 1 (x.aE.map aJ)]:=(rfl)
def vT(x:(List (List Int))):PV:=.sl Z 1 (x.map kU)
@[go_sem] def zU0{x:(List (List Int))}:vT x=.sl Z 1 (x.map kU):=(rfl)
def vU(x:(List (List (List Int)))):PV:=.sl aa 1 (x.map tM)
@[go_sem] def zTG{x:(List (List (List Int)))}:vU x=.sl aa 1 (x.map tM):=(rfl)
def vV(x:(List (List (List Int)))):PV:=.sl Z 1 (x.map BM)
@[go_sem] def zVF{x:(List (List (List Int)))}:vV x=.sl Z 1 (x.map BM):=(rfl)
def vW(x0:List Int)(x1:Bool):PV:=.bx [.sl aa 1 (x0.map aJ),.bool x1]
@[go_sem] def zTz{x0:(List Int)}{x1:Bool}:vW x0 x1=.bx [.sl aa 1 (x0.map aJ),.bool x1]:=(rfl)
def vX(x:(List (List Int))):PV:=.sl Z 1 (x.map BN)
@[go_sem] def zUB{x:(List (List Int))}:vX x=.sl Z 1 (x.map BN):=(rfl)
def vY(x:bZ):PV:=.agg [.sl Z 1 (x.aC.map aJ),.sl Z 1 (x.aV.map aJ),.sl Z 1 (x.aE.map aJ)]
@[go_sem] def zUF{x:bZ}:vY x=.agg [.sl Z 1 (x.aC.map aJ),.sl Z 1 (x.aV.map aJ),.sl Z 1 (x.aE.map aJ)]:=(rfl)
def vZ(x:d8):PV:=.agg [.int .i64 x.dF,.sl Z 2 (x.Out.map jo),.sl aa 1 (x.br.cq.map aJ),.sl aa 1 (x.br.aF.map aJ),.sl aa 1 (x.br.Pi.aC.map aJ),.sl aa 1 (x.br.Pi.aV.map aJ),.sl aa 1 (x.br.Pi.aE.map aJ),.sl aa 1 (x.Poly.bQ.map aJ),.sl aa 1 (x.Poly.bK.map aJ),.sl aa 1 (x.Poly.aF.map aJ),.sl aa 1 (x.Poly.Pi.aC.map aJ),.sl aa 1 (x.Poly.Pi.aV.map aJ),.sl aa 1 (x.Poly.Pi.aE.map aJ)]
@[go_sem] def zUg{x:d8}:vZ x=.agg [.int .i64 x.dF,.sl Z 2 (x.Out.map jo),.sl aa 1 (x.br.cq.map aJ),.sl aa 1 (x.br.aF.map aJ),.sl aa 1 (x.br.Pi.aC.map aJ),.sl aa 1 (x.br.Pi.aV.map aJ),.sl aa 1 (x.br.Pi.aE.map aJ),.sl aa 1 (x.Poly.bQ.map aJ),.sl aa 1 (x.Poly.bK.map aJ),.sl aa 1 (x.Poly.aF.map aJ),.sl aa 1 (x.Poly.Pi.aC.map aJ),.sl aa 1 (x.Poly.Pi.aV.map aJ),.sl aa 1 (x.Poly.Pi.aE.map aJ)]:=(rfl)
def NO(a0:List Int)(a1:List Int):Option Bool:=
 ((if decide (1048576<(a0.length:Int))=Z then(
 J Z)else(
 J (decide ((i64.wrap (1048576-(a0.length:Int)))<(a1.length:Int)))):Option Bool).bind λx3=>
 J x3)
def zvT{a0 a1 r}(hr:NO a0 a1=J r):ap Tryz.prog 5 [(.sh,vA a0),(.sh,vA a1)] (Eo (.bool r) cJ):=by
 apply pE [] hr cl5 Tryz.func5;intro Φ ak hF g;unfold NO at hF;refine wW ?_;refine wJ hF (λx3=>[(4,.v (.bool x3))]) (λx3 hF=>?_) λ_ hj0 hF=>?_
 ·exact wm ak hF
 exact wL
def Gi(aL:List Int)(aW:Int)(bp:Int):Option (Int×(List Int×Int×Int)):=
 ((if decide (aW<(aL.length:Int))=Z then(
 (ix aL aW).bind λx5=>
 J (i64.wrap x5))else(
 J 0):Option Int).bind λx3=>
 if decide ((i64.wrap (aW+1))<=(aL.length:Int))=Z then(
 J (x3,(aL,i64.wrap (aW+1),u64.wrap ((u64.wrap ((u64.wrap (bp*6364136223846793005))+(u64.wrap x3)))+1442695040888963407))))else(
 J (i64.wrap (u64.wrap ((BitVec.ofInt u64.bits ((u64.wrap ((u64.wrap ((u64.wrap (bp*6364136223846793005))+(u64.wrap x3)))+1442695040888963407)).fdiv 1099511627776)&&&BitVec.ofInt u64.bits 255).toNat)),(aL,i64.wrap (aW+1),u64.wrap ((u64.wrap ((u64.wrap (bp*6364136223846793005))+(u64.wrap x3)))+1442695040888963407)))))
def UI{aL aW bp r}(hr:Gi aL aW bp=J r):ap Tryz.prog 113 [(.io,vB aL aW bp)] (Eo (.int .i64 r.1) [vB r.2.1 r.2.2.1 r.2.2.2]):=by
 apply pE [0] hr zFy Tryz.func113;intro Φ ak hF g;unfold Gi at hF
 iterate 2 refine wW ?_
 refine wZ (kD 0 [0,0,0,0,0,0,0,0,0,0]) follows ?_;try simp[go_sem,g]
 try intros
 refine wK [0,3,13] ?_;refine wJ hF (λx3=>[(0,.v (vB aL aW bp)),(3,.v (.int .i64 x3))]) (λx3 hF=>?_) λ_ hj0 hF=>?_
 ·refine wW ?_;refine wK [0,3] ?_;refine wZ (kD 0 [0,0,0,0,0,0,0,0,0,0]) follows ?_;try simp[go_sem,g]
  try intros
  refine wK [0,3,53] ?_;refine wI hF (λh6 hF=>?_) λh6 hF=>?_
  ·exact wl ak hF
  have g:=Ls g 40;exact wL
 refine wI hF (λh4 hF=>?_) λh4 hF=>?_
 ·refine wZ (kD 0 [0,0,0,0,0,0,0,0,0,0,0,0]) follows ?_;exact wL
 exact wT (hj0 _) (eW hF)
def gM(aL:List Int)(aW:Int)(bp:Int)(a1:Int):Option (Int×(List Int×Int×Int)):=
 if decide (a1<=1)=Z then(
 J (0,(aL,aW,bp)))else(
 (Gi aL aW bp).bind λz2=>
 ((if decide (200<a1)=Z then(
 (Gi z2.2.1 z2.2.2.1 z2.2.2.2).bind λz7=>
 J ((z7.2.1,z7.2.2.1,z7.2.2.2),i64.wrap ((i64.wrap (z2.1*256))+z7.1)))else(
 J ((z2.2.1,z2.2.2.1,z2.2.2.2),z2.1)):Option (((List Int×Int×Int)×Int))).bind λx5=>
 gd (a1≠0)<|
 J (x5.2.tmod a1,(x5.1.1,x5.1.2.1,x5.1.2.2))))
def kd{aL aW bp a1 r}(hr:gM aL aW bp a1=J r):ap Tryz.prog 59 [(.io,vB aL aW bp),(.sh,.int .i64 a1)] (Eo (.int .i64 r.1) [vB r.2.1 r.2.2.1 r.2.2.2,.au]):=by
 apply pE [0] hr zMe Tryz.func59;intro Φ ak hF g;unfold gM at hF
 iterate 2 refine wW ?_
 refine wI hF (λh1 hF=>?_) λh1 hF=>?_
 ·exact wl ak hF
 refine wW ?_;refine wC hF [.io] UI λz2 hF=>?_
 iterate 2 refine wW ?_
 refine wJ hF (λx5=>[(0,.v (vB x5.1.1 x5.1.2.1 x5.1.2.2)),(1,.v (.int .i64 a1)),(5,.v (.int .i64 x5.2))]) (λx5 hF=>?_) λ_ hj0 hF=>?_
 ·exact wL
 have zx:= @UI;exact wL
def Xh(aL:List Int)(aW:Int)(bp:Int)(a1:List Int):Option (Int×(List Int×Int×Int)):=
 (gM aL aW bp (a1.length:Int)).bind λz1=>
 (ix a1 z1.1).bind λx2=>
 J (x2,(z1.2.1,z1.2.2.1,z1.2.2.2))
def zt6{aL aW bp a1 r}(hr:Xh aL aW bp a1=J r):ap Tryz.prog 73 [(.io,vB aL aW bp),(.sh,vC a1)] (Eo (.int .i64 r.1) [vB r.2.1 r.2.2.1 r.2.2.2,.au]):=by
 apply pE [0] hr zDQ Tryz.func73;intro Φ ak hF g;unfold Xh at hF;have ja:= @kd;exact wL
def py(aL:List Int)(aW:Int)(bp:Int)(a1:List Int):Option (Int×(List Int×Int×Int)):=
 (gM aL aW bp (a1.length:Int)).bind λz1=>
 (ix a1 z1.1).bind λx2=>
 J (x2,(z1.2.1,z1.2.2.1,z1.2.2.2))
def zt{aL aW bp a1 r}(hr:py aL aW bp a1=J r):ap Tryz.prog 73 [(.io,vB aL aW bp),(.mv,vD a1)] (Eo (.int .i64 r.1) [vB r.2.1 r.2.2.1 r.2.2.2,.au]):=by
 apply pE [0] hr zDQ Tryz.func73;intro Φ ak hF g;unfold py at hF;have ja:= @kd;exact wL
def n6(a0:Int)(a1:Int)(a2:Int):Option Bool:=
 ((if decide (a1<=a0)=Z then(
 J (decide (a0<=a2)))else(
 J aa):Option Bool).bind λx3=>
 J x3)
def yc{a0 a1 a2 r}(hr:n6 a0 a1 a2=J r):ap Tryz.prog 66 [(.sh,.int .i64 a0),(.sh,.int .i64 a1),(.sh,.int .i64 a2)] (Eo (.bool r) gw):=by
 apply pE [] hr zNk Tryz.func66;intro Φ ak hF g;unfold n6 at hF;refine wW ?_;refine wJ hF (λx3=>[(6,.v (.bool x3))]) (λx3 hF=>?_) λ_ hj0 hF=>?_
 ·exact wm ak hF
 exact wL
def AQ(a0:Int):Option Bool:=
 if decide (a0<2)=Z then(
 J aa)else(
 ((dI (σ:=Int) (λs5=>
 if decide ((i64.wrap (s5*s5))<=a0)=Z then(
 gd (s5≠0)<|
 if((a0.tmod s5)==0)=Z then(
 J (.out (.inr aa)))else(
 J (.go (i64.wrap (s5+1)))))else(
 J (.out (.inl ())))) 2:Option (Unit ⊕ Bool)).bind (Sum.elim (λx4=>
 J Z) J)))
def RZ{a0 r}(hr:AQ a0=J r):ap Tryz.prog 180 [(.sh,.int .i64 a0)] (Eo (.bool r) [.au]):=by
 apply pE [] hr zGQ Tryz.func180;intro Φ ak hF g;unfold AQ at hF
 iterate 2 refine wW ?_
 refine wI hF (λh1 hF=>?_) λh1 hF=>?_
 ·exact wl ak hF
 iterate 2 refine wW ?_
 refine wS hF (λx4=>[]) (λx4 hF=>?_) λ_ hj0 dE hF=>?_
 ·exact wl ak hF
 refine wB ?_;obtain⟨b12,PK,bg⟩:=hF;refine pL PK (λs5=>[(0,.v (.int .i64 a0)),(3,.v (.int .i64 s5))]) λs5 _ _ bo ba hF=>?_
 exact wL
def lw(a0:Int)(a1:Int)(a2:Int):Option Int:=
 gd (a2≠0)<|
 ((dI (σ:=Int×Int×Int) (λs4=>
 if decide (0<s4.2.1)=Z then(
 ((if((s4.2.1.tmod 2)==1)=Z then(
 gd (a2≠0)<|
 J ((i64.wrap (s4.2.2*s4.1)).tmod a2))else(
 J s4.2.2):Option Int).bind λcZ=>
 gd (a2≠0)<|
 J (.go ((i64.wrap (s4.1*s4.1)).tmod a2,i64.wrap (s4.2.1.tdiv 2),cZ))))else(
 J (.out s4.2.2))) (a0,a1,(1:Int).tmod a2):Option Int).bind λx3=>
 J x3)
def xd{a0 a1 a2 r}(hr:lw a0 a1 a2=J r):ap Tryz.prog 179 [(.sh,.int .i64 a0),(.sh,.int .i64 a1),(.sh,.int .i64 a2)] (Eo (.int .i64 r) gw):=by
 apply pE [] hr zEU Tryz.func179;intro Φ ak hF g;unfold lw at hF;obtain⟨g,hF⟩:=Rz g hF
 iterate 2 refine wW ?_
 refine wJ hF (λx3=>[(7,.v (.int .i64 x3))]) (λx3 hF=>?_) λ_ hj0 hF=>?_
 ·exact wl ak hF
 refine wB ?_;obtain⟨V1,HV,bg⟩:=hF;refine pL HV (λs4=>[(0,.v (.int .i64 s4.1)),(1,.v (.int .i64 s4.2.1)),(2,.v (.int .i64 a2)),(7,.v (.int .i64 s4.2.2))]) λs4 _ _ bo ba hF=>?_
 refine wW ?_;refine wI hF (λh9 hF=>?_) λh9 hF=>?_
 ·refine wW ?_;refine wB ?_;have g:=Ld g 2;refine wW ?_;refine bT hF [0,1,2] (λcZ=>[(7,.v (.int .i64 cZ))]) (λcZ hF=>?_) λ_ j8 hF=>?_
  ·exact wL
  exact wL
 exact wL
def uB(a0:Int):Option (am×Bool):=
 (((n6 a0 2 1000000).bind λz4=>
 if(!z4)=Z then(
 J Z)else(
 (AQ a0).bind λz6=>
 J (!z6)):Option Bool).bind λx3=>
 if x3=Z then(
 J ((am.mk 0 0 0),aa))else(
 ((dI (σ:=Int) (λcK=>
 if decide (cK<=2000000000)=Z then(
 (AQ cK).bind λhY=>
 if(!hY)=Z then(
 J (.go (i64.wrap (cK+a0))))else(
 ((dI (σ:=Int) (λEK=>
 gd (a0≠0)<|
 (lw EK (i64.wrap ((i64.wrap (cK-1)).tdiv a0)) cK).bind λnk=>
 if(nk==1)=Z then(
 J (.go (i64.wrap (EK+1))))else(
 J (.out EK))) 2:Option Int).bind λvl=>
 gd (a0≠0)<|
 (lw vl (i64.wrap ((i64.wrap (cK-1)).tdiv a0)) cK).bind λgy=>
 J (.out (.inr ((am.mk cK a0 gy),Z))))))else(
 J (.out (.inl ())))) (i64.wrap (a0+1)):Option (Unit ⊕ (am×Bool))).bind (Sum.elim (λep=>
 J ((am.mk 0 0 0),aa)) J))))
def zkQ{a0 r}(hr:uB a0=J r):ap Tryz.prog 169 [(.sh,.int .i64 a0)] (Eo (.bO [vE r.1,.bool r.2]) [.au]):=by
 apply pE [] hr zHH Tryz.func169;intro Φ ak hF g;unfold uB at hF;refine wW ?_;refine bT hF [0,2] (λx3=>[(13,.v (.bool x3))]) (λx3 hF=>?_) λ_ hj0 hF=>?_
 ·refine wI hF (λh7 hF=>?_) λh7 hF=>?_
  ·exact wl ak hF
  iterate 2 refine wW ?_
  refine wS hF (λep=>[(2,.bl [.int .i64 0,.int .i64 0,.int .i64 0])]) (λep hF=>?_) λ_ hj0 dE hF=>?_
  ·exact wl ak hF
  refine wB ?_;obtain⟨b32,OW,bg⟩:=hF;refine jJ OW [0,2] (λcK=>[(4,.v (.int .i64 cK))]) λcK _ _ bo ba hF=>?_
  refine wW ?_;refine wI hF (λCU hF=>?_) λCU hF=>?_
  ·refine wW ?_;refine wB ?_;refine wE hF RZ λhY hF=>?_
   refine wK [0,2,4,24] ?_;refine wI hF (λST hF=>?_) λST hF=>?_
   ·exact wL
   iterate 2 refine wW ?_
   refine bT hF [0,2,4] (λvl=>[(5,.v (.int .i64 vl))]) (λvl hF=>?_) λ_ j8 hF=>?_
   ·have c0:= @xd;exact wL
   refine wB ?_;obtain⟨b29,AbI,LM⟩:=hF;refine jJ AbI [0,2,4] (λEK=>[(5,.v (.int .i64 EK))]) λEK _ _ QK qI hF=>?_
   have c0:= @xd;exact wL
  exact wL
 have c0:= @yc;have c1:= @RZ;exact wL
def Eg(aL:List Int)(aW:Int)(bp:Int):Option (am×(List Int×Int×Int)):=
 (py aL aW bp [3,5,5,7,11,11,13,23]).bind λz1=>
 (uB z1.1).bind λz2=>
 J (z2.1,(z1.2.1,z1.2.2.1,z1.2.2.2))
def zly{aL aW bp r}(hr:Eg aL aW bp=J r):ap Tryz.prog 170 [(.io,vB aL aW bp)] (Eo (vE r.1) [vB r.2.1 r.2.2.1 r.2.2.2]):=by
 apply pE [0] hr zFV Tryz.func170;intro Φ ak hF g;unfold Eg at hF;have yb:= @zt;have c0:= @zkQ;exact wL
def qo(a0:Int)(a1:Int):Option Int:=
 gd (a1≠0)<|
 gd (a1≠0)<|
 J ((i64.wrap ((a0.tmod a1)+a1)).tmod a1)
def GP{a0 a1 r}(hr:qo a0 a1=J r):ap Tryz.prog 173 [(.sh,.int .i64 a0),(.sh,.int .i64 a1)] (Eo (.int .i64 r) cJ):=by
 apply pE [] hr zG8 Tryz.func173;intro Φ ak hF g;unfold qo at hF;exact wL
def cD(a0:am)(a1:Int)(a2:Int):Option Int:=
 (qo a2 a0.Q).bind λz1=>
 (lw a1 z1 a0.P).bind λz2=>
 J z2
def ft{a0 a1 a2 r}(hr:cD a0 a1 a2=J r):ap Tryz.prog 171 [(.sh,vE a0),(.sh,.int .i64 a1),(.sh,.int .i64 a2)] (Eo (.int .i64 r) gw):=by
 apply pE [] hr zEC Tryz.func171;intro Φ ak hF g;unfold cD at hF;refine wW ?_;refine wZ (kE [0,1,2,3,5,6,4,7,8] [0,0,25,26,25,26,3,3,0]) follows ?_;have c0:= @GP;have c1:= @xd;exact wL
def yR(aL:List Int)(aW:Int)(bp:Int):Option (am×(List Int×Int×Int)):=
 (gM aL aW bp 6).bind λz1=>
 if(z1.1==0)=Z then(
 J ((am.mk 1000000007 500000003 4),(z1.2.1,z1.2.2.1,z1.2.2.2)))else(
 if(z1.1==1)=Z then(
 (py z1.2.1 z1.2.2.1 z1.2.2.2 [101,1009,1019,65537,999983]).bind λz4=>
 (uB z4.1).bind λz5=>
 J (z5.1,(z4.2.1,z4.2.2.1,z4.2.2.2)))else(
 (Eg z1.2.1 z1.2.2.1 z1.2.2.2).bind λz6=>
 (gM z6.2.1 z6.2.2.1 z6.2.2.2 (i64.wrap (z6.1.Q-1))).bind λz7=>
 (cD z6.1 z6.1.G (i64.wrap (1+z7.1))).bind λz8=>
 J ((am.mk z6.1.P z6.1.Q z8),(z7.2.1,z7.2.2.1,z7.2.2.2))))
def ZP{aL aW bp r}(hr:yR aL aW bp=J r):ap Tryz.prog 108 [(.io,vB aL aW bp)] (Eo (vE r.1) [vB r.2.1 r.2.2.1 r.2.2.2]):=by
 apply pE [0] hr zHe Tryz.func108;intro Φ ak hF g;unfold yR at hF;refine wW ?_;refine wC hF [.io,.sh] kd λz1 hF=>?_
 refine wW ?_;refine wB ?_;refine wW ?_;refine wI hF (λh2 hF=>?_) λh2 hF=>?_
 ·exact wl ak hF
 refine wW ?_;refine wI hF (λh3 hF=>?_) λh3 hF=>?_
 ·have yb:= @zt;have c0:= @zkQ;exact wL
 refine wW ?_;refine wC hF [.io] zly λz6 hF=>?_
 refine wK [0,2,5] ?_;refine wZ (kD 0 [42,41,42,0,41,42,0,3,0,3,41,42]) follows ?_;have ja:= @kd;have c0:= @ft;exact wL
def zy(aL:List Int)(aW:Int)(bp:Int)(a1:Int):Option (Bool×(List Int×Int×Int)):=
 (gM aL aW bp a1).bind λz1=>
 J ((z1.1==0),(z1.2.1,z1.2.2.1,z1.2.2.2))
def Lz{aL aW bp a1 r}(hr:zy aL aW bp a1=J r):ap Tryz.prog 61 [(.io,vB aL aW bp),(.sh,.int .i64 a1)] (Eo (.bool r.1) [vB r.2.1 r.2.2.1 r.2.2.2,.au]):=by
 apply pE [0] hr zNi Tryz.func61;intro Φ ak hF g;unfold zy at hF;have ja:= @kd;exact wL
def Cf(aL:List Int)(aW:Int)(bp:Int):Option (am×(List Int×Int×Int)):=
 (yR aL aW bp).bind λz1=>
 (gM z1.2.1 z1.2.2.1 z1.2.2.2 24).bind λz2=>
 ((if(z2.1==0)=Z then(
 (py z2.2.1 z2.2.2.1 z2.2.2.2 [0,i64.wrap (z1.1.P+2),4,(-7)]).bind λz7=>
 J ((z7.2.1,z7.2.2.1,z7.2.2.2),z7.1,z1.1.Q,z1.1.G))else(
 if(z2.1==1)=Z then(
 (py z2.2.1 z2.2.2.1 z2.2.2.2 [0,1,i64.wrap (z1.1.Q+1),i64.wrap (z1.1.P-1)]).bind λz9=>
 J ((z9.2.1,z9.2.2.1,z9.2.2.2),z1.1.P,z9.1,z1.1.G))else(
 if(z2.1==2)=Z then(
 (py z2.2.1 z2.2.2.1 z2.2.2.2 [0,1,i64.wrap (z1.1.P-1),z1.1.P,i64.wrap (z1.1.G+1)]).bind λb8=>
 J ((b8.2.1,b8.2.2.1,b8.2.2.2),z1.1.P,z1.1.Q,b8.1))else(
 J ((z2.2.1,z2.2.2.1,z2.2.2.2),z1.1.P,z1.1.Q,z1.1.G)))):Option (((List Int×Int×Int)×Int×Int×Int))).bind λx5=>
 J ((am.mk x5.2.1 x5.2.2.1 x5.2.2.2),(x5.1.1,x5.1.2.1,x5.1.2.2)))
def zkb{aL aW bp r}(hr:Cf aL aW bp=J r):ap Tryz.prog 109 [(.io,vB aL aW bp)] (Eo (vE r.1) [vB r.2.1 r.2.2.1 r.2.2.2]):=by
 apply pE [0] hr zFe Tryz.func109;intro Φ ak hF g;unfold Cf at hF;refine wW ?_;refine wC hF [.io] ZP λz1 hF=>?_
 refine wW ?_;refine wC hF [.io,.sh] kd λz2 hF=>?_
 refine wW ?_;refine wJ hF (λx5=>[(0,.v (vB x5.1.1 x5.1.2.1 x5.1.2.2)),(2,.bl [.int .i64 0,.int .i64 0,.int .i64 0]),(3,.bl [.int .i64 x5.2.1,.int .i64 x5.2.2.1,.int .i64 x5.2.2.2])]) (λx5 hF=>?_) λ_ hj0 hF=>?_
 ·exact wl ak hF
 have yb:= @zt;exact wL
def BF(aL:List Int)(aW:Int)(bp:Int)(a1:am):Option (Int×(List Int×Int×Int)):=
 if decide (a1.Q<2)=Z then(
 J (0,(aL,aW,bp)))else(
 (gM aL aW bp 60000).bind λz2=>
 (gM z2.2.1 z2.2.2.1 z2.2.2.2 60000).bind λz3=>
 gd (a1.Q≠0)<|
 J ((i64.wrap ((i64.wrap (z2.1*60000))+z3.1)).tmod a1.Q,(z3.2.1,z3.2.2.1,z3.2.2.2)))
def Q0{aL aW bp a1 r}(hr:BF aL aW bp a1=J r):ap Tryz.prog 172 [(.io,vB aL aW bp),(.sh,vE a1)] (Eo (.int .i64 r.1) [vB r.2.1 r.2.2.1 r.2.2.2,.au]):=by
 apply pE [0] hr zGS Tryz.func172;intro Φ ak hF g;unfold BF at hF
 iterate 2 refine wW ?_
 refine wI hF (λh1 hF=>?_) λh1 hF=>?_
 ·exact wl ak hF
 refine wW ?_;refine wZ (kE [0,3,6,7,1,2,4,5,8,9] [0,0,25,26,3,0,3,0,0,0]) follows ?_;have ja:= @kd;exact wL
def CZ(aL:List Int)(aW:Int)(bp:Int)(a1:am):Option (Int×(List Int×Int×Int)):=
 ((if decide (a1.P<3)=Z then(
 J Z)else(
 J (decide (a1.Q<1))):Option Bool).bind λx3=>
 if x3=Z then(
 J (1,(aL,aW,bp)))else(
 (qo a1.G a1.P).bind λz6=>
 (BF aL aW bp a1).bind λz7=>
 (cD a1 z6 z7.1).bind λz8=>
 J (z8,(z7.2.1,z7.2.2.1,z7.2.2.2))))
def zhJ{aL aW bp a1 r}(hr:CZ aL aW bp a1=J r):ap Tryz.prog 112 [(.io,vB aL aW bp),(.sh,vE a1)] (Eo (.int .i64 r.1) [vB r.2.1 r.2.2.1 r.2.2.2,.au]):=by
 apply pE [0] hr zEL Tryz.func112;intro Φ ak hF g;unfold CZ at hF;refine wW ?_;refine bT hF [0,3] (λx3=>[(12,.v (.bool x3))]) (λx3 hF=>?_) λ_ hj0 hF=>?_
 ·refine wI hF (λh5 hF=>?_) λh5 hF=>?_
  ·exact wl ak hF
  refine wW ?_;refine wZ (kE [0,1,2,3,4,6,7,5,8,9,10] [26,25,26,25,26,0,26,3,3,3,0]) follows ?_;have c0:= @GP;have ja:= @Q0;have c1:= @ft;exact wL
 exact wL
def JY(aL:List Int)(aW:Int)(bp:Int)(a1:am):Option (an×(List Int×Int×Int)):=
 (CZ aL aW bp a1).bind λz1=>
 (CZ z1.2.1 z1.2.2.1 z1.2.2.2 a1).bind λz2=>
 J ((an.mk z1.1 z2.1),(z2.2.1,z2.2.2.1,z2.2.2.2))
def zkR{aL aW bp a1 r}(hr:JY aL aW bp a1=J r):ap Tryz.prog 110 [(.io,vB aL aW bp),(.sh,vE a1)] (Eo (vF r.1) [vB r.2.1 r.2.2.1 r.2.2.2,.au]):=by
 apply pE [0] hr zEM Tryz.func110;intro Φ ak hF g;unfold JY at hF;refine wW ?_;refine wZ (kE [0,1,3,4,2,5,6,7] [0,26,0,26,3,3,0,34]) follows ?_;have ja:= @zhJ;exact wL
def JG(aL:List Int)(aW:Int)(bp:Int)(a1:Int):Option (List Int×(List Int×Int×Int)):=
 ((dI (σ:=(List Int)×Int) (λs4=>
 if decide (s4.2<a1)=Z then(
 gd ((s4.1.length+1)*8<=140737488355328/\s4.1.length+1<=4611686018427387904)<|
 J (.go (s4.1++[s4.2],i64.wrap (s4.2+1))))else(
 J (.out s4.1))) ([],0):Option ((List Int))).bind λx3=>
 ((dI (σ:=(List Int×Int×Int)×List Int×Int) (λiZ=>
 if decide (0<iZ.2.2)=Z then(
 (gM iZ.1.1 iZ.1.2.1 iZ.1.2.2 (i64.wrap (iZ.2.2+1))).bind λgy=>
 (ix iZ.2.1 iZ.2.2).bind λnY=>
 (ix iZ.2.1 gy.1).bind λiY=>
 (ix (iZ.2.1.set iZ.2.2.toNat iY) gy.1).bind λx34=>
 J (.go ((gy.2.1,gy.2.2.1,gy.2.2.2),(iZ.2.1.set iZ.2.2.toNat iY).set gy.1.toNat nY,i64.wrap (iZ.2.2-1))))else(
 J (.out ((iZ.1.1,iZ.1.2.1,iZ.1.2.2),iZ.2.1)))) ((aL,aW,bp),x3,i64.wrap (a1-1)):Option (((List Int×Int×Int)×List Int))).bind λeX=>
 J (eX.2,(eX.1.1,eX.1.2.1,eX.1.2.2))))
def zlL{aL aW bp a1 r}(hr:JG aL aW bp a1=J r):ap Tryz.prog 118 [(.io,vB aL aW bp),(.sh,.int .i64 a1)] (Eo (vD r.1) [vB r.2.1 r.2.2.1 r.2.2.2,.au]):=by
 apply pE [0] hr zEr Tryz.func118;intro Φ ak hF g;unfold JG at hF
 iterate 3 refine wW ?_
 refine bT hF [0,1] (λx3=>[(5,.v (vD x3))]) (λx3 hF=>?_) λ_ hj0 hF=>?_
 ·refine wW ?_;refine wJ hF (λeX=>[(0,.v (vB eX.1.1 eX.1.2.1 eX.1.2.2)),(5,.v (vD eX.2))]) (λeX hF=>?_) λ_ hj0 hF=>?_
  ·exact wl ak hF
  refine wB ?_;obtain⟨b35,AaV,bg⟩:=hF;refine pL AaV (λiZ=>[(0,.v (vB iZ.1.1 iZ.1.2.1 iZ.1.2.2)),(5,.v (vD iZ.2.1)),(7,.v (.int .i64 iZ.2.2))]) λiZ _ _ bo ba hF=>?_
  refine wW ?_;refine wI hF (λh30 hF=>?_) λh30 hF=>?_
  ·refine wW ?_;refine wB ?_;refine wC hF [.io,.sh] kd λgy hF=>?_
   refine wK [0,5,7,8] ?_;obtain⟨nY,g,hF⟩:=Rx g hF;obtain⟨iY,g,hF⟩:=Rx g hF;refine wW ?_;refine wK [0,5,7,8,9] ?_;obtain⟨x34,g,hF⟩:=Rx g hF;try simp only[KC]at g
   exact wL
  exact wL
 refine wB ?_;obtain⟨b10,AbL,bg⟩:=hF;refine jJ AbL [0,1] (λs4=>[(5,.v (vD s4.1)),(6,.v (.int .i64 s4.2))]) λs4 _ _ bo ba hF=>?_
 exact wL
def IG(aL:List Int)(aW:Int)(bp:Int)(a1:am)(a2:Int):Option (List Int×(List Int×Int×Int)):=
 ((dI (σ:=(List Int×Int×Int)×Int×List Int) (λcK=>
 if decide (0<cK.2.1)=Z then(
 (BF cK.1.1 cK.1.2.1 cK.1.2.2 a1).bind λhY=>
 gd ((cK.2.2.length+1)*8<=140737488355328/\cK.2.2.length+1<=4611686018427387904)<|
 J (.go ((hY.2.1,hY.2.2.1,hY.2.2.2),i64.wrap (cK.2.1-1),cK.2.2++[hY.1])))else(
 J (.out ((cK.1.1,cK.1.2.1,cK.1.2.2),cK.2.2)))) ((aL,aW,bp),a2,[]):Option (((List Int×Int×Int)×List Int))).bind λx3=>
 J (x3.2,(x3.1.1,x3.1.2.1,x3.1.2.2)))
def zle{aL aW bp a1 a2 r}(hr:IG aL aW bp a1 a2=J r):ap Tryz.prog 111 [(.io,vB aL aW bp),(.sh,vE a1),(.sh,.int .i64 a2)] (Eo (vD r.1) [vB r.2.1 r.2.2.1 r.2.2.2,.au,.au]):=by
 apply pE [0] hr zEt Tryz.func111;intro Φ ak hF g;unfold IG at hF
 iterate 2 refine wW ?_
 refine wJ hF (λx3=>[(0,.v (vB x3.1.1 x3.1.2.1 x3.1.2.2)),(7,.v (vD x3.2))]) (λx3 hF=>?_) λ_ hj0 hF=>?_
 ·exact wl ak hF
 refine wB ?_;obtain⟨b18,RI,bg⟩:=hF;refine pL RI (λcK=>[(0,.v (vB cK.1.1 cK.1.2.1 cK.1.2.2)),(2,.v (.int .i64 cK.2.1)),(4,.bl [.int .i64 a1.P,.int .i64 a1.Q,.int .i64 a1.G]),(7,.v (vD cK.2.2))]) λcK _ _ bo ba hF=>?_
 have ja:= @Q0;exact wL
def ED(aL:List Int)(aW:Int)(bp:Int)(a1:am)(a2:Int):Option (List Int×(List Int×Int×Int)):=
 (IG aL aW bp a1 a2).bind λz1=>
 (gM z1.2.1 z1.2.2.1 z1.2.2.2 30).bind λz2=>
 ((if(z2.1==0)=Z then(
 gd ((z1.1.length+1)*8<=140737488355328/\z1.1.length+1<=4611686018427387904)<|
 J (.inr (z1.1++[0],(z2.2.1,z2.2.2.1,z2.2.2.2))))else(
 if(z2.1==1)=Z then(
 if decide (0<a2)=Z then(
 gd (1<=z1.1.length/\z1.1.length<=z1.1.length)<|
 J (.inr ((z1.1.take z1.1.length).drop 1,(z2.2.1,z2.2.2.1,z2.2.2.2))))else(
 J (.inl ((z2.2.1,z2.2.2.1,z2.2.2.2),z1.1))))else(
 if(z2.1==2)=Z then(
 if decide (0<a2)=Z then(
 (gM z2.2.1 z2.2.2.1 z2.2.2.2 a2).bind λb8=>
 (py b8.2.1 b8.2.2.1 b8.2.2.2 [(-1),a1.Q]).bind λbH=>
 (ix z1.1 b8.1).bind λhO=>
 J (.inl ((bH.2.1,bH.2.2.1,bH.2.2.2),z1.1.set b8.1.toNat bH.1)))else(
 J (.inl ((z2.2.1,z2.2.2.1,z2.2.2.2),z1.1))))else(
 J (.inl ((z2.2.1,z2.2.2.1,z2.2.2.2),z1.1))))):Option (((List Int×Int×Int)×List Int) ⊕ (List Int×(List Int×Int×Int)))).bind (Sum.elim (λx5=>
 J (x5.2,(x5.1.1,x5.1.2.1,x5.1.2.2))) J))
def zhq{aL aW bp a1 a2 r}(hr:ED aL aW bp a1 a2=J r):ap Tryz.prog 74 [(.io,vB aL aW bp),(.sh,vE a1),(.sh,.int .i64 a2)] (Eo (vC r.1) [vB r.2.1 r.2.2.1 r.2.2.2,.au,.au]):=by
 apply pF 40 [0] [6] [] [.tmp 6] hr zNF Tryz.func74;intro Φ ak hF g;unfold ED at hF;refine wW ?_;refine wC hF [.io,.sh,.sh] zle λz1 hF=>?_
 refine wW ?_;refine wC hF [.io,.sh] kd λz2 hF=>?_
 refine wW ?_;refine wS hF (λx5=>[(0,.v (vB x5.1.1 x5.1.2.1 x5.1.2.2)),(7,.v (vD x5.2))]) (λx5 hF=>?_) λ_ hj0 dE hF=>?_
 ·exact wL
 refine wB ?_;refine wK [0,2,4,7,13,14] ?_;refine wI hF (λh6 hF=>?_) λh6 hF=>?_
 ·exact wL
 refine wW ?_;refine wI hF (λh7 hF=>?_) λh7 hF=>?_
 ·exact wL
 refine wW ?_;refine wI hF (λh9 hF=>?_) λh9 hF=>?_
 ·refine wW ?_;refine wI hF (λxj hF=>?_) λxj hF=>?_
  ·refine wZ (kE [0,1,2,4,5,6,7,3,8,9,10] [0,0,0,0,33,34,0,3,6,0,0]) follows ?_;have ja:= @kd;have yb:= @zt;exact wL
  exact wT (hj0 _) (eW hF)
 exact wT (hj0 _) (eW hF)
def xq(aL:List Int)(aW:Int)(bp:Int)(a1:am):Option (Int×(List Int×Int×Int)):=
 (zy aL aW bp 20).bind λz1=>
 if z1.1=Z then(
 (py z1.2.1 z1.2.2.1 z1.2.2.2 [0,1,i64.wrap (a1.P-1),a1.P,(-1),5]).bind λz3=>
 J (z3.1,(z3.2.1,z3.2.2.1,z3.2.2.2)))else(
 (CZ z1.2.1 z1.2.2.1 z1.2.2.2 a1).bind λz4=>
 J (z4.1,(z4.2.1,z4.2.2.1,z4.2.2.2)))
def Mg{aL aW bp a1 r}(hr:xq aL aW bp a1=J r):ap Tryz.prog 101 [(.io,vB aL aW bp),(.sh,vE a1)] (Eo (.int .i64 r.1) [vB r.2.1 r.2.2.1 r.2.2.2,.au]):=by
 apply pE [0] hr zEX Tryz.func101;intro Φ ak hF g;unfold xq at hF;have ja:= @Lz;have yb:= @zt;have CS:= @zhJ;exact wL
def Hf(aL:List Int)(aW:Int)(bp:Int)(a1:am):Option (an×(List Int×Int×Int)):=
 (xq aL aW bp a1).bind λz1=>
 (xq z1.2.1 z1.2.2.1 z1.2.2.2 a1).bind λz2=>
 J ((an.mk z1.1 z2.1),(z2.2.1,z2.2.2.1,z2.2.2.2))
def zjU{aL aW bp a1 r}(hr:Hf aL aW bp a1=J r):ap Tryz.prog 119 [(.io,vB aL aW bp),(.sh,vE a1)] (Eo (vF r.1) [vB r.2.1 r.2.2.1 r.2.2.2,.au]):=by
 apply pE [0] hr zF3 Tryz.func119;intro Φ ak hF g;unfold Hf at hF;refine wW ?_;refine wZ (kE [0,1,3,4,2,5,6,7] [0,26,0,26,3,3,0,34]) follows ?_;have ja:= @Mg;exact wL
def Jj(aL:List Int)(aW:Int)(bp:Int):Option (am×Int×List an×List Int×List Int×(List Int×Int×Int)):=
 (yR aL aW bp).bind λz1=>
 (zy z1.2.1 z1.2.2.1 z1.2.2.2 20).bind λz2=>
 ((if z2.1=Z then(
 (Cf z2.2.1 z2.2.2.1 z2.2.2.2).bind λz7=>
 J ((z7.2.1,z7.2.2.1,z7.2.2.2),z7.1.P,z7.1.Q,z7.1.G))else(
 J ((z2.2.1,z2.2.2.1,z2.2.2.2),z1.1.P,z1.1.Q,z1.1.G)):Option (((List Int×Int×Int)×Int×Int×Int))).bind λx5=>
 (gM x5.1.1 x5.1.2.1 x5.1.2.2 4).bind λz8=>
 ((dI (σ:=(List Int×Int×Int)×List an×Int) (λeD=>
 if decide (0<eD.2.2)=Z then(
 (JY eD.1.1 eD.1.2.1 eD.1.2.2 (am.mk x5.2.1 x5.2.2.1 x5.2.2.2)).bind λsQ=>
 gd ((eD.2.1.length+1)*16<=140737488355328/\eD.2.1.length+1<=4611686018427387904)<|
 J (.go ((sQ.2.1,sQ.2.2.1,sQ.2.2.2),eD.2.1++[sQ.1],i64.wrap (eD.2.2-1))))else(
 J (.out ((eD.1.1,eD.1.2.1,eD.1.2.2),eD.2.1)))) ((z8.2.1,z8.2.2.1,z8.2.2.2),[],i64.wrap (1+z8.1)):Option (((List Int×Int×Int)×List an))).bind λaU=>
 (JG aU.1.1 aU.1.2.1 aU.1.2.2 (aU.2.length:Int)).bind λfO=>
 (ED fO.2.1 fO.2.2.1 fO.2.2.2 (am.mk x5.2.1 x5.2.2.1 x5.2.2.2) (aU.2.length:Int)).bind λnQ=>
 (gM nQ.2.1 nQ.2.2.1 nQ.2.2.2 24).bind λeZ=>
 ((if(eZ.1==0)=Z then(
 (Hf eZ.2.1 eZ.2.2.1 eZ.2.2.2 (am.mk x5.2.1 x5.2.2.1 x5.2.2.2)).bind λgX=>
 (ix aU.2 0).bind λnB=>
 J ((gX.2.1,gX.2.2.1,gX.2.2.2),aU.2.set 0 gX.1,fO.1))else(
 if(eZ.1==1)=Z then(
 (py eZ.2.1 eZ.2.2.1 eZ.2.2.2 [(-1),(aU.2.length:Int),0]).bind λuU=>
 (ix fO.1 0).bind λuv=>
 J ((uU.2.1,uU.2.2.1,uU.2.2.2),aU.2,fO.1.set 0 uU.1))else(
 if(eZ.1==2)=Z then(
 J ((eZ.2.1,eZ.2.2.1,eZ.2.2.2),[],fO.1))else(
 if(eZ.1==3)=Z then(
 dI (σ:=(List Int×Int×Int)×List an) (λoQ=>
 (gM oQ.1.1 oQ.1.2.1 oQ.1.2.2 2).bind λBq=>
 if decide ((oQ.2.length:Int)<(i64.wrap (12+Bq.1)))=Z then(
 (ix oQ.2 0).bind λSH=>
 gd ((oQ.2.length+1)*16<=140737488355328/\oQ.2.length+1<=4611686018427387904)<|
 J (.go ((Bq.2.1,Bq.2.2.1,Bq.2.2.2),oQ.2++[SH])))else(
 J (.out ((Bq.2.1,Bq.2.2.1,Bq.2.2.2),oQ.2,fO.1)))) ((eZ.2.1,eZ.2.2.1,eZ.2.2.2),aU.2))else(
 J ((eZ.2.1,eZ.2.2.1,eZ.2.2.2),aU.2,fO.1))))):Option (((List Int×Int×Int)×List an×List Int))).bind λiY=>
 (xq iY.1.1 iY.1.2.1 iY.1.2.2 (am.mk x5.2.1 x5.2.2.1 x5.2.2.2)).bind λGl=>
 J ((am.mk x5.2.1 x5.2.2.1 x5.2.2.2),Gl.1,iY.2.1,iY.2.2,nQ.1,(Gl.2.1,Gl.2.2.1,Gl.2.2.2)))))
def zld{aL aW bp r}(hr:Jj aL aW bp=J r):ap Tryz.prog 72 [(.io,vB aL aW bp)] (Eo (.bO [vE r.1,.int .i64 r.2.1,vG r.2.2.1,vD r.2.2.2.1,vC r.2.2.2.2.1]) [vB r.2.2.2.2.2.1 r.2.2.2.2.2.2.1 r.2.2.2.2.2.2.2]):=by
 apply pE [0] hr zLI Tryz.func72;intro Φ ak hF g;unfold Jj at hF;refine wW ?_;refine wC hF [.io] ZP λz1 hF=>?_
 refine wW ?_;refine wC hF [.io,.sh] Lz λz2 hF=>?_
 refine wK [0,2,7,15] ?_;refine wJ hF (λx5=>[(0,.v (vB x5.1.1 x5.1.2.1 x5.1.2.2)),(2,.bl [.int .i64 0,.int .i64 0,.int .i64 0]),(7,.bl [.int .i64 x5.2.1,.int .i64 x5.2.2.1,.int .i64 x5.2.2.2])]) (λx5 hF=>?_) λ_ hj0 hF=>?_
 ·refine wW ?_;refine wC hF [.io,.sh] kd λz8 hF=>?_
  refine wW ?_;refine bT hF [2,7] (λaU=>[(0,.v (vB aU.1.1 aU.1.2.1 aU.1.2.2)),(8,.v (vG aU.2))]) (λaU hF=>?_) λ_ hj0 hF=>?_
  ·try simp[go_sem,g]
   try intros
   refine wC hF [.io,.sh] zlL λfO hF=>?_
   refine wK [0,2,7,8,10] ?_;try simp[go_sem,g]
   try intros
   refine wC hF [.io,.sh,.sh] zhq λnQ hF=>?_
   refine wW ?_;refine wC hF [.io,.sh] kd λeZ hF=>?_
   refine wW ?_;refine bT hF [2,7,11] (λiY=>[(0,.v (vB iY.1.1 iY.1.2.1 iY.1.2.2)),(8,.v (vG iY.2.1)),(10,.v (vD iY.2.2))]) (λiY hF=>?_) λ_ hj0 hF=>?_
   ·refine wZ (kE [0,1,2,4,5,6,3,7,8,9,10,11] [58,0,58,0,0,0,3,18,0,0,0,0]) follows ?_;have ja:= @Mg;exact wL
   refine wB ?_;refine wK [0,2,7,8,10,11,41,42] ?_;refine wI hF (λTt hF=>?_) λTt hF=>?_
   ·have ja:= @zjU;exact wL
   refine wW ?_;refine wI hF (λh37 hF=>?_) λh37 hF=>?_
   ·have yb:= @zt;exact wL
   refine wW ?_;refine wI hF (λh40 hF=>?_) λh40 hF=>?_
   ·exact wT (hj0 _) (eW hF)
   refine wW ?_;refine wI hF (λh41 hF=>?_) λh41 hF=>?_
   ·refine wB ?_;obtain⟨b58,Abp,bg⟩:=hF;refine jJ Abp [2,7,10,11] (λoQ=>[(0,.v (vB oQ.1.1 oQ.1.2.1 oQ.1.2.2)),(8,.v (vG oQ.2))]) λoQ _ _ bo ba hF=>?_
    have ja:= @kd;exact wL
   exact wT (hj0 _) (eW hF)
  refine wB ?_;obtain⟨b26,Abj,bg⟩:=hF;refine jJ Abj [2,7] (λeD=>[(0,.v (vB eD.1.1 eD.1.2.1 eD.1.2.2)),(8,.v (vG eD.2.1)),(9,.v (.int .i64 eD.2.2))]) λeD _ _ bo ba hF=>?_
  have ja:= @zkR;exact wL
 have zx:= @zkb;exact wL
def Dq(a0:Int)(a1:Int):Option (Int×Bool):=
 (n6 a1 1 12).bind λz1=>
 if(!z1)=Z then(
 J (0,aa))else(
 if(a0==1)=Z then(
 J (i64.wrap ((i64.wrap (5*a1))+4),Z))else(
 if(a0==2)=Z then(
 J (i64.wrap ((i64.wrap (9*a1))+2),Z))else(
 J (0,aa))))
def VI{a0 a1 r}(hr:Dq a0 a1=J r):ap Tryz.prog 35 [(.sh,.int .i64 a0),(.sh,.int .i64 a1)] (Eo (.bO [.int .i64 r.1,.bool r.2]) cJ):=by
 apply pE [] hr zNw Tryz.func35;intro Φ ak hF g;unfold Dq at hF;have c0:= @yc;exact wL
def KM(aL:List Int)(aW:Int)(bp:Int):Option (am×Int×List an×Int×List Int×List Int×(List Int×Int×Int)):=
 (Jj aL aW bp).bind λz1=>
 (gM z1.2.2.2.2.2.1 z1.2.2.2.2.2.2.1 z1.2.2.2.2.2.2.2 2).bind λz2=>
 (zy z2.2.1 z2.2.2.1 z2.2.2.2 20).bind λz3=>
 ((if z3.1=Z then(
 (py z3.2.1 z3.2.2.1 z3.2.2.2 [0,3]).bind λz8=>
 J ((z8.2.1,z8.2.2.1,z8.2.2.2),z8.1))else(
 J ((z3.2.1,z3.2.2.1,z3.2.2.2),i64.wrap (1+z2.1))):Option (((List Int×Int×Int)×Int))).bind λx6=>
 (Dq x6.2 (z1.2.2.1.length:Int)).bind λz9=>
 (ED x6.1.1 x6.1.2.1 x6.1.2.2 z1.1 z9.1).bind λbX=>
 J (z1.1,z1.2.1,z1.2.2.1,x6.2,z1.2.2.2.1,bX.1,(bX.2.1,bX.2.2.1,bX.2.2.2)))
def zk1{aL aW bp r}(hr:KM aL aW bp=J r):ap Tryz.prog 27 [(.io,vB aL aW bp)] (Eo (.bO [vE r.1,.int .i64 r.2.1,vG r.2.2.1,.int .i64 r.2.2.2.1,vD r.2.2.2.2.1,vC r.2.2.2.2.2.1]) [vB r.2.2.2.2.2.2.1 r.2.2.2.2.2.2.2.1 r.2.2.2.2.2.2.2.2]):=by
 apply pE [0] hr zKd Tryz.func27;intro Φ ak hF g;unfold KM at hF;refine wW ?_;refine wC hF [.io] zld λz1 hF=>?_
 refine wK [0,2,8,9,10,11] ?_;refine wC hF [.io,.sh] kd λz2 hF=>?_
 refine wW ?_;refine wC hF [.io,.sh] Lz λz3 hF=>?_
 refine wW ?_;refine bT hF [2,8,9,10,11] (λx6=>[(0,.v (vB x6.1.1 x6.1.2.1 x6.1.2.2)),(13,.v (.int .i64 x6.2))]) (λx6 hF=>?_) λ_ hj0 hF=>?_
 ·try simp[go_sem,g]
  try intros
  refine wE hF VI λz9 hF=>?_
  refine wK [0,2,8,9,10,11,13,14] ?_;refine wZ (kD 0 [66,0,0,0,0,0,66,0,3,18,0,0,0,0,0]) follows ?_;have P3:= @zhq;exact wL
 have yb:= @zt;exact wL
def EA(a0:List Int):Option (am×Int×List an×Int×List Int×List Int):=
 (KM a0 0 0).bind λz1=>
 J (z1.1,z1.2.1,z1.2.2.1,z1.2.2.2.1,z1.2.2.2.2.1,z1.2.2.2.2.2.1)
def ZO{a0 r}(hr:EA a0=J r):ap Tryz.prog 6 [(.sh,vA a0)] (Eo (.bO [vE r.1,.int .i64 r.2.1,vG r.2.2.1,.int .i64 r.2.2.2.1,vD r.2.2.2.2.1,vC r.2.2.2.2.2]) [.au]):=by
 apply pF 20 [] [] [11] [.cell 2 25,.tmp 3,.tmp 4,.tmp 5,.tmp 6,.tmp 7] hr cl6 Tryz.func6;intro Φ ak hF g;unfold EA at hF;have zx:= @zk1;exact wL
def pD(a0:Int)(a1:Int)(a2:Int):Option Bool:=
 ((if decide (a1<=a0)=Z then(
 J (decide (a0<=a2)))else(
 J aa):Option Bool).bind λx3=>
 J x3)
def yX{a0 a1 a2 r}(hr:pD a0 a1 a2=J r):ap Tryz.prog 63 [(.sh,.int .i64 a0),(.sh,.int .i64 a1),(.sh,.int .i64 a2)] (Eo (.bool r) gw):=by
 apply pE [] hr zNn Tryz.func63;intro Φ ak hF g;unfold pD at hF;refine wW ?_;refine wJ hF (λx3=>[(6,.v (.bool x3))]) (λx3 hF=>?_) λ_ hj0 hF=>?_
 ·exact wm ak hF
 exact wL
def Iz(a0:Int):Option Bool:=
 (pD a0 2 2000000000).bind λz1=>
 J z1
def zo9{a0 r}(hr:Iz a0=J r):ap Tryz.prog 176 [(.sh,.int .i64 a0)] (Eo (.bool r) [.au]):=by
 apply pE [] hr zFz Tryz.func176;intro Φ ak hF g;unfold Iz at hF;have c0:= @yX;exact wL
def Ee(a0:Int):Option Bool:=
 (((Iz a0).bind λz4=>
 if(!z4)=Z then(
 J Z)else(
 if((a0.tmod 2)==0)=Z then(
 J (a0 !=2))else(
 J aa)):Option Bool).bind λx3=>
 if x3=Z then(
 J aa)else(
 ((dI (σ:=Int) (λcK=>
 if decide ((i64.wrap (cK*cK))<=a0)=Z then(
 gd (cK≠0)<|
 if((a0.tmod cK)==0)=Z then(
 J (.out (.inr aa)))else(
 J (.go (i64.wrap (cK+2)))))else(
 J (.out (.inl ())))) 3:Option (Unit ⊕ Bool)).bind (Sum.elim (λep=>
 J Z) J))))
def zq1{a0 r}(hr:Ee a0=J r):ap Tryz.prog 120 [(.sh,.int .i64 a0)] (Eo (.bool r) [.au]):=by
 apply pE [] hr zFH Tryz.func120;intro Φ ak hF g;unfold Ee at hF;refine wW ?_;refine wJ hF (λx3=>[(0,.v (.int .i64 a0)),(15,.v (.bool x3))]) (λx3 hF=>?_) λ_ hj0 hF=>?_
 ·refine wI hF (λh7 hF=>?_) λh7 hF=>?_
  ·exact wl ak hF
  iterate 2 refine wW ?_
  refine wS hF (λep=>[]) (λep hF=>?_) λ_ hj0 dE hF=>?_
  ·exact wl ak hF
  refine wB ?_;obtain⟨b18,RI,bg⟩:=hF;refine pL RI (λcK=>[(0,.v (.int .i64 a0)),(3,.v (.int .i64 cK))]) λcK _ _ bo ba hF=>?_
  exact wL
 refine wE hF zo9 λz4 hF=>?_
 refine wG hF (λh5 hF=>?_) λh5 hF=>?_
 ·exact wV h5 (hj0 _) (eW hF)
 have g:=Ld g 2;have h:=h5;exact wL
def nC(a0:Int)(a1:Int)(a2:Int):Option Int:=
 gd (a2≠0)<|
 ((dI (σ:=Int×Int×Int) (λs4=>
 if decide (0<s4.2.1)=Z then(
 ((if((i64.wrap ((BitVec.ofInt i64.bits s4.2.1&&&BitVec.ofInt i64.bits 1).toNat))==1)=Z then(
 gd (a2≠0)<|
 J ((i64.wrap (s4.2.2*s4.1)).tmod a2))else(
 J s4.2.2):Option Int).bind λcZ=>
 gd (a2≠0)<|
 J (.go ((i64.wrap (s4.1*s4.1)).tmod a2,s4.2.1.fdiv 2,cZ))))else(
 J (.out s4.2.2))) (a0,a1,(1:Int).tmod a2):Option Int).bind λx3=>
 J x3)
def El{a0 a1 a2 r}(hr:nC a0 a1 a2=J r):ap Tryz.prog 121 [(.sh,.int .i64 a0),(.sh,.int .i64 a1),(.sh,.int .i64 a2)] (Eo (.int .i64 r) gw):=by
 apply pE [] hr zHV Tryz.func121;intro Φ ak hF g;unfold nC at hF;obtain⟨g,hF⟩:=Rz g hF
 iterate 2 refine wW ?_
 refine wJ hF (λx3=>[(7,.v (.int .i64 x3))]) (λx3 hF=>?_) λ_ hj0 hF=>?_
 ·exact wl ak hF
 refine wB ?_;obtain⟨V1,HV,bg⟩:=hF;refine pL HV (λs4=>[(0,.v (.int .i64 s4.1)),(1,.v (.int .i64 s4.2.1)),(2,.v (.int .i64 a2)),(7,.v (.int .i64 s4.2.2))]) λs4 _ _ bo ba hF=>?_
 refine wW ?_;refine wI hF (λh9 hF=>?_) λh9 hF=>?_
 ·refine wW ?_;refine wB ?_;refine wW ?_;refine bT hF [0,1,2] (λcZ=>[(7,.v (.int .i64 cZ))]) (λcZ hF=>?_) λ_ j8 hF=>?_
  ·obtain⟨g,hF⟩:=Rz g hF;refine wK [0,1,2,7] ?_;have g:=Ls g 1;exact wT (ba _) (eW hF)
  exact wL
 exact wL
def JR(a0:am):Option Bool:=
 (((pD a0.P 3 2000000000).bind λz4=>
 if z4=Z then(
 (pD a0.Q 2 (i64.wrap (a0.P-1))).bind λz6=>
 if z6=Z then(
 gd (a0.Q≠0)<|
 if(((i64.wrap (a0.P-1)).tmod a0.Q)==0)=Z then(
 (pD a0.G 2 (i64.wrap (a0.P-1))).bind λz9=>
 if z9=Z then(
 (Ee a0.P).bind λb8=>
 if b8=Z then(
 (Ee a0.Q).bind λdm=>
 if dm=Z then(
 (nC a0.G a0.Q a0.P).bind λfH=>
 J (fH==1))else(
 J aa))else(
 J aa))else(
 J aa))else(
 J aa))else(
 J aa))else(
 J aa):Option Bool).bind λx3=>
 J x3)
def zm4{a0 r}(hr:JR a0=J r):ap Tryz.prog 75 [(.sh,vE a0)] (Eo (.bool r) [.au]):=by
 apply pE [] hr zNP Tryz.func75;intro Φ ak hF g;unfold JR at hF;refine wW ?_;refine wJ hF (λx3=>[(2,.v (.bool x3))]) (λx3 hF=>?_) λ_ hj0 hF=>?_
 ·exact wm ak hF
 have c0:= @yX;have c1:= @zq1;have c2:= @El;exact wL
def An(a0:am)(a1:Int):Option Bool:=
 (((pD a1 1 (i64.wrap (a0.P-1))).bind λz4=>
 if z4=Z then(
 (nC a1 a0.Q a0.P).bind λz6=>
 J (z6==1))else(
 J aa):Option Bool).bind λx3=>
 J x3)
def SJ{a0 a1 r}(hr:An a0 a1=J r):ap Tryz.prog 76 [(.sh,vE a0),(.sh,.int .i64 a1)] (Eo (.bool r) cJ):=by
 apply pE [] hr zL8 Tryz.func76;intro Φ ak hF g;unfold An at hF;refine wW ?_;refine wJ hF (λx3=>[(4,.v (.bool x3))]) (λx3 hF=>?_) λ_ hj0 hF=>?_
 ·exact wm ak hF
 have c0:= @yX;have c1:= @El;exact wL
def JF(a0:am)(a1:an):Option Bool:=
 (((An a0 a1.A).bind λz4=>
 if z4=Z then(
 (An a0 a1.B).bind λz6=>
 J z6)else(
 J aa):Option Bool).bind λx3=>
 J x3)
def zlD{a0 a1 r}(hr:JF a0 a1=J r):ap Tryz.prog 155 [(.sh,vE a0),(.sh,vF a1)] (Eo (.bool r) cJ):=by
 apply pE [] hr zIj Tryz.func155;intro Φ ak hF g;unfold JF at hF;refine wW ?_;refine wJ hF (λx3=>[(4,.v (.bool x3))]) (λx3 hF=>?_) λ_ hj0 hF=>?_
 ·exact wm ak hF
 have c0:= @SJ;exact wL
def KQ(a0:an)(xw:Int)(Nm:Int)(NJ:Int):Option Bool:=
 (JF (am.mk xw Nm NJ) a0).bind λz1=>
 J (!z1)
def zka{a0 xw Nm NJ r}(hr:KQ a0 xw Nm NJ=J r):ap Tryz.prog 154 [(.sh,vF a0),(.sh,.fp [.int .i64 xw,.int .i64 Nm,.int .i64 NJ])] (Eo (.bool r) cJ):=by
 apply pE [] hr zFi Tryz.func154;intro Φ ak hF g;unfold KQ at hF;have c0:= @zlD;exact wL
def Jr(a0:List an)(pd:Int)(yk:Int)(wQ:Int):Option Int:=
 ((aS (σ:=Unit) (λi5 s4=>
 (ix a0 i5).bind λaU=>
 (KQ aU pd yk wQ).bind λbH=>
 if bH=Z then(
 J (.out (.inr i5)))else(
 J (.go ()))) (λs4=>.inl ()) (a0.length) 0 ():Option (Unit ⊕ Int)).bind (Sum.elim (λx3=>
 J (-1)) J))
def zea{a0 pd yk wQ r}(hr:Jr a0 pd yk wQ=J r):ap Tryz.prog 202 [(.sh,vH a0),(.sh,.func (.func 154) [] [.fp [.int .i64 pd,.int .i64 yk,.int .i64 wQ]])] (Eo (.int .i64 r) cJ):=by
 apply pE [] hr zED Tryz.func202;intro Φ ak hF g;unfold Jr at hF
 iterate 2 (try simp[go_sem,g];try intros;refine bu ?_)
 refine wS hF (λx3=>[]) (λx3 hF=>?_) λ_ hj0 dE hF=>?_
 ·exact wl ak hF
 refine wR hF [0,1,7] (λi5 s4=>[(8,.v (.int .i64 i5))]) λb bg i5 s4 _ _ aO aN bo ba hF=>?_
 have c0:= @zka;exact wL
def Mo(a0:List an)(pd:Int)(yk:Int)(wQ:Int):Option Bool:=
 (Jr a0 pd yk wQ).bind λz1=>
 J (decide (0<=z1))
def zdR{a0 pd yk wQ r}(hr:Mo a0 pd yk wQ=J r):ap Tryz.prog 153 [(.sh,vH a0),(.sh,.func (.func 154) [] [.fp [.int .i64 pd,.int .i64 yk,.int .i64 wQ]])] (Eo (.bool r) cJ):=by
 apply pE [] hr zE9 Tryz.func153;intro Φ ak hF g;unfold Mo at hF;have c0:= @zea;exact wL
def Ie(a0:am)(a1:List an):Option Bool:=
 ((if decide ((a1.length:Int)<=24)=Z then(
 (Mo a1 a0.P a0.Q a0.G).bind λz5=>
 J (!z5))else(
 J aa):Option Bool).bind λx3=>
 J x3)
def zlb{a0 a1 r}(hr:Ie a0 a1=J r):ap Tryz.prog 89 [(.sh,vE a0),(.sh,vH a1)] (Eo (.bool r) cJ):=by
 apply pF 14 [] [] [1000000] [.tmp 4] hr zK6 Tryz.func89;intro Φ ak hF g;unfold Ie at hF;refine wW ?_;refine wJ hF (λx3=>[(4,.v (.bool x3))]) (λx3 hF=>?_) λ_ hj0 hF=>?_
 ·exact wm ak hF
 have c0:= @zdR;exact wL
def Ai(a0:am)(a1:List an):Option Bool:=
 (((pD (a1.length:Int) 1 12).bind λz4=>
 if z4=Z then(
 (Ie a0 a1).bind λz6=>
 J z6)else(
 J aa):Option Bool).bind λx3=>
 J x3)
def NX{a0 a1 r}(hr:Ai a0 a1=J r):ap Tryz.prog 41 [(.sh,vE a0),(.sh,vH a1)] (Eo (.bool r) cJ):=by
 apply pE [] hr zK7 Tryz.func41;intro Φ ak hF g;unfold Ai at hF;refine wW ?_;refine wJ hF (λx3=>[(4,.v (.bool x3))]) (λx3 hF=>?_) λ_ hj0 hF=>?_
 ·exact wm ak hF
 have c0:= @yX;have c1:= @zlb;exact wL
def Oc(a0:ByteArray)(a1:List Int):Option ((List Int)):=
 ((dI (σ:=(List Int)×Int) (λs4=>
 if decide (s4.2<(a0.size:Int))=Z then(
 (rO a0 s4.2).bind λep=>
 gd ((s4.1.length+1)*8<=140737488355328/\s4.1.length+1<=4611686018427387904)<|
 J (.go (s4.1++[i64.wrap ep],i64.wrap (s4.2+1))))else(
 J (.out s4.1))) ([(a0.size:Int)],0):Option ((List Int))).bind λx3=>
 gd ((x3.length+a1.length)*8<=140737488355328/\x3.length+a1.length<=4611686018427387904)<|
 J (x3++a1))
def zpv{a0 a1 r}(hr:Oc a0 a1=J r):ap Tryz.prog 211 [(.sh,.str a0),(.sh,vC a1)] (Eo (vD r) cJ):=by
 apply pE [] hr zH9 Tryz.func211;intro Φ ak hF g;unfold Oc at hF
 iterate 3 refine wW ?_
 refine wJ hF (λx3=>[(1,.v (vC a1)),(5,.v (vD x3))]) (λx3 hF=>?_) λ_ hj0 hF=>?_
 ·exact wL
 refine wB ?_;obtain⟨Oe,wO,bg⟩:=hF;refine jJ wO [0,1,11] (λs4=>[(5,.v (vD s4.1)),(12,.v (.int .i64 s4.2))]) λs4 _ _ bo ba hF=>?_
 exact wL
def JE(a0:Int):Option Bool:=
 (pD a0 0 4611686018427387903).bind λz1=>
 J z1
def zpI{a0 r}(hr:JE a0=J r):ap Tryz.prog 163 [(.sh,.int .i64 a0)] (Eo (.bool r) [.au]):=by
 apply pE [] hr zEV Tryz.func163;intro Φ ak hF g;unfold JE at hF;have c0:= @yX;exact wL
def CX(a0:Int):Option Bool:=
 (JE a0).bind λz1=>
 J (!z1)
def zi5{a0 r}(hr:CX a0=J r):ap Tryz.prog 116 [(.sh,.int .i64 a0),(.sh,.fp [.func (.func 163) [] []])] (Eo (.bool r) cJ):=by
 apply pE [] hr Od Tryz.func116;intro Φ ak hF g;unfold CX at hF;have c0:= @zpI;exact wL
def Sm(a0:List Int):Option Int:=
 ((aS (σ:=Unit) (λi5 s4=>
 (ix a0 i5).bind λaU=>
 (CX aU).bind λbH=>
 if bH=Z then(
 J (.out (.inr i5)))else(
 J (.go ()))) (λs4=>.inl ()) (a0.length) 0 ():Option (Unit ⊕ Int)).bind (Sum.elim (λx3=>
 J (-1)) J))
def zfj{a0 r}(hr:Sm a0=J r):ap Tryz.prog 174 [(.sh,vC a0),(.sh,.func (.func 116) [] [.fp [.func (.func 163) [] []]])] (Eo (.int .i64 r) cJ):=by
 apply pE [] hr N8 Tryz.func174;intro Φ ak hF g;unfold Sm at hF
 iterate 2 (try simp[go_sem,g];try intros;refine bu ?_)
 refine wS hF (λx3=>[]) (λx3 hF=>?_) λ_ hj0 dE hF=>?_
 ·exact wl ak hF
 refine wR hF [0,1,7] (λi5 s4=>[(8,.v (.int .i64 i5))]) λb bg i5 s4 _ _ aO aN bo ba hF=>?_
 have c0:= @zi5;exact wL
def SY(a0:List Int):Option Bool:=
 (Sm a0).bind λz1=>
 J (decide (0<=z1))
def ze1{a0 r}(hr:SY a0=J r):ap Tryz.prog 115 [(.sh,vC a0),(.sh,.func (.func 116) [] [.fp [.func (.func 163) [] []]])] (Eo (.bool r) cJ):=by
 apply pE [] hr M6 Tryz.func115;intro Φ ak hF g;unfold SY at hF;have c0:= @zfj;exact wL
def Do(a0:List Int):Option Bool:=
 (SY a0).bind λz1=>
 J (!z1)
def Xd{a0 r}(hr:Do a0=J r):ap Tryz.prog 69 [(.sh,vC a0),(.sh,.func (.func 163) [] [])] (Eo (.bool r) cJ):=by
 apply pF 9 [] [] [1000000] [.tmp 4] hr MU Tryz.func69;intro Φ ak hF g;unfold Do at hF;have c0:= @ze1;exact wL
def JH(a0:List Int):Option Bool:=
 ((if decide ((a0.length:Int)<=400)=Z then(
 (Do a0).bind λz5=>
 J z5)else(
 J aa):Option Bool).bind λx3=>
 J x3)
def zoB{a0 r}(hr:JH a0=J r):ap Tryz.prog 214 [(.sh,vC a0)] (Eo (.bool r) [.au]):=by
 apply pE [] hr zFU Tryz.func214;intro Φ ak hF g;unfold JH at hF;refine wW ?_;refine wJ hF (λx3=>[(2,.v (.bool x3))]) (λx3 hF=>?_) λ_ hj0 hF=>?_
 ·exact wm ak hF
 have c0:= @Xd;exact wL
def Hc(a0:List Int):Option Int:=
 gd (([(a0.length:Int)].length+a0.length)*8<=140737488355328/\[(a0.length:Int)].length+a0.length<=4611686018427387904)<|
 (J ([(a0.length:Int)]++a0)).bind λx1=>
 ((aS (σ:=Int×Int) (λi7 s6=>
 (ix x1 i7).bind λhO=>
 J (.go ((i64.wrap ((i64.wrap ((i64.wrap (48271*((i64.wrap ((i64.wrap ((i64.wrap (48271*s6.1))+(i64.wrap ((BitVec.ofInt i64.bits hO&&&BitVec.ofInt i64.bits 2147483647).toNat))))+1)).tmod 2147483647)))+(hO.fdiv 2147483648)))+1)).tmod 2147483647,(i64.wrap ((i64.wrap ((i64.wrap (69621*((i64.wrap ((i64.wrap ((i64.wrap (69621*s6.2))+(i64.wrap ((BitVec.ofInt i64.bits hO&&&BitVec.ofInt i64.bits 2147483647).toNat))))+1)).tmod 2147483647)))+(hO.fdiv 2147483648)))+1)).tmod 2147483647))) (λs6=>(s6.1,s6.2)) (x1.length) 0 (1,2):Option ((Int×Int))).bind λx5=>
 J (i64.wrap ((i64.wrap (x5.1*2147483648))+x5.2)))
def zuI{a0 r}(hr:Hc a0=J r):ap Tryz.prog 215 [(.sh,vC a0)] (Eo (.int .i64 r) [.au]):=by
 apply pE [] hr zFN Tryz.func215;intro Φ ak hF g;unfold Hc at hF;obtain⟨g,hF⟩:=Rg g hF;obtain⟨x1,e2,hF⟩:=mi hF;have g:=And.intro g (show[.int .i64 (a0.length:Int)]::(List.map aJ a0)=x1.map aJ by injection e2 with e2;rw[<-e2];simp[go_sem])
 iterate 2 (try simp[go_sem,g];try intros;refine bu ?_)
 try simp[go_sem,g]
 try intros
 refine wK [3,4,13,14,15] ?_;refine wJ hF (λx5=>[(3,.v (.int .i64 x5.1)),(4,.v (.int .i64 x5.2))]) (λx5 hF=>?_) λ_ hj0 hF=>?_
 ·have g:=Ls g 31;exact wl ak hF
 refine wR hF [13,14] (λi7 s6=>[(3,.v (.int .i64 s6.1)),(4,.v (.int .i64 s6.2)),(15,.v (.int .i64 i7))]) λb bg i7 s6 _ _ aO aN bo ba hF=>?_
 refine wW ?_;refine wu aO aN ?_;refine wW ?_;refine wB ?_;obtain⟨hO,g,hF⟩:=Rx g hF;have g:=Ls g 31;refine wW ?_;refine wK [3,4,7,8,13,14,15] ?_;have g:=Ld g 2147483647;exact wL
def Im(a0:List Int):Option (Int×Bool):=
 (JH a0).bind λz1=>
 if(!z1)=Z then(
 J (0,aa))else(
 (Hc a0).bind λz3=>
 J (z3,Z))
def zpH{a0 r}(hr:Im a0=J r):ap Tryz.prog 210 [(.sh,vC a0)] (Eo (.bO [.int .i64 r.1,.bool r.2]) [.au]):=by
 apply pE [] hr zFq Tryz.func210;intro Φ ak hF g;unfold Im at hF;have c0:= @zoB;have c1:= @zuI;exact wL
def Ce(a0:ByteArray)(a1:List Int):Option (Int×Bool):=
 ((if decide (40<(a0.size:Int))=Z then(
 J Z)else(
 J (decide (400<(a1.length:Int)))):Option Bool).bind λx3=>
 if x3=Z then(
 J (0,aa))else(
 (Oc a0 a1).bind λz6=>
 (Im z6).bind λz7=>
 J (z7.1,z7.2)))
def Yp{a0 a1 r}(hr:Ce a0 a1=J r):ap Tryz.prog 177 [(.sh,.str a0),(.sh,vC a1)] (Eo (.bO [.int .i64 r.1,.bool r.2]) cJ):=by
 apply pE [] hr zHy Tryz.func177;intro Φ ak hF g;unfold Ce at hF;refine wW ?_;refine bT hF [0,1] (λx3=>[(13,.v (.bool x3))]) (λx3 hF=>?_) λ_ hj0 hF=>?_
 ·have c0:= @zpv;have c1:= @zpH;exact wL
 exact wL
def xu(a0:am)(a1:ByteArray)(a2:Int):Option (Int×Bool):=
 ((dI (σ:=Int) (λs4=>
 if decide (s4<1000)=Z then(
 (Ce a1 [a0.P,a0.Q,a0.G,a2,s4]).bind λbX=>
 if(!bX.2)=Z then(
 J (.out (.inr (0,aa))))else(
 gd (i64.wrap (a0.P-1)≠0)<|
 gd (a0.Q≠0)<|
 (nC (i64.wrap (1+(bX.1.tmod (i64.wrap (a0.P-1))))) (i64.wrap ((i64.wrap (a0.P-1)).tdiv a0.Q)) a0.P).bind λbH=>
 if(bH !=1)=Z then(
 J (.out (.inr (bH,Z))))else(
 J (.go (i64.wrap (s4+1))))))else(
 J (.out (.inl ())))) 0:Option (Unit ⊕ (Int×Bool))).bind (Sum.elim (λx3=>
 J (0,aa)) J))
def VK{a0 a1 a2 r}(hr:xu a0 a1 a2=J r):ap Tryz.prog 122 [(.sh,vE a0),(.sh,.str a1),(.sh,.int .i64 a2)] (Eo (.bO [.int .i64 r.1,.bool r.2]) gw):=by
 apply pE [] hr zH0 Tryz.func122;intro Φ ak hF g;unfold xu at hF
 iterate 2 refine wW ?_
 refine wS hF (λx3=>[]) (λx3 hF=>?_) λ_ hj0 dE hF=>?_
 ·exact wl ak hF
 refine wB ?_;obtain⟨V1,HV,bg⟩:=hF;refine jJ HV [1,2,3] (λs4=>[(12,.v (.int .i64 s4))]) λs4 _ _ bo ba hF=>?_
 refine wW ?_;refine wI hF (λh9 hF=>?_) λh9 hF=>?_
 ·refine wW ?_;refine wB ?_;refine wW ?_;refine wE hF Yp λbX hF=>?_
  refine wK [1,2,3,9,10,12] ?_;refine wW ?_;refine wI hF (λBL hF=>?_) λBL hF=>?_
  ·exact wL
  refine wW ?_;refine wZ (kD 0 [0,25,26,0,0,0,25,26,0,25,26,0,25,26,3,0]) follows ?_;have c0:= @El;exact wL
 exact wL
def kT(a0:am)(a1:Int):Option (ct×Bool):=
 (xu a0 (⟨#[104]⟩:ByteArray) 0).bind λz1=>
 ((dI (σ:=Int×List Int×Bool×Int) (λgz=>
 if decide (gz.2.2.2<a1)=Z then(
 (xu a0 (⟨#[104,115]⟩:ByteArray) gz.2.2.2).bind λky=>
 ((if gz.2.2.1=Z then(
 J ky.2)else(
 J aa):Option Bool).bind λqx=>
 gd ((gz.2.1.length+1)*8<=140737488355328/\gz.2.1.length+1<=4611686018427387904)<|
 J (.go (gz.1,gz.2.1++[ky.1],qx,i64.wrap (gz.2.2.2+1)))))else(
 J (.out (gz.1,gz.2.1,gz.2.2.1)))) (z1.1,[],Z,0):Option ((Int×List Int×Bool))).bind λx4=>
 ((if(!z1.2)=Z then(
 J Z)else(
 J (!x4.2.2)):Option Bool).bind λA5=>
 if A5=Z then(
 J ((ct.mk 0 []),aa))else(
 J ((ct.mk x4.1 x4.2.1),Z))))
def ZK{a0 a1 r}(hr:kT a0 a1=J r):ap Tryz.prog 77 [(.sh,vE a0),(.sh,.int .i64 a1)] (Eo (.bO [vI r.1,.bool r.2]) cJ):=by
 apply pE [] hr zMP Tryz.func77;intro Φ ak hF g;unfold kT at hF;refine wW ?_;refine wE hF VK λz1 hF=>?_
 refine wK [1,2,4,6,7] ?_
 iterate 2 refine wW ?_
 refine bT hF [4,7] (λx4=>[(8,.bl [.int .i64 x4.1,vD x4.2.1]),(9,.v (.bool x4.2.2))]) (λx4 hF=>?_) λ_ hj0 hF=>?_
 ·refine bT hF [4,8] (λA5=>[(46,.v (.bool A5))]) (λA5 hF=>?_) λ_ hj0 hF=>?_
  ·exact wL
  exact wL
 refine wB ?_;obtain⟨b27,Rl,bg⟩:=hF;refine jJ Rl [2,4,7,20] (λgz=>[(8,.bl [.int .i64 gz.1,vD gz.2.1]),(9,.v (.bool gz.2.2.1)),(21,.v (.int .i64 gz.2.2.2))]) λgz _ _ bo ba hF=>?_
 refine wW ?_;refine wI hF (λHy hF=>?_) λHy hF=>?_
 ·refine wW ?_;refine wB ?_;refine wK [2,4,7,8,9,10,20,21] ?_;refine wE hF VK λky hF=>?_
  refine wW ?_;refine bT hF [2,4,7,8,11,20,21] (λqx=>[(9,.v (.bool qx))]) (λqx hF=>?_) λ_ j8 hF=>?_
  ·exact wL
  exact wL
 exact wL
def tE(a0:am)(a1:Int)(a2:List an):Option (ct×Bool):=
 (((JR a0).bind λz4=>
 if(!z4)=Z then(
 J Z)else(
 (An a0 a1).bind λz6=>
 if(!z6)=Z then(
 J Z)else(
 (Ai a0 a2).bind λz8=>
 J (!z8))):Option Bool).bind λx3=>
 if x3=Z then(
 J ((ct.mk 0 []),aa))else(
 (kT a0 (a2.length:Int)).bind λbX=>
 J (bX.1,bX.2)))
def NM{a0 a1 a2 r}(hr:tE a0 a1 a2=J r):ap Tryz.prog 28 [(.sh,vE a0),(.sh,.int .i64 a1),(.sh,vH a2)] (Eo (.bO [vI r.1,.bool r.2]) gw):=by
 apply pE [] hr zN5 Tryz.func28;intro Φ ak hF g;unfold tE at hF;refine wW ?_;refine bT hF [2,3,6] (λx3=>[(22,.v (.bool x3))]) (λx3 hF=>?_) λ_ hj0 hF=>?_
 ·have c0:= @ZK;exact wL
 have c0:= @zm4;have c1:= @SJ;have c2:= @NX;exact wL
def Eb(a0:Int):Option Bool:=
 ((if(a0==1)=Z then(
 J Z)else(
 J (a0==2)):Option Bool).bind λx3=>
 J x3)
def Y2{a0 r}(hr:Eb a0=J r):ap Tryz.prog 29 [(.sh,.int .i64 a0)] (Eo (.bool r) [.au]):=by
 apply pE [] hr zNj Tryz.func29;intro Φ ak hF g;unfold Eb at hF;refine wW ?_;refine wJ hF (λx3=>[(2,.v (.bool x3))]) (λx3 hF=>?_) λ_ hj0 hF=>?_
 ·exact wm ak hF
 exact wL
def Kq(a0:Int)(a1:Int):Option Int:=
 if(a0==1)=Z then(
 J (i64.wrap ((i64.wrap (5*a1))+4)))else(
 J (i64.wrap ((i64.wrap (9*a1))+2)))
def zmx{a0 a1 r}(hr:Kq a0 a1=J r):ap Tryz.prog 30 [(.sh,.int .i64 a0),(.sh,.int .i64 a1)] (Eo (.int .i64 r) cJ):=by
 apply pE [] hr zMm Tryz.func30;intro Φ ak hF g;unfold Kq at hF;exact wL
def KU(a0:Int)(xw:List Int):Option Bool:=
 (pD a0 0 (i64.wrap ((xw.length:Int)-1))).bind λz1=>
 J z1
def zk9{a0 xw r}(hr:KU a0 xw=J r):ap Tryz.prog 70 [(.sh,.int .i64 a0),(.sh,.fp [vC xw])] (Eo (.bool r) cJ):=by
 apply pE [] hr zNW Tryz.func70;intro Φ ak hF g;unfold KU at hF;have c0:= @yX;exact wL
def Ir(a0:Int)(ML:List Int):Option Bool:=
 (KU a0 ML).bind λz1=>
 J (!z1)
def zhM{a0 ML r}(hr:Ir a0 ML=J r):ap Tryz.prog 116 [(.sh,.int .i64 a0),(.sh,.fp [.func (.func 70) [] [.fp [vC ML]]])] (Eo (.bool r) cJ):=by
 apply pE [] hr Od Tryz.func116;intro Φ ak hF g;unfold Ir at hF;have c0:= @zk9;exact wL
def MP(a0:List Int)(yx:List Int):Option Int:=
 ((aS (σ:=Unit) (λi5 s4=>
 (ix a0 i5).bind λaU=>
 (Ir aU yx).bind λbH=>
 if bH=Z then(
 J (.out (.inr i5)))else(
 J (.go ()))) (λs4=>.inl ()) (a0.length) 0 ():Option (Unit ⊕ Int)).bind (Sum.elim (λx3=>
 J (-1)) J))
def zeA{a0 yx r}(hr:MP a0 yx=J r):ap Tryz.prog 174 [(.sh,vC a0),(.sh,.func (.func 116) [] [.fp [.func (.func 70) [] [.fp [vC yx]]]])] (Eo (.int .i64 r) cJ):=by
 apply pE [] hr N8 Tryz.func174;intro Φ ak hF g;unfold MP at hF
 iterate 2 (try simp[go_sem,g];try intros;refine bu ?_)
 refine wS hF (λx3=>[]) (λx3 hF=>?_) λ_ hj0 dE hF=>?_
 ·exact wl ak hF
 refine wR hF [0,1,7] (λi5 s4=>[(8,.v (.int .i64 i5))]) λb bg i5 s4 _ _ aO aN bo ba hF=>?_
 have c0:= @zhM;exact wL
def KP(a0:List Int)(yx:List Int):Option Bool:=
 (MP a0 yx).bind λz1=>
 J (decide (0<=z1))
def zen{a0 yx r}(hr:KP a0 yx=J r):ap Tryz.prog 115 [(.sh,vC a0),(.sh,.func (.func 116) [] [.fp [.func (.func 70) [] [.fp [vC yx]]]])] (Eo (.bool r) cJ):=by
 apply pE [] hr M6 Tryz.func115;intro Φ ak hF g;unfold KP at hF;have c0:= @zeA;exact wL
def IC(a0:List Int)(pd:List Int):Option Bool:=
 (KP a0 pd).bind λz1=>
 J (!z1)
def zh5{a0 pd r}(hr:IC a0 pd=J r):ap Tryz.prog 69 [(.sh,vC a0),(.sh,.func (.func 70) [] [.fp [vC pd]])] (Eo (.bool r) cJ):=by
 apply pF 9 [] [] [1000000] [.tmp 4] hr MU Tryz.func69;intro Φ ak hF g;unfold IC at hF;have c0:= @zen;exact wL
def Ft(a0:List Int)(a1:Int):Option Int:=
 ((aS (σ:=Unit) (λi5 s4=>
 (ix a0 i5).bind λaU=>
 if(a1==aU)=Z then(
 J (.out (.inr i5)))else(
 J (.go ()))) (λs4=>.inl ()) (a0.length) 0 ():Option (Unit ⊕ Int)).bind (Sum.elim (λx3=>
 J (-1)) J))
def zlO{a0 a1 r}(hr:Ft a0 a1=J r):ap Tryz.prog 175 [(.sh,vC a0),(.sh,.int .i64 a1)] (Eo (.int .i64 r) cJ):=by
 apply pE [] hr zGZ Tryz.func175;intro Φ ak hF g;unfold Ft at hF
 iterate 2 (try simp[go_sem,g];try intros;refine bu ?_)
 refine wS hF (λx3=>[]) (λx3 hF=>?_) λ_ hj0 dE hF=>?_
 ·exact wl ak hF
 refine wR hF [0,1,7] (λi5 s4=>[(8,.v (.int .i64 i5))]) λb bg i5 s4 _ _ aO aN bo ba hF=>?_
 exact wL
def IA(a0:List Int)(a1:Int):Option Bool:=
 (Ft a0 a1).bind λz1=>
 J (decide (0<=z1))
def zkr{a0 a1 r}(hr:IA a0 a1=J r):ap Tryz.prog 117 [(.sh,vC a0),(.sh,.int .i64 a1)] (Eo (.bool r) cJ):=by
 apply pE [] hr zE0 Tryz.func117;intro Φ ak hF g;unfold IA at hF;have c0:= @zlO;exact wL
def FP(a0:List Int):Option Bool:=
 ((aS (σ:=Unit) (λi5 s4=>
 (ix a0 i5).bind λaU=>
 gd (0<=i5)<|
 gd (0<=i5.toNat/\i5.toNat<=a0.length)<|
 (IA ((a0.take i5.toNat).drop 0) aU).bind λbH=>
 if bH=Z then(
 J (.out (.inr aa)))else(
 J (.go ()))) (λs4=>.inl ()) (a0.length) 0 ():Option (Unit ⊕ Bool)).bind (Sum.elim (λx3=>
 J Z) J))
def zm5{a0 r}(hr:FP a0=J r):ap Tryz.prog 71 [(.sh,vC a0)] (Eo (.bool r) [.au]):=by
 apply pE [] hr zJV Tryz.func71;intro Φ ak hF g;unfold FP at hF
 iterate 2 (try simp[go_sem,g];try intros;refine bu ?_)
 refine wS hF (λx3=>[]) (λx3 hF=>?_) λ_ hj0 dE hF=>?_
 ·exact wl ak hF
 refine wR hF [0,5,6] (λi5 s4=>[(7,.v (.int .i64 i5))]) λb bg i5 s4 _ _ aO aN bo ba hF=>?_
 have c0:= @zkr;exact wL
def I7(a0:List Int):Option Bool:=
 ((if decide ((a0.length:Int)<=24)=Z then(
 (IC a0 a0).bind λz5=>
 if z5=Z then(
 (FP a0).bind λz7=>
 J z7)else(
 J aa))else(
 J aa):Option Bool).bind λx3=>
 J x3)
def zmI{a0 r}(hr:I7 a0=J r):ap Tryz.prog 26 [(.sh,vC a0)] (Eo (.bool r) [.au]):=by
 apply pF 15 [] [] [1000000] [.tmp 2] hr zMi Tryz.func26;intro Φ ak hF g;unfold I7 at hF;refine wW ?_;refine wJ hF (λx3=>[(2,.v (.bool x3))]) (λx3 hF=>?_) λ_ hj0 hF=>?_
 ·exact wm ak hF
 have c0:= @zh5;have c1:= @zm5;exact wL
def Iu(a0:am)(a1:Int):Option Bool:=
 (pD a1 0 (i64.wrap (a0.Q-1))).bind λz1=>
 J z1
def zn3{a0 a1 r}(hr:Iu a0 a1=J r):ap Tryz.prog 123 [(.sh,vE a0),(.sh,.int .i64 a1)] (Eo (.bool r) cJ):=by
 apply pE [] hr zGY Tryz.func123;intro Φ ak hF g;unfold Iu at hF;have c0:= @yX;exact wL
def Jk(a0:Int)(wo:am):Option Bool:=
 (Iu wo a0).bind λz1=>
 J (!z1)
def zil{a0 wo r}(hr:Jk a0 wo=J r):ap Tryz.prog 116 [(.sh,.int .i64 a0),(.sh,.fp [.func (.func 123) [vE wo] []])] (Eo (.bool r) cJ):=by
 apply pE [] hr Od Tryz.func116;intro Φ ak hF g;unfold Jk at hF;have c0:= @zn3;exact wL
def TA(a0:List Int)(kZ:am):Option Int:=
 ((aS (σ:=Unit) (λi5 s4=>
 (ix a0 i5).bind λaU=>
 (Jk aU kZ).bind λbH=>
 if bH=Z then(
 J (.out (.inr i5)))else(
 J (.go ()))) (λs4=>.inl ()) (a0.length) 0 ():Option (Unit ⊕ Int)).bind (Sum.elim (λx3=>
 J (-1)) J))
def ze0{a0 kZ r}(hr:TA a0 kZ=J r):ap Tryz.prog 174 [(.sh,vC a0),(.sh,.func (.func 116) [] [.fp [.func (.func 123) [vE kZ] []]])] (Eo (.int .i64 r) cJ):=by
 apply pE [] hr N8 Tryz.func174;intro Φ ak hF g;unfold TA at hF
 iterate 2 (try simp[go_sem,g];try intros;refine bu ?_)
 refine wS hF (λx3=>[]) (λx3 hF=>?_) λ_ hj0 dE hF=>?_
 ·exact wl ak hF
 refine wR hF [0,1,7] (λi5 s4=>[(8,.v (.int .i64 i5))]) λb bg i5 s4 _ _ aO aN bo ba hF=>?_
 have c0:= @zil;exact wL
def Qu(a0:List Int)(kZ:am):Option Bool:=
 (TA a0 kZ).bind λz1=>
 J (decide (0<=z1))
def zeB{a0 kZ r}(hr:Qu a0 kZ=J r):ap Tryz.prog 115 [(.sh,vC a0),(.sh,.func (.func 116) [] [.fp [.func (.func 123) [vE kZ] []]])] (Eo (.bool r) cJ):=by
 apply pE [] hr M6 Tryz.func115;intro Φ ak hF g;unfold Qu at hF;have c0:= @ze0;exact wL
def NC(a0:List Int)(xI:am):Option Bool:=
 (Qu a0 xI).bind λz1=>
 J (!z1)
def ziZ{a0 xI r}(hr:NC a0 xI=J r):ap Tryz.prog 69 [(.sh,vC a0),(.sh,.func (.func 123) [vE xI] [])] (Eo (.bool r) cJ):=by
 apply pF 9 [] [] [1000000] [.tmp 4] hr MU Tryz.func69;intro Φ ak hF g;unfold NC at hF;have c0:= @zeB;exact wL
def vz(a0:am)(a1:List Int):Option Bool:=
 (NC a1 a0).bind λz1=>
 J z1
def G3{a0 a1 r}(hr:vz a0 a1=J r):ap Tryz.prog 78 [(.sh,vE a0),(.sh,vC a1)] (Eo (.bool r) cJ):=by
 apply pE [] hr zL1 Tryz.func78;intro Φ ak hF g;unfold vz at hF;have c0:= @ziZ;exact wL
def CJ(a0:am)(a1:List Int)(a2:List Int)(a3:Int):Option Bool:=
 (((I7 a1).bind λz4=>
 if z4=Z then(
 if((a1.length:Int)==a3)=Z then(
 if((a2.length:Int)==a3)=Z then(
 (vz a0 a2).bind λz8=>
 J z8)else(
 J aa))else(
 J aa))else(
 J aa):Option Bool).bind λx3=>
 J x3)
def Ta{a0 a1 a2 a3 r}(hr:CJ a0 a1 a2 a3=J r):ap Tryz.prog 31 [(.sh,vE a0),(.sh,vC a1),(.sh,vC a2),(.sh,.int .i64 a3)] (Eo (.bool r) kP):=by
 apply pE [] hr zMx Tryz.func31;intro Φ ak hF g;unfold CJ at hF;refine wW ?_;refine wJ hF (λx3=>[(8,.v (.bool x3))]) (λx3 hF=>?_) λ_ hj0 hF=>?_
 ·exact wm ak hF
 have c0:= @zmI;have c1:= @G3;exact wL
def At(a0:Int)(a1:Int):Option Int:=
 gd (a1≠0)<|
 gd (a1≠0)<|
 J ((i64.wrap ((a0.tmod a1)+a1)).tmod a1)
def QH{a0 a1 r}(hr:At a0 a1=J r):ap Tryz.prog 178 [(.sh,.int .i64 a0),(.sh,.int .i64 a1)] (Eo (.int .i64 r) cJ):=by
 apply pE [] hr zE3 Tryz.func178;intro Φ ak hF g;unfold At at hF;exact wL
def cQ(a0:am)(a1:Int)(a2:Int):Option Int:=
 (At a2 a0.Q).bind λz1=>
 (nC a1 z1 a0.P).bind λz2=>
 J z2
def gG{a0 a1 a2 r}(hr:cQ a0 a1 a2=J r):ap Tryz.prog 134 [(.sh,vE a0),(.sh,.int .i64 a1),(.sh,.int .i64 a2)] (Eo (.int .i64 r) gw):=by
 apply pE [] hr zG1 Tryz.func134;intro Φ ak hF g;unfold cQ at hF;refine wW ?_;refine wZ (kE [0,1,2,3,5,6,4,7,8] [0,0,25,26,25,26,3,3,0]) follows ?_;have c0:= @QH;have c1:= @El;exact wL
def en(a0:am)(a1:List Int):Option Int:=
 ((aS (σ:=Int) (λi5 s4=>
 (ix a1 i5).bind λaU=>
 gd (a0.P≠0)<|
 J (.go ((i64.wrap (s4*aU)).tmod a0.P))) (λs4=>s4) (a1.length) 0 1:Option Int).bind λx3=>
 J x3)
def jS{a0 a1 r}(hr:en a0 a1=J r):ap Tryz.prog 135 [(.sh,vE a0),(.sh,vC a1)] (Eo (.int .i64 r) cJ):=by
 apply pE [] hr zHb Tryz.func135;intro Φ ak hF g;unfold en at hF
 iterate 3 (try simp[go_sem,g];try intros;refine bu ?_)
 refine wJ hF (λx3=>[(5,.v (.int .i64 x3))]) (λx3 hF=>?_) λ_ hj0 hF=>?_
 ·exact wl ak hF
 refine wR hF [2,8,9] (λi5 s4=>[(5,.v (.int .i64 s4)),(10,.v (.int .i64 i5))]) λb bg i5 s4 _ _ aO aN bo ba hF=>?_
 exact wL
def J7(a0:am)(a1:Int)(a2:Int)(a3:Int):Option an:=
 (cQ a0 a0.G a3).bind λz1=>
 (cQ a0 a1 a3).bind λz2=>
 (en a0 [a2,z2]).bind λz3=>
 J (an.mk z1 z3)
def zmj{a0 a1 a2 a3 r}(hr:J7 a0 a1 a2 a3=J r):ap Tryz.prog 125 [(.sh,vE a0),(.sh,.int .i64 a1),(.sh,.int .i64 a2),(.sh,.int .i64 a3)] (Eo (vF r) kP):=by
 apply pE [] hr zHR Tryz.func125;intro Φ ak hF g;unfold J7 at hF;refine wW ?_;refine wZ (kE [0,1,2,3,5,6,7,8,9,4,10,11,12,13,14] [34,33,34,0,34,0,34,0,0,3,3,0,6,0,66]) follows ?_;have c0:= @gG;have c1:= @jS;exact wL
def Ok(a0:am)(a1:an)(a2:an):Option an:=
 (en a0 [a1.A,a2.A]).bind λz1=>
 (en a0 [a1.B,a2.B]).bind λz2=>
 J (an.mk z1 z2)
def zm7{a0 a1 a2 r}(hr:Ok a0 a1 a2=J r):ap Tryz.prog 124 [(.sh,vE a0),(.sh,vF a1),(.sh,vF a2)] (Eo (vF r) gw):=by
 apply pE [] hr zHW Tryz.func124;intro Φ ak hF g;unfold Ok at hF;refine wW ?_;refine wZ (kE [0,1,2,3,4,5,7,8,9,10,11,12,6,13,14,15] [26,33,34,41,42,0,26,33,34,41,42,0,6,6,0,50]) follows ?_;have c0:= @jS;exact wL
def FO(a0:am)(a1:Int)(a2:an)(a3:Int):Option an:=
 (J7 a0 a1 1 a3).bind λz1=>
 (Ok a0 a2 z1).bind λz2=>
 J z2
def zlH{a0 a1 a2 a3 r}(hr:FO a0 a1 a2 a3=J r):ap Tryz.prog 79 [(.sh,vE a0),(.sh,.int .i64 a1),(.sh,vF a2),(.sh,.int .i64 a3)] (Eo (vF r) kP):=by
 apply pE [] hr zJR Tryz.func79;intro Φ ak hF g;unfold FO at hF;refine wW ?_;refine wZ (kD 0 [34,50,34,0,0,3,3,66]) follows ?_;have c0:= @zmj;have c1:= @zm7;exact wL
def Bd(a0:am)(a1:Int)(a2:List an)(a3:List Int)(a4:List Int):Option ((List an)):=
 ((aS (σ:=(List an)) (λi5 s4=>
 (ix a3 i5).bind λaU=>
 (ix a2 aU).bind λcZ=>
 (ix a4 i5).bind λhO=>
 (FO a0 a1 cZ hO).bind λeS=>
 gd ((s4.length+1)*16<=140737488355328/\s4.length+1<=4611686018427387904)<|
 J (.go (s4++[eS]))) (λs4=>s4) (a3.length) 0 []:Option ((List an))).bind λx3=>
 J x3)
def P6{a0 a1 a2 a3 a4 r}(hr:Bd a0 a1 a2 a3 a4=J r):ap Tryz.prog 32 [(.sh,vE a0),(.sh,.int .i64 a1),(.sh,vH a2),(.sh,vC a3),(.sh,vC a4)] (Eo (vG r) si):=by
 apply pE [] hr zMA Tryz.func32;intro Φ ak hF g;unfold Bd at hF
 iterate 3 (try simp[go_sem,g];try intros;refine bu ?_)
 refine wJ hF (λx3=>[(11,.v (vG x3))]) (λx3 hF=>?_) λ_ hj0 hF=>?_
 ·exact wl ak hF
 refine wR hF [1,2,4,5,15,16] (λi5 s4=>[(11,.v (vG s4)),(17,.v (.int .i64 i5))]) λb bg i5 s4 _ _ aO aN bo ba hF=>?_
 refine wW ?_;refine wu aO aN ?_;refine wW ?_;refine wB ?_;obtain⟨aU,g,hF⟩:=Rx g hF;refine wK [1,2,4,5,11,12,13,15,16,17] ?_;refine wZ (kD 0 [0,42,0,0,0,0,0,0,0,0,0,3,0,5,0]) follows ?_;have c0:= @zlH;exact wL
def iT(aL:List Int)(a1:Int):Option (List Int×List Int):=
 gd (0<=a1)<|
 gd (0<=a1.toNat/\a1.toNat<=aL.length)<|
 gd (0<=a1)<|
 gd (a1.toNat<=aL.length/\aL.length<=aL.length)<|
 J ((aL.take a1.toNat).drop 0,(aL.take aL.length).drop a1.toNat)
def mf{aL a1 r}(hr:iT aL a1=J r):ap Tryz.prog 126 [(.io,.bx [vC aL]),(.sh,.int .i64 a1)] (Eo (vC r.1) [.bx [vC r.2],.au]):=by
 apply pE [0] hr zGG Tryz.func126;intro Φ ak hF g;unfold iT at hF;exact wL
def sw(aL:List Int):Option (Int×List Int):=
 (iT aL 1).bind λz1=>
 (ix z1.1 0).bind λx2=>
 J (x2,z1.2)
def zV{aL r}(hr:sw aL=J r):ap Tryz.prog 127 [(.io,.bx [vC aL])] (Eo (.int .i64 r.1) [.bx [vC r.2]]):=by
 apply pE [0] hr zFX Tryz.func127;intro Φ ak hF g;unfold sw at hF;have ja:= @mf;exact wL
def Jx(a0:am)(a1:ct)(a2:List Int)(a3:List Int):Option ((List Int)):=
 gd (0<=(a2.length:Int)/\(a2.length:Int)<=(a2.length:Int)/\8*(a2.length:Int)<=140737488355328/\(a2.length:Int)<=4611686018427387904)<|
 (J (List.replicate a2.length 0)).bind λx1=>
 ((aS (σ:=(List Int)) (λmj dy=>
 (ix a2 mj).bind λfR=>
 (ix a3 fR).bind λil=>
 (ix a1.Hs mj).bind λj5=>
 (cQ a0 a0.G il).bind λeZ=>
 (en a0 [eZ,j5]).bind λgy=>
 (ix dy fR).bind λnY=>
 J (.go (dy.set fR.toNat gy))) (λdy=>dy) (a2.length) 0 x1:Option ((List Int))).bind λx6=>
 J x6)
def zj6{a0 a1 a2 a3 r}(hr:Jx a0 a1 a2 a3=J r):ap Tryz.prog 128 [(.sh,vE a0),(.sh,vJ a1),(.sh,vC a2),(.sh,vC a3)] (Eo (vD r) kP):=by
 apply pE [] hr zG9 Tryz.func128;intro Φ ak hF g;unfold Jx at hF;obtain⟨g,hF⟩:=Rg g hF;obtain⟨x1,e2,hF⟩:=mi hF;have g3:List.replicate a2.length ([.int .i64 0]:List PV)=x1.map aJ:=by injection e2 with e2;rw[<-e2];simp[go_sem]
 iterate 2 (try simp[go_sem,g,g3];try intros;refine bu ?_)
 try simp[go_sem,g,g3]
 try intros
 refine wK [3,4,5,9,15,16,17] ?_;refine wJ hF (λx6=>[(9,.v (vD x6))]) (λx6 hF=>?_) λ_ hj0 hF=>?_
 ·exact wl ak hF
 refine wR hF [3,4,5,15,16] (λmj dy=>[(9,.v (vD dy)),(17,.v (.int .i64 mj))]) λb bg mj dy _ _ aO aN bo ba hF=>?_
 refine wW ?_;refine wu aO aN ?_;refine wW ?_;refine wB ?_;obtain⟨fR,g,hF⟩:=Rx g hF;refine wW ?_;refine wZ (kE [0,1,2,3,4,5,6,7,8,9,11,12,13,14,15,10,16,17,18,19] [0,0,34,34,33,34,0,0,0,0,41,42,0,0,0,4,0,6,0,0]) follows ?_;have c0:= @gG;have c1:= @jS;exact wL
def Mi(a0:List an):Option (List an):=
 gd (a0.length*16<=140737488355328/\a0.length<=4611686018427387904)<|
 J a0
def zhC{a0:(List an)}{r:(List an)}(hr:Mi a0=J r):ap Tryz.prog 58 [(.sh,.sl aa 2 (a0.map jo))] (Eo (.sl Z 2 (r.map jo)) [.au]):=by
 apply Mq 8 [] [] [1000000] [.tmp 2] hr zJ0 Tryz.func58 rfl rfl rfl
 ·exact⟨by simp,rfl⟩
 intro Φ ak hF;unfold Mi at hF;obtain⟨g,hF⟩:=mR hF;have h1:=ak _ (eW hF);subst h1;try simp[go_sem]
 refine GG [(0,.v (.sl aa 2 (a0.map jo)))] (by simp[go_sem]) ?_;try simp[go_sem]
 refine X5 rfl rfl (by simp[go_sem]) rfl (by rfl) λb hb=>?_
 try simp[go_sem]
 refine bu ?_
 repeat rw[PM]
 cases b
 ·refine PT (by simp[go_sem]) ?_;try simp[go_sem]
  refine bu ?_;try simp[go_sem,g]
  refine bu ?_;try simp[go_sem,g]
 have yo:a0=[]:=by
  cases a0 with
  |nil=>rfl
  |cons x l=>exact absurd (hb (by simp)) (by simp)
 subst yo;refine Nj (by simp[go_sem]) ?_;try simp[go_sem]
 refine bu ?_;try simp[go_sem]
def qG(a0:Int)(a1:List an)(a2:List an)(a3:List Int):Option ((List Int)):=
 (Mi a1).bind λz1=>
 gd ((z1.length+a2.length)*16<=140737488355328/\z1.length+a2.length<=4611686018427387904)<|
 (J (z1++a2)).bind λx2=>
 ((aS (σ:=(List Int)) (λi8 s7=>
 (ix x2 i8).bind λeX=>
 gd ((s7.length+2)*8<=140737488355328/\s7.length+2<=4611686018427387904)<|
 J (.go (s7++[eX.A,eX.B]))) (λs7=>s7) (x2.length) 0 [a0]:Option ((List Int))).bind λx6=>
 gd ((x6.length+a3.length)*8<=140737488355328/\x6.length+a3.length<=4611686018427387904)<|
 J (x6++a3))
def Du{a0 a1 a2 a3 r}(hr:qG a0 a1 a2 a3=J r):ap Tryz.prog 129 [(.sh,.int .i64 a0),(.sh,vH a1),(.sh,vH a2),(.sh,vC a3)] (Eo (vD r) kP):=by
 apply pE [] hr zEZ Tryz.func129;intro Φ ak hF g;unfold qG at hF
 iterate 2 refine wW ?_
 refine wE hF zhC λz1 hF=>?_
 obtain⟨g,hF⟩:=Rg g hF;obtain⟨x2,e3,hF⟩:=mi hF;have g:=And.intro g (show List.map jo z1++List.map jo a2=x2.map jo by injection e3 with e3;rw[<-e3];simp[go_sem]);try simp[go_sem,g]
 try intros
 refine wK [3,9,17,18,19] ?_;refine wJ hF (λx6=>[(3,.v (vC a3)),(9,.v (vD x6))]) (λx6 hF=>?_) λ_ hj0 hF=>?_
 ·exact wL
 refine wR hF [3,17,18] (λi8 s7=>[(9,.v (vD s7)),(19,.v (.int .i64 i8))]) λb bg i8 s7 _ _ aO aN bo ba hF=>?_
 exact wL
def uh(a0:List Int):Option (List Int):=
 gd (a0.length*8<=140737488355328/\a0.length<=4611686018427387904)<|
 J a0
def LF{a0:(List Int)}{r:(List Int)}(hr:uh a0=J r):ap Tryz.prog 64 [(.sh,.sl aa 1 (a0.map aJ))] (Eo (.sl Z 1 (r.map aJ)) [.au]):=by
 apply Mq 8 [] [] [1000000] [.tmp 2] hr zMn Tryz.func64 rfl rfl rfl
 ·exact⟨by simp,rfl⟩
 intro Φ ak hF;unfold uh at hF;obtain⟨g,hF⟩:=mR hF;have h1:=ak _ (eW hF);subst h1;try simp[go_sem]
 refine GG [(0,.v (.sl aa 1 (a0.map aJ)))] (by simp[go_sem]) ?_;try simp[go_sem]
 refine X5 rfl rfl (by simp[go_sem]) rfl (by rfl) λb hb=>?_
 try simp[go_sem]
 refine bu ?_
 repeat rw[PM]
 cases b
 ·refine PT (by simp[go_sem]) ?_;try simp[go_sem]
  refine bu ?_;try simp[go_sem,g]
  refine bu ?_;try simp[go_sem,g]
 have yo:a0=[]:=by
  cases a0 with
  |nil=>rfl
  |cons x l=>exact absurd (hb (by simp)) (by simp)
 subst yo;refine Nj (by simp[go_sem]) ?_;try simp[go_sem]
 refine bu ?_;try simp[go_sem]
def mg(a0:am)(a1:ByteArray)(a2:List Int):Option (Int×Bool):=
 gd (([a0.P,a0.Q,a0.G].length+a2.length)*8<=140737488355328/\[a0.P,a0.Q,a0.G].length+a2.length<=4611686018427387904)<|
 (Ce a1 ([a0.P,a0.Q,a0.G]++a2)).bind λz1=>
 if(!z1.2)=Z then(
 J (0,aa))else(
 gd (a0.Q≠0)<|
 J (z1.1.tmod a0.Q,Z))
def xY{a0 a1 a2 r}(hr:mg a0 a1 a2=J r):ap Tryz.prog 137 [(.sh,vE a0),(.sh,.str a1),(.sh,vC a2)] (Eo (.bO [.int .i64 r.1,.bool r.2]) gw):=by
 apply pE [] hr zHs Tryz.func137;intro Φ ak hF g;unfold mg at hF;have c0:= @Yp;exact wL
def Ak(a0:am)(a1:ByteArray)(a2:List Int)(a3:Int):Option (List Int×Bool):=
 ((dI (σ:=(List Int)×Int) (λs4=>
 if decide (s4.2<(if a3<1 then 1 else a3))=Z then(
 (uh a2).bind λbX=>
 gd ((bX.length+1)*8<=140737488355328/\bX.length+1<=4611686018427387904)<|
 (mg a0 a1 (bX++[s4.2])).bind λb8=>
 if(!b8.2)=Z then(
 J (.out (.inr ([],aa))))else(
 gd ((s4.1.length+1)*8<=140737488355328/\s4.1.length+1<=4611686018427387904)<|
 J (.go (s4.1++[b8.1],i64.wrap (s4.2+1)))))else(
 J (.out (.inl s4.1)))) ([],0):Option ((List Int) ⊕ (List Int×Bool))).bind (Sum.elim (λx3=>
 gd (0<=a3)<|
 gd (0<=a3.toNat/\a3.toNat<=x3.length)<|
 J (x3.take a3.toNat,Z)) J))
def ZH{a0 a1 a2 a3 r}(hr:Ak a0 a1 a2 a3=J r):ap Tryz.prog 130 [(.sh,vE a0),(.sh,.str a1),(.sh,vC a2),(.sh,.int .i64 a3)] (Eo (.bO [vD r.1,.bool r.2]) kP):=by
 apply pE [] hr zGj Tryz.func130;intro Φ ak hF g;unfold Ak at hF
 iterate 3 refine wW ?_
 refine wS hF (λx3=>[(3,.v (.int .i64 a3)),(10,.v (vD x3))]) (λx3 hF=>?_) λ_ hj0 dE hF=>?_
 ·exact wL
 refine wB ?_;obtain⟨b13,RU,bg⟩:=hF;refine jJ RU [1,2,3,4,16] (λs4=>[(10,.v (vD s4.1)),(17,.v (.int .i64 s4.2))]) λs4 _ _ bo ba hF=>?_
 refine wW ?_;refine wI hF (λh9 hF=>?_) λh9 hF=>?_
 ·refine wW ?_;refine wB ?_;refine wK [1,2,3,4,10,11,16,17] ?_;refine wZ (kE [0,1,2,4,5,3,6,7,8,9,10,11,12] [34,0,0,0,0,3,5,3,0,0,0,0,0]) follows ?_;have c0:= @LF;have c1:= @xY;exact wL
 exact wL
def Ey(a0:List Int)(a1:List Int):Option ((List Int)):=
 ((aS (σ:=(List Int)) (λi5 s4=>
 (ix a1 i5).bind λaU=>
 (ix a0 aU).bind λcZ=>
 gd ((s4.length+1)*8<=140737488355328/\s4.length+1<=4611686018427387904)<|
 J (.go (s4++[cZ]))) (λs4=>s4) (a1.length) 0 []:Option ((List Int))).bind λx3=>
 J x3)
def zyz{a0 a1 r}(hr:Ey a0 a1=J r):ap Tryz.prog 65 [(.sh,vC a0),(.sh,vC a1)] (Eo (vD r) cJ):=by
 apply pE [] hr zKb Tryz.func65;intro Φ ak hF g;unfold Ey at hF
 iterate 3 (try simp[go_sem,g];try intros;refine bu ?_)
 refine wJ hF (λx3=>[(5,.v (vD x3))]) (λx3 hF=>?_) λ_ hj0 hF=>?_
 ·exact wl ak hF
 refine wR hF [0,9,10] (λi5 s4=>[(5,.v (vD s4)),(11,.v (.int .i64 i5))]) λb bg i5 s4 _ _ aO aN bo ba hF=>?_
 exact wL
def Hg(a0:am)(a1:Int)(a2:List Int)(a3:List Int):Option ((List Int)):=
 ((aS (σ:=Int×List Int) (λi5 s4=>
 (ix a2 i5).bind λaU=>
 (ix a3 i5).bind λcZ=>
 (cQ a0 a0.G cZ).bind λdm=>
 (cQ a0 s4.1 aU).bind λeS=>
 (en a0 [dm,eS]).bind λfH=>
 gd ((s4.2.length+1)*8<=140737488355328/\s4.2.length+1<=4611686018427387904)<|
 J (.go (fH,s4.2++[fH]))) (λs4=>s4.2) (a2.length) 0 (a1,[]):Option ((List Int))).bind λx3=>
 J x3)
def znG{a0 a1 a2 a3 r}(hr:Hg a0 a1 a2 a3=J r):ap Tryz.prog 131 [(.sh,vE a0),(.sh,.int .i64 a1),(.sh,vC a2),(.sh,vC a3)] (Eo (vD r) kP):=by
 apply pE [] hr zGR Tryz.func131;intro Φ ak hF g;unfold Hg at hF
 iterate 3 (try simp[go_sem,g];try intros;refine bu ?_)
 refine wJ hF (λx3=>[(9,.v (vD x3))]) (λx3 hF=>?_) λ_ hj0 hF=>?_
 ·exact wl ak hF
 refine wR hF [3,4,13,14] (λi5 s4=>[(1,.v (.int .i64 s4.1)),(9,.v (vD s4.2)),(15,.v (.int .i64 i5))]) λb bg i5 s4 _ _ aO aN bo ba hF=>?_
 refine wW ?_;refine wu aO aN ?_;refine wW ?_;refine wB ?_;obtain⟨aU,g,hF⟩:=Rx g hF;refine wK [1,3,4,9,10,11,13,14,15] ?_;refine wZ (kE [0,1,2,3,4,5,6,7,9,10,11,8,12,13,14,15] [34,34,33,34,0,0,0,0,34,0,0,3,3,0,6,0]) follows ?_;have c0:= @gG;have c1:= @jS;exact wL
def eQ(a0:am)(a1:Int):Option Int:=
 (At a1 a0.Q).bind λz1=>
 J z1
def mC{a0 a1 r}(hr:eQ a0 a1=J r):ap Tryz.prog 132 [(.sh,vE a0),(.sh,.int .i64 a1)] (Eo (.int .i64 r) cJ):=by
 apply pE [] hr zHk Tryz.func132;intro Φ ak hF g;unfold eQ at hF;have c0:= @QH;exact wL
def v4(a0:List an):Option (List Int×List Int):=
 ((aS (σ:=(List Int)×List Int) (λi5 s4=>
 (ix a0 i5).bind λaU=>
 gd ((s4.1.length+1)*8<=140737488355328/\s4.1.length+1<=4611686018427387904)<|
 gd ((s4.2.length+1)*8<=140737488355328/\s4.2.length+1<=4611686018427387904)<|
 J (.go (s4.1++[aU.A],s4.2++[aU.B]))) (λs4=>(s4.1,s4.2)) (a0.length) 0 ([],[]):Option ((List Int×List Int))).bind λx3=>
 J (x3.1,x3.2))
def DH{a0 r}(hr:v4 a0=J r):ap Tryz.prog 133 [(.sh,vH a0)] (Eo (.bO [vD r.1,vD r.2]) [.au]):=by
 apply pE [] hr zFd Tryz.func133;intro Φ ak hF g;unfold v4 at hF
 iterate 3 (try simp[go_sem,g];try intros;refine bu ?_)
 refine wJ hF (λx3=>[(4,.v (vD x3.1)),(5,.v (vD x3.2))]) (λx3 hF=>?_) λ_ hj0 hF=>?_
 ·exact wL
 refine wR hF [10,11] (λi5 s4=>[(4,.v (vD s4.1)),(5,.v (vD s4.2)),(12,.v (.int .i64 i5))]) λb bg i5 s4 _ _ aO aN bo ba hF=>?_
 refine wK [4,5,10,11,12,13] ?_;refine wu aO aN ?_;refine wW ?_;refine wB ?_;obtain⟨aU,g,hF⟩:=Rx g hF;refine wW ?_;refine wZ (kE [0,1,2,3,5,6,7,8,4,9,10,11] [0,57,58,0,0,57,58,0,5,5,0,0]) follows ?_;exact wL
def lF(a0:am)(a1:List Int)(a2:List Int):Option Int:=
 ((aS (σ:=Int) (λi5 s4=>
 (ix a1 i5).bind λaU=>
 (ix a2 i5).bind λcZ=>
 (cQ a0 aU cZ).bind λdm=>
 (en a0 [s4,dm]).bind λeS=>
 J (.go eS)) (λs4=>s4) (a1.length) 0 1:Option Int).bind λx3=>
 J x3)
def v5{a0 a1 a2 r}(hr:lF a0 a1 a2=J r):ap Tryz.prog 136 [(.sh,vE a0),(.sh,vC a1),(.sh,vC a2)] (Eo (.int .i64 r) gw):=by
 apply pE [] hr zGp Tryz.func136;intro Φ ak hF g;unfold lF at hF
 iterate 3 (try simp[go_sem,g];try intros;refine bu ?_)
 refine wJ hF (λx3=>[(7,.v (.int .i64 x3))]) (λx3 hF=>?_) λ_ hj0 hF=>?_
 ·exact wl ak hF
 refine wR hF [2,3,10,11] (λi5 s4=>[(7,.v (.int .i64 s4)),(12,.v (.int .i64 i5))]) λb bg i5 s4 _ _ aO aN bo ba hF=>?_
 refine wW ?_;refine wu aO aN ?_;refine wW ?_;refine wB ?_;obtain⟨aU,g,hF⟩:=Rx g hF;refine wK [2,3,7,8,9,10,11,12] ?_;refine wZ (kD 0 [26,0,26,0,0,0,0,0,3,0,6,0]) follows ?_;have c0:= @gG;have c1:= @jS;exact wL
def zFx:KI Tryz.prog 162 27:=by
 intro n H e b es cz z e1 e2 h0 h1 h2 h3 h4 h5;refine Tv zHh Tryz.func162 rfl rfl (by simp[Tryz.f162]) λhw=>?_
 have hn:¬n<0:=by omega
 have hw1:i64.wrap n=n:=Dj (by omega);have sV:i64.wrap 0=0:=Dj (by omega);have ei:(jW Tryz.prog 3).isSome=Z:=by kernel_rfl
 by_cases hp:0<n
 ·have hne:n≠0:=by omega
  have xh:=h5;simp[cr]at xh;simp[Tryz.f162,fe,mW,aM,fj,dw,gp,ck,bh,eG,bB,Dw,FR.put,FR.init,be,bM,cW,jV,cr,Am.iE,nz,oe,vd,wj,D9,pK,sy,xf,hn,e1,e2,ei,hw1,sV,hp,h1,h2,h3,h4,hne]
  first|exact xh|exact .inl xh
 have hz:n=0:=by omega
 subst hz;simp[Tryz.f162,fe,mW,aM,fj,dw,gp,ck,bh,eG,bB,Dw,FR.put,FR.init,be,bM,cW,jV,cr,Am.iE,nz,oe,vd,wj,D9,pK,sy,xf,hn,e1,e2,hw1,sV,hp]
def pS(a0:(List (List Int))):Option ((List Int)):=
 ((aS (σ:=Int) (λi5 s4=>
 (ix a0 i5).bind λaU=>
 if decide ((i64.wrap (s4+(aU.length:Int)))<0)=Z then(
 ae)else(
 J (.go (i64.wrap (s4+(aU.length:Int)))))) (λs4=>s4) (a0.length) 0 0:Option Int).bind λx3=>
 gd (0<=x3/\8*x3<=140737488355328/\x3<=4611686018427387904)<|
 ((aS (σ:=(List Int)) (λfP bV=>
 (ix a0 fP).bind λil=>
 gd ((bV.length+il.length)*8<=140737488355328/\bV.length+il.length<=4611686018427387904)<|
 J (.go (bV++il))) (λbV=>bV) (a0.length) 0 []:Option ((List Int))).bind λfE=>
 J fE))
def Dl{a0 r}(hr:pS a0=J r):ap Tryz.prog 94 [(.sh,vK a0)] (Eo (vD r) [.au]):=by
 apply pE [] hr zLb Tryz.func94;intro Φ ak hF g;unfold pS at hF
 iterate 3 (try simp[go_sem,g];try intros;refine bu ?_)
 refine wJ hF (λx3=>[(0,.v (vK a0)),(3,.v (.int .i64 x3))]) (λx3 hF=>?_) λ_ hj0 hF=>?_
 ·obtain⟨Je,hF⟩:=mR hF;try simp[go_sem,g]
  refine SV zFx zMQ (by simp[go_sem,g]) Je ?_;try simp[go_sem,g]
  try intros
  refine bu ?_;try simp[go_sem,g]
  try intros
  refine wK [6,25,26,27] ?_;refine wJ hF (λfE=>[(6,.v (vD fE))]) (λfE hF=>?_) λ_ hj0 hF=>?_
  ·exact wl ak hF
  refine wR hF [25,26] (λfP bV=>[(6,.v (vD bV)),(27,.v (.int .i64 fP))]) λb bg fP bV _ _ aO aN bo ba hF=>?_
  exact wL
 refine wR hF [0,9,10] (λi5 s4=>[(3,.v (.int .i64 s4)),(11,.v (.int .i64 i5))]) λb bg i5 s4 _ _ aO aN bo ba hF=>?_
 exact wL
def Dv(a0:List Int)(a1:Int):Option Int:=
 ((aS (σ:=Int) (λi5 s4=>
 (ix a0 i5).bind λaU=>
 gd (a1≠0)<|
 J (.go ((i64.wrap (s4+aU)).tmod a1))) (λs4=>s4) (a0.length) 0 0:Option Int).bind λx3=>
 J x3)
def zwj{a0 a1 r}(hr:Dv a0 a1=J r):ap Tryz.prog 138 [(.sh,vC a0),(.sh,.int .i64 a1)] (Eo (.int .i64 r) cJ):=by
 apply pE [] hr zGP Tryz.func138;intro Φ ak hF g;unfold Dv at hF
 iterate 3 (try simp[go_sem,g];try intros;refine bu ?_)
 refine wJ hF (λx3=>[(5,.v (.int .i64 x3))]) (λx3 hF=>?_) λ_ hj0 hF=>?_
 ·exact wl ak hF
 refine wR hF [1,8,9] (λi5 s4=>[(5,.v (.int .i64 s4)),(10,.v (.int .i64 i5))]) λb bg i5 s4 _ _ aO aN bo ba hF=>?_
 exact wL
def uA(a0:List Int)(a1:List Int)(a2:Int):Option Int:=
 ((aS (σ:=Int) (λi5 s4=>
 (ix a0 i5).bind λaU=>
 (ix a1 i5).bind λcZ=>
 gd (a2≠0)<|
 gd (a2≠0)<|
 J (.go ((i64.wrap (s4+((i64.wrap (aU*cZ)).tmod a2))).tmod a2))) (λs4=>s4) (a0.length) 0 0:Option Int).bind λx3=>
 J x3)
def QZ{a0 a1 a2 r}(hr:uA a0 a1 a2=J r):ap Tryz.prog 139 [(.sh,vC a0),(.sh,vC a1),(.sh,.int .i64 a2)] (Eo (.int .i64 r) gw):=by
 apply pE [] hr zFR Tryz.func139;intro Φ ak hF g;unfold uA at hF
 iterate 3 (try simp[go_sem,g];try intros;refine bu ?_)
 refine wJ hF (λx3=>[(7,.v (.int .i64 x3))]) (λx3 hF=>?_) λ_ hj0 hF=>?_
 ·exact wl ak hF
 refine wR hF [0,1,2,10] (λi5 s4=>[(7,.v (.int .i64 s4)),(11,.v (.int .i64 i5))]) λb bg i5 s4 _ _ aO aN bo ba hF=>?_
 refine wW ?_;refine wu aO aN ?_;refine wW ?_;refine wB ?_;refine wW ?_;refine wZ (kD 0 [0,0,0,0,0,0,0,0,0,0,0,0,0,0,0,0]) follows ?_;exact wL
def DY(a0:am)(a1:ct)(a2:Int)(a3:List an)(a4:List Int)(a5:List Int)(a6:List Int):Option (cH×Bool):=
 (iT a6 (a3.length:Int)).bind λz1=>
 (iT z1.2 (a3.length:Int)).bind λz2=>
 (sw z2.2).bind λz3=>
 (sw z3.2).bind λz4=>
 (sw z4.2).bind λz5=>
 (sw z5.2).bind λz6=>
 (iT z6.2 (a3.length:Int)).bind λz7=>
 (iT z7.2 (a3.length:Int)).bind λz8=>
 (Bd a0 a2 a3 a4 a5).bind λz9=>
 (Jx a0 a1 a4 z1.1).bind λbX=>
 (qG a2 a3 z9 bX).bind λb8=>
 (Ak a0 (⟨#[109,105,120,32,99,111,108,117,109,110,115]⟩:ByteArray) b8 (a3.length:Int)).bind λbH=>
 if(!bH.2)=Z then(
 J ((cH.mk [] [] (bZ.mk [] [] [])),aa))else(
 (Ey bH.1 a4).bind λeS=>
 (Hg a0 a1.H eS z2.1).bind λfH=>
 ((aS (σ:=Int) (λqO eD=>
 (ix z2.1 qO).bind λFu=>
 (ix eS qO).bind λfR=>
 (eQ a0 (i64.wrap (Fu+(i64.wrap (fR*eD))))).bind λfO=>
 J (.go fO)) (λeD=>eD) (a3.length) 0 0:Option Int).bind λl4=>
 (v4 z9).bind λiG=>
 (cQ a0 a0.G z3.1).bind λnx=>
 (cQ a0 a0.G z4.1).bind λgX=>
 (lF a0 a1.Hs z8.1).bind λuQ=>
 (en a0 [gX,uQ]).bind λyD=>
 (cQ a0 a0.G z5.1).bind λuU=>
 (cQ a0 a0.G (i64.wrap (0-z6.1))).bind λYq=>
 (lF a0 iG.1 z8.1).bind λuu=>
 (en a0 [Yq,uu]).bind λL3=>
 (cQ a0 a2 (i64.wrap (0-z6.1))).bind λNd=>
 (lF a0 iG.2 z8.1).bind λBs=>
 (en a0 [Nd,Bs]).bind λBh=>
 gd (([a1.H].length+fH.length)*8<=140737488355328/\[a1.H].length+fH.length<=4611686018427387904)<|
 (J ([a1.H]++fH)).bind λCp=>
 ((aS (σ:=(List Int)×List Int×List Int×List Int×List Int) (λi64 kO=>
 (ix z7.1 i64).bind λQJ=>
 (ix Cp i64).bind λO8=>
 (ix z8.1 i64).bind λnL=>
 (cQ a0 a0.G QJ).bind λrj=>
 (cQ a0 O8 nL).bind λyv=>
 (en a0 [rj,yv]).bind λGj=>
 gd ((kO.2.2.1.length+1)*8<=140737488355328/\kO.2.2.1.length+1<=4611686018427387904)<|
 J (.go (kO.1,kO.2.1,kO.2.2.1++[Gj],kO.2.2.2.1,kO.2.2.2.2))) (λkO=>(kO.1,kO.2.1,kO.2.2.1,kO.2.2.2.1,kO.2.2.2.2)) (a3.length) 0 (bX,fH,[nx,yD,uU,L3,Bh],[],[]):Option ((List Int×List Int×List Int×List Int×List Int))).bind λrT=>
 (pS [b8,rT.2.1,rT.2.2.1]).bind λt7=>
 (mg a0 (⟨#[109,105,120,32,112,114,111,111,102]⟩:ByteArray) t7).bind λmX=>
 if(!mX.2)=Z then(
 J ((cH.mk [] [] (bZ.mk [] [] [])),aa))else(
 (Dv z1.1 a0.Q).bind λHX=>
 (eQ a0 (i64.wrap (z3.1+(i64.wrap (mX.1*HX))))).bind λz84=>
 (uA z1.1 bH.1 a0.Q).bind λz85=>
 (eQ a0 (i64.wrap (z4.1+(i64.wrap (mX.1*z85))))).bind λUK=>
 (eQ a0 (i64.wrap (z5.1+(i64.wrap (mX.1*l4))))).bind λyf=>
 (uA a5 eS a0.Q).bind λoR=>
 (eQ a0 (i64.wrap (z6.1+(i64.wrap (mX.1*oR))))).bind λBb=>
 ((aS (σ:=(List Int)×List Int×List Int×List Int×List Int) (λJU kt=>
 (ix z7.1 JU).bind λF6=>
 (ix z2.1 JU).bind λFi=>
 (eQ a0 (i64.wrap (F6+(i64.wrap (mX.1*Fi))))).bind λMJ=>
 gd ((kt.2.2.2.2.length+1)*8<=140737488355328/\kt.2.2.2.2.length+1<=4611686018427387904)<|
 J (.go (kt.1,kt.2.1,kt.2.2.1,kt.2.2.2.1,kt.2.2.2.2++[MJ]))) (λkt=>(kt.1,kt.2.1,kt.2.2.1,kt.2.2.2.1,kt.2.2.2.2)) (a3.length) 0 (rT.1,rT.2.1,rT.2.2.1,[mX.1],[z84,UK,yf,Bb]):Option ((List Int×List Int×List Int×List Int×List Int))).bind λiV=>
 ((aS (σ:=(List Int)×List Int×List Int×List Int×List Int) (λHv kJ=>
 (ix z8.1 Hv).bind λij=>
 (ix eS Hv).bind λAa7=>
 (eQ a0 (i64.wrap (ij+(i64.wrap (mX.1*Aa7))))).bind λHz=>
 gd ((kJ.2.2.2.2.length+1)*8<=140737488355328/\kJ.2.2.2.2.length+1<=4611686018427387904)<|
 J (.go (kJ.1,kJ.2.1,kJ.2.2.1,kJ.2.2.2.1,kJ.2.2.2.2++[Hz]))) (λkJ=>(kJ.1,kJ.2.1,kJ.2.2.1,kJ.2.2.2.1,kJ.2.2.2.2)) (a3.length) 0 (iV.1,iV.2.1,iV.2.2.1,iV.2.2.2.1,iV.2.2.2.2):Option ((List Int×List Int×List Int×List Int×List Int))).bind λlz=>
 J ((cH.mk lz.1 lz.2.1 (bZ.mk lz.2.2.1 lz.2.2.2.1 lz.2.2.2.2)),Z)))))))
set_option maxHeartbeats 16000000 in
def zkL{a0 a1 a2 a3 a4 a5 a6 r}(hr:DY a0 a1 a2 a3 a4 a5 a6=J r):ap Tryz.prog 80 [(.sh,vE a0),(.sh,vJ a1),(.sh,.int .i64 a2),(.sh,vH a3),(.sh,vC a4),(.sh,vC a5),(.sh,vC a6)] (Eo (.bO [vL r.1,.bool r.2]) N5):=by
 apply F8 330 [] [219,221,224] [45] [.cell 14 33,.tmp 15] hr zLh Tryz.func80;intro Φ ak hF g;unfold DY at hF;try simp[go_sem,g]
 try intros
 refine bu ?_;try simp[go_sem,g]
 try intros
 refine wK [2,3,4,5,7,8,14,16,17] ?_;refine wC hF [.io,.sh] mf λz1 hF=>?_
 refine wC hF [.io,.sh] mf λz2 hF=>?_
 refine wW ?_;refine wC hF [.io] zV λz3 hF=>?_
 refine wC hF [.io] zV λz4 hF=>?_
 refine wC hF [.io] zV λz5 hF=>?_
 refine wC hF [.io] zV λz6 hF=>?_
 refine wK [2,3,4,5,7,8,14,16,17,18,19,20,21,22,23] ?_;refine wC hF [.io,.sh] mf λz7 hF=>?_
 refine wC hF [.io,.sh] mf λz8 hF=>?_
 refine wW ?_;refine wE hF P6 λz9 hF=>?_
 refine wK [2,3,4,5,7,8,14,16,18,19,20,21,22,23,24,25,26] ?_;refine wE hF zj6 λbX hF=>?_
 refine wW ?_;refine wE hF Du λb8 hF=>?_
 refine wK [2,4,5,7,8,14,16,18,19,20,21,22,23,24,25,26,27,28] ?_;refine wE hF ZH λbH hF=>?_
 refine wW ?_;refine wK [2,4,5,7,8,14,16,18,19,20,21,22,23,24,25,26,27,28,29,92] ?_;refine wI hF (λJL hF=>?_) λJL hF=>?_
 ·exact wl ak hF
 refine wW ?_;refine wE hF zyz λeS hF=>?_
 refine wW ?_;refine wE hF znG λfH hF=>?_
 refine wK [2,5,7,8,14,16,18,19,20,21,22,23,24,25,26,27,28,29,31] ?_
 iterate 2 refine wW ?_
 refine bT hF [2,5,7,8,14,16,18,19,20,21,22,23,24,25,26,27,28,29,31] (λl4=>[(32,.v (.int .i64 l4))]) (λl4 hF=>?_) λ_ hj0 hF=>?_
 ·refine wE hF DH λiG hF=>?_
  refine wK [2,5,7,8,14,16,18,19,20,21,22,23,24,25,27,28,29,31,32,34,35] ?_;refine wZ [k2 0 7,k1 1 7,k2 2 7,k0 3,k2 5 7,k2 6 7,k1 7 7,k2 8 7,k0 9,k2 11 7,k1 12 8,k2 13 8,k0 14,k2 18 7,k1 19 7,k2 20 7,k0 21,k2 23 7,k2 24 7,k1 25 7,k2 26 7,k0 27,k0 28,k2 30 7,k0 31,k0 32,k2 36 7,k2 37 7,k0 38,k0 39,k0 40,k2 42 7,k0 43,k0 44,k3 4,k3 10,k3 15,k0 16,λ_=>⟨17,[132,143],[],ae,Z,Z,Z⟩,k3 22,k3 29,k3 33,k0 34,λ_=>⟨35,[150,161],[],ae,Z,Z,Z⟩,k3 41,k3 45,k0 46,λ_=>⟨47,[163,173],[],ae,Z,Z,Z⟩,k0 48,k1 49 27,k1 50 27,λ_=>⟨51,[177,175],[27],J 177,Z,Z,Z⟩] follows ?_;refine wE hF gG λnx hF=>?_
  refine wE hF gG λgX hF=>?_
  refine wE hF v5 λuQ hF=>?_
  refine wE hF jS λyD hF=>?_
  refine wE hF gG λuU hF=>?_
  refine wE hF gG λYq hF=>?_
  refine wE hF v5 λuu hF=>?_
  refine wE hF jS λL3 hF=>?_
  refine wE hF gG λNd hF=>?_
  refine wE hF v5 λBs hF=>?_
  refine wE hF jS λBh hF=>?_
  refine wK [5,7,8,14,16,18,19,20,21,22,23,24,25,27,28,29,31,32] ?_;obtain⟨g,hF⟩:=Rg g hF;obtain⟨Cp,Q3,hF⟩:=mi hF;have g:=And.intro g (show[.int .i64 a1.H]::(List.map aJ fH)=Cp.map aJ by injection Q3 with Q3;rw[<-Q3];simp[go_sem])
  iterate 2 refine wW ?_
  refine bT hF [5,7,14,16,18,19,20,21,22,23,24,25,28,29,31,32] (λrT=>[(27,.bl [vD rT.1,vD rT.2.1,vD rT.2.2.1,vD rT.2.2.2.1,vD rT.2.2.2.2])]) (λrT hF=>?_) λ_ hj0 hF=>?_
  ·refine wZ (kD 0 [58,0,217,218,217,217,218,0,6,3,0,0,0,0,0]) follows ?_;refine wE hF Dl λt7 hF=>?_
   refine wE hF xY λmX hF=>?_
   refine wK [5,7,14,16,18,19,20,21,22,23,24,25,27,29,30,31,32,38] ?_;refine wW ?_;refine wI hF (λh82 hF=>?_) λh82 hF=>?_
   ·exact wl ak hF
   iterate 2 refine wW ?_
   refine wZ [k2 0 7,k0 1,k0 2,k0 3,k1 4 7,k2 5 7,k2 10 7,k0 11,k0 12,k0 13,k0 14,k1 15 7,k2 16 7,k2 21 7,k0 22,k0 23,k0 24,k0 25,k0 26,k2 28 7,k0 29,k0 30,k0 31,k0 32,k1 33 7,k2 34 7,k3 6,k0 7,k0 8,k3 9,k3 17,k0 18,k0 19,k3 20,k3 27,k3 35,k0 36,k0 37,k3 38,k0 39,k1 40 27,k1 41 27,λ_=>⟨42,[278,276],[27],J 278,Z,Z,Z⟩] follows ?_;refine wE hF zwj λHX hF=>?_
   refine wE hF mC λz84 hF=>?_
   refine wE hF QZ λz85 hF=>?_
   refine wE hF mC λUK hF=>?_
   refine wE hF mC λyf hF=>?_
   refine wE hF QZ λoR hF=>?_
   refine wE hF mC λBb hF=>?_
   refine wK [7,14,16,19,24,25,27,31,38] ?_;refine wW ?_;refine bT hF [7,14,16,25,31,38] (λiV=>[(27,.bl [vD iV.1,vC iV.2.1,vC iV.2.2.1,vD iV.2.2.2.1,vD iV.2.2.2.2])]) (λiV hF=>?_) λ_ hj0 hF=>?_
   ·refine wW ?_;refine wJ hF (λlz=>[(14,.bl [.sl Z 1 [],.sl Z 1 [],.sl Z 1 [],.sl Z 1 [],.sl Z 1 []]),(27,.bl [vD lz.1,vC lz.2.1,vC lz.2.2.1,vD lz.2.2.2.1,vD lz.2.2.2.2])]) (λlz hF=>?_) λ_ hj0 hF=>?_
    ·exact wl ak hF
    refine wR hF [7,14,25,31,38,304] (λHv kJ=>[(27,.bl [vD kJ.1,vC kJ.2.1,vC kJ.2.2.1,vD kJ.2.2.2.1,vD kJ.2.2.2.2]),(305,.v (.int .i64 Hv))]) λb bg Hv kJ _ _ aO aN bo ba hF=>?_
    refine wW ?_;refine wu aO aN ?_;refine wW ?_;refine wB ?_;refine wW ?_;refine wZ (kD 0 [217,217,218,58,0,0,0,0,0,0,0,0,0,0,0,3,0,5,217,217,218]) follows ?_;have c0:= @mC;exact wL
   refine wR hF [7,14,16,19,24,25,31,38,279] (λJU kt=>[(27,.bl [vD kt.1,vC kt.2.1,vC kt.2.2.1,vD kt.2.2.2.1,vD kt.2.2.2.2]),(280,.v (.int .i64 JU))]) λb bg JU kt _ _ aO aN bo ba hF=>?_
   refine wW ?_;refine wu aO aN ?_;refine wW ?_;refine wB ?_;refine wW ?_;refine wZ (kD 0 [217,217,218,58,0,0,0,0,0,0,0,0,0,0,0,3,0,5,217,217,218]) follows ?_;have c0:= @mC;exact wL
  refine wR hF [5,7,14,16,18,19,20,21,22,23,24,25,28,29,31,32,36,184] (λi64 kO=>[(27,.bl [vD kO.1,vD kO.2.1,vD kO.2.2.1,vD kO.2.2.2.1,vD kO.2.2.2.2]),(185,.v (.int .i64 i64))]) λb bg i64 kO _ _ aO aN bo ba hF=>?_
  refine wK [5,7,14,16,18,19,20,21,22,23,24,25,27,28,29,31,32,36,184,185,186] ?_;refine wu aO aN ?_;refine wW ?_;refine wB ?_;refine wW ?_;refine wZ (kE [0,1,2,3,4,5,6,7,8,9,10,12,13,14,15,16,17,18,19,20,11,21,22,23,24,25,26,27,28] [217,217,218,58,58,57,58,0,0,0,0,58,0,0,0,0,0,0,0,0,4,3,0,6,0,5,217,217,218]) follows ?_;have c0:= @gG;have c1:= @jS;exact wL
 refine wR hF [2,5,7,8,14,16,18,19,20,21,22,23,24,25,26,27,28,29,31,104] (λqO eD=>[(32,.v (.int .i64 eD)),(105,.v (.int .i64 qO))]) λb bg qO eD _ _ aO aN bo ba hF=>?_
 refine wW ?_;refine wu aO aN ?_;refine wW ?_;refine wB ?_;refine wW ?_;refine wZ (kD 0 [58,0,0,0,0,0,0,0,0,0,0,0,3,0]) follows ?_;have c0:= @mC;exact wL
def pN(a0:am)(a1:Int)(a2:List an)(a3:List Int)(a4:List Int)(a5:List Int):Option (cH×Bool):=
 (tE a0 a1 a2).bind λz1=>
 ((if(!z1.2)=Z then(
 J Z)else(
 (CJ a0 a3 a4 (a2.length:Int)).bind λz6=>
 if(!z6)=Z then(
 J Z)else(
 if((a5.length:Int) !=(i64.wrap ((i64.wrap (4*(a2.length:Int)))+4)))=Z then(
 J Z)else(
 (vz a0 a5).bind λz9=>
 J (!z9)))):Option Bool).bind λx4=>
 if x4=Z then(
 J ((cH.mk [] [] (bZ.mk [] [] [])),aa))else(
 (DY a0 z1.1 a1 a2 a3 a4 a5).bind λb8=>
 J (b8.1,b8.2)))
def znq{a0 a1 a2 a3 a4 a5 r}(hr:pN a0 a1 a2 a3 a4 a5=J r):ap Tryz.prog 33 [(.sh,vE a0),(.sh,.int .i64 a1),(.sh,vH a2),(.sh,vC a3),(.sh,vC a4),(.sh,vC a5)] (Eo (.bO [vL r.1,.bool r.2]) rQ):=by
 apply F8 60 [] [51] [] [.cell 12 33,.tmp 13] hr zN4 Tryz.func33;intro Φ ak hF g;unfold pN at hF;refine wW ?_;refine wE hF NM λz1 hF=>?_
 refine wK [1,2,3,4,5,6,12,14,15] ?_;refine bT hF [1,2,3,4,5,6,12,14] (λx4=>[(48,.v (.bool x4))]) (λx4 hF=>?_) λ_ hj0 hF=>?_
 ·have c0:= @zkL;exact wL
 have c0:= @Ta;have c1:= @G3;exact wL
def xQ(a0:am)(a1:Int)(a2:List an):Option (ct×Bool):=
 (tE a0 a1 a2).bind λz1=>
 if(!z1.2)=Z then(
 J ((ct.mk 0 []),aa))else(
 (kT a0 0).bind λz3=>
 J (z3.1,z3.2))
def Ty{a0 a1 a2 r}(hr:xQ a0 a1 a2=J r):ap Tryz.prog 40 [(.sh,vE a0),(.sh,.int .i64 a1),(.sh,vH a2)] (Eo (.bO [vI r.1,.bool r.2]) gw):=by
 apply pE [] hr zK1 Tryz.func40;intro Φ ak hF g;unfold xQ at hF;have c0:= @NM;have c1:= @ZK;exact wL
def ou(a0:am)(a1:ct)(a2:Int)(a3:Int):Option Int:=
 (cQ a0 a0.G a2).bind λz1=>
 (cQ a0 a1.H a3).bind λz2=>
 (en a0 [z1,z2]).bind λz3=>
 J z3
def Ch{a0 a1 a2 a3 r}(hr:ou a0 a1 a2 a3=J r):ap Tryz.prog 141 [(.sh,vE a0),(.sh,vJ a1),(.sh,.int .i64 a2),(.sh,.int .i64 a3)] (Eo (.int .i64 r) kP):=by
 apply pE [] hr zFb Tryz.func141;intro Φ ak hF g;unfold ou at hF;refine wW ?_;refine wZ (kE [0,1,2,3,4,6,7,8,9,5,10,11,12,13] [34,34,33,34,0,34,41,42,0,3,3,0,6,0]) follows ?_;have c0:= @gG;have c1:= @jS;exact wL
def Hl(a0:am)(a1:ct)(a2:List Int)(a3:List Int):Option ((List Int)):=
 ((aS (σ:=(List Int)) (λi5 s4=>
 (ix a2 i5).bind λaU=>
 (ix a3 i5).bind λcZ=>
 (ou a0 a1 (i64.wrap (aU+1)) cZ).bind λdm=>
 gd ((s4.length+1)*8<=140737488355328/\s4.length+1<=4611686018427387904)<|
 J (.go (s4++[dm]))) (λs4=>s4) (a2.length) 0 []:Option ((List Int))).bind λx3=>
 J x3)
def zkz{a0 a1 a2 a3 r}(hr:Hl a0 a1 a2 a3=J r):ap Tryz.prog 140 [(.sh,vE a0),(.sh,vJ a1),(.sh,vC a2),(.sh,vC a3)] (Eo (vD r) kP):=by
 apply pE [] hr zE4 Tryz.func140;intro Φ ak hF g;unfold Hl at hF
 iterate 3 (try simp[go_sem,g];try intros;refine bu ?_)
 refine wJ hF (λx3=>[(9,.v (vD x3))]) (λx3 hF=>?_) λ_ hj0 hF=>?_
 ·refine wK [8] ?_;exact wm ak hF
 refine wR hF [3,4,5,13,14] (λi5 s4=>[(9,.v (vD s4)),(15,.v (.int .i64 i5))]) λb bg i5 s4 _ _ aO aN bo ba hF=>?_
 refine wW ?_;refine wu aO aN ?_;refine wW ?_;refine wB ?_;obtain⟨aU,g,hF⟩:=Rx g hF;refine wK [3,4,5,9,10,11,13,14,15] ?_;refine wZ (kD 0 [0,34,42,0,0,0,0,0,0,3,0,5,0]) follows ?_;have c0:= @Ch;exact wL
def Bf(a0:am)(a1:List Int):Option (Int×Int×Bool):=
 (mg a0 (⟨#[109,105,120,32,121]⟩:ByteArray) a1).bind λz1=>
 (mg a0 (⟨#[109,105,120,32,122]⟩:ByteArray) a1).bind λz2=>
 ((if(!z1.2)=Z then(
 J Z)else(
 J (!z2.2)):Option Bool).bind λx5=>
 if x5=Z then(
 J (0,0,aa))else(
 J (z1.1,z2.1,Z)))
def ZF{a0 a1 r}(hr:Bf a0 a1=J r):ap Tryz.prog 142 [(.sh,vE a0),(.sh,vC a1)] (Eo (.bO [.int .i64 r.1,.int .i64 r.2.1,.bool r.2.2]) cJ):=by
 apply pE [] hr zGE Tryz.func142;intro Φ ak hF g;unfold Bf at hF;refine wW ?_;refine wE hF xY λz1 hF=>?_
 refine wK [1,2,7,8] ?_;refine wE hF xY λz2 hF=>?_
 refine wW ?_;refine bT hF [7,9] (λx5=>[(28,.v (.bool x5))]) (λx5 hF=>?_) λ_ hj0 hF=>?_
 ·exact wL
 exact wL
def Fw(a0:am)(a1:ct)(a2:Int)(a3:List an)(a4:List Int)(a5:List Int)(a6:List Int):Option (cn×Bool):=
 (iT a6 (a3.length:Int)).bind λz1=>
 (iT z1.2 (a3.length:Int)).bind λz2=>
 (iT z2.2 (a3.length:Int)).bind λz3=>
 (iT z3.2 (a3.length:Int)).bind λz4=>
 (iT z4.2 (a3.length:Int)).bind λz5=>
 (iT z5.2 (a3.length:Int)).bind λz6=>
 (sw z6.2).bind λz7=>
 (iT z7.2 (a3.length:Int)).bind λz8=>
 (iT z8.2 (a3.length:Int)).bind λz9=>
 (sw z9.2).bind λbX=>
 (Bd a0 a2 a3 a4 a5).bind λb8=>
 (Hl a0 a1 a4 z1.1).bind λbH=>
 (qG a2 a3 b8 bH).bind λdm=>
 (mg a0 (⟨#[109,105,120,32,120]⟩:ByteArray) dm).bind λeS=>
 ((aS (σ:=(List Int)×List Int×List Int×List Int×List Int×List Int×List Int) (λvg dt=>
 (ix a4 vg).bind λuv=>
 (nC eS.1 (i64.wrap (uv+1)) a0.Q).bind λuu=>
 gd ((dt.2.2.2.2.2.2.length+1)*8<=140737488355328/\dt.2.2.2.2.2.2.length+1<=4611686018427387904)<|
 (J (dt.2.2.2.2.2.2++[uu])).bind λux=>
 (ix ux vg).bind λu7=>
 (ix z2.1 vg).bind λB5=>
 (ou a0 a1 u7 B5).bind λAf=>
 gd ((dt.2.1.length+1)*8<=140737488355328/\dt.2.1.length+1<=4611686018427387904)<|
 J (.go (dt.1,dt.2.1++[Af],dt.2.2.1,dt.2.2.2.1,dt.2.2.2.2.1,dt.2.2.2.2.2.1,ux))) (λdt=>(dt.1,dt.2.1,dt.2.2.1,dt.2.2.2.1,dt.2.2.2.2.1,dt.2.2.2.2.2.1,dt.2.2.2.2.2.2)) (a4.length) 0 (bH,[],[],[],[],[],[]):Option ((List Int×List Int×List Int×List Int×List Int×List Int×List Int))).bind λbG=>
 (uh bG.1).bind λxy=>
 gd ((xy.length+bG.2.1.length)*8<=140737488355328/\xy.length+bG.2.1.length<=4611686018427387904)<|
 (qG a2 a3 b8 (xy++bG.2.1)).bind λAj=>
 (Bf a0 Aj).bind λqL=>
 ((aS (σ:=(List Int)×List Int×List Int×List Int×List Int×List Int×List Int×Int×List Int) (λnF cG=>
 (ix a4 nF).bind λpz=>
 (ix bG.2.2.2.2.2.2 nF).bind λKW=>
 (eQ a0 (i64.wrap ((i64.wrap ((i64.wrap (qL.1*(i64.wrap (pz+1))))+KW))-qL.2.1))).bind λoR=>
 gd ((cG.2.2.2.2.2.2.1.length+1)*8<=140737488355328/\cG.2.2.2.2.2.2.1.length+1<=4611686018427387904)<|
 (J (cG.2.2.2.2.2.2.1++[oR])).bind λxJ=>
 (ix xJ nF).bind λmh=>
 (eQ a0 (i64.wrap (cG.2.2.2.2.2.2.2.1*mh))).bind λF5=>
 (ix z3.1 nF).bind λjt=>
 (ou a0 a1 F5 jt).bind λoW=>
 gd ((cG.2.2.1.length+1)*8<=140737488355328/\cG.2.2.1.length+1<=4611686018427387904)<|
 ((if decide (0<nF)=Z then(
 (ix z3.1 (i64.wrap (nF-1))).bind λRT=>
 (eQ a0 (i64.wrap (RT*mh))).bind λIY=>
 (eQ a0 (i64.wrap (jt-IY))).bind λGU=>
 J GU)else(
 J jt):Option Int).bind λxg=>
 gd ((cG.2.2.2.2.2.2.2.2.length+1)*8<=140737488355328/\cG.2.2.2.2.2.2.2.2.length+1<=4611686018427387904)<|
 J (.go (cG.1,cG.2.1,cG.2.2.1++[oW],cG.2.2.2.1,cG.2.2.2.2.1,cG.2.2.2.2.2.1,xJ,F5,cG.2.2.2.2.2.2.2.2++[xg])))) (λcG=>(cG.1,cG.2.1,cG.2.2.1,cG.2.2.2.1,cG.2.2.2.2.1,cG.2.2.2.2.2.1,cG.2.2.2.2.2.2.1,cG.2.2.2.2.2.2.2.2)) (a4.length) 0 (bG.1,bG.2.1,bG.2.2.1,bG.2.2.2.1,bG.2.2.2.2.1,bG.2.2.2.2.2.1,[],1,[]):Option ((List Int×List Int×List Int×List Int×List Int×List Int×List Int×List Int))).bind λiH=>
 gd (([a0.G].length+iH.2.2.1.length)*8<=140737488355328/\[a0.G].length+iH.2.2.1.length<=4611686018427387904)<|
 (J ([a0.G]++iH.2.2.1)).bind λPo=>
 ((aS (σ:=(List Int)) (λy6 pH=>
 (ix z4.1 y6).bind λS5=>
 (ix z5.1 y6).bind λlz=>
 (ou a0 a1 S5 lz).bind λFd=>
 gd ((pH.length+1)*8<=140737488355328/\pH.length+1<=4611686018427387904)<|
 J (.go (pH++[Fd]))) (λpH=>pH) (a3.length) 0 []:Option ((List Int))).bind λF6=>
 ((aS (σ:=(List Int)) (λug pQ=>
 (ix Po ug).bind λPb=>
 (ix z4.1 ug).bind λP7=>
 (ix z6.1 ug).bind λij=>
 (cQ a0 Pb P7).bind λPj=>
 (cQ a0 a1.H ij).bind λHz=>
 (en a0 [Pj,Hz]).bind λO9=>
 gd ((pQ.length+1)*8<=140737488355328/\pQ.length+1<=4611686018427387904)<|
 J (.go (pQ++[O9]))) (λpQ=>pQ) (a3.length) 0 F6:Option ((List Int))).bind λGf=>
 (cQ a0 a1.H z7.1).bind λUX=>
 gd ((Gf.length+1)*8<=140737488355328/\Gf.length+1<=4611686018427387904)<|
 ((aS (σ:=(List Int)) (λsP eN=>
 (ix z8.1 sP).bind λAbX=>
 (ix z9.1 sP).bind λND=>
 (ou a0 a1 AbX ND).bind λAbB=>
 gd ((eN.length+1)*8<=140737488355328/\eN.length+1<=4611686018427387904)<|
 J (.go (eN++[AbB]))) (λeN=>eN) (a3.length) 0 (Gf++[UX]):Option ((List Int))).bind λB4=>
 (v4 b8).bind λTm=>
 (cQ a0 a0.G (i64.wrap (0-bX.1))).bind λHZ=>
 (lF a0 Tm.1 z8.1).bind λJy=>
 (en a0 [HZ,Jy]).bind λA6=>
 (cQ a0 a2 (i64.wrap (0-bX.1))).bind λJJ=>
 (lF a0 Tm.2 z8.1).bind λHM=>
 (en a0 [JJ,HM]).bind λBj=>
 gd ((B4.length+2)*8<=140737488355328/\B4.length+2<=4611686018427387904)<|
 (pS [Aj,iH.2.2.1,B4++[A6,Bj]]).bind λmV=>
 (mg a0 (⟨#[109,105,120,32,101,110,100]⟩:ByteArray) mV).bind λvf=>
 ((if(!eS.2)=Z then(
 J Z)else(
 if(!qL.2.2)=Z then(
 J Z)else(
 J (!vf.2))):Option Bool).bind λNI=>
 if NI=Z then(
 J ((cn.mk [] [] [] (bZ.mk [] [] [])),aa))else(
 ((aS (σ:=(List Int)×List Int×List Int×List Int×List Int) (λiU dk=>
 (ix z4.1 iU).bind λM3=>
 (ix iH.2.2.2.2.2.2.1 iU).bind λMs=>
 (eQ a0 (i64.wrap (M3+(i64.wrap (vf.1*Ms))))).bind λMF=>
 gd ((dk.1.length+1)*8<=140737488355328/\dk.1.length+1<=4611686018427387904)<|
 (ix z5.1 iU).bind λK7=>
 (ix z1.1 iU).bind λL5=>
 (ix z2.1 iU).bind λFZ=>
 (eQ a0 (i64.wrap ((i64.wrap (qL.1*L5))+FZ))).bind λNG=>
 (eQ a0 (i64.wrap (K7+(i64.wrap (vf.1*NG))))).bind λK8=>
 gd ((dk.2.1.length+1)*8<=140737488355328/\dk.2.1.length+1<=4611686018427387904)<|
 (ix z6.1 iU).bind λLh=>
 (ix iH.2.2.2.2.2.2.2 iU).bind λN2=>
 (eQ a0 (i64.wrap (Lh+(i64.wrap (vf.1*N2))))).bind λNR=>
 gd ((dk.2.2.1.length+1)*8<=140737488355328/\dk.2.2.1.length+1<=4611686018427387904)<|
 (ix z8.1 iU).bind λKZ=>
 (ix bG.2.2.2.2.2.2 iU).bind λCx=>
 (eQ a0 (i64.wrap (KZ+(i64.wrap (vf.1*Cx))))).bind λNi=>
 gd ((dk.2.2.2.1.length+1)*8<=140737488355328/\dk.2.2.2.1.length+1<=4611686018427387904)<|
 (ix z9.1 iU).bind λSD=>
 (eQ a0 (i64.wrap (SD+(i64.wrap (vf.1*FZ))))).bind λRu=>
 gd ((dk.2.2.2.2.length+1)*8<=140737488355328/\dk.2.2.2.2.length+1<=4611686018427387904)<|
 J (.go (dk.1++[MF],dk.2.1++[K8],dk.2.2.1++[NR],dk.2.2.2.1++[Ni],dk.2.2.2.2++[Ru]))) (λdk=>(dk.1,dk.2.1,dk.2.2.1,dk.2.2.2.1,dk.2.2.2.2)) (a3.length) 0 ([],[],[],[],[]):Option ((List Int×List Int×List Int×List Int×List Int))).bind λrR=>
 (ix z3.1 (i64.wrap ((a3.length:Int)-1))).bind λAaK=>
 (eQ a0 (i64.wrap (z7.1+(i64.wrap (vf.1*AaK))))).bind λAbN=>
 (uA a5 bG.2.2.2.2.2.2 a0.Q).bind λAbU=>
 (eQ a0 (i64.wrap (bX.1+(i64.wrap (vf.1*AbU))))).bind λAby=>
 (pS [rR.1,rR.2.1,rR.2.2.1,[AbN],rR.2.2.2.1,rR.2.2.2.2,[Aby]]).bind λAbl=>
 J ((cn.mk iH.1 iH.2.1 iH.2.2.1 (bZ.mk (B4++[A6,Bj]) [vf.1] Abl)),Z)))))))))
set_option maxHeartbeats 16000000 in
def zlG{a0 a1 a2 a3 a4 a5 a6 r}(hr:Fw a0 a1 a2 a3 a4 a5 a6=J r):ap Tryz.prog 81 [(.sh,vE a0),(.sh,vJ a1),(.sh,.int .i64 a2),(.sh,vH a3),(.sh,vC a4),(.sh,vC a5),(.sh,vC a6)] (Eo (.bO [vM r.1,.bool r.2]) N5):=by
 apply F8 528 [] [358,360,363,490,492,494,506,508,510,522,2107] [60] [.cell 14 35,.tmp 15] hr zKU Tryz.func81;intro Φ ak hF g;unfold Fw at hF;try simp[go_sem,g]
 try intros
 refine bu ?_;try simp[go_sem,g]
 try intros
 refine wK [2,3,4,5,7,8,14,16,17] ?_;refine wC hF [.io,.sh] mf λz1 hF=>?_
 refine wC hF [.io,.sh] mf λz2 hF=>?_
 refine wC hF [.io,.sh] mf λz3 hF=>?_
 refine wC hF [.io,.sh] mf λz4 hF=>?_
 refine wC hF [.io,.sh] mf λz5 hF=>?_
 refine wC hF [.io,.sh] mf λz6 hF=>?_
 refine wK [2,3,4,5,7,8,14,16,17,18,19,20,21,22,23] ?_;refine wC hF [.io] zV λz7 hF=>?_
 refine wW ?_;refine wC hF [.io,.sh] mf λz8 hF=>?_
 refine wC hF [.io,.sh] mf λz9 hF=>?_
 refine wK [2,3,4,5,7,8,14,16,17,18,19,20,21,22,23,24,25,26] ?_;refine wC hF [.io] zV λbX hF=>?_
 refine wW ?_;refine wE hF P6 λb8 hF=>?_
 refine wK [2,3,4,5,7,8,14,16,18,19,20,21,22,23,24,25,26,27,28] ?_;refine wE hF zkz λbH hF=>?_
 refine wW ?_;refine wZ (kD 0 [58,0,0,0,233,234,3,3,0,0,0,0,0]) follows ?_;refine wE hF Du λdm hF=>?_
 refine wE hF xY λeS hF=>?_
 refine wK [2,3,4,5,7,8,14,16,18,19,20,21,22,23,24,25,26,27,28,29,30,31] ?_
 iterate 2 (try simp[go_sem,g];try intros;refine bu ?_)
 refine bT hF [2,3,4,5,7,8,14,16,18,19,20,21,22,23,24,25,26,27,28,31] (λbG=>[(29,.bl [vD bG.1,vD bG.2.1,vD bG.2.2.1,vD bG.2.2.2.1,vD bG.2.2.2.2.1,vD bG.2.2.2.2.2.1]),(32,.v (vD bG.2.2.2.2.2.2))]) (λbG hF=>?_) λ_ hj0 hF=>?_
 ·refine wZ (kE [0,1,2,3,4,6,7,5,8,9,10] [0,0,0,233,234,233,234,3,0,3,0]) follows ?_;refine wE hF LF λxy hF=>?_
  obtain⟨g,hF⟩:=Rg g hF;refine wE hF Du λAj hF=>?_
  refine wK [2,4,5,7,8,14,16,18,19,20,21,22,23,24,25,26,27,28,29,31,32,35] ?_;refine wE hF ZF λqL hF=>?_
  refine wK [2,4,5,7,8,14,16,18,19,20,21,22,23,24,25,26,27,28,29,31,32,35,36,37,38] ?_
  iterate 2 (try simp[go_sem,g];try intros;refine bu ?_)
  refine bT hF [2,5,7,8,14,16,18,19,20,21,22,23,24,25,26,27,28,31,32,35,36,38] (λiH=>[(29,.bl [vD iH.1,vD iH.2.1,vD iH.2.2.1,vD iH.2.2.2.1,vD iH.2.2.2.2.1,vD iH.2.2.2.2.2.1]),(39,.v (vD iH.2.2.2.2.2.2.1)),(41,.v (vD iH.2.2.2.2.2.2.2))]) (λiH hF=>?_) λ_ hj0 hF=>?_
  ·obtain⟨g,hF⟩:=Rg g hF;obtain⟨Po,Rr,hF⟩:=mi hF;have g:=And.intro g (show[.int .i64 a0.G]::(List.map aJ iH.2.2.1)=Po.map aJ by injection Rr with Rr;rw[<-Rr];simp[go_sem]);refine wK [2,5,7,8,14,16,18,19,20,21,22,23,24,25,26,27,28,29,31,32,35,36,38,39,41,45] ?_
   iterate 2 refine wW ?_
   refine bT hF [2,5,7,8,14,16,18,19,20,21,22,23,24,25,26,27,28,29,31,32,35,36,38,39,41,45] (λF6=>[(46,.v (vD F6))]) (λF6 hF=>?_) λ_ hj0 hF=>?_
   ·refine wW ?_;refine bT hF [2,5,7,8,14,16,18,19,20,21,22,23,24,25,26,27,28,29,31,32,35,36,38,39,41] (λGf=>[(46,.v (vD Gf))]) (λGf hF=>?_) λ_ hj0 hF=>?_
    ·refine wE hF gG λUX hF=>?_
     obtain⟨g,hF⟩:=Rg g hF;refine wK [2,5,7,8,14,16,18,19,20,21,22,23,24,25,26,27,28,29,31,32,35,36,38,39,41,46] ?_;refine wW ?_;refine bT hF [2,5,7,14,16,18,19,20,21,22,23,24,25,26,27,28,29,31,32,35,36,38,39,41] (λB4=>[(46,.v (vD B4))]) (λB4 hF=>?_) λ_ hj0 hF=>?_
     ·refine wE hF DH λTm hF=>?_
      refine wW ?_;refine wZ (kE [0,1,2,3,4,5,6,8,9,10,14,15,16,17,18,20,21,22,7,11,12,13,19,23,24,25,26,27,28,29,30] [0,58,58,57,58,0,0,58,0,0,58,58,0,0,0,58,0,0,3,3,0,6,3,3,0,6,0,5,233,233,234]) follows ?_;refine wE hF gG λHZ hF=>?_
      refine wE hF v5 λJy hF=>?_
      refine wE hF jS λA6 hF=>?_
      refine wE hF gG λJJ hF=>?_
      refine wE hF v5 λHM hF=>?_
      refine wE hF jS λBj hF=>?_
      obtain⟨g,hF⟩:=Rg g hF;refine wK [5,7,14,16,18,19,20,21,22,23,24,25,26,27,29,31,32,35,36,38,39,41] ?_;refine wZ (kD 0 [58,0,233,234,233,233,234,0,6,3,0,0,0,0,0]) follows ?_;refine wE hF Dl λmV hF=>?_
      refine wE hF xY λvf hF=>?_
      refine wK [5,7,14,16,18,19,20,21,22,23,24,25,26,27,29,31,32,36,38,39,41,52,53] ?_;refine bT hF [5,7,14,16,18,19,20,21,22,23,24,25,26,27,29,32,36,39,41,52] (λNI=>[(378,.v (.bool NI))]) (λNI hF=>?_) λ_ hj0 hF=>?_
      ·refine wI hF (λAbJ hF=>?_) λAbJ hF=>?_
       ·exact wl ak hF
       iterate 3 refine wW ?_
       refine wK [5,7,14,16,18,19,20,21,22,23,24,25,26,27,29,32,36,39,41,52,54,385,386] ?_;refine bT hF [5,7,14,16,20,24,27,29,32,52] (λrR=>[(54,.bl [vD rR.1,vD rR.2.1,vD rR.2.2.1,vD rR.2.2.2.1,vD rR.2.2.2.2])]) (λrR hF=>?_) λ_ hj0 hF=>?_
       ·refine wZ (kE [0,1,2,3,4,5,6,7,8,9,10,11,12,13,14,15,18,19,20,21,22,23,24,25,26,27,28,16,17,29,30,31,32,33,34,35,36,37,38] [433,434,433,434,433,434,58,0,0,0,0,0,0,0,0,0,433,434,433,434,58,0,0,0,0,57,58,3,0,3,0,0,3,0,7,6,233,233,234]) follows ?_;have c0:= @mC;have c1:= @QZ;have c2:= @Dl;exact wL
       refine wR hF [5,7,14,16,18,19,20,21,22,23,24,25,26,27,29,32,36,39,41,52,385] (λiU dk=>[(54,.bl [vD dk.1,vD dk.2.1,vD dk.2.2.1,vD dk.2.2.2.1,vD dk.2.2.2.2]),(386,.v (.int .i64 iU))]) λb bg iU dk _ _ aO aN bo ba hF=>?_
       refine wW ?_;refine wu aO aN ?_;refine wW ?_;refine wB ?_;refine wW ?_;refine wZ (kD 0 [433,434,58,0,0,0,0,0,0,0,0,0,0,0,3,0,5,433,434]) follows ?_;obtain⟨M3,g,hF⟩:=Rx g hF;obtain⟨Ms,g,hF⟩:=Rx g hF;refine wE hF mC λMF hF=>?_
       obtain⟨g,hF⟩:=Rg g hF;refine wK [5,7,14,16,18,19,20,21,22,23,24,25,26,27,29,32,36,39,41,52,54,55,385,386] ?_;refine wZ (kD 0 [433,434,58,0,0,0,0,0,58,0,0,0,0,0,0,0,0,0,0,0,4,0,0,3,0,5,433,434]) follows ?_;obtain⟨K7,g,hF⟩:=Rx g hF;obtain⟨L5,g,hF⟩:=Rx g hF;obtain⟨FZ,g,hF⟩:=Rx g hF;refine wD hF mC λNG hF=>?_
       refine wE hF mC λK8 hF=>?_
       obtain⟨g,hF⟩:=Rg g hF;refine wK [5,7,14,16,18,19,20,21,22,23,24,25,26,27,29,32,36,39,41,52,54,55,385,386] ?_;refine wZ (kD 0 [433,434,58,0,0,0,0,0,0,0,0,0,0,0,3,0,5,433,434]) follows ?_;obtain⟨Lh,g,hF⟩:=Rx g hF;obtain⟨N2,g,hF⟩:=Rx g hF;refine wE hF mC λNR hF=>?_
       obtain⟨g,hF⟩:=Rg g hF;refine wK [5,7,14,16,18,19,20,21,22,23,24,25,26,27,29,32,36,39,41,52,54,55,385,386] ?_;refine wZ (kD 0 [433,434,58,0,0,0,0,0,0,0,0,0,0,0,3,0,5,433,434]) follows ?_;obtain⟨KZ,g,hF⟩:=Rx g hF;obtain⟨Cx,g,hF⟩:=Rx g hF;refine wE hF mC λNi hF=>?_
       obtain⟨g,hF⟩:=Rg g hF;refine wK [5,7,14,16,18,19,20,21,22,23,24,25,26,27,29,32,36,39,41,52,54,55,385,386] ?_;refine wZ (kD 0 [433,434,58,0,0,0,0,0,0,0,0,0,0,0,3,0,5,433,434]) follows ?_;have c0:= @mC;exact wL
      exact wL
     refine wR hF [2,5,7,8,14,16,18,19,20,21,22,23,24,25,26,27,28,29,31,32,35,36,38,39,41,302] (λsP eN=>[(46,.v (vD eN)),(303,.v (.int .i64 sP))]) λb bg sP eN _ _ aO aN bo ba hF=>?_
     refine wW ?_;refine wu aO aN ?_;refine wW ?_;refine wB ?_;refine wW ?_;refine wZ (kD 0 [0,58,66,0,0,0,0,0,0,0,0,3,0,5,0]) follows ?_;have c0:= @Ch;exact wL
    refine wR hF [2,5,7,8,14,16,18,19,20,21,22,23,24,25,26,27,28,29,31,32,35,36,38,39,41,45,265] (λug pQ=>[(46,.v (vD pQ)),(266,.v (.int .i64 ug))]) λb bg ug pQ _ _ aO aN bo ba hF=>?_
    refine wW ?_;refine wu aO aN ?_;refine wW ?_;refine wB ?_;refine wW ?_;refine wZ (kE [0,1,2,3,4,5,6,7,8,9,10,12,13,14,15,16,17,18,11,19,20,21,22,23,24] [0,58,58,0,0,0,0,0,0,0,0,58,65,66,0,0,0,0,4,3,0,6,0,5,0]) follows ?_;have c0:= @gG;have c1:= @jS;exact wL
   refine wR hF [2,5,7,8,14,16,18,19,20,21,22,23,24,25,26,27,28,29,31,32,35,36,38,39,41,45,246] (λy6 pH=>[(46,.v (vD pH)),(247,.v (.int .i64 y6))]) λb bg y6 pH _ _ aO aN bo ba hF=>?_
   refine wW ?_;refine wu aO aN ?_;refine wW ?_;refine wB ?_;refine wW ?_;refine wZ (kD 0 [0,58,66,0,0,0,0,0,0,0,0,3,0,5,0]) follows ?_;have c0:= @Ch;exact wL
  refine wR hF [2,5,7,8,14,16,18,19,20,21,22,23,24,25,26,27,28,31,32,35,36,37,38,165,166] (λnF cG=>[(29,.bl [vD cG.1,vD cG.2.1,vD cG.2.2.1,vD cG.2.2.2.1,vD cG.2.2.2.2.1,vD cG.2.2.2.2.2.1]),(39,.v (vD cG.2.2.2.2.2.2.1)),(40,.v (.int .i64 cG.2.2.2.2.2.2.2.1)),(41,.v (vD cG.2.2.2.2.2.2.2.2)),(167,.v (.int .i64 nF))]) λb bg nF cG _ _ aO aN bo ba hF=>?_
  refine wW ?_;refine wu aO aN ?_;refine wW ?_;refine wB ?_;obtain⟨pz,g,hF⟩:=Rx g hF;refine wK [2,5,7,8,14,16,18,19,20,21,22,23,24,25,26,27,28,29,31,32,35,36,37,38,39,40,41,42,43,165,166,167] ?_;refine wZ (kD 0 [0,58,0,0,0,0,0,0,0,0,0,0,0,3,0,5,0]) follows ?_;obtain⟨KW,g,hF⟩:=Rx g hF;refine wE hF mC λoR hF=>?_
  obtain⟨g,hF⟩:=Rg g hF;refine wK [2,5,7,8,14,16,18,19,20,21,22,23,24,25,26,27,28,29,31,32,35,36,37,38,39,40,41,42,165,166,167] ?_;refine wZ (kD 0 [58,0,0,0,0,0,0,3,0]) follows ?_;obtain⟨xJ,Rt,hF⟩:=mi hF;have g:=And.intro g (show List.map aJ cG.2.2.2.2.2.2.1++[[.int .i64 oR]]=xJ.map aJ by injection Rt with Rt;rw[<-Rt];simp[go_sem]);obtain⟨mh,g,hF⟩:=Rx g hF;refine wE hF mC λF5 hF=>?_
  refine wW ?_;refine wZ (kD 0 [233,234,58,66,0,0,0,0,0,3,0,5,233,234]) follows ?_;obtain⟨jt,g,hF⟩:=Rx g hF;refine wE hF Ch λoW hF=>?_
  obtain⟨g,hF⟩:=Rg g hF;refine wK [2,5,7,8,14,16,18,19,20,21,22,23,24,25,26,27,28,29,31,32,35,36,37,38,39,40,41,42,165,166,167] ?_
  iterate 2 refine wW ?_
  refine bT hF [2,5,7,8,14,16,18,19,20,21,22,23,24,25,26,27,28,29,31,32,35,36,37,38,39,40,41,165,166,167] (λxg=>[(44,.v (.int .i64 xg))]) (λxg hF=>?_) λ_ j8 hF=>?_
  ·exact wL
  refine wI hF (λh98 hF=>?_) λh98 hF=>?_
  ·refine wZ (kD 0 [58,0,0,0,0,58,0,0,0,0,0,0,0,0,0,0,4,0,3,0]) follows ?_;have c0:= @mC;exact wL
  exact wT (j8 _) (eW hF)
 refine wR hF [2,3,4,5,7,8,14,16,18,19,20,21,22,23,24,25,26,27,28,30,31,113,114] (λvg dt=>[(29,.bl [vD dt.1,vD dt.2.1,vD dt.2.2.1,vD dt.2.2.2.1,vD dt.2.2.2.2.1,vD dt.2.2.2.2.2.1]),(32,.v (vD dt.2.2.2.2.2.2)),(115,.v (.int .i64 vg))]) λb bg vg dt _ _ aO aN bo ba hF=>?_
 refine wW ?_;refine wu aO aN ?_;refine wW ?_;refine wB ?_;obtain⟨uv,g,hF⟩:=Rx g hF;refine wK [2,3,4,5,7,8,14,16,18,19,20,21,22,23,24,25,26,27,28,29,30,31,32,33,34,113,114,115] ?_;refine wE hF El λuu hF=>?_
 obtain⟨g,hF⟩:=Rg g hF;refine wK [2,3,4,5,7,8,14,16,18,19,20,21,22,23,24,25,26,27,28,29,30,31,32,33,113,114,115] ?_;refine wZ (kD 0 [233,234,58,66,0,0,0,0,0,0,0,0,3,0,5,233,234]) follows ?_;obtain⟨ux,Tk,hF⟩:=mi hF;have g:=And.intro g (show List.map aJ dt.2.2.2.2.2.2++[[.int .i64 uu]]=ux.map aJ by injection Tk with Tk;rw[<-Tk];simp[go_sem]);have c0:= @Ch;exact wL
def rM(a0:am)(a1:Int)(a2:List an)(a3:List Int)(a4:List Int)(a5:List Int):Option (cn×Bool):=
 (xQ a0 a1 a2).bind λz1=>
 ((if(!z1.2)=Z then(
 J Z)else(
 (CJ a0 a3 a4 (a2.length:Int)).bind λz6=>
 if(!z6)=Z then(
 J Z)else(
 if((a5.length:Int) !=(i64.wrap ((i64.wrap (8*(a2.length:Int)))+2)))=Z then(
 J Z)else(
 (vz a0 a5).bind λz9=>
 J (!z9)))):Option Bool).bind λx4=>
 if x4=Z then(
 J ((cn.mk [] [] [] (bZ.mk [] [] [])),aa))else(
 (Fw a0 z1.1 a1 a2 a3 a4 a5).bind λb8=>
 J (b8.1,b8.2)))
def zo4{a0 a1 a2 a3 a4 a5 r}(hr:rM a0 a1 a2 a3 a4 a5=J r):ap Tryz.prog 34 [(.sh,vE a0),(.sh,.int .i64 a1),(.sh,vH a2),(.sh,vC a3),(.sh,vC a4),(.sh,vC a5)] (Eo (.bO [vM r.1,.bool r.2]) rQ):=by
 apply F8 60 [] [51] [] [.cell 12 35,.tmp 13] hr zNA Tryz.func34;intro Φ ak hF g;unfold rM at hF;refine wW ?_;refine wE hF Ty λz1 hF=>?_
 refine wK [1,2,3,4,5,6,12,14,15] ?_;refine bT hF [1,2,3,4,5,6,12,14] (λx4=>[(48,.v (.bool x4))]) (λx4 hF=>?_) λ_ hj0 hF=>?_
 ·have c0:= @zlG;exact wL
 have c0:= @Ta;have c1:= @G3;exact wL
def tj(a0:am)(a1:Int)(a2:List an)(a3:Int)(a4:List Int)(a5:List Int):Option (d8×Bool):=
 (tE a0 a1 a2).bind λz1=>
 ((if(!z1.2)=Z then(
 J Z)else(
 (Eb a3).bind λz6=>
 if(!z6)=Z then(
 J Z)else(
 (Kq a3 (a2.length:Int)).bind λz8=>
 if((a5.length:Int) !=z8)=Z then(
 J Z)else(
 gd (0<=(a2.length:Int))<|
 gd (0<=a2.length/\a2.length<=a5.length)<|
 (CJ a0 a4 ((a5.take a2.length).drop 0) (a2.length:Int)).bind λbX=>
 J (!bX)))):Option Bool).bind λx4=>
 if x4=Z then(
 J ((d8.mk 0 [] (cH.mk [] [] (bZ.mk [] [] [])) (cn.mk [] [] [] (bZ.mk [] [] []))),aa))else(
 gd (0<=(a2.length:Int))<|
 gd (0<=a2.length/\a2.length<=a5.length)<|
 gd (0<=(a2.length:Int))<|
 gd (a2.length<=a5.length/\a5.length<=a5.length)<|
 (Bd a0 a1 a2 a4 ((a5.take a2.length).drop 0)).bind λbH=>
 ((if(a3==1)=Z then(
 (pN a0 a1 a2 a4 ((a5.take a2.length).drop 0) ((a5.take a5.length).drop a2.length)).bind λhY=>
 J (a3,bH,hY.1.cq,hY.1.aF,hY.1.Pi.aC,hY.1.Pi.aV,hY.1.Pi.aE,[],[],[],[],[],[],hY.2))else(
 (rM a0 a1 a2 a4 ((a5.take a2.length).drop 0) ((a5.take a5.length).drop a2.length)).bind λfQ=>
 J (a3,bH,[],[],[],[],[],fQ.1.bQ,fQ.1.bK,fQ.1.aF,fQ.1.Pi.aC,fQ.1.Pi.aV,fQ.1.Pi.aE,fQ.2)):Option ((Int×List an×List Int×List Int×List Int×List Int×List Int×List Int×List Int×List Int×List Int×List Int×List Int×Bool))).bind λdn=>
 if(!dn.2.2.2.2.2.2.2.2.2.2.2.2.2)=Z then(
 J ((d8.mk 0 [] (cH.mk [] [] (bZ.mk [] [] [])) (cn.mk [] [] [] (bZ.mk [] [] []))),aa))else(
 J ((d8.mk dn.1 dn.2.1 (cH.mk dn.2.2.1 dn.2.2.2.1 (bZ.mk dn.2.2.2.2.1 dn.2.2.2.2.2.1 dn.2.2.2.2.2.2.1)) (cn.mk dn.2.2.2.2.2.2.2.1 dn.2.2.2.2.2.2.2.2.1 dn.2.2.2.2.2.2.2.2.2.1 (bZ.mk dn.2.2.2.2.2.2.2.2.2.2.1 dn.2.2.2.2.2.2.2.2.2.2.2.1 dn.2.2.2.2.2.2.2.2.2.2.2.2.1))),Z)))))
def zpX{a0 a1 a2 a3 a4 a5 r}(hr:tj a0 a1 a2 a3 a4 a5=J r):ap Tryz.prog 7 [(.sh,vE a0),(.sh,.int .i64 a1),(.sh,vH a2),(.sh,.int .i64 a3),(.sh,vC a4),(.sh,vC a5)] (Eo (.bO [vN r.1,.bool r.2]) rQ):=by
 apply F8 98 [] [] [] [.cell 12 37,.tmp 13] hr cl7 Tryz.func7;intro Φ ak hF g;unfold tj at hF
 iterate 2 (try simp[go_sem,g];try intros;refine bu ?_)
 try simp[go_sem,g]
 try intros
 refine wE hF NM λz1 hF=>?_
 refine wK [1,2,3,4,5,6,12,14,16] ?_;refine bT hF [1,2,3,4,5,6,12,14] (λx4=>[(54,.v (.bool x4))]) (λx4 hF=>?_) λ_ hj0 hF=>?_
 ·refine wI hF (λBL hF=>?_) λBL hF=>?_
  ·exact wl ak hF
  refine wW ?_;refine wZ (kD 0 [0,0,0,0,0,0,0,0]) follows ?_
  iterate 4 obtain⟨g,hF⟩:=Rg g hF
  refine wW ?_;refine wE hF P6 λbH hF=>?_
  refine wK [1,2,3,4,6,12,17,18,19] ?_;refine wW ?_;refine wJ hF (λdn=>[(12,.bl [.int .i64 0,.sl Z 2 [],.sl Z 1 [],.sl Z 1 [],.sl Z 1 [],.sl Z 1 [],.sl Z 1 [],.sl Z 1 [],.sl Z 1 [],.sl Z 1 [],.sl Z 1 [],.sl Z 1 [],.sl Z 1 []]),(19,.bl [.int .i64 dn.1,vG dn.2.1,vC dn.2.2.1,vC dn.2.2.2.1,vC dn.2.2.2.2.1,vC dn.2.2.2.2.2.1,vC dn.2.2.2.2.2.2.1,vC dn.2.2.2.2.2.2.2.1,vC dn.2.2.2.2.2.2.2.2.1,vC dn.2.2.2.2.2.2.2.2.2.1,vC dn.2.2.2.2.2.2.2.2.2.2.1,vC dn.2.2.2.2.2.2.2.2.2.2.2.1,vC dn.2.2.2.2.2.2.2.2.2.2.2.2.1]),(20,.v (.bool dn.2.2.2.2.2.2.2.2.2.2.2.2.2))]) (λdn hF=>?_) λ_ hj0 hF=>?_
  ·exact wL
  refine wI hF (λCU hF=>?_) λCU hF=>?_
  ·refine wE hF znq λhY hF=>?_
   try simp[go_sem,g]
   refine jK 19 7 (by simp[go_sem,g];rfl) rfl (by simp[go_sem]) ?_;refine jK 19 8 (by simp[go_sem,g];rfl) rfl (by simp[go_sem]) ?_;refine jK 19 9 (by simp[go_sem,g];rfl) rfl (by simp[go_sem]) ?_;refine jK 19 10 (by simp[go_sem,g];rfl) rfl (by simp[go_sem]) ?_;refine jK 19 11 (by simp[go_sem,g];rfl) rfl (by simp[go_sem]) ?_;refine jK 19 12 (by simp[go_sem,g];rfl) rfl (by simp[go_sem]) ?_;exact wT (hj0 _) (eW hF)
  refine wE hF zo4 λfQ hF=>?_
  try simp[go_sem,g]
  refine jK 19 2 (by simp[go_sem,g];rfl) rfl (by simp[go_sem]) ?_;refine jK 19 3 (by simp[go_sem,g];rfl) rfl (by simp[go_sem]) ?_;refine jK 19 4 (by simp[go_sem,g];rfl) rfl (by simp[go_sem]) ?_;refine jK 19 5 (by simp[go_sem,g];rfl) rfl (by simp[go_sem]) ?_;refine jK 19 6 (by simp[go_sem,g];rfl) rfl (by simp[go_sem]) ?_;exact wT (hj0 _) (eW hF)
 refine wZ (kD 0 [0,0,0,0,3,0,0,0,0,0,0,0,3,0,0,0,50,0,0,0,0,0,3,0,0]) follows ?_;have c0:= @Y2;have c1:= @zmx;have c2:= @Ta;exact wL
def za(a0:am):Option Bool:=
 (((n6 a0.P 3 2000000000).bind λz4=>
 if z4=Z then(
 (n6 a0.Q 2 (i64.wrap (a0.P-1))).bind λz6=>
 if z6=Z then(
 gd (a0.Q≠0)<|
 if(((i64.wrap (a0.P-1)).tmod a0.Q)==0)=Z then(
 (n6 a0.G 2 (i64.wrap (a0.P-1))).bind λz9=>
 if z9=Z then(
 (lw a0.G a0.Q a0.P).bind λb8=>
 if(b8==1)=Z then(
 (AQ a0.Q).bind λdm=>
 if dm=Z then(
 (AQ a0.P).bind λfH=>
 J fH)else(
 J aa))else(
 J aa))else(
 J aa))else(
 J aa))else(
 J aa))else(
 J aa):Option Bool).bind λx3=>
 J x3)
def Og{a0 r}(hr:za a0=J r):ap Tryz.prog 144 [(.sh,vE a0)] (Eo (.bool r) [.au]):=by
 apply pE [] hr zEJ Tryz.func144;intro Φ ak hF g;unfold za at hF;refine wW ?_;refine wJ hF (λx3=>[(2,.v (.bool x3))]) (λx3 hF=>?_) λ_ hj0 hF=>?_
 ·exact wm ak hF
 have c0:= @yc;have c1:= @xd;have c2:= @RZ;exact wL
def pu(a0:am)(a1:List Int):Option Bool:=
 ((aS (σ:=Unit) (λi5 s4=>
 (ix a1 i5).bind λaU=>
 (((n6 aU 1 (i64.wrap (a0.P-1))).bind λfH=>
 if(!fH)=Z then(
 J Z)else(
 (lw aU a0.Q a0.P).bind λhY=>
 J (hY !=1)):Option Bool).bind λeX=>
 if eX=Z then(
 J (.out (.inr aa)))else(
 J (.go ())))) (λs4=>.inl ()) (a1.length) 0 ():Option (Unit ⊕ Bool)).bind (Sum.elim (λx3=>
 J Z) J))
def LH{a0 a1 r}(hr:pu a0 a1=J r):ap Tryz.prog 165 [(.sh,vE a0),(.sh,vC a1)] (Eo (.bool r) cJ):=by
 apply pE [] hr zGL Tryz.func165;intro Φ ak hF g;unfold pu at hF
 iterate 2 (try simp[go_sem,g];try intros;refine bu ?_)
 refine wS hF (λx3=>[]) (λx3 hF=>?_) λ_ hj0 dE hF=>?_
 ·exact wl ak hF
 refine wR hF [2,7,8] (λi5 s4=>[(9,.v (.int .i64 i5))]) λb bg i5 s4 _ _ aO aN bo ba hF=>?_
 refine wW ?_;refine wu aO aN ?_;refine wW ?_;refine wB ?_;obtain⟨aU,g,hF⟩:=Rx g hF;refine wW ?_;refine bT hF [2,7,8,9] (λeX=>[(27,.v (.bool eX))]) (λeX hF=>?_) λ_ j8 hF=>?_
 ·exact wL
 have c0:= @yc;have c1:= @xd;exact wL
def Jc(a0:am)(a1:Int):Option Bool:=
 (((za a0).bind λz4=>
 if z4=Z then(
 (pu a0 [a1]).bind λz6=>
 J z6)else(
 J aa):Option Bool).bind λx3=>
 J x3)
def zuh{a0 a1 r}(hr:Jc a0 a1=J r):ap Tryz.prog 143 [(.sh,vE a0),(.sh,.int .i64 a1)] (Eo (.bool r) cJ):=by
 apply pE [] hr zIb Tryz.func143;intro Φ ak hF g;unfold Jc at hF;refine wW ?_;refine wJ hF (λx3=>[(4,.v (.bool x3))]) (λx3 hF=>?_) λ_ hj0 hF=>?_
 ·exact wm ak hF
 have c0:= @Og;have c1:= @LH;exact wL
def DB(a0:am)(a1:List an):Option Bool:=
 if decide (24<(a1.length:Int))=Z then(
 J aa)else(
 ((aS (σ:=Unit) (λi6 s5=>
 (ix a1 i6).bind λcZ=>
 (pu a0 [cZ.A,cZ.B]).bind λdm=>
 if(!dm)=Z then(
 J (.out (.inr aa)))else(
 J (.go ()))) (λs5=>.inl ()) (a1.length) 0 ():Option (Unit ⊕ Bool)).bind (Sum.elim (λx4=>
 J Z) J)))
def Vt{a0 a1 r}(hr:DB a0 a1=J r):ap Tryz.prog 103 [(.sh,vE a0),(.sh,vH a1)] (Eo (.bool r) cJ):=by
 apply pE [] hr zEO Tryz.func103;intro Φ ak hF g;unfold DB at hF
 iterate 2 (try simp[go_sem,g];try intros;refine bu ?_)
 refine wI hF (λh1 hF=>?_) λh1 hF=>?_
 ·exact wl ak hF
 iterate 2 (try simp[go_sem,g];try intros;refine bu ?_)
 refine wS hF (λx4=>[]) (λx4 hF=>?_) λ_ hj0 dE hF=>?_
 ·exact wl ak hF
 refine wR hF [2,10,11] (λi6 s5=>[(12,.v (.int .i64 i6))]) λb bg i6 s5 _ _ aO aN bo ba hF=>?_
 have c0:= @LH;exact wL
def pR(a0:am)(a1:Int)(a2:List an):Option Bool:=
 (((Jc a0 a1).bind λz4=>
 if z4=Z then(
 (n6 (a2.length:Int) 1 12).bind λz6=>
 if z6=Z then(
 (DB a0 a2).bind λz8=>
 J z8)else(
 J aa))else(
 J aa):Option Bool).bind λx3=>
 J x3)
def HG{a0 a1 a2 r}(hr:pR a0 a1 a2=J r):ap Tryz.prog 82 [(.sh,vE a0),(.sh,.int .i64 a1),(.sh,vH a2)] (Eo (.bool r) gw):=by
 apply pE [] hr zMZ Tryz.func82;intro Φ ak hF g;unfold pR at hF;refine wW ?_;refine wJ hF (λx3=>[(6,.v (.bool x3))]) (λx3 hF=>?_) λ_ hj0 hF=>?_
 ·exact wm ak hF
 have c0:= @zuh;have c1:= @yc;have c2:= @Vt;exact wL
def Hx(a0:Int):Option Bool:=
 (n6 a0 0 4611686018427387903).bind λz1=>
 J z1
def zpF{a0 r}(hr:Hx a0=J r):ap Tryz.prog 181 [(.sh,.int .i64 a0)] (Eo (.bool r) [.au]):=by
 apply pE [] hr zH2 Tryz.func181;intro Φ ak hF g;unfold Hx at hF;have c0:= @yc;exact wL
def IL(a0:ByteArray)(a1:List Int):Option ((List Int)):=
 ((dI (σ:=(List Int)×Int) (λs4=>
 if decide (s4.2<(a0.size:Int))=Z then(
 (rO a0 s4.2).bind λep=>
 gd ((s4.1.length+1)*8<=140737488355328/\s4.1.length+1<=4611686018427387904)<|
 J (.go (s4.1++[i64.wrap ep],i64.wrap (s4.2+1))))else(
 J (.out s4.1))) ([(a0.size:Int)],0):Option ((List Int))).bind λx3=>
 gd ((x3.length+a1.length)*8<=140737488355328/\x3.length+a1.length<=4611686018427387904)<|
 J (x3++a1))
def zrJ{a0 a1 r}(hr:IL a0 a1=J r):ap Tryz.prog 217 [(.sh,.str a0),(.sh,vC a1)] (Eo (vD r) cJ):=by
 apply pE [] hr zHO Tryz.func217;intro Φ ak hF g;unfold IL at hF
 iterate 3 refine wW ?_
 refine wJ hF (λx3=>[(1,.v (vC a1)),(5,.v (vD x3))]) (λx3 hF=>?_) λ_ hj0 hF=>?_
 ·exact wL
 refine wB ?_;obtain⟨Oe,wO,bg⟩:=hF;refine jJ wO [0,1] (λs4=>[(5,.v (vD s4.1)),(6,.v (.int .i64 s4.2))]) λs4 _ _ bo ba hF=>?_
 exact wL
def Fm(aL:Int)(aW:Int)(a1:Int):Option ((Int×Int)):=
 (J [a1.tmod 2147483648,i64.wrap (a1.tdiv 2147483648)]).bind λx1=>
 dI (σ:=(Int×Int)×Int) (λrJ=>
 if decide (rJ.2<(x1.length:Int))=Z then(
 (ix x1 rJ.2).bind λvt=>
 J (.go (((i64.wrap ((i64.wrap ((i64.wrap (48271*rJ.1.1))+vt))+1)).tmod 2147483647,(i64.wrap ((i64.wrap ((i64.wrap (69621*rJ.1.2))+vt))+1)).tmod 2147483647),i64.wrap (rJ.2+1))))else(
 J (.out (rJ.1.1,rJ.1.2)))) ((aL,aW),0)
def U0{aL aW a1 r}(hr:Fm aL aW a1=J r):ap Tryz.prog 218 [(.io,vO aL aW),(.sh,.int .i64 a1)] (Eo (.au) [vO r.1 r.2,.au]):=by
 apply pE [0] hr zFG Tryz.func218;intro Φ ak hF g;unfold Fm at hF;have g:=Ld g 2147483648;obtain⟨x1,e2,hF⟩:=mi hF;have g:=And.intro g (show[[.int .i64 (a1.tmod 2147483648)],[.int .i64 (i64.wrap (a1.tdiv 2147483648))]]=x1.map aJ by injection e2 with e2;rw[<-e2];simp[go_sem]);try simp[go_sem,g]
 try intros
 refine bu ?_;refine wB ?_;obtain⟨b17,AaZ,bg⟩:=hF;refine jJ AaZ [10,11] (λrJ=>[(0,.v (vO rJ.1.1 rJ.1.2)),(12,.v (.int .i64 rJ.2))]) λrJ _ _ bo ba hF=>?_
 refine wW ?_;refine wI hF (λTW hF=>?_) λTW hF=>?_
 ·refine wW ?_;refine wB ?_;obtain⟨vt,g,hF⟩:=Rx g hF;refine wK [0,5,10,11,12] ?_;have g:=Ld g 2147483647;exact wL
 exact wL
def I8(a0:List Int):Option Int:=
 (Fm 1 2 (a0.length:Int)).bind λz1=>
 ((aS (σ:=(Int×Int)) (λwz e7=>
 (ix a0 wz).bind λvl=>
 (Fm e7.1 e7.2 vl).bind λky=>
 J (.go (ky.1,ky.2))) (λe7=>(e7.1,e7.2)) (a0.length) 0 (z1.1,z1.2):Option ((Int×Int))).bind λx4=>
 J (i64.wrap ((i64.wrap (x4.1*2147483648))+x4.2)))
def zsQ{a0 r}(hr:I8 a0=J r):ap Tryz.prog 216 [(.sh,vC a0)] (Eo (.int .i64 r) [.au]):=by
 apply pF 32 [] [] [7] [.tmp 2] hr zFh Tryz.func216;intro Φ ak hF g;unfold I8 at hF
 iterate 2 (try simp[go_sem,g];try intros;refine bu ?_)
 try simp[go_sem,g]
 try intros
 refine wC hF [.io,.sh] U0 λz1 hF=>?_
 try simp[go_sem,g]
 try intros
 refine bu ?_;try simp[go_sem,g]
 try intros
 refine wK [3,12,13,14] ?_;refine wJ hF (λx4=>[(3,.v (vO x4.1 x4.2))]) (λx4 hF=>?_) λ_ hj0 hF=>?_
 ·refine wZ (kD 0 [0,0,0,0,0,0,0,0,0,0,0]) follows ?_;refine wK [2] ?_;exact wm ak hF
 refine wR hF [12,13] (λwz e7=>[(3,.v (vO e7.1 e7.2)),(14,.v (.int .i64 wz))]) λb bg wz e7 _ _ aO aN bo ba hF=>?_
 have ja:= @U0;exact wL
def En(a0:ByteArray)(a1:List Int):Option Int:=
 (IL a0 a1).bind λz1=>
 (I8 z1).bind λz2=>
 J z2
def Ze{a0 a1 r}(hr:En a0 a1=J r):ap Tryz.prog 212 [(.sh,.str a0),(.sh,vC a1)] (Eo (.int .i64 r) cJ):=by
 apply pE [] hr zFO Tryz.func212;intro Φ ak hF g;unfold En at hF;have c0:= @zrJ;have c1:= @zsQ;exact wL
def zB(a0:am)(a1:ByteArray)(a2:Int):Option Int:=
 ((dI (σ:=Int) (λs4=>
 if decide (s4<1000)=Z then(
 (En a1 [a0.P,a0.Q,a0.G,a2,s4]).bind λbX=>
 gd (i64.wrap (a0.P-1)≠0)<|
 gd (a0.Q≠0)<|
 (lw (i64.wrap (1+(bX.tmod (i64.wrap (a0.P-1))))) (i64.wrap ((i64.wrap (a0.P-1)).tdiv a0.Q)) a0.P).bind λb8=>
 if(b8 !=1)=Z then(
 J (.out (.inr b8)))else(
 J (.go (i64.wrap (s4+1)))))else(
 J (.out (.inl ())))) 0:Option (Unit ⊕ Int)).bind (Sum.elim (λx3=>
 J 0) J))
def zlr{a0 a1 a2 r}(hr:zB a0 a1 a2=J r):ap Tryz.prog 182 [(.sh,vE a0),(.sh,.str a1),(.sh,.int .i64 a2)] (Eo (.int .i64 r) gw):=by
 apply pE [] hr zHq Tryz.func182;intro Φ ak hF g;unfold zB at hF
 iterate 2 refine wW ?_
 refine wS hF (λx3=>[]) (λx3 hF=>?_) λ_ hj0 dE hF=>?_
 ·exact wl ak hF
 refine wB ?_;obtain⟨b13,RU,bg⟩:=hF;refine jJ RU [1,2,3] (λs4=>[(7,.v (.int .i64 s4))]) λs4 _ _ bo ba hF=>?_
 refine wW ?_;refine wI hF (λh9 hF=>?_) λh9 hF=>?_
 ·refine wW ?_;refine wB ?_;refine wZ (kE [0,1,2,3,4,5,6,7,8,9,11,12,13,10,14,15,16] [0,25,26,25,26,25,26,0,0,0,25,26,0,6,0,0,0]) follows ?_;refine wE hF Ze λbX hF=>?_
  obtain⟨g,hF⟩:=Rz g hF;refine wK [1,2,3,7,8] ?_;refine wZ (kD 0 [0,25,26,0,25,26,0,25,26,3,0]) follows ?_;have c0:= @xd;exact wL
 exact wL
def I3(a0:am)(a1:ByteArray)(a2:Int):Option (Int×Bool):=
 (((za a0).bind λz4=>
 if(!z4)=Z then(
 J Z)else(
 if decide (40<(a1.size:Int))=Z then(
 J Z)else(
 (Hx a2).bind λz7=>
 J (!z7))):Option Bool).bind λx3=>
 if x3=Z then(
 J (0,aa))else(
 (zB a0 a1 a2).bind λz9=>
 J (z9,decide (0<z9))))
def zmG{a0 a1 a2 r}(hr:I3 a0 a1 a2=J r):ap Tryz.prog 145 [(.sh,vE a0),(.sh,.str a1),(.sh,.int .i64 a2)] (Eo (.bO [.int .i64 r.1,.bool r.2]) gw):=by
 apply pE [] hr zFt Tryz.func145;intro Φ ak hF g;unfold I3 at hF;refine wW ?_;refine bT hF [1,2,3] (λx3=>[(21,.v (.bool x3))]) (λx3 hF=>?_) λ_ hj0 hF=>?_
 ·have c0:= @zlr;exact wL
 have c0:= @Og;have c1:= @zpF;exact wL
def Ko(a0:am)(a1:ByteArray)(a2:Int):Option (List Int×Bool):=
 (((za a0).bind λz4=>
 if(!z4)=Z then(
 J Z)else(
 if decide (40<(a1.size:Int))=Z then(
 J Z)else(
 (n6 a2 0 100).bind λz7=>
 J (!z7))):Option Bool).bind λx3=>
 if x3=Z then(
 J ([],aa))else(
 ((dI (σ:=(List Int)×Int) (λtQ=>
 if decide (tQ.2<a2)=Z then(
 (zB a0 a1 tQ.2).bind λfQ=>
 if(fQ==0)=Z then(
 J (.out (.inr ([],aa))))else(
 gd ((tQ.1.length+1)*8<=140737488355328/\tQ.1.length+1<=4611686018427387904)<|
 J (.go (tQ.1++[fQ],i64.wrap (tQ.2+1)))))else(
 J (.out (.inl tQ.1)))) ([],0):Option ((List Int) ⊕ (List Int×Bool))).bind (Sum.elim (λaU=>
 J (aU,Z)) J))))
def zl7{a0 a1 a2 r}(hr:Ko a0 a1 a2=J r):ap Tryz.prog 146 [(.sh,vE a0),(.sh,.str a1),(.sh,.int .i64 a2)] (Eo (.bO [vD r.1,.bool r.2]) gw):=by
 apply pE [] hr zIg Tryz.func146;intro Φ ak hF g;unfold Ko at hF;refine wW ?_;refine bT hF [1,2,3] (λx3=>[(23,.v (.bool x3))]) (λx3 hF=>?_) λ_ hj0 hF=>?_
 ·refine wI hF (λh8 hF=>?_) λh8 hF=>?_
  ·exact wl ak hF
  iterate 3 refine wW ?_
  refine wS hF (λaU=>[(8,.v (vD aU))]) (λaU hF=>?_) λ_ hj0 dE hF=>?_
  ·exact wl ak hF
  refine wB ?_;obtain⟨b20,Abc,bg⟩:=hF;refine jJ Abc [1,2,3] (λtQ=>[(8,.v (vD tQ.1)),(9,.v (.int .i64 tQ.2))]) λtQ _ _ bo ba hF=>?_
  have c0:= @zlr;exact wL
 have c0:= @Og;have c1:= @yc;exact wL
def rY(a0:am)(a1:Int):Option (ct×Bool):=
 (((za a0).bind λz4=>
 if(!z4)=Z then(
 J Z)else(
 (n6 a1 0 24).bind λz6=>
 J (!z6)):Option Bool).bind λx3=>
 if x3=Z then(
 J ((ct.mk 0 []),aa))else(
 (I3 a0 (⟨#[104]⟩:ByteArray) 0).bind λz8=>
 (Ko a0 (⟨#[104,115]⟩:ByteArray) a1).bind λz9=>
 ((if(!z8.2)=Z then(
 J Z)else(
 J (!z9.2)):Option Bool).bind λcZ=>
 if cZ=Z then(
 J ((ct.mk 0 []),aa))else(
 J ((ct.mk z8.1 z9.1),Z)))))
def NK{a0 a1 r}(hr:rY a0 a1=J r):ap Tryz.prog 83 [(.sh,vE a0),(.sh,.int .i64 a1)] (Eo (.bO [vI r.1,.bool r.2]) cJ):=by
 apply pE [] hr zKm Tryz.func83;intro Φ ak hF g;unfold rY at hF;refine wW ?_;refine bT hF [1,2,4] (λx3=>[(17,.v (.bool x3))]) (λx3 hF=>?_) λ_ hj0 hF=>?_
 ·refine wI hF (λh7 hF=>?_) λh7 hF=>?_
  ·exact wl ak hF
  refine wW ?_;refine wE hF zmG λz8 hF=>?_
  refine wK [1,2,4,6,7] ?_;refine wE hF zl7 λz9 hF=>?_
  refine wW ?_;refine bT hF [4,6,8] (λcZ=>[(35,.v (.bool cZ))]) (λcZ hF=>?_) λ_ hj0 hF=>?_
  ·exact wL
  exact wL
 have c0:= @Og;have c1:= @yc;exact wL
def tI(a0:am)(a1:Int)(a2:List an):Option Bool:=
 (pR a0 a1 a2).bind λz1=>
 if(!z1)=Z then(
 J aa)else(
 (rY a0 (a2.length:Int)).bind λz3=>
 J z3.2)
def Yx{a0 a1 a2 r}(hr:tI a0 a1 a2=J r):ap Tryz.prog 36 [(.sh,vE a0),(.sh,.int .i64 a1),(.sh,vH a2)] (Eo (.bool r) gw):=by
 apply pE [] hr zNp Tryz.func36;intro Φ ak hF g;unfold tI at hF;have c0:= @HG;have c1:= @NK;exact wL
def Cg(a0:List Int)(a1:Int)(a2:Int):Option Bool:=
 ((aS (σ:=Unit) (λi5 s4=>
 (ix a0 i5).bind λaU=>
 (n6 aU a1 a2).bind λbH=>
 if(!bH)=Z then(
 J (.out (.inr aa)))else(
 J (.go ()))) (λs4=>.inl ()) (a0.length) 0 ():Option (Unit ⊕ Bool)).bind (Sum.elim (λx3=>
 J Z) J))
def QY{a0 a1 a2 r}(hr:Cg a0 a1 a2=J r):ap Tryz.prog 84 [(.sh,vC a0),(.sh,.int .i64 a1),(.sh,.int .i64 a2)] (Eo (.bool r) gw):=by
 apply pE [] hr zLF Tryz.func84;intro Φ ak hF g;unfold Cg at hF
 iterate 2 (try simp[go_sem,g];try intros;refine bu ?_)
 refine wS hF (λx3=>[]) (λx3 hF=>?_) λ_ hj0 dE hF=>?_
 ·exact wl ak hF
 refine wR hF [1,2,9,10] (λi5 s4=>[(11,.v (.int .i64 i5))]) λb bg i5 s4 _ _ aO aN bo ba hF=>?_
 have c0:= @yc;exact wL
def Ea(a0:List Int)(a1:Int):Option Bool:=
 ((aS (σ:=Unit) (λi5 s4=>
 (ix a0 i5).bind λaU=>
 if(aU==a1)=Z then(
 J (.out (.inr Z)))else(
 J (.go ()))) (λs4=>.inl ()) (a0.length) 0 ():Option (Unit ⊕ Bool)).bind (Sum.elim (λx3=>
 J aa) J))
def WX{a0 a1 r}(hr:Ea a0 a1=J r):ap Tryz.prog 147 [(.sh,vC a0),(.sh,.int .i64 a1)] (Eo (.bool r) cJ):=by
 apply pE [] hr zFp Tryz.func147;intro Φ ak hF g;unfold Ea at hF
 iterate 2 (try simp[go_sem,g];try intros;refine bu ?_)
 refine wS hF (λx3=>[]) (λx3 hF=>?_) λ_ hj0 dE hF=>?_
 ·exact wl ak hF
 refine wR hF [1,7,8] (λi5 s4=>[(9,.v (.int .i64 i5))]) λb bg i5 s4 _ _ aO aN bo ba hF=>?_
 exact wL
def NW(a0:List Int):Option Bool:=
 ((aS (σ:=Unit) (λi5 s4=>
 (ix a0 i5).bind λaU=>
 gd (0<=i5)<|
 gd (0<=i5.toNat/\i5.toNat<=a0.length)<|
 (Ea ((a0.take i5.toNat).drop 0) aU).bind λbH=>
 if bH=Z then(
 J (.out (.inr aa)))else(
 J (.go ()))) (λs4=>.inl ()) (a0.length) 0 ():Option (Unit ⊕ Bool)).bind (Sum.elim (λx3=>
 J Z) J))
def zoz{a0 r}(hr:NW a0=J r):ap Tryz.prog 85 [(.sh,vC a0)] (Eo (.bool r) [.au]):=by
 apply pE [] hr zK3 Tryz.func85;intro Φ ak hF g;unfold NW at hF
 iterate 2 (try simp[go_sem,g];try intros;refine bu ?_)
 refine wS hF (λx3=>[]) (λx3 hF=>?_) λ_ hj0 dE hF=>?_
 ·exact wl ak hF
 refine wR hF [0,5,6] (λi5 s4=>[(7,.v (.int .i64 i5))]) λb bg i5 s4 _ _ aO aN bo ba hF=>?_
 have c0:= @WX;exact wL
def GM(a0:List Int):Option Bool:=
 ((if decide ((a0.length:Int)<=24)=Z then(
 (Cg a0 0 (i64.wrap ((a0.length:Int)-1))).bind λz5=>
 if z5=Z then(
 (NW a0).bind λz7=>
 J z7)else(
 J aa))else(
 J aa):Option Bool).bind λx3=>
 J x3)
def ztA{a0 r}(hr:GM a0=J r):ap Tryz.prog 37 [(.sh,vC a0)] (Eo (.bool r) [.au]):=by
 apply pE [] hr zLD Tryz.func37;intro Φ ak hF g;unfold GM at hF;refine wW ?_;refine wJ hF (λx3=>[(2,.v (.bool x3))]) (λx3 hF=>?_) λ_ hj0 hF=>?_
 ·exact wm ak hF
 have c0:= @QY;have c1:= @zoz;exact wL
def ru(a0:am)(a1:List Int):Option Bool:=
 (Cg a1 0 (i64.wrap (a0.Q-1))).bind λz1=>
 J z1
def JC{a0 a1 r}(hr:ru a0 a1=J r):ap Tryz.prog 38 [(.sh,vE a0),(.sh,vC a1)] (Eo (.bool r) cJ):=by
 apply pE [] hr zML Tryz.func38;intro Φ ak hF g;unfold ru at hF;have c0:= @QY;exact wL
def eg(a0:am)(a1:List Int):Option Int:=
 ((aS (σ:=Int) (λi5 s4=>
 (ix a1 i5).bind λaU=>
 gd (a0.P≠0)<|
 J (.go ((i64.wrap (s4*aU)).tmod a0.P))) (λs4=>s4) (a1.length) 0 1:Option Int).bind λx3=>
 J x3)
def gZ{a0 a1 r}(hr:eg a0 a1=J r):ap Tryz.prog 190 [(.sh,vE a0),(.sh,vC a1)] (Eo (.int .i64 r) cJ):=by
 apply pE [] hr zGl Tryz.func190;intro Φ ak hF g;unfold eg at hF
 iterate 3 (try simp[go_sem,g];try intros;refine bu ?_)
 refine wJ hF (λx3=>[(5,.v (.int .i64 x3))]) (λx3 hF=>?_) λ_ hj0 hF=>?_
 ·exact wl ak hF
 refine wR hF [2,8,9] (λi5 s4=>[(5,.v (.int .i64 s4)),(10,.v (.int .i64 i5))]) λb bg i5 s4 _ _ aO aN bo ba hF=>?_
 exact wL
def I6(a0:am)(a1:Int)(a2:Int)(a3:Int):Option an:=
 (cD a0 a0.G a3).bind λz1=>
 (cD a0 a1 a3).bind λz2=>
 (eg a0 [a2,z2]).bind λz3=>
 J (an.mk z1 z3)
def zux{a0 a1 a2 a3 r}(hr:I6 a0 a1 a2 a3=J r):ap Tryz.prog 184 [(.sh,vE a0),(.sh,.int .i64 a1),(.sh,.int .i64 a2),(.sh,.int .i64 a3)] (Eo (vF r) kP):=by
 apply pE [] hr zFs Tryz.func184;intro Φ ak hF g;unfold I6 at hF;refine wW ?_;refine wZ (kE [0,1,2,3,5,6,7,8,9,4,10,11,12,13,14] [34,33,34,0,34,0,34,0,0,3,3,0,6,0,66]) follows ?_;have c0:= @ft;have c1:= @gZ;exact wL
def Ny(a0:am)(a1:List an):Option an:=
 ((aS (σ:=Int×Int) (λwz e7=>
 (ix a1 wz).bind λvl=>
 (eg a0 [e7.1,vl.A]).bind λky=>
 (eg a0 [e7.2,vl.B]).bind λyi=>
 J (.go (ky,yi))) (λe7=>(e7.1,e7.2)) (a1.length) 0 (1,1):Option ((Int×Int))).bind λx3=>
 J (an.mk x3.1 x3.2))
def zuq{a0 a1 r}(hr:Ny a0 a1=J r):ap Tryz.prog 183 [(.sh,vE a0),(.sh,vH a1)] (Eo (vF r) cJ):=by
 apply pE [] hr zGk Tryz.func183;intro Φ ak hF g;unfold Ny at hF
 iterate 3 (try simp[go_sem,g];try intros;refine bu ?_)
 refine wJ hF (λx3=>[(4,.bl [.int .i64 0,.int .i64 0]),(5,.bl [.int .i64 x3.1,.int .i64 x3.2])]) (λx3 hF=>?_) λ_ hj0 hF=>?_
 ·refine wK [4] ?_;exact wm ak hF
 refine wR hF [2,4,9,10] (λwz e7=>[(5,.bl [.int .i64 e7.1,.int .i64 e7.2]),(11,.v (.int .i64 wz))]) λb bg wz e7 _ _ aO aN bo ba hF=>?_
 refine wW ?_;refine wu aO aN ?_;refine wW ?_;refine wB ?_;obtain⟨vl,g,hF⟩:=Rx g hF;refine wK [2,4,5,7,9,10,11] ?_;refine wZ (kE [0,1,2,3,4,5,7,8,9,10,11,12,6,13,14,15] [18,41,42,57,58,0,18,41,42,57,58,0,6,6,0,42]) follows ?_;have c0:= @gZ;exact wL
def D1(a0:am)(a1:Int)(a2:an)(a3:Int):Option an:=
 (I6 a0 a1 1 a3).bind λz1=>
 (Ny a0 [a2,z1]).bind λz2=>
 J z2
def zv6{a0 a1 a2 a3 r}(hr:D1 a0 a1 a2 a3=J r):ap Tryz.prog 148 [(.sh,vE a0),(.sh,.int .i64 a1),(.sh,vF a2),(.sh,.int .i64 a3)] (Eo (vF r) kP):=by
 apply pE [] hr zFP Tryz.func148;intro Φ ak hF g;unfold D1 at hF;refine wW ?_;refine wZ (kD 0 [34,50,34,0,0,3,0,6,66]) follows ?_;have c0:= @zux;have c1:= @zuq;exact wL
def CI(a0:am)(a1:Int)(a2:List an)(a3:List Int)(a4:List Int):Option ((List an)):=
 ((aS (σ:=(List an)) (λi5 s4=>
 (ix a3 i5).bind λaU=>
 (ix a2 aU).bind λcZ=>
 (ix a4 i5).bind λhO=>
 (D1 a0 a1 cZ hO).bind λeS=>
 gd ((s4.length+1)*16<=140737488355328/\s4.length+1<=4611686018427387904)<|
 J (.go (s4++[eS]))) (λs4=>s4) (a3.length) 0 []:Option ((List an))).bind λx3=>
 J x3)
def Si{a0 a1 a2 a3 a4 r}(hr:CI a0 a1 a2 a3 a4=J r):ap Tryz.prog 86 [(.sh,vE a0),(.sh,.int .i64 a1),(.sh,vH a2),(.sh,vC a3),(.sh,vC a4)] (Eo (vG r) si):=by
 apply pE [] hr zLu Tryz.func86;intro Φ ak hF g;unfold CI at hF
 iterate 3 (try simp[go_sem,g];try intros;refine bu ?_)
 refine wJ hF (λx3=>[(11,.v (vG x3))]) (λx3 hF=>?_) λ_ hj0 hF=>?_
 ·exact wl ak hF
 refine wR hF [1,2,4,5,14,15] (λi5 s4=>[(11,.v (vG s4)),(16,.v (.int .i64 i5))]) λb bg i5 s4 _ _ aO aN bo ba hF=>?_
 refine wW ?_;refine wu aO aN ?_;refine wW ?_;refine wB ?_;obtain⟨aU,g,hF⟩:=Rx g hF;refine wK [1,2,4,5,11,12,13,14,15,16] ?_;refine wZ (kD 0 [0,42,0,0,0,0,0,0,0,0,0,3,0,5,0]) follows ?_;have c0:= @zv6;exact wL
def FU(a0:List Int):Option Bool:=
 ((aS (σ:=Unit) (λi5 s4=>
 (ix a0 i5).bind λaU=>
 gd (0<=i5)<|
 gd (0<=i5.toNat/\i5.toNat<=a0.length)<|
 (Ea ((a0.take i5.toNat).drop 0) aU).bind λbH=>
 if bH=Z then(
 J (.out (.inr aa)))else(
 J (.go ()))) (λs4=>.inl ()) (a0.length) 0 ():Option (Unit ⊕ Bool)).bind (Sum.elim (λx3=>
 J Z) J))
def zqy{a0 r}(hr:FU a0=J r):ap Tryz.prog 185 [(.sh,vC a0)] (Eo (.bool r) [.au]):=by
 apply pE [] hr zHv Tryz.func185;intro Φ ak hF g;unfold FU at hF
 iterate 2 (try simp[go_sem,g];try intros;refine bu ?_)
 refine wS hF (λx3=>[]) (λx3 hF=>?_) λ_ hj0 dE hF=>?_
 ·exact wl ak hF
 refine wR hF [0,5,6] (λi5 s4=>[(7,.v (.int .i64 i5))]) λb bg i5 s4 _ _ aO aN bo ba hF=>?_
 have c0:= @WX;exact wL
def EW(a0:List Int)(a1:Int):Option Bool:=
 ((if((a0.length:Int)==a1)=Z then(
 (Cg a0 0 (i64.wrap (a1-1))).bind λz5=>
 if z5=Z then(
 (FU a0).bind λz7=>
 J z7)else(
 J aa))else(
 J aa):Option Bool).bind λx3=>
 J x3)
def zn4{a0 a1 r}(hr:EW a0 a1=J r):ap Tryz.prog 149 [(.sh,vC a0),(.sh,.int .i64 a1)] (Eo (.bool r) cJ):=by
 apply pE [] hr zGy Tryz.func149;intro Φ ak hF g;unfold EW at hF;refine wW ?_;refine wJ hF (λx3=>[(4,.v (.bool x3))]) (λx3 hF=>?_) λ_ hj0 hF=>?_
 ·exact wm ak hF
 have c0:= @QY;have c1:= @zqy;exact wL
def IE(a0:am)(a1:ct)(a2:List Int)(a3:List Int):Option ((List Int)):=
 gd (0<=(a2.length:Int)/\(a2.length:Int)<=(a2.length:Int)/\8*(a2.length:Int)<=140737488355328/\(a2.length:Int)<=4611686018427387904)<|
 (J (List.replicate a2.length 0)).bind λx1=>
 ((aS (σ:=(List Int)) (λmj dy=>
 (ix a2 mj).bind λfR=>
 (ix a3 fR).bind λil=>
 (ix a1.Hs mj).bind λj5=>
 (cD a0 a0.G il).bind λeZ=>
 (eg a0 [eZ,j5]).bind λgy=>
 (ix dy fR).bind λnY=>
 J (.go (dy.set fR.toNat gy))) (λdy=>dy) (a2.length) 0 x1:Option ((List Int))).bind λx6=>
 J x6)
end
end Go.Pm
