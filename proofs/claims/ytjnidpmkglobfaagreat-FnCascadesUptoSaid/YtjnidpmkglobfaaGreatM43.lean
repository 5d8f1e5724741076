/-
  Plain functions and their walks. Written by wip/tools/lift.py.
-/
import Derived.Test.YtjnidpmkglobfaaGreatPS
open Bool renaming false→Z,true→O
open Option renaming none→aa,some→J
set_option linter.defProp false
open Go.Proofs.Tryz renaming prog→zH
namespace Go.Pm
open Go.Am IntKind
open Go.Proofs
def zu:=@List.length_set
def HO:=@List.map_set
def Mn:=@List.map_congr_left
set_option maxRecDepth 100000
attribute [local irreducible] pw pwx pw1 pwg qv qz qf
attribute [-simp] List.map_set
set_option linter.unusedSimpArgs false
set_option linter.unusedVariables false
noncomputable section
structure am where
 P:Int
 Q:Int
 G:Int
structure ao where
 A:Int
 B:Int
structure a6w where
 code:(List Int)
 at_:Int
 dL:Int
structure cQ where
 aF:(List Int)
 aX:(List Int)
 aG:(List Int)
structure cO where
 cC:(List Int)
 aH:(List Int)
 Pi:cQ
structure cu where
 bX:(List Int)
 bN:(List Int)
 aH:(List Int)
 Pi:cQ
structure bZ where
 e9:Int
 Out:(List ao)
 be:cO
 Poly:cu
structure ct where
 H:Int
 Hs:(List Int)
structure a6p where
 l:(List Int)
structure a6A where
 f0:(List Int)
 f1:(List Int)
 f2:(List Int)
 f3:(List Int)
 f4:(List Int)
structure a6z where
 s:Int
 t:Int
def qW(x:Int):List PV:=[.int .u8 x]
variable{i:Nat}{l:List Int}{x:(List Int)}
@[go_sem] def zHE{x:Int}:qW x=[.int .u8 x]:=(rfl)
@[go_sem] def zub :List.map (List.map drop∘qW) l=l.map qW:=by refine Mn λx _=>?_;simp[go_sem]
@[go_sem] def zB3 :List.map (List.map drop) (l.map qW)=l.map qW:=by rw[uU];exact zub
@[go_sem] def zGq{a:Int}:(l.map qW).set i [.int .u8 a]=(l.set i a).map qW:=by rw[HO];rfl
def ay(x:Int):List PV:=[.int .i64 x]
@[go_sem] def zEn{x:Int}:ay x=[.int .i64 x]:=(rfl)
@[go_sem] def zsE :List.map (List.map drop∘ay) l=l.map ay:=by refine Mn λx _=>?_;simp[go_sem]
@[go_sem] def zBC :List.map (List.map drop) (l.map ay)=l.map ay:=by rw[uU];exact zsE
@[go_sem] def zDP{a:Int}:(l.map ay).set i [.int .i64 a]=(l.set i a).map ay:=by rw[HO];rfl
def im(x:ao):List PV:=[.int .i64 x.A,.int .i64 x.B]
@[go_sem] def zBA{x:ao}:im x=[.int .i64 x.A,.int .i64 x.B]:=(rfl)
@[go_sem] def zpx{l:List ao}:List.map (List.map drop∘im) l=l.map im:=by refine Mn λx _=>?_;simp[go_sem]
@[go_sem] def zyv{l:List ao}:List.map (List.map drop) (l.map im)=l.map im:=by rw[uU];exact zpx
@[go_sem] def zAv{l:List ao}{A:Int}{B:Int}:(l.map im).set i [.int .i64 A,.int .i64 B]=(l.set i (ao.mk A B)).map im:=by rw[HO];rfl
def rz(x:List Int):List PV:=[.sl Z 1 (x.map ay)]
@[go_sem] def zDO :rz x=[.sl Z 1 (x.map ay)]:=(rfl)
@[go_sem] def zrs{l:List (List Int)}:List.map (List.map drop∘rz) l=l.map rz:=by refine Mn λx _=>?_;simp[go_sem]
@[go_sem] def zAC{l:List (List Int)}:List.map (List.map drop) (l.map rz)=l.map rz:=by rw[uU];exact zrs
@[go_sem] def zBR{l:List (List Int)}{a:(List Int)}:(l.map rz).set i [.sl Z 1 (a.map ay)]=(l.set i a).map rz:=by rw[HO];rfl
def Co(x:List Int):List PV:=[.sl O 1 (x.map ay)]
@[go_sem] def zDI :Co x=[.sl O 1 (x.map ay)]:=(rfl)
@[go_sem] def zrl{l:List (List Int)}:List.map (List.map drop∘Co) l=l.map rz:=by refine Mn λx _=>?_;simp[go_sem]
@[go_sem] def zAW{l:List (List Int)}:List.map (List.map drop) (l.map Co)=l.map rz:=by rw[uU];exact zrl
@[go_sem] def zCV{l:List (List Int)}{a:(List Int)}:(l.map Co).set i [.sl O 1 (a.map ay)]=(l.set i a).map Co:=by rw[HO];rfl
def sf(x:bZ):List PV:=[.int .i64 x.e9,.sl Z 2 (x.Out.map im),.sl Z 1 (x.be.cC.map ay),.sl Z 1 (x.be.aH.map ay),.sl Z 1 (x.be.Pi.aF.map ay),.sl Z 1 (x.be.Pi.aX.map ay),.sl Z 1 (x.be.Pi.aG.map ay),.sl Z 1 (x.Poly.bX.map ay),.sl Z 1 (x.Poly.bN.map ay),.sl Z 1 (x.Poly.aH.map ay),.sl Z 1 (x.Poly.Pi.aF.map ay),.sl Z 1 (x.Poly.Pi.aX.map ay),.sl Z 1 (x.Poly.Pi.aG.map ay)]
@[go_sem] def zBn{x:bZ}:sf x=[.int .i64 x.e9,.sl Z 2 (x.Out.map im),.sl Z 1 (x.be.cC.map ay),.sl Z 1 (x.be.aH.map ay),.sl Z 1 (x.be.Pi.aF.map ay),.sl Z 1 (x.be.Pi.aX.map ay),.sl Z 1 (x.be.Pi.aG.map ay),.sl Z 1 (x.Poly.bX.map ay),.sl Z 1 (x.Poly.bN.map ay),.sl Z 1 (x.Poly.aH.map ay),.sl Z 1 (x.Poly.Pi.aF.map ay),.sl Z 1 (x.Poly.Pi.aX.map ay),.sl Z 1 (x.Poly.Pi.aG.map ay)]:=(rfl)
@[go_sem] def zo1{l:List bZ}:List.map (List.map drop∘sf) l=l.map sf:=by refine Mn λx _=>?_;simp[go_sem]
@[go_sem] def zym{l:List bZ}:List.map (List.map drop) (l.map sf)=l.map sf:=by rw[uU];exact zo1
@[go_sem] def zyu{l:List bZ}{o:Int}{a:(List ao)}{f:(List Int)}{g:(List Int)}{m:(List Int)}{k:(List Int)}{b:(List Int)}{e:(List Int)}{j:(List Int)}{d:(List Int)}{n:(List Int)}{h:(List Int)}{c:(List Int)}:(l.map sf).set i [.int .i64 o,.sl Z 2 (a.map im),.sl Z 1 (f.map ay),.sl Z 1 (g.map ay),.sl Z 1 (m.map ay),.sl Z 1 (k.map ay),.sl Z 1 (b.map ay),.sl Z 1 (e.map ay),.sl Z 1 (j.map ay),.sl Z 1 (d.map ay),.sl Z 1 (n.map ay),.sl Z 1 (h.map ay),.sl Z 1 (c.map ay)]=(l.set i (bZ.mk o a (cO.mk f g (cQ.mk m k b)) (cu.mk e j d (cQ.mk n h c)))).map sf:=by rw[HO];rfl
@[go_sem] def zzP{l:List bZ}{d:Int}{c:(List ao)}{b:cO}{a:cu}:(l.map sf).set i [.int .i64 d,.sl Z 2 (c.map im),.sl Z 1 (b.cC.map ay),.sl Z 1 (b.aH.map ay),.sl Z 1 (b.Pi.aF.map ay),.sl Z 1 (b.Pi.aX.map ay),.sl Z 1 (b.Pi.aG.map ay),.sl Z 1 (a.bX.map ay),.sl Z 1 (a.bN.map ay),.sl Z 1 (a.aH.map ay),.sl Z 1 (a.Pi.aF.map ay),.sl Z 1 (a.Pi.aX.map ay),.sl Z 1 (a.Pi.aG.map ay)]=(l.set i (bZ.mk d c b a)).map sf:=by rw[HO];rfl
def vA(x:List Int):PV:=.sl Z 1 (x.map qW)
@[go_sem] def zSK :vA x=.sl Z 1 (x.map qW):=(rfl)
def vB(a:List Int)(b:Int)(c:Int):PV:=.bx [.sl Z 1 (a.map qW),.int .i64 b,.int .u64 c]
@[go_sem] def zTx{a:(List Int)}{b:Int}{c:Int}:vB a b c=.bx [.sl Z 1 (a.map qW),.int .i64 b,.int .u64 c]:=(rfl)
def vC(x:List Int):PV:=.sl Z 1 (x.map ay)
@[go_sem] def zTO :vC x=.sl Z 1 (x.map ay):=(rfl)
def vD(x:List Int):PV:=.sl O 1 (x.map ay)
@[go_sem] def zUJ :vD x=.sl O 1 (x.map ay):=(rfl)
def vE(x:am):PV:=.agg [.int .i64 x.P,.int .i64 x.Q,.int .i64 x.G]
@[go_sem] def zUe{x:am}:vE x=.agg [.int .i64 x.P,.int .i64 x.Q,.int .i64 x.G]:=(rfl)
def vF(x:ao):PV:=.agg [.int .i64 x.A,.int .i64 x.B]
@[go_sem] def zSE{x:ao}:vF x=.agg [.int .i64 x.A,.int .i64 x.B]:=(rfl)
def vG(x:List ao):PV:=.sl O 2 (x.map im)
@[go_sem] def zUB{x:(List ao)}:vG x=.sl O 2 (x.map im):=(rfl)
def vH(x:(List (List Int))):PV:=.sl O 1 (x.map Co)
@[go_sem] def zS0{x:(List (List Int))}:vH x=.sl O 1 (x.map Co):=(rfl)
def vI(x:(List (List Int))):PV:=.sl O 1 (x.map rz)
@[go_sem] def zT1{x:(List (List Int))}:vI x=.sl O 1 (x.map rz):=(rfl)
def vJ(x:List ao):PV:=.sl Z 2 (x.map im)
@[go_sem] def zS1{x:(List ao)}:vJ x=.sl Z 2 (x.map im):=(rfl)
def vK(x:ct):PV:=.agg [.int .i64 x.H,.sl O 1 (x.Hs.map ay)]
@[go_sem] def zSP{x:ct}:vK x=.agg [.int .i64 x.H,.sl O 1 (x.Hs.map ay)]:=(rfl)
def vL(x:(List (List Int))):PV:=.sl Z 1 (x.map rz)
@[go_sem] def zTI{x:(List (List Int))}:vL x=.sl Z 1 (x.map rz):=(rfl)
def vM(x:ct):PV:=.agg [.int .i64 x.H,.sl Z 1 (x.Hs.map ay)]
@[go_sem] def zTQ{x:ct}:vM x=.agg [.int .i64 x.H,.sl Z 1 (x.Hs.map ay)]:=(rfl)
def vN(x:cO):PV:=.agg [.sl Z 1 (x.cC.map ay),.sl Z 1 (x.aH.map ay),.sl Z 1 (x.Pi.aF.map ay),.sl Z 1 (x.Pi.aX.map ay),.sl Z 1 (x.Pi.aG.map ay)]
@[go_sem] def zT3{x:cO}:vN x=.agg [.sl Z 1 (x.cC.map ay),.sl Z 1 (x.aH.map ay),.sl Z 1 (x.Pi.aF.map ay),.sl Z 1 (x.Pi.aX.map ay),.sl Z 1 (x.Pi.aG.map ay)]:=(rfl)
def vO(x:cu):PV:=.agg [.sl Z 1 (x.bX.map ay),.sl Z 1 (x.bN.map ay),.sl Z 1 (x.aH.map ay),.sl Z 1 (x.Pi.aF.map ay),.sl Z 1 (x.Pi.aX.map ay),.sl Z 1 (x.Pi.aG.map ay)]
@[go_sem] def zTS{x:cu}:vO x=.agg [.sl Z 1 (x.bX.map ay),.sl Z 1 (x.bN.map ay),.sl Z 1 (x.aH.map ay),.sl Z 1 (x.Pi.aF.map ay),.sl Z 1 (x.Pi.aX.map ay),.sl Z 1 (x.Pi.aG.map ay)]:=(rfl)
def vP(x:bZ):PV:=.agg [.int .i64 x.e9,.sl Z 2 (x.Out.map im),.sl Z 1 (x.be.cC.map ay),.sl Z 1 (x.be.aH.map ay),.sl Z 1 (x.be.Pi.aF.map ay),.sl Z 1 (x.be.Pi.aX.map ay),.sl Z 1 (x.be.Pi.aG.map ay),.sl Z 1 (x.Poly.bX.map ay),.sl Z 1 (x.Poly.bN.map ay),.sl Z 1 (x.Poly.aH.map ay),.sl Z 1 (x.Poly.Pi.aF.map ay),.sl Z 1 (x.Poly.Pi.aX.map ay),.sl Z 1 (x.Poly.Pi.aG.map ay)]
@[go_sem] def zUL{x:bZ}:vP x=.agg [.int .i64 x.e9,.sl Z 2 (x.Out.map im),.sl Z 1 (x.be.cC.map ay),.sl Z 1 (x.be.aH.map ay),.sl Z 1 (x.be.Pi.aF.map ay),.sl Z 1 (x.be.Pi.aX.map ay),.sl Z 1 (x.be.Pi.aG.map ay),.sl Z 1 (x.Poly.bX.map ay),.sl Z 1 (x.Poly.bN.map ay),.sl Z 1 (x.Poly.aH.map ay),.sl Z 1 (x.Poly.Pi.aF.map ay),.sl Z 1 (x.Poly.Pi.aX.map ay),.sl Z 1 (x.Poly.Pi.aG.map ay)]:=(rfl)
def vQ(x:List bZ):PV:=.sl O 13 (x.map sf)
@[go_sem] def zUo{x:(List bZ)}:vQ x=.sl O 13 (x.map sf):=(rfl)
def vR(a:Int)(b:Int):PV:=.bx [.int .i64 a,.int .i64 b]
@[go_sem] def zS3{a:Int}{b:Int}:vR a b=.bx [.int .i64 a,.int .i64 b]:=(rfl)
def vS(x:cO):PV:=.agg [.sl O 1 (x.cC.map ay),.sl O 1 (x.aH.map ay),.sl O 1 (x.Pi.aF.map ay),.sl O 1 (x.Pi.aX.map ay),.sl O 1 (x.Pi.aG.map ay)]
@[go_sem] def zTp{x:cO}:vS x=.agg [.sl O 1 (x.cC.map ay),.sl O 1 (x.aH.map ay),.sl O 1 (x.Pi.aF.map ay),.sl O 1 (x.Pi.aX.map ay),.sl O 1 (x.Pi.aG.map ay)]:=(rfl)
def vT(x:cu):PV:=.agg [.sl O 1 (x.bX.map ay),.sl O 1 (x.bN.map ay),.sl O 1 (x.aH.map ay),.sl O 1 (x.Pi.aF.map ay),.sl O 1 (x.Pi.aX.map ay),.sl O 1 (x.Pi.aG.map ay)]
@[go_sem] def zUg{x:cu}:vT x=.agg [.sl O 1 (x.bX.map ay),.sl O 1 (x.bN.map ay),.sl O 1 (x.aH.map ay),.sl O 1 (x.Pi.aF.map ay),.sl O 1 (x.Pi.aX.map ay),.sl O 1 (x.Pi.aG.map ay)]:=(rfl)
def vU(x:bZ):PV:=.agg [.int .i64 x.e9,.sl O 2 (x.Out.map im),.sl O 1 (x.be.cC.map ay),.sl O 1 (x.be.aH.map ay),.sl O 1 (x.be.Pi.aF.map ay),.sl O 1 (x.be.Pi.aX.map ay),.sl O 1 (x.be.Pi.aG.map ay),.sl O 1 (x.Poly.bX.map ay),.sl O 1 (x.Poly.bN.map ay),.sl O 1 (x.Poly.aH.map ay),.sl O 1 (x.Poly.Pi.aF.map ay),.sl O 1 (x.Poly.Pi.aX.map ay),.sl O 1 (x.Poly.Pi.aG.map ay)]
@[go_sem] def zTk{x:bZ}:vU x=.agg [.int .i64 x.e9,.sl O 2 (x.Out.map im),.sl O 1 (x.be.cC.map ay),.sl O 1 (x.be.aH.map ay),.sl O 1 (x.be.Pi.aF.map ay),.sl O 1 (x.be.Pi.aX.map ay),.sl O 1 (x.be.Pi.aG.map ay),.sl O 1 (x.Poly.bX.map ay),.sl O 1 (x.Poly.bN.map ay),.sl O 1 (x.Poly.aH.map ay),.sl O 1 (x.Poly.Pi.aF.map ay),.sl O 1 (x.Poly.Pi.aX.map ay),.sl O 1 (x.Poly.Pi.aG.map ay)]:=(rfl)
def vV(x:List bZ):PV:=.sl Z 13 (x.map sf)
@[go_sem] def zS5{x:(List bZ)}:vV x=.sl Z 13 (x.map sf):=(rfl)
def vW(x:cQ):PV:=.agg [.sl Z 1 (x.aF.map ay),.sl Z 1 (x.aX.map ay),.sl Z 1 (x.aG.map ay)]
@[go_sem] def zUi{x:cQ}:vW x=.agg [.sl Z 1 (x.aF.map ay),.sl Z 1 (x.aX.map ay),.sl Z 1 (x.aG.map ay)]:=(rfl)
def vX(x:cQ):PV:=.agg [.sl O 1 (x.aF.map ay),.sl O 1 (x.aX.map ay),.sl O 1 (x.aG.map ay)]
@[go_sem] def zUK{x:cQ}:vX x=.agg [.sl O 1 (x.aF.map ay),.sl O 1 (x.aX.map ay),.sl O 1 (x.aG.map ay)]:=(rfl)
def vY(x:bZ):PV:=.agg [.int .i64 x.e9,.sl O 2 (x.Out.map im),.sl Z 1 (x.be.cC.map ay),.sl Z 1 (x.be.aH.map ay),.sl Z 1 (x.be.Pi.aF.map ay),.sl Z 1 (x.be.Pi.aX.map ay),.sl Z 1 (x.be.Pi.aG.map ay),.sl Z 1 (x.Poly.bX.map ay),.sl Z 1 (x.Poly.bN.map ay),.sl Z 1 (x.Poly.aH.map ay),.sl Z 1 (x.Poly.Pi.aF.map ay),.sl Z 1 (x.Poly.Pi.aX.map ay),.sl Z 1 (x.Poly.Pi.aG.map ay)]
@[go_sem] def zTq{x:bZ}:vY x=.agg [.int .i64 x.e9,.sl O 2 (x.Out.map im),.sl Z 1 (x.be.cC.map ay),.sl Z 1 (x.be.aH.map ay),.sl Z 1 (x.be.Pi.aF.map ay),.sl Z 1 (x.be.Pi.aX.map ay),.sl Z 1 (x.be.Pi.aG.map ay),.sl Z 1 (x.Poly.bX.map ay),.sl Z 1 (x.Poly.bN.map ay),.sl Z 1 (x.Poly.aH.map ay),.sl Z 1 (x.Poly.Pi.aF.map ay),.sl Z 1 (x.Poly.Pi.aX.map ay),.sl Z 1 (x.Poly.Pi.aG.map ay)]:=(rfl)
def Nx(a:List Int)(b:List Int):Option Bool:=
 ((if decide (1048576<(a.length:Int))=O then(
 J O)else(
 J (decide ((i64.wrap (1048576-(a.length:Int)))<(b.length:Int)))):Option Bool).bind λc=>
 J c)
def zvB{c d r}(j:Nx c d=J r):aq zH 4 [(.sh,vA c),(.sh,vA d)] (Eo (.bool r) cM):=by
 apply pF 16 [] [] [] [.tmp 4] j cl4 Tryz.func4;intro k h a g;unfold Nx at a;refine wW ?_;refine wJ a (λf=>[(4,.v (.bool f))]) (λf a=>?_) λ_ e a=>?_
 ·exact wm h a
 try simp[go_sem,g]
 try intros
 refine wG a (λb a=>?_) λb a=>?_
 ·exact wV b (e _) (ai a)
 try simp[go_sem,g,b]
 try intros
 exact wT (e _) (ai a)
def Gp(a:List Int)(b:Int)(d:Int):Option (Int×(List Int×Int×Int)):=
 ((if decide (b<(a.length:Int))=O then(
 (ix a b).bind λe=>
 J (i64.wrap e))else(
 J 0):Option Int).bind λc=>
 if decide ((i64.wrap (b+1))<=(a.length:Int))=O then(
 J (c,(a,i64.wrap (b+1),u64.wrap ((u64.wrap ((u64.wrap (d*6364136223846793005))+(u64.wrap c)))+1442695040888963407))))else(
 J (i64.wrap (u64.wrap ((BitVec.ofInt u64.bits ((u64.wrap ((u64.wrap ((u64.wrap (d*6364136223846793005))+(u64.wrap c)))+1442695040888963407)).fdiv 1099511627776)&&&BitVec.ofInt u64.bits 255).toNat)),(a,i64.wrap (b+1),u64.wrap ((u64.wrap ((u64.wrap (d*6364136223846793005))+(u64.wrap c)))+1442695040888963407)))))
def YV{b c d r}(m:Gp b c d=J r):aq zH 73 [(.io,vB b c d)] (Eo (.int .i64 r.1) [vB r.2.1 r.2.2.1 r.2.2.2]):=by
 apply pF 62 [0] [] [] [.tmp 2] m zLe Tryz.func73;intro o e a g;unfold Gp at a
 iterate 2 refine wW ?_
 refine wZ (kD 0 [0,0,0,0,0,0,0,0,0,0]) follows ?_;try simp[go_sem,g]
 try intros
 refine wK [0,3,13] ?_;refine wJ a (λh=>[(0,.v (vB b c d)),(3,.v (.int .i64 h))]) (λh a=>?_) λ_ f a=>?_
 ·refine wW ?_;refine wK [0,3] ?_;refine wZ (kD 0 [0,0,0,0,0,0,0,0,0,0]) follows ?_;try simp[go_sem,g]
  try intros
  refine wK [0,3,53] ?_;refine wI a (λk a=>?_) λk a=>?_
  ·exact wl e a
  have g:=Ls g 40;cases e _ (ai a)
  iterate 2 refine wW ?_
  try simp[go_sem,g]
 refine wI a (λj a=>?_) λj a=>?_
 ·refine wZ (kD 0 [0,0,0,0,0,0,0,0,0,0,0,0]) follows ?_;obtain⟨n,g,a⟩:=Rx g a;exact wT (f _) (ai a)
 exact wT (f _) (ai a)
def fu(d:List Int)(e:Int)(f:Int)(a:Int):Option (Int×(List Int×Int×Int)):=
 if decide (a<=1)=O then(
 J (0,(d,e,f)))else(
 (Gp d e f).bind λz2=>
 ((if decide (200<a)=O then(
 (Gp z2.2.1 z2.2.2.1 z2.2.2.2).bind λc=>
 J ((c.2.1,c.2.2.1,c.2.2.2),i64.wrap ((i64.wrap (z2.1*256))+c.1)))else(
 J ((z2.2.1,z2.2.2.1,z2.2.2.2),z2.1)):Option (((List Int×Int×Int)×Int))).bind λb=>
 gd (a≠0)<|
 J (b.2.tmod a,(b.1.1,b.1.2.1,b.1.2.2))))
def gA{d f h c r}(n:fu d f h c=J r):aq zH 28 [(.io,vB d f h),(.sh,.int .i64 c)] (Eo (.int .i64 r.1) [vB r.2.1 r.2.2.1 r.2.2.2,.az]):=by
 apply pF 20 [0] [] [] [.tmp 4] n zJf Tryz.func28;intro p e a g;unfold fu at a
 iterate 2 refine wW ?_
 refine wI a (λk a=>?_) λk a=>?_
 ·exact wl e a
 refine wW ?_;refine wC a [.io] YV λz2 a=>?_
 iterate 2 refine wW ?_
 refine wJ a (λb=>[(0,.v (vB b.1.1 b.1.2.1 b.1.2.2)),(1,.v (.int .i64 c)),(5,.v (.int .i64 b.2))]) (λb a=>?_) λ_ j a=>?_
 ·obtain⟨g,a⟩:=Rz g a;refine wK [0,4] ?_;exact wm e a
 refine wI a (λm a=>?_) λm a=>?_
 ·refine wC a [.io] YV λo a=>?_
  exact wT (j _) (ai a)
 exact wT (j _) (ai a)
def Y6(c:List Int)(d:Int)(e:Int)(b:List Int):Option (Int×(List Int×Int×Int)):=
 (fu c d e (b.length:Int)).bind λa=>
 (ix b a.1).bind λf=>
 J (f,(a.2.1,a.2.2.1,a.2.2.2))
def ztD{c d e b r}(h:Y6 c d e b=J r):aq zH 75 [(.io,vB c d e),(.sh,vC b)] (Eo (.int .i64 r.1) [vB r.2.1 r.2.2.1 r.2.2.2,.az]):=by
 apply pF 12 [0] [] [] [.tmp 4] h zCQ Tryz.func75;intro m f a g;unfold Y6 at a;try simp[go_sem,g]
 try intros
 refine ba ?_;try simp[go_sem,g]
 try intros
 refine wC a [.io,.sh] gA λk a=>?_
 obtain⟨j,g,a⟩:=Rx g a;exact wl f a
def rc(c:List Int)(d:Int)(e:Int)(b:List Int):Option (Int×(List Int×Int×Int)):=
 (fu c d e (b.length:Int)).bind λa=>
 (ix b a.1).bind λf=>
 J (f,(a.2.1,a.2.2.1,a.2.2.2))
def yd{c d e b r}(h:rc c d e b=J r):aq zH 75 [(.io,vB c d e),(.mv,vD b)] (Eo (.int .i64 r.1) [vB r.2.1 r.2.2.1 r.2.2.2,.az]):=by
 apply pF 12 [0] [] [] [.tmp 4] h zCQ Tryz.func75;intro m f a g;unfold rc at a;try simp[go_sem,g]
 try intros
 refine ba ?_;try simp[go_sem,g]
 try intros
 refine wC a [.io,.sh] gA λk a=>?_
 obtain⟨j,g,a⟩:=Rx g a;exact wl f a
def nO(a:Int)(b:Int)(c:Int):Option Bool:=
 ((if decide (b<=a)=O then(
 J (decide (a<=c)))else(
 J Z):Option Bool).bind λd=>
 J d)
def qZ{c d e r}(k:nO c d e=J r):aq zH 35 [(.sh,.int .i64 c),(.sh,.int .i64 d),(.sh,.int .i64 e)] (Eo (.bool r) gJ):=by
 apply pF 15 [] [] [] [.tmp 6] k zKG Tryz.func35;intro m j a g;unfold nO at a;refine wW ?_;refine wJ a (λh=>[(6,.v (.bool h))]) (λh a=>?_) λ_ f a=>?_
 ·exact wm j a
 refine wG a (λb a=>?_) λb a=>?_
 ·exact wV b (f _) (ai a)
 exact wV b (f _) (ai a)
def Bv(b:Int):Option Bool:=
 if decide (b<2)=O then(
 J Z)else(
 ((dO (σ:=Int) (λa=>
 if decide ((i64.wrap (a*a))<=b)=O then(
 gd (a≠0)<|
 if((b.tmod a)==0)=O then(
 J (.out (.inr Z)))else(
 J (.go (i64.wrap (a+1)))))else(
 J (.out (.inl ())))) 2:Option (Unit ⊕ Bool)).bind (Sum.elim (λc=>
 J O) J)))
def Qb{b r}(p:Bv b=J r):aq zH 114 [(.sh,.int .i64 b)] (Eo (.bool r) [.az]):=by
 apply pF 17 [] [] [] [.tmp 2] p zFo Tryz.func114;intro u c a g;unfold Bv at a
 iterate 2 refine wW ?_
 refine wI a (λo a=>?_) λo a=>?_
 ·exact wl c a
 iterate 2 refine wW ?_
 refine wS a (λs=>[]) (λs a=>?_) λ_ k h a=>?_
 ·exact wl c a
 refine wB ?_;obtain⟨t,q,f⟩:=a;refine pL q (λe=>[(0,.v (.int .i64 b)),(3,.v (.int .i64 e))]) λe _ _ d j a=>?_
 refine wW ?_;refine wI a (λm a=>?_) λm a=>?_
 ·refine wW ?_;refine wB ?_;obtain⟨g,a⟩:=Rz g a;refine wK [0,3,16] ?_;refine wI a (λn a=>?_) λn a=>?_
  ·cases d _ (ai a);cases c _ (h _ f);refine wW ?_;try simp[go_sem,g]
  refine wW ?_;exact wT (j _) (ai a)
 cases d _ (ai a);exact wT (k _) f
def l4(c:Int)(d:Int)(b:Int):Option Int:=
 gd (b≠0)<|
 ((dO (σ:=Int×Int×Int) (λa=>
 if decide (0<a.2.1)=O then(
 ((if((a.2.1.tmod 2)==1)=O then(
 gd (b≠0)<|
 J ((i64.wrap (a.2.2*a.1)).tmod b))else(
 J a.2.2):Option Int).bind λe=>
 gd (b≠0)<|
 J (.go ((i64.wrap (a.1*a.1)).tmod b,i64.wrap (a.2.1.tdiv 2),e))))else(
 J (.out a.2.2))) (c,d,(1:Int).tmod b):Option Int).bind λf=>
 J f)
def yF{e f c r}(u:l4 e f c=J r):aq zH 115 [(.sh,.int .i64 e),(.sh,.int .i64 f),(.sh,.int .i64 c)] (Eo (.int .i64 r) gJ):=by
 apply pF 28 [] [] [] [.tmp 6] u zF6 Tryz.func115;intro w k a g;unfold l4 at a;obtain⟨g,a⟩:=Rz g a
 iterate 2 refine wW ?_
 refine wJ a (λj=>[(7,.v (.int .i64 j))]) (λj a=>?_) λ_ m a=>?_
 ·exact wl k a
 refine wB ?_;obtain⟨v,s,o⟩:=a;refine pL s (λb=>[(0,.v (.int .i64 b.1)),(1,.v (.int .i64 b.2.1)),(2,.v (.int .i64 c)),(7,.v (.int .i64 b.2.2))]) λb _ _ p n a=>?_
 refine wW ?_;refine wI a (λt a=>?_) λt a=>?_
 ·refine wW ?_;refine wB ?_;have g:=Ld g 2;refine wW ?_;refine bE a [0,1,2] (λh=>[(7,.v (.int .i64 h))]) (λh a=>?_) λ_ d a=>?_
  ·obtain⟨g,a⟩:=Rz g a;refine wK [0,1,2,7] ?_;exact wT (n _) (ai a)
  refine wI a (λq a=>?_) λq a=>?_
  ·obtain⟨g,a⟩:=Rz g a;exact wT (d _) (ai a)
  exact wT (d _) (ai a)
 cases p _ (ai a);exact wT (m _) o
def xe(a:Int):Option (am×Bool):=
 (((nO a 2 1000000).bind λj=>
 if(!j)=O then(
 J O)else(
 (Bv a).bind λk=>
 J (!k)):Option Bool).bind λh=>
 if h=O then(
 J ((am.mk 0 0 0),Z))else(
 ((dO (σ:=Int) (λb=>
 if decide (b<=2000000000)=O then(
 (Bv b).bind λd=>
 if(!d)=O then(
 J (.go (i64.wrap (b+a))))else(
 ((dO (σ:=Int) (λc=>
 gd (a≠0)<|
 (l4 c (i64.wrap ((i64.wrap (b-1)).tdiv a)) b).bind λg=>
 if(g==1)=O then(
 J (.go (i64.wrap (c+1))))else(
 J (.out c))) 2:Option Int).bind λf=>
 gd (a≠0)<|
 (l4 f (i64.wrap ((i64.wrap (b-1)).tdiv a)) b).bind λe=>
 J (.out (.inr ((am.mk b a e),O))))))else(
 J (.out (.inl ())))) (i64.wrap (a+1)):Option (Unit ⊕ (am×Bool))).bind (Sum.elim (λm=>
 J ((am.mk 0 0 0),Z)) J))))
def zkz{e r}(B:xe e=J r):aq zH 81 [(.sh,.int .i64 e)] (Eo (.bR [vE r.1,.bool r.2]) [.az]):=by
 apply pF 46 [] [] [] [.cell 2 25,.tmp 3] B zI2 Tryz.func81;intro N c a g;unfold xe at a;refine wW ?_;refine bE a [0,2] (λn=>[(13,.v (.bool n))]) (λn a=>?_) λ_ f a=>?_
 ·refine wI a (λA a=>?_) λA a=>?_
  ·exact wl c a
  iterate 2 refine wW ?_
  refine wS a (λy=>[(2,.bl [.int .i64 0,.int .i64 0,.int .i64 0])]) (λy a=>?_) λ_ o q a=>?_
  ·exact wl c a
  refine wB ?_;obtain⟨G,s,k⟩:=a;refine ka s [0,2] (λh=>[(4,.v (.int .i64 h))]) λh _ _ m E a=>?_
  refine wW ?_;refine wI a (λD a=>?_) λD a=>?_
  ·refine wW ?_;refine wB ?_;refine wE a Qb λH a=>?_
   refine wK [0,2,4,24] ?_;refine wI a (λC a=>?_) λC a=>?_
   ·refine wW ?_;exact wT (E _) (ai a)
   iterate 2 refine wW ?_
   refine bE a [0,2,4] (λj=>[(5,.v (.int .i64 j))]) (λj a=>?_) λ_ w a=>?_
   ·obtain⟨g,a⟩:=Rz g a;refine wE a yF λI a=>?_
    refine wK [2,3] ?_;cases m _ (ai a);cases c _ (q _ k);try simp[go_sem,g]
   refine wB ?_;obtain⟨F,p,t⟩:=a;refine ka p [0,2,4] (λd=>[(5,.v (.int .i64 d))]) λd _ _ u v a=>?_
   obtain⟨g,a⟩:=Rz g a;refine wE a yF λK a=>?_
   refine wW ?_;refine wI a (λz a=>?_) λz a=>?_
   ·refine wW ?_;refine wB ?_;exact wT (v _) (ai a)
   cases u _ (ai a);exact wT (w _) t
  cases m _ (ai a);exact wT (o _) k
 refine wE a qZ λL a=>?_
 refine wG a (λb a=>?_) λb a=>?_
 ·exact wV b (f _) (ai a)
 try simp[go_sem,g,b]
 refine wE a Qb λM a=>?_
 exact wV b (f _) (ai a)
def GB(b:List Int)(c:Int)(d:Int):Option (am×(List Int×Int×Int)):=
 (rc b c d [3,5,5,7,11,11,13,23]).bind λa=>
 (xe a.1).bind λz2=>
 J (z2.1,(a.2.1,a.2.2.1,a.2.2.2))
def zln{b c d r}(f:GB b c d=J r):aq zH 82 [(.io,vB b c d)] (Eo (vE r.1) [vB r.2.1 r.2.2.1 r.2.2.2]):=by
 apply pF 13 [0] [] [] [.cell 2 25] f zMK Tryz.func82;intro j e a g;unfold GB at a;refine wW ?_;refine wC a [.io,.mv] yd λh a=>?_
 refine wE a zkz λz2 a=>?_
 refine wK [0,2,3] ?_;exact wl e a
def q9(b:Int)(a:Int):Option Int:=
 gd (a≠0)<|
 gd (a≠0)<|
 J ((i64.wrap ((b.tmod a)+a)).tmod a)
def HW{b c r}(e:q9 b c=J r):aq zH 85 [(.sh,.int .i64 b),(.sh,.int .i64 c)] (Eo (.int .i64 r) cM):=by
 apply pF 12 [] [] [] [.tmp 4] e zJR Tryz.func85;intro f d a g;unfold q9 at a
 iterate 2 obtain⟨g,a⟩:=Rz g a
 cases d _ (ai a)
 iterate 2 refine wW ?_
 try simp[go_sem,g]
def cF(a:am)(b:Int)(c:Int):Option Int:=
 (q9 c a.Q).bind λd=>
 (l4 b d a.P).bind λz2=>
 J z2
def eP{b c d r}(f:cF b c d=J r):aq zH 83 [(.sh,vE b),(.sh,.int .i64 c),(.sh,.int .i64 d)] (Eo (.int .i64 r) gJ):=by
 apply pF 15 [] [] [] [.tmp 6] f zLV Tryz.func83;intro j e a g;unfold cF at a;refine wW ?_;refine wZ (kE [0,1,2,3,5,6,4,7,8] [0,0,25,26,25,26,3,3,0]) follows ?_;refine wE a HW λh a=>?_
 refine wE a yF λz2 a=>?_
 refine wK [6] ?_;exact wm e a
def A8(e:List Int)(f:Int)(g:Int):Option (am×(List Int×Int×Int)):=
 (fu e f g 6).bind λa=>
 if(a.1==0)=O then(
 J ((am.mk 1000000007 500000003 4),(a.2.1,a.2.2.1,a.2.2.2)))else(
 if(a.1==1)=O then(
 (rc a.2.1 a.2.2.1 a.2.2.2 [101,1009,1019,65537,999983]).bind λc=>
 (xe c.1).bind λh=>
 J (h.1,(c.2.1,c.2.2.1,c.2.2.2)))else(
 (GB a.2.1 a.2.2.1 a.2.2.2).bind λb=>
 (fu b.2.1 b.2.2.1 b.2.2.2 (i64.wrap (b.1.Q-1))).bind λd=>
 (cF b.1 b.1.G (i64.wrap (1+d.1))).bind λj=>
 J ((am.mk b.1.P b.1.Q j),(d.2.1,d.2.2.1,d.2.2.2))))
def Zq{c d e r}(j:A8 c d e=J r):aq zH 42 [(.io,vB c d e)] (Eo (vE r.1) [vB r.2.1 r.2.2.1 r.2.2.2]):=by
 apply pF 35 [0] [] [] [.cell 2 25] j zML Tryz.func42;intro s b a g;unfold A8 at a;refine wW ?_;refine wC a [.io,.sh] gA λk a=>?_
 refine wW ?_;refine wB ?_;refine wW ?_;refine wI a (λf a=>?_) λf a=>?_
 ·exact wl b a
 refine wW ?_;refine wI a (λh a=>?_) λh a=>?_
 ·refine wC a [.io,.mv] yd λm a=>?_
  refine wE a zkz λn a=>?_
  refine wK [0,2,3] ?_;exact wl b a
 refine wW ?_;refine wC a [.io] zln λo a=>?_
 refine wK [0,2,5] ?_;refine wZ (kD 0 [42,41,42,0,41,42,0,3,0,3,41,42]) follows ?_;refine wC a [.io,.sh] gA λp a=>?_
 refine wE a eP λq a=>?_
 refine wK [0,2,5] ?_;exact wl b a
def rU(c:List Int)(d:Int)(e:Int)(b:Int):Option (Bool×(List Int×Int×Int)):=
 (fu c d e b).bind λa=>
 J ((a.1==0),(a.2.1,a.2.2.1,a.2.2.2))
def yJ{c d e b r}(h:rU c d e b=J r):aq zH 30 [(.io,vB c d e),(.sh,.int .i64 b)] (Eo (.bool r.1) [vB r.2.1 r.2.2.1 r.2.2.2,.az]):=by
 apply pF 9 [0] [] [] [.tmp 4] h zJz Tryz.func30;intro k f a g;unfold rU at a;refine wW ?_;refine wC a [.io,.sh] gA λj a=>?_
 exact wl f a
def CN(f:List Int)(g:Int)(h:Int):Option (am×(List Int×Int×Int)):=
 (A8 f g h).bind λa=>
 (fu a.2.1 a.2.2.1 a.2.2.2 24).bind λz2=>
 ((if(z2.1==0)=O then(
 (rc z2.2.1 z2.2.2.1 z2.2.2.2 [0,i64.wrap (a.1.P+2),4,(-7)]).bind λd=>
 J ((d.2.1,d.2.2.1,d.2.2.2),d.1,a.1.Q,a.1.G))else(
 if(z2.1==1)=O then(
 (rc z2.2.1 z2.2.2.1 z2.2.2.2 [0,1,i64.wrap (a.1.Q+1),i64.wrap (a.1.P-1)]).bind λe=>
 J ((e.2.1,e.2.2.1,e.2.2.2),a.1.P,e.1,a.1.G))else(
 if(z2.1==2)=O then(
 (rc z2.2.1 z2.2.2.1 z2.2.2.2 [0,1,i64.wrap (a.1.P-1),a.1.P,i64.wrap (a.1.G+1)]).bind λc=>
 J ((c.2.1,c.2.2.1,c.2.2.2),a.1.P,a.1.Q,c.1))else(
 J ((z2.2.1,z2.2.2.1,z2.2.2.2),a.1.P,a.1.Q,a.1.G)))):Option (((List Int×Int×Int)×Int×Int×Int))).bind λb=>
 J ((am.mk b.2.1 b.2.2.1 b.2.2.2),(b.1.1,b.1.2.1,b.1.2.2)))
def zjQ{d e f r}(n:CN d e f=J r):aq zH 43 [(.io,vB d e f)] (Eo (vE r.1) [vB r.2.1 r.2.2.1 r.2.2.2]):=by
 apply pF 44 [0] [] [] [.cell 2 25] n zLZ Tryz.func43;intro t h a g;unfold CN at a;refine wW ?_;refine wC a [.io] Zq λp a=>?_
 refine wW ?_;refine wC a [.io,.sh] gA λz2 a=>?_
 refine wW ?_;refine wJ a (λb=>[(0,.v (vB b.1.1 b.1.2.1 b.1.2.2)),(2,.bl [.int .i64 0,.int .i64 0,.int .i64 0]),(3,.bl [.int .i64 b.2.1,.int .i64 b.2.2.1,.int .i64 b.2.2.2])]) (λb a=>?_) λ_ c a=>?_
 ·exact wl h a
 refine wB ?_;refine wW ?_;refine wI a (λk a=>?_) λk a=>?_
 ·refine wC a [.io,.mv] yd λq a=>?_
  exact wT (c _) (ai a)
 refine wK [0,2,3,7,17] ?_;refine wI a (λm a=>?_) λm a=>?_
 ·refine wC a [.io,.mv] yd λs a=>?_
  exact wT (c _) (ai a)
 refine wW ?_;refine wI a (λj a=>?_) λj a=>?_
 ·refine wC a [.io,.mv] yd λo a=>?_
  exact wT (c _) (ai a)
 exact wT (c _) (ai a)
def DC(c:List Int)(d:Int)(e:Int)(b:am):Option (Int×(List Int×Int×Int)):=
 if decide (b.Q<2)=O then(
 J (0,(c,d,e)))else(
 (fu c d e 60000).bind λz2=>
 (fu z2.2.1 z2.2.2.1 z2.2.2.2 60000).bind λa=>
 gd (b.Q≠0)<|
 J ((i64.wrap ((i64.wrap (z2.1*60000))+a.1)).tmod b.Q,(a.2.1,a.2.2.1,a.2.2.2)))
def Ru{c e f b r}(j:DC c e f b=J r):aq zH 84 [(.io,vB c e f),(.sh,vE b)] (Eo (.int .i64 r.1) [vB r.2.1 r.2.2.1 r.2.2.2,.az]):=by
 apply pF 17 [0] [] [] [.tmp 4] j zKA Tryz.func84;intro m d a g;unfold DC at a
 iterate 2 refine wW ?_
 refine wI a (λh a=>?_) λh a=>?_
 ·exact wl d a
 refine wW ?_;refine wZ (kE [0,3,6,7,1,2,4,5,8,9] [0,0,25,26,3,0,3,0,0,0]) follows ?_;refine wC a [.io,.sh] gA λz2 a=>?_
 refine wC a [.io,.sh] gA λk a=>?_
 obtain⟨g,a⟩:=Rz g a;refine wK [0,4] ?_;exact wm d a
def Ag(c:List Int)(d:Int)(e:Int)(a:am):Option (Int×(List Int×Int×Int)):=
 ((if decide (a.P<3)=O then(
 J O)else(
 J (decide (a.Q<1))):Option Bool).bind λf=>
 if f=O then(
 J (1,(c,d,e)))else(
 (q9 a.G a.P).bind λg=>
 (DC c d e a).bind λb=>
 (cF a g b.1).bind λh=>
 J (h,(b.2.1,b.2.2.1,b.2.2.2))))
def PA{d h j c r}(n:Ag d h j c=J r):aq zH 48 [(.io,vB d h j),(.sh,vE c)] (Eo (.int .i64 r.1) [vB r.2.1 r.2.2.1 r.2.2.2,.az]):=by
 apply pF 23 [0] [] [] [.tmp 4] n zJd Tryz.func48;intro s e a g;unfold Ag at a;refine wW ?_;refine bE a [0,3] (λk=>[(12,.v (.bool k))]) (λk a=>?_) λ_ f a=>?_
 ·refine wI a (λm a=>?_) λm a=>?_
  ·exact wl e a
  refine wW ?_;refine wZ (kE [0,1,2,3,4,6,7,5,8,9,10] [26,25,26,25,26,0,26,3,3,3,0]) follows ?_;refine wE a HW λo a=>?_
  refine wC a [.io,.sh] Ru λp a=>?_
  refine wE a eP λq a=>?_
  refine wK [0,4] ?_;exact wm e a
 refine wG a (λb a=>?_) λb a=>?_
 ·exact wV b (f _) (ai a)
 exact wV b (f _) (ai a)
def Ko(c:List Int)(d:Int)(e:Int)(b:am):Option (ao×(List Int×Int×Int)):=
 (Ag c d e b).bind λa=>
 (Ag a.2.1 a.2.2.1 a.2.2.2 b).bind λz2=>
 J ((ao.mk a.1 z2.1),(z2.2.1,z2.2.2.1,z2.2.2.2))
def zkR{c d e b r}(h:Ko c d e b=J r):aq zH 44 [(.io,vB c d e),(.sh,vE b)] (Eo (vF r.1) [vB r.2.1 r.2.2.1 r.2.2.2,.az]):=by
 apply pF 12 [0] [] [] [.cell 4 70] h zI4 Tryz.func44;intro k f a g;unfold Ko at a;refine wW ?_;refine wZ (kE [0,1,3,4,2,5,6,7] [0,26,0,26,3,3,0,34]) follows ?_;refine wC a [.io,.sh] PA λj a=>?_
 refine wC a [.io,.sh] PA λz2 a=>?_
 refine wK [0,4] ?_;exact wm f a
def EJ(b:Int)(a:Int):Option (Int×Bool):=
 (nO a 1 12).bind λc=>
 if(!c)=O then(
 J (0,Z))else(
 if(b==1)=O then(
 J (i64.wrap ((i64.wrap (5*a))+4),O))else(
 if(b==2)=O then(
 J (i64.wrap ((i64.wrap (9*a))+2),O))else(
 J (0,Z))))
def Xc{c d r}(j:EJ c d=J r):aq zH 45 [(.sh,.int .i64 c),(.sh,.int .i64 d)] (Eo (.bR [.int .i64 r.1,.bool r.2]) cM):=by
 apply pF 20 [] [] [] [.tmp 4,.tmp 5] j zKT Tryz.func45;intro m b a g;unfold EJ at a;refine wW ?_;refine wE a qZ λk a=>?_
 refine wW ?_;refine wI a (λe a=>?_) λe a=>?_
 ·exact wl b a
 iterate 2 refine wW ?_
 refine wB ?_;refine wW ?_;refine wI a (λf a=>?_) λf a=>?_
 ·refine wK [4,5] ?_;exact wm b a
 refine wK [1,15] ?_;refine wI a (λh a=>?_) λh a=>?_
 ·exact wl b a
 cases b _ (ai a)
 iterate 2 refine wW ?_
 try simp[go_sem,g]
def Ju(a:Int)(f:List Int):Option (List Int×Bool):=
 (((nO a 1 24).bind λn=>
 if(!n)=O then(
 J O)else(
 J ((f.length:Int) !=(i64.wrap (a-1)))):Option Bool).bind λk=>
 if k=O then(
 J ([],Z))else(
 ((dO (σ:=(List Int)×Int) (λc=>
 if decide (c.2<a)=O then(
 gd ((c.1.length+1)*8<=140737488355328/\c.1.length+1<=4611686018427387904)<|
 J (.go (c.1++[c.2],i64.wrap (c.2+1))))else(
 J (.out c.1))) ([],0):Option ((List Int))).bind λm=>
 ((aO (σ:=(List Int)) (λb d=>
 (ix f b).bind λe=>
 if decide (e<0)=O then(
 J (.out (.inr ([],Z))))else(
 gd (i64.wrap ((i64.wrap ((i64.wrap (a-1))-b))+1)≠0)<|
 (ix d (i64.wrap ((i64.wrap (a-1))-b))).bind λh=>
 (ix d (e.tmod (i64.wrap ((i64.wrap ((i64.wrap (a-1))-b))+1)))).bind λg=>
 (ix (d.set ((i64.wrap ((i64.wrap (a-1))-b)).toNat) g) (e.tmod (i64.wrap ((i64.wrap ((i64.wrap (a-1))-b))+1)))).bind λo=>
 J (.go ((d.set ((i64.wrap ((i64.wrap (a-1))-b)).toNat) g).set ((e.tmod (i64.wrap ((i64.wrap ((i64.wrap (a-1))-b))+1))).toNat) h)))) (λd=>.inl d) (f.length) 0 m:Option ((List Int) ⊕ (List Int×Bool))).bind (Sum.elim (λj=>
 J (j,O)) J)))))
def zmH{j m r}(D:Ju j m=J r):aq zH 74 [(.sh,.int .i64 j),(.sh,vC m)] (Eo (.bR [vD r.1,.bool r.2]) cM):=by
 apply pF 66 [] [] [] [.tmp 4,.tmp 5] D zMl Tryz.func74;intro S b a g;unfold Ju at a;refine wW ?_;refine bE a [0,1] (λq=>[(22,.v (.bool q))]) (λq a=>?_) λ_ n a=>?_
 ·refine wI a (λC a=>?_) λC a=>?_
  ·exact wl b a
  iterate 3 refine wW ?_
  refine bE a [0,1] (λs=>[(6,.v (vD s))]) (λs a=>?_) λ_ G a=>?_
  ·try simp[go_sem,g]
   try intros
   refine ba ?_;refine wS a (λo=>[(6,.v (vD o))]) (λo a=>?_) λ_ u z a=>?_
   ·refine wK [4,5] ?_;exact wm b a
   refine wB ?_;obtain⟨M,A,h⟩:=a;refine bG A [0,32,33] (λp e=>[(6,.v (vD e)),(34,.v (.int .i64 p))]) (λe _ v=>?_) λp e _ _ f k w y a=>?_
   ·exact wn v (u _) h
   refine wW ?_;refine wu f k ?_;refine wW ?_;refine wB ?_;obtain⟨N,g,a⟩:=Rx g a;refine wK [0,6,8,9,32,33,34] ?_;refine wW ?_;refine wI a (λB a=>?_) λB a=>?_
   ·cases w _ (ai a);cases b _ (z _ h);refine wW ?_;try simp[go_sem,g]
   obtain⟨g,a⟩:=Rz g a
   iterate 2 refine wW ?_
   refine wK [0,6,10,11,32,33,34] ?_;obtain⟨K,g,a⟩:=Rx g a;obtain⟨P,g,a⟩:=Rx g a;refine wW ?_;refine wK [0,6,11,12,32,33,34] ?_;obtain⟨Q,g,a⟩:=Rx g a;try simp only[zu]at g
   refine wW ?_;exact wi f k (y _) (ai a)
  refine wB ?_;obtain⟨L,t,F⟩:=a;refine ka t [0,1] (λc=>[(6,.v (vD c.1)),(7,.v (.int .i64 c.2))]) λc _ _ H I a=>?_
  refine wW ?_;refine wI a (λE a=>?_) λE a=>?_
  ·refine wW ?_;refine wB ?_;obtain⟨g,a⟩:=Rg g a;refine wK [0,1,6,7] ?_;exact wT (I _) (ai a)
  cases H _ (ai a);exact wT (G _) F
 refine wE a qZ λR a=>?_
 refine wG a (λd a=>?_) λd a=>?_
 ·exact wV d (n _) (ai a)
 try simp[go_sem,g,d]
 try intros
 exact wT (n _) (ai a)
def zC(e:List Int)(f:Int)(g:Int)(d:Int):Option (List Int×(List Int×Int×Int)):=
 ((dO (σ:=(List Int×Int×Int)×List Int×Int) (λa=>
 if decide (a.2.2<d)=O then(
 (fu a.1.1 a.1.2.1 a.1.2.2 24).bind λb=>
 gd ((a.2.1.length+1)*8<=140737488355328/\a.2.1.length+1<=4611686018427387904)<|
 J (.go ((b.2.1,b.2.2.1,b.2.2.2),a.2.1++[b.1],i64.wrap (a.2.2+1))))else(
 J (.out ((a.1.1,a.1.2.1,a.1.2.2),a.2.1)))) ((e,f,g),[],1):Option (((List Int×Int×Int)×List Int))).bind λc=>
 (Ju d c.2).bind λh=>
 J (h.1,(c.1.1,c.1.2.1,c.1.2.2)))
def NE{e f h d r}(n:zC e f h d=J r):aq zH 29 [(.io,vB e f h),(.sh,.int .i64 d)] (Eo (vD r.1) [vB r.2.1 r.2.2.1 r.2.2.2,.az]):=by
 apply pF 26 [0] [] [] [.tmp 4] n zKL Tryz.func29;intro w k a g;unfold zC at a
 iterate 3 refine wW ?_
 refine wJ a (λc=>[(0,.v (vB c.1.1 c.1.2.1 c.1.2.2)),(1,.v (.int .i64 d)),(5,.v (vD c.2))]) (λc a=>?_) λ_ m a=>?_
 ·refine wE a zmH λv a=>?_
  refine wK [0,7] ?_;exact wl k a
 refine wB ?_;obtain⟨t,j,p⟩:=a;refine pL j (λb=>[(0,.v (vB b.1.1 b.1.2.1 b.1.2.2)),(1,.v (.int .i64 d)),(5,.v (vD b.2.1)),(6,.v (.int .i64 b.2.2))]) λb _ _ q s a=>?_
 refine wW ?_;refine wI a (λo a=>?_) λo a=>?_
 ·refine wW ?_;refine wB ?_;refine wC a [.io,.sh] gA λu a=>?_
  obtain⟨g,a⟩:=Rg g a;refine wK [0,1,5,6] ?_;exact wT (s _) (ai a)
 cases q _ (ai a);exact wT (m _) p
def HE(f:List Int)(g:Int)(h:Int)(d:am)(e:Int):Option (List Int×(List Int×Int×Int)):=
 ((dO (σ:=(List Int×Int×Int)×Int×List Int) (λa=>
 if decide (0<a.2.1)=O then(
 (DC a.1.1 a.1.2.1 a.1.2.2 d).bind λb=>
 gd ((a.2.2.length+1)*8<=140737488355328/\a.2.2.length+1<=4611686018427387904)<|
 J (.go ((b.2.1,b.2.2.1,b.2.2.2),i64.wrap (a.2.1-1),a.2.2++[b.1])))else(
 J (.out ((a.1.1,a.1.2.1,a.1.2.2),a.2.2)))) ((f,g,h),e,[]):Option (((List Int×Int×Int)×List Int))).bind λc=>
 J (c.2,(c.1.1,c.1.2.1,c.1.2.2)))
def zhS{f h j c e r}(o:HE f h j c e=J r):aq zH 46 [(.io,vB f h j),(.sh,vE c),(.sh,.int .i64 e)] (Eo (vD r.1) [vB r.2.1 r.2.2.1 r.2.2.2,.az,.az]):=by
 apply pF 19 [0] [] [] [.tmp 6] o zJA Tryz.func46;intro w m a g;unfold HE at a
 iterate 2 refine wW ?_
 refine wJ a (λd=>[(0,.v (vB d.1.1 d.1.2.1 d.1.2.2)),(7,.v (vD d.2))]) (λd a=>?_) λ_ n a=>?_
 ·exact wl m a
 refine wB ?_;obtain⟨u,k,q⟩:=a;refine pL k (λb=>[(0,.v (vB b.1.1 b.1.2.1 b.1.2.2)),(2,.v (.int .i64 b.2.1)),(4,.bl [.int .i64 c.P,.int .i64 c.Q,.int .i64 c.G]),(7,.v (vD b.2.2))]) λb _ _ s t a=>?_
 refine wW ?_;refine wI a (λp a=>?_) λp a=>?_
 ·refine wW ?_;refine wB ?_;refine wC a [.io,.sh] Ru λv a=>?_
  obtain⟨g,a⟩:=Rg g a;refine wK [0,2,4,7] ?_;exact wT (t _) (ai a)
 cases s _ (ai a);exact wT (n _) q
def I7(g:List Int)(h:Int)(j:Int)(f:am)(c:Int):Option (List Int×(List Int×Int×Int)):=
 (HE g h j f c).bind λa=>
 (fu a.2.1 a.2.2.1 a.2.2.2 30).bind λz2=>
 ((if(z2.1==0)=O then(
 gd ((a.1.length+1)*8<=140737488355328/\a.1.length+1<=4611686018427387904)<|
 J (.inr (a.1++[0],(z2.2.1,z2.2.2.1,z2.2.2.2))))else(
 if(z2.1==1)=O then(
 if decide (0<c)=O then(
 gd (1<=a.1.length/\a.1.length<=a.1.length)<|
 J (.inr ((a.1.take a.1.length).drop 1,(z2.2.1,z2.2.2.1,z2.2.2.2))))else(
 J (.inl ((z2.2.1,z2.2.2.1,z2.2.2.2),a.1))))else(
 if(z2.1==2)=O then(
 if decide (0<c)=O then(
 (fu z2.2.1 z2.2.2.1 z2.2.2.2 c).bind λb=>
 (rc b.2.1 b.2.2.1 b.2.2.2 [(-1),f.Q]).bind λd=>
 (ix a.1 b.1).bind λk=>
 J (.inl ((d.2.1,d.2.2.1,d.2.2.2),a.1.set b.1.toNat d.1)))else(
 J (.inl ((z2.2.1,z2.2.2.1,z2.2.2.2),a.1))))else(
 J (.inl ((z2.2.1,z2.2.2.1,z2.2.2.2),a.1))))):Option (((List Int×Int×Int)×List Int) ⊕ (List Int×(List Int×Int×Int)))).bind (Sum.elim (λe=>
 J (e.2,(e.1.1,e.1.2.1,e.1.2.2))) J))
def zjP{j k m f h r}(t:I7 j k m f h=J r):aq zH 47 [(.io,vB j k m),(.sh,vE f),(.sh,.int .i64 h)] (Eo (vC r.1) [vB r.2.1 r.2.2.1 r.2.2.2,.az,.az]):=by
 apply pF 40 [0] [6] [] [.tmp 6] t zMy Tryz.func47;intro z d a g;unfold I7 at a;refine wW ?_;refine wC a [.io,.sh,.sh] zhS λy a=>?_
 refine wW ?_;refine wC a [.io,.sh] gA λz2 a=>?_
 refine wW ?_;refine wS a (λb=>[(0,.v (vB b.1.1 b.1.2.1 b.1.2.2)),(7,.v (vD b.2))]) (λb a=>?_) λ_ c e a=>?_
 ·refine wK [0,6] ?_;exact wm d a
 refine wB ?_;refine wK [0,2,4,7,13,14] ?_;refine wI a (λo a=>?_) λo a=>?_
 ·obtain⟨g,a⟩:=Rg g a;cases d _ (e _ (ai a));refine wW ?_;try simp[go_sem,g]
 refine wW ?_;refine wI a (λp a=>?_) λp a=>?_
 ·refine wW ?_;refine wI a (λq a=>?_) λq a=>?_
  ·obtain⟨g,a⟩:=Rg g a;cases d _ (e _ (ai a));refine wW ?_;try simp[go_sem,g]
  exact wT (c _) (ai a)
 refine wW ?_;refine wI a (λs a=>?_) λs a=>?_
 ·refine wW ?_;refine wI a (λn a=>?_) λn a=>?_
  ·refine wZ (kE [0,1,2,4,5,6,7,3,8,9,10] [0,0,0,0,33,34,0,3,6,0,0]) follows ?_;refine wC a [.io,.sh] gA λv a=>?_
   refine wC a [.io,.mv] yd λu a=>?_
   obtain⟨w,g,a⟩:=Rx g a;exact wT (c _) (ai a)
  exact wT (c _) (ai a)
 exact wT (c _) (ai a)
def Ms(w:List Int)(y:Int)(z:Int):Option (am×Int×List ao×List Int×(List (List Int))×(List (List Int))×(List Int×Int×Int)):=
 (A8 w y z).bind λg=>
 (rU g.2.1 g.2.2.1 g.2.2.2 24).bind λz2=>
 ((if z2.1=O then(
 (CN z2.2.1 z2.2.2.1 z2.2.2.2).bind λh=>
 J ((h.2.1,h.2.2.1,h.2.2.2),h.1.P,h.1.Q,h.1.G))else(
 J ((z2.2.1,z2.2.2.1,z2.2.2.2),g.1.P,g.1.Q,g.1.G)):Option (((List Int×Int×Int)×Int×Int×Int))).bind λb=>
 (fu b.1.1 b.1.2.1 b.1.2.2 3).bind λt=>
 ((dO (σ:=(List Int×Int×Int)×List ao×Int) (λc=>
 if decide (0<c.2.2)=O then(
 (Ko c.1.1 c.1.2.1 c.1.2.2 (am.mk b.2.1 b.2.2.1 b.2.2.2)).bind λs=>
 gd ((c.2.1.length+1)*16<=140737488355328/\c.2.1.length+1<=4611686018427387904)<|
 J (.go ((s.2.1,s.2.2.1,s.2.2.2),c.2.1++[s.1],i64.wrap (c.2.2-1))))else(
 J (.out ((c.1.1,c.1.2.1,c.1.2.2),c.2.1)))) ((t.2.1,t.2.2.1,t.2.2.2),[],i64.wrap (1+t.1)):Option (((List Int×Int×Int)×List ao))).bind λf=>
 (fu f.1.1 f.1.2.1 f.1.2.2 4).bind λm=>
 ((dO (σ:=(List Int×Int×Int)×List Int×(List (List Int))×(List (List Int))×Int) (λa=>
 if decide (0<a.2.2.2.2)=O then(
 (fu a.1.1 a.1.2.1 a.1.2.2 2).bind λj=>
 (EJ (i64.wrap (1+j.1)) (f.2.length:Int)).bind λu=>
 gd ((a.2.1.length+1)*8<=140737488355328/\a.2.1.length+1<=4611686018427387904)<|
 (zC j.2.1 j.2.2.1 j.2.2.2 (f.2.length:Int)).bind λn=>
 gd ((a.2.2.1.length+1)*24<=140737488355328/\a.2.2.1.length+1<=4611686018427387904)<|
 (HE n.2.1 n.2.2.1 n.2.2.2 (am.mk b.2.1 b.2.2.1 b.2.2.2) u.1).bind λq=>
 gd ((a.2.2.2.1.length+1)*24<=140737488355328/\a.2.2.2.1.length+1<=4611686018427387904)<|
 J (.go ((q.2.1,q.2.2.1,q.2.2.2),a.2.1++[i64.wrap (1+j.1)],a.2.2.1++[n.1],a.2.2.2.1++[q.1],i64.wrap (a.2.2.2.2-1))))else(
 J (.out ((a.1.1,a.1.2.1,a.1.2.2),a.2.1,a.2.2.1,a.2.2.2.1)))) ((m.2.1,m.2.2.1,m.2.2.2),[],[],[],m.1):Option (((List Int×Int×Int)×List Int×(List (List Int))×(List (List Int))))).bind λd=>
 ((if decide (0<(d.2.2.2.length:Int))=O then(
 (rU d.1.1 d.1.2.1 d.1.2.2 16).bind λk=>
 J ((k.2.1,k.2.2.1,k.2.2.2),k.1))else(
 J ((d.1.1,d.1.2.1,d.1.2.2),Z)):Option (((List Int×Int×Int)×Bool))).bind λe=>
 ((if e.2=O then(
 (ix d.2.2.2 0).bind λv=>
 (I7 e.1.1 e.1.2.1 e.1.2.2 (am.mk b.2.1 b.2.2.1 b.2.2.2) (v.length:Int)).bind λp=>
 J ((p.2.1,p.2.2.1,p.2.2.2),d.2.2.2.set 0 p.1))else(
 J ((e.1.1,e.1.2.1,e.1.2.2),d.2.2.2)):Option (((List Int×Int×Int)×(List (List Int))))).bind λo=>
 (Ag o.1.1 o.1.2.1 o.1.2.2 (am.mk b.2.1 b.2.2.1 b.2.2.2)).bind λr=>
 J ((am.mk b.2.1 b.2.2.1 b.2.2.2),r.1,f.2,d.2.1,d.2.2.1,o.2,(r.2.1,r.2.2.1,r.2.2.2)))))))
set_option maxHeartbeats 1000000 in
def zkb{o p q r}(H:Ms o p q=J r):aq zH 18 [(.io,vB o p q)] (Eo (.bR [vE r.1,.int .i64 r.2.1,vG r.2.2.1,vD r.2.2.2.1,vI r.2.2.2.2.1,vI r.2.2.2.2.2.1]) [vB r.2.2.2.2.2.2.1 r.2.2.2.2.2.2.2.1 r.2.2.2.2.2.2.2.2]):=by
 apply pF 95 [0] [61,68] [] [.cell 2 25,.tmp 3,.tmp 4,.tmp 5,.tmp 6,.tmp 7] H zLf Tryz.func18;intro Φ E a g;unfold Ms at a;refine wW ?_;refine wC a [.io] Zq λz1 a=>?_
 refine wK [0,2,8] ?_;refine wC a [.io,.sh] yJ λz2 a=>?_
 refine wW ?_;refine wJ a (λd=>[(0,.v (vB d.1.1 d.1.2.1 d.1.2.2)),(2,.bl [.int .i64 0,.int .i64 0,.int .i64 0]),(8,.bl [.int .i64 d.2.1,.int .i64 d.2.2.1,.int .i64 d.2.2.2])]) (λd a=>?_) λ_ s a=>?_
 ·refine wW ?_;refine wC a [.io,.sh] gA λz8 a=>?_
  refine wW ?_;refine bE a [2,8] (λf=>[(0,.v (vB f.1.1 f.1.2.1 f.1.2.2)),(9,.v (vG f.2))]) (λf a=>?_) λ_ K a=>?_
  ·refine wW ?_;refine wK [0,2,8,9,11,12,13] ?_;refine wC a [.io,.sh] gA λR a=>?_
   refine wW ?_;refine bE a [2,8,9] (λc=>[(0,.v (vB c.1.1 c.1.2.1 c.1.2.2)),(11,.v (vD c.2.1)),(12,.v (vI c.2.2.1)),(13,.v (vI c.2.2.2))]) (λc a=>?_) λ_ t a=>?_
   ·refine bE a [2,8,9,11,12,13] (λh=>[(0,.v (vB h.1.1 h.1.2.1 h.1.2.2)),(77,.v (.bool h.2))]) (λh a=>?_) λ_ m a=>?_
    ·refine bE a [2,8,9,11,12] (λj=>[(0,.v (vB j.1.1 j.1.2.1 j.1.2.2)),(13,.v (vI j.2))]) (λj a=>?_) λ_ n a=>?_
     ·refine wZ (kE [0,1,2,4,5,6,7,3,8,9,10,11,12,13] [66,0,66,0,0,0,0,3,18,0,0,0,0,0]) follows ?_;refine wC a [.io,.sh] PA λX a=>?_
      refine wK [0,2,3,4,5,6,7] ?_;exact wm E a
     refine wI a (λI a=>?_) λI a=>?_
     ·refine wZ (kD 0 [0,0,66,0,0,0,0,3,0,0]) follows ?_;obtain⟨N,g,a⟩:=hO g 0 a;try simp[go_sem,g]
      try intros
      refine wC a [.io,.sh,.sh] zjP λT a=>?_
      exact wT (n _) (ai a)
     exact wT (n _) (ai a)
    try simp[go_sem,g]
    try intros
    refine wG a (λk a=>?_) λk a=>?_
    ·try simp[go_sem,g,k]
     refine wC a [.io,.sh] yJ λL a=>?_
     exact wV k (m _) (ai a)
    exact wV k (m _) (ai a)
   refine wB ?_;obtain⟨Q,B,A⟩:=a;refine ka B [2,8,9] (λb=>[(0,.v (vB b.1.1 b.1.2.1 b.1.2.2)),(11,.v (vD b.2.1)),(12,.v (vI b.2.2.1)),(13,.v (vI b.2.2.2.1)),(14,.v (.int .i64 b.2.2.2.2))]) λb _ _ z D a=>?_
   refine wW ?_;refine wI a (λF a=>?_) λF a=>?_
   ·refine wW ?_;refine wB ?_;refine wC a [.io,.sh] gA λW a=>?_
    try simp[go_sem,g]
    try intros
    refine ba ?_;try simp[go_sem,g]
    try intros
    refine wE a Xc λM a=>?_
    refine wK [0,2,8,9,11,12,13,14,15,16] ?_;obtain⟨g,a⟩:=Rg g a;try simp[go_sem,g]
    try intros
    refine ba ?_;try simp[go_sem,g]
    try intros
    refine wC a [.io,.sh] NE λS a=>?_
    obtain⟨g,a⟩:=Rg g a;refine wK [0,2,8,9,11,12,13,14,16] ?_;refine wC a [.io,.sh,.sh] zhS λU a=>?_
    obtain⟨g,a⟩:=Rg g a;refine wW ?_;exact wT (D _) (ai a)
   cases z _ (ai a);exact wT (t _) A
  refine wB ?_;obtain⟨P,C,v⟩:=a;refine ka C [2,8] (λe=>[(0,.v (vB e.1.1 e.1.2.1 e.1.2.2)),(9,.v (vG e.2.1)),(10,.v (.int .i64 e.2.2))]) λe _ _ y w a=>?_
  refine wW ?_;refine wI a (λu a=>?_) λu a=>?_
  ·refine wW ?_;refine wB ?_;refine wC a [.io,.sh] zkR λY a=>?_
   obtain⟨g,a⟩:=Rg g a;refine wK [0,2,8,9,10] ?_;exact wT (w _) (ai a)
  cases y _ (ai a);exact wT (K _) v
 refine wI a (λG a=>?_) λG a=>?_
 ·refine wC a [.io] zjQ λz7 a=>?_
  exact wT (s _) (ai a)
 exact wT (s _) (ai a)
def FJ(b:List Int):Option (am×Int×List ao×List Int×(List (List Int))×(List (List Int))):=
 (Ms b 0 0).bind λa=>
 J (a.1,a.2.1,a.2.2.1,a.2.2.2.1,a.2.2.2.2.1,a.2.2.2.2.2.1)
def YW{b r}(d:FJ b=J r):aq zH 5 [(.sh,vA b)] (Eo (.bR [vE r.1,.int .i64 r.2.1,vG r.2.2.1,vD r.2.2.2.1,vI r.2.2.2.2.1,vI r.2.2.2.2.2]) [.az]):=by
 apply pF 20 [] [] [11] [.cell 2 25,.tmp 3,.tmp 4,.tmp 5,.tmp 6,.tmp 7] d cl5 Tryz.func5;intro f c a g;unfold FJ at a;refine wW ?_;refine wK [2,8] ?_;refine wC a [.io] zkb λe a=>?_
 refine wK [2,3,4,5,6,7] ?_;exact wm c a
def pY(a:Int)(b:Int)(c:Int):Option Bool:=
 ((if decide (b<=a)=O then(
 J (decide (a<=c)))else(
 J Z):Option Bool).bind λd=>
 J d)
def vo{c d e r}(k:pY c d e=J r):aq zH 32 [(.sh,.int .i64 c),(.sh,.int .i64 d),(.sh,.int .i64 e)] (Eo (.bool r) gJ):=by
 apply pF 15 [] [] [] [.tmp 6] k zMY Tryz.func32;intro m j a g;unfold pY at a;refine wW ?_;refine wJ a (λh=>[(6,.v (.bool h))]) (λh a=>?_) λ_ f a=>?_
 ·exact wm j a
 refine wG a (λb a=>?_) λb a=>?_
 ·exact wV b (f _) (ai a)
 exact wV b (f _) (ai a)
def Kh(a:Int):Option Bool:=
 (pY a 2 2000000000).bind λb=>
 J b
def zo6{b r}(d:Kh b=J r):aq zH 116 [(.sh,.int .i64 b)] (Eo (.bool r) [.az]):=by
 apply pF 5 [] [] [] [.tmp 2] d zEH Tryz.func116;intro f c a g;unfold Kh at a;refine wW ?_;refine wE a vo λe a=>?_
 exact wl c a
def Fm(a:Int):Option Bool:=
 (((Kh a).bind λd=>
 if(!d)=O then(
 J O)else(
 if((a.tmod 2)==0)=O then(
 J (a !=2))else(
 J Z)):Option Bool).bind λc=>
 if c=O then(
 J Z)else(
 ((dO (σ:=Int) (λb=>
 if decide ((i64.wrap (b*b))<=a)=O then(
 gd (b≠0)<|
 if((a.tmod b)==0)=O then(
 J (.out (.inr Z)))else(
 J (.go (i64.wrap (b+2)))))else(
 J (.out (.inl ())))) 3:Option (Unit ⊕ Bool)).bind (Sum.elim (λe=>
 J O) J))))
def Xm{c r}(u:Fm c=J r):aq zH 86 [(.sh,.int .i64 c)] (Eo (.bool r) [.az]):=by
 apply pF 27 [] [] [] [.tmp 2] u zIX Tryz.func86;intro A d a g;unfold Fm at a;refine wW ?_;refine wJ a (λm=>[(0,.v (.int .i64 c)),(15,.v (.bool m))]) (λm a=>?_) λ_ e a=>?_
 ·refine wI a (λt a=>?_) λt a=>?_
  ·exact wl d a
  iterate 2 refine wW ?_
  refine wS a (λq=>[]) (λq a=>?_) λ_ n p a=>?_
  ·exact wl d a
  refine wB ?_;obtain⟨y,o,j⟩:=a;refine pL o (λh=>[(0,.v (.int .i64 c)),(3,.v (.int .i64 h))]) λh _ _ k w a=>?_
  refine wW ?_;refine wI a (λv a=>?_) λv a=>?_
  ·refine wW ?_;refine wB ?_;obtain⟨g,a⟩:=Rz g a;refine wK [0,3,26] ?_;refine wI a (λs a=>?_) λs a=>?_
   ·cases k _ (ai a);cases d _ (p _ j);refine wW ?_;try simp[go_sem,g]
   refine wW ?_;exact wT (w _) (ai a)
  cases k _ (ai a);exact wT (n _) j
 refine wE a zo6 λz a=>?_
 refine wG a (λb a=>?_) λb a=>?_
 ·exact wV b (e _) (ai a)
 have g:=Ld g 2;try simp[go_sem,g,b]
 refine wG a (λf a=>?_) λf a=>?_
 ·try simp[go_sem,g,f,b]
  exact wT (e _) (ai a)
 try simp[go_sem,g,f,b]
 exact wT (e _) (ai a)
def ou(c:Int)(d:Int)(b:Int):Option Int:=
 gd (b≠0)<|
 ((dO (σ:=Int×Int×Int) (λa=>
 if decide (0<a.2.1)=O then(
 ((if((i64.wrap ((BitVec.ofInt i64.bits a.2.1&&&BitVec.ofInt i64.bits 1).toNat))==1)=O then(
 gd (b≠0)<|
 J ((i64.wrap (a.2.2*a.1)).tmod b))else(
 J a.2.2):Option Int).bind λe=>
 gd (b≠0)<|
 J (.go ((i64.wrap (a.1*a.1)).tmod b,a.2.1.fdiv 2,e))))else(
 J (.out a.2.2))) (c,d,(1:Int).tmod b):Option Int).bind λf=>
 J f)
def Fw{e f c r}(u:ou e f c=J r):aq zH 87 [(.sh,.int .i64 e),(.sh,.int .i64 f),(.sh,.int .i64 c)] (Eo (.int .i64 r) gJ):=by
 apply pF 28 [] [] [] [.tmp 6] u zLO Tryz.func87;intro w k a g;unfold ou at a;obtain⟨g,a⟩:=Rz g a
 iterate 2 refine wW ?_
 refine wJ a (λj=>[(7,.v (.int .i64 j))]) (λj a=>?_) λ_ m a=>?_
 ·exact wl k a
 refine wB ?_;obtain⟨v,s,o⟩:=a;refine pL s (λb=>[(0,.v (.int .i64 b.1)),(1,.v (.int .i64 b.2.1)),(2,.v (.int .i64 c)),(7,.v (.int .i64 b.2.2))]) λb _ _ p n a=>?_
 refine wW ?_;refine wI a (λt a=>?_) λt a=>?_
 ·refine wW ?_;refine wB ?_;refine wW ?_;refine bE a [0,1,2] (λh=>[(7,.v (.int .i64 h))]) (λh a=>?_) λ_ d a=>?_
  ·obtain⟨g,a⟩:=Rz g a;refine wK [0,1,2,7] ?_;have g:=Ls g 1;exact wT (n _) (ai a)
  refine wI a (λq a=>?_) λq a=>?_
  ·obtain⟨g,a⟩:=Rz g a;exact wT (d _) (ai a)
  exact wT (d _) (ai a)
 cases p _ (ai a);exact wT (m _) o
def HZ(a:am):Option Bool:=
 (((pY a.P 3 2000000000).bind λf=>
 if f=O then(
 (pY a.Q 2 (i64.wrap (a.P-1))).bind λg=>
 if g=O then(
 gd (a.Q≠0)<|
 if(((i64.wrap (a.P-1)).tmod a.Q)==0)=O then(
 (pY a.G 2 (i64.wrap (a.P-1))).bind λh=>
 if h=O then(
 (Fm a.P).bind λb=>
 if b=O then(
 (Fm a.Q).bind λc=>
 if c=O then(
 (ou a.G a.Q a.P).bind λd=>
 J (d==1))else(
 J Z))else(
 J Z))else(
 J Z))else(
 J Z))else(
 J Z))else(
 J Z):Option Bool).bind λe=>
 J e)
def zmL{k r}(o:HZ k=J r):aq zH 49 [(.sh,vE k)] (Eo (.bool r) [.az]):=by
 apply pF 51 [] [] [] [.tmp 2] o zJN Tryz.func49;intro w n a g;unfold HZ at a;refine wW ?_;refine wJ a (λm=>[(2,.v (.bool m))]) (λm a=>?_) λ_ b a=>?_
 ·exact wm n a
 refine wE a vo λt a=>?_
 refine wG a (λf a=>?_) λf a=>?_
 ·try simp[go_sem,g,f]
  refine wE a vo λu a=>?_
  try simp[go_sem,g,f]
  refine wG a (λj a=>?_) λj a=>?_
  ·obtain⟨g,a⟩:=Rz g a;try simp[go_sem,g,j]
   refine wG a (λh a=>?_) λh a=>?_
   ·try simp[go_sem,g,h]
    refine wE a vo λv a=>?_
    try simp[go_sem,g,h]
    refine wG a (λc a=>?_) λc a=>?_
    ·try simp[go_sem,g,c]
     refine wE a Xm λp a=>?_
     try simp[go_sem,g,c]
     refine wG a (λe a=>?_) λe a=>?_
     ·try simp[go_sem,g,e]
      refine wE a Xm λq a=>?_
      try simp[go_sem,g,e]
      refine wG a (λd a=>?_) λd a=>?_
      ·try simp[go_sem,g,d]
       refine wE a Fw λs a=>?_
       exact wV d (b _) (ai a)
      exact wV d (b _) (ai a)
     exact wV e (b _) (ai a)
    exact wV c (b _) (ai a)
   exact wV h (b _) (ai a)
  exact wV j (b _) (ai a)
 exact wV f (b _) (ai a)
def Bw(a:am)(b:Int):Option Bool:=
 (((pY b 1 (i64.wrap (a.P-1))).bind λd=>
 if d=O then(
 (ou b a.Q a.P).bind λe=>
 J (e==1))else(
 J Z):Option Bool).bind λc=>
 J c)
def MZ{c d r}(j:Bw c d=J r):aq zH 50 [(.sh,vE c),(.sh,.int .i64 d)] (Eo (.bool r) cM):=by
 apply pF 19 [] [] [] [.tmp 4] j zLc Tryz.func50;intro n h a g;unfold Bw at a;refine wW ?_;refine wJ a (λf=>[(4,.v (.bool f))]) (λf a=>?_) λ_ e a=>?_
 ·exact wm h a
 refine wE a vo λk a=>?_
 refine wG a (λb a=>?_) λb a=>?_
 ·try simp[go_sem,g,b]
  refine wE a Fw λm a=>?_
  exact wV b (e _) (ai a)
 exact wV b (e _) (ai a)
def Lb(a:am)(b:ao):Option Bool:=
 (((Bw a b.A).bind λd=>
 if d=O then(
 (Bw a b.B).bind λe=>
 J e)else(
 J Z):Option Bool).bind λc=>
 J c)
def zlu{c d r}(j:Lb c d=J r):aq zH 119 [(.sh,vE c),(.sh,vF d)] (Eo (.bool r) cM):=by
 apply pF 15 [] [] [] [.tmp 4] j zHi Tryz.func119;intro n h a g;unfold Lb at a;refine wW ?_;refine wJ a (λf=>[(4,.v (.bool f))]) (λf a=>?_) λ_ e a=>?_
 ·exact wm h a
 refine wE a MZ λk a=>?_
 refine wG a (λb a=>?_) λb a=>?_
 ·try simp[go_sem,g,b]
  refine wE a MZ λm a=>?_
  exact wV b (e _) (ai a)
 exact wV b (e _) (ai a)
def N9(c:ao)(e:Int)(a:Int)(b:Int):Option Bool:=
 (Lb (am.mk e a b) c).bind λd=>
 J (!d)
def zjR{d e b c r}(h:N9 d e b c=J r):aq zH 118 [(.sh,vF d),(.sh,.fp [.int .i64 e,.int .i64 b,.int .i64 c])] (Eo (.bool r) cM):=by
 apply pF 8 [] [] [] [.tmp 3] h zFc Tryz.func118;intro k f a g;unfold N9 at a;refine wW ?_;refine wE a zlu λj a=>?_
 exact wl f a
def Li(a:List ao)(e:Int)(h:Int)(g:Int):Option Int:=
 ((aO (σ:=Unit) (λb f=>
 (ix a b).bind λc=>
 (N9 c e h g).bind λd=>
 if d=O then(
 J (.out (.inr b)))else(
 J (.go ()))) (λf=>.inl ()) (a.length) 0 ():Option (Unit ⊕ Int)).bind (Sum.elim (λj=>
 J (-1)) J))
def zd4{b j n m r}(v:Li b j n m=J r):aq zH 170 [(.sh,vJ b),(.sh,.func (.func 118) [] [.fp [.int .i64 j,.int .i64 n,.int .i64 m]])] (Eo (.int .i64 r) cM):=by
 apply pF 19 [] [] [] [.tmp 4] v zFr Tryz.func170;intro C c a g;unfold Li at a
 iterate 2 (try simp[go_sem,g];try intros;refine ba ?_)
 refine wS a (λy=>[]) (λy a=>?_) λ_ o t a=>?_
 ·exact wl c a
 refine wB ?_;obtain⟨B,u,e⟩:=a;refine bG u [0,1,7] (λh k=>[(8,.v (.int .i64 h))]) (λk _ w=>?_) λh k _ _ f d q p a=>?_
 ·exact wn w (o _) e
 refine wW ?_;refine wu f d ?_;refine wW ?_;refine wB ?_;obtain⟨z,g,a⟩:=Rx g a;refine wW ?_;refine wE a zjR λA a=>?_
 refine wK [0,1,5,7,8,16] ?_;refine wI a (λs a=>?_) λs a=>?_
 ·cases q _ (ai a);cases c _ (t _ e);refine wW ?_;try simp[go_sem,g]
 refine wW ?_;exact wi f d (p _) (ai a)
def Mz(a:List ao)(b:Int)(d:Int)(c:Int):Option Bool:=
 (Li a b d c).bind λe=>
 J (decide (0<=e))
def zdJ{b c e d r}(h:Mz b c e d=J r):aq zH 117 [(.sh,vJ b),(.sh,.func (.func 118) [] [.fp [.int .i64 c,.int .i64 e,.int .i64 d]])] (Eo (.bool r) cM):=by
 apply pF 9 [] [] [] [.tmp 4] h zEF Tryz.func117;intro k f a g;unfold Mz at a;refine wW ?_;refine wE a zd4 λj a=>?_
 exact wl f a
def Ir(a:am)(b:List ao):Option Bool:=
 ((if decide ((b.length:Int)<=24)=O then(
 (Mz b a.P a.Q a.G).bind λd=>
 J (!d))else(
 J Z):Option Bool).bind λc=>
 J c)
def zkW{c d r}(j:Ir c d=J r):aq zH 88 [(.sh,vE c),(.sh,vJ d)] (Eo (.bool r) cM):=by
 apply pF 14 [] [] [1000000] [.tmp 4] j zL1 Tryz.func88;intro m h a g;unfold Ir at a;refine wW ?_;refine wJ a (λf=>[(4,.v (.bool f))]) (λf a=>?_) λ_ e a=>?_
 ·exact wm h a
 try simp[go_sem,g]
 try intros
 refine wG a (λb a=>?_) λb a=>?_
 ·try simp[go_sem,g,b]
  refine wE a zdJ λk a=>?_
  exact wV b (e _) (ai a)
 exact wV b (e _) (ai a)
def Ay(b:am)(a:List ao):Option Bool:=
 (((pY (a.length:Int) 1 12).bind λd=>
 if d=O then(
 (Ir b a).bind λe=>
 J e)else(
 J Z):Option Bool).bind λc=>
 J c)
def Py{c d r}(j:Ay c d=J r):aq zH 51 [(.sh,vE c),(.sh,vJ d)] (Eo (.bool r) cM):=by
 apply pF 13 [] [] [] [.tmp 4] j zLv Tryz.func51;intro n h a g;unfold Ay at a;refine wW ?_;refine wJ a (λf=>[(4,.v (.bool f))]) (λf a=>?_) λ_ e a=>?_
 ·exact wm h a
 try simp[go_sem,g]
 try intros
 refine wE a vo λk a=>?_
 refine wG a (λb a=>?_) λb a=>?_
 ·try simp[go_sem,g,b]
  refine wE a zkW λm a=>?_
  exact wV b (e _) (ai a)
 exact wV b (e _) (ai a)
def ND(b:ByteArray)(c:List Int):Option ((List Int)):=
 ((dO (σ:=(List Int)×Int) (λa=>
 if decide (a.2<(b.size:Int))=O then(
 (yA b a.2).bind λe=>
 gd ((a.1.length+1)*8<=140737488355328/\a.1.length+1<=4611686018427387904)<|
 J (.go (a.1++[i64.wrap e],i64.wrap (a.2+1))))else(
 J (.out a.1))) ([(b.size:Int)],0):Option ((List Int))).bind λd=>
 gd ((d.length+c.length)*8<=140737488355328/\d.length+c.length<=4611686018427387904)<|
 J (d++c))
def zpf{d b r}(o:ND d b=J r):aq zH 172 [(.sh,.str d),(.sh,vC b)] (Eo (vD r) cM):=by
 apply pF 26 [] [] [] [.tmp 4] o zFI Tryz.func172;intro t f a g;unfold ND at a
 iterate 3 refine wW ?_
 refine wJ a (λe=>[(1,.v (vC b)),(5,.v (vD e))]) (λe a=>?_) λ_ h a=>?_
 ·obtain⟨g,a⟩:=Rg g a;refine wK [4] ?_;exact wm f a
 refine wB ?_;obtain⟨q,p,k⟩:=a;refine ka p [0,1,11] (λc=>[(5,.v (vD c.1)),(12,.v (.int .i64 c.2))]) λc _ _ m j a=>?_
 refine wW ?_;refine wI a (λn a=>?_) λn a=>?_
 ·refine wW ?_;refine wB ?_;refine wK [0,1,5,6,11,12] ?_;obtain⟨s,g,a⟩:=Rxs g a;obtain⟨g,a⟩:=Rg g a;refine wW ?_;exact wT (j _) (ai a)
 cases m _ (ai a);exact wT (h _) k
def Jl(a:Int):Option Bool:=
 (pY a 0 4611686018427387903).bind λb=>
 J b
def zp0{b r}(d:Jl b=J r):aq zH 192 [(.sh,.int .i64 b)] (Eo (.bool r) [.az]):=by
 apply pF 5 [] [] [] [.tmp 2] d zEW Tryz.func192;intro f c a g;unfold Jl at a;refine wW ?_;refine wE a vo λe a=>?_
 exact wl c a
def ID(a:Int):Option Bool:=
 (Jl a).bind λb=>
 J (!b)
def ziU{b r}(d:ID b=J r):aq zH 79 [(.sh,.int .i64 b),(.sh,.fp [.func (.func 192) [] []])] (Eo (.bool r) cM):=by
 apply pF 8 [] [] [] [.tmp 3] d Nm Tryz.func79;intro f c a g;unfold ID at a;refine wW ?_;refine wE a zp0 λe a=>?_
 exact wl c a
def Uo(a:List Int):Option Int:=
 ((aO (σ:=Unit) (λb e=>
 (ix a b).bind λc=>
 (ID c).bind λd=>
 if d=O then(
 J (.out (.inr b)))else(
 J (.go ()))) (λe=>.inl ()) (a.length) 0 ():Option (Unit ⊕ Int)).bind (Sum.elim (λf=>
 J (-1)) J))
def zfh{b r}(s:Uo b=J r):aq zH 112 [(.sh,vC b),(.sh,.func (.func 79) [] [.fp [.func (.func 192) [] []]])] (Eo (.int .i64 r) cM):=by
 apply pF 19 [] [] [] [.tmp 4] s Nq Tryz.func112;intro z c a g;unfold Uo at a
 iterate 2 (try simp[go_sem,g];try intros;refine ba ?_)
 refine wS a (λu=>[]) (λu a=>?_) λ_ k p a=>?_
 ·exact wl c a
 refine wB ?_;obtain⟨y,q,e⟩:=a;refine bG q [0,1,7] (λh j=>[(8,.v (.int .i64 h))]) (λj _ t=>?_) λh j _ _ f d n m a=>?_
 ·exact wn t (k _) e
 refine wW ?_;refine wu f d ?_;refine wW ?_;refine wB ?_;obtain⟨v,g,a⟩:=Rx g a;refine wW ?_;refine wE a ziU λw a=>?_
 refine wK [0,1,5,7,8,16] ?_;refine wI a (λo a=>?_) λo a=>?_
 ·cases n _ (ai a);cases c _ (p _ e);refine wW ?_;try simp[go_sem,g]
 refine wW ?_;exact wi f d (m _) (ai a)
def QK(a:List Int):Option Bool:=
 (Uo a).bind λb=>
 J (decide (0<=b))
def zeS{b r}(d:QK b=J r):aq zH 78 [(.sh,vC b),(.sh,.func (.func 79) [] [.fp [.func (.func 192) [] []]])] (Eo (.bool r) cM):=by
 apply pF 9 [] [] [] [.tmp 4] d Nh Tryz.func78;intro f c a g;unfold QK at a;refine wW ?_;refine wE a zfh λe a=>?_
 exact wl c a
def P3(a:List Int):Option Bool:=
 (QK a).bind λb=>
 J (!b)
def zja{b r}(d:P3 b=J r):aq zH 39 [(.sh,vC b),(.sh,.func (.func 192) [] [])] (Eo (.bool r) cM):=by
 apply pF 9 [] [] [1000000] [.tmp 4] d NU Tryz.func39;intro f c a g;unfold P3 at a;refine wW ?_;refine wE a zeS λe a=>?_
 exact wl c a
def LG(a:List Int):Option Bool:=
 ((if decide ((a.length:Int)<=400)=O then(
 (P3 a).bind λc=>
 J c)else(
 J Z):Option Bool).bind λb=>
 J b)
def zoa{c r}(h:LG c=J r):aq zH 188 [(.sh,vC c)] (Eo (.bool r) [.az]):=by
 apply pF 10 [] [] [] [.tmp 2] h zGT Tryz.func188;intro k f a g;unfold LG at a;refine wW ?_;refine wJ a (λe=>[(2,.v (.bool e))]) (λe a=>?_) λ_ d a=>?_
 ·exact wm f a
 try simp[go_sem,g]
 try intros
 refine wG a (λb a=>?_) λb a=>?_
 ·try simp[go_sem,g,b]
  refine wE a zja λj a=>?_
  exact wV b (d _) (ai a)
 exact wV b (d _) (ai a)
def Ll(a:List Int):Option Int:=
 gd (([(a.length:Int)].length+a.length)*8<=140737488355328/\[(a.length:Int)].length+a.length<=4611686018427387904)<|
 (J ([(a.length:Int)]++a)).bind λd=>
 ((aO (σ:=Int×Int) (λf b=>
 (ix d f).bind λc=>
 J (.go ((i64.wrap ((i64.wrap ((i64.wrap (48271*((i64.wrap ((i64.wrap ((i64.wrap (48271*b.1))+(i64.wrap ((BitVec.ofInt i64.bits c&&&BitVec.ofInt i64.bits 2147483647).toNat))))+1)).tmod 2147483647)))+(c.fdiv 2147483648)))+1)).tmod 2147483647,(i64.wrap ((i64.wrap ((i64.wrap (69621*((i64.wrap ((i64.wrap ((i64.wrap (69621*b.2))+(i64.wrap ((BitVec.ofInt i64.bits c&&&BitVec.ofInt i64.bits 2147483647).toNat))))+1)).tmod 2147483647)))+(c.fdiv 2147483648)))+1)).tmod 2147483647))) (λb=>(b.1,b.2)) (d.length) 0 (1,2):Option ((Int×Int))).bind λe=>
 J (i64.wrap ((i64.wrap (e.1*2147483648))+e.2)))
def ztH{b r}(q:Ll b=J r):aq zH 189 [(.sh,vC b)] (Eo (.int .i64 r) [.az]):=by
 apply pF 52 [] [] [] [.tmp 2] q zFB Tryz.func189;intro y n a g;unfold Ll at a;obtain⟨g,a⟩:=Rg g a;obtain⟨t,d,a⟩:=mn a;have g:=And.intro g (show[.int .i64 (b.length:Int)]::(List.map ay b)=t.map ay by injection d with d;rw[<-d];simp[go_sem])
 iterate 2 (try simp[go_sem,g];try intros;refine ba ?_)
 try simp[go_sem,g]
 try intros
 refine wK [3,4,13,14,15] ?_;refine wJ a (λe=>[(3,.v (.int .i64 e.1)),(4,.v (.int .i64 e.2))]) (λe a=>?_) λ_ o a=>?_
 ·have g:=Ls g 31;exact wl n a
 refine wB ?_;obtain⟨w,p,k⟩:=a;refine bG p [13,14] (λf c=>[(3,.v (.int .i64 c.1)),(4,.v (.int .i64 c.2)),(15,.v (.int .i64 f))]) (λc _ s=>?_) λf c _ _ h j u m a=>?_
 ·exact wn s (o _) k
 refine wW ?_;refine wu h j ?_;refine wW ?_;refine wB ?_;obtain⟨v,g,a⟩:=Rx g a;have g:=Ls g 31;refine wW ?_;refine wK [3,4,7,8,13,14,15] ?_;have g:=Ld g 2147483647;refine wW ?_;refine wK [3,4,7,8,13,14,15] ?_;refine wW ?_;refine wK [3,4,13,14,15] ?_;exact wi h j (m _) (ai a)
def Ka(a:List Int):Option (Int×Bool):=
 (LG a).bind λb=>
 if(!b)=O then(
 J (0,Z))else(
 (Ll a).bind λc=>
 J (c,O))
def zpG{b r}(e:Ka b=J r):aq zH 171 [(.sh,vC b)] (Eo (.bR [.int .i64 r.1,.bool r.2]) [.az]):=by
 apply pF 9 [] [] [] [.tmp 2,.tmp 3] e zFh Tryz.func171;intro j c a g;unfold Ka at a;refine wW ?_;refine wE a zoa λf a=>?_
 refine wW ?_;refine wI a (λd a=>?_) λd a=>?_
 ·exact wl c a
 refine wW ?_;refine wE a ztH λh a=>?_
 exact wl c a
def DS(a:ByteArray)(b:List Int):Option (Int×Bool):=
 ((if decide (40<(a.size:Int))=O then(
 J O)else(
 J (decide (400<(b.length:Int)))):Option Bool).bind λd=>
 if d=O then(
 J (0,Z))else(
 (ND a b).bind λe=>
 (Ka e).bind λc=>
 J (c.1,c.2)))
def zi7{c d r}(k:DS c d=J r):aq zH 120 [(.sh,.str c),(.sh,vC d)] (Eo (.bR [.int .i64 r.1,.bool r.2]) cM):=by
 apply pF 20 [] [] [] [.tmp 4,.tmp 5] k zEA Tryz.func120;intro o e a g;unfold DS at a;refine wW ?_;refine bE a [0,1] (λh=>[(13,.v (.bool h))]) (λh a=>?_) λ_ f a=>?_
 ·refine wI a (λj a=>?_) λj a=>?_
  ·exact wl e a
  refine wW ?_;refine wE a zpf λm a=>?_
  refine wE a zpG λn a=>?_
  refine wK [4,5] ?_;exact wm e a
 refine wG a (λb a=>?_) λb a=>?_
 ·exact wV b (f _) (ai a)
 try simp[go_sem,g,b]
 try intros
 exact wT (f _) (ai a)
def yM(a:am)(e:ByteArray)(f:Int):Option (Int×Bool):=
 ((dO (σ:=Int) (λb=>
 if decide (b<1000)=O then(
 (DS e [a.P,a.Q,a.G,f,b]).bind λd=>
 if(!d.2)=O then(
 J (.out (.inr (0,Z))))else(
 gd (i64.wrap (a.P-1)≠0)<|
 gd (a.Q≠0)<|
 (ou (i64.wrap (1+(d.1.tmod (i64.wrap (a.P-1))))) (i64.wrap ((i64.wrap (a.P-1)).tdiv a.Q)) a.P).bind λc=>
 if(c !=1)=O then(
 J (.out (.inr (c,O))))else(
 J (.go (i64.wrap (b+1))))))else(
 J (.out (.inl ())))) 0:Option (Unit ⊕ (Int×Bool))).bind (Sum.elim (λg=>
 J (0,Z)) J))
def ZG{e f h r}(t:yM e f h=J r):aq zH 89 [(.sh,vE e),(.sh,.str f),(.sh,.int .i64 h)] (Eo (.bR [.int .i64 r.1,.bool r.2]) gJ):=by
 apply pF 50 [] [] [] [.tmp 6,.tmp 7] t zNd Tryz.func89;intro z b a g;unfold yM at a
 iterate 2 refine wW ?_
 refine wS a (λu=>[]) (λu a=>?_) λ_ m j a=>?_
 ·exact wl b a
 refine wB ?_;obtain⟨y,q,c⟩:=a;refine ka q [1,2,3] (λk=>[(12,.v (.int .i64 k))]) λk _ _ d n a=>?_
 refine wW ?_;refine wI a (λs a=>?_) λs a=>?_
 ·refine wW ?_;refine wB ?_;refine wW ?_;refine wE a zi7 λw a=>?_
  refine wK [1,2,3,9,10,12] ?_;refine wW ?_;refine wI a (λp a=>?_) λp a=>?_
  ·cases d _ (ai a);cases b _ (j _ c);refine wW ?_;try simp[go_sem,g]
  refine wW ?_;refine wZ (kD 0 [0,25,26,0,0,0,25,26,0,25,26,0,25,26,3,0]) follows ?_
  iterate 2 obtain⟨g,a⟩:=Rz g a
  refine wE a Fw λv a=>?_
  refine wK [1,2,3,11,12] ?_;refine wW ?_;refine wI a (λo a=>?_) λo a=>?_
  ·cases d _ (ai a);cases b _ (j _ c);refine wW ?_;try simp[go_sem,g]
  refine wW ?_;exact wT (n _) (ai a)
 cases d _ (ai a);exact wT (m _) c
def kR(c:am)(f:Int):Option (ct×Bool):=
 (yM c (⟨#[104]⟩:ByteArray) 0).bind λe=>
 ((dO (σ:=Int×List Int×Bool×Int) (λa=>
 if decide (a.2.2.2<f)=O then(
 (yM c (⟨#[104,115]⟩:ByteArray) a.2.2.2).bind λd=>
 ((if a.2.2.1=O then(
 J d.2)else(
 J Z):Option Bool).bind λh=>
 gd ((a.2.1.length+1)*8<=140737488355328/\a.2.1.length+1<=4611686018427387904)<|
 J (.go (a.1,a.2.1++[d.1],h,i64.wrap (a.2.2.2+1)))))else(
 J (.out (a.1,a.2.1,a.2.2.1)))) (e.1,[],O,0):Option ((Int×List Int×Bool))).bind λb=>
 ((if(!e.2)=O then(
 J O)else(
 J (!b.2.2)):Option Bool).bind λg=>
 if g=O then(
 J ((ct.mk 0 []),Z))else(
 J ((ct.mk b.1 b.2.1),O))))
def ziN{h k r}(y:kR h k=J r):aq zH 52 [(.sh,vE h),(.sh,.int .i64 k)] (Eo (.bR [vK r.1,.bool r.2]) cM):=by
 apply pF 49 [] [] [] [.cell 4 52,.tmp 5] y zK0 Tryz.func52;intro C m a g;unfold kR at a;refine wW ?_;refine wE a ZG λB a=>?_
 refine wK [1,2,4,6,7] ?_
 iterate 2 refine wW ?_
 refine bE a [4,7] (λc=>[(8,.bl [.int .i64 c.1,vD c.2.1]),(9,.v (.bool c.2.2))]) (λc a=>?_) λ_ v a=>?_
 ·refine bE a [4,8] (λn=>[(46,.v (.bool n))]) (λn a=>?_) λ_ f a=>?_
  ·refine wI a (λw a=>?_) λw a=>?_
   ·refine wK [4,5] ?_;exact wm m a
   refine wW ?_;refine wK [4,5] ?_;exact wm m a
  refine wG a (λd a=>?_) λd a=>?_
  ·exact wV d (f _) (ai a)
  exact wV d (f _) (ai a)
 refine wB ?_;obtain⟨z,p,s⟩:=a;refine ka p [2,4,7,20] (λb=>[(8,.bl [.int .i64 b.1,vD b.2.1]),(9,.v (.bool b.2.2.1)),(21,.v (.int .i64 b.2.2.2))]) λb _ _ t u a=>?_
 refine wW ?_;refine wI a (λq a=>?_) λq a=>?_
 ·refine wW ?_;refine wB ?_;refine wK [2,4,7,8,9,10,20,21] ?_;refine wE a ZG λA a=>?_
  refine wW ?_;refine bE a [2,4,7,8,11,20,21] (λo=>[(9,.v (.bool o))]) (λo a=>?_) λ_ j a=>?_
  ·obtain⟨g,a⟩:=Rg g a;refine wK [2,4,7,8,9,20,21] ?_;exact wT (u _) (ai a)
  refine wG a (λe a=>?_) λe a=>?_
  ·exact wV e (j _) (ai a)
  exact wV e (j _) (ai a)
 cases t _ (ai a);exact wT (v _) s
def qq(a:am)(d:Int)(b:List ao):Option (ct×Bool):=
 (((HZ a).bind λf=>
 if(!f)=O then(
 J O)else(
 (Bw a d).bind λg=>
 if(!g)=O then(
 J O)else(
 (Ay a b).bind λh=>
 J (!h))):Option Bool).bind λe=>
 if e=O then(
 J ((ct.mk 0 []),Z))else(
 (kR a (b.length:Int)).bind λc=>
 J (c.1,c.2)))
def Kd{e f h r}(n:qq e f h=J r):aq zH 19 [(.sh,vE e),(.sh,.int .i64 f),(.sh,vJ h)] (Eo (.bR [vK r.1,.bool r.2]) gJ):=by
 apply pF 30 [] [] [] [.cell 6 52,.tmp 7] n zLy Tryz.func19;intro t j a g;unfold qq at a;refine wW ?_;refine bE a [2,3,6] (λk=>[(22,.v (.bool k))]) (λk a=>?_) λ_ d a=>?_
 ·refine wI a (λm a=>?_) λm a=>?_
  ·exact wl j a
  try simp[go_sem,g]
  try intros
  refine ba ?_;try simp[go_sem,g]
  try intros
  refine wE a ziN λo a=>?_
  refine wK [6,7] ?_;exact wm j a
 refine wE a zmL λp a=>?_
 refine wG a (λb a=>?_) λb a=>?_
 ·exact wV b (d _) (ai a)
 try simp[go_sem,g,b]
 refine wE a MZ λq a=>?_
 try simp[go_sem,g,b]
 refine wG a (λc a=>?_) λc a=>?_
 ·exact wV c (d _) (ai a)
 try simp[go_sem,g,c]
 refine wE a Py λs a=>?_
 exact wV c (d _) (ai a)
def KS(a:Int):Option Bool:=
 ((if(a==1)=O then(
 J O)else(
 J (a==2)):Option Bool).bind λb=>
 J b)
def zoc{c r}(h:KS c=J r):aq zH 53 [(.sh,.int .i64 c)] (Eo (.bool r) [.az]):=by
 apply pF 9 [] [] [] [.tmp 2] h zMA Tryz.func53;intro j f a g;unfold KS at a;refine wW ?_;refine wJ a (λe=>[(2,.v (.bool e))]) (λe a=>?_) λ_ d a=>?_
 ·exact wm f a
 refine wG a (λb a=>?_) λb a=>?_
 ·exact wV b (d _) (ai a)
 exact wV b (d _) (ai a)
def Jj(b:Int)(a:Int):Option Int:=
 if(b==1)=O then(
 J (i64.wrap ((i64.wrap (5*a))+4)))else(
 J (i64.wrap ((i64.wrap (9*a))+2)))
def zmr{b c r}(f:Jj b c=J r):aq zH 54 [(.sh,.int .i64 b),(.sh,.int .i64 c)] (Eo (.int .i64 r) cM):=by
 apply pF 13 [] [] [] [.tmp 4] f zJM Tryz.func54;intro h d a g;unfold Jj at a
 iterate 2 refine wW ?_
 refine wI a (λe a=>?_) λe a=>?_
 ·exact wl d a
 cases d _ (ai a)
 iterate 2 refine wW ?_
 try simp[go_sem,g]
def NK(a:Int)(c:List Int):Option Bool:=
 (pY a 0 (i64.wrap ((c.length:Int)-1))).bind λb=>
 J b
def zkU{b c r}(e:NK b c=J r):aq zH 40 [(.sh,.int .i64 b),(.sh,.fp [vC c])] (Eo (.bool r) cM):=by
 apply pF 9 [] [] [] [.tmp 3] e zKu Tryz.func40;intro h d a g;unfold NK at a;try simp[go_sem,g]
 try intros
 refine ba ?_;try simp[go_sem,g]
 try intros
 refine wE a vo λf a=>?_
 exact wl d a
def L1(b:Int)(a:List Int):Option Bool:=
 (NK b a).bind λc=>
 J (!c)
def zhC{c b r}(e:L1 c b=J r):aq zH 79 [(.sh,.int .i64 c),(.sh,.fp [.func (.func 40) [] [.fp [vC b]]])] (Eo (.bool r) cM):=by
 apply pF 8 [] [] [] [.tmp 3] e Nm Tryz.func79;intro h d a g;unfold L1 at a;refine wW ?_;refine wE a zkU λf a=>?_
 exact wl d a
def Ol(a:List Int)(f:List Int):Option Int:=
 ((aO (σ:=Unit) (λb e=>
 (ix a b).bind λc=>
 (L1 c f).bind λd=>
 if d=O then(
 J (.out (.inr b)))else(
 J (.go ()))) (λe=>.inl ()) (a.length) 0 ():Option (Unit ⊕ Int)).bind (Sum.elim (λg=>
 J (-1)) J))
def zet{b k r}(t:Ol b k=J r):aq zH 112 [(.sh,vC b),(.sh,.func (.func 79) [] [.fp [.func (.func 40) [] [.fp [vC k]]]])] (Eo (.int .i64 r) cM):=by
 apply pF 19 [] [] [] [.tmp 4] t Nq Tryz.func112;intro A c a g;unfold Ol at a
 iterate 2 (try simp[go_sem,g];try intros;refine ba ?_)
 refine wS a (λv=>[]) (λv a=>?_) λ_ m q a=>?_
 ·exact wl c a
 refine wB ?_;obtain⟨z,s,e⟩:=a;refine bG s [0,1,7] (λh j=>[(8,.v (.int .i64 h))]) (λj _ u=>?_) λh j _ _ f d o n a=>?_
 ·exact wn u (m _) e
 refine wW ?_;refine wu f d ?_;refine wW ?_;refine wB ?_;obtain⟨w,g,a⟩:=Rx g a;refine wW ?_;refine wE a zhC λy a=>?_
 refine wK [0,1,5,7,8,16] ?_;refine wI a (λp a=>?_) λp a=>?_
 ·cases o _ (ai a);cases c _ (q _ e);refine wW ?_;try simp[go_sem,g]
 refine wW ?_;exact wi f d (n _) (ai a)
def Ql(a:List Int)(b:List Int):Option Bool:=
 (Ol a b).bind λc=>
 J (decide (0<=c))
def zec{b c r}(e:Ql b c=J r):aq zH 78 [(.sh,vC b),(.sh,.func (.func 79) [] [.fp [.func (.func 40) [] [.fp [vC c]]]])] (Eo (.bool r) cM):=by
 apply pF 9 [] [] [] [.tmp 4] e Nh Tryz.func78;intro h d a g;unfold Ql at a;refine wW ?_;refine wE a zet λf a=>?_
 exact wl d a
def Iz(a:List Int)(b:List Int):Option Bool:=
 (Ql a b).bind λc=>
 J (!c)
def zhP{b c r}(e:Iz b c=J r):aq zH 39 [(.sh,vC b),(.sh,.func (.func 40) [] [.fp [vC c]])] (Eo (.bool r) cM):=by
 apply pF 9 [] [] [1000000] [.tmp 4] e NU Tryz.func39;intro h d a g;unfold Iz at a;refine wW ?_;refine wE a zec λf a=>?_
 exact wl d a
def FA(a:List Int)(c:Int):Option Int:=
 ((aO (σ:=Unit) (λb e=>
 (ix a b).bind λd=>
 if(c==d)=O then(
 J (.out (.inr b)))else(
 J (.go ()))) (λe=>.inl ()) (a.length) 0 ():Option (Unit ⊕ Int)).bind (Sum.elim (λf=>
 J (-1)) J))
def zlk{b c r}(s:FA b c=J r):aq zH 113 [(.sh,vC b),(.sh,.int .i64 c)] (Eo (.int .i64 r) cM):=by
 apply pF 19 [] [] [] [.tmp 4] s zFq Tryz.func113;intro z d a g;unfold FA at a
 iterate 2 (try simp[go_sem,g];try intros;refine ba ?_)
 refine wS a (λv=>[]) (λv a=>?_) λ_ m p a=>?_
 ·exact wl d a
 refine wB ?_;obtain⟨y,t,f⟩:=a;refine bG t [0,1,7] (λj k=>[(8,.v (.int .i64 j))]) (λk _ u=>?_) λj k _ _ h e o n a=>?_
 ·exact wn u (m _) f
 refine wW ?_;refine wu h e ?_;refine wW ?_;refine wB ?_;obtain⟨w,g,a⟩:=Rx g a;refine wW ?_;refine wK [0,1,5,7,8,16] ?_;refine wI a (λq a=>?_) λq a=>?_
 ·cases o _ (ai a);cases d _ (p _ f);refine wW ?_;try simp[go_sem,g]
 refine wW ?_;exact wi h e (n _) (ai a)
def J9(a:List Int)(b:Int):Option Bool:=
 (FA a b).bind λc=>
 J (decide (0<=c))
def zj9{b c r}(e:J9 b c=J r):aq zH 80 [(.sh,vC b),(.sh,.int .i64 c)] (Eo (.bool r) cM):=by
 apply pF 9 [] [] [] [.tmp 4] e zLW Tryz.func80;intro h d a g;unfold J9 at a;refine wW ?_;refine wE a zlk λf a=>?_
 exact wl d a
def F6(b:List Int):Option Bool:=
 ((aO (σ:=Unit) (λa e=>
 (ix b a).bind λc=>
 gd (0<=a)<|
 gd (0<=a.toNat/\a.toNat<=b.length)<|
 (J9 ((b.take a.toNat).drop 0) c).bind λd=>
 if d=O then(
 J (.out (.inr Z)))else(
 J (.go ()))) (λe=>.inl ()) (b.length) 0 ():Option (Unit ⊕ Bool)).bind (Sum.elim (λf=>
 J O) J))
def zmI{b r}(s:F6 b=J r):aq zH 41 [(.sh,vC b)] (Eo (.bool r) [.az]):=by
 apply pF 18 [] [] [] [.tmp 2] s zK3 Tryz.func41;intro z c a g;unfold F6 at a
 iterate 2 (try simp[go_sem,g];try intros;refine ba ?_)
 refine wS a (λu=>[]) (λu a=>?_) λ_ k p a=>?_
 ·exact wl c a
 refine wB ?_;obtain⟨y,q,e⟩:=a;refine bG q [0,5,6] (λh j=>[(7,.v (.int .i64 h))]) (λj _ t=>?_) λh j _ _ f d n m a=>?_
 ·exact wn t (k _) e
 refine wW ?_;refine wu f d ?_;refine wW ?_;refine wB ?_;obtain⟨v,g,a⟩:=Rx g a;refine wK [0,3,4,5,6,7] ?_
 iterate 2 obtain⟨g,a⟩:=Rg g a
 refine wE a zj9 λw a=>?_
 refine wW ?_;refine wI a (λo a=>?_) λo a=>?_
 ·cases n _ (ai a);cases c _ (p _ e);refine wW ?_;try simp[go_sem,g]
 refine wW ?_;exact wi f d (m _) (ai a)
def xU(a:List Int):Option Bool:=
 ((if decide ((a.length:Int)<=24)=O then(
 (Iz a a).bind λc=>
 if c=O then(
 (F6 a).bind λd=>
 J d)else(
 J Z))else(
 J Z):Option Bool).bind λb=>
 J b)
def Vg{e r}(j:xU e=J r):aq zH 17 [(.sh,vC e)] (Eo (.bool r) [.az]):=by
 apply pF 15 [] [] [1000000] [.tmp 2] j zJG Tryz.func17;intro n h a g;unfold xU at a;refine wW ?_;refine wJ a (λf=>[(2,.v (.bool f))]) (λf a=>?_) λ_ d a=>?_
 ·exact wm h a
 try simp[go_sem,g]
 try intros
 refine wG a (λb a=>?_) λb a=>?_
 ·try simp[go_sem,g,b]
  refine wE a zhP λk a=>?_
  try simp[go_sem,g,b]
  refine wG a (λc a=>?_) λc a=>?_
  ·try simp[go_sem,g,c]
   refine wE a zmI λm a=>?_
   exact wV c (d _) (ai a)
  exact wV c (d _) (ai a)
 exact wV b (d _) (ai a)
def Iu(a:am)(b:Int):Option Bool:=
 (pY b 0 (i64.wrap (a.Q-1))).bind λc=>
 J c
def znr{b c r}(e:Iu b c=J r):aq zH 121 [(.sh,vE b),(.sh,.int .i64 c)] (Eo (.bool r) cM):=by
 apply pF 10 [] [] [] [.tmp 4] e zFe Tryz.func121;intro h d a g;unfold Iu at a;refine wW ?_;refine wE a vo λf a=>?_
 exact wl d a
def JP(a:Int)(b:am):Option Bool:=
 (Iu b a).bind λc=>
 J (!c)
def zh8{b c r}(e:JP b c=J r):aq zH 79 [(.sh,.int .i64 b),(.sh,.fp [.func (.func 121) [vE c] []])] (Eo (.bool r) cM):=by
 apply pF 8 [] [] [] [.tmp 3] e Nm Tryz.func79;intro h d a g;unfold JP at a;refine wW ?_;refine wE a znr λf a=>?_
 exact wl d a
def Rs(a:List Int)(e:am):Option Int:=
 ((aO (σ:=Unit) (λb f=>
 (ix a b).bind λc=>
 (JP c e).bind λd=>
 if d=O then(
 J (.out (.inr b)))else(
 J (.go ()))) (λf=>.inl ()) (a.length) 0 ():Option (Unit ⊕ Int)).bind (Sum.elim (λg=>
 J (-1)) J))
def zeR{b j r}(t:Rs b j=J r):aq zH 112 [(.sh,vC b),(.sh,.func (.func 79) [] [.fp [.func (.func 121) [vE j] []]])] (Eo (.int .i64 r) cM):=by
 apply pF 19 [] [] [] [.tmp 4] t Nq Tryz.func112;intro A c a g;unfold Rs at a
 iterate 2 (try simp[go_sem,g];try intros;refine ba ?_)
 refine wS a (λv=>[]) (λv a=>?_) λ_ m q a=>?_
 ·exact wl c a
 refine wB ?_;obtain⟨z,s,e⟩:=a;refine bG s [0,1,7] (λh k=>[(8,.v (.int .i64 h))]) (λk _ u=>?_) λh k _ _ f d o n a=>?_
 ·exact wn u (m _) e
 refine wW ?_;refine wu f d ?_;refine wW ?_;refine wB ?_;obtain⟨w,g,a⟩:=Rx g a;refine wW ?_;refine wE a zh8 λy a=>?_
 refine wK [0,1,5,7,8,16] ?_;refine wI a (λp a=>?_) λp a=>?_
 ·cases o _ (ai a);cases c _ (q _ e);refine wW ?_;try simp[go_sem,g]
 refine wW ?_;exact wi f d (n _) (ai a)
def SX(a:List Int)(b:am):Option Bool:=
 (Rs a b).bind λc=>
 J (decide (0<=c))
def zew{b c r}(e:SX b c=J r):aq zH 78 [(.sh,vC b),(.sh,.func (.func 79) [] [.fp [.func (.func 121) [vE c] []]])] (Eo (.bool r) cM):=by
 apply pF 9 [] [] [] [.tmp 4] e Nh Tryz.func78;intro h d a g;unfold SX at a;refine wW ?_;refine wE a zeR λf a=>?_
 exact wl d a
def PS(a:List Int)(b:am):Option Bool:=
 (SX a b).bind λc=>
 J (!c)
def ziK{b c r}(e:PS b c=J r):aq zH 39 [(.sh,vC b),(.sh,.func (.func 121) [vE c] [])] (Eo (.bool r) cM):=by
 apply pF 9 [] [] [1000000] [.tmp 4] e NU Tryz.func39;intro h d a g;unfold PS at a;refine wW ?_;refine wE a zew λf a=>?_
 exact wl d a
def xF(a:am)(b:List Int):Option Bool:=
 (PS b a).bind λc=>
 J c
def Ib{b c r}(e:xF b c=J r):aq zH 90 [(.sh,vE b),(.sh,vC c)] (Eo (.bool r) cM):=by
 apply pF 9 [] [] [] [.tmp 4] e zMs Tryz.func90;intro h d a g;unfold xF at a;refine wW ?_;refine wE a ziK λf a=>?_
 exact wl d a
def CK(d:am)(a:List Int)(b:List Int)(c:Int):Option Bool:=
 (((xU a).bind λf=>
 if f=O then(
 if((a.length:Int)==c)=O then(
 if((b.length:Int)==c)=O then(
 (xF d b).bind λg=>
 J g)else(
 J Z))else(
 J Z))else(
 J Z):Option Bool).bind λe=>
 J e)
def SF{f h j k r}(o:CK f h j k=J r):aq zH 55 [(.sh,vE f),(.sh,vC h),(.sh,vC j),(.sh,.int .i64 k)] (Eo (.bool r) jY):=by
 apply pF 28 [] [] [] [.tmp 8] o zKS Tryz.func55;intro s n a g;unfold CK at a;refine wW ?_;refine wJ a (λm=>[(8,.v (.bool m))]) (λm a=>?_) λ_ b a=>?_
 ·exact wm n a
 refine wE a Vg λp a=>?_
 refine wG a (λd a=>?_) λd a=>?_
 ·try simp[go_sem,g,d]
  try intros
  refine wG a (λe a=>?_) λe a=>?_
  ·try simp[go_sem,g,e]
   try intros
   refine wG a (λc a=>?_) λc a=>?_
   ·try simp[go_sem,g,c]
    refine wE a Ib λq a=>?_
    exact wV c (b _) (ai a)
   exact wV c (b _) (ai a)
  exact wV e (b _) (ai a)
 exact wV d (b _) (ai a)
def Bf(b:Int)(a:Int):Option Int:=
 gd (a≠0)<|
 gd (a≠0)<|
 J ((i64.wrap ((b.tmod a)+a)).tmod a)
def T8{b c r}(e:Bf b c=J r):aq zH 173 [(.sh,.int .i64 b),(.sh,.int .i64 c)] (Eo (.int .i64 r) cM):=by
 apply pF 12 [] [] [] [.tmp 4] e zGt Tryz.func173;intro f d a g;unfold Bf at a
 iterate 2 obtain⟨g,a⟩:=Rz g a
 cases d _ (ai a)
 iterate 2 refine wW ?_
 try simp[go_sem,g]
def cW(a:am)(b:Int)(c:Int):Option Int:=
 (Bf c a.Q).bind λd=>
 (ou b d a.P).bind λz2=>
 J z2
def eU{b c d r}(f:cW b c d=J r):aq zH 132 [(.sh,vE b),(.sh,.int .i64 c),(.sh,.int .i64 d)] (Eo (.int .i64 r) gJ):=by
 apply pF 15 [] [] [] [.tmp 6] f zGZ Tryz.func132;intro j e a g;unfold cW at a;refine wW ?_;refine wZ (kE [0,1,2,3,5,6,4,7,8] [0,0,25,26,25,26,3,3,0]) follows ?_;refine wE a T8 λh a=>?_
 refine wE a Fw λz2 a=>?_
 refine wK [6] ?_;exact wm e a
def eu(b:am)(c:List Int):Option Int:=
 ((aO (σ:=Int) (λe a=>
 (ix c e).bind λd=>
 gd (b.P≠0)<|
 J (.go ((i64.wrap (a*d)).tmod b.P))) (λa=>a) (c.length) 0 1:Option Int).bind λf=>
 J f)
def iv{c d r}(p:eu c d=J r):aq zH 133 [(.sh,vE c),(.sh,vC d)] (Eo (.int .i64 r) cM):=by
 apply pF 22 [] [] [] [.tmp 4] p zEj Tryz.func133;intro w k a g;unfold eu at a
 iterate 3 (try simp[go_sem,g];try intros;refine ba ?_)
 refine wJ a (λj=>[(5,.v (.int .i64 j))]) (λj a=>?_) λ_ m a=>?_
 ·exact wl k a
 refine wB ?_;obtain⟨t,q,o⟩:=a;refine bG q [2,8,9] (λh b=>[(5,.v (.int .i64 b)),(10,.v (.int .i64 h))]) (λb _ s=>?_) λh b _ _ f e v n a=>?_
 ·exact wn s (m _) o
 refine wW ?_;refine wu f e ?_;refine wW ?_;refine wB ?_;obtain⟨u,g,a⟩:=Rx g a;refine wK [2,5,7,8,9,10] ?_;obtain⟨g,a⟩:=Rz g a;refine wW ?_;exact wi f e (n _) (ai a)
def JN(a:am)(c:Int)(d:Int)(b:Int):Option ao:=
 (cW a a.G b).bind λe=>
 (cW a c b).bind λz2=>
 (eu a [d,z2]).bind λf=>
 J (ao.mk e f)
def zmh{b c d e r}(h:JN b c d e=J r):aq zH 123 [(.sh,vE b),(.sh,.int .i64 c),(.sh,.int .i64 d),(.sh,.int .i64 e)] (Eo (vF r) jY):=by
 apply pF 23 [] [] [] [.cell 8 70] h zF5 Tryz.func123;intro m f a g;unfold JN at a;refine wW ?_;refine wZ (kE [0,1,2,3,5,6,7,8,9,4,10,11,12,13,14] [34,33,34,0,34,0,34,0,0,3,3,0,6,0,66]) follows ?_;refine wE a eU λj a=>?_
 refine wE a eU λz2 a=>?_
 refine wE a iv λk a=>?_
 refine wK [8] ?_;exact wm f a
def P6(a:am)(b:ao)(c:ao):Option ao:=
 (eu a [b.A,c.A]).bind λd=>
 (eu a [b.B,c.B]).bind λz2=>
 J (ao.mk d z2)
def zmG{b c d r}(f:P6 b c d=J r):aq zH 122 [(.sh,vE b),(.sh,vF c),(.sh,vF d)] (Eo (vF r) gJ):=by
 apply pF 22 [] [] [] [.cell 6 70] f zDT Tryz.func122;intro j e a g;unfold P6 at a;refine wW ?_;refine wZ (kE [0,1,2,3,4,5,7,8,9,10,11,12,6,13,14,15] [26,33,34,41,42,0,26,33,34,41,42,0,6,6,0,50]) follows ?_;refine wE a iv λh a=>?_
 refine wE a iv λz2 a=>?_
 refine wK [6] ?_;exact wm e a
def Gd(a:am)(b:Int)(c:ao)(d:Int):Option ao:=
 (JN a b 1 d).bind λe=>
 (P6 a c e).bind λz2=>
 J z2
def zli{b c d e r}(h:Gd b c d e=J r):aq zH 91 [(.sh,vE b),(.sh,.int .i64 c),(.sh,vF d),(.sh,.int .i64 e)] (Eo (vF r) jY):=by
 apply pF 16 [] [] [] [.cell 8 70] h zLu Tryz.func91;intro k f a g;unfold Gd at a;refine wW ?_;refine wZ (kD 0 [34,50,34,0,0,3,3,66]) follows ?_;refine wE a zmh λj a=>?_
 refine wE a zmG λz2 a=>?_
 refine wK [8] ?_;exact wm f a
def Dl(d:am)(e:Int)(f:List ao)(b:List Int)(g:List Int):Option ((List ao)):=
 ((aO (σ:=(List ao)) (λc a=>
 (ix b c).bind λh=>
 (ix f h).bind λj=>
 (ix g c).bind λk=>
 (Gd d e j k).bind λm=>
 gd ((a.length+1)*16<=140737488355328/\a.length+1<=4611686018427387904)<|
 J (.go (a++[m]))) (λa=>a) (b.length) 0 []:Option ((List ao))).bind λn=>
 J n)
def TH{c d e f h r}(t:Dl c d e f h=J r):aq zH 56 [(.sh,vE c),(.sh,.int .i64 d),(.sh,vJ e),(.sh,vC f),(.sh,vC h)] (Eo (vG r) sU):=by
 apply pF 38 [] [] [] [.tmp 10] t zLz Tryz.func56;intro D o a g;unfold Dl at a
 iterate 3 (try simp[go_sem,g];try intros;refine ba ?_)
 refine wJ a (λn=>[(11,.v (vG n))]) (λn a=>?_) λ_ p a=>?_
 ·exact wl o a
 refine wB ?_;obtain⟨w,v,s⟩:=a;refine bG v [1,2,4,5,15,16] (λm b=>[(11,.v (vG b)),(17,.v (.int .i64 m))]) (λb _ u=>?_) λm b _ _ k j A q a=>?_
 ·exact wn u (p _) s
 refine wW ?_;refine wu k j ?_;refine wW ?_;refine wB ?_;obtain⟨y,g,a⟩:=Rx g a;refine wK [1,2,4,5,11,12,13,15,16,17] ?_;refine wZ (kD 0 [0,42,0,0,0,0,0,0,0,0,0,3,0,5,0]) follows ?_;obtain⟨z,g,a⟩:=Rx g a;obtain⟨B,g,a⟩:=Rx g a;refine wE a zli λC a=>?_
 obtain⟨g,a⟩:=Rg g a;refine wK [1,2,4,5,11,15,16,17] ?_;exact wi k j (q _) (ai a)
def jn(b:List Int)(a:Int):Option (List Int×List Int):=
 gd (0<=a)<|
 gd (0<=a.toNat/\a.toNat<=b.length)<|
 gd (0<=a)<|
 gd (a.toNat<=b.length/\b.length<=b.length)<|
 J ((b.take a.toNat).drop 0,(b.take b.length).drop a.toNat)
def mY{c b r}(e:jn c b=J r):aq zH 124 [(.io,.bx [vC c]),(.sh,.int .i64 b)] (Eo (vC r.1) [.bx [vC r.2],.az]):=by
 apply pF 22 [0] [] [] [.tmp 4] e zDW Tryz.func124;intro f d a g;unfold jn at a
 iterate 4 obtain⟨g,a⟩:=Rg g a
 iterate 2 refine wW ?_
 refine wK [0,5] ?_;exact wl d a
def ti(b:List Int):Option (Int×List Int):=
 (jn b 1).bind λa=>
 (ix a.1 0).bind λc=>
 J (c,a.2)
def Aq{b r}(d:ti b=J r):aq zH 125 [(.io,.bx [vC b])] (Eo (.int .i64 r.1) [.bx [vC r.2]]):=by
 apply pF 7 [0] [] [] [.tmp 2] d zGa Tryz.func125;intro h c a g;unfold ti at a;refine wW ?_;refine wC a [.io,.sh] mY λf a=>?_
 obtain⟨e,g,a⟩:=hO g 0 a;exact wl c a
def Kw(c:am)(e:ct)(a:List Int)(f:List Int):Option ((List Int)):=
 gd (0<=(a.length:Int)/\(a.length:Int)<=(a.length:Int)/\8*(a.length:Int)<=140737488355328/\(a.length:Int)<=4611686018427387904)<|
 (J (List.replicate a.length 0)).bind λm=>
 ((aO (σ:=(List Int)) (λji b=>
 (ix a ji).bind λd=>
 (ix f d).bind λj=>
 (ix e.Hs ji).bind λg=>
 (cW c c.G j).bind λh=>
 (eu c [h,g]).bind λk=>
 (ix b d).bind λo=>
 J (.go (b.set d.toNat k))) (λb=>b) (a.length) 0 m:Option ((List Int))).bind λn=>
 J n)
def zjT{e f b h r}(v:Kw e f b h=J r):aq zH 126 [(.sh,vE e),(.sh,vM f),(.sh,vC b),(.sh,vC h)] (Eo (vD r) jY):=by
 apply pF 43 [] [] [] [.tmp 8] v zEa Tryz.func126;intro G u a g;unfold Kw at a;obtain⟨g,a⟩:=Rg g a;obtain⟨w,d,a⟩:=mn a;have j:List.replicate b.length ([.int .i64 0]:List PV)=w.map ay:=by injection d with d;rw[<-d];simp[go_sem]
 iterate 2 (try simp[go_sem,g,j];try intros;refine ba ?_)
 try simp[go_sem,g,j]
 try intros
 refine wK [3,4,5,9,15,16,17] ?_;refine wJ a (λn=>[(9,.v (vD n))]) (λn a=>?_) λ_ o a=>?_
 ·exact wl u a
 refine wB ?_;obtain⟨A,t,q⟩:=a;refine bG t [3,4,5,15,16] (λji c=>[(9,.v (vD c)),(17,.v (.int .i64 ji))]) (λc _ s=>?_) λji c _ _ m k z p a=>?_
 ·exact wn s (o _) q
 refine wW ?_;refine wu m k ?_;refine wW ?_;refine wB ?_;obtain⟨F,g,a⟩:=Rx g a;refine wW ?_;refine wZ (kE [0,1,2,3,4,5,6,7,8,9,11,12,13,14,15,10,16,17,18,19] [0,0,34,34,33,34,0,0,0,0,41,42,0,0,0,4,0,6,0,0]) follows ?_;obtain⟨D,g,a⟩:=Rx g a;obtain⟨B,g,a⟩:=Rx g a;refine wD a eU λC a=>?_
 refine wE a iv λE a=>?_
 obtain⟨y,g,a⟩:=Rx g a;refine wK [3,4,5,9,15,16,17] ?_;exact wi m k (p _) (ai a)
def Hu(a:List ao):Option (List ao):=
 gd (a.length*16<=140737488355328/\a.length<=4611686018427387904)<|
 J a
def ze1{a:(List ao)}{r:(List ao)}(h:Hu a=J r):aq zH 26 [(.sh,.sl Z 2 (a.map im))] (Eo (.sl O 2 (r.map im)) [.az]):=by
 apply SK 8 [] [] [1000000] [.tmp 2] h zKY Tryz.func26 rfl rfl rfl
 ·exact⟨by simp,rfl⟩
 intro k d c;unfold Hu at c;obtain⟨g,c⟩:=yW c;have e:=d _ (ai c);subst e;try simp[go_sem]
 refine LF [(0,.v (.sl Z 2 (a.map im)))] (by simp[go_sem]) ?_;try simp[go_sem]
 refine zuK rfl rfl (by simp[go_sem]) rfl (by rfl) λb f=>?_
 try simp[go_sem]
 refine ba ?_
 repeat rw[T5]
 cases b
 ·refine V0 (by simp[go_sem]) ?_;try simp[go_sem]
  refine ba ?_;try simp[go_sem,g]
  refine ba ?_;try simp[go_sem,g]
 have j:a=[]:=by
  cases a with
  |nil=>rfl
  |cons x l=>exact absurd (f (by simp)) (by simp)
 subst j;refine Pd (by simp[go_sem]) ?_;try simp[go_sem]
 refine ba ?_;try simp[go_sem]
def q7(h:Int)(j:List ao)(b:List ao)(c:List Int):Option ((List Int)):=
 (Hu j).bind λe=>
 gd ((e.length+b.length)*16<=140737488355328/\e.length+b.length<=4611686018427387904)<|
 (J (e++b)).bind λg=>
 ((aO (σ:=(List Int)) (λi8 a=>
 (ix g i8).bind λf=>
 gd ((a.length+2)*8<=140737488355328/\a.length+2<=4611686018427387904)<|
 J (.go (a++[f.A,f.B]))) (λa=>a) (g.length) 0 [h]:Option ((List Int))).bind λd=>
 gd ((d.length+c.length)*8<=140737488355328/\d.length+c.length<=4611686018427387904)<|
 J (d++c))
def EH{f h b c r}(s:q7 f h b c=J r):aq zH 127 [(.sh,.int .i64 f),(.sh,vJ h),(.sh,vJ b),(.sh,vC c)] (Eo (vD r) jY):=by
 apply pF 34 [] [] [] [.tmp 8] s zFS Tryz.func127;intro B q a g;unfold q7 at a
 iterate 2 refine wW ?_
 refine wE a ze1 λw a=>?_
 obtain⟨g,a⟩:=Rg g a;obtain⟨v,d,a⟩:=mn a;have g:=And.intro g (show List.map im w++List.map im b=v.map im by injection d with d;rw[<-d];simp[go_sem]);try simp[go_sem,g]
 try intros
 refine wK [3,9,17,18,19] ?_;refine wJ a (λm=>[(3,.v (vC c)),(9,.v (vD m))]) (λm a=>?_) λ_ n a=>?_
 ·obtain⟨g,a⟩:=Rg g a;exact wl q a
 refine wB ?_;obtain⟨y,u,p⟩:=a;refine bG u [3,17,18] (λi8 e=>[(9,.v (vD e)),(19,.v (.int .i64 i8))]) (λe _ t=>?_) λi8 e _ _ k j z o a=>?_
 ·exact wn t (n _) p
 refine wW ?_;refine wu k j ?_;refine wW ?_;refine wB ?_;obtain⟨A,g,a⟩:=Rx g a;obtain⟨g,a⟩:=Rg g a;refine wW ?_;refine wK [3,9,17,18,19] ?_;exact wi k j (o _) (ai a)
def yk(a:List Int):Option (List Int):=
 gd (a.length*8<=140737488355328/\a.length<=4611686018427387904)<|
 J a
def OS{a:(List Int)}{r:(List Int)}(h:yk a=J r):aq zH 33 [(.sh,.sl Z 1 (a.map ay))] (Eo (.sl O 1 (r.map ay)) [.az]):=by
 apply SK 8 [] [] [1000000] [.tmp 2] h zMI Tryz.func33 rfl rfl rfl
 ·exact⟨by simp,rfl⟩
 intro k d c;unfold yk at c;obtain⟨g,c⟩:=yW c;have e:=d _ (ai c);subst e;try simp[go_sem]
 refine LF [(0,.v (.sl Z 1 (a.map ay)))] (by simp[go_sem]) ?_;try simp[go_sem]
 refine zuK rfl rfl (by simp[go_sem]) rfl (by rfl) λb f=>?_
 try simp[go_sem]
 refine ba ?_
 repeat rw[T5]
 cases b
 ·refine V0 (by simp[go_sem]) ?_;try simp[go_sem]
  refine ba ?_;try simp[go_sem,g]
  refine ba ?_;try simp[go_sem,g]
 have j:a=[]:=by
  cases a with
  |nil=>rfl
  |cons x l=>exact absurd (f (by simp)) (by simp)
 subst j;refine Pd (by simp[go_sem]) ?_;try simp[go_sem]
 refine ba ?_;try simp[go_sem]
def mW(a:am)(d:ByteArray)(b:List Int):Option (Int×Bool):=
 gd (([a.P,a.Q,a.G].length+b.length)*8<=140737488355328/\[a.P,a.Q,a.G].length+b.length<=4611686018427387904)<|
 (DS d ([a.P,a.Q,a.G]++b)).bind λc=>
 if(!c.2)=O then(
 J (0,Z))else(
 gd (a.Q≠0)<|
 J (c.1.tmod a.Q,O))
def yU{b c d r}(h:mW b c d=J r):aq zH 135 [(.sh,vE b),(.sh,.str c),(.sh,vC d)] (Eo (.bR [.int .i64 r.1,.bool r.2]) gJ):=by
 apply pF 30 [] [] [] [.tmp 6,.tmp 7] h zEx Tryz.func135;intro k e a g;unfold mW at a;obtain⟨g,a⟩:=Rg g a;refine wW ?_;refine wE a zi7 λj a=>?_
 refine wK [3,8,9] ?_;refine wW ?_;refine wI a (λf a=>?_) λf a=>?_
 ·exact wl e a
 obtain⟨g,a⟩:=Rz g a;cases e _ (ai a)
 iterate 2 refine wW ?_
 try simp[go_sem,g]
def A1(f:am)(g:ByteArray)(h:List Int)(b:Int):Option (List Int×Bool):=
 ((dO (σ:=(List Int)×Int) (λa=>
 if decide (a.2<(if b<1 then 1 else b))=O then(
 (yk h).bind λc=>
 gd ((c.length+1)*8<=140737488355328/\c.length+1<=4611686018427387904)<|
 (mW f g (c++[a.2])).bind λd=>
 if(!d.2)=O then(
 J (.out (.inr ([],Z))))else(
 gd ((a.1.length+1)*8<=140737488355328/\a.1.length+1<=4611686018427387904)<|
 J (.go (a.1++[d.1],i64.wrap (a.2+1)))))else(
 J (.out (.inl a.1)))) ([],0):Option ((List Int) ⊕ (List Int×Bool))).bind (Sum.elim (λe=>
 gd (0<=b)<|
 gd (0<=b.toNat/\b.toNat<=e.length)<|
 J (e.take b.toNat,O)) J))
def ZB{d e f b r}(t:A1 d e f b=J r):aq zH 128 [(.sh,vE d),(.sh,.str e),(.sh,vC f),(.sh,.int .i64 b)] (Eo (.bR [vD r.1,.bool r.2]) jY):=by
 apply pF 41 [] [] [] [.tmp 8,.tmp 9] t zEt Tryz.func128;intro z h a g;unfold A1 at a
 iterate 3 refine wW ?_
 refine wS a (λm=>[(3,.v (.int .i64 b)),(10,.v (vD m))]) (λm a=>?_) λ_ n p a=>?_
 ·obtain⟨g,a⟩:=Rg g a;obtain⟨g,a⟩:=Rg g a;refine wK [8,9] ?_;exact wm h a
 refine wB ?_;obtain⟨y,u,j⟩:=a;refine ka u [1,2,3,4,16] (λc=>[(10,.v (vD c.1)),(17,.v (.int .i64 c.2))]) λc _ _ k o a=>?_
 refine wW ?_;refine wI a (λs a=>?_) λs a=>?_
 ·refine wW ?_;refine wB ?_;refine wK [1,2,3,4,10,11,16,17] ?_;refine wZ (kE [0,1,2,4,5,3,6,7,8,9,10,11,12] [34,0,0,0,0,3,5,3,0,0,0,0,0]) follows ?_;refine wE a OS λw a=>?_
  obtain⟨g,a⟩:=Rg g a;refine wE a yU λv a=>?_
  refine wK [1,2,3,4,10,12,13,16,17] ?_;refine wW ?_;refine wI a (λq a=>?_) λq a=>?_
  ·cases k _ (ai a);cases h _ (p _ j);refine wW ?_;try simp[go_sem,g]
  obtain⟨g,a⟩:=Rg g a
  iterate 2 refine wW ?_
  exact wT (o _) (ai a)
 cases k _ (ai a);exact wT (n _) j
def BO(c:List Int)(b:List Int):Option ((List Int)):=
 ((aO (σ:=(List Int)) (λf a=>
 (ix b f).bind λd=>
 (ix c d).bind λe=>
 gd ((a.length+1)*8<=140737488355328/\a.length+1<=4611686018427387904)<|
 J (.go (a++[e]))) (λa=>a) (b.length) 0 []:Option ((List Int))).bind λg=>
 J g)
def zqY{c d r}(p:BO c d=J r):aq zH 34 [(.sh,vC c),(.sh,vC d)] (Eo (vD r) cM):=by
 apply pF 24 [] [] [] [.tmp 4] p zKM Tryz.func34;intro y k a g;unfold BO at a
 iterate 3 (try simp[go_sem,g];try intros;refine ba ?_)
 refine wJ a (λj=>[(5,.v (vD j))]) (λj a=>?_) λ_ m a=>?_
 ·exact wl k a
 refine wB ?_;obtain⟨w,q,o⟩:=a;refine bG q [0,9,10] (λh b=>[(5,.v (vD b)),(11,.v (.int .i64 h))]) (λb _ s=>?_) λh b _ _ f e v n a=>?_
 ·exact wn s (m _) o
 refine wW ?_;refine wu f e ?_;refine wW ?_;refine wB ?_;obtain⟨t,g,a⟩:=Rx g a;refine wK [0,5,7,9,10,11] ?_;obtain⟨u,g,a⟩:=Rx g a;obtain⟨g,a⟩:=Rg g a;refine wW ?_;exact wi f e (n _) (ai a)
def Ja(b:am)(f:Int)(c:List Int)(g:List Int):Option ((List Int)):=
 ((aO (σ:=Int×List Int) (λe a=>
 (ix c e).bind λh=>
 (ix g e).bind λk=>
 (cW b b.G k).bind λj=>
 (cW b a.1 h).bind λm=>
 (eu b [j,m]).bind λd=>
 gd ((a.2.length+1)*8<=140737488355328/\a.2.length+1<=4611686018427387904)<|
 J (.go (d,a.2++[d]))) (λa=>a.2) (c.length) 0 (f,[]):Option ((List Int))).bind λn=>
 J n)
def zni{c d e f r}(u:Ja c d e f=J r):aq zH 129 [(.sh,vE c),(.sh,.int .i64 d),(.sh,vC e),(.sh,vC f)] (Eo (vD r) jY):=by
 apply pF 41 [] [] [] [.tmp 8] u zHa Tryz.func129;intro D p a g;unfold Ja at a
 iterate 3 (try simp[go_sem,g];try intros;refine ba ?_)
 refine wJ a (λm=>[(9,.v (vD m))]) (λm a=>?_) λ_ q a=>?_
 ·exact wl p a
 refine wB ?_;obtain⟨v,n,t⟩:=a;refine bG n [3,4,13,14] (λk b=>[(1,.v (.int .i64 b.1)),(9,.v (vD b.2)),(15,.v (.int .i64 k))]) (λb _ o=>?_) λk b _ _ j h A s a=>?_
 ·exact wn o (q _) t
 refine wW ?_;refine wu j h ?_;refine wW ?_;refine wB ?_;obtain⟨w,g,a⟩:=Rx g a;refine wK [1,3,4,9,10,11,13,14,15] ?_;refine wZ (kE [0,1,2,3,4,5,6,7,9,10,11,8,12,13,14,15] [34,34,33,34,0,0,0,0,34,0,0,3,3,0,6,0]) follows ?_;obtain⟨z,g,a⟩:=Rx g a;refine wE a eU λy a=>?_
 refine wE a eU λB a=>?_
 refine wE a iv λC a=>?_
 refine wK [1,3,4,9,13,14,15] ?_;obtain⟨g,a⟩:=Rg g a;refine wW ?_;exact wi j h (s _) (ai a)
def fb(a:am)(b:Int):Option Int:=
 (Bf b a.Q).bind λc=>
 J c
def lG{b c r}(e:fb b c=J r):aq zH 130 [(.sh,vE b),(.sh,.int .i64 c)] (Eo (.int .i64 r) cM):=by
 apply pF 9 [] [] [] [.tmp 4] e zGH Tryz.func130;intro h d a g;unfold fb at a;refine wW ?_;refine wE a T8 λf a=>?_
 exact wl d a
def xA(b:List ao):Option (List Int×List Int):=
 ((aO (σ:=(List Int)×List Int) (λe a=>
 (ix b e).bind λc=>
 gd ((a.1.length+1)*8<=140737488355328/\a.1.length+1<=4611686018427387904)<|
 gd ((a.2.length+1)*8<=140737488355328/\a.2.length+1<=4611686018427387904)<|
 J (.go (a.1++[c.A],a.2++[c.B]))) (λa=>(a.1,a.2)) (b.length) 0 ([],[]):Option ((List Int×List Int))).bind λd=>
 J (d.1,d.2))
def FG{d r}(o:xA d=J r):aq zH 131 [(.sh,vJ d)] (Eo (.bR [vD r.1,vD r.2]) [.az]):=by
 apply pF 29 [] [] [] [.tmp 2,.tmp 3] o zDX Tryz.func131;intro v j a g;unfold xA at a
 iterate 3 (try simp[go_sem,g];try intros;refine ba ?_)
 refine wJ a (λc=>[(4,.v (vD c.1)),(5,.v (vD c.2))]) (λc a=>?_) λ_ k a=>?_
 ·refine wK [2,3] ?_;exact wm j a
 refine wB ?_;obtain⟨s,p,n⟩:=a;refine bG p [10,11] (λh b=>[(4,.v (vD b.1)),(5,.v (vD b.2)),(12,.v (.int .i64 h))]) (λb _ q=>?_) λh b _ _ f e u m a=>?_
 ·exact wn q (k _) n
 refine wK [4,5,10,11,12,13] ?_;refine wu f e ?_;refine wW ?_;refine wB ?_;obtain⟨t,g,a⟩:=Rx g a;refine wW ?_;refine wZ (kE [0,1,2,3,5,6,7,8,4,9,10,11] [0,57,58,0,0,57,58,0,5,5,0,0]) follows ?_
 iterate 2 obtain⟨g,a⟩:=Rg g a
 refine wK [4,5,10,11,12] ?_;exact wi f e (m _) (ai a)
def lT(b:am)(c:List Int)(e:List Int):Option Int:=
 ((aO (σ:=Int) (λd a=>
 (ix c d).bind λf=>
 (ix e d).bind λh=>
 (cW b f h).bind λg=>
 (eu b [a,g]).bind λj=>
 J (.go j)) (λa=>a) (c.length) 0 1:Option Int).bind λk=>
 J k)
def pG{c d e r}(q:lT c d e=J r):aq zH 134 [(.sh,vE c),(.sh,vC d),(.sh,vC e)] (Eo (.int .i64 r) gJ):=by
 apply pF 30 [] [] [] [.tmp 6] q zEI Tryz.func134;intro B m a g;unfold lT at a
 iterate 3 (try simp[go_sem,g];try intros;refine ba ?_)
 refine wJ a (λk=>[(7,.v (.int .i64 k))]) (λk a=>?_) λ_ n a=>?_
 ·exact wl m a
 refine wB ?_;obtain⟨u,t,p⟩:=a;refine bG t [2,3,10,11] (λj b=>[(7,.v (.int .i64 b)),(12,.v (.int .i64 j))]) (λb _ s=>?_) λj b _ _ h f z o a=>?_
 ·exact wn s (n _) p
 refine wW ?_;refine wu h f ?_;refine wW ?_;refine wB ?_;obtain⟨v,g,a⟩:=Rx g a;refine wK [2,3,7,8,9,10,11,12] ?_;refine wZ (kD 0 [26,0,26,0,0,0,0,0,3,0,6,0]) follows ?_;obtain⟨y,g,a⟩:=Rx g a;refine wE a eU λw a=>?_
 refine wE a iv λA a=>?_
 refine wK [2,3,7,10,11,12] ?_;exact wi h f (o _) (ai a)
def zEP:R8 zH 174 27:=by
 intro n H e b v u z c d w m o p q r;refine znc zEb Tryz.func174 rfl rfl (by simp[Tryz.f174]) λy=>?_
 have f:¬n<0:=by omega
 have h:i64.wrap n=n:=PG (by omega);have j:i64.wrap 0=0:=PG (by omega);have k:(kv zH 3).isSome=O:=by kernel_rfl
 by_cases g:0<n
 ·have s:n≠0:=by omega
  have a:=r;simp[cD]at a;simp[Tryz.f174,fW,pP,aN,fY,dK,iA,cz,bm,fk,bu,Qc,FR.put,FR.init,aZ,bO,dx,kX,cD,Am.jH,qI,rm,BD,Dv,Qp,ta,wb,D0,f,c,d,k,h,j,g,m,o,p,q,s]
  first|exact a|exact .inl a
 have t:n=0:=by omega
 subst t;simp[Tryz.f174,fW,pP,aN,fY,dK,iA,cz,bm,fk,bu,Qc,FR.put,FR.init,aZ,bO,dx,kX,cD,Am.jH,qI,rm,BD,Dv,Qp,ta,wb,D0,f,c,d,h,j,g]
def se(b:(List (List Int))):Option ((List Int)):=
 ((aO (σ:=Int) (λh c=>
 (ix b h).bind λf=>
 if decide ((i64.wrap (c+(f.length:Int)))<0)=O then(
 aa)else(
 J (.go (i64.wrap (c+(f.length:Int)))))) (λc=>c) (b.length) 0 0:Option Int).bind λe=>
 gd (0<=e/\8*e<=140737488355328/\e<=4611686018427387904)<|
 ((aO (σ:=(List Int)) (λkc a=>
 (ix b kc).bind λd=>
 gd ((a.length+d.length)*8<=140737488355328/\a.length+d.length<=4611686018427387904)<|
 J (.go (a++d))) (λa=>a) (b.length) 0 []:Option ((List Int))).bind λg=>
 J g))
def Lv{b r}(B:se b=J r):aq zH 136 [(.sh,vL b)] (Eo (vD r) [.az]):=by
 apply pF 36 [] [] [] [.tmp 2] B zD2 Tryz.func136;intro L u a g;unfold se at a
 iterate 3 (try simp[go_sem,g];try intros;refine ba ?_)
 refine wJ a (λm=>[(0,.v (vL b)),(3,.v (.int .i64 m))]) (λm a=>?_) λ_ v a=>?_
 ·obtain⟨A,a⟩:=yW a;try simp[go_sem,g]
  refine zA5 zEP zKn (by simp[go_sem,g]) A ?_;try simp[go_sem,g]
  try intros
  refine ba ?_;try simp[go_sem,g]
  try intros
  refine wK [6,25,26,27] ?_;refine wJ a (λh=>[(6,.v (vD h))]) (λh a=>?_) λ_ s a=>?_
  ·exact wl u a
  refine wB ?_;obtain⟨E,p,o⟩:=a;refine bG p [25,26] (λkc c=>[(6,.v (vD c)),(27,.v (.int .i64 kc))]) (λc _ t=>?_) λkc c _ _ k n F q a=>?_
  ·exact wn t (s _) o
  refine wW ?_;refine wu k n ?_;refine wW ?_;refine wB ?_;obtain⟨I,g,a⟩:=Rx g a;obtain⟨g,a⟩:=Rg g a
  iterate 2 refine wW ?_
  exact wi k n (q _) (ai a)
 refine wB ?_;obtain⟨K,C,y⟩:=a;refine bG C [0,9,10] (λj d=>[(3,.v (.int .i64 d)),(11,.v (.int .i64 j))]) (λd _ D=>?_) λj d _ _ f e H w a=>?_
 ·exact wn D (v _) y
 refine wW ?_;refine wu f e ?_;refine wW ?_;refine wB ?_;obtain⟨G,g,a⟩:=Rx g a;try simp[go_sem,g]
 try intros
 refine ba ?_;try simp[go_sem,g]
 try intros
 refine wK [0,3,9,10,11] ?_;refine wW ?_;refine wI a (λz a=>?_) λz a=>?_
 ·exact(ZJ a).elim
 refine wW ?_;exact wi f e (w _) (ai a)
def GO(b:List Int)(c:Int):Option Int:=
 ((aO (σ:=Int) (λe a=>
 (ix b e).bind λd=>
 gd (c≠0)<|
 J (.go ((i64.wrap (a+d)).tmod c))) (λa=>a) (b.length) 0 0:Option Int).bind λf=>
 J f)
def zww{c d r}(p:GO c d=J r):aq zH 137 [(.sh,vC c),(.sh,.int .i64 d)] (Eo (.int .i64 r) cM):=by
 apply pF 21 [] [] [] [.tmp 4] p zDY Tryz.func137;intro w k a g;unfold GO at a
 iterate 3 (try simp[go_sem,g];try intros;refine ba ?_)
 refine wJ a (λj=>[(5,.v (.int .i64 j))]) (λj a=>?_) λ_ m a=>?_
 ·exact wl k a
 refine wB ?_;obtain⟨t,q,o⟩:=a;refine bG q [1,8,9] (λh b=>[(5,.v (.int .i64 b)),(10,.v (.int .i64 h))]) (λb _ s=>?_) λh b _ _ f e v n a=>?_
 ·exact wn s (m _) o
 refine wW ?_;refine wu f e ?_;refine wW ?_;refine wB ?_;obtain⟨u,g,a⟩:=Rx g a;obtain⟨g,a⟩:=Rz g a;refine wW ?_;refine wK [1,5,8,9,10] ?_;exact wi f e (n _) (ai a)
def xB(c:List Int)(e:List Int)(a:Int):Option Int:=
 ((aO (σ:=Int) (λd b=>
 (ix c d).bind λf=>
 (ix e d).bind λg=>
 gd (a≠0)<|
 gd (a≠0)<|
 J (.go ((i64.wrap (b+((i64.wrap (f*g)).tmod a))).tmod a))) (λb=>b) (c.length) 0 0:Option Int).bind λh=>
 J h)
def To{c d e r}(q:xB c d e=J r):aq zH 138 [(.sh,vC c),(.sh,vC d),(.sh,.int .i64 e)] (Eo (.int .i64 r) gJ):=by
 apply pF 31 [] [] [] [.tmp 6] q zFK Tryz.func138;intro z m a g;unfold xB at a
 iterate 3 (try simp[go_sem,g];try intros;refine ba ?_)
 refine wJ a (λk=>[(7,.v (.int .i64 k))]) (λk a=>?_) λ_ n a=>?_
 ·exact wl m a
 refine wB ?_;obtain⟨y,s,p⟩:=a;refine bG s [0,1,2,10] (λj b=>[(7,.v (.int .i64 b)),(11,.v (.int .i64 j))]) (λb _ t=>?_) λj b _ _ h f w o a=>?_
 ·exact wn t (n _) p
 refine wW ?_;refine wu h f ?_;refine wW ?_;refine wB ?_;refine wW ?_;refine wZ (kD 0 [0,0,0,0,0,0,0,0,0,0,0,0,0,0,0,0]) follows ?_;obtain⟨u,g,a⟩:=Rx g a;obtain⟨v,g,a⟩:=Rx g a
 iterate 2 obtain⟨g,a⟩:=Rz g a
 refine wK [0,1,2,7,10,11] ?_;exact wi h f (o _) (ai a)
def GU(a:am)(g:ct)(r:Int)(e:List ao)(s:List Int)(C:List Int)(a6:List Int):Option (cO×Bool):=
 (jn a6 (e.length:Int)).bind λp=>
 (jn p.2 (e.length:Int)).bind λz2=>
 (ti z2.2).bind λv=>
 (ti v.2).bind λw=>
 (ti w.2).bind λy=>
 (ti y.2).bind λq=>
 (jn q.2 (e.length:Int)).bind λz=>
 (jn z.2 (e.length:Int)).bind λm=>
 (Dl a r e s C).bind λH=>
 (Kw a g s p.1).bind λE=>
 (q7 r e H E).bind λD=>
 (A1 a (⟨#[109,105,120,32,99,111,108,117,109,110,115]⟩:ByteArray) D (e.length:Int)).bind λt=>
 if(!t.2)=O then(
 J ((cO.mk [] [] (cQ.mk [] [] [])),Z))else(
 (BO t.1 s).bind λn=>
 (Ja a g.H n z2.1).bind λo=>
 ((aO (σ:=Int) (λG u=>
 (ix z2.1 G).bind λpy=>
 (ix n G).bind λmR=>
 (fb a (i64.wrap (py+(i64.wrap (mR*u))))).bind λfZ=>
 J (.go fZ)) (λu=>u) (e.length) 0 0:Option Int).bind λjl=>
 (xA H).bind λF=>
 (cW a a.G v.1).bind λsC=>
 (cW a a.G w.1).bind λmB=>
 (lT a g.Hs m.1).bind λK=>
 (eu a [mB,K]).bind λI=>
 (cW a a.G y.1).bind λk7=>
 (cW a a.G (i64.wrap (0-q.1))).bind λlI=>
 (lT a F.1 m.1).bind λsW=>
 (eu a [lI,sW]).bind λnk=>
 (cW a r (i64.wrap (0-q.1))).bind λyO=>
 (lT a F.2 m.1).bind λP=>
 (eu a [yO,P]).bind λzV=>
 gd (([g.H].length+o.length)*8<=140737488355328/\[g.H].length+o.length<=4611686018427387904)<|
 (J ([g.H]++o)).bind λsj=>
 ((aO (σ:=(List Int)×List Int×List Int×List Int×List Int) (λi64 d=>
 (ix z.1 i64).bind λW=>
 (ix sj i64).bind λS=>
 (ix m.1 i64).bind λnB=>
 (cW a a.G W).bind λqA=>
 (cW a S nB).bind λuI=>
 (eu a [qA,uI]).bind λN=>
 gd ((d.2.2.1.length+1)*8<=140737488355328/\d.2.2.1.length+1<=4611686018427387904)<|
 J (.go (d.1,d.2.1,d.2.2.1++[N],d.2.2.2.1,d.2.2.2.2))) (λd=>(d.1,d.2.1,d.2.2.1,d.2.2.2.1,d.2.2.2.2)) (e.length) 0 (E,o,[sC,I,k7,nk,zV],[],[]):Option ((List Int×List Int×List Int×List Int×List Int))).bind λk=>
 (se [D,k.2.1,k.2.2.1]).bind λwR=>
 (mW a (⟨#[109,105,120,32,112,114,111,111,102]⟩:ByteArray) wR).bind λf=>
 if(!f.2)=O then(
 J ((cO.mk [] [] (cQ.mk [] [] [])),Z))else(
 (GO p.1 a.Q).bind λT=>
 (fb a (i64.wrap (v.1+(i64.wrap (f.1*T))))).bind λY=>
 (xB p.1 t.1 a.Q).bind λz85=>
 (fb a (i64.wrap (w.1+(i64.wrap (f.1*z85))))).bind λX=>
 (fb a (i64.wrap (y.1+(i64.wrap (f.1*jl))))).bind λwL=>
 (xB C n a.Q).bind λoa=>
 (fb a (i64.wrap (q.1+(i64.wrap (f.1*oa))))).bind λR=>
 ((aO (σ:=(List Int)×List Int×List Int×List Int×List Int) (λB b=>
 (ix z.1 B).bind λQ=>
 (ix z2.1 B).bind λL=>
 (fb a (i64.wrap (Q+(i64.wrap (f.1*L))))).bind λU=>
 gd ((b.2.2.2.2.length+1)*8<=140737488355328/\b.2.2.2.2.length+1<=4611686018427387904)<|
 J (.go (b.1,b.2.1,b.2.2.1,b.2.2.2.1,b.2.2.2.2++[U]))) (λb=>(b.1,b.2.1,b.2.2.1,b.2.2.2.1,b.2.2.2.2)) (e.length) 0 (k.1,k.2.1,k.2.2.1,[f.1],[Y,X,wL,R]):Option ((List Int×List Int×List Int×List Int×List Int))).bind λh=>
 ((aO (σ:=(List Int)×List Int×List Int×List Int×List Int) (λA c=>
 (ix m.1 A).bind λgR=>
 (ix n A).bind λa05=>
 (fb a (i64.wrap (gR+(i64.wrap (f.1*a05))))).bind λM=>
 gd ((c.2.2.2.2.length+1)*8<=140737488355328/\c.2.2.2.2.length+1<=4611686018427387904)<|
 J (.go (c.1,c.2.1,c.2.2.1,c.2.2.2.1,c.2.2.2.2++[M]))) (λc=>(c.1,c.2.1,c.2.2.1,c.2.2.2.1,c.2.2.2.2)) (e.length) 0 (h.1,h.2.1,h.2.2.1,h.2.2.2.1,h.2.2.2.2):Option ((List Int×List Int×List Int×List Int×List Int))).bind λj=>
 J ((cO.mk j.1 j.2.1 (cQ.mk j.2.2.1 j.2.2.2.1 j.2.2.2.2)),O)))))))
set_option maxHeartbeats 1000000 in
def zkw{u k A B C D E r}(hr:GU u k A B C D E=J r):aq zH 92 [(.sh,vE u),(.sh,vM k),(.sh,.int .i64 A),(.sh,vJ B),(.sh,vC C),(.sh,vC D),(.sh,vC E)] (Eo (.bR [vN r.1,.bool r.2]) M0):=by
 apply KX 330 [] [219,221,224] [45] [.cell 14 58,.tmp 15] hr zJr Tryz.func92;intro Φ m a g;unfold GU at a;try simp[go_sem,g]
 try intros
 refine ba ?_;try simp[go_sem,g]
 try intros
 refine wK [2,3,4,5,7,8,14,16,17] ?_;refine wC a [.io,.sh] mY λz1 a=>?_
 refine wC a [.io,.sh] mY λz2 a=>?_
 refine wW ?_;refine wC a [.io] Aq λz3 a=>?_
 refine wC a [.io] Aq λz4 a=>?_
 refine wC a [.io] Aq λz5 a=>?_
 refine wC a [.io] Aq λz6 a=>?_
 refine wK [2,3,4,5,7,8,14,16,17,18,19,20,21,22,23] ?_;refine wC a [.io,.sh] mY λz7 a=>?_
 refine wC a [.io,.sh] mY λz8 a=>?_
 refine wW ?_;refine wE a TH λz9 a=>?_
 refine wK [2,3,4,5,7,8,14,16,18,19,20,21,22,23,24,25,26] ?_;refine wE a zjT λbY a=>?_
 refine wW ?_;refine wE a EH λbM a=>?_
 refine wK [2,4,5,7,8,14,16,18,19,20,21,22,23,24,25,26,27,28] ?_;refine wE a ZB λbK a=>?_
 refine wW ?_;refine wK [2,4,5,7,8,14,16,18,19,20,21,22,23,24,25,26,27,28,29,92] ?_;refine wI a (λdD a=>?_) λdD a=>?_
 ·exact wl m a
 refine wW ?_;refine wE a zqY λdH a=>?_
 refine wW ?_;refine wE a zni λdN a=>?_
 refine wK [2,5,7,8,14,16,18,19,20,21,22,23,24,25,26,27,28,29,31] ?_
 iterate 2 refine wW ?_
 refine bE a [2,5,7,8,14,16,18,19,20,21,22,23,24,25,26,27,28,29,31] (λF=>[(32,.v (.int .i64 F))]) (λF a=>?_) λ_ I a=>?_
 ·refine wE a FG λkL a=>?_
  refine wK [2,5,7,8,14,16,18,19,20,21,22,23,24,25,27,28,29,31,32,34,35] ?_;refine wZ [k2 0 7,k1 1 7,k2 2 7,k0 3,k2 5 7,k2 6 7,k1 7 7,k2 8 7,k0 9,k2 11 7,k1 12 8,k2 13 8,k0 14,k2 18 7,k1 19 7,k2 20 7,k0 21,k2 23 7,k2 24 7,k1 25 7,k2 26 7,k0 27,k0 28,k2 30 7,k0 31,k0 32,k2 36 7,k2 37 7,k0 38,k0 39,k0 40,k2 42 7,k0 43,k0 44,k3 4,k3 10,k3 15,k0 16,λ_=>⟨17,[132,143],[],aa,O,O,O⟩,k3 22,k3 29,k3 33,k0 34,λ_=>⟨35,[150,161],[],aa,O,O,O⟩,k3 41,k3 45,k0 46,λ_=>⟨47,[163,173],[],aa,O,O,O⟩,k0 48,k1 49 27,k1 50 27,λ_=>⟨51,[177,175],[27],J 177,O,O,O⟩] follows ?_;refine wE a eU λsC a=>?_
  refine wE a eU λmB a=>?_
  refine wE a pG λAo a=>?_
  refine wE a iv λAU a=>?_
  refine wE a eU λk7 a=>?_
  refine wE a eU λlI a=>?_
  refine wE a pG λsW a=>?_
  refine wE a iv λnk a=>?_
  refine wE a eU λyO a=>?_
  refine wE a pG λBL a=>?_
  refine wE a iv λzV a=>?_
  refine wK [5,7,8,14,16,18,19,20,21,22,23,24,25,27,28,29,31,32] ?_;obtain⟨g,a⟩:=Rg g a;obtain⟨sj,j,a⟩:=mn a;have g:=And.intro g (show[.int .i64 k.H]::(List.map ay dN)=sj.map ay by injection j with j;rw[<-j];simp[go_sem])
  iterate 2 refine wW ?_
  refine bE a [5,7,14,16,18,19,20,21,22,23,24,25,28,29,31,32] (λh=>[(27,.bl [vD h.1,vD h.2.1,vD h.2.2.1,vD h.2.2.2.1,vD h.2.2.2.2])]) (λh a=>?_) λ_ X a=>?_
  ·refine wZ (kD 0 [58,0,217,218,217,217,218,0,6,3,0,0,0,0,0]) follows ?_;refine wE a Lv λwR a=>?_
   refine wE a yU λnI a=>?_
   refine wK [5,7,14,16,18,19,20,21,22,23,24,25,27,29,30,31,32,38] ?_;refine wW ?_;refine wI a (λh82 a=>?_) λh82 a=>?_
   ·exact wl m a
   iterate 2 refine wW ?_
   refine wZ [k2 0 7,k0 1,k0 2,k0 3,k1 4 7,k2 5 7,k2 10 7,k0 11,k0 12,k0 13,k0 14,k1 15 7,k2 16 7,k2 21 7,k0 22,k0 23,k0 24,k0 25,k0 26,k2 28 7,k0 29,k0 30,k0 31,k0 32,k1 33 7,k2 34 7,k3 6,k0 7,k0 8,k3 9,k3 17,k0 18,k0 19,k3 20,k3 27,k3 35,k0 36,k0 37,k3 38,k0 39,k1 40 27,k1 41 27,λ_=>⟨42,[278,276],[27],J 278,O,O,O⟩] follows ?_;refine wE a zww λJJ a=>?_
   refine wE a lG λYa a=>?_
   refine wE a To λz85 a=>?_
   refine wE a lG λX7 a=>?_
   refine wE a lG λwL a=>?_
   refine wE a To λoa a=>?_
   refine wE a lG λDW a=>?_
   refine wK [7,14,16,19,24,25,27,31,38] ?_;refine wW ?_;refine bE a [7,14,16,25,31,38] (λe=>[(27,.bl [vD e.1,vC e.2.1,vC e.2.2.1,vD e.2.2.2.1,vD e.2.2.2.2])]) (λe a=>?_) λ_ a5o a=>?_
   ·refine wW ?_;refine wJ a (λf=>[(14,.bl [.sl O 1 [],.sl O 1 [],.sl O 1 [],.sl O 1 [],.sl O 1 []]),(27,.bl [vD f.1,vC f.2.1,vC f.2.2.1,vD f.2.2.2.1,vD f.2.2.2.2])]) (λf a=>?_) λ_ T a=>?_
    ·exact wl m a
    refine wB ?_;obtain⟨a6s,U,Y⟩:=a;refine bG U [7,14,25,31,38,304] (λo c=>[(27,.bl [vD c.1,vC c.2.1,vC c.2.2.1,vD c.2.2.2.1,vD c.2.2.2.2]),(305,.v (.int .i64 o))]) (λc _ W=>?_) λo c _ _ z t a6r a5t a=>?_
    ·exact wn W (T _) Y
    refine wW ?_;refine wu z t ?_;refine wW ?_;refine wB ?_;refine wW ?_;refine wZ (kD 0 [217,217,218,58,0,0,0,0,0,0,0,0,0,0,0,3,0,5,217,217,218]) follows ?_;obtain⟨gR,g,a⟩:=Rx g a;obtain⟨a05,g,a⟩:=Rx g a;refine wE a lG λB2 a=>?_
    obtain⟨g,a⟩:=Rg g a;refine wK [7,14,25,27,31,38,304,305] ?_;exact wi z t (a5t _) (ai a)
   refine wB ?_;obtain⟨a57,P,Q⟩:=a;refine bG P [7,14,16,19,24,25,31,38,279] (λq b=>[(27,.bl [vD b.1,vC b.2.1,vC b.2.2.1,vD b.2.2.2.1,vD b.2.2.2.2]),(280,.v (.int .i64 q))]) (λb _ R=>?_) λq b _ _ v s a6m a5l a=>?_
   ·exact wn R (a5o _) Q
   refine wW ?_;refine wu v s ?_;refine wW ?_;refine wB ?_;refine wW ?_;refine wZ (kD 0 [217,217,218,58,0,0,0,0,0,0,0,0,0,0,0,3,0,5,217,217,218]) follows ?_;obtain⟨CU,g,a⟩:=Rx g a;obtain⟨B1,g,a⟩:=Rx g a;refine wE a lG λJX a=>?_
   obtain⟨g,a⟩:=Rg g a;refine wK [7,14,16,19,24,25,27,31,38,279,280] ?_;exact wi v s (a5l _) (ai a)
  refine wB ?_;obtain⟨b76,a5A,S⟩:=a;refine bG a5A [5,7,14,16,18,19,20,21,22,23,24,25,28,29,31,32,36,184] (λi64 d=>[(27,.bl [vD d.1,vD d.2.1,vD d.2.2.1,vD d.2.2.2.1,vD d.2.2.2.2]),(185,.v (.int .i64 i64))]) (λd _ a5y=>?_) λi64 d _ _ y w a6t a4b a=>?_
  ·exact wn a5y (X _) S
  refine wK [5,7,14,16,18,19,20,21,22,23,24,25,27,28,29,31,32,36,184,185,186] ?_;refine wu y w ?_;refine wW ?_;refine wB ?_;refine wW ?_;refine wZ (kE [0,1,2,3,4,5,6,7,8,9,10,12,13,14,15,16,17,18,19,20,11,21,22,23,24,25,26,27,28] [217,217,218,58,58,57,58,0,0,0,0,58,0,0,0,0,0,0,0,0,4,3,0,6,0,5,217,217,218]) follows ?_;obtain⟨OY,g,a⟩:=Rx g a;obtain⟨JG,g,a⟩:=Rx g a;obtain⟨nB,g,a⟩:=Rx g a;refine wD a eU λqA a=>?_
  refine wE a eU λuI a=>?_
  refine wE a iv λBA a=>?_
  obtain⟨g,a⟩:=Rg g a;refine wK [5,7,14,16,18,19,20,21,22,23,24,25,27,28,29,31,32,36,184,185] ?_;exact wi y w (a4b _) (ai a)
 refine wB ?_;obtain⟨Zx,L,K⟩:=a;refine bG L [2,5,7,8,14,16,18,19,20,21,22,23,24,25,26,27,28,29,31,104] (λH n=>[(32,.v (.int .i64 n)),(105,.v (.int .i64 H))]) (λn _ N=>?_) λH n _ _ p G QV M a=>?_
 ·exact wn N (I _) K
 refine wW ?_;refine wu p G ?_;refine wW ?_;refine wB ?_;refine wW ?_;refine wZ (kD 0 [58,0,0,0,0,0,0,0,0,0,0,0,3,0]) follows ?_;obtain⟨py,g,a⟩:=Rx g a;obtain⟨mR,g,a⟩:=Rx g a;refine wE a lG λfZ a=>?_
 refine wK [2,5,7,8,14,16,18,19,20,21,22,23,24,25,26,27,28,29,31,32,104,105] ?_;exact wi p G (M _) (ai a)
def qO(a:am)(d:Int)(b:List ao)(e:List Int)(f:List Int)(c:List Int):Option (cO×Bool):=
 (qq a d b).bind λh=>
 ((if(!h.2)=O then(
 J O)else(
 (CK a e f (b.length:Int)).bind λk=>
 if(!k)=O then(
 J O)else(
 if((c.length:Int) !=(i64.wrap ((i64.wrap (4*(b.length:Int)))+4)))=O then(
 J O)else(
 (xF a c).bind λm=>
 J (!m)))):Option Bool).bind λj=>
 if j=O then(
 J ((cO.mk [] [] (cQ.mk [] [] [])),Z))else(
 (GU a h.1 d b e f c).bind λg=>
 J (g.1,g.2)))
def zmR{f h j k m n r}(s:qO f h j k m n=J r):aq zH 57 [(.sh,vE f),(.sh,.int .i64 h),(.sh,vJ j),(.sh,vC k),(.sh,vC m),(.sh,vC n)] (Eo (.bR [vN r.1,.bool r.2]) qr):=by
 apply KX 60 [] [51] [] [.cell 12 58,.tmp 13] s zLG Tryz.func57;intro y o a g;unfold qO at a;refine wW ?_;refine wE a Kd λu a=>?_
 refine wK [1,2,3,4,5,6,12,14,15] ?_;refine bE a [1,2,3,4,5,6,12,14] (λp=>[(48,.v (.bool p))]) (λp a=>?_) λ_ b a=>?_
 ·refine wI a (λq a=>?_) λq a=>?_
  ·exact wl o a
  refine wW ?_;refine wE a zkw λt a=>?_
  refine wK [12,13] ?_;exact wm o a
 refine wG a (λc a=>?_) λc a=>?_
 ·exact wV c (b _) (ai a)
 try simp[go_sem,g,c]
 try intros
 refine wE a SF λv a=>?_
 try simp[go_sem,g,c]
 refine wG a (λe a=>?_) λe a=>?_
 ·exact wV e (b _) (ai a)
 try simp[go_sem,g,e]
 try intros
 refine wG a (λd a=>?_) λd a=>?_
 ·exact wV d (b _) (ai a)
 try simp[go_sem,g,d]
 refine wE a Ib λw a=>?_
 exact wV d (b _) (ai a)
def qu(a:am)(c:Int)(d:List ao):Option (ct×Bool):=
 (qq a c d).bind λe=>
 if(!e.2)=O then(
 J ((ct.mk 0 []),Z))else(
 (kR a 0).bind λb=>
 J (b.1,b.2))
def IA{b c d r}(h:qu b c d=J r):aq zH 23 [(.sh,vE b),(.sh,.int .i64 c),(.sh,vJ d)] (Eo (.bR [vK r.1,.bool r.2]) gJ):=by
 apply pF 24 [] [] [] [.cell 6 52,.tmp 7] h zKq Tryz.func23;intro m e a g;unfold qu at a;refine wW ?_;refine wE a Kd λj a=>?_
 refine wK [3,6,9] ?_;refine wW ?_;refine wI a (λf a=>?_) λf a=>?_
 ·exact wl e a
 refine wW ?_;refine wE a ziN λk a=>?_
 exact wl e a
def pi(a:am)(b:ct)(c:Int)(d:Int):Option Int:=
 (cW a a.G c).bind λe=>
 (cW a b.H d).bind λz2=>
 (eu a [e,z2]).bind λf=>
 J f
def Di{b c d e r}(h:pi b c d e=J r):aq zH 140 [(.sh,vE b),(.sh,vM c),(.sh,.int .i64 d),(.sh,.int .i64 e)] (Eo (.int .i64 r) jY):=by
 apply pF 22 [] [] [] [.tmp 8] h zFi Tryz.func140;intro m f a g;unfold pi at a;refine wW ?_;refine wZ (kE [0,1,2,3,4,6,7,8,9,5,10,11,12,13] [34,34,33,34,0,34,41,42,0,3,3,0,6,0]) follows ?_;refine wE a eU λj a=>?_
 refine wE a eU λz2 a=>?_
 refine wE a iv λk a=>?_
 refine wK [8] ?_;exact wm f a
def J3(d:am)(e:ct)(b:List Int)(f:List Int):Option ((List Int)):=
 ((aO (σ:=(List Int)) (λc a=>
 (ix b c).bind λg=>
 (ix f c).bind λj=>
 (pi d e (i64.wrap (g+1)) j).bind λh=>
 gd ((a.length+1)*8<=140737488355328/\a.length+1<=4611686018427387904)<|
 J (.go (a++[h]))) (λa=>a) (b.length) 0 []:Option ((List Int))).bind λk=>
 J k)
def zj6{c d e f r}(t:J3 c d e f=J r):aq zH 139 [(.sh,vE c),(.sh,vM d),(.sh,vC e),(.sh,vC f)] (Eo (vD r) jY):=by
 apply pF 34 [] [] [] [.tmp 8] t zEh Tryz.func139;intro B n a g;unfold J3 at a
 iterate 3 (try simp[go_sem,g];try intros;refine ba ?_)
 refine wJ a (λm=>[(9,.v (vD m))]) (λm a=>?_) λ_ o a=>?_
 ·refine wK [8] ?_;exact wm n a
 refine wB ?_;obtain⟨A,s,q⟩:=a;refine bG s [3,4,5,13,14] (λk b=>[(9,.v (vD b)),(15,.v (.int .i64 k))]) (λb _ u=>?_) λk b _ _ j h z p a=>?_
 ·exact wn u (o _) q
 refine wW ?_;refine wu j h ?_;refine wW ?_;refine wB ?_;obtain⟨v,g,a⟩:=Rx g a;refine wK [3,4,5,9,10,11,13,14,15] ?_;refine wZ (kD 0 [0,34,42,0,0,0,0,0,0,3,0,5,0]) follows ?_;obtain⟨y,g,a⟩:=Rx g a;refine wE a Di λw a=>?_
 obtain⟨g,a⟩:=Rg g a;refine wK [3,4,5,9,13,14,15] ?_;exact wi j h (p _) (ai a)
def DA(a:am)(b:List Int):Option (Int×Int×Bool):=
 (mW a (⟨#[109,105,120,32,121]⟩:ByteArray) b).bind λc=>
 (mW a (⟨#[109,105,120,32,122]⟩:ByteArray) b).bind λz2=>
 ((if(!c.2)=O then(
 J O)else(
 J (!z2.2)):Option Bool).bind λd=>
 if d=O then(
 J (0,0,Z))else(
 J (c.1,z2.1,O)))
def Yg{c d r}(k:DA c d=J r):aq zH 141 [(.sh,vE c),(.sh,vC d)] (Eo (.bR [.int .i64 r.1,.int .i64 r.2.1,.bool r.2.2]) cM):=by
 apply pF 31 [] [] [] [.tmp 4,.tmp 5,.tmp 6] k zFj Tryz.func141;intro n e a g;unfold DA at a;refine wW ?_;refine wE a yU λm a=>?_
 refine wK [1,2,7,8] ?_;refine wE a yU λz2 a=>?_
 refine wW ?_;refine bE a [7,9] (λh=>[(28,.v (.bool h))]) (λh a=>?_) λ_ f a=>?_
 ·refine wI a (λj a=>?_) λj a=>?_
  ·refine wK [4,5,6] ?_;exact wm e a
  refine wW ?_;refine wK [4,5,6] ?_;exact wm e a
 refine wG a (λb a=>?_) λb a=>?_
 ·exact wV b (f _) (ai a)
 exact wV b (f _) (ai a)
def ET(a:am)(k:ct)(u:Int)(e:List ao)(m:List Int)(S:List Int)(a6:List Int):Option (cu×Bool):=
 (jn a6 (e.length:Int)).bind λG=>
 (jn G.2 (e.length:Int)).bind λz2=>
 (jn z2.2 (e.length:Int)).bind λw=>
 (jn w.2 (e.length:Int)).bind λy=>
 (jn y.2 (e.length:Int)).bind λH=>
 (jn H.2 (e.length:Int)).bind λI=>
 (ti I.2).bind λK=>
 (jn K.2 (e.length:Int)).bind λs=>
 (jn s.2 (e.length:Int)).bind λL=>
 (ti L.2).bind λB=>
 (Dl a u e m S).bind λA=>
 (J3 a k m G.1).bind λT=>
 (q7 u e A T).bind λcA=>
 (mW a (⟨#[109,105,120,32,120]⟩:ByteArray) cA).bind λU=>
 ((aO (σ:=(List Int)×List Int×List Int×List Int×List Int×List Int×List Int) (λE d=>
 (ix m E).bind λwF=>
 (ou U.1 (i64.wrap (wF+1)) a.Q).bind λsW=>
 gd ((d.2.2.2.2.2.2.length+1)*8<=140737488355328/\d.2.2.2.2.2.2.length+1<=4611686018427387904)<|
 (J (d.2.2.2.2.2.2++[sW])).bind λY=>
 (ix Y E).bind λo7=>
 (ix z2.1 E).bind λoA=>
 (pi a k o7 oA).bind λve=>
 gd ((d.2.1.length+1)*8<=140737488355328/\d.2.1.length+1<=4611686018427387904)<|
 J (.go (d.1,d.2.1++[ve],d.2.2.1,d.2.2.2.1,d.2.2.2.2.1,d.2.2.2.2.2.1,Y))) (λd=>(d.1,d.2.1,d.2.2.1,d.2.2.2.1,d.2.2.2.2.1,d.2.2.2.2.2.1,d.2.2.2.2.2.2)) (m.length) 0 (T,[],[],[],[],[],[]):Option ((List Int×List Int×List Int×List Int×List Int×List Int×List Int))).bind λf=>
 (yk f.1).bind λD=>
 gd ((D.length+f.2.1.length)*8<=140737488355328/\D.length+f.2.1.length<=4611686018427387904)<|
 (q7 u e A (D++f.2.1)).bind λX=>
 (DA a X).bind λv=>
 ((aO (σ:=(List Int)×List Int×List Int×List Int×List Int×List Int×List Int×Int×List Int) (λn b=>
 (ix m n).bind λpx=>
 (ix f.2.2.2.2.2.2 n).bind λPj=>
 (fb a (i64.wrap ((i64.wrap ((i64.wrap (v.1*(i64.wrap (px+1))))+Pj))-v.2.1))).bind λoa=>
 gd ((b.2.2.2.2.2.2.1.length+1)*8<=140737488355328/\b.2.2.2.2.2.2.1.length+1<=4611686018427387904)<|
 (J (b.2.2.2.2.2.2.1++[oa])).bind λyp=>
 (ix yp n).bind λW=>
 (fb a (i64.wrap (b.2.2.2.2.2.2.2.1*W))).bind λP=>
 (ix w.1 n).bind λC=>
 (pi a k P C).bind λpB=>
 gd ((b.2.2.1.length+1)*8<=140737488355328/\b.2.2.1.length+1<=4611686018427387904)<|
 ((if decide (0<n)=O then(
 (ix w.1 (i64.wrap (n-1))).bind λPZ=>
 (fb a (i64.wrap (PZ*W))).bind λDx=>
 (fb a (i64.wrap (C-Dx))).bind λCf=>
 J Cf)else(
 J C):Option Int).bind λyE=>
 gd ((b.2.2.2.2.2.2.2.2.length+1)*8<=140737488355328/\b.2.2.2.2.2.2.2.2.length+1<=4611686018427387904)<|
 J (.go (b.1,b.2.1,b.2.2.1++[pB],b.2.2.2.1,b.2.2.2.2.1,b.2.2.2.2.2.1,yp,P,b.2.2.2.2.2.2.2.2++[yE])))) (λb=>(b.1,b.2.1,b.2.2.1,b.2.2.2.1,b.2.2.2.2.1,b.2.2.2.2.2.1,b.2.2.2.2.2.2.1,b.2.2.2.2.2.2.2.2)) (m.length) 0 (f.1,f.2.1,f.2.2.1,f.2.2.2.1,f.2.2.2.2.1,f.2.2.2.2.2.1,[],1,[]):Option ((List Int×List Int×List Int×List Int×List Int×List Int×List Int×List Int))).bind λh=>
 gd (([a.G].length+h.2.2.1.length)*8<=140737488355328/\[a.G].length+h.2.2.1.length<=4611686018427387904)<|
 (J ([a.G]++h.2.2.1)).bind λQL=>
 ((aO (σ:=(List Int)) (λzM p=>
 (ix y.1 zM).bind λMK=>
 (ix H.1 zM).bind λkV=>
 (pi a k MK kV).bind λDY=>
 gd ((p.length+1)*8<=140737488355328/\p.length+1<=4611686018427387904)<|
 J (.go (p++[DY]))) (λp=>p) (e.length) 0 []:Option ((List Int))).bind λCU=>
 ((aO (σ:=(List Int)) (λF q=>
 (ix QL F).bind λPo=>
 (ix y.1 F).bind λOB=>
 (ix I.1 F).bind λgR=>
 (cW a Po OB).bind λNb=>
 (cW a k.H gR).bind λB2=>
 (eu a [Nb,B2]).bind λMO=>
 gd ((q.length+1)*8<=140737488355328/\q.length+1<=4611686018427387904)<|
 J (.go (q++[MO]))) (λq=>q) (e.length) 0 CU:Option ((List Int))).bind λz=>
 (cW a k.H K.1).bind λa1e=>
 gd ((z.length+1)*8<=140737488355328/\z.length+1<=4611686018427387904)<|
 ((aO (σ:=(List Int)) (λuA o=>
 (ix s.1 uA).bind λa0u=>
 (ix L.1 uA).bind λIB=>
 (pi a k a0u IB).bind λWY=>
 gd ((o.length+1)*8<=140737488355328/\o.length+1<=4611686018427387904)<|
 J (.go (o++[WY]))) (λo=>o) (e.length) 0 (z++[a1e]):Option ((List Int))).bind λt=>
 (xA A).bind λR=>
 (cW a a.G (i64.wrap (0-B.1))).bind λKt=>
 (lT a R.1 s.1).bind λKZ=>
 (eu a [Kt,KZ]).bind λM=>
 (cW a u (i64.wrap (0-B.1))).bind λKU=>
 (lT a R.2 s.1).bind λJU=>
 (eu a [KU,JU]).bind λN=>
 gd ((t.length+2)*8<=140737488355328/\t.length+2<=4611686018427387904)<|
 (se [X,h.2.2.1,t++[M,N]]).bind λnp=>
 (mW a (⟨#[109,105,120,32,101,110,100]⟩:ByteArray) np).bind λj=>
 ((if(!U.2)=O then(
 J O)else(
 if(!v.2.2)=O then(
 J O)else(
 J (!j.2))):Option Bool).bind λQa=>
 if Qa=O then(
 J ((cu.mk [] [] [] (cQ.mk [] [] [])),Z))else(
 ((aO (σ:=(List Int)×List Int×List Int×List Int×List Int) (λg c=>
 (ix y.1 g).bind λO8=>
 (ix h.2.2.2.2.2.2.1 g).bind λOx=>
 (fb a (i64.wrap (O8+(i64.wrap (j.1*Ox))))).bind λOw=>
 gd ((c.1.length+1)*8<=140737488355328/\c.1.length+1<=4611686018427387904)<|
 (ix H.1 g).bind λO0=>
 (ix G.1 g).bind λM8=>
 (ix z2.1 g).bind λQ=>
 (fb a (i64.wrap ((i64.wrap (v.1*M8))+Q))).bind λN3=>
 (fb a (i64.wrap (O0+(i64.wrap (j.1*N3))))).bind λOc=>
 gd ((c.2.1.length+1)*8<=140737488355328/\c.2.1.length+1<=4611686018427387904)<|
 (ix I.1 g).bind λM4=>
 (ix h.2.2.2.2.2.2.2 g).bind λPa=>
 (fb a (i64.wrap (M4+(i64.wrap (j.1*Pa))))).bind λMV=>
 gd ((c.2.2.1.length+1)*8<=140737488355328/\c.2.2.1.length+1<=4611686018427387904)<|
 (ix s.1 g).bind λMY=>
 (ix f.2.2.2.2.2.2 g).bind λD5=>
 (fb a (i64.wrap (MY+(i64.wrap (j.1*D5))))).bind λNY=>
 gd ((c.2.2.2.1.length+1)*8<=140737488355328/\c.2.2.2.1.length+1<=4611686018427387904)<|
 (ix L.1 g).bind λNG=>
 (fb a (i64.wrap (NG+(i64.wrap (j.1*Q))))).bind λPg=>
 gd ((c.2.2.2.2.length+1)*8<=140737488355328/\c.2.2.2.2.length+1<=4611686018427387904)<|
 J (.go (c.1++[Ow],c.2.1++[Oc],c.2.2.1++[MV],c.2.2.2.1++[NY],c.2.2.2.2++[Pg]))) (λc=>(c.1,c.2.1,c.2.2.1,c.2.2.2.1,c.2.2.2.2)) (e.length) 0 ([],[],[],[],[]):Option ((List Int×List Int×List Int×List Int×List Int))).bind λr=>
 (ix w.1 (i64.wrap ((e.length:Int)-1))).bind λa09=>
 (fb a (i64.wrap (K.1+(i64.wrap (j.1*a09))))).bind λYG=>
 (xB S f.2.2.2.2.2.2 a.Q).bind λa0F=>
 (fb a (i64.wrap (B.1+(i64.wrap (j.1*a0F))))).bind λa1o=>
 (se [r.1,r.2.1,r.2.2.1,[YG],r.2.2.2.1,r.2.2.2.2,[a1o]]).bind λa0w=>
 J ((cu.mk h.1 h.2.1 h.2.2.1 (cQ.mk (t++[M,N]) [j.1] a0w)),O)))))))))
set_option maxHeartbeats 1000000 in
def zlj{q P Q R S T U r}(hr:ET q P Q R S T U=J r):aq zH 93 [(.sh,vE q),(.sh,vM P),(.sh,.int .i64 Q),(.sh,vJ R),(.sh,vC S),(.sh,vC T),(.sh,vC U)] (Eo (.bR [vO r.1,.bool r.2]) M0):=by
 apply KX 528 [] [358,360,363,490,492,494,506,508,510,522,2107] [60] [.cell 14 60,.tmp 15] hr zKV Tryz.func93;intro Φ W a g;unfold ET at a;try simp[go_sem,g]
 try intros
 refine ba ?_;try simp[go_sem,g]
 try intros
 refine wK [2,3,4,5,7,8,14,16,17] ?_;refine wC a [.io,.sh] mY λz1 a=>?_
 refine wC a [.io,.sh] mY λz2 a=>?_
 refine wC a [.io,.sh] mY λz3 a=>?_
 refine wC a [.io,.sh] mY λz4 a=>?_
 refine wC a [.io,.sh] mY λz5 a=>?_
 refine wC a [.io,.sh] mY λz6 a=>?_
 refine wK [2,3,4,5,7,8,14,16,17,18,19,20,21,22,23] ?_;refine wC a [.io] Aq λz7 a=>?_
 refine wW ?_;refine wC a [.io,.sh] mY λz8 a=>?_
 refine wC a [.io,.sh] mY λz9 a=>?_
 refine wK [2,3,4,5,7,8,14,16,17,18,19,20,21,22,23,24,25,26] ?_;refine wC a [.io] Aq λbY a=>?_
 refine wW ?_;refine wE a TH λbM a=>?_
 refine wK [2,3,4,5,7,8,14,16,18,19,20,21,22,23,24,25,26,27,28] ?_;refine wE a zj6 λbK a=>?_
 refine wW ?_;refine wZ (kD 0 [58,0,0,0,233,234,3,3,0,0,0,0,0]) follows ?_;refine wE a EH λcA a=>?_
 refine wE a yU λdH a=>?_
 refine wK [2,3,4,5,7,8,14,16,18,19,20,21,22,23,24,25,26,27,28,29,30,31] ?_
 iterate 2 (try simp[go_sem,g];try intros;refine ba ?_)
 refine bE a [2,3,4,5,7,8,14,16,18,19,20,21,22,23,24,25,26,27,28,31] (λe=>[(29,.bl [vD e.1,vD e.2.1,vD e.2.2.1,vD e.2.2.2.1,vD e.2.2.2.2.1,vD e.2.2.2.2.2.1]),(32,.v (vD e.2.2.2.2.2.2))]) (λe a=>?_) λ_ Du a=>?_
 ·refine wZ (kE [0,1,2,3,4,6,7,5,8,9,10] [0,0,0,233,234,233,234,3,0,3,0]) follows ?_;refine wE a OS λme a=>?_
  obtain⟨g,a⟩:=Rg g a;refine wE a EH λpA a=>?_
  refine wK [2,4,5,7,8,14,16,18,19,20,21,22,23,24,25,26,27,28,29,31,32,35] ?_;refine wE a Yg λqL a=>?_
  refine wK [2,4,5,7,8,14,16,18,19,20,21,22,23,24,25,26,27,28,29,31,32,35,36,37,38] ?_
  iterate 2 (try simp[go_sem,g];try intros;refine ba ?_)
  refine bE a [2,5,7,8,14,16,18,19,20,21,22,23,24,25,26,27,28,31,32,35,36,38] (λd=>[(29,.bl [vD d.1,vD d.2.1,vD d.2.2.1,vD d.2.2.2.1,vD d.2.2.2.2.1,vD d.2.2.2.2.2.1]),(39,.v (vD d.2.2.2.2.2.2.1)),(41,.v (vD d.2.2.2.2.2.2.2))]) (λd a=>?_) λ_ a3c a=>?_
  ·obtain⟨g,a⟩:=Rg g a;obtain⟨QL,j,a⟩:=mn a;have g:=And.intro g (show[.int .i64 q.G]::(List.map ay d.2.2.1)=QL.map ay by injection j with j;rw[<-j];simp[go_sem]);refine wK [2,5,7,8,14,16,18,19,20,21,22,23,24,25,26,27,28,29,31,32,35,36,38,39,41,45] ?_
   iterate 2 refine wW ?_
   refine bE a [2,5,7,8,14,16,18,19,20,21,22,23,24,25,26,27,28,29,31,32,35,36,38,39,41,45] (λw=>[(46,.v (vD w))]) (λw a=>?_) λ_ a5u a=>?_
   ·refine wW ?_;refine bE a [2,5,7,8,14,16,18,19,20,21,22,23,24,25,26,27,28,29,31,32,35,36,38,39,41] (λz=>[(46,.v (vD z))]) (λz a=>?_) λ_ a4v a=>?_
    ·refine wE a eU λa1e a=>?_
     obtain⟨g,a⟩:=Rg g a;refine wK [2,5,7,8,14,16,18,19,20,21,22,23,24,25,26,27,28,29,31,32,35,36,38,39,41,46] ?_;refine wW ?_;refine bE a [2,5,7,14,16,18,19,20,21,22,23,24,25,26,27,28,29,31,32,35,36,38,39,41] (λy=>[(46,.v (vD y))]) (λy a=>?_) λ_ a2P a=>?_
     ·refine wE a FG λUF a=>?_
      refine wW ?_;refine wZ (kE [0,1,2,3,4,5,6,8,9,10,14,15,16,17,18,20,21,22,7,11,12,13,19,23,24,25,26,27,28,29,30] [0,58,58,57,58,0,0,58,0,0,58,58,0,0,0,58,0,0,3,3,0,6,3,3,0,6,0,5,233,233,234]) follows ?_;refine wE a eU λKt a=>?_
      refine wE a pG λKZ a=>?_
      refine wE a iv λDb a=>?_
      refine wE a eU λKU a=>?_
      refine wE a pG λJU a=>?_
      refine wE a iv λEh a=>?_
      obtain⟨g,a⟩:=Rg g a;refine wK [5,7,14,16,18,19,20,21,22,23,24,25,26,27,29,31,32,35,36,38,39,41] ?_;refine wZ (kD 0 [58,0,233,234,233,233,234,0,6,3,0,0,0,0,0]) follows ?_;refine wE a Lv λnp a=>?_
      refine wE a yU λuX a=>?_
      refine wK [5,7,14,16,18,19,20,21,22,23,24,25,26,27,29,31,32,36,38,39,41,52,53] ?_;refine bE a [5,7,14,16,18,19,20,21,22,23,24,25,26,27,29,32,36,39,41,52] (λE=>[(378,.v (.bool E))]) (λE a=>?_) λ_ n a=>?_
      ·refine wI a (λa4C a=>?_) λa4C a=>?_
       ·exact wl W a
       iterate 3 refine wW ?_
       refine wK [5,7,14,16,18,19,20,21,22,23,24,25,26,27,29,32,36,39,41,52,54,385,386] ?_;refine bE a [5,7,14,16,20,24,27,29,32,52] (λh=>[(54,.bl [vD h.1,vD h.2.1,vD h.2.2.1,vD h.2.2.2.1,vD h.2.2.2.2])]) (λh a=>?_) λ_ a2G a=>?_
       ·refine wZ (kE [0,1,2,3,4,5,6,7,8,9,10,11,12,13,14,15,18,19,20,21,22,23,24,25,26,27,28,16,17,29,30,31,32,33,34,35,36,37,38] [433,434,433,434,433,434,58,0,0,0,0,0,0,0,0,0,433,434,433,434,58,0,0,0,0,57,58,3,0,3,0,0,3,0,7,6,233,233,234]) follows ?_;obtain⟨a09,g,a⟩:=Rx g a;refine wE a lG λYG a=>?_
        refine wE a To λa0F a=>?_
        refine wE a lG λa1o a=>?_
        refine wE a Lv λa0w a=>?_
        refine wK [14,29] ?_;exact wl W a
       refine wB ?_;obtain⟨a6d,a23,a4R⟩:=a;refine bG a23 [5,7,14,16,18,19,20,21,22,23,24,25,26,27,29,32,36,39,41,52,385] (λX f=>[(54,.bl [vD f.1,vD f.2.1,vD f.2.2.1,vD f.2.2.2.1,vD f.2.2.2.2]),(386,.v (.int .i64 X))]) (λf _ a3B=>?_) λX f _ _ M N a6K a4r a=>?_
       ·exact wn a3B (a2G _) a4R
       refine wW ?_;refine wu M N ?_;refine wW ?_;refine wB ?_;refine wW ?_;refine wZ (kD 0 [433,434,58,0,0,0,0,0,0,0,0,0,0,0,3,0,5,433,434]) follows ?_;obtain⟨O8,g,a⟩:=Rx g a;obtain⟨Ox,g,a⟩:=Rx g a;refine wE a lG λOw a=>?_
       obtain⟨g,a⟩:=Rg g a;refine wK [5,7,14,16,18,19,20,21,22,23,24,25,26,27,29,32,36,39,41,52,54,55,385,386] ?_;refine wZ (kD 0 [433,434,58,0,0,0,0,0,58,0,0,0,0,0,0,0,0,0,0,0,4,0,0,3,0,5,433,434]) follows ?_;obtain⟨O0,g,a⟩:=Rx g a;obtain⟨M8,g,a⟩:=Rx g a;obtain⟨Ga,g,a⟩:=Rx g a;refine wD a lG λN3 a=>?_
       refine wE a lG λOc a=>?_
       obtain⟨g,a⟩:=Rg g a;refine wK [5,7,14,16,18,19,20,21,22,23,24,25,26,27,29,32,36,39,41,52,54,55,385,386] ?_;refine wZ (kD 0 [433,434,58,0,0,0,0,0,0,0,0,0,0,0,3,0,5,433,434]) follows ?_;obtain⟨M4,g,a⟩:=Rx g a;obtain⟨Pa,g,a⟩:=Rx g a;refine wE a lG λMV a=>?_
       obtain⟨g,a⟩:=Rg g a;refine wK [5,7,14,16,18,19,20,21,22,23,24,25,26,27,29,32,36,39,41,52,54,55,385,386] ?_;refine wZ (kD 0 [433,434,58,0,0,0,0,0,0,0,0,0,0,0,3,0,5,433,434]) follows ?_;obtain⟨MY,g,a⟩:=Rx g a;obtain⟨D5,g,a⟩:=Rx g a;refine wE a lG λNY a=>?_
       obtain⟨g,a⟩:=Rg g a;refine wK [5,7,14,16,18,19,20,21,22,23,24,25,26,27,29,32,36,39,41,52,54,55,385,386] ?_;refine wZ (kD 0 [433,434,58,0,0,0,0,0,0,0,0,0,0,0,3,0,5,433,434]) follows ?_;obtain⟨NG,g,a⟩:=Rx g a;refine wE a lG λPg a=>?_
       obtain⟨g,a⟩:=Rg g a;refine wK [5,7,14,16,18,19,20,21,22,23,24,25,26,27,29,32,36,39,41,52,54,385,386] ?_;exact wi M N (a4r _) (ai a)
      refine wG a (λp a=>?_) λp a=>?_
      ·exact wV p (n _) (ai a)
      try simp[go_sem,g,p]
      refine wG a (λm a=>?_) λm a=>?_
      ·exact wV m (n _) (ai a)
      exact wV m (n _) (ai a)
     refine wB ?_;obtain⟨a55,a2h,VW⟩:=a;refine bG a2h [2,5,7,8,14,16,18,19,20,21,22,23,24,25,26,27,28,29,31,32,35,36,38,39,41,302] (λuA s=>[(46,.v (vD s)),(303,.v (.int .i64 uA))]) (λs _ a4l=>?_) λuA s _ _ C A a4Z U9 a=>?_
     ·exact wn a4l (a2P _) VW
     refine wW ?_;refine wu C A ?_;refine wW ?_;refine wB ?_;refine wW ?_;refine wZ (kD 0 [0,58,66,0,0,0,0,0,0,0,0,3,0,5,0]) follows ?_;obtain⟨a0u,g,a⟩:=Rx g a;obtain⟨IB,g,a⟩:=Rx g a;refine wE a Di λWY a=>?_
     obtain⟨g,a⟩:=Rg g a;refine wK [2,5,7,8,14,16,18,19,20,21,22,23,24,25,26,27,28,29,31,32,35,36,38,39,41,46,302,303] ?_;exact wi C A (U9 _) (ai a)
    refine wB ?_;obtain⟨a6I,a2x,a2U⟩:=a;refine bG a2x [2,5,7,8,14,16,18,19,20,21,22,23,24,25,26,27,28,29,31,32,35,36,38,39,41,45,265] (λxC u=>[(46,.v (vD u)),(266,.v (.int .i64 xC))]) (λu _ a4W=>?_) λxC u _ _ F H a6u a4n a=>?_
    ·exact wn a4W (a4v _) a2U
    refine wW ?_;refine wu F H ?_;refine wW ?_;refine wB ?_;refine wW ?_;refine wZ (kE [0,1,2,3,4,5,6,7,8,9,10,12,13,14,15,16,17,18,11,19,20,21,22,23,24] [0,58,58,0,0,0,0,0,0,0,0,58,65,66,0,0,0,0,4,3,0,6,0,5,0]) follows ?_;obtain⟨Po,g,a⟩:=Rx g a;obtain⟨OB,g,a⟩:=Rx g a;obtain⟨gR,g,a⟩:=Rx g a;refine wD a eU λNb a=>?_
    refine wE a eU λB2 a=>?_
    refine wE a iv λMO a=>?_
    obtain⟨g,a⟩:=Rg g a;refine wK [2,5,7,8,14,16,18,19,20,21,22,23,24,25,26,27,28,29,31,32,35,36,38,39,41,45,46,265,266] ?_;exact wi F H (a4n _) (ai a)
   refine wB ?_;obtain⟨a4u,Vz,a3L⟩:=a;refine bG Vz [2,5,7,8,14,16,18,19,20,21,22,23,24,25,26,27,28,29,31,32,35,36,38,39,41,45,246] (λzM t=>[(46,.v (vD t)),(247,.v (.int .i64 zM))]) (λt _ TA=>?_) λzM t _ _ L D a59 a4h a=>?_
   ·exact wn TA (a5u _) a3L
   refine wW ?_;refine wu L D ?_;refine wW ?_;refine wB ?_;refine wW ?_;refine wZ (kD 0 [0,58,66,0,0,0,0,0,0,0,0,3,0,5,0]) follows ?_;obtain⟨MK,g,a⟩:=Rx g a;obtain⟨kV,g,a⟩:=Rx g a;refine wE a Di λDY a=>?_
   obtain⟨g,a⟩:=Rg g a;refine wK [2,5,7,8,14,16,18,19,20,21,22,23,24,25,26,27,28,29,31,32,35,36,38,39,41,45,46,246,247] ?_;exact wi L D (a4h _) (ai a)
  refine wB ?_;obtain⟨a42,Tr,a3M⟩:=a;refine bG Tr [2,5,7,8,14,16,18,19,20,21,22,23,24,25,26,27,28,31,32,35,36,37,38,165,166] (λY b=>[(29,.bl [vD b.1,vD b.2.1,vD b.2.2.1,vD b.2.2.2.1,vD b.2.2.2.2.1,vD b.2.2.2.2.2.1]),(39,.v (vD b.2.2.2.2.2.2.1)),(40,.v (.int .i64 b.2.2.2.2.2.2.2.1)),(41,.v (vD b.2.2.2.2.2.2.2.2)),(167,.v (.int .i64 Y))]) (λb _ VK=>?_) λY b _ _ K G a52 a39 a=>?_
  ·exact wn VK (a3c _) a3M
  refine wW ?_;refine wu K G ?_;refine wW ?_;refine wB ?_;obtain⟨px,g,a⟩:=Rx g a;refine wK [2,5,7,8,14,16,18,19,20,21,22,23,24,25,26,27,28,29,31,32,35,36,37,38,39,40,41,42,43,165,166,167] ?_;refine wZ (kD 0 [0,58,0,0,0,0,0,0,0,0,0,0,0,3,0,5,0]) follows ?_;obtain⟨Pj,g,a⟩:=Rx g a;refine wE a lG λoa a=>?_
  obtain⟨g,a⟩:=Rg g a;refine wK [2,5,7,8,14,16,18,19,20,21,22,23,24,25,26,27,28,29,31,32,35,36,37,38,39,40,41,42,165,166,167] ?_;refine wZ (kD 0 [58,0,0,0,0,0,0,3,0]) follows ?_;obtain⟨yp,k,a⟩:=mn a;have g:=And.intro g (show List.map ay b.2.2.2.2.2.2.1++[[.int .i64 oa]]=yp.map ay by injection k with k;rw[<-k];simp[go_sem]);obtain⟨mG,g,a⟩:=Rx g a;refine wE a lG λG3 a=>?_
  refine wW ?_;refine wZ (kD 0 [233,234,58,66,0,0,0,0,0,3,0,5,233,234]) follows ?_;obtain⟨jJ,g,a⟩:=Rx g a;refine wE a Di λpB a=>?_
  obtain⟨g,a⟩:=Rg g a;refine wK [2,5,7,8,14,16,18,19,20,21,22,23,24,25,26,27,28,29,31,32,35,36,37,38,39,40,41,42,165,166,167] ?_
  iterate 2 refine wW ?_
  refine bE a [2,5,7,8,14,16,18,19,20,21,22,23,24,25,26,27,28,29,31,32,35,36,37,38,39,40,41,165,166,167] (λyE=>[(44,.v (.int .i64 yE))]) (λyE a=>?_) λ_ I a=>?_
  ·obtain⟨g,a⟩:=Rg g a;refine wK [2,5,7,8,14,16,18,19,20,21,22,23,24,25,26,27,28,29,31,32,35,36,37,38,39,40,41,165,166,167] ?_;exact wi K G (a39 _) (ai a)
  refine wI a (λh98 a=>?_) λh98 a=>?_
  ·refine wZ (kD 0 [58,0,0,0,0,58,0,0,0,0,0,0,0,0,0,0,4,0,3,0]) follows ?_;obtain⟨PZ,g,a⟩:=Rx g a;refine wD a lG λDx a=>?_
   refine wE a lG λCf a=>?_
   exact wT (I _) (ai a)
  exact wT (I _) (ai a)
 refine wB ?_;obtain⟨b46,a3h,a13⟩:=a;refine bG a3h [2,3,4,5,7,8,14,16,18,19,20,21,22,23,24,25,26,27,28,30,31,113,114] (λvj c=>[(29,.bl [vD c.1,vD c.2.1,vD c.2.2.1,vD c.2.2.2.1,vD c.2.2.2.2.1,vD c.2.2.2.2.2.1]),(32,.v (vD c.2.2.2.2.2.2)),(115,.v (.int .i64 vj))]) (λc _ a3X=>?_) λvj c _ _ v B a6e a5r a=>?_
 ·exact wn a3X (Du _) a13
 refine wW ?_;refine wu v B ?_;refine wW ?_;refine wB ?_;obtain⟨wF,g,a⟩:=Rx g a;refine wK [2,3,4,5,7,8,14,16,18,19,20,21,22,23,24,25,26,27,28,29,30,31,32,33,34,113,114,115] ?_;refine wE a Fw λsW a=>?_
 obtain⟨g,a⟩:=Rg g a;refine wK [2,3,4,5,7,8,14,16,18,19,20,21,22,23,24,25,26,27,28,29,30,31,32,33,113,114,115] ?_;refine wZ (kD 0 [233,234,58,66,0,0,0,0,0,0,0,0,3,0,5,233,234]) follows ?_;obtain⟨pQ,o,a⟩:=mn a;have g:=And.intro g (show List.map ay c.2.2.2.2.2.2++[[.int .i64 sW]]=pQ.map ay by injection o with o;rw[<-o];simp[go_sem]);obtain⟨o7,g,a⟩:=Rx g a;obtain⟨oA,g,a⟩:=Rx g a;refine wE a Di λve a=>?_
 obtain⟨g,a⟩:=Rg g a;refine wK [2,3,4,5,7,8,14,16,18,19,20,21,22,23,24,25,26,27,28,29,30,31,32,113,114,115] ?_;exact wi v B (a5r _) (ai a)
def tn(a:am)(d:Int)(b:List ao)(e:List Int)(f:List Int)(c:List Int):Option (cu×Bool):=
 (qu a d b).bind λh=>
 ((if(!h.2)=O then(
 J O)else(
 (CK a e f (b.length:Int)).bind λk=>
 if(!k)=O then(
 J O)else(
 if((c.length:Int) !=(i64.wrap ((i64.wrap (8*(b.length:Int)))+2)))=O then(
 J O)else(
 (xF a c).bind λm=>
 J (!m)))):Option Bool).bind λj=>
 if j=O then(
 J ((cu.mk [] [] [] (cQ.mk [] [] [])),Z))else(
 (ET a h.1 d b e f c).bind λg=>
 J (g.1,g.2)))
def zoH{f h j k m n r}(s:tn f h j k m n=J r):aq zH 58 [(.sh,vE f),(.sh,.int .i64 h),(.sh,vJ j),(.sh,vC k),(.sh,vC m),(.sh,vC n)] (Eo (.bR [vO r.1,.bool r.2]) qr):=by
 apply KX 60 [] [51] [] [.cell 12 60,.tmp 13] s zLw Tryz.func58;intro y o a g;unfold tn at a;refine wW ?_;refine wE a IA λu a=>?_
 refine wK [1,2,3,4,5,6,12,14,15] ?_;refine bE a [1,2,3,4,5,6,12,14] (λp=>[(48,.v (.bool p))]) (λp a=>?_) λ_ b a=>?_
 ·refine wI a (λq a=>?_) λq a=>?_
  ·exact wl o a
  refine wW ?_;refine wE a zlj λt a=>?_
  refine wK [12,13] ?_;exact wm o a
 refine wG a (λc a=>?_) λc a=>?_
 ·exact wV c (b _) (ai a)
 try simp[go_sem,g,c]
 try intros
 refine wE a SF λv a=>?_
 try simp[go_sem,g,c]
 refine wG a (λe a=>?_) λe a=>?_
 ·exact wV e (b _) (ai a)
 try simp[go_sem,g,e]
 try intros
 refine wG a (λd a=>?_) λd a=>?_
 ·exact wV d (b _) (ai a)
 try simp[go_sem,g,d]
 refine wE a Ib λw a=>?_
 exact wV d (b _) (ai a)
def tD(f:am)(h:Int)(a:List ao)(g:Int)(j:List Int)(b:List Int):Option (bZ×Bool):=
 (qq f h a).bind λo=>
 ((if(!o.2)=O then(
 J O)else(
 (KS g).bind λp=>
 if(!p)=O then(
 J O)else(
 (Jj g (a.length:Int)).bind λq=>
 if((b.length:Int) !=q)=O then(
 J O)else(
 gd (0<=(a.length:Int))<|
 gd (0<=a.length/\a.length<=b.length)<|
 (CK f j ((b.take a.length).drop 0) (a.length:Int)).bind λm=>
 J (!m)))):Option Bool).bind λn=>
 if n=O then(
 J ((bZ.mk 0 [] (cO.mk [] [] (cQ.mk [] [] [])) (cu.mk [] [] [] (cQ.mk [] [] []))),Z))else(
 gd (0<=(a.length:Int))<|
 gd (0<=a.length/\a.length<=b.length)<|
 gd (0<=(a.length:Int))<|
 gd (a.length<=b.length/\b.length<=b.length)<|
 (Dl f h a j ((b.take a.length).drop 0)).bind λk=>
 ((if(g==1)=O then(
 (qO f h a j ((b.take a.length).drop 0) ((b.take b.length).drop a.length)).bind λe=>
 J (g,k,e.1.cC,e.1.aH,e.1.Pi.aF,e.1.Pi.aX,e.1.Pi.aG,[],[],[],[],[],[],e.2))else(
 (tn f h a j ((b.take a.length).drop 0) ((b.take b.length).drop a.length)).bind λd=>
 J (g,k,[],[],[],[],[],d.1.bX,d.1.bN,d.1.aH,d.1.Pi.aF,d.1.Pi.aX,d.1.Pi.aG,d.2)):Option ((Int×List ao×List Int×List Int×List Int×List Int×List Int×List Int×List Int×List Int×List Int×List Int×List Int×Bool))).bind λc=>
 if(!c.2.2.2.2.2.2.2.2.2.2.2.2.2)=O then(
 J ((bZ.mk 0 [] (cO.mk [] [] (cQ.mk [] [] [])) (cu.mk [] [] [] (cQ.mk [] [] []))),Z))else(
 J ((bZ.mk c.1 c.2.1 (cO.mk c.2.2.1 c.2.2.2.1 (cQ.mk c.2.2.2.2.1 c.2.2.2.2.2.1 c.2.2.2.2.2.2.1)) (cu.mk c.2.2.2.2.2.2.2.1 c.2.2.2.2.2.2.2.2.1 c.2.2.2.2.2.2.2.2.2.1 (cQ.mk c.2.2.2.2.2.2.2.2.2.2.1 c.2.2.2.2.2.2.2.2.2.2.2.1 c.2.2.2.2.2.2.2.2.2.2.2.2.1))),O)))))
def zpg{k m n o p q r}(u:tD k m n o p q=J r):aq zH 20 [(.sh,vE k),(.sh,.int .i64 m),(.sh,vJ n),(.sh,.int .i64 o),(.sh,vC p),(.sh,vC q)] (Eo (.bR [vP r.1,.bool r.2]) qr):=by
 apply KX 98 [] [] [] [.cell 12 62,.tmp 13] u zMq Tryz.func20;intro F h a g;unfold tD at a
 iterate 2 (try simp[go_sem,g];try intros;refine ba ?_)
 try simp[go_sem,g]
 try intros
 refine wE a Kd λC a=>?_
 refine wK [1,2,3,4,5,6,12,14,16] ?_;refine bE a [1,2,3,4,5,6,12,14] (λs=>[(54,.v (.bool s))]) (λs a=>?_) λ_ c a=>?_
 ·refine wI a (λt a=>?_) λt a=>?_
  ·exact wl h a
  refine wW ?_;refine wZ (kD 0 [0,0,0,0,0,0,0,0]) follows ?_
  iterate 4 obtain⟨g,a⟩:=Rg g a
  refine wW ?_;refine wE a TH λy a=>?_
  refine wK [1,2,3,4,6,12,17,18,19] ?_;refine wW ?_;refine wJ a (λb=>[(12,.bl [.int .i64 0,.sl O 2 [],.sl O 1 [],.sl O 1 [],.sl O 1 [],.sl O 1 [],.sl O 1 [],.sl O 1 [],.sl O 1 [],.sl O 1 [],.sl O 1 [],.sl O 1 [],.sl O 1 []]),(19,.bl [.int .i64 b.1,vG b.2.1,vC b.2.2.1,vC b.2.2.2.1,vC b.2.2.2.2.1,vC b.2.2.2.2.2.1,vC b.2.2.2.2.2.2.1,vC b.2.2.2.2.2.2.2.1,vC b.2.2.2.2.2.2.2.2.1,vC b.2.2.2.2.2.2.2.2.2.1,vC b.2.2.2.2.2.2.2.2.2.2.1,vC b.2.2.2.2.2.2.2.2.2.2.2.1,vC b.2.2.2.2.2.2.2.2.2.2.2.2.1]),(20,.v (.bool b.2.2.2.2.2.2.2.2.2.2.2.2.2))]) (λb a=>?_) λ_ j a=>?_
  ·refine wW ?_;refine wI a (λw a=>?_) λw a=>?_
   ·exact wl h a
   cases h _ (ai a)
   iterate 2 refine wW ?_
   try simp[go_sem,g]
  refine wI a (λv a=>?_) λv a=>?_
  ·refine wE a zmR λB a=>?_
   try simp[go_sem,g]
   refine nA 19 7 (by simp[go_sem,g];rfl) rfl (by simp[go_sem]) ?_;refine nA 19 8 (by simp[go_sem,g];rfl) rfl (by simp[go_sem]) ?_;refine nA 19 9 (by simp[go_sem,g];rfl) rfl (by simp[go_sem]) ?_;refine nA 19 10 (by simp[go_sem,g];rfl) rfl (by simp[go_sem]) ?_;refine nA 19 11 (by simp[go_sem,g];rfl) rfl (by simp[go_sem]) ?_;refine nA 19 12 (by simp[go_sem,g];rfl) rfl (by simp[go_sem]) ?_;exact wT (j _) (ai a)
  refine wE a zoH λA a=>?_
  try simp[go_sem,g]
  refine nA 19 2 (by simp[go_sem,g];rfl) rfl (by simp[go_sem]) ?_;refine nA 19 3 (by simp[go_sem,g];rfl) rfl (by simp[go_sem]) ?_;refine nA 19 4 (by simp[go_sem,g];rfl) rfl (by simp[go_sem]) ?_;refine nA 19 5 (by simp[go_sem,g];rfl) rfl (by simp[go_sem]) ?_;refine nA 19 6 (by simp[go_sem,g];rfl) rfl (by simp[go_sem]) ?_;exact wT (j _) (ai a)
 refine wZ (kD 0 [0,0,0,0,3,0,0,0,0,0,0,0,3,0,0,0,50,0,0,0,0,0,3,0,0]) follows ?_;refine wH a (λd a=>?_) λd a=>?_
 ·exact wV d (c _) (ai a)
 try simp[go_sem,g,d]
 refine wE a zoc λD a=>?_
 try simp[go_sem,g,d]
 refine wH a (λe a=>?_) λe a=>?_
 ·exact wV e (c _) (ai a)
 try simp[go_sem,g,e]
 try intros
 refine wE a zmr λE a=>?_
 try simp[go_sem,g,e]
 refine wH a (λf a=>?_) λf a=>?_
 ·exact wV f (c _) (ai a)
 obtain⟨g,a⟩:=Rg g a;obtain⟨g,a⟩:=Rg g a;try simp[go_sem,g,f]
 refine wE a SF λz a=>?_
 exact wV f (c _) (ai a)
def KJ(e:am)(f:Int)(g:List ao)(b:List Int)(h:(List (List Int)))(j:(List (List Int))):Option (List bZ×Bool):=
 (qq e f g).bind λq=>
 ((if(!q.2)=O then(
 J O)else(
 if decide (6<(b.length:Int))=O then(
 J O)else(
 if((h.length:Int) !=(b.length:Int))=O then(
 J O)else(
 J ((j.length:Int) !=(b.length:Int))))):Option Bool).bind λp=>
 if p=O then(
 J ([],Z))else(
 ((aO (σ:=(List ao)×List bZ) (λd a=>
 (ix b d).bind λm=>
 (ix h d).bind λn=>
 (ix j d).bind λo=>
 (tD e f a.1 m n o).bind λc=>
 if(!c.2)=O then(
 J (.out (.inr ([],Z))))else(
 gd ((a.2.length+1)*296<=140737488355328/\a.2.length+1<=4611686018427387904)<|
 J (.go (c.1.Out,a.2++[c.1])))) (λa=>.inl a.2) (b.length) 0 (g,[]):Option ((List bZ) ⊕ (List bZ×Bool))).bind (Sum.elim (λk=>
 J (k,O)) J))))
def zoe{n o p q s t r}(E:KJ n o p q s t=J r):aq zH 6 [(.sh,vE n),(.sh,.int .i64 o),(.sh,vJ p),(.sh,vC q),(.sh,vL s),(.sh,vL t)] (Eo (.bR [vQ r.1,.bool r.2]) qr):=by
 apply pF 83 [] [] [] [.tmp 12,.tmp 13] E cl6 Tryz.func6;intro P d a g;unfold KJ at a;refine wW ?_;refine wE a Kd λN a=>?_
 refine wK [1,2,3,4,5,6,15] ?_;refine bE a [1,2,3,4,5,6] (λw=>[(48,.v (.bool w))]) (λw a=>?_) λ_ b a=>?_
 ·refine wI a (λD a=>?_) λD a=>?_
  ·exact wl d a
  iterate 3 (try simp[go_sem,g];try intros;refine ba ?_)
  refine wS a (λu=>[(16,.v (vQ u))]) (λu a=>?_) λ_ G B a=>?_
  ·exact wl d a
  refine wB ?_;obtain⟨H,y,k⟩:=a;refine bG y [1,4,5,6,50,51] (λv c=>[(2,.v (vJ c.1)),(16,.v (vQ c.2)),(52,.v (.int .i64 v))]) (λc _ z=>?_) λv c _ _ j m A C a=>?_
  ·exact wn z (G _) k
  refine wW ?_;refine wu j m ?_;refine wW ?_;refine wB ?_;obtain⟨I,g,a⟩:=Rx g a;refine wK [1,2,4,5,6,16,17,18,50,51,52] ?_;refine wZ (kE [0,1,2,3,4,5,6,7,8,9,10,11,16,12,13,14,15,17,18] [50,0,0,0,0,0,0,0,0,0,0,0,0,3,0,0,0,154,0]) follows ?_;obtain⟨K,g,a⟩:=Rx g a;obtain⟨M,g,a⟩:=Rx g a;refine wE a zpg λL a=>?_
  refine wK [1,4,5,6,16,19,20,50,51,52] ?_;refine wW ?_;refine wI a (λF a=>?_) λF a=>?_
  ·cases A _ (ai a);cases d _ (B _ k);refine wW ?_;try simp[go_sem,g]
  refine wW ?_;refine wZ (kE [0,1,2,4,5,3,6,7] [0,154,0,153,154,5,0,0]) follows ?_;obtain⟨g,a⟩:=Rg g a;refine wK [1,2,4,5,6,16,50,51,52] ?_;exact wi j m (C _) (ai a)
 refine wG a (λe a=>?_) λe a=>?_
 ·exact wV e (b _) (ai a)
 try simp[go_sem,g,e]
 try intros
 refine wG a (λf a=>?_) λf a=>?_
 ·exact wV f (b _) (ai a)
 try simp[go_sem,g,f]
 try intros
 refine wG a (λh a=>?_) λh a=>?_
 ·exact wV h (b _) (ai a)
 try simp[go_sem,g,h]
 try intros
 exact wT (b _) (ai a)
def BB(a:am):Option Bool:=
 (((nO a.P 3 2000000000).bind λf=>
 if f=O then(
 (nO a.Q 2 (i64.wrap (a.P-1))).bind λg=>
 if g=O then(
 gd (a.Q≠0)<|
 if(((i64.wrap (a.P-1)).tmod a.Q)==0)=O then(
 (nO a.G 2 (i64.wrap (a.P-1))).bind λh=>
 if h=O then(
 (l4 a.G a.Q a.P).bind λb=>
 if(b==1)=O then(
 (Bv a.Q).bind λc=>
 if c=O then(
 (Bv a.P).bind λd=>
 J d)else(
 J Z))else(
 J Z))else(
 J Z))else(
 J Z))else(
 J Z))else(
 J Z):Option Bool).bind λe=>
 J e)
def P0{k r}(o:BB k=J r):aq zH 95 [(.sh,vE k)] (Eo (.bool r) [.az]):=by
 apply pF 51 [] [] [] [.tmp 2] o zJ2 Tryz.func95;intro w n a g;unfold BB at a;refine wW ?_;refine wJ a (λm=>[(2,.v (.bool m))]) (λm a=>?_) λ_ b a=>?_
 ·exact wm n a
 refine wE a qZ λt a=>?_
 refine wG a (λf a=>?_) λf a=>?_
 ·try simp[go_sem,g,f]
  refine wE a qZ λu a=>?_
  try simp[go_sem,g,f]
  refine wG a (λj a=>?_) λj a=>?_
  ·obtain⟨g,a⟩:=Rz g a;try simp[go_sem,g,j]
   refine wG a (λh a=>?_) λh a=>?_
   ·try simp[go_sem,g,h]
    refine wE a qZ λv a=>?_
    try simp[go_sem,g,h]
    refine wG a (λc a=>?_) λc a=>?_
    ·try simp[go_sem,g,c]
     refine wE a yF λp a=>?_
     try simp[go_sem,g,c]
     refine wG a (λe a=>?_) λe a=>?_
     ·try simp[go_sem,g,e]
      refine wE a Qb λq a=>?_
      try simp[go_sem,g,e]
      refine wG a (λd a=>?_) λd a=>?_
      ·try simp[go_sem,g,d]
       refine wE a Qb λs a=>?_
       exact wV d (b _) (ai a)
      exact wV d (b _) (ai a)
     exact wV e (b _) (ai a)
    exact wV c (b _) (ai a)
   exact wV h (b _) (ai a)
  exact wV j (b _) (ai a)
 exact wV f (b _) (ai a)
def p7(a:am)(b:List Int):Option Bool:=
 ((aO (σ:=Unit) (λf h=>
 (ix b f).bind λc=>
 (((nO c 1 (i64.wrap (a.P-1))).bind λd=>
 if(!d)=O then(
 J O)else(
 (l4 c a.Q a.P).bind λe=>
 J (e !=1)):Option Bool).bind λg=>
 if g=O then(
 J (.out (.inr Z)))else(
 J (.go ())))) (λh=>.inl ()) (b.length) 0 ():Option (Unit ⊕ Bool)).bind (Sum.elim (λj=>
 J O) J))
def ye{d e r}(w:p7 d e=J r):aq zH 106 [(.sh,vE d),(.sh,vC e)] (Eo (.bool r) cM):=by
 apply pF 29 [] [] [] [.tmp 4] w zFx Tryz.func106;intro E f a g;unfold p7 at a
 iterate 2 (try simp[go_sem,g];try intros;refine ba ?_)
 refine wS a (λz=>[]) (λz a=>?_) λ_ s v a=>?_
 ·exact wl f a
 refine wB ?_;obtain⟨B,q,j⟩:=a;refine bG q [2,7,8] (λm o=>[(9,.v (.int .i64 m))]) (λo _ p=>?_) λm o _ _ k h u t a=>?_
 ·exact wn p (s _) j
 refine wW ?_;refine wu k h ?_;refine wW ?_;refine wB ?_;obtain⟨A,g,a⟩:=Rx g a;refine wW ?_;refine bE a [2,7,8,9] (λn=>[(27,.v (.bool n))]) (λn a=>?_) λ_ c a=>?_
 ·refine wI a (λy a=>?_) λy a=>?_
  ·refine wK [4] ?_;cases u _ (ai a);cases f _ (v _ j);try simp[go_sem,g]
  refine wW ?_;exact wi k h (t _) (ai a)
 refine wE a qZ λC a=>?_
 refine wG a (λb a=>?_) λb a=>?_
 ·exact wV b (c _) (ai a)
 try simp[go_sem,g,b]
 refine wE a yF λD a=>?_
 exact wV b (c _) (ai a)
def JR(a:am)(b:Int):Option Bool:=
 (((BB a).bind λd=>
 if d=O then(
 (p7 a [b]).bind λe=>
 J e)else(
 J Z):Option Bool).bind λc=>
 J c)
def ztZ{c d r}(j:JR c d=J r):aq zH 94 [(.sh,vE c),(.sh,.int .i64 d)] (Eo (.bool r) cM):=by
 apply pF 13 [] [] [] [.tmp 4] j zMc Tryz.func94;intro n h a g;unfold JR at a;refine wW ?_;refine wJ a (λf=>[(4,.v (.bool f))]) (λf a=>?_) λ_ e a=>?_
 ·exact wm h a
 refine wE a P0 λk a=>?_
 refine wG a (λb a=>?_) λb a=>?_
 ·try simp[go_sem,g,b]
  refine wE a ye λm a=>?_
  exact wV b (e _) (ai a)
 exact wV b (e _) (ai a)
def Hl(c:am)(a:List ao):Option Bool:=
 if decide (24<(a.length:Int))=O then(
 J Z)else(
 ((aO (σ:=Unit) (λe f=>
 (ix a e).bind λb=>
 (p7 c [b.A,b.B]).bind λd=>
 if(!d)=O then(
 J (.out (.inr Z)))else(
 J (.go ()))) (λf=>.inl ()) (a.length) 0 ():Option (Unit ⊕ Bool)).bind (Sum.elim (λg=>
 J O) J)))
def Ye{c d r}(t:Hl c d=J r):aq zH 68 [(.sh,vE c),(.sh,vJ d)] (Eo (.bool r) cM):=by
 apply pF 25 [] [] [] [.tmp 4] t zKt Tryz.func68;intro B b a g;unfold Hl at a
 iterate 2 (try simp[go_sem,g];try intros;refine ba ?_)
 refine wI a (λs a=>?_) λs a=>?_
 ·exact wl b a
 iterate 2 (try simp[go_sem,g];try intros;refine ba ?_)
 refine wS a (λw=>[]) (λw a=>?_) λ_ p n a=>?_
 ·exact wl b a
 refine wB ?_;obtain⟨y,v,k⟩:=a;refine bG v [2,10,11] (λf j=>[(12,.v (.int .i64 f))]) (λj _ u=>?_) λf j _ _ e h m o a=>?_
 ·exact wn u (p _) k
 refine wW ?_;refine wu e h ?_;refine wW ?_;refine wB ?_;obtain⟨A,g,a⟩:=Rx g a;refine wK [2,6,10,11,12] ?_;refine wE a ye λz a=>?_
 refine wW ?_;refine wI a (λq a=>?_) λq a=>?_
 ·cases m _ (ai a);cases b _ (n _ k);refine wW ?_;try simp[go_sem,g]
 refine wW ?_;exact wi e h (o _) (ai a)
def qj(a:am)(c:Int)(b:List ao):Option Bool:=
 (((JR a c).bind λe=>
 if e=O then(
 (nO (b.length:Int) 1 12).bind λf=>
 if f=O then(
 (Hl a b).bind λg=>
 J g)else(
 J Z))else(
 J Z):Option Bool).bind λd=>
 J d)
def D4{e f h r}(m:qj e f h=J r):aq zH 59 [(.sh,vE e),(.sh,.int .i64 f),(.sh,vJ h)] (Eo (.bool r) gJ):=by
 apply pF 20 [] [] [] [.tmp 6] m zNf Tryz.func59;intro q k a g;unfold qj at a;refine wW ?_;refine wJ a (λj=>[(6,.v (.bool j))]) (λj a=>?_) λ_ d a=>?_
 ·exact wm k a
 refine wE a ztZ λn a=>?_
 refine wG a (λb a=>?_) λb a=>?_
 ·try simp[go_sem,g,b]
  try intros
  refine wE a qZ λo a=>?_
  try simp[go_sem,g,b]
  refine wG a (λc a=>?_) λc a=>?_
  ·try simp[go_sem,g,c]
   refine wE a Ye λp a=>?_
   exact wV c (d _) (ai a)
  exact wV c (d _) (ai a)
 exact wV b (d _) (ai a)
def HV(a:Int):Option Bool:=
 (nO a 0 4611686018427387903).bind λb=>
 J b
def zpJ{b r}(d:HV b=J r):aq zH 142 [(.sh,.int .i64 b)] (Eo (.bool r) [.az]):=by
 apply pF 5 [] [] [] [.tmp 2] d zHe Tryz.func142;intro f c a g;unfold HV at a;refine wW ?_;refine wE a qZ λe a=>?_
 exact wl c a
def H8(b:ByteArray)(c:List Int):Option ((List Int)):=
 ((dO (σ:=(List Int)×Int) (λa=>
 if decide (a.2<(b.size:Int))=O then(
 (yA b a.2).bind λe=>
 gd ((a.1.length+1)*8<=140737488355328/\a.1.length+1<=4611686018427387904)<|
 J (.go (a.1++[i64.wrap e],i64.wrap (a.2+1))))else(
 J (.out a.1))) ([(b.size:Int)],0):Option ((List Int))).bind λd=>
 gd ((d.length+c.length)*8<=140737488355328/\d.length+c.length<=4611686018427387904)<|
 J (d++c))
def zrg{d b r}(o:H8 d b=J r):aq zH 191 [(.sh,.str d),(.sh,vC b)] (Eo (vD r) cM):=by
 apply pF 26 [] [] [] [.tmp 4] o zFE Tryz.func191;intro t f a g;unfold H8 at a
 iterate 3 refine wW ?_
 refine wJ a (λe=>[(1,.v (vC b)),(5,.v (vD e))]) (λe a=>?_) λ_ h a=>?_
 ·obtain⟨g,a⟩:=Rg g a;refine wK [4] ?_;exact wm f a
 refine wB ?_;obtain⟨q,p,k⟩:=a;refine ka p [0,1] (λc=>[(5,.v (vD c.1)),(6,.v (.int .i64 c.2))]) λc _ _ m j a=>?_
 refine wK [0,1,5,6,13] ?_;refine wI a (λn a=>?_) λn a=>?_
 ·refine wW ?_;refine wB ?_;obtain⟨s,g,a⟩:=Rxs g a;obtain⟨g,a⟩:=Rg g a;refine wW ?_;exact wT (j _) (ai a)
 cases m _ (ai a);exact wT (h _) k
def G5(e:Int)(f:Int)(b:Int):Option ((Int×Int)):=
 (J [b.tmod 2147483648,i64.wrap (b.tdiv 2147483648)]).bind λd=>
 dO (σ:=(Int×Int)×Int) (λa=>
 if decide (a.2<(d.length:Int))=O then(
 (ix d a.2).bind λc=>
 J (.go (((i64.wrap ((i64.wrap ((i64.wrap (48271*a.1.1))+c))+1)).tmod 2147483647,(i64.wrap ((i64.wrap ((i64.wrap (69621*a.1.2))+c))+1)).tmod 2147483647),i64.wrap (a.2+1))))else(
 J (.out (a.1.1,a.1.2)))) ((e,f),0)
def Xs{e f b r}(k:G5 e f b=J r):aq zH 193 [(.io,vR e f),(.sh,.int .i64 b)] (Eo (.az) [vR r.1 r.2,.az]):=by
 apply pF 41 [0] [] [] [] k zD1 Tryz.func193;intro u j a g;unfold G5 at a;have g:=Ld g 2147483648;obtain⟨o,d,a⟩:=mn a;have g:=And.intro g (show[[.int .i64 (b.tmod 2147483648)],[.int .i64 (i64.wrap (b.tdiv 2147483648))]]=o.map ay by injection d with d;rw[<-d];simp[go_sem]);try simp[go_sem,g]
 try intros
 refine ba ?_;refine wB ?_;obtain⟨s,h,n⟩:=a;refine ka h [10,11] (λc=>[(0,.v (vR c.1.1 c.1.2)),(12,.v (.int .i64 c.2))]) λc _ _ p q a=>?_
 refine wW ?_;refine wI a (λm a=>?_) λm a=>?_
 ·refine wW ?_;refine wB ?_;obtain⟨t,g,a⟩:=Rx g a;refine wK [0,5,10,11,12] ?_;have g:=Ld g 2147483647;refine wK [0,5,10,11,12] ?_;refine wK [0,10,11,12] ?_;exact wT (q _) (ai a)
 cases p _ (ai a);cases j _ n;try simp[go_sem,g]
def HT(b:List Int):Option Int:=
 (G5 1 2 (b.length:Int)).bind λe=>
 ((aO (σ:=(Int×Int)) (λg a=>
 (ix b g).bind λf=>
 (G5 a.1 a.2 f).bind λc=>
 J (.go (c.1,c.2))) (λa=>(a.1,a.2)) (b.length) 0 (e.1,e.2):Option ((Int×Int))).bind λd=>
 J (i64.wrap ((i64.wrap (d.1*2147483648))+d.2)))
def zsm{f r}(q:HT f=J r):aq zH 190 [(.sh,vC f)] (Eo (.int .i64 r) [.az]):=by
 apply pF 32 [] [] [7] [.tmp 2] q zFQ Tryz.func190;intro y o a g;unfold HT at a
 iterate 2 (try simp[go_sem,g];try intros;refine ba ?_)
 try simp[go_sem,g]
 try intros
 refine wC a [.io,.sh] Xs λw a=>?_
 try simp[go_sem,g]
 try intros
 refine ba ?_;try simp[go_sem,g]
 try intros
 refine wK [3,12,13,14] ?_;refine wJ a (λc=>[(3,.v (vR c.1 c.2))]) (λc a=>?_) λ_ p a=>?_
 ·refine wZ (kD 0 [0,0,0,0,0,0,0,0,0,0,0]) follows ?_;refine wK [2] ?_;exact wm o a
 refine wB ?_;obtain⟨t,j,m⟩:=a;refine bG j [12,13] (λh b=>[(3,.v (vR b.1 b.2)),(14,.v (.int .i64 h))]) (λb _ k=>?_) λh b _ _ e d s n a=>?_
 ·exact wn k (p _) m
 refine wW ?_;refine wu e d ?_;refine wW ?_;refine wB ?_;obtain⟨v,g,a⟩:=Rx g a;refine wW ?_;refine wC a [.io,.sh] Xs λu a=>?_
 refine wW ?_;exact wi e d (n _) (ai a)
def EF(a:ByteArray)(b:List Int):Option Int:=
 (H8 a b).bind λc=>
 (HT c).bind λz2=>
 J z2
def zkD{b c r}(e:EF b c=J r):aq zH 175 [(.sh,.str b),(.sh,vC c)] (Eo (.int .i64 r) cM):=by
 apply pF 9 [] [] [] [.tmp 4] e zE3 Tryz.func175;intro h d a g;unfold EF at a;refine wW ?_;refine wE a zrg λf a=>?_
 refine wE a zsm λz2 a=>?_
 exact wl d a
def A6(a:am)(d:ByteArray)(e:Int):Option Int:=
 ((dO (σ:=Int) (λb=>
 if decide (b<1000)=O then(
 (EF d [a.P,a.Q,a.G,e,b]).bind λf=>
 gd (i64.wrap (a.P-1)≠0)<|
 gd (a.Q≠0)<|
 (l4 (i64.wrap (1+(f.tmod (i64.wrap (a.P-1))))) (i64.wrap ((i64.wrap (a.P-1)).tdiv a.Q)) a.P).bind λc=>
 if(c !=1)=O then(
 J (.out (.inr c)))else(
 J (.go (i64.wrap (b+1)))))else(
 J (.out (.inl ())))) 0:Option (Unit ⊕ Int)).bind (Sum.elim (λg=>
 J 0) J))
def zlg{b c d r}(q:A6 b c d=J r):aq zH 143 [(.sh,vE b),(.sh,.str c),(.sh,.int .i64 d)] (Eo (.int .i64 r) gJ):=by
 apply pF 43 [] [] [] [.tmp 6] q zFa Tryz.func143;intro y e a g;unfold A6 at a
 iterate 2 refine wW ?_
 refine wS a (λt=>[]) (λt a=>?_) λ_ k n a=>?_
 ·exact wl e a
 refine wB ?_;obtain⟨w,s,f⟩:=a;refine ka s [1,2,3] (λj=>[(7,.v (.int .i64 j))]) λj _ _ h m a=>?_
 refine wW ?_;refine wI a (λp a=>?_) λp a=>?_
 ·refine wW ?_;refine wB ?_;refine wZ (kE [0,1,2,3,4,5,6,7,8,9,11,12,13,10,14,15,16] [0,25,26,25,26,25,26,0,0,0,25,26,0,6,0,0,0]) follows ?_;refine wE a zkD λv a=>?_
  obtain⟨g,a⟩:=Rz g a;refine wK [1,2,3,7,8] ?_;refine wZ (kD 0 [0,25,26,0,25,26,0,25,26,3,0]) follows ?_;obtain⟨g,a⟩:=Rz g a;refine wE a yF λu a=>?_
  refine wK [1,2,3,7,9] ?_;refine wW ?_;refine wI a (λo a=>?_) λo a=>?_
  ·cases h _ (ai a);cases e _ (n _ f);refine wW ?_;try simp[go_sem,g]
  refine wW ?_;exact wT (m _) (ai a)
 cases h _ (ai a);exact wT (k _) f
def Jc(a:am)(b:ByteArray)(c:Int):Option (Int×Bool):=
 (((BB a).bind λf=>
 if(!f)=O then(
 J O)else(
 if decide (40<(b.size:Int))=O then(
 J O)else(
 (HV c).bind λg=>
 J (!g))):Option Bool).bind λe=>
 if e=O then(
 J (0,Z))else(
 (A6 a b c).bind λd=>
 J (d,decide (0<d))))
def zl3{e f h r}(n:Jc e f h=J r):aq zH 96 [(.sh,vE e),(.sh,.str f),(.sh,.int .i64 h)] (Eo (.bR [.int .i64 r.1,.bool r.2]) gJ):=by
 apply pF 29 [] [] [] [.tmp 6,.tmp 7] n zMu Tryz.func96;intro s j a g;unfold Jc at a;refine wW ?_;refine bE a [1,2,3] (λk=>[(21,.v (.bool k))]) (λk a=>?_) λ_ c a=>?_
 ·refine wI a (λm a=>?_) λm a=>?_
  ·exact wl j a
  refine wW ?_;refine wE a zlg λq a=>?_
  refine wW ?_;refine wK [6,7] ?_;exact wm j a
 refine wE a P0 λo a=>?_
 refine wG a (λd a=>?_) λd a=>?_
 ·exact wV d (c _) (ai a)
 try simp[go_sem,g,d]
 refine wG a (λb a=>?_) λb a=>?_
 ·exact wV b (c _) (ai a)
 try simp[go_sem,g,b]
 refine wE a zpJ λp a=>?_
 exact wV b (c _) (ai a)
def Ii(b:am)(c:ByteArray)(d:Int):Option (List Int×Bool):=
 (((BB b).bind λh=>
 if(!h)=O then(
 J O)else(
 if decide (40<(c.size:Int))=O then(
 J O)else(
 (nO d 0 100).bind λj=>
 J (!j))):Option Bool).bind λg=>
 if g=O then(
 J ([],Z))else(
 ((dO (σ:=(List Int)×Int) (λa=>
 if decide (a.2<d)=O then(
 (A6 b c a.2).bind λe=>
 if(e==0)=O then(
 J (.out (.inr ([],Z))))else(
 gd ((a.1.length+1)*8<=140737488355328/\a.1.length+1<=4611686018427387904)<|
 J (.go (a.1++[e],i64.wrap (a.2+1)))))else(
 J (.out (.inl a.1)))) ([],0):Option ((List Int) ⊕ (List Int×Bool))).bind (Sum.elim (λf=>
 J (f,O)) J))))
def zlK{k m n r}(w:Ii k m n=J r):aq zH 97 [(.sh,vE k),(.sh,.str m),(.sh,.int .i64 n)] (Eo (.bR [vD r.1,.bool r.2]) gJ):=by
 apply pF 40 [] [] [] [.tmp 6,.tmp 7] w zJ8 Tryz.func97;intro E c a g;unfold Ii at a;refine wW ?_;refine bE a [1,2,3] (λp=>[(23,.v (.bool p))]) (λp a=>?_) λ_ d a=>?_
 ·refine wI a (λv a=>?_) λv a=>?_
  ·exact wl c a
  iterate 3 refine wW ?_
  refine wS a (λo=>[(8,.v (vD o))]) (λo a=>?_) λ_ z q a=>?_
  ·exact wl c a
  refine wB ?_;obtain⟨A,t,h⟩:=a;refine ka t [1,2,3] (λe=>[(8,.v (vD e.1)),(9,.v (.int .i64 e.2))]) λe _ _ j s a=>?_
  refine wW ?_;refine wI a (λu a=>?_) λu a=>?_
  ·refine wW ?_;refine wB ?_;refine wE a zlg λB a=>?_
   refine wK [1,2,3,8,9,10] ?_;refine wW ?_;refine wI a (λy a=>?_) λy a=>?_
   ·cases j _ (ai a);cases c _ (q _ h);refine wW ?_;try simp[go_sem,g]
   obtain⟨g,a⟩:=Rg g a
   iterate 2 refine wW ?_
   exact wT (s _) (ai a)
  cases j _ (ai a);exact wT (z _) h
 refine wE a P0 λC a=>?_
 refine wG a (λf a=>?_) λf a=>?_
 ·exact wV f (d _) (ai a)
 try simp[go_sem,g,f]
 refine wG a (λb a=>?_) λb a=>?_
 ·exact wV b (d _) (ai a)
 try simp[go_sem,g,b]
 refine wE a qZ λD a=>?_
 exact wV b (d _) (ai a)
def pX(a:am)(b:Int):Option (ct×Bool):=
 (((BB a).bind λg=>
 if(!g)=O then(
 J O)else(
 (nO b 0 24).bind λh=>
 J (!h)):Option Bool).bind λf=>
 if f=O then(
 J ((ct.mk 0 []),Z))else(
 (Jc a (⟨#[104]⟩:ByteArray) 0).bind λc=>
 (Ii a (⟨#[104,115]⟩:ByteArray) b).bind λd=>
 ((if(!c.2)=O then(
 J O)else(
 J (!d.2)):Option Bool).bind λe=>
 if e=O then(
 J ((ct.mk 0 []),Z))else(
 J ((ct.mk c.1 d.1),O)))))
def Ps{f h r}(p:pX f h=J r):aq zH 60 [(.sh,vE f),(.sh,.int .i64 h)] (Eo (.bR [vK r.1,.bool r.2]) cM):=by
 apply pF 40 [] [] [] [.cell 4 52,.tmp 5] p zJ7 Tryz.func60;intro v c a g;unfold pX at a;refine wW ?_;refine bE a [1,2,4] (λm=>[(17,.v (.bool m))]) (λm a=>?_) λ_ j a=>?_
 ·refine wI a (λo a=>?_) λo a=>?_
  ·exact wl c a
  refine wW ?_;refine wE a zl3 λt a=>?_
  refine wK [1,2,4,6,7] ?_;refine wE a zlK λu a=>?_
  refine wW ?_;refine bE a [4,6,8] (λk=>[(35,.v (.bool k))]) (λk a=>?_) λ_ e a=>?_
  ·refine wI a (λn a=>?_) λn a=>?_
   ·refine wK [4,5] ?_;exact wm c a
   refine wW ?_;refine wK [4,5] ?_;exact wm c a
  refine wG a (λd a=>?_) λd a=>?_
  ·exact wV d (e _) (ai a)
  exact wV d (e _) (ai a)
 refine wE a P0 λq a=>?_
 refine wG a (λb a=>?_) λb a=>?_
 ·exact wV b (j _) (ai a)
 try simp[go_sem,g,b]
 refine wE a qZ λs a=>?_
 exact wV b (j _) (ai a)
def nr(a:am)(c:Int)(b:List ao):Option Bool:=
 (qj a c b).bind λd=>
 if(!d)=O then(
 J Z)else(
 (pX a (b.length:Int)).bind λe=>
 J e.2)
def Ty{b c d r}(h:nr b c d=J r):aq zH 21 [(.sh,vE b),(.sh,.int .i64 c),(.sh,vJ d)] (Eo (.bool r) gJ):=by
 apply pF 22 [] [] [] [.tmp 6] h zJ0 Tryz.func21;intro m e a g;unfold nr at a;refine wW ?_;refine wE a D4 λj a=>?_
 refine wW ?_;refine wI a (λf a=>?_) λf a=>?_
 ·exact wl e a
 try simp[go_sem,g]
 try intros
 refine ba ?_;try simp[go_sem,g]
 try intros
 refine wE a Ps λk a=>?_
 refine wK [8] ?_;exact wl e a
def Dc(a:List Int)(b:Int)(c:Int):Option Bool:=
 ((aO (σ:=Unit) (λf g=>
 (ix a f).bind λd=>
 (nO d b c).bind λe=>
 if(!e)=O then(
 J (.out (.inr Z)))else(
 J (.go ()))) (λg=>.inl ()) (a.length) 0 ():Option (Unit ⊕ Bool)).bind (Sum.elim (λh=>
 J O) J))
def RB{b c d r}(u:Dc b c d=J r):aq zH 76 [(.sh,vC b),(.sh,.int .i64 c),(.sh,.int .i64 d)] (Eo (.bool r) gJ):=by
 apply pF 21 [] [] [] [.tmp 6] u zIZ Tryz.func76;intro B e a g;unfold Dc at a
 iterate 2 (try simp[go_sem,g];try intros;refine ba ?_)
 refine wS a (λw=>[]) (λw a=>?_) λ_ n s a=>?_
 ·exact wl e a
 refine wB ?_;obtain⟨A,t,h⟩:=a;refine bG t [1,2,9,10] (λk m=>[(11,.v (.int .i64 k))]) (λm _ v=>?_) λk m _ _ j f p o a=>?_
 ·exact wn v (n _) h
 refine wW ?_;refine wu j f ?_;refine wW ?_;refine wB ?_;obtain⟨y,g,a⟩:=Rx g a;refine wW ?_;refine wE a qZ λz a=>?_
 refine wK [1,2,9,10,11,19] ?_;refine wI a (λq a=>?_) λq a=>?_
 ·cases p _ (ai a);cases e _ (s _ h);refine wW ?_;try simp[go_sem,g]
 refine wW ?_;exact wi j f (o _) (ai a)
def Gj(a:List Int)(b:Int):Option Bool:=
 ((aO (σ:=Unit) (λd e=>
 (ix a d).bind λc=>
 if(c==b)=O then(
 J (.out (.inr O)))else(
 J (.go ()))) (λe=>.inl ()) (a.length) 0 ():Option (Unit ⊕ Bool)).bind (Sum.elim (λf=>
 J Z) J))
def ZU{b c r}(s:Gj b c=J r):aq zH 111 [(.sh,vC b),(.sh,.int .i64 c)] (Eo (.bool r) cM):=by
 apply pF 17 [] [] [] [.tmp 4] s zEv Tryz.func111;intro z d a g;unfold Gj at a
 iterate 2 (try simp[go_sem,g];try intros;refine ba ?_)
 refine wS a (λv=>[]) (λv a=>?_) λ_ m p a=>?_
 ·exact wl d a
 refine wB ?_;obtain⟨y,t,f⟩:=a;refine bG t [1,7,8] (λj k=>[(9,.v (.int .i64 j))]) (λk _ u=>?_) λj k _ _ h e o n a=>?_
 ·exact wn u (m _) f
 refine wW ?_;refine wu h e ?_;refine wW ?_;refine wB ?_;obtain⟨w,g,a⟩:=Rx g a;refine wW ?_;refine wK [1,7,8,9,15] ?_;refine wI a (λq a=>?_) λq a=>?_
 ·cases o _ (ai a);cases d _ (p _ f);refine wW ?_;try simp[go_sem,g]
 refine wW ?_;exact wi h e (n _) (ai a)
def P4(b:List Int):Option Bool:=
 ((aO (σ:=Unit) (λa e=>
 (ix b a).bind λc=>
 gd (0<=a)<|
 gd (0<=a.toNat/\a.toNat<=b.length)<|
 (Gj ((b.take a.toNat).drop 0) c).bind λd=>
 if d=O then(
 J (.out (.inr Z)))else(
 J (.go ()))) (λe=>.inl ()) (b.length) 0 ():Option (Unit ⊕ Bool)).bind (Sum.elim (λf=>
 J O) J))
def zn9{b r}(s:P4 b=J r):aq zH 77 [(.sh,vC b)] (Eo (.bool r) [.az]):=by
 apply pF 18 [] [] [] [.tmp 2] s zMC Tryz.func77;intro z c a g;unfold P4 at a
 iterate 2 (try simp[go_sem,g];try intros;refine ba ?_)
 refine wS a (λu=>[]) (λu a=>?_) λ_ k p a=>?_
 ·exact wl c a
 refine wB ?_;obtain⟨y,q,e⟩:=a;refine bG q [0,5,6] (λh j=>[(7,.v (.int .i64 h))]) (λj _ t=>?_) λh j _ _ f d n m a=>?_
 ·exact wn t (k _) e
 refine wW ?_;refine wu f d ?_;refine wW ?_;refine wB ?_;obtain⟨v,g,a⟩:=Rx g a;refine wK [0,3,4,5,6,7] ?_
 iterate 2 obtain⟨g,a⟩:=Rg g a
 refine wE a ZU λw a=>?_
 refine wW ?_;refine wI a (λo a=>?_) λo a=>?_
 ·cases n _ (ai a);cases c _ (p _ e);refine wW ?_;try simp[go_sem,g]
 refine wW ?_;exact wi f d (m _) (ai a)
def Cz(a:List Int):Option Bool:=
 ((if decide ((a.length:Int)<=24)=O then(
 (Dc a 0 (i64.wrap ((a.length:Int)-1))).bind λc=>
 if c=O then(
 (P4 a).bind λd=>
 J d)else(
 J Z))else(
 J Z):Option Bool).bind λb=>
 J b)
def znA{e r}(j:Cz e=J r):aq zH 36 [(.sh,vC e)] (Eo (.bool r) [.az]):=by
 apply pF 17 [] [] [] [.tmp 2] j zM3 Tryz.func36;intro n h a g;unfold Cz at a;refine wW ?_;refine wJ a (λf=>[(2,.v (.bool f))]) (λf a=>?_) λ_ d a=>?_
 ·exact wm h a
 try simp[go_sem,g]
 try intros
 refine wG a (λb a=>?_) λb a=>?_
 ·try simp[go_sem,g,b]
  try intros
  refine wE a RB λk a=>?_
  try simp[go_sem,g,b]
  refine wG a (λc a=>?_) λc a=>?_
  ·try simp[go_sem,g,c]
   refine wE a zn9 λm a=>?_
   exact wV c (d _) (ai a)
  exact wV c (d _) (ai a)
 exact wV b (d _) (ai a)
def sF(a:am)(b:List Int):Option Bool:=
 (Dc b 0 (i64.wrap (a.Q-1))).bind λc=>
 J c
def Df{b c r}(e:sF b c=J r):aq zH 61 [(.sh,vE b),(.sh,vC c)] (Eo (.bool r) cM):=by
 apply pF 10 [] [] [] [.tmp 4] e zMf Tryz.func61;intro h d a g;unfold sF at a;refine wW ?_;refine wE a RB λf a=>?_
 exact wl d a
def ep(b:am)(c:List Int):Option Int:=
 ((aO (σ:=Int) (λe a=>
 (ix c e).bind λd=>
 gd (b.P≠0)<|
 J (.go ((i64.wrap (a*d)).tmod b.P))) (λa=>a) (c.length) 0 1:Option Int).bind λf=>
 J f)
def gW{c d r}(p:ep c d=J r):aq zH 159 [(.sh,vE c),(.sh,vC d)] (Eo (.int .i64 r) cM):=by
 apply pF 22 [] [] [] [.tmp 4] p zGI Tryz.func159;intro w k a g;unfold ep at a
 iterate 3 (try simp[go_sem,g];try intros;refine ba ?_)
 refine wJ a (λj=>[(5,.v (.int .i64 j))]) (λj a=>?_) λ_ m a=>?_
 ·exact wl k a
 refine wB ?_;obtain⟨t,q,o⟩:=a;refine bG q [2,8,9] (λh b=>[(5,.v (.int .i64 b)),(10,.v (.int .i64 h))]) (λb _ s=>?_) λh b _ _ f e v n a=>?_
 ·exact wn s (m _) o
 refine wW ?_;refine wu f e ?_;refine wW ?_;refine wB ?_;obtain⟨u,g,a⟩:=Rx g a;refine wK [2,5,7,8,9,10] ?_;obtain⟨g,a⟩:=Rz g a;refine wW ?_;exact wi f e (n _) (ai a)
def L2(a:am)(c:Int)(d:Int)(b:Int):Option ao:=
 (cF a a.G b).bind λe=>
 (cF a c b).bind λz2=>
 (ep a [d,z2]).bind λf=>
 J (ao.mk e f)
def ztJ{b c d e r}(h:L2 b c d e=J r):aq zH 177 [(.sh,vE b),(.sh,.int .i64 c),(.sh,.int .i64 d),(.sh,.int .i64 e)] (Eo (vF r) jY):=by
 apply pF 23 [] [] [] [.cell 8 70] h zEs Tryz.func177;intro m f a g;unfold L2 at a;refine wW ?_;refine wZ (kE [0,1,2,3,5,6,7,8,9,4,10,11,12,13,14] [34,33,34,0,34,0,34,0,0,3,3,0,6,0,66]) follows ?_;refine wE a eP λj a=>?_
 refine wE a eP λz2 a=>?_
 refine wE a gW λk a=>?_
 refine wK [8] ?_;exact wm f a
def PH(b:am)(c:List ao):Option ao:=
 ((aO (σ:=Int×Int) (λh a=>
 (ix c h).bind λd=>
 (ep b [a.1,d.A]).bind λf=>
 (ep b [a.2,d.B]).bind λg=>
 J (.go (f,g))) (λa=>(a.1,a.2)) (c.length) 0 (1,1):Option ((Int×Int))).bind λe=>
 J (ao.mk e.1 e.2))
def ztP{f h r}(s:PH f h=J r):aq zH 176 [(.sh,vE f),(.sh,vJ h)] (Eo (vF r) cM):=by
 apply pF 32 [] [] [] [.cell 4 70] s zED Tryz.func176;intro z p a g;unfold PH at a
 iterate 3 (try simp[go_sem,g];try intros;refine ba ?_)
 refine wJ a (λc=>[(4,.bl [.int .i64 0,.int .i64 0]),(5,.bl [.int .i64 c.1,.int .i64 c.2])]) (λc a=>?_) λ_ q a=>?_
 ·refine wK [4] ?_;exact wm p a
 refine wB ?_;obtain⟨t,k,n⟩:=a;refine bG k [2,4,9,10] (λj b=>[(5,.bl [.int .i64 b.1,.int .i64 b.2]),(11,.v (.int .i64 j))]) (λb _ m=>?_) λj b _ _ e d u o a=>?_
 ·exact wn m (q _) n
 refine wW ?_;refine wu e d ?_;refine wW ?_;refine wB ?_;obtain⟨w,g,a⟩:=Rx g a;refine wK [2,4,5,7,9,10,11] ?_;refine wZ (kE [0,1,2,3,4,5,7,8,9,10,11,12,6,13,14,15] [18,41,42,57,58,0,18,41,42,57,58,0,6,6,0,42]) follows ?_;refine wE a gW λv a=>?_
 refine wE a gW λy a=>?_
 refine wK [2,4,5,9,10,11] ?_;exact wi e d (o _) (ai a)
def EB(a:am)(b:Int)(c:ao)(d:Int):Option ao:=
 (L2 a b 1 d).bind λe=>
 (PH a [c,e]).bind λz2=>
 J z2
def zv9{b c d e r}(h:EB b c d e=J r):aq zH 144 [(.sh,vE b),(.sh,.int .i64 c),(.sh,vF d),(.sh,.int .i64 e)] (Eo (vF r) jY):=by
 apply pF 17 [] [] [] [.cell 8 70] h zD5 Tryz.func144;intro k f a g;unfold EB at a;refine wW ?_;refine wZ (kD 0 [34,50,34,0,0,3,0,6,66]) follows ?_;refine wE a ztJ λj a=>?_
 refine wE a ztP λz2 a=>?_
 refine wK [8] ?_;exact wm f a
def Ck(d:am)(e:Int)(f:List ao)(b:List Int)(g:List Int):Option ((List ao)):=
 ((aO (σ:=(List ao)) (λc a=>
 (ix b c).bind λh=>
 (ix f h).bind λj=>
 (ix g c).bind λk=>
 (EB d e j k).bind λm=>
 gd ((a.length+1)*16<=140737488355328/\a.length+1<=4611686018427387904)<|
 J (.go (a++[m]))) (λa=>a) (b.length) 0 []:Option ((List ao))).bind λn=>
 J n)
end
end Go.Pm
