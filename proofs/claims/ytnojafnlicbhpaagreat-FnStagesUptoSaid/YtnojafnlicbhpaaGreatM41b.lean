/-
  Plain functions and their walks. Written by wip/tools/lift.py.
-/
import Derived.Test.YtnojafnlicbhpaaGreatM41
namespace Go.Pm
set_option linter.defProp false
open Go.Am IntKind
open Go.Proofs
open Bool renaming false→aa,true→Z
open Option renaming none→ae,some→J
set_option maxRecDepth 100000
set_option maxHeartbeats 4000000
attribute [local irreducible] pw pwx pw1 pwg qv qz qf
attribute [-simp] List.map_set
set_option linter.unusedSimpArgs false
set_option linter.unusedVariables false
noncomputable section
def zpw{a0 a1 a2 a3 r}(hr:IM a0 a1 a2 a3=J r):ap Tryz.prog 186 [(.sh,vE a0),(.sh,vJ a1),(.sh,vC a2),(.sh,vC a3)] (Eo (vD r) ky):=by
 apply pE [] hr zEv Tryz.AeQ;intro Φ ak hF g;unfold IM at hF;obtain⟨g,hF⟩:=Rg g hF;obtain⟨x1,e2,hF⟩:=mJ hF;have g3:List.replicate a2.length ([.int .i64 0]:List PV)=x1.map aJ:=by injection e2 with e2;rw[<-e2];simp[go_sem]
 iterate 2 (try simp[go_sem,g,g3];try intros;refine bu ?_)
 try simp[go_sem,g,g3]
 try intros
 refine wK [3,4,5,9,15,16,17] ?_;refine wJ hF (λx6=>[(9,.v (vD x6))]) (λx6 hF=>?_) λ_ hj0 hF=>?_
 ·exact wl ak hF
 refine wR hF [3,4,5,15,16] (λmz dw=>[(9,.v (vD dw)),(17,.v (.int .i64 mz))]) λb bg mz dw _ _ aO aN bo ba hF=>?_
 refine wW ?_;refine wu aO aN ?_;refine wW ?_;refine wB ?_;obtain⟨fO,g,hF⟩:=Rx g hF;refine wW ?_;refine wZ (kE [0,1,2,3,4,5,6,7,8,9,11,12,13,14,15,10,16,17,18,19] [0,0,34,34,33,34,0,0,0,0,41,42,0,0,0,4,0,6,0,0]) follows ?_;have c0:= @ft;have c1:= @hJ;exact wL
def rD(a0:Int)(a1:List an)(a2:List an)(a3:List Int):Option ((List Int)):=
 ((aS (σ:=(List Int)) (λi5 s4=>
 (ix a1 i5).bind λaU=>
 gd ((s4.length+2)*8<=140737488355328/\s4.length+2<=4611686018427387904)<|
 J (.go (s4++[aU.A,aU.B]))) (λs4=>s4) (a1.length) 0 [a0]:Option ((List Int))).bind λx3=>
 ((aS (σ:=(List Int)) (λqD eK=>
 (ix a2 qD).bind λFy=>
 gd ((eK.length+2)*8<=140737488355328/\eK.length+2<=4611686018427387904)<|
 J (.go (eK++[Fy.A,Fy.B]))) (λeK=>eK) (a2.length) 0 x3:Option ((List Int))).bind λlL=>
 gd ((lL.length+a3.length)*8<=140737488355328/\lL.length+a3.length<=4611686018427387904)<|
 J (lL++a3)))
def EI{a0 a1 a2 a3 r}(hr:rD a0 a1 a2 a3=J r):ap Tryz.prog 198 [(.sh,.int .i64 a0),(.sh,vH a1),(.sh,vH a2),(.sh,vC a3)] (Eo (vD r) ky):=by
 apply pE [] hr zEJ Tryz.Age;intro Φ ak hF g;unfold rD at hF
 iterate 3 (try simp[go_sem,g];try intros;refine bu ?_)
 refine bS hF [2,3] (λx3=>[(9,.v (vD x3))]) (λx3 hF=>?_) λ_ hj0 hF=>?_
 ·try simp[go_sem,g]
  try intros
  refine wK [3,9,30,31,32] ?_;refine wJ hF (λlL=>[(3,.v (vC a3)),(9,.v (vD lL))]) (λlL hF=>?_) λ_ hj0 hF=>?_
  ·exact wL
  refine wR hF [3,30,31] (λqD eK=>[(9,.v (vD eK)),(32,.v (.int .i64 qD))]) λb bg qD eK _ _ aO aN bo ba hF=>?_
  exact wL
 refine wR hF [2,3,16,17] (λi5 s4=>[(9,.v (vD s4)),(18,.v (.int .i64 i5))]) λb bg i5 s4 _ _ aO aN bo ba hF=>?_
 exact wL
def BV(a0:List Int):Option ((List Int)):=
 gd (a0.length*8<=140737488355328/\a0.length<=4611686018427387904)<|
 J a0
def Lq{a0 r}(hr:BV a0=J r):ap Tryz.prog 67 [(.sh,vC a0)] (Eo (vD r) [.au]):=by
 apply pE [] hr zKX Tryz.AcB;intro Φ ak hF g;unfold BV at hF;exact wL
def pY(a0:am)(a1:ByteArray)(a2:List Int):Option Int:=
 gd (([a0.P,a0.Q,a0.G].length+a2.length)*8<=140737488355328/\[a0.P,a0.Q,a0.G].length+a2.length<=4611686018427387904)<|
 (EC a1 ([a0.P,a0.Q,a0.G]++a2)).bind λz1=>
 gd (a0.Q≠0)<|
 J (z1.tmod a0.Q)
def FT{a0 a1 a2 r}(hr:pY a0 a1 a2=J r):ap Tryz.prog 197 [(.sh,vE a0),(.sh,.str a1),(.sh,vC a2)] (Eo (.int .i64 r) gq):=by
 apply pE [] hr zHv Tryz.AfC;intro Φ ak hF g;unfold pY at hF;refine wW ?_;refine wZ (kE [0,1,2,3,4,5,6,7,8,11,12,9,10,13,14] [0,25,26,25,26,25,26,0,0,25,26,5,3,0,0]) follows ?_;have c0:= @Y3;exact wL
def DV(a0:am)(a1:ByteArray)(a2:List Int)(a3:Int):Option ((List Int)):=
 ((dI (σ:=(List Int)×Int) (λs4=>
 if decide (s4.2<a3)=Z then(
 (BV a2).bind λbX=>
 gd ((bX.length+1)*8<=140737488355328/\bX.length+1<=4611686018427387904)<|
 (pY a0 a1 (bX++[s4.2])).bind λb7=>
 gd ((s4.1.length+1)*8<=140737488355328/\s4.1.length+1<=4611686018427387904)<|
 J (.go (s4.1++[b7],i64.wrap (s4.2+1))))else(
 J (.out s4.1))) ([],0):Option ((List Int))).bind λx3=>
 J x3)
def znQ{a0 a1 a2 a3 r}(hr:DV a0 a1 a2 a3=J r):ap Tryz.prog 213 [(.sh,vE a0),(.sh,.str a1),(.sh,vC a2),(.sh,.int .i64 a3)] (Eo (vD r) ky):=by
 apply pE [] hr zFo Tryz.AiD;intro Φ ak hF g;unfold DV at hF
 iterate 3 refine wW ?_
 refine wJ hF (λx3=>[(9,.v (vD x3))]) (λx3 hF=>?_) λ_ hj0 hF=>?_
 ·exact wl ak hF
 refine wB ?_;obtain⟨b12,TV,bg⟩:=hF;refine jI TV [1,2,3,4] (λs4=>[(9,.v (vD s4.1)),(10,.v (.int .i64 s4.2))]) λs4 _ _ bo ba hF=>?_
 refine wW ?_;refine wI hF (λh9 hF=>?_) λh9 hF=>?_
 ·refine wW ?_;refine wB ?_;refine wZ (kE [0,1,2,3,5,6,4,7,8,9,10,11] [0,34,0,0,0,0,3,5,3,0,5,0]) follows ?_;have c0:= @Lq;have c1:= @FT;exact wL
 exact wL
def yX(a0:am)(a1:Int)(a2:List an)(a3:List an)(a4:List Int):Option ((List Int)):=
 (rD a1 a2 a3 a4).bind λz1=>
 (DV a0 (⟨#[109,105,120,32,99,111,108,117,109,110,115]⟩:ByteArray) z1 (a2.length:Int)).bind λz2=>
 J z2
def Wi{a0 a1 a2 a3 a4 r}(hr:yX a0 a1 a2 a3 a4=J r):ap Tryz.prog 187 [(.sh,vE a0),(.sh,.int .i64 a1),(.sh,vH a2),(.sh,vH a3),(.sh,vC a4)] (Eo (vD r) rX):=by
 apply pE [] hr zGi Tryz.AfX;intro Φ ak hF g;unfold yX at hF;refine wW ?_;refine wZ (kE [0,1,2,3,4,6,7,5,8,9] [42,0,0,0,0,0,0,3,3,0]) follows ?_;have c0:= @EI;have c1:= @znQ;exact wL
def GY(a0:am)(a1:ct)(a2:List Int)(a3:List Int):Option ((List Int)):=
 ((aS (σ:=(List Int)×Int) (λi5 s4=>
 (ix a2 i5).bind λaU=>
 (ix a3 i5).bind λdf=>
 (cC a0 a0.G df).bind λdk=>
 (cC a0 s4.2 aU).bind λeQ=>
 (ej a0 [dk,eQ]).bind λfE=>
 gd ((s4.1.length+1)*8<=140737488355328/\s4.1.length+1<=4611686018427387904)<|
 J (.go (s4.1++[fE],fE))) (λs4=>s4.1) (a2.length) 0 ([],a1.H):Option ((List Int))).bind λx3=>
 J x3)
def zrE{a0 a1 a2 a3 r}(hr:GY a0 a1 a2 a3=J r):ap Tryz.prog 188 [(.sh,vE a0),(.sh,vJ a1),(.sh,vC a2),(.sh,vC a3)] (Eo (vD r) ky):=by
 apply pE [] hr zHK Tryz.Aiy;intro Φ ak hF g;unfold GY at hF
 iterate 3 (try simp[go_sem,g];try intros;refine bu ?_)
 try simp[go_sem,g]
 try intros
 refine wK [3,4,9,10,15,16,17] ?_;refine wJ hF (λx3=>[(9,.v (vD x3))]) (λx3 hF=>?_) λ_ hj0 hF=>?_
 ·exact wl ak hF
 refine wR hF [3,4,15,16] (λi5 s4=>[(9,.v (vD s4.1)),(10,.v (.int .i64 s4.2)),(17,.v (.int .i64 i5))]) λb bg i5 s4 _ _ aO aN bo ba hF=>?_
 refine wW ?_;refine wu aO aN ?_;refine wW ?_;refine wB ?_;obtain⟨aU,g,hF⟩:=Rx g hF;refine wW ?_;refine wZ (kE [0,1,2,3,4,5,6,7,9,10,11,8,12,13,14,15] [34,34,33,34,0,0,0,0,34,0,0,3,3,0,6,0]) follows ?_;have c0:= @ft;have c1:= @hJ;exact wL
def ut(a0:List an):Option (List Int×List Int):=
 ((aS (σ:=(List Int)×List Int) (λi5 s4=>
 (ix a0 i5).bind λaU=>
 gd ((s4.1.length+1)*8<=140737488355328/\s4.1.length+1<=4611686018427387904)<|
 gd ((s4.2.length+1)*8<=140737488355328/\s4.2.length+1<=4611686018427387904)<|
 J (.go (s4.1++[aU.A],s4.2++[aU.B]))) (λs4=>(s4.1,s4.2)) (a0.length) 0 ([],[]):Option ((List Int×List Int))).bind λx3=>
 J (x3.1,x3.2))
def Gi{a0 r}(hr:ut a0=J r):ap Tryz.prog 189 [(.sh,vH a0)] (Eo (.bO [vD r.1,vD r.2]) [.au]):=by
 apply pE [] hr zGB Tryz.AiV;intro Φ ak hF g;unfold ut at hF
 iterate 3 (try simp[go_sem,g];try intros;refine bu ?_)
 refine wJ hF (λx3=>[(4,.v (vD x3.1)),(5,.v (vD x3.2))]) (λx3 hF=>?_) λ_ hj0 hF=>?_
 ·exact wL
 refine wR hF [8,9] (λi5 s4=>[(4,.v (vD s4.1)),(5,.v (vD s4.2)),(10,.v (.int .i64 i5))]) λb bg i5 s4 _ _ aO aN bo ba hF=>?_
 exact wL
def k9(a0:am)(a1:List Int)(a2:List Int):Option Int:=
 ((aS (σ:=Int) (λi5 s4=>
 (ix a1 i5).bind λaU=>
 (ix a2 i5).bind λdf=>
 (cC a0 aU df).bind λdk=>
 gd (a0.P≠0)<|
 J (.go ((i64.wrap (s4*dk)).tmod a0.P))) (λs4=>s4) (a1.length) 0 1:Option Int).bind λx3=>
 J x3)
def oI{a0 a1 a2 r}(hr:k9 a0 a1 a2=J r):ap Tryz.prog 191 [(.sh,vE a0),(.sh,vC a1),(.sh,vC a2)] (Eo (.int .i64 r) gq):=by
 apply pE [] hr zHn Tryz.Aip;intro Φ ak hF g;unfold k9 at hF
 iterate 3 (try simp[go_sem,g];try intros;refine bu ?_)
 refine wJ hF (λx3=>[(7,.v (.int .i64 x3))]) (λx3 hF=>?_) λ_ hj0 hF=>?_
 ·exact wl ak hF
 refine wR hF [2,3,10,11] (λi5 s4=>[(7,.v (.int .i64 s4)),(12,.v (.int .i64 i5))]) λb bg i5 s4 _ _ aO aN bo ba hF=>?_
 refine wW ?_;refine wu aO aN ?_;refine wW ?_;refine wB ?_;obtain⟨aU,g,hF⟩:=Rx g hF;refine wK [2,3,7,8,9,10,11,12] ?_;refine wZ (kE [0,1,2,3,4,5,6,9,10,7,8,11,12] [0,26,0,0,0,0,0,25,26,3,0,0,0]) follows ?_;have c0:= @ft;exact wL
def zA(a0:am)(a1:Int)(a2:List an)(a3:List an)(a4:cF):Option Int:=
 (rD a1 a2 a3 a4.cu).bind λz1=>
 gd ((z1.length+a4.aF.length)*8<=140737488355328/\z1.length+a4.aF.length<=4611686018427387904)<|
 gd (((z1++a4.aF).length+a4.Pi.aC.length)*8<=140737488355328/\(z1++a4.aF).length+a4.Pi.aC.length<=4611686018427387904)<|
 (pY a0 (⟨#[109,105,120,32,112,114,111,111,102]⟩:ByteArray) (z1++a4.aF++a4.Pi.aC)).bind λz2=>
 J z2
def U4{a0 a1 a2 a3 a4 r}(hr:zA a0 a1 a2 a3 a4=J r):ap Tryz.prog 192 [(.sh,vE a0),(.sh,.int .i64 a1),(.sh,vH a2),(.sh,vH a3),(.sh,vL a4)] (Eo (.int .i64 r) rX):=by
 apply pE [] hr zHN Tryz.AhS;intro Φ ak hF g;unfold zA at hF;refine wW ?_;refine wZ (kE [0,1,2,3,4,6,7,5,8,9] [0,0,0,73,74,73,74,3,0,0]) follows ?_;refine wE hF EI λz1 hF=>?_
 obtain⟨g,hF⟩:=Rg g hF;refine wK [5,9,11] ?_;refine wZ (kD 0 [42,0,73,73,74,0,3,0]) follows ?_;have c0:= @FT;exact wL
def Fr(a0:List Int)(a1:Int):Option Int:=
 ((aS (σ:=Int) (λi5 s4=>
 (ix a0 i5).bind λaU=>
 gd (a1≠0)<|
 J (.go ((i64.wrap (s4+aU)).tmod a1))) (λs4=>s4) (a0.length) 0 0:Option Int).bind λx3=>
 J x3)
def zuE{a0 a1 r}(hr:Fr a0 a1=J r):ap Tryz.prog 193 [(.sh,vC a0),(.sh,.int .i64 a1)] (Eo (.int .i64 r) cI):=by
 apply pE [] hr zEr Tryz.AgH;intro Φ ak hF g;unfold Fr at hF
 iterate 3 (try simp[go_sem,g];try intros;refine bu ?_)
 refine wJ hF (λx3=>[(5,.v (.int .i64 x3))]) (λx3 hF=>?_) λ_ hj0 hF=>?_
 ·exact wl ak hF
 refine wR hF [1,8,9] (λi5 s4=>[(5,.v (.int .i64 s4)),(10,.v (.int .i64 i5))]) λb bg i5 s4 _ _ aO aN bo ba hF=>?_
 exact wL
def v5(a0:List Int)(a1:List Int)(a2:Int):Option Int:=
 ((aS (σ:=Int) (λi5 s4=>
 (ix a0 i5).bind λaU=>
 (ix a1 i5).bind λdf=>
 gd (a2≠0)<|
 J (.go ((i64.wrap (s4+(i64.wrap (aU*df)))).tmod a2))) (λs4=>s4) (a0.length) 0 0:Option Int).bind λx3=>
 J x3)
def Rr{a0 a1 a2 r}(hr:v5 a0 a1 a2=J r):ap Tryz.prog 194 [(.sh,vC a0),(.sh,vC a1),(.sh,.int .i64 a2)] (Eo (.int .i64 r) gq):=by
 apply pE [] hr zGz Tryz.AiO;intro Φ ak hF g;unfold v5 at hF
 iterate 3 (try simp[go_sem,g];try intros;refine bu ?_)
 refine wJ hF (λx3=>[(7,.v (.int .i64 x3))]) (λx3 hF=>?_) λ_ hj0 hF=>?_
 ·exact wl ak hF
 refine wR hF [1,2,10,11] (λi5 s4=>[(7,.v (.int .i64 s4)),(12,.v (.int .i64 i5))]) λb bg i5 s4 _ _ aO aN bo ba hF=>?_
 exact wL
def FD(a0:am)(a1:Int)(a2:ct)(a3:List an)(a4:List Int)(a5:List Int)(a6:List Int):Option cF:=
 (Cc a0 a1 a3 a4 a5).bind λz1=>
 gd (0<=(a3.length:Int))<|
 gd (0<=a3.length/\a3.length<=a6.length)<|
 gd (0<=(a3.length:Int))<|
 gd (0<=(i64.wrap (2*(a3.length:Int))))<|
 gd (a3.length<=(i64.wrap (2*(a3.length:Int))).toNat/\(i64.wrap (2*(a3.length:Int))).toNat<=a6.length)<|
 (ix a6 (i64.wrap (2*(a3.length:Int)))).bind λx2=>
 (ix a6 (i64.wrap ((i64.wrap (2*(a3.length:Int)))+1))).bind λx3=>
 (ix a6 (i64.wrap ((i64.wrap (2*(a3.length:Int)))+2))).bind λx4=>
 (ix a6 (i64.wrap ((i64.wrap (2*(a3.length:Int)))+3))).bind λx5=>
 gd (0<=(i64.wrap ((i64.wrap (2*(a3.length:Int)))+4)))<|
 gd (0<=(i64.wrap ((i64.wrap (3*(a3.length:Int)))+4)))<|
 gd ((i64.wrap ((i64.wrap (2*(a3.length:Int)))+4)).toNat<=(i64.wrap ((i64.wrap (3*(a3.length:Int)))+4)).toNat/\(i64.wrap ((i64.wrap (3*(a3.length:Int)))+4)).toNat<=a6.length)<|
 gd (0<=(i64.wrap ((i64.wrap (3*(a3.length:Int)))+4)))<|
 gd ((i64.wrap ((i64.wrap (3*(a3.length:Int)))+4)).toNat<=a6.length/\a6.length<=a6.length)<|
 (IM a0 a2 a4 ((a6.take a3.length).drop 0)).bind λz6=>
 (yX a0 a1 a3 z1 z6).bind λz7=>
 ((aS (σ:=(List Int)×Int) (λyZ cJ=>
 (ix a4 yZ).bind λlL=>
 (ix z7 lL).bind λoU=>
 gd ((cJ.1.length+1)*8<=140737488355328/\cJ.1.length+1<=4611686018427387904)<|
 (ix ((a6.take ((i64.wrap (2*(a3.length:Int))).toNat)).drop a3.length) yZ).bind λfF=>
 gd (a0.Q≠0)<|
 J (.go (cJ.1++[oU],(i64.wrap (fF+(i64.wrap (oU*cJ.2)))).tmod a0.Q))) (λcJ=>(cJ.1,cJ.2)) (a4.length) 0 ([],0):Option ((List Int×Int))).bind λer=>
 (GY a0 a2 er.1 ((a6.take ((i64.wrap (2*(a3.length:Int))).toNat)).drop a3.length)).bind λtM=>
 (ut z1).bind λiT=>
 (cC a0 a0.G x2).bind λnm=>
 (cC a0 a0.G x3).bind λfS=>
 (k9 a0 a2.Hs ((a6.take a6.length).drop ((i64.wrap ((i64.wrap (3*(a3.length:Int)))+4)).toNat))).bind λnM=>
 (ej a0 [fS,nM]).bind λeY=>
 (cC a0 a0.G x4).bind λgw=>
 (cC a0 a0.G (i64.wrap (0-x5))).bind λHN=>
 (k9 a0 iT.1 ((a6.take a6.length).drop ((i64.wrap ((i64.wrap (3*(a3.length:Int)))+4)).toNat))).bind λiJ=>
 (ej a0 [HN,iJ]).bind λnE=>
 (cC a0 a1 (i64.wrap (0-x5))).bind λhZ=>
 (k9 a0 iT.2 ((a6.take a6.length).drop ((i64.wrap ((i64.wrap (3*(a3.length:Int)))+4)).toNat))).bind λv4=>
 (ej a0 [hZ,v4]).bind λyW=>
 ((aS (σ:=(List Int)×List Int×List Int×List Int×List Int×Int) (λt7 eJ=>
 (ix ((a6.take ((i64.wrap ((i64.wrap (3*(a3.length:Int)))+4)).toNat)).drop ((i64.wrap ((i64.wrap (2*(a3.length:Int)))+4)).toNat)) t7).bind λMG=>
 (ix ((a6.take a6.length).drop ((i64.wrap ((i64.wrap (3*(a3.length:Int)))+4)).toNat)) t7).bind λqS=>
 (cC a0 a0.G MG).bind λA4=>
 (cC a0 eJ.2.2.2.2.2 qS).bind λBE=>
 (ej a0 [A4,BE]).bind λJW=>
 gd ((eJ.2.2.1.length+1)*8<=140737488355328/\eJ.2.2.1.length+1<=4611686018427387904)<|
 (ix eJ.2.1 t7).bind λqJ=>
 J (.go (eJ.1,eJ.2.1,eJ.2.2.1++[JW],eJ.2.2.2.1,eJ.2.2.2.2.1,qJ))) (λeJ=>(eJ.1,eJ.2.1,eJ.2.2.1,eJ.2.2.2.1,eJ.2.2.2.2.1)) (a3.length) 0 (z6,tM,[nm,eY,gw,nE,yW],[],[],a2.H):Option ((List Int×List Int×List Int×List Int×List Int))).bind λkB=>
 (zA a0 a1 a3 z1 (cF.mk kB.1 kB.2.1 (bZ.mk kB.2.2.1 kB.2.2.2.1 kB.2.2.2.2))).bind λu9=>
 gd (a0.Q≠0)<|
 (Fr ((a6.take a3.length).drop 0) a0.Q).bind λoM=>
 gd (a0.Q≠0)<|
 (v5 ((a6.take a3.length).drop 0) z7 a0.Q).bind λrQ=>
 gd (a0.Q≠0)<|
 (v5 a5 er.1 a0.Q).bind λxz=>
 gd (a0.Q≠0)<|
 ((aS (σ:=(List Int)×List Int×List Int×List Int×List Int) (λAa fk=>
 (ix ((a6.take ((i64.wrap ((i64.wrap (3*(a3.length:Int)))+4)).toNat)).drop ((i64.wrap ((i64.wrap (2*(a3.length:Int)))+4)).toNat)) Aa).bind λxU=>
 (ix ((a6.take ((i64.wrap (2*(a3.length:Int))).toNat)).drop a3.length) Aa).bind λyt=>
 gd (a0.Q≠0)<|
 gd ((fk.2.2.2.2.length+1)*8<=140737488355328/\fk.2.2.2.2.length+1<=4611686018427387904)<|
 J (.go (fk.1,fk.2.1,fk.2.2.1,fk.2.2.2.1,fk.2.2.2.2++[(i64.wrap (xU+(i64.wrap (u9*yt)))).tmod a0.Q]))) (λfk=>(fk.1,fk.2.1,fk.2.2.1,fk.2.2.2.1,fk.2.2.2.2)) (a3.length) 0 (kB.1,kB.2.1,kB.2.2.1,[u9],[(i64.wrap (x2+(i64.wrap (u9*oM)))).tmod a0.Q,(i64.wrap (x3+(i64.wrap (u9*rQ)))).tmod a0.Q,(i64.wrap (x4+(i64.wrap (u9*er.2)))).tmod a0.Q,(i64.wrap (x5+(i64.wrap (u9*xz)))).tmod a0.Q]):Option ((List Int×List Int×List Int×List Int×List Int))).bind λko=>
 ((aS (σ:=(List Int)×List Int×List Int×List Int×List Int) (λG0 kM=>
 (ix ((a6.take a6.length).drop ((i64.wrap ((i64.wrap (3*(a3.length:Int)))+4)).toNat)) G0).bind λlO=>
 (ix er.1 G0).bind λAbo=>
 gd (a0.Q≠0)<|
 gd ((kM.2.2.2.2.length+1)*8<=140737488355328/\kM.2.2.2.2.length+1<=4611686018427387904)<|
 J (.go (kM.1,kM.2.1,kM.2.2.1,kM.2.2.2.1,kM.2.2.2.2++[(i64.wrap (lO+(i64.wrap (u9*Abo)))).tmod a0.Q]))) (λkM=>(kM.1,kM.2.1,kM.2.2.1,kM.2.2.2.1,kM.2.2.2.2)) (a3.length) 0 (ko.1,ko.2.1,ko.2.2.1,ko.2.2.2.1,ko.2.2.2.2):Option ((List Int×List Int×List Int×List Int×List Int))).bind λsg=>
 J (cF.mk sg.1 sg.2.1 (bZ.mk sg.2.2.1 sg.2.2.2.1 sg.2.2.2.2))))))
set_option maxHeartbeats 16000000 in
def zrN{a0 a1 a2 a3 a4 a5 a6 r}(hr:FD a0 a1 a2 a3 a4 a5 a6=J r):ap Tryz.prog 150 [(.sh,vE a0),(.sh,.int .i64 a1),(.sh,vJ a2),(.sh,vH a3),(.sh,vC a4),(.sh,vC a5),(.sh,vC a6)] (Eo (vP r) MO):=by
 apply pE [] hr zFi Tryz.Acy;intro Φ ak hF g;unfold FD at hF
 iterate 2 (try simp[go_sem,g];try intros;refine bu ?_)
 try simp[go_sem,g]
 try intros
 refine wE hF P6 λz1 hF=>?_
 refine wK [1,3,4,5,6,7,9,14,15,16] ?_;refine wZ (kD 0 [0,0,0,0,0,0,0,0,0,0]) follows ?_
 iterate 5 obtain⟨g,hF⟩:=Rg g hF
 refine wK [1,3,4,5,6,7,9,14,15,16,17,18] ?_;refine wZ (kD 0 [0,0,0,0,0,0,0,0,0,0,0,0,0,0,0,0,0,0,0,0,0,0,0,0,0,0,0]) follows ?_;obtain⟨x2,g,hF⟩:=Rx g hF;obtain⟨x3,g,hF⟩:=Rx g hF;obtain⟨x4,g,hF⟩:=Rx g hF;obtain⟨x5,g,hF⟩:=Rx g hF;refine wK [1,3,4,5,6,7,9,14,15,16,17,18,19,20,21,22] ?_;refine wZ (kD 0 [0,0,0,0,0,0,0,0,0,0,0,0,0,0,0]) follows ?_
 iterate 5 obtain⟨g,hF⟩:=Rg g hF
 refine wK [1,3,4,5,7,9,14,16,17,18,19,20,21,22,23,24] ?_;refine wE hF zpw λz6 hF=>?_
 refine wW ?_;refine wE hF Wi λz7 hF=>?_
 refine wK [1,3,4,5,7,9,14,16,17,18,19,20,21,22,23,24,25,26] ?_
 iterate 3 (try simp[go_sem,g];try intros;refine bu ?_)
 refine bS hF [1,3,5,7,9,14,16,17,18,19,20,21,22,23,24,25,26] (λer=>[(27,.v (vD er.1)),(28,.v (.int .i64 er.2))]) (λer hF=>?_) λ_ hj0 hF=>?_
 ·refine wE hF zrE λtM hF=>?_
  refine wK [1,3,5,7,9,14,16,17,18,19,20,21,22,23,24,25,26,27,28] ?_;refine wE hF Gi λiT hF=>?_
  refine wW ?_;refine wZ [k2 0 7,k1 1 7,k2 2 7,k0 3,k2 5 7,k2 6 7,k1 7 7,k2 8 7,k0 9,k2 11 7,k1 12 9,k2 13 9,k0 14,k2 18 7,k1 19 7,k2 20 7,k0 21,k2 23 7,k2 24 7,k1 25 7,k2 26 7,k0 27,k0 28,k2 30 7,k0 31,k0 32,k2 36 7,k2 37 7,k0 38,k0 39,k0 40,k2 42 7,k0 43,k0 44,k3 4,k3 10,k3 15,k0 16,λ_=>⟨17,[148,159],[],ae,Z,Z,Z⟩,k3 22,k3 29,k3 33,k0 34,λ_=>⟨35,[166,177],[],ae,Z,Z,Z⟩,k3 41,k3 45,k0 46,λ_=>⟨47,[179,189],[],ae,Z,Z,Z⟩,k0 48,k1 49 25,k1 50 25,λ_=>⟨51,[193,191],[25],J 193,Z,Z,Z⟩] follows ?_;refine wE hF ft λnm hF=>?_
  refine wE hF ft λfS hF=>?_
  refine wE hF oI λnM hF=>?_
  refine wE hF hJ λeY hF=>?_
  refine wE hF ft λgw hF=>?_
  refine wE hF ft λHN hF=>?_
  refine wE hF oI λiJ hF=>?_
  refine wE hF hJ λnE hF=>?_
  refine wE hF ft λhZ hF=>?_
  refine wE hF oI λv4 hF=>?_
  refine wE hF hJ λyW hF=>?_
  refine wK [1,3,5,7,9,14,16,17,18,19,20,21,22,23,24,25,26,27,28] ?_
  iterate 2 (try simp[go_sem,g];try intros;refine bu ?_)
  refine bS hF [1,3,5,7,14,16,17,18,19,20,21,22,23,24,26,27,28] (λkB=>[(25,.bl [vD kB.1,vD kB.2.1,vD kB.2.2.1,vD kB.2.2.2.1,vD kB.2.2.2.2])]) (λkB hF=>?_) λ_ hj0 hF=>?_
  ·refine wE hF U4 λu9 hF=>?_
   refine wK [3,5,7,14,17,18,19,20,21,22,23,24,25,26,27,28,35] ?_;refine wW ?_;refine wZ [k0 0,k0 1,k0 2,k1 3 7,k2 4 7,k1 8 7,k2 9 7,k0 11,k0 12,k0 13,k0 14,k1 15 7,k2 16 7,k1 20 7,k2 21 7,k0 23,k0 24,k0 25,k0 26,k0 27,k1 28 7,k2 29 7,k0 30,k0 31,k0 32,k0 33,k0 34,k1 35 7,k2 36 7,k1 40 7,k2 41 7,k3 5,k0 6,k0 7,k0 10,k3 17,k0 18,k0 19,k0 22,k3 37,k0 38,k0 39,k0 42,k0 43,k1 44 25,k1 45 25,λ_=>⟨46,[287,285],[25],J 287,Z,Z,Z⟩] follows ?_;obtain⟨g,hF⟩:=Rz g hF;refine wE hF zuE λoM hF=>?_
   obtain⟨g,hF⟩:=Rz g hF;refine wE hF Rr λrQ hF=>?_
   obtain⟨g,hF⟩:=Rz g hF;refine wE hF Rr λxz hF=>?_
   obtain⟨g,hF⟩:=Rz g hF;refine wK [3,7,14,18,23,24,25,27,35] ?_;try simp[go_sem,g]
   try intros
   refine bu ?_;refine bS hF [3,7,14,24,27,35] (λko=>[(25,.bl [vD ko.1,vD ko.2.1,vD ko.2.2.1,vD ko.2.2.2.1,vD ko.2.2.2.2])]) (λko hF=>?_) λ_ hj0 hF=>?_
   ·try simp[go_sem,g]
    try intros
    refine bu ?_;refine wJ hF (λsg=>[(14,.bl [.sl Z 1 [],.sl Z 1 [],.sl Z 1 [],.sl Z 1 [],.sl Z 1 []]),(25,.bl [vD sg.1,vD sg.2.1,vD sg.2.2.1,vD sg.2.2.2.1,vD sg.2.2.2.2])]) (λsg hF=>?_) λ_ hj0 hF=>?_
    ·exact wl ak hF
    refine wR hF [7,14,24,27,35,316] (λG0 kM=>[(25,.bl [vD kM.1,vD kM.2.1,vD kM.2.2.1,vD kM.2.2.2.1,vD kM.2.2.2.2]),(317,.v (.int .i64 G0))]) λb bg G0 kM _ _ aO aN bo ba hF=>?_
    refine wW ?_;refine wu aO aN ?_;refine wW ?_;refine wB ?_;refine wW ?_;refine wZ (kD 0 [201,201,202,0,0,0,0,0,0,0,0,0,0,0,57,58,0,0,5,201,201,202]) follows ?_;obtain⟨lO,g,hF⟩:=ig g hF;exact wL
   refine wR hF [3,7,14,18,23,24,27,35,289] (λAa fk=>[(25,.bl [vD fk.1,vD fk.2.1,vD fk.2.2.1,vD fk.2.2.2.1,vD fk.2.2.2.2]),(290,.v (.int .i64 Aa))]) λb bg Aa fk _ _ aO aN bo ba hF=>?_
   refine wW ?_;refine wu aO aN ?_;refine wW ?_;refine wB ?_;refine wW ?_;refine wZ (kD 0 [201,201,202,0,0,0,0,0,0,0,0,0,0,0,57,58,0,0,5,201,201,202]) follows ?_;obtain⟨xU,g,hF⟩:=ig g hF;obtain⟨yt,g,hF⟩:=ig g hF;exact wL
  refine wR hF [1,3,5,7,14,16,17,18,19,20,21,22,23,24,26,27,28,197] (λt7 eJ=>[(25,.bl [vD eJ.1,vD eJ.2.1,vD eJ.2.2.1,vD eJ.2.2.2.1,vD eJ.2.2.2.2.1]),(33,.v (.int .i64 eJ.2.2.2.2.2)),(198,.v (.int .i64 t7))]) λb bg t7 eJ _ _ aO aN bo ba hF=>?_
  refine wW ?_;refine wu aO aN ?_;refine wW ?_;refine wB ?_;refine wW ?_;refine wZ (kE [0,1,2,3,4,5,6,7,8,9,10,12,13,14,15,16,17,11,18,19,20,21,22,23,24,25] [201,201,202,58,58,57,58,0,0,0,0,58,0,0,0,0,0,4,3,0,6,0,5,201,201,202]) follows ?_;obtain⟨MG,g,hF⟩:=ig g hF;obtain⟨qS,g,hF⟩:=ig g hF;have c0:= @ft;have c1:= @hJ;exact wL
 refine wR hF [1,3,5,7,9,14,16,17,18,19,20,21,22,23,24,25,26,103,104] (λyZ cJ=>[(27,.v (vD cJ.1)),(28,.v (.int .i64 cJ.2)),(105,.v (.int .i64 yZ))]) λb bg yZ cJ _ _ aO aN bo ba hF=>?_
 refine wW ?_;refine wu aO aN ?_;refine wW ?_;refine wB ?_;obtain⟨lL,g,hF⟩:=Rx g hF;refine wK [1,3,5,7,9,14,16,17,18,19,20,21,22,23,24,25,26,27,28,29,30,103,104,105] ?_;obtain⟨oU,g,hF⟩:=Rx g hF;obtain⟨g,hF⟩:=Rg g hF;refine wW ?_;refine wZ (kD 0 [0,0,0,0,0,0,0,0,0,0,0,57,58,0,0]) follows ?_;obtain⟨fF,g,hF⟩:=ig g hF;exact wL
def uR(a0:am)(a1:Int)(a2:List an)(a3:List Int)(a4:List Int)(a5:List Int):Option (cF×Bool):=
 (((pD a0 a1 a2).bind λz4=>
 if(!z4)=Z then(
 J Z)else(
 (DT a3 (a2.length:Int)).bind λz6=>
 if(!z6)=Z then(
 J Z)else(
 if((a4.length:Int) !=(a2.length:Int))=Z then(
 J Z)else(
 (r6 a0 a4).bind λz9=>
 if(!z9)=Z then(
 J Z)else(
 if((a5.length:Int) !=(i64.wrap ((i64.wrap (4*(a2.length:Int)))+4)))=Z then(
 J Z)else(
 (r6 a0 a5).bind λbH=>
 J (!bH)))))):Option Bool).bind λx3=>
 if x3=Z then(
 J ((cF.mk [] [] (bZ.mk [] [] [])),aa))else(
 (rC a0 (a2.length:Int)).bind λeQ=>
 if(!eQ.2)=Z then(
 J ((cF.mk [] [] (bZ.mk [] [] [])),aa))else(
 (FD a0 a1 eQ.1 a2 a3 a4 a5).bind λk8=>
 J (k8,Z))))
def znD{a0 a1 a2 a3 a4 a5 r}(hr:uR a0 a1 a2 a3 a4 a5=J r):ap Tryz.prog 87 [(.sh,vE a0),(.sh,.int .i64 a1),(.sh,vH a2),(.sh,vC a3),(.sh,vC a4),(.sh,vC a5)] (Eo (.bO [vP r.1,.bool r.2]) sj):=by
 apply pE [] hr zNd Tryz.AgL;intro Φ ak hF g;unfold uR at hF
 iterate 2 (try simp[go_sem,g];try intros;refine bu ?_)
 refine bS hF [1,2,3,4,5,6,12,14] (λx3=>[(55,.v (.bool x3))]) (λx3 hF=>?_) λ_ hj0 hF=>?_
 ·have c0:= @Nd;have c1:= @zrN;exact wL
 have c0:= @HC;have c1:= @UR;have c2:= @IE;exact wL
def EM(a0:am):Option (Int×Bool):=
 (rC a0 0).bind λz1=>
 J (z1.1.H,z1.2)
def W6{a0 r}(hr:EM a0=J r):ap Tryz.prog 151 [(.sh,vE a0)] (Eo (.bO [.int .i64 r.1,.bool r.2]) [.au]):=by
 apply pE [] hr zGZ Tryz.Aed;intro Φ ak hF g;unfold EM at hF;have c0:= @Nd;exact wL
def nO(a0:am)(a1:Int)(a2:Int)(a3:Int):Option Int:=
 (cC a0 a0.G a2).bind λz1=>
 (cC a0 a1 a3).bind λz2=>
 (ej a0 [z1,z2]).bind λz3=>
 J z3
def Bh{a0 a1 a2 a3 r}(hr:nO a0 a1 a2 a3=J r):ap Tryz.prog 199 [(.sh,vE a0),(.sh,.int .i64 a1),(.sh,.int .i64 a2),(.sh,.int .i64 a3)] (Eo (.int .i64 r) ky):=by
 apply pE [] hr zHL Tryz.AiF;intro Φ ak hF g;unfold nO at hF;refine wW ?_;refine wZ (kE [0,1,2,3,4,6,7,8,5,9,10,11,12] [34,34,33,34,0,34,0,0,3,3,0,6,0]) follows ?_;have c0:= @ft;have c1:= @hJ;exact wL
def Ko(a0:am)(a1:Int)(a2:List Int)(a3:List Int):Option ((List Int)):=
 ((aS (σ:=(List Int)) (λi5 s4=>
 (ix a2 i5).bind λaU=>
 (ix a3 i5).bind λdf=>
 (nO a0 a1 (i64.wrap (aU+1)) df).bind λdk=>
 gd ((s4.length+1)*8<=140737488355328/\s4.length+1<=4611686018427387904)<|
 J (.go (s4++[dk]))) (λs4=>s4) (a2.length) 0 []:Option ((List Int))).bind λx3=>
 J x3)
def zqW{a0 a1 a2 a3 r}(hr:Ko a0 a1 a2 a3=J r):ap Tryz.prog 195 [(.sh,vE a0),(.sh,.int .i64 a1),(.sh,vC a2),(.sh,vC a3)] (Eo (vD r) ky):=by
 apply pE [] hr zE0 Tryz.AfT;intro Φ ak hF g;unfold Ko at hF
 iterate 3 (try simp[go_sem,g];try intros;refine bu ?_)
 refine wJ hF (λx3=>[(9,.v (vD x3))]) (λx3 hF=>?_) λ_ hj0 hF=>?_
 ·exact wl ak hF
 refine wR hF [1,3,4,12,13] (λi5 s4=>[(9,.v (vD s4)),(14,.v (.int .i64 i5))]) λb bg i5 s4 _ _ aO aN bo ba hF=>?_
 refine wW ?_;refine wu aO aN ?_;refine wW ?_;refine wB ?_;obtain⟨aU,g,hF⟩:=Rx g hF;refine wK [1,3,4,9,10,11,12,13,14] ?_;refine wZ (kD 0 [0,34,0,0,0,0,0,0,0,3,0,5,0]) follows ?_;have c0:= @Bh;exact wL
def Jn(a0:am)(a1:List Int)(a2:Int):Option ((List Int)):=
 ((aS (σ:=(List Int)) (λi5 s4=>
 (ix a1 i5).bind λaU=>
 (kW a2 (i64.wrap (aU+1)) a0.Q).bind λbH=>
 gd ((s4.length+1)*8<=140737488355328/\s4.length+1<=4611686018427387904)<|
 J (.go (s4++[bH]))) (λs4=>s4) (a1.length) 0 []:Option ((List Int))).bind λx3=>
 J x3)
def zq0{a0 a1 a2 r}(hr:Jn a0 a1 a2=J r):ap Tryz.prog 196 [(.sh,vE a0),(.sh,vC a1),(.sh,.int .i64 a2)] (Eo (vD r) gq):=by
 apply pE [] hr zGS Tryz.Agk;intro Φ ak hF g;unfold Jn at hF
 iterate 3 (try simp[go_sem,g];try intros;refine bu ?_)
 refine wJ hF (λx3=>[(7,.v (vD x3))]) (λx3 hF=>?_) λ_ hj0 hF=>?_
 ·exact wl ak hF
 refine wR hF [2,3,10,11] (λi5 s4=>[(7,.v (vD s4)),(12,.v (.int .i64 i5))]) λb bg i5 s4 _ _ aO aN bo ba hF=>?_
 have c0:= @ye;exact wL
def AU(a0:am)(a1:Int)(a2:List an)(a3:List an)(a4:List Int)(a5:List Int):Option (Int×Int):=
 (rD a1 a2 a3 a4).bind λz1=>
 gd ((z1.length+a5.length)*8<=140737488355328/\z1.length+a5.length<=4611686018427387904)<|
 (pY a0 (⟨#[109,105,120,32,121]⟩:ByteArray) (z1++a5)).bind λz2=>
 (pY a0 (⟨#[109,105,120,32,122]⟩:ByteArray) (z1++a5)).bind λz3=>
 J (z2,z3)
def zlX{a0 a1 a2 a3 a4 a5 r}(hr:AU a0 a1 a2 a3 a4 a5=J r):ap Tryz.prog 200 [(.sh,vE a0),(.sh,.int .i64 a1),(.sh,vH a2),(.sh,vH a3),(.sh,vC a4),(.sh,vC a5)] (Eo (.bO [.int .i64 r.1,.int .i64 r.2]) sj):=by
 apply pE [] hr zHs Tryz.Ac4;intro Φ ak hF g;unfold AU at hF;refine wW ?_;refine wE hF EI λz1 hF=>?_
 obtain⟨g,hF⟩:=Rg g hF;refine wK [6,14] ?_;refine wZ (kE [0,1,3,4,2,5,6,7] [50,0,50,0,3,3,0,0]) follows ?_;have c0:= @FT;exact wL
def AE(a0:am)(a1:Int)(a2:List an)(a3:List an)(a4:cn):Option Int:=
 (rD a1 a2 a3 a4.bQ).bind λz1=>
 gd ((z1.length+a4.bL.length)*8<=140737488355328/\z1.length+a4.bL.length<=4611686018427387904)<|
 gd (((z1++a4.bL).length+a4.aF.length)*8<=140737488355328/\(z1++a4.bL).length+a4.aF.length<=4611686018427387904)<|
 gd (((z1++a4.bL++a4.aF).length+a4.Pi.aC.length)*8<=140737488355328/\(z1++a4.bL++a4.aF).length+a4.Pi.aC.length<=4611686018427387904)<|
 (pY a0 (⟨#[109,105,120,32,101,110,100]⟩:ByteArray) (z1++a4.bL++a4.aF++a4.Pi.aC)).bind λz2=>
 J z2
def zoJ{a0 a1 a2 a3 a4 r}(hr:AE a0 a1 a2 a3 a4=J r):ap Tryz.prog 201 [(.sh,vE a0),(.sh,.int .i64 a1),(.sh,vH a2),(.sh,vH a3),(.sh,vM a4)] (Eo (.int .i64 r) rX):=by
 apply pE [] hr zEL Tryz.Aej;intro Φ ak hF g;unfold AE at hF;refine wW ?_;refine wZ (kE [0,1,2,3,4,6,7,5,8,9] [0,0,0,73,74,73,74,3,0,0]) follows ?_;refine wE hF EI λz1 hF=>?_
 obtain⟨g,hF⟩:=Rg g hF;refine wK [5,9,11] ?_;refine wZ (kE [0,1,2,4,5,6,3,7,8] [0,73,74,73,73,74,0,0,0]) follows ?_;have c0:= @FT;exact wL
def D1(a0:am)(a1:Int)(a2:Int)(a3:List an)(a4:List Int)(a5:List Int)(a6:List Int):Option cn:=
 (Cc a0 a1 a3 a4 a5).bind λz1=>
 gd (0<=(a3.length:Int))<|
 gd (0<=a3.length/\a3.length<=a6.length)<|
 gd (0<=(a3.length:Int))<|
 gd (0<=(i64.wrap (2*(a3.length:Int))))<|
 gd (a3.length<=(i64.wrap (2*(a3.length:Int))).toNat/\(i64.wrap (2*(a3.length:Int))).toNat<=a6.length)<|
 gd (0<=(i64.wrap (2*(a3.length:Int))))<|
 gd (0<=(i64.wrap (3*(a3.length:Int))))<|
 gd ((i64.wrap (2*(a3.length:Int))).toNat<=(i64.wrap (3*(a3.length:Int))).toNat/\(i64.wrap (3*(a3.length:Int))).toNat<=a6.length)<|
 gd (0<=(i64.wrap (3*(a3.length:Int))))<|
 gd (0<=(i64.wrap (4*(a3.length:Int))))<|
 gd ((i64.wrap (3*(a3.length:Int))).toNat<=(i64.wrap (4*(a3.length:Int))).toNat/\(i64.wrap (4*(a3.length:Int))).toNat<=a6.length)<|
 gd (0<=(i64.wrap (4*(a3.length:Int))))<|
 gd (0<=(i64.wrap (5*(a3.length:Int))))<|
 gd ((i64.wrap (4*(a3.length:Int))).toNat<=(i64.wrap (5*(a3.length:Int))).toNat/\(i64.wrap (5*(a3.length:Int))).toNat<=a6.length)<|
 gd (0<=(i64.wrap (5*(a3.length:Int))))<|
 gd (0<=(i64.wrap (6*(a3.length:Int))))<|
 gd ((i64.wrap (5*(a3.length:Int))).toNat<=(i64.wrap (6*(a3.length:Int))).toNat/\(i64.wrap (6*(a3.length:Int))).toNat<=a6.length)<|
 (ix a6 (i64.wrap (6*(a3.length:Int)))).bind λx2=>
 gd (0<=(i64.wrap ((i64.wrap (6*(a3.length:Int)))+1)))<|
 gd (0<=(i64.wrap ((i64.wrap (7*(a3.length:Int)))+1)))<|
 gd ((i64.wrap ((i64.wrap (6*(a3.length:Int)))+1)).toNat<=(i64.wrap ((i64.wrap (7*(a3.length:Int)))+1)).toNat/\(i64.wrap ((i64.wrap (7*(a3.length:Int)))+1)).toNat<=a6.length)<|
 gd (0<=(i64.wrap ((i64.wrap (7*(a3.length:Int)))+1)))<|
 gd (0<=(i64.wrap ((i64.wrap (8*(a3.length:Int)))+1)))<|
 gd ((i64.wrap ((i64.wrap (7*(a3.length:Int)))+1)).toNat<=(i64.wrap ((i64.wrap (8*(a3.length:Int)))+1)).toNat/\(i64.wrap ((i64.wrap (8*(a3.length:Int)))+1)).toNat<=a6.length)<|
 (ix a6 (i64.wrap ((i64.wrap (8*(a3.length:Int)))+1))).bind λx3=>
 (Ko a0 a2 a4 ((a6.take a3.length).drop 0)).bind λz4=>
 (rD a1 a3 z1 z4).bind λz5=>
 (pY a0 (⟨#[109,105,120,32,120]⟩:ByteArray) z5).bind λz6=>
 (Jn a0 a4 z6).bind λz7=>
 ((aS (σ:=(List Int)×List Int×List Int×List Int×List Int×List Int) (λfQ bV=>
 (ix z7 fQ).bind λiv=>
 (ix ((a6.take ((i64.wrap (2*(a3.length:Int))).toNat)).drop a3.length) fQ).bind λke=>
 (nO a0 a2 iv ke).bind λeY=>
 gd ((bV.2.1.length+1)*8<=140737488355328/\bV.2.1.length+1<=4611686018427387904)<|
 J (.go (bV.1,bV.2.1++[eY],bV.2.2.1,bV.2.2.2.1,bV.2.2.2.2.1,bV.2.2.2.2.2))) (λbV=>(bV.1,bV.2.1,bV.2.2.1,bV.2.2.2.1,bV.2.2.2.2.1,bV.2.2.2.2.2)) (z7.length) 0 (z4,[],[],[],[],[]):Option ((List Int×List Int×List Int×List Int×List Int×List Int))).bind λer=>
 (AU a0 a1 a3 z1 er.1 er.2.1).bind λhZ=>
 ((aS (σ:=(List Int)×List Int×List Int×List Int×List Int×List Int×List Int×List Int×Int×Int) (λua cB=>
 (ix a4 ua).bind λn7=>
 gd (a0.Q≠0)<|
 (ix z7 ua).bind λN8=>
 (qk (i64.wrap ((i64.wrap ((i64.wrap (hZ.1*((i64.wrap (n7+1)).tmod a0.Q)))+N8))-hZ.2)) a0.Q).bind λsn=>
 gd ((cB.2.2.2.2.2.2.1.length+1)*8<=140737488355328/\cB.2.2.2.2.2.2.1.length+1<=4611686018427387904)<|
 gd (a0.Q≠0)<|
 (ix ((a6.take ((i64.wrap (3*(a3.length:Int))).toNat)).drop ((i64.wrap (2*(a3.length:Int))).toNat)) ua).bind λqS=>
 (nO a0 a2 ((i64.wrap (cB.2.2.2.2.2.2.2.2.1*sn)).tmod a0.Q) qS).bind λA4=>
 gd ((cB.2.2.1.length+1)*8<=140737488355328/\cB.2.2.1.length+1<=4611686018427387904)<|
 (qk (i64.wrap (qS-(i64.wrap (cB.2.2.2.2.2.2.2.2.2*sn)))) a0.Q).bind λBE=>
 gd ((cB.2.2.2.2.2.2.2.1.length+1)*8<=140737488355328/\cB.2.2.2.2.2.2.2.1.length+1<=4611686018427387904)<|
 J (.go (cB.1,cB.2.1,cB.2.2.1++[A4],cB.2.2.2.1,cB.2.2.2.2.1,cB.2.2.2.2.2.1,cB.2.2.2.2.2.2.1++[sn],cB.2.2.2.2.2.2.2.1++[BE],(i64.wrap (cB.2.2.2.2.2.2.2.2.1*sn)).tmod a0.Q,qS))) (λcB=>(cB.1,cB.2.1,cB.2.2.1,cB.2.2.2.1,cB.2.2.2.2.1,cB.2.2.2.2.2.1,cB.2.2.2.2.2.2.1,cB.2.2.2.2.2.2.2.1)) (a4.length) 0 (er.1,er.2.1,er.2.2.1,er.2.2.2.1,er.2.2.2.2.1,er.2.2.2.2.2,[],[],1,0):Option ((List Int×List Int×List Int×List Int×List Int×List Int×List Int×List Int))).bind λgL=>
 (ut z1).bind λqj=>
 ((aS (σ:=(List Int)×List Int×List Int×List Int×List Int×List Int) (λAh dL=>
 (ix ((a6.take ((i64.wrap (4*(a3.length:Int))).toNat)).drop ((i64.wrap (3*(a3.length:Int))).toNat)) Ah).bind λiS=>
 (ix ((a6.take ((i64.wrap (5*(a3.length:Int))).toNat)).drop ((i64.wrap (4*(a3.length:Int))).toNat)) Ah).bind λjB=>
 (nO a0 a2 iS jB).bind λod=>
 gd ((dL.2.2.2.1.length+1)*8<=140737488355328/\dL.2.2.2.1.length+1<=4611686018427387904)<|
 J (.go (dL.1,dL.2.1,dL.2.2.1,dL.2.2.2.1++[od],dL.2.2.2.2.1,dL.2.2.2.2.2))) (λdL=>(dL.1,dL.2.1,dL.2.2.1,dL.2.2.2.1,dL.2.2.2.2.1,dL.2.2.2.2.2)) (((a6.take ((i64.wrap (4*(a3.length:Int))).toNat)).drop ((i64.wrap (3*(a3.length:Int))).toNat)).length) 0 (gL.1,gL.2.1,gL.2.2.1,gL.2.2.2.1,gL.2.2.2.2.1,gL.2.2.2.2.2.1):Option ((List Int×List Int×List Int×List Int×List Int×List Int))).bind λnR=>
 ((aS (σ:=(List Int)×List Int×List Int×List Int×List Int×List Int×Int) (λuW dm=>
 (ix ((a6.take ((i64.wrap (4*(a3.length:Int))).toNat)).drop ((i64.wrap (3*(a3.length:Int))).toNat)) uW).bind λNT=>
 (ix ((a6.take ((i64.wrap (6*(a3.length:Int))).toNat)).drop ((i64.wrap (5*(a3.length:Int))).toNat)) uW).bind λNs=>
 (cC a0 dm.2.2.2.2.2.2 NT).bind λMp=>
 (cC a0 a2 Ns).bind λN6=>
 (ej a0 [Mp,N6]).bind λHc=>
 gd ((dm.2.2.2.1.length+1)*8<=140737488355328/\dm.2.2.2.1.length+1<=4611686018427387904)<|
 (ix dm.2.2.1 uW).bind λJZ=>
 J (.go (dm.1,dm.2.1,dm.2.2.1,dm.2.2.2.1++[Hc],dm.2.2.2.2.1,dm.2.2.2.2.2.1,JZ))) (λdm=>(dm.1,dm.2.1,dm.2.2.1,dm.2.2.2.1,dm.2.2.2.2.1,dm.2.2.2.2.2.1)) (((a6.take ((i64.wrap (4*(a3.length:Int))).toNat)).drop ((i64.wrap (3*(a3.length:Int))).toNat)).length) 0 (nR.1,nR.2.1,nR.2.2.1,nR.2.2.2.1,nR.2.2.2.2.1,nR.2.2.2.2.2,a0.G):Option ((List Int×List Int×List Int×List Int×List Int×List Int))).bind λlI=>
 (cC a0 a2 x2).bind λYc=>
 gd ((lI.2.2.2.1.length+1)*8<=140737488355328/\lI.2.2.2.1.length+1<=4611686018427387904)<|
 ((aS (σ:=(List Int)×List Int×List Int×List Int×List Int×List Int) (λsT eN=>
 (ix ((a6.take ((i64.wrap ((i64.wrap (7*(a3.length:Int)))+1)).toNat)).drop ((i64.wrap ((i64.wrap (6*(a3.length:Int)))+1)).toNat)) sT).bind λLL=>
 (ix ((a6.take ((i64.wrap ((i64.wrap (8*(a3.length:Int)))+1)).toNat)).drop ((i64.wrap ((i64.wrap (7*(a3.length:Int)))+1)).toNat)) sT).bind λWZ=>
 (nO a0 a2 LL WZ).bind λT4=>
 gd ((eN.2.2.2.1.length+1)*8<=140737488355328/\eN.2.2.2.1.length+1<=4611686018427387904)<|
 J (.go (eN.1,eN.2.1,eN.2.2.1,eN.2.2.2.1++[T4],eN.2.2.2.2.1,eN.2.2.2.2.2))) (λeN=>(eN.1,eN.2.1,eN.2.2.1,eN.2.2.2.1,eN.2.2.2.2.1,eN.2.2.2.2.2)) (((a6.take ((i64.wrap ((i64.wrap (7*(a3.length:Int)))+1)).toNat)).drop ((i64.wrap ((i64.wrap (6*(a3.length:Int)))+1)).toNat)).length) 0 (lI.1,lI.2.1,lI.2.2.1,lI.2.2.2.1++[Yc],lI.2.2.2.2.1,lI.2.2.2.2.2):Option ((List Int×List Int×List Int×List Int×List Int×List Int))).bind λiw=>
 (cC a0 a0.G (i64.wrap (0-x3))).bind λJ1=>
 (k9 a0 qj.1 ((a6.take ((i64.wrap ((i64.wrap (7*(a3.length:Int)))+1)).toNat)).drop ((i64.wrap ((i64.wrap (6*(a3.length:Int)))+1)).toNat))).bind λJF=>
 (ej a0 [J1,JF]).bind λCk=>
 (cC a0 a1 (i64.wrap (0-x3))).bind λGX=>
 (k9 a0 qj.2 ((a6.take ((i64.wrap ((i64.wrap (7*(a3.length:Int)))+1)).toNat)).drop ((i64.wrap ((i64.wrap (6*(a3.length:Int)))+1)).toNat))).bind λJu=>
 (ej a0 [GX,Ju]).bind λCH=>
 gd ((iw.2.2.2.1.length+2)*8<=140737488355328/\iw.2.2.2.1.length+2<=4611686018427387904)<|
 (AE a0 a1 a3 z1 (cn.mk iw.1 iw.2.1 iw.2.2.1 (bZ.mk (iw.2.2.2.1++[Ck,CH]) iw.2.2.2.2.1 iw.2.2.2.2.2))).bind λni=>
 ((aS (σ:=(List Int)) (λzJ oT=>
 (ix ((a6.take ((i64.wrap (4*(a3.length:Int))).toNat)).drop ((i64.wrap (3*(a3.length:Int))).toNat)) zJ).bind λJk=>
 (ix gL.2.2.2.2.2.2.1 zJ).bind λIs=>
 gd (a0.Q≠0)<|
 gd ((oT.length+1)*8<=140737488355328/\oT.length+1<=4611686018427387904)<|
 J (.go (oT++[(i64.wrap (Jk+(i64.wrap (ni*Is)))).tmod a0.Q]))) (λoT=>oT) (((a6.take ((i64.wrap (4*(a3.length:Int))).toNat)).drop ((i64.wrap (3*(a3.length:Int))).toNat)).length) 0 []:Option ((List Int))).bind λL4=>
 ((aS (σ:=(List Int)) (λvi oE=>
 (ix ((a6.take ((i64.wrap (5*(a3.length:Int))).toNat)).drop ((i64.wrap (4*(a3.length:Int))).toNat)) vi).bind λJI=>
 (ix ((a6.take a3.length).drop 0) vi).bind λJw=>
 (ix ((a6.take ((i64.wrap (2*(a3.length:Int))).toNat)).drop a3.length) vi).bind λKd=>
 gd (a0.Q≠0)<|
 gd (a0.Q≠0)<|
 gd ((oE.length+1)*8<=140737488355328/\oE.length+1<=4611686018427387904)<|
 J (.go (oE++[(i64.wrap (JI+(i64.wrap (ni*((i64.wrap ((i64.wrap (hZ.1*Jw))+Kd)).tmod a0.Q))))).tmod a0.Q]))) (λoE=>oE) (((a6.take ((i64.wrap (4*(a3.length:Int))).toNat)).drop ((i64.wrap (3*(a3.length:Int))).toNat)).length) 0 L4:Option ((List Int))).bind λNM=>
 ((aS (σ:=(List Int)) (λIj wF=>
 (ix ((a6.take ((i64.wrap (6*(a3.length:Int))).toNat)).drop ((i64.wrap (5*(a3.length:Int))).toNat)) Ij).bind λTp=>
 (ix gL.2.2.2.2.2.2.2 Ij).bind λPt=>
 gd (a0.Q≠0)<|
 gd ((wF.length+1)*8<=140737488355328/\wF.length+1<=4611686018427387904)<|
 J (.go (wF++[(i64.wrap (Tp+(i64.wrap (ni*Pt)))).tmod a0.Q]))) (λwF=>wF) (((a6.take ((i64.wrap (4*(a3.length:Int))).toNat)).drop ((i64.wrap (3*(a3.length:Int))).toNat)).length) 0 NM:Option ((List Int))).bind λE4=>
 (ix ((a6.take ((i64.wrap (3*(a3.length:Int))).toNat)).drop ((i64.wrap (2*(a3.length:Int))).toNat)) (i64.wrap ((a3.length:Int)-1))).bind λCx=>
 gd (a0.Q≠0)<|
 gd ((E4.length+1)*8<=140737488355328/\E4.length+1<=4611686018427387904)<|
 ((aS (σ:=(List Int)) (λJT xB=>
 (ix ((a6.take ((i64.wrap ((i64.wrap (7*(a3.length:Int)))+1)).toNat)).drop ((i64.wrap ((i64.wrap (6*(a3.length:Int)))+1)).toNat)) JT).bind λOJ=>
 (ix z7 JT).bind λSN=>
 gd (a0.Q≠0)<|
 gd ((xB.length+1)*8<=140737488355328/\xB.length+1<=4611686018427387904)<|
 J (.go (xB++[(i64.wrap (OJ+(i64.wrap (ni*SN)))).tmod a0.Q]))) (λxB=>xB) (((a6.take ((i64.wrap ((i64.wrap (7*(a3.length:Int)))+1)).toNat)).drop ((i64.wrap ((i64.wrap (6*(a3.length:Int)))+1)).toNat)).length) 0 (E4++[(i64.wrap (x2+(i64.wrap (ni*Cx)))).tmod a0.Q]):Option ((List Int))).bind λNa=>
 ((aS (σ:=(List Int)) (λJV w9=>
 (ix ((a6.take ((i64.wrap ((i64.wrap (8*(a3.length:Int)))+1)).toNat)).drop ((i64.wrap ((i64.wrap (7*(a3.length:Int)))+1)).toNat)) JV).bind λP1=>
 (ix ((a6.take ((i64.wrap (2*(a3.length:Int))).toNat)).drop a3.length) JV).bind λPS=>
 gd (a0.Q≠0)<|
 gd ((w9.length+1)*8<=140737488355328/\w9.length+1<=4611686018427387904)<|
 J (.go (w9++[(i64.wrap (P1+(i64.wrap (ni*PS)))).tmod a0.Q]))) (λw9=>w9) (((a6.take ((i64.wrap ((i64.wrap (7*(a3.length:Int)))+1)).toNat)).drop ((i64.wrap ((i64.wrap (6*(a3.length:Int)))+1)).toNat)).length) 0 Na:Option ((List Int))).bind λD0=>
 (v5 a5 z7 a0.Q).bind λAaR=>
 gd (a0.Q≠0)<|
 gd ((D0.length+1)*8<=140737488355328/\D0.length+1<=4611686018427387904)<|
 J (cn.mk iw.1 iw.2.1 iw.2.2.1 (bZ.mk (iw.2.2.2.1++[Ck,CH]) [ni] (D0++[(i64.wrap (x3+(i64.wrap (ni*AaR)))).tmod a0.Q])))))))))))))
set_option maxHeartbeats 16000000 in
def zrJ{a0 a1 a2 a3 a4 a5 a6 r}(hr:D1 a0 a1 a2 a3 a4 a5 a6=J r):ap Tryz.prog 152 [(.sh,vE a0),(.sh,.int .i64 a1),(.sh,.int .i64 a2),(.sh,vH a3),(.sh,vC a4),(.sh,vC a5),(.sh,vC a6)] (Eo (vQ r) MO):=by
 apply pE [] hr zFH Tryz.Afd;intro Φ ak hF g;unfold D1 at hF
 iterate 3 (try simp[go_sem,g];try intros;refine bu ?_)
 try simp[go_sem,g]
 try intros
 refine wE hF P6 λz1 hF=>?_
 refine wK [1,2,3,4,5,6,7,14,15,16,17] ?_;refine wZ (kD 0 [0,0,0,0,0,0,0,0,0,0,0,0,0,0,0,0,0]) follows ?_
 iterate 8 obtain⟨g,hF⟩:=Rg g hF
 refine wK [1,2,3,4,5,6,7,14,15,16,17,18,19,20] ?_;refine wZ (kD 0 [0,0,0,0,0,0,0,0,0,0,0,0,0,0,0,0,0,0,0,0,0]) follows ?_
 iterate 9 obtain⟨g,hF⟩:=Rg g hF
 refine wK [1,2,3,4,5,6,7,14,15,16,17,18,19,20,21,22,23] ?_;refine wZ (kD 0 [0,0,0,0,0,0,0,0,0,0,0,0,0,0,0,0,0,0,0,0,0,0,0,0,0,0,0,0,0,0,0]) follows ?_;obtain⟨x2,g,hF⟩:=Rx g hF
 iterate 6 obtain⟨g,hF⟩:=Rg g hF
 obtain⟨x3,g,hF⟩:=Rx g hF;refine wK [1,2,3,4,5,7,14,15,16,17,18,19,20,21,22,23,24,25,26,27] ?_;refine wE hF zqW λz4 hF=>?_
 refine wW ?_;refine wZ (kD 0 [58,0,58,0,0,0,225,226,3,3,3,0]) follows ?_;refine wE hF EI λz5 hF=>?_
 refine wE hF FT λz6 hF=>?_
 refine wE hF zq0 λz7 hF=>?_
 refine wK [1,2,3,4,5,7,14,15,16,17,18,19,20,21,22,23,24,25,26,27,28,29] ?_;try simp[go_sem,g]
 try intros
 refine bu ?_;refine bS hF [1,2,3,4,5,7,14,15,16,17,18,19,20,21,22,23,24,25,26,27,29] (λer=>[(28,.bl [vD er.1,vD er.2.1,vD er.2.2.1,vD er.2.2.2.1,vD er.2.2.2.2.1,vD er.2.2.2.2.2])]) (λer hF=>?_) λ_ hj0 hF=>?_
 ·refine wE hF zlX λhZ hF=>?_
  refine wK [1,2,3,4,5,7,14,15,16,17,18,19,20,21,22,23,24,25,26,27,28,29,31,32] ?_
  iterate 3 (try simp[go_sem,g];try intros;refine bu ?_)
  refine bS hF [1,2,3,5,7,14,15,16,17,18,19,20,21,22,23,24,25,26,27,29,31] (λgL=>[(28,.bl [vD gL.1,vD gL.2.1,vD gL.2.2.1,vD gL.2.2.2.1,vD gL.2.2.2.2.1,vD gL.2.2.2.2.2.1]),(33,.v (vD gL.2.2.2.2.2.2.1)),(34,.v (vD gL.2.2.2.2.2.2.2))]) (λgL hF=>?_) λ_ hj0 hF=>?_
  ·refine wE hF Gi λqj hF=>?_
   refine wK [1,2,3,5,7,14,15,16,17,18,19,20,21,22,23,24,25,26,27,28,29,31,33,34,40,41] ?_;try simp[go_sem,g]
   try intros
   refine bu ?_;refine bS hF [1,2,3,5,7,14,15,16,17,18,19,20,21,22,23,24,25,26,27,29,31,33,34,40,41] (λnR=>[(28,.bl [vD nR.1,vD nR.2.1,vD nR.2.2.1,vD nR.2.2.2.1,vD nR.2.2.2.2.1,vD nR.2.2.2.2.2])]) (λnR hF=>?_) λ_ hj0 hF=>?_
   ·iterate 2 (try simp[go_sem,g];try intros;refine bu ?_)
    refine bS hF [1,2,3,5,7,14,15,16,17,18,19,20,21,22,23,24,25,26,27,29,31,33,34,40,41] (λlI=>[(28,.bl [vD lI.1,vD lI.2.1,vD lI.2.2.1,vD lI.2.2.2.1,vD lI.2.2.2.2.1,vD lI.2.2.2.2.2])]) (λlI hF=>?_) λ_ hj0 hF=>?_
    ·refine wZ (kD 0 [225,225,226,58,0,0,3,0,5,225,225,226]) follows ?_;refine wE hF ft λYc hF=>?_
     obtain⟨g,hF⟩:=Rg g hF;refine wK [1,2,3,5,7,14,15,16,17,18,19,20,21,22,23,24,25,26,27,28,29,31,33,34,40,41] ?_;try simp[go_sem,g]
     try intros
     refine bu ?_;refine bS hF [1,3,5,7,14,15,16,17,18,19,20,21,22,23,24,25,26,27,29,31,33,34,40,41] (λiw=>[(28,.bl [vD iw.1,vD iw.2.1,vD iw.2.2.1,vD iw.2.2.2.1,vD iw.2.2.2.2.1,vD iw.2.2.2.2.2])]) (λiw hF=>?_) λ_ hj0 hF=>?_
     ·refine wZ (kE [0,1,2,3,4,5,6,7,8,10,11,12,16,17,18,19,20,22,23,24,9,13,14,15,21,25,26,27,28,29,30,31,32] [225,225,226,58,58,57,58,0,0,58,0,0,58,58,0,0,0,58,0,0,3,3,0,6,3,3,0,6,0,5,225,225,226]) follows ?_;refine wE hF ft λJ1 hF=>?_
      refine wE hF oI λJF hF=>?_
      refine wE hF hJ λCk hF=>?_
      refine wE hF ft λGX hF=>?_
      refine wE hF oI λJu hF=>?_
      refine wE hF hJ λCH hF=>?_
      obtain⟨g,hF⟩:=Rg g hF;refine wK [1,3,5,7,14,15,16,17,18,19,20,21,22,23,24,25,26,27,28,29,31,33,34] ?_;refine wE hF zoJ λni hF=>?_
      refine wW ?_;refine wK [5,14,15,16,18,19,20,21,22,23,24,25,26,27,28,29,31,33,34,46] ?_
      iterate 2 (try simp[go_sem,g];try intros;refine bu ?_)
      refine bS hF [5,14,15,16,18,19,20,21,22,23,24,25,26,27,28,29,31,34,46] (λL4=>[(47,.v (vD L4))]) (λL4 hF=>?_) λ_ hj0 hF=>?_
      ·try simp[go_sem,g]
       try intros
       refine bu ?_;refine bS hF [5,14,15,16,19,20,21,23,24,25,26,27,28,29,34,46] (λNM=>[(47,.v (vD NM))]) (λNM hF=>?_) λ_ hj0 hF=>?_
       ·try simp[go_sem,g]
        try intros
        refine wK [5,14,15,16,19,20,23,24,25,26,27,28,29,34,46,47,432,433] ?_;refine bS hF [5,14,15,16,19,20,24,25,26,27,28,29,46] (λE4=>[(47,.v (vD E4))]) (λE4 hF=>?_) λ_ hj0 hF=>?_
        ·obtain⟨Cx,g,hF⟩:=ig g hF;obtain⟨g,hF⟩:=Rz g hF;obtain⟨g,hF⟩:=Rg g hF;refine wK [5,14,16,19,25,26,27,28,29,46,47] ?_;try simp[go_sem,g]
         try intros
         refine bu ?_;refine bS hF [5,14,16,19,25,26,27,28,29,46] (λNa=>[(47,.v (vD Na))]) (λNa hF=>?_) λ_ hj0 hF=>?_
         ·try simp[go_sem,g]
          try intros
          refine bu ?_;refine bS hF [5,14,16,27,28,29,46] (λD0=>[(47,.v (vD D0))]) (λD0 hF=>?_) λ_ hj0 hF=>?_
          ·have c0:= @Rr;exact wL
          refine wR hF [5,14,16,19,26,27,28,29,46,490] (λJV w9=>[(47,.v (vD w9)),(491,.v (.int .i64 JV))]) λb bg JV w9 _ _ aO aN bo ba hF=>?_
          have cH:=aN;try simp at cH
          refine wW ?_;refine wt ?_ (hb:=by simp[go_sem,g,aO,aN,cH]<;>omega);refine wW ?_;refine wB ?_;refine wW ?_;refine wZ (kD 0 [0,0,0,0,0,0,0,0,0,0,0,0,0,0,0,5,0]) follows ?_;obtain⟨P1,g,hF⟩:=ig g hF;obtain⟨PS,g,hF⟩:=ig g hF;obtain⟨g,hF⟩:=Rz g hF;obtain⟨g,hF⟩:=Rg g hF;refine wK [5,14,16,19,26,27,28,29,46,47,490,491] ?_;exact wT (ba (w9++[(i64.wrap (P1+(i64.wrap (ni*PS)))).tmod a0.Q])) (eX hF) (a:=by simp[go_sem,g,yv aO aN (by first|assumption|(simp;assumption)|(simp;omega))])
         refine wR hF [5,14,16,19,25,26,27,28,29,46,468] (λJT xB=>[(47,.v (vD xB)),(469,.v (.int .i64 JT))]) λb bg JT xB _ _ aO aN bo ba hF=>?_
         have cH:=aN;try simp at cH
         refine wW ?_;refine wt ?_ (hb:=by simp[go_sem,g,aO,aN,cH]<;>omega);refine wW ?_;refine wB ?_;refine wW ?_;refine wZ (kD 0 [0,0,0,0,0,0,0,0,0,0,0,0,0,0,0,5,0]) follows ?_;obtain⟨OJ,g,hF⟩:=ig g hF;obtain⟨SN,g,hF⟩:=Rx g hF;obtain⟨g,hF⟩:=Rz g hF;obtain⟨g,hF⟩:=Rg g hF;refine wK [5,14,16,19,25,26,27,28,29,46,47,468,469] ?_;exact wT (ba (xB++[(i64.wrap (OJ+(i64.wrap (ni*SN)))).tmod a0.Q])) (eX hF) (a:=by simp[go_sem,g,yv aO aN (by first|assumption|(simp;assumption)|(simp;omega))])
        refine wR hF [5,14,15,16,19,20,23,24,25,26,27,28,29,34,46,432] (λIj wF=>[(47,.v (vD wF)),(433,.v (.int .i64 Ij))]) λb bg Ij wF _ _ aO aN bo ba hF=>?_
        have cH:=aN;try simp at cH
        refine wW ?_;refine wt ?_ (hb:=by simp[go_sem,g,aO,aN,cH]<;>omega);refine wW ?_;refine wB ?_;refine wW ?_;refine wZ (kD 0 [0,0,0,0,0,0,0,0,0,0,0,0,0,0,0,5,0]) follows ?_;obtain⟨Tp,g,hF⟩:=ig g hF;obtain⟨Pt,g,hF⟩:=Rx g hF;obtain⟨g,hF⟩:=Rz g hF;obtain⟨g,hF⟩:=Rg g hF;refine wK [5,14,15,16,19,20,23,24,25,26,27,28,29,34,46,47,432,433] ?_;exact wT (ba (wF++[(i64.wrap (Tp+(i64.wrap (ni*Pt)))).tmod a0.Q])) (eX hF) (a:=by simp[go_sem,g,yv aO aN (by first|assumption|(simp;assumption)|(simp;omega))])
       refine wR hF [5,14,15,16,18,19,20,21,22,23,24,25,26,27,28,29,31,34,46,401] (λvi oE=>[(47,.v (vD oE)),(402,.v (.int .i64 vi))]) λb bg vi oE _ _ aO aN bo ba hF=>?_
       have cH:=aN;try simp at cH
       refine wW ?_;refine wt ?_ (hb:=by simp[go_sem,g,aO,aN,cH]<;>omega);refine wW ?_;refine wB ?_;refine wK [5,14,15,16,18,19,20,21,22,23,24,25,26,27,28,29,31,34,46,47,49,401,402] ?_;refine wZ (kD 0 [0,0,0,0,0,0,0,0,0,0,0,0,0,0,0,0,0,0,0,0,0,0,0,0,5,0]) follows ?_;obtain⟨JI,g,hF⟩:=ig g hF;obtain⟨Jw,g,hF⟩:=ig g hF;obtain⟨Kd,g,hF⟩:=ig g hF
       iterate 2 obtain⟨g,hF⟩:=Rz g hF
       obtain⟨g,hF⟩:=Rg g hF;refine wK [5,14,15,16,18,19,20,21,22,23,24,25,26,27,28,29,31,34,46,47,401,402] ?_;exact wT (ba (oE++[(i64.wrap (JI+(i64.wrap (ni*((i64.wrap ((i64.wrap (hZ.1*Jw))+Kd)).tmod a0.Q))))).tmod a0.Q])) (eX hF) (a:=by simp[go_sem,g,yv aO aN (by first|assumption|(simp;assumption)|(simp;omega))])
      refine wR hF [5,14,15,16,18,19,20,21,22,23,24,25,26,27,28,29,31,33,34,46,379] (λzJ oT=>[(47,.v (vD oT)),(380,.v (.int .i64 zJ))]) λb bg zJ oT _ _ aO aN bo ba hF=>?_
      have cH:=aN;try simp at cH
      refine wW ?_;refine wt ?_ (hb:=by simp[go_sem,g,aO,aN,cH]<;>omega);refine wW ?_;refine wB ?_;refine wW ?_;refine wZ (kD 0 [0,0,0,0,0,0,0,0,0,0,0,0,0,0,0,5,0]) follows ?_;obtain⟨Jk,g,hF⟩:=ig g hF;obtain⟨Is,g,hF⟩:=Rx g hF;obtain⟨g,hF⟩:=Rz g hF;obtain⟨g,hF⟩:=Rg g hF;refine wK [5,14,15,16,18,19,20,21,22,23,24,25,26,27,28,29,31,33,34,46,47,379,380] ?_;exact wT (ba (oT++[(i64.wrap (Jk+(i64.wrap (ni*Is)))).tmod a0.Q])) (eX hF) (a:=by simp[go_sem,g,yv aO aN (by first|assumption|(simp;assumption)|(simp;omega))])
     refine wR hF [1,2,3,5,7,14,15,16,17,18,19,20,21,22,23,24,25,26,27,29,31,33,34,40,41,313] (λsT eN=>[(28,.bl [vD eN.1,vD eN.2.1,vD eN.2.2.1,vD eN.2.2.2.1,vD eN.2.2.2.2.1,vD eN.2.2.2.2.2]),(314,.v (.int .i64 sT))]) λb bg sT eN _ _ aO aN bo ba hF=>?_
     have cH:=aN;try simp at cH
     refine wW ?_;refine wt ?_ (hb:=by simp[go_sem,g,aO,aN,cH]<;>omega);refine wW ?_;refine wB ?_;refine wW ?_;refine wZ (kD 0 [225,225,226,58,0,0,0,0,0,0,0,0,0,3,0,5,225,225,226]) follows ?_;obtain⟨LL,g,hF⟩:=ig g hF;obtain⟨WZ,g,hF⟩:=ig g hF;refine wE hF Bh λT4 hF=>?_
     obtain⟨g,hF⟩:=Rg g hF;refine wK [1,2,3,5,7,14,15,16,17,18,19,20,21,22,23,24,25,26,27,28,29,31,33,34,40,41,313,314] ?_;exact wT (ba (eN.1,eN.2.1,eN.2.2.1,eN.2.2.2.1++[T4],eN.2.2.2.2.1,eN.2.2.2.2.2)) (eX hF) (a:=by simp[go_sem,g,yv aO aN (by first|assumption|(simp;assumption)|(simp;omega))])
    refine wR hF [1,2,3,5,7,14,15,16,17,18,19,20,21,22,23,24,25,26,27,29,31,33,34,40,41,267] (λuW dm=>[(28,.bl [vD dm.1,vD dm.2.1,vD dm.2.2.1,vD dm.2.2.2.1,vD dm.2.2.2.2.1,vD dm.2.2.2.2.2.1]),(43,.v (.int .i64 dm.2.2.2.2.2.2)),(268,.v (.int .i64 uW))]) λb bg uW dm _ _ aO aN bo ba hF=>?_
    have cH:=aN;try simp at cH
    refine wK [1,2,3,5,7,14,15,16,17,18,19,20,21,22,23,24,25,26,27,28,29,31,33,34,40,41,43,267,268,269] ?_;refine wt ?_ (hb:=by simp[go_sem,g,aO,aN,cH]<;>omega);refine wW ?_;refine wB ?_;refine wW ?_;refine wZ (kE [0,1,2,3,4,5,6,7,8,9,11,12,13,14,15,16,10,17,18,19,20,21,22,23,24] [225,225,226,58,58,0,0,0,0,0,58,0,0,0,0,0,4,3,0,6,0,5,225,225,226]) follows ?_;obtain⟨NT,g,hF⟩:=ig g hF;obtain⟨Ns,g,hF⟩:=ig g hF;refine wD hF ft λMp hF=>?_
    refine wE hF ft λN6 hF=>?_
    refine wE hF hJ λHc hF=>?_
    obtain⟨g,hF⟩:=Rg g hF;refine wK [1,2,3,5,7,14,15,16,17,18,19,20,21,22,23,24,25,26,27,28,29,31,33,34,40,41,44,267,268] ?_;obtain⟨JZ,g,hF⟩:=Rx g hF;refine wW ?_;exact wT (ba (dm.1,dm.2.1,dm.2.2.1,dm.2.2.2.1++[Hc],dm.2.2.2.2.1,dm.2.2.2.2.2.1,JZ)) (eX hF) (a:=by simp[go_sem,g,yv aO aN (by first|assumption|(simp;assumption)|(simp;omega))])
   refine wR hF [1,2,3,5,7,14,15,16,17,18,19,20,21,22,23,24,25,26,27,29,31,33,34,40,41,241] (λAh dL=>[(28,.bl [vD dL.1,vD dL.2.1,vD dL.2.2.1,vD dL.2.2.2.1,vD dL.2.2.2.2.1,vD dL.2.2.2.2.2]),(242,.v (.int .i64 Ah))]) λb bg Ah dL _ _ aO aN bo ba hF=>?_
   have cH:=aN;try simp at cH
   refine wW ?_;refine wt ?_ (hb:=by simp[go_sem,g,aO,aN,cH]<;>omega);refine wW ?_;refine wB ?_;refine wW ?_;refine wZ (kD 0 [225,225,226,58,0,0,0,0,0,0,0,0,0,3,0,5,225,225,226]) follows ?_;obtain⟨iS,g,hF⟩:=ig g hF;obtain⟨jB,g,hF⟩:=ig g hF;refine wE hF Bh λod hF=>?_
   obtain⟨g,hF⟩:=Rg g hF;refine wK [1,2,3,5,7,14,15,16,17,18,19,20,21,22,23,24,25,26,27,28,29,31,33,34,40,41,241,242] ?_;exact wT (ba (dL.1,dL.2.1,dL.2.2.1,dL.2.2.2.1++[od],dL.2.2.2.2.1,dL.2.2.2.2.2)) (eX hF) (a:=by simp[go_sem,g,yv aO aN (by first|assumption|(simp;assumption)|(simp;omega))])
  refine wR hF [1,2,3,5,7,14,15,16,17,18,19,20,21,22,23,24,25,26,27,29,31,32,173,174] (λua cB=>[(28,.bl [vD cB.1,vD cB.2.1,vD cB.2.2.1,vD cB.2.2.2.1,vD cB.2.2.2.2.1,vD cB.2.2.2.2.2.1]),(33,.v (vD cB.2.2.2.2.2.2.1)),(34,.v (vD cB.2.2.2.2.2.2.2.1)),(35,.v (.int .i64 cB.2.2.2.2.2.2.2.2.1)),(36,.v (.int .i64 cB.2.2.2.2.2.2.2.2.2)),(175,.v (.int .i64 ua))]) λb bg ua cB _ _ aO aN bo ba hF=>?_
  refine wW ?_;refine wu aO aN ?_;refine wW ?_;refine wB ?_;obtain⟨n7,g,hF⟩:=Rx g hF;refine wK [1,2,3,5,7,14,15,16,17,18,19,20,21,22,23,24,25,26,27,28,29,31,32,33,34,35,36,37,38,173,174,175] ?_;refine wZ (kD 0 [0,0,0,0,0,0,0,0,0,0,0,0,0,0,3,0]) follows ?_;obtain⟨g,hF⟩:=Rz g hF;obtain⟨N8,g,hF⟩:=Rx g hF;refine wE hF Ka λsn hF=>?_
  refine wK [1,2,3,5,7,14,15,16,17,18,19,20,21,22,23,24,25,26,27,28,29,31,32,33,34,35,36,37,39,173,174,175] ?_;obtain⟨g,hF⟩:=Rg g hF;obtain⟨g,hF⟩:=Rz g hF;refine wW ?_;refine wK [1,2,3,5,7,14,15,16,17,18,19,20,21,22,23,24,25,26,27,28,29,31,32,33,34,35,36,37,39,173,174,175] ?_;refine wZ (kD 0 [225,226,58,0,0,0,0,0,0,3,0,5,225,226]) follows ?_;obtain⟨qS,g,hF⟩:=ig g hF;have c0:= @Bh;have c1:= @Ka;exact wL
 refine wR hF [1,2,3,4,5,7,14,15,16,17,18,19,20,21,22,23,24,25,26,27,29,140] (λfQ bV=>[(28,.bl [vD bV.1,vD bV.2.1,vD bV.2.2.1,vD bV.2.2.2.1,vD bV.2.2.2.2.1,vD bV.2.2.2.2.2]),(141,.v (.int .i64 fQ))]) λb bg fQ bV _ _ aO aN bo ba hF=>?_
 refine wW ?_;refine wu aO aN ?_;refine wW ?_;refine wB ?_;refine wW ?_;refine wZ (kD 0 [225,226,58,0,0,0,0,0,0,0,0,0,3,0,5,225,226]) follows ?_;obtain⟨iv,g,hF⟩:=Rx g hF;obtain⟨ke,g,hF⟩:=ig g hF;have c0:= @Bh;exact wL
def Ad(a0:am)(a1:Int)(a2:List an)(a3:List Int)(a4:List Int)(a5:List Int):Option (cn×Bool):=
 (((pD a0 a1 a2).bind λz4=>
 if(!z4)=Z then(
 J Z)else(
 (DT a3 (a2.length:Int)).bind λz6=>
 if(!z6)=Z then(
 J Z)else(
 if((a4.length:Int) !=(a2.length:Int))=Z then(
 J Z)else(
 (r6 a0 a4).bind λz9=>
 if(!z9)=Z then(
 J Z)else(
 if((a5.length:Int) !=(i64.wrap ((i64.wrap (8*(a2.length:Int)))+2)))=Z then(
 J Z)else(
 (r6 a0 a5).bind λbH=>
 J (!bH)))))):Option Bool).bind λx3=>
 if x3=Z then(
 J ((cn.mk [] [] [] (bZ.mk [] [] [])),aa))else(
 (EM a0).bind λeQ=>
 if(!eQ.2)=Z then(
 J ((cn.mk [] [] [] (bZ.mk [] [] [])),aa))else(
 (D1 a0 a1 eQ.1 a2 a3 a4 a5).bind λk8=>
 J (k8,Z))))
def zpp{a0 a1 a2 a3 a4 a5 r}(hr:Ad a0 a1 a2 a3 a4 a5=J r):ap Tryz.prog 88 [(.sh,vE a0),(.sh,.int .i64 a1),(.sh,vH a2),(.sh,vC a3),(.sh,vC a4),(.sh,vC a5)] (Eo (.bO [vQ r.1,.bool r.2]) sj):=by
 apply pE [] hr zLl Tryz.AiT;intro Φ ak hF g;unfold Ad at hF
 iterate 2 (try simp[go_sem,g];try intros;refine bu ?_)
 refine bS hF [1,2,3,4,5,6,12] (λx3=>[(55,.v (.bool x3))]) (λx3 hF=>?_) λ_ hj0 hF=>?_
 ·have c0:= @W6;have c1:= @zrJ;exact wL
 have c0:= @HC;have c1:= @UR;have c2:= @IE;exact wL
def Ai(a0:am)(a1:Int)(a2:List an)(a3:Int)(a4:List Int)(a5:List Int):Option ec:=
 gd (0<=(a2.length:Int))<|
 gd (0<=a2.length/\a2.length<=a5.length)<|
 (Cc a0 a1 a2 a4 ((a5.take a2.length).drop 0)).bind λz1=>
 ((if(a3==1)=Z then(
 gd (0<=(a2.length:Int))<|
 gd (0<=a2.length/\a2.length<=a5.length)<|
 gd (0<=(a2.length:Int))<|
 gd (a2.length<=a5.length/\a5.length<=a5.length)<|
 (uR a0 a1 a2 a4 ((a5.take a2.length).drop 0) ((a5.take a5.length).drop a2.length)).bind λz6=>
 J (a3,z1,z6.1.cu,z6.1.aF,z6.1.Pi.aC,z6.1.Pi.aV,z6.1.Pi.aD,[],[],[],[],[],[]))else(
 gd (0<=(a2.length:Int))<|
 gd (0<=a2.length/\a2.length<=a5.length)<|
 gd (0<=(a2.length:Int))<|
 gd (a2.length<=a5.length/\a5.length<=a5.length)<|
 (Ad a0 a1 a2 a4 ((a5.take a2.length).drop 0) ((a5.take a5.length).drop a2.length)).bind λz7=>
 J (a3,z1,[],[],[],[],[],z7.1.bQ,z7.1.bL,z7.1.aF,z7.1.Pi.aC,z7.1.Pi.aV,z7.1.Pi.aD)):Option ((Int×List an×List Int×List Int×List Int×List Int×List Int×List Int×List Int×List Int×List Int×List Int×List Int))).bind λx4=>
 J (ec.mk x4.1 x4.2.1 (cF.mk x4.2.2.1 x4.2.2.2.1 (bZ.mk x4.2.2.2.2.1 x4.2.2.2.2.2.1 x4.2.2.2.2.2.2.1)) (cn.mk x4.2.2.2.2.2.2.2.1 x4.2.2.2.2.2.2.2.2.1 x4.2.2.2.2.2.2.2.2.2.1 (bZ.mk x4.2.2.2.2.2.2.2.2.2.2.1 x4.2.2.2.2.2.2.2.2.2.2.2.1 x4.2.2.2.2.2.2.2.2.2.2.2.2))))
def zrK{a0 a1 a2 a3 a4 a5 r}(hr:Ai a0 a1 a2 a3 a4 a5=J r):ap Tryz.prog 39 [(.sh,vE a0),(.sh,.int .i64 a1),(.sh,vH a2),(.sh,.int .i64 a3),(.sh,vC a4),(.sh,vC a5)] (Eo (vR r) sj):=by
 apply pE [] hr zL0 Tryz.AfG;intro Φ ak hF g;unfold Ai at hF
 iterate 2 (try simp[go_sem,g];try intros;refine bu ?_)
 refine wZ (kE [0,1,2,3,4,5,6,7,10,8,9,11] [0,50,0,0,0,0,0,0,0,3,0,114]) follows ?_
 iterate 2 obtain⟨g,hF⟩:=Rg g hF
 refine wE hF P6 λz1 hF=>?_
 refine wK [1,2,3,4,5,6,12,13,14] ?_;refine wW ?_;refine wJ hF (λx4=>[(12,.bl [.int .i64 0,.sl Z 2 [],.sl Z 1 [],.sl Z 1 [],.sl Z 1 [],.sl Z 1 [],.sl Z 1 [],.sl Z 1 [],.sl Z 1 [],.sl Z 1 [],.sl Z 1 [],.sl Z 1 [],.sl Z 1 []]),(14,.bl [.int .i64 x4.1,vG x4.2.1,vD x4.2.2.1,vD x4.2.2.2.1,vD x4.2.2.2.2.1,vD x4.2.2.2.2.2.1,vD x4.2.2.2.2.2.2.1,vD x4.2.2.2.2.2.2.2.1,vD x4.2.2.2.2.2.2.2.2.1,vD x4.2.2.2.2.2.2.2.2.2.1,vD x4.2.2.2.2.2.2.2.2.2.2.1,vD x4.2.2.2.2.2.2.2.2.2.2.2.1,vD x4.2.2.2.2.2.2.2.2.2.2.2.2])]) (λx4 hF=>?_) λ_ hj0 hF=>?_
 ·exact wl ak hF
 refine wI hF (λh5 hF=>?_) λh5 hF=>?_
 ·refine wZ (kD 0 [50,0,0,0,0,0,0,0,0,0,3,0,0,0,113,114]) follows ?_;have c0:= @znD;exact wL
 refine wZ (kD 0 [50,0,0,0,0,0,0,0,0,0,3,0,0,0,113,114]) follows ?_;have c0:= @zpp;exact wL
def sP(a0:am)(a1:Int)(a2:List an)(a3:Int)(a4:List Int)(a5:List Int):Option (ec×Bool):=
 (DC a3 (a2.length:Int)).bind λz1=>
 ((if(!z1.2)=Z then(
 J Z)else(
 (th a0 a1 a2).bind λz6=>
 if(!z6)=Z then(
 J Z)else(
 if((a4.length:Int) !=(a2.length:Int))=Z then(
 J Z)else(
 (Ik a4).bind λz9=>
 if(!z9)=Z then(
 J Z)else(
 if((a5.length:Int) !=z1.1)=Z then(
 J Z)else(
 (r6 a0 a5).bind λbH=>
 J (!bH)))))):Option Bool).bind λx4=>
 if x4=Z then(
 J ((ec.mk 0 [] (cF.mk [] [] (bZ.mk [] [] [])) (cn.mk [] [] [] (bZ.mk [] [] []))),aa))else(
 (Ai a0 a1 a2 a3 a4 a5).bind λeQ=>
 J (eQ,Z)))
def zlj{a0 a1 a2 a3 a4 a5 r}(hr:sP a0 a1 a2 a3 a4 a5=J r):ap Tryz.prog 8 [(.sh,vE a0),(.sh,.int .i64 a1),(.sh,vH a2),(.sh,.int .i64 a3),(.sh,vC a4),(.sh,vC a5)] (Eo (.bO [vR r.1,.bool r.2]) sj):=by
 apply pE [] hr cl8 Tryz.Adh;intro Φ ak hF g;unfold sP at hF;try simp[go_sem,g]
 try intros
 refine bu ?_;try simp[go_sem,g]
 try intros
 refine wE hF XI λz1 hF=>?_
 refine wK [1,2,3,4,5,6,12,14,15] ?_;refine bS hF [1,2,3,4,5,6,12] (λx4=>[(55,.v (.bool x4))]) (λx4 hF=>?_) λ_ hj0 hF=>?_
 ·have c0:= @zrK;exact wL
 have c0:= @zmZ;have c1:= @zsQ;have c2:= @IE;exact wL
def Jf(a0:List an)(a1:List an):Option Bool:=
 if((a0.length:Int) !=(a1.length:Int))=Z then(
 J aa)else(
 ((aS (σ:=Unit) (λi6 s5=>
 (ix a0 i6).bind λdf=>
 (ix a1 i6).bind λg8=>
 if(!(df.A==g8.A&&df.B==g8.B))=Z then(
 J (.out (.inr aa)))else(
 J (.go ()))) (λs5=>.inl ()) (a0.length) 0 ():Option (Unit ⊕ Bool)).bind (Sum.elim (λx4=>
 J Z) J)))
def zm2{a0 a1 r}(hr:Jf a0 a1=J r):ap Tryz.prog 9 [(.sh,vH a0),(.sh,vH a1)] (Eo (.bool r) cI):=by
 apply pE [] hr cl9 Tryz.AeI;intro Φ ak hF g;unfold Jf at hF
 iterate 2 (try simp[go_sem,g];try intros;refine bu ?_)
 refine wI hF (λh1 hF=>?_) λh1 hF=>?_
 ·exact wl ak hF
 iterate 2 (try simp[go_sem,g];try intros;refine bu ?_)
 refine wS hF (λx4=>[]) (λx4 hF=>?_) λ_ hj0 dB hF=>?_
 ·exact wL
 refine wR hF [0,1,12] (λi6 s5=>[(13,.v (.int .i64 i6))]) λb bg i6 s5 _ _ aO aN bo ba hF=>?_
 refine wK [0,1,12,13,14] ?_;refine wu aO aN ?_;refine wW ?_;refine wB ?_;refine wW ?_;refine wZ (kD 0 [0,0,0,0,0,0,0,0,0]) follows ?_;exact wL
def GT(a0:Int)(xX:am):Option Bool:=
 (zi xX a0).bind λz1=>
 J (!z1)
def ziZ{a0 xX r}(hr:GT a0 xX=J r):ap Tryz.prog 116 [(.sh,.int .i64 a0),(.sh,.fp [.func (.func 76) [vE xX] []])] (Eo (.bool r) cI):=by
 apply pE [] hr Nm Tryz.Ps;intro Φ ak hF g;unfold GT at hF;have c0:= @RD;exact wL
def La(a0:List Int)(k7:am):Option Int:=
 ((aS (σ:=Unit) (λi5 s4=>
 (ix a0 i5).bind λaU=>
 (GT aU k7).bind λbH=>
 if bH=Z then(
 J (.out (.inr i5)))else(
 J (.go ()))) (λs4=>.inl ()) (a0.length) 0 ():Option (Unit ⊕ Int)).bind (Sum.elim (λx3=>
 J (-1)) J))
def zfc{a0 k7 r}(hr:La a0 k7=J r):ap Tryz.prog 174 [(.sh,vC a0),(.sh,.func (.func 116) [] [.fp [.func (.func 76) [vE k7] []]])] (Eo (.int .i64 r) cI):=by
 apply pE [] hr LG Tryz.Pw;intro Φ ak hF g;unfold La at hF
 iterate 2 (try simp[go_sem,g];try intros;refine bu ?_)
 refine wS hF (λx3=>[]) (λx3 hF=>?_) λ_ hj0 dB hF=>?_
 ·exact wl ak hF
 refine wR hF [0,1,7] (λi5 s4=>[(8,.v (.int .i64 i5))]) λb bg i5 s4 _ _ aO aN bo ba hF=>?_
 have c0:= @ziZ;exact wL
def Nq(a0:List Int)(k7:am):Option Bool:=
 (La a0 k7).bind λz1=>
 J (decide (0<=z1))
def zeT{a0 k7 r}(hr:Nq a0 k7=J r):ap Tryz.prog 115 [(.sh,vC a0),(.sh,.func (.func 116) [] [.fp [.func (.func 76) [vE k7] []]])] (Eo (.bool r) cI):=by
 apply pE [] hr Lg Tryz.Rc;intro Φ ak hF g;unfold Nq at hF;have c0:= @zfc;exact wL
def Nn(a0:List Int)(xy:am):Option Bool:=
 (Nq a0 xy).bind λz1=>
 J (!z1)
def zjm{a0 xy r}(hr:Nn a0 xy=J r):ap Tryz.prog 69 [(.sh,vC a0),(.sh,.func (.func 76) [vE xy] [])] (Eo (.bool r) cI):=by
 apply pF 9 [] [] [1000000] [.tmp 4] hr Lm Tryz.SX;intro Φ ak hF g;unfold Nn at hF;have c0:= @zeT;exact wL
def tD(a0:am)(a1:List Int):Option Bool:=
 (Nn a1 a0).bind λz1=>
 J z1
def zjp{a0 a1 r}(hr:tD a0 a1=J r):ap Tryz.prog 203 [(.sh,vE a0),(.sh,vC a1)] (Eo (.bool r) cI):=by
 apply pE [] hr zFD Tryz.AiW;intro Φ ak hF g;unfold tD at hF;have c0:= @zjm;exact wL
def Ho(a0:am)(a1:cF)(a2:Int):Option Bool:=
 ((if((a1.cu.length:Int)==a2)=Z then(
 if((a1.aF.length:Int)==a2)=Z then(
 if((a1.Pi.aC.length:Int)==(i64.wrap (a2+5)))=Z then(
 if((a1.Pi.aV.length:Int)==1)=Z then(
 if((a1.Pi.aD.length:Int)==(i64.wrap ((i64.wrap (2*a2))+4)))=Z then(
 (tD a0 a1.cu).bind λz9=>
 if z9=Z then(
 (tD a0 a1.aF).bind λb7=>
 if b7=Z then(
 (tD a0 a1.Pi.aC).bind λdk=>
 if dk=Z then(
 (vf a0 a1.Pi.aD).bind λfE=>
 J fE)else(
 J aa))else(
 J aa))else(
 J aa))else(
 J aa))else(
 J aa))else(
 J aa))else(
 J aa))else(
 J aa):Option Bool).bind λx3=>
 J x3)
def zkz{a0 a1 a2 r}(hr:Ho a0 a1 a2=J r):ap Tryz.prog 156 [(.sh,vE a0),(.sh,vL a1),(.sh,.int .i64 a2)] (Eo (.bool r) gq):=by
 apply pE [] hr zGf Tryz.Adt;intro Φ ak hF g;unfold Ho at hF;refine wW ?_;refine wJ hF (λx3=>[(6,.v (.bool x3))]) (λx3 hF=>?_) λ_ hj0 hF=>?_
 ·exact wm ak hF
 have c0:= @zjp;have c1:= @IB;exact wL
def Mi(a0:am)(a1:Int):Option Int:=
 (cP a0 a1 (-1)).bind λz1=>
 J z1
def zpf{a0 a1 r}(hr:Mi a0 a1=J r):ap Tryz.prog 204 [(.sh,vE a0),(.sh,.int .i64 a1)] (Eo (.int .i64 r) cI):=by
 apply pE [] hr zF0 Tryz.Ad1;intro Φ ak hF g;unfold Mi at hF;have c0:= @gN;exact wL
def BM(a0:am)(a1:Int)(a2:Int):Option Int:=
 (Mi a0 a2).bind λz1=>
 (d9 a0 [a1,z1]).bind λz2=>
 J z2
def Zt{a0 a1 a2 r}(hr:BM a0 a1 a2=J r):ap Tryz.prog 158 [(.sh,vE a0),(.sh,.int .i64 a1),(.sh,.int .i64 a2)] (Eo (.int .i64 r) gq):=by
 apply pE [] hr zGo Tryz.Ad8;intro Φ ak hF g;unfold BM at hF;refine wW ?_;refine wZ (kD 0 [26,0,26,0,3,0,6,0]) follows ?_;have c0:= @zpf;have c1:= @jJ;exact wL
def sN(a0:Int)(a1:Int)(a2:Int)(uu:Int)(GP:Int)(JX:Int)(uV:Int):Option Bool:=
 (cP (am.mk uu GP JX) a1 uV).bind λz1=>
 (d9 (am.mk uu GP JX) [a0,z1]).bind λz2=>
 J (z2==a2)
def zgM{a0 a1 a2 uu GP JX uV r}(hr:sN a0 a1 a2 uu GP JX uV=J r):ap Tryz.prog 157 [(.sh,.int .i64 a0),(.sh,.int .i64 a1),(.sh,.int .i64 a2),(.sh,.fp [.int .i64 uu,.int .i64 GP,.int .i64 JX]),(.sh,.fp [.int .i64 uV])] (Eo (.bool r) rX):=by
 apply pE [] hr zFV Tryz.Aio;intro Φ ak hF g;unfold sN at hF;refine wW ?_;refine wZ (kE [0,1,2,3,4,8,5,6,7,9,10] [0,0,0,0,0,0,4,0,6,0,0]) follows ?_;have c0:= @gN;have c1:= @jJ;exact wL
def FQ(a0:am)(a1:ct)(a2:Int)(a3:List an)(a4:List an)(a5:cF):Option Bool:=
 ((if((a4.length:Int) !=(a3.length:Int))=Z then(
 J Z)else(
 (Ho a0 a5 (a3.length:Int)).bind λz5=>
 J (!z5)):Option Bool).bind λx3=>
 if x3=Z then(
 J aa)else(
 (qG a2 a3 a4 a5.cu).bind λz7=>
 (Ac a0 (⟨#[109,105,120,32,99,111,108,117,109,110,115]⟩:ByteArray) z7 (a3.length:Int)).bind λz8=>
 (pj [z7,a5.aF,a5.Pi.aC]).bind λz9=>
 (mt a0 (⟨#[109,105,120,32,112,114,111,111,102]⟩:ByteArray) z9).bind λbX=>
 ((if(!z8.2)=Z then(
 J Z)else(
 if(!bX.2)=Z then(
 J Z)else(
 (ix a5.Pi.aV 0).bind λui=>
 J (ui !=bX.1))):Option Bool).bind λg8=>
 if g8=Z then(
 J aa)else(
 gd (0<=(i64.wrap ((a3.length:Int)+4)))<|
 gd ((i64.wrap ((a3.length:Int)+4)).toNat<=a5.Pi.aD.length/\a5.Pi.aD.length<=a5.Pi.aD.length)<|
 ((aS (σ:=Int) (λfQ bV=>
 (ix z8.1 fQ).bind λiv=>
 (eU a0 (i64.wrap (bV*iv))).bind λnM=>
 J (.go nM)) (λbV=>bV) (z8.1.length) 0 1:Option Int).bind λfF=>
 (uB a3).bind λnE=>
 (uB a4).bind λhZ=>
 (((ix a5.Pi.aC 0).bind λuC=>
 (ix a5.Pi.aD 0).bind λkB=>
 (d9 a0 a5.cu).bind λNr=>
 (d9 a0 a1.Hs).bind λNh=>
 (BM a0 Nr Nh).bind λBr=>
 (cP a0 a0.G kB).bind λCm=>
 (sN uC Br Cm a0.P a0.Q a0.G bX.1).bind λzY=>
 if zY=Z then(
 (ix a5.Pi.aC 1).bind λx47=>
 (ix a5.Pi.aD 1).bind λx48=>
 (lT a0 a5.cu z8.1).bind λLc=>
 (cP a0 a0.G x48).bind λxH=>
 (lT a0 a1.Hs ((a5.Pi.aD.take a5.Pi.aD.length).drop ((i64.wrap ((a3.length:Int)+4)).toNat))).bind λAb=>
 (d9 a0 [xH,Ab]).bind λqY=>
 (sN x47 Lc qY a0.P a0.Q a0.G bX.1).bind λCE=>
 if CE=Z then(
 (ix a5.Pi.aC 2).bind λiE=>
 (ix a5.aF (i64.wrap ((a3.length:Int)-1))).bind λxN=>
 (ix a5.Pi.aD 2).bind λPy=>
 (cP a0 a1.H fF).bind λz58=>
 (BM a0 xN z58).bind λz59=>
 (cP a0 a0.G Py).bind λEt=>
 (sN iE z59 Et a0.P a0.Q a0.G bX.1).bind λsn=>
 if sn=Z then(
 (ix a5.Pi.aC 3).bind λx63=>
 (ix a5.Pi.aD 3).bind λxW=>
 (lT a0 nE.1 z8.1).bind λJW=>
 (cP a0 a0.G (i64.wrap (0-xW))).bind λz66=>
 (lT a0 hZ.1 ((a5.Pi.aD.take a5.Pi.aD.length).drop ((i64.wrap ((a3.length:Int)+4)).toNat))).bind λJt=>
 (d9 a0 [z66,Jt]).bind λGO=>
 (sN x63 JW GO a0.P a0.Q a0.G bX.1).bind λqj=>
 if qj=Z then(
 (ix a5.Pi.aC 4).bind λTz=>
 (lT a0 nE.2 z8.1).bind λoM=>
 (cP a0 a2 (i64.wrap (0-xW))).bind λrQ=>
 (lT a0 hZ.2 ((a5.Pi.aD.take a5.Pi.aD.length).drop ((i64.wrap ((a3.length:Int)+4)).toNat))).bind λxz=>
 (d9 a0 [rQ,xz]).bind λFg=>
 (sN Tz oM Fg a0.P a0.Q a0.G bX.1).bind λLM=>
 J LM)else(
 J aa))else(
 J aa))else(
 J aa))else(
 J aa):Option Bool).bind λgL=>
 gd (([a1.H].length+a5.aF.length)*8<=140737488355328/\[a1.H].length+a5.aF.length<=4611686018427387904)<|
 (J ([a1.H]++a5.aF)).bind λko=>
 ((aS (σ:=Bool) (λy8 D3=>
 ((if D3=Z then(
 (ix a5.Pi.aC (i64.wrap (5+y8))).bind λjB=>
 (ix a5.aF y8).bind λxU=>
 (ix a5.Pi.aD (i64.wrap (4+y8))).bind λyt=>
 (ix ko y8).bind λV2=>
 (ix ((a5.Pi.aD.take a5.Pi.aD.length).drop ((i64.wrap ((a3.length:Int)+4)).toNat)) y8).bind λyl=>
 (cP a0 a0.G yt).bind λP0=>
 (cP a0 V2 yl).bind λRt=>
 (d9 a0 [P0,Rt]).bind λKq=>
 (sN jB xU Kq a0.P a0.Q a0.G bX.1).bind λJP=>
 J JP)else(
 J aa):Option Bool).bind λmi=>
 J (.go mi))) (λD3=>D3) (a3.length) 0 gL:Option Bool).bind λMC=>
 J MC)))))))
set_option maxHeartbeats 16000000 in
def zkj{a0 a1 a2 a3 a4 a5 r}(hr:FQ a0 a1 a2 a3 a4 a5=J r):ap Tryz.prog 90 [(.sh,vE a0),(.sh,vJ a1),(.sh,.int .i64 a2),(.sh,vH a3),(.sh,vH a4),(.sh,vL a5)] (Eo (.bool r) sj):=by
 apply pF 296 [] [955] [1000000] [.tmp 12] hr zKS Tryz.Ad7;intro Φ ak hF g;unfold FQ at hF
 iterate 2 (try simp[go_sem,g];try intros;refine bu ?_)
 refine bS hF [2,3,4,6,7,11,13] (λx3=>[(45,.v (.bool x3))]) (λx3 hF=>?_) λ_ hj0 hF=>?_
 ·refine wI hF (λh6 hF=>?_) λh6 hF=>?_
  ·exact wl ak hF
  refine wW ?_;refine wE hF Ez λz7 hF=>?_
  refine wK [2,3,4,6,7,11,13,14] ?_;refine wE hF VC λz8 hF=>?_
  refine wW ?_;refine wZ (kE [0,1,2,3,4,5,6,7,13,8,9,10,11,12,14,15] [50,0,89,90,89,89,90,0,0,6,3,0,0,0,138,0]) follows ?_;refine wE hF EA λz9 hF=>?_
  refine wE hF wo λbX hF=>?_
  refine wK [2,3,4,6,7,11,13,15,16,17,18] ?_;refine bS hF [2,3,4,6,7,11,13,15,17] (λg8=>[(86,.v (.bool g8))]) (λg8 hF=>?_) λ_ hj0 hF=>?_
  ·refine wI hF (λT2 hF=>?_) λT2 hF=>?_
   ·exact wl ak hF
   refine wW ?_;refine wZ (kD 0 [89,89,90,89,89,90,0,0]) follows ?_
   iterate 2 obtain⟨g,hF⟩:=Rg g hF
   refine wW ?_;refine wK [2,3,4,6,7,11,13,15,17,19,20,21,22] ?_;try simp[go_sem,g]
   try intros
   refine bu ?_;refine bS hF [2,3,4,6,7,11,13,15,17,19,20,21] (λfF=>[(22,.v (.int .i64 fF))]) (λfF hF=>?_) λ_ hj0 hF=>?_
   ·refine wE hF Dw λnE hF=>?_
    refine wK [2,4,6,7,11,13,15,17,19,20,21,22,25,26] ?_;refine wE hF Dw λhZ hF=>?_
    iterate 2 refine wW ?_
    refine bS hF [6,7,11,13,19,20,21,29] (λgL=>[(30,.v (.bool gL))]) (λgL hF=>?_) λ_ hj0 hF=>?_
    ·obtain⟨g,hF⟩:=Rg g hF;obtain⟨ko,QE,hF⟩:=mJ hF;have g:=And.intro g (show[.int .i64 a1.H]::(List.map aJ a5.aF)=ko.map aJ by injection QE with QE;rw[<-QE];simp[go_sem]);refine wK [6,11,13,19,20,21,29,30,31] ?_;refine wW ?_;refine wJ hF (λMC=>[(30,.v (.bool MC))]) (λMC hF=>?_) λ_ hj0 hF=>?_
     ·exact wl ak hF
     refine wR hF [6,11,19,20,21,29,31,253] (λy8 D3=>[(30,.v (.bool D3)),(254,.v (.int .i64 y8))]) λb bg y8 D3 _ _ aO aN bo ba hF=>?_
     refine wW ?_;refine wu aO aN ?_;refine wW ?_;refine bS hF [6,11,19,20,21,29,31,253,254] (λmi=>[(30,.v (.bool mi))]) (λmi hF=>?_) λ_ j6 hF=>?_
     ·exact wL
     refine wB ?_;refine wW ?_;refine wZ (kE [0,1,2,3,4,5,6,7,8,9,10,11,12,13,14,15,16,17,18,19,20,21,23,24,25,26,27,28,29,30,31,22,32,33,34,35,36,37] [0,0,0,0,0,0,0,0,89,90,0,0,0,0,0,0,0,0,0,0,0,0,0,0,0,0,0,0,0,0,0,4,4,0,7,3,0,0]) follows ?_;refine wH hF (λTw hF=>?_) λTw hF=>?_
     ·obtain⟨jB,g,hF⟩:=Rx g hF;obtain⟨xU,g,hF⟩:=Rx g hF;obtain⟨yt,g,hF⟩:=Rx g hF;obtain⟨V2,g,hF⟩:=Rx g hF;obtain⟨yl,g,hF⟩:=ig g hF;have c0:= @gN;have c1:= @jJ;have c2:= @zgM;have h:=Tw;exact wL
     have h:=Tw;exact wL
    refine wZ (kE [0,1,2,3,4,5,6,7,9,10,11,14,15,16,17,18,19,8,12,13,20,21,22,23,24,25,26,27,28,29,30,32,33,34,35,36,37,38,40,41,42,43,31,39,44,45,46,47,48,49,50,51,52,53,54,55,56,57,58,59,60,61,62,63,64,67,68,69,70,71,72,65,66,73,74,75,76,77,78,79,80,81,82,83,85,86,87,88,89,90,91,92,94,95,96,84,93,97,98,99,100,101,102,103,104,105,106,107,108,109,111,112,113,114,115,116,117,119,120,121,110,118,122,123,124,125,126,127] [0,0,0,0,0,0,89,90,0,57,58,0,0,0,0,0,0,4,4,4,4,3,0,0,0,0,0,0,89,90,0,0,0,0,0,0,0,0,0,57,58,0,4,4,4,0,7,3,0,0,0,0,0,0,0,89,90,0,0,0,0,0,57,58,0,0,0,0,0,0,0,4,4,4,3,0,0,0,0,0,0,0,0,0,0,0,0,0,0,0,0,0,0,0,0,4,4,4,0,7,3,0,0,0,0,0,0,0,0,0,0,0,0,0,0,0,0,0,0,0,4,4,4,0,7,3,0,0]) follows ?_;have c0:= @jJ;have c1:= @Zt;have c2:= @gN;have c3:= @zgM;have c4:= @vg;exact wL
   refine wR hF [2,3,4,6,7,11,13,15,17,19,20,21,97,98] (λfQ bV=>[(22,.v (.int .i64 bV)),(99,.v (.int .i64 fQ))]) λb bg fQ bV _ _ aO aN bo ba hF=>?_
   have c0:= @mg;exact wL
  refine wZ (kD 0 [0,0,0,0,0,0,0,89,89,90,0,0,138,0,0]) follows ?_;exact wL
 have c0:= @zkz;exact wL
def tt(a0:am)(a1:Int)(a2:List an)(a3:List an)(a4:cF):Option (Bool×Bool):=
 (s9 a0 a1 a2).bind λz1=>
 ((if(!z1.2)=Z then(
 J Z)else(
 (yM a0 a3).bind λz6=>
 J (!z6)):Option Bool).bind λx4=>
 if x4=Z then(
 J (aa,aa))else(
 (FQ a0 z1.1 a1 a2 a3 a4).bind λz8=>
 J (z8,Z)))
def zm1{a0 a1 a2 a3 a4 r}(hr:tt a0 a1 a2 a3 a4=J r):ap Tryz.prog 42 [(.sh,vE a0),(.sh,.int .i64 a1),(.sh,vH a2),(.sh,vH a3),(.sh,vL a4)] (Eo (.bO [.bool r.1,.bool r.2]) rX):=by
 apply pE [] hr zLz Tryz.Aga;intro Φ ak hF g;unfold tt at hF;refine wW ?_;refine wE hF L9 λz1 hF=>?_
 refine wK [1,2,3,5,9,12,13] ?_;refine bS hF [1,2,3,5,9,12] (λx4=>[(28,.v (.bool x4))]) (λx4 hF=>?_) λ_ hj0 hF=>?_
 ·have c0:= @zkj;exact wL
 have c0:= @KU;exact wL
def DD(a0:bZ):Option Bool:=
 ((if((a0.aC.length:Int)==0)=Z then(
 if((a0.aV.length:Int)==0)=Z then(
 J ((a0.aD.length:Int)==0))else(
 J aa))else(
 J aa):Option Bool).bind λx3=>
 J x3)
def Xe{a0 r}(hr:DD a0=J r):ap Tryz.prog 91 [(.sh,vS a0)] (Eo (.bool r) [.au]):=by
 apply pE [] hr zKm Tryz.AeX;intro Φ ak hF g;unfold DD at hF;refine wW ?_;refine wJ hF (λx3=>[(2,.v (.bool x3))]) (λx3 hF=>?_) λ_ hj0 hF=>?_
 ·exact wm ak hF
 exact wL
def Fw(a0:cn):Option Bool:=
 ((if((a0.bQ.length:Int)==0)=Z then(
 if((a0.bL.length:Int)==0)=Z then(
 if((a0.aF.length:Int)==0)=Z then(
 (DD a0.Pi).bind λz7=>
 J z7)else(
 J aa))else(
 J aa))else(
 J aa):Option Bool).bind λx3=>
 J x3)
def zh4{a0 r}(hr:Fw a0=J r):ap Tryz.prog 43 [(.sh,vM a0)] (Eo (.bool r) [.au]):=by
 apply pE [] hr zLe Tryz.Afq;intro Φ ak hF g;unfold Fw at hF;refine wW ?_;refine wJ hF (λx3=>[(2,.v (.bool x3))]) (λx3 hF=>?_) λ_ hj0 hF=>?_
 ·exact wm ak hF
 have c0:= @Xe;exact wL
def GN(a0:am)(a1:cn)(a2:Int):Option Bool:=
 ((if((a1.bQ.length:Int)==a2)=Z then(
 if((a1.bL.length:Int)==a2)=Z then(
 if((a1.aF.length:Int)==a2)=Z then(
 if((a1.Pi.aC.length:Int)==(i64.wrap ((i64.wrap (3*a2))+3)))=Z then(
 if((a1.Pi.aV.length:Int)==1)=Z then(
 if((a1.Pi.aD.length:Int)==(i64.wrap ((i64.wrap (5*a2))+2)))=Z then(
 (tD a0 a1.bQ).bind λbX=>
 if bX=Z then(
 (tD a0 a1.bL).bind λbH=>
 if bH=Z then(
 (tD a0 a1.aF).bind λeQ=>
 if eQ=Z then(
 (tD a0 a1.Pi.aC).bind λk8=>
 if k8=Z then(
 (vf a0 a1.Pi.aD).bind λfM=>
 J fM)else(
 J aa))else(
 J aa))else(
 J aa))else(
 J aa))else(
 J aa))else(
 J aa))else(
 J aa))else(
 J aa))else(
 J aa))else(
 J aa):Option Bool).bind λx3=>
 J x3)
def zlb{a0 a1 a2 r}(hr:GN a0 a1 a2=J r):ap Tryz.prog 159 [(.sh,vE a0),(.sh,vM a1),(.sh,.int .i64 a2)] (Eo (.bool r) gq):=by
 apply pE [] hr zIj Tryz.AiP;intro Φ ak hF g;unfold GN at hF;refine wW ?_;refine wJ hF (λx3=>[(6,.v (.bool x3))]) (λx3 hF=>?_) λ_ hj0 hF=>?_
 ·exact wm ak hF
 have c0:= @zjp;have c1:= @IB;exact wL
def qH(a0:Int)(a1:Int)(a2:Int)(uu:Bool)(uV:Int)(G6:Int)(Ke:Int)(KZ:Int):Option Bool:=
 if uu=Z then(
 (cP (am.mk uV G6 Ke) a1 KZ).bind λz2=>
 (d9 (am.mk uV G6 Ke) [a0,z2]).bind λz3=>
 J (z3==a2))else(
 J aa)
def DK{a0 a1 a2 uu uV G6 Ke KZ r}(hr:qH a0 a1 a2 uu uV G6 Ke KZ=J r):ap Tryz.prog 160 [(.sh,.int .i64 a0),(.sh,.int .i64 a1),(.sh,.int .i64 a2),(.io,.bx [.bool uu]),(.sh,.fp [.int .i64 uV,.int .i64 G6,.int .i64 Ke]),(.sh,.fp [.int .i64 KZ])] (Eo (.au) [.au,.au,.au,.bx [.bool r],.au,.au]):=by
 apply pE [3] hr zGJ Tryz.AhD;intro Φ ak hF g;unfold qH at hF;refine wZ (kE [0,1,2,3,4,5,6,10,7,8,9,11,12,13] [0,0,0,0,0,0,0,0,4,0,6,0,0,0]) follows ?_;have c0:= @gN;have c1:= @jJ;exact wL
def Hw(a0:Int)(a1:Int)(a2:Int)(a3:Int)(a4:Int):Option Int:=
 ((dI (σ:=Int×Int×Int) (λs4=>
 if decide (s4.2.2<=a1)=Z then(
 gd (a0≠0)<|
 gd (a0≠0)<|
 (zo (i64.wrap ((i64.wrap (((i64.wrap (a3*s4.2.2)).tmod a0)+((i64.wrap (s4.2.1*a2)).tmod a0)))-a4)) a0).bind λbX=>
 gd (a0≠0)<|
 J (.go ((i64.wrap (s4.1*bX)).tmod a0,(i64.wrap (s4.2.1*a2)).tmod a0,i64.wrap (s4.2.2+1))))else(
 J (.out s4.1))) (1,1,1):Option Int).bind λx3=>
 J x3)
def zmL{a0 a1 a2 a3 a4 r}(hr:Hw a0 a1 a2 a3 a4=J r):ap Tryz.prog 161 [(.sh,.int .i64 a0),(.sh,.int .i64 a1),(.sh,.int .i64 a2),(.sh,.int .i64 a3),(.sh,.int .i64 a4)] (Eo (.int .i64 r) rX):=by
 apply pE [] hr zEF Tryz.AcY;intro Φ ak hF g;unfold Hw at hF
 iterate 3 refine wW ?_
 refine wJ hF (λx3=>[(11,.v (.int .i64 x3))]) (λx3 hF=>?_) λ_ hj0 hF=>?_
 ·exact wl ak hF
 refine wB ?_;obtain⟨KV,xq,bg⟩:=hF;refine jI xq [0,1,2,3,4] (λs4=>[(11,.v (.int .i64 s4.1)),(12,.v (.int .i64 s4.2.1)),(13,.v (.int .i64 s4.2.2))]) λs4 _ _ bo ba hF=>?_
 have c0:= @Qn;exact wL
def Ap(a0:am)(a1:ct)(a2:Int)(a3:List an)(a4:List an)(a5:cn):Option Bool:=
 ((if((a4.length:Int) !=(a3.length:Int))=Z then(
 J Z)else(
 (GN a0 a5 (a3.length:Int)).bind λz5=>
 J (!z5)):Option Bool).bind λx3=>
 if x3=Z then(
 J aa)else(
 (qG a2 a3 a4 a5.bQ).bind λz7=>
 (mt a0 (⟨#[109,105,120,32,120]⟩:ByteArray) z7).bind λz8=>
 (vj a5.bQ).bind λz9=>
 gd ((z9.length+a5.bL.length)*8<=140737488355328/\z9.length+a5.bL.length<=4611686018427387904)<|
 (qG a2 a3 a4 (z9++a5.bL)).bind λbX=>
 (Bx a0 bX).bind λb7=>
 (pj [bX,a5.aF,a5.Pi.aC]).bind λbH=>
 (mt a0 (⟨#[109,105,120,32,101,110,100]⟩:ByteArray) bH).bind λdk=>
 ((if(!z8.2)=Z then(
 J Z)else(
 if(!b7.2.2)=Z then(
 J Z)else(
 if(!dk.2)=Z then(
 J Z)else(
 (ix a5.Pi.aV 0).bind λfF=>
 J (fF !=dk.1)))):Option Bool).bind λui=>
 if ui=Z then(
 J aa)else(
 (iR a5.Pi.aD (a3.length:Int)).bind λkr=>
 (iR kr.2 (a3.length:Int)).bind λyf=>
 (iR yf.2 (a3.length:Int)).bind λtO=>
 (rH tO.2).bind λtM=>
 (iR tM.2 (a3.length:Int)).bind λiT=>
 (iR iT.2 (a3.length:Int)).bind λnm=>
 (rH nm.2).bind λfS=>
 gd (([a0.G].length+a5.aF.length)*8<=140737488355328/\[a0.G].length+a5.aF.length<=4611686018427387904)<|
 (J ([a0.G]++a5.aF)).bind λke=>
 ((aS (σ:=(List Int)×Bool) (λf9 kY=>
 (nQ z8.1 (i64.wrap (f9+1)) a0.Q).bind λoM=>
 gd ((kY.1.length+1)*8<=140737488355328/\kY.1.length+1<=4611686018427387904)<|
 (ix a5.Pi.aC f9).bind λLE=>
 (ix a5.bQ f9).bind λLy=>
 (ix a5.bL f9).bind λEE=>
 (ix kr.1 f9).bind λww=>
 (ix yf.1 f9).bind λko=>
 (cP a0 Ly b7.1).bind λCB=>
 (cP a0 a0.G (i64.wrap (0-b7.2.1))).bind λBf=>
 (d9 a0 [CB,EE,Bf]).bind λvl=>
 (oS a0 a1 ww ko).bind λnc=>
 (qH LE vl nc kY.2 a0.P a0.Q a0.G dk.1).bind λBK=>
 (ix a5.Pi.aC (i64.wrap ((a3.length:Int)+f9))).bind λLF=>
 (ix a5.aF f9).bind λBe=>
 (ix ke f9).bind λFL=>
 (ix tO.1 f9).bind λpy=>
 (cP a0 FL ww).bind λyr=>
 (cP a0 a1.H py).bind λoA=>
 (d9 a0 [yr,oA]).bind λCL=>
 (qH LF Be CL BK a0.P a0.Q a0.G dk.1).bind λK6=>
 (ix a5.Pi.aC (i64.wrap ((i64.wrap ((i64.wrap (2*(a3.length:Int)))+1))+f9))).bind λmi=>
 (ix iT.1 f9).bind λiS=>
 (ix nm.1 f9).bind λjB=>
 (oS a0 a1 iS jB).bind λod=>
 (qH mi EE od K6 a0.P a0.Q a0.G dk.1).bind λN2=>
 J (.go (kY.1++[oM],N2))) (λkY=>(kY.1,kY.2)) (a3.length) 0 ([],Z):Option ((List Int×Bool))).bind λjb=>
 (ix a5.Pi.aC (i64.wrap (2*(a3.length:Int)))).bind λWB=>
 (ix a5.aF (i64.wrap ((a3.length:Int)-1))).bind λlI=>
 (Hw a0.Q (a3.length:Int) z8.1 b7.1 b7.2.1).bind λAag=>
 (cP a0 a0.G Aag).bind λAac=>
 (BM a0 lI Aac).bind λYL=>
 (cP a0 a1.H tM.1).bind λXS=>
 (qH WB YL XS jb.2 a0.P a0.Q a0.G dk.1).bind λUM=>
 (uB a3).bind λQb=>
 (uB a4).bind λOS=>
 (ix a5.Pi.aC (i64.wrap ((i64.wrap (3*(a3.length:Int)))+1))).bind λLN=>
 (lT a0 Qb.1 jb.1).bind λM1=>
 (cP a0 a0.G (i64.wrap (0-fS.1))).bind λAah=>
 (lT a0 OS.1 iT.1).bind λMW=>
 (d9 a0 [Aah,MW]).bind λUY=>
 (qH LN M1 UY UM a0.P a0.Q a0.G dk.1).bind λFd=>
 (ix a5.Pi.aC (i64.wrap ((i64.wrap (3*(a3.length:Int)))+2))).bind λZg=>
 (lT a0 Qb.2 jb.1).bind λZM=>
 (cP a0 a2 (i64.wrap (0-fS.1))).bind λAaj=>
 (lT a0 OS.2 iT.1).bind λYB=>
 (d9 a0 [Aaj,YB]).bind λW4=>
 (qH Zg ZM W4 Fd a0.P a0.Q a0.G dk.1).bind λEV=>
 J EV)))))
set_option maxHeartbeats 16000000 in
def zlc{a0 a1 a2 a3 a4 a5 r}(hr:Ap a0 a1 a2 a3 a4 a5=J r):ap Tryz.prog 92 [(.sh,vE a0),(.sh,vJ a1),(.sh,.int .i64 a2),(.sh,vH a3),(.sh,vH a4),(.sh,vM a5)] (Eo (.bool r) sj):=by
 apply pF 352 [] [727,738,1145,1555,1881] [33,1000000] [.tmp 12] hr zLw Tryz.Aei;intro Φ ak hF g;unfold Ap at hF
 iterate 2 (try simp[go_sem,g];try intros;refine bu ?_)
 refine bS hF [2,3,4,6,7,11,13] (λx3=>[(52,.v (.bool x3))]) (λx3 hF=>?_) λ_ hj0 hF=>?_
 ·refine wI hF (λh6 hF=>?_) λh6 hF=>?_
  ·exact wl ak hF
  refine wW ?_;refine wZ (kD 0 [50,0,0,0,89,90,3,3,0,0,0,0,0]) follows ?_;refine wE hF Ez λz7 hF=>?_
  refine wE hF wo λz8 hF=>?_
  refine wK [2,3,4,6,7,11,13,14,15] ?_;refine wZ (kE [0,1,2,3,4,6,7,5,8,9,10] [0,0,0,89,90,89,90,3,0,3,0]) follows ?_;refine wE hF NI λz9 hF=>?_
  obtain⟨g,hF⟩:=Rg g hF;refine wE hF Ez λbX hF=>?_
  refine wK [2,3,4,6,7,11,13,14,15,16] ?_;refine wE hF ZU λb7 hF=>?_
  refine wK [2,3,4,6,7,11,13,14,15,16,17,18,19] ?_;refine wZ (kE [0,1,2,3,4,5,6,7,13,8,9,10,11,12,14,15] [50,0,89,90,89,89,90,0,0,6,3,0,0,0,162,0]) follows ?_;refine wE hF EA λbH hF=>?_
  refine wE hF wo λdk hF=>?_
  refine wK [2,3,4,6,7,11,13,14,15,17,18,19,20,21] ?_;refine bS hF [2,3,4,6,7,11,13,14,17,18,20] (λui=>[(112,.v (.bool ui))]) (λui hF=>?_) λ_ hj0 hF=>?_
  ·refine wI hF (λHD hF=>?_) λHD hF=>?_
   ·exact wl ak hF
   refine wW ?_;refine wZ (kD 0 [89,89,90,89,89,90,0,0,0,961]) follows ?_;refine wK [2,3,4,6,7,11,13,14,17,18,20,22,23,120] ?_;refine wC hF [.io,.sh] mC λkr hF=>?_
   refine wC hF [.io,.sh] mC λyf hF=>?_
   refine wC hF [.io,.sh] mC λtO hF=>?_
   refine wK [2,3,4,6,7,11,13,14,17,18,20,22,23,24,25,26,120] ?_;refine wC hF [.io] zX λtM hF=>?_
   refine wW ?_;refine wC hF [.io,.sh] mC λiT hF=>?_
   refine wC hF [.io,.sh] mC λnm hF=>?_
   refine wK [2,3,4,6,7,11,13,14,17,18,20,22,23,24,25,26,27,28,29,120] ?_;refine wC hF [.io] zX λfS hF=>?_
   obtain⟨g,hF⟩:=Rg g hF;obtain⟨ke,Su,hF⟩:=mJ hF;have g:=And.intro g (show[.int .i64 a0.G]::(List.map aJ a5.aF)=ke.map aJ by injection Su with Su;rw[<-Su];simp[go_sem]);refine wW ?_;refine wK [2,3,4,6,7,11,13,14,17,18,20,22,24,25,26,27,28,29,30,31] ?_
   iterate 3 refine wW ?_
   refine bS hF [2,3,4,6,7,11,13,14,17,18,22,27,28,30,34] (λjb=>[(32,.v (vD jb.1)),(33,.v (.bx [.bool jb.2]))]) (λjb hF=>?_) λ_ hj0 hF=>?_
   ·refine wZ (kE [0,1,2,3,4,5,6,7,8,9,10,11,12,13,14,15,16,17,18,19,20,21,25,26,27,28,22,23,24,29,30] [0,0,0,0,0,0,0,89,90,0,0,0,0,0,0,0,0,0,0,0,0,0,0,57,58,0,4,4,4,4,3]) follows ?_;obtain⟨WB,g,hF⟩:=Rx g hF;obtain⟨lI,g,hF⟩:=Rx g hF;refine wD hF zmL λAag hF=>?_
    refine wD hF gN λAac hF=>?_
    refine wD hF Zt λYL hF=>?_
    refine wD hF gN λXS hF=>?_
    refine wY hF [.sh,.sh,.sh] DK λUM hF=>?_
    refine wK [2,3,4,6,13,22,28,30,32,33,34] ?_;refine wE hF Dw λQb hF=>?_
    refine wW ?_;refine wE hF Dw λOS hF=>?_
    refine wK [2,6,13,22,28,30,32,33,34,36,37,38,39] ?_;refine wZ (kE [0,1,2,3,4,5,6,7,8,9,11,12,13,14,15,16,18,19,20,10,17,21,22,23,24] [0,0,0,0,0,0,0,0,0,0,0,0,0,0,0,0,0,0,0,4,4,4,0,7,3]) follows ?_;obtain⟨LN,g,hF⟩:=Rx g hF;refine wD hF vg λM1 hF=>?_
    refine wD hF gN λAah hF=>?_
    refine wD hF vg λMW hF=>?_
    refine wD hF jJ λUY hF=>?_
    refine wY hF [.sh,.sh,.sh] DK λFd hF=>?_
    refine wK [2,6,13,22,28,30,32,33,34,37,39] ?_;refine wZ (kE [0,1,2,3,4,5,6,7,8,9,11,12,13,14,15,17,18,19,10,16,20,21,22,23] [0,0,0,0,0,0,0,0,0,0,0,0,0,0,0,0,0,0,4,4,4,0,7,3]) follows ?_;obtain⟨Zg,g,hF⟩:=Rx g hF;refine wD hF vg λZM hF=>?_
    refine wD hF gN λAaj hF=>?_
    refine wD hF vg λYB hF=>?_
    refine wD hF jJ λW4 hF=>?_
    refine wY hF [.sh,.sh,.sh] DK λEV hF=>?_
    exact wL
   refine wR hF [2,3,4,6,7,11,13,14,17,18,22,24,25,26,27,28,29,30,31,34,148] (λf9 kY=>[(32,.v (vD kY.1)),(33,.v (.bx [.bool kY.2])),(149,.v (.int .i64 f9))]) λb bg f9 kY _ _ aO aN bo ba hF=>?_
   refine wW ?_;refine wu aO aN ?_;refine wW ?_;refine wB ?_;refine wK [2,3,4,6,7,11,13,14,17,18,22,24,25,26,27,28,29,30,31,32,33,34,35,148,149] ?_;refine wE hF D9 λoM hF=>?_
   obtain⟨g,hF⟩:=Rg g hF;refine wK [2,3,4,6,7,11,13,14,17,18,22,24,25,26,27,28,29,30,31,32,33,34,35,148,149] ?_;refine wZ (kE [0,1,2,3,4,5,6,7,8,9,10,11,12,14,15,16,17,18,19,20,21,22,23,27,28,29,30,31,32,33,34,35,36,13,24,25,26,37,38] [0,0,0,0,0,0,0,89,90,0,0,0,0,89,90,0,0,0,0,0,0,0,0,0,58,0,0,0,0,0,0,0,0,4,4,0,7,4,3]) follows ?_;obtain⟨LE,g,hF⟩:=Rx g hF;obtain⟨Ly,g,hF⟩:=Rx g hF;obtain⟨EE,g,hF⟩:=Rx g hF;obtain⟨ww,g,hF⟩:=Rx g hF;obtain⟨ko,g,hF⟩:=Rx g hF;refine wD hF gN λCB hF=>?_
   refine wD hF gN λBf hF=>?_
   refine wD hF jJ λvl hF=>?_
   refine wD hF Bs λnc hF=>?_
   refine wY hF [.sh,.sh,.sh] DK λBK hF=>?_
   refine wK [2,3,4,6,7,11,13,14,17,18,22,24,25,26,27,28,29,30,31,32,33,34,35,148,149] ?_;refine wZ (kE [0,1,2,3,4,5,6,7,8,9,10,11,12,13,14,15,16,17,18,19,20,21,23,24,25,26,27,28,29,22,30,31,32,33] [0,0,0,0,0,0,0,89,90,0,0,0,0,0,0,0,0,0,0,0,0,0,0,57,58,0,0,0,0,4,4,0,7,3]) follows ?_;obtain⟨LF,g,hF⟩:=Rx g hF;obtain⟨Be,g,hF⟩:=Rx g hF;obtain⟨FL,g,hF⟩:=Rx g hF;obtain⟨py,g,hF⟩:=Rx g hF;refine wD hF gN λyr hF=>?_
   refine wD hF gN λoA hF=>?_
   refine wD hF jJ λCL hF=>?_
   refine wY hF [.sh,.sh,.sh] DK λK6 hF=>?_
   refine wK [2,3,4,6,7,11,13,14,17,18,22,24,25,26,27,28,29,30,31,32,33,34,35,148,149] ?_;refine wZ (kD 0 [0,0,0,0,0,0,0,0,0,89,90,0,0,0,0,58,0,0,0,0,0,0,0,0,4,3]) follows ?_;obtain⟨mi,g,hF⟩:=Rx g hF;obtain⟨iS,g,hF⟩:=Rx g hF;obtain⟨jB,g,hF⟩:=Rx g hF;refine wD hF Bs λod hF=>?_
   refine wY hF [.sh,.sh,.sh] DK λN2 hF=>?_
   exact wL
  refine wZ (kD 0 [0,0,0,0,0,0,0,0,0,0,0,89,89,90,0,0,162,0,0]) follows ?_;exact wL
 have c0:= @zlb;exact wL
def tU(a0:am)(a1:Int)(a2:List an)(a3:List an)(a4:cn):Option (Bool×Bool):=
 (yu a0 a1 a2).bind λz1=>
 ((if(!z1.2)=Z then(
 J Z)else(
 (yM a0 a3).bind λz6=>
 J (!z6)):Option Bool).bind λx4=>
 if x4=Z then(
 J (aa,aa))else(
 (Ap a0 z1.1 a1 a2 a3 a4).bind λz8=>
 J (z8,Z)))
def zoB{a0 a1 a2 a3 a4 r}(hr:tU a0 a1 a2 a3 a4=J r):ap Tryz.prog 44 [(.sh,vE a0),(.sh,.int .i64 a1),(.sh,vH a2),(.sh,vH a3),(.sh,vM a4)] (Eo (.bO [.bool r.1,.bool r.2]) rX):=by
 apply pE [] hr zML Tryz.Aek;intro Φ ak hF g;unfold tU at hF;refine wW ?_;refine wE hF Q3 λz1 hF=>?_
 refine wK [1,2,3,5,9,12,13] ?_;refine bS hF [1,2,3,5,9,12] (λx4=>[(28,.v (.bool x4))]) (λx4 hF=>?_) λ_ hj0 hF=>?_
 ·have c0:= @zlc;exact wL
 have c0:= @KU;exact wL
def Fx(a0:cF):Option Bool:=
 ((if((a0.cu.length:Int)==0)=Z then(
 if((a0.aF.length:Int)==0)=Z then(
 (DD a0.Pi).bind λz6=>
 J z6)else(
 J aa))else(
 J aa):Option Bool).bind λx3=>
 J x3)
def Vv{a0 r}(hr:Fx a0=J r):ap Tryz.prog 45 [(.sh,vL a0)] (Eo (.bool r) [.au]):=by
 apply pE [] hr zNr Tryz.AeH;intro Φ ak hF g;unfold Fx at hF;refine wW ?_;refine wJ hF (λx3=>[(2,.v (.bool x3))]) (λx3 hF=>?_) λ_ hj0 hF=>?_
 ·exact wm ak hF
 have c0:= @Xe;exact wL
def ta(a0:am)(a1:Int)(a2:List an)(a3:ec):Option (Bool×Bool):=
 (yu a0 a1 a2).bind λz1=>
 if(!z1.2)=Z then(
 J (aa,aa))else(
 (yM a0 a3.Out).bind λz3=>
 if(!z3)=Z then(
 J (aa,Z))else(
 if(a3.dD==1)=Z then(
 (tt a0 a1 a2 a3.Out a3.br).bind λz6=>
 ((if z6.2=Z then(
 if z6.1=Z then(
 (Fw a3.Poly).bind λbH=>
 J bH)else(
 J aa))else(
 J aa):Option Bool).bind λx9=>
 J (x9,Z)))else(
 if(a3.dD==2)=Z then(
 (tU a0 a1 a2 a3.Out a3.Poly).bind λeQ=>
 ((if eQ.2=Z then(
 if eQ.1=Z then(
 (Fx a3.br).bind λoi=>
 J oi)else(
 J aa))else(
 J aa):Option Bool).bind λbG=>
 J (bG,Z)))else(
 J (aa,Z)))))
def Xj{a0 a1 a2 a3 r}(hr:ta a0 a1 a2 a3=J r):ap Tryz.prog 10 [(.sh,vE a0),(.sh,.int .i64 a1),(.sh,vH a2),(.sh,vN a3)] (Eo (.bO [.bool r.1,.bool r.2]) ky):=by
 apply pE [] hr zL4 Tryz.Ado;intro Φ ak hF g;unfold ta at hF;refine wW ?_;refine wE hF Q3 λz1 hF=>?_
 refine wK [1,2,4,7,11] ?_;refine wW ?_;refine wI hF (λh2 hF=>?_) λh2 hF=>?_
 ·exact wl ak hF
 refine wW ?_;refine wE hF KU λz3 hF=>?_
 refine wW ?_;refine wI hF (λh4 hF=>?_) λh4 hF=>?_
 ·exact wl ak hF
 iterate 2 refine wW ?_
 refine wB ?_;refine wK [1,2,4,7,31,32] ?_;refine wI hF (λh5 hF=>?_) λh5 hF=>?_
 ·refine wE hF zm1 λz6 hF=>?_
  refine wK [7,12,13] ?_;refine wJ hF (λx9=>[(8,.v (.bool x9)),(9,.v (.bool Z))]) (λx9 hF=>?_) λ_ hj0 hF=>?_
  ·exact wm ak hF
  have c0:= @zh4;exact wL
 refine wW ?_;refine wI hF (λGQ hF=>?_) λGQ hF=>?_
 ·refine wE hF zoB λeQ hF=>?_
  refine wK [7,14,15] ?_;refine wJ hF (λbG=>[(8,.v (.bool bG)),(9,.v (.bool Z))]) (λbG hF=>?_) λ_ hj0 hF=>?_
  ·exact wm ak hF
  have c0:= @Vv;exact wL
 exact wL
def yU(a0:List Int):Option Bool:=
 ((if decide ((a0.length:Int)<=400)=Z then(
 (DR a0).bind λz5=>
 J z5)else(
 J aa):Option Bool).bind λx3=>
 J x3)
def LQ{a0 r}(hr:yU a0=J r):ap Tryz.prog 97 [(.sh,vC a0)] (Eo (.bool r) [.au]):=by
 apply pE [] hr zLB Tryz.AfS;intro Φ ak hF g;unfold yU at hF;refine wW ?_;refine wJ hF (λx3=>[(2,.v (.bool x3))]) (λx3 hF=>?_) λ_ hj0 hF=>?_
 ·exact wm ak hF
 have c0:= @WU;exact wL
def zV(a0:List Int):Option (List Int×Bool):=
 (yU a0).bind λz1=>
 if(!z1)=Z then(
 J ([],aa))else(
 J (a0,Z))
def Tg{a0 r}(hr:zV a0=J r):ap Tryz.prog 93 [(.sh,vC a0)] (Eo (.bO [vC r.1,.bool r.2]) [.au]):=by
 apply pF 8 [] [2] [] [.tmp 2,.tmp 3] hr zKs Tryz.Af5;intro Φ ak hF g;unfold zV at hF;have c0:= @LQ;exact wL
def F5(a0:List an):Option (List Int×Bool):=
 ((aS (σ:=(List Int)) (λi5 s4=>
 (ix a0 i5).bind λaU=>
 gd ((s4.length+2)*8<=140737488355328/\s4.length+2<=4611686018427387904)<|
 J (.go (s4++[aU.A,aU.B]))) (λs4=>s4) (a0.length) 0 [(a0.length:Int)]:Option ((List Int))).bind λx3=>
 (zV x3).bind λk8=>
 J (k8.1,k8.2))
def WL{a0 r}(hr:F5 a0=J r):ap Tryz.prog 46 [(.sh,vH a0)] (Eo (.bO [vC r.1,.bool r.2]) [.au]):=by
 apply pF 28 [] [24] [] [.tmp 2,.tmp 3] hr zNn Tryz.Ae6;intro Φ ak hF g;unfold F5 at hF
 iterate 3 (try simp[go_sem,g];try intros;refine bu ?_)
 refine wJ hF (λx3=>[(4,.v (vD x3))]) (λx3 hF=>?_) λ_ hj0 hF=>?_
 ·have c0:= @Tg;exact wL
 refine wR hF [10,11] (λi5 s4=>[(4,.v (vD s4)),(12,.v (.int .i64 i5))]) λb bg i5 s4 _ _ aO aN bo ba hF=>?_
 exact wL
def xT(a0:List Int):Option ((List Int)):=
 gd (([(a0.length:Int)].length+a0.length)*8<=140737488355328/\[(a0.length:Int)].length+a0.length<=4611686018427387904)<|
 J ([(a0.length:Int)]++a0)
def zlY{a0 r}(hr:xT a0=J r):ap Tryz.prog 95 [(.sh,vC a0)] (Eo (vD r) [.au]):=by
 apply pE [] hr zLA Tryz.Ac3;intro Φ ak hF g;unfold xT at hF;exact wL
def IG(a0:bZ):Option (List Int×Bool):=
 (xT a0.aC).bind λz1=>
 (xT a0.aV).bind λz2=>
 (xT a0.aD).bind λz3=>
 (pj [z1,z2,z3]).bind λz4=>
 (zV z4).bind λz5=>
 J (z5.1,z5.2)
def znu{a0 r}(hr:IG a0=J r):ap Tryz.prog 47 [(.sh,vS a0)] (Eo (.bO [vC r.1,.bool r.2]) [.au]):=by
 apply pF 18 [] [14] [] [.tmp 2,.tmp 3] hr zKA Tryz.AcE;intro Φ ak hF g;unfold IG at hF;refine wW ?_;refine wZ (kE [0,1,3,4,6,7,2,5,8,9,10,11,12,13,14,15] [9,10,9,10,9,10,3,3,3,0,6,3,0,0,0,0]) follows ?_;have c0:= @zlY;have c1:= @EA;have c2:= @Tg;exact wL
def WK:L3 Tryz.prog 96 49:=by
 intro n H e b es cz z e1 e2 h0 h1 h2 h3 h4 h5;refine PB zNf Tryz.AhF rfl rfl (by simp[Tryz.VJ]) λhw=>?_
 have hn:¬n<0:=by omega
 have hw1:i64.wrap n=n:=EW (by omega);have sV:i64.wrap 0=0:=EW (by omega);have ei:(jG Tryz.prog 3).isSome=Z:=by kernel_rfl
 by_cases hp:0<n
 ·have hne:n≠0:=by omega
  have xb:=h5;simp[cq]at xb;simp[Tryz.VJ,fa,nj,aM,fq,dA,gp,ck,bh,eD,bB,Dz,FR.put,FR.init,be,bM,cW,jW,cq,Am.iH,nK,nW,vq,xe,Gg,pP,sy,yi,hn,e1,e2,ei,hw1,sV,hp,h1,h2,h3,h4,hne]
  first|exact xb|exact .inl xb
 have hz:n=0:=by omega
 subst hz;simp[Tryz.VJ,fa,nj,aM,fq,dA,gp,ck,bh,eD,bB,Dz,FR.put,FR.init,be,bM,cW,jW,cq,Am.iH,nK,nW,vq,xe,Gg,pP,sy,yi,hn,e1,e2,hw1,sV,hp]
def Wm(a0:(List (List (List Int)))):Option ((List (List Int))):=
 ((aS (σ:=Int) (λi5 s4=>
 (ix a0 i5).bind λaU=>
 if decide ((i64.wrap (s4+(aU.length:Int)))<0)=Z then(
 ae)else(
 J (.go (i64.wrap (s4+(aU.length:Int)))))) (λs4=>s4) (a0.length) 0 0:Option Int).bind λx3=>
 gd (0<=x3/\24*x3<=140737488355328/\x3<=4611686018427387904)<|
 ((aS (σ:=(List (List Int))) (λfQ bV=>
 (ix a0 fQ).bind λiv=>
 gd ((bV.length+iv.length)*24<=140737488355328/\bV.length+iv.length<=4611686018427387904)<|
 J (.go (bV++iv))) (λbV=>bV) (a0.length) 0 []:Option ((List (List Int)))).bind λfF=>
 J fF))
def ztf{a0 r}(hr:Wm a0=J r):ap Tryz.prog 49 [(.sh,vU a0)] (Eo (vT r) [.au]):=by
 apply pE [] hr Ws Tryz.Abu;intro Φ ak hF g;unfold Wm at hF
 iterate 3 (try simp[go_sem,g];try intros;refine bu ?_)
 refine wJ hF (λx3=>[(0,.v (vU a0)),(3,.v (.int .i64 x3))]) (λx3 hF=>?_) λ_ hj0 hF=>?_
 ·obtain⟨GM,hF⟩:=mU hF;try simp[go_sem,g]
  refine Ts WK ZJ (by simp[go_sem,g]) GM ?_;try simp[go_sem,g]
  try intros
  refine bu ?_;try simp[go_sem,g]
  try intros
  refine wK [6,25,26,27] ?_;refine wJ hF (λfF=>[(6,.v (vT fF))]) (λfF hF=>?_) λ_ hj0 hF=>?_
  ·exact wl ak hF
  refine wR hF [25,26] (λfQ bV=>[(6,.v (vT bV)),(27,.v (.int .i64 fQ))]) λb bg fQ bV _ _ aO aN bo ba hF=>?_
  exact wL
 refine wR hF [0,9,10] (λi5 s4=>[(3,.v (.int .i64 s4)),(11,.v (.int .i64 i5))]) λb bg i5 s4 _ _ aO aN bo ba hF=>?_
 exact wL
def EL(a0:(List (List (List Int)))):Option ((List (List Int))):=
 ((aS (σ:=Int) (λi5 s4=>
 (ix a0 i5).bind λaU=>
 if decide ((i64.wrap (s4+(aU.length:Int)))<0)=Z then(
 ae)else(
 J (.go (i64.wrap (s4+(aU.length:Int)))))) (λs4=>s4) (a0.length) 0 0:Option Int).bind λx3=>
 gd (0<=x3/\24*x3<=140737488355328/\x3<=4611686018427387904)<|
 ((aS (σ:=(List (List Int))) (λfQ bV=>
 (ix a0 fQ).bind λiv=>
 gd ((bV.length+iv.length)*24<=140737488355328/\bV.length+iv.length<=4611686018427387904)<|
 J (.go (bV++iv))) (λbV=>bV) (a0.length) 0 []:Option ((List (List Int)))).bind λfF=>
 J fF))
def zjI{a0 r}(hr:EL a0=J r):ap Tryz.prog 49 [(.mv,vV a0)] (Eo (vT r) [.au]):=by
 apply pF 36 [] [77,80] [] [.tmp 2] hr Ws Tryz.Abu;intro Φ ak hF g;unfold EL at hF
 iterate 3 (try simp[go_sem,g];try intros;refine bu ?_)
 refine wJ hF (λx3=>[(0,.v (vV a0)),(3,.v (.int .i64 x3))]) (λx3 hF=>?_) λ_ hj0 hF=>?_
 ·obtain⟨GM,hF⟩:=mU hF;try simp[go_sem,g]
  refine Ts WK ZJ (by simp[go_sem,g]) GM ?_;try simp[go_sem,g]
  try intros
  refine bu ?_;try simp[go_sem,g]
  try intros
  refine wK [0,6,25,26,27] ?_;refine wJ hF (λfF=>[(6,.v (vT fF))]) (λfF hF=>?_) λ_ hj0 hF=>?_
  ·exact wl ak hF
  refine wR hF [0,25,26] (λfQ bV=>[(6,.v (vT bV)),(27,.v (.int .i64 fQ))]) λb bg fQ bV _ _ aO aN bo ba hF=>?_
  exact wL
 refine wR hF [0,9,10] (λi5 s4=>[(3,.v (.int .i64 s4)),(11,.v (.int .i64 i5))]) λb bg i5 s4 _ _ aO aN bo ba hF=>?_
 exact wL
def zp(a0:(List (List Int))):Option (List Int×Bool):=
 ((aS (σ:=(List Int)) (λi5 s4=>
 (ix a0 i5).bind λaU=>
 (xT aU).bind λbH=>
 gd ((s4.length+bH.length)*8<=140737488355328/\s4.length+bH.length<=4611686018427387904)<|
 if decide (400<((s4++bH).length:Int))=Z then(
 J (.out (.inr ([],aa))))else(
 J (.go (s4++bH)))) (λs4=>.inl s4) (a0.length) 0 [(a0.length:Int)]:Option ((List Int) ⊕ (List Int×Bool))).bind (Sum.elim (λx3=>
 (zV x3).bind λfM=>
 J (fM.1,fM.2)) J))
def Xr{a0 r}(hr:zp a0=J r):ap Tryz.prog 48 [(.sh,vK a0)] (Eo (.bO [vC r.1,.bool r.2]) [.au]):=by
 apply pF 28 [] [2,24] [] [.tmp 2,.tmp 3] hr zJY Tryz.Aic;intro Φ ak hF g;unfold zp at hF
 iterate 3 (try simp[go_sem,g];try intros;refine bu ?_)
 refine wS hF (λx3=>[(4,.v (vD x3))]) (λx3 hF=>?_) λ_ hj0 dB hF=>?_
 ·have c0:= @Tg;exact wL
 refine wR hF [10,11] (λi5 s4=>[(4,.v (vD s4)),(12,.v (.int .i64 i5))]) λb bg i5 s4 _ _ aO aN bo ba hF=>?_
 have c0:= @zlY;exact wL
def C4(a0:ec):Option (List Int×Bool):=
 (F5 a0.Out).bind λz1=>
 (Fw a0.Poly).bind λz2=>
 ((if(a0.dD==2)=Z then(
 (Fx a0.br).bind λz7=>
 J ([a0.Poly.bQ,a0.Poly.bL,a0.Poly.aF],a0.Poly.Pi.aC,a0.Poly.Pi.aV,a0.Poly.Pi.aD,z7))else(
 J ([a0.br.cu,a0.br.aF],a0.br.Pi.aC,a0.br.Pi.aV,a0.br.Pi.aD,z2)):Option (((List (List Int))×List Int×List Int×List Int×Bool))).bind λx5=>
 (IG (bZ.mk x5.2.1 x5.2.2.1 x5.2.2.2.1)).bind λz8=>
 (((Fv a0.dD).bind λbH=>
 if(!bH)=Z then(
 J Z)else(
 if(!z1.2)=Z then(
 J Z)else(
 if(!z8.2)=Z then(
 J Z)else(
 J (!x5.2.2.2.2)))):Option Bool).bind λaU=>
 if aU=Z then(
 J ([],aa))else(
 (EL [[[a0.dD],z1.1],x5.1,[z8.1]]).bind λgX=>
 (zp gX).bind λfM=>
 J (fM.1,fM.2))))
def P9{a0 r}(hr:C4 a0=J r):ap Tryz.prog 11 [(.sh,vN a0)] (Eo (.bO [vC r.1,.bool r.2]) [.au]):=by
 apply pF 83 [] [2,79,323] [] [.tmp 2,.tmp 3] hr zLV Tryz.Aez;intro Φ ak hF g;unfold C4 at hF;refine wW ?_;refine wE hF WL λz1 hF=>?_
 refine wK [1,4,5] ?_;refine wZ (kE [0,1,2,3,4,5,6,7,8,9,10,11,13,12,14,15,16] [9,9,10,9,9,10,0,9,9,10,9,10,0,3,7,58,0]) follows ?_;refine wE hF zh4 λz2 hF=>?_
 refine wK [1,4,5,6,7,8] ?_;refine wW ?_;refine bS hF [1,4,5] (λx5=>[(6,.v (vT x5.1)),(7,.bl [vC x5.2.1,vC x5.2.2.1,vC x5.2.2.2.1]),(8,.v (.bool x5.2.2.2.2))]) (λx5 hF=>?_) λ_ hj0 hF=>?_
 ·refine wE hF znu λz8 hF=>?_
  refine wK [1,4,5,6,8,9,10] ?_;refine bS hF [1,4,6,9] (λaU=>[(69,.v (.bool aU))]) (λaU hF=>?_) λ_ hj0 hF=>?_
  ·refine wI hF (λBi hF=>?_) λBi hF=>?_
   ·exact wl ak hF
   refine wW ?_;refine wC hF [.mv] zjI λgX hF=>?_
   refine wE hF Xr λfM hF=>?_
   refine wK [2,3] ?_;exact wm ak hF
  have c0:= @WQ;exact wL
 refine wI hF (λh6 hF=>?_) λh6 hF=>?_
 ·refine wZ (kD 0 [9,9,10,9,9,10,9,9,10,0,9,9,10,9,10,3,7,58,0]) follows ?_;have c0:= @Vv;exact wL
 exact wT (hj0 _) (eX hF)
def uw(aL:List Int)(aW:Bool):Option (Int×(List Int×Bool)):=
 if((aL.length:Int)==0)=Z then(
 J (0,(aL,aa)))else(
 (ix aL 0).bind λx2=>
 gd (1<=aL.length/\aL.length<=aL.length)<|
 J (x2,((aL.take aL.length).drop 1,aW)))
def Lv{aL aW r}(hr:uw aL aW=J r):ap Tryz.prog 98 [(.io,vW aL aW)] (Eo (.int .i64 r.1) [vW r.2.1 r.2.2]):=by
 apply pE [0] hr zMz Tryz.AcR;intro Φ ak hF g;unfold uw at hF;exact wL
def tA(aL:List Int)(aW:Bool):Option (List Int×(List Int×Bool)):=
 (uw aL aW).bind λz1=>
 (pK z1.1 0 (z1.2.1.length:Int)).bind λz2=>
 if(!z2)=Z then(
 J ([],(z1.2.1,aa)))else(
 gd (0<=z1.1)<|
 gd (0<=z1.1.toNat/\z1.1.toNat<=z1.2.1.length)<|
 (vj ((z1.2.1.take z1.1.toNat).drop 0)).bind λz4=>
 gd (0<=z1.1)<|
 gd (z1.1.toNat<=z1.2.1.length/\z1.2.1.length<=z1.2.1.length)<|
 J (z4,((z1.2.1.take z1.2.1.length).drop z1.1.toNat,z1.2.2)))
def Xm{aL aW r}(hr:tA aL aW=J r):ap Tryz.prog 99 [(.io,vW aL aW)] (Eo (vD r.1) [vW r.2.1 r.2.2]):=by
 apply pE [0] hr zLC Tryz.AcP;intro Φ ak hF g;unfold tA at hF;have AQ:= @Lv;have c0:= @yE;have c1:= @NI;exact wL
def AO(aL:List Int)(aW:Bool):Option Bool:=
 ((if aW=Z then(
 J ((aL.length:Int)==0))else(
 J aa):Option Bool).bind λx3=>
 J x3)
def Qs{aL aW r}(hr:AO aL aW=J r):ap Tryz.prog 100 [(.sh,.fp [vC aL,.bool aW])] (Eo (.bool r) [.au]):=by
 apply pE [] hr zE2 Tryz.Af8;intro Φ ak hF g;unfold AO at hF;refine wW ?_;refine wJ hF (λx3=>[(2,.v (.bool x3))]) (λx3 hF=>?_) λ_ hj0 hF=>?_
 ·exact wm ak hF
 exact wL
def Bd(a0:List Int)(a1:List Int):Option Bool:=
 if((a0.length:Int) !=(a1.length:Int))=Z then(
 J aa)else(
 ((aS (σ:=Unit) (λi6 s5=>
 (ix a0 i6).bind λdf=>
 (ix a1 i6).bind λg8=>
 if(df !=g8)=Z then(
 J (.out (.inr aa)))else(
 J (.go ()))) (λs5=>.inl ()) (a0.length) 0 ():Option (Unit ⊕ Bool)).bind (Sum.elim (λx4=>
 J Z) J)))
def Th{a0 a1 r}(hr:Bd a0 a1=J r):ap Tryz.prog 53 [(.sh,vC a0),(.sh,vC a1)] (Eo (.bool r) cI):=by
 apply pE [] hr zLq Tryz.Ae0;intro Φ ak hF g;unfold Bd at hF
 iterate 2 (try simp[go_sem,g];try intros;refine bu ?_)
 refine wI hF (λh1 hF=>?_) λh1 hF=>?_
 ·exact wl ak hF
 iterate 2 (try simp[go_sem,g];try intros;refine bu ?_)
 refine wS hF (λx4=>[]) (λx4 hF=>?_) λ_ hj0 dB hF=>?_
 ·exact wL
 refine wR hF [0,1,12] (λi6 s5=>[(13,.v (.int .i64 i6))]) λb bg i6 s5 _ _ aO aN bo ba hF=>?_
 refine wK [0,1,12,13,14] ?_;refine wu aO aN ?_;refine wW ?_;refine wB ?_;refine wW ?_;refine wZ (kD 0 [0,0,0,0,0,0,0,0,0]) follows ?_;exact wL
def yY(a0:List Int):Option ((List (List Int))×Bool):=
 (yU a0).bind λz1=>
 (uw a0 z1).bind λz2=>
 ((dI (σ:=(List Int×Bool)×(List (List Int))×Int) (λdw=>
 if decide (dw.2.2<(if(a0.length:Int)<z2.1 then(a0.length:Int)else z2.1))=Z then(
 (tA dw.1.1 dw.1.2).bind λiT=>
 gd ((dw.2.1.length+1)*24<=140737488355328/\dw.2.1.length+1<=4611686018427387904)<|
 J (.go ((iT.2.1,iT.2.2),dw.2.1++[iT.1],i64.wrap (dw.2.2+1))))else(
 J (.out ((dw.1.1,dw.1.2),dw.2.1)))) ((z2.2.1,z2.2.2),[],0):Option (((List Int×Bool)×(List (List Int))))).bind λx5=>
 (zp x5.2).bind λnM=>
 (((AO x5.1.1 x5.1.2).bind λiJ=>
 if(!iJ)=Z then(
 J Z)else(
 if(!nM.2)=Z then(
 J Z)else(
 (Bd nM.1 a0).bind λv4=>
 J (!v4))):Option Bool).bind λoG=>
 if oG=Z then(
 J ([],aa))else(
 J (x5.2,Z))))
def zm4{a0 r}(hr:yY a0=J r):ap Tryz.prog 50 [(.sh,vC a0)] (Eo (.bO [vK r.1,.bool r.2]) [.au]):=by
 apply pF 46 [] [2,28] [12] [.tmp 2,.tmp 3] hr zMY Tryz.Ait;intro Φ ak hF g;unfold yY at hF;refine wW ?_;refine wE hF LQ λz1 hF=>?_
 refine wK [0,4,5] ?_;refine wC hF [.io] Lv λz2 hF=>?_
 try simp[go_sem,g]
 try intros
 refine bu ?_;refine wJ hF (λx5=>[(0,.v (vC a0)),(4,.v (vW x5.1.1 x5.1.2)),(5,.v (vX x5.2))]) (λx5 hF=>?_) λ_ hj0 hF=>?_
 ·refine wE hF Xr λnM hF=>?_
  refine wK [0,4,5,6,7] ?_;refine wJ hF (λoG=>[(5,.v (vK x5.2)),(44,.v (.bool oG))]) (λoG hF=>?_) λ_ hj0 hF=>?_
  ·exact wL
  have c0:= @Qs;have c1:= @Th;exact wL
 refine wB ?_;obtain⟨b27,Tu,bg⟩:=hF;refine jI Tu [0,18] (λdw=>[(4,.v (vW dw.1.1 dw.1.2)),(5,.v (vX dw.2.1)),(19,.v (.int .i64 dw.2.2))]) λdw _ _ bo ba hF=>?_
 have AQ:= @Xm;exact wL
def HK(a0:List Int):Option (List an×Bool):=
 (yU a0).bind λz1=>
 (uw a0 z1).bind λz2=>
 ((dI (σ:=(List Int×Bool)×List an×Int) (λeZ=>
 if decide (eZ.2.2<(if(a0.length:Int)<z2.1 then(a0.length:Int)else z2.1))=Z then(
 (uw eZ.1.1 eZ.1.2).bind λoi=>
 (uw oi.2.1 oi.2.2).bind λyT=>
 gd ((eZ.2.1.length+1)*16<=140737488355328/\eZ.2.1.length+1<=4611686018427387904)<|
 J (.go ((yT.2.1,yT.2.2),eZ.2.1++[(an.mk oi.1 yT.1)],i64.wrap (eZ.2.2+1))))else(
 J (.out ((eZ.1.1,eZ.1.2),eZ.2.1)))) ((z2.2.1,z2.2.2),[],0):Option (((List Int×Bool)×List an))).bind λx5=>
 (F5 x5.2).bind λtO=>
 (((AO x5.1.1 x5.1.2).bind λfS=>
 if(!fS)=Z then(
 J Z)else(
 if(!tO.2)=Z then(
 J Z)else(
 (Bd tO.1 a0).bind λgw=>
 J (!gw))):Option Bool).bind λfO=>
 if fO=Z then(
 J ([],aa))else(
 J (x5.2,Z))))
def zmu{a0 r}(hr:HK a0=J r):ap Tryz.prog 51 [(.sh,vC a0)] (Eo (.bO [vH r.1,.bool r.2]) [.au]):=by
 apply pF 49 [] [2,31] [12] [.tmp 2,.tmp 3] hr zLM Tryz.Af6;intro Φ ak hF g;unfold HK at hF;refine wW ?_;refine wE hF LQ λz1 hF=>?_
 refine wK [0,4,5] ?_;refine wC hF [.io] Lv λz2 hF=>?_
 try simp[go_sem,g]
 try intros
 refine bu ?_;refine wJ hF (λx5=>[(0,.v (vC a0)),(4,.v (vW x5.1.1 x5.1.2)),(5,.v (vG x5.2))]) (λx5 hF=>?_) λ_ hj0 hF=>?_
 ·refine wE hF WL λtO hF=>?_
  refine wK [0,4,5,6,7] ?_;refine wJ hF (λfO=>[(5,.v (vH x5.2)),(47,.v (.bool fO))]) (λfO hF=>?_) λ_ hj0 hF=>?_
  ·exact wL
  have c0:= @Qs;have c1:= @Th;exact wL
 refine wB ?_;obtain⟨b22,AaX,bg⟩:=hF;refine jI AaX [0,18] (λeZ=>[(4,.v (vW eZ.1.1 eZ.1.2)),(5,.v (vG eZ.2.1)),(19,.v (.int .i64 eZ.2.2))]) λeZ _ _ bo ba hF=>?_
 have AQ:= @Lv;exact wL
def Jg(a0:List Int):Option (bZ×Bool):=
 (yU a0).bind λz1=>
 (tA a0 z1).bind λz2=>
 (tA z2.2.1 z2.2.2).bind λz3=>
 (tA z3.2.1 z3.2.2).bind λz4=>
 (AO z4.2.1 z4.2.2).bind λz5=>
 if(!z5)=Z then(
 J ((bZ.mk [] [] []),aa))else(
 J ((bZ.mk z2.1 z3.1 z4.1),Z))
def znJ{a0 r}(hr:Jg a0=J r):ap Tryz.prog 52 [(.sh,vC a0)] (Eo (.bO [vY r.1,.bool r.2]) [.au]):=by
 apply pF 23 [] [] [10] [.cell 2 31,.tmp 3] hr zJN Tryz.Ac2;intro Φ ak hF g;unfold Jg at hF;have c0:= @LQ;have AQ:= @Xm;have c1:= @Qs;exact wL
def zG(a0:List Int):Option (ec×Bool):=
 (yY a0).bind λz1=>
 ((if(!z1.2)=Z then(
 J Z)else(
 if decide ((z1.1.length:Int)<5)=Z then(
 J Z)else(
 (ix z1.1 0).bind λx7=>
 J ((x7.length:Int) !=1))):Option Bool).bind λx4=>
 if x4=Z then(
 J ((ec.mk 0 [] (cF.mk [] [] (bZ.mk [] [] [])) (cn.mk [] [] [] (bZ.mk [] [] []))),aa))else(
 (ix z1.1 1).bind λx9=>
 (HK x9).bind λbX=>
 (ix z1.1 (i64.wrap ((z1.1.length:Int)-1))).bind λaU=>
 (Jg aU).bind λbH=>
 (ix z1.1 0).bind λg8=>
 (ix g8 0).bind λe7=>
 ((((if(e7==1)=Z then(
 J ((z1.1.length:Int)==5))else(
 J aa):Option Bool).bind λfF=>
 if fF=Z then(
 (ix z1.1 2).bind λx23=>
 (ix z1.1 3).bind λBj=>
 J (.inl (e7,bX.1,x23,Bj,bH.1.aC,bH.1.aV,bH.1.aD,[],[],[],[],[],[])))else(
 ((if(e7==2)=Z then(
 J ((z1.1.length:Int)==6))else(
 J aa):Option Bool).bind λfO=>
 if fO=Z then(
 (ix z1.1 2).bind λEb=>
 (ix z1.1 3).bind λBp=>
 (ix z1.1 4).bind λoG=>
 J (.inl (e7,bX.1,[],[],[],[],[],Eb,Bp,oG,bH.1.aC,bH.1.aV,bH.1.aD)))else(
 J (.inr ((ec.mk 0 [] (cF.mk [] [] (bZ.mk [] [] [])) (cn.mk [] [] [] (bZ.mk [] [] []))),aa)))))):Option ((Int×List an×List Int×List Int×List Int×List Int×List Int×List Int×List Int×List Int×List Int×List Int×List Int) ⊕ (ec×Bool))).bind (Sum.elim (λbG=>
 (C4 (ec.mk bG.1 bG.2.1 (cF.mk bG.2.2.1 bG.2.2.2.1 (bZ.mk bG.2.2.2.2.1 bG.2.2.2.2.2.1 bG.2.2.2.2.2.2.1)) (cn.mk bG.2.2.2.2.2.2.2.1 bG.2.2.2.2.2.2.2.2.1 bG.2.2.2.2.2.2.2.2.2.1 (bZ.mk bG.2.2.2.2.2.2.2.2.2.2.1 bG.2.2.2.2.2.2.2.2.2.2.2.1 bG.2.2.2.2.2.2.2.2.2.2.2.2)))).bind λiJ=>
 ((if(!bX.2)=Z then(
 J Z)else(
 if(!bH.2)=Z then(
 J Z)else(
 if(!iJ.2)=Z then(
 J Z)else(
 (Bd iJ.1 a0).bind λuq=>
 J (!uq)))):Option Bool).bind λnL=>
 if nL=Z then(
 J ((ec.mk 0 [] (cF.mk [] [] (bZ.mk [] [] [])) (cn.mk [] [] [] (bZ.mk [] [] []))),aa))else(
 J ((ec.mk bG.1 bG.2.1 (cF.mk bG.2.2.1 bG.2.2.2.1 (bZ.mk bG.2.2.2.2.1 bG.2.2.2.2.2.1 bG.2.2.2.2.2.2.1)) (cn.mk bG.2.2.2.2.2.2.2.1 bG.2.2.2.2.2.2.2.2.1 bG.2.2.2.2.2.2.2.2.2.1 (bZ.mk bG.2.2.2.2.2.2.2.2.2.2.1 bG.2.2.2.2.2.2.2.2.2.2.2.1 bG.2.2.2.2.2.2.2.2.2.2.2.2))),Z)))) J))))
set_option maxHeartbeats 16000000 in
def zmH{a0 r}(hr:zG a0=J r):ap Tryz.prog 12 [(.sh,vC a0)] (Eo (.bO [vN r.1,.bool r.2]) [.au]):=by
 apply F0 120 [] [98] [] [.cell 2 37,.tmp 3] hr zNT Tryz.Ahc;intro Φ ak hF g;unfold zG at hF;refine wW ?_;refine wE hF zm4 λz1 hF=>?_
 refine wW ?_;refine bS hF [0,2,4] (λx4=>[(31,.v (.bool x4))]) (λx4 hF=>?_) λ_ hj0 hF=>?_
 ·refine wI hF (λh8 hF=>?_) λh8 hF=>?_
  ·exact wL
  obtain⟨x9,g,hF⟩:=j8 g 1 hF;refine wW ?_;refine wE hF zmu λbX hF=>?_
  refine wK [0,2,4,6,7] ?_;obtain⟨aU,g,hF⟩:=Rx g hF;try simp[go_sem,g]
  try intros
  refine wE hF znJ λbH hF=>?_
  refine wK [0,2,4,6,7,8,9] ?_;obtain⟨g8,g,hF⟩:=j8 g 0 hF;obtain⟨e7,g,hF⟩:=j8 g 0 hF;refine wW ?_;refine wSK hF [0,2,7,9] (λbG=>[(10,.bl [.int .i64 bG.1,vH bG.2.1,vC bG.2.2.1,vC bG.2.2.2.1,vD bG.2.2.2.2.1,vD bG.2.2.2.2.2.1,vD bG.2.2.2.2.2.2.1,vC bG.2.2.2.2.2.2.2.1,vC bG.2.2.2.2.2.2.2.2.1,vC bG.2.2.2.2.2.2.2.2.2.1,vD bG.2.2.2.2.2.2.2.2.2.2.1,vD bG.2.2.2.2.2.2.2.2.2.2.2.1,vD bG.2.2.2.2.2.2.2.2.2.2.2.2])]) (λbG hF=>?_) λ_ hj0 dB hF=>?_
  ·refine wE hF P9 λiJ hF=>?_
   refine wK [0,2,7,9,10,11,12] ?_;refine bS hF [2,10] (λnL=>[(117,.v (.bool nL))]) (λnL hF=>?_) λ_ hj0 hF=>?_
   ·exact wL
   have c0:= @Th;exact wL
  refine wB ?_;refine bS hF [0,2,4,7,8,9,10] (λfF=>[(58,.v (.bool fF))]) (λfF hF=>?_) λ_ j6 hF=>?_
  ·refine wI hF (λh22 hF=>?_) λh22 hF=>?_
   ·refine wZ (kD 0 [0,0,0,0,0,0,66,0,81,82]) follows ?_;obtain⟨x23,g,hF⟩:=j8 g 2 hF;obtain⟨Bj,g,hF⟩:=j8 g 3 hF;try simp[go_sem,g]
    refine jH 10 7 (by simp[go_sem,g];rfl) rfl (by simp[go_sem]) ?_;refine jH 10 8 (by simp[go_sem,g];rfl) rfl (by simp[go_sem]) ?_;refine jH 10 9 (by simp[go_sem,g];rfl) rfl (by simp[go_sem]) ?_;exact wT (hj0 _) (eX hF)
   refine bS hF [0,2,4,7,8,9,10] (λfO=>[(76,.v (.bool fO))]) (λfO hF=>?_) λ_ j6 hF=>?_
   ·refine wI hF (λh29 hF=>?_) λh29 hF=>?_
    ·refine wZ (kD 0 [0,0,0,0,0,0,0,0,0,66,0,81,82]) follows ?_;obtain⟨Eb,g,hF⟩:=j8 g 2 hF;obtain⟨Bp,g,hF⟩:=j8 g 3 hF;obtain⟨oG,g,hF⟩:=j8 g 4 hF;try simp[go_sem,g]
     refine jH 10 2 (by simp[go_sem,g];rfl) rfl (by simp[go_sem]) ?_;refine jH 10 3 (by simp[go_sem,g];rfl) rfl (by simp[go_sem]) ?_;exact wT (hj0 _) (eX hF)
    exact wL
   exact wL
  exact wL
 exact wL
def HA(a0:List Int)(a1:List Int):Option Bool:=
 if((a0.length:Int) !=(a1.length:Int))=Z then(
 J aa)else(
 ((aS (σ:=Unit) (λi6 s5=>
 (ix a0 i6).bind λdf=>
 (ix a1 i6).bind λg8=>
 if(df !=g8)=Z then(
 J (.out (.inr aa)))else(
 J (.go ()))) (λs5=>.inl ()) (a0.length) 0 ():Option (Unit ⊕ Bool)).bind (Sum.elim (λx4=>
 J Z) J)))
def zqj{a0 a1 r}(hr:HA a0 a1=J r):ap Tryz.prog 13 [(.sh,vC a0),(.sh,vC a1)] (Eo (.bool r) cI):=by
 apply pE [] hr zLG Tryz.Agb;intro Φ ak hF g;unfold HA at hF
 iterate 2 (try simp[go_sem,g];try intros;refine bu ?_)
 refine wI hF (λh1 hF=>?_) λh1 hF=>?_
 ·exact wl ak hF
 iterate 2 (try simp[go_sem,g];try intros;refine bu ?_)
 refine wS hF (λx4=>[]) (λx4 hF=>?_) λ_ hj0 dB hF=>?_
 ·exact wL
 refine wR hF [0,1,12] (λi6 s5=>[(13,.v (.int .i64 i6))]) λb bg i6 s5 _ _ aO aN bo ba hF=>?_
 refine wK [0,1,12,13,14] ?_;refine wu aO aN ?_;refine wW ?_;refine wB ?_;refine wW ?_;refine wZ (kD 0 [0,0,0,0,0,0,0,0,0]) follows ?_;exact wL
def Fm(aL:List Int)(aW:Int)(bp:Int)(a1:am):Option (Int×(List Int×Int×Int)):=
 (zT aL aW bp 24).bind λz1=>
 if z1.1=Z then(
 (pZ z1.2.1 z1.2.2.1 z1.2.2.2 [a1.Q,(-1),i64.wrap (a1.Q-1)]).bind λz3=>
 J (z3.1,(z3.2.1,z3.2.2.1,z3.2.2.2)))else(
 (Ci z1.2.1 z1.2.2.1 z1.2.2.2 a1).bind λz4=>
 J (z4.1,(z4.2.1,z4.2.2.1,z4.2.2.2)))
def Wj{aL aW bp a1 r}(hr:Fm aL aW bp a1=J r):ap Tryz.prog 164 [(.io,vB aL aW bp),(.sh,vE a1)] (Eo (.int .i64 r.1) [vB r.2.1 r.2.2.1 r.2.2.2,.au]):=by
 apply pE [0] hr zGg Tryz.Ag0;intro Φ ak hF g;unfold Fm at hF;have ja:= @LK;have xG:= @zq;have BC:= @OK;exact wL
def F6(aL:List Int)(aW:Int)(bp:Int)(a1:am)(a2:bZ):Option (bZ×(List Int×Int×Int)):=
 (BV a2.aC).bind λz1=>
 (BV a2.aV).bind λz2=>
 (BV a2.aD).bind λz3=>
 (gH aL aW bp 12).bind λz4=>
 ((if(z4.1==0)=Z then(
 if decide (0<(z3.length:Int))=Z then(
 (gH z4.2.1 z4.2.2.1 z4.2.2.2 (z3.length:Int)).bind λbX=>
 (Fm bX.2.1 bX.2.2.1 bX.2.2.2 a1).bind λb7=>
 (ix z3 bX.1).bind λdf=>
 J (.inl ((b7.2.1,b7.2.2.1,b7.2.2.2),z1,z2,z3.set bX.1.toNat b7.1)))else(
 J (.inl ((z4.2.1,z4.2.2.1,z4.2.2.2),z1,z2,z3))))else(
 if(z4.1==1)=Z then(
 if decide (0<(z1.length:Int))=Z then(
 (gH z4.2.1 z4.2.2.1 z4.2.2.2 (z1.length:Int)).bind λfE=>
 (xA fE.2.1 fE.2.2.1 fE.2.2.2 a1).bind λk8=>
 (ix z1 fE.1).bind λbG=>
 J (.inl ((k8.2.1,k8.2.2.1,k8.2.2.2),z1.set fE.1.toNat k8.1,z2,z3)))else(
 J (.inl ((z4.2.1,z4.2.2.1,z4.2.2.2),z1,z2,z3))))else(
 if(z4.1==2)=Z then(
 if decide (0<(z2.length:Int))=Z then(
 (gH z4.2.1 z4.2.2.1 z4.2.2.2 (z2.length:Int)).bind λoi=>
 (Fm oi.2.1 oi.2.2.1 oi.2.2.2 a1).bind λyT=>
 (ix z2 oi.1).bind λN1=>
 J (.inl ((yT.2.1,yT.2.2.1,yT.2.2.2),z1,z2.set oi.1.toNat yT.1,z3)))else(
 J (.inl ((z4.2.1,z4.2.2.1,z4.2.2.2),z1,z2,z3))))else(
 if(z4.1==3)=Z then(
 gd ((z3.length+1)*8<=140737488355328/\z3.length+1<=4611686018427387904)<|
 J (.inl ((z4.2.1,z4.2.2.1,z4.2.2.2),z1,z2,z3++[0])))else(
 if(z4.1==4)=Z then(
 J (.inr ((bZ.mk [] [] []),(z4.2.1,z4.2.2.1,z4.2.2.2))))else(
 J (.inl ((z4.2.1,z4.2.2.1,z4.2.2.2),z1,z2,z3))))))):Option (((List Int×Int×Int)×List Int×List Int×List Int) ⊕ (bZ×(List Int×Int×Int)))).bind (Sum.elim (λx7=>
 J ((bZ.mk x7.2.1 x7.2.2.1 x7.2.2.2),(x7.1.1,x7.1.2.1,x7.1.2.2))) J))
def YO{aL aW bp a1 a2 r}(hr:F6 aL aW bp a1 a2=J r):ap Tryz.prog 102 [(.io,vB aL aW bp),(.sh,vE a1),(.sh,vS a2)] (Eo (vY r.1) [vB r.2.1 r.2.2.1 r.2.2.2,.au,.au]):=by
 apply pE [0] hr zEs Tryz.Aem;intro Φ ak hF g;unfold F6 at hF;refine wW ?_;refine wZ (kE [0,1,3,4,6,7,2,5,8,9,10] [41,42,41,42,41,42,3,3,3,0,42]) follows ?_;refine wE hF Lq λz1 hF=>?_
 refine wE hF Lq λz2 hF=>?_
 refine wE hF Lq λz3 hF=>?_
 refine wK [0,4,5,6] ?_;refine wC hF [.io,.sh] j7 λz4 hF=>?_
 refine wW ?_;refine wS hF (λx7=>[(0,.v (vB x7.1.1 x7.1.2.1 x7.1.2.2)),(5,.bl [vD x7.2.1,vD x7.2.2.1,vD x7.2.2.2]),(6,.bl [.sl Z 1 [],.sl Z 1 [],.sl Z 1 []])]) (λx7 hF=>?_) λ_ hj0 dB hF=>?_
 ·exact wl ak hF
 refine wB ?_;refine wW ?_;refine wI hF (λh8 hF=>?_) λh8 hF=>?_
 ·try simp[go_sem,g]
  try intros
  refine bu ?_;try simp[go_sem,g]
  try intros
  refine wK [0,4,5,6,7,28] ?_;refine wI hF (λh9 hF=>?_) λh9 hF=>?_
  ·refine wZ (kE [0,1,2,3,5,6,4,7,8,9] [41,42,0,0,0,34,3,3,0,0]) follows ?_;have ja:= @j7;have BC:= @Wj;exact wL
  exact wT (hj0 _) (eX hF)
 refine wW ?_;refine wI hF (λGQ hF=>?_) λGQ hF=>?_
 ·try simp[go_sem,g]
  try intros
  refine wK [0,4,5,6,8] ?_;refine wW ?_;refine wI hF (λRe hF=>?_) λRe hF=>?_
  ·refine wZ (kE [0,1,2,3,5,6,4,7,8,9] [41,42,0,0,0,34,3,3,0,0]) follows ?_;have ja:= @j7;have BC:= @NX;exact wL
  exact wT (hj0 _) (eX hF)
 refine wW ?_;refine wI hF (λSg hF=>?_) λSg hF=>?_
 ·try simp[go_sem,g]
  try intros
  refine wK [0,4,5,6,9] ?_;refine wW ?_;refine wI hF (λh19 hF=>?_) λh19 hF=>?_
  ·refine wZ (kE [0,1,2,3,5,6,4,7,8,9] [41,42,0,0,0,34,3,3,0,0]) follows ?_;have ja:= @j7;have BC:= @Wj;exact wL
  exact wT (hj0 _) (eX hF)
 exact wL
def IF(aL:List Int)(aW:Int)(bp:Int)(a1:am)(a2:ec):Option (ec×(List Int×Int×Int)):=
 gd (a2.Out.length*16<=140737488355328/\a2.Out.length<=4611686018427387904)<|
 (gH aL aW bp 9).bind λz1=>
 ((if(z1.1==0)=Z then(
 if decide (0<(a2.Out.length:Int))=Z then(
 (gH z1.2.1 z1.2.2.1 z1.2.2.2 (a2.Out.length:Int)).bind λz7=>
 (xA z7.2.1 z7.2.2.1 z7.2.2.2 a1).bind λz8=>
 (ix a2.Out z7.1).bind λx9=>
 J ((z8.2.1,z8.2.2.1,z8.2.2.2),a2.dD,a2.Out.set z7.1.toNat (an.mk x9.A z8.1),a2.br.cu,a2.br.aF,a2.br.Pi.aC,a2.br.Pi.aV,a2.br.Pi.aD,a2.Poly.bQ,a2.Poly.bL,a2.Poly.aF,a2.Poly.Pi.aC,a2.Poly.Pi.aV,a2.Poly.Pi.aD))else(
 J ((z1.2.1,z1.2.2.1,z1.2.2.2),a2.dD,a2.Out,a2.br.cu,a2.br.aF,a2.br.Pi.aC,a2.br.Pi.aV,a2.br.Pi.aD,a2.Poly.bQ,a2.Poly.bL,a2.Poly.aF,a2.Poly.Pi.aC,a2.Poly.Pi.aV,a2.Poly.Pi.aD)))else(
 if(z1.1==1)=Z then(
 (F6 z1.2.1 z1.2.2.1 z1.2.2.2 a1 a2.br.Pi).bind λb7=>
 J ((b7.2.1,b7.2.2.1,b7.2.2.2),a2.dD,a2.Out,a2.br.cu,a2.br.aF,b7.1.aC,b7.1.aV,b7.1.aD,a2.Poly.bQ,a2.Poly.bL,a2.Poly.aF,a2.Poly.Pi.aC,a2.Poly.Pi.aV,a2.Poly.Pi.aD))else(
 if(z1.1==2)=Z then(
 (F6 z1.2.1 z1.2.2.1 z1.2.2.2 a1 a2.Poly.Pi).bind λdk=>
 J ((dk.2.1,dk.2.2.1,dk.2.2.2),a2.dD,a2.Out,a2.br.cu,a2.br.aF,a2.br.Pi.aC,a2.br.Pi.aV,a2.br.Pi.aD,a2.Poly.bQ,a2.Poly.bL,a2.Poly.aF,dk.1.aC,dk.1.aV,dk.1.aD))else(
 if(z1.1==3)=Z then(
 (gH z1.2.1 z1.2.2.1 z1.2.2.2 4).bind λfE=>
 J ((fE.2.1,fE.2.2.1,fE.2.2.2),fE.1,a2.Out,a2.br.cu,a2.br.aF,a2.br.Pi.aC,a2.br.Pi.aV,a2.br.Pi.aD,a2.Poly.bQ,a2.Poly.bL,a2.Poly.aF,a2.Poly.Pi.aC,a2.Poly.Pi.aV,a2.Poly.Pi.aD))else(
 if(z1.1==4)=Z then(
 if decide (1<(a2.Out.length:Int))=Z then(
 (ix a2.Out 0).bind λlL=>
 (ix a2.Out 1).bind λoU=>
 (ix (a2.Out.set 0 oU) 1).bind λfF=>
 J ((z1.2.1,z1.2.2.1,z1.2.2.2),a2.dD,(a2.Out.set 0 oU).set 1 lL,a2.br.cu,a2.br.aF,a2.br.Pi.aC,a2.br.Pi.aV,a2.br.Pi.aD,a2.Poly.bQ,a2.Poly.bL,a2.Poly.aF,a2.Poly.Pi.aC,a2.Poly.Pi.aV,a2.Poly.Pi.aD))else(
 J ((z1.2.1,z1.2.2.1,z1.2.2.2),a2.dD,a2.Out,a2.br.cu,a2.br.aF,a2.br.Pi.aC,a2.br.Pi.aV,a2.br.Pi.aD,a2.Poly.bQ,a2.Poly.bL,a2.Poly.aF,a2.Poly.Pi.aC,a2.Poly.Pi.aV,a2.Poly.Pi.aD)))else(
 J ((z1.2.1,z1.2.2.1,z1.2.2.2),a2.dD,a2.Out,a2.br.cu,a2.br.aF,a2.br.Pi.aC,a2.br.Pi.aV,a2.br.Pi.aD,a2.Poly.bQ,a2.Poly.bL,a2.Poly.aF,a2.Poly.Pi.aC,a2.Poly.Pi.aV,a2.Poly.Pi.aD)))))):Option (((List Int×Int×Int)×Int×List an×List Int×List Int×List Int×List Int×List Int×List Int×List Int×List Int×List Int×List Int×List Int))).bind λx4=>
 J ((ec.mk x4.2.1 x4.2.2.1 (cF.mk x4.2.2.2.1 x4.2.2.2.2.1 (bZ.mk x4.2.2.2.2.2.1 x4.2.2.2.2.2.2.1 x4.2.2.2.2.2.2.2.1)) (cn.mk x4.2.2.2.2.2.2.2.2.1 x4.2.2.2.2.2.2.2.2.2.1 x4.2.2.2.2.2.2.2.2.2.2.1 (bZ.mk x4.2.2.2.2.2.2.2.2.2.2.2.1 x4.2.2.2.2.2.2.2.2.2.2.2.2.1 x4.2.2.2.2.2.2.2.2.2.2.2.2.2))),(x4.1.1,x4.1.2.1,x4.1.2.2)))
def zjl{aL aW bp a1 a2 r}(hr:IF aL aW bp a1 a2=J r):ap Tryz.prog 54 [(.io,vB aL aW bp),(.sh,vE a1),(.sh,vN a2)] (Eo (vZ r.1) [vB r.2.1 r.2.2.1 r.2.2.2,.au,.au]):=by
 apply pE [0] hr zLT Tryz.Ady;intro Φ ak hF g;unfold IF at hF;obtain⟨g,hF⟩:=Rg g hF
 iterate 2 refine wW ?_
 refine wK [0,4,5,6,7] ?_;try simp[go_sem,g]
 try intros
 refine bu ?_;try simp[go_sem,g]
 try intros
 refine wC hF [.io,.sh] j7 λz1 hF=>?_
 refine wW ?_;refine wJ hF (λx4=>[(0,.v (vB x4.1.1 x4.1.2.1 x4.1.2.2)),(6,.bl [.int .i64 0,.sl Z 2 [],.sl Z 1 [],.sl Z 1 [],.sl Z 1 [],.sl Z 1 [],.sl Z 1 [],.sl Z 1 [],.sl Z 1 [],.sl Z 1 [],.sl Z 1 [],.sl Z 1 [],.sl Z 1 []]),(7,.bl [.int .i64 x4.2.1,vG x4.2.2.1,vC x4.2.2.2.1,vC x4.2.2.2.2.1,vC x4.2.2.2.2.2.1,vC x4.2.2.2.2.2.2.1,vC x4.2.2.2.2.2.2.2.1,vC x4.2.2.2.2.2.2.2.2.1,vC x4.2.2.2.2.2.2.2.2.2.1,vC x4.2.2.2.2.2.2.2.2.2.2.1,vC x4.2.2.2.2.2.2.2.2.2.2.2.1,vC x4.2.2.2.2.2.2.2.2.2.2.2.2.1,vC x4.2.2.2.2.2.2.2.2.2.2.2.2.2])]) (λx4 hF=>?_) λ_ hj0 hF=>?_
 ·exact wl ak hF
 refine wB ?_;refine wW ?_;refine wI hF (λh5 hF=>?_) λh5 hF=>?_
 ·refine wK [0,4,6,7,8,24] ?_;refine wI hF (λh6 hF=>?_) λh6 hF=>?_
  ·refine wZ (kE [0,1,2,3,5,6,4,7,8,9,10] [57,58,0,0,0,34,3,3,0,0,0]) follows ?_;have ja:= @j7;have BC:= @NX;exact wL
  exact wT (hj0 _) (eX hF)
 refine wK [0,4,5,6,7,8,20,35] ?_;refine wI hF (λxd hF=>?_) λxd hF=>?_
 ·refine wC hF [.io,.sh,.sh] YO λb7 hF=>?_
  try simp[go_sem,g]
  refine jH 7 4 (by simp[go_sem,g];rfl) rfl (by simp[go_sem]) ?_;refine jH 7 5 (by simp[go_sem,g];rfl) rfl (by simp[go_sem]) ?_;refine jH 7 6 (by simp[go_sem,g];rfl) rfl (by simp[go_sem]) ?_;exact wT (hj0 _) (eX hF)
 refine wW ?_;refine wI hF (λh12 hF=>?_) λh12 hF=>?_
 ·refine wC hF [.io,.sh,.sh] YO λdk hF=>?_
  try simp[go_sem,g]
  refine jH 7 10 (by simp[go_sem,g];rfl) rfl (by simp[go_sem]) ?_;refine jH 7 11 (by simp[go_sem,g];rfl) rfl (by simp[go_sem]) ?_;refine jH 7 12 (by simp[go_sem,g];rfl) rfl (by simp[go_sem]) ?_;exact wT (hj0 _) (eX hF)
 refine wW ?_;refine wI hF (λRe hF=>?_) λRe hF=>?_
 ·have ja:= @j7;exact wL
 refine wW ?_;refine wI hF (λBi hF=>?_) λBi hF=>?_
 ·refine wW ?_;refine wI hF (λT2 hF=>?_) λT2 hF=>?_
  ·obtain⟨lL,g,hF⟩:=j8 g 0 hF;refine wK [0,6,7,9] ?_;refine wZ (kD 0 [57,58,57,58,0,0,0,0]) follows ?_;obtain⟨oU,g,hF⟩:=j8 g 1 hF;obtain⟨fF,g,hF⟩:=j8 g 1 hF;try simp only[KC]at g
   exact wL
  exact wT (hj0 _) (eX hF)
 exact wT (hj0 _) (eX hF)
def I6(a0:List Int):Option (am×Int×List an×ec):=
 (DM a0).bind λz1=>
 (sP z1.1 z1.2.1 z1.2.2.1 z1.2.2.2.1 z1.2.2.2.2.1 z1.2.2.2.2.2).bind λz2=>
 (IF a0 0 0 z1.1 z2.1).bind λz3=>
 J (z1.1,z1.2.1,z1.2.2.1,z3.1)
def zlO{a0 r}(hr:I6 a0=J r):ap Tryz.prog 14 [(.sh,vA a0)] (Eo (.bO [vE r.1,.int .i64 r.2.1,vG r.2.2.1,vZ r.2.2.2]) [.au]):=by
 apply pF 44 [] [42] [26] [.cell 2 25,.tmp 3,.tmp 4,.cell 5 37] hr zNs Tryz.AeL;intro Φ ak hF g;unfold I6 at hF;refine wW ?_;refine wE hF X4 λz1 hF=>?_
 refine wK [0,2,5,6,7,8,9,10,11] ?_;refine wW ?_;refine wE hF zlj λz2 hF=>?_
 refine wK [2,5,6,7,8,12,13] ?_;refine wZ (kD 0 [50,0,0,0,50,106,3,18,0,0,42]) follows ?_;have O8:= @zjl;exact wL
def JM(a0:am)(a1:Int)(a2:cF):Option Bool:=
 ((if((a2.cu.length:Int)==a1)=Z then(
 if((a2.aF.length:Int)==a1)=Z then(
 if((a2.Pi.aC.length:Int)==(i64.wrap (a1+5)))=Z then(
 if((a2.Pi.aV.length:Int)==1)=Z then(
 if((a2.Pi.aD.length:Int)==(i64.wrap ((i64.wrap (2*a1))+4)))=Z then(
 (pW a0 a2.cu).bind λz9=>
 if z9=Z then(
 (pW a0 a2.aF).bind λb7=>
 if b7=Z then(
 (pW a0 a2.Pi.aC).bind λdk=>
 if dk=Z then(
 (r6 a0 a2.Pi.aD).bind λfE=>
 J fE)else(
 J aa))else(
 J aa))else(
 J aa))else(
 J aa))else(
 J aa))else(
 J aa))else(
 J aa))else(
 J aa):Option Bool).bind λx3=>
 J x3)
def zrL{a0 a1 a2 r}(hr:JM a0 a1 a2=J r):ap Tryz.prog 205 [(.sh,vE a0),(.sh,.int .i64 a1),(.sh,vL a2)] (Eo (.bool r) gq):=by
 apply pE [] hr zFk Tryz.Ag3;intro Φ ak hF g;unfold JM at hF;refine wW ?_;refine wJ hF (λx3=>[(6,.v (.bool x3))]) (λx3 hF=>?_) λ_ hj0 hF=>?_
 ·exact wm ak hF
 have c0:= @Nl;have c1:= @IE;exact wL
def IW(a0:am)(a1:Int):Option Int:=
 (kW a1 (i64.wrap (a0.Q-1)) a0.P).bind λz1=>
 J z1
def zur{a0 a1 r}(hr:IW a0 a1=J r):ap Tryz.prog 206 [(.sh,vE a0),(.sh,.int .i64 a1)] (Eo (.int .i64 r) cI):=by
 apply pE [] hr zHY Tryz.AgA;intro Φ ak hF g;unfold IW at hF;have c0:= @ye;exact wL
def IX(a0:am)(a1:Int)(a2:ct)(a3:List an)(a4:List an)(a5:cF):Option Bool:=
 ((if((a4.length:Int) !=(a3.length:Int))=Z then(
 J Z)else(
 (JM a0 (a3.length:Int) a5).bind λz5=>
 if(!z5)=Z then(
 J Z)else(
 (ix a5.Pi.aV 0).bind λx7=>
 (zA a0 a1 a3 a4 a5).bind λz8=>
 J (x7 !=z8))):Option Bool).bind λx3=>
 if x3=Z then(
 J aa)else(
 (ix a5.Pi.aV 0).bind λer=>
 gd (0<=(i64.wrap ((a3.length:Int)+4)))<|
 gd ((i64.wrap ((a3.length:Int)+4)).toNat<=a5.Pi.aD.length/\a5.Pi.aD.length<=a5.Pi.aD.length)<|
 (yX a0 a1 a3 a4 a5.cu).bind λb7=>
 ((aS (σ:=Int) (λi16 rS=>
 (ix b7 i16).bind λN1=>
 gd (a0.Q≠0)<|
 J (.go ((i64.wrap (rS*N1)).tmod a0.Q))) (λrS=>rS) (b7.length) 0 1:Option Int).bind λe7=>
 (ut a3).bind λnm=>
 (ut a4).bind λfS=>
 (ix a5.aF (i64.wrap ((a3.length:Int)-1))).bind λke=>
 (ej a0 a5.cu).bind λeY=>
 (ej a0 a2.Hs).bind λgw=>
 (IW a0 gw).bind λHN=>
 (ej a0 [eY,HN]).bind λiJ=>
 (k9 a0 a5.cu b7).bind λnE=>
 (cC a0 a2.H (i64.wrap (0-e7))).bind λhZ=>
 (ej a0 [ke,hZ]).bind λv4=>
 (k9 a0 nm.1 b7).bind λyW=>
 (k9 a0 nm.2 b7).bind λvn=>
 (ix a5.Pi.aD 0).bind λuC=>
 (ix a5.Pi.aD 1).bind λkB=>
 (ix a5.Pi.aD 2).bind λuZ=>
 (ix a5.Pi.aD 3).bind λTf=>
 (cC a0 a0.G uC).bind λBr=>
 (cC a0 a0.G kB).bind λCm=>
 (k9 a0 a2.Hs ((a5.Pi.aD.take a5.Pi.aD.length).drop ((i64.wrap ((a3.length:Int)+4)).toNat))).bind λzY=>
 (ej a0 [Cm,zY]).bind λE7=>
 (cC a0 a0.G uZ).bind λEa=>
 (cC a0 a0.G (i64.wrap (0-Tf))).bind λDH=>
 (k9 a0 fS.1 ((a5.Pi.aD.take a5.Pi.aD.length).drop ((i64.wrap ((a3.length:Int)+4)).toNat))).bind λLc=>
 (ej a0 [DH,Lc]).bind λxH=>
 (cC a0 a1 (i64.wrap (0-Tf))).bind λAb=>
 (k9 a0 fS.2 ((a5.Pi.aD.take a5.Pi.aD.length).drop ((i64.wrap ((a3.length:Int)+4)).toNat))).bind λqY=>
 (ej a0 [Ab,qY]).bind λCE=>
 ((aS (σ:=(List Int)×List Int×Int) (λul iA=>
 (ix a5.aF ul).bind λxW=>
 gd ((iA.1.length+1)*8<=140737488355328/\iA.1.length+1<=4611686018427387904)<|
 (ix a5.Pi.aD (i64.wrap (4+ul))).bind λNt=>
 (ix ((a5.Pi.aD.take a5.Pi.aD.length).drop ((i64.wrap ((a3.length:Int)+4)).toNat)) ul).bind λqJ=>
 (cC a0 a0.G Nt).bind λJt=>
 (cC a0 iA.2.2 qJ).bind λGO=>
 (ej a0 [Jt,GO]).bind λqj=>
 gd ((iA.2.1.length+1)*8<=140737488355328/\iA.2.1.length+1<=4611686018427387904)<|
 J (.go (iA.1++[xW],iA.2.1++[qj],xW))) (λiA=>(iA.1,iA.2.1)) (a5.aF.length) 0 ([iJ,nE,v4,yW,vn],[Br,E7,Ea,xH,CE],a2.H):Option ((List Int×List Int))).bind λxN=>
 ((aS (σ:=Unit) (λDN Ru=>
 (ix xN.1 DN).bind λBe=>
 (ix a5.Pi.aC DN).bind λFL=>
 (ix xN.2 DN).bind λpy=>
 (cC a0 Be er).bind λyr=>
 (ej a0 [FL,yr]).bind λoA=>
 if(oA !=py)=Z then(
 J (.out (.inr aa)))else(
 J (.go ()))) (λRu=>.inl ()) (xN.1.length) 0 ():Option (Unit ⊕ Bool)).bind (Sum.elim (λww=>
 J Z) J))))))
set_option maxHeartbeats 16000000 in
def zqt{a0 a1 a2 a3 a4 a5 r}(hr:IX a0 a1 a2 a3 a4 a5=J r):ap Tryz.prog 166 [(.sh,vE a0),(.sh,.int .i64 a1),(.sh,vJ a2),(.sh,vH a3),(.sh,vH a4),(.sh,vL a5)] (Eo (.bool r) sj):=by
 apply pE [] hr zEt Tryz.Aiz;intro Φ ak hF g;unfold IX at hF
 iterate 2 (try simp[go_sem,g];try intros;refine bu ?_)
 refine bS hF [1,3,4,6,8,11,13] (λx3=>[(59,.v (.bool x3))]) (λx3 hF=>?_) λ_ hj0 hF=>?_
 ·refine wI hF (λh9 hF=>?_) λh9 hF=>?_
  ·exact wl ak hF
  obtain⟨er,g,hF⟩:=j8 g 0 hF;refine wW ?_;refine wK [1,3,4,6,8,11,13,14] ?_;refine wZ (kD 0 [89,89,90,89,89,90,0,0]) follows ?_
  iterate 2 obtain⟨g,hF⟩:=Rg g hF
  refine wW ?_;refine wK [1,3,4,6,8,11,13,14,15,16,17] ?_;refine wE hF Wi λb7 hF=>?_
  iterate 2 (try simp[go_sem,g];try intros;refine bu ?_)
  try simp[go_sem,g]
  try intros
  refine wK [1,3,4,6,8,11,13,14,15,16,17,18,19,82,83,84] ?_;refine bS hF [1,3,4,6,8,11,13,14,15,16,17,18] (λe7=>[(19,.v (.int .i64 e7))]) (λe7 hF=>?_) λ_ hj0 hF=>?_
  ·refine wE hF Gi λnm hF=>?_
   refine wW ?_;refine wE hF Gi λfS hF=>?_
   refine wK [1,6,8,11,13,14,15,16,17,18,19,22,23,24,25] ?_;refine wZ (kE [0,1,2,3,5,6,7,8,13,14,15,16,18,19,20,21,22,23,24,25,26,27,28,29,33,34,35,37,38,39,4,9,10,11,12,17,30,31,32,36,40,41,42] [50,50,89,90,50,50,65,66,50,89,90,0,50,89,90,0,0,0,0,50,65,66,0,0,50,0,0,50,0,0,4,4,4,0,7,4,4,0,6,3,3,0,7]) follows ?_;obtain⟨ke,g,hF⟩:=Rx g hF;refine wD hF hJ λeY hF=>?_
   refine wD hF hJ λgw hF=>?_
   refine wD hF zur λHN hF=>?_
   refine wD hF hJ λiJ hF=>?_
   refine wD hF oI λnE hF=>?_
   refine wD hF ft λhZ hF=>?_
   refine wE hF hJ λv4 hF=>?_
   refine wE hF oI λyW hF=>?_
   refine wE hF oI λvn hF=>?_
   refine wK [1,6,8,11,14,15,16,17,24,25,26] ?_;refine wZ (kE [0,1,2,3,4,5,7,8,9,10,11,12,13,15,16,17,18,22,23,24,25,26,27,29,30,31,32,33,34,35,36,38,39,40,44,45,46,47,48,49,50,52,53,54,6,14,19,20,21,28,37,41,42,43,51,55,56,57,58,59] [50,49,50,0,0,0,50,50,49,50,0,0,0,50,65,66,0,50,49,50,0,0,0,50,50,49,50,0,0,0,0,50,0,0,50,50,0,0,0,0,0,50,0,0,4,4,4,0,7,4,4,4,0,7,3,3,0,6,0,7]) follows ?_;obtain⟨uC,g,hF⟩:=j8 g 0 hF;obtain⟨kB,g,hF⟩:=j8 g 1 hF;obtain⟨uZ,g,hF⟩:=j8 g 2 hF;obtain⟨Tf,g,hF⟩:=j8 g 3 hF;refine wD hF ft λBr hF=>?_
   refine wD hF ft λCm hF=>?_
   refine wD hF oI λzY hF=>?_
   refine wD hF hJ λE7 hF=>?_
   refine wD hF ft λEa hF=>?_
   refine wD hF ft λDH hF=>?_
   refine wD hF oI λLc hF=>?_
   refine wD hF hJ λxH hF=>?_
   refine wE hF ft λAb hF=>?_
   refine wE hF oI λqY hF=>?_
   refine wE hF hJ λCE hF=>?_
   refine wK [6,8,11,14,15,16,17,26,27] ?_
   iterate 2 (try simp[go_sem,g];try intros;refine bu ?_)
   refine bS hF [6,14,15] (λxN=>[(26,.v (vD xN.1)),(27,.v (vD xN.2))]) (λxN hF=>?_) λ_ hj0 hF=>?_
   ·try simp[go_sem,g]
    try intros
    refine wK [6,14,15,26,27,244,245,246] ?_;refine wS hF (λww=>[]) (λww hF=>?_) λ_ hj0 dB hF=>?_
    ·exact wl ak hF
    refine wR hF [6,14,15,26,27,244,245] (λDN Ru=>[(246,.v (.int .i64 DN))]) λb bg DN Ru _ _ aO aN bo ba hF=>?_
    refine wW ?_;refine wu aO aN ?_;refine wW ?_;refine wB ?_;obtain⟨Be,g,hF⟩:=Rx g hF;refine wW ?_;refine wZ (kE [0,1,2,3,4,5,6,7,11,12,13,14,8,9,10,15] [50,0,0,0,0,50,0,0,0,0,0,0,4,0,7,0]) follows ?_;have c0:= @ft;have c1:= @hJ;exact wL
   refine wR hF [6,14,15,16,17,209,210] (λul iA=>[(26,.v (vD iA.1)),(27,.v (vD iA.2.1)),(28,.v (.int .i64 iA.2.2)),(211,.v (.int .i64 ul))]) λb bg ul iA _ _ aO aN bo ba hF=>?_
   refine wW ?_;refine wu aO aN ?_;refine wW ?_;refine wB ?_;obtain⟨xW,g,hF⟩:=Rx g hF;refine wK [6,14,15,16,17,26,27,28,29,30,209,210,211] ?_;obtain⟨g,hF⟩:=Rg g hF;refine wW ?_;refine wZ (kE [0,1,2,3,4,5,6,7,8,9,11,12,13,14,15,16,10,17,18,19,20,21,22] [0,50,50,49,50,0,0,0,0,0,50,0,0,0,0,0,4,3,0,6,0,5,0]) follows ?_;obtain⟨Nt,g,hF⟩:=Rx g hF;obtain⟨qJ,g,hF⟩:=ig g hF;have c0:= @ft;have c1:= @hJ;exact wL
  refine wR hF [1,3,4,6,8,11,13,14,15,16,17,18,82,83] (λi16 rS=>[(19,.v (.int .i64 rS)),(84,.v (.int .i64 i16))]) λb bg i16 rS _ _ aO aN bo ba hF=>?_
  exact wL
 refine wZ (kD 0 [0,0,0,0,0,50,0,90,3,0,0,0,89,89,90,0,0,50,0,0,0,90,4,0,0]) follows ?_;have c0:= @zrL;have c1:= @U4;exact wL
def E5(a0:am)(a1:Int)(a2:List an)(a3:List an)(a4:cF):Option (Bool×Bool):=
 (((pD a0 a1 a2).bind λz4=>
 if(!z4)=Z then(
 J Z)else(
 (pD a0 a1 a3).bind λz6=>
 J (!z6)):Option Bool).bind λx3=>
 if x3=Z then(
 J (aa,aa))else(
 (rC a0 (a2.length:Int)).bind λz8=>
 if(!z8.2)=Z then(
 J (aa,aa))else(
 (IX a0 a1 z8.1 a2 a3 a4).bind λbX=>
 J (bX,Z))))
def zm3{a0 a1 a2 a3 a4 r}(hr:E5 a0 a1 a2 a3 a4=J r):ap Tryz.prog 104 [(.sh,vE a0),(.sh,.int .i64 a1),(.sh,vH a2),(.sh,vH a3),(.sh,vL a4)] (Eo (.bO [.bool r.1,.bool r.2]) rX):=by
 apply pE [] hr zFw Tryz.AhI;intro Φ ak hF g;unfold E5 at hF;refine wW ?_;refine bS hF [1,2,3,5,9] (λx3=>[(25,.v (.bool x3))]) (λx3 hF=>?_) λ_ hj0 hF=>?_
 ·have c0:= @Nd;have c1:= @zqt;exact wL
 have c0:= @HC;exact wL
def Fj(a0:bZ):Option Bool:=
 J ((i64.wrap ((i64.wrap ((a0.aC.length:Int)+(a0.aV.length:Int)))+(a0.aD.length:Int)))==0)
def UH{a0 r}(hr:Fj a0=J r):ap Tryz.prog 167 [(.sh,vS a0)] (Eo (.bool r) [.au]):=by
 apply pE [] hr zGe Tryz.AiS;intro Φ ak hF g;unfold Fj at hF;exact wL
def GD(a0:cn):Option Bool:=
 ((if((i64.wrap ((i64.wrap ((a0.bQ.length:Int)+(a0.bL.length:Int)))+(a0.aF.length:Int)))==0)=Z then(
 (Fj a0.Pi).bind λz5=>
 J z5)else(
 J aa):Option Bool).bind λx3=>
 J x3)
def zqB{a0 r}(hr:GD a0=J r):ap Tryz.prog 105 [(.sh,vM a0)] (Eo (.bool r) [.au]):=by
 apply pE [] hr zFv Tryz.Aea;intro Φ ak hF g;unfold GD at hF;refine wW ?_;refine wJ hF (λx3=>[(2,.v (.bool x3))]) (λx3 hF=>?_) λ_ hj0 hF=>?_
 ·exact wm ak hF
 have c0:= @UH;exact wL
def JN(a0:am)(a1:Int)(a2:cn):Option Bool:=
 ((if((a2.bQ.length:Int)==a1)=Z then(
 if((a2.bL.length:Int)==a1)=Z then(
 if((a2.aF.length:Int)==a1)=Z then(
 if((a2.Pi.aC.length:Int)==(i64.wrap ((i64.wrap (3*a1))+3)))=Z then(
 if((a2.Pi.aV.length:Int)==1)=Z then(
 if((a2.Pi.aD.length:Int)==(i64.wrap ((i64.wrap (5*a1))+2)))=Z then(
 (pW a0 a2.bQ).bind λbX=>
 if bX=Z then(
 (pW a0 a2.bL).bind λbH=>
 if bH=Z then(
 (pW a0 a2.aF).bind λeQ=>
 if eQ=Z then(
 (pW a0 a2.Pi.aC).bind λk8=>
 if k8=Z then(
 (r6 a0 a2.Pi.aD).bind λfM=>
 J fM)else(
 J aa))else(
 J aa))else(
 J aa))else(
 J aa))else(
 J aa))else(
 J aa))else(
 J aa))else(
 J aa))else(
 J aa))else(
 J aa):Option Bool).bind λx3=>
 J x3)
def zrH{a0 a1 a2 r}(hr:JN a0 a1 a2=J r):ap Tryz.prog 207 [(.sh,vE a0),(.sh,.int .i64 a1),(.sh,vM a2)] (Eo (.bool r) gq):=by
 apply pE [] hr zE5 Tryz.Aeb;intro Φ ak hF g;unfold JN at hF;refine wW ?_;refine wJ hF (λx3=>[(6,.v (.bool x3))]) (λx3 hF=>?_) λ_ hj0 hF=>?_
 ·exact wm ak hF
 have c0:= @Nl;have c1:= @IE;exact wL
def Km(a0:Int)(a1:Int)(a2:Int)(a3:Int)(a4:Int):Option Int:=
 gd (a0≠0)<|
 ((dI (σ:=Int×Int×Int) (λs4=>
 if decide (s4.2.2<=a1)=Z then(
 gd (a0≠0)<|
 gd (a0≠0)<|
 (qk (i64.wrap ((i64.wrap ((i64.wrap (a3*(s4.2.2.tmod a0)))+((i64.wrap (s4.2.1*a2)).tmod a0)))-a4)) a0).bind λbX=>
 gd (a0≠0)<|
 J (.go ((i64.wrap (s4.1*bX)).tmod a0,(i64.wrap (s4.2.1*a2)).tmod a0,i64.wrap (s4.2.2+1))))else(
 J (.out s4.1))) ((1:Int).tmod a0,1,1):Option Int).bind λx3=>
 J x3)
def zqV{a0 a1 a2 a3 a4 r}(hr:Km a0 a1 a2 a3 a4=J r):ap Tryz.prog 208 [(.sh,.int .i64 a0),(.sh,.int .i64 a1),(.sh,.int .i64 a2),(.sh,.int .i64 a3),(.sh,.int .i64 a4)] (Eo (.int .i64 r) rX):=by
 apply pE [] hr zHt Tryz.Ahf;intro Φ ak hF g;unfold Km at hF;obtain⟨g,hF⟩:=Rz g hF
 iterate 3 refine wW ?_
 refine wJ hF (λx3=>[(11,.v (.int .i64 x3))]) (λx3 hF=>?_) λ_ hj0 hF=>?_
 ·exact wl ak hF
 refine wB ?_;obtain⟨KV,xq,bg⟩:=hF;refine jI xq [0,1,2,3,4] (λs4=>[(11,.v (.int .i64 s4.1)),(12,.v (.int .i64 s4.2.1)),(13,.v (.int .i64 s4.2.2))]) λs4 _ _ bo ba hF=>?_
 have c0:= @Ka;exact wL
def Em(a0:am)(a1:Int)(a2:Int):Option ((List Int)):=
 ((dI (σ:=(List Int)×Int) (λs4=>
 if decide (s4.2<=a1)=Z then(
 (kW a2 s4.2 a0.Q).bind λbX=>
 gd ((s4.1.length+1)*8<=140737488355328/\s4.1.length+1<=4611686018427387904)<|
 J (.go (s4.1++[bX],i64.wrap (s4.2+1))))else(
 J (.out s4.1))) ([],1):Option ((List Int))).bind λx3=>
 J x3)
def VV{a0 a1 a2 r}(hr:Em a0 a1 a2=J r):ap Tryz.prog 209 [(.sh,vE a0),(.sh,.int .i64 a1),(.sh,.int .i64 a2)] (Eo (vD r) gq):=by
 apply pE [] hr zHq Tryz.Ags;intro Φ ak hF g;unfold Em at hF
 iterate 3 refine wW ?_
 refine wJ hF (λx3=>[(7,.v (vD x3))]) (λx3 hF=>?_) λ_ hj0 hF=>?_
 ·exact wl ak hF
 refine wB ?_;obtain⟨KV,xq,bg⟩:=hF;refine jI xq [1,2,3] (λs4=>[(7,.v (vD s4.1)),(8,.v (.int .i64 s4.2))]) λs4 _ _ bo ba hF=>?_
 have c0:= @ye;exact wL
def CG(a0:am)(a1:Int)(a2:Int)(a3:List an)(a4:List an)(a5:cn):Option Bool:=
 ((if((a4.length:Int) !=(a3.length:Int))=Z then(
 J Z)else(
 (JN a0 (a3.length:Int) a5).bind λz5=>
 if(!z5)=Z then(
 J Z)else(
 (ix a5.Pi.aV 0).bind λx7=>
 (AE a0 a1 a3 a4 a5).bind λz8=>
 J (x7 !=z8))):Option Bool).bind λx3=>
 if x3=Z then(
 J aa)else(
 (ix a5.Pi.aV 0).bind λer=>
 (rD a1 a3 a4 a5.bQ).bind λb7=>
 (pY a0 (⟨#[109,105,120,32,120]⟩:ByteArray) b7).bind λbH=>
 (AU a0 a1 a3 a4 a5.bQ a5.bL).bind λdk=>
 gd (0<=(i64.wrap ((i64.wrap (3*(a3.length:Int)))+1)))<|
 gd (0<=(i64.wrap ((i64.wrap (4*(a3.length:Int)))+1)))<|
 gd ((i64.wrap ((i64.wrap (3*(a3.length:Int)))+1)).toNat<=(i64.wrap ((i64.wrap (4*(a3.length:Int)))+1)).toNat/\(i64.wrap ((i64.wrap (4*(a3.length:Int)))+1)).toNat<=a5.Pi.aD.length)<|
 (ix a5.Pi.aD (i64.wrap ((i64.wrap (5*(a3.length:Int)))+1))).bind λe7=>
 ((dI (σ:=(List Int)×List Int×Int) (λfi=>
 if decide (fi.2.2<(a3.length:Int))=Z then(
 (ix a5.bQ fi.2.2).bind λBj=>
 (ix a5.bL fi.2.2).bind λqx=>
 (cC a0 Bj dk.1).bind λiT=>
 (cC a0 a0.G (i64.wrap (0-dk.2))).bind λnm=>
 (ej a0 [iT,qx,nm]).bind λfS=>
 gd ((fi.1.length+1)*8<=140737488355328/\fi.1.length+1<=4611686018427387904)<|
 (ix a5.Pi.aD fi.2.2).bind λke=>
 (ix a5.Pi.aD (i64.wrap ((a3.length:Int)+fi.2.2))).bind λEb=>
 (nO a0 a2 ke Eb).bind λgw=>
 gd ((fi.2.1.length+1)*8<=140737488355328/\fi.2.1.length+1<=4611686018427387904)<|
 J (.go (fi.1++[fS],fi.2.1++[gw],i64.wrap (fi.2.2+1))))else(
 J (.out (fi.1,fi.2.1)))) ([],[],0):Option ((List Int×List Int))).bind λbG=>
 ((dI (σ:=(List Int)×List Int×Int×Int) (λfc=>
 if decide (fc.2.2.2<(a3.length:Int))=Z then(
 (ix a5.aF fc.2.2.2).bind λuE=>
 gd ((fc.1.length+1)*8<=140737488355328/\fc.1.length+1<=4611686018427387904)<|
 (ix a5.Pi.aD fc.2.2.2).bind λCU=>
 (ix a5.Pi.aD (i64.wrap ((i64.wrap (2*(a3.length:Int)))+fc.2.2.2))).bind λA9=>
 (cC a0 fc.2.2.1 CU).bind λE7=>
 (cC a0 a2 A9).bind λEa=>
 (ej a0 [E7,Ea]).bind λDH=>
 gd ((fc.2.1.length+1)*8<=140737488355328/\fc.2.1.length+1<=4611686018427387904)<|
 J (.go (fc.1++[uE],fc.2.1++[DH],uE,i64.wrap (fc.2.2.2+1))))else(
 J (.out (fc.1,fc.2.1)))) (bG.1,bG.2,a0.G,0):Option ((List Int×List Int))).bind λnL=>
 (ix a5.aF (i64.wrap ((a3.length:Int)-1))).bind λWt=>
 (Km a0.Q (a3.length:Int) bH dk.1 dk.2).bind λqY=>
 (cC a0 a0.G (i64.wrap (0-qY))).bind λCE=>
 (ej a0 [Wt,CE]).bind λZq=>
 gd ((nL.1.length+1)*8<=140737488355328/\nL.1.length+1<=4611686018427387904)<|
 (ix a5.Pi.aD (i64.wrap (3*(a3.length:Int)))).bind λiE=>
 (cC a0 a2 iE).bind λU2=>
 gd ((nL.2.length+1)*8<=140737488355328/\nL.2.length+1<=4611686018427387904)<|
 ((dI (σ:=(List Int)×List Int×Int) (λfP=>
 if decide (fP.2.2<(a3.length:Int))=Z then(
 (ix a5.bL fP.2.2).bind λqJ=>
 gd ((fP.1.length+1)*8<=140737488355328/\fP.1.length+1<=4611686018427387904)<|
 (ix ((a5.Pi.aD.take ((i64.wrap ((i64.wrap (4*(a3.length:Int)))+1)).toNat)).drop ((i64.wrap ((i64.wrap (3*(a3.length:Int)))+1)).toNat)) fP.2.2).bind λMb=>
 (ix a5.Pi.aD (i64.wrap ((i64.wrap ((i64.wrap (4*(a3.length:Int)))+1))+fP.2.2))).bind λIb=>
 (nO a0 a2 Mb Ib).bind λqj=>
 gd ((fP.2.1.length+1)*8<=140737488355328/\fP.2.1.length+1<=4611686018427387904)<|
 J (.go (fP.1++[qJ],fP.2.1++[qj],i64.wrap (fP.2.2+1))))else(
 J (.out (fP.1,fP.2.1)))) (nL.1++[Zq],nL.2++[U2],0):Option ((List Int×List Int))).bind λn7=>
 (ut a3).bind λoM=>
 (ut a4).bind λrQ=>
 (Em a0 (a3.length:Int) bH).bind λxz=>
 (k9 a0 oM.1 xz).bind λFg=>
 (Em a0 (a3.length:Int) bH).bind λLM=>
 (k9 a0 oM.2 LM).bind λz77=>
 gd ((n7.1.length+2)*8<=140737488355328/\n7.1.length+2<=4611686018427387904)<|
 (cC a0 a0.G (i64.wrap (0-e7))).bind λCB=>
 (k9 a0 rQ.1 ((a5.Pi.aD.take ((i64.wrap ((i64.wrap (4*(a3.length:Int)))+1)).toNat)).drop ((i64.wrap ((i64.wrap (3*(a3.length:Int)))+1)).toNat))).bind λBf=>
 (ej a0 [CB,Bf]).bind λvl=>
 (cC a0 a1 (i64.wrap (0-e7))).bind λnc=>
 (k9 a0 rQ.2 ((a5.Pi.aD.take ((i64.wrap ((i64.wrap (4*(a3.length:Int)))+1)).toNat)).drop ((i64.wrap ((i64.wrap (3*(a3.length:Int)))+1)).toNat))).bind λBK=>
 (ej a0 [nc,BK]).bind λIh=>
 gd ((n7.2.length+2)*8<=140737488355328/\n7.2.length+2<=4611686018427387904)<|
 ((aS (σ:=(List Int)×List Int) (λuj nZ=>
 (ix a5.Pi.aC uj).bind λFf=>
 (ix nZ.1 uj).bind λSR=>
 (ix nZ.2 uj).bind λOZ=>
 (cC a0 SR er).bind λFd=>
 (ej a0 [Ff,Fd]).bind λRa=>
 if(Ra !=OZ)=Z then(
 J (.out (.inr aa)))else(
 J (.go (nZ.1,nZ.2)))) (λnZ=>.inl ()) (a5.Pi.aC.length) 0 (n7.1++[Fg,z77],n7.2++[vl,Ih]):Option (Unit ⊕ Bool)).bind (Sum.elim (λpy=>
 J Z) J)))))))
set_option maxHeartbeats 16000000 in
def zqS{a0 a1 a2 a3 a4 a5 r}(hr:CG a0 a1 a2 a3 a4 a5=J r):ap Tryz.prog 168 [(.sh,vE a0),(.sh,.int .i64 a1),(.sh,.int .i64 a2),(.sh,vH a3),(.sh,vH a4),(.sh,vM a5)] (Eo (.bool r) sj):=by
 apply pE [] hr zG8 Tryz.Ad6;intro Φ ak hF g;unfold CG at hF
 iterate 2 (try simp[go_sem,g];try intros;refine bu ?_)
 refine bS hF [1,2,3,4,6,11,13] (λx3=>[(59,.v (.bool x3))]) (λx3 hF=>?_) λ_ hj0 hF=>?_
 ·refine wI hF (λh9 hF=>?_) λh9 hF=>?_
  ·exact wl ak hF
  obtain⟨er,g,hF⟩:=j8 g 0 hF;refine wW ?_;refine wK [1,2,3,4,6,11,13,14] ?_;refine wW ?_;refine wZ (kD 0 [50,0,0,0,89,90,3,3,0]) follows ?_;refine wE hF EI λb7 hF=>?_
  refine wE hF FT λbH hF=>?_
  refine wK [1,2,3,4,6,11,13,14,15,16] ?_;refine wE hF zlX λdk hF=>?_
  refine wK [1,2,3,4,6,11,13,14,15,16,17,18] ?_
  iterate 3 obtain⟨g,hF⟩:=Rg g hF
  obtain⟨e7,g,hF⟩:=Rx g hF;refine wW ?_;refine wK [1,2,3,4,6,11,13,14,15,16,17,18,19,20] ?_
  iterate 2 refine wW ?_
  refine bS hF [1,2,3,4,6,11,13,14,15,16,17,18,19,20] (λbG=>[(21,.v (vD bG.1)),(22,.v (vD bG.2))]) (λbG hF=>?_) λ_ hj0 hF=>?_
  ·iterate 2 refine wW ?_
   refine bS hF [1,2,3,4,6,11,13,14,15,16,17,18,19,20] (λnL=>[(21,.v (vD nL.1)),(22,.v (vD nL.2))]) (λnL hF=>?_) λ_ hj0 hF=>?_
   ·refine wZ (kD 0 [0,50,89,90,0,0,0,0,50,49,50,49,50,0,0,0,0,4,0,4,0,6,0,5,0]) follows ?_;obtain⟨Wt,g,hF⟩:=Rx g hF;refine wD hF zqV λqY hF=>?_
    refine wD hF ft λCE hF=>?_
    refine wE hF hJ λZq hF=>?_
    obtain⟨g,hF⟩:=Rg g hF;refine wK [1,2,3,4,6,11,13,14,15,16,19,20,21,22] ?_;refine wZ (kD 0 [0,50,0,0,0,0,0,0,3,0,5,0]) follows ?_;obtain⟨iE,g,hF⟩:=Rx g hF;refine wE hF ft λU2 hF=>?_
    obtain⟨g,hF⟩:=Rg g hF;refine wK [1,2,3,4,6,11,13,14,15,16,19,20,21,22] ?_;refine wW ?_;refine bS hF [1,3,4,6,11,13,14,16,19,20] (λn7=>[(21,.v (vD n7.1)),(22,.v (vD n7.2))]) (λn7 hF=>?_) λ_ hj0 hF=>?_
    ·refine wE hF Gi λoM hF=>?_
     refine wW ?_;refine wE hF Gi λrQ hF=>?_
     refine wK [1,6,11,13,14,16,19,20,21,22,27,28,29,30] ?_;refine wZ (kE [0,1,2,3,4,5,8,9,10,11,12,6,7,13,14,15,16,17] [0,50,0,50,0,0,50,0,50,0,0,3,3,3,3,0,5,0]) follows ?_;refine wE hF VV λxz hF=>?_
     refine wE hF oI λFg hF=>?_
     refine wE hF VV λLM hF=>?_
     refine wE hF oI λz77 hF=>?_
     obtain⟨g,hF⟩:=Rg g hF;refine wK [1,6,11,14,19,20,21,22,29,30] ?_;refine wZ (kE [0,1,2,3,4,5,6,8,9,10,14,15,16,17,18,20,21,22,7,11,12,13,19,23,24,25,26,27,28] [0,50,50,49,50,0,0,50,0,0,50,50,0,0,0,50,0,0,3,3,0,6,3,3,0,6,0,5,0]) follows ?_;refine wE hF ft λCB hF=>?_
     refine wE hF oI λBf hF=>?_
     refine wE hF hJ λvl hF=>?_
     refine wE hF ft λnc hF=>?_
     refine wE hF oI λBK hF=>?_
     refine wE hF hJ λIh hF=>?_
     obtain⟨g,hF⟩:=Rg g hF;refine wK [6,11,14,21,22] ?_;try simp[go_sem,g]
     try intros
     refine bu ?_;refine wS hF (λpy=>[]) (λpy hF=>?_) λ_ hj0 dB hF=>?_
     ·exact wl ak hF
     refine wR hF [6,14,314,315] (λuj nZ=>[(21,.v (vD nZ.1)),(22,.v (vD nZ.2)),(316,.v (.int .i64 uj))]) λb bg uj nZ _ _ aO aN bo ba hF=>?_
     refine wW ?_;refine wu aO aN ?_;refine wW ?_;refine wB ?_;obtain⟨Ff,g,hF⟩:=Rx g hF;refine wK [6,14,21,22,31,32,314,315,316] ?_;refine wZ (kE [0,1,2,3,4,5,6,7,11,12,13,14,8,9,10,15] [50,0,50,0,0,0,0,0,0,0,0,0,4,0,7,0]) follows ?_;have c0:= @ft;have c1:= @hJ;exact wL
    refine wB ?_;obtain⟨b70,Ab2,bg⟩:=hF;refine jI Ab2 [1,2,3,4,6,11,13,14,15,16,19,20] (λfP=>[(21,.v (vD fP.1)),(22,.v (vD fP.2.1)),(26,.v (.int .i64 fP.2.2))]) λfP _ _ bo ba hF=>?_
    refine wW ?_;refine wI hF (λh65 hF=>?_) λh65 hF=>?_
    ·refine wW ?_;refine wB ?_;obtain⟨qJ,g,hF⟩:=Rx g hF;obtain⟨g,hF⟩:=Rg g hF;refine wK [1,2,3,4,6,11,13,14,15,16,19,20,21,22,26] ?_;refine wZ (kD 0 [0,50,0,0,0,0,0,0,0,0,0,0,0,0,0,3,0,5,0]) follows ?_;obtain⟨Mb,g,hF⟩:=ig g hF;have c0:= @Bh;exact wL
    exact wL
   refine wB ?_;obtain⟨b49,Aa8,bg⟩:=hF;refine jI Aa8 [1,2,3,4,6,11,13,14,15,16,17,18,19,20] (λfc=>[(21,.v (vD fc.1)),(22,.v (vD fc.2.1)),(24,.v (.int .i64 fc.2.2.1)),(25,.v (.int .i64 fc.2.2.2))]) λfc _ _ bo ba hF=>?_
   refine wK [1,2,3,4,6,11,13,14,15,16,17,18,19,20,21,22,24,25,152] ?_;refine wI hF (λh42 hF=>?_) λh42 hF=>?_
   ·refine wW ?_;refine wB ?_;obtain⟨uE,g,hF⟩:=Rx g hF;obtain⟨g,hF⟩:=Rg g hF;refine wW ?_;refine wZ (kE [0,1,2,3,4,5,6,7,9,10,11,12,13,14,15,16,17,8,18,19,20,21,22,23] [0,50,50,0,0,0,0,0,50,0,0,0,0,0,0,0,0,4,3,0,6,0,5,0]) follows ?_;have c0:= @ft;have c1:= @hJ;exact wL
   exact wL
  refine wB ?_;obtain⟨b32,O2,bg⟩:=hF;refine jI O2 [1,2,3,4,6,11,13,14,15,16,17,18,19,20] (λfi=>[(21,.v (vD fi.1)),(22,.v (vD fi.2.1)),(23,.v (.int .i64 fi.2.2))]) λfi _ _ bo ba hF=>?_
  refine wW ?_;refine wI hF (λSQ hF=>?_) λSQ hF=>?_
  ·refine wW ?_;refine wB ?_;refine wZ (kE [0,1,2,3,4,5,6,7,8,10,11,12,13,14,15,16,17,18,19,9,20,21,22,23,24,25] [0,50,50,89,90,0,0,0,0,89,90,0,0,0,50,49,50,0,0,4,4,0,6,0,5,0]) follows ?_;obtain⟨Bj,g,hF⟩:=Rx g hF;obtain⟨qx,g,hF⟩:=Rx g hF;refine wD hF ft λiT hF=>?_
   refine wD hF ft λnm hF=>?_
   refine wE hF hJ λfS hF=>?_
   obtain⟨g,hF⟩:=Rg g hF;refine wK [1,2,3,4,6,11,13,14,15,16,17,18,19,20,21,22,23] ?_;refine wZ (kD 0 [0,50,0,0,0,0,0,0,0,0,0,0,0,3,0,5,0]) follows ?_;have c0:= @Bh;exact wL
  exact wL
 refine wZ (kD 0 [0,0,0,0,0,50,0,90,3,0,0,0,89,89,90,0,0,50,0,0,0,90,4,0,0]) follows ?_;have c0:= @zrH;have c1:= @zoJ;exact wL
def El(a0:am)(a1:Int)(a2:List an)(a3:List an)(a4:cn):Option (Bool×Bool):=
 (((pD a0 a1 a2).bind λz4=>
 if(!z4)=Z then(
 J Z)else(
 (pD a0 a1 a3).bind λz6=>
 J (!z6)):Option Bool).bind λx3=>
 if x3=Z then(
 J (aa,aa))else(
 (EM a0).bind λz8=>
 if(!z8.2)=Z then(
 J (aa,aa))else(
 (CG a0 a1 z8.1 a2 a3 a4).bind λbX=>
 J (bX,Z))))
def zoz{a0 a1 a2 a3 a4 r}(hr:El a0 a1 a2 a3 a4=J r):ap Tryz.prog 106 [(.sh,vE a0),(.sh,.int .i64 a1),(.sh,vH a2),(.sh,vH a3),(.sh,vM a4)] (Eo (.bO [.bool r.1,.bool r.2]) rX):=by
 apply pE [] hr zF7 Tryz.Aim;intro Φ ak hF g;unfold El at hF;refine wW ?_;refine bS hF [1,2,3,5,9] (λx3=>[(25,.v (.bool x3))]) (λx3 hF=>?_) λ_ hj0 hF=>?_
 ·have c0:= @W6;have c1:= @zqS;exact wL
 have c0:= @HC;exact wL
def Jv(a0:cF):Option Bool:=
 ((if((i64.wrap ((a0.cu.length:Int)+(a0.aF.length:Int)))==0)=Z then(
 (Fj a0.Pi).bind λz5=>
 J z5)else(
 J aa):Option Bool).bind λx3=>
 J x3)
end
end Go.Pm
