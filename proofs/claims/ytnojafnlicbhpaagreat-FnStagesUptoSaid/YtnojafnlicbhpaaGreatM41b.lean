/-
  Plain functions and their walks. Written by wip/tools/lift.py.
-/
import Derived.Test.YtnojafnlicbhpaaGreatM41
open Bool renaming false→aa,true→Z
open Option renaming none→ae,some→J
set_option linter.defProp false
namespace Go.Pm
open Go.Am IntKind
open Go.Proofs
set_option maxRecDepth 100000
set_option maxHeartbeats 4000000
attribute [local irreducible] pw pwx pw1 pwg qv qz qf
attribute [-simp] List.map_set
set_option linter.unusedSimpArgs false
set_option linter.unusedVariables false
noncomputable section
def zp9{a0 a1 a2 a3 r}(hr:IE a0 a1 a2 a3=J r):ap Tryz.prog 186 [(.sh,vE a0),(.sh,vJ a1),(.sh,vC a2),(.sh,vC a3)] (Eo (vD r) kP):=by
 apply pE [] hr zFk Tryz.func186;intro Φ ak hF g;unfold IE at hF;obtain⟨g,hF⟩:=Rg g hF;obtain⟨x1,e2,hF⟩:=mi hF;have g3:List.replicate a2.length ([.int .i64 0]:List PV)=x1.map aJ:=by injection e2 with e2;rw[<-e2];simp[go_sem]
 iterate 2 (try simp[go_sem,g,g3];try intros;refine bu ?_)
 try simp[go_sem,g,g3]
 try intros
 refine wK [3,4,5,9,15,16,17] ?_;refine wJ hF (λx6=>[(9,.v (vD x6))]) (λx6 hF=>?_) λ_ hj0 hF=>?_
 ·exact wl ak hF
 refine wR hF [3,4,5,15,16] (λmj dy=>[(9,.v (vD dy)),(17,.v (.int .i64 mj))]) λb bg mj dy _ _ aO aN bo ba hF=>?_
 refine wW ?_;refine wu aO aN ?_;refine wW ?_;refine wB ?_;obtain⟨fR,g,hF⟩:=Rx g hF;refine wW ?_;refine wZ (kE [0,1,2,3,4,5,6,7,8,9,11,12,13,14,15,10,16,17,18,19] [0,0,34,34,33,34,0,0,0,0,41,42,0,0,0,4,0,6,0,0]) follows ?_;have c0:= @ft;have c1:= @gZ;exact wL
def rP(a0:Int)(a1:List an)(a2:List an)(a3:List Int):Option ((List Int)):=
 ((aS (σ:=(List Int)) (λi5 s4=>
 (ix a1 i5).bind λaU=>
 gd ((s4.length+2)*8<=140737488355328/\s4.length+2<=4611686018427387904)<|
 J (.go (s4++[aU.A,aU.B]))) (λs4=>s4) (a1.length) 0 [a0]:Option ((List Int))).bind λx3=>
 ((aS (σ:=(List Int)) (λqO eD=>
 (ix a2 qO).bind λFu=>
 gd ((eD.length+2)*8<=140737488355328/\eD.length+2<=4611686018427387904)<|
 J (.go (eD++[Fu.A,Fu.B]))) (λeD=>eD) (a2.length) 0 x3:Option ((List Int))).bind λl4=>
 gd ((l4.length+a3.length)*8<=140737488355328/\l4.length+a3.length<=4611686018427387904)<|
 J (l4++a3)))
def Ew{a0 a1 a2 a3 r}(hr:rP a0 a1 a2 a3=J r):ap Tryz.prog 198 [(.sh,.int .i64 a0),(.sh,vH a1),(.sh,vH a2),(.sh,vC a3)] (Eo (vD r) kP):=by
 apply pE [] hr zEY Tryz.func198;intro Φ ak hF g;unfold rP at hF
 iterate 3 (try simp[go_sem,g];try intros;refine bu ?_)
 refine bT hF [2,3] (λx3=>[(9,.v (vD x3))]) (λx3 hF=>?_) λ_ hj0 hF=>?_
 ·try simp[go_sem,g]
  try intros
  refine wK [3,9,30,31,32] ?_;refine wJ hF (λl4=>[(3,.v (vC a3)),(9,.v (vD l4))]) (λl4 hF=>?_) λ_ hj0 hF=>?_
  ·exact wL
  refine wR hF [3,30,31] (λqO eD=>[(9,.v (vD eD)),(32,.v (.int .i64 qO))]) λb bg qO eD _ _ aO aN bo ba hF=>?_
  exact wL
 refine wR hF [2,3,16,17] (λi5 s4=>[(9,.v (vD s4)),(18,.v (.int .i64 i5))]) λb bg i5 s4 _ _ aO aN bo ba hF=>?_
 exact wL
def Bv(a0:List Int):Option ((List Int)):=
 gd (a0.length*8<=140737488355328/\a0.length<=4611686018427387904)<|
 J a0
def Ml{a0 r}(hr:Bv a0=J r):ap Tryz.prog 67 [(.sh,vC a0)] (Eo (vD r) [.au]):=by
 apply pE [] hr zKi Tryz.func67;intro Φ ak hF g;unfold Bv at hF;exact wL
def pU(a0:am)(a1:ByteArray)(a2:List Int):Option Int:=
 gd (([a0.P,a0.Q,a0.G].length+a2.length)*8<=140737488355328/\[a0.P,a0.Q,a0.G].length+a2.length<=4611686018427387904)<|
 (En a1 ([a0.P,a0.Q,a0.G]++a2)).bind λz1=>
 gd (a0.Q≠0)<|
 J (z1.tmod a0.Q)
def Ed{a0 a1 a2 r}(hr:pU a0 a1 a2=J r):ap Tryz.prog 197 [(.sh,vE a0),(.sh,.str a1),(.sh,vC a2)] (Eo (.int .i64 r) gw):=by
 apply pE [] hr zEG Tryz.func197;intro Φ ak hF g;unfold pU at hF;refine wW ?_;refine wZ (kE [0,1,2,3,4,5,6,7,8,11,12,9,10,13,14] [0,25,26,25,26,25,26,0,0,25,26,5,3,0,0]) follows ?_;have c0:= @Ze;exact wL
def DF(a0:am)(a1:ByteArray)(a2:List Int)(a3:Int):Option ((List Int)):=
 ((dI (σ:=(List Int)×Int) (λs4=>
 if decide (s4.2<a3)=Z then(
 (Bv a2).bind λbX=>
 gd ((bX.length+1)*8<=140737488355328/\bX.length+1<=4611686018427387904)<|
 (pU a0 a1 (bX++[s4.2])).bind λb8=>
 gd ((s4.1.length+1)*8<=140737488355328/\s4.1.length+1<=4611686018427387904)<|
 J (.go (s4.1++[b8],i64.wrap (s4.2+1))))else(
 J (.out s4.1))) ([],0):Option ((List Int))).bind λx3=>
 J x3)
def zns{a0 a1 a2 a3 r}(hr:DF a0 a1 a2 a3=J r):ap Tryz.prog 213 [(.sh,vE a0),(.sh,.str a1),(.sh,vC a2),(.sh,.int .i64 a3)] (Eo (vD r) kP):=by
 apply pE [] hr zHL Tryz.func213;intro Φ ak hF g;unfold DF at hF
 iterate 3 refine wW ?_
 refine wJ hF (λx3=>[(9,.v (vD x3))]) (λx3 hF=>?_) λ_ hj0 hF=>?_
 ·exact wl ak hF
 refine wB ?_;obtain⟨b12,PK,bg⟩:=hF;refine jJ PK [1,2,3,4] (λs4=>[(9,.v (vD s4.1)),(10,.v (.int .i64 s4.2))]) λs4 _ _ bo ba hF=>?_
 refine wW ?_;refine wI hF (λh9 hF=>?_) λh9 hF=>?_
 ·refine wW ?_;refine wB ?_;refine wZ (kE [0,1,2,3,5,6,4,7,8,9,10,11] [0,34,0,0,0,0,3,5,3,0,5,0]) follows ?_;have c0:= @Ml;have c1:= @Ed;exact wL
 exact wL
def Ax(a0:am)(a1:Int)(a2:List an)(a3:List an)(a4:List Int):Option ((List Int)):=
 (rP a1 a2 a3 a4).bind λz1=>
 (DF a0 (⟨#[109,105,120,32,99,111,108,117,109,110,115]⟩:ByteArray) z1 (a2.length:Int)).bind λz2=>
 J z2
def Xk{a0 a1 a2 a3 a4 r}(hr:Ax a0 a1 a2 a3 a4=J r):ap Tryz.prog 187 [(.sh,vE a0),(.sh,.int .i64 a1),(.sh,vH a2),(.sh,vH a3),(.sh,vC a4)] (Eo (vD r) si):=by
 apply pE [] hr zFm Tryz.func187;intro Φ ak hF g;unfold Ax at hF;refine wW ?_;refine wZ (kE [0,1,2,3,4,6,7,5,8,9] [42,0,0,0,0,0,0,3,3,0]) follows ?_;have c0:= @Ew;have c1:= @zns;exact wL
def Ki(a0:am)(a1:ct)(a2:List Int)(a3:List Int):Option ((List Int)):=
 ((aS (σ:=(List Int)×Int) (λi5 s4=>
 (ix a2 i5).bind λaU=>
 (ix a3 i5).bind λcZ=>
 (cD a0 a0.G cZ).bind λdm=>
 (cD a0 s4.2 aU).bind λeS=>
 (eg a0 [dm,eS]).bind λfH=>
 gd ((s4.1.length+1)*8<=140737488355328/\s4.1.length+1<=4611686018427387904)<|
 J (.go (s4.1++[fH],fH))) (λs4=>s4.1) (a2.length) 0 ([],a1.H):Option ((List Int))).bind λx3=>
 J x3)
def zrN{a0 a1 a2 a3 r}(hr:Ki a0 a1 a2 a3=J r):ap Tryz.prog 188 [(.sh,vE a0),(.sh,vJ a1),(.sh,vC a2),(.sh,vC a3)] (Eo (vD r) kP):=by
 apply pE [] hr zFr Tryz.func188;intro Φ ak hF g;unfold Ki at hF
 iterate 3 (try simp[go_sem,g];try intros;refine bu ?_)
 try simp[go_sem,g]
 try intros
 refine wK [3,4,9,10,15,16,17] ?_;refine wJ hF (λx3=>[(9,.v (vD x3))]) (λx3 hF=>?_) λ_ hj0 hF=>?_
 ·exact wl ak hF
 refine wR hF [3,4,15,16] (λi5 s4=>[(9,.v (vD s4.1)),(10,.v (.int .i64 s4.2)),(17,.v (.int .i64 i5))]) λb bg i5 s4 _ _ aO aN bo ba hF=>?_
 refine wW ?_;refine wu aO aN ?_;refine wW ?_;refine wB ?_;obtain⟨aU,g,hF⟩:=Rx g hF;refine wW ?_;refine wZ (kE [0,1,2,3,4,5,6,7,9,10,11,8,12,13,14,15] [34,34,33,34,0,0,0,0,34,0,0,3,3,0,6,0]) follows ?_;have c0:= @ft;have c1:= @gZ;exact wL
def uw(a0:List an):Option (List Int×List Int):=
 ((aS (σ:=(List Int)×List Int) (λi5 s4=>
 (ix a0 i5).bind λaU=>
 gd ((s4.1.length+1)*8<=140737488355328/\s4.1.length+1<=4611686018427387904)<|
 gd ((s4.2.length+1)*8<=140737488355328/\s4.2.length+1<=4611686018427387904)<|
 J (.go (s4.1++[aU.A],s4.2++[aU.B]))) (λs4=>(s4.1,s4.2)) (a0.length) 0 ([],[]):Option ((List Int×List Int))).bind λx3=>
 J (x3.1,x3.2))
def Fr{a0 r}(hr:uw a0=J r):ap Tryz.prog 189 [(.sh,vH a0)] (Eo (.bO [vD r.1,vD r.2]) [.au]):=by
 apply pE [] hr zGB Tryz.func189;intro Φ ak hF g;unfold uw at hF
 iterate 3 (try simp[go_sem,g];try intros;refine bu ?_)
 refine wJ hF (λx3=>[(4,.v (vD x3.1)),(5,.v (vD x3.2))]) (λx3 hF=>?_) λ_ hj0 hF=>?_
 ·exact wL
 refine wR hF [8,9] (λi5 s4=>[(4,.v (vD s4.1)),(5,.v (vD s4.2)),(10,.v (.int .i64 i5))]) λb bg i5 s4 _ _ aO aN bo ba hF=>?_
 exact wL
def kV(a0:am)(a1:List Int)(a2:List Int):Option Int:=
 ((aS (σ:=Int) (λi5 s4=>
 (ix a1 i5).bind λaU=>
 (ix a2 i5).bind λcZ=>
 (cD a0 aU cZ).bind λdm=>
 gd (a0.P≠0)<|
 J (.go ((i64.wrap (s4*dm)).tmod a0.P))) (λs4=>s4) (a1.length) 0 1:Option Int).bind λx3=>
 J x3)
def od{a0 a1 a2 r}(hr:kV a0 a1 a2=J r):ap Tryz.prog 191 [(.sh,vE a0),(.sh,vC a1),(.sh,vC a2)] (Eo (.int .i64 r) gw):=by
 apply pE [] hr zHg Tryz.func191;intro Φ ak hF g;unfold kV at hF
 iterate 3 (try simp[go_sem,g];try intros;refine bu ?_)
 refine wJ hF (λx3=>[(7,.v (.int .i64 x3))]) (λx3 hF=>?_) λ_ hj0 hF=>?_
 ·exact wl ak hF
 refine wR hF [2,3,10,11] (λi5 s4=>[(7,.v (.int .i64 s4)),(12,.v (.int .i64 i5))]) λb bg i5 s4 _ _ aO aN bo ba hF=>?_
 refine wW ?_;refine wu aO aN ?_;refine wW ?_;refine wB ?_;obtain⟨aU,g,hF⟩:=Rx g hF;refine wK [2,3,7,8,9,10,11,12] ?_;refine wZ (kE [0,1,2,3,4,5,6,9,10,7,8,11,12] [0,26,0,0,0,0,0,25,26,3,0,0,0]) follows ?_;have c0:= @ft;exact wL
def zM(a0:am)(a1:Int)(a2:List an)(a3:List an)(a4:cH):Option Int:=
 (rP a1 a2 a3 a4.cq).bind λz1=>
 gd ((z1.length+a4.aF.length)*8<=140737488355328/\z1.length+a4.aF.length<=4611686018427387904)<|
 gd (((z1++a4.aF).length+a4.Pi.aC.length)*8<=140737488355328/\(z1++a4.aF).length+a4.Pi.aC.length<=4611686018427387904)<|
 (pU a0 (⟨#[109,105,120,32,112,114,111,111,102]⟩:ByteArray) (z1++a4.aF++a4.Pi.aC)).bind λz2=>
 J z2
def Xj{a0 a1 a2 a3 a4 r}(hr:zM a0 a1 a2 a3 a4=J r):ap Tryz.prog 192 [(.sh,vE a0),(.sh,.int .i64 a1),(.sh,vH a2),(.sh,vH a3),(.sh,vL a4)] (Eo (.int .i64 r) si):=by
 apply pE [] hr zF4 Tryz.func192;intro Φ ak hF g;unfold zM at hF;refine wW ?_;refine wZ (kE [0,1,2,3,4,6,7,5,8,9] [0,0,0,73,74,73,74,3,0,0]) follows ?_;refine wE hF Ew λz1 hF=>?_
 obtain⟨g,hF⟩:=Rg g hF;refine wK [5,9,11] ?_;refine wZ (kD 0 [42,0,73,73,74,0,3,0]) follows ?_;have c0:= @Ed;exact wL
def E8(a0:List Int)(a1:Int):Option Int:=
 ((aS (σ:=Int) (λi5 s4=>
 (ix a0 i5).bind λaU=>
 gd (a1≠0)<|
 J (.go ((i64.wrap (s4+aU)).tmod a1))) (λs4=>s4) (a0.length) 0 0:Option Int).bind λx3=>
 J x3)
def zus{a0 a1 r}(hr:E8 a0 a1=J r):ap Tryz.prog 193 [(.sh,vC a0),(.sh,.int .i64 a1)] (Eo (.int .i64 r) cJ):=by
 apply pE [] hr zG7 Tryz.func193;intro Φ ak hF g;unfold E8 at hF
 iterate 3 (try simp[go_sem,g];try intros;refine bu ?_)
 refine wJ hF (λx3=>[(5,.v (.int .i64 x3))]) (λx3 hF=>?_) λ_ hj0 hF=>?_
 ·exact wl ak hF
 refine wR hF [1,8,9] (λi5 s4=>[(5,.v (.int .i64 s4)),(10,.v (.int .i64 i5))]) λb bg i5 s4 _ _ aO aN bo ba hF=>?_
 exact wL
def u9(a0:List Int)(a1:List Int)(a2:Int):Option Int:=
 ((aS (σ:=Int) (λi5 s4=>
 (ix a0 i5).bind λaU=>
 (ix a1 i5).bind λcZ=>
 gd (a2≠0)<|
 J (.go ((i64.wrap (s4+(i64.wrap (aU*cZ)))).tmod a2))) (λs4=>s4) (a0.length) 0 0:Option Int).bind λx3=>
 J x3)
def Tl{a0 a1 a2 r}(hr:u9 a0 a1 a2=J r):ap Tryz.prog 194 [(.sh,vC a0),(.sh,vC a1),(.sh,.int .i64 a2)] (Eo (.int .i64 r) gw):=by
 apply pE [] hr zGT Tryz.func194;intro Φ ak hF g;unfold u9 at hF
 iterate 3 (try simp[go_sem,g];try intros;refine bu ?_)
 refine wJ hF (λx3=>[(7,.v (.int .i64 x3))]) (λx3 hF=>?_) λ_ hj0 hF=>?_
 ·exact wl ak hF
 refine wR hF [1,2,10,11] (λi5 s4=>[(7,.v (.int .i64 s4)),(12,.v (.int .i64 i5))]) λb bg i5 s4 _ _ aO aN bo ba hF=>?_
 exact wL
def DW(a0:am)(a1:Int)(a2:ct)(a3:List an)(a4:List Int)(a5:List Int)(a6:List Int):Option cH:=
 (CI a0 a1 a3 a4 a5).bind λz1=>
 gd (0<=(a3.length:Int))<|
 gd (0<=a3.length/\a3.length<=a6.length)<|
 gd (0<=(a3.length:Int))<|
 gd (0<=(i64.wrap (2*(a3.length:Int))))<|
 gd (a3.length<=(i64.wrap (2*(a3.length:Int))).toNat/\(i64.wrap (2*(a3.length:Int))).toNat<=a6.length)<|
 (ix a6 (i64.wrap (2*(a3.length:Int)))).bind λx2=>
 (ix a6 (i64.wrap ((i64.wrap (2*(a3.length:Int)))+1))).bind λx3=>
 (ix a6 (i64.wrap ((i64.wrap (2*(a3.length:Int)))+2))).bind λx4=>
 (ix a6 (i64.wrap ((i64.wrap (2*(a3.length:Int)))+3))).bind λx5=>
 gd (0<=(i64.wrap ((i64.wrap (2*(a3.length:Int)))+4)))<|
 gd (0<=(i64.wrap ((i64.wrap (3*(a3.length:Int)))+4)))<|
 gd ((i64.wrap ((i64.wrap (2*(a3.length:Int)))+4)).toNat<=(i64.wrap ((i64.wrap (3*(a3.length:Int)))+4)).toNat/\(i64.wrap ((i64.wrap (3*(a3.length:Int)))+4)).toNat<=a6.length)<|
 gd (0<=(i64.wrap ((i64.wrap (3*(a3.length:Int)))+4)))<|
 gd ((i64.wrap ((i64.wrap (3*(a3.length:Int)))+4)).toNat<=a6.length/\a6.length<=a6.length)<|
 (IE a0 a2 a4 ((a6.take a3.length).drop 0)).bind λz6=>
 (Ax a0 a1 a3 z1 z6).bind λz7=>
 ((aS (σ:=(List Int)×Int) (λzI cK=>
 (ix a4 zI).bind λl4=>
 (ix z7 l4).bind λoZ=>
 gd ((cK.1.length+1)*8<=140737488355328/\cK.1.length+1<=4611686018427387904)<|
 (ix ((a6.take ((i64.wrap (2*(a3.length:Int))).toNat)).drop a3.length) zI).bind λfE=>
 gd (a0.Q≠0)<|
 J (.go (cK.1++[oZ],(i64.wrap (fE+(i64.wrap (oZ*cK.2)))).tmod a0.Q))) (λcK=>(cK.1,cK.2)) (a4.length) 0 ([],0):Option ((List Int×Int))).bind λep=>
 (Ki a0 a2 ep.1 ((a6.take ((i64.wrap (2*(a3.length:Int))).toNat)).drop a3.length)).bind λsQ=>
 (uw z1).bind λiQ=>
 (cD a0 a0.G x2).bind λnk=>
 (cD a0 a0.G x3).bind λfO=>
 (kV a0 a2.Hs ((a6.take a6.length).drop ((i64.wrap ((i64.wrap (3*(a3.length:Int)))+4)).toNat))).bind λnQ=>
 (eg a0 [fO,nQ]).bind λeZ=>
 (cD a0 a0.G x4).bind λgy=>
 (cD a0 a0.G (i64.wrap (0-x5))).bind λKm=>
 (kV a0 iQ.1 ((a6.take a6.length).drop ((i64.wrap ((i64.wrap (3*(a3.length:Int)))+4)).toNat))).bind λiG=>
 (eg a0 [Km,iG]).bind λnx=>
 (cD a0 a1 (i64.wrap (0-x5))).bind λgX=>
 (kV a0 iQ.2 ((a6.take a6.length).drop ((i64.wrap ((i64.wrap (3*(a3.length:Int)))+4)).toNat))).bind λuQ=>
 (eg a0 [gX,uQ]).bind λyD=>
 ((aS (σ:=(List Int)×List Int×List Int×List Int×List Int×Int) (λuT eL=>
 (ix ((a6.take ((i64.wrap ((i64.wrap (3*(a3.length:Int)))+4)).toNat)).drop ((i64.wrap ((i64.wrap (2*(a3.length:Int)))+4)).toNat)) uT).bind λN9=>
 (ix ((a6.take a6.length).drop ((i64.wrap ((i64.wrap (3*(a3.length:Int)))+4)).toNat)) uT).bind λqn=>
 (cD a0 a0.G N9).bind λCK=>
 (cD a0 eL.2.2.2.2.2 qn).bind λBS=>
 (eg a0 [CK,BS]).bind λH7=>
 gd ((eL.2.2.1.length+1)*8<=140737488355328/\eL.2.2.1.length+1<=4611686018427387904)<|
 (ix eL.2.1 uT).bind λqj=>
 J (.go (eL.1,eL.2.1,eL.2.2.1++[H7],eL.2.2.2.1,eL.2.2.2.2.1,qj))) (λeL=>(eL.1,eL.2.1,eL.2.2.1,eL.2.2.2.1,eL.2.2.2.2.1)) (a3.length) 0 (z6,sQ,[nk,eZ,gy,nx,yD],[],[],a2.H):Option ((List Int×List Int×List Int×List Int×List Int))).bind λku=>
 (zM a0 a1 a3 z1 (cH.mk ku.1 ku.2.1 (bZ.mk ku.2.2.1 ku.2.2.2.1 ku.2.2.2.2))).bind λuR=>
 gd (a0.Q≠0)<|
 (E8 ((a6.take a3.length).drop 0) a0.Q).bind λo0=>
 gd (a0.Q≠0)<|
 (u9 ((a6.take a3.length).drop 0) z7 a0.Q).bind λrj=>
 gd (a0.Q≠0)<|
 (u9 a5 ep.1 a0.Q).bind λyv=>
 gd (a0.Q≠0)<|
 ((aS (σ:=(List Int)×List Int×List Int×List Int×List Int) (λzn fq=>
 (ix ((a6.take ((i64.wrap ((i64.wrap (3*(a3.length:Int)))+4)).toNat)).drop ((i64.wrap ((i64.wrap (2*(a3.length:Int)))+4)).toNat)) zn).bind λxt=>
 (ix ((a6.take ((i64.wrap (2*(a3.length:Int))).toNat)).drop a3.length) zn).bind λxM=>
 gd (a0.Q≠0)<|
 gd ((fq.2.2.2.2.length+1)*8<=140737488355328/\fq.2.2.2.2.length+1<=4611686018427387904)<|
 J (.go (fq.1,fq.2.1,fq.2.2.1,fq.2.2.2.1,fq.2.2.2.2++[(i64.wrap (xt+(i64.wrap (uR*xM)))).tmod a0.Q]))) (λfq=>(fq.1,fq.2.1,fq.2.2.1,fq.2.2.2.1,fq.2.2.2.2)) (a3.length) 0 (ku.1,ku.2.1,ku.2.2.1,[uR],[(i64.wrap (x2+(i64.wrap (uR*o0)))).tmod a0.Q,(i64.wrap (x3+(i64.wrap (uR*rj)))).tmod a0.Q,(i64.wrap (x4+(i64.wrap (uR*ep.2)))).tmod a0.Q,(i64.wrap (x5+(i64.wrap (uR*yv)))).tmod a0.Q]):Option ((List Int×List Int×List Int×List Int×List Int))).bind λkg=>
 ((aS (σ:=(List Int)×List Int×List Int×List Int×List Int) (λId kC=>
 (ix ((a6.take a6.length).drop ((i64.wrap ((i64.wrap (3*(a3.length:Int)))+4)).toNat)) Id).bind λlz=>
 (ix ep.1 Id).bind λAbY=>
 gd (a0.Q≠0)<|
 gd ((kC.2.2.2.2.length+1)*8<=140737488355328/\kC.2.2.2.2.length+1<=4611686018427387904)<|
 J (.go (kC.1,kC.2.1,kC.2.2.1,kC.2.2.2.1,kC.2.2.2.2++[(i64.wrap (lz+(i64.wrap (uR*AbY)))).tmod a0.Q]))) (λkC=>(kC.1,kC.2.1,kC.2.2.1,kC.2.2.2.1,kC.2.2.2.2)) (a3.length) 0 (kg.1,kg.2.1,kg.2.2.1,kg.2.2.2.1,kg.2.2.2.2):Option ((List Int×List Int×List Int×List Int×List Int))).bind λsj=>
 J (cH.mk sj.1 sj.2.1 (bZ.mk sj.2.2.1 sj.2.2.2.1 sj.2.2.2.2))))))
set_option maxHeartbeats 16000000 in
def zrM{a0 a1 a2 a3 a4 a5 a6 r}(hr:DW a0 a1 a2 a3 a4 a5 a6=J r):ap Tryz.prog 150 [(.sh,vE a0),(.sh,.int .i64 a1),(.sh,vJ a2),(.sh,vH a3),(.sh,vC a4),(.sh,vC a5),(.sh,vC a6)] (Eo (vP r) N5):=by
 apply pE [] hr zHa Tryz.func150;intro Φ ak hF g;unfold DW at hF
 iterate 2 (try simp[go_sem,g];try intros;refine bu ?_)
 try simp[go_sem,g]
 try intros
 refine wE hF Si λz1 hF=>?_
 refine wK [1,3,4,5,6,7,9,14,15,16] ?_;refine wZ (kD 0 [0,0,0,0,0,0,0,0,0,0]) follows ?_
 iterate 5 obtain⟨g,hF⟩:=Rg g hF
 refine wK [1,3,4,5,6,7,9,14,15,16,17,18] ?_;refine wZ (kD 0 [0,0,0,0,0,0,0,0,0,0,0,0,0,0,0,0,0,0,0,0,0,0,0,0,0,0,0]) follows ?_;obtain⟨x2,g,hF⟩:=Rx g hF;obtain⟨x3,g,hF⟩:=Rx g hF;obtain⟨x4,g,hF⟩:=Rx g hF;obtain⟨x5,g,hF⟩:=Rx g hF;refine wK [1,3,4,5,6,7,9,14,15,16,17,18,19,20,21,22] ?_;refine wZ (kD 0 [0,0,0,0,0,0,0,0,0,0,0,0,0,0,0]) follows ?_
 iterate 5 obtain⟨g,hF⟩:=Rg g hF
 refine wK [1,3,4,5,7,9,14,16,17,18,19,20,21,22,23,24] ?_;refine wE hF zp9 λz6 hF=>?_
 refine wW ?_;refine wE hF Xk λz7 hF=>?_
 refine wK [1,3,4,5,7,9,14,16,17,18,19,20,21,22,23,24,25,26] ?_
 iterate 3 (try simp[go_sem,g];try intros;refine bu ?_)
 refine bT hF [1,3,5,7,9,14,16,17,18,19,20,21,22,23,24,25,26] (λep=>[(27,.v (vD ep.1)),(28,.v (.int .i64 ep.2))]) (λep hF=>?_) λ_ hj0 hF=>?_
 ·refine wE hF zrN λsQ hF=>?_
  refine wK [1,3,5,7,9,14,16,17,18,19,20,21,22,23,24,25,26,27,28] ?_;refine wE hF Fr λiQ hF=>?_
  refine wW ?_;refine wZ [k2 0 7,k1 1 7,k2 2 7,k0 3,k2 5 7,k2 6 7,k1 7 7,k2 8 7,k0 9,k2 11 7,k1 12 9,k2 13 9,k0 14,k2 18 7,k1 19 7,k2 20 7,k0 21,k2 23 7,k2 24 7,k1 25 7,k2 26 7,k0 27,k0 28,k2 30 7,k0 31,k0 32,k2 36 7,k2 37 7,k0 38,k0 39,k0 40,k2 42 7,k0 43,k0 44,k3 4,k3 10,k3 15,k0 16,λ_=>⟨17,[148,159],[],ae,Z,Z,Z⟩,k3 22,k3 29,k3 33,k0 34,λ_=>⟨35,[166,177],[],ae,Z,Z,Z⟩,k3 41,k3 45,k0 46,λ_=>⟨47,[179,189],[],ae,Z,Z,Z⟩,k0 48,k1 49 25,k1 50 25,λ_=>⟨51,[193,191],[25],J 193,Z,Z,Z⟩] follows ?_;refine wE hF ft λnk hF=>?_
  refine wE hF ft λfO hF=>?_
  refine wE hF od λnQ hF=>?_
  refine wE hF gZ λeZ hF=>?_
  refine wE hF ft λgy hF=>?_
  refine wE hF ft λKm hF=>?_
  refine wE hF od λiG hF=>?_
  refine wE hF gZ λnx hF=>?_
  refine wE hF ft λgX hF=>?_
  refine wE hF od λuQ hF=>?_
  refine wE hF gZ λyD hF=>?_
  refine wK [1,3,5,7,9,14,16,17,18,19,20,21,22,23,24,25,26,27,28] ?_
  iterate 2 (try simp[go_sem,g];try intros;refine bu ?_)
  refine bT hF [1,3,5,7,14,16,17,18,19,20,21,22,23,24,26,27,28] (λku=>[(25,.bl [vD ku.1,vD ku.2.1,vD ku.2.2.1,vD ku.2.2.2.1,vD ku.2.2.2.2])]) (λku hF=>?_) λ_ hj0 hF=>?_
  ·refine wE hF Xj λuR hF=>?_
   refine wK [3,5,7,14,17,18,19,20,21,22,23,24,25,26,27,28,35] ?_;refine wW ?_;refine wZ [k0 0,k0 1,k0 2,k1 3 7,k2 4 7,k1 8 7,k2 9 7,k0 11,k0 12,k0 13,k0 14,k1 15 7,k2 16 7,k1 20 7,k2 21 7,k0 23,k0 24,k0 25,k0 26,k0 27,k1 28 7,k2 29 7,k0 30,k0 31,k0 32,k0 33,k0 34,k1 35 7,k2 36 7,k1 40 7,k2 41 7,k3 5,k0 6,k0 7,k0 10,k3 17,k0 18,k0 19,k0 22,k3 37,k0 38,k0 39,k0 42,k0 43,k1 44 25,k1 45 25,λ_=>⟨46,[287,285],[25],J 287,Z,Z,Z⟩] follows ?_;obtain⟨g,hF⟩:=Rz g hF;refine wE hF zus λo0 hF=>?_
   obtain⟨g,hF⟩:=Rz g hF;refine wE hF Tl λrj hF=>?_
   obtain⟨g,hF⟩:=Rz g hF;refine wE hF Tl λyv hF=>?_
   obtain⟨g,hF⟩:=Rz g hF;refine wK [3,7,14,18,23,24,25,27,35] ?_;try simp[go_sem,g]
   try intros
   refine bu ?_;refine bT hF [3,7,14,24,27,35] (λkg=>[(25,.bl [vD kg.1,vD kg.2.1,vD kg.2.2.1,vD kg.2.2.2.1,vD kg.2.2.2.2])]) (λkg hF=>?_) λ_ hj0 hF=>?_
   ·try simp[go_sem,g]
    try intros
    refine bu ?_;refine wJ hF (λsj=>[(14,.bl [.sl Z 1 [],.sl Z 1 [],.sl Z 1 [],.sl Z 1 [],.sl Z 1 []]),(25,.bl [vD sj.1,vD sj.2.1,vD sj.2.2.1,vD sj.2.2.2.1,vD sj.2.2.2.2])]) (λsj hF=>?_) λ_ hj0 hF=>?_
    ·exact wl ak hF
    refine wR hF [7,14,24,27,35,316] (λId kC=>[(25,.bl [vD kC.1,vD kC.2.1,vD kC.2.2.1,vD kC.2.2.2.1,vD kC.2.2.2.2]),(317,.v (.int .i64 Id))]) λb bg Id kC _ _ aO aN bo ba hF=>?_
    refine wW ?_;refine wu aO aN ?_;refine wW ?_;refine wB ?_;refine wW ?_;refine wZ (kD 0 [201,201,202,0,0,0,0,0,0,0,0,0,0,0,57,58,0,0,5,201,201,202]) follows ?_;obtain⟨lz,g,hF⟩:=ie g hF;exact wL
   refine wR hF [3,7,14,18,23,24,27,35,289] (λzn fq=>[(25,.bl [vD fq.1,vD fq.2.1,vD fq.2.2.1,vD fq.2.2.2.1,vD fq.2.2.2.2]),(290,.v (.int .i64 zn))]) λb bg zn fq _ _ aO aN bo ba hF=>?_
   refine wW ?_;refine wu aO aN ?_;refine wW ?_;refine wB ?_;refine wW ?_;refine wZ (kD 0 [201,201,202,0,0,0,0,0,0,0,0,0,0,0,57,58,0,0,5,201,201,202]) follows ?_;obtain⟨xt,g,hF⟩:=ie g hF;obtain⟨xM,g,hF⟩:=ie g hF;exact wL
  refine wR hF [1,3,5,7,14,16,17,18,19,20,21,22,23,24,26,27,28,197] (λuT eL=>[(25,.bl [vD eL.1,vD eL.2.1,vD eL.2.2.1,vD eL.2.2.2.1,vD eL.2.2.2.2.1]),(33,.v (.int .i64 eL.2.2.2.2.2)),(198,.v (.int .i64 uT))]) λb bg uT eL _ _ aO aN bo ba hF=>?_
  refine wW ?_;refine wu aO aN ?_;refine wW ?_;refine wB ?_;refine wW ?_;refine wZ (kE [0,1,2,3,4,5,6,7,8,9,10,12,13,14,15,16,17,11,18,19,20,21,22,23,24,25] [201,201,202,58,58,57,58,0,0,0,0,58,0,0,0,0,0,4,3,0,6,0,5,201,201,202]) follows ?_;obtain⟨N9,g,hF⟩:=ie g hF;obtain⟨qn,g,hF⟩:=ie g hF;have c0:= @ft;have c1:= @gZ;exact wL
 refine wR hF [1,3,5,7,9,14,16,17,18,19,20,21,22,23,24,25,26,103,104] (λzI cK=>[(27,.v (vD cK.1)),(28,.v (.int .i64 cK.2)),(105,.v (.int .i64 zI))]) λb bg zI cK _ _ aO aN bo ba hF=>?_
 refine wW ?_;refine wu aO aN ?_;refine wW ?_;refine wB ?_;obtain⟨l4,g,hF⟩:=Rx g hF;refine wK [1,3,5,7,9,14,16,17,18,19,20,21,22,23,24,25,26,27,28,29,30,103,104,105] ?_;obtain⟨oZ,g,hF⟩:=Rx g hF;obtain⟨g,hF⟩:=Rg g hF;refine wW ?_;refine wZ (kD 0 [0,0,0,0,0,0,0,0,0,0,0,57,58,0,0]) follows ?_;obtain⟨fE,g,hF⟩:=ie g hF;exact wL
def uJ(a0:am)(a1:Int)(a2:List an)(a3:List Int)(a4:List Int)(a5:List Int):Option (cH×Bool):=
 (((pR a0 a1 a2).bind λz4=>
 if(!z4)=Z then(
 J Z)else(
 (EW a3 (a2.length:Int)).bind λz6=>
 if(!z6)=Z then(
 J Z)else(
 if((a4.length:Int) !=(a2.length:Int))=Z then(
 J Z)else(
 (ru a0 a4).bind λz9=>
 if(!z9)=Z then(
 J Z)else(
 if((a5.length:Int) !=(i64.wrap ((i64.wrap (4*(a2.length:Int)))+4)))=Z then(
 J Z)else(
 (ru a0 a5).bind λbH=>
 J (!bH)))))):Option Bool).bind λx3=>
 if x3=Z then(
 J ((cH.mk [] [] (bZ.mk [] [] [])),aa))else(
 (rY a0 (a2.length:Int)).bind λeS=>
 if(!eS.2)=Z then(
 J ((cH.mk [] [] (bZ.mk [] [] [])),aa))else(
 (DW a0 a1 eS.1 a2 a3 a4 a5).bind λlD=>
 J (lD,Z))))
def znr{a0 a1 a2 a3 a4 a5 r}(hr:uJ a0 a1 a2 a3 a4 a5=J r):ap Tryz.prog 87 [(.sh,vE a0),(.sh,.int .i64 a1),(.sh,vH a2),(.sh,vC a3),(.sh,vC a4),(.sh,vC a5)] (Eo (.bO [vP r.1,.bool r.2]) rQ):=by
 apply pE [] hr zMO Tryz.func87;intro Φ ak hF g;unfold uJ at hF
 iterate 2 (try simp[go_sem,g];try intros;refine bu ?_)
 refine bT hF [1,2,3,4,5,6,12,14] (λx3=>[(55,.v (.bool x3))]) (λx3 hF=>?_) λ_ hj0 hF=>?_
 ·have c0:= @NK;have c1:= @zrM;exact wL
 have c0:= @HG;have c1:= @zn4;have c2:= @JC;exact wL
def EM(a0:am):Option (Int×Bool):=
 (rY a0 0).bind λz1=>
 J (z1.1.H,z1.2)
def Y9{a0 r}(hr:EM a0=J r):ap Tryz.prog 151 [(.sh,vE a0)] (Eo (.bO [.int .i64 r.1,.bool r.2]) [.au]):=by
 apply pE [] hr zFZ Tryz.func151;intro Φ ak hF g;unfold EM at hF;have c0:= @NK;exact wL
def nR(a0:am)(a1:Int)(a2:Int)(a3:Int):Option Int:=
 (cD a0 a0.G a2).bind λz1=>
 (cD a0 a1 a3).bind λz2=>
 (eg a0 [z1,z2]).bind λz3=>
 J z3
def CL{a0 a1 a2 a3 r}(hr:nR a0 a1 a2 a3=J r):ap Tryz.prog 199 [(.sh,vE a0),(.sh,.int .i64 a1),(.sh,.int .i64 a2),(.sh,.int .i64 a3)] (Eo (.int .i64 r) kP):=by
 apply pE [] hr zGg Tryz.func199;intro Φ ak hF g;unfold nR at hF;refine wW ?_;refine wZ (kE [0,1,2,3,4,6,7,8,5,9,10,11,12] [34,34,33,34,0,34,0,0,3,3,0,6,0]) follows ?_;have c0:= @ft;have c1:= @gZ;exact wL
def HW(a0:am)(a1:Int)(a2:List Int)(a3:List Int):Option ((List Int)):=
 ((aS (σ:=(List Int)) (λi5 s4=>
 (ix a2 i5).bind λaU=>
 (ix a3 i5).bind λcZ=>
 (nR a0 a1 (i64.wrap (aU+1)) cZ).bind λdm=>
 gd ((s4.length+1)*8<=140737488355328/\s4.length+1<=4611686018427387904)<|
 J (.go (s4++[dm]))) (λs4=>s4) (a2.length) 0 []:Option ((List Int))).bind λx3=>
 J x3)
def zq2{a0 a1 a2 a3 r}(hr:HW a0 a1 a2 a3=J r):ap Tryz.prog 195 [(.sh,vE a0),(.sh,.int .i64 a1),(.sh,vC a2),(.sh,vC a3)] (Eo (vD r) kP):=by
 apply pE [] hr zH5 Tryz.func195;intro Φ ak hF g;unfold HW at hF
 iterate 3 (try simp[go_sem,g];try intros;refine bu ?_)
 refine wJ hF (λx3=>[(9,.v (vD x3))]) (λx3 hF=>?_) λ_ hj0 hF=>?_
 ·exact wl ak hF
 refine wR hF [1,3,4,12,13] (λi5 s4=>[(9,.v (vD s4)),(14,.v (.int .i64 i5))]) λb bg i5 s4 _ _ aO aN bo ba hF=>?_
 refine wW ?_;refine wu aO aN ?_;refine wW ?_;refine wB ?_;obtain⟨aU,g,hF⟩:=Rx g hF;refine wK [1,3,4,9,10,11,12,13,14] ?_;refine wZ (kD 0 [0,34,0,0,0,0,0,0,0,3,0,5,0]) follows ?_;have c0:= @CL;exact wL
def I4(a0:am)(a1:List Int)(a2:Int):Option ((List Int)):=
 ((aS (σ:=(List Int)) (λi5 s4=>
 (ix a1 i5).bind λaU=>
 (lw a2 (i64.wrap (aU+1)) a0.Q).bind λbH=>
 gd ((s4.length+1)*8<=140737488355328/\s4.length+1<=4611686018427387904)<|
 J (.go (s4++[bH]))) (λs4=>s4) (a1.length) 0 []:Option ((List Int))).bind λx3=>
 J x3)
def zqO{a0 a1 a2 r}(hr:I4 a0 a1 a2=J r):ap Tryz.prog 196 [(.sh,vE a0),(.sh,vC a1),(.sh,.int .i64 a2)] (Eo (vD r) gw):=by
 apply pE [] hr zG0 Tryz.func196;intro Φ ak hF g;unfold I4 at hF
 iterate 3 (try simp[go_sem,g];try intros;refine bu ?_)
 refine wJ hF (λx3=>[(7,.v (vD x3))]) (λx3 hF=>?_) λ_ hj0 hF=>?_
 ·exact wl ak hF
 refine wR hF [2,3,10,11] (λi5 s4=>[(7,.v (vD s4)),(12,.v (.int .i64 i5))]) λb bg i5 s4 _ _ aO aN bo ba hF=>?_
 have c0:= @xd;exact wL
def yK(a0:am)(a1:Int)(a2:List an)(a3:List an)(a4:List Int)(a5:List Int):Option (Int×Int):=
 (rP a1 a2 a3 a4).bind λz1=>
 gd ((z1.length+a5.length)*8<=140737488355328/\z1.length+a5.length<=4611686018427387904)<|
 (pU a0 (⟨#[109,105,120,32,121]⟩:ByteArray) (z1++a5)).bind λz2=>
 (pU a0 (⟨#[109,105,120,32,122]⟩:ByteArray) (z1++a5)).bind λz3=>
 J (z2,z3)
def VH{a0 a1 a2 a3 a4 a5 r}(hr:yK a0 a1 a2 a3 a4 a5=J r):ap Tryz.prog 200 [(.sh,vE a0),(.sh,.int .i64 a1),(.sh,vH a2),(.sh,vH a3),(.sh,vC a4),(.sh,vC a5)] (Eo (.bO [.int .i64 r.1,.int .i64 r.2]) rQ):=by
 apply pE [] hr zG4 Tryz.func200;intro Φ ak hF g;unfold yK at hF;refine wW ?_;refine wE hF Ew λz1 hF=>?_
 obtain⟨g,hF⟩:=Rg g hF;refine wK [6,14] ?_;refine wZ (kE [0,1,3,4,2,5,6,7] [50,0,50,0,3,3,0,0]) follows ?_;have c0:= @Ed;exact wL
def AB(a0:am)(a1:Int)(a2:List an)(a3:List an)(a4:cn):Option Int:=
 (rP a1 a2 a3 a4.bQ).bind λz1=>
 gd ((z1.length+a4.bK.length)*8<=140737488355328/\z1.length+a4.bK.length<=4611686018427387904)<|
 gd (((z1++a4.bK).length+a4.aF.length)*8<=140737488355328/\(z1++a4.bK).length+a4.aF.length<=4611686018427387904)<|
 gd (((z1++a4.bK++a4.aF).length+a4.Pi.aC.length)*8<=140737488355328/\(z1++a4.bK++a4.aF).length+a4.Pi.aC.length<=4611686018427387904)<|
 (pU a0 (⟨#[109,105,120,32,101,110,100]⟩:ByteArray) (z1++a4.bK++a4.aF++a4.Pi.aC)).bind λz2=>
 J z2
def WL{a0 a1 a2 a3 a4 r}(hr:AB a0 a1 a2 a3 a4=J r):ap Tryz.prog 201 [(.sh,vE a0),(.sh,.int .i64 a1),(.sh,vH a2),(.sh,vH a3),(.sh,vM a4)] (Eo (.int .i64 r) si):=by
 apply pE [] hr zIc Tryz.func201;intro Φ ak hF g;unfold AB at hF;refine wW ?_;refine wZ (kE [0,1,2,3,4,6,7,5,8,9] [0,0,0,73,74,73,74,3,0,0]) follows ?_;refine wE hF Ew λz1 hF=>?_
 obtain⟨g,hF⟩:=Rg g hF;refine wK [5,9,11] ?_;refine wZ (kE [0,1,2,4,5,6,3,7,8] [0,73,74,73,73,74,0,0,0]) follows ?_;have c0:= @Ed;exact wL
def Gp(a0:am)(a1:Int)(a2:Int)(a3:List an)(a4:List Int)(a5:List Int)(a6:List Int):Option cn:=
 (CI a0 a1 a3 a4 a5).bind λz1=>
 gd (0<=(a3.length:Int))<|
 gd (0<=a3.length/\a3.length<=a6.length)<|
 gd (0<=(a3.length:Int))<|
 gd (0<=(i64.wrap (2*(a3.length:Int))))<|
 gd (a3.length<=(i64.wrap (2*(a3.length:Int))).toNat/\(i64.wrap (2*(a3.length:Int))).toNat<=a6.length)<|
 gd (0<=(i64.wrap (2*(a3.length:Int))))<|
 gd (0<=(i64.wrap (3*(a3.length:Int))))<|
 gd ((i64.wrap (2*(a3.length:Int))).toNat<=(i64.wrap (3*(a3.length:Int))).toNat/\(i64.wrap (3*(a3.length:Int))).toNat<=a6.length)<|
 gd (0<=(i64.wrap (3*(a3.length:Int))))<|
 gd (0<=(i64.wrap (4*(a3.length:Int))))<|
 gd ((i64.wrap (3*(a3.length:Int))).toNat<=(i64.wrap (4*(a3.length:Int))).toNat/\(i64.wrap (4*(a3.length:Int))).toNat<=a6.length)<|
 gd (0<=(i64.wrap (4*(a3.length:Int))))<|
 gd (0<=(i64.wrap (5*(a3.length:Int))))<|
 gd ((i64.wrap (4*(a3.length:Int))).toNat<=(i64.wrap (5*(a3.length:Int))).toNat/\(i64.wrap (5*(a3.length:Int))).toNat<=a6.length)<|
 gd (0<=(i64.wrap (5*(a3.length:Int))))<|
 gd (0<=(i64.wrap (6*(a3.length:Int))))<|
 gd ((i64.wrap (5*(a3.length:Int))).toNat<=(i64.wrap (6*(a3.length:Int))).toNat/\(i64.wrap (6*(a3.length:Int))).toNat<=a6.length)<|
 (ix a6 (i64.wrap (6*(a3.length:Int)))).bind λx2=>
 gd (0<=(i64.wrap ((i64.wrap (6*(a3.length:Int)))+1)))<|
 gd (0<=(i64.wrap ((i64.wrap (7*(a3.length:Int)))+1)))<|
 gd ((i64.wrap ((i64.wrap (6*(a3.length:Int)))+1)).toNat<=(i64.wrap ((i64.wrap (7*(a3.length:Int)))+1)).toNat/\(i64.wrap ((i64.wrap (7*(a3.length:Int)))+1)).toNat<=a6.length)<|
 gd (0<=(i64.wrap ((i64.wrap (7*(a3.length:Int)))+1)))<|
 gd (0<=(i64.wrap ((i64.wrap (8*(a3.length:Int)))+1)))<|
 gd ((i64.wrap ((i64.wrap (7*(a3.length:Int)))+1)).toNat<=(i64.wrap ((i64.wrap (8*(a3.length:Int)))+1)).toNat/\(i64.wrap ((i64.wrap (8*(a3.length:Int)))+1)).toNat<=a6.length)<|
 (ix a6 (i64.wrap ((i64.wrap (8*(a3.length:Int)))+1))).bind λx3=>
 (HW a0 a2 a4 ((a6.take a3.length).drop 0)).bind λz4=>
 (rP a1 a3 z1 z4).bind λz5=>
 (pU a0 (⟨#[109,105,120,32,120]⟩:ByteArray) z5).bind λz6=>
 (I4 a0 a4 z6).bind λz7=>
 ((aS (σ:=(List Int)×List Int×List Int×List Int×List Int×List Int) (λfP bV=>
 (ix z7 fP).bind λil=>
 (ix ((a6.take ((i64.wrap (2*(a3.length:Int))).toNat)).drop a3.length) fP).bind λj5=>
 (nR a0 a2 il j5).bind λeZ=>
 gd ((bV.2.1.length+1)*8<=140737488355328/\bV.2.1.length+1<=4611686018427387904)<|
 J (.go (bV.1,bV.2.1++[eZ],bV.2.2.1,bV.2.2.2.1,bV.2.2.2.2.1,bV.2.2.2.2.2))) (λbV=>(bV.1,bV.2.1,bV.2.2.1,bV.2.2.2.1,bV.2.2.2.2.1,bV.2.2.2.2.2)) (z7.length) 0 (z4,[],[],[],[],[]):Option ((List Int×List Int×List Int×List Int×List Int×List Int))).bind λep=>
 (yK a0 a1 a3 z1 ep.1 ep.2.1).bind λgX=>
 ((aS (σ:=(List Int)×List Int×List Int×List Int×List Int×List Int×List Int×List Int×Int×Int) (λuK cB=>
 (ix a4 uK).bind λot=>
 gd (a0.Q≠0)<|
 (ix z7 uK).bind λMK=>
 (qo (i64.wrap ((i64.wrap ((i64.wrap (gX.1*((i64.wrap (ot+1)).tmod a0.Q)))+MK))-gX.2)) a0.Q).bind λrK=>
 gd ((cB.2.2.2.2.2.2.1.length+1)*8<=140737488355328/\cB.2.2.2.2.2.2.1.length+1<=4611686018427387904)<|
 gd (a0.Q≠0)<|
 (ix ((a6.take ((i64.wrap (3*(a3.length:Int))).toNat)).drop ((i64.wrap (2*(a3.length:Int))).toNat)) uK).bind λqn=>
 (nR a0 a2 ((i64.wrap (cB.2.2.2.2.2.2.2.2.1*rK)).tmod a0.Q) qn).bind λCK=>
 gd ((cB.2.2.1.length+1)*8<=140737488355328/\cB.2.2.1.length+1<=4611686018427387904)<|
 (qo (i64.wrap (qn-(i64.wrap (cB.2.2.2.2.2.2.2.2.2*rK)))) a0.Q).bind λBS=>
 gd ((cB.2.2.2.2.2.2.2.1.length+1)*8<=140737488355328/\cB.2.2.2.2.2.2.2.1.length+1<=4611686018427387904)<|
 J (.go (cB.1,cB.2.1,cB.2.2.1++[CK],cB.2.2.2.1,cB.2.2.2.2.1,cB.2.2.2.2.2.1,cB.2.2.2.2.2.2.1++[rK],cB.2.2.2.2.2.2.2.1++[BS],(i64.wrap (cB.2.2.2.2.2.2.2.2.1*rK)).tmod a0.Q,qn))) (λcB=>(cB.1,cB.2.1,cB.2.2.1,cB.2.2.2.1,cB.2.2.2.2.1,cB.2.2.2.2.2.1,cB.2.2.2.2.2.2.1,cB.2.2.2.2.2.2.2.1)) (a4.length) 0 (ep.1,ep.2.1,ep.2.2.1,ep.2.2.2.1,ep.2.2.2.2.1,ep.2.2.2.2.2,[],[],1,0):Option ((List Int×List Int×List Int×List Int×List Int×List Int×List Int×List Int))).bind λgH=>
 (uw z1).bind λqS=>
 ((aS (σ:=(List Int)×List Int×List Int×List Int×List Int×List Int) (λAU dN=>
 (ix ((a6.take ((i64.wrap (4*(a3.length:Int))).toNat)).drop ((i64.wrap (3*(a3.length:Int))).toNat)) AU).bind λiV=>
 (ix ((a6.take ((i64.wrap (5*(a3.length:Int))).toNat)).drop ((i64.wrap (4*(a3.length:Int))).toNat)) AU).bind λjt=>
 (nR a0 a2 iV jt).bind λoW=>
 gd ((dN.2.2.2.1.length+1)*8<=140737488355328/\dN.2.2.2.1.length+1<=4611686018427387904)<|
 J (.go (dN.1,dN.2.1,dN.2.2.1,dN.2.2.2.1++[oW],dN.2.2.2.2.1,dN.2.2.2.2.2))) (λdN=>(dN.1,dN.2.1,dN.2.2.1,dN.2.2.2.1,dN.2.2.2.2.1,dN.2.2.2.2.2)) (((a6.take ((i64.wrap (4*(a3.length:Int))).toNat)).drop ((i64.wrap (3*(a3.length:Int))).toNat)).length) 0 (gH.1,gH.2.1,gH.2.2.1,gH.2.2.2.1,gH.2.2.2.2.1,gH.2.2.2.2.2.1):Option ((List Int×List Int×List Int×List Int×List Int×List Int))).bind λnL=>
 ((aS (σ:=(List Int)×List Int×List Int×List Int×List Int×List Int×Int) (λvh di=>
 (ix ((a6.take ((i64.wrap (4*(a3.length:Int))).toNat)).drop ((i64.wrap (3*(a3.length:Int))).toNat)) vh).bind λMe=>
 (ix ((a6.take ((i64.wrap (6*(a3.length:Int))).toNat)).drop ((i64.wrap (5*(a3.length:Int))).toNat)) vh).bind λLb=>
 (cD a0 di.2.2.2.2.2.2 Me).bind λLc=>
 (cD a0 a2 Lb).bind λMc=>
 (eg a0 [Lc,Mc]).bind λJP=>
 gd ((di.2.2.2.1.length+1)*8<=140737488355328/\di.2.2.2.1.length+1<=4611686018427387904)<|
 (ix di.2.2.1 vh).bind λIR=>
 J (.go (di.1,di.2.1,di.2.2.1,di.2.2.2.1++[JP],di.2.2.2.2.1,di.2.2.2.2.2.1,IR))) (λdi=>(di.1,di.2.1,di.2.2.1,di.2.2.2.1,di.2.2.2.2.1,di.2.2.2.2.2.1)) (((a6.take ((i64.wrap (4*(a3.length:Int))).toNat)).drop ((i64.wrap (3*(a3.length:Int))).toNat)).length) 0 (nL.1,nL.2.1,nL.2.2.1,nL.2.2.2.1,nL.2.2.2.2.1,nL.2.2.2.2.2,a0.G):Option ((List Int×List Int×List Int×List Int×List Int×List Int))).bind λlR=>
 (cD a0 a2 x2).bind λV2=>
 gd ((lR.2.2.2.1.length+1)*8<=140737488355328/\lR.2.2.2.1.length+1<=4611686018427387904)<|
 ((aS (σ:=(List Int)×List Int×List Int×List Int×List Int×List Int) (λsP eN=>
 (ix ((a6.take ((i64.wrap ((i64.wrap (7*(a3.length:Int)))+1)).toNat)).drop ((i64.wrap ((i64.wrap (6*(a3.length:Int)))+1)).toNat)) sP).bind λND=>
 (ix ((a6.take ((i64.wrap ((i64.wrap (8*(a3.length:Int)))+1)).toNat)).drop ((i64.wrap ((i64.wrap (7*(a3.length:Int)))+1)).toNat)) sP).bind λAaf=>
 (nR a0 a2 ND Aaf).bind λRi=>
 gd ((eN.2.2.2.1.length+1)*8<=140737488355328/\eN.2.2.2.1.length+1<=4611686018427387904)<|
 J (.go (eN.1,eN.2.1,eN.2.2.1,eN.2.2.2.1++[Ri],eN.2.2.2.2.1,eN.2.2.2.2.2))) (λeN=>(eN.1,eN.2.1,eN.2.2.1,eN.2.2.2.1,eN.2.2.2.2.1,eN.2.2.2.2.2)) (((a6.take ((i64.wrap ((i64.wrap (7*(a3.length:Int)))+1)).toNat)).drop ((i64.wrap ((i64.wrap (6*(a3.length:Int)))+1)).toNat)).length) 0 (lR.1,lR.2.1,lR.2.2.1,lR.2.2.2.1++[V2],lR.2.2.2.2.1,lR.2.2.2.2.2):Option ((List Int×List Int×List Int×List Int×List Int×List Int))).bind λij=>
 (cD a0 a0.G (i64.wrap (0-x3))).bind λHZ=>
 (kV a0 qS.1 ((a6.take ((i64.wrap ((i64.wrap (7*(a3.length:Int)))+1)).toNat)).drop ((i64.wrap ((i64.wrap (6*(a3.length:Int)))+1)).toNat))).bind λJy=>
 (eg a0 [HZ,Jy]).bind λA6=>
 (cD a0 a1 (i64.wrap (0-x3))).bind λJJ=>
 (kV a0 qS.2 ((a6.take ((i64.wrap ((i64.wrap (7*(a3.length:Int)))+1)).toNat)).drop ((i64.wrap ((i64.wrap (6*(a3.length:Int)))+1)).toNat))).bind λHM=>
 (eg a0 [JJ,HM]).bind λBj=>
 gd ((ij.2.2.2.1.length+2)*8<=140737488355328/\ij.2.2.2.1.length+2<=4611686018427387904)<|
 (AB a0 a1 a3 z1 (cn.mk ij.1 ij.2.1 ij.2.2.1 (bZ.mk (ij.2.2.2.1++[A6,Bj]) ij.2.2.2.2.1 ij.2.2.2.2.2))).bind λmV=>
 ((aS (σ:=(List Int)) (λzl nW=>
 (ix ((a6.take ((i64.wrap (4*(a3.length:Int))).toNat)).drop ((i64.wrap (3*(a3.length:Int))).toNat)) zl).bind λGH=>
 (ix gH.2.2.2.2.2.2.1 zl).bind λJv=>
 gd (a0.Q≠0)<|
 gd ((nW.length+1)*8<=140737488355328/\nW.length+1<=4611686018427387904)<|
 J (.go (nW++[(i64.wrap (GH+(i64.wrap (mV*Jv)))).tmod a0.Q]))) (λnW=>nW) (((a6.take ((i64.wrap (4*(a3.length:Int))).toNat)).drop ((i64.wrap (3*(a3.length:Int))).toNat)).length) 0 []:Option ((List Int))).bind λMS=>
 ((aS (σ:=(List Int)) (λvi oK=>
 (ix ((a6.take ((i64.wrap (5*(a3.length:Int))).toNat)).drop ((i64.wrap (4*(a3.length:Int))).toNat)) vi).bind λJz=>
 (ix ((a6.take a3.length).drop 0) vi).bind λJK=>
 (ix ((a6.take ((i64.wrap (2*(a3.length:Int))).toNat)).drop a3.length) vi).bind λGV=>
 gd (a0.Q≠0)<|
 gd (a0.Q≠0)<|
 gd ((oK.length+1)*8<=140737488355328/\oK.length+1<=4611686018427387904)<|
 J (.go (oK++[(i64.wrap (Jz+(i64.wrap (mV*((i64.wrap ((i64.wrap (gX.1*JK))+GV)).tmod a0.Q))))).tmod a0.Q]))) (λoK=>oK) (((a6.take ((i64.wrap (4*(a3.length:Int))).toNat)).drop ((i64.wrap (3*(a3.length:Int))).toNat)).length) 0 MS:Option ((List Int))).bind λNx=>
 ((aS (σ:=(List Int)) (λJw yt=>
 (ix ((a6.take ((i64.wrap (6*(a3.length:Int))).toNat)).drop ((i64.wrap (5*(a3.length:Int))).toNat)) Jw).bind λQa=>
 (ix gH.2.2.2.2.2.2.2 Jw).bind λSu=>
 gd (a0.Q≠0)<|
 gd ((yt.length+1)*8<=140737488355328/\yt.length+1<=4611686018427387904)<|
 J (.go (yt++[(i64.wrap (Qa+(i64.wrap (mV*Su)))).tmod a0.Q]))) (λyt=>yt) (((a6.take ((i64.wrap (4*(a3.length:Int))).toNat)).drop ((i64.wrap (3*(a3.length:Int))).toNat)).length) 0 Nx:Option ((List Int))).bind λEY=>
 (ix ((a6.take ((i64.wrap (3*(a3.length:Int))).toNat)).drop ((i64.wrap (2*(a3.length:Int))).toNat)) (i64.wrap ((a3.length:Int)-1))).bind λCx=>
 gd (a0.Q≠0)<|
 gd ((EY.length+1)*8<=140737488355328/\EY.length+1<=4611686018427387904)<|
 ((aS (σ:=(List Int)) (λHq wh=>
 (ix ((a6.take ((i64.wrap ((i64.wrap (7*(a3.length:Int)))+1)).toNat)).drop ((i64.wrap ((i64.wrap (6*(a3.length:Int)))+1)).toNat)) Hq).bind λRa=>
 (ix z7 Hq).bind λRQ=>
 gd (a0.Q≠0)<|
 gd ((wh.length+1)*8<=140737488355328/\wh.length+1<=4611686018427387904)<|
 J (.go (wh++[(i64.wrap (Ra+(i64.wrap (mV*RQ)))).tmod a0.Q]))) (λwh=>wh) (((a6.take ((i64.wrap ((i64.wrap (7*(a3.length:Int)))+1)).toNat)).drop ((i64.wrap ((i64.wrap (6*(a3.length:Int)))+1)).toNat)).length) 0 (EY++[(i64.wrap (x2+(i64.wrap (mV*Cx)))).tmod a0.Q]):Option ((List Int))).bind λLf=>
 ((aS (σ:=(List Int)) (λI9 xF=>
 (ix ((a6.take ((i64.wrap ((i64.wrap (8*(a3.length:Int)))+1)).toNat)).drop ((i64.wrap ((i64.wrap (7*(a3.length:Int)))+1)).toNat)) I9).bind λQi=>
 (ix ((a6.take ((i64.wrap (2*(a3.length:Int))).toNat)).drop a3.length) I9).bind λSN=>
 gd (a0.Q≠0)<|
 gd ((xF.length+1)*8<=140737488355328/\xF.length+1<=4611686018427387904)<|
 J (.go (xF++[(i64.wrap (Qi+(i64.wrap (mV*SN)))).tmod a0.Q]))) (λxF=>xF) (((a6.take ((i64.wrap ((i64.wrap (7*(a3.length:Int)))+1)).toNat)).drop ((i64.wrap ((i64.wrap (6*(a3.length:Int)))+1)).toNat)).length) 0 Lf:Option ((List Int))).bind λFz=>
 (u9 a5 z7 a0.Q).bind λAbd=>
 gd (a0.Q≠0)<|
 gd ((Fz.length+1)*8<=140737488355328/\Fz.length+1<=4611686018427387904)<|
 J (cn.mk ij.1 ij.2.1 ij.2.2.1 (bZ.mk (ij.2.2.2.1++[A6,Bj]) [mV] (Fz++[(i64.wrap (x3+(i64.wrap (mV*Abd)))).tmod a0.Q])))))))))))))
set_option maxHeartbeats 16000000 in
def zrK{a0 a1 a2 a3 a4 a5 a6 r}(hr:Gp a0 a1 a2 a3 a4 a5 a6=J r):ap Tryz.prog 152 [(.sh,vE a0),(.sh,.int .i64 a1),(.sh,.int .i64 a2),(.sh,vH a3),(.sh,vC a4),(.sh,vC a5),(.sh,vC a6)] (Eo (vQ r) N5):=by
 apply pE [] hr zGo Tryz.func152;intro Φ ak hF g;unfold Gp at hF
 iterate 3 (try simp[go_sem,g];try intros;refine bu ?_)
 try simp[go_sem,g]
 try intros
 refine wE hF Si λz1 hF=>?_
 refine wK [1,2,3,4,5,6,7,14,15,16,17] ?_;refine wZ (kD 0 [0,0,0,0,0,0,0,0,0,0,0,0,0,0,0,0,0]) follows ?_
 iterate 8 obtain⟨g,hF⟩:=Rg g hF
 refine wK [1,2,3,4,5,6,7,14,15,16,17,18,19,20] ?_;refine wZ (kD 0 [0,0,0,0,0,0,0,0,0,0,0,0,0,0,0,0,0,0,0,0,0]) follows ?_
 iterate 9 obtain⟨g,hF⟩:=Rg g hF
 refine wK [1,2,3,4,5,6,7,14,15,16,17,18,19,20,21,22,23] ?_;refine wZ (kD 0 [0,0,0,0,0,0,0,0,0,0,0,0,0,0,0,0,0,0,0,0,0,0,0,0,0,0,0,0,0,0,0]) follows ?_;obtain⟨x2,g,hF⟩:=Rx g hF
 iterate 6 obtain⟨g,hF⟩:=Rg g hF
 obtain⟨x3,g,hF⟩:=Rx g hF;refine wK [1,2,3,4,5,7,14,15,16,17,18,19,20,21,22,23,24,25,26,27] ?_;refine wE hF zq2 λz4 hF=>?_
 refine wW ?_;refine wZ (kD 0 [58,0,58,0,0,0,225,226,3,3,3,0]) follows ?_;refine wE hF Ew λz5 hF=>?_
 refine wE hF Ed λz6 hF=>?_
 refine wE hF zqO λz7 hF=>?_
 refine wK [1,2,3,4,5,7,14,15,16,17,18,19,20,21,22,23,24,25,26,27,28,29] ?_;try simp[go_sem,g]
 try intros
 refine bu ?_;refine bT hF [1,2,3,4,5,7,14,15,16,17,18,19,20,21,22,23,24,25,26,27,29] (λep=>[(28,.bl [vD ep.1,vD ep.2.1,vD ep.2.2.1,vD ep.2.2.2.1,vD ep.2.2.2.2.1,vD ep.2.2.2.2.2])]) (λep hF=>?_) λ_ hj0 hF=>?_
 ·refine wE hF VH λgX hF=>?_
  refine wK [1,2,3,4,5,7,14,15,16,17,18,19,20,21,22,23,24,25,26,27,28,29,31,32] ?_
  iterate 3 (try simp[go_sem,g];try intros;refine bu ?_)
  refine bT hF [1,2,3,5,7,14,15,16,17,18,19,20,21,22,23,24,25,26,27,29,31] (λgH=>[(28,.bl [vD gH.1,vD gH.2.1,vD gH.2.2.1,vD gH.2.2.2.1,vD gH.2.2.2.2.1,vD gH.2.2.2.2.2.1]),(33,.v (vD gH.2.2.2.2.2.2.1)),(34,.v (vD gH.2.2.2.2.2.2.2))]) (λgH hF=>?_) λ_ hj0 hF=>?_
  ·refine wE hF Fr λqS hF=>?_
   refine wK [1,2,3,5,7,14,15,16,17,18,19,20,21,22,23,24,25,26,27,28,29,31,33,34,40,41] ?_;try simp[go_sem,g]
   try intros
   refine bu ?_;refine bT hF [1,2,3,5,7,14,15,16,17,18,19,20,21,22,23,24,25,26,27,29,31,33,34,40,41] (λnL=>[(28,.bl [vD nL.1,vD nL.2.1,vD nL.2.2.1,vD nL.2.2.2.1,vD nL.2.2.2.2.1,vD nL.2.2.2.2.2])]) (λnL hF=>?_) λ_ hj0 hF=>?_
   ·iterate 2 (try simp[go_sem,g];try intros;refine bu ?_)
    refine bT hF [1,2,3,5,7,14,15,16,17,18,19,20,21,22,23,24,25,26,27,29,31,33,34,40,41] (λlR=>[(28,.bl [vD lR.1,vD lR.2.1,vD lR.2.2.1,vD lR.2.2.2.1,vD lR.2.2.2.2.1,vD lR.2.2.2.2.2])]) (λlR hF=>?_) λ_ hj0 hF=>?_
    ·refine wZ (kD 0 [225,225,226,58,0,0,3,0,5,225,225,226]) follows ?_;refine wE hF ft λV2 hF=>?_
     obtain⟨g,hF⟩:=Rg g hF;refine wK [1,2,3,5,7,14,15,16,17,18,19,20,21,22,23,24,25,26,27,28,29,31,33,34,40,41] ?_;try simp[go_sem,g]
     try intros
     refine bu ?_;refine bT hF [1,3,5,7,14,15,16,17,18,19,20,21,22,23,24,25,26,27,29,31,33,34,40,41] (λij=>[(28,.bl [vD ij.1,vD ij.2.1,vD ij.2.2.1,vD ij.2.2.2.1,vD ij.2.2.2.2.1,vD ij.2.2.2.2.2])]) (λij hF=>?_) λ_ hj0 hF=>?_
     ·refine wZ (kE [0,1,2,3,4,5,6,7,8,10,11,12,16,17,18,19,20,22,23,24,9,13,14,15,21,25,26,27,28,29,30,31,32] [225,225,226,58,58,57,58,0,0,58,0,0,58,58,0,0,0,58,0,0,3,3,0,6,3,3,0,6,0,5,225,225,226]) follows ?_;refine wE hF ft λHZ hF=>?_
      refine wE hF od λJy hF=>?_
      refine wE hF gZ λA6 hF=>?_
      refine wE hF ft λJJ hF=>?_
      refine wE hF od λHM hF=>?_
      refine wE hF gZ λBj hF=>?_
      obtain⟨g,hF⟩:=Rg g hF;refine wK [1,3,5,7,14,15,16,17,18,19,20,21,22,23,24,25,26,27,28,29,31,33,34] ?_;refine wE hF WL λmV hF=>?_
      refine wW ?_;refine wK [5,14,15,16,18,19,20,21,22,23,24,25,26,27,28,29,31,33,34,46] ?_
      iterate 2 (try simp[go_sem,g];try intros;refine bu ?_)
      refine bT hF [5,14,15,16,18,19,20,21,22,23,24,25,26,27,28,29,31,34,46] (λMS=>[(47,.v (vD MS))]) (λMS hF=>?_) λ_ hj0 hF=>?_
      ·try simp[go_sem,g]
       try intros
       refine bu ?_;refine bT hF [5,14,15,16,19,20,21,23,24,25,26,27,28,29,34,46] (λNx=>[(47,.v (vD Nx))]) (λNx hF=>?_) λ_ hj0 hF=>?_
       ·try simp[go_sem,g]
        try intros
        refine wK [5,14,15,16,19,20,23,24,25,26,27,28,29,34,46,47,432,433] ?_;refine bT hF [5,14,15,16,19,20,24,25,26,27,28,29,46] (λEY=>[(47,.v (vD EY))]) (λEY hF=>?_) λ_ hj0 hF=>?_
        ·obtain⟨Cx,g,hF⟩:=ie g hF;obtain⟨g,hF⟩:=Rz g hF;obtain⟨g,hF⟩:=Rg g hF;refine wK [5,14,16,19,25,26,27,28,29,46,47] ?_;try simp[go_sem,g]
         try intros
         refine bu ?_;refine bT hF [5,14,16,19,25,26,27,28,29,46] (λLf=>[(47,.v (vD Lf))]) (λLf hF=>?_) λ_ hj0 hF=>?_
         ·try simp[go_sem,g]
          try intros
          refine bu ?_;refine bT hF [5,14,16,27,28,29,46] (λFz=>[(47,.v (vD Fz))]) (λFz hF=>?_) λ_ hj0 hF=>?_
          ·have c0:= @Tl;exact wL
          refine wR hF [5,14,16,19,26,27,28,29,46,490] (λI9 xF=>[(47,.v (vD xF)),(491,.v (.int .i64 I9))]) λb bg I9 xF _ _ aO aN bo ba hF=>?_
          have cF:=aN;try simp at cF
          refine wW ?_;refine wt ?_ (hb:=by simp[go_sem,g,aO,aN,cF]<;>omega);refine wW ?_;refine wB ?_;refine wW ?_;refine wZ (kD 0 [0,0,0,0,0,0,0,0,0,0,0,0,0,0,0,5,0]) follows ?_;obtain⟨Qi,g,hF⟩:=ie g hF;obtain⟨SN,g,hF⟩:=ie g hF;obtain⟨g,hF⟩:=Rz g hF;obtain⟨g,hF⟩:=Rg g hF;refine wK [5,14,16,19,26,27,28,29,46,47,490,491] ?_;exact wT (ba (xF++[(i64.wrap (Qi+(i64.wrap (mV*SN)))).tmod a0.Q])) (eW hF) (a:=by simp[go_sem,g,xC aO aN (by first|assumption|(simp;assumption)|(simp;omega))])
         refine wR hF [5,14,16,19,25,26,27,28,29,46,468] (λHq wh=>[(47,.v (vD wh)),(469,.v (.int .i64 Hq))]) λb bg Hq wh _ _ aO aN bo ba hF=>?_
         have cF:=aN;try simp at cF
         refine wW ?_;refine wt ?_ (hb:=by simp[go_sem,g,aO,aN,cF]<;>omega);refine wW ?_;refine wB ?_;refine wW ?_;refine wZ (kD 0 [0,0,0,0,0,0,0,0,0,0,0,0,0,0,0,5,0]) follows ?_;obtain⟨Ra,g,hF⟩:=ie g hF;obtain⟨RQ,g,hF⟩:=Rx g hF;obtain⟨g,hF⟩:=Rz g hF;obtain⟨g,hF⟩:=Rg g hF;refine wK [5,14,16,19,25,26,27,28,29,46,47,468,469] ?_;exact wT (ba (wh++[(i64.wrap (Ra+(i64.wrap (mV*RQ)))).tmod a0.Q])) (eW hF) (a:=by simp[go_sem,g,xC aO aN (by first|assumption|(simp;assumption)|(simp;omega))])
        refine wR hF [5,14,15,16,19,20,23,24,25,26,27,28,29,34,46,432] (λJw yt=>[(47,.v (vD yt)),(433,.v (.int .i64 Jw))]) λb bg Jw yt _ _ aO aN bo ba hF=>?_
        have cF:=aN;try simp at cF
        refine wW ?_;refine wt ?_ (hb:=by simp[go_sem,g,aO,aN,cF]<;>omega);refine wW ?_;refine wB ?_;refine wW ?_;refine wZ (kD 0 [0,0,0,0,0,0,0,0,0,0,0,0,0,0,0,5,0]) follows ?_;obtain⟨Qa,g,hF⟩:=ie g hF;obtain⟨Su,g,hF⟩:=Rx g hF;obtain⟨g,hF⟩:=Rz g hF;obtain⟨g,hF⟩:=Rg g hF;refine wK [5,14,15,16,19,20,23,24,25,26,27,28,29,34,46,47,432,433] ?_;exact wT (ba (yt++[(i64.wrap (Qa+(i64.wrap (mV*Su)))).tmod a0.Q])) (eW hF) (a:=by simp[go_sem,g,xC aO aN (by first|assumption|(simp;assumption)|(simp;omega))])
       refine wR hF [5,14,15,16,18,19,20,21,22,23,24,25,26,27,28,29,31,34,46,401] (λvi oK=>[(47,.v (vD oK)),(402,.v (.int .i64 vi))]) λb bg vi oK _ _ aO aN bo ba hF=>?_
       have cF:=aN;try simp at cF
       refine wW ?_;refine wt ?_ (hb:=by simp[go_sem,g,aO,aN,cF]<;>omega);refine wW ?_;refine wB ?_;refine wK [5,14,15,16,18,19,20,21,22,23,24,25,26,27,28,29,31,34,46,47,49,401,402] ?_;refine wZ (kD 0 [0,0,0,0,0,0,0,0,0,0,0,0,0,0,0,0,0,0,0,0,0,0,0,0,5,0]) follows ?_;obtain⟨Jz,g,hF⟩:=ie g hF;obtain⟨JK,g,hF⟩:=ie g hF;obtain⟨GV,g,hF⟩:=ie g hF
       iterate 2 obtain⟨g,hF⟩:=Rz g hF
       obtain⟨g,hF⟩:=Rg g hF;refine wK [5,14,15,16,18,19,20,21,22,23,24,25,26,27,28,29,31,34,46,47,401,402] ?_;exact wT (ba (oK++[(i64.wrap (Jz+(i64.wrap (mV*((i64.wrap ((i64.wrap (gX.1*JK))+GV)).tmod a0.Q))))).tmod a0.Q])) (eW hF) (a:=by simp[go_sem,g,xC aO aN (by first|assumption|(simp;assumption)|(simp;omega))])
      refine wR hF [5,14,15,16,18,19,20,21,22,23,24,25,26,27,28,29,31,33,34,46,379] (λzl nW=>[(47,.v (vD nW)),(380,.v (.int .i64 zl))]) λb bg zl nW _ _ aO aN bo ba hF=>?_
      have cF:=aN;try simp at cF
      refine wW ?_;refine wt ?_ (hb:=by simp[go_sem,g,aO,aN,cF]<;>omega);refine wW ?_;refine wB ?_;refine wW ?_;refine wZ (kD 0 [0,0,0,0,0,0,0,0,0,0,0,0,0,0,0,5,0]) follows ?_;obtain⟨GH,g,hF⟩:=ie g hF;obtain⟨Jv,g,hF⟩:=Rx g hF;obtain⟨g,hF⟩:=Rz g hF;obtain⟨g,hF⟩:=Rg g hF;refine wK [5,14,15,16,18,19,20,21,22,23,24,25,26,27,28,29,31,33,34,46,47,379,380] ?_;exact wT (ba (nW++[(i64.wrap (GH+(i64.wrap (mV*Jv)))).tmod a0.Q])) (eW hF) (a:=by simp[go_sem,g,xC aO aN (by first|assumption|(simp;assumption)|(simp;omega))])
     refine wR hF [1,2,3,5,7,14,15,16,17,18,19,20,21,22,23,24,25,26,27,29,31,33,34,40,41,313] (λsP eN=>[(28,.bl [vD eN.1,vD eN.2.1,vD eN.2.2.1,vD eN.2.2.2.1,vD eN.2.2.2.2.1,vD eN.2.2.2.2.2]),(314,.v (.int .i64 sP))]) λb bg sP eN _ _ aO aN bo ba hF=>?_
     have cF:=aN;try simp at cF
     refine wW ?_;refine wt ?_ (hb:=by simp[go_sem,g,aO,aN,cF]<;>omega);refine wW ?_;refine wB ?_;refine wW ?_;refine wZ (kD 0 [225,225,226,58,0,0,0,0,0,0,0,0,0,3,0,5,225,225,226]) follows ?_;obtain⟨ND,g,hF⟩:=ie g hF;obtain⟨Aaf,g,hF⟩:=ie g hF;refine wE hF CL λRi hF=>?_
     obtain⟨g,hF⟩:=Rg g hF;refine wK [1,2,3,5,7,14,15,16,17,18,19,20,21,22,23,24,25,26,27,28,29,31,33,34,40,41,313,314] ?_;exact wT (ba (eN.1,eN.2.1,eN.2.2.1,eN.2.2.2.1++[Ri],eN.2.2.2.2.1,eN.2.2.2.2.2)) (eW hF) (a:=by simp[go_sem,g,xC aO aN (by first|assumption|(simp;assumption)|(simp;omega))])
    refine wR hF [1,2,3,5,7,14,15,16,17,18,19,20,21,22,23,24,25,26,27,29,31,33,34,40,41,267] (λvh di=>[(28,.bl [vD di.1,vD di.2.1,vD di.2.2.1,vD di.2.2.2.1,vD di.2.2.2.2.1,vD di.2.2.2.2.2.1]),(43,.v (.int .i64 di.2.2.2.2.2.2)),(268,.v (.int .i64 vh))]) λb bg vh di _ _ aO aN bo ba hF=>?_
    have cF:=aN;try simp at cF
    refine wK [1,2,3,5,7,14,15,16,17,18,19,20,21,22,23,24,25,26,27,28,29,31,33,34,40,41,43,267,268,269] ?_;refine wt ?_ (hb:=by simp[go_sem,g,aO,aN,cF]<;>omega);refine wW ?_;refine wB ?_;refine wW ?_;refine wZ (kE [0,1,2,3,4,5,6,7,8,9,11,12,13,14,15,16,10,17,18,19,20,21,22,23,24] [225,225,226,58,58,0,0,0,0,0,58,0,0,0,0,0,4,3,0,6,0,5,225,225,226]) follows ?_;obtain⟨Me,g,hF⟩:=ie g hF;obtain⟨Lb,g,hF⟩:=ie g hF;refine wD hF ft λLc hF=>?_
    refine wE hF ft λMc hF=>?_
    refine wE hF gZ λJP hF=>?_
    obtain⟨g,hF⟩:=Rg g hF;refine wK [1,2,3,5,7,14,15,16,17,18,19,20,21,22,23,24,25,26,27,28,29,31,33,34,40,41,44,267,268] ?_;obtain⟨IR,g,hF⟩:=Rx g hF;refine wW ?_;exact wT (ba (di.1,di.2.1,di.2.2.1,di.2.2.2.1++[JP],di.2.2.2.2.1,di.2.2.2.2.2.1,IR)) (eW hF) (a:=by simp[go_sem,g,xC aO aN (by first|assumption|(simp;assumption)|(simp;omega))])
   refine wR hF [1,2,3,5,7,14,15,16,17,18,19,20,21,22,23,24,25,26,27,29,31,33,34,40,41,241] (λAU dN=>[(28,.bl [vD dN.1,vD dN.2.1,vD dN.2.2.1,vD dN.2.2.2.1,vD dN.2.2.2.2.1,vD dN.2.2.2.2.2]),(242,.v (.int .i64 AU))]) λb bg AU dN _ _ aO aN bo ba hF=>?_
   have cF:=aN;try simp at cF
   refine wW ?_;refine wt ?_ (hb:=by simp[go_sem,g,aO,aN,cF]<;>omega);refine wW ?_;refine wB ?_;refine wW ?_;refine wZ (kD 0 [225,225,226,58,0,0,0,0,0,0,0,0,0,3,0,5,225,225,226]) follows ?_;obtain⟨iV,g,hF⟩:=ie g hF;obtain⟨jt,g,hF⟩:=ie g hF;refine wE hF CL λoW hF=>?_
   obtain⟨g,hF⟩:=Rg g hF;refine wK [1,2,3,5,7,14,15,16,17,18,19,20,21,22,23,24,25,26,27,28,29,31,33,34,40,41,241,242] ?_;exact wT (ba (dN.1,dN.2.1,dN.2.2.1,dN.2.2.2.1++[oW],dN.2.2.2.2.1,dN.2.2.2.2.2)) (eW hF) (a:=by simp[go_sem,g,xC aO aN (by first|assumption|(simp;assumption)|(simp;omega))])
  refine wR hF [1,2,3,5,7,14,15,16,17,18,19,20,21,22,23,24,25,26,27,29,31,32,173,174] (λuK cB=>[(28,.bl [vD cB.1,vD cB.2.1,vD cB.2.2.1,vD cB.2.2.2.1,vD cB.2.2.2.2.1,vD cB.2.2.2.2.2.1]),(33,.v (vD cB.2.2.2.2.2.2.1)),(34,.v (vD cB.2.2.2.2.2.2.2.1)),(35,.v (.int .i64 cB.2.2.2.2.2.2.2.2.1)),(36,.v (.int .i64 cB.2.2.2.2.2.2.2.2.2)),(175,.v (.int .i64 uK))]) λb bg uK cB _ _ aO aN bo ba hF=>?_
  refine wW ?_;refine wu aO aN ?_;refine wW ?_;refine wB ?_;obtain⟨ot,g,hF⟩:=Rx g hF;refine wK [1,2,3,5,7,14,15,16,17,18,19,20,21,22,23,24,25,26,27,28,29,31,32,33,34,35,36,37,38,173,174,175] ?_;refine wZ (kD 0 [0,0,0,0,0,0,0,0,0,0,0,0,0,0,3,0]) follows ?_;obtain⟨g,hF⟩:=Rz g hF;obtain⟨MK,g,hF⟩:=Rx g hF;refine wE hF GP λrK hF=>?_
  refine wK [1,2,3,5,7,14,15,16,17,18,19,20,21,22,23,24,25,26,27,28,29,31,32,33,34,35,36,37,39,173,174,175] ?_;obtain⟨g,hF⟩:=Rg g hF;obtain⟨g,hF⟩:=Rz g hF;refine wW ?_;refine wK [1,2,3,5,7,14,15,16,17,18,19,20,21,22,23,24,25,26,27,28,29,31,32,33,34,35,36,37,39,173,174,175] ?_;refine wZ (kD 0 [225,226,58,0,0,0,0,0,0,3,0,5,225,226]) follows ?_;obtain⟨qn,g,hF⟩:=ie g hF;have c0:= @CL;have c1:= @GP;exact wL
 refine wR hF [1,2,3,4,5,7,14,15,16,17,18,19,20,21,22,23,24,25,26,27,29,140] (λfP bV=>[(28,.bl [vD bV.1,vD bV.2.1,vD bV.2.2.1,vD bV.2.2.2.1,vD bV.2.2.2.2.1,vD bV.2.2.2.2.2]),(141,.v (.int .i64 fP))]) λb bg fP bV _ _ aO aN bo ba hF=>?_
 refine wW ?_;refine wu aO aN ?_;refine wW ?_;refine wB ?_;refine wW ?_;refine wZ (kD 0 [225,226,58,0,0,0,0,0,0,0,0,0,3,0,5,225,226]) follows ?_;obtain⟨il,g,hF⟩:=Rx g hF;obtain⟨j5,g,hF⟩:=ie g hF;have c0:= @CL;exact wL
def zT(a0:am)(a1:Int)(a2:List an)(a3:List Int)(a4:List Int)(a5:List Int):Option (cn×Bool):=
 (((pR a0 a1 a2).bind λz4=>
 if(!z4)=Z then(
 J Z)else(
 (EW a3 (a2.length:Int)).bind λz6=>
 if(!z6)=Z then(
 J Z)else(
 if((a4.length:Int) !=(a2.length:Int))=Z then(
 J Z)else(
 (ru a0 a4).bind λz9=>
 if(!z9)=Z then(
 J Z)else(
 if((a5.length:Int) !=(i64.wrap ((i64.wrap (8*(a2.length:Int)))+2)))=Z then(
 J Z)else(
 (ru a0 a5).bind λbH=>
 J (!bH)))))):Option Bool).bind λx3=>
 if x3=Z then(
 J ((cn.mk [] [] [] (bZ.mk [] [] [])),aa))else(
 (EM a0).bind λeS=>
 if(!eS.2)=Z then(
 J ((cn.mk [] [] [] (bZ.mk [] [] [])),aa))else(
 (Gp a0 a1 eS.1 a2 a3 a4 a5).bind λlD=>
 J (lD,Z))))
def zpn{a0 a1 a2 a3 a4 a5 r}(hr:zT a0 a1 a2 a3 a4 a5=J r):ap Tryz.prog 88 [(.sh,vE a0),(.sh,.int .i64 a1),(.sh,vH a2),(.sh,vC a3),(.sh,vC a4),(.sh,vC a5)] (Eo (.bO [vQ r.1,.bool r.2]) rQ):=by
 apply pE [] hr zNd Tryz.func88;intro Φ ak hF g;unfold zT at hF
 iterate 2 (try simp[go_sem,g];try intros;refine bu ?_)
 refine bT hF [1,2,3,4,5,6,12] (λx3=>[(55,.v (.bool x3))]) (λx3 hF=>?_) λ_ hj0 hF=>?_
 ·have c0:= @Y9;have c1:= @zrK;exact wL
 have c0:= @HG;have c1:= @zn4;have c2:= @JC;exact wL
def AM(a0:am)(a1:Int)(a2:List an)(a3:Int)(a4:List Int)(a5:List Int):Option d8:=
 gd (0<=(a2.length:Int))<|
 gd (0<=a2.length/\a2.length<=a5.length)<|
 (CI a0 a1 a2 a4 ((a5.take a2.length).drop 0)).bind λz1=>
 ((if(a3==1)=Z then(
 gd (0<=(a2.length:Int))<|
 gd (0<=a2.length/\a2.length<=a5.length)<|
 gd (0<=(a2.length:Int))<|
 gd (a2.length<=a5.length/\a5.length<=a5.length)<|
 (uJ a0 a1 a2 a4 ((a5.take a2.length).drop 0) ((a5.take a5.length).drop a2.length)).bind λz6=>
 J (a3,z1,z6.1.cq,z6.1.aF,z6.1.Pi.aC,z6.1.Pi.aV,z6.1.Pi.aE,[],[],[],[],[],[]))else(
 gd (0<=(a2.length:Int))<|
 gd (0<=a2.length/\a2.length<=a5.length)<|
 gd (0<=(a2.length:Int))<|
 gd (a2.length<=a5.length/\a5.length<=a5.length)<|
 (zT a0 a1 a2 a4 ((a5.take a2.length).drop 0) ((a5.take a5.length).drop a2.length)).bind λz7=>
 J (a3,z1,[],[],[],[],[],z7.1.bQ,z7.1.bK,z7.1.aF,z7.1.Pi.aC,z7.1.Pi.aV,z7.1.Pi.aE)):Option ((Int×List an×List Int×List Int×List Int×List Int×List Int×List Int×List Int×List Int×List Int×List Int×List Int))).bind λx4=>
 J (d8.mk x4.1 x4.2.1 (cH.mk x4.2.2.1 x4.2.2.2.1 (bZ.mk x4.2.2.2.2.1 x4.2.2.2.2.2.1 x4.2.2.2.2.2.2.1)) (cn.mk x4.2.2.2.2.2.2.2.1 x4.2.2.2.2.2.2.2.2.1 x4.2.2.2.2.2.2.2.2.2.1 (bZ.mk x4.2.2.2.2.2.2.2.2.2.2.1 x4.2.2.2.2.2.2.2.2.2.2.2.1 x4.2.2.2.2.2.2.2.2.2.2.2.2))))
def zrC{a0 a1 a2 a3 a4 a5 r}(hr:AM a0 a1 a2 a3 a4 a5=J r):ap Tryz.prog 39 [(.sh,vE a0),(.sh,.int .i64 a1),(.sh,vH a2),(.sh,.int .i64 a3),(.sh,vC a4),(.sh,vC a5)] (Eo (vR r) rQ):=by
 apply pE [] hr zJQ Tryz.func39;intro Φ ak hF g;unfold AM at hF
 iterate 2 (try simp[go_sem,g];try intros;refine bu ?_)
 refine wZ (kE [0,1,2,3,4,5,6,7,10,8,9,11] [0,50,0,0,0,0,0,0,0,3,0,114]) follows ?_
 iterate 2 obtain⟨g,hF⟩:=Rg g hF
 refine wE hF Si λz1 hF=>?_
 refine wK [1,2,3,4,5,6,12,13,14] ?_;refine wW ?_;refine wJ hF (λx4=>[(12,.bl [.int .i64 0,.sl Z 2 [],.sl Z 1 [],.sl Z 1 [],.sl Z 1 [],.sl Z 1 [],.sl Z 1 [],.sl Z 1 [],.sl Z 1 [],.sl Z 1 [],.sl Z 1 [],.sl Z 1 [],.sl Z 1 []]),(14,.bl [.int .i64 x4.1,vG x4.2.1,vD x4.2.2.1,vD x4.2.2.2.1,vD x4.2.2.2.2.1,vD x4.2.2.2.2.2.1,vD x4.2.2.2.2.2.2.1,vD x4.2.2.2.2.2.2.2.1,vD x4.2.2.2.2.2.2.2.2.1,vD x4.2.2.2.2.2.2.2.2.2.1,vD x4.2.2.2.2.2.2.2.2.2.2.1,vD x4.2.2.2.2.2.2.2.2.2.2.2.1,vD x4.2.2.2.2.2.2.2.2.2.2.2.2])]) (λx4 hF=>?_) λ_ hj0 hF=>?_
 ·exact wl ak hF
 refine wI hF (λh5 hF=>?_) λh5 hF=>?_
 ·refine wZ (kD 0 [50,0,0,0,0,0,0,0,0,0,3,0,0,0,113,114]) follows ?_;have c0:= @znr;exact wL
 refine wZ (kD 0 [50,0,0,0,0,0,0,0,0,0,3,0,0,0,113,114]) follows ?_;have c0:= @zpn;exact wL
def tO(a0:am)(a1:Int)(a2:List an)(a3:Int)(a4:List Int)(a5:List Int):Option (d8×Bool):=
 (Dq a3 (a2.length:Int)).bind λz1=>
 ((if(!z1.2)=Z then(
 J Z)else(
 (tI a0 a1 a2).bind λz6=>
 if(!z6)=Z then(
 J Z)else(
 if((a4.length:Int) !=(a2.length:Int))=Z then(
 J Z)else(
 (GM a4).bind λz9=>
 if(!z9)=Z then(
 J Z)else(
 if((a5.length:Int) !=z1.1)=Z then(
 J Z)else(
 (ru a0 a5).bind λbH=>
 J (!bH)))))):Option Bool).bind λx4=>
 if x4=Z then(
 J ((d8.mk 0 [] (cH.mk [] [] (bZ.mk [] [] [])) (cn.mk [] [] [] (bZ.mk [] [] []))),aa))else(
 (AM a0 a1 a2 a3 a4 a5).bind λeS=>
 J (eS,Z)))
def VW{a0 a1 a2 a3 a4 a5 r}(hr:tO a0 a1 a2 a3 a4 a5=J r):ap Tryz.prog 8 [(.sh,vE a0),(.sh,.int .i64 a1),(.sh,vH a2),(.sh,.int .i64 a3),(.sh,vC a4),(.sh,vC a5)] (Eo (.bO [vR r.1,.bool r.2]) rQ):=by
 apply pE [] hr cl8 Tryz.func8;intro Φ ak hF g;unfold tO at hF;try simp[go_sem,g]
 try intros
 refine bu ?_;try simp[go_sem,g]
 try intros
 refine wE hF VI λz1 hF=>?_
 refine wK [1,2,3,4,5,6,12,14,15] ?_;refine bT hF [1,2,3,4,5,6,12] (λx4=>[(55,.v (.bool x4))]) (λx4 hF=>?_) λ_ hj0 hF=>?_
 ·have c0:= @zrC;exact wL
 have c0:= @Yx;have c1:= @ztA;have c2:= @JC;exact wL
def IV(a0:List an)(a1:List an):Option Bool:=
 if((a0.length:Int) !=(a1.length:Int))=Z then(
 J aa)else(
 ((aS (σ:=Unit) (λi6 s5=>
 (ix a0 i6).bind λcZ=>
 (ix a1 i6).bind λhO=>
 if(!(cZ.A==hO.A&&cZ.B==hO.B))=Z then(
 J (.out (.inr aa)))else(
 J (.go ()))) (λs5=>.inl ()) (a0.length) 0 ():Option (Unit ⊕ Bool)).bind (Sum.elim (λx4=>
 J Z) J)))
def zm6{a0 a1 r}(hr:IV a0 a1=J r):ap Tryz.prog 9 [(.sh,vH a0),(.sh,vH a1)] (Eo (.bool r) cJ):=by
 apply pE [] hr cl9 Tryz.func9;intro Φ ak hF g;unfold IV at hF
 iterate 2 (try simp[go_sem,g];try intros;refine bu ?_)
 refine wI hF (λh1 hF=>?_) λh1 hF=>?_
 ·exact wl ak hF
 iterate 2 (try simp[go_sem,g];try intros;refine bu ?_)
 refine wS hF (λx4=>[]) (λx4 hF=>?_) λ_ hj0 dE hF=>?_
 ·exact wL
 refine wR hF [0,1,12] (λi6 s5=>[(13,.v (.int .i64 i6))]) λb bg i6 s5 _ _ aO aN bo ba hF=>?_
 refine wK [0,1,12,13,14] ?_;refine wu aO aN ?_;refine wW ?_;refine wB ?_;refine wW ?_;refine wZ (kD 0 [0,0,0,0,0,0,0,0,0]) follows ?_;exact wL
def GO(a0:Int)(wo:am):Option Bool:=
 (An wo a0).bind λz1=>
 J (!z1)
def zi0{a0 wo r}(hr:GO a0 wo=J r):ap Tryz.prog 116 [(.sh,.int .i64 a0),(.sh,.fp [.func (.func 76) [vE wo] []])] (Eo (.bool r) cJ):=by
 apply pE [] hr Od Tryz.func116;intro Φ ak hF g;unfold GO at hF;have c0:= @SJ;exact wL
def LQ(a0:List Int)(kZ:am):Option Int:=
 ((aS (σ:=Unit) (λi5 s4=>
 (ix a0 i5).bind λaU=>
 (GO aU kZ).bind λbH=>
 if bH=Z then(
 J (.out (.inr i5)))else(
 J (.go ()))) (λs4=>.inl ()) (a0.length) 0 ():Option (Unit ⊕ Int)).bind (Sum.elim (λx3=>
 J (-1)) J))
def zfh{a0 kZ r}(hr:LQ a0 kZ=J r):ap Tryz.prog 174 [(.sh,vC a0),(.sh,.func (.func 116) [] [.fp [.func (.func 76) [vE kZ] []]])] (Eo (.int .i64 r) cJ):=by
 apply pE [] hr N8 Tryz.func174;intro Φ ak hF g;unfold LQ at hF
 iterate 2 (try simp[go_sem,g];try intros;refine bu ?_)
 refine wS hF (λx3=>[]) (λx3 hF=>?_) λ_ hj0 dE hF=>?_
 ·exact wl ak hF
 refine wR hF [0,1,7] (λi5 s4=>[(8,.v (.int .i64 i5))]) λb bg i5 s4 _ _ aO aN bo ba hF=>?_
 have c0:= @zi0;exact wL
def Lj(a0:List Int)(kZ:am):Option Bool:=
 (LQ a0 kZ).bind λz1=>
 J (decide (0<=z1))
def zeT{a0 kZ r}(hr:Lj a0 kZ=J r):ap Tryz.prog 115 [(.sh,vC a0),(.sh,.func (.func 116) [] [.fp [.func (.func 76) [vE kZ] []]])] (Eo (.bool r) cJ):=by
 apply pE [] hr M6 Tryz.func115;intro Φ ak hF g;unfold Lj at hF;have c0:= @zfh;exact wL
def LB(a0:List Int)(xI:am):Option Bool:=
 (Lj a0 xI).bind λz1=>
 J (!z1)
def zjm{a0 xI r}(hr:LB a0 xI=J r):ap Tryz.prog 69 [(.sh,vC a0),(.sh,.func (.func 76) [vE xI] [])] (Eo (.bool r) cJ):=by
 apply pF 9 [] [] [1000000] [.tmp 4] hr MU Tryz.func69;intro Φ ak hF g;unfold LB at hF;have c0:= @zeT;exact wL
def tD(a0:am)(a1:List Int):Option Bool:=
 (LB a1 a0).bind λz1=>
 J z1
def UT{a0 a1 r}(hr:tD a0 a1=J r):ap Tryz.prog 203 [(.sh,vE a0),(.sh,vC a1)] (Eo (.bool r) cJ):=by
 apply pE [] hr zHd Tryz.func203;intro Φ ak hF g;unfold tD at hF;have c0:= @zjm;exact wL
def JW(a0:am)(a1:cH)(a2:Int):Option Bool:=
 ((if((a1.cq.length:Int)==a2)=Z then(
 if((a1.aF.length:Int)==a2)=Z then(
 if((a1.Pi.aC.length:Int)==(i64.wrap (a2+5)))=Z then(
 if((a1.Pi.aV.length:Int)==1)=Z then(
 if((a1.Pi.aE.length:Int)==(i64.wrap ((i64.wrap (2*a2))+4)))=Z then(
 (tD a0 a1.cq).bind λz9=>
 if z9=Z then(
 (tD a0 a1.aF).bind λb8=>
 if b8=Z then(
 (tD a0 a1.Pi.aC).bind λdm=>
 if dm=Z then(
 (vz a0 a1.Pi.aE).bind λfH=>
 J fH)else(
 J aa))else(
 J aa))else(
 J aa))else(
 J aa))else(
 J aa))else(
 J aa))else(
 J aa))else(
 J aa):Option Bool).bind λx3=>
 J x3)
def zkl{a0 a1 a2 r}(hr:JW a0 a1 a2=J r):ap Tryz.prog 156 [(.sh,vE a0),(.sh,vL a1),(.sh,.int .i64 a2)] (Eo (.bool r) gw):=by
 apply pE [] hr zHC Tryz.func156;intro Φ ak hF g;unfold JW at hF;refine wW ?_;refine wJ hF (λx3=>[(6,.v (.bool x3))]) (λx3 hF=>?_) λ_ hj0 hF=>?_
 ·exact wm ak hF
 have c0:= @UT;have c1:= @G3;exact wL
def LT(a0:am)(a1:Int):Option Int:=
 (cQ a0 a1 (-1)).bind λz1=>
 J z1
def zps{a0 a1 r}(hr:LT a0 a1=J r):ap Tryz.prog 204 [(.sh,vE a0),(.sh,.int .i64 a1)] (Eo (.int .i64 r) cJ):=by
 apply pE [] hr zHQ Tryz.func204;intro Φ ak hF g;unfold LT at hF;have c0:= @gG;exact wL
def BG(a0:am)(a1:Int)(a2:Int):Option Int:=
 (LT a0 a2).bind λz1=>
 (en a0 [a1,z1]).bind λz2=>
 J z2
def zkf{a0 a1 a2 r}(hr:BG a0 a1 a2=J r):ap Tryz.prog 158 [(.sh,vE a0),(.sh,.int .i64 a1),(.sh,.int .i64 a2)] (Eo (.int .i64 r) gw):=by
 apply pE [] hr zHS Tryz.func158;intro Φ ak hF g;unfold BG at hF;refine wW ?_;refine wZ (kD 0 [26,0,26,0,3,0,6,0]) follows ?_;have c0:= @zps;have c1:= @jS;exact wL
def sT(a0:Int)(a1:Int)(a2:Int)(uY:Int)(JX:Int)(GY:Int)(vj:Int):Option Bool:=
 (cQ (am.mk uY JX GY) a1 vj).bind λz1=>
 (en (am.mk uY JX GY) [a0,z1]).bind λz2=>
 J (z2==a2)
def XH{a0 a1 a2 uY JX GY vj r}(hr:sT a0 a1 a2 uY JX GY vj=J r):ap Tryz.prog 157 [(.sh,.int .i64 a0),(.sh,.int .i64 a1),(.sh,.int .i64 a2),(.sh,.fp [.int .i64 uY,.int .i64 JX,.int .i64 GY]),(.sh,.fp [.int .i64 vj])] (Eo (.bool r) si):=by
 apply pE [] hr zHz Tryz.func157;intro Φ ak hF g;unfold sT at hF;refine wW ?_;refine wZ (kE [0,1,2,3,4,8,5,6,7,9,10] [0,0,0,0,0,0,4,0,6,0,0]) follows ?_;have c0:= @gG;have c1:= @jS;exact wL
def F4(a0:am)(a1:ct)(a2:Int)(a3:List an)(a4:List an)(a5:cH):Option Bool:=
 ((if((a4.length:Int) !=(a3.length:Int))=Z then(
 J Z)else(
 (JW a0 a5 (a3.length:Int)).bind λz5=>
 J (!z5)):Option Bool).bind λx3=>
 if x3=Z then(
 J aa)else(
 (qG a2 a3 a4 a5.cq).bind λz7=>
 (Ak a0 (⟨#[109,105,120,32,99,111,108,117,109,110,115]⟩:ByteArray) z7 (a3.length:Int)).bind λz8=>
 (pS [z7,a5.aF,a5.Pi.aC]).bind λz9=>
 (mg a0 (⟨#[109,105,120,32,112,114,111,111,102]⟩:ByteArray) z9).bind λbX=>
 ((if(!z8.2)=Z then(
 J Z)else(
 if(!bX.2)=Z then(
 J Z)else(
 (ix a5.Pi.aV 0).bind λvt=>
 J (vt !=bX.1))):Option Bool).bind λhO=>
 if hO=Z then(
 J aa)else(
 gd (0<=(i64.wrap ((a3.length:Int)+4)))<|
 gd ((i64.wrap ((a3.length:Int)+4)).toNat<=a5.Pi.aE.length/\a5.Pi.aE.length<=a5.Pi.aE.length)<|
 ((aS (σ:=Int) (λfP bV=>
 (ix z8.1 fP).bind λil=>
 (eQ a0 (i64.wrap (bV*il))).bind λnQ=>
 J (.go nQ)) (λbV=>bV) (z8.1.length) 0 1:Option Int).bind λfE=>
 (v4 a3).bind λnx=>
 (v4 a4).bind λgX=>
 (((ix a5.Pi.aC 0).bind λuv=>
 (ix a5.Pi.aE 0).bind λku=>
 (en a0 a5.cq).bind λL3=>
 (en a0 a1.Hs).bind λNd=>
 (BG a0 L3 Nd).bind λBs=>
 (cQ a0 a0.G ku).bind λBh=>
 (sT uv Bs Bh a0.P a0.Q a0.G bX.1).bind λAf=>
 if Af=Z then(
 (ix a5.Pi.aC 1).bind λx47=>
 (ix a5.Pi.aE 1).bind λx48=>
 (lF a0 a5.cq z8.1).bind λNq=>
 (cQ a0 a0.G x48).bind λxy=>
 (lF a0 a1.Hs ((a5.Pi.aE.take a5.Pi.aE.length).drop ((i64.wrap ((a3.length:Int)+4)).toNat))).bind λAj=>
 (en a0 [xy,Aj]).bind λqL=>
 (sT x47 Nq qL a0.P a0.Q a0.G bX.1).bind λCv=>
 if Cv=Z then(
 (ix a5.Pi.aC 2).bind λiH=>
 (ix a5.aF (i64.wrap ((a3.length:Int)-1))).bind λwA=>
 (ix a5.Pi.aE 2).bind λSH=>
 (cQ a0 a1.H fE).bind λz58=>
 (BG a0 wA z58).bind λz59=>
 (cQ a0 a0.G SH).bind λGl=>
 (sT iH z59 Gl a0.P a0.Q a0.G bX.1).bind λrK=>
 if rK=Z then(
 (ix a5.Pi.aC 3).bind λx63=>
 (ix a5.Pi.aE 3).bind λxD=>
 (lF a0 nx.1 z8.1).bind λH7=>
 (cQ a0 a0.G (i64.wrap (0-xD))).bind λz66=>
 (lF a0 gX.1 ((a5.Pi.aE.take a5.Pi.aE.length).drop ((i64.wrap ((a3.length:Int)+4)).toNat))).bind λGF=>
 (en a0 [z66,GF]).bind λHp=>
 (sT x63 H7 Hp a0.P a0.Q a0.G bX.1).bind λqS=>
 if qS=Z then(
 (ix a5.Pi.aC 4).bind λO8=>
 (lF a0 nx.2 z8.1).bind λo0=>
 (cQ a0 a2 (i64.wrap (0-xD))).bind λrj=>
 (lF a0 gX.2 ((a5.Pi.aE.take a5.Pi.aE.length).drop ((i64.wrap ((a3.length:Int)+4)).toNat))).bind λyv=>
 (en a0 [rj,yv]).bind λGj=>
 (sT O8 o0 Gj a0.P a0.Q a0.G bX.1).bind λMr=>
 J Mr)else(
 J aa))else(
 J aa))else(
 J aa))else(
 J aa):Option Bool).bind λgH=>
 gd (([a1.H].length+a5.aF.length)*8<=140737488355328/\[a1.H].length+a5.aF.length<=4611686018427387904)<|
 (J ([a1.H]++a5.aF)).bind λkg=>
 ((aS (σ:=Bool) (λyL FM=>
 ((if FM=Z then(
 (ix a5.Pi.aC (i64.wrap (5+yL))).bind λjt=>
 (ix a5.aF yL).bind λxt=>
 (ix a5.Pi.aE (i64.wrap (4+yL))).bind λxM=>
 (ix kg yL).bind λVY=>
 (ix ((a5.Pi.aE.take a5.Pi.aE.length).drop ((i64.wrap ((a3.length:Int)+4)).toNat)) yL).bind λxg=>
 (cQ a0 a0.G xM).bind λRe=>
 (cQ a0 VY xg).bind λPZ=>
 (en a0 [Re,PZ]).bind λIY=>
 (sT jt xt IY a0.P a0.Q a0.G bX.1).bind λGU=>
 J GU)else(
 J aa):Option Bool).bind λmh=>
 J (.go mh))) (λFM=>FM) (a3.length) 0 gH:Option Bool).bind λNF=>
 J NF)))))))
set_option maxHeartbeats 16000000 in
def zky{a0 a1 a2 a3 a4 a5 r}(hr:F4 a0 a1 a2 a3 a4 a5=J r):ap Tryz.prog 90 [(.sh,vE a0),(.sh,vJ a1),(.sh,.int .i64 a2),(.sh,vH a3),(.sh,vH a4),(.sh,vL a5)] (Eo (.bool r) rQ):=by
 apply pF 296 [] [955] [1000000] [.tmp 12] hr zKY Tryz.func90;intro Φ ak hF g;unfold F4 at hF
 iterate 2 (try simp[go_sem,g];try intros;refine bu ?_)
 refine bT hF [2,3,4,6,7,11,13] (λx3=>[(45,.v (.bool x3))]) (λx3 hF=>?_) λ_ hj0 hF=>?_
 ·refine wI hF (λh6 hF=>?_) λh6 hF=>?_
  ·exact wl ak hF
  refine wW ?_;refine wE hF Du λz7 hF=>?_
  refine wK [2,3,4,6,7,11,13,14] ?_;refine wE hF ZH λz8 hF=>?_
  refine wW ?_;refine wZ (kE [0,1,2,3,4,5,6,7,13,8,9,10,11,12,14,15] [50,0,89,90,89,89,90,0,0,6,3,0,0,0,138,0]) follows ?_;refine wE hF Dl λz9 hF=>?_
  refine wE hF xY λbX hF=>?_
  refine wK [2,3,4,6,7,11,13,15,16,17,18] ?_;refine bT hF [2,3,4,6,7,11,13,15,17] (λhO=>[(86,.v (.bool hO))]) (λhO hF=>?_) λ_ hj0 hF=>?_
  ·refine wI hF (λT4 hF=>?_) λT4 hF=>?_
   ·exact wl ak hF
   refine wW ?_;refine wZ (kD 0 [89,89,90,89,89,90,0,0]) follows ?_
   iterate 2 obtain⟨g,hF⟩:=Rg g hF
   refine wW ?_;refine wK [2,3,4,6,7,11,13,15,17,19,20,21,22] ?_;try simp[go_sem,g]
   try intros
   refine bu ?_;refine bT hF [2,3,4,6,7,11,13,15,17,19,20,21] (λfE=>[(22,.v (.int .i64 fE))]) (λfE hF=>?_) λ_ hj0 hF=>?_
   ·refine wE hF DH λnx hF=>?_
    refine wK [2,4,6,7,11,13,15,17,19,20,21,22,25,26] ?_;refine wE hF DH λgX hF=>?_
    iterate 2 refine wW ?_
    refine bT hF [6,7,11,13,19,20,21,29] (λgH=>[(30,.v (.bool gH))]) (λgH hF=>?_) λ_ hj0 hF=>?_
    ·obtain⟨g,hF⟩:=Rg g hF;obtain⟨kg,Tj,hF⟩:=mi hF;have g:=And.intro g (show[.int .i64 a1.H]::(List.map aJ a5.aF)=kg.map aJ by injection Tj with Tj;rw[<-Tj];simp[go_sem]);refine wK [6,11,13,19,20,21,29,30,31] ?_;refine wW ?_;refine wJ hF (λNF=>[(30,.v (.bool NF))]) (λNF hF=>?_) λ_ hj0 hF=>?_
     ·exact wl ak hF
     refine wR hF [6,11,19,20,21,29,31,253] (λyL FM=>[(30,.v (.bool FM)),(254,.v (.int .i64 yL))]) λb bg yL FM _ _ aO aN bo ba hF=>?_
     refine wW ?_;refine wu aO aN ?_;refine wW ?_;refine bT hF [6,11,19,20,21,29,31,253,254] (λmh=>[(30,.v (.bool mh))]) (λmh hF=>?_) λ_ j8 hF=>?_
     ·exact wL
     refine wB ?_;refine wW ?_;refine wZ (kE [0,1,2,3,4,5,6,7,8,9,10,11,12,13,14,15,16,17,18,19,20,21,23,24,25,26,27,28,29,30,31,22,32,33,34,35,36,37] [0,0,0,0,0,0,0,0,89,90,0,0,0,0,0,0,0,0,0,0,0,0,0,0,0,0,0,0,0,0,0,4,4,0,7,3,0,0]) follows ?_;refine wH hF (λSR hF=>?_) λSR hF=>?_
     ·obtain⟨jt,g,hF⟩:=Rx g hF;obtain⟨xt,g,hF⟩:=Rx g hF;obtain⟨xM,g,hF⟩:=Rx g hF;obtain⟨VY,g,hF⟩:=Rx g hF;obtain⟨xg,g,hF⟩:=ie g hF;have c0:= @gG;have c1:= @jS;have c2:= @XH;have h:=SR;exact wL
     have h:=SR;exact wL
    refine wZ (kE [0,1,2,3,4,5,6,7,9,10,11,14,15,16,17,18,19,8,12,13,20,21,22,23,24,25,26,27,28,29,30,32,33,34,35,36,37,38,40,41,42,43,31,39,44,45,46,47,48,49,50,51,52,53,54,55,56,57,58,59,60,61,62,63,64,67,68,69,70,71,72,65,66,73,74,75,76,77,78,79,80,81,82,83,85,86,87,88,89,90,91,92,94,95,96,84,93,97,98,99,100,101,102,103,104,105,106,107,108,109,111,112,113,114,115,116,117,119,120,121,110,118,122,123,124,125,126,127] [0,0,0,0,0,0,89,90,0,57,58,0,0,0,0,0,0,4,4,4,4,3,0,0,0,0,0,0,89,90,0,0,0,0,0,0,0,0,0,57,58,0,4,4,4,0,7,3,0,0,0,0,0,0,0,89,90,0,0,0,0,0,57,58,0,0,0,0,0,0,0,4,4,4,3,0,0,0,0,0,0,0,0,0,0,0,0,0,0,0,0,0,0,0,0,4,4,4,0,7,3,0,0,0,0,0,0,0,0,0,0,0,0,0,0,0,0,0,0,0,4,4,4,0,7,3,0,0]) follows ?_;have c0:= @jS;have c1:= @zkf;have c2:= @gG;have c3:= @XH;have c4:= @v5;exact wL
   refine wR hF [2,3,4,6,7,11,13,15,17,19,20,21,97,98] (λfP bV=>[(22,.v (.int .i64 bV)),(99,.v (.int .i64 fP))]) λb bg fP bV _ _ aO aN bo ba hF=>?_
   have c0:= @mC;exact wL
  refine wZ (kD 0 [0,0,0,0,0,0,0,89,89,90,0,0,138,0,0]) follows ?_;exact wL
 have c0:= @zkl;exact wL
def tS(a0:am)(a1:Int)(a2:List an)(a3:List an)(a4:cH):Option (Bool×Bool):=
 (tE a0 a1 a2).bind λz1=>
 ((if(!z1.2)=Z then(
 J Z)else(
 (Ai a0 a3).bind λz6=>
 J (!z6)):Option Bool).bind λx4=>
 if x4=Z then(
 J (aa,aa))else(
 (F4 a0 z1.1 a1 a2 a3 a4).bind λz8=>
 J (z8,Z)))
def zm2{a0 a1 a2 a3 a4 r}(hr:tS a0 a1 a2 a3 a4=J r):ap Tryz.prog 42 [(.sh,vE a0),(.sh,.int .i64 a1),(.sh,vH a2),(.sh,vH a3),(.sh,vL a4)] (Eo (.bO [.bool r.1,.bool r.2]) si):=by
 apply pE [] hr zNK Tryz.func42;intro Φ ak hF g;unfold tS at hF;refine wW ?_;refine wE hF NM λz1 hF=>?_
 refine wK [1,2,3,5,9,12,13] ?_;refine bT hF [1,2,3,5,9,12] (λx4=>[(28,.v (.bool x4))]) (λx4 hF=>?_) λ_ hj0 hF=>?_
 ·have c0:= @zky;exact wL
 have c0:= @NX;exact wL
def Fx(a0:bZ):Option Bool:=
 ((if((a0.aC.length:Int)==0)=Z then(
 if((a0.aV.length:Int)==0)=Z then(
 J ((a0.aE.length:Int)==0))else(
 J aa))else(
 J aa):Option Bool).bind λx3=>
 J x3)
def zjh{a0 r}(hr:Fx a0=J r):ap Tryz.prog 91 [(.sh,vS a0)] (Eo (.bool r) [.au]):=by
 apply pE [] hr zLt Tryz.func91;intro Φ ak hF g;unfold Fx at hF;refine wW ?_;refine wJ hF (λx3=>[(2,.v (.bool x3))]) (λx3 hF=>?_) λ_ hj0 hF=>?_
 ·exact wm ak hF
 exact wL
def F1(a0:cn):Option Bool:=
 ((if((a0.bQ.length:Int)==0)=Z then(
 if((a0.bK.length:Int)==0)=Z then(
 if((a0.aF.length:Int)==0)=Z then(
 (Fx a0.Pi).bind λz7=>
 J z7)else(
 J aa))else(
 J aa))else(
 J aa):Option Bool).bind λx3=>
 J x3)
def VJ{a0 r}(hr:F1 a0=J r):ap Tryz.prog 43 [(.sh,vM a0)] (Eo (.bool r) [.au]):=by
 apply pE [] hr zKI Tryz.func43;intro Φ ak hF g;unfold F1 at hF;refine wW ?_;refine wJ hF (λx3=>[(2,.v (.bool x3))]) (λx3 hF=>?_) λ_ hj0 hF=>?_
 ·exact wm ak hF
 have c0:= @zjh;exact wL
def G2(a0:am)(a1:cn)(a2:Int):Option Bool:=
 ((if((a1.bQ.length:Int)==a2)=Z then(
 if((a1.bK.length:Int)==a2)=Z then(
 if((a1.aF.length:Int)==a2)=Z then(
 if((a1.Pi.aC.length:Int)==(i64.wrap ((i64.wrap (3*a2))+3)))=Z then(
 if((a1.Pi.aV.length:Int)==1)=Z then(
 if((a1.Pi.aE.length:Int)==(i64.wrap ((i64.wrap (5*a2))+2)))=Z then(
 (tD a0 a1.bQ).bind λbX=>
 if bX=Z then(
 (tD a0 a1.bK).bind λbH=>
 if bH=Z then(
 (tD a0 a1.aF).bind λeS=>
 if eS=Z then(
 (tD a0 a1.Pi.aC).bind λlD=>
 if lD=Z then(
 (vz a0 a1.Pi.aE).bind λfQ=>
 J fQ)else(
 J aa))else(
 J aa))else(
 J aa))else(
 J aa))else(
 J aa))else(
 J aa))else(
 J aa))else(
 J aa))else(
 J aa))else(
 J aa):Option Bool).bind λx3=>
 J x3)
def zla{a0 a1 a2 r}(hr:G2 a0 a1 a2=J r):ap Tryz.prog 159 [(.sh,vE a0),(.sh,vM a1),(.sh,.int .i64 a2)] (Eo (.bool r) gw):=by
 apply pE [] hr zIf Tryz.func159;intro Φ ak hF g;unfold G2 at hF;refine wW ?_;refine wJ hF (λx3=>[(6,.v (.bool x3))]) (λx3 hF=>?_) λ_ hj0 hF=>?_
 ·exact wm ak hF
 have c0:= @UT;have c1:= @G3;exact wL
def qu(a0:Int)(a1:Int)(a2:Int)(uY:Bool)(vj:Int)(IB:Int)(JV:Int)(Nw:Int):Option Bool:=
 if uY=Z then(
 (cQ (am.mk vj IB JV) a1 Nw).bind λz2=>
 (en (am.mk vj IB JV) [a0,z2]).bind λz3=>
 J (z3==a2))else(
 J aa)
def ES{a0 a1 a2 uY vj IB JV Nw r}(hr:qu a0 a1 a2 uY vj IB JV Nw=J r):ap Tryz.prog 160 [(.sh,.int .i64 a0),(.sh,.int .i64 a1),(.sh,.int .i64 a2),(.io,.bx [.bool uY]),(.sh,.fp [.int .i64 vj,.int .i64 IB,.int .i64 JV]),(.sh,.fp [.int .i64 Nw])] (Eo (.au) [.au,.au,.au,.bx [.bool r],.au,.au]):=by
 apply pE [3] hr zHj Tryz.func160;intro Φ ak hF g;unfold qu at hF;refine wZ (kE [0,1,2,3,4,5,6,10,7,8,9,11,12,13] [0,0,0,0,0,0,0,0,4,0,6,0,0,0]) follows ?_;have c0:= @gG;have c1:= @jS;exact wL
def Hn(a0:Int)(a1:Int)(a2:Int)(a3:Int)(a4:Int):Option Int:=
 ((dI (σ:=Int×Int×Int) (λs4=>
 if decide (s4.2.2<=a1)=Z then(
 gd (a0≠0)<|
 gd (a0≠0)<|
 (At (i64.wrap ((i64.wrap (((i64.wrap (a3*s4.2.2)).tmod a0)+((i64.wrap (s4.2.1*a2)).tmod a0)))-a4)) a0).bind λbX=>
 gd (a0≠0)<|
 J (.go ((i64.wrap (s4.1*bX)).tmod a0,(i64.wrap (s4.2.1*a2)).tmod a0,i64.wrap (s4.2.2+1))))else(
 J (.out s4.1))) (1,1,1):Option Int).bind λx3=>
 J x3)
def zmB{a0 a1 a2 a3 a4 r}(hr:Hn a0 a1 a2 a3 a4=J r):ap Tryz.prog 161 [(.sh,.int .i64 a0),(.sh,.int .i64 a1),(.sh,.int .i64 a2),(.sh,.int .i64 a3),(.sh,.int .i64 a4)] (Eo (.int .i64 r) si):=by
 apply pE [] hr zEB Tryz.func161;intro Φ ak hF g;unfold Hn at hF
 iterate 3 refine wW ?_
 refine wJ hF (λx3=>[(11,.v (.int .i64 x3))]) (λx3 hF=>?_) λ_ hj0 hF=>?_
 ·exact wl ak hF
 refine wB ?_;obtain⟨Oe,wO,bg⟩:=hF;refine jJ wO [0,1,2,3,4] (λs4=>[(11,.v (.int .i64 s4.1)),(12,.v (.int .i64 s4.2.1)),(13,.v (.int .i64 s4.2.2))]) λs4 _ _ bo ba hF=>?_
 have c0:= @QH;exact wL
def AS(a0:am)(a1:ct)(a2:Int)(a3:List an)(a4:List an)(a5:cn):Option Bool:=
 ((if((a4.length:Int) !=(a3.length:Int))=Z then(
 J Z)else(
 (G2 a0 a5 (a3.length:Int)).bind λz5=>
 J (!z5)):Option Bool).bind λx3=>
 if x3=Z then(
 J aa)else(
 (qG a2 a3 a4 a5.bQ).bind λz7=>
 (mg a0 (⟨#[109,105,120,32,120]⟩:ByteArray) z7).bind λz8=>
 (uh a5.bQ).bind λz9=>
 gd ((z9.length+a5.bK.length)*8<=140737488355328/\z9.length+a5.bK.length<=4611686018427387904)<|
 (qG a2 a3 a4 (z9++a5.bK)).bind λbX=>
 (Bf a0 bX).bind λb8=>
 (pS [bX,a5.aF,a5.Pi.aC]).bind λbH=>
 (mg a0 (⟨#[109,105,120,32,101,110,100]⟩:ByteArray) bH).bind λdm=>
 ((if(!z8.2)=Z then(
 J Z)else(
 if(!b8.2.2)=Z then(
 J Z)else(
 if(!dm.2)=Z then(
 J Z)else(
 (ix a5.Pi.aV 0).bind λfE=>
 J (fE !=dm.1)))):Option Bool).bind λvt=>
 if vt=Z then(
 J aa)else(
 (iT a5.Pi.aE (a3.length:Int)).bind λky=>
 (iT ky.2 (a3.length:Int)).bind λyi=>
 (iT yi.2 (a3.length:Int)).bind λtA=>
 (sw tA.2).bind λsQ=>
 (iT sQ.2 (a3.length:Int)).bind λiQ=>
 (iT iQ.2 (a3.length:Int)).bind λnk=>
 (sw nk.2).bind λfO=>
 gd (([a0.G].length+a5.aF.length)*8<=140737488355328/\[a0.G].length+a5.aF.length<=4611686018427387904)<|
 (J ([a0.G]++a5.aF)).bind λj5=>
 ((aS (σ:=(List Int)×Bool) (λgf lh=>
 (nC z8.1 (i64.wrap (gf+1)) a0.Q).bind λo0=>
 gd ((lh.1.length+1)*8<=140737488355328/\lh.1.length+1<=4611686018427387904)<|
 (ix a5.Pi.aC gf).bind λN1=>
 (ix a5.bQ gf).bind λMy=>
 (ix a5.bK gf).bind λF7=>
 (ix ky.1 gf).bind λxB=>
 (ix yi.1 gf).bind λkg=>
 (cQ a0 My b8.1).bind λB3=>
 (cQ a0 a0.G (i64.wrap (0-b8.2.1))).bind λB1=>
 (en a0 [B3,F7,B1]).bind λt7=>
 (ou a0 a1 xB kg).bind λmX=>
 (qu N1 t7 mX lh.2 a0.P a0.Q a0.G dm.1).bind λBO=>
 (ix a5.Pi.aC (i64.wrap ((a3.length:Int)+gf))).bind λMk=>
 (ix a5.aF gf).bind λBJ=>
 (ix j5 gf).bind λDV=>
 (ix tA.1 gf).bind λpz=>
 (cQ a0 DV xB).bind λyf=>
 (cQ a0 a1.H pz).bind λoR=>
 (en a0 [yf,oR]).bind λBb=>
 (qu Mk BJ Bb BO a0.P a0.Q a0.G dm.1).bind λOi=>
 (ix a5.Pi.aC (i64.wrap ((i64.wrap ((i64.wrap (2*(a3.length:Int)))+1))+gf))).bind λmh=>
 (ix iQ.1 gf).bind λiV=>
 (ix nk.1 gf).bind λjt=>
 (ou a0 a1 iV jt).bind λoW=>
 (qu mh F7 oW Oi a0.P a0.Q a0.G dm.1).bind λOn=>
 J (.go (lh.1++[o0],On))) (λlh=>(lh.1,lh.2)) (a3.length) 0 ([],Z):Option ((List Int×Bool))).bind λiY=>
 (ix a5.Pi.aC (i64.wrap (2*(a3.length:Int)))).bind λVB=>
 (ix a5.aF (i64.wrap ((a3.length:Int)-1))).bind λlR=>
 (Hn a0.Q (a3.length:Int) z8.1 b8.1 b8.2.1).bind λVo=>
 (cQ a0 a0.G Vo).bind λYn=>
 (BG a0 lR Yn).bind λZb=>
 (cQ a0 a1.H sQ.1).bind λAaa=>
 (qu VB Zb Aaa iY.2 a0.P a0.Q a0.G dm.1).bind λZ9=>
 (v4 a3).bind λPE=>
 (v4 a4).bind λTw=>
 (ix a5.Pi.aC (i64.wrap ((i64.wrap (3*(a3.length:Int)))+1))).bind λL4=>
 (lF a0 PE.1 iY.1).bind λL0=>
 (cQ a0 a0.G (i64.wrap (0-fO.1))).bind λYm=>
 (lF a0 Tw.1 iQ.1).bind λMJ=>
 (en a0 [Ym,MJ]).bind λYF=>
 (qu L4 L0 YF Z9 a0.P a0.Q a0.G dm.1).bind λF0=>
 (ix a5.Pi.aC (i64.wrap ((i64.wrap (3*(a3.length:Int)))+2))).bind λAac=>
 (lF a0 PE.2 iY.1).bind λYG=>
 (cQ a0 a2 (i64.wrap (0-fO.1))).bind λZ0=>
 (lF a0 Tw.2 iQ.1).bind λYL=>
 (en a0 [Z0,YL]).bind λXU=>
 (qu Aac YG XU F0 a0.P a0.Q a0.G dm.1).bind λFd=>
 J Fd)))))
set_option maxHeartbeats 16000000 in
def zlc{a0 a1 a2 a3 a4 a5 r}(hr:AS a0 a1 a2 a3 a4 a5=J r):ap Tryz.prog 92 [(.sh,vE a0),(.sh,vJ a1),(.sh,.int .i64 a2),(.sh,vH a3),(.sh,vH a4),(.sh,vM a5)] (Eo (.bool r) rQ):=by
 apply pF 352 [] [727,738,1145,1555,1881] [33,1000000] [.tmp 12] hr zMU Tryz.func92;intro Φ ak hF g;unfold AS at hF
 iterate 2 (try simp[go_sem,g];try intros;refine bu ?_)
 refine bT hF [2,3,4,6,7,11,13] (λx3=>[(52,.v (.bool x3))]) (λx3 hF=>?_) λ_ hj0 hF=>?_
 ·refine wI hF (λh6 hF=>?_) λh6 hF=>?_
  ·exact wl ak hF
  refine wW ?_;refine wZ (kD 0 [50,0,0,0,89,90,3,3,0,0,0,0,0]) follows ?_;refine wE hF Du λz7 hF=>?_
  refine wE hF xY λz8 hF=>?_
  refine wK [2,3,4,6,7,11,13,14,15] ?_;refine wZ (kE [0,1,2,3,4,6,7,5,8,9,10] [0,0,0,89,90,89,90,3,0,3,0]) follows ?_;refine wE hF LF λz9 hF=>?_
  obtain⟨g,hF⟩:=Rg g hF;refine wE hF Du λbX hF=>?_
  refine wK [2,3,4,6,7,11,13,14,15,16] ?_;refine wE hF ZF λb8 hF=>?_
  refine wK [2,3,4,6,7,11,13,14,15,16,17,18,19] ?_;refine wZ (kE [0,1,2,3,4,5,6,7,13,8,9,10,11,12,14,15] [50,0,89,90,89,89,90,0,0,6,3,0,0,0,162,0]) follows ?_;refine wE hF Dl λbH hF=>?_
  refine wE hF xY λdm hF=>?_
  refine wK [2,3,4,6,7,11,13,14,15,17,18,19,20,21] ?_;refine bT hF [2,3,4,6,7,11,13,14,17,18,20] (λvt=>[(112,.v (.bool vt))]) (λvt hF=>?_) λ_ hj0 hF=>?_
  ·refine wI hF (λHy hF=>?_) λHy hF=>?_
   ·exact wl ak hF
   refine wW ?_;refine wZ (kD 0 [89,89,90,89,89,90,0,0,0,961]) follows ?_;refine wK [2,3,4,6,7,11,13,14,17,18,20,22,23,120] ?_;refine wC hF [.io,.sh] mf λky hF=>?_
   refine wC hF [.io,.sh] mf λyi hF=>?_
   refine wC hF [.io,.sh] mf λtA hF=>?_
   refine wK [2,3,4,6,7,11,13,14,17,18,20,22,23,24,25,26,120] ?_;refine wC hF [.io] zV λsQ hF=>?_
   refine wW ?_;refine wC hF [.io,.sh] mf λiQ hF=>?_
   refine wC hF [.io,.sh] mf λnk hF=>?_
   refine wK [2,3,4,6,7,11,13,14,17,18,20,22,23,24,25,26,27,28,29,120] ?_;refine wC hF [.io] zV λfO hF=>?_
   obtain⟨g,hF⟩:=Rg g hF;obtain⟨j5,RL,hF⟩:=mi hF;have g:=And.intro g (show[.int .i64 a0.G]::(List.map aJ a5.aF)=j5.map aJ by injection RL with RL;rw[<-RL];simp[go_sem]);refine wW ?_;refine wK [2,3,4,6,7,11,13,14,17,18,20,22,24,25,26,27,28,29,30,31] ?_
   iterate 3 refine wW ?_
   refine bT hF [2,3,4,6,7,11,13,14,17,18,22,27,28,30,34] (λiY=>[(32,.v (vD iY.1)),(33,.v (.bx [.bool iY.2]))]) (λiY hF=>?_) λ_ hj0 hF=>?_
   ·refine wZ (kE [0,1,2,3,4,5,6,7,8,9,10,11,12,13,14,15,16,17,18,19,20,21,25,26,27,28,22,23,24,29,30] [0,0,0,0,0,0,0,89,90,0,0,0,0,0,0,0,0,0,0,0,0,0,0,57,58,0,4,4,4,4,3]) follows ?_;obtain⟨VB,g,hF⟩:=Rx g hF;obtain⟨lR,g,hF⟩:=Rx g hF;refine wD hF zmB λVo hF=>?_
    refine wD hF gG λYn hF=>?_
    refine wD hF zkf λZb hF=>?_
    refine wD hF gG λAaa hF=>?_
    refine wY hF [.sh,.sh,.sh] ES λZ9 hF=>?_
    refine wK [2,3,4,6,13,22,28,30,32,33,34] ?_;refine wE hF DH λPE hF=>?_
    refine wW ?_;refine wE hF DH λTw hF=>?_
    refine wK [2,6,13,22,28,30,32,33,34,36,37,38,39] ?_;refine wZ (kE [0,1,2,3,4,5,6,7,8,9,11,12,13,14,15,16,18,19,20,10,17,21,22,23,24] [0,0,0,0,0,0,0,0,0,0,0,0,0,0,0,0,0,0,0,4,4,4,0,7,3]) follows ?_;obtain⟨L4,g,hF⟩:=Rx g hF;refine wD hF v5 λL0 hF=>?_
    refine wD hF gG λYm hF=>?_
    refine wD hF v5 λMJ hF=>?_
    refine wD hF jS λYF hF=>?_
    refine wY hF [.sh,.sh,.sh] ES λF0 hF=>?_
    refine wK [2,6,13,22,28,30,32,33,34,37,39] ?_;refine wZ (kE [0,1,2,3,4,5,6,7,8,9,11,12,13,14,15,17,18,19,10,16,20,21,22,23] [0,0,0,0,0,0,0,0,0,0,0,0,0,0,0,0,0,0,4,4,4,0,7,3]) follows ?_;obtain⟨Aac,g,hF⟩:=Rx g hF;refine wD hF v5 λYG hF=>?_
    refine wD hF gG λZ0 hF=>?_
    refine wD hF v5 λYL hF=>?_
    refine wD hF jS λXU hF=>?_
    refine wY hF [.sh,.sh,.sh] ES λFd hF=>?_
    exact wL
   refine wR hF [2,3,4,6,7,11,13,14,17,18,22,24,25,26,27,28,29,30,31,34,148] (λgf lh=>[(32,.v (vD lh.1)),(33,.v (.bx [.bool lh.2])),(149,.v (.int .i64 gf))]) λb bg gf lh _ _ aO aN bo ba hF=>?_
   refine wW ?_;refine wu aO aN ?_;refine wW ?_;refine wB ?_;refine wK [2,3,4,6,7,11,13,14,17,18,22,24,25,26,27,28,29,30,31,32,33,34,35,148,149] ?_;refine wE hF El λo0 hF=>?_
   obtain⟨g,hF⟩:=Rg g hF;refine wK [2,3,4,6,7,11,13,14,17,18,22,24,25,26,27,28,29,30,31,32,33,34,35,148,149] ?_;refine wZ (kE [0,1,2,3,4,5,6,7,8,9,10,11,12,14,15,16,17,18,19,20,21,22,23,27,28,29,30,31,32,33,34,35,36,13,24,25,26,37,38] [0,0,0,0,0,0,0,89,90,0,0,0,0,89,90,0,0,0,0,0,0,0,0,0,58,0,0,0,0,0,0,0,0,4,4,0,7,4,3]) follows ?_;obtain⟨N1,g,hF⟩:=Rx g hF;obtain⟨My,g,hF⟩:=Rx g hF;obtain⟨F7,g,hF⟩:=Rx g hF;obtain⟨xB,g,hF⟩:=Rx g hF;obtain⟨kg,g,hF⟩:=Rx g hF;refine wD hF gG λB3 hF=>?_
   refine wD hF gG λB1 hF=>?_
   refine wD hF jS λt7 hF=>?_
   refine wD hF Ch λmX hF=>?_
   refine wY hF [.sh,.sh,.sh] ES λBO hF=>?_
   refine wK [2,3,4,6,7,11,13,14,17,18,22,24,25,26,27,28,29,30,31,32,33,34,35,148,149] ?_;refine wZ (kE [0,1,2,3,4,5,6,7,8,9,10,11,12,13,14,15,16,17,18,19,20,21,23,24,25,26,27,28,29,22,30,31,32,33] [0,0,0,0,0,0,0,89,90,0,0,0,0,0,0,0,0,0,0,0,0,0,0,57,58,0,0,0,0,4,4,0,7,3]) follows ?_;obtain⟨Mk,g,hF⟩:=Rx g hF;obtain⟨BJ,g,hF⟩:=Rx g hF;obtain⟨DV,g,hF⟩:=Rx g hF;obtain⟨pz,g,hF⟩:=Rx g hF;refine wD hF gG λyf hF=>?_
   refine wD hF gG λoR hF=>?_
   refine wD hF jS λBb hF=>?_
   refine wY hF [.sh,.sh,.sh] ES λOi hF=>?_
   refine wK [2,3,4,6,7,11,13,14,17,18,22,24,25,26,27,28,29,30,31,32,33,34,35,148,149] ?_;refine wZ (kD 0 [0,0,0,0,0,0,0,0,0,89,90,0,0,0,0,58,0,0,0,0,0,0,0,0,4,3]) follows ?_;obtain⟨mh,g,hF⟩:=Rx g hF;obtain⟨iV,g,hF⟩:=Rx g hF;obtain⟨jt,g,hF⟩:=Rx g hF;refine wD hF Ch λoW hF=>?_
   refine wY hF [.sh,.sh,.sh] ES λOn hF=>?_
   exact wL
  refine wZ (kD 0 [0,0,0,0,0,0,0,0,0,0,0,89,89,90,0,0,162,0,0]) follows ?_;exact wL
 have c0:= @zla;exact wL
def tR(a0:am)(a1:Int)(a2:List an)(a3:List an)(a4:cn):Option (Bool×Bool):=
 (xQ a0 a1 a2).bind λz1=>
 ((if(!z1.2)=Z then(
 J Z)else(
 (Ai a0 a3).bind λz6=>
 J (!z6)):Option Bool).bind λx4=>
 if x4=Z then(
 J (aa,aa))else(
 (AS a0 z1.1 a1 a2 a3 a4).bind λz8=>
 J (z8,Z)))
def zoC{a0 a1 a2 a3 a4 r}(hr:tR a0 a1 a2 a3 a4=J r):ap Tryz.prog 44 [(.sh,vE a0),(.sh,.int .i64 a1),(.sh,vH a2),(.sh,vH a3),(.sh,vM a4)] (Eo (.bO [.bool r.1,.bool r.2]) si):=by
 apply pE [] hr zM6 Tryz.func44;intro Φ ak hF g;unfold tR at hF;refine wW ?_;refine wE hF Ty λz1 hF=>?_
 refine wK [1,2,3,5,9,12,13] ?_;refine bT hF [1,2,3,5,9,12] (λx4=>[(28,.v (.bool x4))]) (λx4 hF=>?_) λ_ hj0 hF=>?_
 ·have c0:= @zlc;exact wL
 have c0:= @NX;exact wL
def FH(a0:cH):Option Bool:=
 ((if((a0.cq.length:Int)==0)=Z then(
 if((a0.aF.length:Int)==0)=Z then(
 (Fx a0.Pi).bind λz6=>
 J z6)else(
 J aa))else(
 J aa):Option Bool).bind λx3=>
 J x3)
def YA{a0 r}(hr:FH a0=J r):ap Tryz.prog 45 [(.sh,vL a0)] (Eo (.bool r) [.au]):=by
 apply pE [] hr zLm Tryz.func45;intro Φ ak hF g;unfold FH at hF;refine wW ?_;refine wJ hF (λx3=>[(2,.v (.bool x3))]) (λx3 hF=>?_) λ_ hj0 hF=>?_
 ·exact wm ak hF
 have c0:= @zjh;exact wL
def sO(a0:am)(a1:Int)(a2:List an)(a3:d8):Option (Bool×Bool):=
 (xQ a0 a1 a2).bind λz1=>
 if(!z1.2)=Z then(
 J (aa,aa))else(
 (Ai a0 a3.Out).bind λz3=>
 if(!z3)=Z then(
 J (aa,Z))else(
 if(a3.dF==1)=Z then(
 (tS a0 a1 a2 a3.Out a3.br).bind λz6=>
 ((if z6.2=Z then(
 if z6.1=Z then(
 (F1 a3.Poly).bind λbH=>
 J bH)else(
 J aa))else(
 J aa):Option Bool).bind λx9=>
 J (x9,Z)))else(
 if(a3.dF==2)=Z then(
 (tR a0 a1 a2 a3.Out a3.Poly).bind λeS=>
 ((if eS.2=Z then(
 if eS.1=Z then(
 (FH a3.br).bind λom=>
 J om)else(
 J aa))else(
 J aa):Option Bool).bind λbG=>
 J (bG,Z)))else(
 J (aa,Z)))))
def WP{a0 a1 a2 a3 r}(hr:sO a0 a1 a2 a3=J r):ap Tryz.prog 10 [(.sh,vE a0),(.sh,.int .i64 a1),(.sh,vH a2),(.sh,vN a3)] (Eo (.bO [.bool r.1,.bool r.2]) kP):=by
 apply pE [] hr zKp Tryz.func10;intro Φ ak hF g;unfold sO at hF;refine wW ?_;refine wE hF Ty λz1 hF=>?_
 refine wK [1,2,4,7,11] ?_;refine wW ?_;refine wI hF (λh2 hF=>?_) λh2 hF=>?_
 ·exact wl ak hF
 refine wW ?_;refine wE hF NX λz3 hF=>?_
 refine wW ?_;refine wI hF (λh4 hF=>?_) λh4 hF=>?_
 ·exact wl ak hF
 iterate 2 refine wW ?_
 refine wB ?_;refine wK [1,2,4,7,31,32] ?_;refine wI hF (λh5 hF=>?_) λh5 hF=>?_
 ·refine wE hF zm2 λz6 hF=>?_
  refine wK [7,12,13] ?_;refine wJ hF (λx9=>[(8,.v (.bool x9)),(9,.v (.bool Z))]) (λx9 hF=>?_) λ_ hj0 hF=>?_
  ·exact wm ak hF
  have c0:= @VJ;exact wL
 refine wW ?_;refine wI hF (λJL hF=>?_) λJL hF=>?_
 ·refine wE hF zoC λeS hF=>?_
  refine wK [7,14,15] ?_;refine wJ hF (λbG=>[(8,.v (.bool bG)),(9,.v (.bool Z))]) (λbG hF=>?_) λ_ hj0 hF=>?_
  ·exact wm ak hF
  have c0:= @YA;exact wL
 exact wL
def zp(a0:List Int):Option Bool:=
 ((if decide ((a0.length:Int)<=400)=Z then(
 (Do a0).bind λz5=>
 J z5)else(
 J aa):Option Bool).bind λx3=>
 J x3)
def Nl{a0 r}(hr:zp a0=J r):ap Tryz.prog 97 [(.sh,vC a0)] (Eo (.bool r) [.au]):=by
 apply pE [] hr zLM Tryz.func97;intro Φ ak hF g;unfold zp at hF;refine wW ?_;refine wJ hF (λx3=>[(2,.v (.bool x3))]) (λx3 hF=>?_) λ_ hj0 hF=>?_
 ·exact wm ak hF
 have c0:= @Xd;exact wL
def AE(a0:List Int):Option (List Int×Bool):=
 (zp a0).bind λz1=>
 if(!z1)=Z then(
 J ([],aa))else(
 J (a0,Z))
def Pl{a0 r}(hr:AE a0=J r):ap Tryz.prog 93 [(.sh,vC a0)] (Eo (.bO [vC r.1,.bool r.2]) [.au]):=by
 apply pF 8 [] [2] [] [.tmp 2,.tmp 3] hr zLp Tryz.func93;intro Φ ak hF g;unfold AE at hF;have c0:= @Nl;exact wL
def D0(a0:List an):Option (List Int×Bool):=
 ((aS (σ:=(List Int)) (λi5 s4=>
 (ix a0 i5).bind λaU=>
 gd ((s4.length+2)*8<=140737488355328/\s4.length+2<=4611686018427387904)<|
 J (.go (s4++[aU.A,aU.B]))) (λs4=>s4) (a0.length) 0 [(a0.length:Int)]:Option ((List Int))).bind λx3=>
 (AE x3).bind λlD=>
 J (lD.1,lD.2))
def WW{a0 r}(hr:D0 a0=J r):ap Tryz.prog 46 [(.sh,vH a0)] (Eo (.bO [vC r.1,.bool r.2]) [.au]):=by
 apply pF 28 [] [24] [] [.tmp 2,.tmp 3] hr zN0 Tryz.func46;intro Φ ak hF g;unfold D0 at hF
 iterate 3 (try simp[go_sem,g];try intros;refine bu ?_)
 refine wJ hF (λx3=>[(4,.v (vD x3))]) (λx3 hF=>?_) λ_ hj0 hF=>?_
 ·have c0:= @Pl;exact wL
 refine wR hF [10,11] (λi5 s4=>[(4,.v (vD s4)),(12,.v (.int .i64 i5))]) λb bg i5 s4 _ _ aO aN bo ba hF=>?_
 exact wL
def yd(a0:List Int):Option ((List Int)):=
 gd (([(a0.length:Int)].length+a0.length)*8<=140737488355328/\[(a0.length:Int)].length+a0.length<=4611686018427387904)<|
 J ([(a0.length:Int)]++a0)
def WH{a0 r}(hr:yd a0=J r):ap Tryz.prog 95 [(.sh,vC a0)] (Eo (vD r) [.au]):=by
 apply pE [] hr zNs Tryz.func95;intro Φ ak hF g;unfold yd at hF;exact wL
def Kj(a0:bZ):Option (List Int×Bool):=
 (yd a0.aC).bind λz1=>
 (yd a0.aV).bind λz2=>
 (yd a0.aE).bind λz3=>
 (pS [z1,z2,z3]).bind λz4=>
 (AE z4).bind λz5=>
 J (z5.1,z5.2)
def znx{a0 r}(hr:Kj a0=J r):ap Tryz.prog 47 [(.sh,vS a0)] (Eo (.bO [vC r.1,.bool r.2]) [.au]):=by
 apply pF 18 [] [14] [] [.tmp 2,.tmp 3] hr zKa Tryz.func47;intro Φ ak hF g;unfold Kj at hF;refine wW ?_;refine wZ (kE [0,1,3,4,6,7,2,5,8,9,10,11,12,13,14,15] [9,10,9,10,9,10,3,3,3,0,6,3,0,0,0,0]) follows ?_;have c0:= @WH;have c1:= @Dl;have c2:= @Pl;exact wL
def Zv:KI Tryz.prog 96 49:=by
 intro n H e b es cz z e1 e2 h0 h1 h2 h3 h4 h5;refine Tv zKv Tryz.func96 rfl rfl (by simp[Tryz.f96]) λhw=>?_
 have hn:¬n<0:=by omega
 have hw1:i64.wrap n=n:=Dj (by omega);have sV:i64.wrap 0=0:=Dj (by omega);have ei:(jW Tryz.prog 3).isSome=Z:=by kernel_rfl
 by_cases hp:0<n
 ·have hne:n≠0:=by omega
  have xh:=h5;simp[cr]at xh;simp[Tryz.f96,fe,mW,aM,fj,dw,gp,ck,bh,eG,bB,Dw,FR.put,FR.init,be,bM,cW,jV,cr,Am.iE,nz,oe,vd,wj,D9,pK,sy,xf,hn,e1,e2,ei,hw1,sV,hp,h1,h2,h3,h4,hne]
  first|exact xh|exact .inl xh
 have hz:n=0:=by omega
 subst hz;simp[Tryz.f96,fe,mW,aM,fj,dw,gp,ck,bh,eG,bB,Dw,FR.put,FR.init,be,bM,cW,jV,cr,Am.iE,nz,oe,vd,wj,D9,pK,sy,xf,hn,e1,e2,hw1,sV,hp]
def Z3(a0:(List (List (List Int)))):Option ((List (List Int))):=
 ((aS (σ:=Int) (λi5 s4=>
 (ix a0 i5).bind λaU=>
 if decide ((i64.wrap (s4+(aU.length:Int)))<0)=Z then(
 ae)else(
 J (.go (i64.wrap (s4+(aU.length:Int)))))) (λs4=>s4) (a0.length) 0 0:Option Int).bind λx3=>
 gd (0<=x3/\24*x3<=140737488355328/\x3<=4611686018427387904)<|
 ((aS (σ:=(List (List Int))) (λfP bV=>
 (ix a0 fP).bind λil=>
 gd ((bV.length+il.length)*24<=140737488355328/\bV.length+il.length<=4611686018427387904)<|
 J (.go (bV++il))) (λbV=>bV) (a0.length) 0 []:Option ((List (List Int)))).bind λfE=>
 J fE))
def zst{a0 r}(hr:Z3 a0=J r):ap Tryz.prog 49 [(.sh,vU a0)] (Eo (vT r) [.au]):=by
 apply pE [] hr Z6 Tryz.func49;intro Φ ak hF g;unfold Z3 at hF
 iterate 3 (try simp[go_sem,g];try intros;refine bu ?_)
 refine wJ hF (λx3=>[(0,.v (vU a0)),(3,.v (.int .i64 x3))]) (λx3 hF=>?_) λ_ hj0 hF=>?_
 ·obtain⟨Je,hF⟩:=mR hF;try simp[go_sem,g]
  refine SV Zv zCl (by simp[go_sem,g]) Je ?_;try simp[go_sem,g]
  try intros
  refine bu ?_;try simp[go_sem,g]
  try intros
  refine wK [6,25,26,27] ?_;refine wJ hF (λfE=>[(6,.v (vT fE))]) (λfE hF=>?_) λ_ hj0 hF=>?_
  ·exact wl ak hF
  refine wR hF [25,26] (λfP bV=>[(6,.v (vT bV)),(27,.v (.int .i64 fP))]) λb bg fP bV _ _ aO aN bo ba hF=>?_
  exact wL
 refine wR hF [0,9,10] (λi5 s4=>[(3,.v (.int .i64 s4)),(11,.v (.int .i64 i5))]) λb bg i5 s4 _ _ aO aN bo ba hF=>?_
 exact wL
def Fq(a0:(List (List (List Int)))):Option ((List (List Int))):=
 ((aS (σ:=Int) (λi5 s4=>
 (ix a0 i5).bind λaU=>
 if decide ((i64.wrap (s4+(aU.length:Int)))<0)=Z then(
 ae)else(
 J (.go (i64.wrap (s4+(aU.length:Int)))))) (λs4=>s4) (a0.length) 0 0:Option Int).bind λx3=>
 gd (0<=x3/\24*x3<=140737488355328/\x3<=4611686018427387904)<|
 ((aS (σ:=(List (List Int))) (λfP bV=>
 (ix a0 fP).bind λil=>
 gd ((bV.length+il.length)*24<=140737488355328/\bV.length+il.length<=4611686018427387904)<|
 J (.go (bV++il))) (λbV=>bV) (a0.length) 0 []:Option ((List (List Int)))).bind λfE=>
 J fE))
def zjA{a0 r}(hr:Fq a0=J r):ap Tryz.prog 49 [(.mv,vV a0)] (Eo (vT r) [.au]):=by
 apply pF 36 [] [77,80] [] [.tmp 2] hr Z6 Tryz.func49;intro Φ ak hF g;unfold Fq at hF
 iterate 3 (try simp[go_sem,g];try intros;refine bu ?_)
 refine wJ hF (λx3=>[(0,.v (vV a0)),(3,.v (.int .i64 x3))]) (λx3 hF=>?_) λ_ hj0 hF=>?_
 ·obtain⟨Je,hF⟩:=mR hF;try simp[go_sem,g]
  refine SV Zv zCl (by simp[go_sem,g]) Je ?_;try simp[go_sem,g]
  try intros
  refine bu ?_;try simp[go_sem,g]
  try intros
  refine wK [0,6,25,26,27] ?_;refine wJ hF (λfE=>[(6,.v (vT fE))]) (λfE hF=>?_) λ_ hj0 hF=>?_
  ·exact wl ak hF
  refine wR hF [0,25,26] (λfP bV=>[(6,.v (vT bV)),(27,.v (.int .i64 fP))]) λb bg fP bV _ _ aO aN bo ba hF=>?_
  exact wL
 refine wR hF [0,9,10] (λi5 s4=>[(3,.v (.int .i64 s4)),(11,.v (.int .i64 i5))]) λb bg i5 s4 _ _ aO aN bo ba hF=>?_
 exact wL
def Ao(a0:(List (List Int))):Option (List Int×Bool):=
 ((aS (σ:=(List Int)) (λi5 s4=>
 (ix a0 i5).bind λaU=>
 (yd aU).bind λbH=>
 gd ((s4.length+bH.length)*8<=140737488355328/\s4.length+bH.length<=4611686018427387904)<|
 if decide (400<((s4++bH).length:Int))=Z then(
 J (.out (.inr ([],aa))))else(
 J (.go (s4++bH)))) (λs4=>.inl s4) (a0.length) 0 [(a0.length:Int)]:Option ((List Int) ⊕ (List Int×Bool))).bind (Sum.elim (λx3=>
 (AE x3).bind λfQ=>
 J (fQ.1,fQ.2)) J))
def Xr{a0 r}(hr:Ao a0=J r):ap Tryz.prog 48 [(.sh,vK a0)] (Eo (.bO [vC r.1,.bool r.2]) [.au]):=by
 apply pF 28 [] [2,24] [] [.tmp 2,.tmp 3] hr zM1 Tryz.func48;intro Φ ak hF g;unfold Ao at hF
 iterate 3 (try simp[go_sem,g];try intros;refine bu ?_)
 refine wS hF (λx3=>[(4,.v (vD x3))]) (λx3 hF=>?_) λ_ hj0 dE hF=>?_
 ·have c0:= @Pl;exact wL
 refine wR hF [10,11] (λi5 s4=>[(4,.v (vD s4)),(12,.v (.int .i64 i5))]) λb bg i5 s4 _ _ aO aN bo ba hF=>?_
 have c0:= @WH;exact wL
def Cq(a0:d8):Option (List Int×Bool):=
 (D0 a0.Out).bind λz1=>
 (F1 a0.Poly).bind λz2=>
 ((if(a0.dF==2)=Z then(
 (FH a0.br).bind λz7=>
 J ([a0.Poly.bQ,a0.Poly.bK,a0.Poly.aF],a0.Poly.Pi.aC,a0.Poly.Pi.aV,a0.Poly.Pi.aE,z7))else(
 J ([a0.br.cq,a0.br.aF],a0.br.Pi.aC,a0.br.Pi.aV,a0.br.Pi.aE,z2)):Option (((List (List Int))×List Int×List Int×List Int×Bool))).bind λx5=>
 (Kj (bZ.mk x5.2.1 x5.2.2.1 x5.2.2.2.1)).bind λz8=>
 (((Eb a0.dF).bind λbH=>
 if(!bH)=Z then(
 J Z)else(
 if(!z1.2)=Z then(
 J Z)else(
 if(!z8.2)=Z then(
 J Z)else(
 J (!x5.2.2.2.2)))):Option Bool).bind λaU=>
 if aU=Z then(
 J ([],aa))else(
 (Fq [[[a0.dF],z1.1],x5.1,[z8.1]]).bind λhY=>
 (Ao hY).bind λfQ=>
 J (fQ.1,fQ.2))))
def P9{a0 r}(hr:Cq a0=J r):ap Tryz.prog 11 [(.sh,vN a0)] (Eo (.bO [vC r.1,.bool r.2]) [.au]):=by
 apply pF 83 [] [2,79,323] [] [.tmp 2,.tmp 3] hr zK8 Tryz.func11;intro Φ ak hF g;unfold Cq at hF;refine wW ?_;refine wE hF WW λz1 hF=>?_
 refine wK [1,4,5] ?_;refine wZ (kE [0,1,2,3,4,5,6,7,8,9,10,11,13,12,14,15,16] [9,9,10,9,9,10,0,9,9,10,9,10,0,3,7,58,0]) follows ?_;refine wE hF VJ λz2 hF=>?_
 refine wK [1,4,5,6,7,8] ?_;refine wW ?_;refine bT hF [1,4,5] (λx5=>[(6,.v (vT x5.1)),(7,.bl [vC x5.2.1,vC x5.2.2.1,vC x5.2.2.2.1]),(8,.v (.bool x5.2.2.2.2))]) (λx5 hF=>?_) λ_ hj0 hF=>?_
 ·refine wE hF znx λz8 hF=>?_
  refine wK [1,4,5,6,8,9,10] ?_;refine bT hF [1,4,6,9] (λaU=>[(69,.v (.bool aU))]) (λaU hF=>?_) λ_ hj0 hF=>?_
  ·refine wI hF (λCU hF=>?_) λCU hF=>?_
   ·exact wl ak hF
   refine wW ?_;refine wC hF [.mv] zjA λhY hF=>?_
   refine wE hF Xr λfQ hF=>?_
   refine wK [2,3] ?_;exact wm ak hF
  have c0:= @Y2;exact wL
 refine wI hF (λh6 hF=>?_) λh6 hF=>?_
 ·refine wZ (kD 0 [9,9,10,9,9,10,9,9,10,0,9,9,10,9,10,3,7,58,0]) follows ?_;have c0:= @YA;exact wL
 exact wT (hj0 _) (eW hF)
def uG(aL:List Int)(aW:Bool):Option (Int×(List Int×Bool)):=
 if((aL.length:Int)==0)=Z then(
 J (0,(aL,aa)))else(
 (ix aL 0).bind λx2=>
 gd (1<=aL.length/\aL.length<=aL.length)<|
 J (x2,((aL.take aL.length).drop 1,aW)))
def L1{aL aW r}(hr:uG aL aW=J r):ap Tryz.prog 98 [(.io,vW aL aW)] (Eo (.int .i64 r.1) [vW r.2.1 r.2.2]):=by
 apply pE [0] hr zL2 Tryz.func98;intro Φ ak hF g;unfold uG at hF;exact wL
def sR(aL:List Int)(aW:Bool):Option (List Int×(List Int×Bool)):=
 (uG aL aW).bind λz1=>
 (pD z1.1 0 (z1.2.1.length:Int)).bind λz2=>
 if(!z2)=Z then(
 J ([],(z1.2.1,aa)))else(
 gd (0<=z1.1)<|
 gd (0<=z1.1.toNat/\z1.1.toNat<=z1.2.1.length)<|
 (uh ((z1.2.1.take z1.1.toNat).drop 0)).bind λz4=>
 gd (0<=z1.1)<|
 gd (z1.1.toNat<=z1.2.1.length/\z1.2.1.length<=z1.2.1.length)<|
 J (z4,((z1.2.1.take z1.2.1.length).drop z1.1.toNat,z1.2.2)))
def Xi{aL aW r}(hr:sR aL aW=J r):ap Tryz.prog 99 [(.io,vW aL aW)] (Eo (vD r.1) [vW r.2.1 r.2.2]):=by
 apply pE [0] hr zMy Tryz.func99;intro Φ ak hF g;unfold sR at hF;have zx:= @L1;have c0:= @yX;have c1:= @LF;exact wL
def zP(aL:List Int)(aW:Bool):Option Bool:=
 ((if aW=Z then(
 J ((aL.length:Int)==0))else(
 J aa):Option Bool).bind λx3=>
 J x3)
def O1{aL aW r}(hr:zP aL aW=J r):ap Tryz.prog 100 [(.sh,.fp [vC aL,.bool aW])] (Eo (.bool r) [.au]):=by
 apply pE [] hr zGC Tryz.func100;intro Φ ak hF g;unfold zP at hF;refine wW ?_;refine wJ hF (λx3=>[(2,.v (.bool x3))]) (λx3 hF=>?_) λ_ hj0 hF=>?_
 ·exact wm ak hF
 exact wL
def C3(a0:List Int)(a1:List Int):Option Bool:=
 if((a0.length:Int) !=(a1.length:Int))=Z then(
 J aa)else(
 ((aS (σ:=Unit) (λi6 s5=>
 (ix a0 i6).bind λcZ=>
 (ix a1 i6).bind λhO=>
 if(cZ !=hO)=Z then(
 J (.out (.inr aa)))else(
 J (.go ()))) (λs5=>.inl ()) (a0.length) 0 ():Option (Unit ⊕ Bool)).bind (Sum.elim (λx4=>
 J Z) J)))
def OM{a0 a1 r}(hr:C3 a0 a1=J r):ap Tryz.prog 53 [(.sh,vC a0),(.sh,vC a1)] (Eo (.bool r) cJ):=by
 apply pE [] hr zKg Tryz.func53;intro Φ ak hF g;unfold C3 at hF
 iterate 2 (try simp[go_sem,g];try intros;refine bu ?_)
 refine wI hF (λh1 hF=>?_) λh1 hF=>?_
 ·exact wl ak hF
 iterate 2 (try simp[go_sem,g];try intros;refine bu ?_)
 refine wS hF (λx4=>[]) (λx4 hF=>?_) λ_ hj0 dE hF=>?_
 ·exact wL
 refine wR hF [0,1,12] (λi6 s5=>[(13,.v (.int .i64 i6))]) λb bg i6 s5 _ _ aO aN bo ba hF=>?_
 refine wK [0,1,12,13,14] ?_;refine wu aO aN ?_;refine wW ?_;refine wB ?_;refine wW ?_;refine wZ (kD 0 [0,0,0,0,0,0,0,0,0]) follows ?_;exact wL
def Az(a0:List Int):Option ((List (List Int))×Bool):=
 (zp a0).bind λz1=>
 (uG a0 z1).bind λz2=>
 ((dI (σ:=(List Int×Bool)×(List (List Int))×Int) (λdy=>
 if decide (dy.2.2<(if(a0.length:Int)<z2.1 then(a0.length:Int)else z2.1))=Z then(
 (sR dy.1.1 dy.1.2).bind λiQ=>
 gd ((dy.2.1.length+1)*24<=140737488355328/\dy.2.1.length+1<=4611686018427387904)<|
 J (.go ((iQ.2.1,iQ.2.2),dy.2.1++[iQ.1],i64.wrap (dy.2.2+1))))else(
 J (.out ((dy.1.1,dy.1.2),dy.2.1)))) ((z2.2.1,z2.2.2),[],0):Option (((List Int×Bool)×(List (List Int))))).bind λx5=>
 (Ao x5.2).bind λnQ=>
 (((zP x5.1.1 x5.1.2).bind λiG=>
 if(!iG)=Z then(
 J Z)else(
 if(!nQ.2)=Z then(
 J Z)else(
 (C3 nQ.1 a0).bind λuQ=>
 J (!uQ))):Option Bool).bind λnY=>
 if nY=Z then(
 J ([],aa))else(
 J (x5.2,Z))))
def zm1{a0 r}(hr:Az a0=J r):ap Tryz.prog 50 [(.sh,vC a0)] (Eo (.bO [vK r.1,.bool r.2]) [.au]):=by
 apply pF 46 [] [2,28] [12] [.tmp 2,.tmp 3] hr zMd Tryz.func50;intro Φ ak hF g;unfold Az at hF;refine wW ?_;refine wE hF Nl λz1 hF=>?_
 refine wK [0,4,5] ?_;refine wC hF [.io] L1 λz2 hF=>?_
 try simp[go_sem,g]
 try intros
 refine bu ?_;refine wJ hF (λx5=>[(0,.v (vC a0)),(4,.v (vW x5.1.1 x5.1.2)),(5,.v (vX x5.2))]) (λx5 hF=>?_) λ_ hj0 hF=>?_
 ·refine wE hF Xr λnQ hF=>?_
  refine wK [0,4,5,6,7] ?_;refine wJ hF (λnY=>[(5,.v (vK x5.2)),(44,.v (.bool nY))]) (λnY hF=>?_) λ_ hj0 hF=>?_
  ·exact wL
  have c0:= @O1;have c1:= @OM;exact wL
 refine wB ?_;obtain⟨b27,Rl,bg⟩:=hF;refine jJ Rl [0,18] (λdy=>[(4,.v (vW dy.1.1 dy.1.2)),(5,.v (vX dy.2.1)),(19,.v (.int .i64 dy.2.2))]) λdy _ _ bo ba hF=>?_
 have zx:= @Xi;exact wL
def ID(a0:List Int):Option (List an×Bool):=
 (zp a0).bind λz1=>
 (uG a0 z1).bind λz2=>
 ((dI (σ:=(List Int×Bool)×List an×Int) (λe7=>
 if decide (e7.2.2<(if(a0.length:Int)<z2.1 then(a0.length:Int)else z2.1))=Z then(
 (uG e7.1.1 e7.1.2).bind λom=>
 (uG om.2.1 om.2.2).bind λzg=>
 gd ((e7.2.1.length+1)*16<=140737488355328/\e7.2.1.length+1<=4611686018427387904)<|
 J (.go ((zg.2.1,zg.2.2),e7.2.1++[(an.mk om.1 zg.1)],i64.wrap (e7.2.2+1))))else(
 J (.out ((e7.1.1,e7.1.2),e7.2.1)))) ((z2.2.1,z2.2.2),[],0):Option (((List Int×Bool)×List an))).bind λx5=>
 (D0 x5.2).bind λtA=>
 (((zP x5.1.1 x5.1.2).bind λfO=>
 if(!fO)=Z then(
 J Z)else(
 if(!tA.2)=Z then(
 J Z)else(
 (C3 tA.1 a0).bind λgy=>
 J (!gy))):Option Bool).bind λfR=>
 if fR=Z then(
 J ([],aa))else(
 J (x5.2,Z))))
def zmR{a0 r}(hr:ID a0=J r):ap Tryz.prog 51 [(.sh,vC a0)] (Eo (.bO [vH r.1,.bool r.2]) [.au]):=by
 apply pF 49 [] [2,31] [12] [.tmp 2,.tmp 3] hr zL3 Tryz.func51;intro Φ ak hF g;unfold ID at hF;refine wW ?_;refine wE hF Nl λz1 hF=>?_
 refine wK [0,4,5] ?_;refine wC hF [.io] L1 λz2 hF=>?_
 try simp[go_sem,g]
 try intros
 refine bu ?_;refine wJ hF (λx5=>[(0,.v (vC a0)),(4,.v (vW x5.1.1 x5.1.2)),(5,.v (vG x5.2))]) (λx5 hF=>?_) λ_ hj0 hF=>?_
 ·refine wE hF WW λtA hF=>?_
  refine wK [0,4,5,6,7] ?_;refine wJ hF (λfR=>[(5,.v (vH x5.2)),(47,.v (.bool fR))]) (λfR hF=>?_) λ_ hj0 hF=>?_
  ·exact wL
  have c0:= @O1;have c1:= @OM;exact wL
 refine wB ?_;obtain⟨b22,Aa0,bg⟩:=hF;refine jJ Aa0 [0,18] (λe7=>[(4,.v (vW e7.1.1 e7.1.2)),(5,.v (vG e7.2.1)),(19,.v (.int .i64 e7.2.2))]) λe7 _ _ bo ba hF=>?_
 have zx:= @L1;exact wL
def JO(a0:List Int):Option (bZ×Bool):=
 (zp a0).bind λz1=>
 (sR a0 z1).bind λz2=>
 (sR z2.2.1 z2.2.2).bind λz3=>
 (sR z3.2.1 z3.2.2).bind λz4=>
 (zP z4.2.1 z4.2.2).bind λz5=>
 if(!z5)=Z then(
 J ((bZ.mk [] [] []),aa))else(
 J ((bZ.mk z2.1 z3.1 z4.1),Z))
def znJ{a0 r}(hr:JO a0=J r):ap Tryz.prog 52 [(.sh,vC a0)] (Eo (.bO [vY r.1,.bool r.2]) [.au]):=by
 apply pF 23 [] [] [10] [.cell 2 31,.tmp 3] hr zMo Tryz.func52;intro Φ ak hF g;unfold JO at hF;have c0:= @Nl;have zx:= @Xi;have c1:= @O1;exact wL
def Ah(a0:List Int):Option (d8×Bool):=
 (Az a0).bind λz1=>
 ((if(!z1.2)=Z then(
 J Z)else(
 if decide ((z1.1.length:Int)<5)=Z then(
 J Z)else(
 (ix z1.1 0).bind λx7=>
 J ((x7.length:Int) !=1))):Option Bool).bind λx4=>
 if x4=Z then(
 J ((d8.mk 0 [] (cH.mk [] [] (bZ.mk [] [] [])) (cn.mk [] [] [] (bZ.mk [] [] []))),aa))else(
 (ix z1.1 1).bind λx9=>
 (ID x9).bind λbX=>
 (ix z1.1 (i64.wrap ((z1.1.length:Int)-1))).bind λaU=>
 (JO aU).bind λbH=>
 (ix z1.1 0).bind λhO=>
 (ix hO 0).bind λeX=>
 ((((if(eX==1)=Z then(
 J ((z1.1.length:Int)==5))else(
 J aa):Option Bool).bind λfE=>
 if fE=Z then(
 (ix z1.1 2).bind λUG=>
 (ix z1.1 3).bind λBE=>
 J (.inl (eX,bX.1,UG,BE,bH.1.aC,bH.1.aV,bH.1.aE,[],[],[],[],[],[])))else(
 ((if(eX==2)=Z then(
 J ((z1.1.length:Int)==6))else(
 J aa):Option Bool).bind λfR=>
 if fR=Z then(
 (ix z1.1 2).bind λDZ=>
 (ix z1.1 3).bind λA5=>
 (ix z1.1 4).bind λnY=>
 J (.inl (eX,bX.1,[],[],[],[],[],DZ,A5,nY,bH.1.aC,bH.1.aV,bH.1.aE)))else(
 J (.inr ((d8.mk 0 [] (cH.mk [] [] (bZ.mk [] [] [])) (cn.mk [] [] [] (bZ.mk [] [] []))),aa)))))):Option ((Int×List an×List Int×List Int×List Int×List Int×List Int×List Int×List Int×List Int×List Int×List Int×List Int) ⊕ (d8×Bool))).bind (Sum.elim (λbG=>
 (Cq (d8.mk bG.1 bG.2.1 (cH.mk bG.2.2.1 bG.2.2.2.1 (bZ.mk bG.2.2.2.2.1 bG.2.2.2.2.2.1 bG.2.2.2.2.2.2.1)) (cn.mk bG.2.2.2.2.2.2.2.1 bG.2.2.2.2.2.2.2.2.1 bG.2.2.2.2.2.2.2.2.2.1 (bZ.mk bG.2.2.2.2.2.2.2.2.2.2.1 bG.2.2.2.2.2.2.2.2.2.2.2.1 bG.2.2.2.2.2.2.2.2.2.2.2.2)))).bind λiG=>
 ((if(!bX.2)=Z then(
 J Z)else(
 if(!bH.2)=Z then(
 J Z)else(
 if(!iG.2)=Z then(
 J Z)else(
 (C3 iG.1 a0).bind λuu=>
 J (!uu)))):Option Bool).bind λnB=>
 if nB=Z then(
 J ((d8.mk 0 [] (cH.mk [] [] (bZ.mk [] [] [])) (cn.mk [] [] [] (bZ.mk [] [] []))),aa))else(
 J ((d8.mk bG.1 bG.2.1 (cH.mk bG.2.2.1 bG.2.2.2.1 (bZ.mk bG.2.2.2.2.1 bG.2.2.2.2.2.1 bG.2.2.2.2.2.2.1)) (cn.mk bG.2.2.2.2.2.2.2.1 bG.2.2.2.2.2.2.2.2.1 bG.2.2.2.2.2.2.2.2.2.1 (bZ.mk bG.2.2.2.2.2.2.2.2.2.2.1 bG.2.2.2.2.2.2.2.2.2.2.2.1 bG.2.2.2.2.2.2.2.2.2.2.2.2))),Z)))) J))))
set_option maxHeartbeats 16000000 in
def zmy{a0 r}(hr:Ah a0=J r):ap Tryz.prog 12 [(.sh,vC a0)] (Eo (.bO [vN r.1,.bool r.2]) [.au]):=by
 apply F8 120 [] [98] [] [.cell 2 37,.tmp 3] hr zNu Tryz.func12;intro Φ ak hF g;unfold Ah at hF;refine wW ?_;refine wE hF zm1 λz1 hF=>?_
 refine wW ?_;refine bT hF [0,2,4] (λx4=>[(31,.v (.bool x4))]) (λx4 hF=>?_) λ_ hj0 hF=>?_
 ·refine wI hF (λh8 hF=>?_) λh8 hF=>?_
  ·exact wL
  obtain⟨x9,g,hF⟩:=ko g 1 hF;refine wW ?_;refine wE hF zmR λbX hF=>?_
  refine wK [0,2,4,6,7] ?_;obtain⟨aU,g,hF⟩:=Rx g hF;try simp[go_sem,g]
  try intros
  refine wE hF znJ λbH hF=>?_
  refine wK [0,2,4,6,7,8,9] ?_;obtain⟨hO,g,hF⟩:=ko g 0 hF;obtain⟨eX,g,hF⟩:=ko g 0 hF;refine wW ?_;refine wSK hF [0,2,7,9] (λbG=>[(10,.bl [.int .i64 bG.1,vH bG.2.1,vC bG.2.2.1,vC bG.2.2.2.1,vD bG.2.2.2.2.1,vD bG.2.2.2.2.2.1,vD bG.2.2.2.2.2.2.1,vC bG.2.2.2.2.2.2.2.1,vC bG.2.2.2.2.2.2.2.2.1,vC bG.2.2.2.2.2.2.2.2.2.1,vD bG.2.2.2.2.2.2.2.2.2.2.1,vD bG.2.2.2.2.2.2.2.2.2.2.2.1,vD bG.2.2.2.2.2.2.2.2.2.2.2.2])]) (λbG hF=>?_) λ_ hj0 dE hF=>?_
  ·refine wE hF P9 λiG hF=>?_
   refine wK [0,2,7,9,10,11,12] ?_;refine bT hF [2,10] (λnB=>[(117,.v (.bool nB))]) (λnB hF=>?_) λ_ hj0 hF=>?_
   ·exact wL
   have c0:= @OM;exact wL
  refine wB ?_;refine bT hF [0,2,4,7,8,9,10] (λfE=>[(58,.v (.bool fE))]) (λfE hF=>?_) λ_ j8 hF=>?_
  ·refine wI hF (λh22 hF=>?_) λh22 hF=>?_
   ·refine wZ (kD 0 [0,0,0,0,0,0,66,0,81,82]) follows ?_;obtain⟨UG,g,hF⟩:=ko g 2 hF;obtain⟨BE,g,hF⟩:=ko g 3 hF;try simp[go_sem,g]
    refine jK 10 7 (by simp[go_sem,g];rfl) rfl (by simp[go_sem]) ?_;refine jK 10 8 (by simp[go_sem,g];rfl) rfl (by simp[go_sem]) ?_;refine jK 10 9 (by simp[go_sem,g];rfl) rfl (by simp[go_sem]) ?_;exact wT (hj0 _) (eW hF)
   refine bT hF [0,2,4,7,8,9,10] (λfR=>[(76,.v (.bool fR))]) (λfR hF=>?_) λ_ j8 hF=>?_
   ·refine wI hF (λh29 hF=>?_) λh29 hF=>?_
    ·refine wZ (kD 0 [0,0,0,0,0,0,0,0,0,66,0,81,82]) follows ?_;obtain⟨DZ,g,hF⟩:=ko g 2 hF;obtain⟨A5,g,hF⟩:=ko g 3 hF;obtain⟨nY,g,hF⟩:=ko g 4 hF;try simp[go_sem,g]
     refine jK 10 2 (by simp[go_sem,g];rfl) rfl (by simp[go_sem]) ?_;refine jK 10 3 (by simp[go_sem,g];rfl) rfl (by simp[go_sem]) ?_;exact wT (hj0 _) (eW hF)
    exact wL
   exact wL
  exact wL
 exact wL
def JT(a0:List Int)(a1:List Int):Option Bool:=
 if((a0.length:Int) !=(a1.length:Int))=Z then(
 J aa)else(
 ((aS (σ:=Unit) (λi6 s5=>
 (ix a0 i6).bind λcZ=>
 (ix a1 i6).bind λhO=>
 if(cZ !=hO)=Z then(
 J (.out (.inr aa)))else(
 J (.go ()))) (λs5=>.inl ()) (a0.length) 0 ():Option (Unit ⊕ Bool)).bind (Sum.elim (λx4=>
 J Z) J)))
def zp8{a0 a1 r}(hr:JT a0 a1=J r):ap Tryz.prog 13 [(.sh,vC a0),(.sh,vC a1)] (Eo (.bool r) cJ):=by
 apply pE [] hr zJ7 Tryz.func13;intro Φ ak hF g;unfold JT at hF
 iterate 2 (try simp[go_sem,g];try intros;refine bu ?_)
 refine wI hF (λh1 hF=>?_) λh1 hF=>?_
 ·exact wl ak hF
 iterate 2 (try simp[go_sem,g];try intros;refine bu ?_)
 refine wS hF (λx4=>[]) (λx4 hF=>?_) λ_ hj0 dE hF=>?_
 ·exact wL
 refine wR hF [0,1,12] (λi6 s5=>[(13,.v (.int .i64 i6))]) λb bg i6 s5 _ _ aO aN bo ba hF=>?_
 refine wK [0,1,12,13,14] ?_;refine wu aO aN ?_;refine wW ?_;refine wB ?_;refine wW ?_;refine wZ (kD 0 [0,0,0,0,0,0,0,0,0]) follows ?_;exact wL
def D6(aL:List Int)(aW:Int)(bp:Int)(a1:am):Option (Int×(List Int×Int×Int)):=
 (zy aL aW bp 24).bind λz1=>
 if z1.1=Z then(
 (py z1.2.1 z1.2.2.1 z1.2.2.2 [a1.Q,(-1),i64.wrap (a1.Q-1)]).bind λz3=>
 J (z3.1,(z3.2.1,z3.2.2.1,z3.2.2.2)))else(
 (BF z1.2.1 z1.2.2.1 z1.2.2.2 a1).bind λz4=>
 J (z4.1,(z4.2.1,z4.2.2.1,z4.2.2.2)))
def YT{aL aW bp a1 r}(hr:D6 aL aW bp a1=J r):ap Tryz.prog 164 [(.io,vB aL aW bp),(.sh,vE a1)] (Eo (.int .i64 r.1) [vB r.2.1 r.2.2.1 r.2.2.2,.au]):=by
 apply pE [0] hr zG3 Tryz.func164;intro Φ ak hF g;unfold D6 at hF;have ja:= @Lz;have yb:= @zt;have CS:= @Q0;exact wL
def Ds(aL:List Int)(aW:Int)(bp:Int)(a1:am)(a2:bZ):Option (bZ×(List Int×Int×Int)):=
 (Bv a2.aC).bind λz1=>
 (Bv a2.aV).bind λz2=>
 (Bv a2.aE).bind λz3=>
 (gM aL aW bp 12).bind λz4=>
 ((if(z4.1==0)=Z then(
 if decide (0<(z3.length:Int))=Z then(
 (gM z4.2.1 z4.2.2.1 z4.2.2.2 (z3.length:Int)).bind λbX=>
 (D6 bX.2.1 bX.2.2.1 bX.2.2.2 a1).bind λb8=>
 (ix z3 bX.1).bind λcZ=>
 J (.inl ((b8.2.1,b8.2.2.1,b8.2.2.2),z1,z2,z3.set bX.1.toNat b8.1)))else(
 J (.inl ((z4.2.1,z4.2.2.1,z4.2.2.2),z1,z2,z3))))else(
 if(z4.1==1)=Z then(
 if decide (0<(z1.length:Int))=Z then(
 (gM z4.2.1 z4.2.2.1 z4.2.2.2 (z1.length:Int)).bind λfH=>
 (xq fH.2.1 fH.2.2.1 fH.2.2.2 a1).bind λlD=>
 (ix z1 fH.1).bind λbG=>
 J (.inl ((lD.2.1,lD.2.2.1,lD.2.2.2),z1.set fH.1.toNat lD.1,z2,z3)))else(
 J (.inl ((z4.2.1,z4.2.2.1,z4.2.2.2),z1,z2,z3))))else(
 if(z4.1==2)=Z then(
 if decide (0<(z2.length:Int))=Z then(
 (gM z4.2.1 z4.2.2.1 z4.2.2.2 (z2.length:Int)).bind λom=>
 (D6 om.2.1 om.2.2.1 om.2.2.2 a1).bind λzg=>
 (ix z2 om.1).bind λLE=>
 J (.inl ((zg.2.1,zg.2.2.1,zg.2.2.2),z1,z2.set om.1.toNat zg.1,z3)))else(
 J (.inl ((z4.2.1,z4.2.2.1,z4.2.2.2),z1,z2,z3))))else(
 if(z4.1==3)=Z then(
 gd ((z3.length+1)*8<=140737488355328/\z3.length+1<=4611686018427387904)<|
 J (.inl ((z4.2.1,z4.2.2.1,z4.2.2.2),z1,z2,z3++[0])))else(
 if(z4.1==4)=Z then(
 J (.inr ((bZ.mk [] [] []),(z4.2.1,z4.2.2.1,z4.2.2.2))))else(
 J (.inl ((z4.2.1,z4.2.2.1,z4.2.2.2),z1,z2,z3))))))):Option (((List Int×Int×Int)×List Int×List Int×List Int) ⊕ (bZ×(List Int×Int×Int)))).bind (Sum.elim (λx7=>
 J ((bZ.mk x7.2.1 x7.2.2.1 x7.2.2.2),(x7.1.1,x7.1.2.1,x7.1.2.2))) J))
def YC{aL aW bp a1 a2 r}(hr:Ds aL aW bp a1 a2=J r):ap Tryz.prog 102 [(.io,vB aL aW bp),(.sh,vE a1),(.sh,vS a2)] (Eo (vY r.1) [vB r.2.1 r.2.2.1 r.2.2.2,.au,.au]):=by
 apply pE [0] hr zGd Tryz.func102;intro Φ ak hF g;unfold Ds at hF;refine wW ?_;refine wZ (kE [0,1,3,4,6,7,2,5,8,9,10] [41,42,41,42,41,42,3,3,3,0,42]) follows ?_;refine wE hF Ml λz1 hF=>?_
 refine wE hF Ml λz2 hF=>?_
 refine wE hF Ml λz3 hF=>?_
 refine wK [0,4,5,6] ?_;refine wC hF [.io,.sh] kd λz4 hF=>?_
 refine wW ?_;refine wS hF (λx7=>[(0,.v (vB x7.1.1 x7.1.2.1 x7.1.2.2)),(5,.bl [vD x7.2.1,vD x7.2.2.1,vD x7.2.2.2]),(6,.bl [.sl Z 1 [],.sl Z 1 [],.sl Z 1 []])]) (λx7 hF=>?_) λ_ hj0 dE hF=>?_
 ·exact wl ak hF
 refine wB ?_;refine wW ?_;refine wI hF (λh8 hF=>?_) λh8 hF=>?_
 ·try simp[go_sem,g]
  try intros
  refine bu ?_;try simp[go_sem,g]
  try intros
  refine wK [0,4,5,6,7,28] ?_;refine wI hF (λh9 hF=>?_) λh9 hF=>?_
  ·refine wZ (kE [0,1,2,3,5,6,4,7,8,9] [41,42,0,0,0,34,3,3,0,0]) follows ?_;have ja:= @kd;have CS:= @YT;exact wL
  exact wT (hj0 _) (eW hF)
 refine wW ?_;refine wI hF (λJL hF=>?_) λJL hF=>?_
 ·try simp[go_sem,g]
  try intros
  refine wK [0,4,5,6,8] ?_;refine wW ?_;refine wI hF (λQR hF=>?_) λQR hF=>?_
  ·refine wZ (kE [0,1,2,3,5,6,4,7,8,9] [41,42,0,0,0,34,3,3,0,0]) follows ?_;have ja:= @kd;have CS:= @Mg;exact wL
  exact wT (hj0 _) (eW hF)
 refine wW ?_;refine wI hF (λST hF=>?_) λST hF=>?_
 ·try simp[go_sem,g]
  try intros
  refine wK [0,4,5,6,9] ?_;refine wW ?_;refine wI hF (λh19 hF=>?_) λh19 hF=>?_
  ·refine wZ (kE [0,1,2,3,5,6,4,7,8,9] [41,42,0,0,0,34,3,3,0,0]) follows ?_;have ja:= @kd;have CS:= @YT;exact wL
  exact wT (hj0 _) (eW hF)
 exact wL
def GN(aL:List Int)(aW:Int)(bp:Int)(a1:am)(a2:d8):Option (d8×(List Int×Int×Int)):=
 gd (a2.Out.length*16<=140737488355328/\a2.Out.length<=4611686018427387904)<|
 (gM aL aW bp 9).bind λz1=>
 ((if(z1.1==0)=Z then(
 if decide (0<(a2.Out.length:Int))=Z then(
 (gM z1.2.1 z1.2.2.1 z1.2.2.2 (a2.Out.length:Int)).bind λz7=>
 (xq z7.2.1 z7.2.2.1 z7.2.2.2 a1).bind λz8=>
 (ix a2.Out z7.1).bind λx9=>
 J ((z8.2.1,z8.2.2.1,z8.2.2.2),a2.dF,a2.Out.set z7.1.toNat (an.mk x9.A z8.1),a2.br.cq,a2.br.aF,a2.br.Pi.aC,a2.br.Pi.aV,a2.br.Pi.aE,a2.Poly.bQ,a2.Poly.bK,a2.Poly.aF,a2.Poly.Pi.aC,a2.Poly.Pi.aV,a2.Poly.Pi.aE))else(
 J ((z1.2.1,z1.2.2.1,z1.2.2.2),a2.dF,a2.Out,a2.br.cq,a2.br.aF,a2.br.Pi.aC,a2.br.Pi.aV,a2.br.Pi.aE,a2.Poly.bQ,a2.Poly.bK,a2.Poly.aF,a2.Poly.Pi.aC,a2.Poly.Pi.aV,a2.Poly.Pi.aE)))else(
 if(z1.1==1)=Z then(
 (Ds z1.2.1 z1.2.2.1 z1.2.2.2 a1 a2.br.Pi).bind λb8=>
 J ((b8.2.1,b8.2.2.1,b8.2.2.2),a2.dF,a2.Out,a2.br.cq,a2.br.aF,b8.1.aC,b8.1.aV,b8.1.aE,a2.Poly.bQ,a2.Poly.bK,a2.Poly.aF,a2.Poly.Pi.aC,a2.Poly.Pi.aV,a2.Poly.Pi.aE))else(
 if(z1.1==2)=Z then(
 (Ds z1.2.1 z1.2.2.1 z1.2.2.2 a1 a2.Poly.Pi).bind λdm=>
 J ((dm.2.1,dm.2.2.1,dm.2.2.2),a2.dF,a2.Out,a2.br.cq,a2.br.aF,a2.br.Pi.aC,a2.br.Pi.aV,a2.br.Pi.aE,a2.Poly.bQ,a2.Poly.bK,a2.Poly.aF,dm.1.aC,dm.1.aV,dm.1.aE))else(
 if(z1.1==3)=Z then(
 (gM z1.2.1 z1.2.2.1 z1.2.2.2 4).bind λfH=>
 J ((fH.2.1,fH.2.2.1,fH.2.2.2),fH.1,a2.Out,a2.br.cq,a2.br.aF,a2.br.Pi.aC,a2.br.Pi.aV,a2.br.Pi.aE,a2.Poly.bQ,a2.Poly.bK,a2.Poly.aF,a2.Poly.Pi.aC,a2.Poly.Pi.aV,a2.Poly.Pi.aE))else(
 if(z1.1==4)=Z then(
 if decide (1<(a2.Out.length:Int))=Z then(
 (ix a2.Out 0).bind λl4=>
 (ix a2.Out 1).bind λoZ=>
 (ix (a2.Out.set 0 oZ) 1).bind λfE=>
 J ((z1.2.1,z1.2.2.1,z1.2.2.2),a2.dF,(a2.Out.set 0 oZ).set 1 l4,a2.br.cq,a2.br.aF,a2.br.Pi.aC,a2.br.Pi.aV,a2.br.Pi.aE,a2.Poly.bQ,a2.Poly.bK,a2.Poly.aF,a2.Poly.Pi.aC,a2.Poly.Pi.aV,a2.Poly.Pi.aE))else(
 J ((z1.2.1,z1.2.2.1,z1.2.2.2),a2.dF,a2.Out,a2.br.cq,a2.br.aF,a2.br.Pi.aC,a2.br.Pi.aV,a2.br.Pi.aE,a2.Poly.bQ,a2.Poly.bK,a2.Poly.aF,a2.Poly.Pi.aC,a2.Poly.Pi.aV,a2.Poly.Pi.aE)))else(
 J ((z1.2.1,z1.2.2.1,z1.2.2.2),a2.dF,a2.Out,a2.br.cq,a2.br.aF,a2.br.Pi.aC,a2.br.Pi.aV,a2.br.Pi.aE,a2.Poly.bQ,a2.Poly.bK,a2.Poly.aF,a2.Poly.Pi.aC,a2.Poly.Pi.aV,a2.Poly.Pi.aE)))))):Option (((List Int×Int×Int)×Int×List an×List Int×List Int×List Int×List Int×List Int×List Int×List Int×List Int×List Int×List Int×List Int))).bind λx4=>
 J ((d8.mk x4.2.1 x4.2.2.1 (cH.mk x4.2.2.2.1 x4.2.2.2.2.1 (bZ.mk x4.2.2.2.2.2.1 x4.2.2.2.2.2.2.1 x4.2.2.2.2.2.2.2.1)) (cn.mk x4.2.2.2.2.2.2.2.2.1 x4.2.2.2.2.2.2.2.2.2.1 x4.2.2.2.2.2.2.2.2.2.2.1 (bZ.mk x4.2.2.2.2.2.2.2.2.2.2.2.1 x4.2.2.2.2.2.2.2.2.2.2.2.2.1 x4.2.2.2.2.2.2.2.2.2.2.2.2.2))),(x4.1.1,x4.1.2.1,x4.1.2.2)))
def zjl{aL aW bp a1 a2 r}(hr:GN aL aW bp a1 a2=J r):ap Tryz.prog 54 [(.io,vB aL aW bp),(.sh,vE a1),(.sh,vN a2)] (Eo (vZ r.1) [vB r.2.1 r.2.2.1 r.2.2.2,.au,.au]):=by
 apply pE [0] hr zKf Tryz.func54;intro Φ ak hF g;unfold GN at hF;obtain⟨g,hF⟩:=Rg g hF
 iterate 2 refine wW ?_
 refine wK [0,4,5,6,7] ?_;try simp[go_sem,g]
 try intros
 refine bu ?_;try simp[go_sem,g]
 try intros
 refine wC hF [.io,.sh] kd λz1 hF=>?_
 refine wW ?_;refine wJ hF (λx4=>[(0,.v (vB x4.1.1 x4.1.2.1 x4.1.2.2)),(6,.bl [.int .i64 0,.sl Z 2 [],.sl Z 1 [],.sl Z 1 [],.sl Z 1 [],.sl Z 1 [],.sl Z 1 [],.sl Z 1 [],.sl Z 1 [],.sl Z 1 [],.sl Z 1 [],.sl Z 1 [],.sl Z 1 []]),(7,.bl [.int .i64 x4.2.1,vG x4.2.2.1,vC x4.2.2.2.1,vC x4.2.2.2.2.1,vC x4.2.2.2.2.2.1,vC x4.2.2.2.2.2.2.1,vC x4.2.2.2.2.2.2.2.1,vC x4.2.2.2.2.2.2.2.2.1,vC x4.2.2.2.2.2.2.2.2.2.1,vC x4.2.2.2.2.2.2.2.2.2.2.1,vC x4.2.2.2.2.2.2.2.2.2.2.2.1,vC x4.2.2.2.2.2.2.2.2.2.2.2.2.1,vC x4.2.2.2.2.2.2.2.2.2.2.2.2.2])]) (λx4 hF=>?_) λ_ hj0 hF=>?_
 ·exact wl ak hF
 refine wB ?_;refine wW ?_;refine wI hF (λh5 hF=>?_) λh5 hF=>?_
 ·refine wK [0,4,6,7,8,24] ?_;refine wI hF (λh6 hF=>?_) λh6 hF=>?_
  ·refine wZ (kE [0,1,2,3,5,6,4,7,8,9,10] [57,58,0,0,0,34,3,3,0,0,0]) follows ?_;have ja:= @kd;have CS:= @Mg;exact wL
  exact wT (hj0 _) (eW hF)
 refine wK [0,4,5,6,7,8,20,35] ?_;refine wI hF (λxj hF=>?_) λxj hF=>?_
 ·refine wC hF [.io,.sh,.sh] YC λb8 hF=>?_
  try simp[go_sem,g]
  refine jK 7 4 (by simp[go_sem,g];rfl) rfl (by simp[go_sem]) ?_;refine jK 7 5 (by simp[go_sem,g];rfl) rfl (by simp[go_sem]) ?_;refine jK 7 6 (by simp[go_sem,g];rfl) rfl (by simp[go_sem]) ?_;exact wT (hj0 _) (eW hF)
 refine wW ?_;refine wI hF (λh12 hF=>?_) λh12 hF=>?_
 ·refine wC hF [.io,.sh,.sh] YC λdm hF=>?_
  try simp[go_sem,g]
  refine jK 7 10 (by simp[go_sem,g];rfl) rfl (by simp[go_sem]) ?_;refine jK 7 11 (by simp[go_sem,g];rfl) rfl (by simp[go_sem]) ?_;refine jK 7 12 (by simp[go_sem,g];rfl) rfl (by simp[go_sem]) ?_;exact wT (hj0 _) (eW hF)
 refine wW ?_;refine wI hF (λQR hF=>?_) λQR hF=>?_
 ·have ja:= @kd;exact wL
 refine wW ?_;refine wI hF (λCU hF=>?_) λCU hF=>?_
 ·refine wW ?_;refine wI hF (λT4 hF=>?_) λT4 hF=>?_
  ·obtain⟨l4,g,hF⟩:=ko g 0 hF;refine wK [0,6,7,9] ?_;refine wZ (kD 0 [57,58,57,58,0,0,0,0]) follows ?_;obtain⟨oZ,g,hF⟩:=ko g 1 hF;obtain⟨fE,g,hF⟩:=ko g 1 hF;try simp only[KC]at g
   exact wL
  exact wT (hj0 _) (eW hF)
 exact wT (hj0 _) (eW hF)
def Ij(a0:List Int):Option (am×Int×List an×d8):=
 (EA a0).bind λz1=>
 (tO z1.1 z1.2.1 z1.2.2.1 z1.2.2.2.1 z1.2.2.2.2.1 z1.2.2.2.2.2).bind λz2=>
 (GN a0 0 0 z1.1 z2.1).bind λz3=>
 J (z1.1,z1.2.1,z1.2.2.1,z3.1)
def zlP{a0 r}(hr:Ij a0=J r):ap Tryz.prog 14 [(.sh,vA a0)] (Eo (.bO [vE r.1,.int .i64 r.2.1,vG r.2.2.1,vZ r.2.2.2]) [.au]):=by
 apply pF 44 [] [42] [26] [.cell 2 25,.tmp 3,.tmp 4,.cell 5 37] hr zJT Tryz.func14;intro Φ ak hF g;unfold Ij at hF;refine wW ?_;refine wE hF ZO λz1 hF=>?_
 refine wK [0,2,5,6,7,8,9,10,11] ?_;refine wW ?_;refine wE hF VW λz2 hF=>?_
 refine wK [2,5,6,7,8,12,13] ?_;refine wZ (kD 0 [50,0,0,0,50,106,3,18,0,0,42]) follows ?_;have P3:= @zjl;exact wL
def Is(a0:am)(a1:Int)(a2:cH):Option Bool:=
 ((if((a2.cq.length:Int)==a1)=Z then(
 if((a2.aF.length:Int)==a1)=Z then(
 if((a2.Pi.aC.length:Int)==(i64.wrap (a1+5)))=Z then(
 if((a2.Pi.aV.length:Int)==1)=Z then(
 if((a2.Pi.aE.length:Int)==(i64.wrap ((i64.wrap (2*a1))+4)))=Z then(
 (pu a0 a2.cq).bind λz9=>
 if z9=Z then(
 (pu a0 a2.aF).bind λb8=>
 if b8=Z then(
 (pu a0 a2.Pi.aC).bind λdm=>
 if dm=Z then(
 (ru a0 a2.Pi.aE).bind λfH=>
 J fH)else(
 J aa))else(
 J aa))else(
 J aa))else(
 J aa))else(
 J aa))else(
 J aa))else(
 J aa))else(
 J aa):Option Bool).bind λx3=>
 J x3)
def zrO{a0 a1 a2 r}(hr:Is a0 a1 a2=J r):ap Tryz.prog 205 [(.sh,vE a0),(.sh,.int .i64 a1),(.sh,vL a2)] (Eo (.bool r) gw):=by
 apply pE [] hr zFc Tryz.func205;intro Φ ak hF g;unfold Is at hF;refine wW ?_;refine wJ hF (λx3=>[(6,.v (.bool x3))]) (λx3 hF=>?_) λ_ hj0 hF=>?_
 ·exact wm ak hF
 have c0:= @LH;have c1:= @JC;exact wL
def Ib(a0:am)(a1:Int):Option Int:=
 (lw a1 (i64.wrap (a0.Q-1)) a0.P).bind λz1=>
 J z1
def zui{a0 a1 r}(hr:Ib a0 a1=J r):ap Tryz.prog 206 [(.sh,vE a0),(.sh,.int .i64 a1)] (Eo (.int .i64 r) cJ):=by
 apply pE [] hr zEz Tryz.func206;intro Φ ak hF g;unfold Ib at hF;have c0:= @xd;exact wL
def HD(a0:am)(a1:Int)(a2:ct)(a3:List an)(a4:List an)(a5:cH):Option Bool:=
 ((if((a4.length:Int) !=(a3.length:Int))=Z then(
 J Z)else(
 (Is a0 (a3.length:Int) a5).bind λz5=>
 if(!z5)=Z then(
 J Z)else(
 (ix a5.Pi.aV 0).bind λx7=>
 (zM a0 a1 a3 a4 a5).bind λz8=>
 J (x7 !=z8))):Option Bool).bind λx3=>
 if x3=Z then(
 J aa)else(
 (ix a5.Pi.aV 0).bind λep=>
 gd (0<=(i64.wrap ((a3.length:Int)+4)))<|
 gd ((i64.wrap ((a3.length:Int)+4)).toNat<=a5.Pi.aE.length/\a5.Pi.aE.length<=a5.Pi.aE.length)<|
 (Ax a0 a1 a3 a4 a5.cq).bind λb8=>
 ((aS (σ:=Int) (λi16 rD=>
 (ix b8 i16).bind λLE=>
 gd (a0.Q≠0)<|
 J (.go ((i64.wrap (rD*LE)).tmod a0.Q))) (λrD=>rD) (b8.length) 0 1:Option Int).bind λeX=>
 (uw a3).bind λnk=>
 (uw a4).bind λfO=>
 (ix a5.aF (i64.wrap ((a3.length:Int)-1))).bind λj5=>
 (eg a0 a5.cq).bind λeZ=>
 (eg a0 a2.Hs).bind λgy=>
 (Ib a0 gy).bind λKm=>
 (eg a0 [eZ,Km]).bind λiG=>
 (kV a0 a5.cq b8).bind λnx=>
 (cD a0 a2.H (i64.wrap (0-eX))).bind λgX=>
 (eg a0 [j5,gX]).bind λuQ=>
 (kV a0 nk.1 b8).bind λyD=>
 (kV a0 nk.2 b8).bind λuU=>
 (ix a5.Pi.aE 0).bind λuv=>
 (ix a5.Pi.aE 1).bind λku=>
 (ix a5.Pi.aE 2).bind λux=>
 (ix a5.Pi.aE 3).bind λPq=>
 (cD a0 a0.G uv).bind λBs=>
 (cD a0 a0.G ku).bind λBh=>
 (kV a0 a2.Hs ((a5.Pi.aE.take a5.Pi.aE.length).drop ((i64.wrap ((a3.length:Int)+4)).toNat))).bind λAf=>
 (eg a0 [Bh,Af]).bind λFI=>
 (cD a0 a0.G ux).bind λFf=>
 (cD a0 a0.G (i64.wrap (0-Pq))).bind λDn=>
 (kV a0 fO.1 ((a5.Pi.aE.take a5.Pi.aE.length).drop ((i64.wrap ((a3.length:Int)+4)).toNat))).bind λNq=>
 (eg a0 [Dn,Nq]).bind λxy=>
 (cD a0 a1 (i64.wrap (0-Pq))).bind λAj=>
 (kV a0 fO.2 ((a5.Pi.aE.take a5.Pi.aE.length).drop ((i64.wrap ((a3.length:Int)+4)).toNat))).bind λqL=>
 (eg a0 [Aj,qL]).bind λCv=>
 ((aS (σ:=(List Int)×List Int×Int) (λuH im=>
 (ix a5.aF uH).bind λxD=>
 gd ((im.1.length+1)*8<=140737488355328/\im.1.length+1<=4611686018427387904)<|
 (ix a5.Pi.aE (i64.wrap (4+uH))).bind λNp=>
 (ix ((a5.Pi.aE.take a5.Pi.aE.length).drop ((i64.wrap ((a3.length:Int)+4)).toNat)) uH).bind λqj=>
 (cD a0 a0.G Np).bind λGF=>
 (cD a0 im.2.2 qj).bind λHp=>
 (eg a0 [GF,Hp]).bind λqS=>
 gd ((im.2.1.length+1)*8<=140737488355328/\im.2.1.length+1<=4611686018427387904)<|
 J (.go (im.1++[xD],im.2.1++[qS],xD))) (λim=>(im.1,im.2.1)) (a5.aF.length) 0 ([iG,nx,uQ,yD,uU],[Bs,FI,Ff,xy,Cv],a2.H):Option ((List Int×List Int))).bind λwA=>
 ((aS (σ:=Unit) (λEj PC=>
 (ix wA.1 Ej).bind λBJ=>
 (ix a5.Pi.aC Ej).bind λDV=>
 (ix wA.2 Ej).bind λpz=>
 (cD a0 BJ ep).bind λyf=>
 (eg a0 [DV,yf]).bind λoR=>
 if(oR !=pz)=Z then(
 J (.out (.inr aa)))else(
 J (.go ()))) (λPC=>.inl ()) (wA.1.length) 0 ():Option (Unit ⊕ Bool)).bind (Sum.elim (λxB=>
 J Z) J))))))
set_option maxHeartbeats 16000000 in
def zqr{a0 a1 a2 a3 a4 a5 r}(hr:HD a0 a1 a2 a3 a4 a5=J r):ap Tryz.prog 166 [(.sh,vE a0),(.sh,.int .i64 a1),(.sh,vJ a2),(.sh,vH a3),(.sh,vH a4),(.sh,vL a5)] (Eo (.bool r) rQ):=by
 apply pE [] hr zGn Tryz.func166;intro Φ ak hF g;unfold HD at hF
 iterate 2 (try simp[go_sem,g];try intros;refine bu ?_)
 refine bT hF [1,3,4,6,8,11,13] (λx3=>[(59,.v (.bool x3))]) (λx3 hF=>?_) λ_ hj0 hF=>?_
 ·refine wI hF (λh9 hF=>?_) λh9 hF=>?_
  ·exact wl ak hF
  obtain⟨ep,g,hF⟩:=ko g 0 hF;refine wW ?_;refine wK [1,3,4,6,8,11,13,14] ?_;refine wZ (kD 0 [89,89,90,89,89,90,0,0]) follows ?_
  iterate 2 obtain⟨g,hF⟩:=Rg g hF
  refine wW ?_;refine wK [1,3,4,6,8,11,13,14,15,16,17] ?_;refine wE hF Xk λb8 hF=>?_
  iterate 2 (try simp[go_sem,g];try intros;refine bu ?_)
  try simp[go_sem,g]
  try intros
  refine wK [1,3,4,6,8,11,13,14,15,16,17,18,19,82,83,84] ?_;refine bT hF [1,3,4,6,8,11,13,14,15,16,17,18] (λeX=>[(19,.v (.int .i64 eX))]) (λeX hF=>?_) λ_ hj0 hF=>?_
  ·refine wE hF Fr λnk hF=>?_
   refine wW ?_;refine wE hF Fr λfO hF=>?_
   refine wK [1,6,8,11,13,14,15,16,17,18,19,22,23,24,25] ?_;refine wZ (kE [0,1,2,3,5,6,7,8,13,14,15,16,18,19,20,21,22,23,24,25,26,27,28,29,33,34,35,37,38,39,4,9,10,11,12,17,30,31,32,36,40,41,42] [50,50,89,90,50,50,65,66,50,89,90,0,50,89,90,0,0,0,0,50,65,66,0,0,50,0,0,50,0,0,4,4,4,0,7,4,4,0,6,3,3,0,7]) follows ?_;obtain⟨j5,g,hF⟩:=Rx g hF;refine wD hF gZ λeZ hF=>?_
   refine wD hF gZ λgy hF=>?_
   refine wD hF zui λKm hF=>?_
   refine wD hF gZ λiG hF=>?_
   refine wD hF od λnx hF=>?_
   refine wD hF ft λgX hF=>?_
   refine wE hF gZ λuQ hF=>?_
   refine wE hF od λyD hF=>?_
   refine wE hF od λuU hF=>?_
   refine wK [1,6,8,11,14,15,16,17,24,25,26] ?_;refine wZ (kE [0,1,2,3,4,5,7,8,9,10,11,12,13,15,16,17,18,22,23,24,25,26,27,29,30,31,32,33,34,35,36,38,39,40,44,45,46,47,48,49,50,52,53,54,6,14,19,20,21,28,37,41,42,43,51,55,56,57,58,59] [50,49,50,0,0,0,50,50,49,50,0,0,0,50,65,66,0,50,49,50,0,0,0,50,50,49,50,0,0,0,0,50,0,0,50,50,0,0,0,0,0,50,0,0,4,4,4,0,7,4,4,4,0,7,3,3,0,6,0,7]) follows ?_;obtain⟨uv,g,hF⟩:=ko g 0 hF;obtain⟨ku,g,hF⟩:=ko g 1 hF;obtain⟨ux,g,hF⟩:=ko g 2 hF;obtain⟨Pq,g,hF⟩:=ko g 3 hF;refine wD hF ft λBs hF=>?_
   refine wD hF ft λBh hF=>?_
   refine wD hF od λAf hF=>?_
   refine wD hF gZ λFI hF=>?_
   refine wD hF ft λFf hF=>?_
   refine wD hF ft λDn hF=>?_
   refine wD hF od λNq hF=>?_
   refine wD hF gZ λxy hF=>?_
   refine wE hF ft λAj hF=>?_
   refine wE hF od λqL hF=>?_
   refine wE hF gZ λCv hF=>?_
   refine wK [6,8,11,14,15,16,17,26,27] ?_
   iterate 2 (try simp[go_sem,g];try intros;refine bu ?_)
   refine bT hF [6,14,15] (λwA=>[(26,.v (vD wA.1)),(27,.v (vD wA.2))]) (λwA hF=>?_) λ_ hj0 hF=>?_
   ·try simp[go_sem,g]
    try intros
    refine wK [6,14,15,26,27,244,245,246] ?_;refine wS hF (λxB=>[]) (λxB hF=>?_) λ_ hj0 dE hF=>?_
    ·exact wl ak hF
    refine wR hF [6,14,15,26,27,244,245] (λEj PC=>[(246,.v (.int .i64 Ej))]) λb bg Ej PC _ _ aO aN bo ba hF=>?_
    refine wW ?_;refine wu aO aN ?_;refine wW ?_;refine wB ?_;obtain⟨BJ,g,hF⟩:=Rx g hF;refine wW ?_;refine wZ (kE [0,1,2,3,4,5,6,7,11,12,13,14,8,9,10,15] [50,0,0,0,0,50,0,0,0,0,0,0,4,0,7,0]) follows ?_;have c0:= @ft;have c1:= @gZ;exact wL
   refine wR hF [6,14,15,16,17,209,210] (λuH im=>[(26,.v (vD im.1)),(27,.v (vD im.2.1)),(28,.v (.int .i64 im.2.2)),(211,.v (.int .i64 uH))]) λb bg uH im _ _ aO aN bo ba hF=>?_
   refine wW ?_;refine wu aO aN ?_;refine wW ?_;refine wB ?_;obtain⟨xD,g,hF⟩:=Rx g hF;refine wK [6,14,15,16,17,26,27,28,29,30,209,210,211] ?_;obtain⟨g,hF⟩:=Rg g hF;refine wW ?_;refine wZ (kE [0,1,2,3,4,5,6,7,8,9,11,12,13,14,15,16,10,17,18,19,20,21,22] [0,50,50,49,50,0,0,0,0,0,50,0,0,0,0,0,4,3,0,6,0,5,0]) follows ?_;obtain⟨Np,g,hF⟩:=Rx g hF;obtain⟨qj,g,hF⟩:=ie g hF;have c0:= @ft;have c1:= @gZ;exact wL
  refine wR hF [1,3,4,6,8,11,13,14,15,16,17,18,82,83] (λi16 rD=>[(19,.v (.int .i64 rD)),(84,.v (.int .i64 i16))]) λb bg i16 rD _ _ aO aN bo ba hF=>?_
  exact wL
 refine wZ (kD 0 [0,0,0,0,0,50,0,90,3,0,0,0,89,89,90,0,0,50,0,0,0,90,4,0,0]) follows ?_;have c0:= @zrO;have c1:= @Xj;exact wL
def F2(a0:am)(a1:Int)(a2:List an)(a3:List an)(a4:cH):Option (Bool×Bool):=
 (((pR a0 a1 a2).bind λz4=>
 if(!z4)=Z then(
 J Z)else(
 (pR a0 a1 a3).bind λz6=>
 J (!z6)):Option Bool).bind λx3=>
 if x3=Z then(
 J (aa,aa))else(
 (rY a0 (a2.length:Int)).bind λz8=>
 if(!z8.2)=Z then(
 J (aa,aa))else(
 (HD a0 a1 z8.1 a2 a3 a4).bind λbX=>
 J (bX,Z))))
def zm3{a0 a1 a2 a3 a4 r}(hr:F2 a0 a1 a2 a3 a4=J r):ap Tryz.prog 104 [(.sh,vE a0),(.sh,.int .i64 a1),(.sh,vH a2),(.sh,vH a3),(.sh,vL a4)] (Eo (.bO [.bool r.1,.bool r.2]) si):=by
 apply pE [] hr zHi Tryz.func104;intro Φ ak hF g;unfold F2 at hF;refine wW ?_;refine bT hF [1,2,3,5,9] (λx3=>[(25,.v (.bool x3))]) (λx3 hF=>?_) λ_ hj0 hF=>?_
 ·have c0:= @NK;have c1:= @zqr;exact wL
 have c0:= @HG;exact wL
def EO(a0:bZ):Option Bool:=
 J ((i64.wrap ((i64.wrap ((a0.aC.length:Int)+(a0.aV.length:Int)))+(a0.aE.length:Int)))==0)
def UH{a0 r}(hr:EO a0=J r):ap Tryz.prog 167 [(.sh,vS a0)] (Eo (.bool r) [.au]):=by
 apply pE [] hr zFS Tryz.func167;intro Φ ak hF g;unfold EO at hF;exact wL
def Js(a0:cn):Option Bool:=
 ((if((i64.wrap ((i64.wrap ((a0.bQ.length:Int)+(a0.bK.length:Int)))+(a0.aF.length:Int)))==0)=Z then(
 (EO a0.Pi).bind λz5=>
 J z5)else(
 J aa):Option Bool).bind λx3=>
 J x3)
def zqT{a0 r}(hr:Js a0=J r):ap Tryz.prog 105 [(.sh,vM a0)] (Eo (.bool r) [.au]):=by
 apply pE [] hr zGq Tryz.func105;intro Φ ak hF g;unfold Js at hF;refine wW ?_;refine wJ hF (λx3=>[(2,.v (.bool x3))]) (λx3 hF=>?_) λ_ hj0 hF=>?_
 ·exact wm ak hF
 have c0:= @UH;exact wL
def Jg(a0:am)(a1:Int)(a2:cn):Option Bool:=
 ((if((a2.bQ.length:Int)==a1)=Z then(
 if((a2.bK.length:Int)==a1)=Z then(
 if((a2.aF.length:Int)==a1)=Z then(
 if((a2.Pi.aC.length:Int)==(i64.wrap ((i64.wrap (3*a1))+3)))=Z then(
 if((a2.Pi.aV.length:Int)==1)=Z then(
 if((a2.Pi.aE.length:Int)==(i64.wrap ((i64.wrap (5*a1))+2)))=Z then(
 (pu a0 a2.bQ).bind λbX=>
 if bX=Z then(
 (pu a0 a2.bK).bind λbH=>
 if bH=Z then(
 (pu a0 a2.aF).bind λeS=>
 if eS=Z then(
 (pu a0 a2.Pi.aC).bind λlD=>
 if lD=Z then(
 (ru a0 a2.Pi.aE).bind λfQ=>
 J fQ)else(
 J aa))else(
 J aa))else(
 J aa))else(
 J aa))else(
 J aa))else(
 J aa))else(
 J aa))else(
 J aa))else(
 J aa))else(
 J aa):Option Bool).bind λx3=>
 J x3)
def zrG{a0 a1 a2 r}(hr:Jg a0 a1 a2=J r):ap Tryz.prog 207 [(.sh,vE a0),(.sh,.int .i64 a1),(.sh,vM a2)] (Eo (.bool r) gw):=by
 apply pE [] hr zFl Tryz.func207;intro Φ ak hF g;unfold Jg at hF;refine wW ?_;refine wJ hF (λx3=>[(6,.v (.bool x3))]) (λx3 hF=>?_) λ_ hj0 hF=>?_
 ·exact wm ak hF
 have c0:= @LH;have c1:= @JC;exact wL
def Jo(a0:Int)(a1:Int)(a2:Int)(a3:Int)(a4:Int):Option Int:=
 gd (a0≠0)<|
 ((dI (σ:=Int×Int×Int) (λs4=>
 if decide (s4.2.2<=a1)=Z then(
 gd (a0≠0)<|
 gd (a0≠0)<|
 (qo (i64.wrap ((i64.wrap ((i64.wrap (a3*(s4.2.2.tmod a0)))+((i64.wrap (s4.2.1*a2)).tmod a0)))-a4)) a0).bind λbX=>
 gd (a0≠0)<|
 J (.go ((i64.wrap (s4.1*bX)).tmod a0,(i64.wrap (s4.2.1*a2)).tmod a0,i64.wrap (s4.2.2+1))))else(
 J (.out s4.1))) ((1:Int).tmod a0,1,1):Option Int).bind λx3=>
 J x3)
def zq4{a0 a1 a2 a3 a4 r}(hr:Jo a0 a1 a2 a3 a4=J r):ap Tryz.prog 208 [(.sh,.int .i64 a0),(.sh,.int .i64 a1),(.sh,.int .i64 a2),(.sh,.int .i64 a3),(.sh,.int .i64 a4)] (Eo (.int .i64 r) si):=by
 apply pE [] hr zFC Tryz.func208;intro Φ ak hF g;unfold Jo at hF;obtain⟨g,hF⟩:=Rz g hF
 iterate 3 refine wW ?_
 refine wJ hF (λx3=>[(11,.v (.int .i64 x3))]) (λx3 hF=>?_) λ_ hj0 hF=>?_
 ·exact wl ak hF
 refine wB ?_;obtain⟨Oe,wO,bg⟩:=hF;refine jJ wO [0,1,2,3,4] (λs4=>[(11,.v (.int .i64 s4.1)),(12,.v (.int .i64 s4.2.1)),(13,.v (.int .i64 s4.2.2))]) λs4 _ _ bo ba hF=>?_
 have c0:= @GP;exact wL
def Er(a0:am)(a1:Int)(a2:Int):Option ((List Int)):=
 ((dI (σ:=(List Int)×Int) (λs4=>
 if decide (s4.2<=a1)=Z then(
 (lw a2 s4.2 a0.Q).bind λbX=>
 gd ((s4.1.length+1)*8<=140737488355328/\s4.1.length+1<=4611686018427387904)<|
 J (.go (s4.1++[bX],i64.wrap (s4.2+1))))else(
 J (.out s4.1))) ([],1):Option ((List Int))).bind λx3=>
 J x3)
def VV{a0 a1 a2 r}(hr:Er a0 a1 a2=J r):ap Tryz.prog 209 [(.sh,vE a0),(.sh,.int .i64 a1),(.sh,.int .i64 a2)] (Eo (vD r) gw):=by
 apply pE [] hr zHl Tryz.func209;intro Φ ak hF g;unfold Er at hF
 iterate 3 refine wW ?_
 refine wJ hF (λx3=>[(7,.v (vD x3))]) (λx3 hF=>?_) λ_ hj0 hF=>?_
 ·exact wl ak hF
 refine wB ?_;obtain⟨Oe,wO,bg⟩:=hF;refine jJ wO [1,2,3] (λs4=>[(7,.v (vD s4.1)),(8,.v (.int .i64 s4.2))]) λs4 _ _ bo ba hF=>?_
 have c0:= @xd;exact wL
def BV(a0:am)(a1:Int)(a2:Int)(a3:List an)(a4:List an)(a5:cn):Option Bool:=
 ((if((a4.length:Int) !=(a3.length:Int))=Z then(
 J Z)else(
 (Jg a0 (a3.length:Int) a5).bind λz5=>
 if(!z5)=Z then(
 J Z)else(
 (ix a5.Pi.aV 0).bind λx7=>
 (AB a0 a1 a3 a4 a5).bind λz8=>
 J (x7 !=z8))):Option Bool).bind λx3=>
 if x3=Z then(
 J aa)else(
 (ix a5.Pi.aV 0).bind λep=>
 (rP a1 a3 a4 a5.bQ).bind λb8=>
 (pU a0 (⟨#[109,105,120,32,120]⟩:ByteArray) b8).bind λbH=>
 (yK a0 a1 a3 a4 a5.bQ a5.bK).bind λdm=>
 gd (0<=(i64.wrap ((i64.wrap (3*(a3.length:Int)))+1)))<|
 gd (0<=(i64.wrap ((i64.wrap (4*(a3.length:Int)))+1)))<|
 gd ((i64.wrap ((i64.wrap (3*(a3.length:Int)))+1)).toNat<=(i64.wrap ((i64.wrap (4*(a3.length:Int)))+1)).toNat/\(i64.wrap ((i64.wrap (4*(a3.length:Int)))+1)).toNat<=a5.Pi.aE.length)<|
 (ix a5.Pi.aE (i64.wrap ((i64.wrap (5*(a3.length:Int)))+1))).bind λeX=>
 ((dI (σ:=(List Int)×List Int×Int) (λfi=>
 if decide (fi.2.2<(a3.length:Int))=Z then(
 (ix a5.bQ fi.2.2).bind λBE=>
 (ix a5.bK fi.2.2).bind λqx=>
 (cD a0 BE dm.1).bind λiQ=>
 (cD a0 a0.G (i64.wrap (0-dm.2))).bind λnk=>
 (eg a0 [iQ,qx,nk]).bind λfO=>
 gd ((fi.1.length+1)*8<=140737488355328/\fi.1.length+1<=4611686018427387904)<|
 (ix a5.Pi.aE fi.2.2).bind λj5=>
 (ix a5.Pi.aE (i64.wrap ((a3.length:Int)+fi.2.2))).bind λDZ=>
 (nR a0 a2 j5 DZ).bind λgy=>
 gd ((fi.2.1.length+1)*8<=140737488355328/\fi.2.1.length+1<=4611686018427387904)<|
 J (.go (fi.1++[fO],fi.2.1++[gy],i64.wrap (fi.2.2+1))))else(
 J (.out (fi.1,fi.2.1)))) ([],[],0):Option ((List Int×List Int))).bind λbG=>
 ((dI (σ:=(List Int)×List Int×Int×Int) (λfc=>
 if decide (fc.2.2.2<(a3.length:Int))=Z then(
 (ix a5.aF fc.2.2.2).bind λu7=>
 gd ((fc.1.length+1)*8<=140737488355328/\fc.1.length+1<=4611686018427387904)<|
 (ix a5.Pi.aE fc.2.2.2).bind λB5=>
 (ix a5.Pi.aE (i64.wrap ((i64.wrap (2*(a3.length:Int)))+fc.2.2.2))).bind λCp=>
 (cD a0 fc.2.2.1 B5).bind λFI=>
 (cD a0 a2 Cp).bind λFf=>
 (eg a0 [FI,Ff]).bind λDn=>
 gd ((fc.2.1.length+1)*8<=140737488355328/\fc.2.1.length+1<=4611686018427387904)<|
 J (.go (fc.1++[u7],fc.2.1++[Dn],u7,i64.wrap (fc.2.2.2+1))))else(
 J (.out (fc.1,fc.2.1)))) (bG.1,bG.2,a0.G,0):Option ((List Int×List Int))).bind λnB=>
 (ix a5.aF (i64.wrap ((a3.length:Int)-1))).bind λUF=>
 (Jo a0.Q (a3.length:Int) bH dm.1 dm.2).bind λqL=>
 (cD a0 a0.G (i64.wrap (0-qL))).bind λCv=>
 (eg a0 [UF,Cv]).bind λWU=>
 gd ((nB.1.length+1)*8<=140737488355328/\nB.1.length+1<=4611686018427387904)<|
 (ix a5.Pi.aE (i64.wrap (3*(a3.length:Int)))).bind λiH=>
 (cD a0 a2 iH).bind λX7=>
 gd ((nB.2.length+1)*8<=140737488355328/\nB.2.length+1<=4611686018427387904)<|
 ((dI (σ:=(List Int)×List Int×Int) (λfN=>
 if decide (fN.2.2<(a3.length:Int))=Z then(
 (ix a5.bK fN.2.2).bind λqj=>
 gd ((fN.1.length+1)*8<=140737488355328/\fN.1.length+1<=4611686018427387904)<|
 (ix ((a5.Pi.aE.take ((i64.wrap ((i64.wrap (4*(a3.length:Int)))+1)).toNat)).drop ((i64.wrap ((i64.wrap (3*(a3.length:Int)))+1)).toNat)) fN.2.2).bind λMv=>
 (ix a5.Pi.aE (i64.wrap ((i64.wrap ((i64.wrap (4*(a3.length:Int)))+1))+fN.2.2))).bind λHR=>
 (nR a0 a2 Mv HR).bind λqS=>
 gd ((fN.2.1.length+1)*8<=140737488355328/\fN.2.1.length+1<=4611686018427387904)<|
 J (.go (fN.1++[qj],fN.2.1++[qS],i64.wrap (fN.2.2+1))))else(
 J (.out (fN.1,fN.2.1)))) (nB.1++[WU],nB.2++[X7],0):Option ((List Int×List Int))).bind λot=>
 (uw a3).bind λo0=>
 (uw a4).bind λrj=>
 (Er a0 (a3.length:Int) bH).bind λyv=>
 (kV a0 o0.1 yv).bind λGj=>
 (Er a0 (a3.length:Int) bH).bind λMr=>
 (kV a0 o0.2 Mr).bind λWE=>
 gd ((ot.1.length+2)*8<=140737488355328/\ot.1.length+2<=4611686018427387904)<|
 (cD a0 a0.G (i64.wrap (0-eX))).bind λB3=>
 (kV a0 rj.1 ((a5.Pi.aE.take ((i64.wrap ((i64.wrap (4*(a3.length:Int)))+1)).toNat)).drop ((i64.wrap ((i64.wrap (3*(a3.length:Int)))+1)).toNat))).bind λB1=>
 (eg a0 [B3,B1]).bind λt7=>
 (cD a0 a1 (i64.wrap (0-eX))).bind λmX=>
 (kV a0 rj.2 ((a5.Pi.aE.take ((i64.wrap ((i64.wrap (4*(a3.length:Int)))+1)).toNat)).drop ((i64.wrap ((i64.wrap (3*(a3.length:Int)))+1)).toNat))).bind λBO=>
 (eg a0 [mX,BO]).bind λHX=>
 gd ((ot.2.length+2)*8<=140737488355328/\ot.2.length+2<=4611686018427387904)<|
 ((aS (σ:=(List Int)×List Int) (λuV n5=>
 (ix a5.Pi.aC uV).bind λFi=>
 (ix n5.1 uV).bind λQz=>
 (ix n5.2 uV).bind λSn=>
 (cD a0 Qz ep).bind λF0=>
 (eg a0 [Fi,F0]).bind λTQ=>
 if(TQ !=Sn)=Z then(
 J (.out (.inr aa)))else(
 J (.go (n5.1,n5.2)))) (λn5=>.inl ()) (a5.Pi.aC.length) 0 (ot.1++[Gj,WE],ot.2++[t7,HX]):Option (Unit ⊕ Bool)).bind (Sum.elim (λpz=>
 J Z) J)))))))
set_option maxHeartbeats 16000000 in
def zqZ{a0 a1 a2 a3 a4 a5 r}(hr:BV a0 a1 a2 a3 a4 a5=J r):ap Tryz.prog 168 [(.sh,vE a0),(.sh,.int .i64 a1),(.sh,.int .i64 a2),(.sh,vH a3),(.sh,vH a4),(.sh,vM a5)] (Eo (.bool r) rQ):=by
 apply pE [] hr zH3 Tryz.func168;intro Φ ak hF g;unfold BV at hF
 iterate 2 (try simp[go_sem,g];try intros;refine bu ?_)
 refine bT hF [1,2,3,4,6,11,13] (λx3=>[(59,.v (.bool x3))]) (λx3 hF=>?_) λ_ hj0 hF=>?_
 ·refine wI hF (λh9 hF=>?_) λh9 hF=>?_
  ·exact wl ak hF
  obtain⟨ep,g,hF⟩:=ko g 0 hF;refine wW ?_;refine wK [1,2,3,4,6,11,13,14] ?_;refine wW ?_;refine wZ (kD 0 [50,0,0,0,89,90,3,3,0]) follows ?_;refine wE hF Ew λb8 hF=>?_
  refine wE hF Ed λbH hF=>?_
  refine wK [1,2,3,4,6,11,13,14,15,16] ?_;refine wE hF VH λdm hF=>?_
  refine wK [1,2,3,4,6,11,13,14,15,16,17,18] ?_
  iterate 3 obtain⟨g,hF⟩:=Rg g hF
  obtain⟨eX,g,hF⟩:=Rx g hF;refine wW ?_;refine wK [1,2,3,4,6,11,13,14,15,16,17,18,19,20] ?_
  iterate 2 refine wW ?_
  refine bT hF [1,2,3,4,6,11,13,14,15,16,17,18,19,20] (λbG=>[(21,.v (vD bG.1)),(22,.v (vD bG.2))]) (λbG hF=>?_) λ_ hj0 hF=>?_
  ·iterate 2 refine wW ?_
   refine bT hF [1,2,3,4,6,11,13,14,15,16,17,18,19,20] (λnB=>[(21,.v (vD nB.1)),(22,.v (vD nB.2))]) (λnB hF=>?_) λ_ hj0 hF=>?_
   ·refine wZ (kD 0 [0,50,89,90,0,0,0,0,50,49,50,49,50,0,0,0,0,4,0,4,0,6,0,5,0]) follows ?_;obtain⟨UF,g,hF⟩:=Rx g hF;refine wD hF zq4 λqL hF=>?_
    refine wD hF ft λCv hF=>?_
    refine wE hF gZ λWU hF=>?_
    obtain⟨g,hF⟩:=Rg g hF;refine wK [1,2,3,4,6,11,13,14,15,16,19,20,21,22] ?_;refine wZ (kD 0 [0,50,0,0,0,0,0,0,3,0,5,0]) follows ?_;obtain⟨iH,g,hF⟩:=Rx g hF;refine wE hF ft λX7 hF=>?_
    obtain⟨g,hF⟩:=Rg g hF;refine wK [1,2,3,4,6,11,13,14,15,16,19,20,21,22] ?_;refine wW ?_;refine bT hF [1,3,4,6,11,13,14,16,19,20] (λot=>[(21,.v (vD ot.1)),(22,.v (vD ot.2))]) (λot hF=>?_) λ_ hj0 hF=>?_
    ·refine wE hF Fr λo0 hF=>?_
     refine wW ?_;refine wE hF Fr λrj hF=>?_
     refine wK [1,6,11,13,14,16,19,20,21,22,27,28,29,30] ?_;refine wZ (kE [0,1,2,3,4,5,8,9,10,11,12,6,7,13,14,15,16,17] [0,50,0,50,0,0,50,0,50,0,0,3,3,3,3,0,5,0]) follows ?_;refine wE hF VV λyv hF=>?_
     refine wE hF od λGj hF=>?_
     refine wE hF VV λMr hF=>?_
     refine wE hF od λWE hF=>?_
     obtain⟨g,hF⟩:=Rg g hF;refine wK [1,6,11,14,19,20,21,22,29,30] ?_;refine wZ (kE [0,1,2,3,4,5,6,8,9,10,14,15,16,17,18,20,21,22,7,11,12,13,19,23,24,25,26,27,28] [0,50,50,49,50,0,0,50,0,0,50,50,0,0,0,50,0,0,3,3,0,6,3,3,0,6,0,5,0]) follows ?_;refine wE hF ft λB3 hF=>?_
     refine wE hF od λB1 hF=>?_
     refine wE hF gZ λt7 hF=>?_
     refine wE hF ft λmX hF=>?_
     refine wE hF od λBO hF=>?_
     refine wE hF gZ λHX hF=>?_
     obtain⟨g,hF⟩:=Rg g hF;refine wK [6,11,14,21,22] ?_;try simp[go_sem,g]
     try intros
     refine bu ?_;refine wS hF (λpz=>[]) (λpz hF=>?_) λ_ hj0 dE hF=>?_
     ·exact wl ak hF
     refine wR hF [6,14,314,315] (λuV n5=>[(21,.v (vD n5.1)),(22,.v (vD n5.2)),(316,.v (.int .i64 uV))]) λb bg uV n5 _ _ aO aN bo ba hF=>?_
     refine wW ?_;refine wu aO aN ?_;refine wW ?_;refine wB ?_;obtain⟨Fi,g,hF⟩:=Rx g hF;refine wK [6,14,21,22,31,32,314,315,316] ?_;refine wZ (kE [0,1,2,3,4,5,6,7,11,12,13,14,8,9,10,15] [50,0,50,0,0,0,0,0,0,0,0,0,4,0,7,0]) follows ?_;have c0:= @ft;have c1:= @gZ;exact wL
    refine wB ?_;obtain⟨b70,AbC,bg⟩:=hF;refine jJ AbC [1,2,3,4,6,11,13,14,15,16,19,20] (λfN=>[(21,.v (vD fN.1)),(22,.v (vD fN.2.1)),(26,.v (.int .i64 fN.2.2))]) λfN _ _ bo ba hF=>?_
    refine wW ?_;refine wI hF (λh65 hF=>?_) λh65 hF=>?_
    ·refine wW ?_;refine wB ?_;obtain⟨qj,g,hF⟩:=Rx g hF;obtain⟨g,hF⟩:=Rg g hF;refine wK [1,2,3,4,6,11,13,14,15,16,19,20,21,22,26] ?_;refine wZ (kD 0 [0,50,0,0,0,0,0,0,0,0,0,0,0,0,0,3,0,5,0]) follows ?_;obtain⟨Mv,g,hF⟩:=ie g hF;have c0:= @CL;exact wL
    exact wL
   refine wB ?_;obtain⟨b49,AbW,bg⟩:=hF;refine jJ AbW [1,2,3,4,6,11,13,14,15,16,17,18,19,20] (λfc=>[(21,.v (vD fc.1)),(22,.v (vD fc.2.1)),(24,.v (.int .i64 fc.2.2.1)),(25,.v (.int .i64 fc.2.2.2))]) λfc _ _ bo ba hF=>?_
   refine wK [1,2,3,4,6,11,13,14,15,16,17,18,19,20,21,22,24,25,152] ?_;refine wI hF (λh42 hF=>?_) λh42 hF=>?_
   ·refine wW ?_;refine wB ?_;obtain⟨u7,g,hF⟩:=Rx g hF;obtain⟨g,hF⟩:=Rg g hF;refine wW ?_;refine wZ (kE [0,1,2,3,4,5,6,7,9,10,11,12,13,14,15,16,17,8,18,19,20,21,22,23] [0,50,50,0,0,0,0,0,50,0,0,0,0,0,0,0,0,4,3,0,6,0,5,0]) follows ?_;have c0:= @ft;have c1:= @gZ;exact wL
   exact wL
  refine wB ?_;obtain⟨b32,OW,bg⟩:=hF;refine jJ OW [1,2,3,4,6,11,13,14,15,16,17,18,19,20] (λfi=>[(21,.v (vD fi.1)),(22,.v (vD fi.2.1)),(23,.v (.int .i64 fi.2.2))]) λfi _ _ bo ba hF=>?_
  refine wW ?_;refine wI hF (λP8 hF=>?_) λP8 hF=>?_
  ·refine wW ?_;refine wB ?_;refine wZ (kE [0,1,2,3,4,5,6,7,8,10,11,12,13,14,15,16,17,18,19,9,20,21,22,23,24,25] [0,50,50,89,90,0,0,0,0,89,90,0,0,0,50,49,50,0,0,4,4,0,6,0,5,0]) follows ?_;obtain⟨BE,g,hF⟩:=Rx g hF;obtain⟨qx,g,hF⟩:=Rx g hF;refine wD hF ft λiQ hF=>?_
   refine wD hF ft λnk hF=>?_
   refine wE hF gZ λfO hF=>?_
   obtain⟨g,hF⟩:=Rg g hF;refine wK [1,2,3,4,6,11,13,14,15,16,17,18,19,20,21,22,23] ?_;refine wZ (kD 0 [0,50,0,0,0,0,0,0,0,0,0,0,0,3,0,5,0]) follows ?_;have c0:= @CL;exact wL
  exact wL
 refine wZ (kD 0 [0,0,0,0,0,50,0,90,3,0,0,0,89,89,90,0,0,50,0,0,0,90,4,0,0]) follows ?_;have c0:= @zrG;have c1:= @WL;exact wL
def Di(a0:am)(a1:Int)(a2:List an)(a3:List an)(a4:cn):Option (Bool×Bool):=
 (((pR a0 a1 a2).bind λz4=>
 if(!z4)=Z then(
 J Z)else(
 (pR a0 a1 a3).bind λz6=>
 J (!z6)):Option Bool).bind λx3=>
 if x3=Z then(
 J (aa,aa))else(
 (EM a0).bind λz8=>
 if(!z8.2)=Z then(
 J (aa,aa))else(
 (BV a0 a1 z8.1 a2 a3 a4).bind λbX=>
 J (bX,Z))))
def zoA{a0 a1 a2 a3 a4 r}(hr:Di a0 a1 a2 a3 a4=J r):ap Tryz.prog 106 [(.sh,vE a0),(.sh,.int .i64 a1),(.sh,vH a2),(.sh,vH a3),(.sh,vM a4)] (Eo (.bO [.bool r.1,.bool r.2]) si):=by
 apply pE [] hr zHZ Tryz.func106;intro Φ ak hF g;unfold Di at hF;refine wW ?_;refine bT hF [1,2,3,5,9] (λx3=>[(25,.v (.bool x3))]) (λx3 hF=>?_) λ_ hj0 hF=>?_
 ·have c0:= @Y9;have c1:= @zqZ;exact wL
 have c0:= @HG;exact wL
def J9(a0:cH):Option Bool:=
 ((if((i64.wrap ((a0.cq.length:Int)+(a0.aF.length:Int)))==0)=Z then(
 (EO a0.Pi).bind λz5=>
 J z5)else(
 J aa):Option Bool).bind λx3=>
 J x3)
end
end Go.Pm
