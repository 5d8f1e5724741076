/-
  Plain functions and their walks. Written by wip/tools/lift.py.
-/
import Derived.Test.YtnojafnlicbhpaaGreatM41
open Bool renaming false→aa,true→Z
open Option renaming none→ae,some→J
set_option linter.defProp false
namespace Go.Pm
open Go.Am IntKind
open Go.Proofs
set_option maxRecDepth 100000
set_option maxHeartbeats 4000000
attribute [local irreducible] pw pwx pw1 pwg qv qz qf
attribute [-simp] List.map_set
set_option linter.unusedSimpArgs false
set_option linter.unusedVariables false
noncomputable section
def zpO{a0 a1 a2 a3 r}(hr:GG a0 a1 a2 a3=J r):ap Tryz.prog 186 [(.sh,vE a0),(.sh,vJ a1),(.sh,vC a2),(.sh,vC a3)] (Eo (vD r) kL):=by
 apply pE [] hr zEC Tryz.func186;intro Φ ak hF g;unfold GG at hF;obtain⟨g,hF⟩:=Rg g hF;obtain⟨x1,e2,hF⟩:=mg hF;have g3:List.replicate a2.length ([.int .i64 0]:List PV)=x1.map aJ:=by injection e2 with e2;rw[<-e2];simp[go_sem]
 iterate 2 (try simp[go_sem,g,g3];try intros;refine bu ?_)
 try simp[go_sem,g,g3]
 try intros
 refine wK [3,4,5,9,15,16,17] ?_;refine wJ hF (λx6=>[(9,.v (vD x6))]) (λx6 hF=>?_) λ_ hj0 hF=>?_
 ·exact wl ak hF
 refine wR hF [3,4,5,15,16] (λmB dx=>[(9,.v (vD dx)),(17,.v (.int .i64 mB))]) λb bg mB dx _ _ aO aN bp ba hF=>?_
 refine wW ?_;refine wu aO aN ?_;refine wW ?_;refine wB ?_;obtain⟨fM,g,hF⟩:=Rx g hF;refine wW ?_;refine wZ (kE [0,1,2,3,4,5,6,7,8,9,11,12,13,14,15,10,16,17,18,19] [0,0,34,34,33,34,0,0,0,0,41,42,0,0,0,4,0,6,0,0]) follows ?_;have c0:= @fm;have c1:= @hJ;exact wL
def rD(a0:Int)(a1:List an)(a2:List an)(a3:List Int):Option ((List Int)):=
 ((aS (σ:=(List Int)) (λi5 s4=>
 (ix a1 i5).bind λaU=>
 gd ((s4.length+2)*8<=140737488355328/\s4.length+2<=4611686018427387904)<|
 J (.go (s4++[aU.A,aU.B]))) (λs4=>s4) (a1.length) 0 [a0]:Option ((List Int))).bind λx3=>
 ((aS (σ:=(List Int)) (λqL eI=>
 (ix a2 qL).bind λD6=>
 gd ((eI.length+2)*8<=140737488355328/\eI.length+2<=4611686018427387904)<|
 J (.go (eI++[D6.A,D6.B]))) (λeI=>eI) (a2.length) 0 x3:Option ((List Int))).bind λll=>
 gd ((ll.length+a3.length)*8<=140737488355328/\ll.length+a3.length<=4611686018427387904)<|
 J (ll++a3)))
def F3{a0 a1 a2 a3 r}(hr:rD a0 a1 a2 a3=J r):ap Tryz.prog 198 [(.sh,.int .i64 a0),(.sh,vH a1),(.sh,vH a2),(.sh,vC a3)] (Eo (vD r) kL):=by
 apply pE [] hr zHW Tryz.func198;intro Φ ak hF g;unfold rD at hF
 iterate 3 (try simp[go_sem,g];try intros;refine bu ?_)
 refine bT hF [2,3] (λx3=>[(9,.v (vD x3))]) (λx3 hF=>?_) λ_ hj0 hF=>?_
 ·try simp[go_sem,g]
  try intros
  refine wK [3,9,30,31,32] ?_;refine wJ hF (λll=>[(3,.v (vC a3)),(9,.v (vD ll))]) (λll hF=>?_) λ_ hj0 hF=>?_
  ·exact wL
  refine wR hF [3,30,31] (λqL eI=>[(9,.v (vD eI)),(32,.v (.int .i64 qL))]) λb bg qL eI _ _ aO aN bp ba hF=>?_
  exact wL
 refine wR hF [2,3,16,17] (λi5 s4=>[(9,.v (vD s4)),(18,.v (.int .i64 i5))]) λb bg i5 s4 _ _ aO aN bp ba hF=>?_
 exact wL
def B6(a0:List Int):Option ((List Int)):=
 gd (a0.length*8<=140737488355328/\a0.length<=4611686018427387904)<|
 J a0
def NV{a0 r}(hr:B6 a0=J r):ap Tryz.prog 67 [(.sh,vC a0)] (Eo (vD r) [.au]):=by
 apply pE [] hr zNF Tryz.func67;intro Φ ak hF g;unfold B6 at hF;exact wL
def pd(a0:am)(a1:ByteArray)(a2:List Int):Option Int:=
 gd (([a0.P,a0.Q,a0.G].length+a2.length)*8<=140737488355328/\[a0.P,a0.Q,a0.G].length+a2.length<=4611686018427387904)<|
 (DJ a1 ([a0.P,a0.Q,a0.G]++a2)).bind λz1=>
 gd (a0.Q≠0)<|
 J (z1.tmod a0.Q)
def Fg{a0 a1 a2 r}(hr:pd a0 a1 a2=J r):ap Tryz.prog 197 [(.sh,vE a0),(.sh,.str a1),(.sh,vC a2)] (Eo (.int .i64 r) gx):=by
 apply pE [] hr zG9 Tryz.func197;intro Φ ak hF g;unfold pd at hF;refine wW ?_;refine wZ (kE [0,1,2,3,4,5,6,7,8,11,12,9,10,13,14] [0,25,26,25,26,25,26,0,0,25,26,5,3,0,0]) follows ?_;have c0:= @X3;exact wL
def DF(a0:am)(a1:ByteArray)(a2:List Int)(a3:Int):Option ((List Int)):=
 ((dJ (σ:=(List Int)×Int) (λs4=>
 if decide (s4.2<a3)=Z then(
 (B6 a2).bind λbX=>
 gd ((bX.length+1)*8<=140737488355328/\bX.length+1<=4611686018427387904)<|
 (pd a0 a1 (bX++[s4.2])).bind λb7=>
 gd ((s4.1.length+1)*8<=140737488355328/\s4.1.length+1<=4611686018427387904)<|
 J (.go (s4.1++[b7],i64.wrap (s4.2+1))))else(
 J (.out s4.1))) ([],0):Option ((List Int))).bind λx3=>
 J x3)
def znk{a0 a1 a2 a3 r}(hr:DF a0 a1 a2 a3=J r):ap Tryz.prog 213 [(.sh,vE a0),(.sh,.str a1),(.sh,vC a2),(.sh,.int .i64 a3)] (Eo (vD r) kL):=by
 apply pE [] hr zHJ Tryz.func213;intro Φ ak hF g;unfold DF at hF
 iterate 3 refine wW ?_
 refine wJ hF (λx3=>[(9,.v (vD x3))]) (λx3 hF=>?_) λ_ hj0 hF=>?_
 ·exact wl ak hF
 refine wB ?_;obtain⟨b12,Si,bg⟩:=hF;refine jQ Si [1,2,3,4] (λs4=>[(9,.v (vD s4.1)),(10,.v (.int .i64 s4.2))]) λs4 _ _ bp ba hF=>?_
 refine wW ?_;refine wI hF (λh9 hF=>?_) λh9 hF=>?_
 ·refine wW ?_;refine wB ?_;refine wZ (kE [0,1,2,3,5,6,4,7,8,9,10,11] [0,34,0,0,0,0,3,5,3,0,5,0]) follows ?_;have c0:= @NV;have c1:= @Fg;exact wL
 exact wL
def yI(a0:am)(a1:Int)(a2:List an)(a3:List an)(a4:List Int):Option ((List Int)):=
 (rD a1 a2 a3 a4).bind λz1=>
 (DF a0 (⟨#[109,105,120,32,99,111,108,117,109,110,115]⟩:ByteArray) z1 (a2.length:Int)).bind λz2=>
 J z2
def WO{a0 a1 a2 a3 a4 r}(hr:yI a0 a1 a2 a3 a4=J r):ap Tryz.prog 187 [(.sh,vE a0),(.sh,.int .i64 a1),(.sh,vH a2),(.sh,vH a3),(.sh,vC a4)] (Eo (vD r) rZ):=by
 apply pE [] hr zGe Tryz.func187;intro Φ ak hF g;unfold yI at hF;refine wW ?_;refine wZ (kE [0,1,2,3,4,6,7,5,8,9] [42,0,0,0,0,0,0,3,3,0]) follows ?_;have c0:= @F3;have c1:= @znk;exact wL
def Jg(a0:am)(a1:cr)(a2:List Int)(a3:List Int):Option ((List Int)):=
 ((aS (σ:=(List Int)×Int) (λi5 s4=>
 (ix a2 i5).bind λaU=>
 (ix a3 i5).bind λcY=>
 (cD a0 a0.G cY).bind λdk=>
 (cD a0 s4.2 aU).bind λeT=>
 (d8 a0 [dk,eT]).bind λfA=>
 gd ((s4.1.length+1)*8<=140737488355328/\s4.1.length+1<=4611686018427387904)<|
 J (.go (s4.1++[fA],fA))) (λs4=>s4.1) (a2.length) 0 ([],a1.H):Option ((List Int))).bind λx3=>
 J x3)
def zrA{a0 a1 a2 a3 r}(hr:Jg a0 a1 a2 a3=J r):ap Tryz.prog 188 [(.sh,vE a0),(.sh,vJ a1),(.sh,vC a2),(.sh,vC a3)] (Eo (vD r) kL):=by
 apply pE [] hr zGY Tryz.func188;intro Φ ak hF g;unfold Jg at hF
 iterate 3 (try simp[go_sem,g];try intros;refine bu ?_)
 try simp[go_sem,g]
 try intros
 refine wK [3,4,9,10,15,16,17] ?_;refine wJ hF (λx3=>[(9,.v (vD x3))]) (λx3 hF=>?_) λ_ hj0 hF=>?_
 ·exact wl ak hF
 refine wR hF [3,4,15,16] (λi5 s4=>[(9,.v (vD s4.1)),(10,.v (.int .i64 s4.2)),(17,.v (.int .i64 i5))]) λb bg i5 s4 _ _ aO aN bp ba hF=>?_
 refine wW ?_;refine wu aO aN ?_;refine wW ?_;refine wB ?_;obtain⟨aU,g,hF⟩:=Rx g hF;refine wW ?_;refine wZ (kE [0,1,2,3,4,5,6,7,9,10,11,8,12,13,14,15] [34,34,33,34,0,0,0,0,34,0,0,3,3,0,6,0]) follows ?_;have c0:= @fm;have c1:= @hJ;exact wL
def uY(a0:List an):Option (List Int×List Int):=
 ((aS (σ:=(List Int)×List Int) (λi5 s4=>
 (ix a0 i5).bind λaU=>
 gd ((s4.1.length+1)*8<=140737488355328/\s4.1.length+1<=4611686018427387904)<|
 gd ((s4.2.length+1)*8<=140737488355328/\s4.2.length+1<=4611686018427387904)<|
 J (.go (s4.1++[aU.A],s4.2++[aU.B]))) (λs4=>(s4.1,s4.2)) (a0.length) 0 ([],[]):Option ((List Int×List Int))).bind λx3=>
 J (x3.1,x3.2))
def DX{a0 r}(hr:uY a0=J r):ap Tryz.prog 189 [(.sh,vH a0)] (Eo (.bO [vD r.1,vD r.2]) [.au]):=by
 apply pE [] hr zHR Tryz.func189;intro Φ ak hF g;unfold uY at hF
 iterate 3 (try simp[go_sem,g];try intros;refine bu ?_)
 refine wJ hF (λx3=>[(4,.v (vD x3.1)),(5,.v (vD x3.2))]) (λx3 hF=>?_) λ_ hj0 hF=>?_
 ·exact wL
 refine wR hF [8,9] (λi5 s4=>[(4,.v (vD s4.1)),(5,.v (vD s4.2)),(10,.v (.int .i64 i5))]) λb bg i5 s4 _ _ aO aN bp ba hF=>?_
 exact wL
def lq(a0:am)(a1:List Int)(a2:List Int):Option Int:=
 ((aS (σ:=Int) (λi5 s4=>
 (ix a1 i5).bind λaU=>
 (ix a2 i5).bind λcY=>
 (cD a0 aU cY).bind λdk=>
 gd (a0.P≠0)<|
 J (.go ((i64.wrap (s4*dk)).tmod a0.P))) (λs4=>s4) (a1.length) 0 1:Option Int).bind λx3=>
 J x3)
def oS{a0 a1 a2 r}(hr:lq a0 a1 a2=J r):ap Tryz.prog 191 [(.sh,vE a0),(.sh,vC a1),(.sh,vC a2)] (Eo (.int .i64 r) gx):=by
 apply pE [] hr zHI Tryz.func191;intro Φ ak hF g;unfold lq at hF
 iterate 3 (try simp[go_sem,g];try intros;refine bu ?_)
 refine wJ hF (λx3=>[(7,.v (.int .i64 x3))]) (λx3 hF=>?_) λ_ hj0 hF=>?_
 ·exact wl ak hF
 refine wR hF [2,3,10,11] (λi5 s4=>[(7,.v (.int .i64 s4)),(12,.v (.int .i64 i5))]) λb bg i5 s4 _ _ aO aN bp ba hF=>?_
 refine wW ?_;refine wu aO aN ?_;refine wW ?_;refine wB ?_;obtain⟨aU,g,hF⟩:=Rx g hF;refine wK [2,3,7,8,9,10,11,12] ?_;refine wZ (kE [0,1,2,3,4,5,6,9,10,7,8,11,12] [0,26,0,0,0,0,0,25,26,3,0,0,0]) follows ?_;have c0:= @fm;exact wL
def Ar(a0:am)(a1:Int)(a2:List an)(a3:List an)(a4:cH):Option Int:=
 (rD a1 a2 a3 a4.cu).bind λz1=>
 gd ((z1.length+a4.aF.length)*8<=140737488355328/\z1.length+a4.aF.length<=4611686018427387904)<|
 gd (((z1++a4.aF).length+a4.Pi.aC.length)*8<=140737488355328/\(z1++a4.aF).length+a4.Pi.aC.length<=4611686018427387904)<|
 (pd a0 (⟨#[109,105,120,32,112,114,111,111,102]⟩:ByteArray) (z1++a4.aF++a4.Pi.aC)).bind λz2=>
 J z2
def XG{a0 a1 a2 a3 a4 r}(hr:Ar a0 a1 a2 a3 a4=J r):ap Tryz.prog 192 [(.sh,vE a0),(.sh,.int .i64 a1),(.sh,vH a2),(.sh,vH a3),(.sh,vL a4)] (Eo (.int .i64 r) rZ):=by
 apply pE [] hr zHd Tryz.func192;intro Φ ak hF g;unfold Ar at hF;refine wW ?_;refine wZ (kE [0,1,2,3,4,6,7,5,8,9] [0,0,0,73,74,73,74,3,0,0]) follows ?_;refine wE hF F3 λz1 hF=>?_
 obtain⟨g,hF⟩:=Rg g hF;refine wK [5,9,11] ?_;refine wZ (kD 0 [42,0,73,73,74,0,3,0]) follows ?_;have c0:= @Fg;exact wL
def FK(a0:List Int)(a1:Int):Option Int:=
 ((aS (σ:=Int) (λi5 s4=>
 (ix a0 i5).bind λaU=>
 gd (a1≠0)<|
 J (.go ((i64.wrap (s4+aU)).tmod a1))) (λs4=>s4) (a0.length) 0 0:Option Int).bind λx3=>
 J x3)
def zuL{a0 a1 r}(hr:FK a0 a1=J r):ap Tryz.prog 193 [(.sh,vC a0),(.sh,.int .i64 a1)] (Eo (.int .i64 r) cI):=by
 apply pE [] hr zE5 Tryz.func193;intro Φ ak hF g;unfold FK at hF
 iterate 3 (try simp[go_sem,g];try intros;refine bu ?_)
 refine wJ hF (λx3=>[(5,.v (.int .i64 x3))]) (λx3 hF=>?_) λ_ hj0 hF=>?_
 ·exact wl ak hF
 refine wR hF [1,8,9] (λi5 s4=>[(5,.v (.int .i64 s4)),(10,.v (.int .i64 i5))]) λb bg i5 s4 _ _ aO aN bp ba hF=>?_
 exact wL
def vl(a0:List Int)(a1:List Int)(a2:Int):Option Int:=
 ((aS (σ:=Int) (λi5 s4=>
 (ix a0 i5).bind λaU=>
 (ix a1 i5).bind λcY=>
 gd (a2≠0)<|
 J (.go ((i64.wrap (s4+(i64.wrap (aU*cY)))).tmod a2))) (λs4=>s4) (a0.length) 0 0:Option Int).bind λx3=>
 J x3)
def Pa{a0 a1 a2 r}(hr:vl a0 a1 a2=J r):ap Tryz.prog 194 [(.sh,vC a0),(.sh,vC a1),(.sh,.int .i64 a2)] (Eo (.int .i64 r) gx):=by
 apply pE [] hr zF4 Tryz.func194;intro Φ ak hF g;unfold vl at hF
 iterate 3 (try simp[go_sem,g];try intros;refine bu ?_)
 refine wJ hF (λx3=>[(7,.v (.int .i64 x3))]) (λx3 hF=>?_) λ_ hj0 hF=>?_
 ·exact wl ak hF
 refine wR hF [1,2,10,11] (λi5 s4=>[(7,.v (.int .i64 s4)),(12,.v (.int .i64 i5))]) λb bg i5 s4 _ _ aO aN bp ba hF=>?_
 exact wL
def EU(a0:am)(a1:Int)(a2:cr)(a3:List an)(a4:List Int)(a5:List Int)(a6:List Int):Option cH:=
 (Cw a0 a1 a3 a4 a5).bind λz1=>
 gd (0<=(a3.length:Int))<|
 gd (0<=a3.length/\a3.length<=a6.length)<|
 gd (0<=(a3.length:Int))<|
 gd (0<=(i64.wrap (2*(a3.length:Int))))<|
 gd (a3.length<=(i64.wrap (2*(a3.length:Int))).toNat/\(i64.wrap (2*(a3.length:Int))).toNat<=a6.length)<|
 (ix a6 (i64.wrap (2*(a3.length:Int)))).bind λx2=>
 (ix a6 (i64.wrap ((i64.wrap (2*(a3.length:Int)))+1))).bind λx3=>
 (ix a6 (i64.wrap ((i64.wrap (2*(a3.length:Int)))+2))).bind λx4=>
 (ix a6 (i64.wrap ((i64.wrap (2*(a3.length:Int)))+3))).bind λx5=>
 gd (0<=(i64.wrap ((i64.wrap (2*(a3.length:Int)))+4)))<|
 gd (0<=(i64.wrap ((i64.wrap (3*(a3.length:Int)))+4)))<|
 gd ((i64.wrap ((i64.wrap (2*(a3.length:Int)))+4)).toNat<=(i64.wrap ((i64.wrap (3*(a3.length:Int)))+4)).toNat/\(i64.wrap ((i64.wrap (3*(a3.length:Int)))+4)).toNat<=a6.length)<|
 gd (0<=(i64.wrap ((i64.wrap (3*(a3.length:Int)))+4)))<|
 gd ((i64.wrap ((i64.wrap (3*(a3.length:Int)))+4)).toNat<=a6.length/\a6.length<=a6.length)<|
 (GG a0 a2 a4 ((a6.take a3.length).drop 0)).bind λz6=>
 (yI a0 a1 a3 z1 z6).bind λz7=>
 ((aS (σ:=(List Int)×Int) (λAv cJ=>
 (ix a4 Av).bind λll=>
 (ix z7 ll).bind λog=>
 gd ((cJ.1.length+1)*8<=140737488355328/\cJ.1.length+1<=4611686018427387904)<|
 (ix ((a6.take ((i64.wrap (2*(a3.length:Int))).toNat)).drop a3.length) Av).bind λfI=>
 gd (a0.Q≠0)<|
 J (.go (cJ.1++[og],(i64.wrap (fI+(i64.wrap (og*cJ.2)))).tmod a0.Q))) (λcJ=>(cJ.1,cJ.2)) (a4.length) 0 ([],0):Option ((List Int×Int))).bind λer=>
 (Jg a0 a2 er.1 ((a6.take ((i64.wrap (2*(a3.length:Int))).toNat)).drop a3.length)).bind λtr=>
 (uY z1).bind λiT=>
 (cD a0 a0.G x2).bind λnm=>
 (cD a0 a0.G x3).bind λfP=>
 (lq a0 a2.Hs ((a6.take a6.length).drop ((i64.wrap ((i64.wrap (3*(a3.length:Int)))+4)).toNat))).bind λnO=>
 (d8 a0 [fP,nO]).bind λeY=>
 (cD a0 a0.G x4).bind λgp=>
 (cD a0 a0.G (i64.wrap (0-x5))).bind λJx=>
 (lq a0 iT.1 ((a6.take a6.length).drop ((i64.wrap ((i64.wrap (3*(a3.length:Int)))+4)).toNat))).bind λiC=>
 (d8 a0 [Jx,iC]).bind λnI=>
 (cD a0 a1 (i64.wrap (0-x5))).bind λgZ=>
 (lq a0 iT.2 ((a6.take a6.length).drop ((i64.wrap ((i64.wrap (3*(a3.length:Int)))+4)).toNat))).bind λu9=>
 (d8 a0 [gZ,u9]).bind λzo=>
 ((aS (σ:=(List Int)×List Int×List Int×List Int×List Int×Int) (λuh eK=>
 (ix ((a6.take ((i64.wrap ((i64.wrap (3*(a3.length:Int)))+4)).toNat)).drop ((i64.wrap ((i64.wrap (2*(a3.length:Int)))+4)).toNat)) uh).bind λNc=>
 (ix ((a6.take a6.length).drop ((i64.wrap ((i64.wrap (3*(a3.length:Int)))+4)).toNat)) uh).bind λqX=>
 (cD a0 a0.G Nc).bind λCf=>
 (cD a0 eK.2.2.2.2.2 qX).bind λBh=>
 (d8 a0 [Cf,Bh]).bind λHk=>
 gd ((eK.2.2.1.length+1)*8<=140737488355328/\eK.2.2.1.length+1<=4611686018427387904)<|
 (ix eK.2.1 uh).bind λqO=>
 J (.go (eK.1,eK.2.1,eK.2.2.1++[Hk],eK.2.2.2.1,eK.2.2.2.2.1,qO))) (λeK=>(eK.1,eK.2.1,eK.2.2.1,eK.2.2.2.1,eK.2.2.2.2.1)) (a3.length) 0 (z6,tr,[nm,eY,gp,nI,zo],[],[],a2.H):Option ((List Int×List Int×List Int×List Int×List Int))).bind λky=>
 (Ar a0 a1 a3 z1 (cH.mk ky.1 ky.2.1 (bZ.mk ky.2.2.1 ky.2.2.2.1 ky.2.2.2.2))).bind λv7=>
 gd (a0.Q≠0)<|
 (FK ((a6.take a3.length).drop 0) a0.Q).bind λoH=>
 gd (a0.Q≠0)<|
 (vl ((a6.take a3.length).drop 0) z7 a0.Q).bind λrJ=>
 gd (a0.Q≠0)<|
 (vl a5 er.1 a0.Q).bind λyl=>
 gd (a0.Q≠0)<|
 ((aS (σ:=(List Int)×List Int×List Int×List Int×List Int) (λAy fu=>
 (ix ((a6.take ((i64.wrap ((i64.wrap (3*(a3.length:Int)))+4)).toNat)).drop ((i64.wrap ((i64.wrap (2*(a3.length:Int)))+4)).toNat)) Ay).bind λxv=>
 (ix ((a6.take ((i64.wrap (2*(a3.length:Int))).toNat)).drop a3.length) Ay).bind λxe=>
 gd (a0.Q≠0)<|
 gd ((fu.2.2.2.2.length+1)*8<=140737488355328/\fu.2.2.2.2.length+1<=4611686018427387904)<|
 J (.go (fu.1,fu.2.1,fu.2.2.1,fu.2.2.2.1,fu.2.2.2.2++[(i64.wrap (xv+(i64.wrap (v7*xe)))).tmod a0.Q]))) (λfu=>(fu.1,fu.2.1,fu.2.2.1,fu.2.2.2.1,fu.2.2.2.2)) (a3.length) 0 (ky.1,ky.2.1,ky.2.2.1,[v7],[(i64.wrap (x2+(i64.wrap (v7*oH)))).tmod a0.Q,(i64.wrap (x3+(i64.wrap (v7*rJ)))).tmod a0.Q,(i64.wrap (x4+(i64.wrap (v7*er.2)))).tmod a0.Q,(i64.wrap (x5+(i64.wrap (v7*yl)))).tmod a0.Q]):Option ((List Int×List Int×List Int×List Int×List Int))).bind λkc=>
 ((aS (σ:=(List Int)×List Int×List Int×List Int×List Int) (λJH kr=>
 (ix ((a6.take a6.length).drop ((i64.wrap ((i64.wrap (3*(a3.length:Int)))+4)).toNat)) JH).bind λlZ=>
 (ix er.1 JH).bind λa1e=>
 gd (a0.Q≠0)<|
 gd ((kr.2.2.2.2.length+1)*8<=140737488355328/\kr.2.2.2.2.length+1<=4611686018427387904)<|
 J (.go (kr.1,kr.2.1,kr.2.2.1,kr.2.2.2.1,kr.2.2.2.2++[(i64.wrap (lZ+(i64.wrap (v7*a1e)))).tmod a0.Q]))) (λkr=>(kr.1,kr.2.1,kr.2.2.1,kr.2.2.2.1,kr.2.2.2.2)) (a3.length) 0 (kc.1,kc.2.1,kc.2.2.1,kc.2.2.2.1,kc.2.2.2.2):Option ((List Int×List Int×List Int×List Int×List Int))).bind λrA=>
 J (cH.mk rA.1 rA.2.1 (bZ.mk rA.2.2.1 rA.2.2.2.1 rA.2.2.2.2))))))
set_option maxHeartbeats 16000000 in
def zrO{a0 a1 a2 a3 a4 a5 a6 r}(hr:EU a0 a1 a2 a3 a4 a5 a6=J r):ap Tryz.prog 150 [(.sh,vE a0),(.sh,.int .i64 a1),(.sh,vJ a2),(.sh,vH a3),(.sh,vC a4),(.sh,vC a5),(.sh,vC a6)] (Eo (vP r) Nj):=by
 apply pE [] hr zGL Tryz.func150;intro Φ ak hF g;unfold EU at hF
 iterate 2 (try simp[go_sem,g];try intros;refine bu ?_)
 try simp[go_sem,g]
 try intros
 refine wE hF Pb λz1 hF=>?_
 refine wK [1,3,4,5,6,7,9,14,15,16] ?_;refine wZ (kD 0 [0,0,0,0,0,0,0,0,0,0]) follows ?_
 iterate 5 obtain⟨g,hF⟩:=Rg g hF
 refine wK [1,3,4,5,6,7,9,14,15,16,17,18] ?_;refine wZ (kD 0 [0,0,0,0,0,0,0,0,0,0,0,0,0,0,0,0,0,0,0,0,0,0,0,0,0,0,0]) follows ?_;obtain⟨x2,g,hF⟩:=Rx g hF;obtain⟨x3,g,hF⟩:=Rx g hF;obtain⟨x4,g,hF⟩:=Rx g hF;obtain⟨x5,g,hF⟩:=Rx g hF;refine wK [1,3,4,5,6,7,9,14,15,16,17,18,19,20,21,22] ?_;refine wZ (kD 0 [0,0,0,0,0,0,0,0,0,0,0,0,0,0,0]) follows ?_
 iterate 5 obtain⟨g,hF⟩:=Rg g hF
 refine wK [1,3,4,5,7,9,14,16,17,18,19,20,21,22,23,24] ?_;refine wE hF zpO λz6 hF=>?_
 refine wW ?_;refine wE hF WO λz7 hF=>?_
 refine wK [1,3,4,5,7,9,14,16,17,18,19,20,21,22,23,24,25,26] ?_
 iterate 3 (try simp[go_sem,g];try intros;refine bu ?_)
 refine bT hF [1,3,5,7,9,14,16,17,18,19,20,21,22,23,24,25,26] (λer=>[(27,.v (vD er.1)),(28,.v (.int .i64 er.2))]) (λer hF=>?_) λ_ hj0 hF=>?_
 ·refine wE hF zrA λtr hF=>?_
  refine wK [1,3,5,7,9,14,16,17,18,19,20,21,22,23,24,25,26,27,28] ?_;refine wE hF DX λiT hF=>?_
  refine wW ?_;refine wZ [k2 0 7,k1 1 7,k2 2 7,k0 3,k2 5 7,k2 6 7,k1 7 7,k2 8 7,k0 9,k2 11 7,k1 12 9,k2 13 9,k0 14,k2 18 7,k1 19 7,k2 20 7,k0 21,k2 23 7,k2 24 7,k1 25 7,k2 26 7,k0 27,k0 28,k2 30 7,k0 31,k0 32,k2 36 7,k2 37 7,k0 38,k0 39,k0 40,k2 42 7,k0 43,k0 44,k3 4,k3 10,k3 15,k0 16,λ_=>⟨17,[148,159],[],ae,Z,Z,Z⟩,k3 22,k3 29,k3 33,k0 34,λ_=>⟨35,[166,177],[],ae,Z,Z,Z⟩,k3 41,k3 45,k0 46,λ_=>⟨47,[179,189],[],ae,Z,Z,Z⟩,k0 48,k1 49 25,k1 50 25,λ_=>⟨51,[193,191],[25],J 193,Z,Z,Z⟩] follows ?_;refine wE hF fm λnm hF=>?_
  refine wE hF fm λfP hF=>?_
  refine wE hF oS λnO hF=>?_
  refine wE hF hJ λeY hF=>?_
  refine wE hF fm λgp hF=>?_
  refine wE hF fm λJx hF=>?_
  refine wE hF oS λiC hF=>?_
  refine wE hF hJ λnI hF=>?_
  refine wE hF fm λgZ hF=>?_
  refine wE hF oS λu9 hF=>?_
  refine wE hF hJ λzo hF=>?_
  refine wK [1,3,5,7,9,14,16,17,18,19,20,21,22,23,24,25,26,27,28] ?_
  iterate 2 (try simp[go_sem,g];try intros;refine bu ?_)
  refine bT hF [1,3,5,7,14,16,17,18,19,20,21,22,23,24,26,27,28] (λky=>[(25,.bl [vD ky.1,vD ky.2.1,vD ky.2.2.1,vD ky.2.2.2.1,vD ky.2.2.2.2])]) (λky hF=>?_) λ_ hj0 hF=>?_
  ·refine wE hF XG λv7 hF=>?_
   refine wK [3,5,7,14,17,18,19,20,21,22,23,24,25,26,27,28,35] ?_;refine wW ?_;refine wZ [k0 0,k0 1,k0 2,k1 3 7,k2 4 7,k1 8 7,k2 9 7,k0 11,k0 12,k0 13,k0 14,k1 15 7,k2 16 7,k1 20 7,k2 21 7,k0 23,k0 24,k0 25,k0 26,k0 27,k1 28 7,k2 29 7,k0 30,k0 31,k0 32,k0 33,k0 34,k1 35 7,k2 36 7,k1 40 7,k2 41 7,k3 5,k0 6,k0 7,k0 10,k3 17,k0 18,k0 19,k0 22,k3 37,k0 38,k0 39,k0 42,k0 43,k1 44 25,k1 45 25,λ_=>⟨46,[287,285],[25],J 287,Z,Z,Z⟩] follows ?_;obtain⟨g,hF⟩:=Rz g hF;refine wE hF zuL λoH hF=>?_
   obtain⟨g,hF⟩:=Rz g hF;refine wE hF Pa λrJ hF=>?_
   obtain⟨g,hF⟩:=Rz g hF;refine wE hF Pa λyl hF=>?_
   obtain⟨g,hF⟩:=Rz g hF;refine wK [3,7,14,18,23,24,25,27,35] ?_;try simp[go_sem,g]
   try intros
   refine bu ?_;refine bT hF [3,7,14,24,27,35] (λkc=>[(25,.bl [vD kc.1,vD kc.2.1,vD kc.2.2.1,vD kc.2.2.2.1,vD kc.2.2.2.2])]) (λkc hF=>?_) λ_ hj0 hF=>?_
   ·try simp[go_sem,g]
    try intros
    refine bu ?_;refine wJ hF (λrA=>[(14,.bl [.sl Z 1 [],.sl Z 1 [],.sl Z 1 [],.sl Z 1 [],.sl Z 1 []]),(25,.bl [vD rA.1,vD rA.2.1,vD rA.2.2.1,vD rA.2.2.2.1,vD rA.2.2.2.2])]) (λrA hF=>?_) λ_ hj0 hF=>?_
    ·exact wl ak hF
    refine wR hF [7,14,24,27,35,316] (λJH kr=>[(25,.bl [vD kr.1,vD kr.2.1,vD kr.2.2.1,vD kr.2.2.2.1,vD kr.2.2.2.2]),(317,.v (.int .i64 JH))]) λb bg JH kr _ _ aO aN bp ba hF=>?_
    refine wW ?_;refine wu aO aN ?_;refine wW ?_;refine wB ?_;refine wW ?_;refine wZ (kD 0 [201,201,202,0,0,0,0,0,0,0,0,0,0,0,57,58,0,0,5,201,201,202]) follows ?_;obtain⟨lZ,g,hF⟩:=iy g hF;exact wL
   refine wR hF [3,7,14,18,23,24,27,35,289] (λAy fu=>[(25,.bl [vD fu.1,vD fu.2.1,vD fu.2.2.1,vD fu.2.2.2.1,vD fu.2.2.2.2]),(290,.v (.int .i64 Ay))]) λb bg Ay fu _ _ aO aN bp ba hF=>?_
   refine wW ?_;refine wu aO aN ?_;refine wW ?_;refine wB ?_;refine wW ?_;refine wZ (kD 0 [201,201,202,0,0,0,0,0,0,0,0,0,0,0,57,58,0,0,5,201,201,202]) follows ?_;obtain⟨xv,g,hF⟩:=iy g hF;obtain⟨xe,g,hF⟩:=iy g hF;exact wL
  refine wR hF [1,3,5,7,14,16,17,18,19,20,21,22,23,24,26,27,28,197] (λuh eK=>[(25,.bl [vD eK.1,vD eK.2.1,vD eK.2.2.1,vD eK.2.2.2.1,vD eK.2.2.2.2.1]),(33,.v (.int .i64 eK.2.2.2.2.2)),(198,.v (.int .i64 uh))]) λb bg uh eK _ _ aO aN bp ba hF=>?_
  refine wW ?_;refine wu aO aN ?_;refine wW ?_;refine wB ?_;refine wW ?_;refine wZ (kE [0,1,2,3,4,5,6,7,8,9,10,12,13,14,15,16,17,11,18,19,20,21,22,23,24,25] [201,201,202,58,58,57,58,0,0,0,0,58,0,0,0,0,0,4,3,0,6,0,5,201,201,202]) follows ?_;obtain⟨Nc,g,hF⟩:=iy g hF;obtain⟨qX,g,hF⟩:=iy g hF;have c0:= @fm;have c1:= @hJ;exact wL
 refine wR hF [1,3,5,7,9,14,16,17,18,19,20,21,22,23,24,25,26,103,104] (λAv cJ=>[(27,.v (vD cJ.1)),(28,.v (.int .i64 cJ.2)),(105,.v (.int .i64 Av))]) λb bg Av cJ _ _ aO aN bp ba hF=>?_
 refine wW ?_;refine wu aO aN ?_;refine wW ?_;refine wB ?_;obtain⟨ll,g,hF⟩:=Rx g hF;refine wK [1,3,5,7,9,14,16,17,18,19,20,21,22,23,24,25,26,27,28,29,30,103,104,105] ?_;obtain⟨og,g,hF⟩:=Rx g hF;obtain⟨g,hF⟩:=Rg g hF;refine wW ?_;refine wZ (kD 0 [0,0,0,0,0,0,0,0,0,0,0,57,58,0,0]) follows ?_;obtain⟨fI,g,hF⟩:=iy g hF;exact wL
def uO(a0:am)(a1:Int)(a2:List an)(a3:List Int)(a4:List Int)(a5:List Int):Option (cH×Bool):=
 (((p7 a0 a1 a2).bind λz4=>
 if(!z4)=Z then(
 J Z)else(
 (Ey a3 (a2.length:Int)).bind λz6=>
 if(!z6)=Z then(
 J Z)else(
 if((a4.length:Int) !=(a2.length:Int))=Z then(
 J Z)else(
 (rI a0 a4).bind λz9=>
 if(!z9)=Z then(
 J Z)else(
 if((a5.length:Int) !=(i64.wrap ((i64.wrap (4*(a2.length:Int)))+4)))=Z then(
 J Z)else(
 (rI a0 a5).bind λbH=>
 J (!bH)))))):Option Bool).bind λx3=>
 if x3=Z then(
 J ((cH.mk [] [] (bZ.mk [] [] [])),aa))else(
 (sB a0 (a2.length:Int)).bind λeT=>
 if(!eT.2)=Z then(
 J ((cH.mk [] [] (bZ.mk [] [] [])),aa))else(
 (EU a0 a1 eT.1 a2 a3 a4 a5).bind λlI=>
 J (lI,Z))))
def zni{a0 a1 a2 a3 a4 a5 r}(hr:uO a0 a1 a2 a3 a4 a5=J r):ap Tryz.prog 87 [(.sh,vE a0),(.sh,.int .i64 a1),(.sh,vH a2),(.sh,vC a3),(.sh,vC a4),(.sh,vC a5)] (Eo (.bO [vP r.1,.bool r.2]) rn):=by
 apply pE [] hr zKg Tryz.func87;intro Φ ak hF g;unfold uO at hF
 iterate 2 (try simp[go_sem,g];try intros;refine bu ?_)
 refine bT hF [1,2,3,4,5,6,12,14] (λx3=>[(55,.v (.bool x3))]) (λx3 hF=>?_) λ_ hj0 hF=>?_
 ·have c0:= @Lh;have c1:= @zrO;exact wL
 have c0:= @IF;have c1:= @zn0;have c2:= @HY;exact wL
def DA(a0:am):Option (Int×Bool):=
 (sB a0 0).bind λz1=>
 J (z1.1.H,z1.2)
def XA{a0 r}(hr:DA a0=J r):ap Tryz.prog 151 [(.sh,vE a0)] (Eo (.bO [.int .i64 r.1,.bool r.2]) [.au]):=by
 apply pE [] hr zFM Tryz.func151;intro Φ ak hF g;unfold DA at hF;have c0:= @Lh;exact wL
def nD(a0:am)(a1:Int)(a2:Int)(a3:Int):Option Int:=
 (cD a0 a0.G a2).bind λz1=>
 (cD a0 a1 a3).bind λz2=>
 (d8 a0 [z1,z2]).bind λz3=>
 J z3
def Bw{a0 a1 a2 a3 r}(hr:nD a0 a1 a2 a3=J r):ap Tryz.prog 199 [(.sh,vE a0),(.sh,.int .i64 a1),(.sh,.int .i64 a2),(.sh,.int .i64 a3)] (Eo (.int .i64 r) kL):=by
 apply pE [] hr zFO Tryz.func199;intro Φ ak hF g;unfold nD at hF;refine wW ?_;refine wZ (kE [0,1,2,3,4,6,7,8,5,9,10,11,12] [34,34,33,34,0,34,0,0,3,3,0,6,0]) follows ?_;have c0:= @fm;have c1:= @hJ;exact wL
def Jn(a0:am)(a1:Int)(a2:List Int)(a3:List Int):Option ((List Int)):=
 ((aS (σ:=(List Int)) (λi5 s4=>
 (ix a2 i5).bind λaU=>
 (ix a3 i5).bind λcY=>
 (nD a0 a1 (i64.wrap (aU+1)) cY).bind λdk=>
 gd ((s4.length+1)*8<=140737488355328/\s4.length+1<=4611686018427387904)<|
 J (.go (s4++[dk]))) (λs4=>s4) (a2.length) 0 []:Option ((List Int))).bind λx3=>
 J x3)
def zqH{a0 a1 a2 a3 r}(hr:Jn a0 a1 a2 a3=J r):ap Tryz.prog 195 [(.sh,vE a0),(.sh,.int .i64 a1),(.sh,vC a2),(.sh,vC a3)] (Eo (vD r) kL):=by
 apply pE [] hr zEy Tryz.func195;intro Φ ak hF g;unfold Jn at hF
 iterate 3 (try simp[go_sem,g];try intros;refine bu ?_)
 refine wJ hF (λx3=>[(9,.v (vD x3))]) (λx3 hF=>?_) λ_ hj0 hF=>?_
 ·exact wl ak hF
 refine wR hF [1,3,4,12,13] (λi5 s4=>[(9,.v (vD s4)),(14,.v (.int .i64 i5))]) λb bg i5 s4 _ _ aO aN bp ba hF=>?_
 refine wW ?_;refine wu aO aN ?_;refine wW ?_;refine wB ?_;obtain⟨aU,g,hF⟩:=Rx g hF;refine wK [1,3,4,9,10,11,12,13,14] ?_;refine wZ (kD 0 [0,34,0,0,0,0,0,0,0,3,0,5,0]) follows ?_;have c0:= @Bw;exact wL
def G9(a0:am)(a1:List Int)(a2:Int):Option ((List Int)):=
 ((aS (σ:=(List Int)) (λi5 s4=>
 (ix a1 i5).bind λaU=>
 (k9 a2 (i64.wrap (aU+1)) a0.Q).bind λbH=>
 gd ((s4.length+1)*8<=140737488355328/\s4.length+1<=4611686018427387904)<|
 J (.go (s4++[bH]))) (λs4=>s4) (a1.length) 0 []:Option ((List Int))).bind λx3=>
 J x3)
def zqs{a0 a1 a2 r}(hr:G9 a0 a1 a2=J r):ap Tryz.prog 196 [(.sh,vE a0),(.sh,vC a1),(.sh,.int .i64 a2)] (Eo (vD r) gx):=by
 apply pE [] hr zEU Tryz.func196;intro Φ ak hF g;unfold G9 at hF
 iterate 3 (try simp[go_sem,g];try intros;refine bu ?_)
 refine wJ hF (λx3=>[(7,.v (vD x3))]) (λx3 hF=>?_) λ_ hj0 hF=>?_
 ·exact wl ak hF
 refine wR hF [2,3,10,11] (λi5 s4=>[(7,.v (vD s4)),(12,.v (.int .i64 i5))]) λb bg i5 s4 _ _ aO aN bp ba hF=>?_
 have c0:= @xU;exact wL
def Ak(a0:am)(a1:Int)(a2:List an)(a3:List an)(a4:List Int)(a5:List Int):Option (Int×Int):=
 (rD a1 a2 a3 a4).bind λz1=>
 gd ((z1.length+a5.length)*8<=140737488355328/\z1.length+a5.length<=4611686018427387904)<|
 (pd a0 (⟨#[109,105,120,32,121]⟩:ByteArray) (z1++a5)).bind λz2=>
 (pd a0 (⟨#[109,105,120,32,122]⟩:ByteArray) (z1++a5)).bind λz3=>
 J (z2,z3)
def zl3{a0 a1 a2 a3 a4 a5 r}(hr:Ak a0 a1 a2 a3 a4 a5=J r):ap Tryz.prog 200 [(.sh,vE a0),(.sh,.int .i64 a1),(.sh,vH a2),(.sh,vH a3),(.sh,vC a4),(.sh,vC a5)] (Eo (.bO [.int .i64 r.1,.int .i64 r.2]) rn):=by
 apply pE [] hr zGu Tryz.func200;intro Φ ak hF g;unfold Ak at hF;refine wW ?_;refine wE hF F3 λz1 hF=>?_
 obtain⟨g,hF⟩:=Rg g hF;refine wK [6,14] ?_;refine wZ (kE [0,1,3,4,2,5,6,7] [50,0,50,0,3,3,0,0]) follows ?_;have c0:= @Fg;exact wL
def yO(a0:am)(a1:Int)(a2:List an)(a3:List an)(a4:ck):Option Int:=
 (rD a1 a2 a3 a4.bQ).bind λz1=>
 gd ((z1.length+a4.bL.length)*8<=140737488355328/\z1.length+a4.bL.length<=4611686018427387904)<|
 gd (((z1++a4.bL).length+a4.aF.length)*8<=140737488355328/\(z1++a4.bL).length+a4.aF.length<=4611686018427387904)<|
 gd (((z1++a4.bL++a4.aF).length+a4.Pi.aC.length)*8<=140737488355328/\(z1++a4.bL++a4.aF).length+a4.Pi.aC.length<=4611686018427387904)<|
 (pd a0 (⟨#[109,105,120,32,101,110,100]⟩:ByteArray) (z1++a4.bL++a4.aF++a4.Pi.aC)).bind λz2=>
 J z2
def WT{a0 a1 a2 a3 a4 r}(hr:yO a0 a1 a2 a3 a4=J r):ap Tryz.prog 201 [(.sh,vE a0),(.sh,.int .i64 a1),(.sh,vH a2),(.sh,vH a3),(.sh,vM a4)] (Eo (.int .i64 r) rZ):=by
 apply pE [] hr zFs Tryz.func201;intro Φ ak hF g;unfold yO at hF;refine wW ?_;refine wZ (kE [0,1,2,3,4,6,7,5,8,9] [0,0,0,73,74,73,74,3,0,0]) follows ?_;refine wE hF F3 λz1 hF=>?_
 obtain⟨g,hF⟩:=Rg g hF;refine wK [5,9,11] ?_;refine wZ (kE [0,1,2,4,5,6,3,7,8] [0,73,74,73,73,74,0,0,0]) follows ?_;have c0:= @Fg;exact wL
def Eu(a0:am)(a1:Int)(a2:Int)(a3:List an)(a4:List Int)(a5:List Int)(a6:List Int):Option ck:=
 (Cw a0 a1 a3 a4 a5).bind λz1=>
 gd (0<=(a3.length:Int))<|
 gd (0<=a3.length/\a3.length<=a6.length)<|
 gd (0<=(a3.length:Int))<|
 gd (0<=(i64.wrap (2*(a3.length:Int))))<|
 gd (a3.length<=(i64.wrap (2*(a3.length:Int))).toNat/\(i64.wrap (2*(a3.length:Int))).toNat<=a6.length)<|
 gd (0<=(i64.wrap (2*(a3.length:Int))))<|
 gd (0<=(i64.wrap (3*(a3.length:Int))))<|
 gd ((i64.wrap (2*(a3.length:Int))).toNat<=(i64.wrap (3*(a3.length:Int))).toNat/\(i64.wrap (3*(a3.length:Int))).toNat<=a6.length)<|
 gd (0<=(i64.wrap (3*(a3.length:Int))))<|
 gd (0<=(i64.wrap (4*(a3.length:Int))))<|
 gd ((i64.wrap (3*(a3.length:Int))).toNat<=(i64.wrap (4*(a3.length:Int))).toNat/\(i64.wrap (4*(a3.length:Int))).toNat<=a6.length)<|
 gd (0<=(i64.wrap (4*(a3.length:Int))))<|
 gd (0<=(i64.wrap (5*(a3.length:Int))))<|
 gd ((i64.wrap (4*(a3.length:Int))).toNat<=(i64.wrap (5*(a3.length:Int))).toNat/\(i64.wrap (5*(a3.length:Int))).toNat<=a6.length)<|
 gd (0<=(i64.wrap (5*(a3.length:Int))))<|
 gd (0<=(i64.wrap (6*(a3.length:Int))))<|
 gd ((i64.wrap (5*(a3.length:Int))).toNat<=(i64.wrap (6*(a3.length:Int))).toNat/\(i64.wrap (6*(a3.length:Int))).toNat<=a6.length)<|
 (ix a6 (i64.wrap (6*(a3.length:Int)))).bind λx2=>
 gd (0<=(i64.wrap ((i64.wrap (6*(a3.length:Int)))+1)))<|
 gd (0<=(i64.wrap ((i64.wrap (7*(a3.length:Int)))+1)))<|
 gd ((i64.wrap ((i64.wrap (6*(a3.length:Int)))+1)).toNat<=(i64.wrap ((i64.wrap (7*(a3.length:Int)))+1)).toNat/\(i64.wrap ((i64.wrap (7*(a3.length:Int)))+1)).toNat<=a6.length)<|
 gd (0<=(i64.wrap ((i64.wrap (7*(a3.length:Int)))+1)))<|
 gd (0<=(i64.wrap ((i64.wrap (8*(a3.length:Int)))+1)))<|
 gd ((i64.wrap ((i64.wrap (7*(a3.length:Int)))+1)).toNat<=(i64.wrap ((i64.wrap (8*(a3.length:Int)))+1)).toNat/\(i64.wrap ((i64.wrap (8*(a3.length:Int)))+1)).toNat<=a6.length)<|
 (ix a6 (i64.wrap ((i64.wrap (8*(a3.length:Int)))+1))).bind λx3=>
 (Jn a0 a2 a4 ((a6.take a3.length).drop 0)).bind λz4=>
 (rD a1 a3 z1 z4).bind λz5=>
 (pd a0 (⟨#[109,105,120,32,120]⟩:ByteArray) z5).bind λz6=>
 (G9 a0 a4 z6).bind λz7=>
 ((aS (σ:=(List Int)×List Int×List Int×List Int×List Int×List Int) (λfL bW=>
 (ix z7 fL).bind λig=>
 (ix ((a6.take ((i64.wrap (2*(a3.length:Int))).toNat)).drop a3.length) fL).bind λj6=>
 (nD a0 a2 ig j6).bind λeY=>
 gd ((bW.2.1.length+1)*8<=140737488355328/\bW.2.1.length+1<=4611686018427387904)<|
 J (.go (bW.1,bW.2.1++[eY],bW.2.2.1,bW.2.2.2.1,bW.2.2.2.2.1,bW.2.2.2.2.2))) (λbW=>(bW.1,bW.2.1,bW.2.2.1,bW.2.2.2.1,bW.2.2.2.2.1,bW.2.2.2.2.2)) (z7.length) 0 (z4,[],[],[],[],[]):Option ((List Int×List Int×List Int×List Int×List Int×List Int))).bind λer=>
 (Ak a0 a1 a3 z1 er.1 er.2.1).bind λgZ=>
 ((aS (σ:=(List Int)×List Int×List Int×List Int×List Int×List Int×List Int×List Int×Int×Int) (λvk cz=>
 (ix a4 vk).bind λn8=>
 gd (a0.Q≠0)<|
 (ix z7 vk).bind λLN=>
 (qr (i64.wrap ((i64.wrap ((i64.wrap (gZ.1*((i64.wrap (n8+1)).tmod a0.Q)))+LN))-gZ.2)) a0.Q).bind λse=>
 gd ((cz.2.2.2.2.2.2.1.length+1)*8<=140737488355328/\cz.2.2.2.2.2.2.1.length+1<=4611686018427387904)<|
 gd (a0.Q≠0)<|
 (ix ((a6.take ((i64.wrap (3*(a3.length:Int))).toNat)).drop ((i64.wrap (2*(a3.length:Int))).toNat)) vk).bind λqX=>
 (nD a0 a2 ((i64.wrap (cz.2.2.2.2.2.2.2.2.1*se)).tmod a0.Q) qX).bind λCf=>
 gd ((cz.2.2.1.length+1)*8<=140737488355328/\cz.2.2.1.length+1<=4611686018427387904)<|
 (qr (i64.wrap (qX-(i64.wrap (cz.2.2.2.2.2.2.2.2.2*se)))) a0.Q).bind λBh=>
 gd ((cz.2.2.2.2.2.2.2.1.length+1)*8<=140737488355328/\cz.2.2.2.2.2.2.2.1.length+1<=4611686018427387904)<|
 J (.go (cz.1,cz.2.1,cz.2.2.1++[Cf],cz.2.2.2.1,cz.2.2.2.2.1,cz.2.2.2.2.2.1,cz.2.2.2.2.2.2.1++[se],cz.2.2.2.2.2.2.2.1++[Bh],(i64.wrap (cz.2.2.2.2.2.2.2.2.1*se)).tmod a0.Q,qX))) (λcz=>(cz.1,cz.2.1,cz.2.2.1,cz.2.2.2.1,cz.2.2.2.2.1,cz.2.2.2.2.2.1,cz.2.2.2.2.2.2.1,cz.2.2.2.2.2.2.2.1)) (a4.length) 0 (er.1,er.2.1,er.2.2.1,er.2.2.2.1,er.2.2.2.2.1,er.2.2.2.2.2,[],[],1,0):Option ((List Int×List Int×List Int×List Int×List Int×List Int×List Int×List Int))).bind λgN=>
 (uY z1).bind λqI=>
 ((aS (σ:=(List Int)×List Int×List Int×List Int×List Int×List Int) (λAe dQ=>
 (ix ((a6.take ((i64.wrap (4*(a3.length:Int))).toNat)).drop ((i64.wrap (3*(a3.length:Int))).toNat)) Ae).bind λiR=>
 (ix ((a6.take ((i64.wrap (5*(a3.length:Int))).toNat)).drop ((i64.wrap (4*(a3.length:Int))).toNat)) Ae).bind λjz=>
 (nD a0 a2 iR jz).bind λo0=>
 gd ((dQ.2.2.2.1.length+1)*8<=140737488355328/\dQ.2.2.2.1.length+1<=4611686018427387904)<|
 J (.go (dQ.1,dQ.2.1,dQ.2.2.1,dQ.2.2.2.1++[o0],dQ.2.2.2.2.1,dQ.2.2.2.2.2))) (λdQ=>(dQ.1,dQ.2.1,dQ.2.2.1,dQ.2.2.2.1,dQ.2.2.2.2.1,dQ.2.2.2.2.2)) (((a6.take ((i64.wrap (4*(a3.length:Int))).toNat)).drop ((i64.wrap (3*(a3.length:Int))).toNat)).length) 0 (gN.1,gN.2.1,gN.2.2.1,gN.2.2.2.1,gN.2.2.2.2.1,gN.2.2.2.2.2.1):Option ((List Int×List Int×List Int×List Int×List Int×List Int))).bind λnN=>
 ((aS (σ:=(List Int)×List Int×List Int×List Int×List Int×List Int×Int) (λvh dm=>
 (ix ((a6.take ((i64.wrap (4*(a3.length:Int))).toNat)).drop ((i64.wrap (3*(a3.length:Int))).toNat)) vh).bind λLP=>
 (ix ((a6.take ((i64.wrap (6*(a3.length:Int))).toNat)).drop ((i64.wrap (5*(a3.length:Int))).toNat)) vh).bind λMg=>
 (cD a0 dm.2.2.2.2.2.2 LP).bind λMo=>
 (cD a0 a2 Mg).bind λL8=>
 (d8 a0 [Mo,L8]).bind λHG=>
 gd ((dm.2.2.2.1.length+1)*8<=140737488355328/\dm.2.2.2.1.length+1<=4611686018427387904)<|
 (ix dm.2.2.1 vh).bind λJ2=>
 J (.go (dm.1,dm.2.1,dm.2.2.1,dm.2.2.2.1++[HG],dm.2.2.2.2.1,dm.2.2.2.2.2.1,J2))) (λdm=>(dm.1,dm.2.1,dm.2.2.1,dm.2.2.2.1,dm.2.2.2.2.1,dm.2.2.2.2.2.1)) (((a6.take ((i64.wrap (4*(a3.length:Int))).toNat)).drop ((i64.wrap (3*(a3.length:Int))).toNat)).length) 0 (nN.1,nN.2.1,nN.2.2.1,nN.2.2.2.1,nN.2.2.2.2.1,nN.2.2.2.2.2,a0.G):Option ((List Int×List Int×List Int×List Int×List Int×List Int))).bind λkY=>
 (cD a0 a2 x2).bind λXJ=>
 gd ((kY.2.2.2.1.length+1)*8<=140737488355328/\kY.2.2.2.1.length+1<=4611686018427387904)<|
 ((aS (σ:=(List Int)×List Int×List Int×List Int×List Int×List Int) (λtQ eO=>
 (ix ((a6.take ((i64.wrap ((i64.wrap (7*(a3.length:Int)))+1)).toNat)).drop ((i64.wrap ((i64.wrap (6*(a3.length:Int)))+1)).toNat)) tQ).bind λML=>
 (ix ((a6.take ((i64.wrap ((i64.wrap (8*(a3.length:Int)))+1)).toNat)).drop ((i64.wrap ((i64.wrap (7*(a3.length:Int)))+1)).toNat)) tQ).bind λV0=>
 (nD a0 a2 ML V0).bind λPI=>
 gd ((eO.2.2.2.1.length+1)*8<=140737488355328/\eO.2.2.2.1.length+1<=4611686018427387904)<|
 J (.go (eO.1,eO.2.1,eO.2.2.1,eO.2.2.2.1++[PI],eO.2.2.2.2.1,eO.2.2.2.2.2))) (λeO=>(eO.1,eO.2.1,eO.2.2.1,eO.2.2.2.1,eO.2.2.2.2.1,eO.2.2.2.2.2)) (((a6.take ((i64.wrap ((i64.wrap (7*(a3.length:Int)))+1)).toNat)).drop ((i64.wrap ((i64.wrap (6*(a3.length:Int)))+1)).toNat)).length) 0 (kY.1,kY.2.1,kY.2.2.1,kY.2.2.2.1++[XJ],kY.2.2.2.2.1,kY.2.2.2.2.2):Option ((List Int×List Int×List Int×List Int×List Int×List Int))).bind λii=>
 (cD a0 a0.G (i64.wrap (0-x3))).bind λG7=>
 (lq a0 qI.1 ((a6.take ((i64.wrap ((i64.wrap (7*(a3.length:Int)))+1)).toNat)).drop ((i64.wrap ((i64.wrap (6*(a3.length:Int)))+1)).toNat))).bind λIl=>
 (d8 a0 [G7,Il]).bind λCJ=>
 (cD a0 a1 (i64.wrap (0-x3))).bind λIc=>
 (lq a0 qI.2 ((a6.take ((i64.wrap ((i64.wrap (7*(a3.length:Int)))+1)).toNat)).drop ((i64.wrap ((i64.wrap (6*(a3.length:Int)))+1)).toNat))).bind λHt=>
 (d8 a0 [Ic,Ht]).bind λBz=>
 gd ((ii.2.2.2.1.length+2)*8<=140737488355328/\ii.2.2.2.1.length+2<=4611686018427387904)<|
 (yO a0 a1 a3 z1 (ck.mk ii.1 ii.2.1 ii.2.2.1 (bZ.mk (ii.2.2.2.1++[CJ,Bz]) ii.2.2.2.2.1 ii.2.2.2.2.2))).bind λmR=>
 ((aS (σ:=(List Int)) (λAb oY=>
 (ix ((a6.take ((i64.wrap (4*(a3.length:Int))).toNat)).drop ((i64.wrap (3*(a3.length:Int))).toNat)) Ab).bind λIp=>
 (ix gN.2.2.2.2.2.2.1 Ab).bind λIy=>
 gd (a0.Q≠0)<|
 gd ((oY.length+1)*8<=140737488355328/\oY.length+1<=4611686018427387904)<|
 J (.go (oY++[(i64.wrap (Ip+(i64.wrap (mR*Iy)))).tmod a0.Q]))) (λoY=>oY) (((a6.take ((i64.wrap (4*(a3.length:Int))).toNat)).drop ((i64.wrap (3*(a3.length:Int))).toNat)).length) 0 []:Option ((List Int))).bind λMR=>
 ((aS (σ:=(List Int)) (λuq oX=>
 (ix ((a6.take ((i64.wrap (5*(a3.length:Int))).toNat)).drop ((i64.wrap (4*(a3.length:Int))).toNat)) uq).bind λHp=>
 (ix ((a6.take a3.length).drop 0) uq).bind λH6=>
 (ix ((a6.take ((i64.wrap (2*(a3.length:Int))).toNat)).drop a3.length) uq).bind λJ5=>
 gd (a0.Q≠0)<|
 gd (a0.Q≠0)<|
 gd ((oX.length+1)*8<=140737488355328/\oX.length+1<=4611686018427387904)<|
 J (.go (oX++[(i64.wrap (Hp+(i64.wrap (mR*((i64.wrap ((i64.wrap (gZ.1*H6))+J5)).tmod a0.Q))))).tmod a0.Q]))) (λoX=>oX) (((a6.take ((i64.wrap (4*(a3.length:Int))).toNat)).drop ((i64.wrap (3*(a3.length:Int))).toNat)).length) 0 MR:Option ((List Int))).bind λNy=>
 ((aS (σ:=(List Int)) (λHU xy=>
 (ix ((a6.take ((i64.wrap (6*(a3.length:Int))).toNat)).drop ((i64.wrap (5*(a3.length:Int))).toNat)) HU).bind λQc=>
 (ix gN.2.2.2.2.2.2.2 HU).bind λR0=>
 gd (a0.Q≠0)<|
 gd ((xy.length+1)*8<=140737488355328/\xy.length+1<=4611686018427387904)<|
 J (.go (xy++[(i64.wrap (Qc+(i64.wrap (mR*R0)))).tmod a0.Q]))) (λxy=>xy) (((a6.take ((i64.wrap (4*(a3.length:Int))).toNat)).drop ((i64.wrap (3*(a3.length:Int))).toNat)).length) 0 Ny:Option ((List Int))).bind λDu=>
 (ix ((a6.take ((i64.wrap (3*(a3.length:Int))).toNat)).drop ((i64.wrap (2*(a3.length:Int))).toNat)) (i64.wrap ((a3.length:Int)-1))).bind λBM=>
 gd (a0.Q≠0)<|
 gd ((Du.length+1)*8<=140737488355328/\Du.length+1<=4611686018427387904)<|
 ((aS (σ:=(List Int)) (λID wQ=>
 (ix ((a6.take ((i64.wrap ((i64.wrap (7*(a3.length:Int)))+1)).toNat)).drop ((i64.wrap ((i64.wrap (6*(a3.length:Int)))+1)).toNat)) ID).bind λQQ=>
 (ix z7 ID).bind λT9=>
 gd (a0.Q≠0)<|
 gd ((wQ.length+1)*8<=140737488355328/\wQ.length+1<=4611686018427387904)<|
 J (.go (wQ++[(i64.wrap (QQ+(i64.wrap (mR*T9)))).tmod a0.Q]))) (λwQ=>wQ) (((a6.take ((i64.wrap ((i64.wrap (7*(a3.length:Int)))+1)).toNat)).drop ((i64.wrap ((i64.wrap (6*(a3.length:Int)))+1)).toNat)).length) 0 (Du++[(i64.wrap (x2+(i64.wrap (mR*BM)))).tmod a0.Q]):Option ((List Int))).bind λMm=>
 ((aS (σ:=(List Int)) (λHc xg=>
 (ix ((a6.take ((i64.wrap ((i64.wrap (8*(a3.length:Int)))+1)).toNat)).drop ((i64.wrap ((i64.wrap (7*(a3.length:Int)))+1)).toNat)) Hc).bind λPp=>
 (ix ((a6.take ((i64.wrap (2*(a3.length:Int))).toNat)).drop a3.length) Hc).bind λQJ=>
 gd (a0.Q≠0)<|
 gd ((xg.length+1)*8<=140737488355328/\xg.length+1<=4611686018427387904)<|
 J (.go (xg++[(i64.wrap (Pp+(i64.wrap (mR*QJ)))).tmod a0.Q]))) (λxg=>xg) (((a6.take ((i64.wrap ((i64.wrap (7*(a3.length:Int)))+1)).toNat)).drop ((i64.wrap ((i64.wrap (6*(a3.length:Int)))+1)).toNat)).length) 0 Mm:Option ((List Int))).bind λDQ=>
 (vl a5 z7 a0.Q).bind λa0N=>
 gd (a0.Q≠0)<|
 gd ((DQ.length+1)*8<=140737488355328/\DQ.length+1<=4611686018427387904)<|
 J (ck.mk ii.1 ii.2.1 ii.2.2.1 (bZ.mk (ii.2.2.2.1++[CJ,Bz]) [mR] (DQ++[(i64.wrap (x3+(i64.wrap (mR*a0N)))).tmod a0.Q])))))))))))))
set_option maxHeartbeats 16000000 in
def zrI{a0 a1 a2 a3 a4 a5 a6 r}(hr:Eu a0 a1 a2 a3 a4 a5 a6=J r):ap Tryz.prog 152 [(.sh,vE a0),(.sh,.int .i64 a1),(.sh,.int .i64 a2),(.sh,vH a3),(.sh,vC a4),(.sh,vC a5),(.sh,vC a6)] (Eo (vQ r) Nj):=by
 apply pE [] hr zHq Tryz.func152;intro Φ ak hF g;unfold Eu at hF
 iterate 3 (try simp[go_sem,g];try intros;refine bu ?_)
 try simp[go_sem,g]
 try intros
 refine wE hF Pb λz1 hF=>?_
 refine wK [1,2,3,4,5,6,7,14,15,16,17] ?_;refine wZ (kD 0 [0,0,0,0,0,0,0,0,0,0,0,0,0,0,0,0,0]) follows ?_
 iterate 8 obtain⟨g,hF⟩:=Rg g hF
 refine wK [1,2,3,4,5,6,7,14,15,16,17,18,19,20] ?_;refine wZ (kD 0 [0,0,0,0,0,0,0,0,0,0,0,0,0,0,0,0,0,0,0,0,0]) follows ?_
 iterate 9 obtain⟨g,hF⟩:=Rg g hF
 refine wK [1,2,3,4,5,6,7,14,15,16,17,18,19,20,21,22,23] ?_;refine wZ (kD 0 [0,0,0,0,0,0,0,0,0,0,0,0,0,0,0,0,0,0,0,0,0,0,0,0,0,0,0,0,0,0,0]) follows ?_;obtain⟨x2,g,hF⟩:=Rx g hF
 iterate 6 obtain⟨g,hF⟩:=Rg g hF
 obtain⟨x3,g,hF⟩:=Rx g hF;refine wK [1,2,3,4,5,7,14,15,16,17,18,19,20,21,22,23,24,25,26,27] ?_;refine wE hF zqH λz4 hF=>?_
 refine wW ?_;refine wZ (kD 0 [58,0,58,0,0,0,225,226,3,3,3,0]) follows ?_;refine wE hF F3 λz5 hF=>?_
 refine wE hF Fg λz6 hF=>?_
 refine wE hF zqs λz7 hF=>?_
 refine wK [1,2,3,4,5,7,14,15,16,17,18,19,20,21,22,23,24,25,26,27,28,29] ?_;try simp[go_sem,g]
 try intros
 refine bu ?_;refine bT hF [1,2,3,4,5,7,14,15,16,17,18,19,20,21,22,23,24,25,26,27,29] (λer=>[(28,.bl [vD er.1,vD er.2.1,vD er.2.2.1,vD er.2.2.2.1,vD er.2.2.2.2.1,vD er.2.2.2.2.2])]) (λer hF=>?_) λ_ hj0 hF=>?_
 ·refine wE hF zl3 λgZ hF=>?_
  refine wK [1,2,3,4,5,7,14,15,16,17,18,19,20,21,22,23,24,25,26,27,28,29,31,32] ?_
  iterate 3 (try simp[go_sem,g];try intros;refine bu ?_)
  refine bT hF [1,2,3,5,7,14,15,16,17,18,19,20,21,22,23,24,25,26,27,29,31] (λgN=>[(28,.bl [vD gN.1,vD gN.2.1,vD gN.2.2.1,vD gN.2.2.2.1,vD gN.2.2.2.2.1,vD gN.2.2.2.2.2.1]),(33,.v (vD gN.2.2.2.2.2.2.1)),(34,.v (vD gN.2.2.2.2.2.2.2))]) (λgN hF=>?_) λ_ hj0 hF=>?_
  ·refine wE hF DX λqI hF=>?_
   refine wK [1,2,3,5,7,14,15,16,17,18,19,20,21,22,23,24,25,26,27,28,29,31,33,34,40,41] ?_;try simp[go_sem,g]
   try intros
   refine bu ?_;refine bT hF [1,2,3,5,7,14,15,16,17,18,19,20,21,22,23,24,25,26,27,29,31,33,34,40,41] (λnN=>[(28,.bl [vD nN.1,vD nN.2.1,vD nN.2.2.1,vD nN.2.2.2.1,vD nN.2.2.2.2.1,vD nN.2.2.2.2.2])]) (λnN hF=>?_) λ_ hj0 hF=>?_
   ·iterate 2 (try simp[go_sem,g];try intros;refine bu ?_)
    refine bT hF [1,2,3,5,7,14,15,16,17,18,19,20,21,22,23,24,25,26,27,29,31,33,34,40,41] (λkY=>[(28,.bl [vD kY.1,vD kY.2.1,vD kY.2.2.1,vD kY.2.2.2.1,vD kY.2.2.2.2.1,vD kY.2.2.2.2.2])]) (λkY hF=>?_) λ_ hj0 hF=>?_
    ·refine wZ (kD 0 [225,225,226,58,0,0,3,0,5,225,225,226]) follows ?_;refine wE hF fm λXJ hF=>?_
     obtain⟨g,hF⟩:=Rg g hF;refine wK [1,2,3,5,7,14,15,16,17,18,19,20,21,22,23,24,25,26,27,28,29,31,33,34,40,41] ?_;try simp[go_sem,g]
     try intros
     refine bu ?_;refine bT hF [1,3,5,7,14,15,16,17,18,19,20,21,22,23,24,25,26,27,29,31,33,34,40,41] (λii=>[(28,.bl [vD ii.1,vD ii.2.1,vD ii.2.2.1,vD ii.2.2.2.1,vD ii.2.2.2.2.1,vD ii.2.2.2.2.2])]) (λii hF=>?_) λ_ hj0 hF=>?_
     ·refine wZ (kE [0,1,2,3,4,5,6,7,8,10,11,12,16,17,18,19,20,22,23,24,9,13,14,15,21,25,26,27,28,29,30,31,32] [225,225,226,58,58,57,58,0,0,58,0,0,58,58,0,0,0,58,0,0,3,3,0,6,3,3,0,6,0,5,225,225,226]) follows ?_;refine wE hF fm λG7 hF=>?_
      refine wE hF oS λIl hF=>?_
      refine wE hF hJ λCJ hF=>?_
      refine wE hF fm λIc hF=>?_
      refine wE hF oS λHt hF=>?_
      refine wE hF hJ λBz hF=>?_
      obtain⟨g,hF⟩:=Rg g hF;refine wK [1,3,5,7,14,15,16,17,18,19,20,21,22,23,24,25,26,27,28,29,31,33,34] ?_;refine wE hF WT λmR hF=>?_
      refine wW ?_;refine wK [5,14,15,16,18,19,20,21,22,23,24,25,26,27,28,29,31,33,34,46] ?_
      iterate 2 (try simp[go_sem,g];try intros;refine bu ?_)
      refine bT hF [5,14,15,16,18,19,20,21,22,23,24,25,26,27,28,29,31,34,46] (λMR=>[(47,.v (vD MR))]) (λMR hF=>?_) λ_ hj0 hF=>?_
      ·try simp[go_sem,g]
       try intros
       refine bu ?_;refine bT hF [5,14,15,16,19,20,21,23,24,25,26,27,28,29,34,46] (λNy=>[(47,.v (vD Ny))]) (λNy hF=>?_) λ_ hj0 hF=>?_
       ·try simp[go_sem,g]
        try intros
        refine wK [5,14,15,16,19,20,23,24,25,26,27,28,29,34,46,47,432,433] ?_;refine bT hF [5,14,15,16,19,20,24,25,26,27,28,29,46] (λDu=>[(47,.v (vD Du))]) (λDu hF=>?_) λ_ hj0 hF=>?_
        ·obtain⟨BM,g,hF⟩:=iy g hF;obtain⟨g,hF⟩:=Rz g hF;obtain⟨g,hF⟩:=Rg g hF;refine wK [5,14,16,19,25,26,27,28,29,46,47] ?_;try simp[go_sem,g]
         try intros
         refine bu ?_;refine bT hF [5,14,16,19,25,26,27,28,29,46] (λMm=>[(47,.v (vD Mm))]) (λMm hF=>?_) λ_ hj0 hF=>?_
         ·try simp[go_sem,g]
          try intros
          refine bu ?_;refine bT hF [5,14,16,27,28,29,46] (λDQ=>[(47,.v (vD DQ))]) (λDQ hF=>?_) λ_ hj0 hF=>?_
          ·have c0:= @Pa;exact wL
          refine wR hF [5,14,16,19,26,27,28,29,46,490] (λHc xg=>[(47,.v (vD xg)),(491,.v (.int .i64 Hc))]) λb bg Hc xg _ _ aO aN bp ba hF=>?_
          have cF:=aN;try simp at cF
          refine wW ?_;refine wt ?_ (hb:=by simp[go_sem,g,aO,aN,cF]<;>omega);refine wW ?_;refine wB ?_;refine wW ?_;refine wZ (kD 0 [0,0,0,0,0,0,0,0,0,0,0,0,0,0,0,5,0]) follows ?_;obtain⟨Pp,g,hF⟩:=iy g hF;obtain⟨QJ,g,hF⟩:=iy g hF;obtain⟨g,hF⟩:=Rz g hF;obtain⟨g,hF⟩:=Rg g hF;refine wK [5,14,16,19,26,27,28,29,46,47,490,491] ?_;exact wT (ba (xg++[(i64.wrap (Pp+(i64.wrap (mR*QJ)))).tmod a0.Q])) (eZ hF) (a:=by simp[go_sem,g,yo aO aN (by first|assumption|(simp;assumption)|(simp;omega))])
         refine wR hF [5,14,16,19,25,26,27,28,29,46,468] (λID wQ=>[(47,.v (vD wQ)),(469,.v (.int .i64 ID))]) λb bg ID wQ _ _ aO aN bp ba hF=>?_
         have cF:=aN;try simp at cF
         refine wW ?_;refine wt ?_ (hb:=by simp[go_sem,g,aO,aN,cF]<;>omega);refine wW ?_;refine wB ?_;refine wW ?_;refine wZ (kD 0 [0,0,0,0,0,0,0,0,0,0,0,0,0,0,0,5,0]) follows ?_;obtain⟨QQ,g,hF⟩:=iy g hF;obtain⟨T9,g,hF⟩:=Rx g hF;obtain⟨g,hF⟩:=Rz g hF;obtain⟨g,hF⟩:=Rg g hF;refine wK [5,14,16,19,25,26,27,28,29,46,47,468,469] ?_;exact wT (ba (wQ++[(i64.wrap (QQ+(i64.wrap (mR*T9)))).tmod a0.Q])) (eZ hF) (a:=by simp[go_sem,g,yo aO aN (by first|assumption|(simp;assumption)|(simp;omega))])
        refine wR hF [5,14,15,16,19,20,23,24,25,26,27,28,29,34,46,432] (λHU xy=>[(47,.v (vD xy)),(433,.v (.int .i64 HU))]) λb bg HU xy _ _ aO aN bp ba hF=>?_
        have cF:=aN;try simp at cF
        refine wW ?_;refine wt ?_ (hb:=by simp[go_sem,g,aO,aN,cF]<;>omega);refine wW ?_;refine wB ?_;refine wW ?_;refine wZ (kD 0 [0,0,0,0,0,0,0,0,0,0,0,0,0,0,0,5,0]) follows ?_;obtain⟨Qc,g,hF⟩:=iy g hF;obtain⟨R0,g,hF⟩:=Rx g hF;obtain⟨g,hF⟩:=Rz g hF;obtain⟨g,hF⟩:=Rg g hF;refine wK [5,14,15,16,19,20,23,24,25,26,27,28,29,34,46,47,432,433] ?_;exact wT (ba (xy++[(i64.wrap (Qc+(i64.wrap (mR*R0)))).tmod a0.Q])) (eZ hF) (a:=by simp[go_sem,g,yo aO aN (by first|assumption|(simp;assumption)|(simp;omega))])
       refine wR hF [5,14,15,16,18,19,20,21,22,23,24,25,26,27,28,29,31,34,46,401] (λuq oX=>[(47,.v (vD oX)),(402,.v (.int .i64 uq))]) λb bg uq oX _ _ aO aN bp ba hF=>?_
       have cF:=aN;try simp at cF
       refine wW ?_;refine wt ?_ (hb:=by simp[go_sem,g,aO,aN,cF]<;>omega);refine wW ?_;refine wB ?_;refine wK [5,14,15,16,18,19,20,21,22,23,24,25,26,27,28,29,31,34,46,47,49,401,402] ?_;refine wZ (kD 0 [0,0,0,0,0,0,0,0,0,0,0,0,0,0,0,0,0,0,0,0,0,0,0,0,5,0]) follows ?_;obtain⟨Hp,g,hF⟩:=iy g hF;obtain⟨H6,g,hF⟩:=iy g hF;obtain⟨J5,g,hF⟩:=iy g hF
       iterate 2 obtain⟨g,hF⟩:=Rz g hF
       obtain⟨g,hF⟩:=Rg g hF;refine wK [5,14,15,16,18,19,20,21,22,23,24,25,26,27,28,29,31,34,46,47,401,402] ?_;exact wT (ba (oX++[(i64.wrap (Hp+(i64.wrap (mR*((i64.wrap ((i64.wrap (gZ.1*H6))+J5)).tmod a0.Q))))).tmod a0.Q])) (eZ hF) (a:=by simp[go_sem,g,yo aO aN (by first|assumption|(simp;assumption)|(simp;omega))])
      refine wR hF [5,14,15,16,18,19,20,21,22,23,24,25,26,27,28,29,31,33,34,46,379] (λAb oY=>[(47,.v (vD oY)),(380,.v (.int .i64 Ab))]) λb bg Ab oY _ _ aO aN bp ba hF=>?_
      have cF:=aN;try simp at cF
      refine wW ?_;refine wt ?_ (hb:=by simp[go_sem,g,aO,aN,cF]<;>omega);refine wW ?_;refine wB ?_;refine wW ?_;refine wZ (kD 0 [0,0,0,0,0,0,0,0,0,0,0,0,0,0,0,5,0]) follows ?_;obtain⟨Ip,g,hF⟩:=iy g hF;obtain⟨Iy,g,hF⟩:=Rx g hF;obtain⟨g,hF⟩:=Rz g hF;obtain⟨g,hF⟩:=Rg g hF;refine wK [5,14,15,16,18,19,20,21,22,23,24,25,26,27,28,29,31,33,34,46,47,379,380] ?_;exact wT (ba (oY++[(i64.wrap (Ip+(i64.wrap (mR*Iy)))).tmod a0.Q])) (eZ hF) (a:=by simp[go_sem,g,yo aO aN (by first|assumption|(simp;assumption)|(simp;omega))])
     refine wR hF [1,2,3,5,7,14,15,16,17,18,19,20,21,22,23,24,25,26,27,29,31,33,34,40,41,313] (λtQ eO=>[(28,.bl [vD eO.1,vD eO.2.1,vD eO.2.2.1,vD eO.2.2.2.1,vD eO.2.2.2.2.1,vD eO.2.2.2.2.2]),(314,.v (.int .i64 tQ))]) λb bg tQ eO _ _ aO aN bp ba hF=>?_
     have cF:=aN;try simp at cF
     refine wW ?_;refine wt ?_ (hb:=by simp[go_sem,g,aO,aN,cF]<;>omega);refine wW ?_;refine wB ?_;refine wW ?_;refine wZ (kD 0 [225,225,226,58,0,0,0,0,0,0,0,0,0,3,0,5,225,225,226]) follows ?_;obtain⟨ML,g,hF⟩:=iy g hF;obtain⟨V0,g,hF⟩:=iy g hF;refine wE hF Bw λPI hF=>?_
     obtain⟨g,hF⟩:=Rg g hF;refine wK [1,2,3,5,7,14,15,16,17,18,19,20,21,22,23,24,25,26,27,28,29,31,33,34,40,41,313,314] ?_;exact wT (ba (eO.1,eO.2.1,eO.2.2.1,eO.2.2.2.1++[PI],eO.2.2.2.2.1,eO.2.2.2.2.2)) (eZ hF) (a:=by simp[go_sem,g,yo aO aN (by first|assumption|(simp;assumption)|(simp;omega))])
    refine wR hF [1,2,3,5,7,14,15,16,17,18,19,20,21,22,23,24,25,26,27,29,31,33,34,40,41,267] (λvh dm=>[(28,.bl [vD dm.1,vD dm.2.1,vD dm.2.2.1,vD dm.2.2.2.1,vD dm.2.2.2.2.1,vD dm.2.2.2.2.2.1]),(43,.v (.int .i64 dm.2.2.2.2.2.2)),(268,.v (.int .i64 vh))]) λb bg vh dm _ _ aO aN bp ba hF=>?_
    have cF:=aN;try simp at cF
    refine wK [1,2,3,5,7,14,15,16,17,18,19,20,21,22,23,24,25,26,27,28,29,31,33,34,40,41,43,267,268,269] ?_;refine wt ?_ (hb:=by simp[go_sem,g,aO,aN,cF]<;>omega);refine wW ?_;refine wB ?_;refine wW ?_;refine wZ (kE [0,1,2,3,4,5,6,7,8,9,11,12,13,14,15,16,10,17,18,19,20,21,22,23,24] [225,225,226,58,58,0,0,0,0,0,58,0,0,0,0,0,4,3,0,6,0,5,225,225,226]) follows ?_;obtain⟨LP,g,hF⟩:=iy g hF;obtain⟨Mg,g,hF⟩:=iy g hF;refine wD hF fm λMo hF=>?_
    refine wE hF fm λL8 hF=>?_
    refine wE hF hJ λHG hF=>?_
    obtain⟨g,hF⟩:=Rg g hF;refine wK [1,2,3,5,7,14,15,16,17,18,19,20,21,22,23,24,25,26,27,28,29,31,33,34,40,41,44,267,268] ?_;obtain⟨J2,g,hF⟩:=Rx g hF;refine wW ?_;exact wT (ba (dm.1,dm.2.1,dm.2.2.1,dm.2.2.2.1++[HG],dm.2.2.2.2.1,dm.2.2.2.2.2.1,J2)) (eZ hF) (a:=by simp[go_sem,g,yo aO aN (by first|assumption|(simp;assumption)|(simp;omega))])
   refine wR hF [1,2,3,5,7,14,15,16,17,18,19,20,21,22,23,24,25,26,27,29,31,33,34,40,41,241] (λAe dQ=>[(28,.bl [vD dQ.1,vD dQ.2.1,vD dQ.2.2.1,vD dQ.2.2.2.1,vD dQ.2.2.2.2.1,vD dQ.2.2.2.2.2]),(242,.v (.int .i64 Ae))]) λb bg Ae dQ _ _ aO aN bp ba hF=>?_
   have cF:=aN;try simp at cF
   refine wW ?_;refine wt ?_ (hb:=by simp[go_sem,g,aO,aN,cF]<;>omega);refine wW ?_;refine wB ?_;refine wW ?_;refine wZ (kD 0 [225,225,226,58,0,0,0,0,0,0,0,0,0,3,0,5,225,225,226]) follows ?_;obtain⟨iR,g,hF⟩:=iy g hF;obtain⟨jz,g,hF⟩:=iy g hF;refine wE hF Bw λo0 hF=>?_
   obtain⟨g,hF⟩:=Rg g hF;refine wK [1,2,3,5,7,14,15,16,17,18,19,20,21,22,23,24,25,26,27,28,29,31,33,34,40,41,241,242] ?_;exact wT (ba (dQ.1,dQ.2.1,dQ.2.2.1,dQ.2.2.2.1++[o0],dQ.2.2.2.2.1,dQ.2.2.2.2.2)) (eZ hF) (a:=by simp[go_sem,g,yo aO aN (by first|assumption|(simp;assumption)|(simp;omega))])
  refine wR hF [1,2,3,5,7,14,15,16,17,18,19,20,21,22,23,24,25,26,27,29,31,32,173,174] (λvk cz=>[(28,.bl [vD cz.1,vD cz.2.1,vD cz.2.2.1,vD cz.2.2.2.1,vD cz.2.2.2.2.1,vD cz.2.2.2.2.2.1]),(33,.v (vD cz.2.2.2.2.2.2.1)),(34,.v (vD cz.2.2.2.2.2.2.2.1)),(35,.v (.int .i64 cz.2.2.2.2.2.2.2.2.1)),(36,.v (.int .i64 cz.2.2.2.2.2.2.2.2.2)),(175,.v (.int .i64 vk))]) λb bg vk cz _ _ aO aN bp ba hF=>?_
  refine wW ?_;refine wu aO aN ?_;refine wW ?_;refine wB ?_;obtain⟨n8,g,hF⟩:=Rx g hF;refine wK [1,2,3,5,7,14,15,16,17,18,19,20,21,22,23,24,25,26,27,28,29,31,32,33,34,35,36,37,38,173,174,175] ?_;refine wZ (kD 0 [0,0,0,0,0,0,0,0,0,0,0,0,0,0,3,0]) follows ?_;obtain⟨g,hF⟩:=Rz g hF;obtain⟨LN,g,hF⟩:=Rx g hF;refine wE hF Km λse hF=>?_
  refine wK [1,2,3,5,7,14,15,16,17,18,19,20,21,22,23,24,25,26,27,28,29,31,32,33,34,35,36,37,39,173,174,175] ?_;obtain⟨g,hF⟩:=Rg g hF;obtain⟨g,hF⟩:=Rz g hF;refine wW ?_;refine wK [1,2,3,5,7,14,15,16,17,18,19,20,21,22,23,24,25,26,27,28,29,31,32,33,34,35,36,37,39,173,174,175] ?_;refine wZ (kD 0 [225,226,58,0,0,0,0,0,0,3,0,5,225,226]) follows ?_;obtain⟨qX,g,hF⟩:=iy g hF;have c0:= @Bw;have c1:= @Km;exact wL
 refine wR hF [1,2,3,4,5,7,14,15,16,17,18,19,20,21,22,23,24,25,26,27,29,140] (λfL bW=>[(28,.bl [vD bW.1,vD bW.2.1,vD bW.2.2.1,vD bW.2.2.2.1,vD bW.2.2.2.2.1,vD bW.2.2.2.2.2]),(141,.v (.int .i64 fL))]) λb bg fL bW _ _ aO aN bp ba hF=>?_
 refine wW ?_;refine wu aO aN ?_;refine wW ?_;refine wB ?_;refine wW ?_;refine wZ (kD 0 [225,226,58,0,0,0,0,0,0,0,0,0,3,0,5,225,226]) follows ?_;obtain⟨ig,g,hF⟩:=Rx g hF;obtain⟨j6,g,hF⟩:=iy g hF;have c0:= @Bw;exact wL
def zl(a0:am)(a1:Int)(a2:List an)(a3:List Int)(a4:List Int)(a5:List Int):Option (ck×Bool):=
 (((p7 a0 a1 a2).bind λz4=>
 if(!z4)=Z then(
 J Z)else(
 (Ey a3 (a2.length:Int)).bind λz6=>
 if(!z6)=Z then(
 J Z)else(
 if((a4.length:Int) !=(a2.length:Int))=Z then(
 J Z)else(
 (rI a0 a4).bind λz9=>
 if(!z9)=Z then(
 J Z)else(
 if((a5.length:Int) !=(i64.wrap ((i64.wrap (8*(a2.length:Int)))+2)))=Z then(
 J Z)else(
 (rI a0 a5).bind λbH=>
 J (!bH)))))):Option Bool).bind λx3=>
 if x3=Z then(
 J ((ck.mk [] [] [] (bZ.mk [] [] [])),aa))else(
 (DA a0).bind λeT=>
 if(!eT.2)=Z then(
 J ((ck.mk [] [] [] (bZ.mk [] [] [])),aa))else(
 (Eu a0 a1 eT.1 a2 a3 a4 a5).bind λlI=>
 J (lI,Z))))
def zo3{a0 a1 a2 a3 a4 a5 r}(hr:zl a0 a1 a2 a3 a4 a5=J r):ap Tryz.prog 88 [(.sh,vE a0),(.sh,.int .i64 a1),(.sh,vH a2),(.sh,vC a3),(.sh,vC a4),(.sh,vC a5)] (Eo (.bO [vQ r.1,.bool r.2]) rn):=by
 apply pE [] hr zLh Tryz.func88;intro Φ ak hF g;unfold zl at hF
 iterate 2 (try simp[go_sem,g];try intros;refine bu ?_)
 refine bT hF [1,2,3,4,5,6,12] (λx3=>[(55,.v (.bool x3))]) (λx3 hF=>?_) λ_ hj0 hF=>?_
 ·have c0:= @XA;have c1:= @zrI;exact wL
 have c0:= @IF;have c1:= @zn0;have c2:= @HY;exact wL
def zi(a0:am)(a1:Int)(a2:List an)(a3:Int)(a4:List Int)(a5:List Int):Option en:=
 gd (0<=(a2.length:Int))<|
 gd (0<=a2.length/\a2.length<=a5.length)<|
 (Cw a0 a1 a2 a4 ((a5.take a2.length).drop 0)).bind λz1=>
 ((if(a3==1)=Z then(
 gd (0<=(a2.length:Int))<|
 gd (0<=a2.length/\a2.length<=a5.length)<|
 gd (0<=(a2.length:Int))<|
 gd (a2.length<=a5.length/\a5.length<=a5.length)<|
 (uO a0 a1 a2 a4 ((a5.take a2.length).drop 0) ((a5.take a5.length).drop a2.length)).bind λz6=>
 J (a3,z1,z6.1.cu,z6.1.aF,z6.1.Pi.aC,z6.1.Pi.aW,z6.1.Pi.aD,[],[],[],[],[],[]))else(
 gd (0<=(a2.length:Int))<|
 gd (0<=a2.length/\a2.length<=a5.length)<|
 gd (0<=(a2.length:Int))<|
 gd (a2.length<=a5.length/\a5.length<=a5.length)<|
 (zl a0 a1 a2 a4 ((a5.take a2.length).drop 0) ((a5.take a5.length).drop a2.length)).bind λz7=>
 J (a3,z1,[],[],[],[],[],z7.1.bQ,z7.1.bL,z7.1.aF,z7.1.Pi.aC,z7.1.Pi.aW,z7.1.Pi.aD)):Option ((Int×List an×List Int×List Int×List Int×List Int×List Int×List Int×List Int×List Int×List Int×List Int×List Int))).bind λx4=>
 J (en.mk x4.1 x4.2.1 (cH.mk x4.2.2.1 x4.2.2.2.1 (bZ.mk x4.2.2.2.2.1 x4.2.2.2.2.2.1 x4.2.2.2.2.2.2.1)) (ck.mk x4.2.2.2.2.2.2.2.1 x4.2.2.2.2.2.2.2.2.1 x4.2.2.2.2.2.2.2.2.2.1 (bZ.mk x4.2.2.2.2.2.2.2.2.2.2.1 x4.2.2.2.2.2.2.2.2.2.2.2.1 x4.2.2.2.2.2.2.2.2.2.2.2.2))))
def zrH{a0 a1 a2 a3 a4 a5 r}(hr:zi a0 a1 a2 a3 a4 a5=J r):ap Tryz.prog 39 [(.sh,vE a0),(.sh,.int .i64 a1),(.sh,vH a2),(.sh,.int .i64 a3),(.sh,vC a4),(.sh,vC a5)] (Eo (vR r) rn):=by
 apply pE [] hr zNC Tryz.func39;intro Φ ak hF g;unfold zi at hF
 iterate 2 (try simp[go_sem,g];try intros;refine bu ?_)
 refine wZ (kE [0,1,2,3,4,5,6,7,10,8,9,11] [0,50,0,0,0,0,0,0,0,3,0,114]) follows ?_
 iterate 2 obtain⟨g,hF⟩:=Rg g hF
 refine wE hF Pb λz1 hF=>?_
 refine wK [1,2,3,4,5,6,12,13,14] ?_;refine wW ?_;refine wJ hF (λx4=>[(12,.bl [.int .i64 0,.sl Z 2 [],.sl Z 1 [],.sl Z 1 [],.sl Z 1 [],.sl Z 1 [],.sl Z 1 [],.sl Z 1 [],.sl Z 1 [],.sl Z 1 [],.sl Z 1 [],.sl Z 1 [],.sl Z 1 []]),(14,.bl [.int .i64 x4.1,vG x4.2.1,vD x4.2.2.1,vD x4.2.2.2.1,vD x4.2.2.2.2.1,vD x4.2.2.2.2.2.1,vD x4.2.2.2.2.2.2.1,vD x4.2.2.2.2.2.2.2.1,vD x4.2.2.2.2.2.2.2.2.1,vD x4.2.2.2.2.2.2.2.2.2.1,vD x4.2.2.2.2.2.2.2.2.2.2.1,vD x4.2.2.2.2.2.2.2.2.2.2.2.1,vD x4.2.2.2.2.2.2.2.2.2.2.2.2])]) (λx4 hF=>?_) λ_ hj0 hF=>?_
 ·exact wl ak hF
 refine wI hF (λh5 hF=>?_) λh5 hF=>?_
 ·refine wZ (kD 0 [50,0,0,0,0,0,0,0,0,0,3,0,0,0,113,114]) follows ?_;have c0:= @zni;exact wL
 refine wZ (kD 0 [50,0,0,0,0,0,0,0,0,0,3,0,0,0,113,114]) follows ?_;have c0:= @zo3;exact wL
def sV(a0:am)(a1:Int)(a2:List an)(a3:Int)(a4:List Int)(a5:List Int):Option (en×Bool):=
 (Gp a3 (a2.length:Int)).bind λz1=>
 ((if(!z1.2)=Z then(
 J Z)else(
 (tc a0 a1 a2).bind λz6=>
 if(!z6)=Z then(
 J Z)else(
 if((a4.length:Int) !=(a2.length:Int))=Z then(
 J Z)else(
 (G0 a4).bind λz9=>
 if(!z9)=Z then(
 J Z)else(
 if((a5.length:Int) !=z1.1)=Z then(
 J Z)else(
 (rI a0 a5).bind λbH=>
 J (!bH)))))):Option Bool).bind λx4=>
 if x4=Z then(
 J ((en.mk 0 [] (cH.mk [] [] (bZ.mk [] [] [])) (ck.mk [] [] [] (bZ.mk [] [] []))),aa))else(
 (zi a0 a1 a2 a3 a4 a5).bind λeT=>
 J (eT,Z)))
def Xs{a0 a1 a2 a3 a4 a5 r}(hr:sV a0 a1 a2 a3 a4 a5=J r):ap Tryz.prog 8 [(.sh,vE a0),(.sh,.int .i64 a1),(.sh,vH a2),(.sh,.int .i64 a3),(.sh,vC a4),(.sh,vC a5)] (Eo (.bO [vR r.1,.bool r.2]) rn):=by
 apply pE [] hr cl8 Tryz.func8;intro Φ ak hF g;unfold sV at hF;try simp[go_sem,g]
 try intros
 refine bu ?_;try simp[go_sem,g]
 try intros
 refine wE hF ZS λz1 hF=>?_
 refine wK [1,2,3,4,5,6,12,14,15] ?_;refine bT hF [1,2,3,4,5,6,12] (λx4=>[(55,.v (.bool x4))]) (λx4 hF=>?_) λ_ hj0 hF=>?_
 ·have c0:= @zrH;exact wL
 have c0:= @UQ;have c1:= @zsN;have c2:= @HY;exact wL
def Hy(a0:List an)(a1:List an):Option Bool:=
 if((a0.length:Int) !=(a1.length:Int))=Z then(
 J aa)else(
 ((aS (σ:=Unit) (λi6 s5=>
 (ix a0 i6).bind λcY=>
 (ix a1 i6).bind λgW=>
 if(!(cY.A==gW.A&&cY.B==gW.B))=Z then(
 J (.out (.inr aa)))else(
 J (.go ()))) (λs5=>.inl ()) (a0.length) 0 ():Option (Unit ⊕ Bool)).bind (Sum.elim (λx4=>
 J Z) J)))
def zm2{a0 a1 r}(hr:Hy a0 a1=J r):ap Tryz.prog 9 [(.sh,vH a0),(.sh,vH a1)] (Eo (.bool r) cI):=by
 apply pE [] hr cl9 Tryz.func9;intro Φ ak hF g;unfold Hy at hF
 iterate 2 (try simp[go_sem,g];try intros;refine bu ?_)
 refine wI hF (λh1 hF=>?_) λh1 hF=>?_
 ·exact wl ak hF
 iterate 2 (try simp[go_sem,g];try intros;refine bu ?_)
 refine wS hF (λx4=>[]) (λx4 hF=>?_) λ_ hj0 dD hF=>?_
 ·exact wL
 refine wR hF [0,1,12] (λi6 s5=>[(13,.v (.int .i64 i6))]) λb bg i6 s5 _ _ aO aN bp ba hF=>?_
 refine wK [0,1,12,13,14] ?_;refine wu aO aN ?_;refine wW ?_;refine wB ?_;refine wW ?_;refine wZ (kD 0 [0,0,0,0,0,0,0,0,0]) follows ?_;exact wL
def HM(a0:Int)(wo:am):Option Bool:=
 (yR wo a0).bind λz1=>
 J (!z1)
def ziZ{a0 wo r}(hr:HM a0 wo=J r):ap Tryz.prog 116 [(.sh,.int .i64 a0),(.sh,.fp [.func (.func 76) [vE wo] []])] (Eo (.bool r) cI):=by
 apply pE [] hr LB Tryz.func116;intro Φ ak hF g;unfold HM at hF;have c0:= @TD;exact wL
def LL(a0:List Int)(lY:am):Option Int:=
 ((aS (σ:=Unit) (λi5 s4=>
 (ix a0 i5).bind λaU=>
 (HM aU lY).bind λbH=>
 if bH=Z then(
 J (.out (.inr i5)))else(
 J (.go ()))) (λs4=>.inl ()) (a0.length) 0 ():Option (Unit ⊕ Int)).bind (Sum.elim (λx3=>
 J (-1)) J))
def zfh{a0 lY r}(hr:LL a0 lY=J r):ap Tryz.prog 174 [(.sh,vC a0),(.sh,.func (.func 116) [] [.fp [.func (.func 76) [vE lY] []]])] (Eo (.int .i64 r) cI):=by
 apply pE [] hr Ms Tryz.func174;intro Φ ak hF g;unfold LL at hF
 iterate 2 (try simp[go_sem,g];try intros;refine bu ?_)
 refine wS hF (λx3=>[]) (λx3 hF=>?_) λ_ hj0 dD hF=>?_
 ·exact wl ak hF
 refine wR hF [0,1,7] (λi5 s4=>[(8,.v (.int .i64 i5))]) λb bg i5 s4 _ _ aO aN bp ba hF=>?_
 have c0:= @ziZ;exact wL
def KR(a0:List Int)(lY:am):Option Bool:=
 (LL a0 lY).bind λz1=>
 J (decide (0<=z1))
def zeT{a0 lY r}(hr:KR a0 lY=J r):ap Tryz.prog 115 [(.sh,vC a0),(.sh,.func (.func 116) [] [.fp [.func (.func 76) [vE lY] []]])] (Eo (.bool r) cI):=by
 apply pE [] hr Nk Tryz.func115;intro Φ ak hF g;unfold KR at hF;have c0:= @zfh;exact wL
def Od(a0:List Int)(xI:am):Option Bool:=
 (KR a0 xI).bind λz1=>
 J (!z1)
def zjl{a0 xI r}(hr:Od a0 xI=J r):ap Tryz.prog 69 [(.sh,vC a0),(.sh,.func (.func 76) [vE xI] [])] (Eo (.bool r) cI):=by
 apply pF 9 [] [] [1000000] [.tmp 4] hr Oq Tryz.func69;intro Φ ak hF g;unfold Od at hF;have c0:= @zeT;exact wL
def sW(a0:am)(a1:List Int):Option Bool:=
 (Od a1 a0).bind λz1=>
 J z1
def VD{a0 a1 r}(hr:sW a0 a1=J r):ap Tryz.prog 203 [(.sh,vE a0),(.sh,vC a1)] (Eo (.bool r) cI):=by
 apply pE [] hr zEL Tryz.func203;intro Φ ak hF g;unfold sW at hF;have c0:= @zjl;exact wL
def GW(a0:am)(a1:cH)(a2:Int):Option Bool:=
 ((if((a1.cu.length:Int)==a2)=Z then(
 if((a1.aF.length:Int)==a2)=Z then(
 if((a1.Pi.aC.length:Int)==(i64.wrap (a2+5)))=Z then(
 if((a1.Pi.aW.length:Int)==1)=Z then(
 if((a1.Pi.aD.length:Int)==(i64.wrap ((i64.wrap (2*a2))+4)))=Z then(
 (sW a0 a1.cu).bind λz9=>
 if z9=Z then(
 (sW a0 a1.aF).bind λb7=>
 if b7=Z then(
 (sW a0 a1.Pi.aC).bind λdk=>
 if dk=Z then(
 (uP a0 a1.Pi.aD).bind λfA=>
 J fA)else(
 J aa))else(
 J aa))else(
 J aa))else(
 J aa))else(
 J aa))else(
 J aa))else(
 J aa))else(
 J aa):Option Bool).bind λx3=>
 J x3)
def zkm{a0 a1 a2 r}(hr:GW a0 a1 a2=J r):ap Tryz.prog 156 [(.sh,vE a0),(.sh,vL a1),(.sh,.int .i64 a2)] (Eo (.bool r) gx):=by
 apply pE [] hr zHs Tryz.func156;intro Φ ak hF g;unfold GW at hF;refine wW ?_;refine wJ hF (λx3=>[(6,.v (.bool x3))]) (λx3 hF=>?_) λ_ hj0 hF=>?_
 ·exact wm ak hF
 have c0:= @VD;have c1:= @Hf;exact wL
def Mh(a0:am)(a1:Int):Option Int:=
 (cQ a0 a1 (-1)).bind λz1=>
 J z1
def zpc{a0 a1 r}(hr:Mh a0 a1=J r):ap Tryz.prog 204 [(.sh,vE a0),(.sh,.int .i64 a1)] (Eo (.int .i64 r) cI):=by
 apply pE [] hr zHH Tryz.func204;intro Φ ak hF g;unfold Mh at hF;have c0:= @gL;exact wL
def Bv(a0:am)(a1:Int)(a2:Int):Option Int:=
 (Mh a0 a2).bind λz1=>
 (eg a0 [a1,z1]).bind λz2=>
 J z2
def Vv{a0 a1 a2 r}(hr:Bv a0 a1 a2=J r):ap Tryz.prog 158 [(.sh,vE a0),(.sh,.int .i64 a1),(.sh,.int .i64 a2)] (Eo (.int .i64 r) gx):=by
 apply pE [] hr zFB Tryz.func158;intro Φ ak hF g;unfold Bv at hF;refine wW ?_;refine wZ (kD 0 [26,0,26,0,3,0,6,0]) follows ?_;have c0:= @zpc;have c1:= @jN;exact wL
def te(a0:Int)(a1:Int)(a2:Int)(ve:Int)(IX:Int)(Jo:Int)(v5:Int):Option Bool:=
 (cQ (am.mk ve IX Jo) a1 v5).bind λz1=>
 (eg (am.mk ve IX Jo) [a0,z1]).bind λz2=>
 J (z2==a2)
def Yy{a0 a1 a2 ve IX Jo v5 r}(hr:te a0 a1 a2 ve IX Jo v5=J r):ap Tryz.prog 157 [(.sh,.int .i64 a0),(.sh,.int .i64 a1),(.sh,.int .i64 a2),(.sh,.fp [.int .i64 ve,.int .i64 IX,.int .i64 Jo]),(.sh,.fp [.int .i64 v5])] (Eo (.bool r) rZ):=by
 apply pE [] hr zHE Tryz.func157;intro Φ ak hF g;unfold te at hF;refine wW ?_;refine wZ (kE [0,1,2,3,4,8,5,6,7,9,10] [0,0,0,0,0,0,4,0,6,0,0]) follows ?_;have c0:= @gL;have c1:= @jN;exact wL
def EI(a0:am)(a1:cr)(a2:Int)(a3:List an)(a4:List an)(a5:cH):Option Bool:=
 ((if((a4.length:Int) !=(a3.length:Int))=Z then(
 J Z)else(
 (GW a0 a5 (a3.length:Int)).bind λz5=>
 J (!z5)):Option Bool).bind λx3=>
 if x3=Z then(
 J aa)else(
 (qq a2 a3 a4 a5.cu).bind λz7=>
 (yJ a0 (⟨#[109,105,120,32,99,111,108,117,109,110,115]⟩:ByteArray) z7 (a3.length:Int)).bind λz8=>
 (pS [z7,a5.aF,a5.Pi.aC]).bind λz9=>
 (ml a0 (⟨#[109,105,120,32,112,114,111,111,102]⟩:ByteArray) z9).bind λbX=>
 ((if(!z8.2)=Z then(
 J Z)else(
 if(!bX.2)=Z then(
 J Z)else(
 (ix a5.Pi.aW 0).bind λuk=>
 J (uk !=bX.1))):Option Bool).bind λgW=>
 if gW=Z then(
 J aa)else(
 gd (0<=(i64.wrap ((a3.length:Int)+4)))<|
 gd ((i64.wrap ((a3.length:Int)+4)).toNat<=a5.Pi.aD.length/\a5.Pi.aD.length<=a5.Pi.aD.length)<|
 ((aS (σ:=Int) (λfL bW=>
 (ix z8.1 fL).bind λig=>
 (eU a0 (i64.wrap (bW*ig))).bind λnO=>
 J (.go nO)) (λbW=>bW) (z8.1.length) 0 1:Option Int).bind λfI=>
 (ul a3).bind λnI=>
 (ul a4).bind λgZ=>
 (((ix a5.Pi.aC 0).bind λvo=>
 (ix a5.Pi.aD 0).bind λky=>
 (eg a0 a5.cu).bind λME=>
 (eg a0 a1.Hs).bind λN1=>
 (Bv a0 ME N1).bind λBu=>
 (cQ a0 a0.G ky).bind λBc=>
 (te vo Bu Bc a0.P a0.Q a0.G bX.1).bind λyQ=>
 if yQ=Z then(
 (ix a5.Pi.aC 1).bind λx47=>
 (ix a5.Pi.aD 1).bind λx48=>
 (kU a0 a5.cu z8.1).bind λNM=>
 (cQ a0 a0.G x48).bind λxf=>
 (kU a0 a1.Hs ((a5.Pi.aD.take a5.Pi.aD.length).drop ((i64.wrap ((a3.length:Int)+4)).toNat))).bind λzQ=>
 (eg a0 [xf,zQ]).bind λqV=>
 (te x47 NM qV a0.P a0.Q a0.G bX.1).bind λBg=>
 if Bg=Z then(
 (ix a5.Pi.aC 2).bind λiF=>
 (ix a5.aF (i64.wrap ((a3.length:Int)-1))).bind λxZ=>
 (ix a5.Pi.aD 2).bind λTG=>
 (cQ a0 a1.H fI).bind λz58=>
 (Bv a0 xZ z58).bind λz59=>
 (cQ a0 a0.G TG).bind λFv=>
 (te iF z59 Fv a0.P a0.Q a0.G bX.1).bind λse=>
 if se=Z then(
 (ix a5.Pi.aC 3).bind λx63=>
 (ix a5.Pi.aD 3).bind λyn=>
 (kU a0 nI.1 z8.1).bind λHk=>
 (cQ a0 a0.G (i64.wrap (0-yn))).bind λz66=>
 (kU a0 gZ.1 ((a5.Pi.aD.take a5.Pi.aD.length).drop ((i64.wrap ((a3.length:Int)+4)).toNat))).bind λIE=>
 (eg a0 [z66,IE]).bind λIe=>
 (te x63 Hk Ie a0.P a0.Q a0.G bX.1).bind λqI=>
 if qI=Z then(
 (ix a5.Pi.aC 4).bind λQm=>
 (kU a0 nI.2 z8.1).bind λoH=>
 (cQ a0 a2 (i64.wrap (0-yn))).bind λrJ=>
 (kU a0 gZ.2 ((a5.Pi.aD.take a5.Pi.aD.length).drop ((i64.wrap ((a3.length:Int)+4)).toNat))).bind λyl=>
 (eg a0 [rJ,yl]).bind λD8=>
 (te Qm oH D8 a0.P a0.Q a0.G bX.1).bind λNq=>
 J Nq)else(
 J aa))else(
 J aa))else(
 J aa))else(
 J aa):Option Bool).bind λgN=>
 gd (([a1.H].length+a5.aF.length)*8<=140737488355328/\[a1.H].length+a5.aF.length<=4611686018427387904)<|
 (J ([a1.H]++a5.aF)).bind λkc=>
 ((aS (σ:=Bool) (λAX FD=>
 ((if FD=Z then(
 (ix a5.Pi.aC (i64.wrap (5+AX))).bind λjz=>
 (ix a5.aF AX).bind λxv=>
 (ix a5.Pi.aD (i64.wrap (4+AX))).bind λxe=>
 (ix kc AX).bind λYP=>
 (ix ((a5.Pi.aD.take a5.Pi.aD.length).drop ((i64.wrap ((a3.length:Int)+4)).toNat)) AX).bind λxz=>
 (cQ a0 a0.G xe).bind λRQ=>
 (cQ a0 YP xz).bind λSu=>
 (eg a0 [RQ,Su]).bind λJN=>
 (te jz xv JN a0.P a0.Q a0.G bX.1).bind λHi=>
 J Hi)else(
 J aa):Option Bool).bind λmA=>
 J (.go mA))) (λFD=>FD) (a3.length) 0 gN:Option Bool).bind λK9=>
 J K9)))))))
set_option maxHeartbeats 16000000 in
def zkt{a0 a1 a2 a3 a4 a5 r}(hr:EI a0 a1 a2 a3 a4 a5=J r):ap Tryz.prog 90 [(.sh,vE a0),(.sh,vJ a1),(.sh,.int .i64 a2),(.sh,vH a3),(.sh,vH a4),(.sh,vL a5)] (Eo (.bool r) rn):=by
 apply pF 296 [] [955] [1000000] [.tmp 12] hr zNS Tryz.func90;intro Φ ak hF g;unfold EI at hF
 iterate 2 (try simp[go_sem,g];try intros;refine bu ?_)
 refine bT hF [2,3,4,6,7,11,13] (λx3=>[(45,.v (.bool x3))]) (λx3 hF=>?_) λ_ hj0 hF=>?_
 ·refine wI hF (λh6 hF=>?_) λh6 hF=>?_
  ·exact wl ak hF
  refine wW ?_;refine wE hF D4 λz7 hF=>?_
  refine wK [2,3,4,6,7,11,13,14] ?_;refine wE hF zid λz8 hF=>?_
  refine wW ?_;refine wZ (kE [0,1,2,3,4,5,6,7,13,8,9,10,11,12,14,15] [50,0,89,90,89,89,90,0,0,6,3,0,0,0,138,0]) follows ?_;refine wE hF Gh λz9 hF=>?_
  refine wE hF yc λbX hF=>?_
  refine wK [2,3,4,6,7,11,13,15,16,17,18] ?_;refine bT hF [2,3,4,6,7,11,13,15,17] (λgW=>[(86,.v (.bool gW))]) (λgW hF=>?_) λ_ hj0 hF=>?_
  ·refine wI hF (λTy hF=>?_) λTy hF=>?_
   ·exact wl ak hF
   refine wW ?_;refine wZ (kD 0 [89,89,90,89,89,90,0,0]) follows ?_
   iterate 2 obtain⟨g,hF⟩:=Rg g hF
   refine wW ?_;refine wK [2,3,4,6,7,11,13,15,17,19,20,21,22] ?_;try simp[go_sem,g]
   try intros
   refine bu ?_;refine bT hF [2,3,4,6,7,11,13,15,17,19,20,21] (λfI=>[(22,.v (.int .i64 fI))]) (λfI hF=>?_) λ_ hj0 hF=>?_
   ·refine wE hF E8 λnI hF=>?_
    refine wK [2,4,6,7,11,13,15,17,19,20,21,22,25,26] ?_;refine wE hF E8 λgZ hF=>?_
    iterate 2 refine wW ?_
    refine bT hF [6,7,11,13,19,20,21,29] (λgN=>[(30,.v (.bool gN))]) (λgN hF=>?_) λ_ hj0 hF=>?_
    ·obtain⟨g,hF⟩:=Rg g hF;obtain⟨kc,OU,hF⟩:=mg hF;have g:=And.intro g (show[.int .i64 a1.H]::(List.map aJ a5.aF)=kc.map aJ by injection OU with OU;rw[<-OU];simp[go_sem]);refine wK [6,11,13,19,20,21,29,30,31] ?_;refine wW ?_;refine wJ hF (λK9=>[(30,.v (.bool K9))]) (λK9 hF=>?_) λ_ hj0 hF=>?_
     ·exact wl ak hF
     refine wR hF [6,11,19,20,21,29,31,253] (λAX FD=>[(30,.v (.bool FD)),(254,.v (.int .i64 AX))]) λb bg AX FD _ _ aO aN bp ba hF=>?_
     refine wW ?_;refine wu aO aN ?_;refine wW ?_;refine bT hF [6,11,19,20,21,29,31,253,254] (λmA=>[(30,.v (.bool mA))]) (λmA hF=>?_) λ_ kg hF=>?_
     ·exact wL
     refine wB ?_;refine wW ?_;refine wZ (kE [0,1,2,3,4,5,6,7,8,9,10,11,12,13,14,15,16,17,18,19,20,21,23,24,25,26,27,28,29,30,31,22,32,33,34,35,36,37] [0,0,0,0,0,0,0,0,89,90,0,0,0,0,0,0,0,0,0,0,0,0,0,0,0,0,0,0,0,0,0,4,4,0,7,3,0,0]) follows ?_;refine wH hF (λQb hF=>?_) λQb hF=>?_
     ·obtain⟨jz,g,hF⟩:=Rx g hF;obtain⟨xv,g,hF⟩:=Rx g hF;obtain⟨xe,g,hF⟩:=Rx g hF;obtain⟨YP,g,hF⟩:=Rx g hF;obtain⟨xz,g,hF⟩:=iy g hF;have c0:= @gL;have c1:= @jN;have c2:= @Yy;have h:=Qb;exact wL
     have h:=Qb;exact wL
    refine wZ (kE [0,1,2,3,4,5,6,7,9,10,11,14,15,16,17,18,19,8,12,13,20,21,22,23,24,25,26,27,28,29,30,32,33,34,35,36,37,38,40,41,42,43,31,39,44,45,46,47,48,49,50,51,52,53,54,55,56,57,58,59,60,61,62,63,64,67,68,69,70,71,72,65,66,73,74,75,76,77,78,79,80,81,82,83,85,86,87,88,89,90,91,92,94,95,96,84,93,97,98,99,100,101,102,103,104,105,106,107,108,109,111,112,113,114,115,116,117,119,120,121,110,118,122,123,124,125,126,127] [0,0,0,0,0,0,89,90,0,57,58,0,0,0,0,0,0,4,4,4,4,3,0,0,0,0,0,0,89,90,0,0,0,0,0,0,0,0,0,57,58,0,4,4,4,0,7,3,0,0,0,0,0,0,0,89,90,0,0,0,0,0,57,58,0,0,0,0,0,0,0,4,4,4,3,0,0,0,0,0,0,0,0,0,0,0,0,0,0,0,0,0,0,0,0,4,4,4,0,7,3,0,0,0,0,0,0,0,0,0,0,0,0,0,0,0,0,0,0,0,4,4,4,0,7,3,0,0]) follows ?_;have c0:= @jN;have c1:= @Vv;have c2:= @gL;have c3:= @Yy;have c4:= @uK;exact wL
   refine wR hF [2,3,4,6,7,11,13,15,17,19,20,21,97,98] (λfL bW=>[(22,.v (.int .i64 bW)),(99,.v (.int .i64 fL))]) λb bg fL bW _ _ aO aN bp ba hF=>?_
   have c0:= @mq;exact wL
  refine wZ (kD 0 [0,0,0,0,0,0,0,89,89,90,0,0,138,0,0]) follows ?_;exact wL
 have c0:= @zkm;exact wL
def tn(a0:am)(a1:Int)(a2:List an)(a3:List an)(a4:cH):Option (Bool×Bool):=
 (tt a0 a1 a2).bind λz1=>
 ((if(!z1.2)=Z then(
 J Z)else(
 (yG a0 a3).bind λz6=>
 J (!z6)):Option Bool).bind λx4=>
 if x4=Z then(
 J (aa,aa))else(
 (EI a0 z1.1 a1 a2 a3 a4).bind λz8=>
 J (z8,Z)))
def zm7{a0 a1 a2 a3 a4 r}(hr:tn a0 a1 a2 a3 a4=J r):ap Tryz.prog 42 [(.sh,vE a0),(.sh,.int .i64 a1),(.sh,vH a2),(.sh,vH a3),(.sh,vL a4)] (Eo (.bO [.bool r.1,.bool r.2]) rZ):=by
 apply pE [] hr zLT Tryz.func42;intro Φ ak hF g;unfold tn at hF;refine wW ?_;refine wE hF LZ λz1 hF=>?_
 refine wK [1,2,3,5,9,12,13] ?_;refine bT hF [1,2,3,5,9,12] (λx4=>[(28,.v (.bool x4))]) (λx4 hF=>?_) λ_ hj0 hF=>?_
 ·have c0:= @zkt;exact wL
 have c0:= @KT;exact wL
def Fy(a0:bZ):Option Bool:=
 ((if((a0.aC.length:Int)==0)=Z then(
 if((a0.aW.length:Int)==0)=Z then(
 J ((a0.aD.length:Int)==0))else(
 J aa))else(
 J aa):Option Bool).bind λx3=>
 J x3)
def zi4{a0 r}(hr:Fy a0=J r):ap Tryz.prog 91 [(.sh,vS a0)] (Eo (.bool r) [.au]):=by
 apply pE [] hr zKv Tryz.func91;intro Φ ak hF g;unfold Fy at hF;refine wW ?_;refine wJ hF (λx3=>[(2,.v (.bool x3))]) (λx3 hF=>?_) λ_ hj0 hF=>?_
 ·exact wm ak hF
 exact wL
def DP(a0:ck):Option Bool:=
 ((if((a0.bQ.length:Int)==0)=Z then(
 if((a0.bL.length:Int)==0)=Z then(
 if((a0.aF.length:Int)==0)=Z then(
 (Fy a0.Pi).bind λz7=>
 J z7)else(
 J aa))else(
 J aa))else(
 J aa):Option Bool).bind λx3=>
 J x3)
def Ye{a0 r}(hr:DP a0=J r):ap Tryz.prog 43 [(.sh,vM a0)] (Eo (.bool r) [.au]):=by
 apply pE [] hr zK5 Tryz.func43;intro Φ ak hF g;unfold DP at hF;refine wW ?_;refine wJ hF (λx3=>[(2,.v (.bool x3))]) (λx3 hF=>?_) λ_ hj0 hF=>?_
 ·exact wm ak hF
 have c0:= @zi4;exact wL
def Kq(a0:am)(a1:ck)(a2:Int):Option Bool:=
 ((if((a1.bQ.length:Int)==a2)=Z then(
 if((a1.bL.length:Int)==a2)=Z then(
 if((a1.aF.length:Int)==a2)=Z then(
 if((a1.Pi.aC.length:Int)==(i64.wrap ((i64.wrap (3*a2))+3)))=Z then(
 if((a1.Pi.aW.length:Int)==1)=Z then(
 if((a1.Pi.aD.length:Int)==(i64.wrap ((i64.wrap (5*a2))+2)))=Z then(
 (sW a0 a1.bQ).bind λbX=>
 if bX=Z then(
 (sW a0 a1.bL).bind λbH=>
 if bH=Z then(
 (sW a0 a1.aF).bind λeT=>
 if eT=Z then(
 (sW a0 a1.Pi.aC).bind λlI=>
 if lI=Z then(
 (uP a0 a1.Pi.aD).bind λfN=>
 J fN)else(
 J aa))else(
 J aa))else(
 J aa))else(
 J aa))else(
 J aa))else(
 J aa))else(
 J aa))else(
 J aa))else(
 J aa))else(
 J aa):Option Bool).bind λx3=>
 J x3)
def zla{a0 a1 a2 r}(hr:Kq a0 a1 a2=J r):ap Tryz.prog 159 [(.sh,vE a0),(.sh,vM a1),(.sh,.int .i64 a2)] (Eo (.bool r) gx):=by
 apply pE [] hr zEu Tryz.func159;intro Φ ak hF g;unfold Kq at hF;refine wW ?_;refine wJ hF (λx3=>[(6,.v (.bool x3))]) (λx3 hF=>?_) λ_ hj0 hF=>?_
 ·exact wm ak hF
 have c0:= @VD;have c1:= @Hf;exact wL
def qU(a0:Int)(a1:Int)(a2:Int)(ve:Bool)(v5:Int)(Is:Int)(HX:Int)(Nb:Int):Option Bool:=
 if ve=Z then(
 (cQ (am.mk v5 Is HX) a1 Nb).bind λz2=>
 (eg (am.mk v5 Is HX) [a0,z2]).bind λz3=>
 J (z3==a2))else(
 J aa)
def Er{a0 a1 a2 ve v5 Is HX Nb r}(hr:qU a0 a1 a2 ve v5 Is HX Nb=J r):ap Tryz.prog 160 [(.sh,.int .i64 a0),(.sh,.int .i64 a1),(.sh,.int .i64 a2),(.io,.bx [.bool ve]),(.sh,.fp [.int .i64 v5,.int .i64 Is,.int .i64 HX]),(.sh,.fp [.int .i64 Nb])] (Eo (.au) [.au,.au,.au,.bx [.bool r],.au,.au]):=by
 apply pE [3] hr zGv Tryz.func160;intro Φ ak hF g;unfold qU at hF;refine wZ (kE [0,1,2,3,4,5,6,10,7,8,9,11,12,13] [0,0,0,0,0,0,0,0,4,0,6,0,0,0]) follows ?_;have c0:= @gL;have c1:= @jN;exact wL
def Kn(a0:Int)(a1:Int)(a2:Int)(a3:Int)(a4:Int):Option Int:=
 ((dJ (σ:=Int×Int×Int) (λs4=>
 if decide (s4.2.2<=a1)=Z then(
 gd (a0≠0)<|
 gd (a0≠0)<|
 (AV (i64.wrap ((i64.wrap (((i64.wrap (a3*s4.2.2)).tmod a0)+((i64.wrap (s4.2.1*a2)).tmod a0)))-a4)) a0).bind λbX=>
 gd (a0≠0)<|
 J (.go ((i64.wrap (s4.1*bX)).tmod a0,(i64.wrap (s4.2.1*a2)).tmod a0,i64.wrap (s4.2.2+1))))else(
 J (.out s4.1))) (1,1,1):Option Int).bind λx3=>
 J x3)
def zmu{a0 a1 a2 a3 a4 r}(hr:Kn a0 a1 a2 a3 a4=J r):ap Tryz.prog 161 [(.sh,.int .i64 a0),(.sh,.int .i64 a1),(.sh,.int .i64 a2),(.sh,.int .i64 a3),(.sh,.int .i64 a4)] (Eo (.int .i64 r) rZ):=by
 apply pE [] hr zG4 Tryz.func161;intro Φ ak hF g;unfold Kn at hF
 iterate 3 refine wW ?_
 refine wJ hF (λx3=>[(11,.v (.int .i64 x3))]) (λx3 hF=>?_) λ_ hj0 hF=>?_
 ·exact wl ak hF
 refine wB ?_;obtain⟨KY,xH,bg⟩:=hF;refine jQ xH [0,1,2,3,4] (λs4=>[(11,.v (.int .i64 s4.1)),(12,.v (.int .i64 s4.2.1)),(13,.v (.int .i64 s4.2.2))]) λs4 _ _ bp ba hF=>?_
 have c0:= @OR;exact wL
def An(a0:am)(a1:cr)(a2:Int)(a3:List an)(a4:List an)(a5:ck):Option Bool:=
 ((if((a4.length:Int) !=(a3.length:Int))=Z then(
 J Z)else(
 (Kq a0 a5 (a3.length:Int)).bind λz5=>
 J (!z5)):Option Bool).bind λx3=>
 if x3=Z then(
 J aa)else(
 (qq a2 a3 a4 a5.bQ).bind λz7=>
 (ml a0 (⟨#[109,105,120,32,120]⟩:ByteArray) z7).bind λz8=>
 (u0 a5.bQ).bind λz9=>
 gd ((z9.length+a5.bL.length)*8<=140737488355328/\z9.length+a5.bL.length<=4611686018427387904)<|
 (qq a2 a3 a4 (z9++a5.bL)).bind λbX=>
 (Cq a0 bX).bind λb7=>
 (pS [bX,a5.aF,a5.Pi.aC]).bind λbH=>
 (ml a0 (⟨#[109,105,120,32,101,110,100]⟩:ByteArray) bH).bind λdk=>
 ((if(!z8.2)=Z then(
 J Z)else(
 if(!b7.2.2)=Z then(
 J Z)else(
 if(!dk.2)=Z then(
 J Z)else(
 (ix a5.Pi.aW 0).bind λfI=>
 J (fI !=dk.1)))):Option Bool).bind λuk=>
 if uk=Z then(
 J aa)else(
 (i9 a5.Pi.aD (a3.length:Int)).bind λkM=>
 (i9 kM.2 (a3.length:Int)).bind λwU=>
 (i9 wU.2 (a3.length:Int)).bind λtK=>
 (r8 tK.2).bind λtr=>
 (i9 tr.2 (a3.length:Int)).bind λiT=>
 (i9 iT.2 (a3.length:Int)).bind λnm=>
 (r8 nm.2).bind λfP=>
 gd (([a0.G].length+a5.aF.length)*8<=140737488355328/\[a0.G].length+a5.aF.length<=4611686018427387904)<|
 (J ([a0.G]++a5.aF)).bind λj6=>
 ((aS (σ:=(List Int)×Bool) (λf7 lj=>
 (nA z8.1 (i64.wrap (f7+1)) a0.Q).bind λoH=>
 gd ((lj.1.length+1)*8<=140737488355328/\lj.1.length+1<=4611686018427387904)<|
 (ix a5.Pi.aC f7).bind λMU=>
 (ix a5.bQ f7).bind λNv=>
 (ix a5.bL f7).bind λFW=>
 (ix kM.1 f7).bind λwN=>
 (ix wU.1 f7).bind λkc=>
 (cQ a0 Nv b7.1).bind λCe=>
 (cQ a0 a0.G (i64.wrap (0-b7.2.1))).bind λBH=>
 (eg a0 [Ce,FW,BH]).bind λvd=>
 (oC a0 a1 wN kc).bind λnp=>
 (qU MU vd np lj.2 a0.P a0.Q a0.G dk.1).bind λC4=>
 (ix a5.Pi.aC (i64.wrap ((a3.length:Int)+f7))).bind λN9=>
 (ix a5.aF f7).bind λBA=>
 (ix j6 f7).bind λEh=>
 (ix tK.1 f7).bind λpY=>
 (cQ a0 Eh wN).bind λwj=>
 (cQ a0 a1.H pY).bind λoq=>
 (eg a0 [wj,oq]).bind λBN=>
 (qU N9 BA BN C4 a0.P a0.Q a0.G dk.1).bind λOk=>
 (ix a5.Pi.aC (i64.wrap ((i64.wrap ((i64.wrap (2*(a3.length:Int)))+1))+f7))).bind λmA=>
 (ix iT.1 f7).bind λiR=>
 (ix nm.1 f7).bind λjz=>
 (oC a0 a1 iR jz).bind λo0=>
 (qU mA FW o0 Ok a0.P a0.Q a0.G dk.1).bind λKW=>
 J (.go (lj.1++[oH],KW))) (λlj=>(lj.1,lj.2)) (a3.length) 0 ([],Z):Option ((List Int×Bool))).bind λiV=>
 (ix a5.Pi.aC (i64.wrap (2*(a3.length:Int)))).bind λZ9=>
 (ix a5.aF (i64.wrap ((a3.length:Int)-1))).bind λkY=>
 (Kn a0.Q (a3.length:Int) z8.1 b7.1 b7.2.1).bind λZy=>
 (cQ a0 a0.G Zy).bind λa0b=>
 (Bv a0 kY a0b).bind λVK=>
 (cQ a0 a1.H tr.1).bind λXx=>
 (qU Z9 VK Xx iV.2 a0.P a0.Q a0.G dk.1).bind λW0=>
 (ul a3).bind λSV=>
 (ul a4).bind λTC=>
 (ix a5.Pi.aC (i64.wrap ((i64.wrap (3*(a3.length:Int)))+1))).bind λN2=>
 (kU a0 SV.1 iV.1).bind λNh=>
 (cQ a0 a0.G (i64.wrap (0-fP.1))).bind λa0h=>
 (kU a0 TC.1 iT.1).bind λMJ=>
 (eg a0 [a0h,MJ]).bind λYq=>
 (qU N2 Nh Yq W0 a0.P a0.Q a0.G dk.1).bind λGm=>
 (ix a5.Pi.aC (i64.wrap ((i64.wrap (3*(a3.length:Int)))+2))).bind λa0i=>
 (kU a0 SV.2 iV.1).bind λa0a=>
 (cQ a0 a2 (i64.wrap (0-fP.1))).bind λa0g=>
 (kU a0 TC.2 iT.1).bind λXY=>
 (eg a0 [a0g,XY]).bind λZe=>
 (qU a0i a0a Ze Gm a0.P a0.Q a0.G dk.1).bind λDB=>
 J DB)))))
set_option maxHeartbeats 16000000 in
def zk9{a0 a1 a2 a3 a4 a5 r}(hr:An a0 a1 a2 a3 a4 a5=J r):ap Tryz.prog 92 [(.sh,vE a0),(.sh,vJ a1),(.sh,.int .i64 a2),(.sh,vH a3),(.sh,vH a4),(.sh,vM a5)] (Eo (.bool r) rn):=by
 apply pF 352 [] [727,738,1145,1555,1881] [33,1000000] [.tmp 12] hr zMq Tryz.func92;intro Φ ak hF g;unfold An at hF
 iterate 2 (try simp[go_sem,g];try intros;refine bu ?_)
 refine bT hF [2,3,4,6,7,11,13] (λx3=>[(52,.v (.bool x3))]) (λx3 hF=>?_) λ_ hj0 hF=>?_
 ·refine wI hF (λh6 hF=>?_) λh6 hF=>?_
  ·exact wl ak hF
  refine wW ?_;refine wZ (kD 0 [50,0,0,0,89,90,3,3,0,0,0,0,0]) follows ?_;refine wE hF D4 λz7 hF=>?_
  refine wE hF yc λz8 hF=>?_
  refine wK [2,3,4,6,7,11,13,14,15] ?_;refine wZ (kE [0,1,2,3,4,6,7,5,8,9,10] [0,0,0,89,90,89,90,3,0,3,0]) follows ?_;refine wE hF KX λz9 hF=>?_
  obtain⟨g,hF⟩:=Rg g hF;refine wE hF D4 λbX hF=>?_
  refine wK [2,3,4,6,7,11,13,14,15,16] ?_;refine wE hF X2 λb7 hF=>?_
  refine wK [2,3,4,6,7,11,13,14,15,16,17,18,19] ?_;refine wZ (kE [0,1,2,3,4,5,6,7,13,8,9,10,11,12,14,15] [50,0,89,90,89,89,90,0,0,6,3,0,0,0,162,0]) follows ?_;refine wE hF Gh λbH hF=>?_
  refine wE hF yc λdk hF=>?_
  refine wK [2,3,4,6,7,11,13,14,15,17,18,19,20,21] ?_;refine bT hF [2,3,4,6,7,11,13,14,17,18,20] (λuk=>[(112,.v (.bool uk))]) (λuk hF=>?_) λ_ hj0 hF=>?_
  ·refine wI hF (λJd hF=>?_) λJd hF=>?_
   ·exact wl ak hF
   refine wW ?_;refine wZ (kD 0 [89,89,90,89,89,90,0,0,0,961]) follows ?_;refine wK [2,3,4,6,7,11,13,14,17,18,20,22,23,120] ?_;refine wC hF [.io,.sh] mn λkM hF=>?_
   refine wC hF [.io,.sh] mn λwU hF=>?_
   refine wC hF [.io,.sh] mn λtK hF=>?_
   refine wK [2,3,4,6,7,11,13,14,17,18,20,22,23,24,25,26,120] ?_;refine wC hF [.io] AJ λtr hF=>?_
   refine wW ?_;refine wC hF [.io,.sh] mn λiT hF=>?_
   refine wC hF [.io,.sh] mn λnm hF=>?_
   refine wK [2,3,4,6,7,11,13,14,17,18,20,22,23,24,25,26,27,28,29,120] ?_;refine wC hF [.io] AJ λfP hF=>?_
   obtain⟨g,hF⟩:=Rg g hF;obtain⟨j6,SE,hF⟩:=mg hF;have g:=And.intro g (show[.int .i64 a0.G]::(List.map aJ a5.aF)=j6.map aJ by injection SE with SE;rw[<-SE];simp[go_sem]);refine wW ?_;refine wK [2,3,4,6,7,11,13,14,17,18,20,22,24,25,26,27,28,29,30,31] ?_
   iterate 3 refine wW ?_
   refine bT hF [2,3,4,6,7,11,13,14,17,18,22,27,28,30,34] (λiV=>[(32,.v (vD iV.1)),(33,.v (.bx [.bool iV.2]))]) (λiV hF=>?_) λ_ hj0 hF=>?_
   ·refine wZ (kE [0,1,2,3,4,5,6,7,8,9,10,11,12,13,14,15,16,17,18,19,20,21,25,26,27,28,22,23,24,29,30] [0,0,0,0,0,0,0,89,90,0,0,0,0,0,0,0,0,0,0,0,0,0,0,57,58,0,4,4,4,4,3]) follows ?_;obtain⟨Z9,g,hF⟩:=Rx g hF;obtain⟨kY,g,hF⟩:=Rx g hF;refine wD hF zmu λZy hF=>?_
    refine wD hF gL λa0b hF=>?_
    refine wD hF Vv λVK hF=>?_
    refine wD hF gL λXx hF=>?_
    refine wY hF [.sh,.sh,.sh] Er λW0 hF=>?_
    refine wK [2,3,4,6,13,22,28,30,32,33,34] ?_;refine wE hF E8 λSV hF=>?_
    refine wW ?_;refine wE hF E8 λTC hF=>?_
    refine wK [2,6,13,22,28,30,32,33,34,36,37,38,39] ?_;refine wZ (kE [0,1,2,3,4,5,6,7,8,9,11,12,13,14,15,16,18,19,20,10,17,21,22,23,24] [0,0,0,0,0,0,0,0,0,0,0,0,0,0,0,0,0,0,0,4,4,4,0,7,3]) follows ?_;obtain⟨N2,g,hF⟩:=Rx g hF;refine wD hF uK λNh hF=>?_
    refine wD hF gL λa0h hF=>?_
    refine wD hF uK λMJ hF=>?_
    refine wD hF jN λYq hF=>?_
    refine wY hF [.sh,.sh,.sh] Er λGm hF=>?_
    refine wK [2,6,13,22,28,30,32,33,34,37,39] ?_;refine wZ (kE [0,1,2,3,4,5,6,7,8,9,11,12,13,14,15,17,18,19,10,16,20,21,22,23] [0,0,0,0,0,0,0,0,0,0,0,0,0,0,0,0,0,0,4,4,4,0,7,3]) follows ?_;obtain⟨a0i,g,hF⟩:=Rx g hF;refine wD hF uK λa0a hF=>?_
    refine wD hF gL λa0g hF=>?_
    refine wD hF uK λXY hF=>?_
    refine wD hF jN λZe hF=>?_
    refine wY hF [.sh,.sh,.sh] Er λDB hF=>?_
    exact wL
   refine wR hF [2,3,4,6,7,11,13,14,17,18,22,24,25,26,27,28,29,30,31,34,148] (λf7 lj=>[(32,.v (vD lj.1)),(33,.v (.bx [.bool lj.2])),(149,.v (.int .i64 f7))]) λb bg f7 lj _ _ aO aN bp ba hF=>?_
   refine wW ?_;refine wu aO aN ?_;refine wW ?_;refine wB ?_;refine wK [2,3,4,6,7,11,13,14,17,18,22,24,25,26,27,28,29,30,31,32,33,34,35,148,149] ?_;refine wE hF Fa λoH hF=>?_
   obtain⟨g,hF⟩:=Rg g hF;refine wK [2,3,4,6,7,11,13,14,17,18,22,24,25,26,27,28,29,30,31,32,33,34,35,148,149] ?_;refine wZ (kE [0,1,2,3,4,5,6,7,8,9,10,11,12,14,15,16,17,18,19,20,21,22,23,27,28,29,30,31,32,33,34,35,36,13,24,25,26,37,38] [0,0,0,0,0,0,0,89,90,0,0,0,0,89,90,0,0,0,0,0,0,0,0,0,58,0,0,0,0,0,0,0,0,4,4,0,7,4,3]) follows ?_;obtain⟨MU,g,hF⟩:=Rx g hF;obtain⟨Nv,g,hF⟩:=Rx g hF;obtain⟨FW,g,hF⟩:=Rx g hF;obtain⟨wN,g,hF⟩:=Rx g hF;obtain⟨kc,g,hF⟩:=Rx g hF;refine wD hF gL λCe hF=>?_
   refine wD hF gL λBH hF=>?_
   refine wD hF jN λvd hF=>?_
   refine wD hF CD λnp hF=>?_
   refine wY hF [.sh,.sh,.sh] Er λC4 hF=>?_
   refine wK [2,3,4,6,7,11,13,14,17,18,22,24,25,26,27,28,29,30,31,32,33,34,35,148,149] ?_;refine wZ (kE [0,1,2,3,4,5,6,7,8,9,10,11,12,13,14,15,16,17,18,19,20,21,23,24,25,26,27,28,29,22,30,31,32,33] [0,0,0,0,0,0,0,89,90,0,0,0,0,0,0,0,0,0,0,0,0,0,0,57,58,0,0,0,0,4,4,0,7,3]) follows ?_;obtain⟨N9,g,hF⟩:=Rx g hF;obtain⟨BA,g,hF⟩:=Rx g hF;obtain⟨Eh,g,hF⟩:=Rx g hF;obtain⟨pY,g,hF⟩:=Rx g hF;refine wD hF gL λwj hF=>?_
   refine wD hF gL λoq hF=>?_
   refine wD hF jN λBN hF=>?_
   refine wY hF [.sh,.sh,.sh] Er λOk hF=>?_
   refine wK [2,3,4,6,7,11,13,14,17,18,22,24,25,26,27,28,29,30,31,32,33,34,35,148,149] ?_;refine wZ (kD 0 [0,0,0,0,0,0,0,0,0,89,90,0,0,0,0,58,0,0,0,0,0,0,0,0,4,3]) follows ?_;obtain⟨mA,g,hF⟩:=Rx g hF;obtain⟨iR,g,hF⟩:=Rx g hF;obtain⟨jz,g,hF⟩:=Rx g hF;refine wD hF CD λo0 hF=>?_
   refine wY hF [.sh,.sh,.sh] Er λKW hF=>?_
   exact wL
  refine wZ (kD 0 [0,0,0,0,0,0,0,0,0,0,0,89,89,90,0,0,162,0,0]) follows ?_;exact wL
 have c0:= @zla;exact wL
def tP(a0:am)(a1:Int)(a2:List an)(a3:List an)(a4:ck):Option (Bool×Bool):=
 (xB a0 a1 a2).bind λz1=>
 ((if(!z1.2)=Z then(
 J Z)else(
 (yG a0 a3).bind λz6=>
 J (!z6)):Option Bool).bind λx4=>
 if x4=Z then(
 J (aa,aa))else(
 (An a0 z1.1 a1 a2 a3 a4).bind λz8=>
 J (z8,Z)))
def zoB{a0 a1 a2 a3 a4 r}(hr:tP a0 a1 a2 a3 a4=J r):ap Tryz.prog 44 [(.sh,vE a0),(.sh,.int .i64 a1),(.sh,vH a2),(.sh,vH a3),(.sh,vM a4)] (Eo (.bO [.bool r.1,.bool r.2]) rZ):=by
 apply pE [] hr zMv Tryz.func44;intro Φ ak hF g;unfold tP at hF;refine wW ?_;refine wE hF P1 λz1 hF=>?_
 refine wK [1,2,3,5,9,12,13] ?_;refine bT hF [1,2,3,5,9,12] (λx4=>[(28,.v (.bool x4))]) (λx4 hF=>?_) λ_ hj0 hF=>?_
 ·have c0:= @zk9;exact wL
 have c0:= @KT;exact wL
def EX(a0:cH):Option Bool:=
 ((if((a0.cu.length:Int)==0)=Z then(
 if((a0.aF.length:Int)==0)=Z then(
 (Fy a0.Pi).bind λz6=>
 J z6)else(
 J aa))else(
 J aa):Option Bool).bind λx3=>
 J x3)
def zhn{a0 r}(hr:EX a0=J r):ap Tryz.prog 45 [(.sh,vL a0)] (Eo (.bool r) [.au]):=by
 apply pE [] hr zKO Tryz.func45;intro Φ ak hF g;unfold EX at hF;refine wW ?_;refine wJ hF (λx3=>[(2,.v (.bool x3))]) (λx3 hF=>?_) λ_ hj0 hF=>?_
 ·exact wm ak hF
 have c0:= @zi4;exact wL
def sQ(a0:am)(a1:Int)(a2:List an)(a3:en):Option (Bool×Bool):=
 (xB a0 a1 a2).bind λz1=>
 if(!z1.2)=Z then(
 J (aa,aa))else(
 (yG a0 a3.Out).bind λz3=>
 if(!z3)=Z then(
 J (aa,Z))else(
 if(a3.dB==1)=Z then(
 (tn a0 a1 a2 a3.Out a3.br).bind λz6=>
 ((if z6.2=Z then(
 if z6.1=Z then(
 (DP a3.Poly).bind λbH=>
 J bH)else(
 J aa))else(
 J aa):Option Bool).bind λx9=>
 J (x9,Z)))else(
 if(a3.dB==2)=Z then(
 (tP a0 a1 a2 a3.Out a3.Poly).bind λeT=>
 ((if eT.2=Z then(
 if eT.1=Z then(
 (EX a3.br).bind λoJ=>
 J oJ)else(
 J aa))else(
 J aa):Option Bool).bind λbG=>
 J (bG,Z)))else(
 J (aa,Z)))))
def zjW{a0 a1 a2 a3 r}(hr:sQ a0 a1 a2 a3=J r):ap Tryz.prog 10 [(.sh,vE a0),(.sh,.int .i64 a1),(.sh,vH a2),(.sh,vN a3)] (Eo (.bO [.bool r.1,.bool r.2]) kL):=by
 apply pE [] hr zKB Tryz.func10;intro Φ ak hF g;unfold sQ at hF;refine wW ?_;refine wE hF P1 λz1 hF=>?_
 refine wK [1,2,4,7,11] ?_;refine wW ?_;refine wI hF (λh2 hF=>?_) λh2 hF=>?_
 ·exact wl ak hF
 refine wW ?_;refine wE hF KT λz3 hF=>?_
 refine wW ?_;refine wI hF (λh4 hF=>?_) λh4 hF=>?_
 ·exact wl ak hF
 iterate 2 refine wW ?_
 refine wB ?_;refine wK [1,2,4,7,31,32] ?_;refine wI hF (λh5 hF=>?_) λh5 hF=>?_
 ·refine wE hF zm7 λz6 hF=>?_
  refine wK [7,12,13] ?_;refine wJ hF (λx9=>[(8,.v (.bool x9)),(9,.v (.bool Z))]) (λx9 hF=>?_) λ_ hj0 hF=>?_
  ·exact wm ak hF
  have c0:= @Ye;exact wL
 refine wW ?_;refine wI hF (λJt hF=>?_) λJt hF=>?_
 ·refine wE hF zoB λeT hF=>?_
  refine wK [7,14,15] ?_;refine wJ hF (λbG=>[(8,.v (.bool bG)),(9,.v (.bool Z))]) (λbG hF=>?_) λ_ hj0 hF=>?_
  ·exact wm ak hF
  have c0:= @zhn;exact wL
 exact wL
def zf(a0:List Int):Option Bool:=
 ((if decide ((a0.length:Int)<=400)=Z then(
 (DZ a0).bind λz5=>
 J z5)else(
 J aa):Option Bool).bind λx3=>
 J x3)
def Mf{a0 r}(hr:zf a0=J r):ap Tryz.prog 97 [(.sh,vC a0)] (Eo (.bool r) [.au]):=by
 apply pE [] hr zMp Tryz.func97;intro Φ ak hF g;unfold zf at hF;refine wW ?_;refine wJ hF (λx3=>[(2,.v (.bool x3))]) (λx3 hF=>?_) λ_ hj0 hF=>?_
 ·exact wm ak hF
 have c0:= @WB;exact wL
def Aw(a0:List Int):Option (List Int×Bool):=
 (zf a0).bind λz1=>
 if(!z1)=Z then(
 J ([],aa))else(
 J (a0,Z))
def RI{a0 r}(hr:Aw a0=J r):ap Tryz.prog 93 [(.sh,vC a0)] (Eo (.bO [vC r.1,.bool r.2]) [.au]):=by
 apply pF 8 [] [2] [] [.tmp 2,.tmp 3] hr zJ6 Tryz.func93;intro Φ ak hF g;unfold Aw at hF;have c0:= @Mf;exact wL
def EA(a0:List an):Option (List Int×Bool):=
 ((aS (σ:=(List Int)) (λi5 s4=>
 (ix a0 i5).bind λaU=>
 gd ((s4.length+2)*8<=140737488355328/\s4.length+2<=4611686018427387904)<|
 J (.go (s4++[aU.A,aU.B]))) (λs4=>s4) (a0.length) 0 [(a0.length:Int)]:Option ((List Int))).bind λx3=>
 (Aw x3).bind λlI=>
 J (lI.1,lI.2))
def VY{a0 r}(hr:EA a0=J r):ap Tryz.prog 46 [(.sh,vH a0)] (Eo (.bO [vC r.1,.bool r.2]) [.au]):=by
 apply pF 28 [] [24] [] [.tmp 2,.tmp 3] hr zLW Tryz.func46;intro Φ ak hF g;unfold EA at hF
 iterate 3 (try simp[go_sem,g];try intros;refine bu ?_)
 refine wJ hF (λx3=>[(4,.v (vD x3))]) (λx3 hF=>?_) λ_ hj0 hF=>?_
 ·have c0:= @RI;exact wL
 refine wR hF [10,11] (λi5 s4=>[(4,.v (vD s4)),(12,.v (.int .i64 i5))]) λb bg i5 s4 _ _ aO aN bp ba hF=>?_
 exact wL
def yp(a0:List Int):Option ((List Int)):=
 gd (([(a0.length:Int)].length+a0.length)*8<=140737488355328/\[(a0.length:Int)].length+a0.length<=4611686018427387904)<|
 J ([(a0.length:Int)]++a0)
def zl0{a0 r}(hr:yp a0=J r):ap Tryz.prog 95 [(.sh,vC a0)] (Eo (vD r) [.au]):=by
 apply pE [] hr zJ9 Tryz.func95;intro Φ ak hF g;unfold yp at hF;exact wL
def JV(a0:bZ):Option (List Int×Bool):=
 (yp a0.aC).bind λz1=>
 (yp a0.aW).bind λz2=>
 (yp a0.aD).bind λz3=>
 (pS [z1,z2,z3]).bind λz4=>
 (Aw z4).bind λz5=>
 J (z5.1,z5.2)
def zn3{a0 r}(hr:JV a0=J r):ap Tryz.prog 47 [(.sh,vS a0)] (Eo (.bO [vC r.1,.bool r.2]) [.au]):=by
 apply pF 18 [] [14] [] [.tmp 2,.tmp 3] hr zMM Tryz.func47;intro Φ ak hF g;unfold JV at hF;refine wW ?_;refine wZ (kE [0,1,3,4,6,7,2,5,8,9,10,11,12,13,14,15] [9,10,9,10,9,10,3,3,3,0,6,3,0,0,0,0]) follows ?_;have c0:= @zl0;have c1:= @Gh;have c2:= @RI;exact wL
def Yj:KV Tryz.prog 96 49:=by
 intro n H e b es cB z e1 e2 h0 h1 h2 h3 h4 h5;refine Pf zN2 Tryz.func96 rfl rfl (by simp[Tryz.f96]) λhw=>?_
 have hn:¬n<0:=by omega
 have hw1:i64.wrap n=n:=EW (by omega);have tX:i64.wrap 0=0:=EW (by omega);have ei:(jW Tryz.prog 3).isSome=Z:=by kernel_rfl
 by_cases hp:0<n
 ·have hne:n≠0:=by omega
  have xP:=h5;simp[ct]at xP;simp[Tryz.f96,fc,nk,aM,fo,dA,gw,cn,bh,eD,bB,Ep,FR.put,FR.init,be,bM,cW,jK,ct,Am.iM,nL,oA,uS,xG,Ft,pB,rV,xc,hn,e1,e2,ei,hw1,tX,hp,h1,h2,h3,h4,hne]
  first|exact xP|exact .inl xP
 have hz:n=0:=by omega
 subst hz;simp[Tryz.f96,fc,nk,aM,fo,dA,gw,cn,bh,eD,bB,Ep,FR.put,FR.init,be,bM,cW,jK,ct,Am.iM,nL,oA,uS,xG,Ft,pB,rV,xc,hn,e1,e2,hw1,tX,hp]
def Vz(a0:(List (List (List Int)))):Option ((List (List Int))):=
 ((aS (σ:=Int) (λi5 s4=>
 (ix a0 i5).bind λaU=>
 if decide ((i64.wrap (s4+(aU.length:Int)))<0)=Z then(
 ae)else(
 J (.go (i64.wrap (s4+(aU.length:Int)))))) (λs4=>s4) (a0.length) 0 0:Option Int).bind λx3=>
 gd (0<=x3/\24*x3<=140737488355328/\x3<=4611686018427387904)<|
 ((aS (σ:=(List (List Int))) (λfL bW=>
 (ix a0 fL).bind λig=>
 gd ((bW.length+ig.length)*24<=140737488355328/\bW.length+ig.length<=4611686018427387904)<|
 J (.go (bW++ig))) (λbW=>bW) (a0.length) 0 []:Option ((List (List Int)))).bind λfI=>
 J fI))
def zsI{a0 r}(hr:Vz a0=J r):ap Tryz.prog 49 [(.sh,vU a0)] (Eo (vT r) [.au]):=by
 apply pE [] hr VJ Tryz.func49;intro Φ ak hF g;unfold Vz at hF
 iterate 3 (try simp[go_sem,g];try intros;refine bu ?_)
 refine wJ hF (λx3=>[(0,.v (vU a0)),(3,.v (.int .i64 x3))]) (λx3 hF=>?_) λ_ hj0 hF=>?_
 ·obtain⟨Jl,hF⟩:=m7 hF;try simp[go_sem,g]
  refine OQ Yj zDb (by simp[go_sem,g]) Jl ?_;try simp[go_sem,g]
  try intros
  refine bu ?_;try simp[go_sem,g]
  try intros
  refine wK [6,25,26,27] ?_;refine wJ hF (λfI=>[(6,.v (vT fI))]) (λfI hF=>?_) λ_ hj0 hF=>?_
  ·exact wl ak hF
  refine wR hF [25,26] (λfL bW=>[(6,.v (vT bW)),(27,.v (.int .i64 fL))]) λb bg fL bW _ _ aO aN bp ba hF=>?_
  exact wL
 refine wR hF [0,9,10] (λi5 s4=>[(3,.v (.int .i64 s4)),(11,.v (.int .i64 i5))]) λb bg i5 s4 _ _ aO aN bp ba hF=>?_
 exact wL
def Gn(a0:(List (List (List Int)))):Option ((List (List Int))):=
 ((aS (σ:=Int) (λi5 s4=>
 (ix a0 i5).bind λaU=>
 if decide ((i64.wrap (s4+(aU.length:Int)))<0)=Z then(
 ae)else(
 J (.go (i64.wrap (s4+(aU.length:Int)))))) (λs4=>s4) (a0.length) 0 0:Option Int).bind λx3=>
 gd (0<=x3/\24*x3<=140737488355328/\x3<=4611686018427387904)<|
 ((aS (σ:=(List (List Int))) (λfL bW=>
 (ix a0 fL).bind λig=>
 gd ((bW.length+ig.length)*24<=140737488355328/\bW.length+ig.length<=4611686018427387904)<|
 J (.go (bW++ig))) (λbW=>bW) (a0.length) 0 []:Option ((List (List Int)))).bind λfI=>
 J fI))
def zjy{a0 r}(hr:Gn a0=J r):ap Tryz.prog 49 [(.mv,vV a0)] (Eo (vT r) [.au]):=by
 apply pF 36 [] [77,80] [] [.tmp 2] hr VJ Tryz.func49;intro Φ ak hF g;unfold Gn at hF
 iterate 3 (try simp[go_sem,g];try intros;refine bu ?_)
 refine wJ hF (λx3=>[(0,.v (vV a0)),(3,.v (.int .i64 x3))]) (λx3 hF=>?_) λ_ hj0 hF=>?_
 ·obtain⟨Jl,hF⟩:=m7 hF;try simp[go_sem,g]
  refine OQ Yj zDb (by simp[go_sem,g]) Jl ?_;try simp[go_sem,g]
  try intros
  refine bu ?_;try simp[go_sem,g]
  try intros
  refine wK [0,6,25,26,27] ?_;refine wJ hF (λfI=>[(6,.v (vT fI))]) (λfI hF=>?_) λ_ hj0 hF=>?_
  ·exact wl ak hF
  refine wR hF [0,25,26] (λfL bW=>[(6,.v (vT bW)),(27,.v (.int .i64 fL))]) λb bg fL bW _ _ aO aN bp ba hF=>?_
  exact wL
 refine wR hF [0,9,10] (λi5 s4=>[(3,.v (.int .i64 s4)),(11,.v (.int .i64 i5))]) λb bg i5 s4 _ _ aO aN bp ba hF=>?_
 exact wL
def y6(a0:(List (List Int))):Option (List Int×Bool):=
 ((aS (σ:=(List Int)) (λi5 s4=>
 (ix a0 i5).bind λaU=>
 (yp aU).bind λbH=>
 gd ((s4.length+bH.length)*8<=140737488355328/\s4.length+bH.length<=4611686018427387904)<|
 if decide (400<((s4++bH).length:Int))=Z then(
 J (.out (.inr ([],aa))))else(
 J (.go (s4++bH)))) (λs4=>.inl s4) (a0.length) 0 [(a0.length:Int)]:Option ((List Int) ⊕ (List Int×Bool))).bind (Sum.elim (λx3=>
 (Aw x3).bind λfN=>
 J (fN.1,fN.2)) J))
def zj2{a0 r}(hr:y6 a0=J r):ap Tryz.prog 48 [(.sh,vK a0)] (Eo (.bO [vC r.1,.bool r.2]) [.au]):=by
 apply pF 28 [] [2,24] [] [.tmp 2,.tmp 3] hr zNI Tryz.func48;intro Φ ak hF g;unfold y6 at hF
 iterate 3 (try simp[go_sem,g];try intros;refine bu ?_)
 refine wS hF (λx3=>[(4,.v (vD x3))]) (λx3 hF=>?_) λ_ hj0 dD hF=>?_
 ·have c0:= @RI;exact wL
 refine wR hF [10,11] (λi5 s4=>[(4,.v (vD s4)),(12,.v (.int .i64 i5))]) λb bg i5 s4 _ _ aO aN bp ba hF=>?_
 have c0:= @zl0;exact wL
def BU(a0:en):Option (List Int×Bool):=
 (EA a0.Out).bind λz1=>
 (DP a0.Poly).bind λz2=>
 ((if(a0.dB==2)=Z then(
 (EX a0.br).bind λz7=>
 J ([a0.Poly.bQ,a0.Poly.bL,a0.Poly.aF],a0.Poly.Pi.aC,a0.Poly.Pi.aW,a0.Poly.Pi.aD,z7))else(
 J ([a0.br.cu,a0.br.aF],a0.br.Pi.aC,a0.br.Pi.aW,a0.br.Pi.aD,z2)):Option (((List (List Int))×List Int×List Int×List Int×Bool))).bind λx5=>
 (JV (bZ.mk x5.2.1 x5.2.2.1 x5.2.2.2.1)).bind λz8=>
 (((D5 a0.dB).bind λbH=>
 if(!bH)=Z then(
 J Z)else(
 if(!z1.2)=Z then(
 J Z)else(
 if(!z8.2)=Z then(
 J Z)else(
 J (!x5.2.2.2.2)))):Option Bool).bind λaU=>
 if aU=Z then(
 J ([],aa))else(
 (Gn [[[a0.dB],z1.1],x5.1,[z8.1]]).bind λhO=>
 (y6 hO).bind λfN=>
 J (fN.1,fN.2))))
def PT{a0 r}(hr:BU a0=J r):ap Tryz.prog 11 [(.sh,vN a0)] (Eo (.bO [vC r.1,.bool r.2]) [.au]):=by
 apply pF 83 [] [2,79,323] [] [.tmp 2,.tmp 3] hr zJP Tryz.func11;intro Φ ak hF g;unfold BU at hF;refine wW ?_;refine wE hF VY λz1 hF=>?_
 refine wK [1,4,5] ?_;refine wZ (kE [0,1,2,3,4,5,6,7,8,9,10,11,13,12,14,15,16] [9,9,10,9,9,10,0,9,9,10,9,10,0,3,7,58,0]) follows ?_;refine wE hF Ye λz2 hF=>?_
 refine wK [1,4,5,6,7,8] ?_;refine wW ?_;refine bT hF [1,4,5] (λx5=>[(6,.v (vT x5.1)),(7,.bl [vC x5.2.1,vC x5.2.2.1,vC x5.2.2.2.1]),(8,.v (.bool x5.2.2.2.2))]) (λx5 hF=>?_) λ_ hj0 hF=>?_
 ·refine wE hF zn3 λz8 hF=>?_
  refine wK [1,4,5,6,8,9,10] ?_;refine bT hF [1,4,6,9] (λaU=>[(69,.v (.bool aU))]) (λaU hF=>?_) λ_ hj0 hF=>?_
  ·refine wI hF (λCP hF=>?_) λCP hF=>?_
   ·exact wl ak hF
   refine wW ?_;refine wC hF [.mv] zjy λhO hF=>?_
   refine wE hF zj2 λfN hF=>?_
   refine wK [2,3] ?_;exact wm ak hF
  have c0:= @X6;exact wL
 refine wI hF (λh6 hF=>?_) λh6 hF=>?_
 ·refine wZ (kD 0 [9,9,10,9,9,10,9,9,10,0,9,9,10,9,10,3,7,58,0]) follows ?_;have c0:= @zhn;exact wL
 exact wT (hj0 _) (eZ hF)
def v4(aL:List Int)(aV:Bool):Option (Int×(List Int×Bool)):=
 if((aL.length:Int)==0)=Z then(
 J (0,(aL,aa)))else(
 (ix aL 0).bind λx2=>
 gd (1<=aL.length/\aL.length<=aL.length)<|
 J (x2,((aL.take aL.length).drop 1,aV)))
def Li{aL aV r}(hr:v4 aL aV=J r):ap Tryz.prog 98 [(.io,vW aL aV)] (Eo (.int .i64 r.1) [vW r.2.1 r.2.2]):=by
 apply pE [0] hr zMP Tryz.func98;intro Φ ak hF g;unfold v4 at hF;exact wL
def tH(aL:List Int)(aV:Bool):Option (List Int×(List Int×Bool)):=
 (v4 aL aV).bind λz1=>
 (pD z1.1 0 (z1.2.1.length:Int)).bind λz2=>
 if(!z2)=Z then(
 J ([],(z1.2.1,aa)))else(
 gd (0<=z1.1)<|
 gd (0<=z1.1.toNat/\z1.1.toNat<=z1.2.1.length)<|
 (u0 ((z1.2.1.take z1.1.toNat).drop 0)).bind λz4=>
 gd (0<=z1.1)<|
 gd (z1.1.toNat<=z1.2.1.length/\z1.2.1.length<=z1.2.1.length)<|
 J (z4,((z1.2.1.take z1.2.1.length).drop z1.1.toNat,z1.2.2)))
def WD{aL aV r}(hr:tH aL aV=J r):ap Tryz.prog 99 [(.io,vW aL aV)] (Eo (vD r.1) [vW r.2.1 r.2.2]):=by
 apply pE [0] hr zNO Tryz.func99;intro Φ ak hF g;unfold tH at hF;have AQ:= @Li;have c0:= @Au;have c1:= @KX;exact wL
def yW(aL:List Int)(aV:Bool):Option Bool:=
 ((if aV=Z then(
 J ((aL.length:Int)==0))else(
 J aa):Option Bool).bind λx3=>
 J x3)
def PG{aL aV r}(hr:yW aL aV=J r):ap Tryz.prog 100 [(.sh,.fp [vC aL,.bool aV])] (Eo (.bool r) [.au]):=by
 apply pE [] hr zGn Tryz.func100;intro Φ ak hF g;unfold yW at hF;refine wW ?_;refine wJ hF (λx3=>[(2,.v (.bool x3))]) (λx3 hF=>?_) λ_ hj0 hF=>?_
 ·exact wm ak hF
 exact wL
def CH(a0:List Int)(a1:List Int):Option Bool:=
 if((a0.length:Int) !=(a1.length:Int))=Z then(
 J aa)else(
 ((aS (σ:=Unit) (λi6 s5=>
 (ix a0 i6).bind λcY=>
 (ix a1 i6).bind λgW=>
 if(cY !=gW)=Z then(
 J (.out (.inr aa)))else(
 J (.go ()))) (λs5=>.inl ()) (a0.length) 0 ():Option (Unit ⊕ Bool)).bind (Sum.elim (λx4=>
 J Z) J)))
def R8{a0 a1 r}(hr:CH a0 a1=J r):ap Tryz.prog 53 [(.sh,vC a0),(.sh,vC a1)] (Eo (.bool r) cI):=by
 apply pE [] hr zL6 Tryz.func53;intro Φ ak hF g;unfold CH at hF
 iterate 2 (try simp[go_sem,g];try intros;refine bu ?_)
 refine wI hF (λh1 hF=>?_) λh1 hF=>?_
 ·exact wl ak hF
 iterate 2 (try simp[go_sem,g];try intros;refine bu ?_)
 refine wS hF (λx4=>[]) (λx4 hF=>?_) λ_ hj0 dD hF=>?_
 ·exact wL
 refine wR hF [0,1,12] (λi6 s5=>[(13,.v (.int .i64 i6))]) λb bg i6 s5 _ _ aO aN bp ba hF=>?_
 refine wK [0,1,12,13,14] ?_;refine wu aO aN ?_;refine wW ?_;refine wB ?_;refine wW ?_;refine wZ (kD 0 [0,0,0,0,0,0,0,0,0]) follows ?_;exact wL
def Aq(a0:List Int):Option ((List (List Int))×Bool):=
 (zf a0).bind λz1=>
 (v4 a0 z1).bind λz2=>
 ((dJ (σ:=(List Int×Bool)×(List (List Int))×Int) (λdx=>
 if decide (dx.2.2<(if(a0.length:Int)<z2.1 then(a0.length:Int)else z2.1))=Z then(
 (tH dx.1.1 dx.1.2).bind λiT=>
 gd ((dx.2.1.length+1)*24<=140737488355328/\dx.2.1.length+1<=4611686018427387904)<|
 J (.go ((iT.2.1,iT.2.2),dx.2.1++[iT.1],i64.wrap (dx.2.2+1))))else(
 J (.out ((dx.1.1,dx.1.2),dx.2.1)))) ((z2.2.1,z2.2.2),[],0):Option (((List Int×Bool)×(List (List Int))))).bind λx5=>
 (y6 x5.2).bind λnO=>
 (((yW x5.1.1 x5.1.2).bind λiC=>
 if(!iC)=Z then(
 J Z)else(
 if(!nO.2)=Z then(
 J Z)else(
 (CH nO.1 a0).bind λu9=>
 J (!u9))):Option Bool).bind λn6=>
 if n6=Z then(
 J ([],aa))else(
 J (x5.2,Z))))
def zm5{a0 r}(hr:Aq a0=J r):ap Tryz.prog 50 [(.sh,vC a0)] (Eo (.bO [vK r.1,.bool r.2]) [.au]):=by
 apply pF 46 [] [2,28] [12] [.tmp 2,.tmp 3] hr zJ1 Tryz.func50;intro Φ ak hF g;unfold Aq at hF;refine wW ?_;refine wE hF Mf λz1 hF=>?_
 refine wK [0,4,5] ?_;refine wC hF [.io] Li λz2 hF=>?_
 try simp[go_sem,g]
 try intros
 refine bu ?_;refine wJ hF (λx5=>[(0,.v (vC a0)),(4,.v (vW x5.1.1 x5.1.2)),(5,.v (vX x5.2))]) (λx5 hF=>?_) λ_ hj0 hF=>?_
 ·refine wE hF zj2 λnO hF=>?_
  refine wK [0,4,5,6,7] ?_;refine wJ hF (λn6=>[(5,.v (vK x5.2)),(44,.v (.bool n6))]) (λn6 hF=>?_) λ_ hj0 hF=>?_
  ·exact wL
  have c0:= @PG;have c1:= @R8;exact wL
 refine wB ?_;obtain⟨b27,Tv,bg⟩:=hF;refine jQ Tv [0,18] (λdx=>[(4,.v (vW dx.1.1 dx.1.2)),(5,.v (vX dx.2.1)),(19,.v (.int .i64 dx.2.2))]) λdx _ _ bp ba hF=>?_
 have AQ:= @WD;exact wL
def Iv(a0:List Int):Option (List an×Bool):=
 (zf a0).bind λz1=>
 (v4 a0 z1).bind λz2=>
 ((dJ (σ:=(List Int×Bool)×List an×Int) (λeX=>
 if decide (eX.2.2<(if(a0.length:Int)<z2.1 then(a0.length:Int)else z2.1))=Z then(
 (v4 eX.1.1 eX.1.2).bind λoJ=>
 (v4 oJ.2.1 oJ.2.2).bind λzy=>
 gd ((eX.2.1.length+1)*16<=140737488355328/\eX.2.1.length+1<=4611686018427387904)<|
 J (.go ((zy.2.1,zy.2.2),eX.2.1++[(an.mk oJ.1 zy.1)],i64.wrap (eX.2.2+1))))else(
 J (.out ((eX.1.1,eX.1.2),eX.2.1)))) ((z2.2.1,z2.2.2),[],0):Option (((List Int×Bool)×List an))).bind λx5=>
 (EA x5.2).bind λtK=>
 (((yW x5.1.1 x5.1.2).bind λfP=>
 if(!fP)=Z then(
 J Z)else(
 if(!tK.2)=Z then(
 J Z)else(
 (CH tK.1 a0).bind λgp=>
 J (!gp))):Option Bool).bind λfM=>
 if fM=Z then(
 J ([],aa))else(
 J (x5.2,Z))))
def zml{a0 r}(hr:Iv a0=J r):ap Tryz.prog 51 [(.sh,vC a0)] (Eo (.bO [vH r.1,.bool r.2]) [.au]):=by
 apply pF 49 [] [2,31] [12] [.tmp 2,.tmp 3] hr zKs Tryz.func51;intro Φ ak hF g;unfold Iv at hF;refine wW ?_;refine wE hF Mf λz1 hF=>?_
 refine wK [0,4,5] ?_;refine wC hF [.io] Li λz2 hF=>?_
 try simp[go_sem,g]
 try intros
 refine bu ?_;refine wJ hF (λx5=>[(0,.v (vC a0)),(4,.v (vW x5.1.1 x5.1.2)),(5,.v (vG x5.2))]) (λx5 hF=>?_) λ_ hj0 hF=>?_
 ·refine wE hF VY λtK hF=>?_
  refine wK [0,4,5,6,7] ?_;refine wJ hF (λfM=>[(5,.v (vH x5.2)),(47,.v (.bool fM))]) (λfM hF=>?_) λ_ hj0 hF=>?_
  ·exact wL
  have c0:= @PG;have c1:= @R8;exact wL
 refine wB ?_;obtain⟨b22,a0P,bg⟩:=hF;refine jQ a0P [0,18] (λeX=>[(4,.v (vW eX.1.1 eX.1.2)),(5,.v (vG eX.2.1)),(19,.v (.int .i64 eX.2.2))]) λeX _ _ bp ba hF=>?_
 have AQ:= @Li;exact wL
def H4(a0:List Int):Option (bZ×Bool):=
 (zf a0).bind λz1=>
 (tH a0 z1).bind λz2=>
 (tH z2.2.1 z2.2.2).bind λz3=>
 (tH z3.2.1 z3.2.2).bind λz4=>
 (yW z4.2.1 z4.2.2).bind λz5=>
 if(!z5)=Z then(
 J ((bZ.mk [] [] []),aa))else(
 J ((bZ.mk z2.1 z3.1 z4.1),Z))
def znC{a0 r}(hr:H4 a0=J r):ap Tryz.prog 52 [(.sh,vC a0)] (Eo (.bO [vY r.1,.bool r.2]) [.au]):=by
 apply pF 23 [] [] [10] [.cell 2 31,.tmp 3] hr zMK Tryz.func52;intro Φ ak hF g;unfold H4 at hF;have c0:= @Mf;have AQ:= @WD;have c1:= @PG;exact wL
def ze(a0:List Int):Option (en×Bool):=
 (Aq a0).bind λz1=>
 ((if(!z1.2)=Z then(
 J Z)else(
 if decide ((z1.1.length:Int)<5)=Z then(
 J Z)else(
 (ix z1.1 0).bind λx7=>
 J ((x7.length:Int) !=1))):Option Bool).bind λx4=>
 if x4=Z then(
 J ((en.mk 0 [] (cH.mk [] [] (bZ.mk [] [] [])) (ck.mk [] [] [] (bZ.mk [] [] []))),aa))else(
 (ix z1.1 1).bind λx9=>
 (Iv x9).bind λbX=>
 (ix z1.1 (i64.wrap ((z1.1.length:Int)-1))).bind λaU=>
 (H4 aU).bind λbH=>
 (ix z1.1 0).bind λgW=>
 (ix gW 0).bind λe8=>
 ((((if(e8==1)=Z then(
 J ((z1.1.length:Int)==5))else(
 J aa):Option Bool).bind λfI=>
 if fI=Z then(
 (ix z1.1 2).bind λWy=>
 (ix z1.1 3).bind λCr=>
 J (.inl (e8,bX.1,Wy,Cr,bH.1.aC,bH.1.aW,bH.1.aD,[],[],[],[],[],[])))else(
 ((if(e8==2)=Z then(
 J ((z1.1.length:Int)==6))else(
 J aa):Option Bool).bind λfM=>
 if fM=Z then(
 (ix z1.1 2).bind λEa=>
 (ix z1.1 3).bind λB5=>
 (ix z1.1 4).bind λn6=>
 J (.inl (e8,bX.1,[],[],[],[],[],Ea,B5,n6,bH.1.aC,bH.1.aW,bH.1.aD)))else(
 J (.inr ((en.mk 0 [] (cH.mk [] [] (bZ.mk [] [] [])) (ck.mk [] [] [] (bZ.mk [] [] []))),aa)))))):Option ((Int×List an×List Int×List Int×List Int×List Int×List Int×List Int×List Int×List Int×List Int×List Int×List Int) ⊕ (en×Bool))).bind (Sum.elim (λbG=>
 (BU (en.mk bG.1 bG.2.1 (cH.mk bG.2.2.1 bG.2.2.2.1 (bZ.mk bG.2.2.2.2.1 bG.2.2.2.2.2.1 bG.2.2.2.2.2.2.1)) (ck.mk bG.2.2.2.2.2.2.2.1 bG.2.2.2.2.2.2.2.2.1 bG.2.2.2.2.2.2.2.2.2.1 (bZ.mk bG.2.2.2.2.2.2.2.2.2.2.1 bG.2.2.2.2.2.2.2.2.2.2.2.1 bG.2.2.2.2.2.2.2.2.2.2.2.2)))).bind λiC=>
 ((if(!bX.2)=Z then(
 J Z)else(
 if(!bH.2)=Z then(
 J Z)else(
 if(!iC.2)=Z then(
 J Z)else(
 (CH iC.1 a0).bind λut=>
 J (!ut)))):Option Bool).bind λnP=>
 if nP=Z then(
 J ((en.mk 0 [] (cH.mk [] [] (bZ.mk [] [] [])) (ck.mk [] [] [] (bZ.mk [] [] []))),aa))else(
 J ((en.mk bG.1 bG.2.1 (cH.mk bG.2.2.1 bG.2.2.2.1 (bZ.mk bG.2.2.2.2.1 bG.2.2.2.2.2.1 bG.2.2.2.2.2.2.1)) (ck.mk bG.2.2.2.2.2.2.2.1 bG.2.2.2.2.2.2.2.2.1 bG.2.2.2.2.2.2.2.2.2.1 (bZ.mk bG.2.2.2.2.2.2.2.2.2.2.1 bG.2.2.2.2.2.2.2.2.2.2.2.1 bG.2.2.2.2.2.2.2.2.2.2.2.2))),Z)))) J))))
set_option maxHeartbeats 16000000 in
def zmm{a0 r}(hr:ze a0=J r):ap Tryz.prog 12 [(.sh,vC a0)] (Eo (.bO [vN r.1,.bool r.2]) [.au]):=by
 apply DW 120 [] [98] [] [.cell 2 37,.tmp 3] hr zN4 Tryz.func12;intro Φ ak hF g;unfold ze at hF;refine wW ?_;refine wE hF zm5 λz1 hF=>?_
 refine wW ?_;refine bT hF [0,2,4] (λx4=>[(31,.v (.bool x4))]) (λx4 hF=>?_) λ_ hj0 hF=>?_
 ·refine wI hF (λh8 hF=>?_) λh8 hF=>?_
  ·exact wL
  obtain⟨x9,g,hF⟩:=j8 g 1 hF;refine wW ?_;refine wE hF zml λbX hF=>?_
  refine wK [0,2,4,6,7] ?_;obtain⟨aU,g,hF⟩:=Rx g hF;try simp[go_sem,g]
  try intros
  refine wE hF znC λbH hF=>?_
  refine wK [0,2,4,6,7,8,9] ?_;obtain⟨gW,g,hF⟩:=j8 g 0 hF;obtain⟨e8,g,hF⟩:=j8 g 0 hF;refine wW ?_;refine wSK hF [0,2,7,9] (λbG=>[(10,.bl [.int .i64 bG.1,vH bG.2.1,vC bG.2.2.1,vC bG.2.2.2.1,vD bG.2.2.2.2.1,vD bG.2.2.2.2.2.1,vD bG.2.2.2.2.2.2.1,vC bG.2.2.2.2.2.2.2.1,vC bG.2.2.2.2.2.2.2.2.1,vC bG.2.2.2.2.2.2.2.2.2.1,vD bG.2.2.2.2.2.2.2.2.2.2.1,vD bG.2.2.2.2.2.2.2.2.2.2.2.1,vD bG.2.2.2.2.2.2.2.2.2.2.2.2])]) (λbG hF=>?_) λ_ hj0 dD hF=>?_
  ·refine wE hF PT λiC hF=>?_
   refine wK [0,2,7,9,10,11,12] ?_;refine bT hF [2,10] (λnP=>[(117,.v (.bool nP))]) (λnP hF=>?_) λ_ hj0 hF=>?_
   ·exact wL
   have c0:= @R8;exact wL
  refine wB ?_;refine bT hF [0,2,4,7,8,9,10] (λfI=>[(58,.v (.bool fI))]) (λfI hF=>?_) λ_ kg hF=>?_
  ·refine wI hF (λh22 hF=>?_) λh22 hF=>?_
   ·refine wZ (kD 0 [0,0,0,0,0,0,66,0,81,82]) follows ?_;obtain⟨Wy,g,hF⟩:=j8 g 2 hF;obtain⟨Cr,g,hF⟩:=j8 g 3 hF;try simp[go_sem,g]
    refine jM 10 7 (by simp[go_sem,g];rfl) rfl (by simp[go_sem]) ?_;refine jM 10 8 (by simp[go_sem,g];rfl) rfl (by simp[go_sem]) ?_;refine jM 10 9 (by simp[go_sem,g];rfl) rfl (by simp[go_sem]) ?_;exact wT (hj0 _) (eZ hF)
   refine bT hF [0,2,4,7,8,9,10] (λfM=>[(76,.v (.bool fM))]) (λfM hF=>?_) λ_ kg hF=>?_
   ·refine wI hF (λh29 hF=>?_) λh29 hF=>?_
    ·refine wZ (kD 0 [0,0,0,0,0,0,0,0,0,66,0,81,82]) follows ?_;obtain⟨Ea,g,hF⟩:=j8 g 2 hF;obtain⟨B5,g,hF⟩:=j8 g 3 hF;obtain⟨n6,g,hF⟩:=j8 g 4 hF;try simp[go_sem,g]
     refine jM 10 2 (by simp[go_sem,g];rfl) rfl (by simp[go_sem]) ?_;refine jM 10 3 (by simp[go_sem,g];rfl) rfl (by simp[go_sem]) ?_;exact wT (hj0 _) (eZ hF)
    exact wL
   exact wL
  exact wL
 exact wL
def JU(a0:List Int)(a1:List Int):Option Bool:=
 if((a0.length:Int) !=(a1.length:Int))=Z then(
 J aa)else(
 ((aS (σ:=Unit) (λi6 s5=>
 (ix a0 i6).bind λcY=>
 (ix a1 i6).bind λgW=>
 if(cY !=gW)=Z then(
 J (.out (.inr aa)))else(
 J (.go ()))) (λs5=>.inl ()) (a0.length) 0 ():Option (Unit ⊕ Bool)).bind (Sum.elim (λx4=>
 J Z) J)))
def zpC{a0 a1 r}(hr:JU a0 a1=J r):ap Tryz.prog 13 [(.sh,vC a0),(.sh,vC a1)] (Eo (.bool r) cI):=by
 apply pE [] hr zKc Tryz.func13;intro Φ ak hF g;unfold JU at hF
 iterate 2 (try simp[go_sem,g];try intros;refine bu ?_)
 refine wI hF (λh1 hF=>?_) λh1 hF=>?_
 ·exact wl ak hF
 iterate 2 (try simp[go_sem,g];try intros;refine bu ?_)
 refine wS hF (λx4=>[]) (λx4 hF=>?_) λ_ hj0 dD hF=>?_
 ·exact wL
 refine wR hF [0,1,12] (λi6 s5=>[(13,.v (.int .i64 i6))]) λb bg i6 s5 _ _ aO aN bp ba hF=>?_
 refine wK [0,1,12,13,14] ?_;refine wu aO aN ?_;refine wW ?_;refine wB ?_;refine wW ?_;refine wZ (kD 0 [0,0,0,0,0,0,0,0,0]) follows ?_;exact wL
def Gg(aL:List Int)(aV:Int)(bo:Int)(a1:am):Option (Int×(List Int×Int×Int)):=
 (yU aL aV bo 24).bind λz1=>
 if z1.1=Z then(
 (pI z1.2.1 z1.2.2.1 z1.2.2.2 [a1.Q,(-1),i64.wrap (a1.Q-1)]).bind λz3=>
 J (z3.1,(z3.2.1,z3.2.2.1,z3.2.2.2)))else(
 (Bk z1.2.1 z1.2.2.1 z1.2.2.2 a1).bind λz4=>
 J (z4.1,(z4.2.1,z4.2.2.1,z4.2.2.2)))
def zhF{aL aV bo a1 r}(hr:Gg aL aV bo a1=J r):ap Tryz.prog 164 [(.io,vB aL aV bo),(.sh,vE a1)] (Eo (.int .i64 r.1) [vB r.2.1 r.2.2.1 r.2.2.2,.au]):=by
 apply pE [0] hr zFC Tryz.func164;intro Φ ak hF g;unfold Gg at hF;have jc:= @MG;have xd:= @AS;have BJ:= @TL;exact wL
def FP(aL:List Int)(aV:Int)(bo:Int)(a1:am)(a2:bZ):Option (bZ×(List Int×Int×Int)):=
 (B6 a2.aC).bind λz1=>
 (B6 a2.aW).bind λz2=>
 (B6 a2.aD).bind λz3=>
 (gJ aL aV bo 12).bind λz4=>
 ((if(z4.1==0)=Z then(
 if decide (0<(z3.length:Int))=Z then(
 (gJ z4.2.1 z4.2.2.1 z4.2.2.2 (z3.length:Int)).bind λbX=>
 (Gg bX.2.1 bX.2.2.1 bX.2.2.2 a1).bind λb7=>
 (ix z3 bX.1).bind λcY=>
 J (.inl ((b7.2.1,b7.2.2.1,b7.2.2.2),z1,z2,z3.set bX.1.toNat b7.1)))else(
 J (.inl ((z4.2.1,z4.2.2.1,z4.2.2.2),z1,z2,z3))))else(
 if(z4.1==1)=Z then(
 if decide (0<(z1.length:Int))=Z then(
 (gJ z4.2.1 z4.2.2.1 z4.2.2.2 (z1.length:Int)).bind λfA=>
 (xK fA.2.1 fA.2.2.1 fA.2.2.2 a1).bind λlI=>
 (ix z1 fA.1).bind λbG=>
 J (.inl ((lI.2.1,lI.2.2.1,lI.2.2.2),z1.set fA.1.toNat lI.1,z2,z3)))else(
 J (.inl ((z4.2.1,z4.2.2.1,z4.2.2.2),z1,z2,z3))))else(
 if(z4.1==2)=Z then(
 if decide (0<(z2.length:Int))=Z then(
 (gJ z4.2.1 z4.2.2.1 z4.2.2.2 (z2.length:Int)).bind λoJ=>
 (Gg oJ.2.1 oJ.2.2.1 oJ.2.2.2 a1).bind λzy=>
 (ix z2 oJ.1).bind λLc=>
 J (.inl ((zy.2.1,zy.2.2.1,zy.2.2.2),z1,z2.set oJ.1.toNat zy.1,z3)))else(
 J (.inl ((z4.2.1,z4.2.2.1,z4.2.2.2),z1,z2,z3))))else(
 if(z4.1==3)=Z then(
 gd ((z3.length+1)*8<=140737488355328/\z3.length+1<=4611686018427387904)<|
 J (.inl ((z4.2.1,z4.2.2.1,z4.2.2.2),z1,z2,z3++[0])))else(
 if(z4.1==4)=Z then(
 J (.inr ((bZ.mk [] [] []),(z4.2.1,z4.2.2.1,z4.2.2.2))))else(
 J (.inl ((z4.2.1,z4.2.2.1,z4.2.2.2),z1,z2,z3))))))):Option (((List Int×Int×Int)×List Int×List Int×List Int) ⊕ (bZ×(List Int×Int×Int)))).bind (Sum.elim (λx7=>
 J ((bZ.mk x7.2.1 x7.2.2.1 x7.2.2.2),(x7.1.1,x7.1.2.1,x7.1.2.2))) J))
def ZV{aL aV bo a1 a2 r}(hr:FP aL aV bo a1 a2=J r):ap Tryz.prog 102 [(.io,vB aL aV bo),(.sh,vE a1),(.sh,vS a2)] (Eo (vY r.1) [vB r.2.1 r.2.2.1 r.2.2.2,.au,.au]):=by
 apply pE [0] hr zFz Tryz.func102;intro Φ ak hF g;unfold FP at hF;refine wW ?_;refine wZ (kE [0,1,3,4,6,7,2,5,8,9,10] [41,42,41,42,41,42,3,3,3,0,42]) follows ?_;refine wE hF NV λz1 hF=>?_
 refine wE hF NV λz2 hF=>?_
 refine wE hF NV λz3 hF=>?_
 refine wK [0,4,5,6] ?_;refine wC hF [.io,.sh] ka λz4 hF=>?_
 refine wW ?_;refine wS hF (λx7=>[(0,.v (vB x7.1.1 x7.1.2.1 x7.1.2.2)),(5,.bl [vD x7.2.1,vD x7.2.2.1,vD x7.2.2.2]),(6,.bl [.sl Z 1 [],.sl Z 1 [],.sl Z 1 []])]) (λx7 hF=>?_) λ_ hj0 dD hF=>?_
 ·exact wl ak hF
 refine wB ?_;refine wW ?_;refine wI hF (λh8 hF=>?_) λh8 hF=>?_
 ·try simp[go_sem,g]
  try intros
  refine bu ?_;try simp[go_sem,g]
  try intros
  refine wK [0,4,5,6,7,28] ?_;refine wI hF (λh9 hF=>?_) λh9 hF=>?_
  ·refine wZ (kE [0,1,2,3,5,6,4,7,8,9] [41,42,0,0,0,34,3,3,0,0]) follows ?_;have jc:= @ka;have BJ:= @zhF;exact wL
  exact wT (hj0 _) (eZ hF)
 refine wW ?_;refine wI hF (λJt hF=>?_) λJt hF=>?_
 ·try simp[go_sem,g]
  try intros
  refine wK [0,4,5,6,8] ?_;refine wW ?_;refine wI hF (λQO hF=>?_) λQO hF=>?_
  ·refine wZ (kE [0,1,2,3,5,6,4,7,8,9] [41,42,0,0,0,34,3,3,0,0]) follows ?_;have jc:= @ka;have BJ:= @Ma;exact wL
  exact wT (hj0 _) (eZ hF)
 refine wW ?_;refine wI hF (λRU hF=>?_) λRU hF=>?_
 ·try simp[go_sem,g]
  try intros
  refine wK [0,4,5,6,9] ?_;refine wW ?_;refine wI hF (λh19 hF=>?_) λh19 hF=>?_
  ·refine wZ (kE [0,1,2,3,5,6,4,7,8,9] [41,42,0,0,0,34,3,3,0,0]) follows ?_;have jc:= @ka;have BJ:= @zhF;exact wL
  exact wT (hj0 _) (eZ hF)
 exact wL
def JJ(aL:List Int)(aV:Int)(bo:Int)(a1:am)(a2:en):Option (en×(List Int×Int×Int)):=
 gd (a2.Out.length*16<=140737488355328/\a2.Out.length<=4611686018427387904)<|
 (gJ aL aV bo 9).bind λz1=>
 ((if(z1.1==0)=Z then(
 if decide (0<(a2.Out.length:Int))=Z then(
 (gJ z1.2.1 z1.2.2.1 z1.2.2.2 (a2.Out.length:Int)).bind λz7=>
 (xK z7.2.1 z7.2.2.1 z7.2.2.2 a1).bind λz8=>
 (ix a2.Out z7.1).bind λx9=>
 J ((z8.2.1,z8.2.2.1,z8.2.2.2),a2.dB,a2.Out.set z7.1.toNat (an.mk x9.A z8.1),a2.br.cu,a2.br.aF,a2.br.Pi.aC,a2.br.Pi.aW,a2.br.Pi.aD,a2.Poly.bQ,a2.Poly.bL,a2.Poly.aF,a2.Poly.Pi.aC,a2.Poly.Pi.aW,a2.Poly.Pi.aD))else(
 J ((z1.2.1,z1.2.2.1,z1.2.2.2),a2.dB,a2.Out,a2.br.cu,a2.br.aF,a2.br.Pi.aC,a2.br.Pi.aW,a2.br.Pi.aD,a2.Poly.bQ,a2.Poly.bL,a2.Poly.aF,a2.Poly.Pi.aC,a2.Poly.Pi.aW,a2.Poly.Pi.aD)))else(
 if(z1.1==1)=Z then(
 (FP z1.2.1 z1.2.2.1 z1.2.2.2 a1 a2.br.Pi).bind λb7=>
 J ((b7.2.1,b7.2.2.1,b7.2.2.2),a2.dB,a2.Out,a2.br.cu,a2.br.aF,b7.1.aC,b7.1.aW,b7.1.aD,a2.Poly.bQ,a2.Poly.bL,a2.Poly.aF,a2.Poly.Pi.aC,a2.Poly.Pi.aW,a2.Poly.Pi.aD))else(
 if(z1.1==2)=Z then(
 (FP z1.2.1 z1.2.2.1 z1.2.2.2 a1 a2.Poly.Pi).bind λdk=>
 J ((dk.2.1,dk.2.2.1,dk.2.2.2),a2.dB,a2.Out,a2.br.cu,a2.br.aF,a2.br.Pi.aC,a2.br.Pi.aW,a2.br.Pi.aD,a2.Poly.bQ,a2.Poly.bL,a2.Poly.aF,dk.1.aC,dk.1.aW,dk.1.aD))else(
 if(z1.1==3)=Z then(
 (gJ z1.2.1 z1.2.2.1 z1.2.2.2 4).bind λfA=>
 J ((fA.2.1,fA.2.2.1,fA.2.2.2),fA.1,a2.Out,a2.br.cu,a2.br.aF,a2.br.Pi.aC,a2.br.Pi.aW,a2.br.Pi.aD,a2.Poly.bQ,a2.Poly.bL,a2.Poly.aF,a2.Poly.Pi.aC,a2.Poly.Pi.aW,a2.Poly.Pi.aD))else(
 if(z1.1==4)=Z then(
 if decide (1<(a2.Out.length:Int))=Z then(
 (ix a2.Out 0).bind λll=>
 (ix a2.Out 1).bind λog=>
 (ix (a2.Out.set 0 og) 1).bind λfI=>
 J ((z1.2.1,z1.2.2.1,z1.2.2.2),a2.dB,(a2.Out.set 0 og).set 1 ll,a2.br.cu,a2.br.aF,a2.br.Pi.aC,a2.br.Pi.aW,a2.br.Pi.aD,a2.Poly.bQ,a2.Poly.bL,a2.Poly.aF,a2.Poly.Pi.aC,a2.Poly.Pi.aW,a2.Poly.Pi.aD))else(
 J ((z1.2.1,z1.2.2.1,z1.2.2.2),a2.dB,a2.Out,a2.br.cu,a2.br.aF,a2.br.Pi.aC,a2.br.Pi.aW,a2.br.Pi.aD,a2.Poly.bQ,a2.Poly.bL,a2.Poly.aF,a2.Poly.Pi.aC,a2.Poly.Pi.aW,a2.Poly.Pi.aD)))else(
 J ((z1.2.1,z1.2.2.1,z1.2.2.2),a2.dB,a2.Out,a2.br.cu,a2.br.aF,a2.br.Pi.aC,a2.br.Pi.aW,a2.br.Pi.aD,a2.Poly.bQ,a2.Poly.bL,a2.Poly.aF,a2.Poly.Pi.aC,a2.Poly.Pi.aW,a2.Poly.Pi.aD)))))):Option (((List Int×Int×Int)×Int×List an×List Int×List Int×List Int×List Int×List Int×List Int×List Int×List Int×List Int×List Int×List Int))).bind λx4=>
 J ((en.mk x4.2.1 x4.2.2.1 (cH.mk x4.2.2.2.1 x4.2.2.2.2.1 (bZ.mk x4.2.2.2.2.2.1 x4.2.2.2.2.2.2.1 x4.2.2.2.2.2.2.2.1)) (ck.mk x4.2.2.2.2.2.2.2.2.1 x4.2.2.2.2.2.2.2.2.2.1 x4.2.2.2.2.2.2.2.2.2.2.1 (bZ.mk x4.2.2.2.2.2.2.2.2.2.2.2.1 x4.2.2.2.2.2.2.2.2.2.2.2.2.1 x4.2.2.2.2.2.2.2.2.2.2.2.2.2))),(x4.1.1,x4.1.2.1,x4.1.2.2)))
def zjm{aL aV bo a1 a2 r}(hr:JJ aL aV bo a1 a2=J r):ap Tryz.prog 54 [(.io,vB aL aV bo),(.sh,vE a1),(.sh,vN a2)] (Eo (vZ r.1) [vB r.2.1 r.2.2.1 r.2.2.2,.au,.au]):=by
 apply pE [0] hr zJ7 Tryz.func54;intro Φ ak hF g;unfold JJ at hF;obtain⟨g,hF⟩:=Rg g hF
 iterate 2 refine wW ?_
 refine wK [0,4,5,6,7] ?_;try simp[go_sem,g]
 try intros
 refine bu ?_;try simp[go_sem,g]
 try intros
 refine wC hF [.io,.sh] ka λz1 hF=>?_
 refine wW ?_;refine wJ hF (λx4=>[(0,.v (vB x4.1.1 x4.1.2.1 x4.1.2.2)),(6,.bl [.int .i64 0,.sl Z 2 [],.sl Z 1 [],.sl Z 1 [],.sl Z 1 [],.sl Z 1 [],.sl Z 1 [],.sl Z 1 [],.sl Z 1 [],.sl Z 1 [],.sl Z 1 [],.sl Z 1 [],.sl Z 1 []]),(7,.bl [.int .i64 x4.2.1,vG x4.2.2.1,vC x4.2.2.2.1,vC x4.2.2.2.2.1,vC x4.2.2.2.2.2.1,vC x4.2.2.2.2.2.2.1,vC x4.2.2.2.2.2.2.2.1,vC x4.2.2.2.2.2.2.2.2.1,vC x4.2.2.2.2.2.2.2.2.2.1,vC x4.2.2.2.2.2.2.2.2.2.2.1,vC x4.2.2.2.2.2.2.2.2.2.2.2.1,vC x4.2.2.2.2.2.2.2.2.2.2.2.2.1,vC x4.2.2.2.2.2.2.2.2.2.2.2.2.2])]) (λx4 hF=>?_) λ_ hj0 hF=>?_
 ·exact wl ak hF
 refine wB ?_;refine wW ?_;refine wI hF (λh5 hF=>?_) λh5 hF=>?_
 ·refine wK [0,4,6,7,8,24] ?_;refine wI hF (λh6 hF=>?_) λh6 hF=>?_
  ·refine wZ (kE [0,1,2,3,5,6,4,7,8,9,10] [57,58,0,0,0,34,3,3,0,0,0]) follows ?_;have jc:= @ka;have BJ:= @Ma;exact wL
  exact wT (hj0 _) (eZ hF)
 refine wK [0,4,5,6,7,8,20,35] ?_;refine wI hF (λxD hF=>?_) λxD hF=>?_
 ·refine wC hF [.io,.sh,.sh] ZV λb7 hF=>?_
  try simp[go_sem,g]
  refine jM 7 4 (by simp[go_sem,g];rfl) rfl (by simp[go_sem]) ?_;refine jM 7 5 (by simp[go_sem,g];rfl) rfl (by simp[go_sem]) ?_;refine jM 7 6 (by simp[go_sem,g];rfl) rfl (by simp[go_sem]) ?_;exact wT (hj0 _) (eZ hF)
 refine wW ?_;refine wI hF (λh12 hF=>?_) λh12 hF=>?_
 ·refine wC hF [.io,.sh,.sh] ZV λdk hF=>?_
  try simp[go_sem,g]
  refine jM 7 10 (by simp[go_sem,g];rfl) rfl (by simp[go_sem]) ?_;refine jM 7 11 (by simp[go_sem,g];rfl) rfl (by simp[go_sem]) ?_;refine jM 7 12 (by simp[go_sem,g];rfl) rfl (by simp[go_sem]) ?_;exact wT (hj0 _) (eZ hF)
 refine wW ?_;refine wI hF (λQO hF=>?_) λQO hF=>?_
 ·have jc:= @ka;exact wL
 refine wW ?_;refine wI hF (λCP hF=>?_) λCP hF=>?_
 ·refine wW ?_;refine wI hF (λTy hF=>?_) λTy hF=>?_
  ·obtain⟨ll,g,hF⟩:=j8 g 0 hF;refine wK [0,6,7,9] ?_;refine wZ (kD 0 [57,58,57,58,0,0,0,0]) follows ?_;obtain⟨og,g,hF⟩:=j8 g 1 hF;obtain⟨fI,g,hF⟩:=j8 g 1 hF;try simp only[KF]at g
   exact wL
  exact wT (hj0 _) (eZ hF)
 exact wT (hj0 _) (eZ hF)
def HP(a0:List Int):Option (am×Int×List an×en):=
 (Fr a0).bind λz1=>
 (sV z1.1 z1.2.1 z1.2.2.1 z1.2.2.2.1 z1.2.2.2.2.1 z1.2.2.2.2.2).bind λz2=>
 (JJ a0 0 0 z1.1 z2.1).bind λz3=>
 J (z1.1,z1.2.1,z1.2.2.1,z3.1)
def zlA{a0 r}(hr:HP a0=J r):ap Tryz.prog 14 [(.sh,vA a0)] (Eo (.bO [vE r.1,.int .i64 r.2.1,vG r.2.2.1,vZ r.2.2.2]) [.au]):=by
 apply pF 44 [] [42] [26] [.cell 2 25,.tmp 3,.tmp 4,.cell 5 37] hr zKo Tryz.func14;intro Φ ak hF g;unfold HP at hF;refine wW ?_;refine wE hF YZ λz1 hF=>?_
 refine wK [0,2,5,6,7,8,9,10,11] ?_;refine wW ?_;refine wE hF Xs λz2 hF=>?_
 refine wK [2,5,6,7,8,12,13] ?_;refine wZ (kD 0 [50,0,0,0,50,106,3,18,0,0,42]) follows ?_;have Pl:= @zjm;exact wL
def Ke(a0:am)(a1:Int)(a2:cH):Option Bool:=
 ((if((a2.cu.length:Int)==a1)=Z then(
 if((a2.aF.length:Int)==a1)=Z then(
 if((a2.Pi.aC.length:Int)==(i64.wrap (a1+5)))=Z then(
 if((a2.Pi.aW.length:Int)==1)=Z then(
 if((a2.Pi.aD.length:Int)==(i64.wrap ((i64.wrap (2*a1))+4)))=Z then(
 (p6 a0 a2.cu).bind λz9=>
 if z9=Z then(
 (p6 a0 a2.aF).bind λb7=>
 if b7=Z then(
 (p6 a0 a2.Pi.aC).bind λdk=>
 if dk=Z then(
 (rI a0 a2.Pi.aD).bind λfA=>
 J fA)else(
 J aa))else(
 J aa))else(
 J aa))else(
 J aa))else(
 J aa))else(
 J aa))else(
 J aa))else(
 J aa):Option Bool).bind λx3=>
 J x3)
def zrK{a0 a1 a2 r}(hr:Ke a0 a1 a2=J r):ap Tryz.prog 205 [(.sh,vE a0),(.sh,.int .i64 a1),(.sh,vL a2)] (Eo (.bool r) gx):=by
 apply pE [] hr zFU Tryz.func205;intro Φ ak hF g;unfold Ke at hF;refine wW ?_;refine wJ hF (λx3=>[(6,.v (.bool x3))]) (λx3 hF=>?_) λ_ hj0 hF=>?_
 ·exact wm ak hF
 have c0:= @Nd;have c1:= @HY;exact wL
def J6(a0:am)(a1:Int):Option Int:=
 (k9 a1 (i64.wrap (a0.Q-1)) a0.P).bind λz1=>
 J z1
def zux{a0 a1 r}(hr:J6 a0 a1=J r):ap Tryz.prog 206 [(.sh,vE a0),(.sh,.int .i64 a1)] (Eo (.int .i64 r) cI):=by
 apply pE [] hr zFA Tryz.func206;intro Φ ak hF g;unfold J6 at hF;have c0:= @xU;exact wL
def Kt(a0:am)(a1:Int)(a2:cr)(a3:List an)(a4:List an)(a5:cH):Option Bool:=
 ((if((a4.length:Int) !=(a3.length:Int))=Z then(
 J Z)else(
 (Ke a0 (a3.length:Int) a5).bind λz5=>
 if(!z5)=Z then(
 J Z)else(
 (ix a5.Pi.aW 0).bind λx7=>
 (Ar a0 a1 a3 a4 a5).bind λz8=>
 J (x7 !=z8))):Option Bool).bind λx3=>
 if x3=Z then(
 J aa)else(
 (ix a5.Pi.aW 0).bind λer=>
 gd (0<=(i64.wrap ((a3.length:Int)+4)))<|
 gd ((i64.wrap ((a3.length:Int)+4)).toNat<=a5.Pi.aD.length/\a5.Pi.aD.length<=a5.Pi.aD.length)<|
 (yI a0 a1 a3 a4 a5.cu).bind λb7=>
 ((aS (σ:=Int) (λi16 sk=>
 (ix b7 i16).bind λLc=>
 gd (a0.Q≠0)<|
 J (.go ((i64.wrap (sk*Lc)).tmod a0.Q))) (λsk=>sk) (b7.length) 0 1:Option Int).bind λe8=>
 (uY a3).bind λnm=>
 (uY a4).bind λfP=>
 (ix a5.aF (i64.wrap ((a3.length:Int)-1))).bind λj6=>
 (d8 a0 a5.cu).bind λeY=>
 (d8 a0 a2.Hs).bind λgp=>
 (J6 a0 gp).bind λJx=>
 (d8 a0 [eY,Jx]).bind λiC=>
 (lq a0 a5.cu b7).bind λnI=>
 (cD a0 a2.H (i64.wrap (0-e8))).bind λgZ=>
 (d8 a0 [j6,gZ]).bind λu9=>
 (lq a0 nm.1 b7).bind λzo=>
 (lq a0 nm.2 b7).bind λuy=>
 (ix a5.Pi.aD 0).bind λvo=>
 (ix a5.Pi.aD 1).bind λky=>
 (ix a5.Pi.aD 2).bind λuv=>
 (ix a5.Pi.aD 3).bind λRD=>
 (cD a0 a0.G vo).bind λBu=>
 (cD a0 a0.G ky).bind λBc=>
 (lq a0 a2.Hs ((a5.Pi.aD.take a5.Pi.aD.length).drop ((i64.wrap ((a3.length:Int)+4)).toNat))).bind λyQ=>
 (d8 a0 [Bc,yQ]).bind λF9=>
 (cD a0 a0.G uv).bind λDT=>
 (cD a0 a0.G (i64.wrap (0-RD))).bind λE5=>
 (lq a0 fP.1 ((a5.Pi.aD.take a5.Pi.aD.length).drop ((i64.wrap ((a3.length:Int)+4)).toNat))).bind λNM=>
 (d8 a0 [E5,NM]).bind λxf=>
 (cD a0 a1 (i64.wrap (0-RD))).bind λzQ=>
 (lq a0 fP.2 ((a5.Pi.aD.take a5.Pi.aD.length).drop ((i64.wrap ((a3.length:Int)+4)).toNat))).bind λqV=>
 (d8 a0 [zQ,qV]).bind λBg=>
 ((aS (σ:=(List Int)×List Int×Int) (λuI il=>
 (ix a5.aF uI).bind λyn=>
 gd ((il.1.length+1)*8<=140737488355328/\il.1.length+1<=4611686018427387904)<|
 (ix a5.Pi.aD (i64.wrap (4+uI))).bind λNG=>
 (ix ((a5.Pi.aD.take a5.Pi.aD.length).drop ((i64.wrap ((a3.length:Int)+4)).toNat)) uI).bind λqO=>
 (cD a0 a0.G NG).bind λIE=>
 (cD a0 il.2.2 qO).bind λIe=>
 (d8 a0 [IE,Ie]).bind λqI=>
 gd ((il.2.1.length+1)*8<=140737488355328/\il.2.1.length+1<=4611686018427387904)<|
 J (.go (il.1++[yn],il.2.1++[qI],yn))) (λil=>(il.1,il.2.1)) (a5.aF.length) 0 ([iC,nI,u9,zo,uy],[Bu,F9,DT,xf,Bg],a2.H):Option ((List Int×List Int))).bind λxZ=>
 ((aS (σ:=Unit) (λFE TU=>
 (ix xZ.1 FE).bind λBA=>
 (ix a5.Pi.aC FE).bind λEh=>
 (ix xZ.2 FE).bind λpY=>
 (cD a0 BA er).bind λwj=>
 (d8 a0 [Eh,wj]).bind λoq=>
 if(oq !=pY)=Z then(
 J (.out (.inr aa)))else(
 J (.go ()))) (λTU=>.inl ()) (xZ.1.length) 0 ():Option (Unit ⊕ Bool)).bind (Sum.elim (λwN=>
 J Z) J))))))
set_option maxHeartbeats 16000000 in
def zq2{a0 a1 a2 a3 a4 a5 r}(hr:Kt a0 a1 a2 a3 a4 a5=J r):ap Tryz.prog 166 [(.sh,vE a0),(.sh,.int .i64 a1),(.sh,vJ a2),(.sh,vH a3),(.sh,vH a4),(.sh,vL a5)] (Eo (.bool r) rn):=by
 apply pE [] hr zGK Tryz.func166;intro Φ ak hF g;unfold Kt at hF
 iterate 2 (try simp[go_sem,g];try intros;refine bu ?_)
 refine bT hF [1,3,4,6,8,11,13] (λx3=>[(59,.v (.bool x3))]) (λx3 hF=>?_) λ_ hj0 hF=>?_
 ·refine wI hF (λh9 hF=>?_) λh9 hF=>?_
  ·exact wl ak hF
  obtain⟨er,g,hF⟩:=j8 g 0 hF;refine wW ?_;refine wK [1,3,4,6,8,11,13,14] ?_;refine wZ (kD 0 [89,89,90,89,89,90,0,0]) follows ?_
  iterate 2 obtain⟨g,hF⟩:=Rg g hF
  refine wW ?_;refine wK [1,3,4,6,8,11,13,14,15,16,17] ?_;refine wE hF WO λb7 hF=>?_
  iterate 2 (try simp[go_sem,g];try intros;refine bu ?_)
  try simp[go_sem,g]
  try intros
  refine wK [1,3,4,6,8,11,13,14,15,16,17,18,19,82,83,84] ?_;refine bT hF [1,3,4,6,8,11,13,14,15,16,17,18] (λe8=>[(19,.v (.int .i64 e8))]) (λe8 hF=>?_) λ_ hj0 hF=>?_
  ·refine wE hF DX λnm hF=>?_
   refine wW ?_;refine wE hF DX λfP hF=>?_
   refine wK [1,6,8,11,13,14,15,16,17,18,19,22,23,24,25] ?_;refine wZ (kE [0,1,2,3,5,6,7,8,13,14,15,16,18,19,20,21,22,23,24,25,26,27,28,29,33,34,35,37,38,39,4,9,10,11,12,17,30,31,32,36,40,41,42] [50,50,89,90,50,50,65,66,50,89,90,0,50,89,90,0,0,0,0,50,65,66,0,0,50,0,0,50,0,0,4,4,4,0,7,4,4,0,6,3,3,0,7]) follows ?_;obtain⟨j6,g,hF⟩:=Rx g hF;refine wD hF hJ λeY hF=>?_
   refine wD hF hJ λgp hF=>?_
   refine wD hF zux λJx hF=>?_
   refine wD hF hJ λiC hF=>?_
   refine wD hF oS λnI hF=>?_
   refine wD hF fm λgZ hF=>?_
   refine wE hF hJ λu9 hF=>?_
   refine wE hF oS λzo hF=>?_
   refine wE hF oS λuy hF=>?_
   refine wK [1,6,8,11,14,15,16,17,24,25,26] ?_;refine wZ (kE [0,1,2,3,4,5,7,8,9,10,11,12,13,15,16,17,18,22,23,24,25,26,27,29,30,31,32,33,34,35,36,38,39,40,44,45,46,47,48,49,50,52,53,54,6,14,19,20,21,28,37,41,42,43,51,55,56,57,58,59] [50,49,50,0,0,0,50,50,49,50,0,0,0,50,65,66,0,50,49,50,0,0,0,50,50,49,50,0,0,0,0,50,0,0,50,50,0,0,0,0,0,50,0,0,4,4,4,0,7,4,4,4,0,7,3,3,0,6,0,7]) follows ?_;obtain⟨vo,g,hF⟩:=j8 g 0 hF;obtain⟨ky,g,hF⟩:=j8 g 1 hF;obtain⟨uv,g,hF⟩:=j8 g 2 hF;obtain⟨RD,g,hF⟩:=j8 g 3 hF;refine wD hF fm λBu hF=>?_
   refine wD hF fm λBc hF=>?_
   refine wD hF oS λyQ hF=>?_
   refine wD hF hJ λF9 hF=>?_
   refine wD hF fm λDT hF=>?_
   refine wD hF fm λE5 hF=>?_
   refine wD hF oS λNM hF=>?_
   refine wD hF hJ λxf hF=>?_
   refine wE hF fm λzQ hF=>?_
   refine wE hF oS λqV hF=>?_
   refine wE hF hJ λBg hF=>?_
   refine wK [6,8,11,14,15,16,17,26,27] ?_
   iterate 2 (try simp[go_sem,g];try intros;refine bu ?_)
   refine bT hF [6,14,15] (λxZ=>[(26,.v (vD xZ.1)),(27,.v (vD xZ.2))]) (λxZ hF=>?_) λ_ hj0 hF=>?_
   ·try simp[go_sem,g]
    try intros
    refine wK [6,14,15,26,27,244,245,246] ?_;refine wS hF (λwN=>[]) (λwN hF=>?_) λ_ hj0 dD hF=>?_
    ·exact wl ak hF
    refine wR hF [6,14,15,26,27,244,245] (λFE TU=>[(246,.v (.int .i64 FE))]) λb bg FE TU _ _ aO aN bp ba hF=>?_
    refine wW ?_;refine wu aO aN ?_;refine wW ?_;refine wB ?_;obtain⟨BA,g,hF⟩:=Rx g hF;refine wW ?_;refine wZ (kE [0,1,2,3,4,5,6,7,11,12,13,14,8,9,10,15] [50,0,0,0,0,50,0,0,0,0,0,0,4,0,7,0]) follows ?_;have c0:= @fm;have c1:= @hJ;exact wL
   refine wR hF [6,14,15,16,17,209,210] (λuI il=>[(26,.v (vD il.1)),(27,.v (vD il.2.1)),(28,.v (.int .i64 il.2.2)),(211,.v (.int .i64 uI))]) λb bg uI il _ _ aO aN bp ba hF=>?_
   refine wW ?_;refine wu aO aN ?_;refine wW ?_;refine wB ?_;obtain⟨yn,g,hF⟩:=Rx g hF;refine wK [6,14,15,16,17,26,27,28,29,30,209,210,211] ?_;obtain⟨g,hF⟩:=Rg g hF;refine wW ?_;refine wZ (kE [0,1,2,3,4,5,6,7,8,9,11,12,13,14,15,16,10,17,18,19,20,21,22] [0,50,50,49,50,0,0,0,0,0,50,0,0,0,0,0,4,3,0,6,0,5,0]) follows ?_;obtain⟨NG,g,hF⟩:=Rx g hF;obtain⟨qO,g,hF⟩:=iy g hF;have c0:= @fm;have c1:= @hJ;exact wL
  refine wR hF [1,3,4,6,8,11,13,14,15,16,17,18,82,83] (λi16 sk=>[(19,.v (.int .i64 sk)),(84,.v (.int .i64 i16))]) λb bg i16 sk _ _ aO aN bp ba hF=>?_
  exact wL
 refine wZ (kD 0 [0,0,0,0,0,50,0,90,3,0,0,0,89,89,90,0,0,50,0,0,0,90,4,0,0]) follows ?_;have c0:= @zrK;have c1:= @XG;exact wL
def Fz(a0:am)(a1:Int)(a2:List an)(a3:List an)(a4:cH):Option (Bool×Bool):=
 (((p7 a0 a1 a2).bind λz4=>
 if(!z4)=Z then(
 J Z)else(
 (p7 a0 a1 a3).bind λz6=>
 J (!z6)):Option Bool).bind λx3=>
 if x3=Z then(
 J (aa,aa))else(
 (sB a0 (a2.length:Int)).bind λz8=>
 if(!z8.2)=Z then(
 J (aa,aa))else(
 (Kt a0 a1 z8.1 a2 a3 a4).bind λbX=>
 J (bX,Z))))
def zm3{a0 a1 a2 a3 a4 r}(hr:Fz a0 a1 a2 a3 a4=J r):ap Tryz.prog 104 [(.sh,vE a0),(.sh,.int .i64 a1),(.sh,vH a2),(.sh,vH a3),(.sh,vL a4)] (Eo (.bO [.bool r.1,.bool r.2]) rZ):=by
 apply pE [] hr zFc Tryz.func104;intro Φ ak hF g;unfold Fz at hF;refine wW ?_;refine bT hF [1,2,3,5,9] (λx3=>[(25,.v (.bool x3))]) (λx3 hF=>?_) λ_ hj0 hF=>?_
 ·have c0:= @Lh;have c1:= @zq2;exact wL
 have c0:= @IF;exact wL
def Dv(a0:bZ):Option Bool:=
 J ((i64.wrap ((i64.wrap ((a0.aC.length:Int)+(a0.aW.length:Int)))+(a0.aD.length:Int)))==0)
def ZU{a0 r}(hr:Dv a0=J r):ap Tryz.prog 167 [(.sh,vS a0)] (Eo (.bool r) [.au]):=by
 apply pE [] hr zF1 Tryz.func167;intro Φ ak hF g;unfold Dv at hF;exact wL
def J3(a0:ck):Option Bool:=
 ((if((i64.wrap ((i64.wrap ((a0.bQ.length:Int)+(a0.bL.length:Int)))+(a0.aF.length:Int)))==0)=Z then(
 (Dv a0.Pi).bind λz5=>
 J z5)else(
 J aa):Option Bool).bind λx3=>
 J x3)
def zqC{a0 r}(hr:J3 a0=J r):ap Tryz.prog 105 [(.sh,vM a0)] (Eo (.bool r) [.au]):=by
 apply pE [] hr zHB Tryz.func105;intro Φ ak hF g;unfold J3 at hF;refine wW ?_;refine wJ hF (λx3=>[(2,.v (.bool x3))]) (λx3 hF=>?_) λ_ hj0 hF=>?_
 ·exact wm ak hF
 have c0:= @ZU;exact wL
def Jc(a0:am)(a1:Int)(a2:ck):Option Bool:=
 ((if((a2.bQ.length:Int)==a1)=Z then(
 if((a2.bL.length:Int)==a1)=Z then(
 if((a2.aF.length:Int)==a1)=Z then(
 if((a2.Pi.aC.length:Int)==(i64.wrap ((i64.wrap (3*a1))+3)))=Z then(
 if((a2.Pi.aW.length:Int)==1)=Z then(
 if((a2.Pi.aD.length:Int)==(i64.wrap ((i64.wrap (5*a1))+2)))=Z then(
 (p6 a0 a2.bQ).bind λbX=>
 if bX=Z then(
 (p6 a0 a2.bL).bind λbH=>
 if bH=Z then(
 (p6 a0 a2.aF).bind λeT=>
 if eT=Z then(
 (p6 a0 a2.Pi.aC).bind λlI=>
 if lI=Z then(
 (rI a0 a2.Pi.aD).bind λfN=>
 J fN)else(
 J aa))else(
 J aa))else(
 J aa))else(
 J aa))else(
 J aa))else(
 J aa))else(
 J aa))else(
 J aa))else(
 J aa))else(
 J aa):Option Bool).bind λx3=>
 J x3)
def zrE{a0 a1 a2 r}(hr:Jc a0 a1 a2=J r):ap Tryz.prog 207 [(.sh,vE a0),(.sh,.int .i64 a1),(.sh,vM a2)] (Eo (.bool r) gx):=by
 apply pE [] hr zGE Tryz.func207;intro Φ ak hF g;unfold Jc at hF;refine wW ?_;refine wJ hF (λx3=>[(6,.v (.bool x3))]) (λx3 hF=>?_) λ_ hj0 hF=>?_
 ·exact wm ak hF
 have c0:= @Nd;have c1:= @HY;exact wL
def Ka(a0:Int)(a1:Int)(a2:Int)(a3:Int)(a4:Int):Option Int:=
 gd (a0≠0)<|
 ((dJ (σ:=Int×Int×Int) (λs4=>
 if decide (s4.2.2<=a1)=Z then(
 gd (a0≠0)<|
 gd (a0≠0)<|
 (qr (i64.wrap ((i64.wrap ((i64.wrap (a3*(s4.2.2.tmod a0)))+((i64.wrap (s4.2.1*a2)).tmod a0)))-a4)) a0).bind λbX=>
 gd (a0≠0)<|
 J (.go ((i64.wrap (s4.1*bX)).tmod a0,(i64.wrap (s4.2.1*a2)).tmod a0,i64.wrap (s4.2.2+1))))else(
 J (.out s4.1))) ((1:Int).tmod a0,1,1):Option Int).bind λx3=>
 J x3)
def zqD{a0 a1 a2 a3 a4 r}(hr:Ka a0 a1 a2 a3 a4=J r):ap Tryz.prog 208 [(.sh,.int .i64 a0),(.sh,.int .i64 a1),(.sh,.int .i64 a2),(.sh,.int .i64 a3),(.sh,.int .i64 a4)] (Eo (.int .i64 r) rZ):=by
 apply pE [] hr zHu Tryz.func208;intro Φ ak hF g;unfold Ka at hF;obtain⟨g,hF⟩:=Rz g hF
 iterate 3 refine wW ?_
 refine wJ hF (λx3=>[(11,.v (.int .i64 x3))]) (λx3 hF=>?_) λ_ hj0 hF=>?_
 ·exact wl ak hF
 refine wB ?_;obtain⟨KY,xH,bg⟩:=hF;refine jQ xH [0,1,2,3,4] (λs4=>[(11,.v (.int .i64 s4.1)),(12,.v (.int .i64 s4.2.1)),(13,.v (.int .i64 s4.2.2))]) λs4 _ _ bp ba hF=>?_
 have c0:= @Km;exact wL
def Em(a0:am)(a1:Int)(a2:Int):Option ((List Int)):=
 ((dJ (σ:=(List Int)×Int) (λs4=>
 if decide (s4.2<=a1)=Z then(
 (k9 a2 s4.2 a0.Q).bind λbX=>
 gd ((s4.1.length+1)*8<=140737488355328/\s4.1.length+1<=4611686018427387904)<|
 J (.go (s4.1++[bX],i64.wrap (s4.2+1))))else(
 J (.out s4.1))) ([],1):Option ((List Int))).bind λx3=>
 J x3)
def VW{a0 a1 a2 r}(hr:Em a0 a1 a2=J r):ap Tryz.prog 209 [(.sh,vE a0),(.sh,.int .i64 a1),(.sh,.int .i64 a2)] (Eo (vD r) gx):=by
 apply pE [] hr zGd Tryz.func209;intro Φ ak hF g;unfold Em at hF
 iterate 3 refine wW ?_
 refine wJ hF (λx3=>[(7,.v (vD x3))]) (λx3 hF=>?_) λ_ hj0 hF=>?_
 ·exact wl ak hF
 refine wB ?_;obtain⟨KY,xH,bg⟩:=hF;refine jQ xH [1,2,3] (λs4=>[(7,.v (vD s4.1)),(8,.v (.int .i64 s4.2))]) λs4 _ _ bp ba hF=>?_
 have c0:= @xU;exact wL
def CI(a0:am)(a1:Int)(a2:Int)(a3:List an)(a4:List an)(a5:ck):Option Bool:=
 ((if((a4.length:Int) !=(a3.length:Int))=Z then(
 J Z)else(
 (Jc a0 (a3.length:Int) a5).bind λz5=>
 if(!z5)=Z then(
 J Z)else(
 (ix a5.Pi.aW 0).bind λx7=>
 (yO a0 a1 a3 a4 a5).bind λz8=>
 J (x7 !=z8))):Option Bool).bind λx3=>
 if x3=Z then(
 J aa)else(
 (ix a5.Pi.aW 0).bind λer=>
 (rD a1 a3 a4 a5.bQ).bind λb7=>
 (pd a0 (⟨#[109,105,120,32,120]⟩:ByteArray) b7).bind λbH=>
 (Ak a0 a1 a3 a4 a5.bQ a5.bL).bind λdk=>
 gd (0<=(i64.wrap ((i64.wrap (3*(a3.length:Int)))+1)))<|
 gd (0<=(i64.wrap ((i64.wrap (4*(a3.length:Int)))+1)))<|
 gd ((i64.wrap ((i64.wrap (3*(a3.length:Int)))+1)).toNat<=(i64.wrap ((i64.wrap (4*(a3.length:Int)))+1)).toNat/\(i64.wrap ((i64.wrap (4*(a3.length:Int)))+1)).toNat<=a5.Pi.aD.length)<|
 (ix a5.Pi.aD (i64.wrap ((i64.wrap (5*(a3.length:Int)))+1))).bind λe8=>
 ((dJ (σ:=(List Int)×List Int×Int) (λfi=>
 if decide (fi.2.2<(a3.length:Int))=Z then(
 (ix a5.bQ fi.2.2).bind λCr=>
 (ix a5.bL fi.2.2).bind λqH=>
 (cD a0 Cr dk.1).bind λiT=>
 (cD a0 a0.G (i64.wrap (0-dk.2))).bind λnm=>
 (d8 a0 [iT,qH,nm]).bind λfP=>
 gd ((fi.1.length+1)*8<=140737488355328/\fi.1.length+1<=4611686018427387904)<|
 (ix a5.Pi.aD fi.2.2).bind λj6=>
 (ix a5.Pi.aD (i64.wrap ((a3.length:Int)+fi.2.2))).bind λEa=>
 (nD a0 a2 j6 Ea).bind λgp=>
 gd ((fi.2.1.length+1)*8<=140737488355328/\fi.2.1.length+1<=4611686018427387904)<|
 J (.go (fi.1++[fP],fi.2.1++[gp],i64.wrap (fi.2.2+1))))else(
 J (.out (fi.1,fi.2.1)))) ([],[],0):Option ((List Int×List Int))).bind λbG=>
 ((dJ (σ:=(List Int)×List Int×Int×Int) (λfh=>
 if decide (fh.2.2.2<(a3.length:Int))=Z then(
 (ix a5.aF fh.2.2.2).bind λvq=>
 gd ((fh.1.length+1)*8<=140737488355328/\fh.1.length+1<=4611686018427387904)<|
 (ix a5.Pi.aD fh.2.2.2).bind λA5=>
 (ix a5.Pi.aD (i64.wrap ((i64.wrap (2*(a3.length:Int)))+fh.2.2.2))).bind λBG=>
 (cD a0 fh.2.2.1 A5).bind λF9=>
 (cD a0 a2 BG).bind λDT=>
 (d8 a0 [F9,DT]).bind λE5=>
 gd ((fh.2.1.length+1)*8<=140737488355328/\fh.2.1.length+1<=4611686018427387904)<|
 J (.go (fh.1++[vq],fh.2.1++[E5],vq,i64.wrap (fh.2.2.2+1))))else(
 J (.out (fh.1,fh.2.1)))) (bG.1,bG.2,a0.G,0):Option ((List Int×List Int))).bind λnP=>
 (ix a5.aF (i64.wrap ((a3.length:Int)-1))).bind λYt=>
 (Ka a0.Q (a3.length:Int) bH dk.1 dk.2).bind λqV=>
 (cD a0 a0.G (i64.wrap (0-qV))).bind λBg=>
 (d8 a0 [Yt,Bg]).bind λVc=>
 gd ((nP.1.length+1)*8<=140737488355328/\nP.1.length+1<=4611686018427387904)<|
 (ix a5.Pi.aD (i64.wrap (3*(a3.length:Int)))).bind λiF=>
 (cD a0 a2 iF).bind λz56=>
 gd ((nP.2.length+1)*8<=140737488355328/\nP.2.length+1<=4611686018427387904)<|
 ((dJ (σ:=(List Int)×List Int×Int) (λfO=>
 if decide (fO.2.2<(a3.length:Int))=Z then(
 (ix a5.bL fO.2.2).bind λqO=>
 gd ((fO.1.length+1)*8<=140737488355328/\fO.1.length+1<=4611686018427387904)<|
 (ix ((a5.Pi.aD.take ((i64.wrap ((i64.wrap (4*(a3.length:Int)))+1)).toNat)).drop ((i64.wrap ((i64.wrap (3*(a3.length:Int)))+1)).toNat)) fO.2.2).bind λMb=>
 (ix a5.Pi.aD (i64.wrap ((i64.wrap ((i64.wrap (4*(a3.length:Int)))+1))+fO.2.2))).bind λGT=>
 (nD a0 a2 Mb GT).bind λqI=>
 gd ((fO.2.1.length+1)*8<=140737488355328/\fO.2.1.length+1<=4611686018427387904)<|
 J (.go (fO.1++[qO],fO.2.1++[qI],i64.wrap (fO.2.2+1))))else(
 J (.out (fO.1,fO.2.1)))) (nP.1++[Vc],nP.2++[z56],0):Option ((List Int×List Int))).bind λn8=>
 (uY a3).bind λoH=>
 (uY a4).bind λrJ=>
 (Em a0 (a3.length:Int) bH).bind λyl=>
 (lq a0 oH.1 yl).bind λD8=>
 (Em a0 (a3.length:Int) bH).bind λNq=>
 (lq a0 oH.2 Nq).bind λVj=>
 gd ((n8.1.length+2)*8<=140737488355328/\n8.1.length+2<=4611686018427387904)<|
 (cD a0 a0.G (i64.wrap (0-e8))).bind λCe=>
 (lq a0 rJ.1 ((a5.Pi.aD.take ((i64.wrap ((i64.wrap (4*(a3.length:Int)))+1)).toNat)).drop ((i64.wrap ((i64.wrap (3*(a3.length:Int)))+1)).toNat))).bind λBH=>
 (d8 a0 [Ce,BH]).bind λvd=>
 (cD a0 a1 (i64.wrap (0-e8))).bind λnp=>
 (lq a0 rJ.2 ((a5.Pi.aD.take ((i64.wrap ((i64.wrap (4*(a3.length:Int)))+1)).toNat)).drop ((i64.wrap ((i64.wrap (3*(a3.length:Int)))+1)).toNat))).bind λC4=>
 (d8 a0 [np,C4]).bind λI8=>
 gd ((n8.2.length+2)*8<=140737488355328/\n8.2.length+2<=4611686018427387904)<|
 ((aS (σ:=(List Int)×List Int) (λvy oU=>
 (ix a5.Pi.aC vy).bind λGq=>
 (ix oU.1 vy).bind λQj=>
 (ix oU.2 vy).bind λPu=>
 (cD a0 Qj er).bind λGm=>
 (d8 a0 [Gq,Gm]).bind λPL=>
 if(PL !=Pu)=Z then(
 J (.out (.inr aa)))else(
 J (.go (oU.1,oU.2)))) (λoU=>.inl ()) (a5.Pi.aC.length) 0 (n8.1++[D8,Vj],n8.2++[vd,I8]):Option (Unit ⊕ Bool)).bind (Sum.elim (λpY=>
 J Z) J)))))))
set_option maxHeartbeats 16000000 in
def zq0{a0 a1 a2 a3 a4 a5 r}(hr:CI a0 a1 a2 a3 a4 a5=J r):ap Tryz.prog 168 [(.sh,vE a0),(.sh,.int .i64 a1),(.sh,.int .i64 a2),(.sh,vH a3),(.sh,vH a4),(.sh,vM a5)] (Eo (.bool r) rn):=by
 apply pE [] hr zHf Tryz.func168;intro Φ ak hF g;unfold CI at hF
 iterate 2 (try simp[go_sem,g];try intros;refine bu ?_)
 refine bT hF [1,2,3,4,6,11,13] (λx3=>[(59,.v (.bool x3))]) (λx3 hF=>?_) λ_ hj0 hF=>?_
 ·refine wI hF (λh9 hF=>?_) λh9 hF=>?_
  ·exact wl ak hF
  obtain⟨er,g,hF⟩:=j8 g 0 hF;refine wW ?_;refine wK [1,2,3,4,6,11,13,14] ?_;refine wW ?_;refine wZ (kD 0 [50,0,0,0,89,90,3,3,0]) follows ?_;refine wE hF F3 λb7 hF=>?_
  refine wE hF Fg λbH hF=>?_
  refine wK [1,2,3,4,6,11,13,14,15,16] ?_;refine wE hF zl3 λdk hF=>?_
  refine wK [1,2,3,4,6,11,13,14,15,16,17,18] ?_
  iterate 3 obtain⟨g,hF⟩:=Rg g hF
  obtain⟨e8,g,hF⟩:=Rx g hF;refine wW ?_;refine wK [1,2,3,4,6,11,13,14,15,16,17,18,19,20] ?_
  iterate 2 refine wW ?_
  refine bT hF [1,2,3,4,6,11,13,14,15,16,17,18,19,20] (λbG=>[(21,.v (vD bG.1)),(22,.v (vD bG.2))]) (λbG hF=>?_) λ_ hj0 hF=>?_
  ·iterate 2 refine wW ?_
   refine bT hF [1,2,3,4,6,11,13,14,15,16,17,18,19,20] (λnP=>[(21,.v (vD nP.1)),(22,.v (vD nP.2))]) (λnP hF=>?_) λ_ hj0 hF=>?_
   ·refine wZ (kD 0 [0,50,89,90,0,0,0,0,50,49,50,49,50,0,0,0,0,4,0,4,0,6,0,5,0]) follows ?_;obtain⟨Yt,g,hF⟩:=Rx g hF;refine wD hF zqD λqV hF=>?_
    refine wD hF fm λBg hF=>?_
    refine wE hF hJ λVc hF=>?_
    obtain⟨g,hF⟩:=Rg g hF;refine wK [1,2,3,4,6,11,13,14,15,16,19,20,21,22] ?_;refine wZ (kD 0 [0,50,0,0,0,0,0,0,3,0,5,0]) follows ?_;obtain⟨iF,g,hF⟩:=Rx g hF;refine wE hF fm λz56 hF=>?_
    obtain⟨g,hF⟩:=Rg g hF;refine wK [1,2,3,4,6,11,13,14,15,16,19,20,21,22] ?_;refine wW ?_;refine bT hF [1,3,4,6,11,13,14,16,19,20] (λn8=>[(21,.v (vD n8.1)),(22,.v (vD n8.2))]) (λn8 hF=>?_) λ_ hj0 hF=>?_
    ·refine wE hF DX λoH hF=>?_
     refine wW ?_;refine wE hF DX λrJ hF=>?_
     refine wK [1,6,11,13,14,16,19,20,21,22,27,28,29,30] ?_;refine wZ (kE [0,1,2,3,4,5,8,9,10,11,12,6,7,13,14,15,16,17] [0,50,0,50,0,0,50,0,50,0,0,3,3,3,3,0,5,0]) follows ?_;refine wE hF VW λyl hF=>?_
     refine wE hF oS λD8 hF=>?_
     refine wE hF VW λNq hF=>?_
     refine wE hF oS λVj hF=>?_
     obtain⟨g,hF⟩:=Rg g hF;refine wK [1,6,11,14,19,20,21,22,29,30] ?_;refine wZ (kE [0,1,2,3,4,5,6,8,9,10,14,15,16,17,18,20,21,22,7,11,12,13,19,23,24,25,26,27,28] [0,50,50,49,50,0,0,50,0,0,50,50,0,0,0,50,0,0,3,3,0,6,3,3,0,6,0,5,0]) follows ?_;refine wE hF fm λCe hF=>?_
     refine wE hF oS λBH hF=>?_
     refine wE hF hJ λvd hF=>?_
     refine wE hF fm λnp hF=>?_
     refine wE hF oS λC4 hF=>?_
     refine wE hF hJ λI8 hF=>?_
     obtain⟨g,hF⟩:=Rg g hF;refine wK [6,11,14,21,22] ?_;try simp[go_sem,g]
     try intros
     refine bu ?_;refine wS hF (λpY=>[]) (λpY hF=>?_) λ_ hj0 dD hF=>?_
     ·exact wl ak hF
     refine wR hF [6,14,314,315] (λvy oU=>[(21,.v (vD oU.1)),(22,.v (vD oU.2)),(316,.v (.int .i64 vy))]) λb bg vy oU _ _ aO aN bp ba hF=>?_
     refine wW ?_;refine wu aO aN ?_;refine wW ?_;refine wB ?_;obtain⟨Gq,g,hF⟩:=Rx g hF;refine wK [6,14,21,22,31,32,314,315,316] ?_;refine wZ (kE [0,1,2,3,4,5,6,7,11,12,13,14,8,9,10,15] [50,0,50,0,0,0,0,0,0,0,0,0,4,0,7,0]) follows ?_;have c0:= @fm;have c1:= @hJ;exact wL
    refine wB ?_;obtain⟨b70,a1p,bg⟩:=hF;refine jQ a1p [1,2,3,4,6,11,13,14,15,16,19,20] (λfO=>[(21,.v (vD fO.1)),(22,.v (vD fO.2.1)),(26,.v (.int .i64 fO.2.2))]) λfO _ _ bp ba hF=>?_
    refine wW ?_;refine wI hF (λh65 hF=>?_) λh65 hF=>?_
    ·refine wW ?_;refine wB ?_;obtain⟨qO,g,hF⟩:=Rx g hF;obtain⟨g,hF⟩:=Rg g hF;refine wK [1,2,3,4,6,11,13,14,15,16,19,20,21,22,26] ?_;refine wZ (kD 0 [0,50,0,0,0,0,0,0,0,0,0,0,0,0,0,3,0,5,0]) follows ?_;obtain⟨Mb,g,hF⟩:=iy g hF;have c0:= @Bw;exact wL
    exact wL
   refine wB ?_;obtain⟨b49,a1B,bg⟩:=hF;refine jQ a1B [1,2,3,4,6,11,13,14,15,16,17,18,19,20] (λfh=>[(21,.v (vD fh.1)),(22,.v (vD fh.2.1)),(24,.v (.int .i64 fh.2.2.1)),(25,.v (.int .i64 fh.2.2.2))]) λfh _ _ bp ba hF=>?_
   refine wK [1,2,3,4,6,11,13,14,15,16,17,18,19,20,21,22,24,25,152] ?_;refine wI hF (λh42 hF=>?_) λh42 hF=>?_
   ·refine wW ?_;refine wB ?_;obtain⟨vq,g,hF⟩:=Rx g hF;obtain⟨g,hF⟩:=Rg g hF;refine wW ?_;refine wZ (kE [0,1,2,3,4,5,6,7,9,10,11,12,13,14,15,16,17,8,18,19,20,21,22,23] [0,50,50,0,0,0,0,0,50,0,0,0,0,0,0,0,0,4,3,0,6,0,5,0]) follows ?_;have c0:= @fm;have c1:= @hJ;exact wL
   exact wL
  refine wB ?_;obtain⟨b32,Ro,bg⟩:=hF;refine jQ Ro [1,2,3,4,6,11,13,14,15,16,17,18,19,20] (λfi=>[(21,.v (vD fi.1)),(22,.v (vD fi.2.1)),(23,.v (.int .i64 fi.2.2))]) λfi _ _ bp ba hF=>?_
  refine wW ?_;refine wI hF (λPg hF=>?_) λPg hF=>?_
  ·refine wW ?_;refine wB ?_;refine wZ (kE [0,1,2,3,4,5,6,7,8,10,11,12,13,14,15,16,17,18,19,9,20,21,22,23,24,25] [0,50,50,89,90,0,0,0,0,89,90,0,0,0,50,49,50,0,0,4,4,0,6,0,5,0]) follows ?_;obtain⟨Cr,g,hF⟩:=Rx g hF;obtain⟨qH,g,hF⟩:=Rx g hF;refine wD hF fm λiT hF=>?_
   refine wD hF fm λnm hF=>?_
   refine wE hF hJ λfP hF=>?_
   obtain⟨g,hF⟩:=Rg g hF;refine wK [1,2,3,4,6,11,13,14,15,16,17,18,19,20,21,22,23] ?_;refine wZ (kD 0 [0,50,0,0,0,0,0,0,0,0,0,0,0,3,0,5,0]) follows ?_;have c0:= @Bw;exact wL
  exact wL
 refine wZ (kD 0 [0,0,0,0,0,50,0,90,3,0,0,0,89,89,90,0,0,50,0,0,0,90,4,0,0]) follows ?_;have c0:= @zrE;have c1:= @WT;exact wL
def Gi(a0:am)(a1:Int)(a2:List an)(a3:List an)(a4:ck):Option (Bool×Bool):=
 (((p7 a0 a1 a2).bind λz4=>
 if(!z4)=Z then(
 J Z)else(
 (p7 a0 a1 a3).bind λz6=>
 J (!z6)):Option Bool).bind λx3=>
 if x3=Z then(
 J (aa,aa))else(
 (DA a0).bind λz8=>
 if(!z8.2)=Z then(
 J (aa,aa))else(
 (CI a0 a1 z8.1 a2 a3 a4).bind λbX=>
 J (bX,Z))))
def zoz{a0 a1 a2 a3 a4 r}(hr:Gi a0 a1 a2 a3 a4=J r):ap Tryz.prog 106 [(.sh,vE a0),(.sh,.int .i64 a1),(.sh,vH a2),(.sh,vH a3),(.sh,vM a4)] (Eo (.bO [.bool r.1,.bool r.2]) rZ):=by
 apply pE [] hr zEO Tryz.func106;intro Φ ak hF g;unfold Gi at hF;refine wW ?_;refine bT hF [1,2,3,5,9] (λx3=>[(25,.v (.bool x3))]) (λx3 hF=>?_) λ_ hj0 hF=>?_
 ·have c0:= @XA;have c1:= @zq0;exact wL
 have c0:= @IF;exact wL
def IC(a0:cH):Option Bool:=
 ((if((i64.wrap ((a0.cu.length:Int)+(a0.aF.length:Int)))==0)=Z then(
 (Dv a0.Pi).bind λz5=>
 J z5)else(
 J aa):Option Bool).bind λx3=>
 J x3)
end
end Go.Pm
