/-
  Plain functions and their walks. Written by wip/tools/lift.py.
-/
import Derived.Test.YtnojafnlicbhpaaGreatM41
open Bool renaming false→aa,true→Z
open Option renaming none→ae,some→J
set_option linter.defProp false
namespace Go.Pm
open Go.Am IntKind
open Go.Proofs
set_option maxRecDepth 100000
attribute [local irreducible] pw pwx pw1 pwg qv qz qf
attribute [-simp] List.map_set
set_option linter.unusedSimpArgs false
set_option linter.unusedVariables false
noncomputable section
def zqf{a0 a1 a2 a3 r}(hr:Lm a0 a1 a2 a3=J r):au Tryz.prog 186 [(.sh,vE a0),(.sh,vJ a1),(.sh,vC a2),(.sh,vC a3)] (Eo (vD r) kY):=by
 apply pF 43 [] [] [] [.tmp 8] hr zFE Tryz.func186;intro Φ ai hF g;unfold Lm at hF;obtain⟨g,hF⟩:=Rg g hF;obtain⟨x1,e2,hF⟩:=mM hF;have g3:List.replicate a2.length ([.int .i64 0]:List PV)=x1.map aL:=by injection e2 with e2;rw[<-e2];simp[go_sem]
 iterate 2 (try simp[go_sem,g,g3];try intros;refine bh ?_)
 try simp[go_sem,g,g3]
 try intros
 refine wK [3,4,5,9,15,16,17] ?_;refine wJ hF (λx6=>[(9,.v (vD x6))]) (λx6 hF=>?_) λ_ Af hF=>?_
 ·exact wl ai hF
 refine wB ?_;obtain⟨b33,Vb,K4⟩:=hF;refine bU Vb [3,4,5,15,16] (λmS du=>[(9,.v (vD du)),(17,.v (.int .i64 mS))]) (λdu _ R8=>?_) λmS du _ _ t5 kW Tc LG hF=>?_
 ·exact wn R8 (Af _) K4
 refine wW ?_;refine wu t5 kW ?_;refine wW ?_;refine wB ?_;obtain⟨fR,g,hF⟩:=Rx g hF;refine wW ?_;refine wZ (kE [0,1,2,3,4,5,6,7,8,9,11,12,13,14,15,10,16,17,18,19] [0,0,34,34,33,34,0,0,0,0,41,42,0,0,0,4,0,6,0,0]) follows ?_;obtain⟨gi,g,hF⟩:=Rx g hF;obtain⟨jo,g,hF⟩:=Rx g hF;refine wD hF eK λeX hF=>?_
 refine wE hF gZ λfy hF=>?_
 obtain⟨nk,g,hF⟩:=Rx g hF;refine wK [3,4,5,9,15,16,17] ?_;exact wi t5 kW (LG _) (aj hF)
def sC(a0:Int)(a1:List aq)(a2:List aq)(a3:List Int):Option ((List Int)):=
 ((aU (σ:=(List Int)) (λi5 s4=>
 (ix a1 i5).bind λaN=>
 gd ((s4.length+2)*8<=140737488355328/\s4.length+2<=4611686018427387904)<|
 J (.go (s4++[aN.A,aN.B]))) (λs4=>s4) (a1.length) 0 [a0]:Option ((List Int))).bind λx3=>
 ((aU (σ:=(List Int)) (λrD eE=>
 (ix a2 rD).bind λBM=>
 gd ((eE.length+2)*8<=140737488355328/\eE.length+2<=4611686018427387904)<|
 J (.go (eE++[BM.A,BM.B]))) (λeE=>eE) (a2.length) 0 x3:Option ((List Int))).bind λlT=>
 gd ((lT.length+a3.length)*8<=140737488355328/\lT.length+a3.length<=4611686018427387904)<|
 J (lT++a3)))
def Gx{a0 a1 a2 a3 r}(hr:sC a0 a1 a2 a3=J r):au Tryz.prog 198 [(.sh,.int .i64 a0),(.sh,vH a1),(.sh,vH a2),(.sh,vC a3)] (Eo (vD r) kY):=by
 apply pF 47 [] [] [] [.tmp 8] hr zHN Tryz.func198;intro Φ ai hF g;unfold sC at hF
 iterate 3 (try simp[go_sem,g];try intros;refine bh ?_)
 refine bX hF [2,3] (λx3=>[(9,.v (vD x3))]) (λx3 hF=>?_) λ_ ao hF=>?_
 ·try simp[go_sem,g]
  try intros
  refine wK [3,9,30,31,32] ?_;refine wJ hF (λlT=>[(3,.v (vC a3)),(9,.v (vD lT))]) (λlT hF=>?_) λ_ UO hF=>?_
  ·obtain⟨g,hF⟩:=Rg g hF;exact wl ai hF
  refine wB ?_;obtain⟨b27,Ju,JZ⟩:=hF;refine bU Ju [3,30,31] (λrD eE=>[(9,.v (vD eE)),(32,.v (.int .i64 rD))]) (λeE _ a13=>?_) λrD eE _ _ JT t5 U3 Lc hF=>?_
  ·exact wn a13 (UO _) JZ
  refine wW ?_;refine wu JT t5 ?_;refine wW ?_;refine wB ?_;obtain⟨BM,g,hF⟩:=Rx g hF;obtain⟨g,hF⟩:=Rg g hF;refine wW ?_;refine wK [3,9,30,31,32] ?_;exact wi JT t5 (Lc _) (aj hF)
 refine wB ?_;obtain⟨yI,mq,bo⟩:=hF;refine bU mq [2,3,16,17] (λi5 s4=>[(9,.v (vD s4)),(18,.v (.int .i64 i5))]) (λs4 _ pH=>?_) λi5 s4 _ _ bq ba b8 bD hF=>?_
 ·exact wn pH (ao _) bo
 refine wW ?_;refine wu bq ba ?_;refine wW ?_;refine wB ?_;obtain⟨aN,g,hF⟩:=Rx g hF;refine wK [2,3,9,11,16,17,18] ?_;obtain⟨g,hF⟩:=Rg g hF;refine wW ?_;exact wi bq ba (bD _) (aj hF)
def DL(a0:List Int):Option ((List Int)):=
 gd (a0.length*8<=140737488355328/\a0.length<=4611686018427387904)<|
 J a0
def MG{a0 r}(hr:DL a0=J r):au Tryz.prog 67 [(.sh,vC a0)] (Eo (vD r) [.ax]):=by
 apply pF 6 [] [] [] [.tmp 2] hr zMk Tryz.func67;intro Φ ai hF g;unfold DL at hF;obtain⟨g,hF⟩:=Rg g hF;cases ai _ (aj hF)
 iterate 2 refine wW ?_
 try simp[go_sem,g]
def qc(a0:an)(a1:ByteArray)(a2:List Int):Option Int:=
 gd (([a0.P,a0.Q,a0.G].length+a2.length)*8<=140737488355328/\[a0.P,a0.Q,a0.G].length+a2.length<=4611686018427387904)<|
 (Fh a1 ([a0.P,a0.Q,a0.G]++a2)).bind λz1=>
 gd (a0.Q≠0)<|
 J (z1.tmod a0.Q)
def Cc{a0 a1 a2 r}(hr:qc a0 a1 a2=J r):au Tryz.prog 197 [(.sh,vE a0),(.sh,.str a1),(.sh,vC a2)] (Eo (.int .i64 r) gH):=by
 apply pF 21 [] [] [] [.tmp 6] hr zEz Tryz.func197;intro Φ ai hF g;unfold qc at hF;refine wW ?_;refine wZ (kE [0,1,2,3,4,5,6,7,8,11,12,9,10,13,14] [0,25,26,25,26,25,26,0,0,25,26,5,3,0,0]) follows ?_;obtain⟨g,hF⟩:=Rg g hF;refine wE hF zkL λz1 hF=>?_
 obtain⟨g,hF⟩:=Rz g hF;refine wK [6] ?_;exact wm ai hF
def FJ(a0:an)(a1:ByteArray)(a2:List Int)(a3:Int):Option ((List Int)):=
 ((dP (σ:=(List Int)×Int) (λs4=>
 if decide (s4.2<a3)=Z then(
 (DL a2).bind λbF=>
 gd ((bF.length+1)*8<=140737488355328/\bF.length+1<=4611686018427387904)<|
 (qc a0 a1 (bF++[s4.2])).bind λbQ=>
 gd ((s4.1.length+1)*8<=140737488355328/\s4.1.length+1<=4611686018427387904)<|
 J (.go (s4.1++[bQ],i64.wrap (s4.2+1))))else(
 J (.out s4.1))) ([],0):Option ((List Int))).bind λx3=>
 J x3)
def znz{a0 a1 a2 a3 r}(hr:FJ a0 a1 a2 a3=J r):au Tryz.prog 213 [(.sh,vE a0),(.sh,.str a1),(.sh,vC a2),(.sh,.int .i64 a3)] (Eo (vD r) kY):=by
 apply pF 28 [] [] [] [.tmp 8] hr zFa Tryz.func213;intro Φ ai hF g;unfold FJ at hF
 iterate 3 refine wW ?_
 refine wJ hF (λx3=>[(9,.v (vD x3))]) (λx3 hF=>?_) λ_ ao hF=>?_
 ·exact wl ai hF
 refine wB ?_;obtain⟨yI,mq,bo⟩:=hF;refine jW mq [1,2,3,4] (λs4=>[(9,.v (vD s4.1)),(10,.v (.int .i64 s4.2))]) λs4 _ _ b8 bD hF=>?_
 refine wW ?_;refine wI hF (λh9 hF=>?_) λh9 hF=>?_
 ·refine wW ?_;refine wB ?_;refine wZ (kE [0,1,2,3,5,6,4,7,8,9,10,11] [0,34,0,0,0,0,3,5,3,0,5,0]) follows ?_;refine wE hF MG λbF hF=>?_
  obtain⟨g,hF⟩:=Rg g hF;refine wE hF Cc λbQ hF=>?_
  obtain⟨g,hF⟩:=Rg g hF;refine wK [1,2,3,4,9,10] ?_;exact wT (bD _) (aj hF)
 cases b8 _ (aj hF);exact wT (ao _) bo
def Bw(a0:an)(a1:Int)(a2:List aq)(a3:List aq)(a4:List Int):Option ((List Int)):=
 (sC a1 a2 a3 a4).bind λz1=>
 (FJ a0 (⟨#[109,105,120,32,99,111,108,117,109,110,115]⟩:ByteArray) z1 (a2.length:Int)).bind λz2=>
 J z2
def zj0{a0 a1 a2 a3 a4 r}(hr:Bw a0 a1 a2 a3 a4=J r):au Tryz.prog 187 [(.sh,vE a0),(.sh,.int .i64 a1),(.sh,vH a2),(.sh,vH a3),(.sh,vC a4)] (Eo (vD r) rU):=by
 apply pF 20 [] [] [] [.tmp 10] hr zGf Tryz.func187;intro Φ ai hF g;unfold Bw at hF;refine wW ?_;refine wZ (kE [0,1,2,3,4,6,7,5,8,9] [42,0,0,0,0,0,0,3,3,0]) follows ?_;try simp[go_sem,g]
 try intros
 refine wE hF Gx λz1 hF=>?_
 refine wE hF znz λz2 hF=>?_
 refine wK [10] ?_;exact wm ai hF
def JJ(a0:an)(a1:cA)(a2:List Int)(a3:List Int):Option ((List Int)):=
 ((aU (σ:=(List Int)×Int) (λi5 s4=>
 (ix a2 i5).bind λaN=>
 (ix a3 i5).bind λcC=>
 (cH a0 a0.G cC).bind λcN=>
 (cH a0 s4.2 aN).bind λdK=>
 (ej a0 [cN,dK]).bind λew=>
 gd ((s4.1.length+1)*8<=140737488355328/\s4.1.length+1<=4611686018427387904)<|
 J (.go (s4.1++[ew],ew))) (λs4=>s4.1) (a2.length) 0 ([],a1.H):Option ((List Int))).bind λx3=>
 J x3)
def zrJ{a0 a1 a2 a3 r}(hr:JJ a0 a1 a2 a3=J r):au Tryz.prog 188 [(.sh,vE a0),(.sh,vJ a1),(.sh,vC a2),(.sh,vC a3)] (Eo (vD r) kY):=by
 apply pF 43 [] [] [] [.tmp 8] hr zEO Tryz.func188;intro Φ ai hF g;unfold JJ at hF
 iterate 3 (try simp[go_sem,g];try intros;refine bh ?_)
 try simp[go_sem,g]
 try intros
 refine wK [3,4,9,10,15,16,17] ?_;refine wJ hF (λx3=>[(9,.v (vD x3))]) (λx3 hF=>?_) λ_ ao hF=>?_
 ·exact wl ai hF
 refine wB ?_;obtain⟨b16,RZ,bo⟩:=hF;refine bU RZ [3,4,15,16] (λi5 s4=>[(9,.v (vD s4.1)),(10,.v (.int .i64 s4.2)),(17,.v (.int .i64 i5))]) (λs4 _ RT=>?_) λi5 s4 _ _ bq ba b8 bD hF=>?_
 ·exact wn RT (ao _) bo
 refine wW ?_;refine wu bq ba ?_;refine wW ?_;refine wB ?_;obtain⟨aN,g,hF⟩:=Rx g hF;refine wW ?_;refine wZ (kE [0,1,2,3,4,5,6,7,9,10,11,8,12,13,14,15] [34,34,33,34,0,0,0,0,34,0,0,3,3,0,6,0]) follows ?_;obtain⟨cC,g,hF⟩:=Rx g hF;refine wE hF eK λcN hF=>?_
 refine wE hF eK λdK hF=>?_
 refine wE hF gZ λew hF=>?_
 refine wK [3,4,9,10,15,16,17] ?_;obtain⟨g,hF⟩:=Rg g hF;refine wW ?_;exact wi bq ba (bD _) (aj hF)
def xv(a0:List aq):Option (List Int×List Int):=
 ((aU (σ:=(List Int)×List Int) (λi5 s4=>
 (ix a0 i5).bind λaN=>
 gd ((s4.1.length+1)*8<=140737488355328/\s4.1.length+1<=4611686018427387904)<|
 gd ((s4.2.length+1)*8<=140737488355328/\s4.2.length+1<=4611686018427387904)<|
 J (.go (s4.1++[aN.A],s4.2++[aN.B]))) (λs4=>(s4.1,s4.2)) (a0.length) 0 ([],[]):Option ((List Int×List Int))).bind λx3=>
 J (x3.1,x3.2))
def FA{a0 r}(hr:xv a0=J r):au Tryz.prog 189 [(.sh,vH a0)] (Eo (.bS [vD r.1,vD r.2]) [.ax]):=by
 apply pF 27 [] [] [] [.tmp 2,.tmp 3] hr zEZ Tryz.func189;intro Φ ai hF g;unfold xv at hF
 iterate 3 (try simp[go_sem,g];try intros;refine bh ?_)
 refine wJ hF (λx3=>[(4,.v (vD x3.1)),(5,.v (vD x3.2))]) (λx3 hF=>?_) λ_ ao hF=>?_
 ·refine wK [2,3] ?_;exact wm ai hF
 refine wB ?_;obtain⟨yI,mq,bo⟩:=hF;refine bU mq [8,9] (λi5 s4=>[(4,.v (vD s4.1)),(5,.v (vD s4.2)),(10,.v (.int .i64 i5))]) (λs4 _ pH=>?_) λi5 s4 _ _ bq ba b8 bD hF=>?_
 ·exact wn pH (ao _) bo
 refine wW ?_;refine wu bq ba ?_;refine wW ?_;refine wB ?_;obtain⟨aN,g,hF⟩:=Rx g hF;refine wK [4,5,7,8,9,10] ?_
 iterate 2 obtain⟨g,hF⟩:=Rg g hF
 refine wW ?_;refine wK [4,5,8,9,10] ?_;exact wi bq ba (bD _) (aj hF)
def lR(a0:an)(a1:List Int)(a2:List Int):Option Int:=
 ((aU (σ:=Int) (λi5 s4=>
 (ix a1 i5).bind λaN=>
 (ix a2 i5).bind λcC=>
 (cH a0 aN cC).bind λcN=>
 gd (a0.P≠0)<|
 J (.go ((i64.wrap (s4*cN)).tmod a0.P))) (λs4=>s4) (a1.length) 0 1:Option Int).bind λx3=>
 J x3)
def oU{a0 a1 a2 r}(hr:lR a0 a1 a2=J r):au Tryz.prog 191 [(.sh,vE a0),(.sh,vC a1),(.sh,vC a2)] (Eo (.int .i64 r) gH):=by
 apply pF 31 [] [] [] [.tmp 6] hr zG3 Tryz.func191;intro Φ ai hF g;unfold lR at hF
 iterate 3 (try simp[go_sem,g];try intros;refine bh ?_)
 refine wJ hF (λx3=>[(7,.v (.int .i64 x3))]) (λx3 hF=>?_) λ_ ao hF=>?_
 ·exact wl ai hF
 refine wB ?_;obtain⟨oq,fT,bo⟩:=hF;refine bU fT [2,3,10,11] (λi5 s4=>[(7,.v (.int .i64 s4)),(12,.v (.int .i64 i5))]) (λs4 _ iy=>?_) λi5 s4 _ _ bq ba b8 bD hF=>?_
 ·exact wn iy (ao _) bo
 refine wW ?_;refine wu bq ba ?_;refine wW ?_;refine wB ?_;obtain⟨aN,g,hF⟩:=Rx g hF;refine wK [2,3,7,8,9,10,11,12] ?_;refine wZ (kE [0,1,2,3,4,5,6,9,10,7,8,11,12] [0,26,0,0,0,0,0,25,26,3,0,0,0]) follows ?_;obtain⟨cC,g,hF⟩:=Rx g hF;refine wE hF eK λcN hF=>?_
 obtain⟨g,hF⟩:=Rz g hF;refine wK [2,3,7,10,11,12] ?_;exact wi bq ba (bD _) (aj hF)
def AY(a0:an)(a1:Int)(a2:List aq)(a3:List aq)(a4:cM):Option Int:=
 (sC a1 a2 a3 a4.cy).bind λz1=>
 gd ((z1.length+a4.aH.length)*8<=140737488355328/\z1.length+a4.aH.length<=4611686018427387904)<|
 gd (((z1++a4.aH).length+a4.Pi.aE.length)*8<=140737488355328/\(z1++a4.aH).length+a4.Pi.aE.length<=4611686018427387904)<|
 (qc a0 (⟨#[109,105,120,32,112,114,111,111,102]⟩:ByteArray) (z1++a4.aH++a4.Pi.aE)).bind λz2=>
 J z2
def zkh{a0 a1 a2 a3 a4 r}(hr:AY a0 a1 a2 a3 a4=J r):au Tryz.prog 192 [(.sh,vE a0),(.sh,.int .i64 a1),(.sh,vH a2),(.sh,vH a3),(.sh,vL a4)] (Eo (.int .i64 r) rU):=by
 apply pF 28 [] [] [] [.tmp 10] hr zHG Tryz.func192;intro Φ ai hF g;unfold AY at hF;refine wW ?_;refine wZ (kE [0,1,2,3,4,6,7,5,8,9] [0,0,0,73,74,73,74,3,0,0]) follows ?_;refine wE hF Gx λz1 hF=>?_
 obtain⟨g,hF⟩:=Rg g hF;refine wK [5,9,11] ?_;refine wZ (kD 0 [42,0,73,73,74,0,3,0]) follows ?_;obtain⟨g,hF⟩:=Rg g hF;refine wE hF Cc λz2 hF=>?_
 exact wl ai hF
def GV(a0:List Int)(a1:Int):Option Int:=
 ((aU (σ:=Int) (λi5 s4=>
 (ix a0 i5).bind λaN=>
 gd (a1≠0)<|
 J (.go ((i64.wrap (s4+aN)).tmod a1))) (λs4=>s4) (a0.length) 0 0:Option Int).bind λx3=>
 J x3)
def zuA{a0 a1 r}(hr:GV a0 a1=J r):au Tryz.prog 193 [(.sh,vC a0),(.sh,.int .i64 a1)] (Eo (.int .i64 r) cO):=by
 apply pF 21 [] [] [] [.tmp 4] hr zEw Tryz.func193;intro Φ ai hF g;unfold GV at hF
 iterate 3 (try simp[go_sem,g];try intros;refine bh ?_)
 refine wJ hF (λx3=>[(5,.v (.int .i64 x3))]) (λx3 hF=>?_) λ_ ao hF=>?_
 ·exact wl ai hF
 refine wB ?_;obtain⟨yI,mq,bo⟩:=hF;refine bU mq [1,8,9] (λi5 s4=>[(5,.v (.int .i64 s4)),(10,.v (.int .i64 i5))]) (λs4 _ pH=>?_) λi5 s4 _ _ bq ba b8 bD hF=>?_
 ·exact wn pH (ao _) bo
 refine wW ?_;refine wu bq ba ?_;refine wW ?_;refine wB ?_;obtain⟨aN,g,hF⟩:=Rx g hF;obtain⟨g,hF⟩:=Rz g hF;refine wW ?_;refine wK [1,5,8,9,10] ?_;exact wi bq ba (bD _) (aj hF)
def uO(a0:List Int)(a1:List Int)(a2:Int):Option Int:=
 ((aU (σ:=Int) (λi5 s4=>
 (ix a0 i5).bind λaN=>
 (ix a1 i5).bind λcC=>
 gd (a2≠0)<|
 J (.go ((i64.wrap (s4+(i64.wrap (aN*cC)))).tmod a2))) (λs4=>s4) (a0.length) 0 0:Option Int).bind λx3=>
 J x3)
def QT{a0 a1 a2 r}(hr:uO a0 a1 a2=J r):au Tryz.prog 194 [(.sh,vC a0),(.sh,vC a1),(.sh,.int .i64 a2)] (Eo (.int .i64 r) gH):=by
 apply pF 29 [] [] [] [.tmp 6] hr zFf Tryz.func194;intro Φ ai hF g;unfold uO at hF
 iterate 3 (try simp[go_sem,g];try intros;refine bh ?_)
 refine wJ hF (λx3=>[(7,.v (.int .i64 x3))]) (λx3 hF=>?_) λ_ ao hF=>?_
 ·exact wl ai hF
 refine wB ?_;obtain⟨uW,kB,bo⟩:=hF;refine bU kB [1,2,10,11] (λi5 s4=>[(7,.v (.int .i64 s4)),(12,.v (.int .i64 i5))]) (λs4 _ np=>?_) λi5 s4 _ _ bq ba b8 bD hF=>?_
 ·exact wn np (ao _) bo
 refine wW ?_;refine wu bq ba ?_;refine wW ?_;refine wB ?_;obtain⟨aN,g,hF⟩:=Rx g hF;refine wK [1,2,7,8,9,10,11,12] ?_;obtain⟨cC,g,hF⟩:=Rx g hF;obtain⟨g,hF⟩:=Rz g hF;refine wK [1,2,7,10,11,12] ?_;exact wi bq ba (bD _) (aj hF)
def F6(a0:an)(a1:Int)(a2:cA)(a3:List aq)(a4:List Int)(a5:List Int)(a6:List Int):Option cM:=
 (Em a0 a1 a3 a4 a5).bind λz1=>
 gd (0<=(a3.length:Int))<|
 gd (0<=a3.length/\a3.length<=a6.length)<|
 gd (0<=(a3.length:Int))<|
 gd (0<=(i64.wrap (2*(a3.length:Int))))<|
 gd (a3.length<=(i64.wrap (2*(a3.length:Int))).toNat/\(i64.wrap (2*(a3.length:Int))).toNat<=a6.length)<|
 (ix a6 (i64.wrap (2*(a3.length:Int)))).bind λx2=>
 (ix a6 (i64.wrap ((i64.wrap (2*(a3.length:Int)))+1))).bind λx3=>
 (ix a6 (i64.wrap ((i64.wrap (2*(a3.length:Int)))+2))).bind λx4=>
 (ix a6 (i64.wrap ((i64.wrap (2*(a3.length:Int)))+3))).bind λx5=>
 gd (0<=(i64.wrap ((i64.wrap (2*(a3.length:Int)))+4)))<|
 gd (0<=(i64.wrap ((i64.wrap (3*(a3.length:Int)))+4)))<|
 gd ((i64.wrap ((i64.wrap (2*(a3.length:Int)))+4)).toNat<=(i64.wrap ((i64.wrap (3*(a3.length:Int)))+4)).toNat/\(i64.wrap ((i64.wrap (3*(a3.length:Int)))+4)).toNat<=a6.length)<|
 gd (0<=(i64.wrap ((i64.wrap (3*(a3.length:Int)))+4)))<|
 gd ((i64.wrap ((i64.wrap (3*(a3.length:Int)))+4)).toNat<=a6.length/\a6.length<=a6.length)<|
 (Lm a0 a2 a4 ((a6.take a3.length).drop 0)).bind λz6=>
 (Bw a0 a1 a3 z1 z6).bind λz7=>
 ((aU (σ:=(List Int)×Int) (λzF cL=>
 (ix a4 zF).bind λlT=>
 (ix z7 lT).bind λpo=>
 gd ((cL.1.length+1)*8<=140737488355328/\cL.1.length+1<=4611686018427387904)<|
 (ix ((a6.take ((i64.wrap (2*(a3.length:Int))).toNat)).drop a3.length) zF).bind λfI=>
 gd (a0.Q≠0)<|
 J (.go (cL.1++[po],(i64.wrap (fI+(i64.wrap (po*cL.2)))).tmod a0.Q))) (λcL=>(cL.1,cL.2)) (a4.length) 0 ([],0):Option ((List Int×Int))).bind λd9=>
 (JJ a0 a2 d9.1 ((a6.take ((i64.wrap (2*(a3.length:Int))).toNat)).drop a3.length)).bind λsV=>
 (xv z1).bind λiR=>
 (cH a0 a0.G x2).bind λmB=>
 (cH a0 a0.G x3).bind λfL=>
 (lR a0 a2.Hs ((a6.take a6.length).drop ((i64.wrap ((i64.wrap (3*(a3.length:Int)))+4)).toNat))).bind λnB=>
 (ej a0 [fL,nB]).bind λeX=>
 (cH a0 a0.G x4).bind λfy=>
 (cH a0 a0.G (i64.wrap (0-x5))).bind λLl=>
 (lR a0 iR.1 ((a6.take a6.length).drop ((i64.wrap ((i64.wrap (3*(a3.length:Int)))+4)).toNat))).bind λiG=>
 (ej a0 [Ll,iG]).bind λn9=>
 (cH a0 a1 (i64.wrap (0-x5))).bind λib=>
 (lR a0 iR.2 ((a6.take a6.length).drop ((i64.wrap ((i64.wrap (3*(a3.length:Int)))+4)).toNat))).bind λtv=>
 (ej a0 [ib,tv]).bind λAp=>
 ((aU (σ:=(List Int)×List Int×List Int×List Int×List Int×Int) (λvn eJ=>
 (ix ((a6.take ((i64.wrap ((i64.wrap (3*(a3.length:Int)))+4)).toNat)).drop ((i64.wrap ((i64.wrap (2*(a3.length:Int)))+4)).toNat)) vn).bind λN8=>
 (ix ((a6.take a6.length).drop ((i64.wrap ((i64.wrap (3*(a3.length:Int)))+4)).toNat)) vn).bind λq9=>
 (cH a0 a0.G N8).bind λyP=>
 (cH a0 eJ.2.2.2.2.2 q9).bind λyk=>
 (ej a0 [yP,yk]).bind λDm=>
 gd ((eJ.2.2.1.length+1)*8<=140737488355328/\eJ.2.2.1.length+1<=4611686018427387904)<|
 (ix eJ.2.1 vn).bind λql=>
 J (.go (eJ.1,eJ.2.1,eJ.2.2.1++[Dm],eJ.2.2.2.1,eJ.2.2.2.2.1,ql))) (λeJ=>(eJ.1,eJ.2.1,eJ.2.2.1,eJ.2.2.2.1,eJ.2.2.2.2.1)) (a3.length) 0 (z6,sV,[mB,eX,fy,n9,Ap],[],[],a2.H):Option ((List Int×List Int×List Int×List Int×List Int))).bind λkt=>
 (AY a0 a1 a3 z1 (cM.mk kt.1 kt.2.1 (cb.mk kt.2.2.1 kt.2.2.2.1 kt.2.2.2.2))).bind λxC=>
 gd (a0.Q≠0)<|
 (GV ((a6.take a3.length).drop 0) a0.Q).bind λoj=>
 gd (a0.Q≠0)<|
 (uO ((a6.take a3.length).drop 0) z7 a0.Q).bind λqe=>
 gd (a0.Q≠0)<|
 (uO a5 d9.1 a0.Q).bind λtR=>
 gd (a0.Q≠0)<|
 ((aU (σ:=(List Int)×List Int×List Int×List Int×List Int) (λBk fw=>
 (ix ((a6.take ((i64.wrap ((i64.wrap (3*(a3.length:Int)))+4)).toNat)).drop ((i64.wrap ((i64.wrap (2*(a3.length:Int)))+4)).toNat)) Bk).bind λyS=>
 (ix ((a6.take ((i64.wrap (2*(a3.length:Int))).toNat)).drop a3.length) Bk).bind λyu=>
 gd (a0.Q≠0)<|
 gd ((fw.2.2.2.2.length+1)*8<=140737488355328/\fw.2.2.2.2.length+1<=4611686018427387904)<|
 J (.go (fw.1,fw.2.1,fw.2.2.1,fw.2.2.2.1,fw.2.2.2.2++[(i64.wrap (yS+(i64.wrap (xC*yu)))).tmod a0.Q]))) (λfw=>(fw.1,fw.2.1,fw.2.2.1,fw.2.2.2.1,fw.2.2.2.2)) (a3.length) 0 (kt.1,kt.2.1,kt.2.2.1,[xC],[(i64.wrap (x2+(i64.wrap (xC*oj)))).tmod a0.Q,(i64.wrap (x3+(i64.wrap (xC*qe)))).tmod a0.Q,(i64.wrap (x4+(i64.wrap (xC*d9.2)))).tmod a0.Q,(i64.wrap (x5+(i64.wrap (xC*tR)))).tmod a0.Q]):Option ((List Int×List Int×List Int×List Int×List Int))).bind λkr=>
 ((aU (σ:=(List Int)×List Int×List Int×List Int×List Int) (λKV ko=>
 (ix ((a6.take a6.length).drop ((i64.wrap ((i64.wrap (3*(a3.length:Int)))+4)).toNat)) KV).bind λkU=>
 (ix d9.1 KV).bind λa0B=>
 gd (a0.Q≠0)<|
 gd ((ko.2.2.2.2.length+1)*8<=140737488355328/\ko.2.2.2.2.length+1<=4611686018427387904)<|
 J (.go (ko.1,ko.2.1,ko.2.2.1,ko.2.2.2.1,ko.2.2.2.2++[(i64.wrap (kU+(i64.wrap (xC*a0B)))).tmod a0.Q]))) (λko=>(ko.1,ko.2.1,ko.2.2.1,ko.2.2.2.1,ko.2.2.2.2)) (a3.length) 0 (kr.1,kr.2.1,kr.2.2.1,kr.2.2.2.1,kr.2.2.2.2):Option ((List Int×List Int×List Int×List Int×List Int))).bind λsF=>
 J (cM.mk sF.1 sF.2.1 (cb.mk sF.2.2.1 sF.2.2.2.1 sF.2.2.2.2))))))
set_option maxHeartbeats 1000000 in
def zrM{a0 a1 a2 a3 a4 a5 a6 r}(hr:F6 a0 a1 a2 a3 a4 a5 a6=J r):au Tryz.prog 150 [(.sh,vE a0),(.sh,.int .i64 a1),(.sh,vJ a2),(.sh,vH a3),(.sh,vC a4),(.sh,vC a5),(.sh,vC a6)] (Eo (vP r) Qa):=by
 apply pF 343 [] [] [] [.cell 14 33] hr zHH Tryz.func150;intro Φ ai hF g;unfold F6 at hF
 iterate 2 (try simp[go_sem,g];try intros;refine bh ?_)
 try simp[go_sem,g]
 try intros
 refine wE hF SH λz1 hF=>?_
 refine wK [1,3,4,5,6,7,9,14,15,16] ?_;refine wZ (kD 0 [0,0,0,0,0,0,0,0,0,0]) follows ?_
 iterate 5 obtain⟨g,hF⟩:=Rg g hF
 refine wK [1,3,4,5,6,7,9,14,15,16,17,18] ?_;refine wZ (kD 0 [0,0,0,0,0,0,0,0,0,0,0,0,0,0,0,0,0,0,0,0,0,0,0,0,0,0,0]) follows ?_;obtain⟨x2,g,hF⟩:=Rx g hF;obtain⟨x3,g,hF⟩:=Rx g hF;obtain⟨x4,g,hF⟩:=Rx g hF;obtain⟨x5,g,hF⟩:=Rx g hF;refine wK [1,3,4,5,6,7,9,14,15,16,17,18,19,20,21,22] ?_;refine wZ (kD 0 [0,0,0,0,0,0,0,0,0,0,0,0,0,0,0]) follows ?_
 iterate 5 obtain⟨g,hF⟩:=Rg g hF
 refine wK [1,3,4,5,7,9,14,16,17,18,19,20,21,22,23,24] ?_;refine wE hF zqf λz6 hF=>?_
 refine wW ?_;refine wE hF zj0 λz7 hF=>?_
 refine wK [1,3,4,5,7,9,14,16,17,18,19,20,21,22,23,24,25,26] ?_
 iterate 3 (try simp[go_sem,g];try intros;refine bh ?_)
 refine bX hF [1,3,5,7,9,14,16,17,18,19,20,21,22,23,24,25,26] (λd9=>[(27,.v (vD d9.1)),(28,.v (.int .i64 d9.2))]) (λd9 hF=>?_) λ_ DX hF=>?_
 ·refine wE hF zrJ λsV hF=>?_
  refine wK [1,3,5,7,9,14,16,17,18,19,20,21,22,23,24,25,26,27,28] ?_;refine wE hF FA λiR hF=>?_
  refine wW ?_;refine wZ [k2 0 7,k1 1 7,k2 2 7,k0 3,k2 5 7,k2 6 7,k1 7 7,k2 8 7,k0 9,k2 11 7,k1 12 9,k2 13 9,k0 14,k2 18 7,k1 19 7,k2 20 7,k0 21,k2 23 7,k2 24 7,k1 25 7,k2 26 7,k0 27,k0 28,k2 30 7,k0 31,k0 32,k2 36 7,k2 37 7,k0 38,k0 39,k0 40,k2 42 7,k0 43,k0 44,k3 4,k3 10,k3 15,k0 16,λ_=>⟨17,[148,159],[],ae,Z,Z,Z⟩,k3 22,k3 29,k3 33,k0 34,λ_=>⟨35,[166,177],[],ae,Z,Z,Z⟩,k3 41,k3 45,k0 46,λ_=>⟨47,[179,189],[],ae,Z,Z,Z⟩,k0 48,k1 49 25,k1 50 25,λ_=>⟨51,[193,191],[25],J 193,Z,Z,Z⟩] follows ?_;refine wE hF eK λmB hF=>?_
  refine wE hF eK λfL hF=>?_
  refine wE hF oU λnB hF=>?_
  refine wE hF gZ λeX hF=>?_
  refine wE hF eK λfy hF=>?_
  refine wE hF eK λLl hF=>?_
  refine wE hF oU λiG hF=>?_
  refine wE hF gZ λn9 hF=>?_
  refine wE hF eK λib hF=>?_
  refine wE hF oU λtv hF=>?_
  refine wE hF gZ λAp hF=>?_
  refine wK [1,3,5,7,9,14,16,17,18,19,20,21,22,23,24,25,26,27,28] ?_
  iterate 2 (try simp[go_sem,g];try intros;refine bh ?_)
  refine bX hF [1,3,5,7,14,16,17,18,19,20,21,22,23,24,26,27,28] (λkt=>[(25,.bl [vD kt.1,vD kt.2.1,vD kt.2.2.1,vD kt.2.2.2.1,vD kt.2.2.2.2])]) (λkt hF=>?_) λ_ a1C hF=>?_
  ·refine wE hF zkh λxC hF=>?_
   refine wK [3,5,7,14,17,18,19,20,21,22,23,24,25,26,27,28,35] ?_;refine wW ?_;refine wZ [k0 0,k0 1,k0 2,k1 3 7,k2 4 7,k1 8 7,k2 9 7,k0 11,k0 12,k0 13,k0 14,k1 15 7,k2 16 7,k1 20 7,k2 21 7,k0 23,k0 24,k0 25,k0 26,k0 27,k1 28 7,k2 29 7,k0 30,k0 31,k0 32,k0 33,k0 34,k1 35 7,k2 36 7,k1 40 7,k2 41 7,k3 5,k0 6,k0 7,k0 10,k3 17,k0 18,k0 19,k0 22,k3 37,k0 38,k0 39,k0 42,k0 43,k1 44 25,k1 45 25,λ_=>⟨46,[287,285],[25],J 287,Z,Z,Z⟩] follows ?_;obtain⟨g,hF⟩:=Rz g hF;refine wE hF zuA λoj hF=>?_
   obtain⟨g,hF⟩:=Rz g hF;refine wE hF QT λqe hF=>?_
   obtain⟨g,hF⟩:=Rz g hF;refine wE hF QT λtR hF=>?_
   obtain⟨g,hF⟩:=Rz g hF;refine wK [3,7,14,18,23,24,25,27,35] ?_;try simp[go_sem,g]
   try intros
   refine bh ?_;refine bX hF [3,7,14,24,27,35] (λkr=>[(25,.bl [vD kr.1,vD kr.2.1,vD kr.2.2.1,vD kr.2.2.2.1,vD kr.2.2.2.2])]) (λkr hF=>?_) λ_ a4Q hF=>?_
   ·try simp[go_sem,g]
    try intros
    refine bh ?_;refine wJ hF (λsF=>[(14,.bl [.sl Z 1 [],.sl Z 1 [],.sl Z 1 [],.sl Z 1 [],.sl Z 1 []]),(25,.bl [vD sF.1,vD sF.2.1,vD sF.2.2.1,vD sF.2.2.2.1,vD sF.2.2.2.2])]) (λsF hF=>?_) λ_ a40 hF=>?_
    ·exact wl ai hF
    refine wB ?_;obtain⟨a4u,Vs,a2l⟩:=hF;refine bU Vs [7,14,24,27,35,316] (λKV ko=>[(25,.bl [vD ko.1,vD ko.2.1,vD ko.2.2.1,vD ko.2.2.2.1,vD ko.2.2.2.2]),(317,.v (.int .i64 KV))]) (λko _ UE=>?_) λKV ko _ _ J0 a07 a6q a47 hF=>?_
    ·exact wn UE (a40 _) a2l
    refine wW ?_;refine wu J0 a07 ?_;refine wW ?_;refine wB ?_;refine wW ?_;refine wZ (kD 0 [201,201,202,0,0,0,0,0,0,0,0,0,0,0,57,58,0,0,5,201,201,202]) follows ?_;obtain⟨kU,g,hF⟩:=iA g hF;obtain⟨a0B,g,hF⟩:=Rx g hF;obtain⟨g,hF⟩:=Rz g hF;obtain⟨g,hF⟩:=Rg g hF;refine wK [7,14,24,25,27,35,316,317] ?_;exact wi J0 a07 (a47 _) (aj hF)
   refine wB ?_;obtain⟨b96,Vw,a1U⟩:=hF;refine bU Vw [3,7,14,18,23,24,27,35,289] (λBk fw=>[(25,.bl [vD fw.1,vD fw.2.1,vD fw.2.2.1,vD fw.2.2.2.1,vD fw.2.2.2.2]),(290,.v (.int .i64 Bk))]) (λfw _ TB=>?_) λBk fw _ _ a01 a03 a5W a48 hF=>?_
   ·exact wn TB (a4Q _) a1U
   refine wW ?_;refine wu a01 a03 ?_;refine wW ?_;refine wB ?_;refine wW ?_;refine wZ (kD 0 [201,201,202,0,0,0,0,0,0,0,0,0,0,0,57,58,0,0,5,201,201,202]) follows ?_;obtain⟨yS,g,hF⟩:=iA g hF;obtain⟨yu,g,hF⟩:=iA g hF;obtain⟨g,hF⟩:=Rz g hF;obtain⟨g,hF⟩:=Rg g hF;refine wK [3,7,14,18,23,24,25,27,35,289,290] ?_;exact wi a01 a03 (a48 _) (aj hF)
  refine wB ?_;obtain⟨b67,a3W,a4o⟩:=hF;refine bU a3W [1,3,5,7,14,16,17,18,19,20,21,22,23,24,26,27,28,197] (λvn eJ=>[(25,.bl [vD eJ.1,vD eJ.2.1,vD eJ.2.2.1,vD eJ.2.2.2.1,vD eJ.2.2.2.2.1]),(33,.v (.int .i64 eJ.2.2.2.2.2)),(198,.v (.int .i64 vn))]) (λeJ _ a2E=>?_) λvn eJ _ _ a0u a0s a56 a2L hF=>?_
  ·exact wn a2E (a1C _) a4o
  refine wW ?_;refine wu a0u a0s ?_;refine wW ?_;refine wB ?_;refine wW ?_;refine wZ (kE [0,1,2,3,4,5,6,7,8,9,10,12,13,14,15,16,17,11,18,19,20,21,22,23,24,25] [201,201,202,58,58,57,58,0,0,0,0,58,0,0,0,0,0,4,3,0,6,0,5,201,201,202]) follows ?_;obtain⟨N8,g,hF⟩:=iA g hF;obtain⟨q9,g,hF⟩:=iA g hF;refine wD hF eK λyP hF=>?_
  refine wE hF eK λyk hF=>?_
  refine wE hF gZ λDm hF=>?_
  obtain⟨g,hF⟩:=Rg g hF;refine wK [1,3,5,7,14,16,17,18,19,20,21,22,23,24,25,26,27,28,34,197,198] ?_;obtain⟨ql,g,hF⟩:=Rx g hF;refine wW ?_;exact wi a0u a0s (a2L _) (aj hF)
 refine wB ?_;obtain⟨b21,a1K,ym⟩:=hF;refine bU a1K [1,3,5,7,9,14,16,17,18,19,20,21,22,23,24,25,26,103,104] (λzF cL=>[(27,.v (vD cL.1)),(28,.v (.int .i64 cL.2)),(105,.v (.int .i64 zF))]) (λcL _ a25=>?_) λzF cL _ _ a0E a0T BT Dx hF=>?_
 ·exact wn a25 (DX _) ym
 refine wW ?_;refine wu a0E a0T ?_;refine wW ?_;refine wB ?_;obtain⟨lT,g,hF⟩:=Rx g hF;refine wK [1,3,5,7,9,14,16,17,18,19,20,21,22,23,24,25,26,27,28,29,30,103,104,105] ?_;obtain⟨po,g,hF⟩:=Rx g hF;obtain⟨g,hF⟩:=Rg g hF;refine wW ?_;refine wZ (kD 0 [0,0,0,0,0,0,0,0,0,0,0,57,58,0,0]) follows ?_;obtain⟨fI,g,hF⟩:=iA g hF;obtain⟨g,hF⟩:=Rz g hF;refine wK [1,3,5,7,9,14,16,17,18,19,20,21,22,23,24,25,26,27,28,103,104,105] ?_;exact wi a0E a0T (Dx _) (aj hF)
def vx(a0:an)(a1:Int)(a2:List aq)(a3:List Int)(a4:List Int)(a5:List Int):Option (cM×Bool):=
 (((qw a0 a1 a2).bind λz4=>
 if(!z4)=Z then(
 J Z)else(
 (Hy a3 (a2.length:Int)).bind λz6=>
 if(!z6)=Z then(
 J Z)else(
 if((a4.length:Int) !=(a2.length:Int))=Z then(
 J Z)else(
 (sO a0 a4).bind λz9=>
 if(!z9)=Z then(
 J Z)else(
 if((a5.length:Int) !=(i64.wrap ((i64.wrap (4*(a2.length:Int)))+4)))=Z then(
 J Z)else(
 (sO a0 a5).bind λbr=>
 J (!br)))))):Option Bool).bind λx3=>
 if x3=Z then(
 J ((cM.mk [] [] (cb.mk [] [] [])),aa))else(
 (p8 a0 (a2.length:Int)).bind λdK=>
 if(!dK.2)=Z then(
 J ((cM.mk [] [] (cb.mk [] [] [])),aa))else(
 (F6 a0 a1 dK.1 a2 a3 a4 a5).bind λiW=>
 J (iW,Z))))
def znO{a0 a1 a2 a3 a4 a5 r}(hr:vx a0 a1 a2 a3 a4 a5=J r):au Tryz.prog 87 [(.sh,vE a0),(.sh,.int .i64 a1),(.sh,vH a2),(.sh,vC a3),(.sh,vC a4),(.sh,vC a5)] (Eo (.bS [vP r.1,.bool r.2]) sH):=by
 apply pF 74 [] [] [] [.cell 12 33,.tmp 13] hr zM1 Tryz.func87;intro Φ ai hF g;unfold vx at hF
 iterate 2 (try simp[go_sem,g];try intros;refine bh ?_)
 refine bX hF [1,2,3,4,5,6,12,14] (λx3=>[(55,.v (.bool x3))]) (λx3 hF=>?_) λ_ ao hF=>?_
 ·refine wI hF (λcZ hF=>?_) λcZ hF=>?_
  ·exact wl ai hF
  refine wW ?_;refine wE hF Pb λdK hF=>?_
  refine wK [1,2,3,4,5,6,12,15,16] ?_;refine wW ?_;refine wI hF (λiT hF=>?_) λiT hF=>?_
  ·exact wl ai hF
  refine wW ?_;refine wE hF zrM λiW hF=>?_
  refine wK [12,13] ?_;exact wm ai hF
 refine wE hF B4 λz4 hF=>?_
 refine wG hF (λh5 hF=>?_) λh5 hF=>?_
 ·exact wV h5 (ao _) (aj hF)
 try simp[go_sem,g,h5]
 refine wE hF znF λz6 hF=>?_
 try simp[go_sem,g,h5]
 refine wG hF (λh7 hF=>?_) λh7 hF=>?_
 ·exact wV h7 (ao _) (aj hF)
 try simp[go_sem,g,h7]
 try intros
 refine wG hF (λh8 hF=>?_) λh8 hF=>?_
 ·exact wV h8 (ao _) (aj hF)
 try simp[go_sem,g,h8]
 refine wE hF Ep λz9 hF=>?_
 try simp[go_sem,g,h8]
 refine wG hF (λdf hF=>?_) λdf hF=>?_
 ·exact wV df (ao _) (aj hF)
 try simp[go_sem,g,df]
 try intros
 refine wG hF (λeQ hF=>?_) λeQ hF=>?_
 ·exact wV eQ (ao _) (aj hF)
 try simp[go_sem,g,eQ]
 refine wE hF Ep λbr hF=>?_
 exact wV eQ (ao _) (aj hF)
def GL(a0:an):Option (Int×Bool):=
 (p8 a0 0).bind λz1=>
 J (z1.1.H,z1.2)
def znW{a0 r}(hr:GL a0=J r):au Tryz.prog 151 [(.sh,vE a0)] (Eo (.bS [.int .i64 r.1,.bool r.2]) [.ax]):=by
 apply pF 14 [] [] [] [.tmp 2,.tmp 3] hr zH0 Tryz.func151;intro Φ ai hF g;unfold GL at hF;refine wW ?_;refine wE hF Pb λz1 hF=>?_
 refine wK [4,5] ?_;exact wl ai hF
def nZ(a0:an)(a1:Int)(a2:Int)(a3:Int):Option Int:=
 (cH a0 a0.G a2).bind λz1=>
 (cH a0 a1 a3).bind λz2=>
 (ej a0 [z1,z2]).bind λz3=>
 J z3
def Dh{a0 a1 a2 a3 r}(hr:nZ a0 a1 a2 a3=J r):au Tryz.prog 199 [(.sh,vE a0),(.sh,.int .i64 a1),(.sh,.int .i64 a2),(.sh,.int .i64 a3)] (Eo (.int .i64 r) kY):=by
 apply pF 21 [] [] [] [.tmp 8] hr zGF Tryz.func199;intro Φ ai hF g;unfold nZ at hF;refine wW ?_;refine wZ (kE [0,1,2,3,4,6,7,8,5,9,10,11,12] [34,34,33,34,0,34,0,0,3,3,0,6,0]) follows ?_;refine wE hF eK λz1 hF=>?_
 refine wE hF eK λz2 hF=>?_
 refine wE hF gZ λz3 hF=>?_
 refine wK [8] ?_;exact wm ai hF
def Iu(a0:an)(a1:Int)(a2:List Int)(a3:List Int):Option ((List Int)):=
 ((aU (σ:=(List Int)) (λi5 s4=>
 (ix a2 i5).bind λaN=>
 (ix a3 i5).bind λcC=>
 (nZ a0 a1 (i64.wrap (aN+1)) cC).bind λcN=>
 gd ((s4.length+1)*8<=140737488355328/\s4.length+1<=4611686018427387904)<|
 J (.go (s4++[cN]))) (λs4=>s4) (a2.length) 0 []:Option ((List Int))).bind λx3=>
 J x3)
def zqM{a0 a1 a2 a3 r}(hr:Iu a0 a1 a2 a3=J r):au Tryz.prog 195 [(.sh,vE a0),(.sh,.int .i64 a1),(.sh,vC a2),(.sh,vC a3)] (Eo (vD r) kY):=by
 apply pF 33 [] [] [] [.tmp 8] hr zGM Tryz.func195;intro Φ ai hF g;unfold Iu at hF
 iterate 3 (try simp[go_sem,g];try intros;refine bh ?_)
 refine wJ hF (λx3=>[(9,.v (vD x3))]) (λx3 hF=>?_) λ_ ao hF=>?_
 ·exact wl ai hF
 refine wB ?_;obtain⟨oq,fT,bo⟩:=hF;refine bU fT [1,3,4,12,13] (λi5 s4=>[(9,.v (vD s4)),(14,.v (.int .i64 i5))]) (λs4 _ iy=>?_) λi5 s4 _ _ bq ba b8 bD hF=>?_
 ·exact wn iy (ao _) bo
 refine wW ?_;refine wu bq ba ?_;refine wW ?_;refine wB ?_;obtain⟨aN,g,hF⟩:=Rx g hF;refine wK [1,3,4,9,10,11,12,13,14] ?_;refine wZ (kD 0 [0,34,0,0,0,0,0,0,0,3,0,5,0]) follows ?_;obtain⟨cC,g,hF⟩:=Rx g hF;refine wE hF Dh λcN hF=>?_
 obtain⟨g,hF⟩:=Rg g hF;refine wK [1,3,4,9,12,13,14] ?_;exact wi bq ba (bD _) (aj hF)
def Ku(a0:an)(a1:List Int)(a2:Int):Option ((List Int)):=
 ((aU (σ:=(List Int)) (λi5 s4=>
 (ix a1 i5).bind λaN=>
 (l6 a2 (i64.wrap (aN+1)) a0.Q).bind λbr=>
 gd ((s4.length+1)*8<=140737488355328/\s4.length+1<=4611686018427387904)<|
 J (.go (s4++[br]))) (λs4=>s4) (a1.length) 0 []:Option ((List Int))).bind λx3=>
 J x3)
def zqT{a0 a1 a2 r}(hr:Ku a0 a1 a2=J r):au Tryz.prog 196 [(.sh,vE a0),(.sh,vC a1),(.sh,.int .i64 a2)] (Eo (vD r) gH):=by
 apply pF 27 [] [] [] [.tmp 6] hr zGv Tryz.func196;intro Φ ai hF g;unfold Ku at hF
 iterate 3 (try simp[go_sem,g];try intros;refine bh ?_)
 refine wJ hF (λx3=>[(7,.v (vD x3))]) (λx3 hF=>?_) λ_ ao hF=>?_
 ·exact wl ai hF
 refine wB ?_;obtain⟨uW,kB,bo⟩:=hF;refine bU kB [2,3,10,11] (λi5 s4=>[(7,.v (vD s4)),(12,.v (.int .i64 i5))]) (λs4 _ np=>?_) λi5 s4 _ _ bq ba b8 bD hF=>?_
 ·exact wn np (ao _) bo
 refine wW ?_;refine wu bq ba ?_;refine wW ?_;refine wB ?_;obtain⟨aN,g,hF⟩:=Rx g hF;refine wK [2,3,7,9,10,11,12] ?_;refine wE hF yp λbr hF=>?_
 obtain⟨g,hF⟩:=Rg g hF;refine wK [2,3,7,10,11,12] ?_;exact wi bq ba (bD _) (aj hF)
def Av(a0:an)(a1:Int)(a2:List aq)(a3:List aq)(a4:List Int)(a5:List Int):Option (Int×Int):=
 (sC a1 a2 a3 a4).bind λz1=>
 gd ((z1.length+a5.length)*8<=140737488355328/\z1.length+a5.length<=4611686018427387904)<|
 (qc a0 (⟨#[109,105,120,32,121]⟩:ByteArray) (z1++a5)).bind λz2=>
 (qc a0 (⟨#[109,105,120,32,122]⟩:ByteArray) (z1++a5)).bind λz3=>
 J (z2,z3)
def zmh{a0 a1 a2 a3 a4 a5 r}(hr:Av a0 a1 a2 a3 a4 a5=J r):au Tryz.prog 200 [(.sh,vE a0),(.sh,.int .i64 a1),(.sh,vH a2),(.sh,vH a3),(.sh,vC a4),(.sh,vC a5)] (Eo (.bS [.int .i64 r.1,.int .i64 r.2]) sH):=by
 apply pF 28 [] [] [] [.tmp 12,.tmp 13] hr zGL Tryz.func200;intro Φ ai hF g;unfold Av at hF;refine wW ?_;refine wE hF Gx λz1 hF=>?_
 obtain⟨g,hF⟩:=Rg g hF;refine wK [6,14] ?_;refine wZ (kE [0,1,3,4,2,5,6,7] [50,0,50,0,3,3,0,0]) follows ?_;refine wE hF Cc λz2 hF=>?_
 refine wE hF Cc λz3 hF=>?_
 exact wl ai hF
def zG(a0:an)(a1:Int)(a2:List aq)(a3:List aq)(a4:ct):Option Int:=
 (sC a1 a2 a3 a4.bV).bind λz1=>
 gd ((z1.length+a4.bM.length)*8<=140737488355328/\z1.length+a4.bM.length<=4611686018427387904)<|
 gd (((z1++a4.bM).length+a4.aH.length)*8<=140737488355328/\(z1++a4.bM).length+a4.aH.length<=4611686018427387904)<|
 gd (((z1++a4.bM++a4.aH).length+a4.Pi.aE.length)*8<=140737488355328/\(z1++a4.bM++a4.aH).length+a4.Pi.aE.length<=4611686018427387904)<|
 (qc a0 (⟨#[109,105,120,32,101,110,100]⟩:ByteArray) (z1++a4.bM++a4.aH++a4.Pi.aE)).bind λz2=>
 J z2
def YD{a0 a1 a2 a3 a4 r}(hr:zG a0 a1 a2 a3 a4=J r):au Tryz.prog 201 [(.sh,vE a0),(.sh,.int .i64 a1),(.sh,vH a2),(.sh,vH a3),(.sh,vM a4)] (Eo (.int .i64 r) rU):=by
 apply pF 32 [] [] [] [.tmp 10] hr zEW Tryz.func201;intro Φ ai hF g;unfold zG at hF;refine wW ?_;refine wZ (kE [0,1,2,3,4,6,7,5,8,9] [0,0,0,73,74,73,74,3,0,0]) follows ?_;refine wE hF Gx λz1 hF=>?_
 obtain⟨g,hF⟩:=Rg g hF;refine wK [5,9,11] ?_;refine wZ (kE [0,1,2,4,5,6,3,7,8] [0,73,74,73,73,74,0,0,0]) follows ?_
 iterate 2 obtain⟨g,hF⟩:=Rg g hF
 refine wW ?_;refine wE hF Cc λz2 hF=>?_
 refine wK [10] ?_;exact wm ai hF
def Fq(a0:an)(a1:Int)(a2:Int)(a3:List aq)(a4:List Int)(a5:List Int)(a6:List Int):Option ct:=
 (Em a0 a1 a3 a4 a5).bind λz1=>
 gd (0<=(a3.length:Int))<|
 gd (0<=a3.length/\a3.length<=a6.length)<|
 gd (0<=(a3.length:Int))<|
 gd (0<=(i64.wrap (2*(a3.length:Int))))<|
 gd (a3.length<=(i64.wrap (2*(a3.length:Int))).toNat/\(i64.wrap (2*(a3.length:Int))).toNat<=a6.length)<|
 gd (0<=(i64.wrap (2*(a3.length:Int))))<|
 gd (0<=(i64.wrap (3*(a3.length:Int))))<|
 gd ((i64.wrap (2*(a3.length:Int))).toNat<=(i64.wrap (3*(a3.length:Int))).toNat/\(i64.wrap (3*(a3.length:Int))).toNat<=a6.length)<|
 gd (0<=(i64.wrap (3*(a3.length:Int))))<|
 gd (0<=(i64.wrap (4*(a3.length:Int))))<|
 gd ((i64.wrap (3*(a3.length:Int))).toNat<=(i64.wrap (4*(a3.length:Int))).toNat/\(i64.wrap (4*(a3.length:Int))).toNat<=a6.length)<|
 gd (0<=(i64.wrap (4*(a3.length:Int))))<|
 gd (0<=(i64.wrap (5*(a3.length:Int))))<|
 gd ((i64.wrap (4*(a3.length:Int))).toNat<=(i64.wrap (5*(a3.length:Int))).toNat/\(i64.wrap (5*(a3.length:Int))).toNat<=a6.length)<|
 gd (0<=(i64.wrap (5*(a3.length:Int))))<|
 gd (0<=(i64.wrap (6*(a3.length:Int))))<|
 gd ((i64.wrap (5*(a3.length:Int))).toNat<=(i64.wrap (6*(a3.length:Int))).toNat/\(i64.wrap (6*(a3.length:Int))).toNat<=a6.length)<|
 (ix a6 (i64.wrap (6*(a3.length:Int)))).bind λx2=>
 gd (0<=(i64.wrap ((i64.wrap (6*(a3.length:Int)))+1)))<|
 gd (0<=(i64.wrap ((i64.wrap (7*(a3.length:Int)))+1)))<|
 gd ((i64.wrap ((i64.wrap (6*(a3.length:Int)))+1)).toNat<=(i64.wrap ((i64.wrap (7*(a3.length:Int)))+1)).toNat/\(i64.wrap ((i64.wrap (7*(a3.length:Int)))+1)).toNat<=a6.length)<|
 gd (0<=(i64.wrap ((i64.wrap (7*(a3.length:Int)))+1)))<|
 gd (0<=(i64.wrap ((i64.wrap (8*(a3.length:Int)))+1)))<|
 gd ((i64.wrap ((i64.wrap (7*(a3.length:Int)))+1)).toNat<=(i64.wrap ((i64.wrap (8*(a3.length:Int)))+1)).toNat/\(i64.wrap ((i64.wrap (8*(a3.length:Int)))+1)).toNat<=a6.length)<|
 (ix a6 (i64.wrap ((i64.wrap (8*(a3.length:Int)))+1))).bind λx3=>
 (Iu a0 a2 a4 ((a6.take a3.length).drop 0)).bind λz4=>
 (sC a1 a3 z1 z4).bind λz5=>
 (qc a0 (⟨#[109,105,120,32,120]⟩:ByteArray) z5).bind λz6=>
 (Ku a0 a4 z6).bind λz7=>
 ((aU (σ:=(List Int)×List Int×List Int×List Int×List Int×List Int) (λf7 bR=>
 (ix z7 f7).bind λgi=>
 (ix ((a6.take ((i64.wrap (2*(a3.length:Int))).toNat)).drop a3.length) f7).bind λjo=>
 (nZ a0 a2 gi jo).bind λeX=>
 gd ((bR.2.1.length+1)*8<=140737488355328/\bR.2.1.length+1<=4611686018427387904)<|
 J (.go (bR.1,bR.2.1++[eX],bR.2.2.1,bR.2.2.2.1,bR.2.2.2.2.1,bR.2.2.2.2.2))) (λbR=>(bR.1,bR.2.1,bR.2.2.1,bR.2.2.2.1,bR.2.2.2.2.1,bR.2.2.2.2.2)) (z7.length) 0 (z4,[],[],[],[],[]):Option ((List Int×List Int×List Int×List Int×List Int×List Int))).bind λd9=>
 (Av a0 a1 a3 z1 d9.1 d9.2.1).bind λib=>
 ((aU (σ:=(List Int)×List Int×List Int×List Int×List Int×List Int×List Int×List Int×Int×Int) (λve cD=>
 (ix a4 ve).bind λoH=>
 gd (a0.Q≠0)<|
 (ix z7 ve).bind λNf=>
 (rO (i64.wrap ((i64.wrap ((i64.wrap (ib.1*((i64.wrap (oH+1)).tmod a0.Q)))+Nf))-ib.2)) a0.Q).bind λrb=>
 gd ((cD.2.2.2.2.2.2.1.length+1)*8<=140737488355328/\cD.2.2.2.2.2.2.1.length+1<=4611686018427387904)<|
 gd (a0.Q≠0)<|
 (ix ((a6.take ((i64.wrap (3*(a3.length:Int))).toNat)).drop ((i64.wrap (2*(a3.length:Int))).toNat)) ve).bind λq9=>
 (nZ a0 a2 ((i64.wrap (cD.2.2.2.2.2.2.2.2.1*rb)).tmod a0.Q) q9).bind λyP=>
 gd ((cD.2.2.1.length+1)*8<=140737488355328/\cD.2.2.1.length+1<=4611686018427387904)<|
 (rO (i64.wrap (q9-(i64.wrap (cD.2.2.2.2.2.2.2.2.2*rb)))) a0.Q).bind λyk=>
 gd ((cD.2.2.2.2.2.2.2.1.length+1)*8<=140737488355328/\cD.2.2.2.2.2.2.2.1.length+1<=4611686018427387904)<|
 J (.go (cD.1,cD.2.1,cD.2.2.1++[yP],cD.2.2.2.1,cD.2.2.2.2.1,cD.2.2.2.2.2.1,cD.2.2.2.2.2.2.1++[rb],cD.2.2.2.2.2.2.2.1++[yk],(i64.wrap (cD.2.2.2.2.2.2.2.2.1*rb)).tmod a0.Q,q9))) (λcD=>(cD.1,cD.2.1,cD.2.2.1,cD.2.2.2.1,cD.2.2.2.2.1,cD.2.2.2.2.2.1,cD.2.2.2.2.2.2.1,cD.2.2.2.2.2.2.2.1)) (a4.length) 0 (d9.1,d9.2.1,d9.2.2.1,d9.2.2.2.1,d9.2.2.2.2.1,d9.2.2.2.2.2,[],[],1,0):Option ((List Int×List Int×List Int×List Int×List Int×List Int×List Int×List Int))).bind λgV=>
 (xv z1).bind λoh=>
 ((aU (σ:=(List Int)×List Int×List Int×List Int×List Int×List Int) (λAK dM=>
 (ix ((a6.take ((i64.wrap (4*(a3.length:Int))).toNat)).drop ((i64.wrap (3*(a3.length:Int))).toNat)) AK).bind λjt=>
 (ix ((a6.take ((i64.wrap (5*(a3.length:Int))).toNat)).drop ((i64.wrap (4*(a3.length:Int))).toNat)) AK).bind λjI=>
 (nZ a0 a2 jt jI).bind λoF=>
 gd ((dM.2.2.2.1.length+1)*8<=140737488355328/\dM.2.2.2.1.length+1<=4611686018427387904)<|
 J (.go (dM.1,dM.2.1,dM.2.2.1,dM.2.2.2.1++[oF],dM.2.2.2.2.1,dM.2.2.2.2.2))) (λdM=>(dM.1,dM.2.1,dM.2.2.1,dM.2.2.2.1,dM.2.2.2.2.1,dM.2.2.2.2.2)) (((a6.take ((i64.wrap (4*(a3.length:Int))).toNat)).drop ((i64.wrap (3*(a3.length:Int))).toNat)).length) 0 (gV.1,gV.2.1,gV.2.2.1,gV.2.2.2.1,gV.2.2.2.2.1,gV.2.2.2.2.2.1):Option ((List Int×List Int×List Int×List Int×List Int×List Int))).bind λnj=>
 ((aU (σ:=(List Int)×List Int×List Int×List Int×List Int×List Int×Int) (λxi dj=>
 (ix ((a6.take ((i64.wrap (4*(a3.length:Int))).toNat)).drop ((i64.wrap (3*(a3.length:Int))).toNat)) xi).bind λMg=>
 (ix ((a6.take ((i64.wrap (6*(a3.length:Int))).toNat)).drop ((i64.wrap (5*(a3.length:Int))).toNat)) xi).bind λNx=>
 (cH a0 dj.2.2.2.2.2.2 Mg).bind λMk=>
 (cH a0 a2 Nx).bind λMK=>
 (ej a0 [Mk,MK]).bind λJv=>
 gd ((dj.2.2.2.1.length+1)*8<=140737488355328/\dj.2.2.2.1.length+1<=4611686018427387904)<|
 (ix dj.2.2.1 xi).bind λIh=>
 J (.go (dj.1,dj.2.1,dj.2.2.1,dj.2.2.2.1++[Jv],dj.2.2.2.2.1,dj.2.2.2.2.2.1,Ih))) (λdj=>(dj.1,dj.2.1,dj.2.2.1,dj.2.2.2.1,dj.2.2.2.2.1,dj.2.2.2.2.2.1)) (((a6.take ((i64.wrap (4*(a3.length:Int))).toNat)).drop ((i64.wrap (3*(a3.length:Int))).toNat)).length) 0 (nj.1,nj.2.1,nj.2.2.1,nj.2.2.2.1,nj.2.2.2.2.1,nj.2.2.2.2.2,a0.G):Option ((List Int×List Int×List Int×List Int×List Int×List Int))).bind λlN=>
 (cH a0 a2 x2).bind λa0Z=>
 gd ((lN.2.2.2.1.length+1)*8<=140737488355328/\lN.2.2.2.1.length+1<=4611686018427387904)<|
 ((aU (σ:=(List Int)×List Int×List Int×List Int×List Int×List Int) (λt6 eL=>
 (ix ((a6.take ((i64.wrap ((i64.wrap (7*(a3.length:Int)))+1)).toNat)).drop ((i64.wrap ((i64.wrap (6*(a3.length:Int)))+1)).toNat)) t6).bind λLV=>
 (ix ((a6.take ((i64.wrap ((i64.wrap (8*(a3.length:Int)))+1)).toNat)).drop ((i64.wrap ((i64.wrap (7*(a3.length:Int)))+1)).toNat)) t6).bind λWV=>
 (nZ a0 a2 LV WV).bind λUS=>
 gd ((eL.2.2.2.1.length+1)*8<=140737488355328/\eL.2.2.2.1.length+1<=4611686018427387904)<|
 J (.go (eL.1,eL.2.1,eL.2.2.1,eL.2.2.2.1++[US],eL.2.2.2.2.1,eL.2.2.2.2.2))) (λeL=>(eL.1,eL.2.1,eL.2.2.1,eL.2.2.2.1,eL.2.2.2.2.1,eL.2.2.2.2.2)) (((a6.take ((i64.wrap ((i64.wrap (7*(a3.length:Int)))+1)).toNat)).drop ((i64.wrap ((i64.wrap (6*(a3.length:Int)))+1)).toNat)).length) 0 (lN.1,lN.2.1,lN.2.2.1,lN.2.2.2.1++[a0Z],lN.2.2.2.2.1,lN.2.2.2.2.2):Option ((List Int×List Int×List Int×List Int×List Int×List Int))).bind λgU=>
 (cH a0 a0.G (i64.wrap (0-x3))).bind λJh=>
 (lR a0 oh.1 ((a6.take ((i64.wrap ((i64.wrap (7*(a3.length:Int)))+1)).toNat)).drop ((i64.wrap ((i64.wrap (6*(a3.length:Int)))+1)).toNat))).bind λI7=>
 (ej a0 [Jh,I7]).bind λC8=>
 (cH a0 a1 (i64.wrap (0-x3))).bind λKr=>
 (lR a0 oh.2 ((a6.take ((i64.wrap ((i64.wrap (7*(a3.length:Int)))+1)).toNat)).drop ((i64.wrap ((i64.wrap (6*(a3.length:Int)))+1)).toNat))).bind λIc=>
 (ej a0 [Kr,Ic]).bind λCG=>
 gd ((gU.2.2.2.1.length+2)*8<=140737488355328/\gU.2.2.2.1.length+2<=4611686018427387904)<|
 (zG a0 a1 a3 z1 (ct.mk gU.1 gU.2.1 gU.2.2.1 (cb.mk (gU.2.2.2.1++[C8,CG]) gU.2.2.2.2.1 gU.2.2.2.2.2))).bind λnG=>
 ((aU (σ:=(List Int)) (λAs nQ=>
 (ix ((a6.take ((i64.wrap (4*(a3.length:Int))).toNat)).drop ((i64.wrap (3*(a3.length:Int))).toNat)) As).bind λLL=>
 (ix gV.2.2.2.2.2.2.1 As).bind λIY=>
 gd (a0.Q≠0)<|
 gd ((nQ.length+1)*8<=140737488355328/\nQ.length+1<=4611686018427387904)<|
 J (.go (nQ++[(i64.wrap (LL+(i64.wrap (nG*IY)))).tmod a0.Q]))) (λnQ=>nQ) (((a6.take ((i64.wrap (4*(a3.length:Int))).toNat)).drop ((i64.wrap (3*(a3.length:Int))).toNat)).length) 0 []:Option ((List Int))).bind λPY=>
 ((aU (σ:=(List Int)) (λxc nW=>
 (ix ((a6.take ((i64.wrap (5*(a3.length:Int))).toNat)).drop ((i64.wrap (4*(a3.length:Int))).toNat)) xc).bind λKX=>
 (ix ((a6.take a3.length).drop 0) xc).bind λIF=>
 (ix ((a6.take ((i64.wrap (2*(a3.length:Int))).toNat)).drop a3.length) xc).bind λH8=>
 gd (a0.Q≠0)<|
 gd (a0.Q≠0)<|
 gd ((nW.length+1)*8<=140737488355328/\nW.length+1<=4611686018427387904)<|
 J (.go (nW++[(i64.wrap (KX+(i64.wrap (nG*((i64.wrap ((i64.wrap (ib.1*IF))+H8)).tmod a0.Q))))).tmod a0.Q]))) (λnW=>nW) (((a6.take ((i64.wrap (4*(a3.length:Int))).toNat)).drop ((i64.wrap (3*(a3.length:Int))).toNat)).length) 0 PY:Option ((List Int))).bind λNa=>
 ((aU (σ:=(List Int)) (λIJ wo=>
 (ix ((a6.take ((i64.wrap (6*(a3.length:Int))).toNat)).drop ((i64.wrap (5*(a3.length:Int))).toNat)) IJ).bind λT4=>
 (ix gV.2.2.2.2.2.2.2 IJ).bind λRK=>
 gd (a0.Q≠0)<|
 gd ((wo.length+1)*8<=140737488355328/\wo.length+1<=4611686018427387904)<|
 J (.go (wo++[(i64.wrap (T4+(i64.wrap (nG*RK)))).tmod a0.Q]))) (λwo=>wo) (((a6.take ((i64.wrap (4*(a3.length:Int))).toNat)).drop ((i64.wrap (3*(a3.length:Int))).toNat)).length) 0 Na:Option ((List Int))).bind λE8=>
 (ix ((a6.take ((i64.wrap (3*(a3.length:Int))).toNat)).drop ((i64.wrap (2*(a3.length:Int))).toNat)) (i64.wrap ((a3.length:Int)-1))).bind λC5=>
 gd (a0.Q≠0)<|
 gd ((E8.length+1)*8<=140737488355328/\E8.length+1<=4611686018427387904)<|
 ((aU (σ:=(List Int)) (λIC uU=>
 (ix ((a6.take ((i64.wrap ((i64.wrap (7*(a3.length:Int)))+1)).toNat)).drop ((i64.wrap ((i64.wrap (6*(a3.length:Int)))+1)).toNat)) IC).bind λRj=>
 (ix z7 IC).bind λTm=>
 gd (a0.Q≠0)<|
 gd ((uU.length+1)*8<=140737488355328/\uU.length+1<=4611686018427387904)<|
 J (.go (uU++[(i64.wrap (Rj+(i64.wrap (nG*Tm)))).tmod a0.Q]))) (λuU=>uU) (((a6.take ((i64.wrap ((i64.wrap (7*(a3.length:Int)))+1)).toNat)).drop ((i64.wrap ((i64.wrap (6*(a3.length:Int)))+1)).toNat)).length) 0 (E8++[(i64.wrap (x2+(i64.wrap (nG*C5)))).tmod a0.Q]):Option ((List Int))).bind λOC=>
 ((aU (σ:=(List Int)) (λKW vl=>
 (ix ((a6.take ((i64.wrap ((i64.wrap (8*(a3.length:Int)))+1)).toNat)).drop ((i64.wrap ((i64.wrap (7*(a3.length:Int)))+1)).toNat)) KW).bind λQK=>
 (ix ((a6.take ((i64.wrap (2*(a3.length:Int))).toNat)).drop a3.length) KW).bind λVP=>
 gd (a0.Q≠0)<|
 gd ((vl.length+1)*8<=140737488355328/\vl.length+1<=4611686018427387904)<|
 J (.go (vl++[(i64.wrap (QK+(i64.wrap (nG*VP)))).tmod a0.Q]))) (λvl=>vl) (((a6.take ((i64.wrap ((i64.wrap (7*(a3.length:Int)))+1)).toNat)).drop ((i64.wrap ((i64.wrap (6*(a3.length:Int)))+1)).toNat)).length) 0 OC:Option ((List Int))).bind λE5=>
 (uO a5 z7 a0.Q).bind λa0N=>
 gd (a0.Q≠0)<|
 gd ((E5.length+1)*8<=140737488355328/\E5.length+1<=4611686018427387904)<|
 J (ct.mk gU.1 gU.2.1 gU.2.2.1 (cb.mk (gU.2.2.2.1++[C8,CG]) [nG] (E5++[(i64.wrap (x3+(i64.wrap (nG*a0N)))).tmod a0.Q])))))))))))))
set_option maxHeartbeats 1000000 in
def zrO{a0 a1 a2 a3 a4 a5 a6 r}(hr:Fq a0 a1 a2 a3 a4 a5 a6=J r):au Tryz.prog 152 [(.sh,vE a0),(.sh,.int .i64 a1),(.sh,.int .i64 a2),(.sh,vH a3),(.sh,vC a4),(.sh,vC a5),(.sh,vC a6)] (Eo (vQ r) Qa):=by
 apply pF 527 [] [] [] [.cell 14 35] hr zH1 Tryz.func152;intro Φ ai hF g;unfold Fq at hF
 iterate 3 (try simp[go_sem,g];try intros;refine bh ?_)
 try simp[go_sem,g]
 try intros
 refine wE hF SH λz1 hF=>?_
 refine wK [1,2,3,4,5,6,7,14,15,16,17] ?_;refine wZ (kD 0 [0,0,0,0,0,0,0,0,0,0,0,0,0,0,0,0,0]) follows ?_
 iterate 8 obtain⟨g,hF⟩:=Rg g hF
 refine wK [1,2,3,4,5,6,7,14,15,16,17,18,19,20] ?_;refine wZ (kD 0 [0,0,0,0,0,0,0,0,0,0,0,0,0,0,0,0,0,0,0,0,0]) follows ?_
 iterate 9 obtain⟨g,hF⟩:=Rg g hF
 refine wK [1,2,3,4,5,6,7,14,15,16,17,18,19,20,21,22,23] ?_;refine wZ (kD 0 [0,0,0,0,0,0,0,0,0,0,0,0,0,0,0,0,0,0,0,0,0,0,0,0,0,0,0,0,0,0,0]) follows ?_;obtain⟨x2,g,hF⟩:=Rx g hF
 iterate 6 obtain⟨g,hF⟩:=Rg g hF
 obtain⟨x3,g,hF⟩:=Rx g hF;refine wK [1,2,3,4,5,7,14,15,16,17,18,19,20,21,22,23,24,25,26,27] ?_;refine wE hF zqM λz4 hF=>?_
 refine wW ?_;refine wZ (kD 0 [58,0,58,0,0,0,225,226,3,3,3,0]) follows ?_;refine wE hF Gx λz5 hF=>?_
 refine wE hF Cc λz6 hF=>?_
 refine wE hF zqT λz7 hF=>?_
 refine wK [1,2,3,4,5,7,14,15,16,17,18,19,20,21,22,23,24,25,26,27,28,29] ?_;try simp[go_sem,g]
 try intros
 refine bh ?_;refine bX hF [1,2,3,4,5,7,14,15,16,17,18,19,20,21,22,23,24,25,26,27,29] (λd9=>[(28,.bl [vD d9.1,vD d9.2.1,vD d9.2.2.1,vD d9.2.2.2.1,vD d9.2.2.2.2.1,vD d9.2.2.2.2.2])]) (λd9 hF=>?_) λ_ DX hF=>?_
 ·refine wE hF zmh λib hF=>?_
  refine wK [1,2,3,4,5,7,14,15,16,17,18,19,20,21,22,23,24,25,26,27,28,29,31,32] ?_
  iterate 3 (try simp[go_sem,g];try intros;refine bh ?_)
  refine bX hF [1,2,3,5,7,14,15,16,17,18,19,20,21,22,23,24,25,26,27,29,31] (λgV=>[(28,.bl [vD gV.1,vD gV.2.1,vD gV.2.2.1,vD gV.2.2.2.1,vD gV.2.2.2.2.1,vD gV.2.2.2.2.2.1]),(33,.v (vD gV.2.2.2.2.2.2.1)),(34,.v (vD gV.2.2.2.2.2.2.2))]) (λgV hF=>?_) λ_ uX hF=>?_
  ·refine wE hF FA λoh hF=>?_
   refine wK [1,2,3,5,7,14,15,16,17,18,19,20,21,22,23,24,25,26,27,28,29,31,33,34,40,41] ?_;try simp[go_sem,g]
   try intros
   refine bh ?_;refine bX hF [1,2,3,5,7,14,15,16,17,18,19,20,21,22,23,24,25,26,27,29,31,33,34,40,41] (λnj=>[(28,.bl [vD nj.1,vD nj.2.1,vD nj.2.2.1,vD nj.2.2.2.1,vD nj.2.2.2.2.1,vD nj.2.2.2.2.2])]) (λnj hF=>?_) λ_ a3U hF=>?_
   ·iterate 2 (try simp[go_sem,g];try intros;refine bh ?_)
    refine bX hF [1,2,3,5,7,14,15,16,17,18,19,20,21,22,23,24,25,26,27,29,31,33,34,40,41] (λlN=>[(28,.bl [vD lN.1,vD lN.2.1,vD lN.2.2.1,vD lN.2.2.2.1,vD lN.2.2.2.2.1,vD lN.2.2.2.2.2])]) (λlN hF=>?_) λ_ a2e hF=>?_
    ·refine wZ (kD 0 [225,225,226,58,0,0,3,0,5,225,225,226]) follows ?_;refine wE hF eK λa0Z hF=>?_
     obtain⟨g,hF⟩:=Rg g hF;refine wK [1,2,3,5,7,14,15,16,17,18,19,20,21,22,23,24,25,26,27,28,29,31,33,34,40,41] ?_;try simp[go_sem,g]
     try intros
     refine bh ?_;refine bX hF [1,3,5,7,14,15,16,17,18,19,20,21,22,23,24,25,26,27,29,31,33,34,40,41] (λgU=>[(28,.bl [vD gU.1,vD gU.2.1,vD gU.2.2.1,vD gU.2.2.2.1,vD gU.2.2.2.2.1,vD gU.2.2.2.2.2])]) (λgU hF=>?_) λ_ a5k hF=>?_
     ·refine wZ (kE [0,1,2,3,4,5,6,7,8,10,11,12,16,17,18,19,20,22,23,24,9,13,14,15,21,25,26,27,28,29,30,31,32] [225,225,226,58,58,57,58,0,0,58,0,0,58,58,0,0,0,58,0,0,3,3,0,6,3,3,0,6,0,5,225,225,226]) follows ?_;refine wE hF eK λJh hF=>?_
      refine wE hF oU λI7 hF=>?_
      refine wE hF gZ λC8 hF=>?_
      refine wE hF eK λKr hF=>?_
      refine wE hF oU λIc hF=>?_
      refine wE hF gZ λCG hF=>?_
      obtain⟨g,hF⟩:=Rg g hF;refine wK [1,3,5,7,14,15,16,17,18,19,20,21,22,23,24,25,26,27,28,29,31,33,34] ?_;refine wE hF YD λnG hF=>?_
      refine wW ?_;refine wK [5,14,15,16,18,19,20,21,22,23,24,25,26,27,28,29,31,33,34,46] ?_
      iterate 2 (try simp[go_sem,g];try intros;refine bh ?_)
      refine bX hF [5,14,15,16,18,19,20,21,22,23,24,25,26,27,28,29,31,34,46] (λPY=>[(47,.v (vD PY))]) (λPY hF=>?_) λ_ a2j hF=>?_
      ·try simp[go_sem,g]
       try intros
       refine bh ?_;refine bX hF [5,14,15,16,19,20,21,23,24,25,26,27,28,29,34,46] (λNa=>[(47,.v (vD Na))]) (λNa hF=>?_) λ_ a4v hF=>?_
       ·try simp[go_sem,g]
        try intros
        refine wK [5,14,15,16,19,20,23,24,25,26,27,28,29,34,46,47,432,433] ?_;refine bX hF [5,14,15,16,19,20,24,25,26,27,28,29,46] (λE8=>[(47,.v (vD E8))]) (λE8 hF=>?_) λ_ a1G hF=>?_
        ·obtain⟨C5,g,hF⟩:=iA g hF;obtain⟨g,hF⟩:=Rz g hF;obtain⟨g,hF⟩:=Rg g hF;refine wK [5,14,16,19,25,26,27,28,29,46,47] ?_;try simp[go_sem,g]
         try intros
         refine bh ?_;refine bX hF [5,14,16,19,25,26,27,28,29,46] (λOC=>[(47,.v (vD OC))]) (λOC hF=>?_) λ_ a5i hF=>?_
         ·try simp[go_sem,g]
          try intros
          refine bh ?_;refine bX hF [5,14,16,27,28,29,46] (λE5=>[(47,.v (vD E5))]) (λE5 hF=>?_) λ_ a3x hF=>?_
          ·refine wE hF QT λa0N hF=>?_
           obtain⟨g,hF⟩:=Rz g hF;obtain⟨g,hF⟩:=Rg g hF;refine wK [14,28] ?_;exact wl ai hF
          refine wB ?_;obtain⟨a54,a29,a4W⟩:=hF;refine bU a29 [5,14,16,19,26,27,28,29,46,490] (λKW vl=>[(47,.v (vD vl)),(491,.v (.int .i64 KW))]) (λvl _ a28=>?_) λKW vl _ _ ZM Uy a5R a2F hF=>?_
          ·exact wn a28 (a3x _) a4W
          have ZG:=Uy;try simp at ZG
          refine wW ?_;refine wt ?_ (hb:=by simp[go_sem,g,ZM,Uy,ZG]<;>omega);refine wW ?_;refine wB ?_;refine wW ?_;refine wZ (kD 0 [0,0,0,0,0,0,0,0,0,0,0,0,0,0,0,5,0]) follows ?_;obtain⟨QK,g,hF⟩:=iA g hF;obtain⟨VP,g,hF⟩:=iA g hF;obtain⟨g,hF⟩:=Rz g hF;obtain⟨g,hF⟩:=Rg g hF;refine wK [5,14,16,19,26,27,28,29,46,47,490,491] ?_;exact wT (a2F (vl++[(i64.wrap (QK+(i64.wrap (nG*VP)))).tmod a0.Q])) (aj hF) (a:=by simp[go_sem,g,zx ZM Uy (by first|assumption|(simp;assumption)|(simp;omega))])
         refine wB ?_;obtain⟨a5N,a38,a2H⟩:=hF;refine bU a38 [5,14,16,19,25,26,27,28,29,46,468] (λIC uU=>[(47,.v (vD uU)),(469,.v (.int .i64 IC))]) (λuU _ a2U=>?_) λIC uU _ _ XH UL a6l a4V hF=>?_
         ·exact wn a2U (a5i _) a2H
         have a0I:=UL;try simp at a0I
         refine wW ?_;refine wt ?_ (hb:=by simp[go_sem,g,XH,UL,a0I]<;>omega);refine wW ?_;refine wB ?_;refine wW ?_;refine wZ (kD 0 [0,0,0,0,0,0,0,0,0,0,0,0,0,0,0,5,0]) follows ?_;obtain⟨Rj,g,hF⟩:=iA g hF;obtain⟨Tm,g,hF⟩:=Rx g hF;obtain⟨g,hF⟩:=Rz g hF;obtain⟨g,hF⟩:=Rg g hF;refine wK [5,14,16,19,25,26,27,28,29,46,47,468,469] ?_;exact wT (a4V (uU++[(i64.wrap (Rj+(i64.wrap (nG*Tm)))).tmod a0.Q])) (aj hF) (a:=by simp[go_sem,g,zx XH UL (by first|assumption|(simp;assumption)|(simp;omega))])
        refine wB ?_;obtain⟨a6o,a26,a3E⟩:=hF;refine bU a26 [5,14,15,16,19,20,23,24,25,26,27,28,29,34,46,432] (λIJ wo=>[(47,.v (vD wo)),(433,.v (.int .i64 IJ))]) (λwo _ a4I=>?_) λIJ wo _ _ a0R Rk a6p a5c hF=>?_
        ·exact wn a4I (a1G _) a3E
        have a0l:=Rk;try simp at a0l
        refine wW ?_;refine wt ?_ (hb:=by simp[go_sem,g,a0R,Rk,a0l]<;>omega);refine wW ?_;refine wB ?_;refine wW ?_;refine wZ (kD 0 [0,0,0,0,0,0,0,0,0,0,0,0,0,0,0,5,0]) follows ?_;obtain⟨T4,g,hF⟩:=iA g hF;obtain⟨RK,g,hF⟩:=Rx g hF;obtain⟨g,hF⟩:=Rz g hF;obtain⟨g,hF⟩:=Rg g hF;refine wK [5,14,15,16,19,20,23,24,25,26,27,28,29,34,46,47,432,433] ?_;exact wT (a5c (wo++[(i64.wrap (T4+(i64.wrap (nG*RK)))).tmod a0.Q])) (aj hF) (a:=by simp[go_sem,g,zx a0R Rk (by first|assumption|(simp;assumption)|(simp;omega))])
       refine wB ?_;obtain⟨a5K,a32,a5f⟩:=hF;refine bU a32 [5,14,15,16,18,19,20,21,22,23,24,25,26,27,28,29,31,34,46,401] (λxc nW=>[(47,.v (vD nW)),(402,.v (.int .i64 xc))]) (λnW _ a4n=>?_) λxc nW _ _ WW Uk a5V a1Y hF=>?_
       ·exact wn a4n (a4v _) a5f
       have Zq:=Uk;try simp at Zq
       refine wW ?_;refine wt ?_ (hb:=by simp[go_sem,g,WW,Uk,Zq]<;>omega);refine wW ?_;refine wB ?_;refine wK [5,14,15,16,18,19,20,21,22,23,24,25,26,27,28,29,31,34,46,47,49,401,402] ?_;refine wZ (kD 0 [0,0,0,0,0,0,0,0,0,0,0,0,0,0,0,0,0,0,0,0,0,0,0,0,5,0]) follows ?_;obtain⟨KX,g,hF⟩:=iA g hF;obtain⟨IF,g,hF⟩:=iA g hF;obtain⟨H8,g,hF⟩:=iA g hF
       iterate 2 obtain⟨g,hF⟩:=Rz g hF
       obtain⟨g,hF⟩:=Rg g hF;refine wK [5,14,15,16,18,19,20,21,22,23,24,25,26,27,28,29,31,34,46,47,401,402] ?_;exact wT (a1Y (nW++[(i64.wrap (KX+(i64.wrap (nG*((i64.wrap ((i64.wrap (ib.1*IF))+H8)).tmod a0.Q))))).tmod a0.Q])) (aj hF) (a:=by simp[go_sem,g,zx WW Uk (by first|assumption|(simp;assumption)|(simp;omega))])
      refine wB ?_;obtain⟨a5L,a4N,a3p⟩:=hF;refine bU a4N [5,14,15,16,18,19,20,21,22,23,24,25,26,27,28,29,31,33,34,46,379] (λAs nQ=>[(47,.v (vD nQ)),(380,.v (.int .i64 As))]) (λnQ _ a3k=>?_) λAs nQ _ _ X4 SN a6w a5m hF=>?_
      ·exact wn a3k (a2j _) a3p
      have Yq:=SN;try simp at Yq
      refine wW ?_;refine wt ?_ (hb:=by simp[go_sem,g,X4,SN,Yq]<;>omega);refine wW ?_;refine wB ?_;refine wW ?_;refine wZ (kD 0 [0,0,0,0,0,0,0,0,0,0,0,0,0,0,0,5,0]) follows ?_;obtain⟨LL,g,hF⟩:=iA g hF;obtain⟨IY,g,hF⟩:=Rx g hF;obtain⟨g,hF⟩:=Rz g hF;obtain⟨g,hF⟩:=Rg g hF;refine wK [5,14,15,16,18,19,20,21,22,23,24,25,26,27,28,29,31,33,34,46,47,379,380] ?_;exact wT (a5m (nQ++[(i64.wrap (LL+(i64.wrap (nG*IY)))).tmod a0.Q])) (aj hF) (a:=by simp[go_sem,g,zx X4 SN (by first|assumption|(simp;assumption)|(simp;omega))])
     refine wB ?_;obtain⟨a6r,a4j,Q4⟩:=hF;refine bU a4j [1,2,3,5,7,14,15,16,17,18,19,20,21,22,23,24,25,26,27,29,31,33,34,40,41,313] (λt6 eL=>[(28,.bl [vD eL.1,vD eL.2.1,vD eL.2.2.1,vD eL.2.2.2.1,vD eL.2.2.2.2.1,vD eL.2.2.2.2.2]),(314,.v (.int .i64 t6))]) (λeL _ a34=>?_) λt6 eL _ _ JH HB a1T TR hF=>?_
     ·exact wn a34 (a5k _) Q4
     have YW:=HB;try simp at YW
     refine wW ?_;refine wt ?_ (hb:=by simp[go_sem,g,JH,HB,YW]<;>omega);refine wW ?_;refine wB ?_;refine wW ?_;refine wZ (kD 0 [225,225,226,58,0,0,0,0,0,0,0,0,0,3,0,5,225,225,226]) follows ?_;obtain⟨LV,g,hF⟩:=iA g hF;obtain⟨WV,g,hF⟩:=iA g hF;refine wE hF Dh λUS hF=>?_
     obtain⟨g,hF⟩:=Rg g hF;refine wK [1,2,3,5,7,14,15,16,17,18,19,20,21,22,23,24,25,26,27,28,29,31,33,34,40,41,313,314] ?_;exact wT (TR (eL.1,eL.2.1,eL.2.2.1,eL.2.2.2.1++[US],eL.2.2.2.2.1,eL.2.2.2.2.2)) (aj hF) (a:=by simp[go_sem,g,zx JH HB (by first|assumption|(simp;assumption)|(simp;omega))])
    refine wB ?_;obtain⟨a6b,a4L,a4c⟩:=hF;refine bU a4L [1,2,3,5,7,14,15,16,17,18,19,20,21,22,23,24,25,26,27,29,31,33,34,40,41,267] (λxi dj=>[(28,.bl [vD dj.1,vD dj.2.1,vD dj.2.2.1,vD dj.2.2.2.1,vD dj.2.2.2.2.1,vD dj.2.2.2.2.2.1]),(43,.v (.int .i64 dj.2.2.2.2.2.2)),(268,.v (.int .i64 xi))]) (λdj _ a3e=>?_) λxi dj _ _ a0h RR a6d a4E hF=>?_
    ·exact wn a3e (a2e _) a4c
    have YS:=RR;try simp at YS
    refine wK [1,2,3,5,7,14,15,16,17,18,19,20,21,22,23,24,25,26,27,28,29,31,33,34,40,41,43,267,268,269] ?_;refine wt ?_ (hb:=by simp[go_sem,g,a0h,RR,YS]<;>omega);refine wW ?_;refine wB ?_;refine wW ?_;refine wZ (kE [0,1,2,3,4,5,6,7,8,9,11,12,13,14,15,16,10,17,18,19,20,21,22,23,24] [225,225,226,58,58,0,0,0,0,0,58,0,0,0,0,0,4,3,0,6,0,5,225,225,226]) follows ?_;obtain⟨Mg,g,hF⟩:=iA g hF;obtain⟨Nx,g,hF⟩:=iA g hF;refine wD hF eK λMk hF=>?_
    refine wE hF eK λMK hF=>?_
    refine wE hF gZ λJv hF=>?_
    obtain⟨g,hF⟩:=Rg g hF;refine wK [1,2,3,5,7,14,15,16,17,18,19,20,21,22,23,24,25,26,27,28,29,31,33,34,40,41,44,267,268] ?_;obtain⟨Ih,g,hF⟩:=Rx g hF;refine wW ?_;exact wT (a4E (dj.1,dj.2.1,dj.2.2.1,dj.2.2.2.1++[Jv],dj.2.2.2.2.1,dj.2.2.2.2.2.1,Ih)) (aj hF) (a:=by simp[go_sem,g,zx a0h RR (by first|assumption|(simp;assumption)|(simp;omega))])
   refine wB ?_;obtain⟨b95,a4p,a2r⟩:=hF;refine bU a4p [1,2,3,5,7,14,15,16,17,18,19,20,21,22,23,24,25,26,27,29,31,33,34,40,41,241] (λAK dM=>[(28,.bl [vD dM.1,vD dM.2.1,vD dM.2.2.1,vD dM.2.2.2.1,vD dM.2.2.2.2.1,vD dM.2.2.2.2.2]),(242,.v (.int .i64 AK))]) (λdM _ a4R=>?_) λAK dM _ _ a0W QS a5Y a2P hF=>?_
   ·exact wn a4R (a3U _) a2r
   have a1a:=QS;try simp at a1a
   refine wW ?_;refine wt ?_ (hb:=by simp[go_sem,g,a0W,QS,a1a]<;>omega);refine wW ?_;refine wB ?_;refine wW ?_;refine wZ (kD 0 [225,225,226,58,0,0,0,0,0,0,0,0,0,3,0,5,225,225,226]) follows ?_;obtain⟨jt,g,hF⟩:=iA g hF;obtain⟨jI,g,hF⟩:=iA g hF;refine wE hF Dh λoF hF=>?_
   obtain⟨g,hF⟩:=Rg g hF;refine wK [1,2,3,5,7,14,15,16,17,18,19,20,21,22,23,24,25,26,27,28,29,31,33,34,40,41,241,242] ?_;exact wT (a2P (dM.1,dM.2.1,dM.2.2.1,dM.2.2.2.1++[oF],dM.2.2.2.2.1,dM.2.2.2.2.2)) (aj hF) (a:=by simp[go_sem,g,zx a0W QS (by first|assumption|(simp;assumption)|(simp;omega))])
  refine wB ?_;obtain⟨b65,a3N,a1S⟩:=hF;refine bU a3N [1,2,3,5,7,14,15,16,17,18,19,20,21,22,23,24,25,26,27,29,31,32,173,174] (λve cD=>[(28,.bl [vD cD.1,vD cD.2.1,vD cD.2.2.1,vD cD.2.2.2.1,vD cD.2.2.2.2.1,vD cD.2.2.2.2.2.1]),(33,.v (vD cD.2.2.2.2.2.2.1)),(34,.v (vD cD.2.2.2.2.2.2.2.1)),(35,.v (.int .i64 cD.2.2.2.2.2.2.2.2.1)),(36,.v (.int .i64 cD.2.2.2.2.2.2.2.2.2)),(175,.v (.int .i64 ve))]) (λcD _ a5a=>?_) λve cD _ _ a0X Z3 a5Q a3g hF=>?_
  ·exact wn a5a (uX _) a1S
  refine wW ?_;refine wu a0X Z3 ?_;refine wW ?_;refine wB ?_;obtain⟨oH,g,hF⟩:=Rx g hF;refine wK [1,2,3,5,7,14,15,16,17,18,19,20,21,22,23,24,25,26,27,28,29,31,32,33,34,35,36,37,38,173,174,175] ?_;refine wZ (kD 0 [0,0,0,0,0,0,0,0,0,0,0,0,0,0,3,0]) follows ?_;obtain⟨g,hF⟩:=Rz g hF;obtain⟨Nf,g,hF⟩:=Rx g hF;refine wE hF ID λrb hF=>?_
  refine wK [1,2,3,5,7,14,15,16,17,18,19,20,21,22,23,24,25,26,27,28,29,31,32,33,34,35,36,37,39,173,174,175] ?_;obtain⟨g,hF⟩:=Rg g hF;obtain⟨g,hF⟩:=Rz g hF;refine wW ?_;refine wK [1,2,3,5,7,14,15,16,17,18,19,20,21,22,23,24,25,26,27,28,29,31,32,33,34,35,36,37,39,173,174,175] ?_;refine wZ (kD 0 [225,226,58,0,0,0,0,0,0,3,0,5,225,226]) follows ?_;obtain⟨q9,g,hF⟩:=iA g hF;refine wE hF Dh λyP hF=>?_
  obtain⟨g,hF⟩:=Rg g hF;refine wK [1,2,3,5,7,14,15,16,17,18,19,20,21,22,23,24,25,26,27,28,29,31,32,33,34,35,36,37,39,173,174,175] ?_;refine wE hF ID λyk hF=>?_
  obtain⟨g,hF⟩:=Rg g hF;refine wK [1,2,3,5,7,14,15,16,17,18,19,20,21,22,23,24,25,26,27,28,29,31,32,33,34,35,37,173,174,175] ?_;refine wW ?_;exact wi a0X Z3 (a3g _) (aj hF)
 refine wB ?_;obtain⟨b31,a31,yb⟩:=hF;refine bU a31 [1,2,3,4,5,7,14,15,16,17,18,19,20,21,22,23,24,25,26,27,29,140] (λf7 bR=>[(28,.bl [vD bR.1,vD bR.2.1,vD bR.2.2.1,vD bR.2.2.2.1,vD bR.2.2.2.2.1,vD bR.2.2.2.2.2]),(141,.v (.int .i64 f7))]) (λbR _ a4F=>?_) λf7 bR _ _ kW qt Mt zm hF=>?_
 ·exact wn a4F (DX _) yb
 refine wW ?_;refine wu kW qt ?_;refine wW ?_;refine wB ?_;refine wW ?_;refine wZ (kD 0 [225,226,58,0,0,0,0,0,0,0,0,0,3,0,5,225,226]) follows ?_;obtain⟨gi,g,hF⟩:=Rx g hF;obtain⟨jo,g,hF⟩:=iA g hF;refine wE hF Dh λeX hF=>?_
 obtain⟨g,hF⟩:=Rg g hF;refine wK [1,2,3,4,5,7,14,15,16,17,18,19,20,21,22,23,24,25,26,27,28,29,140,141] ?_;exact wi kW qt (zm _) (aj hF)
def Ba(a0:an)(a1:Int)(a2:List aq)(a3:List Int)(a4:List Int)(a5:List Int):Option (ct×Bool):=
 (((qw a0 a1 a2).bind λz4=>
 if(!z4)=Z then(
 J Z)else(
 (Hy a3 (a2.length:Int)).bind λz6=>
 if(!z6)=Z then(
 J Z)else(
 if((a4.length:Int) !=(a2.length:Int))=Z then(
 J Z)else(
 (sO a0 a4).bind λz9=>
 if(!z9)=Z then(
 J Z)else(
 if((a5.length:Int) !=(i64.wrap ((i64.wrap (8*(a2.length:Int)))+2)))=Z then(
 J Z)else(
 (sO a0 a5).bind λbr=>
 J (!br)))))):Option Bool).bind λx3=>
 if x3=Z then(
 J ((ct.mk [] [] [] (cb.mk [] [] [])),aa))else(
 (GL a0).bind λdK=>
 if(!dK.2)=Z then(
 J ((ct.mk [] [] [] (cb.mk [] [] [])),aa))else(
 (Fq a0 a1 dK.1 a2 a3 a4 a5).bind λiW=>
 J (iW,Z))))
def zpx{a0 a1 a2 a3 a4 a5 r}(hr:Ba a0 a1 a2 a3 a4 a5=J r):au Tryz.prog 88 [(.sh,vE a0),(.sh,.int .i64 a1),(.sh,vH a2),(.sh,vC a3),(.sh,vC a4),(.sh,vC a5)] (Eo (.bS [vQ r.1,.bool r.2]) sH):=by
 apply pF 73 [] [] [] [.cell 12 35,.tmp 13] hr zKD Tryz.func88;intro Φ ai hF g;unfold Ba at hF
 iterate 2 (try simp[go_sem,g];try intros;refine bh ?_)
 refine bX hF [1,2,3,4,5,6,12] (λx3=>[(55,.v (.bool x3))]) (λx3 hF=>?_) λ_ ao hF=>?_
 ·refine wI hF (λcZ hF=>?_) λcZ hF=>?_
  ·exact wl ai hF
  refine wW ?_;refine wE hF znW λdK hF=>?_
  refine wK [1,2,3,4,5,6,12,15,16] ?_;refine wW ?_;refine wI hF (λiT hF=>?_) λiT hF=>?_
  ·exact wl ai hF
  refine wW ?_;refine wE hF zrO λiW hF=>?_
  refine wK [12,13] ?_;exact wm ai hF
 refine wE hF B4 λz4 hF=>?_
 refine wG hF (λh5 hF=>?_) λh5 hF=>?_
 ·exact wV h5 (ao _) (aj hF)
 try simp[go_sem,g,h5]
 refine wE hF znF λz6 hF=>?_
 try simp[go_sem,g,h5]
 refine wG hF (λh7 hF=>?_) λh7 hF=>?_
 ·exact wV h7 (ao _) (aj hF)
 try simp[go_sem,g,h7]
 try intros
 refine wG hF (λh8 hF=>?_) λh8 hF=>?_
 ·exact wV h8 (ao _) (aj hF)
 try simp[go_sem,g,h8]
 refine wE hF Ep λz9 hF=>?_
 try simp[go_sem,g,h8]
 refine wG hF (λdf hF=>?_) λdf hF=>?_
 ·exact wV df (ao _) (aj hF)
 try simp[go_sem,g,df]
 try intros
 refine wG hF (λeQ hF=>?_) λeQ hF=>?_
 ·exact wV eQ (ao _) (aj hF)
 try simp[go_sem,g,eQ]
 refine wE hF Ep λbr hF=>?_
 exact wV eQ (ao _) (aj hF)
def zT(a0:an)(a1:Int)(a2:List aq)(a3:Int)(a4:List Int)(a5:List Int):Option eg:=
 gd (0<=(a2.length:Int))<|
 gd (0<=a2.length/\a2.length<=a5.length)<|
 (Em a0 a1 a2 a4 ((a5.take a2.length).drop 0)).bind λz1=>
 ((if(a3==1)=Z then(
 gd (0<=(a2.length:Int))<|
 gd (0<=a2.length/\a2.length<=a5.length)<|
 gd (0<=(a2.length:Int))<|
 gd (a2.length<=a5.length/\a5.length<=a5.length)<|
 (vx a0 a1 a2 a4 ((a5.take a2.length).drop 0) ((a5.take a5.length).drop a2.length)).bind λz6=>
 J (a3,z1,z6.1.cy,z6.1.aH,z6.1.Pi.aE,z6.1.Pi.aW,z6.1.Pi.aG,[],[],[],[],[],[]))else(
 gd (0<=(a2.length:Int))<|
 gd (0<=a2.length/\a2.length<=a5.length)<|
 gd (0<=(a2.length:Int))<|
 gd (a2.length<=a5.length/\a5.length<=a5.length)<|
 (Ba a0 a1 a2 a4 ((a5.take a2.length).drop 0) ((a5.take a5.length).drop a2.length)).bind λz7=>
 J (a3,z1,[],[],[],[],[],z7.1.bV,z7.1.bM,z7.1.aH,z7.1.Pi.aE,z7.1.Pi.aW,z7.1.Pi.aG)):Option ((Int×List aq×List Int×List Int×List Int×List Int×List Int×List Int×List Int×List Int×List Int×List Int×List Int))).bind λx4=>
 J (eg.mk x4.1 x4.2.1 (cM.mk x4.2.2.1 x4.2.2.2.1 (cb.mk x4.2.2.2.2.1 x4.2.2.2.2.2.1 x4.2.2.2.2.2.2.1)) (ct.mk x4.2.2.2.2.2.2.2.1 x4.2.2.2.2.2.2.2.2.1 x4.2.2.2.2.2.2.2.2.2.1 (cb.mk x4.2.2.2.2.2.2.2.2.2.2.1 x4.2.2.2.2.2.2.2.2.2.2.2.1 x4.2.2.2.2.2.2.2.2.2.2.2.2))))
def zrP{a0 a1 a2 a3 a4 a5 r}(hr:zT a0 a1 a2 a3 a4 a5=J r):au Tryz.prog 39 [(.sh,vE a0),(.sh,.int .i64 a1),(.sh,vH a2),(.sh,.int .i64 a3),(.sh,vC a4),(.sh,vC a5)] (Eo (vR r) sH):=by
 apply pF 60 [] [] [] [.cell 12 37] hr zLU Tryz.func39;intro Φ ai hF g;unfold zT at hF
 iterate 2 (try simp[go_sem,g];try intros;refine bh ?_)
 refine wZ (kE [0,1,2,3,4,5,6,7,10,8,9,11] [0,50,0,0,0,0,0,0,0,3,0,114]) follows ?_
 iterate 2 obtain⟨g,hF⟩:=Rg g hF
 refine wE hF SH λz1 hF=>?_
 refine wK [1,2,3,4,5,6,12,13,14] ?_;refine wW ?_;refine wJ hF (λx4=>[(12,.bl [.int .i64 0,.sl Z 2 [],.sl Z 1 [],.sl Z 1 [],.sl Z 1 [],.sl Z 1 [],.sl Z 1 [],.sl Z 1 [],.sl Z 1 [],.sl Z 1 [],.sl Z 1 [],.sl Z 1 [],.sl Z 1 []]),(14,.bl [.int .i64 x4.1,vG x4.2.1,vD x4.2.2.1,vD x4.2.2.2.1,vD x4.2.2.2.2.1,vD x4.2.2.2.2.2.1,vD x4.2.2.2.2.2.2.1,vD x4.2.2.2.2.2.2.2.1,vD x4.2.2.2.2.2.2.2.2.1,vD x4.2.2.2.2.2.2.2.2.2.1,vD x4.2.2.2.2.2.2.2.2.2.2.1,vD x4.2.2.2.2.2.2.2.2.2.2.2.1,vD x4.2.2.2.2.2.2.2.2.2.2.2.2])]) (λx4 hF=>?_) λ_ cE hF=>?_
 ·exact wl ai hF
 refine wI hF (λh5 hF=>?_) λh5 hF=>?_
 ·refine wZ (kD 0 [50,0,0,0,0,0,0,0,0,0,3,0,0,0,113,114]) follows ?_
  iterate 4 obtain⟨g,hF⟩:=Rg g hF
  refine wE hF znO λz6 hF=>?_
  exact wT (cE _) (aj hF)
 refine wZ (kD 0 [50,0,0,0,0,0,0,0,0,0,3,0,0,0,113,114]) follows ?_
 iterate 4 obtain⟨g,hF⟩:=Rg g hF
 refine wE hF zpx λz7 hF=>?_
 exact wT (cE _) (aj hF)
def uD(a0:an)(a1:Int)(a2:List aq)(a3:Int)(a4:List Int)(a5:List Int):Option (eg×Bool):=
 (Gy a3 (a2.length:Int)).bind λz1=>
 ((if(!z1.2)=Z then(
 J Z)else(
 (uw a0 a1 a2).bind λz6=>
 if(!z6)=Z then(
 J Z)else(
 if((a4.length:Int) !=(a2.length:Int))=Z then(
 J Z)else(
 (LD a4).bind λz9=>
 if(!z9)=Z then(
 J Z)else(
 if((a5.length:Int) !=z1.1)=Z then(
 J Z)else(
 (sO a0 a5).bind λbr=>
 J (!br)))))):Option Bool).bind λx4=>
 if x4=Z then(
 J ((eg.mk 0 [] (cM.mk [] [] (cb.mk [] [] [])) (ct.mk [] [] [] (cb.mk [] [] []))),aa))else(
 (zT a0 a1 a2 a3 a4 a5).bind λdK=>
 J (dK,Z)))
def zlk{a0 a1 a2 a3 a4 a5 r}(hr:uD a0 a1 a2 a3 a4 a5=J r):au Tryz.prog 8 [(.sh,vE a0),(.sh,.int .i64 a1),(.sh,vH a2),(.sh,.int .i64 a3),(.sh,vC a4),(.sh,vC a5)] (Eo (.bS [vR r.1,.bool r.2]) sH):=by
 apply pF 64 [] [] [] [.cell 12 37,.tmp 13] hr cl8 Tryz.func8;intro Φ ai hF g;unfold uD at hF;try simp[go_sem,g]
 try intros
 refine bh ?_;try simp[go_sem,g]
 try intros
 refine wE hF Y3 λz1 hF=>?_
 refine wK [1,2,3,4,5,6,12,14,15] ?_;refine bX hF [1,2,3,4,5,6,12] (λx4=>[(55,.v (.bool x4))]) (λx4 hF=>?_) λ_ cE hF=>?_
 ·refine wI hF (λcZ hF=>?_) λcZ hF=>?_
  ·exact wl ai hF
  refine wW ?_;refine wE hF zrP λdK hF=>?_
  exact wl ai hF
 refine wG hF (λh5 hF=>?_) λh5 hF=>?_
 ·exact wV h5 (cE _) (aj hF)
 try simp[go_sem,g,h5]
 refine wE hF zm1 λz6 hF=>?_
 try simp[go_sem,g,h5]
 refine wG hF (λh7 hF=>?_) λh7 hF=>?_
 ·exact wV h7 (cE _) (aj hF)
 try simp[go_sem,g,h7]
 try intros
 refine wG hF (λh8 hF=>?_) λh8 hF=>?_
 ·exact wV h8 (cE _) (aj hF)
 try simp[go_sem,g,h8]
 refine wE hF ztO λz9 hF=>?_
 try simp[go_sem,g,h8]
 refine wG hF (λdf hF=>?_) λdf hF=>?_
 ·exact wV df (cE _) (aj hF)
 try simp[go_sem,g,df]
 try intros
 refine wG hF (λeQ hF=>?_) λeQ hF=>?_
 ·exact wV eQ (cE _) (aj hF)
 try simp[go_sem,g,eQ]
 refine wE hF Ep λbr hF=>?_
 exact wV eQ (cE _) (aj hF)
def JS(a0:List aq)(a1:List aq):Option Bool:=
 if((a0.length:Int) !=(a1.length:Int))=Z then(
 J aa)else(
 ((aU (σ:=Unit) (λi6 s5=>
 (ix a0 i6).bind λcC=>
 (ix a1 i6).bind λfQ=>
 if(!(cC.A==fQ.A&&cC.B==fQ.B))=Z then(
 J (.out (.inr aa)))else(
 J (.go ()))) (λs5=>.inl ()) (a0.length) 0 ():Option (Unit ⊕ Bool)).bind (Sum.elim (λx4=>
 J Z) J)))
def zm8{a0 a1 r}(hr:JS a0 a1=J r):au Tryz.prog 9 [(.sh,vH a0),(.sh,vH a1)] (Eo (.bool r) cO):=by
 apply pF 26 [] [] [] [.tmp 4] hr cl9 Tryz.func9;intro Φ ai hF g;unfold JS at hF
 iterate 2 (try simp[go_sem,g];try intros;refine bh ?_)
 refine wI hF (λh1 hF=>?_) λh1 hF=>?_
 ·exact wl ai hF
 iterate 2 (try simp[go_sem,g];try intros;refine bh ?_)
 refine wS hF (λx4=>[]) (λx4 hF=>?_) λ_ cE yZ hF=>?_
 ·refine wK [4] ?_;exact wm ai hF
 refine wB ?_;obtain⟨CO,pi,pQ⟩:=hF;refine bU pi [0,1,12] (λi6 s5=>[(13,.v (.int .i64 i6))]) (λs5 _ oI=>?_) λi6 s5 _ _ ba pV uP yg hF=>?_
 ·exact wn oI (cE _) pQ
 refine wK [0,1,12,13,14] ?_;refine wu ba pV ?_;refine wW ?_;refine wB ?_;refine wW ?_;refine wZ (kD 0 [0,0,0,0,0,0,0,0,0]) follows ?_;obtain⟨cC,g,hF⟩:=Rx g hF;obtain⟨fQ,g,hF⟩:=Rx g hF;refine wK [0,1,12,13,24] ?_;refine wI hF (λeD hF=>?_) λeD hF=>?_
 ·cases uP _ (aj hF);cases ai _ (yZ _ pQ);refine wW ?_;try simp[go_sem,g]
 refine wW ?_;exact wi ba pV (yg _) (aj hF)
def Jt(a0:Int)(ye:an):Option Bool:=
 (AN ye a0).bind λz1=>
 J (!z1)
def zi2{a0 ye r}(hr:Jt a0 ye=J r):au Tryz.prog 116 [(.sh,.int .i64 a0),(.sh,.fp [.func (.func 76) [vE ye] []])] (Eo (.bool r) cO):=by
 apply pF 8 [] [] [] [.tmp 3] hr NN Tryz.func116;intro Φ ai hF g;unfold Jt at hF;refine wW ?_;refine wE hF P3 λz1 hF=>?_
 exact wl ai hF
def Nj(a0:List Int)(mg:an):Option Int:=
 ((aU (σ:=Unit) (λi5 s4=>
 (ix a0 i5).bind λaN=>
 (Jt aN mg).bind λbr=>
 if br=Z then(
 J (.out (.inr i5)))else(
 J (.go ()))) (λs4=>.inl ()) (a0.length) 0 ():Option (Unit ⊕ Int)).bind (Sum.elim (λx3=>
 J (-1)) J))
def zfg{a0 mg r}(hr:Nj a0 mg=J r):au Tryz.prog 174 [(.sh,vC a0),(.sh,.func (.func 116) [] [.fp [.func (.func 76) [vE mg] []]])] (Eo (.int .i64 r) cO):=by
 apply pF 19 [] [] [] [.tmp 4] hr M5 Tryz.func174;intro Φ ai hF g;unfold Nj at hF
 iterate 2 (try simp[go_sem,g];try intros;refine bh ?_)
 refine wS hF (λx3=>[]) (λx3 hF=>?_) λ_ ao fD hF=>?_
 ·exact wl ai hF
 refine wB ?_;obtain⟨oq,fT,bo⟩:=hF;refine bU fT [0,1,7] (λi5 s4=>[(8,.v (.int .i64 i5))]) (λs4 _ iy=>?_) λi5 s4 _ _ bq ba b8 bD hF=>?_
 ·exact wn iy (ao _) bo
 refine wW ?_;refine wu bq ba ?_;refine wW ?_;refine wB ?_;obtain⟨aN,g,hF⟩:=Rx g hF;refine wW ?_;refine wE hF zi2 λbr hF=>?_
 refine wK [0,1,5,7,8,16] ?_;refine wI hF (λcZ hF=>?_) λcZ hF=>?_
 ·cases b8 _ (aj hF);cases ai _ (fD _ bo);refine wW ?_;try simp[go_sem,g]
 refine wW ?_;exact wi bq ba (bD _) (aj hF)
def NZ(a0:List Int)(mg:an):Option Bool:=
 (Nj a0 mg).bind λz1=>
 J (decide (0<=z1))
def zeY{a0 mg r}(hr:NZ a0 mg=J r):au Tryz.prog 115 [(.sh,vC a0),(.sh,.func (.func 116) [] [.fp [.func (.func 76) [vE mg] []]])] (Eo (.bool r) cO):=by
 apply pF 9 [] [] [] [.tmp 4] hr Nh Tryz.func115;intro Φ ai hF g;unfold NZ at hF;refine wW ?_;refine wE hF zfg λz1 hF=>?_
 exact wl ai hF
def NW(a0:List Int)(yQ:an):Option Bool:=
 (NZ a0 yQ).bind λz1=>
 J (!z1)
def zjr{a0 yQ r}(hr:NW a0 yQ=J r):au Tryz.prog 69 [(.sh,vC a0),(.sh,.func (.func 76) [vE yQ] [])] (Eo (.bool r) cO):=by
 apply pF 9 [] [] [1000000] [.tmp 4] hr N0 Tryz.func69;intro Φ ai hF g;unfold NW at hF;refine wW ?_;refine wE hF zeY λz1 hF=>?_
 exact wl ai hF
def tF(a0:an)(a1:List Int):Option Bool:=
 (NW a1 a0).bind λz1=>
 J z1
def DK{a0 a1 r}(hr:tF a0 a1=J r):au Tryz.prog 203 [(.sh,vE a0),(.sh,vC a1)] (Eo (.bool r) cO):=by
 apply pF 9 [] [] [] [.tmp 4] hr zFK Tryz.func203;intro Φ ai hF g;unfold tF at hF;refine wW ?_;refine wE hF zjr λz1 hF=>?_
 exact wl ai hF
def I6(a0:an)(a1:cM)(a2:Int):Option Bool:=
 ((if((a1.cy.length:Int)==a2)=Z then(
 if((a1.aH.length:Int)==a2)=Z then(
 if((a1.Pi.aE.length:Int)==(i64.wrap (a2+5)))=Z then(
 if((a1.Pi.aW.length:Int)==1)=Z then(
 if((a1.Pi.aG.length:Int)==(i64.wrap ((i64.wrap (2*a2))+4)))=Z then(
 (tF a0 a1.cy).bind λz9=>
 if z9=Z then(
 (tF a0 a1.aH).bind λbQ=>
 if bQ=Z then(
 (tF a0 a1.Pi.aE).bind λcN=>
 if cN=Z then(
 (v3 a0 a1.Pi.aG).bind λew=>
 J ew)else(
 J aa))else(
 J aa))else(
 J aa))else(
 J aa))else(
 J aa))else(
 J aa))else(
 J aa))else(
 J aa):Option Bool).bind λx3=>
 J x3)
def zkk{a0 a1 a2 r}(hr:I6 a0 a1 a2=J r):au Tryz.prog 156 [(.sh,vE a0),(.sh,vL a1),(.sh,.int .i64 a2)] (Eo (.bool r) gH):=by
 apply pF 71 [] [] [] [.tmp 6] hr zFn Tryz.func156;intro Φ ai hF g;unfold I6 at hF;refine wW ?_;refine wJ hF (λx3=>[(6,.v (.bool x3))]) (λx3 hF=>?_) λ_ ao hF=>?_
 ·exact wm ai hF
 try simp[go_sem,g]
 try intros
 refine wG hF (λh4 hF=>?_) λh4 hF=>?_
 ·try simp[go_sem,g,h4]
  try intros
  refine wG hF (λh5 hF=>?_) λh5 hF=>?_
  ·try simp[go_sem,g,h5]
   try intros
   refine wG hF (λh6 hF=>?_) λh6 hF=>?_
   ·try simp[go_sem,g,h6]
    try intros
    refine wG hF (λh7 hF=>?_) λh7 hF=>?_
    ·try simp[go_sem,g,h7]
     try intros
     refine wG hF (λh8 hF=>?_) λh8 hF=>?_
     ·try simp[go_sem,g,h8]
      refine wE hF DK λz9 hF=>?_
      try simp[go_sem,g,h8]
      refine wG hF (λdf hF=>?_) λdf hF=>?_
      ·try simp[go_sem,g,df]
       refine wE hF DK λbQ hF=>?_
       try simp[go_sem,g,df]
       refine wG hF (λfB hF=>?_) λfB hF=>?_
       ·try simp[go_sem,g,fB]
        refine wE hF DK λcN hF=>?_
        try simp[go_sem,g,fB]
        refine wG hF (λeD hF=>?_) λeD hF=>?_
        ·try simp[go_sem,g,eD]
         refine wE hF IH λew hF=>?_
         exact wV eD (ao _) (aj hF)
        exact wV eD (ao _) (aj hF)
       exact wV fB (ao _) (aj hF)
      exact wV df (ao _) (aj hF)
     exact wV h8 (ao _) (aj hF)
    exact wV h7 (ao _) (aj hF)
   exact wV h6 (ao _) (aj hF)
  exact wV h5 (ao _) (aj hF)
 exact wV h4 (ao _) (aj hF)
def O1(a0:an)(a1:Int):Option Int:=
 (cU a0 a1 (-1)).bind λz1=>
 J z1
def zpr{a0 a1 r}(hr:O1 a0 a1=J r):au Tryz.prog 204 [(.sh,vE a0),(.sh,.int .i64 a1)] (Eo (.int .i64 r) cO):=by
 apply pF 8 [] [] [] [.tmp 4] hr zHE Tryz.func204;intro Φ ai hF g;unfold O1 at hF;refine wW ?_;refine wE hF eP λz1 hF=>?_
 exact wl ai hF
def Dr(a0:an)(a1:Int)(a2:Int):Option Int:=
 (O1 a0 a2).bind λz1=>
 (er a0 [a1,z1]).bind λz2=>
 J z2
def SJ{a0 a1 a2 r}(hr:Dr a0 a1 a2=J r):au Tryz.prog 158 [(.sh,vE a0),(.sh,.int .i64 a1),(.sh,.int .i64 a2)] (Eo (.int .i64 r) gH):=by
 apply pF 14 [] [] [] [.tmp 6] hr zFt Tryz.func158;intro Φ ai hF g;unfold Dr at hF;refine wW ?_;refine wZ (kD 0 [26,0,26,0,3,0,6,0]) follows ?_;refine wE hF zpr λz1 hF=>?_
 refine wE hF ip λz2 hF=>?_
 refine wK [6] ?_;exact wm ai hF
def ug(a0:Int)(a1:Int)(a2:Int)(uV:Int)(Jy:Int)(JR:Int)(v9:Int):Option Bool:=
 (cU (an.mk uV Jy JR) a1 v9).bind λz1=>
 (er (an.mk uV Jy JR) [a0,z1]).bind λz2=>
 J (z2==a2)
def GJ{a0 a1 a2 uV Jy JR v9 r}(hr:ug a0 a1 a2 uV Jy JR v9=J r):au Tryz.prog 157 [(.sh,.int .i64 a0),(.sh,.int .i64 a1),(.sh,.int .i64 a2),(.sh,.fp [.int .i64 uV,.int .i64 Jy,.int .i64 JR]),(.sh,.fp [.int .i64 v9])] (Eo (.bool r) rU):=by
 apply pF 19 [] [] [] [.tmp 8] hr zFD Tryz.func157;intro Φ ai hF g;unfold ug at hF;refine wW ?_;refine wZ (kE [0,1,2,3,4,8,5,6,7,9,10] [0,0,0,0,0,0,4,0,6,0,0]) follows ?_;refine wD hF eP λz1 hF=>?_
 refine wE hF ip λz2 hF=>?_
 refine wK [8] ?_;exact wm ai hF
def Fi(a0:an)(a1:cA)(a2:Int)(a3:List aq)(a4:List aq)(a5:cM):Option Bool:=
 ((if((a4.length:Int) !=(a3.length:Int))=Z then(
 J Z)else(
 (I6 a0 a5 (a3.length:Int)).bind λz5=>
 J (!z5)):Option Bool).bind λx3=>
 if x3=Z then(
 J aa)else(
 (qY a2 a3 a4 a5.cy).bind λz7=>
 (A0 a0 (⟨#[109,105,120,32,99,111,108,117,109,110,115]⟩:ByteArray) z7 (a3.length:Int)).bind λz8=>
 (pW [z7,a5.aH,a5.Pi.aE]).bind λz9=>
 (m7 a0 (⟨#[109,105,120,32,112,114,111,111,102]⟩:ByteArray) z9).bind λbF=>
 ((if(!z8.2)=Z then(
 J Z)else(
 if(!bF.2)=Z then(
 J Z)else(
 (ix a5.Pi.aW 0).bind λtt=>
 J (tt !=bF.1))):Option Bool).bind λfQ=>
 if fQ=Z then(
 J aa)else(
 gd (0<=(i64.wrap ((a3.length:Int)+4)))<|
 gd ((i64.wrap ((a3.length:Int)+4)).toNat<=a5.Pi.aG.length/\a5.Pi.aG.length<=a5.Pi.aG.length)<|
 ((aU (σ:=Int) (λf7 bR=>
 (ix z8.1 f7).bind λgi=>
 (fa a0 (i64.wrap (bR*gi))).bind λnB=>
 J (.go nB)) (λbR=>bR) (z8.1.length) 0 1:Option Int).bind λfI=>
 (vd a3).bind λn9=>
 (vd a4).bind λib=>
 (((ix a5.Pi.aE 0).bind λrY=>
 (ix a5.Pi.aG 0).bind λkt=>
 (er a0 a5.cy).bind λI3=>
 (er a0 a1.Hs).bind λH6=>
 (Dr a0 I3 H6).bind λzR=>
 (cU a0 a0.G kt).bind λBR=>
 (ug rY zR BR a0.P a0.Q a0.G bF.1).bind λvf=>
 if vf=Z then(
 (ix a5.Pi.aE 1).bind λZL=>
 (ix a5.Pi.aG 1).bind λZT=>
 (mf a0 a5.cy z8.1).bind λKE=>
 (cU a0 a0.G ZT).bind λwQ=>
 (mf a0 a1.Hs ((a5.Pi.aG.take a5.Pi.aG.length).drop ((i64.wrap ((a3.length:Int)+4)).toNat))).bind λyR=>
 (er a0 [wQ,yR]).bind λqr=>
 (ug ZL KE qr a0.P a0.Q a0.G bF.1).bind λBC=>
 if BC=Z then(
 (ix a5.Pi.aE 2).bind λiB=>
 (ix a5.aH (i64.wrap ((a3.length:Int)-1))).bind λxu=>
 (ix a5.Pi.aG 2).bind λHS=>
 (cU a0 a1.H fI).bind λz58=>
 (Dr a0 xu z58).bind λW1=>
 (cU a0 a0.G HS).bind λzO=>
 (ug iB W1 zO a0.P a0.Q a0.G bF.1).bind λrb=>
 if rb=Z then(
 (ix a5.Pi.aE 3).bind λx63=>
 (ix a5.Pi.aG 3).bind λxB=>
 (mf a0 n9.1 z8.1).bind λDm=>
 (cU a0 a0.G (i64.wrap (0-xB))).bind λz66=>
 (mf a0 ib.1 ((a5.Pi.aG.take a5.Pi.aG.length).drop ((i64.wrap ((a3.length:Int)+4)).toNat))).bind λCa=>
 (er a0 [z66,Ca]).bind λCg=>
 (ug x63 Dm Cg a0.P a0.Q a0.G bF.1).bind λoh=>
 if oh=Z then(
 (ix a5.Pi.aE 4).bind λHY=>
 (mf a0 n9.2 z8.1).bind λoj=>
 (cU a0 a2 (i64.wrap (0-xB))).bind λqe=>
 (mf a0 ib.2 ((a5.Pi.aG.take a5.Pi.aG.length).drop ((i64.wrap ((a3.length:Int)+4)).toNat))).bind λtR=>
 (er a0 [qe,tR]).bind λAP=>
 (ug HY oj AP a0.P a0.Q a0.G bF.1).bind λHW=>
 J HW)else(
 J aa))else(
 J aa))else(
 J aa))else(
 J aa):Option Bool).bind λgV=>
 gd (([a1.H].length+a5.aH.length)*8<=140737488355328/\[a1.H].length+a5.aH.length<=4611686018427387904)<|
 (J ([a1.H]++a5.aH)).bind λkr=>
 ((aU (σ:=Bool) (λBq El=>
 ((if El=Z then(
 (ix a5.Pi.aE (i64.wrap (5+Bq))).bind λjI=>
 (ix a5.aH Bq).bind λyS=>
 (ix a5.Pi.aG (i64.wrap (4+Bq))).bind λyu=>
 (ix kr Bq).bind λx96=>
 (ix ((a5.Pi.aG.take a5.Pi.aG.length).drop ((i64.wrap ((a3.length:Int)+4)).toNat)) Bq).bind λyr=>
 (cU a0 a0.G yu).bind λN4=>
 (cU a0 x96 yr).bind λPD=>
 (er a0 [N4,PD]).bind λC0=>
 (ug jI yS C0 a0.P a0.Q a0.G bF.1).bind λCk=>
 J Ck)else(
 J aa):Option Bool).bind λmL=>
 J (.go mL))) (λEl=>El) (a3.length) 0 gV:Option Bool).bind λNM=>
 J NM)))))))
set_option maxHeartbeats 1000000 in
def zkq{a0 a1 a2 a3 a4 a5 r}(hr:Fi a0 a1 a2 a3 a4 a5=J r):au Tryz.prog 90 [(.sh,vE a0),(.sh,vJ a1),(.sh,.int .i64 a2),(.sh,vH a3),(.sh,vH a4),(.sh,vL a5)] (Eo (.bool r) sH):=by
 apply pF 296 [] [955] [1000000] [.tmp 12] hr zMY Tryz.func90;intro Φ ai hF g;unfold Fi at hF
 iterate 2 (try simp[go_sem,g];try intros;refine bh ?_)
 refine bX hF [2,3,4,6,7,11,13] (λx3=>[(45,.v (.bool x3))]) (λx3 hF=>?_) λ_ ao hF=>?_
 ·refine wI hF (λh6 hF=>?_) λh6 hF=>?_
  ·exact wl ai hF
  refine wW ?_;refine wE hF Hj λz7 hF=>?_
  refine wK [2,3,4,6,7,11,13,14] ?_;refine wE hF Y0 λz8 hF=>?_
  refine wW ?_;refine wZ (kE [0,1,2,3,4,5,6,7,13,8,9,10,11,12,14,15] [50,0,89,90,89,89,90,0,0,6,3,0,0,0,138,0]) follows ?_;refine wE hF FZ λz9 hF=>?_
  refine wE hF yn λbF hF=>?_
  refine wK [2,3,4,6,7,11,13,15,16,17,18] ?_;refine bX hF [2,3,4,6,7,11,13,15,17] (λfQ=>[(86,.v (.bool fQ))]) (λfQ hF=>?_) λ_ Sh hF=>?_
  ·refine wI hF (λiH hF=>?_) λiH hF=>?_
   ·exact wl ai hF
   refine wW ?_;refine wZ (kD 0 [89,89,90,89,89,90,0,0]) follows ?_
   iterate 2 obtain⟨g,hF⟩:=Rg g hF
   refine wW ?_;refine wK [2,3,4,6,7,11,13,15,17,19,20,21,22] ?_;try simp[go_sem,g]
   try intros
   refine bh ?_;refine bX hF [2,3,4,6,7,11,13,15,17,19,20,21] (λfI=>[(22,.v (.int .i64 fI))]) (λfI hF=>?_) λ_ u9 hF=>?_
   ·refine wE hF F7 λn9 hF=>?_
    refine wK [2,4,6,7,11,13,15,17,19,20,21,22,25,26] ?_;refine wE hF F7 λib hF=>?_
    iterate 2 refine wW ?_
    refine bX hF [6,7,11,13,19,20,21,29] (λgV=>[(30,.v (.bool gV))]) (λgV hF=>?_) λ_ uX hF=>?_
    ·obtain⟨g,hF⟩:=Rg g hF;obtain⟨kr,QC,hF⟩:=mM hF;have g:=And.intro g (show[.int .i64 a1.H]::(List.map aL a5.aH)=kr.map aL by injection QC with QC;rw[<-QC];simp[go_sem]);refine wK [6,11,13,19,20,21,29,30,31] ?_;refine wW ?_;refine wJ hF (λNM=>[(30,.v (.bool NM))]) (λNM hF=>?_) λ_ a2z hF=>?_
     ·exact wl ai hF
     refine wB ?_;obtain⟨a1J,Uc,a4g⟩:=hF;refine bU Uc [6,11,19,20,21,29,31,253] (λBq El=>[(30,.v (.bool El)),(254,.v (.int .i64 Bq))]) (λEl _ SU=>?_) λBq El _ _ a0q a0f a6v a2D hF=>?_
     ·exact wn SU (a2z _) a4g
     refine wW ?_;refine wu a0q a0f ?_;refine wW ?_;refine bX hF [6,11,19,20,21,29,31,253,254] (λmL=>[(30,.v (.bool mL))]) (λmL hF=>?_) λ_ a0S hF=>?_
     ·exact wi a0q a0f (a2D _) (aj hF)
     refine wB ?_;refine wW ?_;refine wZ (kE [0,1,2,3,4,5,6,7,8,9,10,11,12,13,14,15,16,17,18,19,20,21,23,24,25,26,27,28,29,30,31,22,32,33,34,35,36,37] [0,0,0,0,0,0,0,0,89,90,0,0,0,0,0,0,0,0,0,0,0,0,0,0,0,0,0,0,0,0,0,4,4,0,7,3,0,0]) follows ?_;refine wH hF (λB7 hF=>?_) λB7 hF=>?_
     ·obtain⟨jI,g,hF⟩:=Rx g hF;obtain⟨yS,g,hF⟩:=Rx g hF;obtain⟨yu,g,hF⟩:=Rx g hF;obtain⟨x96,g,hF⟩:=Rx g hF;obtain⟨yr,g,hF⟩:=iA g hF;try simp[go_sem,g,B7]
      refine wD hF eP λN4 hF=>?_
      try simp[go_sem,g,B7]
      refine wD hF eP λPD hF=>?_
      try simp[go_sem,g,B7]
      refine wD hF ip λC0 hF=>?_
      try simp[go_sem,g,B7]
      refine wE hF GJ λCk hF=>?_
      exact wV B7 (a0S _) (aj hF)
     exact wV B7 (a0S _) (aj hF)
    refine wZ (kE [0,1,2,3,4,5,6,7,9,10,11,14,15,16,17,18,19,8,12,13,20,21,22,23,24,25,26,27,28,29,30,32,33,34,35,36,37,38,40,41,42,43,31,39,44,45,46,47,48,49,50,51,52,53,54,55,56,57,58,59,60,61,62,63,64,67,68,69,70,71,72,65,66,73,74,75,76,77,78,79,80,81,82,83,85,86,87,88,89,90,91,92,94,95,96,84,93,97,98,99,100,101,102,103,104,105,106,107,108,109,111,112,113,114,115,116,117,119,120,121,110,118,122,123,124,125,126,127] [0,0,0,0,0,0,89,90,0,57,58,0,0,0,0,0,0,4,4,4,4,3,0,0,0,0,0,0,89,90,0,0,0,0,0,0,0,0,0,57,58,0,4,4,4,0,7,3,0,0,0,0,0,0,0,89,90,0,0,0,0,0,57,58,0,0,0,0,0,0,0,4,4,4,3,0,0,0,0,0,0,0,0,0,0,0,0,0,0,0,0,0,0,0,0,4,4,4,0,7,3,0,0,0,0,0,0,0,0,0,0,0,0,0,0,0,0,0,0,0,4,4,4,0,7,3,0,0]) follows ?_;obtain⟨rY,g,hF⟩:=fj g 0 hF;obtain⟨kt,g,hF⟩:=fj g 0 hF;refine wD hF ip λI3 hF=>?_
    refine wD hF ip λH6 hF=>?_
    refine wD hF SJ λzR hF=>?_
    refine wD hF eP λBR hF=>?_
    refine wE hF GJ λvf hF=>?_
    refine wH hF (λAh hF=>?_) λAh hF=>?_
    ·obtain⟨ZL,g,hF⟩:=fj g 1 hF;obtain⟨ZT,g,hF⟩:=fj g 1 hF;try simp[go_sem,g,Ah]
     refine wD hF oP λKE hF=>?_
     try simp[go_sem,g,Ah]
     refine wD hF eP λwQ hF=>?_
     try simp[go_sem,g,Ah]
     refine wD hF oP λyR hF=>?_
     try simp[go_sem,g,Ah]
     refine wD hF ip λqr hF=>?_
     try simp[go_sem,g,Ah]
     refine wE hF GJ λBC hF=>?_
     try simp[go_sem,g,Ah]
     refine wH hF (λEg hF=>?_) λEg hF=>?_
     ·obtain⟨iB,g,hF⟩:=fj g 2 hF;obtain⟨xu,g,hF⟩:=Rx g hF;obtain⟨HS,g,hF⟩:=fj g 2 hF;try simp[go_sem,g,Eg]
      refine wD hF eP λz58 hF=>?_
      try simp[go_sem,g,Eg]
      refine wD hF SJ λW1 hF=>?_
      try simp[go_sem,g,Eg]
      refine wD hF eP λzO hF=>?_
      try simp[go_sem,g,Eg]
      refine wE hF GJ λrb hF=>?_
      try simp[go_sem,g,Eg]
      refine wH hF (λxb hF=>?_) λxb hF=>?_
      ·obtain⟨x63,g,hF⟩:=fj g 3 hF;obtain⟨xB,g,hF⟩:=fj g 3 hF;try simp[go_sem,g,xb]
       refine wD hF oP λDm hF=>?_
       try simp[go_sem,g,xb]
       refine wD hF eP λz66 hF=>?_
       try simp[go_sem,g,xb]
       refine wD hF oP λCa hF=>?_
       try simp[go_sem,g,xb]
       refine wD hF ip λCg hF=>?_
       try simp[go_sem,g,xb]
       refine wE hF GJ λoh hF=>?_
       try simp[go_sem,g,xb]
       refine wH hF (λBj hF=>?_) λBj hF=>?_
       ·obtain⟨HY,g,hF⟩:=fj g 4 hF;try simp[go_sem,g,Bj]
        refine wD hF oP λoj hF=>?_
        try simp[go_sem,g,Bj]
        refine wD hF eP λqe hF=>?_
        try simp[go_sem,g,Bj]
        refine wD hF oP λtR hF=>?_
        try simp[go_sem,g,Bj]
        refine wD hF ip λAP hF=>?_
        try simp[go_sem,g,Bj]
        refine wE hF GJ λHW hF=>?_
        exact wV Bj (uX _) (aj hF)
       exact wV Bj (uX _) (aj hF)
      exact wV xb (uX _) (aj hF)
     exact wV Eg (uX _) (aj hF)
    exact wV Ah (uX _) (aj hF)
   refine wB ?_;obtain⟨b30,a4t,yb⟩:=hF;refine bU a4t [2,3,4,6,7,11,13,15,17,19,20,21,97,98] (λf7 bR=>[(22,.v (.int .i64 bR)),(99,.v (.int .i64 f7))]) (λbR _ a2I=>?_) λf7 bR _ _ kW qt Mt zm hF=>?_
   ·exact wn a2I (u9 _) yb
   refine wW ?_;refine wu kW qt ?_;refine wW ?_;refine wB ?_;obtain⟨gi,g,hF⟩:=Rx g hF;refine wW ?_;refine wE hF kV λnB hF=>?_
   refine wK [2,3,4,6,7,11,13,15,17,19,20,21,22,97,98,99] ?_;exact wi kW qt (zm _) (aj hF)
  refine wZ (kD 0 [0,0,0,0,0,0,0,89,89,90,0,0,138,0,0]) follows ?_;refine wH hF (λeD hF=>?_) λeD hF=>?_
  ·exact wV eD (Sh _) (aj hF)
  try simp[go_sem,g,eD]
  refine wH hF (λiT hF=>?_) λiT hF=>?_
  ·exact wV iT (Sh _) (aj hF)
  obtain⟨tt,g,hF⟩:=fj g 0 hF;exact wV iT (Sh _) (aj hF)
 try simp[go_sem,g]
 try intros
 refine wG hF (λh4 hF=>?_) λh4 hF=>?_
 ·exact wV h4 (ao _) (aj hF)
 try simp[go_sem,g,h4]
 refine wE hF zkk λz5 hF=>?_
 exact wV h4 (ao _) (aj hF)
def tU(a0:an)(a1:Int)(a2:List aq)(a3:List aq)(a4:cM):Option (Bool×Bool):=
 (ux a0 a1 a2).bind λz1=>
 ((if(!z1.2)=Z then(
 J Z)else(
 (Al a0 a3).bind λz6=>
 J (!z6)):Option Bool).bind λx4=>
 if x4=Z then(
 J (aa,aa))else(
 (Fi a0 z1.1 a1 a2 a3 a4).bind λz8=>
 J (z8,Z)))
def zm7{a0 a1 a2 a3 a4 r}(hr:tU a0 a1 a2 a3 a4=J r):au Tryz.prog 42 [(.sh,vE a0),(.sh,.int .i64 a1),(.sh,vH a2),(.sh,vH a3),(.sh,vL a4)] (Eo (.bS [.bool r.1,.bool r.2]) rU):=by
 apply pF 36 [] [] [] [.tmp 10,.tmp 11] hr zKR Tryz.func42;intro Φ ai hF g;unfold tU at hF;refine wW ?_;refine wE hF OY λz1 hF=>?_
 refine wK [1,2,3,5,9,12,13] ?_;refine bX hF [1,2,3,5,9,12] (λx4=>[(28,.v (.bool x4))]) (λx4 hF=>?_) λ_ cE hF=>?_
 ·refine wI hF (λh7 hF=>?_) λh7 hF=>?_
  ·exact wl ai hF
  refine wW ?_;refine wE hF zkq λz8 hF=>?_
  exact wl ai hF
 refine wG hF (λh5 hF=>?_) λh5 hF=>?_
 ·exact wV h5 (cE _) (aj hF)
 try simp[go_sem,g,h5]
 refine wE hF Oo λz6 hF=>?_
 exact wV h5 (cE _) (aj hF)
def E7(a0:cb):Option Bool:=
 ((if((a0.aE.length:Int)==0)=Z then(
 if((a0.aW.length:Int)==0)=Z then(
 J ((a0.aG.length:Int)==0))else(
 J aa))else(
 J aa):Option Bool).bind λx3=>
 J x3)
def YC{a0 r}(hr:E7 a0=J r):au Tryz.prog 91 [(.sh,vS a0)] (Eo (.bool r) [.ax]):=by
 apply pF 19 [] [] [] [.tmp 2] hr zJ5 Tryz.func91;intro Φ ai hF g;unfold E7 at hF;refine wW ?_;refine wJ hF (λx3=>[(2,.v (.bool x3))]) (λx3 hF=>?_) λ_ ao hF=>?_
 ·exact wm ai hF
 try simp[go_sem,g]
 try intros
 refine wG hF (λh4 hF=>?_) λh4 hF=>?_
 ·try simp[go_sem,g,h4]
  try intros
  refine wG hF (λh5 hF=>?_) λh5 hF=>?_
  ·try simp[go_sem,g,h5]
   try intros
   exact wT (ao _) (aj hF)
  exact wV h5 (ao _) (aj hF)
 exact wV h4 (ao _) (aj hF)
def F2(a0:ct):Option Bool:=
 ((if((a0.bV.length:Int)==0)=Z then(
 if((a0.bM.length:Int)==0)=Z then(
 if((a0.aH.length:Int)==0)=Z then(
 (E7 a0.Pi).bind λz7=>
 J z7)else(
 J aa))else(
 J aa))else(
 J aa):Option Bool).bind λx3=>
 J x3)
def zhS{a0 r}(hr:F2 a0=J r):au Tryz.prog 43 [(.sh,vM a0)] (Eo (.bool r) [.ax]):=by
 apply pF 24 [] [] [] [.tmp 2] hr zJX Tryz.func43;intro Φ ai hF g;unfold F2 at hF;refine wW ?_;refine wJ hF (λx3=>[(2,.v (.bool x3))]) (λx3 hF=>?_) λ_ ao hF=>?_
 ·exact wm ai hF
 try simp[go_sem,g]
 try intros
 refine wG hF (λh4 hF=>?_) λh4 hF=>?_
 ·try simp[go_sem,g,h4]
  try intros
  refine wG hF (λh5 hF=>?_) λh5 hF=>?_
  ·try simp[go_sem,g,h5]
   try intros
   refine wG hF (λh6 hF=>?_) λh6 hF=>?_
   ·try simp[go_sem,g,h6]
    refine wE hF YC λz7 hF=>?_
    exact wV h6 (ao _) (aj hF)
   exact wV h6 (ao _) (aj hF)
  exact wV h5 (ao _) (aj hF)
 exact wV h4 (ao _) (aj hF)
def H5(a0:an)(a1:ct)(a2:Int):Option Bool:=
 ((if((a1.bV.length:Int)==a2)=Z then(
 if((a1.bM.length:Int)==a2)=Z then(
 if((a1.aH.length:Int)==a2)=Z then(
 if((a1.Pi.aE.length:Int)==(i64.wrap ((i64.wrap (3*a2))+3)))=Z then(
 if((a1.Pi.aW.length:Int)==1)=Z then(
 if((a1.Pi.aG.length:Int)==(i64.wrap ((i64.wrap (5*a2))+2)))=Z then(
 (tF a0 a1.bV).bind λbF=>
 if bF=Z then(
 (tF a0 a1.bM).bind λbr=>
 if br=Z then(
 (tF a0 a1.aH).bind λdK=>
 if dK=Z then(
 (tF a0 a1.Pi.aE).bind λiW=>
 if iW=Z then(
 (v3 a0 a1.Pi.aG).bind λfe=>
 J fe)else(
 J aa))else(
 J aa))else(
 J aa))else(
 J aa))else(
 J aa))else(
 J aa))else(
 J aa))else(
 J aa))else(
 J aa))else(
 J aa):Option Bool).bind λx3=>
 J x3)
def zld{a0 a1 a2 r}(hr:H5 a0 a1 a2=J r):au Tryz.prog 159 [(.sh,vE a0),(.sh,vM a1),(.sh,.int .i64 a2)] (Eo (.bool r) gH):=by
 apply pF 85 [] [] [] [.tmp 6] hr zFr Tryz.func159;intro Φ ai hF g;unfold H5 at hF;refine wW ?_;refine wJ hF (λx3=>[(6,.v (.bool x3))]) (λx3 hF=>?_) λ_ ao hF=>?_
 ·exact wm ai hF
 try simp[go_sem,g]
 try intros
 refine wG hF (λh4 hF=>?_) λh4 hF=>?_
 ·try simp[go_sem,g,h4]
  try intros
  refine wG hF (λh5 hF=>?_) λh5 hF=>?_
  ·try simp[go_sem,g,h5]
   try intros
   refine wG hF (λh6 hF=>?_) λh6 hF=>?_
   ·try simp[go_sem,g,h6]
    try intros
    refine wG hF (λh7 hF=>?_) λh7 hF=>?_
    ·try simp[go_sem,g,h7]
     try intros
     refine wG hF (λh8 hF=>?_) λh8 hF=>?_
     ·try simp[go_sem,g,h8]
      try intros
      refine wG hF (λh9 hF=>?_) λh9 hF=>?_
      ·try simp[go_sem,g,h9]
       refine wE hF DK λbF hF=>?_
       try simp[go_sem,g,h9]
       refine wG hF (λeQ hF=>?_) λeQ hF=>?_
       ·try simp[go_sem,g,eQ]
        refine wE hF DK λbr hF=>?_
        try simp[go_sem,g,eQ]
        refine wG hF (λcZ hF=>?_) λcZ hF=>?_
        ·try simp[go_sem,g,cZ]
         refine wE hF DK λdK hF=>?_
         try simp[go_sem,g,cZ]
         refine wG hF (λiT hF=>?_) λiT hF=>?_
         ·try simp[go_sem,g,iT]
          refine wE hF DK λiW hF=>?_
          try simp[go_sem,g,iT]
          refine wG hF (λiH hF=>?_) λiH hF=>?_
          ·try simp[go_sem,g,iH]
           refine wE hF IH λfe hF=>?_
           exact wV iH (ao _) (aj hF)
          exact wV iH (ao _) (aj hF)
         exact wV iT (ao _) (aj hF)
        exact wV cZ (ao _) (aj hF)
       exact wV eQ (ao _) (aj hF)
      exact wV h9 (ao _) (aj hF)
     exact wV h8 (ao _) (aj hF)
    exact wV h7 (ao _) (aj hF)
   exact wV h6 (ao _) (aj hF)
  exact wV h5 (ao _) (aj hF)
 exact wV h4 (ao _) (aj hF)
def qZ(a0:Int)(a1:Int)(a2:Int)(uV:Bool)(v9:Int)(IZ:Int)(Lx:Int)(NB:Int):Option Bool:=
 if uV=Z then(
 (cU (an.mk v9 IZ Lx) a1 NB).bind λz2=>
 (er (an.mk v9 IZ Lx) [a0,z2]).bind λz3=>
 J (z3==a2))else(
 J aa)
def EO{a0 a1 a2 uV v9 IZ Lx NB r}(hr:qZ a0 a1 a2 uV v9 IZ Lx NB=J r):au Tryz.prog 160 [(.sh,.int .i64 a0),(.sh,.int .i64 a1),(.sh,.int .i64 a2),(.io,.bx [.bool uV]),(.sh,.fp [.int .i64 v9,.int .i64 IZ,.int .i64 Lx]),(.sh,.fp [.int .i64 NB])] (Eo (.ax) [.ax,.ax,.ax,.bx [.bool r],.ax,.ax]):=by
 apply pF 22 [3] [] [] [] hr zHm Tryz.func160;intro Φ ai hF g;unfold qZ at hF;refine wZ (kE [0,1,2,3,4,5,6,10,7,8,9,11,12,13] [0,0,0,0,0,0,0,0,4,0,6,0,0,0]) follows ?_;refine wH hF (λh1 hF=>?_) λh1 hF=>?_
 ·try simp[go_sem,g,h1]
  refine wD hF eP λz2 hF=>?_
  try simp[go_sem,g,h1]
  refine wE hF ip λz3 hF=>?_
  cases ai _ (aj hF);try simp[go_sem,g,h1]
  try simp[go_sem,g]
 cases ai _ (aj hF);try simp[go_sem,g,h1]
 try simp[go_sem,g]
def Kn(a0:Int)(a1:Int)(a2:Int)(a3:Int)(a4:Int):Option Int:=
 ((dP (σ:=Int×Int×Int) (λs4=>
 if decide (s4.2.2<=a1)=Z then(
 gd (a0≠0)<|
 gd (a0≠0)<|
 (AG (i64.wrap ((i64.wrap (((i64.wrap (a3*s4.2.2)).tmod a0)+((i64.wrap (s4.2.1*a2)).tmod a0)))-a4)) a0).bind λbF=>
 gd (a0≠0)<|
 J (.go ((i64.wrap (s4.1*bF)).tmod a0,(i64.wrap (s4.2.1*a2)).tmod a0,i64.wrap (s4.2.2+1))))else(
 J (.out s4.1))) (1,1,1):Option Int).bind λx3=>
 J x3)
def zmW{a0 a1 a2 a3 a4 r}(hr:Kn a0 a1 a2 a3 a4=J r):au Tryz.prog 161 [(.sh,.int .i64 a0),(.sh,.int .i64 a1),(.sh,.int .i64 a2),(.sh,.int .i64 a3),(.sh,.int .i64 a4)] (Eo (.int .i64 r) rU):=by
 apply pF 40 [] [] [] [.tmp 10] hr zHk Tryz.func161;intro Φ ai hF g;unfold Kn at hF
 iterate 3 refine wW ?_
 refine wJ hF (λx3=>[(11,.v (.int .i64 x3))]) (λx3 hF=>?_) λ_ ao hF=>?_
 ·exact wl ai hF
 refine wB ?_;obtain⟨MS,yv,bo⟩:=hF;refine jW yv [0,1,2,3,4] (λs4=>[(11,.v (.int .i64 s4.1)),(12,.v (.int .i64 s4.2.1)),(13,.v (.int .i64 s4.2.2))]) λs4 _ _ b8 bD hF=>?_
 refine wW ?_;refine wI hF (λh9 hF=>?_) λh9 hF=>?_
 ·refine wW ?_;refine wB ?_;obtain⟨g,hF⟩:=Rz g hF;refine wK [0,1,2,3,4,11,12,13] ?_;obtain⟨g,hF⟩:=Rz g hF;refine wE hF VN λbF hF=>?_
  obtain⟨g,hF⟩:=Rz g hF;refine wK [0,1,2,3,4,11,12,13] ?_;exact wT (bD _) (aj hF)
 cases b8 _ (aj hF);exact wT (ao _) bo
def zW(a0:an)(a1:cA)(a2:Int)(a3:List aq)(a4:List aq)(a5:ct):Option Bool:=
 ((if((a4.length:Int) !=(a3.length:Int))=Z then(
 J Z)else(
 (H5 a0 a5 (a3.length:Int)).bind λz5=>
 J (!z5)):Option Bool).bind λx3=>
 if x3=Z then(
 J aa)else(
 (qY a2 a3 a4 a5.bV).bind λz7=>
 (m7 a0 (⟨#[109,105,120,32,120]⟩:ByteArray) z7).bind λz8=>
 (vh a5.bV).bind λz9=>
 gd ((z9.length+a5.bM.length)*8<=140737488355328/\z9.length+a5.bM.length<=4611686018427387904)<|
 (qY a2 a3 a4 (z9++a5.bM)).bind λbF=>
 (Cx a0 bF).bind λbQ=>
 (pW [bF,a5.aH,a5.Pi.aE]).bind λbr=>
 (m7 a0 (⟨#[109,105,120,32,101,110,100]⟩:ByteArray) br).bind λcN=>
 ((if(!z8.2)=Z then(
 J Z)else(
 if(!bQ.2.2)=Z then(
 J Z)else(
 if(!cN.2)=Z then(
 J Z)else(
 (ix a5.Pi.aW 0).bind λfI=>
 J (fI !=cN.1)))):Option Bool).bind λtt=>
 if tt=Z then(
 J aa)else(
 (jg a5.Pi.aG (a3.length:Int)).bind λkd=>
 (jg kd.2 (a3.length:Int)).bind λwc=>
 (jg wc.2 (a3.length:Int)).bind λtI=>
 (su tI.2).bind λsV=>
 (jg sV.2 (a3.length:Int)).bind λiR=>
 (jg iR.2 (a3.length:Int)).bind λmB=>
 (su mB.2).bind λfL=>
 gd (([a0.G].length+a5.aH.length)*8<=140737488355328/\[a0.G].length+a5.aH.length<=4611686018427387904)<|
 (J ([a0.G]++a5.aH)).bind λjo=>
 ((aU (σ:=(List Int)×Bool) (λgC lw=>
 (n6 z8.1 (i64.wrap (gC+1)) a0.Q).bind λoj=>
 gd ((lw.1.length+1)*8<=140737488355328/\lw.1.length+1<=4611686018427387904)<|
 (ix a5.Pi.aE gC).bind λMU=>
 (ix a5.bV gC).bind λOq=>
 (ix a5.bM gC).bind λHl=>
 (ix kd.1 gC).bind λzl=>
 (ix wc.1 gC).bind λkr=>
 (cU a0 Oq bQ.1).bind λDj=>
 (cU a0 a0.G (i64.wrap (0-bQ.2.1))).bind λDD=>
 (er a0 [Dj,Hl,DD]).bind λwU=>
 (pB a0 a1 zl kr).bind λnq=>
 (qZ MU wU nq lw.2 a0.P a0.Q a0.G cN.1).bind λCv=>
 (ix a5.Pi.aE (i64.wrap ((a3.length:Int)+gC))).bind λNm=>
 (ix a5.aH gC).bind λEr=>
 (ix jo gC).bind λDP=>
 (ix tI.1 gC).bind λpE=>
 (cU a0 DP zl).bind λuS=>
 (cU a0 a1.H pE).bind λou=>
 (er a0 [uS,ou]).bind λCW=>
 (qZ Nm Er CW Cv a0.P a0.Q a0.G cN.1).bind λPS=>
 (ix a5.Pi.aE (i64.wrap ((i64.wrap ((i64.wrap (2*(a3.length:Int)))+1))+gC))).bind λmL=>
 (ix iR.1 gC).bind λjt=>
 (ix mB.1 gC).bind λjI=>
 (pB a0 a1 jt jI).bind λoF=>
 (qZ mL Hl oF PS a0.P a0.Q a0.G cN.1).bind λPe=>
 J (.go (lw.1++[oj],Pe))) (λlw=>(lw.1,lw.2)) (a3.length) 0 ([],Z):Option ((List Int×Bool))).bind λjl=>
 (ix a5.Pi.aE (i64.wrap (2*(a3.length:Int)))).bind λXk=>
 (ix a5.aH (i64.wrap ((a3.length:Int)-1))).bind λlN=>
 (Kn a0.Q (a3.length:Int) z8.1 bQ.1 bQ.2.1).bind λa0j=>
 (cU a0 a0.G a0j).bind λYe=>
 (Dr a0 lN Ye).bind λa0Y=>
 (cU a0 a1.H sV.1).bind λa05=>
 (qZ Xk a0Y a05 jl.2 a0.P a0.Q a0.G cN.1).bind λa0x=>
 (vd a3).bind λVd=>
 (vd a4).bind λUo=>
 (ix a5.Pi.aE (i64.wrap ((i64.wrap (3*(a3.length:Int)))+1))).bind λN6=>
 (mf a0 Vd.1 jl.1).bind λMn=>
 (cU a0 a0.G (i64.wrap (0-fL.1))).bind λa02=>
 (mf a0 Uo.1 iR.1).bind λKF=>
 (er a0 [a02,KF]).bind λYP=>
 (qZ N6 Mn YP a0x a0.P a0.Q a0.G cN.1).bind λC9=>
 (ix a5.Pi.aE (i64.wrap ((i64.wrap (3*(a3.length:Int)))+2))).bind λa0t=>
 (mf a0 Vd.2 jl.1).bind λa0V=>
 (cU a0 a2 (i64.wrap (0-fL.1))).bind λa0b=>
 (mf a0 Uo.2 iR.1).bind λWE=>
 (er a0 [a0b,WE]).bind λa0y=>
 (qZ a0t a0V a0y C9 a0.P a0.Q a0.G cN.1).bind λCK=>
 J CK)))))
set_option maxHeartbeats 1000000 in
def zle{a0 a1 a2 a3 a4 a5 r}(hr:zW a0 a1 a2 a3 a4 a5=J r):au Tryz.prog 92 [(.sh,vE a0),(.sh,vJ a1),(.sh,.int .i64 a2),(.sh,vH a3),(.sh,vH a4),(.sh,vM a5)] (Eo (.bool r) sH):=by
 apply pF 352 [] [727,738,1145,1555,1881] [33,1000000] [.tmp 12] hr zKW Tryz.func92;intro Φ ai hF g;unfold zW at hF
 iterate 2 (try simp[go_sem,g];try intros;refine bh ?_)
 refine bX hF [2,3,4,6,7,11,13] (λx3=>[(52,.v (.bool x3))]) (λx3 hF=>?_) λ_ ao hF=>?_
 ·refine wI hF (λh6 hF=>?_) λh6 hF=>?_
  ·exact wl ai hF
  refine wW ?_;refine wZ (kD 0 [50,0,0,0,89,90,3,3,0,0,0,0,0]) follows ?_;refine wE hF Hj λz7 hF=>?_
  refine wE hF yn λz8 hF=>?_
  refine wK [2,3,4,6,7,11,13,14,15] ?_;refine wZ (kE [0,1,2,3,4,6,7,5,8,9,10] [0,0,0,89,90,89,90,3,0,3,0]) follows ?_;refine wE hF Pg λz9 hF=>?_
  obtain⟨g,hF⟩:=Rg g hF;refine wE hF Hj λbF hF=>?_
  refine wK [2,3,4,6,7,11,13,14,15,16] ?_;refine wE hF zjt λbQ hF=>?_
  refine wK [2,3,4,6,7,11,13,14,15,16,17,18,19] ?_;refine wZ (kE [0,1,2,3,4,5,6,7,13,8,9,10,11,12,14,15] [50,0,89,90,89,89,90,0,0,6,3,0,0,0,162,0]) follows ?_;refine wE hF FZ λbr hF=>?_
  refine wE hF yn λcN hF=>?_
  refine wK [2,3,4,6,7,11,13,14,15,17,18,19,20,21] ?_;refine bX hF [2,3,4,6,7,11,13,14,17,18,20] (λtt=>[(112,.v (.bool tt))]) (λtt hF=>?_) λ_ PI hF=>?_
  ·refine wI hF (λyH hF=>?_) λyH hF=>?_
   ·exact wl ai hF
   refine wW ?_;refine wZ (kD 0 [89,89,90,89,89,90,0,0,0,961]) follows ?_;refine wK [2,3,4,6,7,11,13,14,17,18,20,22,23,120] ?_;refine wC hF [.io,.sh] mY λkd hF=>?_
   refine wC hF [.io,.sh] mY λwc hF=>?_
   refine wC hF [.io,.sh] mY λtI hF=>?_
   refine wK [2,3,4,6,7,11,13,14,17,18,20,22,23,24,25,26,120] ?_;refine wC hF [.io] AU λsV hF=>?_
   refine wW ?_;refine wC hF [.io,.sh] mY λiR hF=>?_
   refine wC hF [.io,.sh] mY λmB hF=>?_
   refine wK [2,3,4,6,7,11,13,14,17,18,20,22,23,24,25,26,27,28,29,120] ?_;refine wC hF [.io] AU λfL hF=>?_
   obtain⟨g,hF⟩:=Rg g hF;obtain⟨jo,RM,hF⟩:=mM hF;have g:=And.intro g (show[.int .i64 a0.G]::(List.map aL a5.aH)=jo.map aL by injection RM with RM;rw[<-RM];simp[go_sem]);refine wW ?_;refine wK [2,3,4,6,7,11,13,14,17,18,20,22,24,25,26,27,28,29,30,31] ?_
   iterate 3 refine wW ?_
   refine bX hF [2,3,4,6,7,11,13,14,17,18,22,27,28,30,34] (λjl=>[(32,.v (vD jl.1)),(33,.v (.bx [.bool jl.2]))]) (λjl hF=>?_) λ_ Dv hF=>?_
   ·refine wZ (kE [0,1,2,3,4,5,6,7,8,9,10,11,12,13,14,15,16,17,18,19,20,21,25,26,27,28,22,23,24,29,30] [0,0,0,0,0,0,0,89,90,0,0,0,0,0,0,0,0,0,0,0,0,0,0,57,58,0,4,4,4,4,3]) follows ?_;obtain⟨Xk,g,hF⟩:=Rx g hF;obtain⟨lN,g,hF⟩:=Rx g hF;refine wD hF zmW λa0j hF=>?_
    refine wD hF eP λYe hF=>?_
    refine wD hF SJ λa0Y hF=>?_
    refine wD hF eP λa05 hF=>?_
    refine wY hF [.sh,.sh,.sh] EO λa0x hF=>?_
    refine wK [2,3,4,6,13,22,28,30,32,33,34] ?_;refine wE hF F7 λVd hF=>?_
    refine wW ?_;refine wE hF F7 λUo hF=>?_
    refine wK [2,6,13,22,28,30,32,33,34,36,37,38,39] ?_;refine wZ (kE [0,1,2,3,4,5,6,7,8,9,11,12,13,14,15,16,18,19,20,10,17,21,22,23,24] [0,0,0,0,0,0,0,0,0,0,0,0,0,0,0,0,0,0,0,4,4,4,0,7,3]) follows ?_;obtain⟨N6,g,hF⟩:=Rx g hF;refine wD hF oP λMn hF=>?_
    refine wD hF eP λa02 hF=>?_
    refine wD hF oP λKF hF=>?_
    refine wD hF ip λYP hF=>?_
    refine wY hF [.sh,.sh,.sh] EO λC9 hF=>?_
    refine wK [2,6,13,22,28,30,32,33,34,37,39] ?_;refine wZ (kE [0,1,2,3,4,5,6,7,8,9,11,12,13,14,15,17,18,19,10,16,20,21,22,23] [0,0,0,0,0,0,0,0,0,0,0,0,0,0,0,0,0,0,4,4,4,0,7,3]) follows ?_;obtain⟨a0t,g,hF⟩:=Rx g hF;refine wD hF oP λa0V hF=>?_
    refine wD hF eP λa0b hF=>?_
    refine wD hF oP λWE hF=>?_
    refine wD hF ip λa0y hF=>?_
    refine wY hF [.sh,.sh,.sh] EO λCK hF=>?_
    refine wK [33] ?_;exact wl ai hF
   refine wB ?_;obtain⟨b96,Vw,a1L⟩:=hF;refine bU Vw [2,3,4,6,7,11,13,14,17,18,22,24,25,26,27,28,29,30,31,34,148] (λgC lw=>[(32,.v (vD lw.1)),(33,.v (.bx [.bool lw.2])),(149,.v (.int .i64 gC))]) (λlw _ TB=>?_) λgC lw _ _ a0C YI a5M a4O hF=>?_
   ·exact wn TB (Dv _) a1L
   refine wW ?_;refine wu a0C YI ?_;refine wW ?_;refine wB ?_;refine wK [2,3,4,6,7,11,13,14,17,18,22,24,25,26,27,28,29,30,31,32,33,34,35,148,149] ?_;refine wE hF FC λoj hF=>?_
   obtain⟨g,hF⟩:=Rg g hF;refine wK [2,3,4,6,7,11,13,14,17,18,22,24,25,26,27,28,29,30,31,32,33,34,35,148,149] ?_;refine wZ (kE [0,1,2,3,4,5,6,7,8,9,10,11,12,14,15,16,17,18,19,20,21,22,23,27,28,29,30,31,32,33,34,35,36,13,24,25,26,37,38] [0,0,0,0,0,0,0,89,90,0,0,0,0,89,90,0,0,0,0,0,0,0,0,0,58,0,0,0,0,0,0,0,0,4,4,0,7,4,3]) follows ?_;obtain⟨MU,g,hF⟩:=Rx g hF;obtain⟨Oq,g,hF⟩:=Rx g hF;obtain⟨Hl,g,hF⟩:=Rx g hF;obtain⟨zl,g,hF⟩:=Rx g hF;obtain⟨kr,g,hF⟩:=Rx g hF;refine wD hF eP λDj hF=>?_
   refine wD hF eP λDD hF=>?_
   refine wD hF ip λwU hF=>?_
   refine wD hF C4 λnq hF=>?_
   refine wY hF [.sh,.sh,.sh] EO λCv hF=>?_
   refine wK [2,3,4,6,7,11,13,14,17,18,22,24,25,26,27,28,29,30,31,32,33,34,35,148,149] ?_;refine wZ (kE [0,1,2,3,4,5,6,7,8,9,10,11,12,13,14,15,16,17,18,19,20,21,23,24,25,26,27,28,29,22,30,31,32,33] [0,0,0,0,0,0,0,89,90,0,0,0,0,0,0,0,0,0,0,0,0,0,0,57,58,0,0,0,0,4,4,0,7,3]) follows ?_;obtain⟨Nm,g,hF⟩:=Rx g hF;obtain⟨Er,g,hF⟩:=Rx g hF;obtain⟨DP,g,hF⟩:=Rx g hF;obtain⟨pE,g,hF⟩:=Rx g hF;refine wD hF eP λuS hF=>?_
   refine wD hF eP λou hF=>?_
   refine wD hF ip λCW hF=>?_
   refine wY hF [.sh,.sh,.sh] EO λPS hF=>?_
   refine wK [2,3,4,6,7,11,13,14,17,18,22,24,25,26,27,28,29,30,31,32,33,34,35,148,149] ?_;refine wZ (kD 0 [0,0,0,0,0,0,0,0,0,89,90,0,0,0,0,58,0,0,0,0,0,0,0,0,4,3]) follows ?_;obtain⟨mL,g,hF⟩:=Rx g hF;obtain⟨jt,g,hF⟩:=Rx g hF;obtain⟨jI,g,hF⟩:=Rx g hF;refine wD hF C4 λoF hF=>?_
   refine wY hF [.sh,.sh,.sh] EO λPe hF=>?_
   refine wK [2,3,4,6,7,11,13,14,17,18,22,24,25,26,27,28,29,30,31,32,33,34,148,149] ?_;exact wi a0C YI (a4O _) (aj hF)
  refine wZ (kD 0 [0,0,0,0,0,0,0,0,0,0,0,89,89,90,0,0,162,0,0]) follows ?_;refine wH hF (λiH hF=>?_) λiH hF=>?_
  ·exact wV iH (PI _) (aj hF)
  try simp[go_sem,g,iH]
  refine wH hF (λrI hF=>?_) λrI hF=>?_
  ·exact wV rI (PI _) (aj hF)
  try simp[go_sem,g,rI]
  refine wH hF (λnU hF=>?_) λnU hF=>?_
  ·exact wV nU (PI _) (aj hF)
  obtain⟨fI,g,hF⟩:=fj g 0 hF;exact wV nU (PI _) (aj hF)
 try simp[go_sem,g]
 try intros
 refine wG hF (λh4 hF=>?_) λh4 hF=>?_
 ·exact wV h4 (ao _) (aj hF)
 try simp[go_sem,g,h4]
 refine wE hF zld λz5 hF=>?_
 exact wV h4 (ao _) (aj hF)
def um(a0:an)(a1:Int)(a2:List aq)(a3:List aq)(a4:ct):Option (Bool×Bool):=
 (vw a0 a1 a2).bind λz1=>
 ((if(!z1.2)=Z then(
 J Z)else(
 (Al a0 a3).bind λz6=>
 J (!z6)):Option Bool).bind λx4=>
 if x4=Z then(
 J (aa,aa))else(
 (zW a0 z1.1 a1 a2 a3 a4).bind λz8=>
 J (z8,Z)))
def zoC{a0 a1 a2 a3 a4 r}(hr:um a0 a1 a2 a3 a4=J r):au Tryz.prog 44 [(.sh,vE a0),(.sh,.int .i64 a1),(.sh,vH a2),(.sh,vH a3),(.sh,vM a4)] (Eo (.bS [.bool r.1,.bool r.2]) rU):=by
 apply pF 36 [] [] [] [.tmp 10,.tmp 11] hr zJ7 Tryz.func44;intro Φ ai hF g;unfold um at hF;refine wW ?_;refine wE hF RH λz1 hF=>?_
 refine wK [1,2,3,5,9,12,13] ?_;refine bX hF [1,2,3,5,9,12] (λx4=>[(28,.v (.bool x4))]) (λx4 hF=>?_) λ_ cE hF=>?_
 ·refine wI hF (λh7 hF=>?_) λh7 hF=>?_
  ·exact wl ai hF
  refine wW ?_;refine wE hF zle λz8 hF=>?_
  exact wl ai hF
 refine wG hF (λh5 hF=>?_) λh5 hF=>?_
 ·exact wV h5 (cE _) (aj hF)
 try simp[go_sem,g,h5]
 refine wE hF Oo λz6 hF=>?_
 exact wV h5 (cE _) (aj hF)
def HF(a0:cM):Option Bool:=
 ((if((a0.cy.length:Int)==0)=Z then(
 if((a0.aH.length:Int)==0)=Z then(
 (E7 a0.Pi).bind λz6=>
 J z6)else(
 J aa))else(
 J aa):Option Bool).bind λx3=>
 J x3)
def zhp{a0 r}(hr:HF a0=J r):au Tryz.prog 45 [(.sh,vL a0)] (Eo (.bool r) [.ax]):=by
 apply pF 18 [] [] [] [.tmp 2] hr zL1 Tryz.func45;intro Φ ai hF g;unfold HF at hF;refine wW ?_;refine wJ hF (λx3=>[(2,.v (.bool x3))]) (λx3 hF=>?_) λ_ ao hF=>?_
 ·exact wm ai hF
 try simp[go_sem,g]
 try intros
 refine wG hF (λh4 hF=>?_) λh4 hF=>?_
 ·try simp[go_sem,g,h4]
  try intros
  refine wG hF (λh5 hF=>?_) λh5 hF=>?_
  ·try simp[go_sem,g,h5]
   refine wE hF YC λz6 hF=>?_
   exact wV h5 (ao _) (aj hF)
  exact wV h5 (ao _) (aj hF)
 exact wV h4 (ao _) (aj hF)
def sJ(a0:an)(a1:Int)(a2:List aq)(a3:eg):Option (Bool×Bool):=
 (vw a0 a1 a2).bind λz1=>
 if(!z1.2)=Z then(
 J (aa,aa))else(
 (Al a0 a3.Out).bind λz3=>
 if(!z3)=Z then(
 J (aa,Z))else(
 if(a3.dG==1)=Z then(
 (tU a0 a1 a2 a3.Out a3.bt).bind λz6=>
 ((if z6.2=Z then(
 if z6.1=Z then(
 (F2 a3.Poly).bind λbr=>
 J br)else(
 J aa))else(
 J aa):Option Bool).bind λx9=>
 J (x9,Z)))else(
 if(a3.dG==2)=Z then(
 (um a0 a1 a2 a3.Out a3.Poly).bind λdK=>
 ((if dK.2=Z then(
 if dK.1=Z then(
 (HF a3.bt).bind λmZ=>
 J mZ)else(
 J aa))else(
 J aa):Option Bool).bind λbJ=>
 J (bJ,Z)))else(
 J (aa,Z)))))
def zjX{a0 a1 a2 a3 r}(hr:sJ a0 a1 a2 a3=J r):au Tryz.prog 10 [(.sh,vE a0),(.sh,.int .i64 a1),(.sh,vH a2),(.sh,vN a3)] (Eo (.bS [.bool r.1,.bool r.2]) kY):=by
 apply pF 76 [] [] [] [.tmp 8,.tmp 9] hr zNr Tryz.func10;intro Φ ai hF g;unfold sJ at hF;refine wW ?_;refine wE hF RH λz1 hF=>?_
 refine wK [1,2,4,7,11] ?_;refine wW ?_;refine wI hF (λh2 hF=>?_) λh2 hF=>?_
 ·exact wl ai hF
 refine wW ?_;refine wE hF Oo λz3 hF=>?_
 refine wW ?_;refine wI hF (λh4 hF=>?_) λh4 hF=>?_
 ·exact wl ai hF
 iterate 2 refine wW ?_
 refine wB ?_;refine wK [1,2,4,7,31,32] ?_;refine wI hF (λh5 hF=>?_) λh5 hF=>?_
 ·refine wE hF zm7 λz6 hF=>?_
  refine wK [7,12,13] ?_;refine wJ hF (λx9=>[(8,.v (.bool x9)),(9,.v (.bool Z))]) (λx9 hF=>?_) λ_ UM hF=>?_
  ·exact wm ai hF
  refine wG hF (λdf hF=>?_) λdf hF=>?_
  ·try simp[go_sem,g,df]
   refine wG hF (λeQ hF=>?_) λeQ hF=>?_
   ·try simp[go_sem,g,eQ]
    refine wE hF zhS λbr hF=>?_
    exact wV eQ (UM _) (aj hF)
   exact wV eQ (UM _) (aj hF)
  exact wV df (UM _) (aj hF)
 refine wW ?_;refine wI hF (λcZ hF=>?_) λcZ hF=>?_
 ·refine wE hF zoC λdK hF=>?_
  refine wK [7,14,15] ?_;refine wJ hF (λbJ=>[(8,.v (.bool bJ)),(9,.v (.bool Z))]) (λbJ hF=>?_) λ_ wR hF=>?_
  ·exact wm ai hF
  refine wG hF (λrI hF=>?_) λrI hF=>?_
  ·try simp[go_sem,g,rI]
   refine wG hF (λnU hF=>?_) λnU hF=>?_
   ·try simp[go_sem,g,nU]
    refine wE hF zhp λmZ hF=>?_
    exact wV nU (wR _) (aj hF)
   exact wV nU (wR _) (aj hF)
  exact wV rI (wR _) (aj hF)
 cases ai _ (aj hF)
 iterate 2 refine wW ?_
 try simp[go_sem,g]
def zU(a0:List Int):Option Bool:=
 ((if decide ((a0.length:Int)<=400)=Z then(
 (Hm a0).bind λz5=>
 J z5)else(
 J aa):Option Bool).bind λx3=>
 J x3)
def MZ{a0 r}(hr:zU a0=J r):au Tryz.prog 97 [(.sh,vC a0)] (Eo (.bool r) [.ax]):=by
 apply pF 10 [] [] [] [.tmp 2] hr zLn Tryz.func97;intro Φ ai hF g;unfold zU at hF;refine wW ?_;refine wJ hF (λx3=>[(2,.v (.bool x3))]) (λx3 hF=>?_) λ_ ao hF=>?_
 ·exact wm ai hF
 try simp[go_sem,g]
 try intros
 refine wG hF (λh4 hF=>?_) λh4 hF=>?_
 ·try simp[go_sem,g,h4]
  refine wE hF zgZ λz5 hF=>?_
  exact wV h4 (ao _) (aj hF)
 exact wV h4 (ao _) (aj hF)
def Bs(a0:List Int):Option (List Int×Bool):=
 (zU a0).bind λz1=>
 if(!z1)=Z then(
 J ([],aa))else(
 J (a0,Z))
def UF{a0 r}(hr:Bs a0=J r):au Tryz.prog 93 [(.sh,vC a0)] (Eo (.bS [vC r.1,.bool r.2]) [.ax]):=by
 apply pF 8 [] [2] [] [.tmp 2,.tmp 3] hr zND Tryz.func93;intro Φ ai hF g;unfold Bs at hF;refine wW ?_;refine wE hF MZ λz1 hF=>?_
 refine wW ?_;refine wI hF (λh2 hF=>?_) λh2 hF=>?_
 ·exact wl ai hF
 cases ai _ (aj hF)
 iterate 2 refine wW ?_
 try simp[go_sem,g]
def He(a0:List aq):Option (List Int×Bool):=
 ((aU (σ:=(List Int)) (λi5 s4=>
 (ix a0 i5).bind λaN=>
 gd ((s4.length+2)*8<=140737488355328/\s4.length+2<=4611686018427387904)<|
 J (.go (s4++[aN.A,aN.B]))) (λs4=>s4) (a0.length) 0 [(a0.length:Int)]:Option ((List Int))).bind λx3=>
 (Bs x3).bind λiW=>
 J (iW.1,iW.2))
def zjb{a0 r}(hr:He a0=J r):au Tryz.prog 46 [(.sh,vH a0)] (Eo (.bS [vC r.1,.bool r.2]) [.ax]):=by
 apply pF 28 [] [24] [] [.tmp 2,.tmp 3] hr zLX Tryz.func46;intro Φ ai hF g;unfold He at hF
 iterate 3 (try simp[go_sem,g];try intros;refine bh ?_)
 refine wJ hF (λx3=>[(4,.v (vD x3))]) (λx3 hF=>?_) λ_ ao hF=>?_
 ·refine wE hF UF λiW hF=>?_
  refine wK [2,3] ?_;exact wm ai hF
 refine wB ?_;obtain⟨yI,mq,bo⟩:=hF;refine bU mq [10,11] (λi5 s4=>[(4,.v (vD s4)),(12,.v (.int .i64 i5))]) (λs4 _ pH=>?_) λi5 s4 _ _ bq ba b8 bD hF=>?_
 ·exact wn pH (ao _) bo
 refine wK [4,10,11,12,13] ?_;refine wu bq ba ?_;refine wW ?_;refine wB ?_;obtain⟨aN,g,hF⟩:=Rx g hF;obtain⟨g,hF⟩:=Rg g hF;refine wW ?_;refine wK [4,10,11,12] ?_;exact wi bq ba (bD _) (aj hF)
def xO(a0:List Int):Option ((List Int)):=
 gd (([(a0.length:Int)].length+a0.length)*8<=140737488355328/\[(a0.length:Int)].length+a0.length<=4611686018427387904)<|
 J ([(a0.length:Int)]++a0)
def Nr{a0 r}(hr:xO a0=J r):au Tryz.prog 95 [(.sh,vC a0)] (Eo (vD r) [.ax]):=by
 apply pF 8 [] [] [] [.tmp 2] hr zJ1 Tryz.func95;intro Φ ai hF g;unfold xO at hF;obtain⟨g,hF⟩:=Rg g hF;cases ai _ (aj hF)
 iterate 2 (try simp[go_sem,g];try intros;refine bh ?_)
 try simp[go_sem,g]
 try intros
 try simp[go_sem,g]
def Im(a0:cb):Option (List Int×Bool):=
 (xO a0.aE).bind λz1=>
 (xO a0.aW).bind λz2=>
 (xO a0.aG).bind λz3=>
 (pW [z1,z2,z3]).bind λz4=>
 (Bs z4).bind λz5=>
 J (z5.1,z5.2)
def znb{a0 r}(hr:Im a0=J r):au Tryz.prog 47 [(.sh,vS a0)] (Eo (.bS [vC r.1,.bool r.2]) [.ax]):=by
 apply pF 18 [] [14] [] [.tmp 2,.tmp 3] hr zMi Tryz.func47;intro Φ ai hF g;unfold Im at hF;refine wW ?_;refine wZ (kE [0,1,3,4,6,7,2,5,8,9,10,11,12,13,14,15] [9,10,9,10,9,10,3,3,3,0,6,3,0,0,0,0]) follows ?_;refine wE hF Nr λz1 hF=>?_
 refine wE hF Nr λz2 hF=>?_
 refine wE hF Nr λz3 hF=>?_
 refine wE hF FZ λz4 hF=>?_
 refine wE hF UF λz5 hF=>?_
 refine wK [2,3] ?_;exact wm ai hF
def zDd:Ng Tryz.prog 96 49:=by
 intro n H e b es cG z e1 e2 h0 h1 h2 h3 h4 h5;refine TY zL7 Tryz.func96 rfl rfl (by simp[Tryz.f96]) λhw=>?_
 have hn:¬n<0:=by omega
 have hw1:i64.wrap n=n:=Hi (by omega);have uv:i64.wrap 0=0:=Hi (by omega);have ei:(j9 Tryz.prog 3).isSome=Z:=by kernel_rfl
 by_cases hp:0<n
 ·have hne:n≠0:=by omega
  have yj:=h5;simp[cz]at yj;simp[Tryz.f96,fu,nr,aP,fC,dE,gG,cr,bg,eY,bC,F4,FR.put,FR.init,be,bO,di,kh,cz,Am.iX,n7,oR,v5,za,ED,qi,s8,xT,hn,e1,e2,ei,hw1,uv,hp,h1,h2,h3,h4,hne]
  first|exact yj|exact .inl yj
 have hz:n=0:=by omega
 subst hz;simp[Tryz.f96,fu,nr,aP,fC,dE,gG,cr,bg,eY,bC,F4,FR.put,FR.init,be,bO,di,kh,cz,Am.iX,n7,oR,v5,za,ED,qi,s8,xT,hn,e1,e2,hw1,uv,hp]
def zhZ(a0:(List (List (List Int)))):Option ((List (List Int))):=
 ((aU (σ:=Int) (λi5 s4=>
 (ix a0 i5).bind λaN=>
 if decide ((i64.wrap (s4+(aN.length:Int)))<0)=Z then(
 ae)else(
 J (.go (i64.wrap (s4+(aN.length:Int)))))) (λs4=>s4) (a0.length) 0 0:Option Int).bind λx3=>
 gd (0<=x3/\24*x3<=140737488355328/\x3<=4611686018427387904)<|
 ((aU (σ:=(List (List Int))) (λf7 bR=>
 (ix a0 f7).bind λgi=>
 gd ((bR.length+gi.length)*24<=140737488355328/\bR.length+gi.length<=4611686018427387904)<|
 J (.go (bR++gi))) (λbR=>bR) (a0.length) 0 []:Option ((List (List Int)))).bind λfI=>
 J fI))
def zss{a0 r}(hr:zhZ a0=J r):au Tryz.prog 49 [(.sh,vU a0)] (Eo (vT r) [.ax]):=by
 apply pF 36 [] [] [] [.tmp 2] hr Zd Tryz.func49;intro Φ ai hF g;unfold zhZ at hF
 iterate 3 (try simp[go_sem,g];try intros;refine bh ?_)
 refine wJ hF (λx3=>[(0,.v (vU a0)),(3,.v (.int .i64 x3))]) (λx3 hF=>?_) λ_ ao hF=>?_
 ·obtain⟨Lu,hF⟩:=ut hF;try simp[go_sem,g]
  refine Tj zDd zCK (by simp[go_sem,g]) Lu ?_;try simp[go_sem,g]
  try intros
  refine bh ?_;try simp[go_sem,g]
  try intros
  refine wK [6,25,26,27] ?_;refine wJ hF (λfI=>[(6,.v (vT fI))]) (λfI hF=>?_) λ_ u9 hF=>?_
  ·exact wl ai hF
  refine wB ?_;obtain⟨M8,yq,yb⟩:=hF;refine bU yq [25,26] (λf7 bR=>[(6,.v (vT bR)),(27,.v (.int .i64 f7))]) (λbR _ DT=>?_) λf7 bR _ _ kW qt Mt zm hF=>?_
  ·exact wn DT (u9 _) yb
  refine wW ?_;refine wu kW qt ?_;refine wW ?_;refine wB ?_;obtain⟨gi,g,hF⟩:=Rx g hF;obtain⟨g,hF⟩:=Rg g hF
  iterate 2 refine wW ?_
  exact wi kW qt (zm _) (aj hF)
 refine wB ?_;obtain⟨uW,kB,bo⟩:=hF;refine bU kB [0,9,10] (λi5 s4=>[(3,.v (.int .i64 s4)),(11,.v (.int .i64 i5))]) (λs4 _ np=>?_) λi5 s4 _ _ bq ba b8 bD hF=>?_
 ·exact wn np (ao _) bo
 refine wW ?_;refine wu bq ba ?_;refine wW ?_;refine wB ?_;obtain⟨aN,g,hF⟩:=Rx g hF;try simp[go_sem,g]
 try intros
 refine bh ?_;try simp[go_sem,g]
 try intros
 refine wK [0,3,9,10,11] ?_;refine wW ?_;refine wI hF (λfB hF=>?_) λfB hF=>?_
 ·exact(NR hF).elim
 refine wW ?_;exact wi bq ba (bD _) (aj hF)
def GQ(a0:(List (List (List Int)))):Option ((List (List Int))):=
 ((aU (σ:=Int) (λi5 s4=>
 (ix a0 i5).bind λaN=>
 if decide ((i64.wrap (s4+(aN.length:Int)))<0)=Z then(
 ae)else(
 J (.go (i64.wrap (s4+(aN.length:Int)))))) (λs4=>s4) (a0.length) 0 0:Option Int).bind λx3=>
 gd (0<=x3/\24*x3<=140737488355328/\x3<=4611686018427387904)<|
 ((aU (σ:=(List (List Int))) (λf7 bR=>
 (ix a0 f7).bind λgi=>
 gd ((bR.length+gi.length)*24<=140737488355328/\bR.length+gi.length<=4611686018427387904)<|
 J (.go (bR++gi))) (λbR=>bR) (a0.length) 0 []:Option ((List (List Int)))).bind λfI=>
 J fI))
def zjB{a0 r}(hr:GQ a0=J r):au Tryz.prog 49 [(.mv,vV a0)] (Eo (vT r) [.ax]):=by
 apply pF 36 [] [77,80] [] [.tmp 2] hr Zd Tryz.func49;intro Φ ai hF g;unfold GQ at hF
 iterate 3 (try simp[go_sem,g];try intros;refine bh ?_)
 refine wJ hF (λx3=>[(0,.v (vV a0)),(3,.v (.int .i64 x3))]) (λx3 hF=>?_) λ_ ao hF=>?_
 ·obtain⟨Lu,hF⟩:=ut hF;try simp[go_sem,g]
  refine Tj zDd zCK (by simp[go_sem,g]) Lu ?_;try simp[go_sem,g]
  try intros
  refine bh ?_;try simp[go_sem,g]
  try intros
  refine wK [0,6,25,26,27] ?_;refine wJ hF (λfI=>[(6,.v (vT fI))]) (λfI hF=>?_) λ_ u9 hF=>?_
  ·exact wl ai hF
  refine wB ?_;obtain⟨M8,yq,yb⟩:=hF;refine bU yq [0,25,26] (λf7 bR=>[(6,.v (vT bR)),(27,.v (.int .i64 f7))]) (λbR _ DT=>?_) λf7 bR _ _ kW qt Mt zm hF=>?_
  ·exact wn DT (u9 _) yb
  refine wW ?_;refine wu kW qt ?_;refine wW ?_;refine wB ?_;obtain⟨gi,g,hF⟩:=Rx g hF;obtain⟨g,hF⟩:=Rg g hF
  iterate 2 refine wW ?_
  exact wi kW qt (zm _) (aj hF)
 refine wB ?_;obtain⟨uW,kB,bo⟩:=hF;refine bU kB [0,9,10] (λi5 s4=>[(3,.v (.int .i64 s4)),(11,.v (.int .i64 i5))]) (λs4 _ np=>?_) λi5 s4 _ _ bq ba b8 bD hF=>?_
 ·exact wn np (ao _) bo
 refine wW ?_;refine wu bq ba ?_;refine wW ?_;refine wB ?_;obtain⟨aN,g,hF⟩:=Rx g hF;try simp[go_sem,g]
 try intros
 refine bh ?_;try simp[go_sem,g]
 try intros
 refine wK [0,3,9,10,11] ?_;refine wW ?_;refine wI hF (λfB hF=>?_) λfB hF=>?_
 ·exact(NR hF).elim
 refine wW ?_;exact wi bq ba (bD _) (aj hF)
def Ao(a0:(List (List Int))):Option (List Int×Bool):=
 ((aU (σ:=(List Int)) (λi5 s4=>
 (ix a0 i5).bind λaN=>
 (xO aN).bind λbr=>
 gd ((s4.length+br.length)*8<=140737488355328/\s4.length+br.length<=4611686018427387904)<|
 if decide (400<((s4++br).length:Int))=Z then(
 J (.out (.inr ([],aa))))else(
 J (.go (s4++br)))) (λs4=>.inl s4) (a0.length) 0 [(a0.length:Int)]:Option ((List Int) ⊕ (List Int×Bool))).bind (Sum.elim (λx3=>
 (Bs x3).bind λfe=>
 J (fe.1,fe.2)) J))
def Yz{a0 r}(hr:Ao a0=J r):au Tryz.prog 48 [(.sh,vK a0)] (Eo (.bS [vC r.1,.bool r.2]) [.ax]):=by
 apply pF 28 [] [2,24] [] [.tmp 2,.tmp 3] hr zMl Tryz.func48;intro Φ ai hF g;unfold Ao at hF
 iterate 3 (try simp[go_sem,g];try intros;refine bh ?_)
 refine wS hF (λx3=>[(4,.v (vD x3))]) (λx3 hF=>?_) λ_ ao fD hF=>?_
 ·refine wE hF UF λfe hF=>?_
  refine wK [2,3] ?_;exact wm ai hF
 refine wB ?_;obtain⟨oq,fT,bo⟩:=hF;refine bU fT [10,11] (λi5 s4=>[(4,.v (vD s4)),(12,.v (.int .i64 i5))]) (λs4 _ iy=>?_) λi5 s4 _ _ bq ba b8 bD hF=>?_
 ·exact wn iy (ao _) bo
 refine wK [4,10,11,12,13] ?_;refine wu bq ba ?_;refine wW ?_;refine wB ?_;obtain⟨aN,g,hF⟩:=Rx g hF;refine wW ?_;refine wE hF Nr λbr hF=>?_
 obtain⟨g,hF⟩:=Rg g hF;try simp[go_sem,g]
 try intros
 refine bh ?_;try simp[go_sem,g]
 try intros
 refine wK [4,10,11,12,22] ?_;refine wI hF (λcZ hF=>?_) λcZ hF=>?_
 ·cases b8 _ (aj hF);cases ai _ (fD _ bo);refine wW ?_;try simp[go_sem,g]
 refine wW ?_;exact wi bq ba (bD _) (aj hF)
def Ei(a0:eg):Option (List Int×Bool):=
 (He a0.Out).bind λz1=>
 (F2 a0.Poly).bind λz2=>
 ((if(a0.dG==2)=Z then(
 (HF a0.bt).bind λz7=>
 J ([a0.Poly.bV,a0.Poly.bM,a0.Poly.aH],a0.Poly.Pi.aE,a0.Poly.Pi.aW,a0.Poly.Pi.aG,z7))else(
 J ([a0.bt.cy,a0.bt.aH],a0.bt.Pi.aE,a0.bt.Pi.aW,a0.bt.Pi.aG,z2)):Option (((List (List Int))×List Int×List Int×List Int×Bool))).bind λx5=>
 (Im (cb.mk x5.2.1 x5.2.2.1 x5.2.2.2.1)).bind λz8=>
 (((Ha a0.dG).bind λbr=>
 if(!br)=Z then(
 J Z)else(
 if(!z1.2)=Z then(
 J Z)else(
 if(!z8.2)=Z then(
 J Z)else(
 J (!x5.2.2.2.2)))):Option Bool).bind λaN=>
 if aN=Z then(
 J ([],aa))else(
 (GQ [[[a0.dG],z1.1],x5.1,[z8.1]]).bind λgK=>
 (Ao gK).bind λfe=>
 J (fe.1,fe.2))))
def Si{a0 r}(hr:Ei a0=J r):au Tryz.prog 11 [(.sh,vN a0)] (Eo (.bS [vC r.1,.bool r.2]) [.ax]):=by
 apply pF 83 [] [2,79,323] [] [.tmp 2,.tmp 3] hr zMW Tryz.func11;intro Φ ai hF g;unfold Ei at hF;refine wW ?_;refine wE hF zjb λz1 hF=>?_
 refine wK [1,4,5] ?_;refine wZ (kE [0,1,2,3,4,5,6,7,8,9,10,11,13,12,14,15,16] [9,9,10,9,9,10,0,9,9,10,9,10,0,3,7,58,0]) follows ?_;refine wE hF zhS λz2 hF=>?_
 refine wK [1,4,5,6,7,8] ?_;refine wW ?_;refine bX hF [1,4,5] (λx5=>[(6,.v (vT x5.1)),(7,.bl [vC x5.2.1,vC x5.2.2.1,vC x5.2.2.2.1]),(8,.v (.bool x5.2.2.2.2))]) (λx5 hF=>?_) λ_ iu hF=>?_
 ·refine wE hF znb λz8 hF=>?_
  refine wK [1,4,5,6,8,9,10] ?_;refine bX hF [1,4,6,9] (λaN=>[(69,.v (.bool aN))]) (λaN hF=>?_) λ_ A2 hF=>?_
  ·refine wI hF (λk7 hF=>?_) λk7 hF=>?_
   ·exact wl ai hF
   refine wW ?_;refine wC hF [.mv] zjB λgK hF=>?_
   refine wE hF Yz λfe hF=>?_
   refine wK [2,3] ?_;exact wm ai hF
  refine wE hF Xs λbr hF=>?_
  refine wG hF (λcZ hF=>?_) λcZ hF=>?_
  ·exact wV cZ (A2 _) (aj hF)
  try simp[go_sem,g,cZ]
  refine wG hF (λeD hF=>?_) λeD hF=>?_
  ·exact wV eD (A2 _) (aj hF)
  try simp[go_sem,g,eD]
  refine wG hF (λiT hF=>?_) λiT hF=>?_
  ·exact wV iT (A2 _) (aj hF)
  exact wV iT (A2 _) (aj hF)
 refine wI hF (λh6 hF=>?_) λh6 hF=>?_
 ·refine wZ (kD 0 [9,9,10,9,9,10,9,9,10,0,9,9,10,9,10,3,7,58,0]) follows ?_;refine wE hF zhp λz7 hF=>?_
  exact wT (iu _) (aj hF)
 exact wT (iu _) (aj hF)
def wX(aO:List Int)(aV:Bool):Option (Int×(List Int×Bool)):=
 if((aO.length:Int)==0)=Z then(
 J (0,(aO,aa)))else(
 (ix aO 0).bind λx2=>
 gd (1<=aO.length/\aO.length<=aO.length)<|
 J (x2,((aO.take aO.length).drop 1,aV)))
def Lh{aO aV r}(hr:wX aO aV=J r):au Tryz.prog 98 [(.io,vW aO aV)] (Eo (.int .i64 r.1) [vW r.2.1 r.2.2]):=by
 apply pF 28 [0] [] [] [.tmp 2] hr zMT Tryz.func98;intro Φ ai hF g;unfold wX at hF
 iterate 2 (try simp[go_sem,g];try intros;refine bh ?_)
 refine wI hF (λh1 hF=>?_) λh1 hF=>?_
 ·refine wK [0] ?_;exact wl ai hF
 obtain⟨x2,g,hF⟩:=fj g 0 hF;refine wW ?_;refine wK [0,3] ?_;obtain⟨g,hF⟩:=Rg g hF;refine wW ?_;refine wK [0,2] ?_;exact wm ai hF
def tP(aO:List Int)(aV:Bool):Option (List Int×(List Int×Bool)):=
 (wX aO aV).bind λz1=>
 (pY z1.1 0 (z1.2.1.length:Int)).bind λz2=>
 if(!z2)=Z then(
 J ([],(z1.2.1,aa)))else(
 gd (0<=z1.1)<|
 gd (0<=z1.1.toNat/\z1.1.toNat<=z1.2.1.length)<|
 (vh ((z1.2.1.take z1.1.toNat).drop 0)).bind λz4=>
 gd (0<=z1.1)<|
 gd (z1.1.toNat<=z1.2.1.length/\z1.2.1.length<=z1.2.1.length)<|
 J (z4,((z1.2.1.take z1.2.1.length).drop z1.1.toNat,z1.2.2)))
def OU{aO aV r}(hr:tP aO aV=J r):au Tryz.prog 99 [(.io,vW aO aV)] (Eo (vD r.1) [vW r.2.1 r.2.2]):=by
 apply pF 35 [0] [] [] [.tmp 2] hr zKh Tryz.func99;intro Φ ai hF g;unfold tP at hF;refine wW ?_;refine wC hF [.io] Lh λz1 hF=>?_
 try simp[go_sem,g]
 try intros
 refine bh ?_;try simp[go_sem,g]
 try intros
 refine wE hF uT λz2 hF=>?_
 refine wK [0,3,14] ?_;refine wI hF (λh3 hF=>?_) λh3 hF=>?_
 ·cases ai _ (aj hF)
  iterate 2 refine wW ?_
  try simp[go_sem,g]
 obtain⟨g,hF⟩:=Rg g hF;obtain⟨g,hF⟩:=Rg g hF;refine wW ?_;refine wE hF Pg λz4 hF=>?_
 iterate 2 obtain⟨g,hF⟩:=Rg g hF
 refine wW ?_;refine wK [0,4] ?_;exact wl ai hF
def Bc(aO:List Int)(aV:Bool):Option Bool:=
 ((if aV=Z then(
 J ((aO.length:Int)==0))else(
 J aa):Option Bool).bind λx3=>
 J x3)
def T1{aO aV r}(hr:Bc aO aV=J r):au Tryz.prog 100 [(.sh,.fp [vC aO,.bool aV])] (Eo (.bool r) [.ax]):=by
 apply pF 15 [] [] [] [.tmp 2] hr zHv Tryz.func100;intro Φ ai hF g;unfold Bc at hF;refine wW ?_;refine wJ hF (λx3=>[(2,.v (.bool x3))]) (λx3 hF=>?_) λ_ ao hF=>?_
 ·exact wm ai hF
 refine wG hF (λh4 hF=>?_) λh4 hF=>?_
 ·try simp[go_sem,g,h4]
  try intros
  exact wT (ao _) (aj hF)
 exact wV h4 (ao _) (aj hF)
def DB(a0:List Int)(a1:List Int):Option Bool:=
 if((a0.length:Int) !=(a1.length:Int))=Z then(
 J aa)else(
 ((aU (σ:=Unit) (λi6 s5=>
 (ix a0 i6).bind λcC=>
 (ix a1 i6).bind λfQ=>
 if(cC !=fQ)=Z then(
 J (.out (.inr aa)))else(
 J (.go ()))) (λs5=>.inl ()) (a0.length) 0 ():Option (Unit ⊕ Bool)).bind (Sum.elim (λx4=>
 J Z) J)))
def Sl{a0 a1 r}(hr:DB a0 a1=J r):au Tryz.prog 53 [(.sh,vC a0),(.sh,vC a1)] (Eo (.bool r) cO):=by
 apply pF 26 [] [] [] [.tmp 4] hr zN1 Tryz.func53;intro Φ ai hF g;unfold DB at hF
 iterate 2 (try simp[go_sem,g];try intros;refine bh ?_)
 refine wI hF (λh1 hF=>?_) λh1 hF=>?_
 ·exact wl ai hF
 iterate 2 (try simp[go_sem,g];try intros;refine bh ?_)
 refine wS hF (λx4=>[]) (λx4 hF=>?_) λ_ cE yZ hF=>?_
 ·refine wK [4] ?_;exact wm ai hF
 refine wB ?_;obtain⟨CO,pi,pQ⟩:=hF;refine bU pi [0,1,12] (λi6 s5=>[(13,.v (.int .i64 i6))]) (λs5 _ oI=>?_) λi6 s5 _ _ ba pV uP yg hF=>?_
 ·exact wn oI (cE _) pQ
 refine wK [0,1,12,13,14] ?_;refine wu ba pV ?_;refine wW ?_;refine wB ?_;refine wW ?_;refine wZ (kD 0 [0,0,0,0,0,0,0,0,0]) follows ?_;obtain⟨cC,g,hF⟩:=Rx g hF;obtain⟨fQ,g,hF⟩:=Rx g hF;refine wK [0,1,12,13,24] ?_;refine wI hF (λeD hF=>?_) λeD hF=>?_
 ·cases uP _ (aj hF);cases ai _ (yZ _ pQ);refine wW ?_;try simp[go_sem,g]
 refine wW ?_;exact wi ba pV (yg _) (aj hF)
def Bx(a0:List Int):Option ((List (List Int))×Bool):=
 (zU a0).bind λz1=>
 (wX a0 z1).bind λz2=>
 ((dP (σ:=(List Int×Bool)×(List (List Int))×Int) (λdu=>
 if decide (du.2.2<(if(a0.length:Int)<z2.1 then(a0.length:Int)else z2.1))=Z then(
 (tP du.1.1 du.1.2).bind λiR=>
 gd ((du.2.1.length+1)*24<=140737488355328/\du.2.1.length+1<=4611686018427387904)<|
 J (.go ((iR.2.1,iR.2.2),du.2.1++[iR.1],i64.wrap (du.2.2+1))))else(
 J (.out ((du.1.1,du.1.2),du.2.1)))) ((z2.2.1,z2.2.2),[],0):Option (((List Int×Bool)×(List (List Int))))).bind λx5=>
 (Ao x5.2).bind λnB=>
 (((Bc x5.1.1 x5.1.2).bind λiG=>
 if(!iG)=Z then(
 J Z)else(
 if(!nB.2)=Z then(
 J Z)else(
 (DB nB.1 a0).bind λtv=>
 J (!tv))):Option Bool).bind λnk=>
 if nk=Z then(
 J ([],aa))else(
 J (x5.2,Z))))
def zm3{a0 r}(hr:Bx a0=J r):au Tryz.prog 50 [(.sh,vC a0)] (Eo (.bS [vK r.1,.bool r.2]) [.ax]):=by
 apply pF 46 [] [2,28] [12] [.tmp 2,.tmp 3] hr zKO Tryz.func50;intro Φ ai hF g;unfold Bx at hF;refine wW ?_;refine wE hF MZ λz1 hF=>?_
 refine wK [0,4,5] ?_;refine wC hF [.io] Lh λz2 hF=>?_
 try simp[go_sem,g]
 try intros
 refine bh ?_;refine wJ hF (λx5=>[(0,.v (vC a0)),(4,.v (vW x5.1.1 x5.1.2)),(5,.v (vX x5.2))]) (λx5 hF=>?_) λ_ iu hF=>?_
 ·refine wE hF Yz λnB hF=>?_
  refine wK [0,4,5,6,7] ?_;refine wJ hF (λnk=>[(5,.v (vK x5.2)),(44,.v (.bool nk))]) (λnk hF=>?_) λ_ Ta hF=>?_
  ·refine wI hF (λCi hF=>?_) λCi hF=>?_
   ·exact wl ai hF
   cases ai _ (aj hF)
   iterate 2 refine wW ?_
   try simp[go_sem,g]
  refine wE hF T1 λiG hF=>?_
  refine wG hF (λDZ hF=>?_) λDZ hF=>?_
  ·exact wV DZ (Ta _) (aj hF)
  try simp[go_sem,g,DZ]
  refine wG hF (λNt hF=>?_) λNt hF=>?_
  ·exact wV Nt (Ta _) (aj hF)
  try simp[go_sem,g,Nt]
  refine wE hF Sl λtv hF=>?_
  exact wV Nt (Ta _) (aj hF)
 refine wB ?_;obtain⟨b27,Ju,K4⟩:=hF;refine jW Ju [0,18] (λdu=>[(4,.v (vW du.1.1 du.1.2)),(5,.v (vX du.2.1)),(19,.v (.int .i64 du.2.2))]) λdu _ _ Tc LG hF=>?_
 refine wW ?_;refine wI hF (λh25 hF=>?_) λh25 hF=>?_
 ·refine wW ?_;refine wB ?_;refine wC hF [.io] OU λiR hF=>?_
  obtain⟨g,hF⟩:=Rg g hF;refine wK [0,4,5,18,19] ?_;exact wT (LG _) (aj hF)
 cases Tc _ (aj hF);exact wT (iu _) K4
def Jq(a0:List Int):Option (List aq×Bool):=
 (zU a0).bind λz1=>
 (wX a0 z1).bind λz2=>
 ((dP (σ:=(List Int×Bool)×List aq×Int) (λe8=>
 if decide (e8.2.2<(if(a0.length:Int)<z2.1 then(a0.length:Int)else z2.1))=Z then(
 (wX e8.1.1 e8.1.2).bind λmZ=>
 (wX mZ.2.1 mZ.2.2).bind λuY=>
 gd ((e8.2.1.length+1)*16<=140737488355328/\e8.2.1.length+1<=4611686018427387904)<|
 J (.go ((uY.2.1,uY.2.2),e8.2.1++[(aq.mk mZ.1 uY.1)],i64.wrap (e8.2.2+1))))else(
 J (.out ((e8.1.1,e8.1.2),e8.2.1)))) ((z2.2.1,z2.2.2),[],0):Option (((List Int×Bool)×List aq))).bind λx5=>
 (He x5.2).bind λtI=>
 (((Bc x5.1.1 x5.1.2).bind λfL=>
 if(!fL)=Z then(
 J Z)else(
 if(!tI.2)=Z then(
 J Z)else(
 (DB tI.1 a0).bind λfy=>
 J (!fy))):Option Bool).bind λfR=>
 if fR=Z then(
 J ([],aa))else(
 J (x5.2,Z))))
def zmn{a0 r}(hr:Jq a0=J r):au Tryz.prog 51 [(.sh,vC a0)] (Eo (.bS [vH r.1,.bool r.2]) [.ax]):=by
 apply pF 49 [] [2,31] [12] [.tmp 2,.tmp 3] hr zNU Tryz.func51;intro Φ ai hF g;unfold Jq at hF;refine wW ?_;refine wE hF MZ λz1 hF=>?_
 refine wK [0,4,5] ?_;refine wC hF [.io] Lh λz2 hF=>?_
 try simp[go_sem,g]
 try intros
 refine bh ?_;refine wJ hF (λx5=>[(0,.v (vC a0)),(4,.v (vW x5.1.1 x5.1.2)),(5,.v (vG x5.2))]) (λx5 hF=>?_) λ_ iu hF=>?_
 ·refine wE hF zjb λtI hF=>?_
  refine wK [0,4,5,6,7] ?_;refine wJ hF (λfR=>[(5,.v (vH x5.2)),(47,.v (.bool fR))]) (λfR hF=>?_) λ_ tB hF=>?_
  ·refine wI hF (λCz hF=>?_) λCz hF=>?_
   ·exact wl ai hF
   cases ai _ (aj hF)
   iterate 2 refine wW ?_
   try simp[go_sem,g]
  refine wE hF T1 λfL hF=>?_
  refine wG hF (λyW hF=>?_) λyW hF=>?_
  ·exact wV yW (tB _) (aj hF)
  try simp[go_sem,g,yW]
  refine wG hF (λtX hF=>?_) λtX hF=>?_
  ·exact wV tX (tB _) (aj hF)
  try simp[go_sem,g,tX]
  refine wE hF Sl λfy hF=>?_
  exact wV tX (tB _) (aj hF)
 refine wB ?_;obtain⟨b22,a1Q,Ia⟩:=hF;refine jW a1Q [0,18] (λe8=>[(4,.v (vW e8.1.1 e8.1.2)),(5,.v (vG e8.2.1)),(19,.v (.int .i64 e8.2.2))]) λe8 _ _ SR IG hF=>?_
 refine wW ?_;refine wI hF (λnU hF=>?_) λnU hF=>?_
 ·refine wW ?_;refine wB ?_;refine wC hF [.io] Lh λmZ hF=>?_
  refine wC hF [.io] Lh λuY hF=>?_
  obtain⟨g,hF⟩:=Rg g hF;refine wK [0,4,5,18,19] ?_;exact wT (IG _) (aj hF)
 cases SR _ (aj hF);exact wT (iu _) Ia
def Jn(a0:List Int):Option (cb×Bool):=
 (zU a0).bind λz1=>
 (tP a0 z1).bind λz2=>
 (tP z2.2.1 z2.2.2).bind λz3=>
 (tP z3.2.1 z3.2.2).bind λz4=>
 (Bc z4.2.1 z4.2.2).bind λz5=>
 if(!z5)=Z then(
 J ((cb.mk [] [] []),aa))else(
 J ((cb.mk z2.1 z3.1 z4.1),Z))
def znr{a0 r}(hr:Jn a0=J r):au Tryz.prog 52 [(.sh,vC a0)] (Eo (.bS [vY r.1,.bool r.2]) [.ax]):=by
 apply pF 23 [] [] [10] [.cell 2 31,.tmp 3] hr zJY Tryz.func52;intro Φ ai hF g;unfold Jn at hF;refine wW ?_;refine wE hF MZ λz1 hF=>?_
 refine wW ?_;refine wC hF [.io] OU λz2 hF=>?_
 refine wC hF [.io] OU λz3 hF=>?_
 refine wC hF [.io] OU λz4 hF=>?_
 refine wK [2,4,5] ?_;refine wE hF T1 λz5 hF=>?_
 refine wW ?_;refine wI hF (λh6 hF=>?_) λh6 hF=>?_
 ·exact wl ai hF
 cases ai _ (aj hF)
 iterate 2 refine wW ?_
 try simp[go_sem,g]
def A6(a0:List Int):Option (eg×Bool):=
 (Bx a0).bind λz1=>
 ((if(!z1.2)=Z then(
 J Z)else(
 if decide ((z1.1.length:Int)<5)=Z then(
 J Z)else(
 (ix z1.1 0).bind λx7=>
 J ((x7.length:Int) !=1))):Option Bool).bind λx4=>
 if x4=Z then(
 J ((eg.mk 0 [] (cM.mk [] [] (cb.mk [] [] [])) (ct.mk [] [] [] (cb.mk [] [] []))),aa))else(
 (ix z1.1 1).bind λx9=>
 (Jq x9).bind λbF=>
 (ix z1.1 (i64.wrap ((z1.1.length:Int)-1))).bind λaN=>
 (Jn aN).bind λbr=>
 (ix z1.1 0).bind λfQ=>
 (ix fQ 0).bind λfb=>
 ((((if(fb==1)=Z then(
 J ((z1.1.length:Int)==5))else(
 J aa):Option Bool).bind λfI=>
 if fI=Z then(
 (ix z1.1 2).bind λXI=>
 (ix z1.1 3).bind λC1=>
 J (.inl (fb,bF.1,XI,C1,br.1.aE,br.1.aW,br.1.aG,[],[],[],[],[],[])))else(
 ((if(fb==2)=Z then(
 J ((z1.1.length:Int)==6))else(
 J aa):Option Bool).bind λfR=>
 if fR=Z then(
 (ix z1.1 2).bind λC7=>
 (ix z1.1 3).bind λDu=>
 (ix z1.1 4).bind λnk=>
 J (.inl (fb,bF.1,[],[],[],[],[],C7,Du,nk,br.1.aE,br.1.aW,br.1.aG)))else(
 J (.inr ((eg.mk 0 [] (cM.mk [] [] (cb.mk [] [] [])) (ct.mk [] [] [] (cb.mk [] [] []))),aa)))))):Option ((Int×List aq×List Int×List Int×List Int×List Int×List Int×List Int×List Int×List Int×List Int×List Int×List Int) ⊕ (eg×Bool))).bind (Sum.elim (λbJ=>
 (Ei (eg.mk bJ.1 bJ.2.1 (cM.mk bJ.2.2.1 bJ.2.2.2.1 (cb.mk bJ.2.2.2.2.1 bJ.2.2.2.2.2.1 bJ.2.2.2.2.2.2.1)) (ct.mk bJ.2.2.2.2.2.2.2.1 bJ.2.2.2.2.2.2.2.2.1 bJ.2.2.2.2.2.2.2.2.2.1 (cb.mk bJ.2.2.2.2.2.2.2.2.2.2.1 bJ.2.2.2.2.2.2.2.2.2.2.2.1 bJ.2.2.2.2.2.2.2.2.2.2.2.2)))).bind λiG=>
 ((if(!bF.2)=Z then(
 J Z)else(
 if(!br.2)=Z then(
 J Z)else(
 if(!iG.2)=Z then(
 J Z)else(
 (DB iG.1 a0).bind λtr=>
 J (!tr)))):Option Bool).bind λni=>
 if ni=Z then(
 J ((eg.mk 0 [] (cM.mk [] [] (cb.mk [] [] [])) (ct.mk [] [] [] (cb.mk [] [] []))),aa))else(
 J ((eg.mk bJ.1 bJ.2.1 (cM.mk bJ.2.2.1 bJ.2.2.2.1 (cb.mk bJ.2.2.2.2.1 bJ.2.2.2.2.2.1 bJ.2.2.2.2.2.2.1)) (ct.mk bJ.2.2.2.2.2.2.2.1 bJ.2.2.2.2.2.2.2.2.1 bJ.2.2.2.2.2.2.2.2.2.1 (cb.mk bJ.2.2.2.2.2.2.2.2.2.2.1 bJ.2.2.2.2.2.2.2.2.2.2.2.1 bJ.2.2.2.2.2.2.2.2.2.2.2.2))),Z)))) J))))
set_option maxHeartbeats 1000000 in
def zms{a0 r}(hr:A6 a0=J r):au Tryz.prog 12 [(.sh,vC a0)] (Eo (.bS [vN r.1,.bool r.2]) [.ax]):=by
 apply EJ 120 [] [98] [] [.cell 2 37,.tmp 3] hr zNN Tryz.func12;intro Φ ai hF g;unfold A6 at hF;refine wW ?_;refine wE hF zm3 λz1 hF=>?_
 refine wW ?_;refine bX hF [0,2,4] (λx4=>[(31,.v (.bool x4))]) (λx4 hF=>?_) λ_ cE hF=>?_
 ·refine wI hF (λh8 hF=>?_) λh8 hF=>?_
  ·refine wK [2,3] ?_;exact wm ai hF
  obtain⟨x9,g,hF⟩:=fj g 1 hF;refine wW ?_;refine wE hF zmn λbF hF=>?_
  refine wK [0,2,4,6,7] ?_;obtain⟨aN,g,hF⟩:=Rx g hF;try simp[go_sem,g]
  try intros
  refine wE hF znr λbr hF=>?_
  refine wK [0,2,4,6,7,8,9] ?_;obtain⟨fQ,g,hF⟩:=fj g 0 hF;obtain⟨fb,g,hF⟩:=fj g 0 hF;refine wW ?_;refine wSK hF [0,2,7,9] (λbJ=>[(10,.bl [.int .i64 bJ.1,vH bJ.2.1,vC bJ.2.2.1,vC bJ.2.2.2.1,vD bJ.2.2.2.2.1,vD bJ.2.2.2.2.2.1,vD bJ.2.2.2.2.2.2.1,vC bJ.2.2.2.2.2.2.2.1,vC bJ.2.2.2.2.2.2.2.2.1,vC bJ.2.2.2.2.2.2.2.2.2.1,vD bJ.2.2.2.2.2.2.2.2.2.2.1,vD bJ.2.2.2.2.2.2.2.2.2.2.2.1,vD bJ.2.2.2.2.2.2.2.2.2.2.2.2])]) (λbJ hF=>?_) λ_ wR a2B hF=>?_
  ·refine wE hF Si λiG hF=>?_
   refine wK [0,2,7,9,10,11,12] ?_;refine bX hF [2,10] (λni=>[(117,.v (.bool ni))]) (λni hF=>?_) λ_ Fz hF=>?_
   ·refine wI hF (λQ0 hF=>?_) λQ0 hF=>?_
    ·exact wl ai hF
    cases ai _ (aj hF)
    iterate 2 refine wW ?_
    try simp[go_sem,g]
   refine wG hF (λCi hF=>?_) λCi hF=>?_
   ·exact wV Ci (Fz _) (aj hF)
   try simp[go_sem,g,Ci]
   refine wG hF (λVg hF=>?_) λVg hF=>?_
   ·exact wV Vg (Fz _) (aj hF)
   try simp[go_sem,g,Vg]
   refine wG hF (λzZ hF=>?_) λzZ hF=>?_
   ·exact wV zZ (Fz _) (aj hF)
   try simp[go_sem,g,zZ]
   refine wE hF Sl λtr hF=>?_
   exact wV zZ (Fz _) (aj hF)
  refine wB ?_;refine bX hF [0,2,4,7,8,9,10] (λfI=>[(58,.v (.bool fI))]) (λfI hF=>?_) λ_ u9 hF=>?_
  ·refine wI hF (λh22 hF=>?_) λh22 hF=>?_
   ·refine wZ (kD 0 [0,0,0,0,0,0,66,0,81,82]) follows ?_;obtain⟨XI,g,hF⟩:=fj g 2 hF;obtain⟨C1,g,hF⟩:=fj g 3 hF;try simp[go_sem,g]
    refine j4 10 7 (by simp[go_sem,g];rfl) rfl (by simp[go_sem]) ?_;refine j4 10 8 (by simp[go_sem,g];rfl) rfl (by simp[go_sem]) ?_;refine j4 10 9 (by simp[go_sem,g];rfl) rfl (by simp[go_sem]) ?_;exact wT (wR _) (aj hF)
   refine bX hF [0,2,4,7,8,9,10] (λfR=>[(76,.v (.bool fR))]) (λfR hF=>?_) λ_ tB hF=>?_
   ·refine wI hF (λyW hF=>?_) λyW hF=>?_
    ·refine wZ (kD 0 [0,0,0,0,0,0,0,0,0,66,0,81,82]) follows ?_;obtain⟨C7,g,hF⟩:=fj g 2 hF;obtain⟨Du,g,hF⟩:=fj g 3 hF;obtain⟨nk,g,hF⟩:=fj g 4 hF;try simp[go_sem,g]
     refine j4 10 2 (by simp[go_sem,g];rfl) rfl (by simp[go_sem]) ?_;refine j4 10 3 (by simp[go_sem,g];rfl) rfl (by simp[go_sem]) ?_;exact wT (wR _) (aj hF)
    refine wK [2,3] ?_;cases ai _ (a2B _ (aj hF));try simp[go_sem,g]
   refine wG hF (λrm hF=>?_) λrm hF=>?_
   ·try simp[go_sem,g,rm]
    try intros
    exact wT (tB _) (aj hF)
   exact wV rm (tB _) (aj hF)
  refine wG hF (λyH hF=>?_) λyH hF=>?_
  ·try simp[go_sem,g,yH]
   try intros
   exact wT (u9 _) (aj hF)
  exact wV yH (u9 _) (aj hF)
 refine wG hF (λh5 hF=>?_) λh5 hF=>?_
 ·exact wV h5 (cE _) (aj hF)
 try simp[go_sem,g,h5]
 try intros
 refine wG hF (λh6 hF=>?_) λh6 hF=>?_
 ·exact wV h6 (cE _) (aj hF)
 obtain⟨x7,g,hF⟩:=fj g 0 hF;try simp[go_sem,g,h6]
 try intros
 exact wT (cE _) (aj hF)
def Ky(a0:List Int)(a1:List Int):Option Bool:=
 if((a0.length:Int) !=(a1.length:Int))=Z then(
 J aa)else(
 ((aU (σ:=Unit) (λi6 s5=>
 (ix a0 i6).bind λcC=>
 (ix a1 i6).bind λfQ=>
 if(cC !=fQ)=Z then(
 J (.out (.inr aa)))else(
 J (.go ()))) (λs5=>.inl ()) (a0.length) 0 ():Option (Unit ⊕ Bool)).bind (Sum.elim (λx4=>
 J Z) J)))
def zpC{a0 a1 r}(hr:Ky a0 a1=J r):au Tryz.prog 13 [(.sh,vC a0),(.sh,vC a1)] (Eo (.bool r) cO):=by
 apply pF 26 [] [] [] [.tmp 4] hr zMV Tryz.func13;intro Φ ai hF g;unfold Ky at hF
 iterate 2 (try simp[go_sem,g];try intros;refine bh ?_)
 refine wI hF (λh1 hF=>?_) λh1 hF=>?_
 ·exact wl ai hF
 iterate 2 (try simp[go_sem,g];try intros;refine bh ?_)
 refine wS hF (λx4=>[]) (λx4 hF=>?_) λ_ cE yZ hF=>?_
 ·refine wK [4] ?_;exact wm ai hF
 refine wB ?_;obtain⟨CO,pi,pQ⟩:=hF;refine bU pi [0,1,12] (λi6 s5=>[(13,.v (.int .i64 i6))]) (λs5 _ oI=>?_) λi6 s5 _ _ ba pV uP yg hF=>?_
 ·exact wn oI (cE _) pQ
 refine wK [0,1,12,13,14] ?_;refine wu ba pV ?_;refine wW ?_;refine wB ?_;refine wW ?_;refine wZ (kD 0 [0,0,0,0,0,0,0,0,0]) follows ?_;obtain⟨cC,g,hF⟩:=Rx g hF;obtain⟨fQ,g,hF⟩:=Rx g hF;refine wK [0,1,12,13,24] ?_;refine wI hF (λeD hF=>?_) λeD hF=>?_
 ·cases uP _ (aj hF);cases ai _ (yZ _ pQ);refine wW ?_;try simp[go_sem,g]
 refine wW ?_;exact wi ba pV (yg _) (aj hF)
def HE(aO:List Int)(aV:Int)(bp:Int)(a1:an):Option (Int×(List Int×Int×Int)):=
 (zQ aO aV bp 24).bind λz1=>
 if z1.1=Z then(
 (pZ z1.2.1 z1.2.2.1 z1.2.2.2 [a1.Q,(-1),i64.wrap (a1.Q-1)]).bind λz3=>
 J (z3.1,(z3.2.1,z3.2.2.1,z3.2.2.2)))else(
 (D2 z1.2.1 z1.2.2.1 z1.2.2.2 a1).bind λz4=>
 J (z4.1,(z4.2.1,z4.2.2.1,z4.2.2.2)))
def zhO{aO aV bp a1 r}(hr:HE aO aV bp a1=J r):au Tryz.prog 164 [(.io,vB aO aV bp),(.sh,vE a1)] (Eo (.int .i64 r.1) [vB r.2.1 r.2.2.1 r.2.2.2,.ax]):=by
 apply pF 18 [0] [] [] [.tmp 4] hr zET Tryz.func164;intro Φ ai hF g;unfold HE at hF;refine wW ?_;refine wC hF [.io,.sh] NP λz1 hF=>?_
 refine wW ?_;refine wI hF (λh2 hF=>?_) λh2 hF=>?_
 ·refine wC hF [.io,.mv] wL λz3 hF=>?_
  refine wK [0,4] ?_;exact wm ai hF
 refine wW ?_;refine wC hF [.io,.sh] Sq λz4 hF=>?_
 exact wl ai hF
def Gd(aO:List Int)(aV:Int)(bp:Int)(a1:an)(a2:cb):Option (cb×(List Int×Int×Int)):=
 (DL a2.aE).bind λz1=>
 (DL a2.aW).bind λz2=>
 (DL a2.aG).bind λz3=>
 (gW aO aV bp 12).bind λz4=>
 ((if(z4.1==0)=Z then(
 if decide (0<(z3.length:Int))=Z then(
 (gW z4.2.1 z4.2.2.1 z4.2.2.2 (z3.length:Int)).bind λbF=>
 (HE bF.2.1 bF.2.2.1 bF.2.2.2 a1).bind λbQ=>
 (ix z3 bF.1).bind λcC=>
 J (.inl ((bQ.2.1,bQ.2.2.1,bQ.2.2.2),z1,z2,z3.set bF.1.toNat bQ.1)))else(
 J (.inl ((z4.2.1,z4.2.2.1,z4.2.2.2),z1,z2,z3))))else(
 if(z4.1==1)=Z then(
 if decide (0<(z1.length:Int))=Z then(
 (gW z4.2.1 z4.2.2.1 z4.2.2.2 (z1.length:Int)).bind λew=>
 (y6 ew.2.1 ew.2.2.1 ew.2.2.2 a1).bind λiW=>
 (ix z1 ew.1).bind λbJ=>
 J (.inl ((iW.2.1,iW.2.2.1,iW.2.2.2),z1.set ew.1.toNat iW.1,z2,z3)))else(
 J (.inl ((z4.2.1,z4.2.2.1,z4.2.2.2),z1,z2,z3))))else(
 if(z4.1==2)=Z then(
 if decide (0<(z2.length:Int))=Z then(
 (gW z4.2.1 z4.2.2.1 z4.2.2.2 (z2.length:Int)).bind λmZ=>
 (HE mZ.2.1 mZ.2.2.1 mZ.2.2.2 a1).bind λuY=>
 (ix z2 mZ.1).bind λFg=>
 J (.inl ((uY.2.1,uY.2.2.1,uY.2.2.2),z1,z2.set mZ.1.toNat uY.1,z3)))else(
 J (.inl ((z4.2.1,z4.2.2.1,z4.2.2.2),z1,z2,z3))))else(
 if(z4.1==3)=Z then(
 gd ((z3.length+1)*8<=140737488355328/\z3.length+1<=4611686018427387904)<|
 J (.inl ((z4.2.1,z4.2.2.1,z4.2.2.2),z1,z2,z3++[0])))else(
 if(z4.1==4)=Z then(
 J (.inr ((cb.mk [] [] []),(z4.2.1,z4.2.2.1,z4.2.2.2))))else(
 J (.inl ((z4.2.1,z4.2.2.1,z4.2.2.2),z1,z2,z3))))))):Option (((List Int×Int×Int)×List Int×List Int×List Int) ⊕ (cb×(List Int×Int×Int)))).bind (Sum.elim (λx7=>
 J ((cb.mk x7.2.1 x7.2.2.1 x7.2.2.2),(x7.1.1,x7.1.2.1,x7.1.2.2))) J))
def zgK{aO aV bp a1 a2 r}(hr:Gd aO aV bp a1 a2=J r):au Tryz.prog 102 [(.io,vB aO aV bp),(.sh,vE a1),(.sh,vS a2)] (Eo (vY r.1) [vB r.2.1 r.2.2.1 r.2.2.2,.ax,.ax]):=by
 apply pF 81 [0] [] [] [.cell 6 31] hr zHq Tryz.func102;intro Φ ai hF g;unfold Gd at hF;refine wW ?_;refine wZ (kE [0,1,3,4,6,7,2,5,8,9,10] [41,42,41,42,41,42,3,3,3,0,42]) follows ?_;refine wE hF MG λz1 hF=>?_
 refine wE hF MG λz2 hF=>?_
 refine wE hF MG λz3 hF=>?_
 refine wK [0,4,5,6] ?_;refine wC hF [.io,.sh] j7 λz4 hF=>?_
 refine wW ?_;refine wS hF (λx7=>[(0,.v (vB x7.1.1 x7.1.2.1 x7.1.2.2)),(5,.bl [vD x7.2.1,vD x7.2.2.1,vD x7.2.2.2]),(6,.bl [.sl Z 1 [],.sl Z 1 [],.sl Z 1 []])]) (λx7 hF=>?_) λ_ sw hr6 hF=>?_
 ·exact wl ai hF
 refine wB ?_;refine wW ?_;refine wI hF (λh8 hF=>?_) λh8 hF=>?_
 ·try simp[go_sem,g]
  try intros
  refine bh ?_;try simp[go_sem,g]
  try intros
  refine wK [0,4,5,6,7,28] ?_;refine wI hF (λh9 hF=>?_) λh9 hF=>?_
  ·refine wZ (kE [0,1,2,3,5,6,4,7,8,9] [41,42,0,0,0,34,3,3,0,0]) follows ?_;refine wC hF [.io,.sh] j7 λbF hF=>?_
   refine wC hF [.io,.sh] zhO λbQ hF=>?_
   obtain⟨cC,g,hF⟩:=Rx g hF;exact wT (sw _) (aj hF)
  exact wT (sw _) (aj hF)
 refine wW ?_;refine wI hF (λcZ hF=>?_) λcZ hF=>?_
 ·try simp[go_sem,g]
  try intros
  refine wK [0,4,5,6,8] ?_;refine wW ?_;refine wI hF (λeD hF=>?_) λeD hF=>?_
  ·refine wZ (kE [0,1,2,3,5,6,4,7,8,9] [41,42,0,0,0,34,3,3,0,0]) follows ?_;refine wC hF [.io,.sh] j7 λew hF=>?_
   refine wC hF [.io,.sh] LC λiW hF=>?_
   obtain⟨bJ,g,hF⟩:=Rx g hF;exact wT (sw _) (aj hF)
  exact wT (sw _) (aj hF)
 refine wW ?_;refine wI hF (λrI hF=>?_) λrI hF=>?_
 ·try simp[go_sem,g]
  try intros
  refine wK [0,4,5,6,9] ?_;refine wW ?_;refine wI hF (λnU hF=>?_) λnU hF=>?_
  ·refine wZ (kE [0,1,2,3,5,6,4,7,8,9] [41,42,0,0,0,34,3,3,0,0]) follows ?_;refine wC hF [.io,.sh] j7 λmZ hF=>?_
   refine wC hF [.io,.sh] zhO λuY hF=>?_
   obtain⟨Fg,g,hF⟩:=Rx g hF;exact wT (sw _) (aj hF)
  exact wT (sw _) (aj hF)
 refine wK [0,5,6,21,70] ?_;refine wI hF (λIr hF=>?_) λIr hF=>?_
 ·obtain⟨g,hF⟩:=Rg g hF;exact wT (sw _) (aj hF)
 refine wW ?_;refine wI hF (λCb hF=>?_) λCb hF=>?_
 ·cases ai _ (hr6 _ (aj hF));refine wW ?_;try simp[go_sem,g]
 exact wT (sw _) (aj hF)
def KS(aO:List Int)(aV:Int)(bp:Int)(a1:an)(a2:eg):Option (eg×(List Int×Int×Int)):=
 gd (a2.Out.length*16<=140737488355328/\a2.Out.length<=4611686018427387904)<|
 (gW aO aV bp 9).bind λz1=>
 ((if(z1.1==0)=Z then(
 if decide (0<(a2.Out.length:Int))=Z then(
 (gW z1.2.1 z1.2.2.1 z1.2.2.2 (a2.Out.length:Int)).bind λz7=>
 (y6 z7.2.1 z7.2.2.1 z7.2.2.2 a1).bind λz8=>
 (ix a2.Out z7.1).bind λx9=>
 J ((z8.2.1,z8.2.2.1,z8.2.2.2),a2.dG,a2.Out.set z7.1.toNat (aq.mk x9.A z8.1),a2.bt.cy,a2.bt.aH,a2.bt.Pi.aE,a2.bt.Pi.aW,a2.bt.Pi.aG,a2.Poly.bV,a2.Poly.bM,a2.Poly.aH,a2.Poly.Pi.aE,a2.Poly.Pi.aW,a2.Poly.Pi.aG))else(
 J ((z1.2.1,z1.2.2.1,z1.2.2.2),a2.dG,a2.Out,a2.bt.cy,a2.bt.aH,a2.bt.Pi.aE,a2.bt.Pi.aW,a2.bt.Pi.aG,a2.Poly.bV,a2.Poly.bM,a2.Poly.aH,a2.Poly.Pi.aE,a2.Poly.Pi.aW,a2.Poly.Pi.aG)))else(
 if(z1.1==1)=Z then(
 (Gd z1.2.1 z1.2.2.1 z1.2.2.2 a1 a2.bt.Pi).bind λbQ=>
 J ((bQ.2.1,bQ.2.2.1,bQ.2.2.2),a2.dG,a2.Out,a2.bt.cy,a2.bt.aH,bQ.1.aE,bQ.1.aW,bQ.1.aG,a2.Poly.bV,a2.Poly.bM,a2.Poly.aH,a2.Poly.Pi.aE,a2.Poly.Pi.aW,a2.Poly.Pi.aG))else(
 if(z1.1==2)=Z then(
 (Gd z1.2.1 z1.2.2.1 z1.2.2.2 a1 a2.Poly.Pi).bind λcN=>
 J ((cN.2.1,cN.2.2.1,cN.2.2.2),a2.dG,a2.Out,a2.bt.cy,a2.bt.aH,a2.bt.Pi.aE,a2.bt.Pi.aW,a2.bt.Pi.aG,a2.Poly.bV,a2.Poly.bM,a2.Poly.aH,cN.1.aE,cN.1.aW,cN.1.aG))else(
 if(z1.1==3)=Z then(
 (gW z1.2.1 z1.2.2.1 z1.2.2.2 4).bind λew=>
 J ((ew.2.1,ew.2.2.1,ew.2.2.2),ew.1,a2.Out,a2.bt.cy,a2.bt.aH,a2.bt.Pi.aE,a2.bt.Pi.aW,a2.bt.Pi.aG,a2.Poly.bV,a2.Poly.bM,a2.Poly.aH,a2.Poly.Pi.aE,a2.Poly.Pi.aW,a2.Poly.Pi.aG))else(
 if(z1.1==4)=Z then(
 if decide (1<(a2.Out.length:Int))=Z then(
 (ix a2.Out 0).bind λlT=>
 (ix a2.Out 1).bind λpo=>
 (ix (a2.Out.set 0 po) 1).bind λfI=>
 J ((z1.2.1,z1.2.2.1,z1.2.2.2),a2.dG,(a2.Out.set 0 po).set 1 lT,a2.bt.cy,a2.bt.aH,a2.bt.Pi.aE,a2.bt.Pi.aW,a2.bt.Pi.aG,a2.Poly.bV,a2.Poly.bM,a2.Poly.aH,a2.Poly.Pi.aE,a2.Poly.Pi.aW,a2.Poly.Pi.aG))else(
 J ((z1.2.1,z1.2.2.1,z1.2.2.2),a2.dG,a2.Out,a2.bt.cy,a2.bt.aH,a2.bt.Pi.aE,a2.bt.Pi.aW,a2.bt.Pi.aG,a2.Poly.bV,a2.Poly.bM,a2.Poly.aH,a2.Poly.Pi.aE,a2.Poly.Pi.aW,a2.Poly.Pi.aG)))else(
 J ((z1.2.1,z1.2.2.1,z1.2.2.2),a2.dG,a2.Out,a2.bt.cy,a2.bt.aH,a2.bt.Pi.aE,a2.bt.Pi.aW,a2.bt.Pi.aG,a2.Poly.bV,a2.Poly.bM,a2.Poly.aH,a2.Poly.Pi.aE,a2.Poly.Pi.aW,a2.Poly.Pi.aG)))))):Option (((List Int×Int×Int)×Int×List aq×List Int×List Int×List Int×List Int×List Int×List Int×List Int×List Int×List Int×List Int×List Int))).bind λx4=>
 J ((eg.mk x4.2.1 x4.2.2.1 (cM.mk x4.2.2.2.1 x4.2.2.2.2.1 (cb.mk x4.2.2.2.2.2.1 x4.2.2.2.2.2.2.1 x4.2.2.2.2.2.2.2.1)) (ct.mk x4.2.2.2.2.2.2.2.2.1 x4.2.2.2.2.2.2.2.2.2.1 x4.2.2.2.2.2.2.2.2.2.2.1 (cb.mk x4.2.2.2.2.2.2.2.2.2.2.2.1 x4.2.2.2.2.2.2.2.2.2.2.2.2.1 x4.2.2.2.2.2.2.2.2.2.2.2.2.2))),(x4.1.1,x4.1.2.1,x4.1.2.2)))
def zjq{aO aV bp a1 a2 r}(hr:KS aO aV bp a1 a2=J r):au Tryz.prog 54 [(.io,vB aO aV bp),(.sh,vE a1),(.sh,vN a2)] (Eo (vZ r.1) [vB r.2.1 r.2.2.1 r.2.2.2,.ax,.ax]):=by
 apply pF 80 [0] [] [] [.cell 6 37] hr zNz Tryz.func54;intro Φ ai hF g;unfold KS at hF;obtain⟨g,hF⟩:=Rg g hF
 iterate 2 refine wW ?_
 refine wK [0,4,5,6,7] ?_;try simp[go_sem,g]
 try intros
 refine bh ?_;try simp[go_sem,g]
 try intros
 refine wC hF [.io,.sh] j7 λz1 hF=>?_
 refine wW ?_;refine wJ hF (λx4=>[(0,.v (vB x4.1.1 x4.1.2.1 x4.1.2.2)),(6,.bl [.int .i64 0,.sl Z 2 [],.sl Z 1 [],.sl Z 1 [],.sl Z 1 [],.sl Z 1 [],.sl Z 1 [],.sl Z 1 [],.sl Z 1 [],.sl Z 1 [],.sl Z 1 [],.sl Z 1 [],.sl Z 1 []]),(7,.bl [.int .i64 x4.2.1,vG x4.2.2.1,vC x4.2.2.2.1,vC x4.2.2.2.2.1,vC x4.2.2.2.2.2.1,vC x4.2.2.2.2.2.2.1,vC x4.2.2.2.2.2.2.2.1,vC x4.2.2.2.2.2.2.2.2.1,vC x4.2.2.2.2.2.2.2.2.2.1,vC x4.2.2.2.2.2.2.2.2.2.2.1,vC x4.2.2.2.2.2.2.2.2.2.2.2.1,vC x4.2.2.2.2.2.2.2.2.2.2.2.2.1,vC x4.2.2.2.2.2.2.2.2.2.2.2.2.2])]) (λx4 hF=>?_) λ_ cE hF=>?_
 ·exact wl ai hF
 refine wB ?_;refine wW ?_;refine wI hF (λh5 hF=>?_) λh5 hF=>?_
 ·refine wK [0,4,6,7,8,24] ?_;refine wI hF (λh6 hF=>?_) λh6 hF=>?_
  ·refine wZ (kE [0,1,2,3,5,6,4,7,8,9,10] [57,58,0,0,0,34,3,3,0,0,0]) follows ?_;refine wC hF [.io,.sh] j7 λz7 hF=>?_
   refine wC hF [.io,.sh] LC λz8 hF=>?_
   obtain⟨x9,g,hF⟩:=Rx g hF;exact wT (cE _) (aj hF)
  exact wT (cE _) (aj hF)
 refine wK [0,4,5,6,7,8,20,35] ?_;refine wI hF (λdf hF=>?_) λdf hF=>?_
 ·refine wC hF [.io,.sh,.sh] zgK λbQ hF=>?_
  try simp[go_sem,g]
  refine j4 7 4 (by simp[go_sem,g];rfl) rfl (by simp[go_sem]) ?_;refine j4 7 5 (by simp[go_sem,g];rfl) rfl (by simp[go_sem]) ?_;refine j4 7 6 (by simp[go_sem,g];rfl) rfl (by simp[go_sem]) ?_;exact wT (cE _) (aj hF)
 refine wW ?_;refine wI hF (λfB hF=>?_) λfB hF=>?_
 ·refine wC hF [.io,.sh,.sh] zgK λcN hF=>?_
  try simp[go_sem,g]
  refine j4 7 10 (by simp[go_sem,g];rfl) rfl (by simp[go_sem]) ?_;refine j4 7 11 (by simp[go_sem,g];rfl) rfl (by simp[go_sem]) ?_;refine j4 7 12 (by simp[go_sem,g];rfl) rfl (by simp[go_sem]) ?_;exact wT (cE _) (aj hF)
 refine wW ?_;refine wI hF (λeD hF=>?_) λeD hF=>?_
 ·refine wC hF [.io,.sh] j7 λew hF=>?_
  exact wT (cE _) (aj hF)
 refine wW ?_;refine wI hF (λk7 hF=>?_) λk7 hF=>?_
 ·refine wW ?_;refine wI hF (λiH hF=>?_) λiH hF=>?_
  ·obtain⟨lT,g,hF⟩:=fj g 0 hF;refine wK [0,6,7,9] ?_;refine wZ (kD 0 [57,58,57,58,0,0,0,0]) follows ?_;obtain⟨po,g,hF⟩:=fj g 1 hF;obtain⟨fI,g,hF⟩:=fj g 1 hF;try simp only[L7]at g
   refine wW ?_;exact wT (cE _) (aj hF)
  exact wT (cE _) (aj hF)
 exact wT (cE _) (aj hF)
def Kv(a0:List Int):Option (an×Int×List aq×eg):=
 (F9 a0).bind λz1=>
 (uD z1.1 z1.2.1 z1.2.2.1 z1.2.2.2.1 z1.2.2.2.2.1 z1.2.2.2.2.2).bind λz2=>
 (KS a0 0 0 z1.1 z2.1).bind λz3=>
 J (z1.1,z1.2.1,z1.2.2.1,z3.1)
def zlM{a0 r}(hr:Kv a0=J r):au Tryz.prog 14 [(.sh,vA a0)] (Eo (.bS [vE r.1,.int .i64 r.2.1,vG r.2.2.1,vZ r.2.2.2]) [.ax]):=by
 apply pF 44 [] [42] [26] [.cell 2 25,.tmp 3,.tmp 4,.cell 5 37] hr zNk Tryz.func14;intro Φ ai hF g;unfold Kv at hF;refine wW ?_;refine wE hF XP λz1 hF=>?_
 refine wK [0,2,5,6,7,8,9,10,11] ?_;refine wW ?_;refine wE hF zlk λz2 hF=>?_
 refine wK [2,5,6,7,8,12,13] ?_;refine wZ (kD 0 [50,0,0,0,50,106,3,18,0,0,42]) follows ?_;refine wC hF [.io,.sh,.sh] zjq λz3 hF=>?_
 refine wK [2,3,4,5] ?_;exact wm ai hF
def Jd(a0:an)(a1:Int)(a2:cM):Option Bool:=
 ((if((a2.cy.length:Int)==a1)=Z then(
 if((a2.aH.length:Int)==a1)=Z then(
 if((a2.Pi.aE.length:Int)==(i64.wrap (a1+5)))=Z then(
 if((a2.Pi.aW.length:Int)==1)=Z then(
 if((a2.Pi.aG.length:Int)==(i64.wrap ((i64.wrap (2*a1))+4)))=Z then(
 (qF a0 a2.cy).bind λz9=>
 if z9=Z then(
 (qF a0 a2.aH).bind λbQ=>
 if bQ=Z then(
 (qF a0 a2.Pi.aE).bind λcN=>
 if cN=Z then(
 (sO a0 a2.Pi.aG).bind λew=>
 J ew)else(
 J aa))else(
 J aa))else(
 J aa))else(
 J aa))else(
 J aa))else(
 J aa))else(
 J aa))else(
 J aa):Option Bool).bind λx3=>
 J x3)
def zrE{a0 a1 a2 r}(hr:Jd a0 a1 a2=J r):au Tryz.prog 205 [(.sh,vE a0),(.sh,.int .i64 a1),(.sh,vL a2)] (Eo (.bool r) gH):=by
 apply pF 71 [] [] [] [.tmp 6] hr zGG Tryz.func205;intro Φ ai hF g;unfold Jd at hF;refine wW ?_;refine wJ hF (λx3=>[(6,.v (.bool x3))]) (λx3 hF=>?_) λ_ ao hF=>?_
 ·exact wm ai hF
 try simp[go_sem,g]
 try intros
 refine wG hF (λh4 hF=>?_) λh4 hF=>?_
 ·try simp[go_sem,g,h4]
  try intros
  refine wG hF (λh5 hF=>?_) λh5 hF=>?_
  ·try simp[go_sem,g,h5]
   try intros
   refine wG hF (λh6 hF=>?_) λh6 hF=>?_
   ·try simp[go_sem,g,h6]
    try intros
    refine wG hF (λh7 hF=>?_) λh7 hF=>?_
    ·try simp[go_sem,g,h7]
     try intros
     refine wG hF (λh8 hF=>?_) λh8 hF=>?_
     ·try simp[go_sem,g,h8]
      refine wE hF yD λz9 hF=>?_
      try simp[go_sem,g,h8]
      refine wG hF (λdf hF=>?_) λdf hF=>?_
      ·try simp[go_sem,g,df]
       refine wE hF yD λbQ hF=>?_
       try simp[go_sem,g,df]
       refine wG hF (λfB hF=>?_) λfB hF=>?_
       ·try simp[go_sem,g,fB]
        refine wE hF yD λcN hF=>?_
        try simp[go_sem,g,fB]
        refine wG hF (λeD hF=>?_) λeD hF=>?_
        ·try simp[go_sem,g,eD]
         refine wE hF Ep λew hF=>?_
         exact wV eD (ao _) (aj hF)
        exact wV eD (ao _) (aj hF)
       exact wV fB (ao _) (aj hF)
      exact wV df (ao _) (aj hF)
     exact wV h8 (ao _) (aj hF)
    exact wV h7 (ao _) (aj hF)
   exact wV h6 (ao _) (aj hF)
  exact wV h5 (ao _) (aj hF)
 exact wV h4 (ao _) (aj hF)
def Kw(a0:an)(a1:Int):Option Int:=
 (l6 a1 (i64.wrap (a0.Q-1)) a0.P).bind λz1=>
 J z1
def zuF{a0 a1 r}(hr:Kw a0 a1=J r):au Tryz.prog 206 [(.sh,vE a0),(.sh,.int .i64 a1)] (Eo (.int .i64 r) cO):=by
 apply pF 12 [] [] [] [.tmp 4] hr zHW Tryz.func206;intro Φ ai hF g;unfold Kw at hF;refine wW ?_;refine wE hF yp λz1 hF=>?_
 refine wK [4] ?_;exact wm ai hF
def IV(a0:an)(a1:Int)(a2:cA)(a3:List aq)(a4:List aq)(a5:cM):Option Bool:=
 ((if((a4.length:Int) !=(a3.length:Int))=Z then(
 J Z)else(
 (Jd a0 (a3.length:Int) a5).bind λz5=>
 if(!z5)=Z then(
 J Z)else(
 (ix a5.Pi.aW 0).bind λx7=>
 (AY a0 a1 a3 a4 a5).bind λz8=>
 J (x7 !=z8))):Option Bool).bind λx3=>
 if x3=Z then(
 J aa)else(
 (ix a5.Pi.aW 0).bind λd9=>
 gd (0<=(i64.wrap ((a3.length:Int)+4)))<|
 gd ((i64.wrap ((a3.length:Int)+4)).toNat<=a5.Pi.aG.length/\a5.Pi.aG.length<=a5.Pi.aG.length)<|
 (Bw a0 a1 a3 a4 a5.cy).bind λbQ=>
 ((aU (σ:=Int) (λi16 qX=>
 (ix bQ i16).bind λFg=>
 gd (a0.Q≠0)<|
 J (.go ((i64.wrap (qX*Fg)).tmod a0.Q))) (λqX=>qX) (bQ.length) 0 1:Option Int).bind λfb=>
 (xv a3).bind λmB=>
 (xv a4).bind λfL=>
 (ix a5.aH (i64.wrap ((a3.length:Int)-1))).bind λjo=>
 (ej a0 a5.cy).bind λeX=>
 (ej a0 a2.Hs).bind λfy=>
 (Kw a0 fy).bind λLl=>
 (ej a0 [eX,Ll]).bind λiG=>
 (lR a0 a5.cy bQ).bind λn9=>
 (cH a0 a2.H (i64.wrap (0-fb))).bind λib=>
 (ej a0 [jo,ib]).bind λtv=>
 (lR a0 mB.1 bQ).bind λAp=>
 (lR a0 mB.2 bQ).bind λt9=>
 (ix a5.Pi.aG 0).bind λrY=>
 (ix a5.Pi.aG 1).bind λkt=>
 (ix a5.Pi.aG 2).bind λvj=>
 (ix a5.Pi.aG 3).bind λRm=>
 (cH a0 a0.G rY).bind λzR=>
 (cH a0 a0.G kt).bind λBR=>
 (lR a0 a2.Hs ((a5.Pi.aG.take a5.Pi.aG.length).drop ((i64.wrap ((a3.length:Int)+4)).toNat))).bind λvf=>
 (ej a0 [BR,vf]).bind λCl=>
 (cH a0 a0.G vj).bind λDc=>
 (cH a0 a0.G (i64.wrap (0-Rm))).bind λCB=>
 (lR a0 fL.1 ((a5.Pi.aG.take a5.Pi.aG.length).drop ((i64.wrap ((a3.length:Int)+4)).toNat))).bind λKE=>
 (ej a0 [CB,KE]).bind λwQ=>
 (cH a0 a1 (i64.wrap (0-Rm))).bind λyR=>
 (lR a0 fL.2 ((a5.Pi.aG.take a5.Pi.aG.length).drop ((i64.wrap ((a3.length:Int)+4)).toNat))).bind λqr=>
 (ej a0 [yR,qr]).bind λBC=>
 ((aU (σ:=(List Int)×List Int×Int) (λxz ij=>
 (ix a5.aH xz).bind λxB=>
 gd ((ij.1.length+1)*8<=140737488355328/\ij.1.length+1<=4611686018427387904)<|
 (ix a5.Pi.aG (i64.wrap (4+xz))).bind λMm=>
 (ix ((a5.Pi.aG.take a5.Pi.aG.length).drop ((i64.wrap ((a3.length:Int)+4)).toNat)) xz).bind λql=>
 (cH a0 a0.G Mm).bind λCa=>
 (cH a0 ij.2.2 ql).bind λCg=>
 (ej a0 [Ca,Cg]).bind λoh=>
 gd ((ij.2.1.length+1)*8<=140737488355328/\ij.2.1.length+1<=4611686018427387904)<|
 J (.go (ij.1++[xB],ij.2.1++[oh],xB))) (λij=>(ij.1,ij.2.1)) (a5.aH.length) 0 ([iG,n9,tv,Ap,t9],[zR,Cl,Dc,wQ,BC],a2.H):Option ((List Int×List Int))).bind λxu=>
 ((aU (σ:=Unit) (λGk OL=>
 (ix xu.1 Gk).bind λEr=>
 (ix a5.Pi.aE Gk).bind λDP=>
 (ix xu.2 Gk).bind λpE=>
 (cH a0 Er d9).bind λuS=>
 (ej a0 [DP,uS]).bind λou=>
 if(ou !=pE)=Z then(
 J (.out (.inr aa)))else(
 J (.go ()))) (λOL=>.inl ()) (xu.1.length) 0 ():Option (Unit ⊕ Bool)).bind (Sum.elim (λzl=>
 J Z) J))))))
set_option maxHeartbeats 1000000 in
def zqE{a0 a1 a2 a3 a4 a5 r}(hr:IV a0 a1 a2 a3 a4 a5=J r):au Tryz.prog 166 [(.sh,vE a0),(.sh,.int .i64 a1),(.sh,vJ a2),(.sh,vH a3),(.sh,vH a4),(.sh,vL a5)] (Eo (.bool r) sH):=by
 apply pF 268 [] [] [] [.tmp 12] hr zER Tryz.func166;intro Φ ai hF g;unfold IV at hF
 iterate 2 (try simp[go_sem,g];try intros;refine bh ?_)
 refine bX hF [1,3,4,6,8,11,13] (λx3=>[(59,.v (.bool x3))]) (λx3 hF=>?_) λ_ ao hF=>?_
 ·refine wI hF (λh9 hF=>?_) λh9 hF=>?_
  ·exact wl ai hF
  obtain⟨d9,g,hF⟩:=fj g 0 hF;refine wW ?_;refine wK [1,3,4,6,8,11,13,14] ?_;refine wZ (kD 0 [89,89,90,89,89,90,0,0]) follows ?_
  iterate 2 obtain⟨g,hF⟩:=Rg g hF
  refine wW ?_;refine wK [1,3,4,6,8,11,13,14,15,16,17] ?_;refine wE hF zj0 λbQ hF=>?_
  iterate 2 (try simp[go_sem,g];try intros;refine bh ?_)
  try simp[go_sem,g]
  try intros
  refine wK [1,3,4,6,8,11,13,14,15,16,17,18,19,82,83,84] ?_;refine bX hF [1,3,4,6,8,11,13,14,15,16,17,18] (λfb=>[(19,.v (.int .i64 fb))]) (λfb hF=>?_) λ_ zh hF=>?_
  ·refine wE hF FA λmB hF=>?_
   refine wW ?_;refine wE hF FA λfL hF=>?_
   refine wK [1,6,8,11,13,14,15,16,17,18,19,22,23,24,25] ?_;refine wZ (kE [0,1,2,3,5,6,7,8,13,14,15,16,18,19,20,21,22,23,24,25,26,27,28,29,33,34,35,37,38,39,4,9,10,11,12,17,30,31,32,36,40,41,42] [50,50,89,90,50,50,65,66,50,89,90,0,50,89,90,0,0,0,0,50,65,66,0,0,50,0,0,50,0,0,4,4,4,0,7,4,4,0,6,3,3,0,7]) follows ?_;obtain⟨jo,g,hF⟩:=Rx g hF;refine wD hF gZ λeX hF=>?_
   refine wD hF gZ λfy hF=>?_
   refine wD hF zuF λLl hF=>?_
   refine wD hF gZ λiG hF=>?_
   refine wD hF oU λn9 hF=>?_
   refine wD hF eK λib hF=>?_
   refine wE hF gZ λtv hF=>?_
   refine wE hF oU λAp hF=>?_
   refine wE hF oU λt9 hF=>?_
   refine wK [1,6,8,11,14,15,16,17,24,25,26] ?_;refine wZ (kE [0,1,2,3,4,5,7,8,9,10,11,12,13,15,16,17,18,22,23,24,25,26,27,29,30,31,32,33,34,35,36,38,39,40,44,45,46,47,48,49,50,52,53,54,6,14,19,20,21,28,37,41,42,43,51,55,56,57,58,59] [50,49,50,0,0,0,50,50,49,50,0,0,0,50,65,66,0,50,49,50,0,0,0,50,50,49,50,0,0,0,0,50,0,0,50,50,0,0,0,0,0,50,0,0,4,4,4,0,7,4,4,4,0,7,3,3,0,6,0,7]) follows ?_;obtain⟨rY,g,hF⟩:=fj g 0 hF;obtain⟨kt,g,hF⟩:=fj g 1 hF;obtain⟨vj,g,hF⟩:=fj g 2 hF;obtain⟨Rm,g,hF⟩:=fj g 3 hF;refine wD hF eK λzR hF=>?_
   refine wD hF eK λBR hF=>?_
   refine wD hF oU λvf hF=>?_
   refine wD hF gZ λCl hF=>?_
   refine wD hF eK λDc hF=>?_
   refine wD hF eK λCB hF=>?_
   refine wD hF oU λKE hF=>?_
   refine wD hF gZ λwQ hF=>?_
   refine wE hF eK λyR hF=>?_
   refine wE hF oU λqr hF=>?_
   refine wE hF gZ λBC hF=>?_
   refine wK [6,8,11,14,15,16,17,26,27] ?_
   iterate 2 (try simp[go_sem,g];try intros;refine bh ?_)
   refine bX hF [6,14,15] (λxu=>[(26,.v (vD xu.1)),(27,.v (vD xu.2))]) (λxu hF=>?_) λ_ a45 hF=>?_
   ·try simp[go_sem,g]
    try intros
    refine wK [6,14,15,26,27,244,245,246] ?_;refine wS hF (λzl=>[]) (λzl hF=>?_) λ_ a4q a2t hF=>?_
    ·exact wl ai hF
    refine wB ?_;obtain⟨b90,a2b,a0K⟩:=hF;refine bU a2b [6,14,15,26,27,244,245] (λGk OL=>[(246,.v (.int .i64 Gk))]) (λOL _ a2f=>?_) λGk OL _ _ a0i a0m a3O a1R hF=>?_
    ·exact wn a2f (a4q _) a0K
    refine wW ?_;refine wu a0i a0m ?_;refine wW ?_;refine wB ?_;obtain⟨Er,g,hF⟩:=Rx g hF;refine wW ?_;refine wZ (kE [0,1,2,3,4,5,6,7,11,12,13,14,8,9,10,15] [50,0,0,0,0,50,0,0,0,0,0,0,4,0,7,0]) follows ?_;obtain⟨DP,g,hF⟩:=Rx g hF;obtain⟨pE,g,hF⟩:=Rx g hF;refine wD hF eK λuS hF=>?_
    refine wD hF gZ λou hF=>?_
    refine wK [6,14,15,26,27,244,245,246,266] ?_;refine wI hF (λh89 hF=>?_) λh89 hF=>?_
    ·cases a3O _ (aj hF);cases ai _ (a2t _ a0K);refine wW ?_;try simp[go_sem,g]
    refine wW ?_;exact wi a0i a0m (a1R _) (aj hF)
   refine wB ?_;obtain⟨b70,Uj,a4S⟩:=hF;refine bU Uj [6,14,15,16,17,209,210] (λxz ij=>[(26,.v (vD ij.1)),(27,.v (vD ij.2.1)),(28,.v (.int .i64 ij.2.2)),(211,.v (.int .i64 xz))]) (λij _ a2Y=>?_) λxz ij _ _ YF a09 a5T a3J hF=>?_
   ·exact wn a2Y (a45 _) a4S
   refine wW ?_;refine wu YF a09 ?_;refine wW ?_;refine wB ?_;obtain⟨xB,g,hF⟩:=Rx g hF;refine wK [6,14,15,16,17,26,27,28,29,30,209,210,211] ?_;obtain⟨g,hF⟩:=Rg g hF;refine wW ?_;refine wZ (kE [0,1,2,3,4,5,6,7,8,9,11,12,13,14,15,16,10,17,18,19,20,21,22] [0,50,50,49,50,0,0,0,0,0,50,0,0,0,0,0,4,3,0,6,0,5,0]) follows ?_;obtain⟨Mm,g,hF⟩:=Rx g hF;obtain⟨ql,g,hF⟩:=iA g hF;refine wD hF eK λCa hF=>?_
   refine wE hF eK λCg hF=>?_
   refine wE hF gZ λoh hF=>?_
   obtain⟨g,hF⟩:=Rg g hF;refine wK [6,14,15,16,17,26,27,30,209,210,211] ?_;refine wW ?_;exact wi YF a09 (a3J _) (aj hF)
  refine wB ?_;obtain⟨b23,Sm,a4w⟩:=hF;refine bU Sm [1,3,4,6,8,11,13,14,15,16,17,18,82,83] (λi16 qX=>[(19,.v (.int .i64 qX)),(84,.v (.int .i64 i16))]) (λqX _ Ry=>?_) λi16 qX _ _ zL a0M a5U a15 hF=>?_
  ·exact wn Ry (zh _) a4w
  refine wW ?_;refine wu zL a0M ?_;refine wW ?_;refine wB ?_;obtain⟨Fg,g,hF⟩:=Rx g hF;obtain⟨g,hF⟩:=Rz g hF;refine wW ?_;refine wK [1,3,4,6,8,11,13,14,15,16,17,18,19,82,83,84] ?_;exact wi zL a0M (a15 _) (aj hF)
 refine wZ (kD 0 [0,0,0,0,0,50,0,90,3,0,0,0,89,89,90,0,0,50,0,0,0,90,4,0,0]) follows ?_;try simp[go_sem,g]
 try intros
 refine wH hF (λh4 hF=>?_) λh4 hF=>?_
 ·exact wV h4 (ao _) (aj hF)
 try simp[go_sem,g,h4]
 refine wE hF zrE λz5 hF=>?_
 try simp[go_sem,g,h4]
 refine wH hF (λh6 hF=>?_) λh6 hF=>?_
 ·exact wV h6 (ao _) (aj hF)
 obtain⟨x7,g,hF⟩:=fj g 0 hF;try simp[go_sem,g,h6]
 refine wD hF zkh λz8 hF=>?_
 exact wV h6 (ao _) (aj hF)
def G4(a0:an)(a1:Int)(a2:List aq)(a3:List aq)(a4:cM):Option (Bool×Bool):=
 (((qw a0 a1 a2).bind λz4=>
 if(!z4)=Z then(
 J Z)else(
 (qw a0 a1 a3).bind λz6=>
 J (!z6)):Option Bool).bind λx3=>
 if x3=Z then(
 J (aa,aa))else(
 (p8 a0 (a2.length:Int)).bind λz8=>
 if(!z8.2)=Z then(
 J (aa,aa))else(
 (IV a0 a1 z8.1 a2 a3 a4).bind λbF=>
 J (bF,Z))))
def zm9{a0 a1 a2 a3 a4 r}(hr:G4 a0 a1 a2 a3 a4=J r):au Tryz.prog 104 [(.sh,vE a0),(.sh,.int .i64 a1),(.sh,vH a2),(.sh,vH a3),(.sh,vL a4)] (Eo (.bS [.bool r.1,.bool r.2]) rU):=by
 apply pF 42 [] [] [] [.tmp 10,.tmp 11] hr zIo Tryz.func104;intro Φ ai hF g;unfold G4 at hF;refine wW ?_;refine bX hF [1,2,3,5,9] (λx3=>[(25,.v (.bool x3))]) (λx3 hF=>?_) λ_ ao hF=>?_
 ·refine wI hF (λh7 hF=>?_) λh7 hF=>?_
  ·exact wl ai hF
  try simp[go_sem,g]
  try intros
  refine bh ?_;try simp[go_sem,g]
  try intros
  refine wE hF Pb λz8 hF=>?_
  refine wK [1,2,3,5,9,12,13] ?_;refine wW ?_;refine wI hF (λh9 hF=>?_) λh9 hF=>?_
  ·exact wl ai hF
  refine wW ?_;refine wE hF zqE λbF hF=>?_
  refine wK [10,11] ?_;exact wm ai hF
 refine wE hF B4 λz4 hF=>?_
 refine wG hF (λh5 hF=>?_) λh5 hF=>?_
 ·exact wV h5 (ao _) (aj hF)
 try simp[go_sem,g,h5]
 refine wE hF B4 λz6 hF=>?_
 exact wV h5 (ao _) (aj hF)
def Gf(a0:cb):Option Bool:=
 J ((i64.wrap ((i64.wrap ((a0.aE.length:Int)+(a0.aW.length:Int)))+(a0.aG.length:Int)))==0)
def XX{a0 r}(hr:Gf a0=J r):au Tryz.prog 167 [(.sh,vS a0)] (Eo (.bool r) [.ax]):=by
 apply pF 15 [] [] [] [.tmp 2] hr zH4 Tryz.func167;intro Φ ai hF g;unfold Gf at hF;try simp[go_sem,g]
 try intros
 refine bh ?_;try simp[go_sem,g]
 try intros
 refine wK [2] ?_;exact wm ai hF
def LN(a0:ct):Option Bool:=
 ((if((i64.wrap ((i64.wrap ((a0.bV.length:Int)+(a0.bM.length:Int)))+(a0.aH.length:Int)))==0)=Z then(
 (Gf a0.Pi).bind λz5=>
 J z5)else(
 J aa):Option Bool).bind λx3=>
 J x3)
def zq5{a0 r}(hr:LN a0=J r):au Tryz.prog 105 [(.sh,vM a0)] (Eo (.bool r) [.ax]):=by
 apply pF 20 [] [] [] [.tmp 2] hr zFC Tryz.func105;intro Φ ai hF g;unfold LN at hF;refine wW ?_;refine wJ hF (λx3=>[(2,.v (.bool x3))]) (λx3 hF=>?_) λ_ ao hF=>?_
 ·exact wm ai hF
 try simp[go_sem,g]
 try intros
 refine wG hF (λh4 hF=>?_) λh4 hF=>?_
 ·try simp[go_sem,g,h4]
  refine wE hF XX λz5 hF=>?_
  exact wV h4 (ao _) (aj hF)
 exact wV h4 (ao _) (aj hF)
def Je(a0:an)(a1:Int)(a2:ct):Option Bool:=
 ((if((a2.bV.length:Int)==a1)=Z then(
 if((a2.bM.length:Int)==a1)=Z then(
 if((a2.aH.length:Int)==a1)=Z then(
 if((a2.Pi.aE.length:Int)==(i64.wrap ((i64.wrap (3*a1))+3)))=Z then(
 if((a2.Pi.aW.length:Int)==1)=Z then(
 if((a2.Pi.aG.length:Int)==(i64.wrap ((i64.wrap (5*a1))+2)))=Z then(
 (qF a0 a2.bV).bind λbF=>
 if bF=Z then(
 (qF a0 a2.bM).bind λbr=>
 if br=Z then(
 (qF a0 a2.aH).bind λdK=>
 if dK=Z then(
 (qF a0 a2.Pi.aE).bind λiW=>
 if iW=Z then(
 (sO a0 a2.Pi.aG).bind λfe=>
 J fe)else(
 J aa))else(
 J aa))else(
 J aa))else(
 J aa))else(
 J aa))else(
 J aa))else(
 J aa))else(
 J aa))else(
 J aa))else(
 J aa):Option Bool).bind λx3=>
 J x3)
def zrQ{a0 a1 a2 r}(hr:Je a0 a1 a2=J r):au Tryz.prog 207 [(.sh,vE a0),(.sh,.int .i64 a1),(.sh,vM a2)] (Eo (.bool r) gH):=by
 apply pF 85 [] [] [] [.tmp 6] hr zE0 Tryz.func207;intro Φ ai hF g;unfold Je at hF;refine wW ?_;refine wJ hF (λx3=>[(6,.v (.bool x3))]) (λx3 hF=>?_) λ_ ao hF=>?_
 ·exact wm ai hF
 try simp[go_sem,g]
 try intros
 refine wG hF (λh4 hF=>?_) λh4 hF=>?_
 ·try simp[go_sem,g,h4]
  try intros
  refine wG hF (λh5 hF=>?_) λh5 hF=>?_
  ·try simp[go_sem,g,h5]
   try intros
   refine wG hF (λh6 hF=>?_) λh6 hF=>?_
   ·try simp[go_sem,g,h6]
    try intros
    refine wG hF (λh7 hF=>?_) λh7 hF=>?_
    ·try simp[go_sem,g,h7]
     try intros
     refine wG hF (λh8 hF=>?_) λh8 hF=>?_
     ·try simp[go_sem,g,h8]
      try intros
      refine wG hF (λh9 hF=>?_) λh9 hF=>?_
      ·try simp[go_sem,g,h9]
       refine wE hF yD λbF hF=>?_
       try simp[go_sem,g,h9]
       refine wG hF (λeQ hF=>?_) λeQ hF=>?_
       ·try simp[go_sem,g,eQ]
        refine wE hF yD λbr hF=>?_
        try simp[go_sem,g,eQ]
        refine wG hF (λcZ hF=>?_) λcZ hF=>?_
        ·try simp[go_sem,g,cZ]
         refine wE hF yD λdK hF=>?_
         try simp[go_sem,g,cZ]
         refine wG hF (λiT hF=>?_) λiT hF=>?_
         ·try simp[go_sem,g,iT]
          refine wE hF yD λiW hF=>?_
          try simp[go_sem,g,iT]
          refine wG hF (λiH hF=>?_) λiH hF=>?_
          ·try simp[go_sem,g,iH]
           refine wE hF Ep λfe hF=>?_
           exact wV iH (ao _) (aj hF)
          exact wV iH (ao _) (aj hF)
         exact wV iT (ao _) (aj hF)
        exact wV cZ (ao _) (aj hF)
       exact wV eQ (ao _) (aj hF)
      exact wV h9 (ao _) (aj hF)
     exact wV h8 (ao _) (aj hF)
    exact wV h7 (ao _) (aj hF)
   exact wV h6 (ao _) (aj hF)
  exact wV h5 (ao _) (aj hF)
 exact wV h4 (ao _) (aj hF)
def Kl(a0:Int)(a1:Int)(a2:Int)(a3:Int)(a4:Int):Option Int:=
 gd (a0≠0)<|
 ((dP (σ:=Int×Int×Int) (λs4=>
 if decide (s4.2.2<=a1)=Z then(
 gd (a0≠0)<|
 gd (a0≠0)<|
 (rO (i64.wrap ((i64.wrap ((i64.wrap (a3*(s4.2.2.tmod a0)))+((i64.wrap (s4.2.1*a2)).tmod a0)))-a4)) a0).bind λbF=>
 gd (a0≠0)<|
 J (.go ((i64.wrap (s4.1*bF)).tmod a0,(i64.wrap (s4.2.1*a2)).tmod a0,i64.wrap (s4.2.2+1))))else(
 J (.out s4.1))) ((1:Int).tmod a0,1,1):Option Int).bind λx3=>
 J x3)
def zqI{a0 a1 a2 a3 a4 r}(hr:Kl a0 a1 a2 a3 a4=J r):au Tryz.prog 208 [(.sh,.int .i64 a0),(.sh,.int .i64 a1),(.sh,.int .i64 a2),(.sh,.int .i64 a3),(.sh,.int .i64 a4)] (Eo (.int .i64 r) rU):=by
 apply pF 42 [] [] [] [.tmp 10] hr zFO Tryz.func208;intro Φ ai hF g;unfold Kl at hF;obtain⟨g,hF⟩:=Rz g hF
 iterate 3 refine wW ?_
 refine wJ hF (λx3=>[(11,.v (.int .i64 x3))]) (λx3 hF=>?_) λ_ ao hF=>?_
 ·exact wl ai hF
 refine wB ?_;obtain⟨MS,yv,bo⟩:=hF;refine jW yv [0,1,2,3,4] (λs4=>[(11,.v (.int .i64 s4.1)),(12,.v (.int .i64 s4.2.1)),(13,.v (.int .i64 s4.2.2))]) λs4 _ _ b8 bD hF=>?_
 refine wW ?_;refine wI hF (λh9 hF=>?_) λh9 hF=>?_
 ·refine wW ?_;refine wB ?_;obtain⟨g,hF⟩:=Rz g hF;refine wK [0,1,2,3,4,11,12,13] ?_;obtain⟨g,hF⟩:=Rz g hF;refine wE hF ID λbF hF=>?_
  obtain⟨g,hF⟩:=Rz g hF;refine wK [0,1,2,3,4,11,12,13] ?_;exact wT (bD _) (aj hF)
 cases b8 _ (aj hF);exact wT (ao _) bo
def Ho(a0:an)(a1:Int)(a2:Int):Option ((List Int)):=
 ((dP (σ:=(List Int)×Int) (λs4=>
 if decide (s4.2<=a1)=Z then(
 (l6 a2 s4.2 a0.Q).bind λbF=>
 gd ((s4.1.length+1)*8<=140737488355328/\s4.1.length+1<=4611686018427387904)<|
 J (.go (s4.1++[bF],i64.wrap (s4.2+1))))else(
 J (.out s4.1))) ([],1):Option ((List Int))).bind λx3=>
 J x3)
def zn4{a0 a1 a2 r}(hr:Ho a0 a1 a2=J r):au Tryz.prog 209 [(.sh,vE a0),(.sh,.int .i64 a1),(.sh,.int .i64 a2)] (Eo (vD r) gH):=by
 apply pF 23 [] [] [] [.tmp 6] hr zFN Tryz.func209;intro Φ ai hF g;unfold Ho at hF
 iterate 3 refine wW ?_
 refine wJ hF (λx3=>[(7,.v (vD x3))]) (λx3 hF=>?_) λ_ ao hF=>?_
 ·exact wl ai hF
 refine wB ?_;obtain⟨MS,yv,bo⟩:=hF;refine jW yv [1,2,3] (λs4=>[(7,.v (vD s4.1)),(8,.v (.int .i64 s4.2))]) λs4 _ _ b8 bD hF=>?_
 refine wW ?_;refine wI hF (λh9 hF=>?_) λh9 hF=>?_
 ·refine wW ?_;refine wB ?_;refine wE hF yp λbF hF=>?_
  obtain⟨g,hF⟩:=Rg g hF;refine wK [1,2,3,7,8] ?_;exact wT (bD _) (aj hF)
 cases b8 _ (aj hF);exact wT (ao _) bo
def Dk(a0:an)(a1:Int)(a2:Int)(a3:List aq)(a4:List aq)(a5:ct):Option Bool:=
 ((if((a4.length:Int) !=(a3.length:Int))=Z then(
 J Z)else(
 (Je a0 (a3.length:Int) a5).bind λz5=>
 if(!z5)=Z then(
 J Z)else(
 (ix a5.Pi.aW 0).bind λx7=>
 (zG a0 a1 a3 a4 a5).bind λz8=>
 J (x7 !=z8))):Option Bool).bind λx3=>
 if x3=Z then(
 J aa)else(
 (ix a5.Pi.aW 0).bind λd9=>
 (sC a1 a3 a4 a5.bV).bind λbQ=>
 (qc a0 (⟨#[109,105,120,32,120]⟩:ByteArray) bQ).bind λbr=>
 (Av a0 a1 a3 a4 a5.bV a5.bM).bind λcN=>
 gd (0<=(i64.wrap ((i64.wrap (3*(a3.length:Int)))+1)))<|
 gd (0<=(i64.wrap ((i64.wrap (4*(a3.length:Int)))+1)))<|
 gd ((i64.wrap ((i64.wrap (3*(a3.length:Int)))+1)).toNat<=(i64.wrap ((i64.wrap (4*(a3.length:Int)))+1)).toNat/\(i64.wrap ((i64.wrap (4*(a3.length:Int)))+1)).toNat<=a5.Pi.aG.length)<|
 (ix a5.Pi.aG (i64.wrap ((i64.wrap (5*(a3.length:Int)))+1))).bind λfb=>
 ((dP (σ:=(List Int)×List Int×Int) (λfG=>
 if decide (fG.2.2<(a3.length:Int))=Z then(
 (ix a5.bV fG.2.2).bind λC1=>
 (ix a5.bM fG.2.2).bind λri=>
 (cH a0 C1 cN.1).bind λiR=>
 (cH a0 a0.G (i64.wrap (0-cN.2))).bind λmB=>
 (ej a0 [iR,ri,mB]).bind λfL=>
 gd ((fG.1.length+1)*8<=140737488355328/\fG.1.length+1<=4611686018427387904)<|
 (ix a5.Pi.aG fG.2.2).bind λjo=>
 (ix a5.Pi.aG (i64.wrap ((a3.length:Int)+fG.2.2))).bind λC7=>
 (nZ a0 a2 jo C7).bind λfy=>
 gd ((fG.2.1.length+1)*8<=140737488355328/\fG.2.1.length+1<=4611686018427387904)<|
 J (.go (fG.1++[fL],fG.2.1++[fy],i64.wrap (fG.2.2+1))))else(
 J (.out (fG.1,fG.2.1)))) ([],[],0):Option ((List Int×List Int))).bind λbJ=>
 ((dP (σ:=(List Int)×List Int×Int×Int) (λft=>
 if decide (ft.2.2.2<(a3.length:Int))=Z then(
 (ix a5.aH ft.2.2.2).bind λtC=>
 gd ((ft.1.length+1)*8<=140737488355328/\ft.1.length+1<=4611686018427387904)<|
 (ix a5.Pi.aG ft.2.2.2).bind λyM=>
 (ix a5.Pi.aG (i64.wrap ((i64.wrap (2*(a3.length:Int)))+ft.2.2.2))).bind λAM=>
 (cH a0 ft.2.2.1 yM).bind λCl=>
 (cH a0 a2 AM).bind λDc=>
 (ej a0 [Cl,Dc]).bind λCB=>
 gd ((ft.2.1.length+1)*8<=140737488355328/\ft.2.1.length+1<=4611686018427387904)<|
 J (.go (ft.1++[tC],ft.2.1++[CB],tC,i64.wrap (ft.2.2.2+1))))else(
 J (.out (ft.1,ft.2.1)))) (bJ.1,bJ.2,a0.G,0):Option ((List Int×List Int))).bind λni=>
 (ix a5.aH (i64.wrap ((a3.length:Int)-1))).bind λWK=>
 (Kl a0.Q (a3.length:Int) br cN.1 cN.2).bind λqr=>
 (cH a0 a0.G (i64.wrap (0-qr))).bind λBC=>
 (ej a0 [WK,BC]).bind λZR=>
 gd ((ni.1.length+1)*8<=140737488355328/\ni.1.length+1<=4611686018427387904)<|
 (ix a5.Pi.aG (i64.wrap (3*(a3.length:Int)))).bind λiB=>
 (cH a0 a2 iB).bind λz56=>
 gd ((ni.2.length+1)*8<=140737488355328/\ni.2.length+1<=4611686018427387904)<|
 ((dP (σ:=(List Int)×List Int×Int) (λga=>
 if decide (ga.2.2<(a3.length:Int))=Z then(
 (ix a5.bM ga.2.2).bind λql=>
 gd ((ga.1.length+1)*8<=140737488355328/\ga.1.length+1<=4611686018427387904)<|
 (ix ((a5.Pi.aG.take ((i64.wrap ((i64.wrap (4*(a3.length:Int)))+1)).toNat)).drop ((i64.wrap ((i64.wrap (3*(a3.length:Int)))+1)).toNat)) ga.2.2).bind λOQ=>
 (ix a5.Pi.aG (i64.wrap ((i64.wrap ((i64.wrap (4*(a3.length:Int)))+1))+ga.2.2))).bind λGm=>
 (nZ a0 a2 OQ Gm).bind λoh=>
 gd ((ga.2.1.length+1)*8<=140737488355328/\ga.2.1.length+1<=4611686018427387904)<|
 J (.go (ga.1++[ql],ga.2.1++[oh],i64.wrap (ga.2.2+1))))else(
 J (.out (ga.1,ga.2.1)))) (ni.1++[ZR],ni.2++[z56],0):Option ((List Int×List Int))).bind λoH=>
 (xv a3).bind λoj=>
 (xv a4).bind λqe=>
 (Ho a0 (a3.length:Int) br).bind λtR=>
 (lR a0 oj.1 tR).bind λAP=>
 (Ho a0 (a3.length:Int) br).bind λHW=>
 (lR a0 oj.2 HW).bind λXE=>
 gd ((oH.1.length+2)*8<=140737488355328/\oH.1.length+2<=4611686018427387904)<|
 (cH a0 a0.G (i64.wrap (0-fb))).bind λDj=>
 (lR a0 qe.1 ((a5.Pi.aG.take ((i64.wrap ((i64.wrap (4*(a3.length:Int)))+1)).toNat)).drop ((i64.wrap ((i64.wrap (3*(a3.length:Int)))+1)).toNat))).bind λDD=>
 (ej a0 [Dj,DD]).bind λwU=>
 (cH a0 a1 (i64.wrap (0-fb))).bind λnq=>
 (lR a0 qe.2 ((a5.Pi.aG.take ((i64.wrap ((i64.wrap (4*(a3.length:Int)))+1)).toNat)).drop ((i64.wrap ((i64.wrap (3*(a3.length:Int)))+1)).toNat))).bind λCv=>
 (ej a0 [nq,Cv]).bind λJz=>
 gd ((oH.2.length+2)*8<=140737488355328/\oH.2.length+2<=4611686018427387904)<|
 ((aU (σ:=(List Int)×List Int) (λww nR=>
 (ix a5.Pi.aE ww).bind λDy=>
 (ix nR.1 ww).bind λPk=>
 (ix nR.2 ww).bind λOT=>
 (cH a0 Pk d9).bind λC9=>
 (ej a0 [Dy,C9]).bind λN5=>
 if(N5 !=OT)=Z then(
 J (.out (.inr aa)))else(
 J (.go (nR.1,nR.2)))) (λnR=>.inl ()) (a5.Pi.aE.length) 0 (oH.1++[AP,XE],oH.2++[wU,Jz]):Option (Unit ⊕ Bool)).bind (Sum.elim (λpE=>
 J Z) J)))))))
set_option maxHeartbeats 1000000 in
def zqC{a0 a1 a2 a3 a4 a5 r}(hr:Dk a0 a1 a2 a3 a4 a5=J r):au Tryz.prog 168 [(.sh,vE a0),(.sh,.int .i64 a1),(.sh,.int .i64 a2),(.sh,vH a3),(.sh,vH a4),(.sh,vM a5)] (Eo (.bool r) sH):=by
 apply pF 338 [] [] [] [.tmp 12] hr zHa Tryz.func168;intro Φ ai hF g;unfold Dk at hF
 iterate 2 (try simp[go_sem,g];try intros;refine bh ?_)
 refine bX hF [1,2,3,4,6,11,13] (λx3=>[(59,.v (.bool x3))]) (λx3 hF=>?_) λ_ ao hF=>?_
 ·refine wI hF (λh9 hF=>?_) λh9 hF=>?_
  ·exact wl ai hF
  obtain⟨d9,g,hF⟩:=fj g 0 hF;refine wW ?_;refine wK [1,2,3,4,6,11,13,14] ?_;refine wW ?_;refine wZ (kD 0 [50,0,0,0,89,90,3,3,0]) follows ?_;refine wE hF Gx λbQ hF=>?_
  refine wE hF Cc λbr hF=>?_
  refine wK [1,2,3,4,6,11,13,14,15,16] ?_;refine wE hF zmh λcN hF=>?_
  refine wK [1,2,3,4,6,11,13,14,15,16,17,18] ?_
  iterate 3 obtain⟨g,hF⟩:=Rg g hF
  obtain⟨fb,g,hF⟩:=Rx g hF;refine wW ?_;refine wK [1,2,3,4,6,11,13,14,15,16,17,18,19,20] ?_
  iterate 2 refine wW ?_
  refine bX hF [1,2,3,4,6,11,13,14,15,16,17,18,19,20] (λbJ=>[(21,.v (vD bJ.1)),(22,.v (vD bJ.2))]) (λbJ hF=>?_) λ_ wR hF=>?_
  ·iterate 2 refine wW ?_
   refine bX hF [1,2,3,4,6,11,13,14,15,16,17,18,19,20] (λni=>[(21,.v (vD ni.1)),(22,.v (vD ni.2))]) (λni hF=>?_) λ_ Fz hF=>?_
   ·refine wZ (kD 0 [0,50,89,90,0,0,0,0,50,49,50,49,50,0,0,0,0,4,0,4,0,6,0,5,0]) follows ?_;obtain⟨WK,g,hF⟩:=Rx g hF;refine wD hF zqI λqr hF=>?_
    refine wD hF eK λBC hF=>?_
    refine wE hF gZ λZR hF=>?_
    obtain⟨g,hF⟩:=Rg g hF;refine wK [1,2,3,4,6,11,13,14,15,16,19,20,21,22] ?_;refine wZ (kD 0 [0,50,0,0,0,0,0,0,3,0,5,0]) follows ?_;obtain⟨iB,g,hF⟩:=Rx g hF;refine wE hF eK λz56 hF=>?_
    obtain⟨g,hF⟩:=Rg g hF;refine wK [1,2,3,4,6,11,13,14,15,16,19,20,21,22] ?_;refine wW ?_;refine bX hF [1,3,4,6,11,13,14,16,19,20] (λoH=>[(21,.v (vD oH.1)),(22,.v (vD oH.2))]) (λoH hF=>?_) λ_ a3v hF=>?_
    ·refine wE hF FA λoj hF=>?_
     refine wW ?_;refine wE hF FA λqe hF=>?_
     refine wK [1,6,11,13,14,16,19,20,21,22,27,28,29,30] ?_;refine wZ (kE [0,1,2,3,4,5,8,9,10,11,12,6,7,13,14,15,16,17] [0,50,0,50,0,0,50,0,50,0,0,3,3,3,3,0,5,0]) follows ?_;refine wE hF zn4 λtR hF=>?_
     refine wE hF oU λAP hF=>?_
     refine wE hF zn4 λHW hF=>?_
     refine wE hF oU λXE hF=>?_
     obtain⟨g,hF⟩:=Rg g hF;refine wK [1,6,11,14,19,20,21,22,29,30] ?_;refine wZ (kE [0,1,2,3,4,5,6,8,9,10,14,15,16,17,18,20,21,22,7,11,12,13,19,23,24,25,26,27,28] [0,50,50,49,50,0,0,50,0,0,50,50,0,0,0,50,0,0,3,3,0,6,3,3,0,6,0,5,0]) follows ?_;refine wE hF eK λDj hF=>?_
     refine wE hF oU λDD hF=>?_
     refine wE hF gZ λwU hF=>?_
     refine wE hF eK λnq hF=>?_
     refine wE hF oU λCv hF=>?_
     refine wE hF gZ λJz hF=>?_
     obtain⟨g,hF⟩:=Rg g hF;refine wK [6,11,14,21,22] ?_;try simp[go_sem,g]
     try intros
     refine bh ?_;refine wS hF (λpE=>[]) (λpE hF=>?_) λ_ a3u a3o hF=>?_
     ·exact wl ai hF
     refine wB ?_;obtain⟨a5S,a2q,Xj⟩:=hF;refine bU a2q [6,14,314,315] (λww nR=>[(21,.v (vD nR.1)),(22,.v (vD nR.2)),(316,.v (.int .i64 ww))]) (λnR _ a2v=>?_) λww nR _ _ H7 Zs a2o a4s hF=>?_
     ·exact wn a2v (a3u _) Xj
     refine wW ?_;refine wu H7 Zs ?_;refine wW ?_;refine wB ?_;obtain⟨Dy,g,hF⟩:=Rx g hF;refine wK [6,14,21,22,31,32,314,315,316] ?_;refine wZ (kE [0,1,2,3,4,5,6,7,11,12,13,14,8,9,10,15] [50,0,50,0,0,0,0,0,0,0,0,0,4,0,7,0]) follows ?_;obtain⟨Pk,g,hF⟩:=Rx g hF;obtain⟨OT,g,hF⟩:=Rx g hF;refine wD hF eK λC9 hF=>?_
     refine wD hF gZ λN5 hF=>?_
     refine wK [6,14,21,22,314,315,316,336] ?_;refine wI hF (λa2k hF=>?_) λa2k hF=>?_
     ·cases a2o _ (aj hF);cases ai _ (a3o _ Xj);refine wW ?_;try simp[go_sem,g]
     refine wW ?_;exact wi H7 Zs (a4s _) (aj hF)
    refine wB ?_;obtain⟨b70,Uj,a41⟩:=hF;refine jW Uj [1,2,3,4,6,11,13,14,15,16,19,20] (λga=>[(21,.v (vD ga.1)),(22,.v (vD ga.2.1)),(26,.v (.int .i64 ga.2.2))]) λga _ _ a4h a3K hF=>?_
    refine wW ?_;refine wI hF (λh65 hF=>?_) λh65 hF=>?_
    ·refine wW ?_;refine wB ?_;obtain⟨ql,g,hF⟩:=Rx g hF;obtain⟨g,hF⟩:=Rg g hF;refine wK [1,2,3,4,6,11,13,14,15,16,19,20,21,22,26] ?_;refine wZ (kD 0 [0,50,0,0,0,0,0,0,0,0,0,0,0,0,0,3,0,5,0]) follows ?_;obtain⟨OQ,g,hF⟩:=iA g hF;obtain⟨Gm,g,hF⟩:=Rx g hF;refine wE hF Dh λoh hF=>?_
     obtain⟨g,hF⟩:=Rg g hF;refine wK [1,2,3,4,6,11,13,14,15,16,19,20,21,22,26] ?_;exact wT (a3K _) (aj hF)
    cases a4h _ (aj hF);exact wT (a3v _) a41
   refine wB ?_;obtain⟨b49,a42,a2w⟩:=hF;refine jW a42 [1,2,3,4,6,11,13,14,15,16,17,18,19,20] (λft=>[(21,.v (vD ft.1)),(22,.v (vD ft.2.1)),(24,.v (.int .i64 ft.2.2.1)),(25,.v (.int .i64 ft.2.2.2))]) λft _ _ a3y a2N hF=>?_
   refine wK [1,2,3,4,6,11,13,14,15,16,17,18,19,20,21,22,24,25,152] ?_;refine wI hF (λh42 hF=>?_) λh42 hF=>?_
   ·refine wW ?_;refine wB ?_;obtain⟨tC,g,hF⟩:=Rx g hF;obtain⟨g,hF⟩:=Rg g hF;refine wW ?_;refine wZ (kE [0,1,2,3,4,5,6,7,9,10,11,12,13,14,15,16,17,8,18,19,20,21,22,23] [0,50,50,0,0,0,0,0,50,0,0,0,0,0,0,0,0,4,3,0,6,0,5,0]) follows ?_;obtain⟨yM,g,hF⟩:=Rx g hF;obtain⟨AM,g,hF⟩:=Rx g hF;refine wD hF eK λCl hF=>?_
    refine wE hF eK λDc hF=>?_
    refine wE hF gZ λCB hF=>?_
    obtain⟨g,hF⟩:=Rg g hF;refine wK [1,2,3,4,6,11,13,14,15,16,17,18,19,20,21,22,25] ?_;refine wW ?_;exact wT (a2N _) (aj hF)
   cases a3y _ (aj hF);exact wT (Fz _) a2w
  refine wB ?_;obtain⟨b32,UH,a49⟩:=hF;refine jW UH [1,2,3,4,6,11,13,14,15,16,17,18,19,20] (λfG=>[(21,.v (vD fG.1)),(22,.v (vD fG.2.1)),(23,.v (.int .i64 fG.2.2))]) λfG _ _ a4y a2s hF=>?_
  refine wW ?_;refine wI hF (λIr hF=>?_) λIr hF=>?_
  ·refine wW ?_;refine wB ?_;refine wZ (kE [0,1,2,3,4,5,6,7,8,10,11,12,13,14,15,16,17,18,19,9,20,21,22,23,24,25] [0,50,50,89,90,0,0,0,0,89,90,0,0,0,50,49,50,0,0,4,4,0,6,0,5,0]) follows ?_;obtain⟨C1,g,hF⟩:=Rx g hF;obtain⟨ri,g,hF⟩:=Rx g hF;refine wD hF eK λiR hF=>?_
   refine wD hF eK λmB hF=>?_
   refine wE hF gZ λfL hF=>?_
   obtain⟨g,hF⟩:=Rg g hF;refine wK [1,2,3,4,6,11,13,14,15,16,17,18,19,20,21,22,23] ?_;refine wZ (kD 0 [0,50,0,0,0,0,0,0,0,0,0,0,0,3,0,5,0]) follows ?_;obtain⟨jo,g,hF⟩:=Rx g hF;obtain⟨C7,g,hF⟩:=Rx g hF;refine wE hF Dh λfy hF=>?_
   obtain⟨g,hF⟩:=Rg g hF;refine wK [1,2,3,4,6,11,13,14,15,16,17,18,19,20,21,22,23] ?_;exact wT (a2s _) (aj hF)
  cases a4y _ (aj hF);exact wT (wR _) a49
 refine wZ (kD 0 [0,0,0,0,0,50,0,90,3,0,0,0,89,89,90,0,0,50,0,0,0,90,4,0,0]) follows ?_;try simp[go_sem,g]
 try intros
 refine wH hF (λh4 hF=>?_) λh4 hF=>?_
 ·exact wV h4 (ao _) (aj hF)
 try simp[go_sem,g,h4]
 refine wE hF zrQ λz5 hF=>?_
 try simp[go_sem,g,h4]
 refine wH hF (λh6 hF=>?_) λh6 hF=>?_
 ·exact wV h6 (ao _) (aj hF)
 obtain⟨x7,g,hF⟩:=fj g 0 hF;try simp[go_sem,g,h6]
 refine wD hF YD λz8 hF=>?_
 exact wV h6 (ao _) (aj hF)
def Fj(a0:an)(a1:Int)(a2:List aq)(a3:List aq)(a4:ct):Option (Bool×Bool):=
 (((qw a0 a1 a2).bind λz4=>
 if(!z4)=Z then(
 J Z)else(
 (qw a0 a1 a3).bind λz6=>
 J (!z6)):Option Bool).bind λx3=>
 if x3=Z then(
 J (aa,aa))else(
 (GL a0).bind λz8=>
 if(!z8.2)=Z then(
 J (aa,aa))else(
 (Dk a0 a1 z8.1 a2 a3 a4).bind λbF=>
 J (bF,Z))))
def zoE{a0 a1 a2 a3 a4 r}(hr:Fj a0 a1 a2 a3 a4=J r):au Tryz.prog 106 [(.sh,vE a0),(.sh,.int .i64 a1),(.sh,vH a2),(.sh,vH a3),(.sh,vM a4)] (Eo (.bS [.bool r.1,.bool r.2]) rU):=by
 apply pF 40 [] [] [] [.tmp 10,.tmp 11] hr zHw Tryz.func106;intro Φ ai hF g;unfold Fj at hF;refine wW ?_;refine bX hF [1,2,3,5,9] (λx3=>[(25,.v (.bool x3))]) (λx3 hF=>?_) λ_ ao hF=>?_
 ·refine wI hF (λh7 hF=>?_) λh7 hF=>?_
  ·exact wl ai hF
  refine wW ?_;refine wE hF znW λz8 hF=>?_
  refine wK [1,2,3,5,9,12,13] ?_;refine wW ?_;refine wI hF (λh9 hF=>?_) λh9 hF=>?_
  ·exact wl ai hF
  refine wW ?_;refine wE hF zqC λbF hF=>?_
  refine wK [10,11] ?_;exact wm ai hF
 refine wE hF B4 λz4 hF=>?_
 refine wG hF (λh5 hF=>?_) λh5 hF=>?_
 ·exact wV h5 (ao _) (aj hF)
 try simp[go_sem,g,h5]
 refine wE hF B4 λz6 hF=>?_
 exact wV h5 (ao _) (aj hF)
def K0(a0:cM):Option Bool:=
 ((if((i64.wrap ((a0.cy.length:Int)+(a0.aH.length:Int)))==0)=Z then(
 (Gf a0.Pi).bind λz5=>
 J z5)else(
 J aa):Option Bool).bind λx3=>
 J x3)
end
end Go.Pm
