/-
  Plain functions and their walks. Written by wip/tools/lift.py.
-/
import Derived.Test.YtekoabfndgochaaGreatDoorM45
namespace Go.Pm
open Go.Am IntKind
open Go.Proofs
set_option maxRecDepth 100000
attribute [local irreducible] pw pwx pw1 pwg qv qz qf
attribute [-simp] List.map_set
set_option linter.unusedSimpArgs false
set_option linter.unusedVariables false
noncomputable section
def zdt(a0:Group)(a1:ByteArray)(a2:List EqualLog)(a3:Int)(a4:Int)(a5:List Int):Option (Proof×Bool):=
 (((zcl a0).bind fun z4=>
 if(!z4)=true then(
 some true)else(
 (zd1 a1).bind fun z6=>
 if(!z6)=true then(
 some true)else(
 (zcF a0 a2).bind fun z8=>
 if(!z8)=true then(
 some true)else(
 (zaD a3 0 (i64.wrap ((a2.length:Int)-1))).bind fun z10=>
 if(!z10)=true then(
 some true)else(
 (zc8 a0 a4).bind fun z12=>
 if(!z12)=true then(
 some true)else(
 if((a5.length:Int) !=(i64.wrap ((i64.wrap (2*(a2.length:Int)))-1)))=true then(
 some true)else(
 (zaM a0 a5).bind fun z15=>
 if(!z15)=true then(
 some true)else(
 (ix a2 a3).bind fun x17=>
 (zeM a0 x17 a4).bind fun z18=>
 some (!z18)))))))):Option Bool).bind fun x3=>
 if x3=true then(
 some ((Proof.mk [] [] []),false))else(
 (ix a5 (i64.wrap ((a5.length:Int)-1))).bind fun x20=>
 ((zar (σ:=(List Int)×List Int×List Int×Int) (fun i42 s41=>
 (ix a2 i42).bind fun x48=>
 ((if(i42==a3)=true then(
 (zav a0 x48.G1 x20).bind fun z53=>
 (zav a0 x48.G2 x20).bind fun z54=>
 some (s41.2.2.2,0,0,z53,z54))else(
 (ix a5 s41.2.2.2).bind fun x55=>
 (ix a5 (i64.wrap (s41.2.2.2+1))).bind fun x56=>
 (zce a0 x48 x55 x56).bind fun z57=>
 some (i64.wrap (s41.2.2.2+2),x55,x56,z57.1,z57.2)):Option ((Int×Int×Int×Int×Int))).bind fun x51=>
 gd ((s41.1.length+2)*8≤140737488355328∧s41.1.length+2≤4611686018427387904)<|
 gd ((s41.2.1.length+1)*8≤140737488355328∧s41.2.1.length+1≤4611686018427387904)<|
 gd ((s41.2.2.1.length+1)*8≤140737488355328∧s41.2.2.1.length+1≤4611686018427387904)<|
 some (.go (s41.1++[x51.2.2.2.1,x51.2.2.2.2],s41.2.1++[x51.2.1],s41.2.2.1++[x51.2.2.1],x51.1)))) (fun s41=>(s41.1,s41.2.1,s41.2.2.1)) (a2.length) 0 ([],[],[],0):Option ((List Int×List Int×List Int))).bind fun x23=>
 (zbb a0 a1 a2 x23.1).bind fun z62=>
 if(!z62.2)=true then(
 some ((Proof.mk [] [] []),false))else(
 (zhE x23.2.1 a0.Q).bind fun z64=>
 (zbF a0 (i64.wrap (z62.1-z64))).bind fun z65=>
 (ix x23.2.1 a3).bind fun x66=>
 (ix (x23.2.1.set a3.toNat z65) a3).bind fun x67=>
 (zbF a0 (i64.wrap (x20+(i64.wrap (x67*a4))))).bind fun z68=>
 (ix x23.2.2 a3).bind fun x69=>
 some ((Proof.mk x23.1 (x23.2.1.set a3.toNat z65) (x23.2.2.set a3.toNat z68)),true)))))
set_option maxHeartbeats 1000000 in
theorem zjS:∀{a0}{a1}{a2}{a3}{a4}{a5}{r},zdt a0 a1 a2 a3 a4 a5=some r→PCalls Tryz.prog 59 [(.sh,vE a0),(.sh,.str a1),(.sh,vM a2),(.sh,.int .i64 a3),(.sh,.int .i64 a4),(.sh,vC a5)] (Eo (.tup [vN r.1,.bool r.2]) [.junk,.junk,.junk,.junk,.junk,.junk]):=by
 intro a0 a1 a2 a3 a4 a5 r hr;apply pF 186 [] [1242,1248,1253] [] [.cell 12 49,.tmp 13] hr zLe Tryz.func59;intro Φ hΦ hF g;unfold zdt at hF;refine wW ?_;refine wJ hF (fun x3=>[(1,.v (.str a1)),(2,.v (vM a2)),(3,.v (.int .i64 a3)),(4,.v (.int .i64 a4)),(5,.v (vC a5)),(6,.bl [.int .i64 a0.P,.int .i64 a0.Q,.int .i64 a0.G]),(12,.bl [.sl true 1 [],.sl true 1 [],.sl true 1 []]),(77,.v (.bool x3))]) (fun x3 hF=>?_) fun _ hj1 hF=>?_
 ·refine wI hF (fun h19 hF=>?_) fun h19 hF=>?_
  ·exact wl hΦ hF
  obtain⟨x20,g,hF⟩:=Rx g hF
  iterate 2 (try simp[go_sem,g];try intros;refine zap ?_)
  try simp[go_sem,g]
  try intros
  refine wK [1,2,3,4,5,6,12,14,15,16] ?_;try simp[go_sem,g]
  try intros
  refine zap ?_;refine wJ hF (fun x23=>[(1,.v (.str a1)),(2,.v (vM a2)),(3,.v (.int .i64 a3)),(4,.v (.int .i64 a4)),(6,.bl [.int .i64 a0.P,.int .i64 a0.Q,.int .i64 a0.G]),(12,.bl [.sl true 1 [],.sl true 1 [],.sl true 1 []]),(14,.bl [vD x23.1,vD x23.2.1,vD x23.2.2]),(16,.v (.int .i64 x20))]) (fun x23 hF=>?_) fun _ hj21 hF=>?_
  ·refine wC hF [.sh,.sh,.sh,.sh] zgH fun z62 hF=>?_
   refine wK [3,4,6,12,14,16,23,24] ?_;refine wW ?_;refine wI hF (fun h63 hF=>?_) fun h63 hF=>?_
   ·exact wl hΦ hF
   refine wW ?_;refine wX zBE follows ?_;refine wC hF [.sh,.sh] zpb fun z64 hF=>?_
   refine wC hF [.sh,.sh] zgQ fun z65 hF=>?_
   obtain⟨x66,g,hF⟩:=Rx g hF;refine wK [3,4,6,12,14,16] ?_;refine wX zCu follows ?_;obtain⟨x67,g,hF⟩:=Rx g hF;try simp only[List.length_set]at g
   refine wC hF [.sh,.sh] zgQ fun z68 hF=>?_
   obtain⟨x69,g,hF⟩:=Rx g hF;refine wK [12,14] ?_;exact wl hΦ hF
  refine wB ?_;obtain⟨b58,hb59,hψ45⟩:=hF;refine pR hb59 (fun i42 s41=>[(1,.v (.str a1)),(2,.v (vM a2)),(3,.v (.int .i64 a3)),(4,.v (.int .i64 a4)),(5,.v (vC a5)),(6,.bl [.int .i64 a0.P,.int .i64 a0.Q,.int .i64 a0.G]),(12,.bl [.sl true 1 [],.sl true 1 [],.sl true 1 []]),(14,.bl [vD s41.1,vD s41.2.1,vD s41.2.2.1]),(15,.v (.int .i64 s41.2.2.2)),(16,.v (.int .i64 x20)),(86,.v (vM a2)),(87,.v (.int .i64 (a2.length:Int))),(88,.v (.int .i64 i42))]) (fun s41 _ hN60=>?_) fun i42 s41 _ _ hi46 hi47 ho43 hg44 hF=>?_
  ·exact wn hN60 (hj21 _) hψ45
  refine wW ?_;refine wu hi46 hi47 ?_;refine wW ?_;refine wB ?_;obtain⟨x48,g,hF⟩:=Rx g hF;refine wK [1,2,3,4,5,6,12,14,15,16,17,18,86,87,88] ?_
  iterate 2 refine wW ?_
  refine wJ hF (fun x51=>[(1,.v (.str a1)),(2,.v (vM a2)),(3,.v (.int .i64 a3)),(4,.v (.int .i64 a4)),(5,.v (vC a5)),(6,.bl [.int .i64 a0.P,.int .i64 a0.Q,.int .i64 a0.G]),(12,.bl [.sl true 1 [],.sl true 1 [],.sl true 1 []]),(14,.bl [vD s41.1,vD s41.2.1,vD s41.2.2.1]),(15,.v (.int .i64 x51.1)),(16,.v (.int .i64 x20)),(19,.v (.int .i64 x51.2.1)),(20,.v (.int .i64 x51.2.2.1)),(21,.v (.int .i64 x51.2.2.2.1)),(22,.v (.int .i64 x51.2.2.2.2)),(86,.v (vM a2)),(87,.v (.int .i64 (a2.length:Int))),(88,.v (.int .i64 i42))]) (fun x51 hF=>?_) fun _ hj49 hF=>?_
  ·refine wX zDa follows ?_;obtain⟨g,hF⟩:=Rg g hF;obtain⟨g,hF⟩:=Rg g hF;obtain⟨g,hF⟩:=Rg g hF;refine wK [1,2,3,4,5,6,12,14,15,16,86,87,88] ?_;exact wi hi46 hi47 (hg44 _) (zaa hF)
  refine wI hF (fun h52 hF=>?_) fun h52 hF=>?_
  ·refine wX zCf follows ?_;refine wC hF [.sh,.sh,.sh] zaR fun z53 hF=>?_
   refine wC hF [.sh,.sh,.sh] zaR fun z54 hF=>?_
   exact wT (hj49 _) (zaa hF)
  refine wX zC4 follows ?_;obtain⟨x55,g,hF⟩:=Rx g hF;obtain⟨x56,g,hF⟩:=Rx g hF;refine wK [1,2,3,4,5,6,12,14,15,16,18,19,20,86,87,88] ?_;refine wW ?_;refine wC hF [.sh,.sh,.sh,.sh] zhV fun z57 hF=>?_
  exact wT (hj49 _) (zaa hF)
 refine wX zF2 follows ?_;refine wC hF [.sh] zfS fun z4 hF=>?_
 refine wH hF (fun h5 hF=>?_) fun h5 hF=>?_
 ·exact wV h5 (hj1 _) (zaa hF)
 try simp[go_sem,g,h5]
 refine wC hF [.sh] zi3 fun z6 hF=>?_
 try simp[go_sem,g,h5]
 refine wH hF (fun h7 hF=>?_) fun h7 hF=>?_
 ·exact wV h7 (hj1 _) (zaa hF)
 try simp[go_sem,g,h7]
 refine wC hF [.sh,.sh] zjF fun z8 hF=>?_
 try simp[go_sem,g,h7]
 refine wH hF (fun h9 hF=>?_) fun h9 hF=>?_
 ·exact wV h9 (hj1 _) (zaa hF)
 try simp[go_sem,g,h9]
 try intros
 refine wC hF [.sh,.sh,.sh] za2 fun z10 hF=>?_
 try simp[go_sem,g,h9]
 refine wH hF (fun h11 hF=>?_) fun h11 hF=>?_
 ·exact wV h11 (hj1 _) (zaa hF)
 try simp[go_sem,g,h11]
 refine wC hF [.sh,.sh] zhx fun z12 hF=>?_
 try simp[go_sem,g,h11]
 refine wH hF (fun h13 hF=>?_) fun h13 hF=>?_
 ·exact wV h13 (hj1 _) (zaa hF)
 try simp[go_sem,g,h13]
 try intros
 refine wH hF (fun h14 hF=>?_) fun h14 hF=>?_
 ·exact wV h14 (hj1 _) (zaa hF)
 try simp[go_sem,g,h14]
 refine wC hF [.sh,.sh] zbJ fun z15 hF=>?_
 try simp[go_sem,g,h14]
 refine wH hF (fun h16 hF=>?_) fun h16 hF=>?_
 ·exact wV h16 (hj1 _) (zaa hF)
 obtain⟨x17,g,hF⟩:=Rx g hF;try simp[go_sem,g,h16]
 refine wC hF [.sh,.sh,.sh] zmN fun z18 hF=>?_
 exact wV h16 (hj1 _) (zaa hF)
@[go_sem] def zCw:List DE:=[d2 0 [3] 3 3,d1 1 [4] 4,d2 2 [8] 4 8,d1 3 [5] 5,d2 4 [10] 5 10,d0 5 [9,11],d2 7 [3] 3 3,d1 8 [4] 4,d2 9 [15] 4 15,d1 10 [5] 5,d2 11 [17] 5 17,d0 12 [16,18],⟨6,[7,12],[],none,true,true,true⟩,⟨13,[14,19],[],none,true,true,true⟩,d0 14 [13,20],d2 15 [6,21] 6 6]
def zdI(a0:Group)(a1:Cipher)(a2:Cipher):Option Cipher:=
 (zaP a0 [a1.A,a2.A]).bind fun z1=>
 (zaP a0 [a1.B,a2.B]).bind fun z2=>
 some (Cipher.mk z1 z2)
theorem zmL:∀{a0}{a1}{a2}{r},zdI a0 a1 a2=some r→PCalls Tryz.prog 134 [(.sh,vE a0),(.sh,vJ a1),(.sh,vJ a2)] (Eo (vJ r) [.junk,.junk,.junk]):=by
 intro a0 a1 a2 r hr;apply pF 22 [] [] [] [.cell 6 88] hr zGK Tryz.func134;intro Φ hΦ hF g;unfold zdI at hF;refine wW ?_;refine wX zCw follows ?_;refine wC hF [.sh,.sh] zcc fun z1 hF=>?_
 refine wC hF [.sh,.sh] zcc fun z2 hF=>?_
 refine wK [6] ?_;exact wm hΦ hF
def zbl(a0:Group)(a1:List Cipher):Option Cipher:=
 ((zar (σ:=Int×Int) (fun i14 s13=>
 (ix a1 i14).bind fun x20=>
 (zdI a0 (Cipher.mk s13.1 s13.2) x20).bind fun z21=>
 some (.go (z21.A,z21.B))) (fun s13=>(s13.1,s13.2)) (a1.length) 0 (1,1):Option ((Int×Int))).bind fun x3=>
 some (Cipher.mk x3.1 x3.2))
theorem zhN:∀{a0}{a1}{r},zbl a0 a1=some r→PCalls Tryz.prog 62 [(.sh,vE a0),(.sh,vQ a1)] (Eo (vJ r) [.junk,.junk]):=by
 intro a0 a1 r hr;apply pF 21 [] [] [] [.cell 4 88] hr zLV Tryz.func62;intro Φ hΦ hF g;unfold zbl at hF
 iterate 3 (try simp[go_sem,g];try intros;refine zap ?_)
 refine wJ hF (fun x3=>[(4,.bl [.int .i64 0,.int .i64 0]),(5,.bl [.int .i64 x3.1,.int .i64 x3.2])]) (fun x3 hF=>?_) fun _ hj1 hF=>?_
 ·refine wK [4] ?_;exact wm hΦ hF
 refine wB ?_;obtain⟨b22,hb23,hψ17⟩:=hF;refine pR hb23 (fun i14 s13=>[(2,.bl [.int .i64 a0.P,.int .i64 a0.Q,.int .i64 a0.G]),(4,.bl [.int .i64 0,.int .i64 0]),(5,.bl [.int .i64 s13.1,.int .i64 s13.2]),(9,.v (vQ a1)),(10,.v (.int .i64 (a1.length:Int))),(11,.v (.int .i64 i14))]) (fun s13 _ hN24=>?_) fun i14 s13 _ _ hi18 hi19 ho15 hg16 hF=>?_
 ·exact wn hN24 (hj1 _) hψ17
 refine wW ?_;refine wu hi18 hi19 ?_;refine wW ?_;refine wB ?_;obtain⟨x20,g,hF⟩:=Rx g hF;refine wK [2,4,5,7,9,10,11] ?_;refine wC hF [.sh,.sh,.sh] zmL fun z21 hF=>?_
 refine wW ?_;exact wi hi18 hi19 (hg16 _) (zaa hF)
@[go_sem] def zC5:List DE:=[d2 0 [6] 6 6,d0 1 [1],d2 2 [6] 6 6,d1 3 [6] 6,d2 4 [132] 6 132,d0 5 [23],d0 7 [24],d0 8 [136],d0 9 [137],d0 11 [],⟨6,[131,133,134],[],none,false,true,false⟩,d3 10 [129,130,135,138],d2 12 [25,139] 25 25]
@[go_sem] def zBr:List DE:=[d2 0 [6] 6 6,d0 1 [15],d2 2 [6] 6 6,d0 3 [1],d2 4 [25] 25 25,d2 5 [8] 8 8,d0 8 [23],d0 9 [24],d0 10 [150],d0 11 [151],d0 12 [24],d0 13 [153],d0 18 [],⟨6,[146],[],none,false,true,false⟩,⟨7,[143,144,145,147],[],none,false,true,false⟩,d3 14 [141,142,148,149,152,154],d0 15 [155],d0 16 [140],d0 17 [140],d2 19 [26,156] 26 26,d0 20 [157]]
@[go_sem] def zCy:List DE:=[d1 0 [14] 14,d2 1 [161] 14 161,d2 2 [25] 25 25,d0 3 [163],d1 5 [14] 14,d2 6 [166] 14 166,d2 7 [26] 26 26,d0 8 [168],⟨4,[162,164],[],none,true,false,false⟩,d1 10 [14] 14,⟨9,[167,169],[],none,true,false,false⟩,d2 11 [171,165] 14 171,d1 12 [14] 14,d2 13 [172,170] 14 172]
@[go_sem] def zCg:List DE:=[d0 0 [20],d0 1 [23],d0 2 [173,174],d2 3 [6] 6 6,d0 4 [21],d0 5 [24],d0 6 [178],d0 7 [179],d0 8 [177,180],d3 9 [176,181],d0 10 [175],d0 11 [182]]
@[go_sem] def zBM:List DE:=[d2 0 [6] 6 6,d0 1 [15],d2 2 [6] 6 6,d0 3 [1],d2 4 [6] 6 6,d1 5 [14] 14,d2 6 [190] 14 190,d1 8 [8] 8,d2 9 [193] 8 193,d1 10 [8] 8,d2 11 [195] 8 195,d0 13 [20],d1 14 [8] 8,d2 15 [199] 8 199,d0 16 [198,200],d0 17 [21],d0 18 [5],d0 19 [16],d0 20 [204],d0 21 [19],d0 22 [205,206],d0 23 [203,207],d0 28 [],d3 7 [189,191],d3 12 [187,188,192,194,196],d3 24 [185,186,197,201,202,208],d0 25 [209],d0 26 [184],d0 27 [184],d2 29 [28,210] 28 28,d0 30 [211]]
@[go_sem] def zFE:List DE:=[d2 0 [6] 6 6,d0 1 [15],d1 2 [6] 6,d2 3 [78] 6 78,d0 4 [5],d0 5 [80],d0 6 [81],d0 7 [5],d0 8 [83],d0 9 [84],d0 14 [],d3 10 [76,77,79,82,85],d0 11 [86],d0 12 [75],d0 13 [75],d2 15 [17,87] 17 17,d0 16 [88]]
@[go_sem] def zFA:List DE:=[d2 0 [6] 6 6,d0 1 [1],d2 2 [6] 6 6,d1 3 [6] 6,d2 4 [92] 6 92,d0 5 [16],d0 6 [94],d0 7 [95],d0 9 [5],d0 10 [98],d0 11 [99],d2 14 [17] 17 17,d0 15 [103],⟨8,[91,93,96],[],none,false,true,false⟩,d3 12 [89,90,97,100],d0 13 [101],d1 16 [14] 14,⟨17,[105,102],[14],some 105,true,true,true⟩,d1 18 [14] 14,⟨19,[106,104],[14],some 106,true,true,true⟩]
def zga(a0:Group)(a1:Int)(a2:Contest)(a3:Int)(a4:List Int)(a5:List Int):Option (Sealed×Bool):=
 (((zdv a0 a2).bind fun z4=>
 if(!z4)=true then(
 some true)else(
 (zcz a0 a1).bind fun z6=>
 if(!z6)=true then(
 some true)else(
 (zeT a3).bind fun z8=>
 if(!z8)=true then(
 some true)else(
 (zbX a2 a4).bind fun z10=>
 if(!z10)=true then(
 some true)else(
 (zet a2).bind fun z12=>
 if((a5.length:Int) !=z12)=true then(
 some true)else(
 (zaM a0 a5).bind fun z14=>
 some (!z14)))))):Option Bool).bind fun x3=>
 if x3=true then(
 some ((Sealed.mk 0 [] [] (Proof.mk [] [] [])),false))else(
 (zdX a3).bind fun z16=>
 (zbA a2 a4).bind fun z17=>
 (zbi a2).bind fun z18=>
 if(!z18)=true then(
 (ix a5 0).bind fun x20=>
 (ix a5 1).bind fun x21=>
 (zc1 a0 z16 a0.G x20 x21).bind fun z22=>
 (ix z17 0).bind fun x23=>
 (zav a0 a0.G x23).bind fun z24=>
 (zb8 a0 a1 z24 x20).bind fun z25=>
 some ((Sealed.mk a3 [z25] [z22.1] (Proof.mk [] [] [])),z22.2))else(
 (zbD a2).bind fun z26=>
 ((zar (σ:=Int×List Cipher×List Proof×List Int×List Int×List Int×Int×Int) (fun i62 s61=>
 (ix z17 i62).bind fun x68=>
 gd (0≤(i64.wrap (i62*(i64.wrap ((i64.wrap (2*z26))+2)))))<|
 gd (0≤(i64.wrap ((i64.wrap (i62+1))*(i64.wrap ((i64.wrap (2*z26))+2)))))<|
 gd ((i64.wrap (i62*(i64.wrap ((i64.wrap (2*z26))+2)))).toNat≤(i64.wrap ((i64.wrap (i62+1))*(i64.wrap ((i64.wrap (2*z26))+2)))).toNat∧(i64.wrap ((i64.wrap (i62+1))*(i64.wrap ((i64.wrap (2*z26))+2)))).toNat≤a5.length)<|
 (ix ((a5.take ((i64.wrap ((i64.wrap (i62+1))*(i64.wrap ((i64.wrap (2*z26))+2)))).toNat)).drop ((i64.wrap (i62*(i64.wrap ((i64.wrap (2*z26))+2)))).toNat)) 0).bind fun x69=>
 (zav a0 a0.G x68).bind fun z70=>
 (zb8 a0 a1 z70 x69).bind fun z71=>
 gd (1≤((a5.take ((i64.wrap ((i64.wrap (i62+1))*(i64.wrap ((i64.wrap (2*z26))+2)))).toNat)).drop ((i64.wrap (i62*(i64.wrap ((i64.wrap (2*z26))+2)))).toNat)).length∧((a5.take ((i64.wrap ((i64.wrap (i62+1))*(i64.wrap ((i64.wrap (2*z26))+2)))).toNat)).drop ((i64.wrap (i62*(i64.wrap ((i64.wrap (2*z26))+2)))).toNat)).length≤((a5.take ((i64.wrap ((i64.wrap (i62+1))*(i64.wrap ((i64.wrap (2*z26))+2)))).toNat)).drop ((i64.wrap (i62*(i64.wrap ((i64.wrap (2*z26))+2)))).toNat)).length)<|
 (zbD a2).bind fun z72=>
 (za5 a0 a1 z71 0 z72).bind fun z73=>
 (zdt a0 z16 z73 x68 x69 ((((a5.take ((i64.wrap ((i64.wrap (i62+1))*(i64.wrap ((i64.wrap (2*z26))+2)))).toNat)).drop ((i64.wrap (i62*(i64.wrap ((i64.wrap (2*z26))+2)))).toNat)).take (((a5.take ((i64.wrap ((i64.wrap (i62+1))*(i64.wrap ((i64.wrap (2*z26))+2)))).toNat)).drop ((i64.wrap (i62*(i64.wrap ((i64.wrap (2*z26))+2)))).toNat)).length)).drop 1)).bind fun z74=>
 if(!z74.2)=true then(
 some (.out (.inr ((Sealed.mk 0 [] [] (Proof.mk [] [] [])),false))))else(
 gd ((s61.2.1.length+1)*16≤140737488355328∧s61.2.1.length+1≤4611686018427387904)<|
 gd ((s61.2.2.1.length+1)*72≤140737488355328∧s61.2.2.1.length+1≤4611686018427387904)<|
 (zbF a0 (i64.wrap (s61.2.2.2.2.2.2.2+x69))).bind fun z76=>
 some (.go (s61.1,s61.2.1++[z71],s61.2.2.1++[z74.1],s61.2.2.2.1,s61.2.2.2.2.1,s61.2.2.2.2.2.1,i64.wrap (s61.2.2.2.2.2.2.1+x68),z76)))) (fun s61=>.inl (s61.1,s61.2.1,s61.2.2.1,s61.2.2.2.1,s61.2.2.2.2.1,s61.2.2.2.2.2.1,s61.2.2.2.2.2.2.1,s61.2.2.2.2.2.2.2)) (z17.length) 0 (a3,[],[],[],[],[],0,0):Option ((Int×List Cipher×List Proof×List Int×List Int×List Int×Int×Int) ⊕ (Sealed×Bool))).bind (Sum.elim (fun x29=>
 gd (0≤(i64.wrap ((z17.length:Int)*(i64.wrap ((i64.wrap (2*z26))+2)))))<|
 gd ((i64.wrap ((z17.length:Int)*(i64.wrap ((i64.wrap (2*z26))+2)))).toNat≤a5.length∧a5.length≤a5.length)<|
 (zbl a0 x29.2.1).bind fun z81=>
 (za5 a0 a1 z81 a2.Least a2.Most).bind fun z82=>
 (zdt a0 z16 z82 (i64.wrap (x29.2.2.2.2.2.2.1-a2.Least)) x29.2.2.2.2.2.2.2 ((a5.take a5.length).drop ((i64.wrap ((z17.length:Int)*(i64.wrap ((i64.wrap (2*z26))+2)))).toNat))).bind fun z83=>
 if(!z83.2)=true then(
 some ((Sealed.mk 0 [] [] (Proof.mk [] [] [])),false))else(
 some ((Sealed.mk x29.1 x29.2.1 x29.2.2.1 z83.1),true))) some)))))
set_option maxHeartbeats 1000000 in
theorem zpp:∀{a0}{a1}{a2}{a3}{a4}{a5}{r},zga a0 a1 a2 a3 a4 a5=some r→PCalls Tryz.prog 17 [(.sh,vE a0),(.sh,.int .i64 a1),(.sh,vF a2),(.sh,.int .i64 a3),(.sh,vC a4),(.sh,vC a5)] (Eo (.tup [vR r.1,.bool r.2]) [.junk,.junk,.junk,.junk,.junk,.junk]):=by
 intro a0 a1 a2 a3 a4 a5 r hr;apply pFz 218 [] [1470,1475] [] [.cell 12 51,.tmp 13] hr zLj Tryz.func17;intro Φ hΦ hF g;unfold zga at hF;refine wW ?_;refine wJ hF (fun x3=>[(1,.v (.int .i64 a1)),(3,.v (.int .i64 a3)),(4,.v (vC a4)),(5,.v (vC a5)),(6,.bl [.int .i64 a0.P,.int .i64 a0.Q,.int .i64 a0.G]),(8,.bl [.int .i64 a2.Kind,.int .i64 a2.Options,.int .i64 a2.Least,.int .i64 a2.Most,.int .i64 a2.Points]),(12,.bl [.int .i64 0,.sl true 2 [],.sl true 3 [],.sl true 1 [],.sl true 1 [],.sl true 1 []]),(63,.v (.bool x3))]) (fun x3 hF=>?_) fun _ hj1 hF=>?_
 ·refine wI hF (fun h15 hF=>?_) fun h15 hF=>?_
  ·exact wl hΦ hF
  refine wW ?_;refine wC hF [.sh] zjz fun z16 hF=>?_
  refine wK [1,4,5,6,8,12,14,15] ?_;refine wC hF [.sh,.sh] zhk fun z17 hF=>?_
  refine wW ?_;refine wC hF [.sh] zc4 fun z18 hF=>?_
  refine wW ?_;refine wI hF (fun h19 hF=>?_) fun h19 hF=>?_
  ·refine wX zFE follows ?_;obtain⟨x20,g,hF⟩:=Rxn g 0 hF;obtain⟨x21,g,hF⟩:=Rxn g 1 hF;refine wC hF [.sh,.sh,.sh,.sh,.sh] zlU fun z22 hF=>?_
   refine wK [1,5,6,12,14,16,17,18] ?_;refine wX zFA follows ?_;obtain⟨x23,g,hF⟩:=Rxn g 0 hF;refine wD hF zaR fun z24 hF=>?_
   refine wC hF [.sh,.sh,.sh,.sh] ziE fun z25 hF=>?_
   refine wK [12,14,18] ?_;exact wl hΦ hF
  refine wW ?_;refine wC hF [.sh] zfV fun z26 hF=>?_
  refine wK [1,5,6,8,12,14,15,16,19,20,21] ?_;try simp[go_sem,g]
  try intros
  refine zap ?_;refine wS hF (fun x29=>[(1,.v (.int .i64 a1)),(5,.v (vC a5)),(6,.bl [.int .i64 a0.P,.int .i64 a0.Q,.int .i64 a0.G]),(8,.bl [.int .i64 a2.Kind,.int .i64 a2.Options,.int .i64 a2.Least,.int .i64 a2.Most,.int .i64 a2.Points]),(12,.bl [.int .i64 0,.sl true 2 [],.sl true 3 [],.sl true 1 [],.sl true 1 [],.sl true 1 []]),(14,.bl [.int .i64 x29.1,vO x29.2.1,vP x29.2.2.1,vD x29.2.2.2.1,vD x29.2.2.2.2.1,vD x29.2.2.2.2.2.1]),(15,.v (.str z16)),(16,.v (vD z17)),(19,.v (.int .i64 (i64.wrap ((i64.wrap (2*z26))+2)))),(20,.v (.int .i64 x29.2.2.2.2.2.2.1)),(21,.v (.int .i64 x29.2.2.2.2.2.2.2))]) (fun x29 hF=>?_) fun _ hj27 hr28 hF=>?_
  ·refine wX zBM follows ?_;obtain⟨g,hF⟩:=Rg g hF;obtain⟨g,hF⟩:=Rg g hF;try simp[go_sem,g]
   try intros
   refine wC hF [.sh,.sh] zhN fun z81 hF=>?_
   refine wC hF [.sh,.sh,.sh,.sh,.sh] zeG fun z82 hF=>?_
   refine wC hF [.sh,.sh,.sh,.sh,.sh,.sh] zjS fun z83 hF=>?_
   refine wK [12,14,28,29] ?_;refine wW ?_;refine wI hF (fun h84 hF=>?_) fun h84 hF=>?_
   ·exact wl hΦ hF
   cases hΦ _ (zaa hF)
   iterate 3 refine wW ?_
   try simp[go_sem,g]
  refine wB ?_;obtain⟨b77,hb78,hψ65⟩:=hF;refine pR hb78 (fun i62 s61=>[(1,.v (.int .i64 a1)),(5,.v (vC a5)),(6,.bl [.int .i64 a0.P,.int .i64 a0.Q,.int .i64 a0.G]),(8,.bl [.int .i64 a2.Kind,.int .i64 a2.Options,.int .i64 a2.Least,.int .i64 a2.Most,.int .i64 a2.Points]),(12,.bl [.int .i64 0,.sl true 2 [],.sl true 3 [],.sl true 1 [],.sl true 1 [],.sl true 1 []]),(14,.bl [.int .i64 s61.1,vO s61.2.1,vP s61.2.2.1,vD s61.2.2.2.1,vD s61.2.2.2.2.1,vD s61.2.2.2.2.2.1]),(15,.v (.str z16)),(16,.v (vD z17)),(19,.v (.int .i64 (i64.wrap ((i64.wrap (2*z26))+2)))),(20,.v (.int .i64 s61.2.2.2.2.2.2.1)),(21,.v (.int .i64 s61.2.2.2.2.2.2.2)),(113,.rf 16 []),(114,.v (.int .i64 (z17.length:Int))),(115,.v (.int .i64 i62))]) (fun s61 _ hN79=>?_) fun i62 s61 _ _ hi66 hi67 ho63 hg64 hF=>?_
  ·exact wn hN79 (hj27 _) hψ65
  refine wW ?_;refine wu hi66 hi67 ?_;refine wW ?_;refine wB ?_;obtain⟨x68,g,hF⟩:=Rx g hF;obtain⟨g,hF⟩:=Rg g hF;obtain⟨g,hF⟩:=Rg g hF;obtain⟨g,hF⟩:=Rg g hF;refine wW ?_;refine wK [1,5,6,8,12,14,15,16,19,20,21,23,24,113,114,115] ?_;refine wX zC5 follows ?_;obtain⟨x69,g,hF⟩:=zKM g 0 hF;refine wD hF zaR fun z70 hF=>?_
  refine wC hF [.sh,.sh,.sh,.sh] ziE fun z71 hF=>?_
  refine wK [1,5,6,8,12,14,15,16,19,20,21,23,24,25,113,114,115] ?_;refine wX zBr follows ?_;obtain⟨g,hF⟩:=Rg g hF;have w:=g.1.2;try simp[g.1.1]at w
  try have g:=And.intro g w
  refine wD hF zfV fun z72 hF=>?_
  refine wD hF zeG fun z73 hF=>?_
  refine wC hF [.sh,.sh,.sh,.sh,.sh,.sh] zjS fun z74 hF=>?_
  refine wK [1,5,6,8,12,14,15,16,19,20,21,23,24,25,26,27,113,114,115] ?_;refine wW ?_;refine wI hF (fun h75 hF=>?_) fun h75 hF=>?_
  ·cases ho63 _ (zaa hF);cases hΦ _ (hr28 _ hψ65);refine wW ?_;try simp[go_sem,g]
  refine wW ?_;refine wX zCy follows ?_;obtain⟨g,hF⟩:=Rg g hF;obtain⟨g,hF⟩:=Rg g hF;refine wK [1,5,6,8,12,14,15,16,19,20,21,23,24,113,114,115] ?_;refine wX zCg follows ?_;refine wC hF [.sh,.sh] zgQ fun z76 hF=>?_
  refine wK [1,5,6,8,12,14,15,16,19,20,21,113,114,115] ?_;exact wi hi66 hi67 (hg64 _) (zaa hF)
 refine wC hF [.sh,.sh] zhP fun z4 hF=>?_
 refine wG hF (fun h5 hF=>?_) fun h5 hF=>?_
 ·exact wV h5 (hj1 _) (zaa hF)
 try simp[go_sem,g,h5]
 refine wC hF [.sh,.sh] zfK fun z6 hF=>?_
 try simp[go_sem,g,h5]
 refine wG hF (fun h7 hF=>?_) fun h7 hF=>?_
 ·exact wV h7 (hj1 _) (zaa hF)
 try simp[go_sem,g,h7]
 refine wC hF [.sh] zjb fun z8 hF=>?_
 try simp[go_sem,g,h7]
 refine wG hF (fun h9 hF=>?_) fun h9 hF=>?_
 ·exact wV h9 (hj1 _) (zaa hF)
 try simp[go_sem,g,h9]
 refine wC hF [.sh,.sh] zgG fun z10 hF=>?_
 try simp[go_sem,g,h9]
 refine wG hF (fun h11 hF=>?_) fun h11 hF=>?_
 ·exact wV h11 (hj1 _) (zaa hF)
 try simp[go_sem,g,h11]
 try intros
 refine wC hF [.sh] zmA fun z12 hF=>?_
 try simp[go_sem,g,h11]
 refine wG hF (fun h13 hF=>?_) fun h13 hF=>?_
 ·exact wV h13 (hj1 _) (zaa hF)
 try simp[go_sem,g,h13]
 refine wC hF [.sh,.sh] zbJ fun z14 hF=>?_
 exact wV h13 (hj1 _) (zaa hF)
def ze4(a0:Group)(a1:List Int):Option Bool:=
 ((zar (σ:=Unit) (fun i5 s4=>
 (ix a1 i5).bind fun x11=>
 (((zbc x11 1 (i64.wrap (a0.P-1))).bind fun z15=>
 if(!z15)=true then(
 some true)else(
 (zcm x11 a0.Q a0.P).bind fun z17=>
 some (z17 !=1)):Option Bool).bind fun x14=>
 if x14=true then(
 some (.out (.inr false)))else(
 some (.go ())))) (fun s4=>.inl ()) (a1.length) 0 ():Option (Unit ⊕ Bool)).bind (Sum.elim (fun x3=>
 some true) some))
theorem ziK:∀{a0}{a1}{r},ze4 a0 a1=some r→PCalls Tryz.prog 64 [(.sh,vE a0),(.sh,vC a1)] (Eo (.bool r) [.junk,.junk]):=by
 intro a0 a1 r hr;apply pF 29 [] [] [] [.tmp 4] hr zIX Tryz.func64;intro Φ hΦ hF g;unfold ze4 at hF
 iterate 2 (try simp[go_sem,g];try intros;refine zap ?_)
 refine wS hF (fun x3=>[]) (fun x3 hF=>?_) fun _ hj1 hr2 hF=>?_
 ·exact wl hΦ hF
 refine wB ?_;obtain⟨b19,hb20,hψ8⟩:=hF;refine pR hb20 (fun i5 s4=>[(2,.bl [.int .i64 a0.P,.int .i64 a0.Q,.int .i64 a0.G]),(7,.v (vC a1)),(8,.v (.int .i64 (a1.length:Int))),(9,.v (.int .i64 i5))]) (fun s4 _ hN21=>?_) fun i5 s4 _ _ hi9 hi10 ho6 hg7 hF=>?_
 ·exact wn hN21 (hj1 _) hψ8
 refine wW ?_;refine wu hi9 hi10 ?_;refine wW ?_;refine wB ?_;obtain⟨x11,g,hF⟩:=Rx g hF;refine wW ?_;refine wJ hF (fun x14=>[(2,.bl [.int .i64 a0.P,.int .i64 a0.Q,.int .i64 a0.G]),(7,.v (vC a1)),(8,.v (.int .i64 (a1.length:Int))),(9,.v (.int .i64 i5)),(27,.v (.bool x14))]) (fun x14 hF=>?_) fun _ hj12 hF=>?_
 ·refine wI hF (fun h18 hF=>?_) fun h18 hF=>?_
  ·refine wK [4] ?_;cases ho6 _ (zaa hF);cases hΦ _ (hr2 _ hψ8);try simp[go_sem,g]
  refine wW ?_;exact wi hi9 hi10 (hg7 _) (zaa hF)
 refine wC hF [.sh,.sh,.sh] zbZ fun z15 hF=>?_
 refine wG hF (fun h16 hF=>?_) fun h16 hF=>?_
 ·exact wV h16 (hj12 _) (zaa hF)
 try simp[go_sem,g,h16]
 refine wC hF [.sh,.sh,.sh] zgV fun z17 hF=>?_
 exact wV h16 (hj12 _) (zaa hF)
def zgh(a0:List Int)(a1:Int)(a2:Int):Option Bool:=
 ((zar (σ:=Unit) (fun i5 s4=>
 (ix a0 i5).bind fun x11=>
 (((zbc x11 a1 a2).bind fun z15=>
 if(!z15)=true then(
 some true)else(
 if decide (0<i5)=true then(
 (ix a0 (i64.wrap (i5-1))).bind fun x18=>
 some (decide (x11≤x18)))else(
 some false)):Option Bool).bind fun x14=>
 if x14=true then(
 some (.out (.inr false)))else(
 some (.go ())))) (fun s4=>.inl ()) (a0.length) 0 ():Option (Unit ⊕ Bool)).bind (Sum.elim (fun x3=>
 some true) some))
theorem zp2:∀{a0}{a1}{a2}{r},zgh a0 a1 a2=some r→PCalls Tryz.prog 137 [(.sh,vC a0),(.sh,.int .i64 a1),(.sh,.int .i64 a2)] (Eo (.bool r) [.junk,.junk,.junk]):=by
 intro a0 a1 a2 r hr;apply pF 35 [] [] [] [.tmp 6] hr zFg Tryz.func137;intro Φ hΦ hF g;unfold zgh at hF
 iterate 2 (try simp[go_sem,g];try intros;refine zap ?_)
 refine wS hF (fun x3=>[]) (fun x3 hF=>?_) fun _ hj1 hr2 hF=>?_
 ·exact wl hΦ hF
 refine wB ?_;obtain⟨b20,hb21,hψ8⟩:=hF;refine pR hb21 (fun i5 s4=>[(0,.v (vC a0)),(1,.v (.int .i64 a1)),(2,.v (.int .i64 a2)),(9,.v (vC a0)),(10,.v (.int .i64 (a0.length:Int))),(11,.v (.int .i64 i5))]) (fun s4 _ hN22=>?_) fun i5 s4 _ _ hi9 hi10 ho6 hg7 hF=>?_
 ·exact wn hN22 (hj1 _) hψ8
 refine wW ?_;refine wu hi9 hi10 ?_;refine wW ?_;refine wB ?_;obtain⟨x11,g,hF⟩:=Rx g hF;refine wK [0,1,2,7,8,9,10,11] ?_;refine wJ hF (fun x14=>[(0,.v (vC a0)),(1,.v (.int .i64 a1)),(2,.v (.int .i64 a2)),(9,.v (vC a0)),(10,.v (.int .i64 (a0.length:Int))),(11,.v (.int .i64 i5)),(33,.v (.bool x14))]) (fun x14 hF=>?_) fun _ hj12 hF=>?_
 ·refine wI hF (fun h19 hF=>?_) fun h19 hF=>?_
  ·cases ho6 _ (zaa hF);cases hΦ _ (hr2 _ hψ8);refine wW ?_;try simp[go_sem,g]
  refine wW ?_;exact wi hi9 hi10 (hg7 _) (zaa hF)
 refine wC hF [.sh,.sh,.sh] zbZ fun z15 hF=>?_
 refine wG hF (fun h16 hF=>?_) fun h16 hF=>?_
 ·exact wV h16 (hj12 _) (zaa hF)
 try simp[go_sem,g,h16]
 refine wG hF (fun h17 hF=>?_) fun h17 hF=>?_
 ·obtain⟨x18,g,hF⟩:=Rx g hF;try simp[go_sem,g,h17,h16]
  exact wT (hj12 _) (zaa hF)
 try simp[go_sem,g,h17,h16]
 exact wT (hj12 _) (zaa hF)
def zgU(a0:List Int):Option Int:=
 ((zar (σ:=Int) (fun i5 s4=>
 (ix a0 i5).bind fun x11=>
 some (.go (i64.wrap (s4+x11)))) (fun s4=>s4) (a0.length) 0 0:Option Int).bind fun x3=>
 some x3)
theorem zrh:∀{a0}{r},zgU a0=some r→PCalls Tryz.prog 138 [(.sh,vC a0)] (Eo (.int .i64 r) [.junk]):=by
 intro a0 r hr;apply pF 17 [] [] [] [.tmp 2] hr zG6 Tryz.func138;intro Φ hΦ hF g;unfold zgU at hF
 iterate 3 (try simp[go_sem,g];try intros;refine zap ?_)
 refine wJ hF (fun x3=>[(3,.v (.int .i64 x3))]) (fun x3 hF=>?_) fun _ hj1 hF=>?_
 ·exact wl hΦ hF
 refine wB ?_;obtain⟨b12,hb13,hψ8⟩:=hF;refine pR hb13 (fun i5 s4=>[(3,.v (.int .i64 s4)),(6,.v (vC a0)),(7,.v (.int .i64 (a0.length:Int))),(8,.v (.int .i64 i5))]) (fun s4 _ hN14=>?_) fun i5 s4 _ _ hi9 hi10 ho6 hg7 hF=>?_
 ·exact wn hN14 (hj1 _) hψ8
 refine wW ?_;refine wu hi9 hi10 ?_;refine wW ?_;refine wB ?_;obtain⟨x11,g,hF⟩:=Rx g hF;refine wW ?_;refine wK [3,6,7,8] ?_;exact wi hi9 hi10 (hg7 _) (zaa hF)
def zgu(a0:List Int):Option Bool:=
 ((zar (σ:=Unit) (fun i5 s4=>
 (ix a0 i5).bind fun x11=>
 gd (0≤i5)<|
 gd (0≤i5.toNat∧i5.toNat≤a0.length)<|
 (zgz ((a0.take i5.toNat).drop 0) x11).bind fun z12=>
 if z12=true then(
 some (.out (.inr false)))else(
 some (.go ()))) (fun s4=>.inl ()) (a0.length) 0 ():Option (Unit ⊕ Bool)).bind (Sum.elim (fun x3=>
 some true) some))
theorem zoe:∀{a0}{r},zgu a0=some r→PCalls Tryz.prog 139 [(.sh,vC a0)] (Eo (.bool r) [.junk]):=by
 intro a0 r hr;apply pF 18 [] [] [] [.tmp 2] hr zEC Tryz.func139;intro Φ hΦ hF g;unfold zgu at hF
 iterate 2 (try simp[go_sem,g];try intros;refine zap ?_)
 refine wS hF (fun x3=>[]) (fun x3 hF=>?_) fun _ hj1 hr2 hF=>?_
 ·exact wl hΦ hF
 refine wB ?_;obtain⟨b14,hb15,hψ8⟩:=hF;refine pR hb15 (fun i5 s4=>[(0,.v (vC a0)),(5,.v (vC a0)),(6,.v (.int .i64 (a0.length:Int))),(7,.v (.int .i64 i5))]) (fun s4 _ hN16=>?_) fun i5 s4 _ _ hi9 hi10 ho6 hg7 hF=>?_
 ·exact wn hN16 (hj1 _) hψ8
 refine wW ?_;refine wu hi9 hi10 ?_;refine wW ?_;refine wB ?_;obtain⟨x11,g,hF⟩:=Rx g hF;refine wK [0,3,4,5,6,7] ?_;obtain⟨g,hF⟩:=Rg g hF;obtain⟨g,hF⟩:=Rg g hF;refine wC hF [.sh,.sh] znt fun z12 hF=>?_
 refine wW ?_;refine wI hF (fun h13 hF=>?_) fun h13 hF=>?_
 ·cases ho6 _ (zaa hF);cases hΦ _ (hr2 _ hψ8);refine wW ?_;try simp[go_sem,g]
 refine wW ?_;exact wi hi9 hi10 (hg7 _) (zaa hF)
@[go_sem] def zFM:List DE:=[d0 0 [1],d0 1 [25],d1 2 [2] 2,d2 3 [27] 2 27,d0 4 [26,28],d0 5 [29],d0 6 [1,30],d1 7 [2,30] 2,d2 8 [32,30] 2 32,d3 9 [31,33,30],d0 10 [30,34],d0 11 [35],d0 12 [1,36],d1 14 [2,36] 2,d2 15 [39,36] 2 39,d1 16 [2,36] 2,d2 17 [41,36] 2 41,d3 13 [37,36],d3 18 [38,40,42,36],d0 19 [36,43],d0 20 [44]]
def zhw(a0:Contest)(a1:List Int):Option Bool:=
 if(a0.Kind==1)=true then(
 (((zgh a1 0 (i64.wrap (a0.Options-1))).bind fun z5=>
 if z5=true then(
 (zbc (a1.length:Int) a0.Least a0.Most).bind fun z7=>
 some z7)else(
 some false):Option Bool).bind fun x4=>
 some x4))else(
 if(a0.Kind==2)=true then(
 ((if((a1.length:Int)==a0.Options)=true then(
 (zes a1 0 a0.Points).bind fun z13=>
 if z13=true then(
 (zgU a1).bind fun z15=>
 (zbc z15 a0.Least a0.Most).bind fun z16=>
 some z16)else(
 some false))else(
 some false):Option Bool).bind fun x11=>
 some x11))else(
 if(a0.Kind==3)=true then(
 (((zes a1 0 (i64.wrap (a0.Options-1))).bind fun z21=>
 if z21=true then(
 (zgu a1).bind fun z23=>
 if z23=true then(
 (zbc (a1.length:Int) a0.Least a0.Most).bind fun z25=>
 some z25)else(
 some false))else(
 some false):Option Bool).bind fun x20=>
 some x20))else(
 (((zes a1 1 26).bind fun z29=>
 if z29=true then(
 (zbc (a1.length:Int) a0.Least a0.Most).bind fun z31=>
 some z31)else(
 some false):Option Bool).bind fun x28=>
 some x28))))
theorem ztd:∀{a0}{a1}{r},zhw a0 a1=some r→PCalls Tryz.prog 66 [(.sh,vF a0),(.sh,vC a1)] (Eo (.bool r) [.junk,.junk]):=by
 intro a0 a1 r hr;apply pF 76 [] [] [] [.tmp 4] hr zJ4 Tryz.func66;intro Φ hΦ hF g;unfold zhw at hF
 iterate 2 refine wW ?_
 refine wB ?_;refine wW ?_;refine wI hF (fun h1 hF=>?_) fun h1 hF=>?_
 ·refine wJ hF (fun x4=>[(4,.v (.bool x4))]) (fun x4 hF=>?_) fun _ hj2 hF=>?_
  ·exact wm hΦ hF
  refine wC hF [.sh,.sh,.sh] zp2 fun z5 hF=>?_
  refine wG hF (fun h6 hF=>?_) fun h6 hF=>?_
  ·try simp[go_sem,g,h6]
   try intros
   refine wC hF [.sh,.sh,.sh] zbZ fun z7 hF=>?_
   exact wV h6 (hj2 _) (zaa hF)
  exact wV h6 (hj2 _) (zaa hF)
 refine wW ?_;refine wI hF (fun h8 hF=>?_) fun h8 hF=>?_
 ·refine wJ hF (fun x11=>[(4,.v (.bool x11))]) (fun x11 hF=>?_) fun _ hj9 hF=>?_
  ·exact wm hΦ hF
  refine wX zFM follows ?_;try simp[go_sem,g]
  try intros
  refine wH hF (fun h12 hF=>?_) fun h12 hF=>?_
  ·try simp[go_sem,g,h12]
   refine wC hF [.sh,.sh,.sh] ziM fun z13 hF=>?_
   try simp[go_sem,g,h12]
   refine wH hF (fun h14 hF=>?_) fun h14 hF=>?_
   ·try simp[go_sem,g,h14]
    refine wC hF [.sh] zrh fun z15 hF=>?_
    try simp[go_sem,g,h14]
    refine wC hF [.sh,.sh,.sh] zbZ fun z16 hF=>?_
    exact wV h14 (hj9 _) (zaa hF)
   exact wV h14 (hj9 _) (zaa hF)
  exact wV h12 (hj9 _) (zaa hF)
 refine wK [1,2,45] ?_;refine wI hF (fun h17 hF=>?_) fun h17 hF=>?_
 ·refine wJ hF (fun x20=>[(4,.v (.bool x20))]) (fun x20 hF=>?_) fun _ hj18 hF=>?_
  ·exact wm hΦ hF
  refine wC hF [.sh,.sh,.sh] ziM fun z21 hF=>?_
  refine wG hF (fun h22 hF=>?_) fun h22 hF=>?_
  ·try simp[go_sem,g,h22]
   refine wC hF [.sh] zoe fun z23 hF=>?_
   try simp[go_sem,g,h22]
   refine wG hF (fun h24 hF=>?_) fun h24 hF=>?_
   ·try simp[go_sem,g,h24]
    try intros
    refine wC hF [.sh,.sh,.sh] zbZ fun z25 hF=>?_
    exact wV h24 (hj18 _) (zaa hF)
   exact wV h24 (hj18 _) (zaa hF)
  exact wV h22 (hj18 _) (zaa hF)
 refine wW ?_;refine wJ hF (fun x28=>[(4,.v (.bool x28))]) (fun x28 hF=>?_) fun _ hj26 hF=>?_
 ·exact wm hΦ hF
 refine wC hF [.sh,.sh,.sh] ziM fun z29 hF=>?_
 refine wG hF (fun h30 hF=>?_) fun h30 hF=>?_
 ·try simp[go_sem,g,h30]
  try intros
  refine wC hF [.sh,.sh,.sh] zbZ fun z31 hF=>?_
  exact wV h30 (hj26 _) (zaa hF)
 exact wV h30 (hj26 _) (zaa hF)
@[go_sem] def zBL:List DE:=[d0 0 [0],d0 1 [10],d0 3 [0],d0 4 [13],d0 5 [14],d0 6 [15],d0 7 [16],d3 2 [11],⟨8,[17],[],none,true,true,false⟩,d0 9 [12,18],d0 10 [19]]
@[go_sem] def zyK:List DE:=[d0 0 [0],d0 1 [10],d0 3 [0],d0 4 [13],d0 5 [14],d0 6 [15],d0 7 [16],⟨8,[17],[],none,true,true,false⟩,d3 2 [11],d0 9 [12,18],d0 10 [19]]
def zbP:Nat→Int→Option ByteArray
 |0,_=>none
 |n_+1,a0=>
 if decide (a0<10)=true then(
 some (zff [u8.wrap (i64.wrap (48+a0))]))else(
 (zbP n_ (i64.wrap (a0.tdiv 10))).bind fun z2=>
 gd (z2.size+(zff [u8.wrap (i64.wrap (48+(a0.tmod 10)))]).size≤9223372036854775807)<|
 some (z2++(zff [u8.wrap (i64.wrap (48+(a0.tmod 10)))])))
def zkE(a0:Int):Option ByteArray:=zqd fun n_=>zbP n_ a0
theorem zqj:∀{n_:Nat}{a0:Int}{r:ByteArray}(hr:zbP n_ a0=some r),PCalls Tryz.prog 198 [(.sh,.int .i64 a0)] (Eo (.str r) [.junk]):=by
 intro n_;induction n_ with
 |zero=>intro a0 r hr;cases hr
 |succ n_ ih=>
  intro a0 r hr;apply pF 20 [] [] [1000000] [.tmp 2] hr zEc Tryz.func198;intro Φ hΦ hF g;simp only[zbP]at hF
  iterate 2 refine wW ?_
  refine wI hF (fun h1 hF=>?_) fun h1 hF=>?_
  ·exact wl hΦ hF
  ·refine wW ?_
   repeat rw[sq]
   refine zyv 2 8 zBL zyK follows (by decide) (by kernel_rfl) (by kernel_rfl) rfl rfl ?_ ?_
   ·have g:=Ld g 10;refine wC hF [.sh] ih fun z2 hF=>?_
    obtain⟨g,hF⟩:=Rsa g hF;refine wK [2] ?_;exact wm hΦ hF
   ·have g:=Ld g 10;refine wC hF [.sh] ih fun z2 hF=>?_
    obtain⟨g,hF⟩:=Rsa g hF;refine wK [2] ?_;exact wm hΦ hF
theorem zsk{a0:Int}{r:ByteArray}(hr:zkE a0=some r):PCalls Tryz.prog 198 [(.sh,.int .i64 a0)] (Eo (.str r) [.junk]):=by
 obtain⟨n_,hn⟩:=zxF hr;exact zqj hn
def zf1(a0:Int):Option ByteArray:=
 (zkE a0).bind fun z1=>
 gd ((⟨#[98,97,108,108,111,116,32]⟩:ByteArray).size+z1.size≤9223372036854775807)<|
 some ((⟨#[98,97,108,108,111,116,32]⟩:ByteArray)++z1)
theorem zmJ:∀{a0}{r},zf1 a0=some r→PCalls Tryz.prog 141 [(.sh,.int .i64 a0)] (Eo (.str r) [.junk]):=by
 intro a0 r hr;apply pF 6 [] [] [] [.tmp 2] hr zGn Tryz.func141;intro Φ hΦ hF g;unfold zf1 at hF;refine wW ?_;refine wC hF [.sh] zsk fun z1 hF=>?_
 obtain⟨g,hF⟩:=Rsa g hF;exact wl hΦ hF
def zbC(a0:Group)(a1:List Int):Option Int:=
 ((zar (σ:=Int) (fun i5 s4=>
 (ix a1 i5).bind fun x11=>
 gd (a0.P≠0)<|
 some (.go ((i64.wrap (s4*x11)).tmod a0.P))) (fun s4=>s4) (a1.length) 0 1:Option Int).bind fun x3=>
 some x3)
theorem ze5:∀{a0}{a1}{r},zbC a0 a1=some r→PCalls Tryz.prog 205 [(.sh,vE a0),(.sh,vC a1)] (Eo (.int .i64 r) [.junk,.junk]):=by
 intro a0 a1 r hr;apply pF 22 [] [] [] [.tmp 4] hr zFk Tryz.func205;intro Φ hΦ hF g;unfold zbC at hF
 iterate 3 (try simp[go_sem,g];try intros;refine zap ?_)
 refine wJ hF (fun x3=>[(5,.v (.int .i64 x3))]) (fun x3 hF=>?_) fun _ hj1 hF=>?_
 ·exact wl hΦ hF
 refine wB ?_;obtain⟨b12,hb13,hψ8⟩:=hF;refine pR hb13 (fun i5 s4=>[(2,.bl [.int .i64 a0.P,.int .i64 a0.Q,.int .i64 a0.G]),(5,.v (.int .i64 s4)),(8,.v (vC a1)),(9,.v (.int .i64 (a1.length:Int))),(10,.v (.int .i64 i5))]) (fun s4 _ hN14=>?_) fun i5 s4 _ _ hi9 hi10 ho6 hg7 hF=>?_
 ·exact wn hN14 (hj1 _) hψ8
 refine wW ?_;refine wu hi9 hi10 ?_;refine wW ?_;refine wB ?_;obtain⟨x11,g,hF⟩:=Rx g hF;refine wK [2,5,7,8,9,10] ?_;obtain⟨g,hF⟩:=Rz g hF;refine wW ?_;exact wi hi9 hi10 (hg7 _) (zaa hF)
@[go_sem] def zDt:List DE:=[d2 0 [4] 4 4,d1 1 [4] 4,d2 2 [10] 4 10,d0 3 [3],d2 5 [4] 4 4,d0 6 [2],d2 7 [4] 4 4,d0 8 [1],d0 9 [3],d3 4 [9,11,12],d3 10 [16,17,18],d0 11 [15,19],⟨12,[14,20],[],none,true,true,true⟩,d0 13 [13,21],d2 14 [8,22] 8 8]
def zhU(a0:Group)(a1:Int)(a2:Int)(a3:Int):Option Cipher:=
 (zau a0 a0.G a3).bind fun z1=>
 (zau a0 a1 a3).bind fun z2=>
 (zbC a0 [a2,z2]).bind fun z3=>
 some (Cipher.mk z1 z3)
theorem ztF:∀{a0}{a1}{a2}{a3}{r},zhU a0 a1 a2 a3=some r→PCalls Tryz.prog 199 [(.sh,vE a0),(.sh,.int .i64 a1),(.sh,.int .i64 a2),(.sh,.int .i64 a3)] (Eo (vJ r) [.junk,.junk,.junk,.junk]):=by
 intro a0 a1 a2 a3 r hr;apply pF 23 [] [] [] [.cell 8 88] hr zEJ Tryz.func199;intro Φ hΦ hF g;unfold zhU at hF;refine wW ?_;refine wX zDt follows ?_;refine wC hF [.sh,.sh,.sh] zbj fun z1 hF=>?_
 refine wC hF [.sh,.sh,.sh] zbj fun z2 hF=>?_
 refine wC hF [.sh,.sh] ze5 fun z3 hF=>?_
 refine wK [8] ?_;exact wm hΦ hF
@[go_sem] def zCY:List DE:=[d2 0 [4] 4 4,d0 1 [1],d2 2 [4] 4 4,d1 3 [4] 4,d2 4 [12] 4 12,d0 5 [2],d0 7 [3],d3 6 [11,13,14],d3 8 [9,10,15,16],d2 9 [8,17] 8 8]
def zgo(a0:Group)(a1:Int)(a2:Int)(a3:Int):Option Cipher:=
 (zau a0 a0.G a2).bind fun z1=>
 (zhU a0 a1 z1 a3).bind fun z2=>
 some z2
theorem zor:∀{a0}{a1}{a2}{a3}{r},zgo a0 a1 a2 a3=some r→PCalls Tryz.prog 142 [(.sh,vE a0),(.sh,.int .i64 a1),(.sh,.int .i64 a2),(.sh,.int .i64 a3)] (Eo (vJ r) [.junk,.junk,.junk,.junk]):=by
 intro a0 a1 a2 a3 r hr;apply pF 18 [] [] [] [.cell 8 88] hr zEN Tryz.func142;intro Φ hΦ hF g;unfold zgo at hF;refine wW ?_;refine wX zCY follows ?_;refine wC hF [.sh,.sh,.sh] zbj fun z1 hF=>?_
 refine wC hF [.sh,.sh,.sh,.sh] ztF fun z2 hF=>?_
 refine wK [8] ?_;exact wm hΦ hF
@[go_sem] def zDj:List DE:=[d0 0 [7],d2 1 [3] 3 3,d0 2 [9],d0 3 [2],d0 4 [8],d0 5 [20,21],d0 6 [22],d1 9 [3] 3,d2 10 [26] 3 26,d3 7 [18,19,23],d0 8 [17,24],d0 11 [25,27],d0 12 [28]]
def zei(a0:Group)(a1:List Int)(a2:List Int):Option Int:=
 ((zar (σ:=Int) (fun i5 s4=>
 (ix a1 i5).bind fun x11=>
 (ix a2 i5).bind fun x12=>
 (zau a0 x11 x12).bind fun z13=>
 gd (a0.P≠0)<|
 some (.go ((i64.wrap (s4*z13)).tmod a0.P))) (fun s4=>s4) (a1.length) 0 1:Option Int).bind fun x3=>
 some x3)
theorem zmZ:∀{a0}{a1}{a2}{r},zei a0 a1 a2=some r→PCalls Tryz.prog 213 [(.sh,vE a0),(.sh,vC a1),(.sh,vC a2)] (Eo (.int .i64 r) [.junk,.junk,.junk]):=by
 intro a0 a1 a2 r hr;apply pF 31 [] [] [] [.tmp 6] hr zHe Tryz.func213;intro Φ hΦ hF g;unfold zei at hF
 iterate 3 (try simp[go_sem,g];try intros;refine zap ?_)
 refine wJ hF (fun x3=>[(7,.v (.int .i64 x3))]) (fun x3 hF=>?_) fun _ hj1 hF=>?_
 ·exact wl hΦ hF
 refine wB ?_;obtain⟨b14,hb15,hψ8⟩:=hF;refine pR hb15 (fun i5 s4=>[(2,.v (vC a2)),(3,.bl [.int .i64 a0.P,.int .i64 a0.Q,.int .i64 a0.G]),(7,.v (.int .i64 s4)),(10,.v (vC a1)),(11,.v (.int .i64 (a1.length:Int))),(12,.v (.int .i64 i5))]) (fun s4 _ hN16=>?_) fun i5 s4 _ _ hi9 hi10 ho6 hg7 hF=>?_
 ·exact wn hN16 (hj1 _) hψ8
 refine wW ?_;refine wu hi9 hi10 ?_;refine wW ?_;refine wB ?_;obtain⟨x11,g,hF⟩:=Rx g hF;refine wK [2,3,7,8,9,10,11,12] ?_;refine wX zDj follows ?_;obtain⟨x12,g,hF⟩:=Rx g hF;refine wC hF [.sh,.sh,.sh] zbj fun z13 hF=>?_
 obtain⟨g,hF⟩:=Rz g hF;refine wK [2,3,7,10,11,12] ?_;exact wi hi9 hi10 (hg7 _) (zaa hF)
def zfE(a0:Group)(a1:(List (List Int)))(a2:List Int):Option ((List Int)):=
 ((zar (σ:=(List Int)) (fun i5 s4=>
 (ix a1 i5).bind fun x11=>
 (zei a0 x11 a2).bind fun z12=>
 gd ((s4.length+1)*8≤140737488355328∧s4.length+1≤4611686018427387904)<|
 some (.go (s4++[z12]))) (fun s4=>s4) (a1.length) 0 []:Option ((List Int))).bind fun x3=>
 some x3)
theorem zlQ:∀{a0}{a1}{a2}{r},zfE a0 a1 a2=some r→PCalls Tryz.prog 202 [(.sh,vE a0),(.sh,vG a1),(.sh,vC a2)] (Eo (vD r) [.junk,.junk,.junk]):=by
 intro a0 a1 a2 r hr;apply pF 25 [] [] [] [.tmp 6] hr zEB Tryz.func202;intro Φ hΦ hF g;unfold zfE at hF
 iterate 3 (try simp[go_sem,g];try intros;refine zap ?_)
 refine wJ hF (fun x3=>[(7,.v (vD x3))]) (fun x3 hF=>?_) fun _ hj1 hF=>?_
 ·exact wl hΦ hF
 refine wB ?_;obtain⟨b13,hb14,hψ8⟩:=hF;refine pR hb14 (fun i5 s4=>[(2,.v (vC a2)),(3,.bl [.int .i64 a0.P,.int .i64 a0.Q,.int .i64 a0.G]),(7,.v (vD s4)),(10,.v (vG a1)),(11,.v (.int .i64 (a1.length:Int))),(12,.v (.int .i64 i5))]) (fun s4 _ hN15=>?_) fun i5 s4 _ _ hi9 hi10 ho6 hg7 hF=>?_
 ·exact wn hN15 (hj1 _) hψ8
 refine wW ?_;refine wu hi9 hi10 ?_;refine wW ?_;refine wB ?_;obtain⟨x11,g,hF⟩:=Rx g hF;refine wK [2,3,7,9,10,11,12] ?_;refine wC hF [.sh,.sh,.sh] zmZ fun z12 hF=>?_
 obtain⟨g,hF⟩:=Rg g hF;refine wW ?_;exact wi hi9 hi10 (hg7 _) (zaa hF)
def zey(a0:(List (List Int)))(a1:List Int)(a2:List Int):Option ((List Int)):=
 ((zar (σ:=(List Int)) (fun i5 s4=>
 (ix a0 i5).bind fun x11=>
 gd ((s4.length+x11.length)*8≤140737488355328∧s4.length+x11.length≤4611686018427387904)<|
 some (.go (s4++x11))) (fun s4=>s4) (a0.length) 0 []:Option ((List Int))).bind fun x3=>
 gd ((x3.length+a1.length)*8≤140737488355328∧x3.length+a1.length≤4611686018427387904)<|
 gd (((x3++a1).length+a2.length)*8≤140737488355328∧(x3++a1).length+a2.length≤4611686018427387904)<|
 some (x3++a1++a2))
theorem zjR:∀{a0}{a1}{a2}{r},zey a0 a1 a2=some r→PCalls Tryz.prog 204 [(.sh,vG a0),(.sh,vC a1),(.sh,vC a2)] (Eo (vD r) [.junk,.junk,.junk]):=by
 intro a0 a1 a2 r hr;apply pF 25 [] [] [] [.tmp 6] hr zEF Tryz.func204;intro Φ hΦ hF g;unfold zey at hF
 iterate 3 (try simp[go_sem,g];try intros;refine zap ?_)
 refine wJ hF (fun x3=>[(1,.v (vC a1)),(2,.v (vC a2)),(7,.v (vD x3))]) (fun x3 hF=>?_) fun _ hj1 hF=>?_
 ·obtain⟨g,hF⟩:=Rg g hF;obtain⟨g,hF⟩:=Rg g hF;refine wK [6] ?_;exact wm hΦ hF
 refine wB ?_;obtain⟨b12,hb13,hψ8⟩:=hF;refine pR hb13 (fun i5 s4=>[(1,.v (vC a1)),(2,.v (vC a2)),(7,.v (vD s4)),(10,.v (vG a0)),(11,.v (.int .i64 (a0.length:Int))),(12,.v (.int .i64 i5))]) (fun s4 _ hN14=>?_) fun i5 s4 _ _ hi9 hi10 ho6 hg7 hF=>?_
 ·exact wn hN14 (hj1 _) hψ8
 refine wW ?_;refine wu hi9 hi10 ?_;refine wW ?_;refine wB ?_;obtain⟨x11,g,hF⟩:=Rx g hF;obtain⟨g,hF⟩:=Rg g hF;refine wW ?_;refine wK [1,2,7,10,11,12] ?_;exact wi hi9 hi10 (hg7 _) (zaa hF)
def zgY(a0:ByteArray)(a1:List Int):Option ((List Int)):=
 ((zaH (σ:=(List Int)×Int) (fun s4=>
 if decide (s4.2<(a0.size:Int))=true then(
 (ixs a0 s4.2).bind fun x10=>
 gd ((s4.1.length+1)*8≤140737488355328∧s4.1.length+1≤4611686018427387904)<|
 some (.go (s4.1++[i64.wrap x10],i64.wrap (s4.2+1))))else(
 some (.out s4.1))) ([(a0.size:Int)],0):Option ((List Int))).bind fun x3=>
 gd ((x3.length+a1.length)*8≤140737488355328∧x3.length+a1.length≤4611686018427387904)<|
 some (x3++a1))
theorem zrj:∀{a0}{a1}{r},zgY a0 a1=some r→PCalls Tryz.prog 182 [(.sh,.str a0),(.sh,vC a1)] (Eo (vD r) [.junk,.junk]):=by
 intro a0 a1 r hr;apply pF 26 [] [] [] [.tmp 4] hr zGM Tryz.func182;intro Φ hΦ hF g;unfold zgY at hF
 iterate 3 refine wW ?_
 refine wJ hF (fun x3=>[(1,.v (vC a1)),(5,.v (vD x3))]) (fun x3 hF=>?_) fun _ hj1 hF=>?_
 ·obtain⟨g,hF⟩:=Rg g hF;refine wK [4] ?_;exact wm hΦ hF
 refine wB ?_;obtain⟨b11,hb12,hψ8⟩:=hF;refine pL hb12 (fun s4=>[(0,.v (.str a0)),(1,.v (vC a1)),(5,.v (vD s4.1)),(6,.v (.int .i64 s4.2))]) fun s4 _ _ ho6 hg7 hF=>?_
 refine wK [0,1,5,6,13] ?_;refine wI hF (fun h9 hF=>?_) fun h9 hF=>?_
 ·refine wW ?_;refine wB ?_;obtain⟨x10,g,hF⟩:=Rxs g hF;obtain⟨g,hF⟩:=Rg g hF;refine wW ?_;exact wT (hg7 _) (zaa hF)
 cases ho6 _ (zaa hF);exact wT (hj1 _) hψ8
def zb3(a0c0:Int)(a0c1:Int)(a1:Int):Option ((Int×Int)):=
 (some [a1.tmod 2147483648,i64.wrap (a1.tdiv 2147483648)]).bind fun x1=>
 zaH (σ:=(Int×Int)×Int) (fun s10=>
 if decide (s10.2<(x1.length:Int))=true then(
 (ix x1 s10.2).bind fun x16=>
 some (.go (((i64.wrap ((i64.wrap ((i64.wrap (48271*s10.1.1))+x16))+1)).tmod 2147483647,(i64.wrap ((i64.wrap ((i64.wrap (69621*s10.1.2))+x16))+1)).tmod 2147483647),i64.wrap (s10.2+1))))else(
 some (.out (s10.1.1,s10.1.2)))) ((a0c0,a0c1),0)
theorem zgW:∀{a0c0}{a0c1}{a1}{r},zb3 a0c0 a0c1 a1=some r→PCalls Tryz.prog 215 [(.io,vS a0c0 a0c1),(.sh,.int .i64 a1)] (Eo (.junk) [vS r.1 r.2,.junk]):=by
 intro a0c0 a0c1 a1 r hr;apply pF 41 [0] [] [] [] hr zF7 Tryz.func215;intro Φ hΦ hF g;unfold zb3 at hF;have g:=Ld g 2147483648;obtain⟨x1,e2,hF⟩:=zfB hF;have g:=And.intro g (show[[.int .i64 (a1.tmod 2147483648)],[.int .i64 (i64.wrap (a1.tdiv 2147483648))]]=x1.map zam by injection e2 with e2;rw[←e2];simp[go_sem]);try simp[go_sem,g]
 try intros
 refine zap ?_;refine wB ?_;obtain⟨b17,hb18,hψ14⟩:=hF;refine pL hb18 (fun s10=>[(0,.v (vS s10.1.1 s10.1.2)),(10,.v (vD x1)),(11,.v (.int .i64 (x1.length:Int))),(12,.v (.int .i64 s10.2))]) fun s10 _ _ ho12 hg13 hF=>?_
 refine wW ?_;refine wI hF (fun h15 hF=>?_) fun h15 hF=>?_
 ·refine wW ?_;refine wB ?_;obtain⟨x16,g,hF⟩:=Rx g hF;refine wK [0,5,10,11,12] ?_;have g:=Ld g 2147483647;refine wK [0,5,10,11,12] ?_;refine wK [0,10,11,12] ?_;exact wT (hg13 _) (zaa hF)
 cases ho12 _ (zaa hF);cases hΦ _ hψ14;try simp[go_sem,g]
@[go_sem] def zB3:List DE:=[d0 0 [3],d0 1 [22],d0 2 [23],d0 3 [24],d0 4 [25],d0 5 [3],d0 6 [27],d0 7 [28],d0 8 [29],d0 9 [26,30],d0 10 [31]]
def zhn(a0:List Int):Option Int:=
 (zb3 1 2 (a0.length:Int)).bind fun z1=>
 ((zar (σ:=(Int×Int)) (fun i15 s14=>
 (ix a0 i15).bind fun x21=>
 (zb3 s14.1 s14.2 x21).bind fun z22=>
 some (.go (z22.1,z22.2))) (fun s14=>(s14.1,s14.2)) (a0.length) 0 (z1.1,z1.2):Option ((Int×Int))).bind fun x4=>
 some (i64.wrap ((i64.wrap (x4.1*2147483648))+x4.2)))
theorem zsu:∀{a0}{r},zhn a0=some r→PCalls Tryz.prog 177 [(.sh,vC a0)] (Eo (.int .i64 r) [.junk]):=by
 intro a0 r hr;apply pF 32 [] [] [7] [.tmp 2] hr zGq Tryz.func177;intro Φ hΦ hF g;unfold zhn at hF
 iterate 2 (try simp[go_sem,g];try intros;refine zap ?_)
 try simp[go_sem,g]
 try intros
 refine wC hF [.io,.sh] zgW fun z1 hF=>?_
 try simp[go_sem,g]
 try intros
 refine zap ?_;try simp[go_sem,g]
 try intros
 refine wK [3,12,13,14] ?_;refine wJ hF (fun x4=>[(3,.v (vS x4.1 x4.2))]) (fun x4 hF=>?_) fun _ hj2 hF=>?_
 ·refine wX zB3 follows ?_;refine wK [2] ?_;exact wm hΦ hF
 refine wB ?_;obtain⟨b23,hb24,hψ18⟩:=hF;refine pR hb24 (fun i15 s14=>[(3,.v (vS s14.1 s14.2)),(12,.v (vC a0)),(13,.v (.int .i64 (a0.length:Int))),(14,.v (.int .i64 i15))]) (fun s14 _ hN25=>?_) fun i15 s14 _ _ hi19 hi20 ho16 hg17 hF=>?_
 ·exact wn hN25 (hj2 _) hψ18
 refine wW ?_;refine wu hi19 hi20 ?_;refine wW ?_;refine wB ?_;obtain⟨x21,g,hF⟩:=Rx g hF;refine wW ?_;refine wC hF [.io,.sh] zgW fun z22 hF=>?_
 refine wW ?_;exact wi hi19 hi20 (hg17 _) (zaa hF)
def zfN(a0:ByteArray)(a1:List Int):Option Int:=
 (zgY a0 a1).bind fun z1=>
 (zhn z1).bind fun z2=>
 some z2
theorem zoZ:∀{a0}{a1}{r},zfN a0 a1=some r→PCalls Tryz.prog 105 [(.sh,.str a0),(.sh,vC a1)] (Eo (.int .i64 r) [.junk,.junk]):=by
 intro a0 a1 r hr;apply pF 9 [] [] [] [.tmp 4] hr zHi Tryz.func105;intro Φ hΦ hF g;unfold zfN at hF;refine wW ?_;refine wC hF [.sh,.sh] zrj fun z1 hF=>?_
 refine wC hF [.sh] zsu fun z2 hF=>?_
 exact wl hΦ hF
@[go_sem] def zB4:List DE:=[d0 0 [1],d1 1 [3] 3,d2 2 [8] 3 8,d1 3 [3] 3,d2 4 [10] 3 10,d1 5 [3] 3,d2 6 [12] 3 12,d0 7 [9,11,13],d0 8 [2],d1 11 [3] 3,d2 12 [18] 3 18,⟨9,[14,15],[],none,true,false,false⟩,d3 10 [7,16],d0 13 [17,19],d0 14 [20]]
def zbY(a0:Group)(a1:ByteArray)(a2:List Int):Option Int:=
 gd (([a0.P,a0.Q,a0.G].length+a2.length)*8≤140737488355328∧[a0.P,a0.Q,a0.G].length+a2.length≤4611686018427387904)<|
 (zfN a1 ([a0.P,a0.Q,a0.G]++a2)).bind fun z1=>
 gd (a0.Q≠0)<|
 some (z1.tmod a0.Q)
theorem zhS:∀{a0}{a1}{a2}{r},zbY a0 a1 a2=some r→PCalls Tryz.prog 203 [(.sh,vE a0),(.sh,.str a1),(.sh,vC a2)] (Eo (.int .i64 r) [.junk,.junk,.junk]):=by
 intro a0 a1 a2 r hr;apply pF 21 [] [] [] [.tmp 6] hr zFw Tryz.func203;intro Φ hΦ hF g;unfold zbY at hF;refine wW ?_;refine wX zB4 follows ?_;obtain⟨g,hF⟩:=Rg g hF;refine wC hF [.sh,.sh] zoZ fun z1 hF=>?_
 obtain⟨g,hF⟩:=Rz g hF;refine wK [6] ?_;exact wm hΦ hF
@[go_sem] def zCL:List DE:=[d2 0 [5] 5 5,d0 1 [1],d0 2 [2],d2 3 [5] 5 5,d0 4 [2],d0 5 [3],d1 7 [11] 11,d2 8 [27] 11 27,d3 6 [23,24,25],d3 9 [22,26,28],d3 10 [20,21,29],d0 11 [30]]
@[go_sem] def zBK:List DE:=[d1 0 [11] 11,d2 1 [41] 11 41,d0 2 [4],d0 3 [13],d0 4 [43,44],d0 5 [45],d0 6 [12],d0 7 [14],d0 8 [47,48],d0 9 [46,49],d1 10 [5] 5,d2 11 [51] 5 51,d0 12 [50,52],d0 13 [53],⟨14,[42,54],[],none,true,false,false⟩,d1 15 [11] 11,d2 16 [56,55] 11 56]
def zgT(a0:Group)(a1:ByteArray)(a2:(List (List Int)))(a3:List Int)(a4:List Int):Option Proof:=
 (zfE a0 a2 a4).bind fun z1=>
 (zfE a0 a2 a3).bind fun z2=>
 (zey a2 z2 z1).bind fun z3=>
 (zbY a0 a1 z3).bind fun z4=>
 ((zar (σ:=(List Int)×List Int×List Int) (fun i18 s17=>
 (ix a3 i18).bind fun x24=>
 (ix a4 i18).bind fun x25=>
 gd (a0.Q≠0)<|
 gd ((s17.2.2.length+1)*8≤140737488355328∧s17.2.2.length+1≤4611686018427387904)<|
 some (.go (s17.1,s17.2.1,s17.2.2++[(i64.wrap (x25+(i64.wrap (z4*x24)))).tmod a0.Q]))) (fun s17=>(s17.1,s17.2.1,s17.2.2)) (a3.length) 0 (z1,[z4],[]):Option ((List Int×List Int×List Int))).bind fun x7=>
 some (Proof.mk x7.1 x7.2.1 x7.2.2))
theorem zrb:∀{a0}{a1}{a2}{a3}{a4}{r},zgT a0 a1 a2 a3 a4=some r→PCalls Tryz.prog 144 [(.sh,vE a0),(.sh,.str a1),(.sh,vG a2),(.sh,vC a3),(.sh,vC a4)] (Eo (vN r) [.junk,.junk,.junk,.junk,.junk]):=by
 intro a0 a1 a2 a3 a4 r hr;apply pF 59 [] [] [] [.cell 10 49] hr zFN Tryz.func144;intro Φ hΦ hF g;unfold zgT at hF;refine wW ?_;refine wC hF [.sh,.sh,.sh] zlQ fun z1 hF=>?_
 refine wW ?_;refine wX zCL follows ?_;refine wC hF [.sh,.sh,.sh] zlQ fun z2 hF=>?_
 refine wC hF [.sh,.sh,.sh] zjR fun z3 hF=>?_
 refine wC hF [.sh,.sh,.sh] zhS fun z4 hF=>?_
 refine wK [3,4,5,10,11,12] ?_
 iterate 2 (try simp[go_sem,g];try intros;refine zap ?_)
 refine wJ hF (fun x7=>[(10,.bl [.sl true 1 [],.sl true 1 [],.sl true 1 []]),(11,.bl [vD x7.1,vD x7.2.1,vD x7.2.2])]) (fun x7 hF=>?_) fun _ hj5 hF=>?_
 ·exact wl hΦ hF
 refine wB ?_;obtain⟨b26,hb27,hψ21⟩:=hF;refine pR hb27 (fun i18 s17=>[(4,.v (vC a4)),(5,.bl [.int .i64 a0.P,.int .i64 a0.Q,.int .i64 a0.G]),(10,.bl [.sl true 1 [],.sl true 1 [],.sl true 1 []]),(11,.bl [vD s17.1,vD s17.2.1,vD s17.2.2]),(12,.v (.int .i64 z4)),(34,.v (vC a3)),(35,.v (.int .i64 (a3.length:Int))),(36,.v (.int .i64 i18))]) (fun s17 _ hN28=>?_) fun i18 s17 _ _ hi22 hi23 ho19 hg20 hF=>?_
 ·exact wn hN28 (hj5 _) hψ21
 refine wW ?_;refine wu hi22 hi23 ?_;refine wW ?_;refine wB ?_;obtain⟨x24,g,hF⟩:=Rx g hF;refine wK [4,5,10,11,12,13,14,34,35,36] ?_;refine wX zBK follows ?_;obtain⟨x25,g,hF⟩:=Rx g hF;obtain⟨g,hF⟩:=Rz g hF;obtain⟨g,hF⟩:=Rg g hF;refine wK [4,5,10,11,12,34,35,36] ?_;exact wi hi22 hi23 (hg20 _) (zaa hF)
def zgx(a0:Contest)(a1:List Int):Option ((List Int)):=
 if(a0.Kind==1)=true then(
 (zfg a0 a1).bind fun z2=>
 some z2)else(
 if(a0.Kind==2)=true then(
 (ze9 a1).bind fun z4=>
 some z4)else(
 (zbS a0 a1).bind fun z5=>
 some [z5]))
theorem zsQ:∀{a0}{a1}{r},zgx a0 a1=some r→PCalls Tryz.prog 145 [(.sh,vF a0),(.sh,vC a1)] (Eo (vD r) [.junk,.junk]):=by
 intro a0 a1 r hr;apply pF 20 [] [] [] [.tmp 4] hr zFU Tryz.func145;intro Φ hΦ hF g;unfold zgx at hF
 iterate 2 refine wW ?_
 refine wB ?_;refine wW ?_;refine wI hF (fun h1 hF=>?_) fun h1 hF=>?_
 ·refine wC hF [.sh,.sh] zmH fun z2 hF=>?_
  refine wK [4] ?_;exact wm hΦ hF
 refine wW ?_;refine wI hF (fun h3 hF=>?_) fun h3 hF=>?_
 ·refine wC hF [.sh] zhq fun z4 hF=>?_
  refine wK [4] ?_;exact wm hΦ hF
 refine wW ?_;refine wC hF [.sh,.sh] zkx fun z5 hF=>?_
 refine wK [4] ?_;exact wm hΦ hF
@[go_sem] def zB0:List DE:=[d0 0 [11],d1 1 [5] 5,d2 2 [20] 5 20,d1 3 [7] 7,d2 4 [22] 7 22,d0 5 [1],d2 6 [5] 5 5,d1 7 [7] 7,d2 8 [26] 7 26,d2 9 [5] 5 5,d1 10 [5] 5,d2 11 [29] 5 29,d0 12 [12],d0 13 [31],d3 14 [28,30,32],d0 15 [27,33],⟨16,[25,34],[],none,true,true,true⟩,d0 17 [21,23,24,35],d0 18 [36],⟨19,[19,37],[],none,true,false,false⟩,d0 20 [38]]
def zbM(a0:Group)(a1:Int)(a2:Cipher)(a3:Int)(a4:Int):Option ((List EqualLog)):=
 ((zaH (σ:=(List EqualLog)×Int) (fun s4=>
 if decide (s4.2≤a4)=true then(
 (zau a0 a0.G (i64.wrap (0-s4.2))).bind fun z10=>
 (zbC a0 [a2.B,z10]).bind fun z11=>
 gd ((s4.1.length+1)*32≤140737488355328∧s4.1.length+1≤4611686018427387904)<|
 some (.go (s4.1++[(EqualLog.mk a0.G a2.A a1 z11)],i64.wrap (s4.2+1))))else(
 some (.out s4.1))) ([],a3):Option ((List EqualLog))).bind fun x3=>
 some x3)
theorem zf8:∀{a0}{a1}{a2}{a3}{a4}{r},zbM a0 a1 a2 a3 a4=some r→PCalls Tryz.prog 147 [(.sh,vE a0),(.sh,.int .i64 a1),(.sh,vJ a2),(.sh,.int .i64 a3),(.sh,.int .i64 a4)] (Eo (vK r) [.junk,.junk,.junk,.junk,.junk]):=by
 intro a0 a1 a2 a3 a4 r hr;apply pF 40 [] [] [] [.tmp 10] hr zFa Tryz.func147;intro Φ hΦ hF g;unfold zbM at hF
 iterate 3 refine wW ?_
 refine wJ hF (fun x3=>[(11,.v (vK x3))]) (fun x3 hF=>?_) fun _ hj1 hF=>?_
 ·exact wl hΦ hF
 refine wB ?_;obtain⟨b12,hb13,hψ8⟩:=hF;refine pL hb13 (fun s4=>[(1,.v (.int .i64 a1)),(4,.v (.int .i64 a4)),(5,.bl [.int .i64 a0.P,.int .i64 a0.Q,.int .i64 a0.G]),(7,.bl [.int .i64 a2.A,.int .i64 a2.B]),(11,.v (vK s4.1)),(12,.v (.int .i64 s4.2))]) fun s4 _ _ ho6 hg7 hF=>?_
 refine wW ?_;refine wI hF (fun h9 hF=>?_) fun h9 hF=>?_
 ·refine wW ?_;refine wB ?_;refine wX zB0 follows ?_;refine wC hF [.sh,.sh,.sh] zbj fun z10 hF=>?_
  refine wC hF [.sh,.sh] ze5 fun z11 hF=>?_
  obtain⟨g,hF⟩:=Rg g hF;refine wK [1,4,5,7,11,12] ?_;exact wT (hg7 _) (zaa hF)
 cases ho6 _ (zaa hF);exact wT (hj1 _) hψ8
@[go_sem] def zBv:List DE:=[d2 0 [4] 4 4,d0 1 [1],d0 2 [9],d0 3 [3],d0 4 [32,33],d3 5 [30,31,34],d0 6 [35]]
def zeA(a0:Group)(a1:ByteArray)(a2:List EqualLog)(a3:List Int):Option Int:=
 ((zar (σ:=(List Int)) (fun i5 s4=>
 (ix a2 i5).bind fun x11=>
 gd ((s4.length+4)*8≤140737488355328∧s4.length+4≤4611686018427387904)<|
 some (.go (s4++[x11.G1,x11.Y1,x11.G2,x11.Y2]))) (fun s4=>s4) (a2.length) 0 []:Option ((List Int))).bind fun x3=>
 gd ((x3.length+a3.length)*8≤140737488355328∧x3.length+a3.length≤4611686018427387904)<|
 (zbY a0 a1 (x3++a3)).bind fun z16=>
 some z16)
theorem zmE:∀{a0}{a1}{a2}{a3}{r},zeA a0 a1 a2 a3=some r→PCalls Tryz.prog 206 [(.sh,vE a0),(.sh,.str a1),(.sh,vM a2),(.sh,vC a3)] (Eo (.int .i64 r) [.junk,.junk,.junk,.junk]):=by
 intro a0 a1 a2 a3 r hr;apply pF 36 [] [] [] [.tmp 8] hr zGu Tryz.func206;intro Φ hΦ hF g;unfold zeA at hF
 iterate 3 (try simp[go_sem,g];try intros;refine zap ?_)
 refine wJ hF (fun x3=>[(1,.v (.str a1)),(3,.v (vC a3)),(4,.bl [.int .i64 a0.P,.int .i64 a0.Q,.int .i64 a0.G]),(9,.v (vD x3))]) (fun x3 hF=>?_) fun _ hj1 hF=>?_
 ·refine wX zBv follows ?_;obtain⟨g,hF⟩:=Rg g hF;refine wC hF [.sh,.sh,.sh] zhS fun z16 hF=>?_
  refine wK [8] ?_;exact wm hΦ hF
 refine wB ?_;obtain⟨b12,hb13,hψ8⟩:=hF;refine pR hb13 (fun i5 s4=>[(1,.v (.str a1)),(3,.v (vC a3)),(4,.bl [.int .i64 a0.P,.int .i64 a0.Q,.int .i64 a0.G]),(9,.v (vD s4)),(12,.v (vM a2)),(13,.v (.int .i64 (a2.length:Int))),(14,.v (.int .i64 i5))]) (fun s4 _ hN14=>?_) fun i5 s4 _ _ hi9 hi10 ho6 hg7 hF=>?_
 ·exact wn hN14 (hj1 _) hψ8
 refine wW ?_;refine wu hi9 hi10 ?_;refine wW ?_;refine wB ?_;obtain⟨x11,g,hF⟩:=Rx g hF;refine wK [1,3,4,9,11,12,13,14] ?_;obtain⟨g,hF⟩:=Rg g hF;refine wK [1,3,4,9,12,13,14] ?_;exact wi hi9 hi10 (hg7 _) (zaa hF)
@[go_sem] def zAF:List DE:=[d0 0 [5],d0 1 [62],d0 2 [63],d0 3 [5],d0 4 [65],d0 5 [66],d0 6 [64],d0 7 [67]]
@[go_sem] def zAq:List DE:=[d1 0 [13] 13,d2 1 [70] 13 70,d2 2 [6] 6 6,d2 3 [6] 6 6,d1 4 [17] 17,d2 5 [74] 17 74,d0 6 [19],d2 8 [6] 6 6,d1 9 [17] 17,d2 10 [79] 17 79,d0 11 [18],d0 12 [81],d2 16 [6] 6 6,d2 17 [6] 6 6,d1 18 [17] 17,d2 19 [88] 17 88,d0 20 [19],d2 22 [6] 6 6,d1 23 [17] 17,d2 24 [93] 17 93,d0 25 [18],d0 26 [95],d3 7 [73,75,76],d3 13 [78,80,82],d0 14 [77,83],⟨15,[72,84],[],none,true,true,true⟩,d3 21 [87,89,90],d3 27 [92,94,96],d0 28 [91,97],⟨29,[86,98],[],none,true,true,true⟩,d0 30 [85,99],⟨31,[71,100],[],none,true,false,false⟩,d1 32 [13] 13,d2 33 [102,101] 13 102]
@[go_sem] def zAI:List DE:=[d2 0 [6] 6 6,d0 1 [1],d0 2 [2],d1 3 [13] 13,d2 4 [125] 13 125,d0 6 [15],d1 8 [6] 6,d2 9 [130] 6 130,d3 5 [122,123,124,126],d0 7 [127,128],d3 10 [129,131],d0 11 [132]]
@[go_sem] def zAr:List DE:=[d1 0 [13] 13,d2 1 [138] 13 138,d0 2 [3],d0 3 [14],d0 4 [20],d0 5 [4],d0 6 [142,143],d0 7 [141,144],d1 8 [6] 6,d2 9 [146] 6 146,d0 10 [145,147],d0 11 [139,140],d0 12 [149,148]]
@[go_sem] def zCl:List DE:=[d1 0 [13] 13,d2 1 [37] 13 37,d2 2 [6] 6 6,d1 3 [17] 17,d2 4 [40] 17 40,d0 5 [14],d2 7 [6] 6 6,d1 8 [17] 17,d2 9 [45] 17 45,d0 10 [14],d3 6 [39,41,42],d3 11 [44,46,47],d0 12 [43,48],⟨13,[38,49],[],none,true,false,false⟩,d1 14 [13] 13,d2 15 [51,50] 13 51]
def zfi(a0:Group)(a1:ByteArray)(a2:List EqualLog)(a3:Int)(a4:Int)(a5:List Int):Option Proof:=
 (ix a5 (i64.wrap ((a5.length:Int)-1))).bind fun x1=>
 ((zar (σ:=(List Int)×List Int×List Int×List Int×Int) (fun i28 s27=>
 (((ix a2 i28).bind fun x37=>
 if(i28==a3)=true then(
 (zau a0 x37.G1 x1).bind fun z39=>
 (zau a0 x37.G2 x1).bind fun z40=>
 gd ((s27.2.1.length+2)*8≤140737488355328∧s27.2.1.length+2≤4611686018427387904)<|
 gd ((s27.2.2.1.length+1)*8≤140737488355328∧s27.2.2.1.length+1≤4611686018427387904)<|
 gd ((s27.2.2.2.1.length+1)*8≤140737488355328∧s27.2.2.2.1.length+1≤4611686018427387904)<|
 some (s27.1,s27.2.1++[z39,z40],s27.2.2.1++[0],s27.2.2.2.1++[0],s27.2.2.2.2))else(
 (ix s27.1 0).bind fun x41=>
 (ix s27.1 1).bind fun x42=>
 gd (2≤s27.1.length∧s27.1.length≤s27.1.length)<|
 (zau a0 x37.G1 x42).bind fun z43=>
 (zau a0 x37.Y1 (i64.wrap (0-x41))).bind fun z44=>
 (zbC a0 [z43,z44]).bind fun z45=>
 (zau a0 x37.G2 x42).bind fun z46=>
 (zau a0 x37.Y2 (i64.wrap (0-x41))).bind fun z47=>
 (zbC a0 [z46,z47]).bind fun z48=>
 gd ((s27.2.1.length+2)*8≤140737488355328∧s27.2.1.length+2≤4611686018427387904)<|
 gd ((s27.2.2.1.length+1)*8≤140737488355328∧s27.2.2.1.length+1≤4611686018427387904)<|
 gd ((s27.2.2.2.1.length+1)*8≤140737488355328∧s27.2.2.2.1.length+1≤4611686018427387904)<|
 gd (a0.Q≠0)<|
 some ((s27.1.take s27.1.length).drop 2,s27.2.1++[z45,z48],s27.2.2.1++[x41],s27.2.2.2.1++[x42],(i64.wrap (s27.2.2.2.2+x41)).tmod a0.Q)):Option ((List Int×List Int×List Int×List Int×Int))).bind fun x36=>
 some (.go (x36.1,x36.2.1,x36.2.2.1,x36.2.2.2.1,x36.2.2.2.2)))) (fun s27=>(s27.2.1,s27.2.2.1,s27.2.2.2.1,s27.2.2.2.2)) (a2.length) 0 (a5,[],[],[],0):Option ((List Int×List Int×List Int×Int))).bind fun x4=>
 (zeA a0 a1 a2 x4.1).bind fun z53=>
 (ze0 (i64.wrap (z53-x4.2.2.2)) a0.Q).bind fun z54=>
 (ix x4.2.1 a3).bind fun x55=>
 gd (a0.Q≠0)<|
 (ix x4.2.2.1 a3).bind fun x56=>
 some (Proof.mk x4.1 (x4.2.1.set a3.toNat z54) (x4.2.2.1.set a3.toNat ((i64.wrap (x1+(i64.wrap (z54*a4)))).tmod a0.Q))))
theorem zmI:∀{a0}{a1}{a2}{a3}{a4}{a5}{r},zfi a0 a1 a2 a3 a4 a5=some r→PCalls Tryz.prog 146 [(.sh,vE a0),(.sh,.str a1),(.sh,vM a2),(.sh,.int .i64 a3),(.sh,.int .i64 a4),(.sh,vC a5)] (Eo (vN r) [.junk,.junk,.junk,.junk,.junk,.junk]):=by
 intro a0 a1 a2 a3 a4 a5 r hr;apply pF 151 [] [] [] [.cell 12 49] hr zFy Tryz.func146;intro Φ hΦ hF g;unfold zfi at hF;obtain⟨x1,g,hF⟩:=Rx g hF
 iterate 2 (try simp[go_sem,g];try intros;refine zap ?_)
 try simp[go_sem,g]
 try intros
 refine wK [1,2,3,4,5,6,12,13,14] ?_
 iterate 2 (try simp[go_sem,g];try intros;refine zap ?_)
 refine wJ hF (fun x4=>[(1,.v (.str a1)),(2,.v (vM a2)),(3,.v (.int .i64 a3)),(4,.v (.int .i64 a4)),(6,.bl [.int .i64 a0.P,.int .i64 a0.Q,.int .i64 a0.G]),(12,.bl [.sl true 1 [],.sl true 1 [],.sl true 1 []]),(13,.bl [vD x4.1,vD x4.2.1,vD x4.2.2.1]),(14,.v (.int .i64 x1)),(15,.v (.int .i64 x4.2.2.2))]) (fun x4 hF=>?_) fun _ hj2 hF=>?_
 ·refine wX zAI follows ?_;refine wC hF [.sh,.sh,.sh,.sh] zmE fun z53 hF=>?_
  refine wC hF [.sh,.sh] zlq fun z54 hF=>?_
  refine wK [3,4,6,12,13,14,20] ?_;obtain⟨x55,g,hF⟩:=Rx g hF;refine wW ?_;refine wX zAr follows ?_;obtain⟨g,hF⟩:=Rz g hF;obtain⟨x56,g,hF⟩:=Rx g hF;refine wK [12,13] ?_;exact wl hΦ hF
 refine wB ?_;obtain⟨b49,hb50,hψ31⟩:=hF;refine pR hb50 (fun i28 s27=>[(1,.v (.str a1)),(2,.v (vM a2)),(3,.v (.int .i64 a3)),(4,.v (.int .i64 a4)),(5,.v (vC s27.1)),(6,.bl [.int .i64 a0.P,.int .i64 a0.Q,.int .i64 a0.G]),(12,.bl [.sl true 1 [],.sl true 1 [],.sl true 1 []]),(13,.bl [vD s27.2.1,vD s27.2.2.1,vD s27.2.2.2.1]),(14,.v (.int .i64 x1)),(15,.v (.int .i64 s27.2.2.2.2)),(27,.v (vM a2)),(28,.v (.int .i64 (a2.length:Int))),(29,.v (.int .i64 i28))]) (fun s27 _ hN51=>?_) fun i28 s27 _ _ hi32 hi33 ho29 hg30 hF=>?_
 ·exact wn hN51 (hj2 _) hψ31
 refine wW ?_;refine wu hi32 hi33 ?_;refine wW ?_;refine wJ hF (fun x36=>[(1,.v (.str a1)),(2,.v (vM a2)),(3,.v (.int .i64 a3)),(4,.v (.int .i64 a4)),(5,.v (vC x36.1)),(6,.bl [.int .i64 a0.P,.int .i64 a0.Q,.int .i64 a0.G]),(12,.bl [.sl true 1 [],.sl true 1 [],.sl true 1 []]),(13,.bl [vD x36.2.1,vD x36.2.2.1,vD x36.2.2.2.1]),(14,.v (.int .i64 x1)),(15,.v (.int .i64 x36.2.2.2.2)),(27,.v (vM a2)),(28,.v (.int .i64 (a2.length:Int))),(29,.v (.int .i64 i28))]) (fun x36 hF=>?_) fun _ hj34 hF=>?_
 ·exact wi hi32 hi33 (hg30 _) (zaa hF)
 refine wB ?_;obtain⟨x37,g,hF⟩:=Rx g hF;refine wK [1,2,3,4,5,6,12,13,14,15,16,17,27,28,29] ?_;refine wW ?_;refine wI hF (fun h38 hF=>?_) fun h38 hF=>?_
 ·refine wX zCl follows ?_;refine wC hF [.sh,.sh,.sh] zbj fun z39 hF=>?_
  refine wC hF [.sh,.sh,.sh] zbj fun z40 hF=>?_
  obtain⟨g,hF⟩:=Rg g hF;refine wK [1,2,3,4,5,6,12,13,14,15,27,28,29] ?_;obtain⟨g,hF⟩:=Rg g hF;obtain⟨g,hF⟩:=Rg g hF;refine wW ?_;refine wK [1,2,3,4,5,6,12,13,14,15,27,28,29] ?_;exact wT (hj34 _) (zaa hF)
 refine wW ?_;refine wX zAF follows ?_;obtain⟨x41,g,hF⟩:=Rxn g 0 hF;obtain⟨x42,g,hF⟩:=Rxn g 1 hF;refine wK [1,2,3,4,5,6,12,13,14,15,17,18,19,27,28,29] ?_;obtain⟨g,hF⟩:=Rg g hF;refine wW ?_;refine wX zAq follows ?_;refine wC hF [.sh,.sh,.sh] zbj fun z43 hF=>?_
 refine wC hF [.sh,.sh,.sh] zbj fun z44 hF=>?_
 refine wC hF [.sh,.sh] ze5 fun z45 hF=>?_
 refine wC hF [.sh,.sh,.sh] zbj fun z46 hF=>?_
 refine wC hF [.sh,.sh,.sh] zbj fun z47 hF=>?_
 refine wC hF [.sh,.sh] ze5 fun z48 hF=>?_
 obtain⟨g,hF⟩:=Rg g hF;refine wK [1,2,3,4,5,6,12,13,14,15,18,19,27,28,29] ?_;obtain⟨g,hF⟩:=Rg g hF;obtain⟨g,hF⟩:=Rg g hF;refine wW ?_;refine wK [1,2,3,4,5,6,12,13,14,15,18,27,28,29] ?_;obtain⟨g,hF⟩:=Rz g hF;exact wT (hj34 _) (zaa hF)
@[go_sem] def zCA:List DE:=[d2 0 [2] 2 2,d1 1 [5] 5,d2 2 [16] 5 16,d1 3 [7] 7,d2 4 [18] 7 18,d0 5 [17,19],d2 7 [2] 2 2,d1 8 [5] 5,d2 9 [23] 5 23,d1 10 [7] 7,d2 11 [25] 7 25,d0 12 [24,26],⟨6,[15,20],[],none,true,true,true⟩,⟨13,[22,27],[],none,true,true,true⟩,d0 14 [21,28],d2 15 [5,29] 5 5]
def ze1(a0:Group)(a1:List Cipher):Option Cipher:=
 ((zar (σ:=Int×Int) (fun i15 s14=>
 (ix a1 i15).bind fun x21=>
 (zbC a0 [s14.1,x21.A]).bind fun z22=>
 (zbC a0 [s14.2,x21.B]).bind fun z23=>
 some (.go (z22,z23))) (fun s14=>(s14.1,s14.2)) (a1.length) 0 (1,1):Option ((Int×Int))).bind fun x3=>
 some (Cipher.mk x3.1 x3.2))
theorem zop:∀{a0}{a1}{r},ze1 a0 a1=some r→PCalls Tryz.prog 148 [(.sh,vE a0),(.sh,vQ a1)] (Eo (vJ r) [.junk,.junk]):=by
 intro a0 a1 r hr;apply pF 32 [] [] [] [.cell 4 88] hr zFd Tryz.func148;intro Φ hΦ hF g;unfold ze1 at hF
 iterate 3 (try simp[go_sem,g];try intros;refine zap ?_)
 refine wJ hF (fun x3=>[(4,.bl [.int .i64 0,.int .i64 0]),(5,.bl [.int .i64 x3.1,.int .i64 x3.2])]) (fun x3 hF=>?_) fun _ hj1 hF=>?_
 ·refine wK [4] ?_;exact wm hΦ hF
 refine wB ?_;obtain⟨b24,hb25,hψ18⟩:=hF;refine pR hb25 (fun i15 s14=>[(2,.bl [.int .i64 a0.P,.int .i64 a0.Q,.int .i64 a0.G]),(4,.bl [.int .i64 0,.int .i64 0]),(5,.bl [.int .i64 s14.1,.int .i64 s14.2]),(9,.v (vQ a1)),(10,.v (.int .i64 (a1.length:Int))),(11,.v (.int .i64 i15))]) (fun s14 _ hN26=>?_) fun i15 s14 _ _ hi19 hi20 ho16 hg17 hF=>?_
 ·exact wn hN26 (hj1 _) hψ18
 refine wW ?_;refine wu hi19 hi20 ?_;refine wW ?_;refine wB ?_;obtain⟨x21,g,hF⟩:=Rx g hF;refine wK [2,4,5,7,9,10,11] ?_;refine wX zCA follows ?_;refine wC hF [.sh,.sh] ze5 fun z22 hF=>?_
 refine wC hF [.sh,.sh] ze5 fun z23 hF=>?_
 refine wK [2,4,5,9,10,11] ?_;exact wi hi19 hi20 (hg17 _) (zaa hF)
@[go_sem] def zBZ:List DE:=[d2 0 [6] 6 6,d0 1 [1],d0 2 [19],d0 3 [5],d0 4 [72],d0 5 [73],d0 7 [],d3 6 [69,70,71,74],d2 8 [20,75] 20 20]
@[go_sem] def zB1:List DE:=[d1 0 [13] 13,d2 1 [82] 13 82,d2 2 [6] 6 6,d0 3 [14],d2 4 [6] 6 6,d0 5 [1],d2 6 [20] 20 20,d0 7 [15],d0 9 [19],d0 10 [5],d0 11 [92],d0 12 [93],d0 13 [5],d0 14 [15],d0 15 [96],d0 16 [97],d0 17 [95,98],⟨8,[86,87,88,89],[],none,false,true,false⟩,d3 18 [84,85,90,91,94,99],d0 19 [100],⟨20,[83,101],[],none,true,false,false⟩,d1 21 [13] 13,d2 22 [103,102] 13 103]
@[go_sem] def zBC:List DE:=[d0 0 [17],d0 1 [5],d0 2 [108],d0 3 [109],d0 4 [107,110],d1 5 [6] 6,d2 6 [112] 6 112,d0 7 [111,113],d0 8 [114]]
@[go_sem] def zCW:List DE:=[d2 0 [6] 6 6,d0 1 [14],d2 2 [6] 6 6,d0 3 [1],d2 4 [6] 6 6,d1 5 [13] 13,d2 6 [126] 13 126,d1 8 [8] 8,d2 9 [129] 8 129,d1 10 [8] 8,d2 11 [131] 8 131,d0 13 [16],d1 14 [8] 8,d2 15 [135] 8 135,d0 16 [134,136],d0 17 [17],d0 18 [5],d3 7 [125,127],d3 12 [123,124,128,130,132],d3 19 [121,122,133,137,138,139],d1 20 [13] 13,d2 21 [141,140] 13 141]
@[go_sem] def zFn:List DE:=[d1 0 [13] 13,d2 1 [28] 13 28,d2 2 [6] 6 6,d0 3 [1],d2 4 [8] 8 8,d0 5 [4],d0 7 [5],d0 8 [35],d0 9 [36],⟨6,[32,33],[],none,false,true,false⟩,d3 10 [30,31,34,37],d0 11 [38],⟨12,[29,39],[],none,true,false,false⟩,d1 13 [13] 13,d2 14 [41,40] 13 41]
@[go_sem] def zGx:List DE:=[d1 0 [13] 13,d2 1 [42] 13 42,d2 2 [6] 6 6,d0 3 [14],d1 4 [6] 6,d2 5 [46] 6 46,d0 6 [47],d0 8 [5],d0 9 [50],d0 10 [5],d0 11 [52],⟨7,[48],[],none,true,true,false⟩,⟨12,[44,45,49,51,53],[],none,true,true,true⟩,d0 13 [54],⟨14,[43,55],[],none,true,false,false⟩,d1 15 [13] 13,d2 16 [57,56] 13 57]
def zfI(a0:Group)(a1:Int)(a2:Contest)(a3:Int)(a4:List Int)(a5:List Int):Option Sealed:=
 (zf1 a3).bind fun z1=>
 (zeq a2).bind fun z2=>
 if(!z2)=true then(
 (ix a5 0).bind fun x4=>
 (zbS a2 a4).bind fun z5=>
 (zgo a0 a1 z5 x4).bind fun z6=>
 gd (1*16≤140737488355328∧1≤4611686018427387904)<|
 gd (0≤1∧1≤a5.length)<|
 gd (1≤2∧2≤a5.length)<|
 (zgT a0 z1 [[a0.G]] ((a5.take 1).drop 0) ((a5.take 2).drop 1)).bind fun z7=>
 gd (1*72≤140737488355328∧1≤4611686018427387904)<|
 some (Sealed.mk a3 [z6] [z7] (Proof.mk [] [] [])))else(
 (zgn a2).bind fun z8=>
 (zgx a2 a4).bind fun z9=>
 ((zar (σ:=(List Int)×Int×List Cipher×List Proof×List Int×List Int×List Int×Int×Int) (fun i38 s37=>
 (ix z9 i38).bind fun x44=>
 (ix s37.1 0).bind fun x45=>
 (zgo a0 a1 x44 x45).bind fun z46=>
 gd ((s37.2.2.1.length+1)*16≤140737488355328∧s37.2.2.1.length+1≤4611686018427387904)<|
 gd (0≤(i64.wrap ((i64.wrap (2*z8))+2)))<|
 gd (1≤(i64.wrap ((i64.wrap (2*z8))+2)).toNat∧(i64.wrap ((i64.wrap (2*z8))+2)).toNat≤s37.1.length)<|
 (zbM a0 a1 z46 0 z8).bind fun z47=>
 (zfi a0 z1 z47 x44 x45 ((s37.1.take ((i64.wrap ((i64.wrap (2*z8))+2)).toNat)).drop 1)).bind fun z48=>
 gd ((s37.2.2.2.1.length+1)*72≤140737488355328∧s37.2.2.2.1.length+1≤4611686018427387904)<|
 gd (a0.Q≠0)<|
 gd (0≤(i64.wrap ((i64.wrap (2*z8))+2)))<|
 gd ((i64.wrap ((i64.wrap (2*z8))+2)).toNat≤s37.1.length∧s37.1.length≤s37.1.length)<|
 some (.go ((s37.1.take s37.1.length).drop ((i64.wrap ((i64.wrap (2*z8))+2)).toNat),s37.2.1,s37.2.2.1++[z46],s37.2.2.2.1++[z48],s37.2.2.2.2.1,s37.2.2.2.2.2.1,s37.2.2.2.2.2.2.1,i64.wrap (s37.2.2.2.2.2.2.2.1+x44),(i64.wrap (s37.2.2.2.2.2.2.2.2+x45)).tmod a0.Q))) (fun s37=>(s37.1,s37.2.1,s37.2.2.1,s37.2.2.2.1,s37.2.2.2.2.1,s37.2.2.2.2.2.1,s37.2.2.2.2.2.2.1,s37.2.2.2.2.2.2.2.1,s37.2.2.2.2.2.2.2.2)) (z9.length) 0 (a5,a3,[],[],[],[],[],0,0):Option ((List Int×Int×List Cipher×List Proof×List Int×List Int×List Int×Int×Int))).bind fun x12=>
 (ze1 a0 x12.2.2.1).bind fun z53=>
 (zbM a0 a1 z53 a2.Least a2.Most).bind fun z54=>
 (zfi a0 z1 z54 (i64.wrap (x12.2.2.2.2.2.2.2.1-a2.Least)) x12.2.2.2.2.2.2.2.2 x12.1).bind fun z55=>
 some (Sealed.mk x12.2.1 x12.2.2.1 x12.2.2.2.1 z55)))
theorem zrX:∀{a0}{a1}{a2}{a3}{a4}{a5}{r},zfI a0 a1 a2 a3 a4 a5=some r→PCalls Tryz.prog 68 [(.sh,vE a0),(.sh,.int .i64 a1),(.sh,vF a2),(.sh,.int .i64 a3),(.sh,vC a4),(.sh,vC a5)] (Eo (vT r) [.junk,.junk,.junk,.junk,.junk,.junk]):=by
 intro a0 a1 a2 a3 a4 a5 r hr;apply pF 143 [] [] [] [.cell 12 51] hr zK8 Tryz.func68;intro Φ hΦ hF g;unfold zfI at hF
 iterate 2 refine wW ?_
 refine wC hF [.sh] zmJ fun z1 hF=>?_
 refine wK [1,4,5,6,8,12,13,14] ?_;refine wC hF [.sh] zhr fun z2 hF=>?_
 refine wW ?_;refine wI hF (fun h3 hF=>?_) fun h3 hF=>?_
 ·refine wX zFn follows ?_;obtain⟨x4,g,hF⟩:=Rxn g 0 hF;refine wD hF zkx fun z5 hF=>?_
  refine wC hF [.sh,.sh,.sh,.sh] zor fun z6 hF=>?_
  obtain⟨g,hF⟩:=Rg g hF;refine wK [5,6,12,13,14] ?_;refine wX zGx follows ?_;obtain⟨g,hF⟩:=Rg g hF;obtain⟨g,hF⟩:=Rg g hF;refine wC hF [.sh,.sh,.sh,.sh,.sh] zrb fun z7 hF=>?_
  obtain⟨g,hF⟩:=Rg g hF;refine wK [12,13] ?_;exact wl hΦ hF
 refine wW ?_;refine wC hF [.sh] zlt fun z8 hF=>?_
 iterate 2 refine wW ?_
 refine wC hF [.sh,.sh] zsQ fun z9 hF=>?_
 try simp[go_sem,g]
 try intros
 refine wK [1,5,6,8,12,13,14,15,16,17,63,64,65] ?_;refine wJ hF (fun x12=>[(1,.v (.int .i64 a1)),(5,.v (vC x12.1)),(6,.bl [.int .i64 a0.P,.int .i64 a0.Q,.int .i64 a0.G]),(8,.bl [.int .i64 a2.Kind,.int .i64 a2.Options,.int .i64 a2.Least,.int .i64 a2.Most,.int .i64 a2.Points]),(12,.bl [.int .i64 0,.sl true 2 [],.sl true 3 [],.sl true 1 [],.sl true 1 [],.sl true 1 []]),(13,.bl [.int .i64 x12.2.1,vO x12.2.2.1,vP x12.2.2.2.1,vD x12.2.2.2.2.1,vD x12.2.2.2.2.2.1,vD x12.2.2.2.2.2.2.1]),(14,.v (.str z1)),(16,.v (.int .i64 x12.2.2.2.2.2.2.2.1)),(17,.v (.int .i64 x12.2.2.2.2.2.2.2.2))]) (fun x12 hF=>?_) fun _ hj10 hF=>?_
 ·refine wX zCW follows ?_;refine wC hF [.sh,.sh] zop fun z53 hF=>?_
  refine wC hF [.sh,.sh,.sh,.sh,.sh] zf8 fun z54 hF=>?_
  refine wC hF [.sh,.sh,.sh,.sh,.sh,.sh] zmI fun z55 hF=>?_
  refine wK [12,13] ?_;exact wl hΦ hF
 refine wB ?_;obtain⟨b49,hb50,hψ41⟩:=hF;refine pR hb50 (fun i38 s37=>[(1,.v (.int .i64 a1)),(5,.v (vC s37.1)),(6,.bl [.int .i64 a0.P,.int .i64 a0.Q,.int .i64 a0.G]),(8,.bl [.int .i64 a2.Kind,.int .i64 a2.Options,.int .i64 a2.Least,.int .i64 a2.Most,.int .i64 a2.Points]),(12,.bl [.int .i64 0,.sl true 2 [],.sl true 3 [],.sl true 1 [],.sl true 1 [],.sl true 1 []]),(13,.bl [.int .i64 s37.2.1,vO s37.2.2.1,vP s37.2.2.2.1,vD s37.2.2.2.2.1,vD s37.2.2.2.2.2.1,vD s37.2.2.2.2.2.2.1]),(14,.v (.str z1)),(15,.v (.int .i64 z8)),(16,.v (.int .i64 s37.2.2.2.2.2.2.2.1)),(17,.v (.int .i64 s37.2.2.2.2.2.2.2.2)),(63,.v (vD z9)),(64,.v (.int .i64 (z9.length:Int))),(65,.v (.int .i64 i38))]) (fun s37 _ hN51=>?_) fun i38 s37 _ _ hi42 hi43 ho39 hg40 hF=>?_
 ·exact wn hN51 (hj10 _) hψ41
 refine wW ?_;refine wu hi42 hi43 ?_;refine wW ?_;refine wB ?_;obtain⟨x44,g,hF⟩:=Rx g hF;refine wW ?_;refine wX zBZ follows ?_;obtain⟨x45,g,hF⟩:=Rxn g 0 hF;refine wC hF [.sh,.sh,.sh,.sh] zor fun z46 hF=>?_
 refine wK [1,5,6,8,12,13,14,15,16,17,19,20,63,64,65] ?_;obtain⟨g,hF⟩:=Rg g hF;refine wW ?_;refine wX zB1 follows ?_;obtain⟨g,hF⟩:=Rg g hF;obtain⟨g,hF⟩:=Rg g hF;refine wD hF zf8 fun z47 hF=>?_
 refine wC hF [.sh,.sh,.sh,.sh,.sh,.sh] zmI fun z48 hF=>?_
 obtain⟨g,hF⟩:=Rg g hF;refine wK [1,5,6,8,12,13,14,15,16,17,19,63,64,65] ?_;refine wW ?_;refine wX zBC follows ?_;obtain⟨g,hF⟩:=Rz g hF;refine wK [1,5,6,8,12,13,14,15,16,17,63,64,65] ?_;obtain⟨g,hF⟩:=Rg g hF;obtain⟨g,hF⟩:=Rg g hF;refine wW ?_;exact wi hi42 hi43 (hg40 _) (zaa hF)
def zdx(a0:Group)(a1:Int)(a2:Contest)(a3:Int)(a4:List Int)(a5:List Int):Option (Sealed×Bool):=
 (((zb4 a0 a2).bind fun z4=>
 if(!z4)=true then(
 some true)else(
 (ze4 a0 [a1]).bind fun z6=>
 if(!z6)=true then(
 some true)else(
 (zbc a3 0 999999).bind fun z8=>
 if(!z8)=true then(
 some true)else(
 (zhw a2 a4).bind fun z10=>
 if(!z10)=true then(
 some true)else(
 (zf4 a2).bind fun z12=>
 if((a5.length:Int) !=z12)=true then(
 some true)else(
 (zer a0 a5).bind fun z14=>
 some (!z14)))))):Option Bool).bind fun x3=>
 if x3=true then(
 some ((Sealed.mk 0 [] [] (Proof.mk [] [] [])),false))else(
 (zfI a0 a1 a2 a3 a4 a5).bind fun z16=>
 some (z16,true)))
theorem zk0:∀{a0}{a1}{a2}{a3}{a4}{a5}{r},zdx a0 a1 a2 a3 a4 a5=some r→PCalls Tryz.prog 18 [(.sh,vE a0),(.sh,.int .i64 a1),(.sh,vF a2),(.sh,.int .i64 a3),(.sh,vC a4),(.sh,vC a5)] (Eo (.tup [vT r.1,.bool r.2]) [.junk,.junk,.junk,.junk,.junk,.junk]):=by
 intro a0 a1 a2 a3 a4 a5 r hr;apply pF 57 [] [] [] [.cell 12 51,.tmp 13] hr zJG Tryz.func18;intro Φ hΦ hF g;unfold zdx at hF;refine wW ?_;refine wJ hF (fun x3=>[(1,.v (.int .i64 a1)),(3,.v (.int .i64 a3)),(4,.v (vC a4)),(5,.v (vC a5)),(6,.bl [.int .i64 a0.P,.int .i64 a0.Q,.int .i64 a0.G]),(8,.bl [.int .i64 a2.Kind,.int .i64 a2.Options,.int .i64 a2.Least,.int .i64 a2.Most,.int .i64 a2.Points]),(12,.bl [.int .i64 0,.sl true 2 [],.sl true 3 [],.sl true 1 [],.sl true 1 [],.sl true 1 []]),(48,.v (.bool x3))]) (fun x3 hF=>?_) fun _ hj1 hF=>?_
 ·refine wI hF (fun h15 hF=>?_) fun h15 hF=>?_
  ·exact wl hΦ hF
  refine wW ?_;refine wC hF [.sh,.sh,.sh,.sh,.sh,.sh] zrX fun z16 hF=>?_
  refine wK [12,13] ?_;exact wm hΦ hF
 refine wC hF [.sh,.sh] zkB fun z4 hF=>?_
 refine wG hF (fun h5 hF=>?_) fun h5 hF=>?_
 ·exact wV h5 (hj1 _) (zaa hF)
 try simp[go_sem,g,h5]
 refine wC hF [.sh,.sh] ziK fun z6 hF=>?_
 try simp[go_sem,g,h5]
 refine wG hF (fun h7 hF=>?_) fun h7 hF=>?_
 ·exact wV h7 (hj1 _) (zaa hF)
 try simp[go_sem,g,h7]
 refine wC hF [.sh,.sh,.sh] zbZ fun z8 hF=>?_
 try simp[go_sem,g,h7]
 refine wG hF (fun h9 hF=>?_) fun h9 hF=>?_
 ·exact wV h9 (hj1 _) (zaa hF)
 try simp[go_sem,g,h9]
 refine wC hF [.sh,.sh] ztd fun z10 hF=>?_
 try simp[go_sem,g,h9]
 refine wG hF (fun h11 hF=>?_) fun h11 hF=>?_
 ·exact wV h11 (hj1 _) (zaa hF)
 try simp[go_sem,g,h11]
 try intros
 refine wC hF [.sh] zmG fun z12 hF=>?_
 try simp[go_sem,g,h11]
 refine wG hF (fun h13 hF=>?_) fun h13 hF=>?_
 ·exact wV h13 (hj1 _) (zaa hF)
 try simp[go_sem,g,h13]
 refine wC hF [.sh,.sh] zhg fun z14 hF=>?_
 exact wV h13 (hj1 _) (zaa hF)
@[go_sem] def zEQ:List DE:=[d0 0 [0],d0 1 [5],d0 2 [16,17],d0 3 [18],d0 4 [1],d0 5 [5],d0 6 [20,21],d0 7 [22],d0 8 [19,23]]
def zeL(a0:List Cipher)(a1:List Cipher):Option Bool:=
 if((a0.length:Int) !=(a1.length:Int))=true then(
 some false)else(
 ((zar (σ:=Unit) (fun i6 s5=>
 (ix a0 i6).bind fun x12=>
 (ix a1 i6).bind fun x13=>
 if(!(x12.A==x13.A&&x12.B==x13.B))=true then(
 some (.out (.inr false)))else(
 some (.go ()))) (fun s5=>.inl ()) (a0.length) 0 ():Option (Unit ⊕ Bool)).bind (Sum.elim (fun x4=>
 some true) some)))
theorem zmR:∀{a0}{a1}{r},zeL a0 a1=some r→PCalls Tryz.prog 69 [(.sh,vQ a0),(.sh,vQ a1)] (Eo (.bool r) [.junk,.junk]):=by
 intro a0 a1 r hr;apply pF 26 [] [] [] [.tmp 4] hr zJz Tryz.func69;intro Φ hΦ hF g;unfold zeL at hF
 iterate 2 (try simp[go_sem,g];try intros;refine zap ?_)
 refine wI hF (fun h1 hF=>?_) fun h1 hF=>?_
 ·exact wl hΦ hF
 iterate 2 (try simp[go_sem,g];try intros;refine zap ?_)
 refine wS hF (fun x4=>[]) (fun x4 hF=>?_) fun _ hj2 hr3 hF=>?_
 ·refine wK [4] ?_;exact wm hΦ hF
 refine wB ?_;obtain⟨b15,hb16,hψ9⟩:=hF;refine pR hb16 (fun i6 s5=>[(0,.v (vQ a0)),(1,.v (vQ a1)),(12,.v (.int .i64 (a0.length:Int))),(13,.v (.int .i64 i6))]) (fun s5 _ hN17=>?_) fun i6 s5 _ _ hi10 hi11 ho7 hg8 hF=>?_
 ·exact wn hN17 (hj2 _) hψ9
 refine wK [0,1,12,13,14] ?_;refine wu hi10 hi11 ?_;refine wW ?_;refine wB ?_;refine wW ?_;refine wX zEQ follows ?_;obtain⟨x12,g,hF⟩:=Rx g hF;obtain⟨x13,g,hF⟩:=Rx g hF;refine wK [0,1,12,13,24] ?_;refine wI hF (fun h14 hF=>?_) fun h14 hF=>?_
 ·cases ho7 _ (zaa hF);cases hΦ _ (hr3 _ hψ9);refine wW ?_;try simp[go_sem,g]
 refine wW ?_;exact wi hi10 hi11 (hg8 _) (zaa hF)
@[go_sem] def zGi:List DE:=[d0 0 [0],d0 1 [5],d0 2 [16,17],d0 3 [18],d0 4 [1],d0 5 [5],d0 6 [20,21],d0 7 [22],d0 8 [19,23]]
def zdC(a0:List Int)(a1:List Int):Option Bool:=
 if((a0.length:Int) !=(a1.length:Int))=true then(
 some false)else(
 ((zar (σ:=Unit) (fun i6 s5=>
 (ix a0 i6).bind fun x12=>
 (ix a1 i6).bind fun x13=>
 if(x12 !=x13)=true then(
 some (.out (.inr false)))else(
 some (.go ()))) (fun s5=>.inl ()) (a0.length) 0 ():Option (Unit ⊕ Bool)).bind (Sum.elim (fun x4=>
 some true) some)))
theorem zg7:∀{a0}{a1}{r},zdC a0 a1=some r→PCalls Tryz.prog 22 [(.sh,vC a0),(.sh,vC a1)] (Eo (.bool r) [.junk,.junk]):=by
 intro a0 a1 r hr;apply pF 26 [] [] [] [.tmp 4] hr zJq Tryz.func22;intro Φ hΦ hF g;unfold zdC at hF
 iterate 2 (try simp[go_sem,g];try intros;refine zap ?_)
 refine wI hF (fun h1 hF=>?_) fun h1 hF=>?_
 ·exact wl hΦ hF
 iterate 2 (try simp[go_sem,g];try intros;refine zap ?_)
 refine wS hF (fun x4=>[]) (fun x4 hF=>?_) fun _ hj2 hr3 hF=>?_
 ·refine wK [4] ?_;exact wm hΦ hF
 refine wB ?_;obtain⟨b15,hb16,hψ9⟩:=hF;refine pR hb16 (fun i6 s5=>[(0,.v (vC a0)),(1,.v (vC a1)),(12,.v (.int .i64 (a0.length:Int))),(13,.v (.int .i64 i6))]) (fun s5 _ hN17=>?_) fun i6 s5 _ _ hi10 hi11 ho7 hg8 hF=>?_
 ·exact wn hN17 (hj2 _) hψ9
 refine wK [0,1,12,13,14] ?_;refine wu hi10 hi11 ?_;refine wW ?_;refine wB ?_;refine wW ?_;refine wX zGi follows ?_;obtain⟨x12,g,hF⟩:=Rx g hF;obtain⟨x13,g,hF⟩:=Rx g hF;refine wK [0,1,12,13,24] ?_;refine wI hF (fun h14 hF=>?_) fun h14 hF=>?_
 ·cases ho7 _ (zaa hF);cases hΦ _ (hr3 _ hψ9);refine wW ?_;try simp[go_sem,g]
 refine wW ?_;exact wi hi10 hi11 (hg8 _) (zaa hF)
def zex(a0:Proof)(a1:Proof):Option Bool:=
 (((zdC a0.Commits a1.Commits).bind fun z4=>
 if z4=true then(
 (zdC a0.Challenges a1.Challenges).bind fun z6=>
 if z6=true then(
 (zdC a0.Responses a1.Responses).bind fun z8=>
 some z8)else(
 some false))else(
 some false):Option Bool).bind fun x3=>
 some x3)
theorem zjQ:∀{a0}{a1}{r},zex a0 a1=some r→PCalls Tryz.prog 70 [(.sh,vH a0),(.sh,vH a1)] (Eo (.bool r) [.junk,.junk]):=by
 intro a0 a1 r hr;apply pF 24 [] [] [] [.tmp 4] hr zK2 Tryz.func70;intro Φ hΦ hF g;unfold zex at hF;refine wW ?_;refine wJ hF (fun x3=>[(4,.v (.bool x3))]) (fun x3 hF=>?_) fun _ hj1 hF=>?_
 ·exact wm hΦ hF
 refine wC hF [.sh,.sh] zg7 fun z4 hF=>?_
 refine wG hF (fun h5 hF=>?_) fun h5 hF=>?_
 ·try simp[go_sem,g,h5]
  refine wC hF [.sh,.sh] zg7 fun z6 hF=>?_
  try simp[go_sem,g,h5]
  refine wG hF (fun h7 hF=>?_) fun h7 hF=>?_
  ·try simp[go_sem,g,h7]
   refine wC hF [.sh,.sh] zg7 fun z8 hF=>?_
   exact wV h7 (hj1 _) (zaa hF)
  exact wV h7 (hj1 _) (zaa hF)
 exact wV h5 (hj1 _) (zaa hF)
@[go_sem] def zGl:List DE:=[d1 0 [2] 2,d2 1 [42] 2 42,d0 2 [5],d0 3 [43,44],d0 4 [45],d1 5 [3] 3,d2 6 [47] 3 47,d0 7 [5],d0 8 [48,49],d0 9 [50],d3 10 [46,51],d0 11 [52]]
def zd8(a0:Sealed)(a1:Sealed):Option Bool:=
 ((if(a0.Voter !=a1.Voter)=true then(
 some true)else(
 (zeL a0.Ciphers a1.Ciphers).bind fun z5=>
 if(!z5)=true then(
 some true)else(
 if((a0.Proofs.length:Int) !=(a1.Proofs.length:Int))=true then(
 some true)else(
 (zex a0.Sum a1.Sum).bind fun z8=>
 some (!z8)))):Option Bool).bind fun x3=>
 if x3=true then(
 some false)else(
 ((zar (σ:=Unit) (fun i14 s13=>
 (ix a0.Proofs i14).bind fun x20=>
 (ix a1.Proofs i14).bind fun x21=>
 (zex x20 x21).bind fun z22=>
 if(!z22)=true then(
 some (.out (.inr false)))else(
 some (.go ()))) (fun s13=>.inl ()) (a0.Proofs.length) 0 ():Option (Unit ⊕ Bool)).bind (Sum.elim (fun x12=>
 some true) some))))
theorem zjt:∀{a0}{a1}{r},zd8 a0 a1=some r→PCalls Tryz.prog 19 [(.sh,vR a0),(.sh,vR a1)] (Eo (.bool r) [.junk,.junk]):=by
 intro a0 a1 r hr;apply pF 55 [] [] [] [.tmp 4] hr zLZ Tryz.func19;intro Φ hΦ hF g;unfold zd8 at hF;refine wW ?_;refine wJ hF (fun x3=>[(2,.bl [.int .i64 a0.Voter,vQ a0.Ciphers,vU a0.Proofs,vC a0.Sum.Commits,vC a0.Sum.Challenges,vC a0.Sum.Responses]),(3,.bl [.int .i64 a1.Voter,vQ a1.Ciphers,vU a1.Proofs,vC a1.Sum.Commits,vC a1.Sum.Challenges,vC a1.Sum.Responses]),(35,.v (.bool x3))]) (fun x3 hF=>?_) fun _ hj1 hF=>?_
 ·refine wI hF (fun h9 hF=>?_) fun h9 hF=>?_
  ·exact wl hΦ hF
  iterate 2 (try simp[go_sem,g];try intros;refine zap ?_)
  refine wS hF (fun x12=>[]) (fun x12 hF=>?_) fun _ hj10 hr11 hF=>?_
  ·exact wl hΦ hF
  refine wB ?_;obtain⟨b24,hb25,hψ17⟩:=hF;refine pR hb25 (fun i14 s13=>[(2,.bl [.int .i64 a0.Voter,vQ a0.Ciphers,vU a0.Proofs,vC a0.Sum.Commits,vC a0.Sum.Challenges,vC a0.Sum.Responses]),(3,.bl [.int .i64 a1.Voter,vQ a1.Ciphers,vU a1.Proofs,vC a1.Sum.Commits,vC a1.Sum.Challenges,vC a1.Sum.Responses]),(38,.v (.int .i64 (a0.Proofs.length:Int))),(39,.v (.int .i64 i14))]) (fun s13 _ hN26=>?_) fun i14 s13 _ _ hi18 hi19 ho15 hg16 hF=>?_
  ·exact wn hN26 (hj10 _) hψ17
  refine wW ?_;refine wu hi18 hi19 ?_;refine wW ?_;refine wB ?_;refine wK [2,3,5,38,39] ?_;refine wX zGl follows ?_;obtain⟨x20,g,hF⟩:=Rx g hF;obtain⟨x21,g,hF⟩:=Rx g hF;refine wC hF [.sh,.sh] zjQ fun z22 hF=>?_
  refine wK [2,3,38,39,53] ?_;refine wI hF (fun h23 hF=>?_) fun h23 hF=>?_
  ·cases ho15 _ (zaa hF);cases hΦ _ (hr11 _ hψ17);refine wW ?_;try simp[go_sem,g]
  refine wW ?_;exact wi hi18 hi19 (hg16 _) (zaa hF)
 refine wG hF (fun h4 hF=>?_) fun h4 hF=>?_
 ·exact wV h4 (hj1 _) (zaa hF)
 try simp[go_sem,g,h4]
 refine wC hF [.sh,.sh] zmR fun z5 hF=>?_
 try simp[go_sem,g,h4]
 refine wG hF (fun h6 hF=>?_) fun h6 hF=>?_
 ·exact wV h6 (hj1 _) (zaa hF)
 try simp[go_sem,g,h6]
 try intros
 refine wG hF (fun h7 hF=>?_) fun h7 hF=>?_
 ·exact wV h7 (hj1 _) (zaa hF)
 try simp[go_sem,g,h7]
 refine wC hF [.sh,.sh] zjQ fun z8 hF=>?_
 exact wV h7 (hj1 _) (zaa hF)
def zdf(a0:Contest):Option Int:=
 (zbi a0).bind fun z1=>
 if z1=true then(
 some a0.Options)else(
 some 1)
theorem ziO:∀{a0}{r},zdf a0=some r→PCalls Tryz.prog 74 [(.sh,vF a0)] (Eo (.int .i64 r) [.junk]):=by
 intro a0 r hr;apply pF 7 [] [] [] [.tmp 2] hr zKE Tryz.func74;intro Φ hΦ hF g;unfold zdf at hF;refine wW ?_;refine wC hF [.sh] zc4 fun z1 hF=>?_
 refine wW ?_;refine wI hF (fun h2 hF=>?_) fun h2 hF=>?_
 ·exact wl hΦ hF
 cases hΦ _ (zaa hF)
 iterate 2 refine wW ?_
 try simp[go_sem,g]
def zdP(a0:Group)(a1:Cipher):Option Bool:=
 (((zcz a0 a1.A).bind fun z4=>
 if z4=true then(
 (zcz a0 a1.B).bind fun z6=>
 some z6)else(
 some false):Option Bool).bind fun x3=>
 some x3)
theorem zlo:∀{a0}{a1}{r},zdP a0 a1=some r→PCalls Tryz.prog 154 [(.sh,vE a0),(.sh,vJ a1)] (Eo (.bool r) [.junk,.junk]):=by
 intro a0 a1 r hr;apply pF 15 [] [] [] [.tmp 4] hr zFh Tryz.func154;intro Φ hΦ hF g;unfold zdP at hF;refine wW ?_;refine wJ hF (fun x3=>[(4,.v (.bool x3))]) (fun x3 hF=>?_) fun _ hj1 hF=>?_
 ·exact wm hΦ hF
 refine wC hF [.sh,.sh] zfK fun z4 hF=>?_
 refine wG hF (fun h5 hF=>?_) fun h5 hF=>?_
 ·try simp[go_sem,g,h5]
  refine wC hF [.sh,.sh] zfK fun z6 hF=>?_
  exact wV h5 (hj1 _) (zaa hF)
 exact wV h5 (hj1 _) (zaa hF)
def zdT(a0:Cipher)(a1c0:Int)(a1c1:Int)(a1c2:Int):Option Bool:=
 (zdP (Group.mk a1c0 a1c1 a1c2) a0).bind fun z1=>
 some (!z1)
theorem zjK:∀{a0}{a1c0}{a1c1}{a1c2}{r},zdT a0 a1c0 a1c1 a1c2=some r→PCalls Tryz.prog 153 [(.sh,vJ a0),(.sh,.fp [.int .i64 a1c0,.int .i64 a1c1,.int .i64 a1c2])] (Eo (.bool r) [.junk,.junk]):=by
 intro a0 a1c0 a1c1 a1c2 r hr;apply pF 8 [] [] [] [.tmp 3] hr zEs Tryz.func153;intro Φ hΦ hF g;unfold zdT at hF;refine wW ?_;refine wC hF [.sh,.sh] zlo fun z1 hF=>?_
 exact wl hΦ hF
def zax(a0:List Cipher)(a1u0c0:Int)(a1u0c1:Int)(a1u0c2:Int):Option Int:=
 ((zar (σ:=Unit) (fun i5 s4=>
 (ix a0 i5).bind fun x11=>
 (zdT x11 a1u0c0 a1u0c1 a1u0c2).bind fun z12=>
 if z12=true then(
 some (.out (.inr i5)))else(
 some (.go ()))) (fun s4=>.inl ()) (a0.length) 0 ():Option (Unit ⊕ Int)).bind (Sum.elim (fun x3=>
 some (-1)) some))
theorem zdF:∀{a0}{a1u0c0}{a1u0c1}{a1u0c2}{r},zax a0 a1u0c0 a1u0c1 a1u0c2=some r→PCalls Tryz.prog 210 [(.sh,vQ a0),(.sh,.func (.func 153) [] [.fp [.int .i64 a1u0c0,.int .i64 a1u0c1,.int .i64 a1u0c2]])] (Eo (.int .i64 r) [.junk,.junk]):=by
 intro a0 a1u0c0 a1u0c1 a1u0c2 r hr;apply pF 19 [] [] [] [.tmp 4] hr zEn Tryz.func210;intro Φ hΦ hF g;unfold zax at hF
 iterate 2 (try simp[go_sem,g];try intros;refine zap ?_)
 refine wS hF (fun x3=>[]) (fun x3 hF=>?_) fun _ hj1 hr2 hF=>?_
 ·exact wl hΦ hF
 refine wB ?_;obtain⟨b14,hb15,hψ8⟩:=hF;refine pR hb15 (fun i5 s4=>[(0,.v (vQ a0)),(1,.v (.func (.func 153) [] [.fp [.int .i64 a1u0c0,.int .i64 a1u0c1,.int .i64 a1u0c2]])),(7,.v (.int .i64 (a0.length:Int))),(8,.v (.int .i64 i5))]) (fun s4 _ hN16=>?_) fun i5 s4 _ _ hi9 hi10 ho6 hg7 hF=>?_
 ·exact wn hN16 (hj1 _) hψ8
 refine wW ?_;refine wu hi9 hi10 ?_;refine wW ?_;refine wB ?_;obtain⟨x11,g,hF⟩:=Rx g hF;refine wW ?_;refine wC hF [.sh] zjK fun z12 hF=>?_
 refine wK [0,1,5,7,8,16] ?_;refine wI hF (fun h13 hF=>?_) fun h13 hF=>?_
 ·cases ho6 _ (zaa hF);cases hΦ _ (hr2 _ hψ8);refine wW ?_;try simp[go_sem,g]
 refine wW ?_;exact wi hi9 hi10 (hg7 _) (zaa hF)
def zaC(a0:List Cipher)(a1u0c0:Int)(a1u0c1:Int)(a1u0c2:Int):Option Bool:=
 (zax a0 a1u0c0 a1u0c1 a1u0c2).bind fun z1=>
 some (decide (0≤z1))
theorem zdl:∀{a0}{a1u0c0}{a1u0c1}{a1u0c2}{r},zaC a0 a1u0c0 a1u0c1 a1u0c2=some r→PCalls Tryz.prog 152 [(.sh,vQ a0),(.sh,.func (.func 153) [] [.fp [.int .i64 a1u0c0,.int .i64 a1u0c1,.int .i64 a1u0c2]])] (Eo (.bool r) [.junk,.junk]):=by
 intro a0 a1u0c0 a1u0c1 a1u0c2 r hr;apply pF 9 [] [] [] [.tmp 4] hr zGy Tryz.func152;intro Φ hΦ hF g;unfold zaC at hF;refine wW ?_;refine wC hF [.sh,.sh] zdF fun z1 hF=>?_
 exact wl hΦ hF
def zcw(a0:Group)(a1:List Cipher):Option Bool:=
 ((if decide ((a1.length:Int)≤24)=true then(
 (zaC a1 a0.P a0.Q a0.G).bind fun z5=>
 some (!z5))else(
 some false):Option Bool).bind fun x3=>
 some x3)
theorem zhM:∀{a0}{a1}{r},zcw a0 a1=some r→PCalls Tryz.prog 73 [(.sh,vE a0),(.sh,vQ a1)] (Eo (.bool r) [.junk,.junk]):=by
 intro a0 a1 r hr;apply pF 14 [] [] [1000000] [.tmp 4] hr zJJ Tryz.func73;intro Φ hΦ hF g;unfold zcw at hF;refine wW ?_;refine wJ hF (fun x3=>[(4,.v (.bool x3))]) (fun x3 hF=>?_) fun _ hj1 hF=>?_
 ·exact wm hΦ hF
 try simp[go_sem,g]
 try intros
 refine wG hF (fun h4 hF=>?_) fun h4 hF=>?_
 ·try simp[go_sem,g,h4]
  refine wC hF [.sh,.sh] zdl fun z5 hF=>?_
  exact wV h4 (hj1 _) (zaa hF)
 exact wV h4 (hj1 _) (zaa hF)
def zew(a0:Proof):Option Bool:=
 ((if((a0.Commits.length:Int)==0)=true then(
 if((a0.Challenges.length:Int)==0)=true then(
 some ((a0.Responses.length:Int)==0))else(
 some false))else(
 some false):Option Bool).bind fun x3=>
 some x3)
theorem zl4:∀{a0}{r},zew a0=some r→PCalls Tryz.prog 149 [(.sh,vH a0)] (Eo (.bool r) [.junk]):=by
 intro a0 r hr;apply pF 19 [] [] [] [.tmp 2] hr zG9 Tryz.func149;intro Φ hΦ hF g;unfold zew at hF;refine wW ?_;refine wJ hF (fun x3=>[(2,.v (.bool x3))]) (fun x3 hF=>?_) fun _ hj1 hF=>?_
 ·exact wm hΦ hF
 try simp[go_sem,g]
 try intros
 refine wG hF (fun h4 hF=>?_) fun h4 hF=>?_
 ·try simp[go_sem,g,h4]
  try intros
  refine wG hF (fun h5 hF=>?_) fun h5 hF=>?_
  ·try simp[go_sem,g,h5]
   try intros
   exact wT (hj1 _) (zaa hF)
  exact wV h5 (hj1 _) (zaa hF)
 exact wV h4 (hj1 _) (zaa hF)
@[go_sem] def zCV:List DE:=[d1 0 [9] 9,d2 1 [15] 9 15,d0 2 [16],d0 3 [2],d0 4 [18],d0 5 [17,19],d0 6 [20],d1 7 [9,21] 9,d2 8 [22,21] 9 22,d0 9 [23,21],d0 10 [24,21],d0 11 [21,25],d0 12 [26],d1 13 [9,27] 9,d2 14 [28,27] 9 28,d0 15 [29,27],d0 16 [2,27],d0 17 [31,27],d0 18 [32,27],d0 19 [33,27],d0 20 [30,34,27],d0 21 [27,35],d0 22 [36],d2 23 [5,37] 5 5,d1 24 [9,37] 9,d2 25 [39,37] 9 39,d3 26 [38,40,37],d0 27 [41,37],d0 28 [37,42],d0 29 [43],d2 30 [5,44] 5 5,d1 31 [9,44] 9,d2 32 [46,44] 9 46,d3 33 [45,47,44],d0 34 [48,44],d0 35 [44,49]]
@[go_sem] def zCJ:List DE:=[d2 0 [5] 5 5,d0 1 [1],d0 2 [2],d0 4 [3],d1 5 [9] 9,d2 6 [57] 9 57,d3 3 [54],d0 7 [55,56,58],⟨8,[59],[],none,true,true,true⟩,d3 9 [52,53,60],d0 10 [61],d0 11 [51],d0 12 [51],d0 13 [62],d0 14 [63]]
@[go_sem] def zBA:List DE:=[d0 0 [14],d2 1 [5] 5 5,d1 2 [9] 9,d2 3 [87] 9 87,d0 4 [13],d0 5 [88,89],d0 6 [90],d2 7 [5] 5 5,d0 8 [3],d0 9 [13],d0 10 [93,94],d0 11 [95],d0 12 [11],⟨13,[92,96,97],[],none,false,true,false⟩,d0 14 [91,98],⟨15,[86,99],[],none,true,true,true⟩,d0 16 [85,100]]
def zcT(a0:Group)(a1:ByteArray)(a2:(List (List Int)))(a3:List Int)(a4:Proof):Option Bool:=
 ((if((a4.Commits.length:Int) !=(a2.length:Int))=true then(
 some true)else(
 if((a4.Challenges.length:Int) !=1)=true then(
 some true)else(
 (ix a2 0).bind fun x6=>
 if((a4.Responses.length:Int) !=(x6.length:Int))=true then(
 some true)else(
 (zbV a0 a4.Commits).bind fun z8=>
 if(!z8)=true then(
 some true)else(
 (zaM a0 a4.Responses).bind fun z10=>
 some (!z10))))):Option Bool).bind fun x3=>
 if x3=true then(
 some false)else(
 (zbn a2).bind fun z12=>
 (zbn [z12,a3,a4.Commits]).bind fun z13=>
 (zbu a0 a1 z13).bind fun z14=>
 ((if(!z14.2)=true then(
 some true)else(
 (ix a4.Challenges 0).bind fun x19=>
 some (x19 !=z14.1)):Option Bool).bind fun x17=>
 if x17=true then(
 some false)else(
 (zcN a0 a2 a4.Responses).bind fun z21=>
 ((zar (σ:=Unit) (fun i26 s25=>
 (ix z21 i26).bind fun x32=>
 (ix a4.Commits i26).bind fun x33=>
 (ix a3 i26).bind fun x34=>
 (zav a0 x34 z14.1).bind fun z35=>
 (zaP a0 [x33,z35]).bind fun z36=>
 if(x32 !=z36)=true then(
 some (.out (.inr false)))else(
 some (.go ()))) (fun s25=>.inl ()) (z21.length) 0 ():Option (Unit ⊕ Bool)).bind (Sum.elim (fun x24=>
 some true) some))))))
theorem zjZ:∀{a0}{a1}{a2}{a3}{a4}{r},zcT a0 a1 a2 a3 a4=some r→PCalls Tryz.prog 150 [(.sh,vE a0),(.sh,.str a1),(.sh,vG a2),(.sh,vC a3),(.sh,vH a4)] (Eo (.bool r) [.junk,.junk,.junk,.junk,.junk]):=by
 intro a0 a1 a2 a3 a4 r hr;apply pF 103 [] [368] [] [.tmp 10] hr zGa Tryz.func150;intro Φ hΦ hF g;unfold zcT at hF;refine wW ?_;refine wJ hF (fun x3=>[(1,.v (.str a1)),(2,.v (vG a2)),(3,.v (vC a3)),(5,.bl [.int .i64 a0.P,.int .i64 a0.Q,.int .i64 a0.G]),(9,.bl [vC a4.Commits,vC a4.Challenges,vC a4.Responses]),(50,.v (.bool x3))]) (fun x3 hF=>?_) fun _ hj1 hF=>?_
 ·refine wI hF (fun h11 hF=>?_) fun h11 hF=>?_
  ·exact wl hΦ hF
  refine wW ?_;refine wX zCJ follows ?_;refine wC hF [.sh] zdn fun z12 hF=>?_
  refine wC hF [.sh] zdn fun z13 hF=>?_
  refine wC hF [.sh,.sh,.sh] zgp fun z14 hF=>?_
  refine wK [2,3,5,9,11,12] ?_;refine wJ hF (fun x17=>[(2,.v (vG a2)),(3,.v (vC a3)),(5,.bl [.int .i64 a0.P,.int .i64 a0.Q,.int .i64 a0.G]),(9,.bl [vC a4.Commits,vC a4.Challenges,vC a4.Responses]),(11,.v (.int .i64 z14.1)),(73,.v (.bool x17))]) (fun x17 hF=>?_) fun _ hj15 hF=>?_
  ·refine wI hF (fun h20 hF=>?_) fun h20 hF=>?_
   ·exact wl hΦ hF
   refine wW ?_;refine wC hF [.sh,.sh,.sh] zg4 fun z21 hF=>?_
   try simp[go_sem,g]
   try intros
   refine zap ?_;refine wS hF (fun x24=>[]) (fun x24 hF=>?_) fun _ hj22 hr23 hF=>?_
   ·exact wl hΦ hF
   refine wB ?_;obtain⟨b38,hb39,hψ29⟩:=hF;refine pR hb39 (fun i26 s25=>[(3,.v (vC a3)),(5,.bl [.int .i64 a0.P,.int .i64 a0.Q,.int .i64 a0.G]),(9,.bl [vC a4.Commits,vC a4.Challenges,vC a4.Responses]),(11,.v (.int .i64 z14.1)),(78,.v (vD z21)),(79,.v (.int .i64 (z21.length:Int))),(80,.v (.int .i64 i26))]) (fun s25 _ hN40=>?_) fun i26 s25 _ _ hi30 hi31 ho27 hg28 hF=>?_
   ·exact wn hN40 (hj22 _) hψ29
   refine wW ?_;refine wu hi30 hi31 ?_;refine wW ?_;refine wB ?_;obtain⟨x32,g,hF⟩:=Rx g hF;refine wK [3,5,9,11,13,14,78,79,80] ?_;refine wX zBA follows ?_;obtain⟨x33,g,hF⟩:=Rx g hF;obtain⟨x34,g,hF⟩:=Rx g hF;refine wD hF zaR fun z35 hF=>?_
   refine wC hF [.sh,.sh] zcc fun z36 hF=>?_
   refine wK [3,5,9,11,78,79,80,101] ?_;refine wI hF (fun h37 hF=>?_) fun h37 hF=>?_
   ·cases ho27 _ (zaa hF);cases hΦ _ (hr23 _ hψ29);refine wW ?_;try simp[go_sem,g]
   refine wW ?_;exact wi hi30 hi31 (hg28 _) (zaa hF)
  refine wG hF (fun h18 hF=>?_) fun h18 hF=>?_
  ·exact wV h18 (hj15 _) (zaa hF)
  obtain⟨x19,g,hF⟩:=Rxn g 0 hF;exact wV h18 (hj15 _) (zaa hF)
 refine wX zCV follows ?_;try simp[go_sem,g]
 try intros
 refine wH hF (fun h4 hF=>?_) fun h4 hF=>?_
 ·exact wV h4 (hj1 _) (zaa hF)
 try simp[go_sem,g,h4]
 try intros
 refine wH hF (fun h5 hF=>?_) fun h5 hF=>?_
 ·exact wV h5 (hj1 _) (zaa hF)
 obtain⟨x6,g,hF⟩:=Rxn g 0 hF;try simp[go_sem,g,h5]
 try intros
 refine wH hF (fun h7 hF=>?_) fun h7 hF=>?_
 ·exact wV h7 (hj1 _) (zaa hF)
 try simp[go_sem,g,h7]
 refine wC hF [.sh,.sh] zfR fun z8 hF=>?_
 try simp[go_sem,g,h7]
 refine wH hF (fun h9 hF=>?_) fun h9 hF=>?_
 ·exact wV h9 (hj1 _) (zaa hF)
 try simp[go_sem,g,h9]
 refine wC hF [.sh,.sh] zbJ fun z10 hF=>?_
 exact wV h9 (hj1 _) (zaa hF)
@[go_sem] def zC7:List DE:=[d2 0 [3] 3 3,d2 1 [9] 9 9,d1 2 [5] 5,d2 3 [65] 5 65,d0 4 [8],d0 5 [66,67],d0 6 [68],d1 7 [5] 5,d2 8 [70] 5 70,d0 9 [8],d0 10 [71,72],d0 11 [73],d3 12 [63,64,69,74],d0 13 [75],d0 14 [62],d0 15 [62],d0 16 [76],d0 17 [77]]
def zen(a0:Group)(a1:List EqualLog)(a2:Proof):Option Bool:=
 ((if((a2.Commits.length:Int) !=(i64.wrap (2*(a1.length:Int))))=true then(
 some true)else(
 if((a2.Challenges.length:Int) !=(a1.length:Int))=true then(
 some true)else(
 if((a2.Responses.length:Int) !=(a1.length:Int))=true then(
 some true)else(
 (zbV a0 a2.Commits).bind fun z7=>
 if(!z7)=true then(
 some true)else(
 (zaM a0 a2.Challenges).bind fun z9=>
 if(!z9)=true then(
 some true)else(
 (zaM a0 a2.Responses).bind fun z11=>
 some (!z11)))))):Option Bool).bind fun x3=>
 if x3=true then(
 some false)else(
 ((zar (σ:=Unit) (fun i17 s16=>
 (ix a1 i17).bind fun x23=>
 (ix a2.Challenges i17).bind fun x24=>
 (ix a2.Responses i17).bind fun x25=>
 (zce a0 x23 x24 x25).bind fun z26=>
 (((ix a2.Commits (i64.wrap (2*i17))).bind fun x30=>
 if(z26.1 !=x30)=true then(
 some true)else(
 (ix a2.Commits (i64.wrap ((i64.wrap (2*i17))+1))).bind fun x32=>
 some (z26.2 !=x32)):Option Bool).bind fun x29=>
 if x29=true then(
 some (.out (.inr false)))else(
 some (.go ())))) (fun s16=>.inl ()) (a1.length) 0 ():Option (Unit ⊕ Bool)).bind (Sum.elim (fun x15=>
 some true) some))))
theorem zmu:∀{a0}{a1}{a2}{r},zen a0 a1 a2=some r→PCalls Tryz.prog 209 [(.sh,vE a0),(.sh,vM a1),(.sh,vH a2)] (Eo (.bool r) [.junk,.junk,.junk]):=by
 intro a0 a1 a2 r hr;apply pF 98 [] [] [] [.tmp 6] hr zHj Tryz.func209;intro Φ hΦ hF g;unfold zen at hF
 iterate 2 (try simp[go_sem,g];try intros;refine zap ?_)
 refine wJ hF (fun x3=>[(1,.v (vM a1)),(3,.bl [.int .i64 a0.P,.int .i64 a0.Q,.int .i64 a0.G]),(5,.bl [vC a2.Commits,vC a2.Challenges,vC a2.Responses]),(54,.v (.bool x3))]) (fun x3 hF=>?_) fun _ hj1 hF=>?_
 ·refine wI hF (fun h12 hF=>?_) fun h12 hF=>?_
  ·exact wl hΦ hF
  iterate 2 (try simp[go_sem,g];try intros;refine zap ?_)
  refine wS hF (fun x15=>[]) (fun x15 hF=>?_) fun _ hj13 hr14 hF=>?_
  ·refine wK [6] ?_;exact wm hΦ hF
  refine wB ?_;obtain⟨b34,hb35,hψ20⟩:=hF;refine pR hb35 (fun i17 s16=>[(3,.bl [.int .i64 a0.P,.int .i64 a0.Q,.int .i64 a0.G]),(5,.bl [vC a2.Commits,vC a2.Challenges,vC a2.Responses]),(55,.v (vM a1)),(56,.v (.int .i64 (a1.length:Int))),(57,.v (.int .i64 i17))]) (fun s16 _ hN36=>?_) fun i17 s16 _ _ hi21 hi22 ho18 hg19 hF=>?_
  ·exact wn hN36 (hj13 _) hψ20
  refine wK [3,5,55,56,57,58] ?_;refine wu hi21 hi22 ?_;refine wW ?_;refine wB ?_;obtain⟨x23,g,hF⟩:=Rx g hF;refine wW ?_;refine wX zC7 follows ?_;obtain⟨x24,g,hF⟩:=Rx g hF;obtain⟨x25,g,hF⟩:=Rx g hF;refine wC hF [.sh,.sh,.sh,.sh] zhV fun z26 hF=>?_
  refine wK [3,5,8,10,11,55,56,57] ?_;refine wJ hF (fun x29=>[(3,.bl [.int .i64 a0.P,.int .i64 a0.Q,.int .i64 a0.G]),(5,.bl [vC a2.Commits,vC a2.Challenges,vC a2.Responses]),(55,.v (vM a1)),(56,.v (.int .i64 (a1.length:Int))),(57,.v (.int .i64 i17)),(96,.v (.bool x29))]) (fun x29 hF=>?_) fun _ hj27 hF=>?_
  ·refine wI hF (fun h33 hF=>?_) fun h33 hF=>?_
   ·cases ho18 _ (zaa hF);cases hΦ _ (hr14 _ hψ20);refine wW ?_;try simp[go_sem,g]
   refine wW ?_;exact wi hi21 hi22 (hg19 _) (zaa hF)
  obtain⟨x30,g,hF⟩:=Rx g hF;refine wG hF (fun h31 hF=>?_) fun h31 hF=>?_
  ·exact wV h31 (hj27 _) (zaa hF)
  obtain⟨x32,g,hF⟩:=Rx g hF;exact wV h31 (hj27 _) (zaa hF)
 try simp[go_sem,g]
 try intros
 refine wG hF (fun h4 hF=>?_) fun h4 hF=>?_
 ·exact wV h4 (hj1 _) (zaa hF)
 try simp[go_sem,g,h4]
 try intros
 refine wG hF (fun h5 hF=>?_) fun h5 hF=>?_
 ·exact wV h5 (hj1 _) (zaa hF)
 try simp[go_sem,g,h5]
 try intros
 refine wG hF (fun h6 hF=>?_) fun h6 hF=>?_
 ·exact wV h6 (hj1 _) (zaa hF)
 try simp[go_sem,g,h6]
 refine wC hF [.sh,.sh] zfR fun z7 hF=>?_
 try simp[go_sem,g,h6]
 refine wG hF (fun h8 hF=>?_) fun h8 hF=>?_
 ·exact wV h8 (hj1 _) (zaa hF)
 try simp[go_sem,g,h8]
 refine wC hF [.sh,.sh] zbJ fun z9 hF=>?_
 try simp[go_sem,g,h8]
 refine wG hF (fun h10 hF=>?_) fun h10 hF=>?_
 ·exact wV h10 (hj1 _) (zaa hF)
 try simp[go_sem,g,h10]
 refine wC hF [.sh,.sh] zbJ fun z11 hF=>?_
 exact wV h10 (hj1 _) (zaa hF)
def zbU(a0:Group)(a1:ByteArray)(a2:List EqualLog)(a3:Proof):Option Bool:=
 (zen a0 a2 a3).bind fun z1=>
 if(!z1)=true then(
 some false)else(
 (zbb a0 a1 a2 a3.Commits).bind fun z3=>
 ((if z3.2=true then(
 (zhE a3.Challenges a0.Q).bind fun z8=>
 some (z8==z3.1))else(
 some false):Option Bool).bind fun x6=>
 some x6))
theorem zhz:∀{a0}{a1}{a2}{a3}{r},zbU a0 a1 a2 a3=some r→PCalls Tryz.prog 151 [(.sh,vE a0),(.sh,.str a1),(.sh,vM a2),(.sh,vH a3)] (Eo (.bool r) [.junk,.junk,.junk,.junk]):=by
 intro a0 a1 a2 a3 r hr;apply pF 35 [] [] [] [.tmp 8] hr zEe Tryz.func151;intro Φ hΦ hF g;unfold zbU at hF;refine wW ?_;refine wC hF [.sh,.sh,.sh] zmu fun z1 hF=>?_
 refine wW ?_;refine wI hF (fun h2 hF=>?_) fun h2 hF=>?_
 ·exact wl hΦ hF
 refine wW ?_;refine wC hF [.sh,.sh,.sh,.sh] zgH fun z3 hF=>?_
 refine wK [4,7,9,10] ?_;refine wJ hF (fun x6=>[(8,.v (.bool x6))]) (fun x6 hF=>?_) fun _ hj4 hF=>?_
 ·exact wm hΦ hF
 refine wG hF (fun h7 hF=>?_) fun h7 hF=>?_
 ·try simp[go_sem,g,h7]
  refine wC hF [.sh,.sh] zpb fun z8 hF=>?_
  exact wV h7 (hj4 _) (zaa hF)
 exact wV h7 (hj4 _) (zaa hF)
@[go_sem] def zB7:List DE:=[d2 0 [4] 4 4,d0 1 [10],d2 2 [4] 4 4,d0 3 [1],d2 4 [12] 12 12,d2 5 [6] 6 6,d1 8 [7] 7,d2 9 [84] 7 84,d0 10 [11],d0 11 [85,86],d0 12 [87],⟨6,[81],[],none,false,true,false⟩,⟨7,[78,79,80,82],[],none,false,true,false⟩,d3 13 [76,77,83,88],d0 14 [89]]
@[go_sem] def zDf:List DE:=[d2 0 [4] 4 4,d0 1 [10],d2 2 [4] 4 4,d0 3 [1],d2 4 [4] 4 4,d1 5 [7] 7,d2 6 [97] 7 97,d1 8 [6] 6,d2 9 [100] 6 100,d1 10 [6] 6,d2 11 [102] 6 102,d1 13 [7] 7,d2 14 [105] 7 105,d3 7 [96,98],d3 12 [94,95,99,101,103],d3 15 [92,93,104,106],d0 16 [107]]
@[go_sem] def zFI:List DE:=[d1 0 [7] 7,d2 1 [46] 7 46,d3 2 [47],d0 3 [48],d2 4 [4,49] 4 4,d0 5 [10,49],d1 6 [4,49] 4,d2 7 [52,49] 4 52,d0 8 [53,49],d1 10 [7,49] 7,d2 11 [56,49] 7 56,d0 12 [57,49],d0 13 [58,49],d0 14 [59,49],d0 15 [60,49],d1 16 [7,49] 7,d2 17 [62,49] 7 62,d0 18 [63,49],d0 19 [64,49],⟨9,[54,49],[],none,true,true,false⟩,⟨20,[50,51,55,61,65,49],[],none,true,true,true⟩,d0 21 [49,66],d0 22 [67]]
def zd4(a0:Group)(a1:Int)(a2:Contest)(a3:Sealed):Option Bool:=
 (zdf a2).bind fun z1=>
 (((zeT a3.Voter).bind fun z5=>
 if(!z5)=true then(
 some true)else(
 if((a3.Ciphers.length:Int) !=z1)=true then(
 some true)else(
 if((a3.Proofs.length:Int) !=z1)=true then(
 some true)else(
 (zcw a0 a3.Ciphers).bind fun z9=>
 some (!z9)))):Option Bool).bind fun x4=>
 if x4=true then(
 some false)else(
 (zdX a3.Voter).bind fun z11=>
 (zbi a2).bind fun z12=>
 if(!z12)=true then(
 (((zew a3.Sum).bind fun z17=>
 if z17=true then(
 (ix a3.Ciphers 0).bind fun x19=>
 (ix a3.Proofs 0).bind fun x20=>
 (zcT a0 z11 [[a0.G]] [x19.A] x20).bind fun z21=>
 some z21)else(
 some false):Option Bool).bind fun x16=>
 some x16))else(
 ((zar (σ:=Unit) (fun i26 s25=>
 (ix a3.Ciphers i26).bind fun x32=>
 (ix a3.Proofs i26).bind fun x33=>
 (zbD a2).bind fun z34=>
 (za5 a0 a1 x32 0 z34).bind fun z35=>
 (zbU a0 z11 z35 x33).bind fun z36=>
 if(!z36)=true then(
 some (.out (.inr false)))else(
 some (.go ()))) (fun s25=>.inl ()) (a3.Ciphers.length) 0 ():Option (Unit ⊕ Bool)).bind (Sum.elim (fun x24=>
 (zbl a0 a3.Ciphers).bind fun z42=>
 (za5 a0 a1 z42 a2.Least a2.Most).bind fun z43=>
 (zbU a0 z11 z43 a3.Sum).bind fun z44=>
 some z44) some)))))
theorem zlN:∀{a0}{a1}{a2}{a3}{r},zd4 a0 a1 a2 a3=some r→PCalls Tryz.prog 71 [(.sh,vE a0),(.sh,.int .i64 a1),(.sh,vF a2),(.sh,vR a3)] (Eo (.bool r) [.junk,.junk,.junk,.junk]):=by
 intro a0 a1 a2 a3 r hr;apply pF 108 [] [] [] [.tmp 8] hr zKr Tryz.func71;intro Φ hΦ hF g;unfold zd4 at hF;refine wW ?_;refine wC hF [.sh] ziO fun z1 hF=>?_
 refine wW ?_;refine wJ hF (fun x4=>[(1,.v (.int .i64 a1)),(4,.bl [.int .i64 a0.P,.int .i64 a0.Q,.int .i64 a0.G]),(6,.bl [.int .i64 a2.Kind,.int .i64 a2.Options,.int .i64 a2.Least,.int .i64 a2.Most,.int .i64 a2.Points]),(7,.bl [.int .i64 a3.Voter,vQ a3.Ciphers,vU a3.Proofs,vC a3.Sum.Commits,vC a3.Sum.Challenges,vC a3.Sum.Responses]),(39,.v (.bool x4))]) (fun x4 hF=>?_) fun _ hj2 hF=>?_
 ·refine wI hF (fun h10 hF=>?_) fun h10 hF=>?_
  ·exact wl hΦ hF
  refine wW ?_;refine wC hF [.sh] zjz fun z11 hF=>?_
  refine wK [1,4,6,7,10] ?_;refine wC hF [.sh] zc4 fun z12 hF=>?_
  refine wW ?_;refine wI hF (fun h13 hF=>?_) fun h13 hF=>?_
  ·refine wJ hF (fun x16=>[(8,.v (.bool x16))]) (fun x16 hF=>?_) fun _ hj14 hF=>?_
   ·exact wm hΦ hF
   refine wX zFI follows ?_;refine wC hF [.sh] zl4 fun z17 hF=>?_
   refine wH hF (fun h18 hF=>?_) fun h18 hF=>?_
   ·obtain⟨x19,g,hF⟩:=Rxn g 0 hF;obtain⟨x20,g,hF⟩:=Rxn g 0 hF;try simp[go_sem,g,h18]
    refine wC hF [.sh,.sh,.sh,.sh,.sh] zjZ fun z21 hF=>?_
    exact wV h18 (hj14 _) (zaa hF)
   exact wV h18 (hj14 _) (zaa hF)
  iterate 2 (try simp[go_sem,g];try intros;refine zap ?_)
  refine wS hF (fun x24=>[(1,.v (.int .i64 a1)),(4,.bl [.int .i64 a0.P,.int .i64 a0.Q,.int .i64 a0.G]),(6,.bl [.int .i64 a2.Kind,.int .i64 a2.Options,.int .i64 a2.Least,.int .i64 a2.Most,.int .i64 a2.Points]),(7,.bl [.int .i64 a3.Voter,vQ a3.Ciphers,vU a3.Proofs,vC a3.Sum.Commits,vC a3.Sum.Challenges,vC a3.Sum.Responses]),(10,.v (.str z11))]) (fun x24 hF=>?_) fun _ hj22 hr23 hF=>?_
  ·refine wX zDf follows ?_;refine wC hF [.sh,.sh] zhN fun z42 hF=>?_
   refine wC hF [.sh,.sh,.sh,.sh,.sh] zeG fun z43 hF=>?_
   refine wC hF [.sh,.sh,.sh,.sh] zhz fun z44 hF=>?_
   refine wK [8] ?_;exact wm hΦ hF
  refine wB ?_;obtain⟨b38,hb39,hψ29⟩:=hF;refine pR hb39 (fun i26 s25=>[(1,.v (.int .i64 a1)),(4,.bl [.int .i64 a0.P,.int .i64 a0.Q,.int .i64 a0.G]),(6,.bl [.int .i64 a2.Kind,.int .i64 a2.Options,.int .i64 a2.Least,.int .i64 a2.Most,.int .i64 a2.Points]),(7,.bl [.int .i64 a3.Voter,vQ a3.Ciphers,vU a3.Proofs,vC a3.Sum.Commits,vC a3.Sum.Challenges,vC a3.Sum.Responses]),(10,.v (.str z11)),(69,.v (vQ a3.Ciphers)),(70,.v (.int .i64 (a3.Ciphers.length:Int))),(71,.v (.int .i64 i26))]) (fun s25 _ hN40=>?_) fun i26 s25 _ _ hi30 hi31 ho27 hg28 hF=>?_
  ·exact wn hN40 (hj22 _) hψ29
  refine wW ?_;refine wu hi30 hi31 ?_;refine wW ?_;refine wB ?_;obtain⟨x32,g,hF⟩:=Rx g hF;refine wK [1,4,6,7,10,11,12,69,70,71] ?_;refine wX zB7 follows ?_;obtain⟨x33,g,hF⟩:=Rx g hF;refine wD hF zfV fun z34 hF=>?_
  refine wD hF zeG fun z35 hF=>?_
  refine wC hF [.sh,.sh,.sh,.sh] zhz fun z36 hF=>?_
  refine wK [1,4,6,7,10,69,70,71,90] ?_;refine wI hF (fun h37 hF=>?_) fun h37 hF=>?_
  ·cases ho27 _ (zaa hF);cases hΦ _ (hr23 _ hψ29);refine wW ?_;try simp[go_sem,g]
  refine wW ?_;exact wi hi30 hi31 (hg28 _) (zaa hF)
 refine wC hF [.sh] zjb fun z5 hF=>?_
 refine wG hF (fun h6 hF=>?_) fun h6 hF=>?_
 ·exact wV h6 (hj2 _) (zaa hF)
 try simp[go_sem,g,h6]
 try intros
 refine wG hF (fun h7 hF=>?_) fun h7 hF=>?_
 ·exact wV h7 (hj2 _) (zaa hF)
 try simp[go_sem,g,h7]
 try intros
 refine wG hF (fun h8 hF=>?_) fun h8 hF=>?_
 ·exact wV h8 (hj2 _) (zaa hF)
 try simp[go_sem,g,h8]
 refine wC hF [.sh,.sh] zhM fun z9 hF=>?_
 exact wV h8 (hj2 _) (zaa hF)
def zdJ(a0:Group)(a1:Int)(a2:Contest)(a3:Sealed):Option (Bool×Bool):=
 (((zdv a0 a2).bind fun z4=>
 if(!z4)=true then(
 some true)else(
 (zcz a0 a1).bind fun z6=>
 some (!z6)):Option Bool).bind fun x3=>
 if x3=true then(
 some (false,false))else(
 (zd4 a0 a1 a2 a3).bind fun z8=>
 some (z8,true)))
theorem ziY:∀{a0}{a1}{a2}{a3}{r},zdJ a0 a1 a2 a3=some r→PCalls Tryz.prog 20 [(.sh,vE a0),(.sh,.int .i64 a1),(.sh,vF a2),(.sh,vR a3)] (Eo (.tup [.bool r.1,.bool r.2]) [.junk,.junk,.junk,.junk]):=by
 intro a0 a1 a2 a3 r hr;apply pF 25 [] [] [] [.tmp 8,.tmp 9] hr zI9 Tryz.func20;intro Φ hΦ hF g;unfold zdJ at hF;refine wW ?_;refine wJ hF (fun x3=>[(1,.v (.int .i64 a1)),(4,.bl [.int .i64 a0.P,.int .i64 a0.Q,.int .i64 a0.G]),(6,.bl [.int .i64 a2.Kind,.int .i64 a2.Options,.int .i64 a2.Least,.int .i64 a2.Most,.int .i64 a2.Points]),(7,.bl [.int .i64 a3.Voter,vQ a3.Ciphers,vU a3.Proofs,vC a3.Sum.Commits,vC a3.Sum.Challenges,vC a3.Sum.Responses]),(19,.v (.bool x3))]) (fun x3 hF=>?_) fun _ hj1 hF=>?_
 ·refine wI hF (fun h7 hF=>?_) fun h7 hF=>?_
  ·exact wl hΦ hF
  refine wW ?_;refine wC hF [.sh,.sh,.sh,.sh] zlN fun z8 hF=>?_
  refine wK [8,9] ?_;exact wm hΦ hF
 refine wC hF [.sh,.sh] zhP fun z4 hF=>?_
 refine wG hF (fun h5 hF=>?_) fun h5 hF=>?_
 ·exact wV h5 (hj1 _) (zaa hF)
 try simp[go_sem,g,h5]
 refine wC hF [.sh,.sh] zfK fun z6 hF=>?_
 exact wV h5 (hj1 _) (zaa hF)
def zgK(a0:Group)(a1:Int):Option Int:=
 (zav a0 a1 (-1)).bind fun z1=>
 some z1
theorem zoF:∀{a0}{a1}{r},zgK a0 a1=some r→PCalls Tryz.prog 155 [(.sh,vE a0),(.sh,.int .i64 a1)] (Eo (.int .i64 r) [.junk,.junk]):=by
 intro a0 a1 r hr;apply pF 8 [] [] [] [.tmp 4] hr zFx Tryz.func155;intro Φ hΦ hF g;unfold zgK at hF;refine wW ?_;refine wC hF [.sh,.sh,.sh] zaR fun z1 hF=>?_
 exact wl hΦ hF
@[go_sem] def zEb:List DE:=[d2 0 [3] 3 3,d1 1 [5] 5,d2 2 [8] 5 8,d2 3 [3] 3 3,d2 4 [3] 3 3,d1 5 [5] 5,d2 6 [12] 5 12,d0 7 [1],d3 8 [11,13,14],d3 9 [10,15],d0 10 [9,16],⟨11,[7,17],[],none,true,true,true⟩,d0 12 [18]]
def zcy(a0:Group)(a1:Int)(a2:Cipher):Option Int:=
 (zav a0 a2.A a1).bind fun z1=>
 (zgK a0 z1).bind fun z2=>
 (zaP a0 [a2.B,z2]).bind fun z3=>
 some z3
theorem zmz:∀{a0}{a1}{a2}{r},zcy a0 a1 a2=some r→PCalls Tryz.prog 76 [(.sh,vE a0),(.sh,.int .i64 a1),(.sh,vJ a2)] (Eo (.int .i64 r) [.junk,.junk,.junk]):=by
 intro a0 a1 a2 r hr;apply pF 19 [] [] [] [.tmp 6] hr zK7 Tryz.func76;intro Φ hΦ hF g;unfold zcy at hF;refine wW ?_;refine wX zEb follows ?_;refine wC hF [.sh,.sh,.sh] zaR fun z1 hF=>?_
 refine wC hF [.sh,.sh] zoF fun z2 hF=>?_
 refine wC hF [.sh,.sh] zcc fun z3 hF=>?_
 refine wK [6] ?_;exact wm hΦ hF
def zeU(a0:Group)(a1:Int)(a2:Int)(a3:Int):Option Int:=
 ((zaH (σ:=Int×Int) (fun s4=>
 if decide (s4.2<(i64.wrap (a3+1)))=true then(
 if(s4.1==a2)=true then(
 some (.out (.inr s4.2)))else(
 (zaP a0 [s4.1,a1]).bind fun z11=>
 some (.go (z11,i64.wrap (s4.2+1)))))else(
 some (.out (.inl ())))) (1,0):Option (Unit ⊕ Int)).bind (Sum.elim (fun x3=>
 some (-1)) some))
theorem zo1:∀{a0}{a1}{a2}{a3}{r},zeU a0 a1 a2 a3=some r→PCalls Tryz.prog 75 [(.sh,vE a0),(.sh,.int .i64 a1),(.sh,.int .i64 a2),(.sh,.int .i64 a3)] (Eo (.int .i64 r) [.junk,.junk,.junk,.junk]):=by
 intro a0 a1 a2 a3 r hr;apply pF 26 [] [] [] [.tmp 8] hr zLT Tryz.func75;intro Φ hΦ hF g;unfold zeU at hF
 iterate 3 refine wW ?_
 refine wS hF (fun x3=>[]) (fun x3 hF=>?_) fun _ hj1 hr2 hF=>?_
 ·exact wl hΦ hF
 refine wB ?_;obtain⟨b12,hb13,hψ8⟩:=hF;refine pL hb13 (fun s4=>[(1,.v (.int .i64 a1)),(2,.v (.int .i64 a2)),(4,.bl [.int .i64 a0.P,.int .i64 a0.Q,.int .i64 a0.G]),(9,.v (.int .i64 s4.1)),(12,.v (.int .i64 (i64.wrap (a3+1)))),(13,.v (.int .i64 s4.2))]) fun s4 _ _ ho6 hg7 hF=>?_
 refine wW ?_;refine wI hF (fun h9 hF=>?_) fun h9 hF=>?_
 ·refine wW ?_;refine wB ?_;refine wW ?_;refine wK [1,2,4,9,10,12,13,18] ?_;refine wI hF (fun h10 hF=>?_) fun h10 hF=>?_
  ·cases ho6 _ (zaa hF);cases hΦ _ (hr2 _ hψ8);refine wW ?_;try simp[go_sem,g]
  refine wW ?_;refine wC hF [.sh,.sh] zcc fun z11 hF=>?_
  refine wW ?_;exact wT (hg7 _) (zaa hF)
 cases ho6 _ (zaa hF);exact wT (hj1 _) hψ8
def zcZ(a0:Contest)(a1:List Int):Option ((List Int)):=
 ((zar (σ:=(List Int)) (fun i5 s4=>
 (((ix a1 i5).bind fun x14=>
 if(a0.Kind==1)=true then(
 if(x14==1)=true then(
 gd ((s4.length+1)*8≤140737488355328∧s4.length+1≤4611686018427387904)<|
 some (s4++[i5]))else(
 some s4))else(
 if(a0.Kind==3)=true then(
 gd ((s4.length+1)*8≤140737488355328∧s4.length+1≤4611686018427387904)<|
 some (s4++[i64.wrap (x14-1)]))else(
 gd ((s4.length+1)*8≤140737488355328∧s4.length+1≤4611686018427387904)<|
 some (s4++[x14]))):Option ((List Int))).bind fun x13=>
 some (.go x13))) (fun s4=>s4) (a1.length) 0 []:Option ((List Int))).bind fun x3=>
 some x3)
theorem zik:∀{a0}{a1}{r},zcZ a0 a1=some r→PCalls Tryz.prog 77 [(.sh,vF a0),(.sh,vC a1)] (Eo (vD r) [.junk,.junk]):=by
 intro a0 a1 r hr;apply pF 39 [] [] [] [.tmp 4] hr zL7 Tryz.func77;intro Φ hΦ hF g;unfold zcZ at hF
 iterate 3 (try simp[go_sem,g];try intros;refine zap ?_)
 refine wJ hF (fun x3=>[(5,.v (vD x3))]) (fun x3 hF=>?_) fun _ hj1 hF=>?_
 ·exact wl hΦ hF
 refine wB ?_;obtain⟨b18,hb19,hψ8⟩:=hF;refine pR hb19 (fun i5 s4=>[(2,.bl [.int .i64 a0.Kind,.int .i64 a0.Options,.int .i64 a0.Least,.int .i64 a0.Most,.int .i64 a0.Points]),(5,.v (vD s4)),(9,.v (vC a1)),(10,.v (.int .i64 (a1.length:Int))),(11,.v (.int .i64 i5))]) (fun s4 _ hN20=>?_) fun i5 s4 _ _ hi9 hi10 ho6 hg7 hF=>?_
 ·exact wn hN20 (hj1 _) hψ8
 refine wW ?_;refine wu hi9 hi10 ?_;refine wW ?_;refine wJ hF (fun x13=>[(2,.bl [.int .i64 a0.Kind,.int .i64 a0.Options,.int .i64 a0.Least,.int .i64 a0.Most,.int .i64 a0.Points]),(5,.v (vD x13)),(9,.v (vC a1)),(10,.v (.int .i64 (a1.length:Int))),(11,.v (.int .i64 i5))]) (fun x13 hF=>?_) fun _ hj11 hF=>?_
 ·exact wi hi9 hi10 (hg7 _) (zaa hF)
 refine wB ?_;obtain⟨x14,g,hF⟩:=Rx g hF;refine wK [2,5,6,7,9,10,11] ?_;refine wW ?_;refine wB ?_;refine wW ?_;refine wI hF (fun h15 hF=>?_) fun h15 hF=>?_
 ·refine wW ?_;refine wI hF (fun h16 hF=>?_) fun h16 hF=>?_
  ·obtain⟨g,hF⟩:=Rg g hF;exact wT (hj11 _) (zaa hF)
  exact wT (hj11 _) (zaa hF)
 refine wW ?_;refine wI hF (fun h17 hF=>?_) fun h17 hF=>?_
 ·obtain⟨g,hF⟩:=Rg g hF;exact wT (hj11 _) (zaa hF)
 obtain⟨g,hF⟩:=Rg g hF;exact wT (hj11 _) (zaa hF)
def zeb(a0:Contest)(a1:Int):Option (List Int×Bool):=
 if decide (a1<0)=true then(
 some ([],false))else(
 ((zaH (σ:=(List Int)×Int) (fun s5=>
 ((if decide (0<s5.2)=true then(
 some (decide ((s5.1.length:Int)<64)))else(
 some false):Option Bool).bind fun x12=>
 if x12=true then(
 (zay a0).bind fun z15=>
 gd (z15≠0)<|
 gd ((s5.1.length+1)*8≤140737488355328∧s5.1.length+1≤4611686018427387904)<|
 (zay a0).bind fun z16=>
 gd (z16≠0)<|
 some (.go (s5.1++[s5.2.tmod z15],i64.wrap (s5.2.tdiv z16))))else(
 some (.out s5.1)))) ([],a1):Option ((List Int))).bind fun x4=>
 ((zaH (σ:=(List Int)) (fun s22=>
 ((if(a0.Kind==2)=true then(
 some (decide ((s22.length:Int)<a0.Options)))else(
 some false):Option Bool).bind fun x29=>
 if x29=true then(
 gd ((s22.length+1)*8≤140737488355328∧s22.length+1≤4611686018427387904)<|
 some (.go (s22++[0])))else(
 some (.out s22)))) x4:Option ((List Int))).bind fun x21=>
 (zcZ a0 x21).bind fun z34=>
 (((zbX a0 z34).bind fun z38=>
 if(!z38)=true then(
 some true)else(
 (zdH a0 z34).bind fun z40=>
 some (z40 !=a1)):Option Bool).bind fun x37=>
 if x37=true then(
 some ([],false))else(
 some (z34,true))))))
theorem zlx:∀{a0}{a1}{r},zeb a0 a1=some r→PCalls Tryz.prog 78 [(.sh,vF a0),(.sh,.int .i64 a1)] (Eo (.tup [vD r.1,.bool r.2]) [.junk,.junk]):=by
 intro a0 a1 r hr;apply pF 59 [] [] [] [.tmp 4,.tmp 5] hr zJA Tryz.func78;intro Φ hΦ hF g;unfold zeb at hF
 iterate 2 refine wW ?_
 refine wI hF (fun h1 hF=>?_) fun h1 hF=>?_
 ·exact wl hΦ hF
 iterate 3 refine wW ?_
 refine wJ hF (fun x4=>[(1,.v (.int .i64 a1)),(2,.bl [.int .i64 a0.Kind,.int .i64 a0.Options,.int .i64 a0.Least,.int .i64 a0.Most,.int .i64 a0.Points]),(6,.v (vD x4))]) (fun x4 hF=>?_) fun _ hj2 hF=>?_
 ·refine wJ hF (fun x21=>[(1,.v (.int .i64 a1)),(2,.bl [.int .i64 a0.Kind,.int .i64 a0.Options,.int .i64 a0.Least,.int .i64 a0.Most,.int .i64 a0.Points]),(6,.v (vD x21))]) (fun x21 hF=>?_) fun _ hj19 hF=>?_
  ·refine wC hF [.sh,.sh] zik fun z34 hF=>?_
   refine wK [1,2,8] ?_;refine wJ hF (fun x37=>[(8,.v (vD z34)),(57,.v (.bool x37))]) (fun x37 hF=>?_) fun _ hj35 hF=>?_
   ·refine wI hF (fun h41 hF=>?_) fun h41 hF=>?_
    ·exact wl hΦ hF
    cases hΦ _ (zaa hF)
    iterate 2 refine wW ?_
    try simp[go_sem,g]
   refine wC hF [.sh,.sh] zgG fun z38 hF=>?_
   refine wG hF (fun h39 hF=>?_) fun h39 hF=>?_
   ·exact wV h39 (hj35 _) (zaa hF)
   try simp[go_sem,g,h39]
   refine wC hF [.sh,.sh] zi1 fun z40 hF=>?_
   exact wV h39 (hj35 _) (zaa hF)
  refine wB ?_;obtain⟨b32,hb33,hψ26⟩:=hF;refine pL hb33 (fun s22=>[(1,.v (.int .i64 a1)),(2,.bl [.int .i64 a0.Kind,.int .i64 a0.Options,.int .i64 a0.Least,.int .i64 a0.Most,.int .i64 a0.Points]),(6,.v (vD s22))]) fun s22 _ _ ho24 hg25 hF=>?_
  refine wJ hF (fun x29=>[(1,.v (.int .i64 a1)),(2,.bl [.int .i64 a0.Kind,.int .i64 a0.Options,.int .i64 a0.Least,.int .i64 a0.Most,.int .i64 a0.Points]),(6,.v (vD s22)),(40,.v (.bool x29))]) (fun x29 hF=>?_) fun _ hj27 hF=>?_
  ·refine wI hF (fun h31 hF=>?_) fun h31 hF=>?_
   ·refine wW ?_;refine wB ?_;obtain⟨g,hF⟩:=Rg g hF;exact wT (hg25 _) (zaa hF)
   cases ho24 _ (zaa hF);exact wT (hj19 _) hψ26
  refine wG hF (fun h30 hF=>?_) fun h30 hF=>?_
  ·try simp[go_sem,g,h30]
   try intros
   exact wT (hj27 _) (zaa hF)
  exact wV h30 (hj27 _) (zaa hF)
 refine wB ?_;obtain⟨b17,hb18,hψ9⟩:=hF;refine pL hb18 (fun s5=>[(1,.v (.int .i64 a1)),(2,.bl [.int .i64 a0.Kind,.int .i64 a0.Options,.int .i64 a0.Least,.int .i64 a0.Most,.int .i64 a0.Points]),(6,.v (vD s5.1)),(7,.v (.int .i64 s5.2))]) fun s5 _ _ ho7 hg8 hF=>?_
 refine wJ hF (fun x12=>[(1,.v (.int .i64 a1)),(2,.bl [.int .i64 a0.Kind,.int .i64 a0.Options,.int .i64 a0.Least,.int .i64 a0.Most,.int .i64 a0.Points]),(6,.v (vD s5.1)),(7,.v (.int .i64 s5.2)),(19,.v (.bool x12))]) (fun x12 hF=>?_) fun _ hj10 hF=>?_
 ·refine wI hF (fun h14 hF=>?_) fun h14 hF=>?_
  ·refine wW ?_;refine wB ?_;refine wC hF [.sh] zfU fun z15 hF=>?_
   obtain⟨g,hF⟩:=Rz g hF;obtain⟨g,hF⟩:=Rg g hF;refine wK [1,2,6,7] ?_;refine wC hF [.sh] zfU fun z16 hF=>?_
   obtain⟨g,hF⟩:=Rz g hF;exact wT (hg8 _) (zaa hF)
  cases ho7 _ (zaa hF);exact wT (hj2 _) hψ9
 refine wG hF (fun h13 hF=>?_) fun h13 hF=>?_
 ·try simp[go_sem,g,h13]
  try intros
  exact wT (hj10 _) (zaa hF)
 exact wV h13 (hj10 _) (zaa hF)
@[go_sem] def zG3:List DE:=[d0 0 [0],d0 1 [5],d0 2 [16,17],d0 3 [18],d0 4 [1],d0 5 [5],d0 6 [20,21],d0 7 [22],d0 8 [19,23]]
def zbw(a0:List Int)(a1:List Int):Option Bool:=
 if((a0.length:Int) !=(a1.length:Int))=true then(
 some false)else(
 ((zar (σ:=Unit) (fun i6 s5=>
 (ix a0 i6).bind fun x12=>
 (ix a1 i6).bind fun x13=>
 if(x12 !=x13)=true then(
 some (.out (.inr false)))else(
 some (.go ()))) (fun s5=>.inl ()) (a0.length) 0 ():Option (Unit ⊕ Bool)).bind (Sum.elim (fun x4=>
 some true) some)))
theorem ze2:∀{a0}{a1}{r},zbw a0 a1=some r→PCalls Tryz.prog 79 [(.sh,vC a0),(.sh,vC a1)] (Eo (.bool r) [.junk,.junk]):=by
 intro a0 a1 r hr;apply pF 26 [] [] [] [.tmp 4] hr zJy Tryz.func79;intro Φ hΦ hF g;unfold zbw at hF
 iterate 2 (try simp[go_sem,g];try intros;refine zap ?_)
 refine wI hF (fun h1 hF=>?_) fun h1 hF=>?_
 ·exact wl hΦ hF
 iterate 2 (try simp[go_sem,g];try intros;refine zap ?_)
 refine wS hF (fun x4=>[]) (fun x4 hF=>?_) fun _ hj2 hr3 hF=>?_
 ·refine wK [4] ?_;exact wm hΦ hF
 refine wB ?_;obtain⟨b15,hb16,hψ9⟩:=hF;refine pR hb16 (fun i6 s5=>[(0,.v (vC a0)),(1,.v (vC a1)),(12,.v (.int .i64 (a0.length:Int))),(13,.v (.int .i64 i6))]) (fun s5 _ hN17=>?_) fun i6 s5 _ _ hi10 hi11 ho7 hg8 hF=>?_
 ·exact wn hN17 (hj2 _) hψ9
 refine wK [0,1,12,13,14] ?_;refine wu hi10 hi11 ?_;refine wW ?_;refine wB ?_;refine wW ?_;refine wX zG3 follows ?_;obtain⟨x12,g,hF⟩:=Rx g hF;obtain⟨x13,g,hF⟩:=Rx g hF;refine wK [0,1,12,13,24] ?_;refine wI hF (fun h14 hF=>?_) fun h14 hF=>?_
 ·cases ho7 _ (zaa hF);cases hΦ _ (hr3 _ hψ9);refine wW ?_;try simp[go_sem,g]
 refine wW ?_;exact wi hi10 hi11 (hg8 _) (zaa hF)
@[go_sem] def zEl:List DE:=[d2 0 [4] 4 4,d2 1 [6] 6 6,d3 2 [16,17],d0 3 [18],d0 4 [19],d2 5 [4,20] 4 4,d0 6 [1,20],d3 7 [21,22,20],d0 8 [23,20],d0 9 [20,24],d0 10 [25],d2 11 [4,26] 4 4,d1 12 [7,26] 7,d2 13 [28,26] 7 28,d3 14 [27,29,26],d0 15 [30,26],d0 16 [26,31],d0 17 [32],d1 18 [7,33] 7,d2 19 [34,33] 7 34,d0 20 [35,33],d2 21 [6,33] 6 6,d3 22 [37,33],d0 23 [36,38,33],d0 24 [33,39]]
@[go_sem] def zBn:List DE:=[d2 0 [6] 6 6,d0 1 [10],d0 2 [76],d0 3 [77],d3 4 [75,78],d0 5 [79],d0 6 [74],d0 7 [74],d0 8 [80],d0 9 [81]]
@[go_sem] def zFW:List DE:=[d2 0 [4] 4 4,d1 1 [4] 4,d2 2 [50] 4 50,d2 3 [4] 4 4,d0 4 [1],d2 5 [12] 12 12,d1 7 [4] 4,d2 8 [56] 4 56,d0 9 [57],d0 10 [58],d3 6 [52,53,54],d3 11 [49,51,55,59],d0 12 [60]]
def zfs(a0:Group)(a1:Int)(a2:Contest)(a3:Sealed):Option (List Int×Bool):=
 (((zdv a0 a2).bind fun z4=>
 if(!z4)=true then(
 some true)else(
 (zc8 a0 a1).bind fun z6=>
 if(!z6)=true then(
 some true)else(
 (zcw a0 a3.Ciphers).bind fun z8=>
 if(!z8)=true then(
 some true)else(
 (zdf a2).bind fun z10=>
 some ((a3.Ciphers.length:Int) !=z10)))):Option Bool).bind fun x3=>
 if x3=true then(
 some ([],false))else(
 ((zar (σ:=(List Int)) (fun i16 s15=>
 (ix a3.Ciphers i16).bind fun x22=>
 (zcy a0 a1 x22).bind fun z23=>
 (zeU a0 a0.G z23 (if(i64.wrap (a0.Q-1))<100000 then(i64.wrap (a0.Q-1))else 100000)).bind fun z24=>
 if decide (z24<0)=true then(
 some (.out (.inr ([],false))))else(
 gd ((s15.length+1)*8≤140737488355328∧s15.length+1≤4611686018427387904)<|
 some (.go (s15++[z24])))) (fun s15=>.inl s15) (a3.Ciphers.length) 0 []:Option ((List Int) ⊕ (List Int×Bool))).bind (Sum.elim (fun x14=>
 (zbi a2).bind fun z30=>
 ((if z30=true then(
 (zcZ a2 x14).bind fun z35=>
 some (z35,true))else(
 (ix x14 0).bind fun x36=>
 (zeb a2 x36).bind fun z37=>
 some (z37.1,z37.2)):Option ((List Int×Bool))).bind fun x33=>
 ((if(!x33.2)=true then(
 some true)else(
 (zbX a2 x33.1).bind fun z42=>
 if(!z42)=true then(
 some true)else(
 (zbA a2 x33.1).bind fun z44=>
 (zbw z44 x14).bind fun z45=>
 some (!z45))):Option Bool).bind fun x40=>
 if x40=true then(
 some ([],false))else(
 some (x33.1,true))))) some))))
theorem zod:∀{a0}{a1}{a2}{a3}{r},zfs a0 a1 a2 a3=some r→PCalls Tryz.prog 21 [(.sh,vE a0),(.sh,.int .i64 a1),(.sh,vF a2),(.sh,vR a3)] (Eo (.tup [vD r.1,.bool r.2]) [.junk,.junk,.junk,.junk]):=by
 intro a0 a1 a2 a3 r hr;apply pF 99 [] [] [] [.tmp 8,.tmp 9] hr zIx Tryz.func21;intro Φ hΦ hF g;unfold zfs at hF;refine wW ?_;refine wJ hF (fun x3=>[(1,.v (.int .i64 a1)),(4,.bl [.int .i64 a0.P,.int .i64 a0.Q,.int .i64 a0.G]),(6,.bl [.int .i64 a2.Kind,.int .i64 a2.Options,.int .i64 a2.Least,.int .i64 a2.Most,.int .i64 a2.Points]),(7,.bl [.int .i64 a3.Voter,vQ a3.Ciphers,vU a3.Proofs,vC a3.Sum.Commits,vC a3.Sum.Challenges,vC a3.Sum.Responses]),(40,.v (.bool x3))]) (fun x3 hF=>?_) fun _ hj1 hF=>?_
 ·refine wI hF (fun h11 hF=>?_) fun h11 hF=>?_
  ·exact wl hΦ hF
  iterate 2 (try simp[go_sem,g];try intros;refine zap ?_)
  try simp[go_sem,g]
  try intros
  refine wK [1,4,6,10,43,44,45] ?_;refine wS hF (fun x14=>[(6,.bl [.int .i64 a2.Kind,.int .i64 a2.Options,.int .i64 a2.Least,.int .i64 a2.Most,.int .i64 a2.Points]),(10,.v (vD x14))]) (fun x14 hF=>?_) fun _ hj12 hr13 hF=>?_
  ·refine wW ?_;refine wC hF [.sh] zc4 fun z30 hF=>?_
   refine wW ?_;refine wJ hF (fun x33=>[(6,.bl [.int .i64 a2.Kind,.int .i64 a2.Options,.int .i64 a2.Least,.int .i64 a2.Most,.int .i64 a2.Points]),(10,.v (vD x14)),(14,.v (vD x33.1)),(15,.v (.bool x33.2))]) (fun x33 hF=>?_) fun _ hj31 hF=>?_
   ·refine wJ hF (fun x40=>[(14,.v (vD x33.1)),(97,.v (.bool x40))]) (fun x40 hF=>?_) fun _ hj38 hF=>?_
    ·refine wI hF (fun h46 hF=>?_) fun h46 hF=>?_
     ·exact wl hΦ hF
     cases hΦ _ (zaa hF)
     iterate 2 refine wW ?_
     try simp[go_sem,g]
    refine wG hF (fun h41 hF=>?_) fun h41 hF=>?_
    ·exact wV h41 (hj38 _) (zaa hF)
    try simp[go_sem,g,h41]
    refine wC hF [.sh,.sh] zgG fun z42 hF=>?_
    try simp[go_sem,g,h41]
    refine wG hF (fun h43 hF=>?_) fun h43 hF=>?_
    ·exact wV h43 (hj38 _) (zaa hF)
    try simp[go_sem,g,h43]
    refine wC hF [.sh,.sh] zhk fun z44 hF=>?_
    try simp[go_sem,g,h43]
    refine wC hF [.sh,.sh] ze2 fun z45 hF=>?_
    exact wV h43 (hj38 _) (zaa hF)
   refine wI hF (fun h34 hF=>?_) fun h34 hF=>?_
   ·refine wC hF [.sh,.sh] zik fun z35 hF=>?_
    exact wT (hj31 _) (zaa hF)
   refine wX zBn follows ?_;obtain⟨x36,g,hF⟩:=Rxn g 0 hF;refine wC hF [.sh,.sh] zlx fun z37 hF=>?_
   exact wT (hj31 _) (zaa hF)
  refine wB ?_;obtain⟨b26,hb27,hψ19⟩:=hF;refine pR hb27 (fun i16 s15=>[(1,.v (.int .i64 a1)),(4,.bl [.int .i64 a0.P,.int .i64 a0.Q,.int .i64 a0.G]),(6,.bl [.int .i64 a2.Kind,.int .i64 a2.Options,.int .i64 a2.Least,.int .i64 a2.Most,.int .i64 a2.Points]),(10,.v (vD s15)),(43,.v (vQ a3.Ciphers)),(44,.v (.int .i64 (a3.Ciphers.length:Int))),(45,.v (.int .i64 i16))]) (fun s15 _ hN28=>?_) fun i16 s15 _ _ hi20 hi21 ho17 hg18 hF=>?_
  ·exact wn hN28 (hj12 _) hψ19
  refine wW ?_;refine wu hi20 hi21 ?_;refine wW ?_;refine wB ?_;obtain⟨x22,g,hF⟩:=Rx g hF;refine wW ?_;refine wX zFW follows ?_;refine wC hF [.sh,.sh,.sh] zmz fun z23 hF=>?_
  refine wC hF [.sh,.sh,.sh,.sh] zo1 fun z24 hF=>?_
  refine wK [1,4,6,10,13,43,44,45] ?_;refine wW ?_;refine wI hF (fun h25 hF=>?_) fun h25 hF=>?_
  ·cases ho17 _ (zaa hF);cases hΦ _ (hr13 _ hψ19);refine wW ?_;try simp[go_sem,g]
  obtain⟨g,hF⟩:=Rg g hF
  iterate 2 refine wW ?_
  exact wi hi20 hi21 (hg18 _) (zaa hF)
 refine wX zEl follows ?_;refine wC hF [.sh,.sh] zhP fun z4 hF=>?_
 refine wH hF (fun h5 hF=>?_) fun h5 hF=>?_
 ·exact wV h5 (hj1 _) (zaa hF)
 try simp[go_sem,g,h5]
 refine wC hF [.sh,.sh] zhx fun z6 hF=>?_
 try simp[go_sem,g,h5]
 refine wH hF (fun h7 hF=>?_) fun h7 hF=>?_
 ·exact wV h7 (hj1 _) (zaa hF)
 try simp[go_sem,g,h7]
 refine wC hF [.sh,.sh] zhM fun z8 hF=>?_
 try simp[go_sem,g,h7]
 refine wH hF (fun h9 hF=>?_) fun h9 hF=>?_
 ·exact wV h9 (hj1 _) (zaa hF)
 try simp[go_sem,g,h9]
 try intros
 refine wC hF [.sh] ziO fun z10 hF=>?_
 exact wV h9 (hj1 _) (zaa hF)
def zdE(a0:List Int):Option Bool:=
 ((if decide ((a0.length:Int)≤400)=true then(
 (zbO a0).bind fun z5=>
 some z5)else(
 some false):Option Bool).bind fun x3=>
 some x3)
theorem zg8:∀{a0}{r},zdE a0=some r→PCalls Tryz.prog 160 [(.sh,vC a0)] (Eo (.bool r) [.junk]):=by
 intro a0 r hr;apply pF 10 [] [] [] [.tmp 2] hr zGC Tryz.func160;intro Φ hΦ hF g;unfold zdE at hF;refine wW ?_;refine wJ hF (fun x3=>[(2,.v (.bool x3))]) (fun x3 hF=>?_) fun _ hj1 hF=>?_
 ·exact wm hΦ hF
 try simp[go_sem,g]
 try intros
 refine wG hF (fun h4 hF=>?_) fun h4 hF=>?_
 ·try simp[go_sem,g,h4]
  refine wC hF [.sh,.sh] zgA fun z5 hF=>?_
  exact wV h4 (hj1 _) (zaa hF)
 exact wV h4 (hj1 _) (zaa hF)
def zdQ(a0:List Int):Option (List Int×Bool):=
 (zdE a0).bind fun z1=>
 if(!z1)=true then(
 some ([],false))else(
 some (a0,true))
theorem zjL:∀{a0}{r},zdQ a0=some r→PCalls Tryz.prog 157 [(.sh,vC a0)] (Eo (.tup [vC r.1,.bool r.2]) [.junk]):=by
 intro a0 r hr;apply pF 8 [] [2] [] [.tmp 2,.tmp 3] hr zGZ Tryz.func157;intro Φ hΦ hF g;unfold zdQ at hF;refine wW ?_;refine wC hF [.sh] zg8 fun z1 hF=>?_
 refine wW ?_;refine wI hF (fun h2 hF=>?_) fun h2 hF=>?_
 ·exact wl hΦ hF
 cases hΦ _ (zaa hF)
 iterate 2 refine wW ?_
 try simp[go_sem,g]
def zb5(a0:List Cipher):Option (List Int×Bool):=
 ((zar (σ:=(List Int)) (fun i5 s4=>
 (ix a0 i5).bind fun x11=>
 gd ((s4.length+2)*8≤140737488355328∧s4.length+2≤4611686018427387904)<|
 some (.go (s4++[x11.A,x11.B]))) (fun s4=>s4) (a0.length) 0 [(a0.length:Int)]:Option ((List Int))).bind fun x3=>
 (zdQ x3).bind fun z16=>
 some (z16.1,z16.2))
theorem ziT:∀{a0}{r},zb5 a0=some r→PCalls Tryz.prog 80 [(.sh,vQ a0)] (Eo (.tup [vC r.1,.bool r.2]) [.junk]):=by
 intro a0 r hr;apply pF 28 [] [24] [] [.tmp 2,.tmp 3] hr zLi Tryz.func80;intro Φ hΦ hF g;unfold zb5 at hF
 iterate 3 (try simp[go_sem,g];try intros;refine zap ?_)
 refine wJ hF (fun x3=>[(4,.v (vD x3))]) (fun x3 hF=>?_) fun _ hj1 hF=>?_
 ·refine wC hF [.sh] zjL fun z16 hF=>?_
  refine wK [2,3] ?_;exact wm hΦ hF
 refine wB ?_;obtain⟨b12,hb13,hψ8⟩:=hF;refine pR hb13 (fun i5 s4=>[(4,.v (vD s4)),(10,.v (vQ a0)),(11,.v (.int .i64 (a0.length:Int))),(12,.v (.int .i64 i5))]) (fun s4 _ hN14=>?_) fun i5 s4 _ _ hi9 hi10 ho6 hg7 hF=>?_
 ·exact wn hN14 (hj1 _) hψ8
 refine wK [4,10,11,12,13] ?_;refine wu hi9 hi10 ?_;refine wW ?_;refine wB ?_;obtain⟨x11,g,hF⟩:=Rx g hF;obtain⟨g,hF⟩:=Rg g hF;refine wW ?_;refine wK [4,10,11,12] ?_;exact wi hi9 hi10 (hg7 _) (zaa hF)
def zbz(a0:List Proof):Option (List Proof):=
 gd (a0.length*72≤140737488355328∧a0.length≤4611686018427387904)<|
 some a0
theorem zhj{a0:(List Proof)}{r:(List Proof)}(hr:zbz a0=some r):PCalls Tryz.prog 81 [(.sh,.sl false 3 (a0.map zaX))] (Eo (.sl true 3 (r.map zaX)) [.junk]):=by
 apply zm5 8 [] [] [1000000] [.tmp 2] hr zIP Tryz.func81 rfl rfl rfl
 ·exact⟨by simp,rfl⟩
 intro Φ hΦ hF;unfold zbz at hF;obtain⟨g,hF⟩:=zhG hF;have h1:=hΦ _ (zaa hF);subst h1;try simp[go_sem]
 refine zne [(0,.v (.sl false 3 (a0.map zaX)))] (by simp[go_sem]) ?_;try simp[go_sem]
 refine zua rfl rfl (by simp[go_sem]) rfl (by rfl) fun b hb=>?_
 try simp[go_sem]
 refine zap ?_
 repeat rw[zte]
 cases b
 ·refine zng (by simp[go_sem]) ?_;try simp[go_sem]
  refine zap ?_;try simp[go_sem,g]
  refine zap ?_;try simp[go_sem,g]
 have hb0:a0=[]:=by
  cases a0 with
  |nil=>rfl
  |cons x l=>exact absurd (hb (by simp)) (by simp)
 subst hb0;refine zk4 (by simp[go_sem]) ?_;try simp[go_sem]
 refine zap ?_;try simp[go_sem]
def zdk(a0:List Int):Option ((List Int)):=
 gd (([(a0.length:Int)].length+a0.length)*8≤140737488355328∧[(a0.length:Int)].length+a0.length≤4611686018427387904)<|
 some ([(a0.length:Int)]++a0)
theorem zhD:∀{a0}{r},zdk a0=some r→PCalls Tryz.prog 159 [(.sh,vC a0)] (Eo (vD r) [.junk]):=by
 intro a0 r hr;apply pF 8 [] [] [] [.tmp 2] hr zFt Tryz.func159;intro Φ hΦ hF g;unfold zdk at hF;obtain⟨g,hF⟩:=Rg g hF;cases hΦ _ (zaa hF)
 iterate 2 (try simp[go_sem,g];try intros;refine zap ?_)
 try simp[go_sem,g]
 try intros
 try simp[go_sem,g]
@[go_sem] def zFF:List DE:=[d1 0 [1] 1,d2 1 [4] 1 4,d1 3 [1] 1,d2 4 [7] 1 7,d1 6 [1] 1,d2 7 [10] 1 10,d3 2 [5],d3 5 [8],d3 8 [11],d0 9 [6,9,12],⟨10,[13],[],none,true,true,true⟩,d3 11 [14],d0 12 [15],d0 13 [15],d0 14 [16],d0 15 [17]]
def zd3(a0:Proof):Option (List Int×Bool):=
 (zdk a0.Commits).bind fun z1=>
 (zdk a0.Challenges).bind fun z2=>
 (zdk a0.Responses).bind fun z3=>
 (zbn [z1,z2,z3]).bind fun z4=>
 (zdQ z4).bind fun z5=>
 some (z5.1,z5.2)
theorem zna:∀{a0}{r},zd3 a0=some r→PCalls Tryz.prog 82 [(.sh,vH a0)] (Eo (.tup [vC r.1,.bool r.2]) [.junk]):=by
 intro a0 r hr;apply pF 18 [] [14] [] [.tmp 2,.tmp 3] hr zJI Tryz.func82;intro Φ hΦ hF g;unfold zd3 at hF;refine wW ?_;refine wX zFF follows ?_;refine wC hF [.sh] zhD fun z1 hF=>?_
 refine wC hF [.sh] zhD fun z2 hF=>?_
 refine wC hF [.sh] zhD fun z3 hF=>?_
 refine wC hF [.sh] zdn fun z4 hF=>?_
 refine wC hF [.sh] zjL fun z5 hF=>?_
 refine wK [2,3] ?_;exact wm hΦ hF
def zea(a0:(List (List Int))):Option (List Int×Bool):=
 ((zar (σ:=(List Int)) (fun i5 s4=>
 (ix a0 i5).bind fun x11=>
 (zdk x11).bind fun z12=>
 gd ((s4.length+z12.length)*8≤140737488355328∧s4.length+z12.length≤4611686018427387904)<|
 if decide (400<((s4++z12).length:Int))=true then(
 some (.out (.inr ([],false))))else(
 some (.go (s4++z12)))) (fun s4=>.inl s4) (a0.length) 0 [(a0.length:Int)]:Option ((List Int) ⊕ (List Int×Bool))).bind (Sum.elim (fun x3=>
 (zdQ x3).bind fun z18=>
 some (z18.1,z18.2)) some))
theorem zjB:∀{a0}{r},zea a0=some r→PCalls Tryz.prog 83 [(.sh,vG a0)] (Eo (.tup [vC r.1,.bool r.2]) [.junk]):=by
 intro a0 r hr;apply pF 28 [] [2,24] [] [.tmp 2,.tmp 3] hr zIU Tryz.func83;intro Φ hΦ hF g;unfold zea at hF
 iterate 3 (try simp[go_sem,g];try intros;refine zap ?_)
 refine wS hF (fun x3=>[(4,.v (vD x3))]) (fun x3 hF=>?_) fun _ hj1 hr2 hF=>?_
 ·refine wC hF [.sh] zjL fun z18 hF=>?_
  refine wK [2,3] ?_;exact wm hΦ hF
 refine wB ?_;obtain⟨b14,hb15,hψ8⟩:=hF;refine pR hb15 (fun i5 s4=>[(4,.v (vD s4)),(10,.v (vG a0)),(11,.v (.int .i64 (a0.length:Int))),(12,.v (.int .i64 i5))]) (fun s4 _ hN16=>?_) fun i5 s4 _ _ hi9 hi10 ho6 hg7 hF=>?_
 ·exact wn hN16 (hj1 _) hψ8
 refine wK [4,10,11,12,13] ?_;refine wu hi9 hi10 ?_;refine wW ?_;refine wB ?_;obtain⟨x11,g,hF⟩:=Rx g hF;refine wW ?_;refine wC hF [.sh] zhD fun z12 hF=>?_
 obtain⟨g,hF⟩:=Rg g hF;try simp[go_sem,g]
 try intros
 refine zap ?_;try simp[go_sem,g]
 try intros
 refine wK [4,10,11,12,22] ?_;refine wI hF (fun h13 hF=>?_) fun h13 hF=>?_
 ·cases ho6 _ (zaa hF);cases hΦ _ (hr2 _ hψ8);refine wW ?_;try simp[go_sem,g]
 refine wW ?_;exact wi hi9 hi10 (hg7 _) (zaa hF)
@[go_sem] def zGL:List DE:=[d1 0 [1] 1,d2 1 [36] 1 36,d1 3 [1] 1,d2 4 [39] 1 39,d0 5 [40],d0 8 [],d3 2 [37],⟨6,[38,41],[],none,true,false,false⟩,d0 7 [42]]
def zdK(a0:Sealed):Option (List Int×Bool):=
 (zb5 a0.Ciphers).bind fun z1=>
 ((if(!z1.2)=true then(
 some true)else(
 (zeT a0.Voter).bind fun z6=>
 if(!z6)=true then(
 some true)else(
 some (decide (400<(a0.Proofs.length:Int))))):Option Bool).bind fun x4=>
 if x4=true then(
 some ([],false))else(
 (zbz a0.Proofs).bind fun z9=>
 gd ((z9.length+1)*72≤140737488355328∧z9.length+1≤4611686018427387904)<|
 ((zar (σ:=(List (List Int))) (fun i14 s13=>
 (ix (z9++[a0.Sum]) i14).bind fun x22=>
 (zd3 x22).bind fun z23=>
 if(!z23.2)=true then(
 some (.out (.inr ([],false))))else(
 gd ((s13.length+1)*24≤140737488355328∧s13.length+1≤4611686018427387904)<|
 some (.go (s13++[z23.1])))) (fun s13=>.inl s13) ((z9++[a0.Sum]).length) 0 [[a0.Voter],z1.1]:Option ((List (List Int)) ⊕ (List Int×Bool))).bind (Sum.elim (fun x12=>
 (zea x12).bind fun z29=>
 some (z29.1,z29.2)) some))))
theorem zi0:∀{a0}{r},zdK a0=some r→PCalls Tryz.prog 23 [(.sh,vR a0)] (Eo (.tup [vC r.1,.bool r.2]) [.junk]):=by
 intro a0 r hr;apply pF 64 [] [2,60,227] [] [.tmp 2,.tmp 3] hr zKH Tryz.func23;intro Φ hΦ hF g;unfold zdK at hF;refine wW ?_;refine wC hF [.sh] ziT fun z1 hF=>?_
 refine wK [1,4,5] ?_;refine wJ hF (fun x4=>[(1,.bl [.int .i64 a0.Voter,vQ a0.Ciphers,vU a0.Proofs,vC a0.Sum.Commits,vC a0.Sum.Challenges,vC a0.Sum.Responses]),(4,.v (vC z1.1)),(30,.v (.bool x4))]) (fun x4 hF=>?_) fun _ hj2 hF=>?_
 ·refine wI hF (fun h8 hF=>?_) fun h8 hF=>?_
  ·exact wl hΦ hF
  iterate 2 refine wW ?_
  refine wX zGL follows ?_;refine wC hF [.sh] zhj fun z9 hF=>?_
  obtain⟨g,hF⟩:=Rg g hF;try simp[go_sem,g]
  try intros
  refine wK [6,42,43,44] ?_;refine wS hF (fun x12=>[(6,.v (vW x12))]) (fun x12 hF=>?_) fun _ hj10 hr11 hF=>?_
  ·refine wC hF [.sh] zjB fun z29 hF=>?_
   exact wl hΦ hF
  refine wB ?_;obtain⟨b25,hb26,hψ17⟩:=hF;refine pR hb26 (fun i14 s13=>[(6,.v (vW s13)),(42,.v (vV (z9++[a0.Sum]))),(43,.v (.int .i64 ((z9++[a0.Sum]).length:Int))),(44,.v (.int .i64 i14))]) (fun s13 _ hN27=>?_) fun i14 s13 _ _ hi18 hi19 ho15 hg16 hF=>?_
  ·exact wn hN27 (hj10 _) hψ17
  generalize e20:(z9++[a0.Sum])=zq21 at*;have e20l:zq21.length≤zdp:=by rw[←e20];simp;omega
  refine wW ?_;refine wu hi18 hi19 ?_;refine wW ?_;refine wB ?_;obtain⟨x22,g,hF⟩:=Rx g hF;refine wW ?_;refine wC hF [.sh] zna fun z23 hF=>?_
  refine wK [6,9,10,42,43,44] ?_;refine wW ?_;refine wI hF (fun h24 hF=>?_) fun h24 hF=>?_
  ·cases ho15 _ (zaa hF);cases hΦ _ (hr11 _ hψ17);refine wW ?_;try simp[go_sem,g]
  obtain⟨g,hF⟩:=Rg g hF
  iterate 2 refine wW ?_
  exact wi hi18 hi19 (hg16 _) (zaa hF)
 refine wG hF (fun h5 hF=>?_) fun h5 hF=>?_
 ·exact wV h5 (hj2 _) (zaa hF)
 try simp[go_sem,g,h5]
 refine wC hF [.sh] zjb fun z6 hF=>?_
 try simp[go_sem,g,h5]
 refine wG hF (fun h7 hF=>?_) fun h7 hF=>?_
 ·exact wV h7 (hj2 _) (zaa hF)
 try simp[go_sem,g,h7]
 try intros
 exact wT (hj2 _) (zaa hF)
def zaI(a0c0:List Int)(a0c1:Bool):Option (Int×(List Int×Bool)):=
 if((a0c0.length:Int)==0)=true then(
 some (0,(a0c0,false)))else(
 (ix a0c0 0).bind fun x2=>
 gd (1≤a0c0.length∧a0c0.length≤a0c0.length)<|
 some (x2,((a0c0.take a0c0.length).drop 1,a0c1)))
theorem zcu:∀{a0c0}{a0c1}{r},zaI a0c0 a0c1=some r→PCalls Tryz.prog 161 [(.io,vX a0c0 a0c1)] (Eo (.int .i64 r.1) [vX r.2.1 r.2.2]):=by
 intro a0c0 a0c1 r hr;apply pF 28 [0] [] [] [.tmp 2] hr zF6 Tryz.func161;intro Φ hΦ hF g;unfold zaI at hF
 iterate 2 (try simp[go_sem,g];try intros;refine zap ?_)
 refine wI hF (fun h1 hF=>?_) fun h1 hF=>?_
 ·refine wK [0] ?_;exact wl hΦ hF
 obtain⟨x2,g,hF⟩:=Rxn g 0 hF;refine wW ?_;refine wK [0,3] ?_;obtain⟨g,hF⟩:=Rg g hF;refine wW ?_;refine wK [0,2] ?_;exact wm hΦ hF
def zaZ(a0c0:List Int)(a0c1:Bool):Option (List Int×(List Int×Bool)):=
 (zaI a0c0 a0c1).bind fun z1=>
 (zaD z1.1 0 (z1.2.1.length:Int)).bind fun z2=>
 if(!z2)=true then(
 some ([],(z1.2.1,false)))else(
 gd (0≤z1.1)<|
 gd (0≤z1.1.toNat∧z1.1.toNat≤z1.2.1.length)<|
 (zcd ((z1.2.1.take z1.1.toNat).drop 0)).bind fun z4=>
 gd (0≤z1.1)<|
 gd (z1.1.toNat≤z1.2.1.length∧z1.2.1.length≤z1.2.1.length)<|
 some (z4,((z1.2.1.take z1.2.1.length).drop z1.1.toNat,z1.2.2)))
theorem zdB:∀{a0c0}{a0c1}{r},zaZ a0c0 a0c1=some r→PCalls Tryz.prog 162 [(.io,vX a0c0 a0c1)] (Eo (vD r.1) [vX r.2.1 r.2.2]):=by
 intro a0c0 a0c1 r hr;apply pF 35 [0] [] [] [.tmp 2] hr zFR Tryz.func162;intro Φ hΦ hF g;unfold zaZ at hF;refine wW ?_;refine wC hF [.io] zcu fun z1 hF=>?_
 try simp[go_sem,g]
 try intros
 refine zap ?_;try simp[go_sem,g]
 try intros
 refine wC hF [.sh,.sh,.sh] za2 fun z2 hF=>?_
 refine wK [0,3,14] ?_;refine wI hF (fun h3 hF=>?_) fun h3 hF=>?_
 ·cases hΦ _ (zaa hF)
  iterate 2 refine wW ?_
  try simp[go_sem,g]
 obtain⟨g,hF⟩:=Rg g hF;obtain⟨g,hF⟩:=Rg g hF;refine wW ?_;refine wC hF [.sh] zh4 fun z4 hF=>?_
 obtain⟨g,hF⟩:=Rg g hF;obtain⟨g,hF⟩:=Rg g hF;refine wW ?_;refine wK [0,4] ?_;exact wl hΦ hF
def zcv(a0c0:List Int)(a0c1:Bool):Option Bool:=
 ((if a0c1=true then(
 some ((a0c0.length:Int)==0))else(
 some false):Option Bool).bind fun x3=>
 some x3)
theorem zfY:∀{a0c0}{a0c1}{r},zcv a0c0 a0c1=some r→PCalls Tryz.prog 163 [(.sh,.fp [vC a0c0,.bool a0c1])] (Eo (.bool r) [.junk]):=by
 intro a0c0 a0c1 r hr;apply pF 15 [] [] [] [.tmp 2] hr zD4 Tryz.func163;intro Φ hΦ hF g;unfold zcv at hF;refine wW ?_;refine wJ hF (fun x3=>[(2,.v (.bool x3))]) (fun x3 hF=>?_) fun _ hj1 hF=>?_
 ·exact wm hΦ hF
 refine wG hF (fun h4 hF=>?_) fun h4 hF=>?_
 ·try simp[go_sem,g,h4]
  try intros
  exact wT (hj1 _) (zaa hF)
 exact wV h4 (hj1 _) (zaa hF)
def zdG(a0:List Int):Option ((List (List Int))×Bool):=
 (zdE a0).bind fun z1=>
 (zaI a0 z1).bind fun z2=>
 ((zaH (σ:=(List Int×Bool)×(List (List Int))×Int) (fun s20=>
 if decide (s20.2.2<(if(a0.length:Int)<z2.1 then(a0.length:Int)else z2.1))=true then(
 (zaZ s20.1.1 s20.1.2).bind fun z26=>
 gd ((s20.2.1.length+1)*24≤140737488355328∧s20.2.1.length+1≤4611686018427387904)<|
 some (.go ((z26.2.1,z26.2.2),s20.2.1++[z26.1],i64.wrap (s20.2.2+1))))else(
 some (.out ((s20.1.1,s20.1.2),s20.2.1)))) ((z2.2.1,z2.2.2),[],0):Option (((List Int×Bool)×(List (List Int))))).bind fun x5=>
 (zea x5.2).bind fun z29=>
 (((zcv x5.1.1 x5.1.2).bind fun z33=>
 if(!z33)=true then(
 some true)else(
 if(!z29.2)=true then(
 some true)else(
 (zbw z29.1 a0).bind fun z36=>
 some (!z36))):Option Bool).bind fun x32=>
 if x32=true then(
 some ([],false))else(
 some (x5.2,true))))
theorem zmM:∀{a0}{r},zdG a0=some r→PCalls Tryz.prog 84 [(.sh,vC a0)] (Eo (.tup [vG r.1,.bool r.2]) [.junk]):=by
 intro a0 r hr;apply pF 46 [] [2,28] [12] [.tmp 2,.tmp 3] hr zIA Tryz.func84;intro Φ hΦ hF g;unfold zdG at hF;refine wW ?_;refine wC hF [.sh] zg8 fun z1 hF=>?_
 refine wK [0,4,5] ?_;refine wC hF [.io] zcu fun z2 hF=>?_
 try simp[go_sem,g]
 try intros
 refine zap ?_;refine wJ hF (fun x5=>[(0,.v (vC a0)),(4,.v (vX x5.1.1 x5.1.2)),(5,.v (vI x5.2))]) (fun x5 hF=>?_) fun _ hj3 hF=>?_
 ·refine wC hF [.sh] zjB fun z29 hF=>?_
  refine wK [0,4,5,6,7] ?_;refine wJ hF (fun x32=>[(5,.v (vG x5.2)),(44,.v (.bool x32))]) (fun x32 hF=>?_) fun _ hj30 hF=>?_
  ·refine wI hF (fun h37 hF=>?_) fun h37 hF=>?_
   ·exact wl hΦ hF
   cases hΦ _ (zaa hF)
   iterate 2 refine wW ?_
   try simp[go_sem,g]
  refine wC hF [.sh] zfY fun z33 hF=>?_
  refine wG hF (fun h34 hF=>?_) fun h34 hF=>?_
  ·exact wV h34 (hj30 _) (zaa hF)
  try simp[go_sem,g,h34]
  refine wG hF (fun h35 hF=>?_) fun h35 hF=>?_
  ·exact wV h35 (hj30 _) (zaa hF)
  try simp[go_sem,g,h35]
  refine wC hF [.sh,.sh] ze2 fun z36 hF=>?_
  exact wV h35 (hj30 _) (zaa hF)
 refine wB ?_;obtain⟨b27,hb28,hψ24⟩:=hF;refine pL hb28 (fun s20=>[(0,.v (vC a0)),(4,.v (vX s20.1.1 s20.1.2)),(5,.v (vI s20.2.1)),(18,.v (.int .i64 (if(a0.length:Int)<z2.1 then(a0.length:Int)else z2.1))),(19,.v (.int .i64 s20.2.2))]) fun s20 _ _ ho22 hg23 hF=>?_
 refine wW ?_;refine wI hF (fun h25 hF=>?_) fun h25 hF=>?_
 ·refine wW ?_;refine wB ?_;refine wC hF [.io] zdB fun z26 hF=>?_
  obtain⟨g,hF⟩:=Rg g hF;refine wK [0,4,5,18,19] ?_;exact wT (hg23 _) (zaa hF)
 cases ho22 _ (zaa hF);exact wT (hj3 _) hψ24
def zeo(a0:List Int):Option (List Cipher×Bool):=
 (zdE a0).bind fun z1=>
 (zaI a0 z1).bind fun z2=>
 ((zaH (σ:=(List Int×Bool)×List Cipher×Int) (fun s14=>
 if decide (s14.2.2<(if(a0.length:Int)<z2.1 then(a0.length:Int)else z2.1))=true then(
 (zaI s14.1.1 s14.1.2).bind fun z20=>
 (zaI z20.2.1 z20.2.2).bind fun z21=>
 gd ((s14.2.1.length+1)*16≤140737488355328∧s14.2.1.length+1≤4611686018427387904)<|
 some (.go ((z21.2.1,z21.2.2),s14.2.1++[(Cipher.mk z20.1 z21.1)],i64.wrap (s14.2.2+1))))else(
 some (.out ((s14.1.1,s14.1.2),s14.2.1)))) ((z2.2.1,z2.2.2),[],0):Option (((List Int×Bool)×List Cipher))).bind fun x5=>
 (zb5 x5.2).bind fun z24=>
 (((zcv x5.1.1 x5.1.2).bind fun z28=>
 if(!z28)=true then(
 some true)else(
 if(!z24.2)=true then(
 some true)else(
 (zbw z24.1 a0).bind fun z31=>
 some (!z31))):Option Bool).bind fun x27=>
 if x27=true then(
 some ([],false))else(
 some (x5.2,true))))
theorem zmt:∀{a0}{r},zeo a0=some r→PCalls Tryz.prog 85 [(.sh,vC a0)] (Eo (.tup [vQ r.1,.bool r.2]) [.junk]):=by
 intro a0 r hr;apply pF 49 [] [2,31] [12] [.tmp 2,.tmp 3] hr zLS Tryz.func85;intro Φ hΦ hF g;unfold zeo at hF;refine wW ?_;refine wC hF [.sh] zg8 fun z1 hF=>?_
 refine wK [0,4,5] ?_;refine wC hF [.io] zcu fun z2 hF=>?_
 try simp[go_sem,g]
 try intros
 refine zap ?_;refine wJ hF (fun x5=>[(0,.v (vC a0)),(4,.v (vX x5.1.1 x5.1.2)),(5,.v (vO x5.2))]) (fun x5 hF=>?_) fun _ hj3 hF=>?_
 ·refine wC hF [.sh] ziT fun z24 hF=>?_
  refine wK [0,4,5,6,7] ?_;refine wJ hF (fun x27=>[(5,.v (vQ x5.2)),(47,.v (.bool x27))]) (fun x27 hF=>?_) fun _ hj25 hF=>?_
  ·refine wI hF (fun h32 hF=>?_) fun h32 hF=>?_
   ·exact wl hΦ hF
   cases hΦ _ (zaa hF)
   iterate 2 refine wW ?_
   try simp[go_sem,g]
  refine wC hF [.sh] zfY fun z28 hF=>?_
  refine wG hF (fun h29 hF=>?_) fun h29 hF=>?_
  ·exact wV h29 (hj25 _) (zaa hF)
  try simp[go_sem,g,h29]
  refine wG hF (fun h30 hF=>?_) fun h30 hF=>?_
  ·exact wV h30 (hj25 _) (zaa hF)
  try simp[go_sem,g,h30]
  refine wC hF [.sh,.sh] ze2 fun z31 hF=>?_
  exact wV h30 (hj25 _) (zaa hF)
 refine wB ?_;obtain⟨b22,hb23,hψ18⟩:=hF;refine pL hb23 (fun s14=>[(0,.v (vC a0)),(4,.v (vX s14.1.1 s14.1.2)),(5,.v (vO s14.2.1)),(18,.v (.int .i64 (if(a0.length:Int)<z2.1 then(a0.length:Int)else z2.1))),(19,.v (.int .i64 s14.2.2))]) fun s14 _ _ ho16 hg17 hF=>?_
 refine wW ?_;refine wI hF (fun h19 hF=>?_) fun h19 hF=>?_
 ·refine wW ?_;refine wB ?_;refine wC hF [.io] zcu fun z20 hF=>?_
  refine wC hF [.io] zcu fun z21 hF=>?_
  obtain⟨g,hF⟩:=Rg g hF;refine wK [0,4,5,18,19] ?_;exact wT (hg17 _) (zaa hF)
 cases ho16 _ (zaa hF);exact wT (hj3 _) hψ18
def zd6(a0:List Int):Option (Proof×Bool):=
 (zdE a0).bind fun z1=>
 (zaZ a0 z1).bind fun z2=>
 (zaZ z2.2.1 z2.2.2).bind fun z3=>
 (zaZ z3.2.1 z3.2.2).bind fun z4=>
 (zcv z4.2.1 z4.2.2).bind fun z5=>
 if(!z5)=true then(
 some ((Proof.mk [] [] []),false))else(
 some ((Proof.mk z2.1 z3.1 z4.1),true))
theorem zm9:∀{a0}{r},zd6 a0=some r→PCalls Tryz.prog 86 [(.sh,vC a0)] (Eo (.tup [vN r.1,.bool r.2]) [.junk]):=by
 intro a0 r hr;apply pF 23 [] [] [10] [.cell 2 49,.tmp 3] hr zJo Tryz.func86;intro Φ hΦ hF g;unfold zd6 at hF;refine wW ?_;refine wC hF [.sh] zg8 fun z1 hF=>?_
 refine wW ?_;refine wC hF [.io] zdB fun z2 hF=>?_
 refine wC hF [.io] zdB fun z3 hF=>?_
 refine wC hF [.io] zdB fun z4 hF=>?_
 refine wK [2,4,5] ?_;refine wC hF [.sh] zfY fun z5 hF=>?_
 refine wW ?_;refine wI hF (fun h6 hF=>?_) fun h6 hF=>?_
 ·exact wl hΦ hF
 cases hΦ _ (zaa hF)
 iterate 2 refine wW ?_
 try simp[go_sem,g]
@[go_sem] def zBH:List DE:=[d1 0 [7] 7,d2 1 [76] 7 76,d0 2 [12],d0 3 [77,78],d0 4 [79],d1 5 [7] 7,d2 6 [81] 7 81,d0 7 [12],d0 8 [82,83],d1 9 [7] 7,d2 10 [85,80] 7 85,d1 11 [7] 7,d2 12 [86,84] 7 86]
def zd0(a0:List Int):Option (Sealed×Bool):=
 (zdG a0).bind fun z1=>
 ((if(!z1.2)=true then(
 some true)else(
 if decide ((z1.1.length:Int)<3)=true then(
 some true)else(
 (ix z1.1 0).bind fun x7=>
 some ((x7.length:Int) !=1))):Option Bool).bind fun x4=>
 if x4=true then(
 some ((Sealed.mk 0 [] [] (Proof.mk [] [] [])),false))else(
 (ix z1.1 1).bind fun x9=>
 (zeo x9).bind fun z10=>
 (ix z1.1 0).bind fun x11=>
 (ix x11 0).bind fun x12=>
 gd (2≤z1.1.length∧z1.1.length≤z1.1.length)<|
 ((zar (σ:=Bool×Int×List Cipher×List Proof×List Int×List Int×List Int) (fun i31 s30=>
 (ix ((z1.1.take z1.1.length).drop 2) i31).bind fun x38=>
 (zd6 x38).bind fun z39=>
 ((if s30.1=true then(
 some z39.2)else(
 some false):Option Bool).bind fun x42=>
 gd ((s30.2.2.2.1.length+1)*72≤140737488355328∧s30.2.2.2.1.length+1≤4611686018427387904)<|
 some (.go (x42,s30.2.1,s30.2.2.1,s30.2.2.2.1++[z39.1],s30.2.2.2.2.1,s30.2.2.2.2.2.1,s30.2.2.2.2.2.2)))) (fun s30=>(s30.1,s30.2.1,s30.2.2.1,s30.2.2.2.1,s30.2.2.2.2.1,s30.2.2.2.2.2.1,s30.2.2.2.2.2.2)) (((z1.1.take z1.1.length).drop 2).length) 0 (z10.2,x12,z10.1,[],[],[],[]):Option ((Bool×Int×List Cipher×List Proof×List Int×List Int×List Int))).bind fun x15=>
 (ix x15.2.2.2.1 (i64.wrap ((x15.2.2.2.1.length:Int)-1))).bind fun x48=>
 gd (0≤(i64.wrap ((x15.2.2.2.1.length:Int)-1)))<|
 gd (0≤(i64.wrap ((x15.2.2.2.1.length:Int)-1)).toNat∧(i64.wrap ((x15.2.2.2.1.length:Int)-1)).toNat≤x15.2.2.2.1.length)<|
 (zdK (Sealed.mk x15.2.1 x15.2.2.1 (x15.2.2.2.1.take ((i64.wrap ((x15.2.2.2.1.length:Int)-1)).toNat)) x48)).bind fun z49=>
 ((if(!x15.1)=true then(
 some true)else(
 if(!z49.2)=true then(
 some true)else(
 (zbw z49.1 a0).bind fun z55=>
 some (!z55))):Option Bool).bind fun x52=>
 if x52=true then(
 some ((Sealed.mk 0 [] [] (Proof.mk [] [] [])),false))else(
 some ((Sealed.mk x15.2.1 x15.2.2.1 (x15.2.2.2.1.take ((i64.wrap ((x15.2.2.2.1.length:Int)-1)).toNat)) x48),true))))))
theorem zlv:∀{a0}{r},zd0 a0=some r→PCalls Tryz.prog 24 [(.sh,vC a0)] (Eo (.tup [vR r.1,.bool r.2]) [.junk]):=by
 intro a0 r hr;apply pFz 106 [] [67,88,718] [] [.cell 2 51,.tmp 3] hr zIS Tryz.func24;intro Φ hΦ hF g;unfold zd0 at hF;refine wW ?_;refine wC hF [.sh] zmM fun z1 hF=>?_
 refine wW ?_;refine wJ hF (fun x4=>[(0,.v (vC a0)),(2,.bl [.int .i64 0,.sl true 2 [],.sl true 3 [],.sl true 1 [],.sl true 1 [],.sl true 1 []]),(4,.v (vG z1.1)),(33,.v (.bool x4))]) (fun x4 hF=>?_) fun _ hj2 hF=>?_
 ·refine wI hF (fun h8 hF=>?_) fun h8 hF=>?_
  ·refine wK [2,3] ?_;exact wm hΦ hF
  obtain⟨x9,g,hF⟩:=Rxn g 1 hF;refine wW ?_;refine wC hF [.sh] zmt fun z10 hF=>?_
  refine wK [0,2,4,5,6] ?_;obtain⟨x11,g,hF⟩:=Rxn g 0 hF;obtain⟨x12,g,hF⟩:=Rxn g 0 hF;obtain⟨g,hF⟩:=Rg g hF;try simp[go_sem,g]
  try intros
  refine zap ?_;try simp[go_sem,g]
  try intros
  refine wK [0,2,5,7,50,51,52] ?_;refine wJ hF (fun x15=>[(0,.v (vC a0)),(2,.bl [.int .i64 0,.sl true 2 [],.sl true 3 [],.sl true 1 [],.sl true 1 [],.sl true 1 []]),(5,.v (.bool x15.1)),(7,.bl [.int .i64 x15.2.1,vQ x15.2.2.1,vV x15.2.2.2.1,vD x15.2.2.2.2.1,vD x15.2.2.2.2.2.1,vD x15.2.2.2.2.2.2])]) (fun x15 hF=>?_) fun _ hj13 hF=>?_
  ·try simp[go_sem,g]
   try intros
   refine zap ?_;refine wX zBH follows ?_;obtain⟨x48,g,hF⟩:=Rx g hF;obtain⟨g,hF⟩:=Rg g hF;obtain⟨g,hF⟩:=Rg g hF;refine wK [0,2,5,7] ?_;refine wC hF [.sh] zi0 fun z49 hF=>?_
   refine wW ?_;refine wJ hF (fun x52=>[(2,.bl [.int .i64 0,.sl true 2 [],.sl true 3 [],.sl true 1 [],.sl true 1 [],.sl true 1 []]),(7,.bl [.int .i64 x15.2.1,vQ x15.2.2.1,vU (x15.2.2.2.1.take ((i64.wrap ((x15.2.2.2.1.length:Int)-1)).toNat)),vC x48.Commits,vC x48.Challenges,vC x48.Responses]),(103,.v (.bool x52))]) (fun x52 hF=>?_) fun _ hj50 hF=>?_
   ·refine wI hF (fun h56 hF=>?_) fun h56 hF=>?_
    ·refine wK [2,3] ?_;exact wm hΦ hF
    refine wW ?_;refine wK [2,3] ?_;exact wm hΦ hF
   refine wG hF (fun h53 hF=>?_) fun h53 hF=>?_
   ·exact wV h53 (hj50 _) (zaa hF)
   try simp[go_sem,g,h53]
   refine wG hF (fun h54 hF=>?_) fun h54 hF=>?_
   ·exact wV h54 (hj50 _) (zaa hF)
   try simp[go_sem,g,h54]
   refine wC hF [.sh,.sh] ze2 fun z55 hF=>?_
   exact wV h54 (hj50 _) (zaa hF)
  refine wB ?_;obtain⟨b44,hb45,hψ34⟩:=hF;refine pR hb45 (fun i31 s30=>[(0,.v (vC a0)),(2,.bl [.int .i64 0,.sl true 2 [],.sl true 3 [],.sl true 1 [],.sl true 1 [],.sl true 1 []]),(5,.v (.bool s30.1)),(7,.bl [.int .i64 s30.2.1,vQ s30.2.2.1,vV s30.2.2.2.1,vD s30.2.2.2.2.1,vD s30.2.2.2.2.2.1,vD s30.2.2.2.2.2.2]),(50,.v (vG ((z1.1.take z1.1.length).drop 2))),(51,.v (.int .i64 (((z1.1.take z1.1.length).drop 2).length:Int))),(52,.v (.int .i64 i31))]) (fun s30 _ hN46=>?_) fun i31 s30 _ _ hi35 hi36 ho32 hg33 hF=>?_
  ·exact wn hN46 (hj13 _) hψ34
  have hi37:=hi36;try simp at hi37
  refine wW ?_;refine wt ?_ (hb:=by simp[go_sem,g,hi35,hi36,hi37]<;>omega);refine wW ?_;refine wB ?_;obtain⟨x38,g,hF⟩:=Rxq g hF;refine wW ?_;refine wC hF [.sh] zm9 fun z39 hF=>?_
  refine wK [0,2,5,7,10,11,50,51,52] ?_;refine wJ hF (fun x42=>[(0,.v (vC a0)),(2,.bl [.int .i64 0,.sl true 2 [],.sl true 3 [],.sl true 1 [],.sl true 1 [],.sl true 1 []]),(5,.v (.bool x42)),(7,.bl [.int .i64 s30.2.1,vQ s30.2.2.1,vV s30.2.2.2.1,vD s30.2.2.2.2.1,vD s30.2.2.2.2.2.1,vD s30.2.2.2.2.2.2]),(10,.bl [vD z39.1.Commits,vD z39.1.Challenges,vD z39.1.Responses]),(50,.v (vG ((z1.1.take z1.1.length).drop 2))),(51,.v (.int .i64 (((z1.1.take z1.1.length).drop 2).length:Int))),(52,.v (.int .i64 i31))]) (fun x42 hF=>?_) fun _ hj40 hF=>?_
  ·obtain⟨g,hF⟩:=Rg g hF;refine wW ?_;exact wT (hg33 (x42,s30.2.1,s30.2.2.1,s30.2.2.2.1++[z39.1],s30.2.2.2.2.1,s30.2.2.2.2.2.1,s30.2.2.2.2.2.2)) (zaa hF) (a:=by simp[go_sem,g,zCn hi35 hi36 (by first|assumption|(simp;assumption)|(simp;omega))])
  refine wG hF (fun h43 hF=>?_) fun h43 hF=>?_
  ·exact wV h43 (hj40 _) (zaa hF)
  exact wV h43 (hj40 _) (zaa hF)
 refine wG hF (fun h5 hF=>?_) fun h5 hF=>?_
 ·exact wV h5 (hj2 _) (zaa hF)
 try simp[go_sem,g,h5]
 try intros
 refine wG hF (fun h6 hF=>?_) fun h6 hF=>?_
 ·exact wV h6 (hj2 _) (zaa hF)
 obtain⟨x7,g,hF⟩:=Rxn g 0 hF;try simp[go_sem,g,h6]
 try intros
 exact wT (hj2 _) (zaa hF)
@[go_sem] def zGE:List DE:=[d2 0 [7] 7 7,d0 1 [14],d0 2 [13],d2 3 [9] 9 9,d2 4 [15] 15 15,d2 5 [2,46] 2 2,d0 6 [47],d0 7 [48],d2 8 [5,49] 5 5,d2 9 [6,50] 6 6]
def zem(a0c0:List Int)(a0c1:Int)(a0c2:Int):Option (Group×Int×Int×Contest×Sealed×(List Int×Int×Int)):=
 (zcg a0c0 a0c1 a0c2).bind fun z1=>
 (zbL z1.2.2.2.2.2.2.1 z1.2.2.2.2.2.2.2.1 z1.2.2.2.2.2.2.2.2 z1.1).bind fun z2=>
 (zfl z1.1).bind fun z3=>
 ((if z3=true then(
 (zau z1.1 z1.1.G z2.1).bind fun z8=>
 some z8)else(
 some 1):Option Int).bind fun x6=>
 (zdx z1.1 x6 z1.2.2.1 z1.2.2.2.1 z1.2.2.2.2.1 z1.2.2.2.2.2.1).bind fun z9=>
 some (z1.1,x6,z2.1,z1.2.2.1,z9.1,(z2.2.1,z2.2.2.1,z2.2.2.2)))
theorem zkL:∀{a0c0}{a0c1}{a0c2}{r},zem a0c0 a0c1 a0c2=some r→PCalls Tryz.prog 87 [(.io,vB a0c0 a0c1 a0c2)] (Eo (.tup [vE r.1,.int .i64 r.2.1,.int .i64 r.2.2.1,vF r.2.2.2.1,vT r.2.2.2.2.1]) [vB r.2.2.2.2.2.1 r.2.2.2.2.2.2.1 r.2.2.2.2.2.2.2]):=by
 intro a0c0 a0c1 a0c2 r hr;apply pF 51 [0] [] [] [.cell 2 25,.tmp 3,.tmp 4,.cell 5 27,.cell 6 51] hr zKA Tryz.func87;intro Φ hΦ hF g;unfold zem at hF;refine wW ?_;refine wC hF [.io] zhe fun z1 hF=>?_
 refine wK [0,2,5,6,7,9,10,11,12] ?_;refine wC hF [.io,.sh] ze3 fun z2 hF=>?_
 iterate 2 refine wW ?_
 refine wC hF [.sh] zjI fun z3 hF=>?_
 refine wW ?_;refine wJ hF (fun x6=>[(0,.v (vB z2.2.1 z2.2.2.1 z2.2.2.2)),(2,.bl [.int .i64 0,.int .i64 0,.int .i64 0]),(5,.bl [.int .i64 0,.int .i64 0,.int .i64 0,.int .i64 0,.int .i64 0]),(6,.bl [.int .i64 0,.sl true 2 [],.sl true 3 [],.sl true 1 [],.sl true 1 [],.sl true 1 []]),(7,.bl [.int .i64 z1.1.P,.int .i64 z1.1.Q,.int .i64 z1.1.G]),(9,.bl [.int .i64 z1.2.2.1.Kind,.int .i64 z1.2.2.1.Options,.int .i64 z1.2.2.1.Least,.int .i64 z1.2.2.1.Most,.int .i64 z1.2.2.1.Points]),(10,.v (.int .i64 z1.2.2.2.1)),(11,.v (vC z1.2.2.2.2.1)),(12,.v (vC z1.2.2.2.2.2.1)),(13,.v (.int .i64 z2.1)),(14,.v (.int .i64 x6))]) (fun x6 hF=>?_) fun _ hj4 hF=>?_
 ·refine wC hF [.sh,.sh,.sh,.sh,.sh,.sh] zk0 fun z9 hF=>?_
  refine wK [0,2,5,6,7,9,13,14,15] ?_;refine wX zGE follows ?_;refine wK [0,2,3,4,5,6] ?_;exact wm hΦ hF
 refine wI hF (fun h7 hF=>?_) fun h7 hF=>?_
 ·refine wC hF [.sh,.sh,.sh] zbj fun z8 hF=>?_
  exact wT (hj4 _) (zaa hF)
 exact wT (hj4 _) (zaa hF)
def zch(a0c0:List Int)(a0c1:Int)(a0c2:Int)(a1:Group):Option (Int×(List Int×Int×Int)):=
 (zbk a0c0 a0c1 a0c2 24).bind fun z1=>
 if z1.1=true then(
 (zal z1.2.1 z1.2.2.1 z1.2.2.2 [a1.Q,(-1),i64.wrap (a1.Q-1)]).bind fun z3=>
 some (z3.1,(z3.2.1,z3.2.2.1,z3.2.2.2)))else(
 (zbL z1.2.1 z1.2.2.1 z1.2.2.2 a1).bind fun z4=>
 some (z4.1,(z4.2.1,z4.2.2.1,z4.2.2.2)))
theorem zhb:∀{a0c0}{a0c1}{a0c2}{a1}{r},zch a0c0 a0c1 a0c2 a1=some r→PCalls Tryz.prog 212 [(.io,vB a0c0 a0c1 a0c2),(.sh,vE a1)] (Eo (.int .i64 r.1) [vB r.2.1 r.2.2.1 r.2.2.2,.junk]):=by
 intro a0c0 a0c1 a0c2 a1 r hr;apply pF 18 [0] [] [] [.tmp 4] hr zEx Tryz.func212;intro Φ hΦ hF g;unfold zch at hF;refine wW ?_;refine wC hF [.io,.sh] zcY fun z1 hF=>?_
 refine wW ?_;refine wI hF (fun h2 hF=>?_) fun h2 hF=>?_
 ·refine wC hF [.io,.mv] zas fun z3 hF=>?_
  refine wK [0,4] ?_;exact wm hΦ hF
 refine wW ?_;refine wC hF [.io,.sh] ze3 fun z4 hF=>?_
 exact wl hΦ hF
@[go_sem] def zCT:List DE:=[d1 0 [5] 5,d2 1 [10] 5 10,d1 3 [5] 5,d2 4 [13] 5 13,d1 6 [5] 5,d2 7 [16] 5 16,d3 2 [11],d3 5 [14],d3 8 [17],d0 9 [12,15,18],d2 10 [5,19] 5 5]
@[go_sem] def zAe:List DE:=[d1 0 [5] 5,d2 1 [45] 5 45,d0 2 [0],d0 3 [8],d0 5 [0],d2 6 [4] 4 4,d3 4 [47,48],d3 7 [50,51],d0 8 [46,49],d0 9 [53,52]]
@[go_sem] def zz8:List DE:=[d1 0 [5] 5,d2 1 [61] 5 61,d0 2 [0],d0 3 [9],d0 5 [0],d2 6 [4] 4 4,d3 4 [63,64],d3 7 [66,67],d0 8 [62,65],d0 9 [69,68]]
@[go_sem] def zBN:List DE:=[d1 0 [5] 5,d2 1 [29] 5 29,d0 2 [0],d0 3 [7],d0 5 [0],d2 6 [4] 4 4,d3 4 [31,32],d3 7 [34,35],d0 8 [30,33],d0 9 [37,36]]
def zbI(a0c0:List Int)(a0c1:Int)(a0c2:Int)(a1:Group)(a2:Proof):Option (Proof×(List Int×Int×Int)):=
 (ze9 a2.Commits).bind fun z1=>
 (ze9 a2.Challenges).bind fun z2=>
 (ze9 a2.Responses).bind fun z3=>
 (zag a0c0 a0c1 a0c2 12).bind fun z4=>
 ((if(z4.1==0)=true then(
 if decide (0<(z3.length:Int))=true then(
 (zag z4.2.1 z4.2.2.1 z4.2.2.2 (z3.length:Int)).bind fun z10=>
 (zch z10.2.1 z10.2.2.1 z10.2.2.2 a1).bind fun z11=>
 (ix z3 z10.1).bind fun x12=>
 some (.inl ((z11.2.1,z11.2.2.1,z11.2.2.2),z1,z2,z3.set z10.1.toNat z11.1)))else(
 some (.inl ((z4.2.1,z4.2.2.1,z4.2.2.2),z1,z2,z3))))else(
 if(z4.1==1)=true then(
 if decide (0<(z1.length:Int))=true then(
 (zag z4.2.1 z4.2.2.1 z4.2.2.2 (z1.length:Int)).bind fun z15=>
 (za8 z15.2.1 z15.2.2.1 z15.2.2.2 a1).bind fun z16=>
 (ix z1 z15.1).bind fun x17=>
 some (.inl ((z16.2.1,z16.2.2.1,z16.2.2.2),z1.set z15.1.toNat z16.1,z2,z3)))else(
 some (.inl ((z4.2.1,z4.2.2.1,z4.2.2.2),z1,z2,z3))))else(
 if(z4.1==2)=true then(
 if decide (0<(z2.length:Int))=true then(
 (zag z4.2.1 z4.2.2.1 z4.2.2.2 (z2.length:Int)).bind fun z20=>
 (zch z20.2.1 z20.2.2.1 z20.2.2.2 a1).bind fun z21=>
 (ix z2 z20.1).bind fun x22=>
 some (.inl ((z21.2.1,z21.2.2.1,z21.2.2.2),z1,z2.set z20.1.toNat z21.1,z3)))else(
 some (.inl ((z4.2.1,z4.2.2.1,z4.2.2.2),z1,z2,z3))))else(
 if(z4.1==3)=true then(
 gd ((z3.length+1)*8≤140737488355328∧z3.length+1≤4611686018427387904)<|
 some (.inl ((z4.2.1,z4.2.2.1,z4.2.2.2),z1,z2,z3++[0])))else(
 if(z4.1==4)=true then(
 some (.inr ((Proof.mk [] [] []),(z4.2.1,z4.2.2.1,z4.2.2.2))))else(
 some (.inl ((z4.2.1,z4.2.2.1,z4.2.2.2),z1,z2,z3))))))):Option (((List Int×Int×Int)×List Int×List Int×List Int) ⊕ (Proof×(List Int×Int×Int)))).bind (Sum.elim (fun x7=>
 some ((Proof.mk x7.2.1 x7.2.2.1 x7.2.2.2),(x7.1.1,x7.1.2.1,x7.1.2.2))) some))
theorem zgt:∀{a0c0}{a0c1}{a0c2}{a1}{a2}{r},zbI a0c0 a0c1 a0c2 a1 a2=some r→PCalls Tryz.prog 165 [(.io,vB a0c0 a0c1 a0c2),(.sh,vE a1),(.sh,vH a2)] (Eo (vN r.1) [vB r.2.1 r.2.2.1 r.2.2.2,.junk,.junk]):=by
 intro a0c0 a0c1 a0c2 a1 a2 r hr;apply pF 81 [0] [] [] [.cell 6 49] hr zFS Tryz.func165;intro Φ hΦ hF g;unfold zbI at hF;refine wW ?_;refine wX zCT follows ?_;refine wC hF [.sh] zhq fun z1 hF=>?_
 refine wC hF [.sh] zhq fun z2 hF=>?_
 refine wC hF [.sh] zhq fun z3 hF=>?_
 refine wK [0,4,5,6] ?_;refine wC hF [.io,.sh] zai fun z4 hF=>?_
 refine wW ?_;refine wS hF (fun x7=>[(0,.v (vB x7.1.1 x7.1.2.1 x7.1.2.2)),(5,.bl [vD x7.2.1,vD x7.2.2.1,vD x7.2.2.2]),(6,.bl [.sl true 1 [],.sl true 1 [],.sl true 1 []])]) (fun x7 hF=>?_) fun _ hj5 hr6 hF=>?_
 ·exact wl hΦ hF
 refine wB ?_;refine wW ?_;refine wI hF (fun h8 hF=>?_) fun h8 hF=>?_
 ·try simp[go_sem,g]
  try intros
  refine zap ?_;try simp[go_sem,g]
  try intros
  refine wK [0,4,5,6,7,28] ?_;refine wI hF (fun h9 hF=>?_) fun h9 hF=>?_
  ·refine wX zBN follows ?_;refine wC hF [.io,.sh] zai fun z10 hF=>?_
   refine wC hF [.io,.sh] zhb fun z11 hF=>?_
   obtain⟨x12,g,hF⟩:=Rx g hF;exact wT (hj5 _) (zaa hF)
  exact wT (hj5 _) (zaa hF)
 refine wW ?_;refine wI hF (fun h13 hF=>?_) fun h13 hF=>?_
 ·try simp[go_sem,g]
  try intros
  refine wK [0,4,5,6,8] ?_;refine wW ?_;refine wI hF (fun h14 hF=>?_) fun h14 hF=>?_
  ·refine wX zAe follows ?_;refine wC hF [.io,.sh] zai fun z15 hF=>?_
   refine wC hF [.io,.sh] zdg fun z16 hF=>?_
   obtain⟨x17,g,hF⟩:=Rx g hF;exact wT (hj5 _) (zaa hF)
  exact wT (hj5 _) (zaa hF)
 refine wW ?_;refine wI hF (fun h18 hF=>?_) fun h18 hF=>?_
 ·try simp[go_sem,g]
  try intros
  refine wK [0,4,5,6,9] ?_;refine wW ?_;refine wI hF (fun h19 hF=>?_) fun h19 hF=>?_
  ·refine wX zz8 follows ?_;refine wC hF [.io,.sh] zai fun z20 hF=>?_
   refine wC hF [.io,.sh] zhb fun z21 hF=>?_
   obtain⟨x22,g,hF⟩:=Rx g hF;exact wT (hj5 _) (zaa hF)
  exact wT (hj5 _) (zaa hF)
 refine wK [0,5,6,21,70] ?_;refine wI hF (fun h23 hF=>?_) fun h23 hF=>?_
 ·obtain⟨g,hF⟩:=Rg g hF;exact wT (hj5 _) (zaa hF)
 refine wW ?_;refine wI hF (fun h24 hF=>?_) fun h24 hF=>?_
 ·cases hΦ _ (hr6 _ (zaa hF));refine wW ?_;try simp[go_sem,g]
 exact wT (hj5 _) (zaa hF)
@[go_sem] def zGw:List DE:=[d1 0 [5] 5,d2 1 [10] 5 10,d0 2 [],d1 3 [5] 5,d2 4 [13] 5 13,d0 6 [],d1 7 [5] 5,d2 8 [17] 5 17,d1 10 [5] 5,d2 11 [20] 5 20,d0 13 [],⟨5,[12,14],[],none,true,false,false⟩,⟨9,[16,18],[],none,true,false,false⟩,d0 12 [11,15,19,21],d2 14 [7,22] 7 7]
@[go_sem] def zC3:List DE:=[d1 0 [7] 7,d2 1 [58] 7 58,d0 2 [9],d0 3 [0],d2 4 [4] 4 4,d1 5 [7] 7,d2 6 [63] 7 63,d0 7 [9],d0 8 [64,65],d0 9 [66],d3 10 [61,62,67],d0 11 [59,60],d0 12 [69,68]]
@[go_sem] def zGG:List DE:=[d1 0 [7] 7,d2 1 [41] 7 41,d0 2 [0],d0 3 [8],d0 5 [0],d2 6 [4] 4 4,d3 4 [43,44],d3 7 [46,47],d0 8 [42,45],d0 9 [49],d0 10 [50,48]]
def zcb(a0c0:List Int)(a0c1:Int)(a0c2:Int)(a1:Group)(a2:Sealed):Option (Sealed×(List Int×Int×Int)):=
 gd (a2.Ciphers.length*16≤140737488355328∧a2.Ciphers.length≤4611686018427387904)<|
 gd (a2.Proofs.length*72≤140737488355328∧a2.Proofs.length≤4611686018427387904)<|
 (zag a0c0 a0c1 a0c2 14).bind fun z1=>
 ((if(z1.1==0)=true then(
 (zal z1.2.1 z1.2.2.1 z1.2.2.2 [(-1),i64.wrap (a2.Voter+1),1000000]).bind fun z6=>
 some ((z6.2.1,z6.2.2.1,z6.2.2.2),z6.1,a2.Ciphers,a2.Proofs,a2.Sum.Commits,a2.Sum.Challenges,a2.Sum.Responses))else(
 if(z1.1==1)=true then(
 if decide (0<(a2.Ciphers.length:Int))=true then(
 (zag z1.2.1 z1.2.2.1 z1.2.2.2 (a2.Ciphers.length:Int)).bind fun z9=>
 (za8 z9.2.1 z9.2.2.1 z9.2.2.2 a1).bind fun z10=>
 (ix a2.Ciphers z9.1).bind fun x11=>
 some ((z10.2.1,z10.2.2.1,z10.2.2.2),a2.Voter,a2.Ciphers.set z9.1.toNat (Cipher.mk x11.A z10.1),a2.Proofs,a2.Sum.Commits,a2.Sum.Challenges,a2.Sum.Responses))else(
 some ((z1.2.1,z1.2.2.1,z1.2.2.2),a2.Voter,a2.Ciphers,a2.Proofs,a2.Sum.Commits,a2.Sum.Challenges,a2.Sum.Responses)))else(
 if(z1.1==2)=true then(
 if decide (0<(a2.Ciphers.length:Int))=true then(
 (zag z1.2.1 z1.2.2.1 z1.2.2.2 (a2.Ciphers.length:Int)).bind fun z14=>
 (ix a2.Proofs z14.1).bind fun x15=>
 (zbI z14.2.1 z14.2.2.1 z14.2.2.2 a1 x15).bind fun z16=>
 some ((z16.2.1,z16.2.2.1,z16.2.2.2),a2.Voter,a2.Ciphers,a2.Proofs.set z14.1.toNat z16.1,a2.Sum.Commits,a2.Sum.Challenges,a2.Sum.Responses))else(
 some ((z1.2.1,z1.2.2.1,z1.2.2.2),a2.Voter,a2.Ciphers,a2.Proofs,a2.Sum.Commits,a2.Sum.Challenges,a2.Sum.Responses)))else(
 if(z1.1==3)=true then(
 (zbI z1.2.1 z1.2.2.1 z1.2.2.2 a1 a2.Sum).bind fun z18=>
 some ((z18.2.1,z18.2.2.1,z18.2.2.2),a2.Voter,a2.Ciphers,a2.Proofs,z18.1.Commits,z18.1.Challenges,z18.1.Responses))else(
 if(z1.1==4)=true then(
 if decide (0<(a2.Ciphers.length:Int))=true then(
 gd (1≤a2.Proofs.length∧a2.Proofs.length≤a2.Proofs.length)<|
 some ((z1.2.1,z1.2.2.1,z1.2.2.2),a2.Voter,a2.Ciphers,(a2.Proofs.take a2.Proofs.length).drop 1,a2.Sum.Commits,a2.Sum.Challenges,a2.Sum.Responses))else(
 some ((z1.2.1,z1.2.2.1,z1.2.2.2),a2.Voter,a2.Ciphers,a2.Proofs,a2.Sum.Commits,a2.Sum.Challenges,a2.Sum.Responses)))else(
 if(z1.1==5)=true then(
 if decide (0<(a2.Ciphers.length:Int))=true then(
 gd (0≤(i64.wrap ((a2.Ciphers.length:Int)-1)))<|
 gd (0≤(i64.wrap ((a2.Ciphers.length:Int)-1)).toNat∧(i64.wrap ((a2.Ciphers.length:Int)-1)).toNat≤a2.Ciphers.length)<|
 some ((z1.2.1,z1.2.2.1,z1.2.2.2),a2.Voter,a2.Ciphers.take ((i64.wrap ((a2.Ciphers.length:Int)-1)).toNat),a2.Proofs,a2.Sum.Commits,a2.Sum.Challenges,a2.Sum.Responses))else(
 some ((z1.2.1,z1.2.2.1,z1.2.2.2),a2.Voter,a2.Ciphers,a2.Proofs,a2.Sum.Commits,a2.Sum.Challenges,a2.Sum.Responses)))else(
 some ((z1.2.1,z1.2.2.1,z1.2.2.2),a2.Voter,a2.Ciphers,a2.Proofs,a2.Sum.Commits,a2.Sum.Challenges,a2.Sum.Responses))))))):Option (((List Int×Int×Int)×Int×List Cipher×List Proof×List Int×List Int×List Int))).bind fun x4=>
 some ((Sealed.mk x4.2.1 x4.2.2.1 x4.2.2.2.1 (Proof.mk x4.2.2.2.2.1 x4.2.2.2.2.2.1 x4.2.2.2.2.2.2)),(x4.1.1,x4.1.2.1,x4.1.2.2)))
set_option maxHeartbeats 1000000 in
theorem ziD:∀{a0c0}{a0c1}{a0c2}{a1}{a2}{r},zcb a0c0 a0c1 a0c2 a1 a2=some r→PCalls Tryz.prog 89 [(.io,vB a0c0 a0c1 a0c2),(.sh,vE a1),(.sh,vR a2)] (Eo (vY r.1) [vB r.2.1 r.2.2.1 r.2.2.2,.junk,.junk]):=by
 intro a0c0 a0c1 a0c2 a1 a2 r hr;apply pF 97 [0] [68] [] [.cell 6 51] hr zK0 Tryz.func89;intro Φ hΦ hF g;unfold zcb at hF;refine wW ?_;refine wX zGw follows ?_;obtain⟨g,hF⟩:=Rg g hF;obtain⟨g,hF⟩:=Rg g hF;refine wK [0,4,5,6,7] ?_;try simp[go_sem,g]
 try intros
 refine zap ?_;try simp[go_sem,g]
 try intros
 refine wC hF [.io,.sh] zai fun z1 hF=>?_
 refine wW ?_;refine wJ hF (fun x4=>[(0,.v (vB x4.1.1 x4.1.2.1 x4.1.2.2)),(6,.bl [.int .i64 0,.sl true 2 [],.sl true 3 [],.sl true 1 [],.sl true 1 [],.sl true 1 []]),(7,.bl [.int .i64 x4.2.1,vO x4.2.2.1,vU x4.2.2.2.1,vC x4.2.2.2.2.1,vC x4.2.2.2.2.2.1,vC x4.2.2.2.2.2.2])]) (fun x4 hF=>?_) fun _ hj2 hF=>?_
 ·exact wl hΦ hF
 refine wB ?_;refine wW ?_;refine wI hF (fun h5 hF=>?_) fun h5 hF=>?_
 ·refine wC hF [.io,.mv] zas fun z6 hF=>?_
  try simp[go_sem,g]
  refine zfC 7 2 (by simp[go_sem,g];rfl) rfl (by simp[go_sem]) ?_;exact wT (hj2 _) (zaa hF)
 refine wK [0,4,6,7,8,27,37] ?_;refine wI hF (fun h7 hF=>?_) fun h7 hF=>?_
 ·refine wW ?_;refine wI hF (fun h8 hF=>?_) fun h8 hF=>?_
  ·refine wX zGG follows ?_;refine wC hF [.io,.sh] zai fun z9 hF=>?_
   refine wC hF [.io,.sh] zdg fun z10 hF=>?_
   obtain⟨x11,g,hF⟩:=Rx g hF;try simp[go_sem,g]
   refine zfC 7 2 (by simp[go_sem,g];rfl) rfl (by simp[go_sem]) ?_;exact wT (hj2 _) (zaa hF)
  try simp[go_sem,g]
  refine zfC 7 2 (by simp[go_sem,g];rfl) rfl (by simp[go_sem]) ?_;exact wT (hj2 _) (zaa hF)
 refine wW ?_;refine wI hF (fun h12 hF=>?_) fun h12 hF=>?_
 ·refine wW ?_;refine wI hF (fun h13 hF=>?_) fun h13 hF=>?_
  ·refine wC hF [.io,.sh] zai fun z14 hF=>?_
   refine wW ?_;refine wX zC3 follows ?_;obtain⟨x15,g,hF⟩:=Rx g hF;refine wC hF [.io,.sh,.sh] zgt fun z16 hF=>?_
   try simp[go_sem,g]
   refine zfC 7 2 (by simp[go_sem,g];rfl) rfl (by simp[go_sem]) ?_;exact wT (hj2 _) (zaa hF)
  try simp[go_sem,g]
  refine zfC 7 2 (by simp[go_sem,g];rfl) rfl (by simp[go_sem]) ?_;exact wT (hj2 _) (zaa hF)
 refine wW ?_;refine wI hF (fun h17 hF=>?_) fun h17 hF=>?_
 ·refine wC hF [.io,.sh,.sh] zgt fun z18 hF=>?_
  try simp[go_sem,g]
  refine zfC 7 2 (by simp[go_sem,g];rfl) rfl (by simp[go_sem]) ?_;refine zfC 7 3 (by simp[go_sem,g];rfl) rfl (by simp[go_sem]) ?_;refine zfC 7 4 (by simp[go_sem,g];rfl) rfl (by simp[go_sem]) ?_;refine zfC 7 5 (by simp[go_sem,g];rfl) rfl (by simp[go_sem]) ?_;exact wT (hj2 _) (zaa hF)
 refine wW ?_;refine wI hF (fun h19 hF=>?_) fun h19 hF=>?_
 ·refine wW ?_;refine wI hF (fun h20 hF=>?_) fun h20 hF=>?_
  ·obtain⟨g,hF⟩:=Rg g hF;exact wT (hj2 _) (zaa hF)
  try simp[go_sem,g]
  refine zfC 7 2 (by simp[go_sem,g];rfl) rfl (by simp[go_sem]) ?_;exact wT (hj2 _) (zaa hF)
 refine wW ?_;refine wI hF (fun h21 hF=>?_) fun h21 hF=>?_
 ·refine wK [0,6,7,8,89] ?_;refine wI hF (fun h22 hF=>?_) fun h22 hF=>?_
  ·obtain⟨g,hF⟩:=Rg g hF;obtain⟨g,hF⟩:=Rg g hF;try simp[go_sem,g]
   refine zfC 7 2 (by simp[go_sem,g];rfl) rfl (by simp[go_sem]) ?_;exact wT (hj2 _) (zaa hF)
  try simp[go_sem,g]
  refine zfC 7 2 (by simp[go_sem,g];rfl) rfl (by simp[go_sem]) ?_;exact wT (hj2 _) (zaa hF)
 try simp[go_sem,g]
 refine zfC 7 2 (by simp[go_sem,g];rfl) rfl (by simp[go_sem]) ?_;exact wT (hj2 _) (zaa hF)
@[go_sem] def zGD:List DE:=[d2 0 [7] 7 7,d0 1 [8],d2 2 [10] 10 10,d0 3 [6],d2 4 [7] 7 7,d2 5 [11] 11 11,d3 6 [31,32,33],d2 7 [2,28] 2 2,d0 8 [29],d2 9 [4,30] 4 4,d2 10 [5,34] 5 5]
def zdm(a0:List Int):Option (Group×Int×Contest×Sealed):=
 (zem a0 0 0).bind fun z1=>
 (zbk z1.2.2.2.2.2.1 z1.2.2.2.2.2.2.1 z1.2.2.2.2.2.2.2 16).bind fun z2=>
 ((if z2.1=true then(
 (za8 z2.2.1 z2.2.2.1 z2.2.2.2 z1.1).bind fun z7=>
 some ((z7.2.1,z7.2.2.1,z7.2.2.2),z7.1))else(
 some ((z2.2.1,z2.2.2.1,z2.2.2.2),z1.2.1)):Option (((List Int×Int×Int)×Int))).bind fun x5=>
 (zcb x5.1.1 x5.1.2.1 x5.1.2.2 z1.1 z1.2.2.2.2.1).bind fun z8=>
 some (z1.1,x5.2,z1.2.2.2.1,z8.1))
theorem zkV:∀{a0}{r},zdm a0=some r→PCalls Tryz.prog 25 [(.sh,vA a0)] (Eo (.tup [vE r.1,.int .i64 r.2.1,vF r.2.2.1,vY r.2.2.2]) [.junk]):=by
 intro a0 r hr;apply pF 35 [] [33] [14] [.cell 2 25,.tmp 3,.cell 4 27,.cell 5 51] hr zLN Tryz.func25;intro Φ hΦ hF g;unfold zdm at hF
 iterate 2 refine wW ?_
 refine wC hF [.io] zkL fun z1 hF=>?_
 refine wK [2,4,5,6,7,8,10,11] ?_;refine wC hF [.io,.sh] zcY fun z2 hF=>?_
 refine wW ?_;refine wJ hF (fun x5=>[(2,.bl [.int .i64 0,.int .i64 0,.int .i64 0]),(4,.bl [.int .i64 0,.int .i64 0,.int .i64 0,.int .i64 0,.int .i64 0]),(5,.bl [.int .i64 0,.sl true 2 [],.sl true 3 [],.sl true 1 [],.sl true 1 [],.sl true 1 []]),(6,.v (vB x5.1.1 x5.1.2.1 x5.1.2.2)),(7,.bl [.int .i64 z1.1.P,.int .i64 z1.1.Q,.int .i64 z1.1.G]),(8,.v (.int .i64 x5.2)),(10,.bl [.int .i64 z1.2.2.2.1.Kind,.int .i64 z1.2.2.2.1.Options,.int .i64 z1.2.2.2.1.Least,.int .i64 z1.2.2.2.1.Most,.int .i64 z1.2.2.2.1.Points]),(11,.bl [.int .i64 z1.2.2.2.2.1.Voter,vO z1.2.2.2.2.1.Ciphers,vP z1.2.2.2.2.1.Proofs,vD z1.2.2.2.2.1.Sum.Commits,vD z1.2.2.2.2.1.Sum.Challenges,vD z1.2.2.2.2.1.Sum.Responses])]) (fun x5 hF=>?_) fun _ hj3 hF=>?_
 ·refine wX zGD follows ?_;refine wC hF [.io,.sh,.sh] ziD fun z8 hF=>?_
  refine wK [2,3,4,5] ?_;exact wm hΦ hF
 refine wI hF (fun h6 hF=>?_) fun h6 hF=>?_
 ·refine wC hF [.io,.sh] zdg fun z7 hF=>?_
  exact wT (hj3 _) (zaa hF)
 exact wT (hj3 _) (zaa hF)
def zf2(a0:Contest):Option Int:=
 (zeq a0).bind fun z1=>
 if z1=true then(
 some a0.Options)else(
 some 1)
theorem zmF:∀{a0}{r},zf2 a0=some r→PCalls Tryz.prog 166 [(.sh,vF a0)] (Eo (.int .i64 r) [.junk]):=by
 intro a0 r hr;apply pF 7 [] [] [] [.tmp 2] hr zEO Tryz.func166;intro Φ hΦ hF g;unfold zf2 at hF;refine wW ?_;refine wC hF [.sh] zhr fun z1 hF=>?_
 refine wW ?_;refine wI hF (fun h2 hF=>?_) fun h2 hF=>?_
 ·exact wl hΦ hF
 cases hΦ _ (zaa hF)
 iterate 2 refine wW ?_
 try simp[go_sem,g]
def zhp(a0:Group)(a1:List Cipher):Option Bool:=
 if decide (24<(a1.length:Int))=true then(
 some false)else(
 ((zar (σ:=Unit) (fun i6 s5=>
 (ix a1 i6).bind fun x12=>
 (ze4 a0 [x12.A,x12.B]).bind fun z13=>
 if(!z13)=true then(
 some (.out (.inr false)))else(
 some (.go ()))) (fun s5=>.inl ()) (a1.length) 0 ():Option (Unit ⊕ Bool)).bind (Sum.elim (fun x4=>
 some true) some)))
theorem zrL:∀{a0}{a1}{r},zhp a0 a1=some r→PCalls Tryz.prog 167 [(.sh,vE a0),(.sh,vQ a1)] (Eo (.bool r) [.junk,.junk]):=by
 intro a0 a1 r hr;apply pF 25 [] [] [] [.tmp 4] hr zE6 Tryz.func167;intro Φ hΦ hF g;unfold zhp at hF
 iterate 2 (try simp[go_sem,g];try intros;refine zap ?_)
 refine wI hF (fun h1 hF=>?_) fun h1 hF=>?_
 ·exact wl hΦ hF
 iterate 2 (try simp[go_sem,g];try intros;refine zap ?_)
 refine wS hF (fun x4=>[]) (fun x4 hF=>?_) fun _ hj2 hr3 hF=>?_
 ·exact wl hΦ hF
 refine wB ?_;obtain⟨b15,hb16,hψ9⟩:=hF;refine pR hb16 (fun i6 s5=>[(2,.bl [.int .i64 a0.P,.int .i64 a0.Q,.int .i64 a0.G]),(10,.v (vQ a1)),(11,.v (.int .i64 (a1.length:Int))),(12,.v (.int .i64 i6))]) (fun s5 _ hN17=>?_) fun i6 s5 _ _ hi10 hi11 ho7 hg8 hF=>?_
 ·exact wn hN17 (hj2 _) hψ9
 refine wW ?_;refine wu hi10 hi11 ?_;refine wW ?_;refine wB ?_;obtain⟨x12,g,hF⟩:=Rx g hF;refine wK [2,6,10,11,12] ?_;refine wC hF [.sh,.sh] ziK fun z13 hF=>?_
 refine wW ?_;refine wI hF (fun h14 hF=>?_) fun h14 hF=>?_
 ·cases ho7 _ (zaa hF);cases hΦ _ (hr3 _ hψ9);refine wW ?_;try simp[go_sem,g]
 refine wW ?_;exact wi hi10 hi11 (hg8 _) (zaa hF)
@[go_sem] def zCP:List DE:=[d1 0 [9] 9,d2 1 [14] 9 14,d0 2 [15],d0 3 [2],d0 4 [17],d0 5 [16,18],d0 6 [19],d1 7 [9,20] 9,d2 8 [21,20] 9 21,d0 9 [22,20],d0 10 [23,20],d0 11 [20,24],d0 12 [25],d1 13 [9,26] 9,d2 14 [27,26] 9 27,d0 15 [28,26],d0 16 [2,26],d0 17 [30,26],d0 18 [31,26],d0 19 [32,26],d0 20 [29,33,26],d0 21 [26,34],d0 22 [35],d2 23 [5,36] 5 5,d1 24 [9,36] 9,d2 25 [38,36] 9 38,d3 26 [37,39,36],d0 27 [40,36],d0 28 [36,41],d0 29 [42],d2 30 [5,43] 5 5,d1 31 [9,43] 9,d2 32 [45,43] 9 45,d3 33 [44,46,43],d0 34 [47,43],d0 35 [43,48]]
@[go_sem] def zBJ:List DE:=[d0 0 [11],d2 1 [5] 5 5,d0 2 [1],d0 3 [2],d0 4 [3],d1 5 [9] 9,d2 6 [59] 9 59,d3 7 [57,58,60],d3 8 [55,56,61],d0 9 [54,62]]
@[go_sem] def zDz:List DE:=[d2 0 [5] 5 5,d0 1 [13],d1 2 [9] 9,d2 3 [73] 9 73,d2 5 [5] 5 5,d1 6 [9] 9,d2 7 [77] 9 77,d0 8 [12],d0 9 [78,79],d0 10 [80],d2 11 [5] 5 5,d0 12 [3],d0 13 [12],d0 14 [83,84],d0 15 [85],d0 16 [11],⟨4,[71,72,74],[],none,false,true,false⟩,⟨17,[82,86,87],[],none,false,true,false⟩,d0 18 [81,88],⟨19,[76,89],[],none,true,true,true⟩,d0 20 [75,90]]
def zgw(a0:Group)(a1:ByteArray)(a2:(List (List Int)))(a3:List Int)(a4:Proof):Option Bool:=
 ((if((a4.Commits.length:Int) !=(a2.length:Int))=true then(
 some true)else(
 if((a4.Challenges.length:Int) !=1)=true then(
 some true)else(
 (ix a2 0).bind fun x6=>
 if((a4.Responses.length:Int) !=(x6.length:Int))=true then(
 some true)else(
 (ze4 a0 a4.Commits).bind fun z8=>
 if(!z8)=true then(
 some true)else(
 (zer a0 a4.Responses).bind fun z10=>
 some (!z10))))):Option Bool).bind fun x3=>
 if x3=true then(
 some false)else(
 (ix a4.Challenges 0).bind fun x12=>
 (zey a2 a3 a4.Commits).bind fun z13=>
 (zbY a0 a1 z13).bind fun z14=>
 if(x12 !=z14)=true then(
 some false)else(
 ((zar (σ:=Unit) (fun i20 s19=>
 (ix a2 i20).bind fun x26=>
 (ix a4.Commits i20).bind fun x27=>
 (ix a3 i20).bind fun x28=>
 (zei a0 x26 a4.Responses).bind fun z29=>
 (zau a0 x28 x12).bind fun z30=>
 (zbC a0 [x27,z30]).bind fun z31=>
 if(z29 !=z31)=true then(
 some (.out (.inr false)))else(
 some (.go ()))) (fun s19=>.inl ()) (a2.length) 0 ():Option (Unit ⊕ Bool)).bind (Sum.elim (fun x18=>
 some true) some)))))
theorem zqI:∀{a0}{a1}{a2}{a3}{a4}{r},zgw a0 a1 a2 a3 a4=some r→PCalls Tryz.prog 168 [(.sh,vE a0),(.sh,.str a1),(.sh,vG a2),(.sh,vC a3),(.sh,vH a4)] (Eo (.bool r) [.junk,.junk,.junk,.junk,.junk]):=by
 intro a0 a1 a2 a3 a4 r hr;apply pF 93 [] [] [] [.tmp 10] hr zEZ Tryz.func168;intro Φ hΦ hF g;unfold zgw at hF;refine wW ?_;refine wJ hF (fun x3=>[(1,.v (.str a1)),(2,.v (vG a2)),(3,.v (vC a3)),(5,.bl [.int .i64 a0.P,.int .i64 a0.Q,.int .i64 a0.G]),(9,.bl [vC a4.Commits,vC a4.Challenges,vC a4.Responses]),(49,.v (.bool x3))]) (fun x3 hF=>?_) fun _ hj1 hF=>?_
 ·refine wI hF (fun h11 hF=>?_) fun h11 hF=>?_
  ·exact wl hΦ hF
  obtain⟨x12,g,hF⟩:=Rxn g 0 hF
  iterate 2 refine wW ?_
  refine wX zBJ follows ?_;refine wC hF [.sh,.sh,.sh] zjR fun z13 hF=>?_
  refine wC hF [.sh,.sh,.sh] zhS fun z14 hF=>?_
  refine wK [2,3,5,9,11,63] ?_;refine wI hF (fun h15 hF=>?_) fun h15 hF=>?_
  ·exact wl hΦ hF
  iterate 2 (try simp[go_sem,g];try intros;refine zap ?_)
  refine wS hF (fun x18=>[]) (fun x18 hF=>?_) fun _ hj16 hr17 hF=>?_
  ·exact wl hΦ hF
  refine wB ?_;obtain⟨b33,hb34,hψ23⟩:=hF;refine pR hb34 (fun i20 s19=>[(3,.v (vC a3)),(5,.bl [.int .i64 a0.P,.int .i64 a0.Q,.int .i64 a0.G]),(9,.bl [vC a4.Commits,vC a4.Challenges,vC a4.Responses]),(11,.v (.int .i64 x12)),(64,.v (vG a2)),(65,.v (.int .i64 (a2.length:Int))),(66,.v (.int .i64 i20))]) (fun s19 _ hN35=>?_) fun i20 s19 _ _ hi24 hi25 ho21 hg22 hF=>?_
  ·exact wn hN35 (hj16 _) hψ23
  refine wW ?_;refine wu hi24 hi25 ?_;refine wW ?_;refine wB ?_;obtain⟨x26,g,hF⟩:=Rx g hF;refine wW ?_;refine wX zDz follows ?_;obtain⟨x27,g,hF⟩:=Rx g hF;obtain⟨x28,g,hF⟩:=Rx g hF;refine wD hF zmZ fun z29 hF=>?_
  refine wD hF zbj fun z30 hF=>?_
  refine wC hF [.sh,.sh] ze5 fun z31 hF=>?_
  refine wK [3,5,9,11,64,65,66,91] ?_;refine wI hF (fun h32 hF=>?_) fun h32 hF=>?_
  ·cases ho21 _ (zaa hF);cases hΦ _ (hr17 _ hψ23);refine wW ?_;try simp[go_sem,g]
  refine wW ?_;exact wi hi24 hi25 (hg22 _) (zaa hF)
 refine wX zCP follows ?_;try simp[go_sem,g]
 try intros
 refine wH hF (fun h4 hF=>?_) fun h4 hF=>?_
 ·exact wV h4 (hj1 _) (zaa hF)
 try simp[go_sem,g,h4]
 try intros
 refine wH hF (fun h5 hF=>?_) fun h5 hF=>?_
 ·exact wV h5 (hj1 _) (zaa hF)
 obtain⟨x6,g,hF⟩:=Rxn g 0 hF;try simp[go_sem,g,h5]
 try intros
 refine wH hF (fun h7 hF=>?_) fun h7 hF=>?_
 ·exact wV h7 (hj1 _) (zaa hF)
 try simp[go_sem,g,h7]
 refine wC hF [.sh,.sh] ziK fun z8 hF=>?_
 try simp[go_sem,g,h7]
 refine wH hF (fun h9 hF=>?_) fun h9 hF=>?_
 ·exact wV h9 (hj1 _) (zaa hF)
 try simp[go_sem,g,h9]
 refine wC hF [.sh,.sh] zhg fun z10 hF=>?_
 exact wV h9 (hj1 _) (zaa hF)
def zhy(a0:Proof):Option Bool:=
 some ((i64.wrap ((i64.wrap ((a0.Commits.length:Int)+(a0.Challenges.length:Int)))+(a0.Responses.length:Int)))==0)
theorem zsz:∀{a0}{r},zhy a0=some r→PCalls Tryz.prog 169 [(.sh,vH a0)] (Eo (.bool r) [.junk]):=by
 intro a0 r hr;apply pF 15 [] [] [] [.tmp 2] hr zEi Tryz.func169;intro Φ hΦ hF g;unfold zhy at hF;try simp[go_sem,g]
 try intros
 refine zap ?_;try simp[go_sem,g]
 try intros
 refine wK [2] ?_;exact wm hΦ hF
def zhW(a0:List Int)(a1:Int):Option Int:=
 ((zar (σ:=Int) (fun i5 s4=>
 (ix a0 i5).bind fun x11=>
 gd (a1≠0)<|
 some (.go ((i64.wrap (s4+x11)).tmod a1))) (fun s4=>s4) (a0.length) 0 0:Option Int).bind fun x3=>
 some x3)
theorem ztL:∀{a0}{a1}{r},zhW a0 a1=some r→PCalls Tryz.prog 214 [(.sh,vC a0),(.sh,.int .i64 a1)] (Eo (.int .i64 r) [.junk,.junk]):=by
 intro a0 a1 r hr;apply pF 21 [] [] [] [.tmp 4] hr zFP Tryz.func214;intro Φ hΦ hF g;unfold zhW at hF
 iterate 3 (try simp[go_sem,g];try intros;refine zap ?_)
 refine wJ hF (fun x3=>[(5,.v (.int .i64 x3))]) (fun x3 hF=>?_) fun _ hj1 hF=>?_
 ·exact wl hΦ hF
 refine wB ?_;obtain⟨b12,hb13,hψ8⟩:=hF;refine pR hb13 (fun i5 s4=>[(1,.v (.int .i64 a1)),(5,.v (.int .i64 s4)),(8,.v (vC a0)),(9,.v (.int .i64 (a0.length:Int))),(10,.v (.int .i64 i5))]) (fun s4 _ hN14=>?_) fun i5 s4 _ _ hi9 hi10 ho6 hg7 hF=>?_
 ·exact wn hN14 (hj1 _) hψ8
 refine wW ?_;refine wu hi9 hi10 ?_;refine wW ?_;refine wB ?_;obtain⟨x11,g,hF⟩:=Rx g hF;obtain⟨g,hF⟩:=Rz g hF;refine wW ?_;refine wK [1,5,8,9,10] ?_;exact wi hi9 hi10 (hg7 _) (zaa hF)
@[go_sem] def zC0:List DE:=[d1 0 [7] 7,d2 1 [57] 7 57,d1 2 [4] 4,d2 3 [59] 4 59,d2 5 [4] 4 4,d0 6 [1],d0 7 [2],d1 8 [7] 7,d2 9 [65] 7 65,d3 4 [58,60],d3 10 [62,63,64,66],d0 11 [61,67]]
@[go_sem] def zCz:List DE:=[d1 0 [7] 7,d2 1 [76] 7 76,d0 2 [9],d0 3 [77,78],d0 4 [79],d1 5 [7] 7,d2 6 [81] 7 81,d0 7 [9],d0 8 [82,83],d0 9 [84],d0 10 [80],d0 11 [85]]
@[go_sem] def zBk:List DE:=[d2 0 [4] 4 4,d1 1 [10] 10,d2 2 [87] 10 87,d0 3 [12],d2 5 [4] 4 4,d1 6 [7] 7,d2 7 [92] 7 92,d0 8 [9],d0 9 [94],d0 10 [93,95],d0 11 [96],d2 12 [4] 4 4,d1 13 [10] 10,d2 14 [99] 10 99,d0 15 [11],⟨4,[86,88,89],[],none,false,true,false⟩,⟨16,[98,100,101],[],none,false,true,false⟩,d0 17 [97,102],⟨18,[91,103],[],none,true,true,true⟩,d0 19 [90,104],d0 20 [105],d2 21 [4,106] 4 4,d1 22 [10,106] 10,d2 23 [108,106] 10 108,d0 24 [12,106],d2 26 [4,106] 4 4,d1 27 [7,106] 7,d2 28 [113,106] 7 113,d0 29 [9,106],d0 30 [115,106],d0 31 [116,106],d0 32 [114,117,106],d0 33 [118,106],d2 34 [4,106] 4 4,d1 35 [10,106] 10,d2 36 [121,106] 10 121,d0 37 [11,106],⟨25,[107,109,110,106],[],none,false,true,false⟩,⟨38,[120,122,123,106],[],none,false,true,false⟩,d0 39 [119,124,106],⟨40,[112,125,106],[],none,true,true,true⟩,d0 41 [111,126,106],d0 42 [106,127]]
def zdu(a0:Group)(a1:ByteArray)(a2:List EqualLog)(a3:Proof):Option Bool:=
 ((if((a3.Commits.length:Int) !=(i64.wrap (2*(a2.length:Int))))=true then(
 some true)else(
 if((a3.Challenges.length:Int) !=(a2.length:Int))=true then(
 some true)else(
 if((a3.Responses.length:Int) !=(a2.length:Int))=true then(
 some true)else(
 (ze4 a0 a3.Commits).bind fun z7=>
 if(!z7)=true then(
 some true)else(
 (zer a0 a3.Challenges).bind fun z9=>
 if(!z9)=true then(
 some true)else(
 (zer a0 a3.Responses).bind fun z11=>
 some (!z11)))))):Option Bool).bind fun x3=>
 if x3=true then(
 some false)else(
 (zhW a3.Challenges a0.Q).bind fun z13=>
 (zeA a0 a1 a2 a3.Commits).bind fun z14=>
 if(z13 !=z14)=true then(
 some false)else(
 ((zar (σ:=Unit) (fun i20 s19=>
 (ix a2 i20).bind fun x26=>
 (ix a3.Challenges i20).bind fun x27=>
 (ix a3.Responses i20).bind fun x28=>
 (((ix a3.Commits (i64.wrap (2*i20))).bind fun x32=>
 (zau a0 x26.G1 x28).bind fun z33=>
 (zau a0 x26.Y1 x27).bind fun z34=>
 (zbC a0 [x32,z34]).bind fun z35=>
 if(z33 !=z35)=true then(
 some true)else(
 (ix a3.Commits (i64.wrap ((i64.wrap (2*i20))+1))).bind fun x37=>
 (zau a0 x26.G2 x28).bind fun z38=>
 (zau a0 x26.Y2 x27).bind fun z39=>
 (zbC a0 [x37,z39]).bind fun z40=>
 some (z38 !=z40)):Option Bool).bind fun x31=>
 if x31=true then(
 some (.out (.inr false)))else(
 some (.go ())))) (fun s19=>.inl ()) (a2.length) 0 ():Option (Unit ⊕ Bool)).bind (Sum.elim (fun x18=>
 some true) some)))))
theorem zjP:∀{a0}{a1}{a2}{a3}{r},zdu a0 a1 a2 a3=some r→PCalls Tryz.prog 170 [(.sh,vE a0),(.sh,.str a1),(.sh,vM a2),(.sh,vH a3)] (Eo (.bool r) [.junk,.junk,.junk,.junk]):=by
 intro a0 a1 a2 a3 r hr;apply pF 130 [] [] [] [.tmp 8] hr zGg Tryz.func170;intro Φ hΦ hF g;unfold zdu at hF;refine wW ?_;refine wJ hF (fun x3=>[(1,.v (.str a1)),(2,.v (vM a2)),(4,.bl [.int .i64 a0.P,.int .i64 a0.Q,.int .i64 a0.G]),(7,.bl [vC a3.Commits,vC a3.Challenges,vC a3.Responses]),(56,.v (.bool x3))]) (fun x3 hF=>?_) fun _ hj1 hF=>?_
 ·refine wI hF (fun h12 hF=>?_) fun h12 hF=>?_
  ·exact wl hΦ hF
  refine wW ?_;refine wX zC0 follows ?_;refine wC hF [.sh,.sh] ztL fun z13 hF=>?_
  refine wC hF [.sh,.sh,.sh,.sh] zmE fun z14 hF=>?_
  refine wK [2,4,7,68] ?_;refine wI hF (fun h15 hF=>?_) fun h15 hF=>?_
  ·exact wl hΦ hF
  iterate 2 (try simp[go_sem,g];try intros;refine zap ?_)
  refine wS hF (fun x18=>[]) (fun x18 hF=>?_) fun _ hj16 hr17 hF=>?_
  ·exact wl hΦ hF
  refine wB ?_;obtain⟨b42,hb43,hψ23⟩:=hF;refine pR hb43 (fun i20 s19=>[(4,.bl [.int .i64 a0.P,.int .i64 a0.Q,.int .i64 a0.G]),(7,.bl [vC a3.Commits,vC a3.Challenges,vC a3.Responses]),(69,.v (vM a2)),(70,.v (.int .i64 (a2.length:Int))),(71,.v (.int .i64 i20))]) (fun s19 _ hN44=>?_) fun i20 s19 _ _ hi24 hi25 ho21 hg22 hF=>?_
  ·exact wn hN44 (hj16 _) hψ23
  refine wW ?_;refine wu hi24 hi25 ?_;refine wW ?_;refine wB ?_;obtain⟨x26,g,hF⟩:=Rx g hF;refine wK [4,7,9,10,69,70,71] ?_;refine wX zCz follows ?_;obtain⟨x27,g,hF⟩:=Rx g hF;obtain⟨x28,g,hF⟩:=Rx g hF;refine wK [4,7,9,10,11,12,69,70,71] ?_;refine wJ hF (fun x31=>[(4,.bl [.int .i64 a0.P,.int .i64 a0.Q,.int .i64 a0.G]),(7,.bl [vC a3.Commits,vC a3.Challenges,vC a3.Responses]),(69,.v (vM a2)),(70,.v (.int .i64 (a2.length:Int))),(71,.v (.int .i64 i20)),(128,.v (.bool x31))]) (fun x31 hF=>?_) fun _ hj29 hF=>?_
  ·refine wI hF (fun h41 hF=>?_) fun h41 hF=>?_
   ·cases ho21 _ (zaa hF);cases hΦ _ (hr17 _ hψ23);refine wW ?_;try simp[go_sem,g]
   refine wW ?_;exact wi hi24 hi25 (hg22 _) (zaa hF)
  refine wX zBk follows ?_;obtain⟨x32,g,hF⟩:=Rx g hF;refine wD hF zbj fun z33 hF=>?_
  refine wD hF zbj fun z34 hF=>?_
  refine wC hF [.sh,.sh] ze5 fun z35 hF=>?_
  refine wH hF (fun h36 hF=>?_) fun h36 hF=>?_
  ·exact wV h36 (hj29 _) (zaa hF)
  obtain⟨x37,g,hF⟩:=Rx g hF;try simp[go_sem,g,h36]
  refine wD hF zbj fun z38 hF=>?_
  try simp[go_sem,g,h36]
  refine wD hF zbj fun z39 hF=>?_
  try simp[go_sem,g,h36]
  refine wC hF [.sh,.sh] ze5 fun z40 hF=>?_
  exact wV h36 (hj29 _) (zaa hF)
 try simp[go_sem,g]
 try intros
 refine wG hF (fun h4 hF=>?_) fun h4 hF=>?_
 ·exact wV h4 (hj1 _) (zaa hF)
 try simp[go_sem,g,h4]
 try intros
 refine wG hF (fun h5 hF=>?_) fun h5 hF=>?_
 ·exact wV h5 (hj1 _) (zaa hF)
 try simp[go_sem,g,h5]
 try intros
 refine wG hF (fun h6 hF=>?_) fun h6 hF=>?_
 ·exact wV h6 (hj1 _) (zaa hF)
 try simp[go_sem,g,h6]
 refine wC hF [.sh,.sh] ziK fun z7 hF=>?_
 try simp[go_sem,g,h6]
 refine wG hF (fun h8 hF=>?_) fun h8 hF=>?_
 ·exact wV h8 (hj1 _) (zaa hF)
 try simp[go_sem,g,h8]
 refine wC hF [.sh,.sh] zhg fun z9 hF=>?_
 try simp[go_sem,g,h8]
 refine wG hF (fun h10 hF=>?_) fun h10 hF=>?_
 ·exact wV h10 (hj1 _) (zaa hF)
 try simp[go_sem,g,h10]
 refine wC hF [.sh,.sh] zhg fun z11 hF=>?_
 exact wV h10 (hj1 _) (zaa hF)
@[go_sem] def zFG:List DE:=[d1 0 [7] 7,d2 1 [12] 7 12,d3 2 [13],d0 3 [14],d0 4 [15],d1 5 [7,16] 7,d2 6 [17,16] 7 17,d0 7 [18,16],d2 8 [6,16] 6 6,d3 9 [20,16],d0 10 [19,21,16],d0 11 [16,22],d0 12 [23],d1 13 [7,24] 7,d2 14 [25,24] 7 25,d0 15 [26,24],d2 16 [6,24] 6 6,d3 17 [28,24],d0 18 [27,29,24],d0 19 [24,30],d0 20 [31],d2 21 [4,32] 4 4,d1 22 [7,32] 7,d2 23 [34,32] 7 34,d3 24 [33,35,32],d0 25 [36,32],d0 26 [32,37]]
@[go_sem] def zCE:List DE:=[d2 0 [4] 4 4,d0 1 [9],d2 2 [4] 4 4,d0 3 [1],d2 4 [4] 4 4,d1 5 [7] 7,d2 6 [96] 7 96,d1 8 [6] 6,d2 9 [99] 6 99,d1 10 [6] 6,d2 11 [101] 6 101,d1 13 [7] 7,d2 14 [104] 7 104,d3 7 [95,97],d3 12 [93,94,98,100,102],d3 15 [91,92,103,105],d0 16 [106]]
@[go_sem] def zDX:List DE:=[d2 0 [4] 4 4,d0 1 [9],d1 2 [4] 4,d2 3 [47] 4 47,d0 4 [48],d1 6 [7] 7,d2 7 [51] 7 51,d0 8 [52],d0 9 [53],d0 10 [54],d0 11 [55],d1 12 [7] 7,d2 13 [57] 7 57,d0 14 [58],d0 15 [59],⟨5,[49],[],none,true,true,false⟩,⟨16,[45,46,50,56,60],[],none,true,true,true⟩,d0 17 [61],d1 18 [7,62] 7,d2 19 [63,62] 7 63,d3 20 [64,62],d0 21 [62,65],d0 22 [66]]
@[go_sem] def zEq:List DE:=[d2 0 [4] 4 4,d0 1 [9],d2 2 [4] 4 4,d0 3 [1],d2 4 [11] 11 11,d2 5 [6] 6 6,d1 8 [7] 7,d2 9 [83] 7 83,d0 10 [10],d0 11 [84,85],d0 12 [86],⟨6,[80],[],none,false,true,false⟩,⟨7,[77,78,79,81],[],none,false,true,false⟩,d3 13 [75,76,82,87],d0 14 [88]]
def zgD(a0:Group)(a1:Int)(a2:Contest)(a3:Sealed):Option Bool:=
 (((zbc a3.Voter 0 999999).bind fun z4=>
 if(!z4)=true then(
 some true)else(
 (zf2 a2).bind fun z6=>
 if((a3.Ciphers.length:Int) !=z6)=true then(
 some true)else(
 (zf2 a2).bind fun z8=>
 if((a3.Proofs.length:Int) !=z8)=true then(
 some true)else(
 (zhp a0 a3.Ciphers).bind fun z10=>
 some (!z10)))):Option Bool).bind fun x3=>
 if x3=true then(
 some false)else(
 (zf1 a3.Voter).bind fun z12=>
 (zeq a2).bind fun z13=>
 if(!z13)=true then(
 (((ix a3.Ciphers 0).bind fun x18=>
 (ix a3.Proofs 0).bind fun x19=>
 (zgw a0 z12 [[a0.G]] [x18.A] x19).bind fun z20=>
 if z20=true then(
 (zhy a3.Sum).bind fun z22=>
 some z22)else(
 some false):Option Bool).bind fun x17=>
 some x17))else(
 ((zar (σ:=Unit) (fun i27 s26=>
 (ix a3.Ciphers i27).bind fun x33=>
 (ix a3.Proofs i27).bind fun x34=>
 (zgn a2).bind fun z35=>
 (zbM a0 a1 x33 0 z35).bind fun z36=>
 (zdu a0 z12 z36 x34).bind fun z37=>
 if(!z37)=true then(
 some (.out (.inr false)))else(
 some (.go ()))) (fun s26=>.inl ()) (a3.Ciphers.length) 0 ():Option (Unit ⊕ Bool)).bind (Sum.elim (fun x25=>
 (ze1 a0 a3.Ciphers).bind fun z43=>
 (zbM a0 a1 z43 a2.Least a2.Most).bind fun z44=>
 (zdu a0 z12 z44 a3.Sum).bind fun z45=>
 some z45) some)))))
theorem zqF:∀{a0}{a1}{a2}{a3}{r},zgD a0 a1 a2 a3=some r→PCalls Tryz.prog 90 [(.sh,vE a0),(.sh,.int .i64 a1),(.sh,vF a2),(.sh,vR a3)] (Eo (.bool r) [.junk,.junk,.junk,.junk]):=by
 intro a0 a1 a2 a3 r hr;apply pF 107 [] [] [] [.tmp 8] hr zLE Tryz.func90;intro Φ hΦ hF g;unfold zgD at hF;refine wW ?_;refine wJ hF (fun x3=>[(1,.v (.int .i64 a1)),(4,.bl [.int .i64 a0.P,.int .i64 a0.Q,.int .i64 a0.G]),(6,.bl [.int .i64 a2.Kind,.int .i64 a2.Options,.int .i64 a2.Least,.int .i64 a2.Most,.int .i64 a2.Points]),(7,.bl [.int .i64 a3.Voter,vQ a3.Ciphers,vU a3.Proofs,vC a3.Sum.Commits,vC a3.Sum.Challenges,vC a3.Sum.Responses]),(38,.v (.bool x3))]) (fun x3 hF=>?_) fun _ hj1 hF=>?_
 ·refine wI hF (fun h11 hF=>?_) fun h11 hF=>?_
  ·exact wl hΦ hF
  refine wW ?_;refine wC hF [.sh] zmJ fun z12 hF=>?_
  refine wW ?_;refine wC hF [.sh] zhr fun z13 hF=>?_
  refine wK [1,4,6,7,9,44] ?_;refine wI hF (fun h14 hF=>?_) fun h14 hF=>?_
  ·refine wJ hF (fun x17=>[(8,.v (.bool x17))]) (fun x17 hF=>?_) fun _ hj15 hF=>?_
   ·exact wm hΦ hF
   refine wX zDX follows ?_;obtain⟨x18,g,hF⟩:=Rxn g 0 hF;obtain⟨x19,g,hF⟩:=Rxn g 0 hF;refine wC hF [.sh,.sh,.sh,.sh,.sh] zqI fun z20 hF=>?_
   refine wH hF (fun h21 hF=>?_) fun h21 hF=>?_
   ·try simp[go_sem,g,h21]
    refine wC hF [.sh] zsz fun z22 hF=>?_
    exact wV h21 (hj15 _) (zaa hF)
   exact wV h21 (hj15 _) (zaa hF)
  iterate 2 (try simp[go_sem,g];try intros;refine zap ?_)
  refine wS hF (fun x25=>[(1,.v (.int .i64 a1)),(4,.bl [.int .i64 a0.P,.int .i64 a0.Q,.int .i64 a0.G]),(6,.bl [.int .i64 a2.Kind,.int .i64 a2.Options,.int .i64 a2.Least,.int .i64 a2.Most,.int .i64 a2.Points]),(7,.bl [.int .i64 a3.Voter,vQ a3.Ciphers,vU a3.Proofs,vC a3.Sum.Commits,vC a3.Sum.Challenges,vC a3.Sum.Responses]),(9,.v (.str z12))]) (fun x25 hF=>?_) fun _ hj23 hr24 hF=>?_
  ·refine wX zCE follows ?_;refine wC hF [.sh,.sh] zop fun z43 hF=>?_
   refine wC hF [.sh,.sh,.sh,.sh,.sh] zf8 fun z44 hF=>?_
   refine wC hF [.sh,.sh,.sh,.sh] zjP fun z45 hF=>?_
   refine wK [8] ?_;exact wm hΦ hF
  refine wB ?_;obtain⟨b39,hb40,hψ30⟩:=hF;refine pR hb40 (fun i27 s26=>[(1,.v (.int .i64 a1)),(4,.bl [.int .i64 a0.P,.int .i64 a0.Q,.int .i64 a0.G]),(6,.bl [.int .i64 a2.Kind,.int .i64 a2.Options,.int .i64 a2.Least,.int .i64 a2.Most,.int .i64 a2.Points]),(7,.bl [.int .i64 a3.Voter,vQ a3.Ciphers,vU a3.Proofs,vC a3.Sum.Commits,vC a3.Sum.Challenges,vC a3.Sum.Responses]),(9,.v (.str z12)),(68,.v (vQ a3.Ciphers)),(69,.v (.int .i64 (a3.Ciphers.length:Int))),(70,.v (.int .i64 i27))]) (fun s26 _ hN41=>?_) fun i27 s26 _ _ hi31 hi32 ho28 hg29 hF=>?_
  ·exact wn hN41 (hj23 _) hψ30
  refine wW ?_;refine wu hi31 hi32 ?_;refine wW ?_;refine wB ?_;obtain⟨x33,g,hF⟩:=Rx g hF;refine wK [1,4,6,7,9,10,11,68,69,70] ?_;refine wX zEq follows ?_;obtain⟨x34,g,hF⟩:=Rx g hF;refine wD hF zlt fun z35 hF=>?_
  refine wD hF zf8 fun z36 hF=>?_
  refine wC hF [.sh,.sh,.sh,.sh] zjP fun z37 hF=>?_
  refine wK [1,4,6,7,9,68,69,70,89] ?_;refine wI hF (fun h38 hF=>?_) fun h38 hF=>?_
  ·cases ho28 _ (zaa hF);cases hΦ _ (hr24 _ hψ30);refine wW ?_;try simp[go_sem,g]
  refine wW ?_;exact wi hi31 hi32 (hg29 _) (zaa hF)
 refine wX zFG follows ?_;refine wC hF [.sh,.sh,.sh] zbZ fun z4 hF=>?_
 refine wH hF (fun h5 hF=>?_) fun h5 hF=>?_
 ·exact wV h5 (hj1 _) (zaa hF)
 try simp[go_sem,g,h5]
 try intros
 refine wC hF [.sh] zmF fun z6 hF=>?_
 try simp[go_sem,g,h5]
 refine wH hF (fun h7 hF=>?_) fun h7 hF=>?_
 ·exact wV h7 (hj1 _) (zaa hF)
 try simp[go_sem,g,h7]
 try intros
 refine wC hF [.sh] zmF fun z8 hF=>?_
 try simp[go_sem,g,h7]
 refine wH hF (fun h9 hF=>?_) fun h9 hF=>?_
 ·exact wV h9 (hj1 _) (zaa hF)
 try simp[go_sem,g,h9]
 refine wC hF [.sh,.sh] zrL fun z10 hF=>?_
 exact wV h9 (hj1 _) (zaa hF)
def zeP(a0:Group)(a1:Int)(a2:Contest)(a3:Sealed):Option (Bool×Bool):=
 (((zb4 a0 a2).bind fun z4=>
 if(!z4)=true then(
 some true)else(
 (ze4 a0 [a1]).bind fun z6=>
 some (!z6)):Option Bool).bind fun x3=>
 if x3=true then(
 some (false,false))else(
 (zgD a0 a1 a2 a3).bind fun z8=>
 some (z8,true)))
theorem zmP:∀{a0}{a1}{a2}{a3}{r},zeP a0 a1 a2 a3=some r→PCalls Tryz.prog 26 [(.sh,vE a0),(.sh,.int .i64 a1),(.sh,vF a2),(.sh,vR a3)] (Eo (.tup [.bool r.1,.bool r.2]) [.junk,.junk,.junk,.junk]):=by
 intro a0 a1 a2 a3 r hr;apply pF 26 [] [] [] [.tmp 8,.tmp 9] hr zKu Tryz.func26;intro Φ hΦ hF g;unfold zeP at hF;refine wW ?_;refine wJ hF (fun x3=>[(1,.v (.int .i64 a1)),(4,.bl [.int .i64 a0.P,.int .i64 a0.Q,.int .i64 a0.G]),(6,.bl [.int .i64 a2.Kind,.int .i64 a2.Options,.int .i64 a2.Least,.int .i64 a2.Most,.int .i64 a2.Points]),(7,.bl [.int .i64 a3.Voter,vQ a3.Ciphers,vU a3.Proofs,vC a3.Sum.Commits,vC a3.Sum.Challenges,vC a3.Sum.Responses]),(20,.v (.bool x3))]) (fun x3 hF=>?_) fun _ hj1 hF=>?_
 ·refine wI hF (fun h7 hF=>?_) fun h7 hF=>?_
  ·exact wl hΦ hF
  refine wW ?_;refine wC hF [.sh,.sh,.sh,.sh] zqF fun z8 hF=>?_
  refine wK [8,9] ?_;exact wm hΦ hF
 refine wC hF [.sh,.sh] zkB fun z4 hF=>?_
 refine wG hF (fun h5 hF=>?_) fun h5 hF=>?_
 ·exact wV h5 (hj1 _) (zaa hF)
 try simp[go_sem,g,h5]
 refine wC hF [.sh,.sh] ziK fun z6 hF=>?_
 exact wV h5 (hj1 _) (zaa hF)
def zgk(a0:List Int)(a1:List Int):Option Bool:=
 (zjX a0 a1).bind fun z1=>
 if z1=true then(
 some true)else(
 (zeJ a0).bind fun z3=>
 (zgb a1).bind fun z4=>
 ((if decide (z4<0)=true then(
 some true)else(
 some (decide (z3.1.Q<2))):Option Bool).bind fun x7=>
 ((if x7=true then(
 some 1)else(
 gd (z3.1.Q≠0)<|
 some (z4.tmod z3.1.Q)):Option Int).bind fun x11=>
 (zhh z3.1 x11).bind fun z13=>
 if(!z13.2)=true then(
 some true)else(
 (zga z3.1 z13.1 z3.2.2.1 z3.2.2.2.1 z3.2.2.2.2.1 z3.2.2.2.2.2).bind fun z15=>
 (zdx z3.1 z13.1 z3.2.2.1 z3.2.2.2.1 z3.2.2.2.2.1 z3.2.2.2.2.2).bind fun z16=>
 ((if(z15.2 !=z16.2)=true then(
 some true)else(
 (zd8 z15.1 z16.1).bind fun z21=>
 some (!z21)):Option Bool).bind fun x19=>
 if x19=true then(
 some false)else(
 ((if z15.2=true then(
 (zdJ z3.1 z13.1 z3.2.2.1 z15.1).bind fun z27=>
 (zfs z3.1 x11 z3.2.2.1 z15.1).bind fun z28=>
 ((if(!z27.2)=true then(
 some true)else(
 if(!z27.1)=true then(
 some true)else(
 if(!z28.2)=true then(
 some true)else(
 (zdC z28.1 z3.2.2.2.2.1).bind fun z35=>
 some (!z35)))):Option Bool).bind fun x31=>
 if x31=true then(
 some (.inr false))else(
 (zdK z15.1).bind fun z37=>
 (zd0 z37.1).bind fun z38=>
 ((if z37.2=true then(
 if(!z38.2)=true then(
 some true)else(
 (zd8 z38.1 z15.1).bind fun z44=>
 some (!z44)))else(
 some false):Option Bool).bind fun x41=>
 if x41=true then(
 some (.inr false))else(
 some (.inl ()))))))else(
 some (.inl ())):Option (Unit ⊕ Bool)).bind (Sum.elim (fun x25=>
 (zdm a1).bind fun z46=>
 (zdJ z46.1 z46.2.1 z46.2.2.1 z46.2.2.2).bind fun z47=>
 (zeP z46.1 z46.2.1 z46.2.2.1 z46.2.2.2).bind fun z48=>
 ((if(z47.2==z48.2)=true then(
 some (z47.1==z48.1))else(
 some false):Option Bool).bind fun x51=>
 some x51)) some))))))))
set_option maxHeartbeats 1000000 in
theorem zpy:∀{a0}{a1}{r},zgk a0 a1=some r→PCalls Tryz.prog 4 [(.sh,.sl false 1 (a0.map zgC)),(.sh,.sl false 1 (a1.map zgC))] (Eo (.bool r) [.junk,.junk]):=by
 intro a0 a1 r hr;apply pF 181 [] [] [] [.tmp 4] hr cl4 Tryz.func4;intro Φ hΦ hF g;unfold zgk at hF;refine wW ?_;refine wC hF [.sh,.sh] zvX fun z1 hF=>?_
 refine wW ?_;refine wI hF (fun h2 hF=>?_) fun h2 hF=>?_
 ·exact wl hΦ hF
 refine wW ?_;refine wC hF [.sh] zmK fun z3 hF=>?_
 refine wK [1,5,7,8,9,10] ?_;refine wC hF [.sh] zpJ fun z4 hF=>?_
 refine wW ?_;refine wJ hF (fun x7=>[(1,.v (vA a1)),(5,.bl [.int .i64 z3.1.P,.int .i64 z3.1.Q,.int .i64 z3.1.G]),(7,.bl [.int .i64 z3.2.2.1.Kind,.int .i64 z3.2.2.1.Options,.int .i64 z3.2.2.1.Least,.int .i64 z3.2.2.1.Most,.int .i64 z3.2.2.1.Points]),(8,.v (.int .i64 z3.2.2.2.1)),(9,.v (vC z3.2.2.2.2.1)),(10,.v (vC z3.2.2.2.2.2)),(11,.v (.int .i64 z4)),(54,.v (.bool x7))]) (fun x7 hF=>?_) fun _ hj5 hF=>?_
 ·refine wJ hF (fun x11=>[(1,.v (vA a1)),(5,.bl [.int .i64 z3.1.P,.int .i64 z3.1.Q,.int .i64 z3.1.G]),(7,.bl [.int .i64 z3.2.2.1.Kind,.int .i64 z3.2.2.1.Options,.int .i64 z3.2.2.1.Least,.int .i64 z3.2.2.1.Most,.int .i64 z3.2.2.1.Points]),(8,.v (.int .i64 z3.2.2.2.1)),(9,.v (vC z3.2.2.2.2.1)),(10,.v (vC z3.2.2.2.2.2)),(11,.v (.int .i64 x11))]) (fun x11 hF=>?_) fun _ hj9 hF=>?_
  ·refine wC hF [.sh,.sh] zs2 fun z13 hF=>?_
   refine wK [1,5,7,8,9,10,11,12,13] ?_;refine wW ?_;refine wI hF (fun h14 hF=>?_) fun h14 hF=>?_
   ·exact wl hΦ hF
   refine wW ?_;refine wC hF [.sh,.sh,.sh,.sh,.sh,.sh] zpp fun z15 hF=>?_
   refine wK [1,5,7,8,9,10,11,12,14,15] ?_;refine wC hF [.sh,.sh,.sh,.sh,.sh,.sh] zk0 fun z16 hF=>?_
   refine wK [1,5,7,9,11,12,14,15,16,17] ?_;refine wJ hF (fun x19=>[(1,.v (vA a1)),(5,.bl [.int .i64 z3.1.P,.int .i64 z3.1.Q,.int .i64 z3.1.G]),(7,.bl [.int .i64 z3.2.2.1.Kind,.int .i64 z3.2.2.1.Options,.int .i64 z3.2.2.1.Least,.int .i64 z3.2.2.1.Most,.int .i64 z3.2.2.1.Points]),(9,.v (vC z3.2.2.2.2.1)),(11,.v (.int .i64 x11)),(12,.v (.int .i64 z13.1)),(14,.bl [.int .i64 z15.1.Voter,vQ z15.1.Ciphers,vU z15.1.Proofs,vC z15.1.Sum.Commits,vC z15.1.Sum.Challenges,vC z15.1.Sum.Responses]),(15,.v (.bool z15.2)),(95,.v (.bool x19))]) (fun x19 hF=>?_) fun _ hj17 hF=>?_
   ·refine wI hF (fun h22 hF=>?_) fun h22 hF=>?_
    ·exact wl hΦ hF
    iterate 2 refine wW ?_
    refine wS hF (fun x25=>[(1,.v (vA a1))]) (fun x25 hF=>?_) fun _ hj23 hr24 hF=>?_
    ·refine wC hF [.sh] zkV fun z46 hF=>?_
     refine wK [26,27,28,29] ?_;refine wC hF [.sh,.sh,.sh,.sh] ziY fun z47 hF=>?_
     refine wK [26,27,28,29,30,31] ?_;refine wC hF [.sh,.sh,.sh,.sh] zmP fun z48 hF=>?_
     refine wK [30,31,32,33] ?_;refine wJ hF (fun x51=>[(4,.v (.bool x51))]) (fun x51 hF=>?_) fun _ hj49 hF=>?_
     ·exact wm hΦ hF
     refine wG hF (fun h52 hF=>?_) fun h52 hF=>?_
     ·exact wV h52 (hj49 _) (zaa hF)
     exact wV h52 (hj49 _) (zaa hF)
    refine wI hF (fun h26 hF=>?_) fun h26 hF=>?_
    ·refine wC hF [.sh,.sh,.sh,.sh] ziY fun z27 hF=>?_
     refine wK [1,5,7,9,11,14,18,19] ?_;refine wC hF [.sh,.sh,.sh,.sh] zod fun z28 hF=>?_
     refine wK [1,9,14,18,19,20,21] ?_;refine wJ hF (fun x31=>[(1,.v (vA a1)),(14,.bl [.int .i64 z15.1.Voter,vQ z15.1.Ciphers,vU z15.1.Proofs,vC z15.1.Sum.Commits,vC z15.1.Sum.Challenges,vC z15.1.Sum.Responses]),(128,.v (.bool x31))]) (fun x31 hF=>?_) fun _ hj29 hF=>?_
     ·refine wI hF (fun h36 hF=>?_) fun h36 hF=>?_
      ·cases hΦ _ (hr24 _ (zaa hF));refine wW ?_;try simp[go_sem,g]
      refine wW ?_;refine wC hF [.sh] zi0 fun z37 hF=>?_
      refine wW ?_;refine wC hF [.sh] zlv fun z38 hF=>?_
      refine wK [1,14,23,24,25] ?_;refine wJ hF (fun x41=>[(1,.v (vA a1)),(149,.v (.bool x41))]) (fun x41 hF=>?_) fun _ hj39 hF=>?_
      ·refine wI hF (fun h45 hF=>?_) fun h45 hF=>?_
       ·cases hΦ _ (hr24 _ (zaa hF));refine wW ?_;try simp[go_sem,g]
       exact wT (hj23 _) (zaa hF)
      refine wG hF (fun h42 hF=>?_) fun h42 hF=>?_
      ·try simp[go_sem,g,h42]
       refine wG hF (fun h43 hF=>?_) fun h43 hF=>?_
       ·try simp[go_sem,g,h43,h42]
        exact wT (hj39 _) (zaa hF)
       try simp[go_sem,g,h43]
       refine wC hF [.sh,.sh] zjt fun z44 hF=>?_
       try simp[go_sem,g,h43,h42]
       exact wT (hj39 _) (zaa hF)
      exact wV h42 (hj39 _) (zaa hF)
     refine wG hF (fun h32 hF=>?_) fun h32 hF=>?_
     ·exact wV h32 (hj29 _) (zaa hF)
     try simp[go_sem,g,h32]
     refine wG hF (fun h33 hF=>?_) fun h33 hF=>?_
     ·exact wV h33 (hj29 _) (zaa hF)
     try simp[go_sem,g,h33]
     refine wG hF (fun h34 hF=>?_) fun h34 hF=>?_
     ·exact wV h34 (hj29 _) (zaa hF)
     try simp[go_sem,g,h34]
     refine wC hF [.sh,.sh] zg7 fun z35 hF=>?_
     exact wV h34 (hj29 _) (zaa hF)
    exact wT (hj23 _) (zaa hF)
   refine wG hF (fun h20 hF=>?_) fun h20 hF=>?_
   ·exact wV h20 (hj17 _) (zaa hF)
   try simp[go_sem,g,h20]
   refine wC hF [.sh,.sh] zjt fun z21 hF=>?_
   exact wV h20 (hj17 _) (zaa hF)
  refine wI hF (fun h12 hF=>?_) fun h12 hF=>?_
  ·exact wT (hj9 _) (zaa hF)
  obtain⟨g,hF⟩:=Rz g hF;exact wT (hj9 _) (zaa hF)
 refine wG hF (fun h8 hF=>?_) fun h8 hF=>?_
 ·exact wV h8 (hj5 _) (zaa hF)
 exact wV h8 (hj5 _) (zaa hF)
end
end Go.Pm
