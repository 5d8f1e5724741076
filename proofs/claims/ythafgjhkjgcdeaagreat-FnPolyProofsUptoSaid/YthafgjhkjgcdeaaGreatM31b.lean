/-
  Plain functions and their walks. Written by wip/tools/lift.py.
-/
import Derived.Test.YthafgjhkjgcdeaaGreatM31
namespace Go.Pm
open Go.Am IntKind
open Go.Proofs
set_option maxRecDepth 100000
attribute [local irreducible] pw pwx pw1 pwg qv qz qf
attribute [-simp] List.map_set
set_option linter.unusedSimpArgs false
set_option linter.unusedVariables false
noncomputable section
@[go_sem] def zC6:List DE:=[d0 0 [6],d0 1 [15],d0 2 [78],d0 3 [15],d0 4 [80],d0 5 [77,79,81],d0 6 [6],d0 7 [15],d0 8 [84],d0 9 [15],d0 10 [86],d0 11 [83,85,87],d0 12 [6],d0 13 [15],d0 14 [90],d0 15 [15],d0 16 [92],d0 17 [89,91,93],d0 18 [82],d0 19 [88],d0 20 [94]]
@[go_sem] def zy7:List DE:=[d0 0 [47],d0 1 [21],d0 2 [48],d0 3 [384,385],d0 4 [386],d0 5 [46],d0 6 [33],d0 7 [48],d0 8 [389,390],d0 9 [391],d0 10 [388,392],d0 11 [387,393],d0 12 [16],d0 13 [394,395],d0 14 [396],⟨15,[383,397],[],none,true,false,false⟩,d0 16 [398]]
@[go_sem] def zyH:List DE:=[d0 0 [47],d0 1 [22],d0 2 [49],d0 3 [406,407],d0 4 [408],d0 5 [46],d0 6 [31],d0 7 [18],d0 8 [49],d0 9 [412,413],d0 10 [414],d0 11 [411,415],d0 12 [19],d0 13 [49],d0 14 [417,418],d0 15 [419],d0 16 [416,420],d0 17 [16],d0 18 [421,422],d0 19 [410,423],d0 20 [409,424],d0 21 [16],d0 22 [425,426],d0 23 [427],⟨24,[405,428],[],none,true,false,false⟩,d0 25 [429]]
@[go_sem] def zBe:List DE:=[d0 0 [6],d0 1 [15],d0 2 [96],d0 3 [95,97],d0 4 [98],d0 5 [6],d0 6 [15],d0 7 [101],d0 8 [102],d0 9 [15],d0 10 [104],d0 11 [105],d0 12 [100,103,106],d0 13 [6],d0 14 [15],d0 15 [109],d0 16 [110],d0 17 [15],d0 18 [112],d0 19 [113],d0 20 [108,111,114],d0 21 [6],d0 22 [15],d0 23 [117],d0 24 [118],d0 25 [116,119],d0 26 [120],d0 27 [99],d0 28 [107],d0 29 [115],d0 30 [121]]
@[go_sem] def zzO:List DE:=[d0 0 [47],d0 1 [23],d0 2 [50],d0 3 [437,438],d0 4 [439],d0 5 [46],d0 6 [34],d0 7 [50],d0 8 [442,443],d0 9 [444],d0 10 [441,445],d0 11 [440,446],d0 12 [16],d0 13 [447,448],d0 14 [449],⟨15,[436,450],[],none,true,false,false⟩,d0 16 [451]]
@[go_sem] def zzn:List DE:=[d0 0 [47],d0 1 [25],d0 2 [51],d0 3 [473,474],d0 4 [475],d0 5 [46],d0 6 [29],d0 7 [51],d0 8 [478,479],d0 9 [480],d0 10 [477,481],d0 11 [476,482],d0 12 [16],d0 13 [483,484],d0 14 [485],⟨15,[472,486],[],none,true,false,false⟩,d0 16 [487]]
@[go_sem] def zAd:List DE:=[d0 0 [47],d0 1 [26],d0 2 [52],d0 3 [495,496],d0 4 [497],d0 5 [46],d0 6 [19],d0 7 [52],d0 8 [500,501],d0 9 [502],d0 10 [499,503],d0 11 [498,504],d0 12 [16],d0 13 [505,506],d0 14 [507],⟨15,[494,508],[],none,true,false,false⟩,d0 16 [509]]
@[go_sem] def zCs:List DE:=[d2 0 [7] 7 7,d0 1 [4],d2 2 [7] 7 7,d0 3 [1],d0 4 [3],d0 5 [17],d1 6 [28] 28,d2 7 [134] 28 134,d3 8 [131,132,133,135],d3 9 [130,136],d3 10 [128,129,137],d0 11 [138]]
def ze0 (a0:Group) (a1:Int) (a2:Int) (a3:List Cipher) (a4:List Int) (a5:List Int) (a6:List Int):Option PolyProof:=
 (zga a0 a1 a3 a4 a5).bind fun z1=>
 gd (0≤(a3.length:Int))<|
 gd (0≤a3.length∧a3.length≤a6.length)<|
 gd (0≤(a3.length:Int))<|
 gd (0≤(i64.wrap (2*(a3.length:Int))))<|
 gd (a3.length≤(i64.wrap (2*(a3.length:Int))).toNat∧(i64.wrap (2*(a3.length:Int))).toNat≤a6.length)<|
 gd (0≤(i64.wrap (2*(a3.length:Int))))<|
 gd (0≤(i64.wrap (3*(a3.length:Int))))<|
 gd ((i64.wrap (2*(a3.length:Int))).toNat≤(i64.wrap (3*(a3.length:Int))).toNat∧(i64.wrap (3*(a3.length:Int))).toNat≤a6.length)<|
 gd (0≤(i64.wrap (3*(a3.length:Int))))<|
 gd (0≤(i64.wrap (4*(a3.length:Int))))<|
 gd ((i64.wrap (3*(a3.length:Int))).toNat≤(i64.wrap (4*(a3.length:Int))).toNat∧(i64.wrap (4*(a3.length:Int))).toNat≤a6.length)<|
 gd (0≤(i64.wrap (4*(a3.length:Int))))<|
 gd (0≤(i64.wrap (5*(a3.length:Int))))<|
 gd ((i64.wrap (4*(a3.length:Int))).toNat≤(i64.wrap (5*(a3.length:Int))).toNat∧(i64.wrap (5*(a3.length:Int))).toNat≤a6.length)<|
 gd (0≤(i64.wrap (5*(a3.length:Int))))<|
 gd (0≤(i64.wrap (6*(a3.length:Int))))<|
 gd ((i64.wrap (5*(a3.length:Int))).toNat≤(i64.wrap (6*(a3.length:Int))).toNat∧(i64.wrap (6*(a3.length:Int))).toNat≤a6.length)<|
 (ix a6 (i64.wrap (6*(a3.length:Int)))).bind fun x2=>
 gd (0≤(i64.wrap ((i64.wrap (6*(a3.length:Int)))+1)))<|
 gd (0≤(i64.wrap ((i64.wrap (7*(a3.length:Int)))+1)))<|
 gd ((i64.wrap ((i64.wrap (6*(a3.length:Int)))+1)).toNat≤(i64.wrap ((i64.wrap (7*(a3.length:Int)))+1)).toNat∧(i64.wrap ((i64.wrap (7*(a3.length:Int)))+1)).toNat≤a6.length)<|
 gd (0≤(i64.wrap ((i64.wrap (7*(a3.length:Int)))+1)))<|
 gd (0≤(i64.wrap ((i64.wrap (8*(a3.length:Int)))+1)))<|
 gd ((i64.wrap ((i64.wrap (7*(a3.length:Int)))+1)).toNat≤(i64.wrap ((i64.wrap (8*(a3.length:Int)))+1)).toNat∧(i64.wrap ((i64.wrap (8*(a3.length:Int)))+1)).toNat≤a6.length)<|
 (ix a6 (i64.wrap ((i64.wrap (8*(a3.length:Int)))+1))).bind fun x3=>
 (zfF a0 a2 a4 ((a6.take a3.length).drop 0)).bind fun z4=>
 (zdw a1 a3 z1 z4).bind fun z5=>
 (zbD a0 (⟨#[109,105,120,32,120]⟩:ByteArray) z5).bind fun z6=>
 (zfA a0 a4 z6).bind fun z7=>
 ((zap (σ:=(List Int)×List Int×List Int×List Int×List Int×List Int) (fun i22 s21=>
 (ix z7 i22).bind fun x28=>
 (ix ((a6.take ((i64.wrap (2*(a3.length:Int))).toNat)).drop a3.length) i22).bind fun x29=>
 (zcz a0 a2 x28 x29).bind fun z30=>
 gd ((s21.2.1.length+1)*8≤140737488355328∧s21.2.1.length+1≤4611686018427387904)<|
 some (.go (s21.1,s21.2.1++[z30],s21.2.2.1,s21.2.2.2.1,s21.2.2.2.2.1,s21.2.2.2.2.2))) (fun s21=>(s21.1,s21.2.1,s21.2.2.1,s21.2.2.2.1,s21.2.2.2.2.1,s21.2.2.2.2.2)) (z7.length) 0 (z4,[],[],[],[],[]):Option ((List Int×List Int×List Int×List Int×List Int×List Int))).bind fun x10=>
 (zdA a0 a1 a3 z1 x10.1 x10.2.1).bind fun z35=>
 ((zap (σ:=(List Int)×List Int×List Int×List Int×List Int×List Int×List Int×List Int×Int×Int) (fun i53 s52=>
 (ix a4 i53).bind fun x59=>
 gd (a0.Q≠0)<|
 (ix z7 i53).bind fun x60=>
 (zcu (i64.wrap ((i64.wrap ((i64.wrap (z35.1*((i64.wrap (x59+1)).tmod a0.Q)))+x60))-z35.2)) a0.Q).bind fun z61=>
 gd ((s52.2.2.2.2.2.2.1.length+1)*8≤140737488355328∧s52.2.2.2.2.2.2.1.length+1≤4611686018427387904)<|
 gd (a0.Q≠0)<|
 (ix ((a6.take ((i64.wrap (3*(a3.length:Int))).toNat)).drop ((i64.wrap (2*(a3.length:Int))).toNat)) i53).bind fun x62=>
 (zcz a0 a2 ((i64.wrap (s52.2.2.2.2.2.2.2.2.1*z61)).tmod a0.Q) x62).bind fun z63=>
 gd ((s52.2.2.1.length+1)*8≤140737488355328∧s52.2.2.1.length+1≤4611686018427387904)<|
 (zcu (i64.wrap (x62-(i64.wrap (s52.2.2.2.2.2.2.2.2.2*z61)))) a0.Q).bind fun z64=>
 gd ((s52.2.2.2.2.2.2.2.1.length+1)*8≤140737488355328∧s52.2.2.2.2.2.2.2.1.length+1≤4611686018427387904)<|
 some (.go (s52.1,s52.2.1,s52.2.2.1++[z63],s52.2.2.2.1,s52.2.2.2.2.1,s52.2.2.2.2.2.1,s52.2.2.2.2.2.2.1++[z61],s52.2.2.2.2.2.2.2.1++[z64],(i64.wrap (s52.2.2.2.2.2.2.2.2.1*z61)).tmod a0.Q,x62))) (fun s52=>(s52.1,s52.2.1,s52.2.2.1,s52.2.2.2.1,s52.2.2.2.2.1,s52.2.2.2.2.2.1,s52.2.2.2.2.2.2.1,s52.2.2.2.2.2.2.2.1)) (a4.length) 0 (x10.1,x10.2.1,x10.2.2.1,x10.2.2.2.1,x10.2.2.2.2.1,x10.2.2.2.2.2,[],[],1,0):Option ((List Int×List Int×List Int×List Int×List Int×List Int×List Int×List Int))).bind fun x38=>
 (zeu z1).bind fun z69=>
 ((zap (σ:=(List Int)×List Int×List Int×List Int×List Int×List Int) (fun i85 s84=>
 (ix ((a6.take ((i64.wrap (4*(a3.length:Int))).toNat)).drop ((i64.wrap (3*(a3.length:Int))).toNat)) i85).bind fun x92=>
 (ix ((a6.take ((i64.wrap (5*(a3.length:Int))).toNat)).drop ((i64.wrap (4*(a3.length:Int))).toNat)) i85).bind fun x93=>
 (zcz a0 a2 x92 x93).bind fun z94=>
 gd ((s84.2.2.2.1.length+1)*8≤140737488355328∧s84.2.2.2.1.length+1≤4611686018427387904)<|
 some (.go (s84.1,s84.2.1,s84.2.2.1,s84.2.2.2.1++[z94],s84.2.2.2.2.1,s84.2.2.2.2.2))) (fun s84=>(s84.1,s84.2.1,s84.2.2.1,s84.2.2.2.1,s84.2.2.2.2.1,s84.2.2.2.2.2)) (((a6.take ((i64.wrap (4*(a3.length:Int))).toNat)).drop ((i64.wrap (3*(a3.length:Int))).toNat)).length) 0 (x38.1,x38.2.1,x38.2.2.1,x38.2.2.2.1,x38.2.2.2.2.1,x38.2.2.2.2.2.1):Option ((List Int×List Int×List Int×List Int×List Int×List Int))).bind fun x72=>
 ((zap (σ:=(List Int)×List Int×List Int×List Int×List Int×List Int×Int) (fun i117 s116=>
 (ix ((a6.take ((i64.wrap (4*(a3.length:Int))).toNat)).drop ((i64.wrap (3*(a3.length:Int))).toNat)) i117).bind fun x124=>
 (ix ((a6.take ((i64.wrap (6*(a3.length:Int))).toNat)).drop ((i64.wrap (5*(a3.length:Int))).toNat)) i117).bind fun x125=>
 (zat a0 s116.2.2.2.2.2.2 x124).bind fun z126=>
 (zat a0 a2 x125).bind fun z127=>
 (za1 a0 [z126,z127]).bind fun z128=>
 gd ((s116.2.2.2.1.length+1)*8≤140737488355328∧s116.2.2.2.1.length+1≤4611686018427387904)<|
 (ix s116.2.2.1 i117).bind fun x129=>
 some (.go (s116.1,s116.2.1,s116.2.2.1,s116.2.2.2.1++[z128],s116.2.2.2.2.1,s116.2.2.2.2.2.1,x129))) (fun s116=>(s116.1,s116.2.1,s116.2.2.1,s116.2.2.2.1,s116.2.2.2.2.1,s116.2.2.2.2.2.1)) (((a6.take ((i64.wrap (4*(a3.length:Int))).toNat)).drop ((i64.wrap (3*(a3.length:Int))).toNat)).length) 0 (x72.1,x72.2.1,x72.2.2.1,x72.2.2.2.1,x72.2.2.2.2.1,x72.2.2.2.2.2,a0.G):Option ((List Int×List Int×List Int×List Int×List Int×List Int))).bind fun x101=>
 (zat a0 a2 x2).bind fun z134=>
 gd ((x101.2.2.2.1.length+1)*8≤140737488355328∧x101.2.2.2.1.length+1≤4611686018427387904)<|
 ((zap (σ:=(List Int)×List Int×List Int×List Int×List Int×List Int) (fun i150 s149=>
 (ix ((a6.take ((i64.wrap ((i64.wrap (7*(a3.length:Int)))+1)).toNat)).drop ((i64.wrap ((i64.wrap (6*(a3.length:Int)))+1)).toNat)) i150).bind fun x157=>
 (ix ((a6.take ((i64.wrap ((i64.wrap (8*(a3.length:Int)))+1)).toNat)).drop ((i64.wrap ((i64.wrap (7*(a3.length:Int)))+1)).toNat)) i150).bind fun x158=>
 (zcz a0 a2 x157 x158).bind fun z159=>
 gd ((s149.2.2.2.1.length+1)*8≤140737488355328∧s149.2.2.2.1.length+1≤4611686018427387904)<|
 some (.go (s149.1,s149.2.1,s149.2.2.1,s149.2.2.2.1++[z159],s149.2.2.2.2.1,s149.2.2.2.2.2))) (fun s149=>(s149.1,s149.2.1,s149.2.2.1,s149.2.2.2.1,s149.2.2.2.2.1,s149.2.2.2.2.2)) (((a6.take ((i64.wrap ((i64.wrap (7*(a3.length:Int)))+1)).toNat)).drop ((i64.wrap ((i64.wrap (6*(a3.length:Int)))+1)).toNat)).length) 0 (x101.1,x101.2.1,x101.2.2.1,x101.2.2.2.1++[z134],x101.2.2.2.2.1,x101.2.2.2.2.2):Option ((List Int×List Int×List Int×List Int×List Int×List Int))).bind fun x137=>
 (zat a0 a0.G (i64.wrap (0-x3))).bind fun z164=>
 (zdk a0 z69.1 ((a6.take ((i64.wrap ((i64.wrap (7*(a3.length:Int)))+1)).toNat)).drop ((i64.wrap ((i64.wrap (6*(a3.length:Int)))+1)).toNat))).bind fun z165=>
 (za1 a0 [z164,z165]).bind fun z166=>
 (zat a0 a1 (i64.wrap (0-x3))).bind fun z167=>
 (zdk a0 z69.2 ((a6.take ((i64.wrap ((i64.wrap (7*(a3.length:Int)))+1)).toNat)).drop ((i64.wrap ((i64.wrap (6*(a3.length:Int)))+1)).toNat))).bind fun z168=>
 (za1 a0 [z167,z168]).bind fun z169=>
 gd ((x137.2.2.2.1.length+2)*8≤140737488355328∧x137.2.2.2.1.length+2≤4611686018427387904)<|
 (zeH a0 a1 a3 z1 (PolyProof.mk x137.1 x137.2.1 x137.2.2.1 (Proof.mk (x137.2.2.2.1++[z166,z169]) x137.2.2.2.2.1 x137.2.2.2.2.2))).bind fun z170=>
 ((zap (σ:=(List Int)) (fun i175 s174=>
 (ix ((a6.take ((i64.wrap (4*(a3.length:Int))).toNat)).drop ((i64.wrap (3*(a3.length:Int))).toNat)) i175).bind fun x182=>
 (ix x38.2.2.2.2.2.2.1 i175).bind fun x183=>
 gd (a0.Q≠0)<|
 gd ((s174.length+1)*8≤140737488355328∧s174.length+1≤4611686018427387904)<|
 some (.go (s174++[(i64.wrap (x182+(i64.wrap (z170*x183)))).tmod a0.Q]))) (fun s174=>s174) (((a6.take ((i64.wrap (4*(a3.length:Int))).toNat)).drop ((i64.wrap (3*(a3.length:Int))).toNat)).length) 0 []:Option ((List Int))).bind fun x173=>
 ((zap (σ:=(List Int)) (fun i192 s191=>
 (ix ((a6.take ((i64.wrap (5*(a3.length:Int))).toNat)).drop ((i64.wrap (4*(a3.length:Int))).toNat)) i192).bind fun x199=>
 (ix ((a6.take a3.length).drop 0) i192).bind fun x200=>
 (ix ((a6.take ((i64.wrap (2*(a3.length:Int))).toNat)).drop a3.length) i192).bind fun x201=>
 gd (a0.Q≠0)<|
 gd (a0.Q≠0)<|
 gd ((s191.length+1)*8≤140737488355328∧s191.length+1≤4611686018427387904)<|
 some (.go (s191++[(i64.wrap (x199+(i64.wrap (z170*((i64.wrap ((i64.wrap (z35.1*x200))+x201)).tmod a0.Q))))).tmod a0.Q]))) (fun s191=>s191) (((a6.take ((i64.wrap (4*(a3.length:Int))).toNat)).drop ((i64.wrap (3*(a3.length:Int))).toNat)).length) 0 x173:Option ((List Int))).bind fun x190=>
 ((zap (σ:=(List Int)) (fun i210 s209=>
 (ix ((a6.take ((i64.wrap (6*(a3.length:Int))).toNat)).drop ((i64.wrap (5*(a3.length:Int))).toNat)) i210).bind fun x217=>
 (ix x38.2.2.2.2.2.2.2 i210).bind fun x218=>
 gd (a0.Q≠0)<|
 gd ((s209.length+1)*8≤140737488355328∧s209.length+1≤4611686018427387904)<|
 some (.go (s209++[(i64.wrap (x217+(i64.wrap (z170*x218)))).tmod a0.Q]))) (fun s209=>s209) (((a6.take ((i64.wrap (4*(a3.length:Int))).toNat)).drop ((i64.wrap (3*(a3.length:Int))).toNat)).length) 0 x190:Option ((List Int))).bind fun x208=>
 (ix ((a6.take ((i64.wrap (3*(a3.length:Int))).toNat)).drop ((i64.wrap (2*(a3.length:Int))).toNat)) (i64.wrap ((a3.length:Int)-1))).bind fun x223=>
 gd (a0.Q≠0)<|
 gd ((x208.length+1)*8≤140737488355328∧x208.length+1≤4611686018427387904)<|
 ((zap (σ:=(List Int)) (fun i228 s227=>
 (ix ((a6.take ((i64.wrap ((i64.wrap (7*(a3.length:Int)))+1)).toNat)).drop ((i64.wrap ((i64.wrap (6*(a3.length:Int)))+1)).toNat)) i228).bind fun x235=>
 (ix z7 i228).bind fun x236=>
 gd (a0.Q≠0)<|
 gd ((s227.length+1)*8≤140737488355328∧s227.length+1≤4611686018427387904)<|
 some (.go (s227++[(i64.wrap (x235+(i64.wrap (z170*x236)))).tmod a0.Q]))) (fun s227=>s227) (((a6.take ((i64.wrap ((i64.wrap (7*(a3.length:Int)))+1)).toNat)).drop ((i64.wrap ((i64.wrap (6*(a3.length:Int)))+1)).toNat)).length) 0 (x208++[(i64.wrap (x2+(i64.wrap (z170*x223)))).tmod a0.Q]):Option ((List Int))).bind fun x226=>
 ((zap (σ:=(List Int)) (fun i245 s244=>
 (ix ((a6.take ((i64.wrap ((i64.wrap (8*(a3.length:Int)))+1)).toNat)).drop ((i64.wrap ((i64.wrap (7*(a3.length:Int)))+1)).toNat)) i245).bind fun x252=>
 (ix ((a6.take ((i64.wrap (2*(a3.length:Int))).toNat)).drop a3.length) i245).bind fun x253=>
 gd (a0.Q≠0)<|
 gd ((s244.length+1)*8≤140737488355328∧s244.length+1≤4611686018427387904)<|
 some (.go (s244++[(i64.wrap (x252+(i64.wrap (z170*x253)))).tmod a0.Q]))) (fun s244=>s244) (((a6.take ((i64.wrap ((i64.wrap (7*(a3.length:Int)))+1)).toNat)).drop ((i64.wrap ((i64.wrap (6*(a3.length:Int)))+1)).toNat)).length) 0 x226:Option ((List Int))).bind fun x243=>
 (zf6 a5 z7 a0.Q).bind fun z258=>
 gd (a0.Q≠0)<|
 gd ((x243.length+1)*8≤140737488355328∧x243.length+1≤4611686018427387904)<|
 some (PolyProof.mk x137.1 x137.2.1 x137.2.2.1 (Proof.mk (x137.2.2.2.1++[z166,z169]) [z170] (x243++[(i64.wrap (x3+(i64.wrap (z170*z258)))).tmod a0.Q])))))))))))))
set_option maxHeartbeats 1000000 in
theorem zo5:∀{a0}{a1}{a2}{a3}{a4}{a5}{a6}{r},ze0 a0 a1 a2 a3 a4 a5 a6=some r→PCalls Tryz.prog 38 [(.sh,vE a0),(.sh,.int .i64 a1),(.sh,.int .i64 a2),(.sh,vH a3),(.sh,vC a4),(.sh,vC a5),(.sh,vC a6)] (Eo (vN r) [.junk,.junk,.junk,.junk,.junk,.junk,.junk]):=by
 intro a0 a1 a2 a3 a4 a5 a6 r hr
 apply pF 527 [] [] [] [.cell 14 32] hr zIt Tryz.func38
 intro Φ hΦ hF g
 unfold ze0 at hF
 iterate 3 (try simp[go_sem,g];try intros;refine zaD ?_)
 try simp[go_sem,g]
 try intros
 refine wC hF [.sh,.sh,.sh,.sh,.sh] zmt (fun z1 hF=>?_)
 refine wK [1,2,3,4,5,6,7,14,15,16,17] ?_
 refine wX zBA follows ?_
 obtain⟨g,hF⟩:=Rg g hF
 obtain⟨g,hF⟩:=Rg g hF
 obtain⟨g,hF⟩:=Rg g hF
 obtain⟨g,hF⟩:=Rg g hF
 obtain⟨g,hF⟩:=Rg g hF
 obtain⟨g,hF⟩:=Rg g hF
 obtain⟨g,hF⟩:=Rg g hF
 obtain⟨g,hF⟩:=Rg g hF
 refine wK [1,2,3,4,5,6,7,14,15,16,17,18,19,20] ?_
 refine wX zC6 follows ?_
 obtain⟨g,hF⟩:=Rg g hF
 obtain⟨g,hF⟩:=Rg g hF
 obtain⟨g,hF⟩:=Rg g hF
 obtain⟨g,hF⟩:=Rg g hF
 obtain⟨g,hF⟩:=Rg g hF
 obtain⟨g,hF⟩:=Rg g hF
 obtain⟨g,hF⟩:=Rg g hF
 obtain⟨g,hF⟩:=Rg g hF
 obtain⟨g,hF⟩:=Rg g hF
 refine wK [1,2,3,4,5,6,7,14,15,16,17,18,19,20,21,22,23] ?_
 refine wX zBe follows ?_
 obtain⟨x2,g,hF⟩:=Rx g hF
 obtain⟨g,hF⟩:=Rg g hF
 obtain⟨g,hF⟩:=Rg g hF
 obtain⟨g,hF⟩:=Rg g hF
 obtain⟨g,hF⟩:=Rg g hF
 obtain⟨g,hF⟩:=Rg g hF
 obtain⟨g,hF⟩:=Rg g hF
 obtain⟨x3,g,hF⟩:=Rx g hF
 refine wK [1,2,3,4,5,7,14,15,16,17,18,19,20,21,22,23,24,25,26,27] ?_
 refine wC hF [.sh,.sh,.sh,.sh] zoq (fun z4 hF=>?_)
 refine wW ?_
 refine wX zCs follows ?_
 refine wC hF [.sh,.sh,.sh,.sh] zgB (fun z5 hF=>?_)
 refine wC hF [.sh,.sh,.sh] zew (fun z6 hF=>?_)
 refine wC hF [.sh,.sh,.sh] zoj (fun z7 hF=>?_)
 refine wK [1,2,3,4,5,7,14,15,16,17,18,19,20,21,22,23,24,25,26,27,28,29] ?_
 try simp[go_sem,g]
 try intros
 refine zaD ?_
 refine wJ hF (fun x10=>[(1,.v (.int .i64 a1)),(2,.v (.int .i64 a2)),(3,.v (vH a3)),(4,.v (vC a4)),(5,.v (vC a5)),(7,.bl [.int .i64 a0.P,.int .i64 a0.Q,.int .i64 a0.G]),(14,.bl [.sl true 1 [],.sl true 1 [],.sl true 1 [],.sl true 1 [],.sl true 1 [],.sl true 1 []]),(15,.v (.int .i64 (a3.length:Int))),(16,.v (.int .i64 a0.Q)),(17,.v (vG z1)),(18,.v (vC ((a6.take a3.length).drop 0))),(19,.v (vC ((a6.take ((i64.wrap (2*(a3.length:Int))).toNat)).drop a3.length))),(20,.v (vC ((a6.take ((i64.wrap (3*(a3.length:Int))).toNat)).drop ((i64.wrap (2*(a3.length:Int))).toNat)))),(21,.v (vC ((a6.take ((i64.wrap (4*(a3.length:Int))).toNat)).drop ((i64.wrap (3*(a3.length:Int))).toNat)))),(22,.v (vC ((a6.take ((i64.wrap (5*(a3.length:Int))).toNat)).drop ((i64.wrap (4*(a3.length:Int))).toNat)))),(23,.v (vC ((a6.take ((i64.wrap (6*(a3.length:Int))).toNat)).drop ((i64.wrap (5*(a3.length:Int))).toNat)))),(24,.v (.int .i64 x2)),(25,.v (vC ((a6.take ((i64.wrap ((i64.wrap (7*(a3.length:Int)))+1)).toNat)).drop ((i64.wrap ((i64.wrap (6*(a3.length:Int)))+1)).toNat)))),(26,.v (vC ((a6.take ((i64.wrap ((i64.wrap (8*(a3.length:Int)))+1)).toNat)).drop ((i64.wrap ((i64.wrap (7*(a3.length:Int)))+1)).toNat)))),(27,.v (.int .i64 x3)),(28,.bl [vD x10.1,vD x10.2.1,vD x10.2.2.1,vD x10.2.2.2.1,vD x10.2.2.2.2.1,vD x10.2.2.2.2.2]),(29,.v (vD z7))]) (fun x10 hF=>?_) fun _ hj8 hF=>?_
 ·refine wC hF [.sh,.sh,.sh,.sh,.sh,.sh] zj0 (fun z35 hF=>?_)
  refine wK [1,2,3,4,5,7,14,15,16,17,18,19,20,21,22,23,24,25,26,27,28,29,31,32] ?_
  iterate 3 (try simp[go_sem,g];try intros;refine zaD ?_)
  refine wJ hF (fun x38=>[(1,.v (.int .i64 a1)),(2,.v (.int .i64 a2)),(3,.v (vH a3)),(5,.v (vC a5)),(7,.bl [.int .i64 a0.P,.int .i64 a0.Q,.int .i64 a0.G]),(14,.bl [.sl true 1 [],.sl true 1 [],.sl true 1 [],.sl true 1 [],.sl true 1 [],.sl true 1 []]),(15,.v (.int .i64 (a3.length:Int))),(16,.v (.int .i64 a0.Q)),(17,.v (vG z1)),(18,.v (vC ((a6.take a3.length).drop 0))),(19,.v (vC ((a6.take ((i64.wrap (2*(a3.length:Int))).toNat)).drop a3.length))),(20,.v (vC ((a6.take ((i64.wrap (3*(a3.length:Int))).toNat)).drop ((i64.wrap (2*(a3.length:Int))).toNat)))),(21,.v (vC ((a6.take ((i64.wrap (4*(a3.length:Int))).toNat)).drop ((i64.wrap (3*(a3.length:Int))).toNat)))),(22,.v (vC ((a6.take ((i64.wrap (5*(a3.length:Int))).toNat)).drop ((i64.wrap (4*(a3.length:Int))).toNat)))),(23,.v (vC ((a6.take ((i64.wrap (6*(a3.length:Int))).toNat)).drop ((i64.wrap (5*(a3.length:Int))).toNat)))),(24,.v (.int .i64 x2)),(25,.v (vC ((a6.take ((i64.wrap ((i64.wrap (7*(a3.length:Int)))+1)).toNat)).drop ((i64.wrap ((i64.wrap (6*(a3.length:Int)))+1)).toNat)))),(26,.v (vC ((a6.take ((i64.wrap ((i64.wrap (8*(a3.length:Int)))+1)).toNat)).drop ((i64.wrap ((i64.wrap (7*(a3.length:Int)))+1)).toNat)))),(27,.v (.int .i64 x3)),(28,.bl [vD x38.1,vD x38.2.1,vD x38.2.2.1,vD x38.2.2.2.1,vD x38.2.2.2.2.1,vD x38.2.2.2.2.2.1]),(29,.v (vD z7)),(31,.v (.int .i64 z35.1)),(33,.v (vD x38.2.2.2.2.2.2.1)),(34,.v (vD x38.2.2.2.2.2.2.2))]) (fun x38 hF=>?_) fun _ hj36 hF=>?_
  ·refine wC hF [.sh] zig (fun z69 hF=>?_)
   refine wK [1,2,3,5,7,14,15,16,17,18,19,20,21,22,23,24,25,26,27,28,29,31,33,34,40,41] ?_
   try simp[go_sem,g]
   try intros
   refine zaD ?_
   refine wJ hF (fun x72=>[(1,.v (.int .i64 a1)),(2,.v (.int .i64 a2)),(3,.v (vH a3)),(5,.v (vC a5)),(7,.bl [.int .i64 a0.P,.int .i64 a0.Q,.int .i64 a0.G]),(14,.bl [.sl true 1 [],.sl true 1 [],.sl true 1 [],.sl true 1 [],.sl true 1 [],.sl true 1 []]),(15,.v (.int .i64 (a3.length:Int))),(16,.v (.int .i64 a0.Q)),(17,.v (vG z1)),(18,.v (vC ((a6.take a3.length).drop 0))),(19,.v (vC ((a6.take ((i64.wrap (2*(a3.length:Int))).toNat)).drop a3.length))),(20,.v (vC ((a6.take ((i64.wrap (3*(a3.length:Int))).toNat)).drop ((i64.wrap (2*(a3.length:Int))).toNat)))),(21,.v (vC ((a6.take ((i64.wrap (4*(a3.length:Int))).toNat)).drop ((i64.wrap (3*(a3.length:Int))).toNat)))),(22,.v (vC ((a6.take ((i64.wrap (5*(a3.length:Int))).toNat)).drop ((i64.wrap (4*(a3.length:Int))).toNat)))),(23,.v (vC ((a6.take ((i64.wrap (6*(a3.length:Int))).toNat)).drop ((i64.wrap (5*(a3.length:Int))).toNat)))),(24,.v (.int .i64 x2)),(25,.v (vC ((a6.take ((i64.wrap ((i64.wrap (7*(a3.length:Int)))+1)).toNat)).drop ((i64.wrap ((i64.wrap (6*(a3.length:Int)))+1)).toNat)))),(26,.v (vC ((a6.take ((i64.wrap ((i64.wrap (8*(a3.length:Int)))+1)).toNat)).drop ((i64.wrap ((i64.wrap (7*(a3.length:Int)))+1)).toNat)))),(27,.v (.int .i64 x3)),(28,.bl [vD x72.1,vD x72.2.1,vD x72.2.2.1,vD x72.2.2.2.1,vD x72.2.2.2.2.1,vD x72.2.2.2.2.2]),(29,.v (vD z7)),(31,.v (.int .i64 z35.1)),(33,.v (vD x38.2.2.2.2.2.2.1)),(34,.v (vD x38.2.2.2.2.2.2.2)),(40,.v (vD z69.1)),(41,.v (vD z69.2))]) (fun x72 hF=>?_) fun _ hj70 hF=>?_
   ·iterate 2 (try simp[go_sem,g];try intros;refine zaD ?_)
    refine wJ hF (fun x101=>[(1,.v (.int .i64 a1)),(2,.v (.int .i64 a2)),(3,.v (vH a3)),(5,.v (vC a5)),(7,.bl [.int .i64 a0.P,.int .i64 a0.Q,.int .i64 a0.G]),(14,.bl [.sl true 1 [],.sl true 1 [],.sl true 1 [],.sl true 1 [],.sl true 1 [],.sl true 1 []]),(15,.v (.int .i64 (a3.length:Int))),(16,.v (.int .i64 a0.Q)),(17,.v (vG z1)),(18,.v (vC ((a6.take a3.length).drop 0))),(19,.v (vC ((a6.take ((i64.wrap (2*(a3.length:Int))).toNat)).drop a3.length))),(20,.v (vC ((a6.take ((i64.wrap (3*(a3.length:Int))).toNat)).drop ((i64.wrap (2*(a3.length:Int))).toNat)))),(21,.v (vC ((a6.take ((i64.wrap (4*(a3.length:Int))).toNat)).drop ((i64.wrap (3*(a3.length:Int))).toNat)))),(22,.v (vC ((a6.take ((i64.wrap (5*(a3.length:Int))).toNat)).drop ((i64.wrap (4*(a3.length:Int))).toNat)))),(23,.v (vC ((a6.take ((i64.wrap (6*(a3.length:Int))).toNat)).drop ((i64.wrap (5*(a3.length:Int))).toNat)))),(24,.v (.int .i64 x2)),(25,.v (vC ((a6.take ((i64.wrap ((i64.wrap (7*(a3.length:Int)))+1)).toNat)).drop ((i64.wrap ((i64.wrap (6*(a3.length:Int)))+1)).toNat)))),(26,.v (vC ((a6.take ((i64.wrap ((i64.wrap (8*(a3.length:Int)))+1)).toNat)).drop ((i64.wrap ((i64.wrap (7*(a3.length:Int)))+1)).toNat)))),(27,.v (.int .i64 x3)),(28,.bl [vD x101.1,vD x101.2.1,vD x101.2.2.1,vD x101.2.2.2.1,vD x101.2.2.2.2.1,vD x101.2.2.2.2.2]),(29,.v (vD z7)),(31,.v (.int .i64 z35.1)),(33,.v (vD x38.2.2.2.2.2.2.1)),(34,.v (vD x38.2.2.2.2.2.2.2)),(40,.v (vD z69.1)),(41,.v (vD z69.2))]) (fun x101 hF=>?_) fun _ hj99 hF=>?_
    ·refine wX zz5 follows ?_
     refine wC hF [.sh,.sh,.sh] zbb (fun z134 hF=>?_)
     obtain⟨g,hF⟩:=Rg g hF
     refine wK [1,2,3,5,7,14,15,16,17,18,19,20,21,22,23,24,25,26,27,28,29,31,33,34,40,41] ?_
     try simp[go_sem,g]
     try intros
     refine zaD ?_
     refine wJ hF (fun x137=>[(1,.v (.int .i64 a1)),(3,.v (vH a3)),(5,.v (vC a5)),(7,.bl [.int .i64 a0.P,.int .i64 a0.Q,.int .i64 a0.G]),(14,.bl [.sl true 1 [],.sl true 1 [],.sl true 1 [],.sl true 1 [],.sl true 1 [],.sl true 1 []]),(15,.v (.int .i64 (a3.length:Int))),(16,.v (.int .i64 a0.Q)),(17,.v (vG z1)),(18,.v (vC ((a6.take a3.length).drop 0))),(19,.v (vC ((a6.take ((i64.wrap (2*(a3.length:Int))).toNat)).drop a3.length))),(20,.v (vC ((a6.take ((i64.wrap (3*(a3.length:Int))).toNat)).drop ((i64.wrap (2*(a3.length:Int))).toNat)))),(21,.v (vC ((a6.take ((i64.wrap (4*(a3.length:Int))).toNat)).drop ((i64.wrap (3*(a3.length:Int))).toNat)))),(22,.v (vC ((a6.take ((i64.wrap (5*(a3.length:Int))).toNat)).drop ((i64.wrap (4*(a3.length:Int))).toNat)))),(23,.v (vC ((a6.take ((i64.wrap (6*(a3.length:Int))).toNat)).drop ((i64.wrap (5*(a3.length:Int))).toNat)))),(24,.v (.int .i64 x2)),(25,.v (vC ((a6.take ((i64.wrap ((i64.wrap (7*(a3.length:Int)))+1)).toNat)).drop ((i64.wrap ((i64.wrap (6*(a3.length:Int)))+1)).toNat)))),(26,.v (vC ((a6.take ((i64.wrap ((i64.wrap (8*(a3.length:Int)))+1)).toNat)).drop ((i64.wrap ((i64.wrap (7*(a3.length:Int)))+1)).toNat)))),(27,.v (.int .i64 x3)),(28,.bl [vD x137.1,vD x137.2.1,vD x137.2.2.1,vD x137.2.2.2.1,vD x137.2.2.2.2.1,vD x137.2.2.2.2.2]),(29,.v (vD z7)),(31,.v (.int .i64 z35.1)),(33,.v (vD x38.2.2.2.2.2.2.1)),(34,.v (vD x38.2.2.2.2.2.2.2)),(40,.v (vD z69.1)),(41,.v (vD z69.2))]) (fun x137 hF=>?_) fun _ hj135 hF=>?_
     ·refine wX zyJ follows ?_
      refine wC hF [.sh,.sh,.sh] zbb (fun z164 hF=>?_)
      refine wC hF [.sh,.sh,.sh] zfq (fun z165 hF=>?_)
      refine wC hF [.sh,.sh] zcv (fun z166 hF=>?_)
      refine wC hF [.sh,.sh,.sh] zbb (fun z167 hF=>?_)
      refine wC hF [.sh,.sh,.sh] zfq (fun z168 hF=>?_)
      refine wC hF [.sh,.sh] zcv (fun z169 hF=>?_)
      obtain⟨g,hF⟩:=Rg g hF
      refine wK [1,3,5,7,14,15,16,17,18,19,20,21,22,23,24,25,26,27,28,29,31,33,34] ?_
      refine wC hF [.sh,.sh,.sh,.sh,.sh] zms (fun z170 hF=>?_)
      refine wW ?_
      refine wK [5,14,15,16,18,19,20,21,22,23,24,25,26,27,28,29,31,33,34,46] ?_
      iterate 2 (try simp[go_sem,g];try intros;refine zaD ?_)
      refine wJ hF (fun x173=>[(5,.v (vC a5)),(14,.bl [.sl true 1 [],.sl true 1 [],.sl true 1 [],.sl true 1 [],.sl true 1 [],.sl true 1 []]),(15,.v (.int .i64 (a3.length:Int))),(16,.v (.int .i64 a0.Q)),(18,.v (vC ((a6.take a3.length).drop 0))),(19,.v (vC ((a6.take ((i64.wrap (2*(a3.length:Int))).toNat)).drop a3.length))),(20,.v (vC ((a6.take ((i64.wrap (3*(a3.length:Int))).toNat)).drop ((i64.wrap (2*(a3.length:Int))).toNat)))),(21,.v (vC ((a6.take ((i64.wrap (4*(a3.length:Int))).toNat)).drop ((i64.wrap (3*(a3.length:Int))).toNat)))),(22,.v (vC ((a6.take ((i64.wrap (5*(a3.length:Int))).toNat)).drop ((i64.wrap (4*(a3.length:Int))).toNat)))),(23,.v (vC ((a6.take ((i64.wrap (6*(a3.length:Int))).toNat)).drop ((i64.wrap (5*(a3.length:Int))).toNat)))),(24,.v (.int .i64 x2)),(25,.v (vC ((a6.take ((i64.wrap ((i64.wrap (7*(a3.length:Int)))+1)).toNat)).drop ((i64.wrap ((i64.wrap (6*(a3.length:Int)))+1)).toNat)))),(26,.v (vC ((a6.take ((i64.wrap ((i64.wrap (8*(a3.length:Int)))+1)).toNat)).drop ((i64.wrap ((i64.wrap (7*(a3.length:Int)))+1)).toNat)))),(27,.v (.int .i64 x3)),(28,.bl [vD x137.1,vD x137.2.1,vD x137.2.2.1,vD (x137.2.2.2.1++[z166,z169]),vD [z170],vD x137.2.2.2.2.2]),(29,.v (vD z7)),(31,.v (.int .i64 z35.1)),(34,.v (vD x38.2.2.2.2.2.2.2)),(46,.v (.int .i64 z170)),(47,.v (vD x173))]) (fun x173 hF=>?_) fun _ hj171 hF=>?_
      ·try simp[go_sem,g]
       try intros
       refine zaD ?_
       refine wJ hF (fun x190=>[(5,.v (vC a5)),(14,.bl [.sl true 1 [],.sl true 1 [],.sl true 1 [],.sl true 1 [],.sl true 1 [],.sl true 1 []]),(15,.v (.int .i64 (a3.length:Int))),(16,.v (.int .i64 a0.Q)),(19,.v (vC ((a6.take ((i64.wrap (2*(a3.length:Int))).toNat)).drop a3.length))),(20,.v (vC ((a6.take ((i64.wrap (3*(a3.length:Int))).toNat)).drop ((i64.wrap (2*(a3.length:Int))).toNat)))),(21,.v (vC ((a6.take ((i64.wrap (4*(a3.length:Int))).toNat)).drop ((i64.wrap (3*(a3.length:Int))).toNat)))),(23,.v (vC ((a6.take ((i64.wrap (6*(a3.length:Int))).toNat)).drop ((i64.wrap (5*(a3.length:Int))).toNat)))),(24,.v (.int .i64 x2)),(25,.v (vC ((a6.take ((i64.wrap ((i64.wrap (7*(a3.length:Int)))+1)).toNat)).drop ((i64.wrap ((i64.wrap (6*(a3.length:Int)))+1)).toNat)))),(26,.v (vC ((a6.take ((i64.wrap ((i64.wrap (8*(a3.length:Int)))+1)).toNat)).drop ((i64.wrap ((i64.wrap (7*(a3.length:Int)))+1)).toNat)))),(27,.v (.int .i64 x3)),(28,.bl [vD x137.1,vD x137.2.1,vD x137.2.2.1,vD (x137.2.2.2.1++[z166,z169]),vD [z170],vD x137.2.2.2.2.2]),(29,.v (vD z7)),(34,.v (vD x38.2.2.2.2.2.2.2)),(46,.v (.int .i64 z170)),(47,.v (vD x190))]) (fun x190 hF=>?_) fun _ hj188 hF=>?_
       ·try simp[go_sem,g]
        try intros
        refine wK [5,14,15,16,19,20,23,24,25,26,27,28,29,34,46,47,432,433] ?_
        refine wJ hF (fun x208=>[(5,.v (vC a5)),(14,.bl [.sl true 1 [],.sl true 1 [],.sl true 1 [],.sl true 1 [],.sl true 1 [],.sl true 1 []]),(15,.v (.int .i64 (a3.length:Int))),(16,.v (.int .i64 a0.Q)),(19,.v (vC ((a6.take ((i64.wrap (2*(a3.length:Int))).toNat)).drop a3.length))),(20,.v (vC ((a6.take ((i64.wrap (3*(a3.length:Int))).toNat)).drop ((i64.wrap (2*(a3.length:Int))).toNat)))),(24,.v (.int .i64 x2)),(25,.v (vC ((a6.take ((i64.wrap ((i64.wrap (7*(a3.length:Int)))+1)).toNat)).drop ((i64.wrap ((i64.wrap (6*(a3.length:Int)))+1)).toNat)))),(26,.v (vC ((a6.take ((i64.wrap ((i64.wrap (8*(a3.length:Int)))+1)).toNat)).drop ((i64.wrap ((i64.wrap (7*(a3.length:Int)))+1)).toNat)))),(27,.v (.int .i64 x3)),(28,.bl [vD x137.1,vD x137.2.1,vD x137.2.2.1,vD (x137.2.2.2.1++[z166,z169]),vD [z170],vD x137.2.2.2.2.2]),(29,.v (vD z7)),(46,.v (.int .i64 z170)),(47,.v (vD x208))]) (fun x208 hF=>?_) fun _ hj206 hF=>?_
        ·obtain⟨x223,g,hF⟩:=Rxq g hF
         obtain⟨g,hF⟩:=Rz g hF
         obtain⟨g,hF⟩:=Rg g hF
         refine wK [5,14,16,19,25,26,27,28,29,46,47] ?_
         try simp[go_sem,g]
         try intros
         refine zaD ?_
         refine wJ hF (fun x226=>[(5,.v (vC a5)),(14,.bl [.sl true 1 [],.sl true 1 [],.sl true 1 [],.sl true 1 [],.sl true 1 [],.sl true 1 []]),(16,.v (.int .i64 a0.Q)),(19,.v (vC ((a6.take ((i64.wrap (2*(a3.length:Int))).toNat)).drop a3.length))),(25,.v (vC ((a6.take ((i64.wrap ((i64.wrap (7*(a3.length:Int)))+1)).toNat)).drop ((i64.wrap ((i64.wrap (6*(a3.length:Int)))+1)).toNat)))),(26,.v (vC ((a6.take ((i64.wrap ((i64.wrap (8*(a3.length:Int)))+1)).toNat)).drop ((i64.wrap ((i64.wrap (7*(a3.length:Int)))+1)).toNat)))),(27,.v (.int .i64 x3)),(28,.bl [vD x137.1,vD x137.2.1,vD x137.2.2.1,vD (x137.2.2.2.1++[z166,z169]),vD [z170],vD x137.2.2.2.2.2]),(29,.v (vD z7)),(46,.v (.int .i64 z170)),(47,.v (vD x226))]) (fun x226 hF=>?_) fun _ hj224 hF=>?_
         ·try simp[go_sem,g]
          try intros
          refine zaD ?_
          refine wJ hF (fun x243=>[(5,.v (vC a5)),(14,.bl [.sl true 1 [],.sl true 1 [],.sl true 1 [],.sl true 1 [],.sl true 1 [],.sl true 1 []]),(16,.v (.int .i64 a0.Q)),(27,.v (.int .i64 x3)),(28,.bl [vD x137.1,vD x137.2.1,vD x137.2.2.1,vD (x137.2.2.2.1++[z166,z169]),vD [z170],vD x137.2.2.2.2.2]),(29,.v (vD z7)),(46,.v (.int .i64 z170)),(47,.v (vD x243))]) (fun x243 hF=>?_) fun _ hj241 hF=>?_
          ·refine wC hF [.sh,.sh,.sh] zqX (fun z258 hF=>?_)
           obtain⟨g,hF⟩:=Rz g hF
           obtain⟨g,hF⟩:=Rg g hF
           refine wK [14,28] ?_
           exact wl hΦ hF
          refine wB ?_
          obtain⟨b254,hb255,hψ248⟩:=hF
          refine pR hb255 (fun i245 s244=>[(5,.v (vC a5)),(14,.bl [.sl true 1 [],.sl true 1 [],.sl true 1 [],.sl true 1 [],.sl true 1 [],.sl true 1 []]),(16,.v (.int .i64 a0.Q)),(19,.v (vC ((a6.take ((i64.wrap (2*(a3.length:Int))).toNat)).drop a3.length))),(26,.v (vC ((a6.take ((i64.wrap ((i64.wrap (8*(a3.length:Int)))+1)).toNat)).drop ((i64.wrap ((i64.wrap (7*(a3.length:Int)))+1)).toNat)))),(27,.v (.int .i64 x3)),(28,.bl [vD x137.1,vD x137.2.1,vD x137.2.2.1,vD (x137.2.2.2.1++[z166,z169]),vD [z170],vD x137.2.2.2.2.2]),(29,.v (vD z7)),(46,.v (.int .i64 z170)),(47,.v (vD s244)),(490,.v (.int .i64 (((a6.take ((i64.wrap ((i64.wrap (7*(a3.length:Int)))+1)).toNat)).drop ((i64.wrap ((i64.wrap (6*(a3.length:Int)))+1)).toNat)).length:Int))),(491,.v (.int .i64 i245))]) (fun s244 _ hN256=>?_) (fun i245 s244 _ _ hi249 hi250 ho246 hg247 hF=>?_)
          ·exact wn hN256 (hj241 _) hψ248
          have hi251:=hi250
          try simp at hi251
          refine wW ?_
          refine wt ?_ (hb:=by simp[go_sem,g,hi249,hi250,hi251]<;>omega)
          refine wW ?_
          refine wB ?_
          refine wW ?_
          refine wX zAd follows ?_
          obtain⟨x252,g,hF⟩:=Rxq g hF
          obtain⟨x253,g,hF⟩:=Rxq g hF
          obtain⟨g,hF⟩:=Rz g hF
          obtain⟨g,hF⟩:=Rg g hF
          refine wK [5,14,16,19,26,27,28,29,46,47,490,491] ?_
          exact wT (hg247 (s244++[(i64.wrap (x252+(i64.wrap (z170*x253)))).tmod a0.Q])) (zaa hF) (a:=by simp[go_sem,g,zkN hi249 hi250 (by first|assumption|(simp;assumption)|(simp;omega))])
         refine wB ?_
         obtain⟨b237,hb238,hψ231⟩:=hF
         refine pR hb238 (fun i228 s227=>[(5,.v (vC a5)),(14,.bl [.sl true 1 [],.sl true 1 [],.sl true 1 [],.sl true 1 [],.sl true 1 [],.sl true 1 []]),(16,.v (.int .i64 a0.Q)),(19,.v (vC ((a6.take ((i64.wrap (2*(a3.length:Int))).toNat)).drop a3.length))),(25,.v (vC ((a6.take ((i64.wrap ((i64.wrap (7*(a3.length:Int)))+1)).toNat)).drop ((i64.wrap ((i64.wrap (6*(a3.length:Int)))+1)).toNat)))),(26,.v (vC ((a6.take ((i64.wrap ((i64.wrap (8*(a3.length:Int)))+1)).toNat)).drop ((i64.wrap ((i64.wrap (7*(a3.length:Int)))+1)).toNat)))),(27,.v (.int .i64 x3)),(28,.bl [vD x137.1,vD x137.2.1,vD x137.2.2.1,vD (x137.2.2.2.1++[z166,z169]),vD [z170],vD x137.2.2.2.2.2]),(29,.v (vD z7)),(46,.v (.int .i64 z170)),(47,.v (vD s227)),(468,.v (.int .i64 (((a6.take ((i64.wrap ((i64.wrap (7*(a3.length:Int)))+1)).toNat)).drop ((i64.wrap ((i64.wrap (6*(a3.length:Int)))+1)).toNat)).length:Int))),(469,.v (.int .i64 i228))]) (fun s227 _ hN239=>?_) (fun i228 s227 _ _ hi232 hi233 ho229 hg230 hF=>?_)
         ·exact wn hN239 (hj224 _) hψ231
         have hi234:=hi233
         try simp at hi234
         refine wW ?_
         refine wt ?_ (hb:=by simp[go_sem,g,hi232,hi233,hi234]<;>omega)
         refine wW ?_
         refine wB ?_
         refine wW ?_
         refine wX zzn follows ?_
         obtain⟨x235,g,hF⟩:=Rxq g hF
         obtain⟨x236,g,hF⟩:=Rx g hF
         obtain⟨g,hF⟩:=Rz g hF
         obtain⟨g,hF⟩:=Rg g hF
         refine wK [5,14,16,19,25,26,27,28,29,46,47,468,469] ?_
         exact wT (hg230 (s227++[(i64.wrap (x235+(i64.wrap (z170*x236)))).tmod a0.Q])) (zaa hF) (a:=by simp[go_sem,g,zkN hi232 hi233 (by first|assumption|(simp;assumption)|(simp;omega))])
        refine wB ?_
        obtain⟨b219,hb220,hψ213⟩:=hF
        refine pR hb220 (fun i210 s209=>[(5,.v (vC a5)),(14,.bl [.sl true 1 [],.sl true 1 [],.sl true 1 [],.sl true 1 [],.sl true 1 [],.sl true 1 []]),(15,.v (.int .i64 (a3.length:Int))),(16,.v (.int .i64 a0.Q)),(19,.v (vC ((a6.take ((i64.wrap (2*(a3.length:Int))).toNat)).drop a3.length))),(20,.v (vC ((a6.take ((i64.wrap (3*(a3.length:Int))).toNat)).drop ((i64.wrap (2*(a3.length:Int))).toNat)))),(23,.v (vC ((a6.take ((i64.wrap (6*(a3.length:Int))).toNat)).drop ((i64.wrap (5*(a3.length:Int))).toNat)))),(24,.v (.int .i64 x2)),(25,.v (vC ((a6.take ((i64.wrap ((i64.wrap (7*(a3.length:Int)))+1)).toNat)).drop ((i64.wrap ((i64.wrap (6*(a3.length:Int)))+1)).toNat)))),(26,.v (vC ((a6.take ((i64.wrap ((i64.wrap (8*(a3.length:Int)))+1)).toNat)).drop ((i64.wrap ((i64.wrap (7*(a3.length:Int)))+1)).toNat)))),(27,.v (.int .i64 x3)),(28,.bl [vD x137.1,vD x137.2.1,vD x137.2.2.1,vD (x137.2.2.2.1++[z166,z169]),vD [z170],vD x137.2.2.2.2.2]),(29,.v (vD z7)),(34,.v (vD x38.2.2.2.2.2.2.2)),(46,.v (.int .i64 z170)),(47,.v (vD s209)),(432,.v (.int .i64 (((a6.take ((i64.wrap (4*(a3.length:Int))).toNat)).drop ((i64.wrap (3*(a3.length:Int))).toNat)).length:Int))),(433,.v (.int .i64 i210))]) (fun s209 _ hN221=>?_) (fun i210 s209 _ _ hi214 hi215 ho211 hg212 hF=>?_)
        ·exact wn hN221 (hj206 _) hψ213
        have hi216:=hi215
        try simp at hi216
        refine wW ?_
        refine wt ?_ (hb:=by simp[go_sem,g,hi214,hi215,hi216]<;>omega)
        refine wW ?_
        refine wB ?_
        refine wW ?_
        refine wX zzO follows ?_
        obtain⟨x217,g,hF⟩:=Rxq g hF
        obtain⟨x218,g,hF⟩:=Rx g hF
        obtain⟨g,hF⟩:=Rz g hF
        obtain⟨g,hF⟩:=Rg g hF
        refine wK [5,14,15,16,19,20,23,24,25,26,27,28,29,34,46,47,432,433] ?_
        exact wT (hg212 (s209++[(i64.wrap (x217+(i64.wrap (z170*x218)))).tmod a0.Q])) (zaa hF) (a:=by simp[go_sem,g,zkN hi214 hi215 (by first|assumption|(simp;assumption)|(simp;omega))])
       refine wB ?_
       obtain⟨b202,hb203,hψ195⟩:=hF
       refine pR hb203 (fun i192 s191=>[(5,.v (vC a5)),(14,.bl [.sl true 1 [],.sl true 1 [],.sl true 1 [],.sl true 1 [],.sl true 1 [],.sl true 1 []]),(15,.v (.int .i64 (a3.length:Int))),(16,.v (.int .i64 a0.Q)),(18,.v (vC ((a6.take a3.length).drop 0))),(19,.v (vC ((a6.take ((i64.wrap (2*(a3.length:Int))).toNat)).drop a3.length))),(20,.v (vC ((a6.take ((i64.wrap (3*(a3.length:Int))).toNat)).drop ((i64.wrap (2*(a3.length:Int))).toNat)))),(21,.v (vC ((a6.take ((i64.wrap (4*(a3.length:Int))).toNat)).drop ((i64.wrap (3*(a3.length:Int))).toNat)))),(22,.v (vC ((a6.take ((i64.wrap (5*(a3.length:Int))).toNat)).drop ((i64.wrap (4*(a3.length:Int))).toNat)))),(23,.v (vC ((a6.take ((i64.wrap (6*(a3.length:Int))).toNat)).drop ((i64.wrap (5*(a3.length:Int))).toNat)))),(24,.v (.int .i64 x2)),(25,.v (vC ((a6.take ((i64.wrap ((i64.wrap (7*(a3.length:Int)))+1)).toNat)).drop ((i64.wrap ((i64.wrap (6*(a3.length:Int)))+1)).toNat)))),(26,.v (vC ((a6.take ((i64.wrap ((i64.wrap (8*(a3.length:Int)))+1)).toNat)).drop ((i64.wrap ((i64.wrap (7*(a3.length:Int)))+1)).toNat)))),(27,.v (.int .i64 x3)),(28,.bl [vD x137.1,vD x137.2.1,vD x137.2.2.1,vD (x137.2.2.2.1++[z166,z169]),vD [z170],vD x137.2.2.2.2.2]),(29,.v (vD z7)),(31,.v (.int .i64 z35.1)),(34,.v (vD x38.2.2.2.2.2.2.2)),(46,.v (.int .i64 z170)),(47,.v (vD s191)),(401,.v (.int .i64 (((a6.take ((i64.wrap (4*(a3.length:Int))).toNat)).drop ((i64.wrap (3*(a3.length:Int))).toNat)).length:Int))),(402,.v (.int .i64 i192))]) (fun s191 _ hN204=>?_) (fun i192 s191 _ _ hi196 hi197 ho193 hg194 hF=>?_)
       ·exact wn hN204 (hj188 _) hψ195
       have hi198:=hi197
       try simp at hi198
       refine wW ?_
       refine wt ?_ (hb:=by simp[go_sem,g,hi196,hi197,hi198]<;>omega)
       refine wW ?_
       refine wB ?_
       refine wK [5,14,15,16,18,19,20,21,22,23,24,25,26,27,28,29,31,34,46,47,49,401,402] ?_
       refine wX zyH follows ?_
       obtain⟨x199,g,hF⟩:=Rxq g hF
       obtain⟨x200,g,hF⟩:=Rxq g hF
       obtain⟨x201,g,hF⟩:=Rxq g hF
       obtain⟨g,hF⟩:=Rz g hF
       obtain⟨g,hF⟩:=Rz g hF
       obtain⟨g,hF⟩:=Rg g hF
       refine wK [5,14,15,16,18,19,20,21,22,23,24,25,26,27,28,29,31,34,46,47,401,402] ?_
       exact wT (hg194 (s191++[(i64.wrap (x199+(i64.wrap (z170*((i64.wrap ((i64.wrap (z35.1*x200))+x201)).tmod a0.Q))))).tmod a0.Q])) (zaa hF) (a:=by simp[go_sem,g,zkN hi196 hi197 (by first|assumption|(simp;assumption)|(simp;omega))])
      refine wB ?_
      obtain⟨b184,hb185,hψ178⟩:=hF
      refine pR hb185 (fun i175 s174=>[(5,.v (vC a5)),(14,.bl [.sl true 1 [],.sl true 1 [],.sl true 1 [],.sl true 1 [],.sl true 1 [],.sl true 1 []]),(15,.v (.int .i64 (a3.length:Int))),(16,.v (.int .i64 a0.Q)),(18,.v (vC ((a6.take a3.length).drop 0))),(19,.v (vC ((a6.take ((i64.wrap (2*(a3.length:Int))).toNat)).drop a3.length))),(20,.v (vC ((a6.take ((i64.wrap (3*(a3.length:Int))).toNat)).drop ((i64.wrap (2*(a3.length:Int))).toNat)))),(21,.v (vC ((a6.take ((i64.wrap (4*(a3.length:Int))).toNat)).drop ((i64.wrap (3*(a3.length:Int))).toNat)))),(22,.v (vC ((a6.take ((i64.wrap (5*(a3.length:Int))).toNat)).drop ((i64.wrap (4*(a3.length:Int))).toNat)))),(23,.v (vC ((a6.take ((i64.wrap (6*(a3.length:Int))).toNat)).drop ((i64.wrap (5*(a3.length:Int))).toNat)))),(24,.v (.int .i64 x2)),(25,.v (vC ((a6.take ((i64.wrap ((i64.wrap (7*(a3.length:Int)))+1)).toNat)).drop ((i64.wrap ((i64.wrap (6*(a3.length:Int)))+1)).toNat)))),(26,.v (vC ((a6.take ((i64.wrap ((i64.wrap (8*(a3.length:Int)))+1)).toNat)).drop ((i64.wrap ((i64.wrap (7*(a3.length:Int)))+1)).toNat)))),(27,.v (.int .i64 x3)),(28,.bl [vD x137.1,vD x137.2.1,vD x137.2.2.1,vD (x137.2.2.2.1++[z166,z169]),vD [z170],vD x137.2.2.2.2.2]),(29,.v (vD z7)),(31,.v (.int .i64 z35.1)),(33,.v (vD x38.2.2.2.2.2.2.1)),(34,.v (vD x38.2.2.2.2.2.2.2)),(46,.v (.int .i64 z170)),(47,.v (vD s174)),(379,.v (.int .i64 (((a6.take ((i64.wrap (4*(a3.length:Int))).toNat)).drop ((i64.wrap (3*(a3.length:Int))).toNat)).length:Int))),(380,.v (.int .i64 i175))]) (fun s174 _ hN186=>?_) (fun i175 s174 _ _ hi179 hi180 ho176 hg177 hF=>?_)
      ·exact wn hN186 (hj171 _) hψ178
      have hi181:=hi180
      try simp at hi181
      refine wW ?_
      refine wt ?_ (hb:=by simp[go_sem,g,hi179,hi180,hi181]<;>omega)
      refine wW ?_
      refine wB ?_
      refine wW ?_
      refine wX zy7 follows ?_
      obtain⟨x182,g,hF⟩:=Rxq g hF
      obtain⟨x183,g,hF⟩:=Rx g hF
      obtain⟨g,hF⟩:=Rz g hF
      obtain⟨g,hF⟩:=Rg g hF
      refine wK [5,14,15,16,18,19,20,21,22,23,24,25,26,27,28,29,31,33,34,46,47,379,380] ?_
      exact wT (hg177 (s174++[(i64.wrap (x182+(i64.wrap (z170*x183)))).tmod a0.Q])) (zaa hF) (a:=by simp[go_sem,g,zkN hi179 hi180 (by first|assumption|(simp;assumption)|(simp;omega))])
     refine wB ?_
     obtain⟨b160,hb161,hψ153⟩:=hF
     refine pR hb161 (fun i150 s149=>[(1,.v (.int .i64 a1)),(2,.v (.int .i64 a2)),(3,.v (vH a3)),(5,.v (vC a5)),(7,.bl [.int .i64 a0.P,.int .i64 a0.Q,.int .i64 a0.G]),(14,.bl [.sl true 1 [],.sl true 1 [],.sl true 1 [],.sl true 1 [],.sl true 1 [],.sl true 1 []]),(15,.v (.int .i64 (a3.length:Int))),(16,.v (.int .i64 a0.Q)),(17,.v (vG z1)),(18,.v (vC ((a6.take a3.length).drop 0))),(19,.v (vC ((a6.take ((i64.wrap (2*(a3.length:Int))).toNat)).drop a3.length))),(20,.v (vC ((a6.take ((i64.wrap (3*(a3.length:Int))).toNat)).drop ((i64.wrap (2*(a3.length:Int))).toNat)))),(21,.v (vC ((a6.take ((i64.wrap (4*(a3.length:Int))).toNat)).drop ((i64.wrap (3*(a3.length:Int))).toNat)))),(22,.v (vC ((a6.take ((i64.wrap (5*(a3.length:Int))).toNat)).drop ((i64.wrap (4*(a3.length:Int))).toNat)))),(23,.v (vC ((a6.take ((i64.wrap (6*(a3.length:Int))).toNat)).drop ((i64.wrap (5*(a3.length:Int))).toNat)))),(24,.v (.int .i64 x2)),(25,.v (vC ((a6.take ((i64.wrap ((i64.wrap (7*(a3.length:Int)))+1)).toNat)).drop ((i64.wrap ((i64.wrap (6*(a3.length:Int)))+1)).toNat)))),(26,.v (vC ((a6.take ((i64.wrap ((i64.wrap (8*(a3.length:Int)))+1)).toNat)).drop ((i64.wrap ((i64.wrap (7*(a3.length:Int)))+1)).toNat)))),(27,.v (.int .i64 x3)),(28,.bl [vD s149.1,vD s149.2.1,vD s149.2.2.1,vD s149.2.2.2.1,vD s149.2.2.2.2.1,vD s149.2.2.2.2.2]),(29,.v (vD z7)),(31,.v (.int .i64 z35.1)),(33,.v (vD x38.2.2.2.2.2.2.1)),(34,.v (vD x38.2.2.2.2.2.2.2)),(40,.v (vD z69.1)),(41,.v (vD z69.2)),(313,.v (.int .i64 (((a6.take ((i64.wrap ((i64.wrap (7*(a3.length:Int)))+1)).toNat)).drop ((i64.wrap ((i64.wrap (6*(a3.length:Int)))+1)).toNat)).length:Int))),(314,.v (.int .i64 i150))]) (fun s149 _ hN162=>?_) (fun i150 s149 _ _ hi154 hi155 ho151 hg152 hF=>?_)
     ·exact wn hN162 (hj135 _) hψ153
     have hi156:=hi155
     try simp at hi156
     refine wW ?_
     refine wt ?_ (hb:=by simp[go_sem,g,hi154,hi155,hi156]<;>omega)
     refine wW ?_
     refine wB ?_
     refine wW ?_
     refine wX zAe follows ?_
     obtain⟨x157,g,hF⟩:=Rxq g hF
     obtain⟨x158,g,hF⟩:=Rxq g hF
     refine wC hF [.sh,.sh,.sh,.sh] zgp (fun z159 hF=>?_)
     obtain⟨g,hF⟩:=Rg g hF
     refine wK [1,2,3,5,7,14,15,16,17,18,19,20,21,22,23,24,25,26,27,28,29,31,33,34,40,41,313,314] ?_
     exact wT (hg152 (s149.1,s149.2.1,s149.2.2.1,s149.2.2.2.1++[z159],s149.2.2.2.2.1,s149.2.2.2.2.2)) (zaa hF) (a:=by simp[go_sem,g,zkN hi154 hi155 (by first|assumption|(simp;assumption)|(simp;omega))])
    refine wB ?_
    obtain⟨b130,hb131,hψ120⟩:=hF
    refine pR hb131 (fun i117 s116=>[(1,.v (.int .i64 a1)),(2,.v (.int .i64 a2)),(3,.v (vH a3)),(5,.v (vC a5)),(7,.bl [.int .i64 a0.P,.int .i64 a0.Q,.int .i64 a0.G]),(14,.bl [.sl true 1 [],.sl true 1 [],.sl true 1 [],.sl true 1 [],.sl true 1 [],.sl true 1 []]),(15,.v (.int .i64 (a3.length:Int))),(16,.v (.int .i64 a0.Q)),(17,.v (vG z1)),(18,.v (vC ((a6.take a3.length).drop 0))),(19,.v (vC ((a6.take ((i64.wrap (2*(a3.length:Int))).toNat)).drop a3.length))),(20,.v (vC ((a6.take ((i64.wrap (3*(a3.length:Int))).toNat)).drop ((i64.wrap (2*(a3.length:Int))).toNat)))),(21,.v (vC ((a6.take ((i64.wrap (4*(a3.length:Int))).toNat)).drop ((i64.wrap (3*(a3.length:Int))).toNat)))),(22,.v (vC ((a6.take ((i64.wrap (5*(a3.length:Int))).toNat)).drop ((i64.wrap (4*(a3.length:Int))).toNat)))),(23,.v (vC ((a6.take ((i64.wrap (6*(a3.length:Int))).toNat)).drop ((i64.wrap (5*(a3.length:Int))).toNat)))),(24,.v (.int .i64 x2)),(25,.v (vC ((a6.take ((i64.wrap ((i64.wrap (7*(a3.length:Int)))+1)).toNat)).drop ((i64.wrap ((i64.wrap (6*(a3.length:Int)))+1)).toNat)))),(26,.v (vC ((a6.take ((i64.wrap ((i64.wrap (8*(a3.length:Int)))+1)).toNat)).drop ((i64.wrap ((i64.wrap (7*(a3.length:Int)))+1)).toNat)))),(27,.v (.int .i64 x3)),(28,.bl [vD s116.1,vD s116.2.1,vD s116.2.2.1,vD s116.2.2.2.1,vD s116.2.2.2.2.1,vD s116.2.2.2.2.2.1]),(29,.v (vD z7)),(31,.v (.int .i64 z35.1)),(33,.v (vD x38.2.2.2.2.2.2.1)),(34,.v (vD x38.2.2.2.2.2.2.2)),(40,.v (vD z69.1)),(41,.v (vD z69.2)),(43,.v (.int .i64 s116.2.2.2.2.2.2)),(267,.v (.int .i64 (((a6.take ((i64.wrap (4*(a3.length:Int))).toNat)).drop ((i64.wrap (3*(a3.length:Int))).toNat)).length:Int))),(268,.v (.int .i64 i117))]) (fun s116 _ hN132=>?_) (fun i117 s116 _ _ hi121 hi122 ho118 hg119 hF=>?_)
    ·exact wn hN132 (hj99 _) hψ120
    have hi123:=hi122
    try simp at hi123
    refine wK [1,2,3,5,7,14,15,16,17,18,19,20,21,22,23,24,25,26,27,28,29,31,33,34,40,41,43,267,268,269] ?_
    refine wt ?_ (hb:=by simp[go_sem,g,hi121,hi122,hi123]<;>omega)
    refine wW ?_
    refine wB ?_
    refine wW ?_
    refine wX zym follows ?_
    obtain⟨x124,g,hF⟩:=Rxq g hF
    obtain⟨x125,g,hF⟩:=Rxq g hF
    refine wD hF zbb (fun z126 hF=>?_)
    refine wC hF [.sh,.sh,.sh] zbb (fun z127 hF=>?_)
    refine wC hF [.sh,.sh] zcv (fun z128 hF=>?_)
    obtain⟨g,hF⟩:=Rg g hF
    refine wK [1,2,3,5,7,14,15,16,17,18,19,20,21,22,23,24,25,26,27,28,29,31,33,34,40,41,44,267,268] ?_
    obtain⟨x129,g,hF⟩:=Rx g hF
    refine wW ?_
    exact wT (hg119 (s116.1,s116.2.1,s116.2.2.1,s116.2.2.2.1++[z128],s116.2.2.2.2.1,s116.2.2.2.2.2.1,x129)) (zaa hF) (a:=by simp[go_sem,g,zkN hi121 hi122 (by first|assumption|(simp;assumption)|(simp;omega))])
   refine wB ?_
   obtain⟨b95,hb96,hψ88⟩:=hF
   refine pR hb96 (fun i85 s84=>[(1,.v (.int .i64 a1)),(2,.v (.int .i64 a2)),(3,.v (vH a3)),(5,.v (vC a5)),(7,.bl [.int .i64 a0.P,.int .i64 a0.Q,.int .i64 a0.G]),(14,.bl [.sl true 1 [],.sl true 1 [],.sl true 1 [],.sl true 1 [],.sl true 1 [],.sl true 1 []]),(15,.v (.int .i64 (a3.length:Int))),(16,.v (.int .i64 a0.Q)),(17,.v (vG z1)),(18,.v (vC ((a6.take a3.length).drop 0))),(19,.v (vC ((a6.take ((i64.wrap (2*(a3.length:Int))).toNat)).drop a3.length))),(20,.v (vC ((a6.take ((i64.wrap (3*(a3.length:Int))).toNat)).drop ((i64.wrap (2*(a3.length:Int))).toNat)))),(21,.v (vC ((a6.take ((i64.wrap (4*(a3.length:Int))).toNat)).drop ((i64.wrap (3*(a3.length:Int))).toNat)))),(22,.v (vC ((a6.take ((i64.wrap (5*(a3.length:Int))).toNat)).drop ((i64.wrap (4*(a3.length:Int))).toNat)))),(23,.v (vC ((a6.take ((i64.wrap (6*(a3.length:Int))).toNat)).drop ((i64.wrap (5*(a3.length:Int))).toNat)))),(24,.v (.int .i64 x2)),(25,.v (vC ((a6.take ((i64.wrap ((i64.wrap (7*(a3.length:Int)))+1)).toNat)).drop ((i64.wrap ((i64.wrap (6*(a3.length:Int)))+1)).toNat)))),(26,.v (vC ((a6.take ((i64.wrap ((i64.wrap (8*(a3.length:Int)))+1)).toNat)).drop ((i64.wrap ((i64.wrap (7*(a3.length:Int)))+1)).toNat)))),(27,.v (.int .i64 x3)),(28,.bl [vD s84.1,vD s84.2.1,vD s84.2.2.1,vD s84.2.2.2.1,vD s84.2.2.2.2.1,vD s84.2.2.2.2.2]),(29,.v (vD z7)),(31,.v (.int .i64 z35.1)),(33,.v (vD x38.2.2.2.2.2.2.1)),(34,.v (vD x38.2.2.2.2.2.2.2)),(40,.v (vD z69.1)),(41,.v (vD z69.2)),(241,.v (.int .i64 (((a6.take ((i64.wrap (4*(a3.length:Int))).toNat)).drop ((i64.wrap (3*(a3.length:Int))).toNat)).length:Int))),(242,.v (.int .i64 i85))]) (fun s84 _ hN97=>?_) (fun i85 s84 _ _ hi89 hi90 ho86 hg87 hF=>?_)
   ·exact wn hN97 (hj70 _) hψ88
   have hi91:=hi90
   try simp at hi91
   refine wW ?_
   refine wt ?_ (hb:=by simp[go_sem,g,hi89,hi90,hi91]<;>omega)
   refine wW ?_
   refine wB ?_
   refine wW ?_
   refine wX zx9 follows ?_
   obtain⟨x92,g,hF⟩:=Rxq g hF
   obtain⟨x93,g,hF⟩:=Rxq g hF
   refine wC hF [.sh,.sh,.sh,.sh] zgp (fun z94 hF=>?_)
   obtain⟨g,hF⟩:=Rg g hF
   refine wK [1,2,3,5,7,14,15,16,17,18,19,20,21,22,23,24,25,26,27,28,29,31,33,34,40,41,241,242] ?_
   exact wT (hg87 (s84.1,s84.2.1,s84.2.2.1,s84.2.2.2.1++[z94],s84.2.2.2.2.1,s84.2.2.2.2.2)) (zaa hF) (a:=by simp[go_sem,g,zkN hi89 hi90 (by first|assumption|(simp;assumption)|(simp;omega))])
  refine wB ?_
  obtain⟨b65,hb66,hψ56⟩:=hF
  refine pR hb66 (fun i53 s52=>[(1,.v (.int .i64 a1)),(2,.v (.int .i64 a2)),(3,.v (vH a3)),(5,.v (vC a5)),(7,.bl [.int .i64 a0.P,.int .i64 a0.Q,.int .i64 a0.G]),(14,.bl [.sl true 1 [],.sl true 1 [],.sl true 1 [],.sl true 1 [],.sl true 1 [],.sl true 1 []]),(15,.v (.int .i64 (a3.length:Int))),(16,.v (.int .i64 a0.Q)),(17,.v (vG z1)),(18,.v (vC ((a6.take a3.length).drop 0))),(19,.v (vC ((a6.take ((i64.wrap (2*(a3.length:Int))).toNat)).drop a3.length))),(20,.v (vC ((a6.take ((i64.wrap (3*(a3.length:Int))).toNat)).drop ((i64.wrap (2*(a3.length:Int))).toNat)))),(21,.v (vC ((a6.take ((i64.wrap (4*(a3.length:Int))).toNat)).drop ((i64.wrap (3*(a3.length:Int))).toNat)))),(22,.v (vC ((a6.take ((i64.wrap (5*(a3.length:Int))).toNat)).drop ((i64.wrap (4*(a3.length:Int))).toNat)))),(23,.v (vC ((a6.take ((i64.wrap (6*(a3.length:Int))).toNat)).drop ((i64.wrap (5*(a3.length:Int))).toNat)))),(24,.v (.int .i64 x2)),(25,.v (vC ((a6.take ((i64.wrap ((i64.wrap (7*(a3.length:Int)))+1)).toNat)).drop ((i64.wrap ((i64.wrap (6*(a3.length:Int)))+1)).toNat)))),(26,.v (vC ((a6.take ((i64.wrap ((i64.wrap (8*(a3.length:Int)))+1)).toNat)).drop ((i64.wrap ((i64.wrap (7*(a3.length:Int)))+1)).toNat)))),(27,.v (.int .i64 x3)),(28,.bl [vD s52.1,vD s52.2.1,vD s52.2.2.1,vD s52.2.2.2.1,vD s52.2.2.2.2.1,vD s52.2.2.2.2.2.1]),(29,.v (vD z7)),(31,.v (.int .i64 z35.1)),(32,.v (.int .i64 z35.2)),(33,.v (vD s52.2.2.2.2.2.2.1)),(34,.v (vD s52.2.2.2.2.2.2.2.1)),(35,.v (.int .i64 s52.2.2.2.2.2.2.2.2.1)),(36,.v (.int .i64 s52.2.2.2.2.2.2.2.2.2)),(173,.v (vC a4)),(174,.v (.int .i64 (a4.length:Int))),(175,.v (.int .i64 i53))]) (fun s52 _ hN67=>?_) (fun i53 s52 _ _ hi57 hi58 ho54 hg55 hF=>?_)
  ·exact wn hN67 (hj36 _) hψ56
  refine wW ?_
  refine wu hi57 hi58 ?_
  refine wW ?_
  refine wB ?_
  obtain⟨x59,g,hF⟩:=Rx g hF
  refine wK [1,2,3,5,7,14,15,16,17,18,19,20,21,22,23,24,25,26,27,28,29,31,32,33,34,35,36,37,38,173,174,175] ?_
  refine wX zya follows ?_
  obtain⟨g,hF⟩:=Rz g hF
  obtain⟨x60,g,hF⟩:=Rx g hF
  refine wC hF [.sh,.sh] zgO (fun z61 hF=>?_)
  refine wK [1,2,3,5,7,14,15,16,17,18,19,20,21,22,23,24,25,26,27,28,29,31,32,33,34,35,36,37,39,173,174,175] ?_
  obtain⟨g,hF⟩:=Rg g hF
  obtain⟨g,hF⟩:=Rz g hF
  refine wW ?_
  refine wK [1,2,3,5,7,14,15,16,17,18,19,20,21,22,23,24,25,26,27,28,29,31,32,33,34,35,36,37,39,173,174,175] ?_
  refine wX zzb follows ?_
  obtain⟨x62,g,hF⟩:=Rxq g hF
  refine wC hF [.sh,.sh,.sh,.sh] zgp (fun z63 hF=>?_)
  obtain⟨g,hF⟩:=Rg g hF
  refine wK [1,2,3,5,7,14,15,16,17,18,19,20,21,22,23,24,25,26,27,28,29,31,32,33,34,35,36,37,39,173,174,175] ?_
  refine wC hF [.sh,.sh] zgO (fun z64 hF=>?_)
  obtain⟨g,hF⟩:=Rg g hF
  refine wK [1,2,3,5,7,14,15,16,17,18,19,20,21,22,23,24,25,26,27,28,29,31,32,33,34,35,37,173,174,175] ?_
  refine wW ?_
  exact wi hi57 hi58 (hg55 _) (zaa hF)
 refine wB ?_
 obtain⟨b31,hb32,hψ25⟩:=hF
 refine pR hb32 (fun i22 s21=>[(1,.v (.int .i64 a1)),(2,.v (.int .i64 a2)),(3,.v (vH a3)),(4,.v (vC a4)),(5,.v (vC a5)),(7,.bl [.int .i64 a0.P,.int .i64 a0.Q,.int .i64 a0.G]),(14,.bl [.sl true 1 [],.sl true 1 [],.sl true 1 [],.sl true 1 [],.sl true 1 [],.sl true 1 []]),(15,.v (.int .i64 (a3.length:Int))),(16,.v (.int .i64 a0.Q)),(17,.v (vG z1)),(18,.v (vC ((a6.take a3.length).drop 0))),(19,.v (vC ((a6.take ((i64.wrap (2*(a3.length:Int))).toNat)).drop a3.length))),(20,.v (vC ((a6.take ((i64.wrap (3*(a3.length:Int))).toNat)).drop ((i64.wrap (2*(a3.length:Int))).toNat)))),(21,.v (vC ((a6.take ((i64.wrap (4*(a3.length:Int))).toNat)).drop ((i64.wrap (3*(a3.length:Int))).toNat)))),(22,.v (vC ((a6.take ((i64.wrap (5*(a3.length:Int))).toNat)).drop ((i64.wrap (4*(a3.length:Int))).toNat)))),(23,.v (vC ((a6.take ((i64.wrap (6*(a3.length:Int))).toNat)).drop ((i64.wrap (5*(a3.length:Int))).toNat)))),(24,.v (.int .i64 x2)),(25,.v (vC ((a6.take ((i64.wrap ((i64.wrap (7*(a3.length:Int)))+1)).toNat)).drop ((i64.wrap ((i64.wrap (6*(a3.length:Int)))+1)).toNat)))),(26,.v (vC ((a6.take ((i64.wrap ((i64.wrap (8*(a3.length:Int)))+1)).toNat)).drop ((i64.wrap ((i64.wrap (7*(a3.length:Int)))+1)).toNat)))),(27,.v (.int .i64 x3)),(28,.bl [vD s21.1,vD s21.2.1,vD s21.2.2.1,vD s21.2.2.2.1,vD s21.2.2.2.2.1,vD s21.2.2.2.2.2]),(29,.v (vD z7)),(140,.v (.int .i64 (z7.length:Int))),(141,.v (.int .i64 i22))]) (fun s21 _ hN33=>?_) (fun i22 s21 _ _ hi26 hi27 ho23 hg24 hF=>?_)
 ·exact wn hN33 (hj8 _) hψ25
 refine wW ?_
 refine wu hi26 hi27 ?_
 refine wW ?_
 refine wB ?_
 refine wW ?_
 refine wX zxR follows ?_
 obtain⟨x28,g,hF⟩:=Rx g hF
 obtain⟨x29,g,hF⟩:=Rxq g hF
 refine wC hF [.sh,.sh,.sh,.sh] zgp (fun z30 hF=>?_)
 obtain⟨g,hF⟩:=Rg g hF
 refine wK [1,2,3,4,5,7,14,15,16,17,18,19,20,21,22,23,24,25,26,27,28,29,140,141] ?_
 exact wi hi26 hi27 (hg24 _) (zaa hF)
def zcM (a0:Group) (a1:Int) (a2:List Cipher) (a3:List Int) (a4:List Int) (a5:List Int):Option (PolyProof×Bool):=
 (((zdl a0 a1 a2).bind fun z4=>
 if(!z4)=true then(
 some true)else(
 (zfn a3 (a2.length:Int)).bind fun z6=>
 if(!z6)=true then(
 some true)else(
 if((a4.length:Int) !=(a2.length:Int))=true then(
 some true)else(
 (zen a0 a4).bind fun z9=>
 if(!z9)=true then(
 some true)else(
 if((a5.length:Int) !=(i64.wrap ((i64.wrap (8*(a2.length:Int)))+2)))=true then(
 some true)else(
 (zen a0 a5).bind fun z12=>
 some (!z12)))))):Option Bool).bind fun x3=>
 if x3=true then(
 some ((PolyProof.mk [] [] [] (Proof.mk [] [] [])),false))else(
 (zfu a0).bind fun z14=>
 if(!z14.2)=true then(
 some ((PolyProof.mk [] [] [] (Proof.mk [] [] [])),false))else(
 (ze0 a0 a1 z14.1 a2 a3 a4 a5).bind fun z16=>
 some (z16,true))))
theorem zi1:∀{a0}{a1}{a2}{a3}{a4}{a5}{r},zcM a0 a1 a2 a3 a4 a5=some r→PCalls Tryz.prog 7 [(.sh,vE a0),(.sh,.int .i64 a1),(.sh,vH a2),(.sh,vC a3),(.sh,vC a4),(.sh,vC a5)] (Eo (.tup [vN r.1,.bool r.2]) [.junk,.junk,.junk,.junk,.junk,.junk]):=by
 intro a0 a1 a2 a3 a4 a5 r hr
 apply pF 73 [] [] [] [.cell 12 32,.tmp 13] hr cl7 Tryz.func7
 intro Φ hΦ hF g
 unfold zcM at hF
 iterate 2 (try simp[go_sem,g];try intros;refine zaD ?_)
 refine wJ hF (fun x3=>[(1,.v (.int .i64 a1)),(2,.v (vH a2)),(3,.v (vC a3)),(4,.v (vC a4)),(5,.v (vC a5)),(6,.bl [.int .i64 a0.P,.int .i64 a0.Q,.int .i64 a0.G]),(12,.bl [.sl true 1 [],.sl true 1 [],.sl true 1 [],.sl true 1 [],.sl true 1 [],.sl true 1 []]),(55,.v (.bool x3))]) (fun x3 hF=>?_) fun _ hj1 hF=>?_
 ·refine wI hF (fun h13 hF=>?_) (fun h13 hF=>?_)
  ·exact wl hΦ hF
  refine wW ?_
  refine wC hF [.sh] zlb (fun z14 hF=>?_)
  refine wK [1,2,3,4,5,6,12,15,16] ?_
  refine wW ?_
  refine wI hF (fun h15 hF=>?_) (fun h15 hF=>?_)
  ·exact wl hΦ hF
  refine wW ?_
  refine wC hF [.sh,.sh,.sh,.sh,.sh,.sh,.sh] zo5 (fun z16 hF=>?_)
  refine wK [12,13] ?_
  exact wm hΦ hF
 refine wC hF [.sh,.sh,.sh] zhE (fun z4 hF=>?_)
 refine wG hF (fun h5 hF=>?_) fun h5 hF=>?_
 ·exact wV h5 (hj1 _) (zaa hF)
 try simp[go_sem,g,h5]
 refine wC hF [.sh,.sh] zlu (fun z6 hF=>?_)
 try simp[go_sem,g,h5]
 refine wG hF (fun h7 hF=>?_) fun h7 hF=>?_
 ·exact wV h7 (hj1 _) (zaa hF)
 try simp[go_sem,g,h7]
 try intros
 refine wG hF (fun h8 hF=>?_) fun h8 hF=>?_
 ·exact wV h8 (hj1 _) (zaa hF)
 try simp[go_sem,g,h8]
 refine wC hF [.sh,.sh] zhn (fun z9 hF=>?_)
 try simp[go_sem,g,h8]
 refine wG hF (fun h10 hF=>?_) fun h10 hF=>?_
 ·exact wV h10 (hj1 _) (zaa hF)
 try simp[go_sem,g,h10]
 try intros
 refine wG hF (fun h11 hF=>?_) fun h11 hF=>?_
 ·exact wV h11 (hj1 _) (zaa hF)
 try simp[go_sem,g,h11]
 refine wC hF [.sh,.sh] zhn (fun z12 hF=>?_)
 exact wV h11 (hj1 _) (zaa hF)
def zc4 (a0:Group) (a1:Int) (a2:List Cipher) (a3:List Int) (a4:List Int):Option (List Cipher×Bool):=
 (((zdl a0 a1 a2).bind fun z4=>
 if(!z4)=true then(
 some true)else(
 (zfn a3 (a2.length:Int)).bind fun z6=>
 if(!z6)=true then(
 some true)else(
 if((a4.length:Int) !=(a2.length:Int))=true then(
 some true)else(
 (zen a0 a4).bind fun z9=>
 some (!z9)))):Option Bool).bind fun x3=>
 if x3=true then(
 some ([],false))else(
 (zga a0 a1 a2 a3 a4).bind fun z11=>
 some (z11,true)))
theorem zmb:∀{a0}{a1}{a2}{a3}{a4}{r},zc4 a0 a1 a2 a3 a4=some r→PCalls Tryz.prog 20 [(.sh,vE a0),(.sh,.int .i64 a1),(.sh,vH a2),(.sh,vC a3),(.sh,vC a4)] (Eo (.tup [vG r.1,.bool r.2]) [.junk,.junk,.junk,.junk,.junk]):=by
 intro a0 a1 a2 a3 a4 r hr
 apply pF 43 [] [] [] [.tmp 10,.tmp 11] hr zE9 Tryz.func20
 intro Φ hΦ hF g
 unfold zc4 at hF
 refine wW ?_
 refine wJ hF (fun x3=>[(1,.v (.int .i64 a1)),(2,.v (vH a2)),(3,.v (vC a3)),(4,.v (vC a4)),(5,.bl [.int .i64 a0.P,.int .i64 a0.Q,.int .i64 a0.G]),(36,.v (.bool x3))]) (fun x3 hF=>?_) fun _ hj1 hF=>?_
 ·refine wI hF (fun h10 hF=>?_) (fun h10 hF=>?_)
  ·exact wl hΦ hF
  refine wW ?_
  refine wC hF [.sh,.sh,.sh,.sh,.sh] zmt (fun z11 hF=>?_)
  refine wK [10,11] ?_
  exact wm hΦ hF
 refine wC hF [.sh,.sh,.sh] zhE (fun z4 hF=>?_)
 refine wG hF (fun h5 hF=>?_) fun h5 hF=>?_
 ·exact wV h5 (hj1 _) (zaa hF)
 try simp[go_sem,g,h5]
 try intros
 refine wC hF [.sh,.sh] zlu (fun z6 hF=>?_)
 try simp[go_sem,g,h5]
 refine wG hF (fun h7 hF=>?_) fun h7 hF=>?_
 ·exact wV h7 (hj1 _) (zaa hF)
 try simp[go_sem,g,h7]
 try intros
 refine wG hF (fun h8 hF=>?_) fun h8 hF=>?_
 ·exact wV h8 (hj1 _) (zaa hF)
 try simp[go_sem,g,h8]
 refine wC hF [.sh,.sh] zhn (fun z9 hF=>?_)
 exact wV h8 (hj1 _) (zaa hF)
def zdJ (a0:List Int):Option ((List Int)):=
 gd (a0.length*8≤140737488355328∧a0.length≤4611686018427387904)<|
 some a0
theorem zft:∀{a0}{r},zdJ a0=some r→PCalls Tryz.prog 112 [(.sh,vC a0)] (Eo (vD r) [.junk]):=by
 intro a0 r hr
 apply pF 6 [] [] [] [.tmp 2] hr zBW Tryz.func112
 intro Φ hΦ hF g
 unfold zdJ at hF
 obtain⟨g,hF⟩:=Rg g hF
 cases hΦ _ (zaa hF)
 iterate 2 refine wW ?_
 try simp[go_sem,g]
@[go_sem] def zxP:List DE:=[d1 0 [5] 5,d2 1 [9] 5 9,d1 3 [5] 5,d2 4 [12] 5 12,d1 6 [5] 5,d2 7 [15] 5 15,d3 2 [10],d3 5 [13],d3 8 [16],d0 9 [11,14,17],d2 10 [5,18] 5 5]
@[go_sem] def zyC:List DE:=[d1 0 [5] 5,d2 1 [23] 5 23,d1 2 [5] 5,d2 3 [25] 5 25,d1 4 [5] 5,d2 5 [27] 5 27,d0 6 [24,26,28],d0 7 [0],d3 8 [30],⟨9,[29,31],[],none,true,true,false⟩,d0 10 [32],d0 11 [33]]
@[go_sem] def zmZ:List DE:=[d0 0 [7],d0 1 [8],d0 2 [0],d0 3 [0],d2 4 [4] 4 4,d0 6 [0],d2 7 [4] 4 4,d1 9 [4] 4,d2 10 [50] 4 50,d0 11 [7],d0 12 [8],d0 13 [52,53],d0 14 [54],d0 15 [55],d3 5 [44,45],d3 8 [47,48],d0 16 [46,49,51,56],⟨17,[43,57],[],none,true,true,true⟩,d0 18 [41,42],d0 19 [59,58]]
@[go_sem] def zmB:List DE:=[d0 0 [7],d0 1 [8],d0 2 [0],d0 3 [0],d2 4 [4] 4 4,d0 6 [0],d2 7 [4] 4 4,d1 9 [4] 4,d2 10 [50] 4 50,d0 11 [7],d0 12 [8],d0 13 [52,53],d3 5 [44,45],d0 14 [54],d0 15 [55],d3 8 [47,48],d0 16 [46,49,51,56],⟨17,[43,57],[],none,true,true,true⟩,d0 18 [41,42],d0 19 [59,58]]
@[go_sem] def zmV:List DE:=[d0 0 [7],d0 1 [8],d0 2 [0],d0 3 [0],d2 4 [4] 4 4,d0 6 [0],d2 7 [4] 4 4,d1 9 [4] 4,d2 10 [50] 4 50,d0 11 [7],d0 12 [8],d0 13 [52,53],d3 5 [44,45],d3 8 [47,48],d0 14 [54],d0 15 [55],d0 16 [46,49,51,56],⟨17,[43,57],[],none,true,true,true⟩,d0 18 [41,42],d0 19 [59,58]]
def zdi (a0c0:List Int) (a0c1:Int) (a0c2:Int) (a1:Group) (a2:Proof):Option (Proof×(List Int×Int×Int)):=
 (zdJ a2.Commits).bind fun z1=>
 (zdJ a2.Challenges).bind fun z2=>
 (zdJ a2.Responses).bind fun z3=>
 (zaP a0c0 a0c1 a0c2 3).bind fun z4=>
 if(!z4.1)=true then(
 some ((Proof.mk z1 z2 z3),(z4.2.1,z4.2.2.1,z4.2.2.2)))else(
 (zag z4.2.1 z4.2.2.1 z4.2.2.2 3).bind fun z6=>
 if(z6.1==0)=true then(
 ((if decide (0<(z1.length:Int))=true then(
 (zag z6.2.1 z6.2.2.1 z6.2.2.2 (z1.length:Int)).bind fun z11=>
 (ix z1 z11.1).bind fun x12=>
 (zba z11.2.1 z11.2.2.1 z11.2.2.2 a1).bind fun z13=>
 (zaU z13.2.1 z13.2.2.1 z13.2.2.2 a1).bind fun z14=>
 (zar z14.2.1 z14.2.2.1 z14.2.2.2 [z13.1,z14.1,(-1),a1.Q,i64.wrap (x12+1)]).bind fun z15=>
 some ((z15.2.1,z15.2.2.1,z15.2.2.2),z1.set z11.1.toNat z15.1,z2,z3))else(
 some ((z6.2.1,z6.2.2.1,z6.2.2.2),z1,z2,z3)):Option (((List Int×Int×Int)×List Int×List Int×List Int))).bind fun x9=>
 (zag x9.1.1 x9.1.2.1 x9.1.2.2 10).bind fun z16=>
 ((if(z16.1==0)=true then(
 gd ((x9.2.1.length+1)*8≤140737488355328∧x9.2.1.length+1≤4611686018427387904)<|
 some (x9.2.1++[1],x9.2.2.1,x9.2.2.2))else(
 if(z16.1==1)=true then(
 some (x9.2.1,x9.2.2.1,[]))else(
 if(z16.1==2)=true then(
 gd ((x9.2.2.1.length+1)*8≤140737488355328∧x9.2.2.1.length+1≤4611686018427387904)<|
 some (x9.2.1,x9.2.2.1++[0],x9.2.2.2))else(
 some (x9.2.1,x9.2.2.1,x9.2.2.2)))):Option ((List Int×List Int×List Int))).bind fun x19=>
 some ((Proof.mk x19.1 x19.2.1 x19.2.2),(z16.2.1,z16.2.2.1,z16.2.2.2)))))else(
 if(z6.1==1)=true then(
 ((if decide (0<(z2.length:Int))=true then(
 (zag z6.2.1 z6.2.2.1 z6.2.2.2 (z2.length:Int)).bind fun z27=>
 (ix z2 z27.1).bind fun x28=>
 (zba z27.2.1 z27.2.2.1 z27.2.2.2 a1).bind fun z29=>
 (zaU z29.2.1 z29.2.2.1 z29.2.2.2 a1).bind fun z30=>
 (zar z30.2.1 z30.2.2.1 z30.2.2.2 [z29.1,z30.1,(-1),a1.Q,i64.wrap (x28+1)]).bind fun z31=>
 some ((z31.2.1,z31.2.2.1,z31.2.2.2),z1,z2.set z27.1.toNat z31.1,z3))else(
 some ((z6.2.1,z6.2.2.1,z6.2.2.2),z1,z2,z3)):Option (((List Int×Int×Int)×List Int×List Int×List Int))).bind fun x25=>
 (zag x25.1.1 x25.1.2.1 x25.1.2.2 10).bind fun z32=>
 ((if(z32.1==0)=true then(
 gd ((x25.2.1.length+1)*8≤140737488355328∧x25.2.1.length+1≤4611686018427387904)<|
 some (x25.2.1++[1],x25.2.2.1,x25.2.2.2))else(
 if(z32.1==1)=true then(
 some (x25.2.1,x25.2.2.1,[]))else(
 if(z32.1==2)=true then(
 gd ((x25.2.2.1.length+1)*8≤140737488355328∧x25.2.2.1.length+1≤4611686018427387904)<|
 some (x25.2.1,x25.2.2.1++[0],x25.2.2.2))else(
 some (x25.2.1,x25.2.2.1,x25.2.2.2)))):Option ((List Int×List Int×List Int))).bind fun x35=>
 some ((Proof.mk x35.1 x35.2.1 x35.2.2),(z32.2.1,z32.2.2.1,z32.2.2.2)))))else(
 if(z6.1==2)=true then(
 ((if decide (0<(z3.length:Int))=true then(
 (zag z6.2.1 z6.2.2.1 z6.2.2.2 (z3.length:Int)).bind fun z43=>
 (ix z3 z43.1).bind fun x44=>
 (zba z43.2.1 z43.2.2.1 z43.2.2.2 a1).bind fun z45=>
 (zaU z45.2.1 z45.2.2.1 z45.2.2.2 a1).bind fun z46=>
 (zar z46.2.1 z46.2.2.1 z46.2.2.2 [z45.1,z46.1,(-1),a1.Q,i64.wrap (x44+1)]).bind fun z47=>
 some ((z47.2.1,z47.2.2.1,z47.2.2.2),z1,z2,z3.set z43.1.toNat z47.1))else(
 some ((z6.2.1,z6.2.2.1,z6.2.2.2),z1,z2,z3)):Option (((List Int×Int×Int)×List Int×List Int×List Int))).bind fun x41=>
 (zag x41.1.1 x41.1.2.1 x41.1.2.2 10).bind fun z48=>
 ((if(z48.1==0)=true then(
 gd ((x41.2.1.length+1)*8≤140737488355328∧x41.2.1.length+1≤4611686018427387904)<|
 some (x41.2.1++[1],x41.2.2.1,x41.2.2.2))else(
 if(z48.1==1)=true then(
 some (x41.2.1,x41.2.2.1,[]))else(
 if(z48.1==2)=true then(
 gd ((x41.2.2.1.length+1)*8≤140737488355328∧x41.2.2.1.length+1≤4611686018427387904)<|
 some (x41.2.1,x41.2.2.1++[0],x41.2.2.2))else(
 some (x41.2.1,x41.2.2.1,x41.2.2.2)))):Option ((List Int×List Int×List Int))).bind fun x51=>
 some ((Proof.mk x51.1 x51.2.1 x51.2.2),(z48.2.1,z48.2.2.1,z48.2.2.2)))))else(
 none))))
set_option maxHeartbeats 1000000 in
theorem zjv:∀{a0c0}{a0c1}{a0c2}{a1}{a2}{r},zdi a0c0 a0c1 a0c2 a1 a2=some r→PCalls Tryz.prog 113 [(.io,vB a0c0 a0c1 a0c2),(.sh,vE a1),(.sh,vO a2)] (Eo (vP r.1) [vB r.2.1 r.2.2.1 r.2.2.2,.junk,.junk]):=by
 intro a0c0 a0c1 a0c2 a1 a2 r hr
 apply pF 80 [0] [167,189] [] [.cell 6 30] hr zDt Tryz.func113
 intro Φ hΦ hF g
 unfold zdi at hF
 refine wW ?_
 refine wX zxP follows ?_
 refine wC hF [.sh] zft (fun z1 hF=>?_)
 refine wC hF [.sh] zft (fun z2 hF=>?_)
 refine wC hF [.sh] zft (fun z3 hF=>?_)
 refine wK [0,4,5,6] ?_
 refine wC hF [.io,.sh] zbh (fun z4 hF=>?_)
 refine wW ?_
 refine wI hF (fun h5 hF=>?_) (fun h5 hF=>?_)
 ·exact wl hΦ hF
 refine wW ?_
 refine wX zyC follows ?_
 refine wC hF [.io,.sh] zai (fun z6 hF=>?_)
 refine pX g hF (fun g hF=>?_) fun hF=>?_
 ·refine wK [0,4,5,6,7] ?_
  try simp[go_sem,g]
  try intros
  refine zaD ?_
  refine wJ hF (fun x9=>[(0,.v (vB x9.1.1 x9.1.2.1 x9.1.2.2)),(5,.bl [vD x9.2.1,vD x9.2.2.1,vD x9.2.2.2]),(6,.bl [.sl true 1 [],.sl true 1 [],.sl true 1 []])]) (fun x9 hF=>?_) fun _ hj7 hF=>?_
  ·refine wC hF [.io,.sh] zai (fun z16 hF=>?_)
   refine wW ?_
   refine wJ hF (fun x19=>[(0,.v (vB z16.2.1 z16.2.2.1 z16.2.2.2)),(5,.bl [vD x19.1,vD x19.2.1,vD x19.2.2]),(6,.bl [.sl true 1 [],.sl true 1 [],.sl true 1 []])]) (fun x19 hF=>?_) fun _ hj17 hF=>?_
   ·exact wl hΦ hF
   refine wB ?_
   refine wW ?_
   refine wI hF (fun h20 hF=>?_) (fun h20 hF=>?_)
   ·obtain⟨g,hF⟩:=Rg g hF
    exact wT (hj17 _) (zaa hF)
   refine wW ?_
   refine wI hF (fun h21 hF=>?_) (fun h21 hF=>?_)
   ·exact wT (hj17 _) (zaa hF)
   refine wK [0,5,6,72] ?_
   refine wI hF (fun h22 hF=>?_) (fun h22 hF=>?_)
   ·obtain⟨g,hF⟩:=Rg g hF
    exact wT (hj17 _) (zaa hF)
   exact wT (hj17 _) (zaa hF)
  refine wI hF (fun h10 hF=>?_) (fun h10 hF=>?_)
  ·try simp[go_sem,g]
   try intros
   refine wC hF [.io,.sh] zai (fun z11 hF=>?_)
   refine wW ?_
   repeat rw[sq]
   refine zmx 14 5 14 8 0 1 zmZ zmB zmV follows (by decide) (by kernel_rfl) (by kernel_rfl) (by kernel_rfl) (by kernel_rfl) rfl rfl rfl ?_ ?_ ?_
   ·obtain⟨x12,g,hF⟩:=Rx g hF
    refine wC hF [.io,.sh] za3 (fun z13 hF=>?_)
    refine wC hF [.io,.sh] zaN (fun z14 hF=>?_)
    refine wC hF [.io,.mv] zan (fun z15 hF=>?_)
    exact wT (hj7 _) (zaa hF)
   ·obtain⟨x12,g,hF⟩:=Rx g hF
    refine wC hF [.io,.sh] za3 (fun z13 hF=>?_)
    refine wC hF [.io,.sh] zaN (fun z14 hF=>?_)
    refine wC hF [.io,.mv] zan (fun z15 hF=>?_)
    exact wT (hj7 _) (zaa hF)
   obtain⟨x12,g,hF⟩:=Rx g hF
   refine wC hF [.io,.sh] za3 (fun z13 hF=>?_)
   refine wC hF [.io,.sh] zaN (fun z14 hF=>?_)
   refine wC hF [.io,.mv] zan (fun z15 hF=>?_)
   exact wT (hj7 _) (zaa hF)
  exact wT (hj7 _) (zaa hF)
 refine pX g hF (fun g hF=>?_) fun hF=>?_
 ·refine wK [0,4,5,6,7] ?_
  try simp[go_sem,g]
  try intros
  refine zaD ?_
  refine wJ hF (fun x25=>[(0,.v (vB x25.1.1 x25.1.2.1 x25.1.2.2)),(5,.bl [vD x25.2.1,vD x25.2.2.1,vD x25.2.2.2]),(6,.bl [.sl true 1 [],.sl true 1 [],.sl true 1 []])]) (fun x25 hF=>?_) fun _ hj23 hF=>?_
  ·refine wC hF [.io,.sh] zai (fun z32 hF=>?_)
   refine wW ?_
   refine wJ hF (fun x35=>[(0,.v (vB z32.2.1 z32.2.2.1 z32.2.2.2)),(5,.bl [vD x35.1,vD x35.2.1,vD x35.2.2]),(6,.bl [.sl true 1 [],.sl true 1 [],.sl true 1 []])]) (fun x35 hF=>?_) fun _ hj33 hF=>?_
   ·exact wl hΦ hF
   refine wB ?_
   refine wW ?_
   refine wI hF (fun h36 hF=>?_) (fun h36 hF=>?_)
   ·obtain⟨g,hF⟩:=Rg g hF
    exact wT (hj33 _) (zaa hF)
   refine wW ?_
   refine wI hF (fun h37 hF=>?_) (fun h37 hF=>?_)
   ·exact wT (hj33 _) (zaa hF)
   refine wK [0,5,6,72] ?_
   refine wI hF (fun h38 hF=>?_) (fun h38 hF=>?_)
   ·obtain⟨g,hF⟩:=Rg g hF
    exact wT (hj33 _) (zaa hF)
   exact wT (hj33 _) (zaa hF)
  refine wI hF (fun h26 hF=>?_) (fun h26 hF=>?_)
  ·try simp[go_sem,g]
   try intros
   refine wC hF [.io,.sh] zai (fun z27 hF=>?_)
   refine wW ?_
   repeat rw[sq]
   refine zmx 14 5 14 8 0 1 zmZ zmB zmV follows (by decide) (by kernel_rfl) (by kernel_rfl) (by kernel_rfl) (by kernel_rfl) rfl rfl rfl ?_ ?_ ?_
   ·obtain⟨x28,g,hF⟩:=Rx g hF
    refine wC hF [.io,.sh] za3 (fun z29 hF=>?_)
    refine wC hF [.io,.sh] zaN (fun z30 hF=>?_)
    refine wC hF [.io,.mv] zan (fun z31 hF=>?_)
    exact wT (hj23 _) (zaa hF)
   ·obtain⟨x28,g,hF⟩:=Rx g hF
    refine wC hF [.io,.sh] za3 (fun z29 hF=>?_)
    refine wC hF [.io,.sh] zaN (fun z30 hF=>?_)
    refine wC hF [.io,.mv] zan (fun z31 hF=>?_)
    exact wT (hj23 _) (zaa hF)
   obtain⟨x28,g,hF⟩:=Rx g hF
   refine wC hF [.io,.sh] za3 (fun z29 hF=>?_)
   refine wC hF [.io,.sh] zaN (fun z30 hF=>?_)
   refine wC hF [.io,.mv] zan (fun z31 hF=>?_)
   exact wT (hj23 _) (zaa hF)
  exact wT (hj23 _) (zaa hF)
 refine pX g hF (fun g hF=>?_) fun hF=>?_
 ·refine wK [0,4,5,6,7] ?_
  try simp[go_sem,g]
  try intros
  refine zaD ?_
  refine wJ hF (fun x41=>[(0,.v (vB x41.1.1 x41.1.2.1 x41.1.2.2)),(5,.bl [vD x41.2.1,vD x41.2.2.1,vD x41.2.2.2]),(6,.bl [.sl true 1 [],.sl true 1 [],.sl true 1 []])]) (fun x41 hF=>?_) fun _ hj39 hF=>?_
  ·refine wC hF [.io,.sh] zai (fun z48 hF=>?_)
   refine wW ?_
   refine wJ hF (fun x51=>[(0,.v (vB z48.2.1 z48.2.2.1 z48.2.2.2)),(5,.bl [vD x51.1,vD x51.2.1,vD x51.2.2]),(6,.bl [.sl true 1 [],.sl true 1 [],.sl true 1 []])]) (fun x51 hF=>?_) fun _ hj49 hF=>?_
   ·exact wl hΦ hF
   refine wB ?_
   refine wW ?_
   refine wI hF (fun h52 hF=>?_) (fun h52 hF=>?_)
   ·obtain⟨g,hF⟩:=Rg g hF
    exact wT (hj49 _) (zaa hF)
   refine wW ?_
   refine wI hF (fun h53 hF=>?_) (fun h53 hF=>?_)
   ·exact wT (hj49 _) (zaa hF)
   refine wK [0,5,6,72] ?_
   refine wI hF (fun h54 hF=>?_) (fun h54 hF=>?_)
   ·obtain⟨g,hF⟩:=Rg g hF
    exact wT (hj49 _) (zaa hF)
   exact wT (hj49 _) (zaa hF)
  refine wI hF (fun h42 hF=>?_) (fun h42 hF=>?_)
  ·try simp[go_sem,g]
   try intros
   refine wC hF [.io,.sh] zai (fun z43 hF=>?_)
   refine wW ?_
   repeat rw[sq]
   refine zmx 14 5 14 8 0 1 zmZ zmB zmV follows (by decide) (by kernel_rfl) (by kernel_rfl) (by kernel_rfl) (by kernel_rfl) rfl rfl rfl ?_ ?_ ?_
   ·obtain⟨x44,g,hF⟩:=Rx g hF
    refine wC hF [.io,.sh] za3 (fun z45 hF=>?_)
    refine wC hF [.io,.sh] zaN (fun z46 hF=>?_)
    refine wC hF [.io,.mv] zan (fun z47 hF=>?_)
    exact wT (hj39 _) (zaa hF)
   ·obtain⟨x44,g,hF⟩:=Rx g hF
    refine wC hF [.io,.sh] za3 (fun z45 hF=>?_)
    refine wC hF [.io,.sh] zaN (fun z46 hF=>?_)
    refine wC hF [.io,.mv] zan (fun z47 hF=>?_)
    exact wT (hj39 _) (zaa hF)
   obtain⟨x44,g,hF⟩:=Rx g hF
   refine wC hF [.io,.sh] za3 (fun z45 hF=>?_)
   refine wC hF [.io,.sh] zaN (fun z46 hF=>?_)
   refine wC hF [.io,.mv] zan (fun z47 hF=>?_)
   exact wT (hj39 _) (zaa hF)
  exact wT (hj39 _) (zaa hF)
 exact(zlK hF).elim
@[go_sem] def zDu:List DE:=[d1 0 [5] 5,d2 1 [8] 5 8,d1 3 [5] 5,d2 4 [11] 5 11,d1 6 [5] 5,d2 7 [14] 5 14,d0 9 [0],d2 10 [4] 4 4,d1 11 [5] 5,d2 12 [19] 5 19,d3 2 [9],d3 5 [12],d3 8 [15],d3 13 [17,18,20],d0 14 [10,13,16,21],d2 15 [5,22] 5 5]
@[go_sem] def zBh:List DE:=[d1 0 [5] 5,d2 1 [23] 5 23,d1 2 [5] 5,d2 3 [25] 5 25,d1 4 [5] 5,d2 5 [27] 5 27,d0 6 [24,26,28],d0 7 [0],d3 8 [30],⟨9,[29,31],[],none,true,true,false⟩,d0 10 [32],d0 11 [33]]
@[go_sem] def zte:List DE:=[d0 0 [7],d0 1 [0],d0 2 [7],d0 3 [43],d0 5 [0],d2 6 [4] 4 4,d3 4 [42,44],d3 7 [46,47],d0 8 [41,45],d0 9 [49,48]]
def zco (a0c0:List Int) (a0c1:Int) (a0c2:Int) (a1:Group) (a2:PolyProof):Option (PolyProof×(List Int×Int×Int)):=
 (zdJ a2.Places).bind fun z1=>
 (zdJ a2.Powers).bind fun z2=>
 (zdJ a2.Chain).bind fun z3=>
 (zdi a0c0 a0c1 a0c2 a1 a2.Pi).bind fun z4=>
 (zag z4.2.1 z4.2.2.1 z4.2.2.2 3).bind fun z5=>
 if(z5.1==0)=true then(
 ((if decide (0<(z1.length:Int))=true then(
 (zaP z5.2.1 z5.2.2.1 z5.2.2.2 4).bind fun z10=>
 some ((z10.2.1,z10.2.2.1,z10.2.2.2),z10.1))else(
 some ((z5.2.1,z5.2.2.1,z5.2.2.2),false)):Option (((List Int×Int×Int)×Bool))).bind fun x8=>
 ((if x8.2=true then(
 (zag x8.1.1 x8.1.2.1 x8.1.2.2 (z1.length:Int)).bind fun z15=>
 (zaR z15.2.1 z15.2.2.1 z15.2.2.2 a1).bind fun z16=>
 (ix z1 z15.1).bind fun x17=>
 some ((z16.2.1,z16.2.2.1,z16.2.2.2),z1.set z15.1.toNat z16.1,z2,z3,z4.1.Commits,z4.1.Challenges,z4.1.Responses))else(
 some ((x8.1.1,x8.1.2.1,x8.1.2.2),z1,z2,z3,z4.1.Commits,z4.1.Challenges,z4.1.Responses)):Option (((List Int×Int×Int)×List Int×List Int×List Int×List Int×List Int×List Int))).bind fun x13=>
 (zaP x13.1.1 x13.1.2.1 x13.1.2.2 16).bind fun z18=>
 ((if z18.1=true then(
 gd ((x13.2.2.1.length+1)*8≤140737488355328∧x13.2.2.1.length+1≤4611686018427387904)<|
 some (x13.2.1,x13.2.2.1++[1],x13.2.2.2.1,x13.2.2.2.2.1,x13.2.2.2.2.2.1,x13.2.2.2.2.2.2))else(
 some (x13.2.1,x13.2.2.1,x13.2.2.2.1,x13.2.2.2.2.1,x13.2.2.2.2.2.1,x13.2.2.2.2.2.2)):Option ((List Int×List Int×List Int×List Int×List Int×List Int))).bind fun x21=>
 some ((PolyProof.mk x21.1 x21.2.1 x21.2.2.1 (Proof.mk x21.2.2.2.1 x21.2.2.2.2.1 x21.2.2.2.2.2)),(z18.2.1,z18.2.2.1,z18.2.2.2))))))else(
 if(z5.1==1)=true then(
 ((if decide (0<(z2.length:Int))=true then(
 (zaP z5.2.1 z5.2.2.1 z5.2.2.2 4).bind fun z27=>
 some ((z27.2.1,z27.2.2.1,z27.2.2.2),z27.1))else(
 some ((z5.2.1,z5.2.2.1,z5.2.2.2),false)):Option (((List Int×Int×Int)×Bool))).bind fun x25=>
 ((if x25.2=true then(
 (zag x25.1.1 x25.1.2.1 x25.1.2.2 (z2.length:Int)).bind fun z32=>
 (zaR z32.2.1 z32.2.2.1 z32.2.2.2 a1).bind fun z33=>
 (ix z2 z32.1).bind fun x34=>
 some ((z33.2.1,z33.2.2.1,z33.2.2.2),z1,z2.set z32.1.toNat z33.1,z3,z4.1.Commits,z4.1.Challenges,z4.1.Responses))else(
 some ((x25.1.1,x25.1.2.1,x25.1.2.2),z1,z2,z3,z4.1.Commits,z4.1.Challenges,z4.1.Responses)):Option (((List Int×Int×Int)×List Int×List Int×List Int×List Int×List Int×List Int))).bind fun x30=>
 (zaP x30.1.1 x30.1.2.1 x30.1.2.2 16).bind fun z35=>
 ((if z35.1=true then(
 gd ((x30.2.2.1.length+1)*8≤140737488355328∧x30.2.2.1.length+1≤4611686018427387904)<|
 some (x30.2.1,x30.2.2.1++[1],x30.2.2.2.1,x30.2.2.2.2.1,x30.2.2.2.2.2.1,x30.2.2.2.2.2.2))else(
 some (x30.2.1,x30.2.2.1,x30.2.2.2.1,x30.2.2.2.2.1,x30.2.2.2.2.2.1,x30.2.2.2.2.2.2)):Option ((List Int×List Int×List Int×List Int×List Int×List Int))).bind fun x38=>
 some ((PolyProof.mk x38.1 x38.2.1 x38.2.2.1 (Proof.mk x38.2.2.2.1 x38.2.2.2.2.1 x38.2.2.2.2.2)),(z35.2.1,z35.2.2.1,z35.2.2.2))))))else(
 if(z5.1==2)=true then(
 ((if decide (0<(z3.length:Int))=true then(
 (zaP z5.2.1 z5.2.2.1 z5.2.2.2 4).bind fun z44=>
 some ((z44.2.1,z44.2.2.1,z44.2.2.2),z44.1))else(
 some ((z5.2.1,z5.2.2.1,z5.2.2.2),false)):Option (((List Int×Int×Int)×Bool))).bind fun x42=>
 ((if x42.2=true then(
 (zag x42.1.1 x42.1.2.1 x42.1.2.2 (z3.length:Int)).bind fun z49=>
 (zaR z49.2.1 z49.2.2.1 z49.2.2.2 a1).bind fun z50=>
 (ix z3 z49.1).bind fun x51=>
 some ((z50.2.1,z50.2.2.1,z50.2.2.2),z1,z2,z3.set z49.1.toNat z50.1,z4.1.Commits,z4.1.Challenges,z4.1.Responses))else(
 some ((x42.1.1,x42.1.2.1,x42.1.2.2),z1,z2,z3,z4.1.Commits,z4.1.Challenges,z4.1.Responses)):Option (((List Int×Int×Int)×List Int×List Int×List Int×List Int×List Int×List Int))).bind fun x47=>
 (zaP x47.1.1 x47.1.2.1 x47.1.2.2 16).bind fun z52=>
 ((if z52.1=true then(
 gd ((x47.2.2.1.length+1)*8≤140737488355328∧x47.2.2.1.length+1≤4611686018427387904)<|
 some (x47.2.1,x47.2.2.1++[1],x47.2.2.2.1,x47.2.2.2.2.1,x47.2.2.2.2.2.1,x47.2.2.2.2.2.2))else(
 some (x47.2.1,x47.2.2.1,x47.2.2.2.1,x47.2.2.2.2.1,x47.2.2.2.2.2.1,x47.2.2.2.2.2.2)):Option ((List Int×List Int×List Int×List Int×List Int×List Int))).bind fun x55=>
 some ((PolyProof.mk x55.1 x55.2.1 x55.2.2.1 (Proof.mk x55.2.2.2.1 x55.2.2.2.2.1 x55.2.2.2.2.2)),(z52.2.1,z52.2.2.1,z52.2.2.2))))))else(
 none)))
theorem zii:∀{a0c0}{a0c1}{a0c2}{a1}{a2}{r},zco a0c0 a0c1 a0c2 a1 a2=some r→PCalls Tryz.prog 42 [(.io,vB a0c0 a0c1 a0c2),(.sh,vE a1),(.sh,vL a2)] (Eo (vN r.1) [vB r.2.1 r.2.2.1 r.2.2.2,.junk,.junk]):=by
 intro a0c0 a0c1 a0c2 a1 a2 r hr
 apply pF 58 [0] [123,145] [] [.cell 6 32] hr zIq Tryz.func42
 intro Φ hΦ hF g
 unfold zco at hF
 refine wW ?_
 refine wX zDu follows ?_
 refine wC hF [.sh] zft (fun z1 hF=>?_)
 refine wC hF [.sh] zft (fun z2 hF=>?_)
 refine wC hF [.sh] zft (fun z3 hF=>?_)
 refine wC hF [.io,.sh,.sh] zjv (fun z4 hF=>?_)
 refine wK [0,4,5,6] ?_
 refine wX zBh follows ?_
 refine wC hF [.io,.sh] zai (fun z5 hF=>?_)
 refine pX g hF (fun g hF=>?_) fun hF=>?_
 ·refine wK [0,4,5,6,7] ?_
  refine wJ hF (fun x8=>[(0,.v (vB x8.1.1 x8.1.2.1 x8.1.2.2)),(4,.bl [.int .i64 a1.P,.int .i64 a1.Q,.int .i64 a1.G]),(5,.bl [vD z1,vD z2,vD z3,vD z4.1.Commits,vD z4.1.Challenges,vD z4.1.Responses]),(6,.bl [.sl true 1 [],.sl true 1 [],.sl true 1 [],.sl true 1 [],.sl true 1 [],.sl true 1 []]),(7,.rf 5 [(0,0)]),(40,.v (.bool x8.2))]) (fun x8 hF=>?_) fun _ hj6 hF=>?_
  ·refine wJ hF (fun x13=>[(0,.v (vB x13.1.1 x13.1.2.1 x13.1.2.2)),(5,.bl [vD x13.2.1,vD x13.2.2.1,vD x13.2.2.2.1,vD x13.2.2.2.2.1,vD x13.2.2.2.2.2.1,vD x13.2.2.2.2.2.2]),(6,.bl [.sl true 1 [],.sl true 1 [],.sl true 1 [],.sl true 1 [],.sl true 1 [],.sl true 1 []])]) (fun x13 hF=>?_) fun _ hj11 hF=>?_
   ·refine wC hF [.io,.sh] zbh (fun z18 hF=>?_)
    refine wW ?_
    refine wJ hF (fun x21=>[(0,.v (vB z18.2.1 z18.2.2.1 z18.2.2.2)),(5,.bl [vD x21.1,vD x21.2.1,vD x21.2.2.1,vD x21.2.2.2.1,vD x21.2.2.2.2.1,vD x21.2.2.2.2.2]),(6,.bl [.sl true 1 [],.sl true 1 [],.sl true 1 [],.sl true 1 [],.sl true 1 [],.sl true 1 []])]) (fun x21 hF=>?_) fun _ hj19 hF=>?_
    ·exact wl hΦ hF
    refine wI hF (fun h22 hF=>?_) (fun h22 hF=>?_)
    ·obtain⟨g,hF⟩:=Rg g hF
     exact wT (hj19 _) (zaa hF)
    exact wT (hj19 _) (zaa hF)
   refine wI hF (fun h14 hF=>?_) (fun h14 hF=>?_)
   ·refine wX zte follows ?_
    try simp[go_sem,g]
    try intros
    refine wC hF [.io,.sh] zai (fun z15 hF=>?_)
    refine wC hF [.io,.sh] zbI (fun z16 hF=>?_)
    obtain⟨x17,g,hF⟩:=Rx g hF
    exact wT (hj11 _) (zaa hF)
   exact wT (hj11 _) (zaa hF)
  try simp[go_sem,g]
  try intros
  refine wG hF (fun h9 hF=>?_) fun h9 hF=>?_
  ·try simp[go_sem,g,h9]
   refine wC hF [.io,.sh] zbh (fun z10 hF=>?_)
   exact wV h9 (hj6 _) (zaa hF)
  exact wV h9 (hj6 _) (zaa hF)
 refine pX g hF (fun g hF=>?_) fun hF=>?_
 ·refine wK [0,4,5,6,7] ?_
  refine wJ hF (fun x25=>[(0,.v (vB x25.1.1 x25.1.2.1 x25.1.2.2)),(4,.bl [.int .i64 a1.P,.int .i64 a1.Q,.int .i64 a1.G]),(5,.bl [vD z1,vD z2,vD z3,vD z4.1.Commits,vD z4.1.Challenges,vD z4.1.Responses]),(6,.bl [.sl true 1 [],.sl true 1 [],.sl true 1 [],.sl true 1 [],.sl true 1 [],.sl true 1 []]),(7,.rf 5 [(0,1)]),(40,.v (.bool x25.2))]) (fun x25 hF=>?_) fun _ hj23 hF=>?_
  ·refine wJ hF (fun x30=>[(0,.v (vB x30.1.1 x30.1.2.1 x30.1.2.2)),(5,.bl [vD x30.2.1,vD x30.2.2.1,vD x30.2.2.2.1,vD x30.2.2.2.2.1,vD x30.2.2.2.2.2.1,vD x30.2.2.2.2.2.2]),(6,.bl [.sl true 1 [],.sl true 1 [],.sl true 1 [],.sl true 1 [],.sl true 1 [],.sl true 1 []])]) (fun x30 hF=>?_) fun _ hj28 hF=>?_
   ·refine wC hF [.io,.sh] zbh (fun z35 hF=>?_)
    refine wW ?_
    refine wJ hF (fun x38=>[(0,.v (vB z35.2.1 z35.2.2.1 z35.2.2.2)),(5,.bl [vD x38.1,vD x38.2.1,vD x38.2.2.1,vD x38.2.2.2.1,vD x38.2.2.2.2.1,vD x38.2.2.2.2.2]),(6,.bl [.sl true 1 [],.sl true 1 [],.sl true 1 [],.sl true 1 [],.sl true 1 [],.sl true 1 []])]) (fun x38 hF=>?_) fun _ hj36 hF=>?_
    ·exact wl hΦ hF
    refine wI hF (fun h39 hF=>?_) (fun h39 hF=>?_)
    ·obtain⟨g,hF⟩:=Rg g hF
     exact wT (hj36 _) (zaa hF)
    exact wT (hj36 _) (zaa hF)
   refine wI hF (fun h31 hF=>?_) (fun h31 hF=>?_)
   ·refine wX zte follows ?_
    try simp[go_sem,g]
    try intros
    refine wC hF [.io,.sh] zai (fun z32 hF=>?_)
    refine wC hF [.io,.sh] zbI (fun z33 hF=>?_)
    obtain⟨x34,g,hF⟩:=Rx g hF
    exact wT (hj28 _) (zaa hF)
   exact wT (hj28 _) (zaa hF)
  try simp[go_sem,g]
  try intros
  refine wG hF (fun h26 hF=>?_) fun h26 hF=>?_
  ·try simp[go_sem,g,h26]
   refine wC hF [.io,.sh] zbh (fun z27 hF=>?_)
   exact wV h26 (hj23 _) (zaa hF)
  exact wV h26 (hj23 _) (zaa hF)
 refine pX g hF (fun g hF=>?_) fun hF=>?_
 ·refine wK [0,4,5,6,7] ?_
  refine wJ hF (fun x42=>[(0,.v (vB x42.1.1 x42.1.2.1 x42.1.2.2)),(4,.bl [.int .i64 a1.P,.int .i64 a1.Q,.int .i64 a1.G]),(5,.bl [vD z1,vD z2,vD z3,vD z4.1.Commits,vD z4.1.Challenges,vD z4.1.Responses]),(6,.bl [.sl true 1 [],.sl true 1 [],.sl true 1 [],.sl true 1 [],.sl true 1 [],.sl true 1 []]),(7,.rf 5 [(0,2)]),(40,.v (.bool x42.2))]) (fun x42 hF=>?_) fun _ hj40 hF=>?_
  ·refine wJ hF (fun x47=>[(0,.v (vB x47.1.1 x47.1.2.1 x47.1.2.2)),(5,.bl [vD x47.2.1,vD x47.2.2.1,vD x47.2.2.2.1,vD x47.2.2.2.2.1,vD x47.2.2.2.2.2.1,vD x47.2.2.2.2.2.2]),(6,.bl [.sl true 1 [],.sl true 1 [],.sl true 1 [],.sl true 1 [],.sl true 1 [],.sl true 1 []])]) (fun x47 hF=>?_) fun _ hj45 hF=>?_
   ·refine wC hF [.io,.sh] zbh (fun z52 hF=>?_)
    refine wW ?_
    refine wJ hF (fun x55=>[(0,.v (vB z52.2.1 z52.2.2.1 z52.2.2.2)),(5,.bl [vD x55.1,vD x55.2.1,vD x55.2.2.1,vD x55.2.2.2.1,vD x55.2.2.2.2.1,vD x55.2.2.2.2.2]),(6,.bl [.sl true 1 [],.sl true 1 [],.sl true 1 [],.sl true 1 [],.sl true 1 [],.sl true 1 []])]) (fun x55 hF=>?_) fun _ hj53 hF=>?_
    ·exact wl hΦ hF
    refine wI hF (fun h56 hF=>?_) (fun h56 hF=>?_)
    ·obtain⟨g,hF⟩:=Rg g hF
     exact wT (hj53 _) (zaa hF)
    exact wT (hj53 _) (zaa hF)
   refine wI hF (fun h48 hF=>?_) (fun h48 hF=>?_)
   ·refine wX zte follows ?_
    try simp[go_sem,g]
    try intros
    refine wC hF [.io,.sh] zai (fun z49 hF=>?_)
    refine wC hF [.io,.sh] zbI (fun z50 hF=>?_)
    obtain⟨x51,g,hF⟩:=Rx g hF
    exact wT (hj45 _) (zaa hF)
   exact wT (hj45 _) (zaa hF)
  try simp[go_sem,g]
  try intros
  refine wG hF (fun h43 hF=>?_) fun h43 hF=>?_
  ·try simp[go_sem,g,h43]
   refine wC hF [.io,.sh] zbh (fun z44 hF=>?_)
   exact wV h43 (hj40 _) (zaa hF)
  exact wV h43 (hj40 _) (zaa hF)
 exact(zlK hF).elim
@[go_sem] def zHO:List DE:=[d0 0 [14],d0 1 [7],d0 2 [14],d0 3 [56],d0 5 [7],d2 6 [8] 8 8,d3 4 [55,57],d3 7 [59,60],d0 8 [54,58],d0 9 [62,61]]
@[go_sem] def zFH:List DE:=[d2 0 [8] 8 8,d0 1 [9],d0 2 [10],d0 3 [14],d0 4 [7],d2 5 [8] 8 8,d2 6 [16] 16 16,d3 7 [67,68,69],d2 8 [2,63] 2 2,d0 9 [64],d0 10 [65],d0 11 [66],d2 12 [6,70] 6 6]
def zdt (a0:List Int):Option (Group×Int×List Cipher×List Cipher×PolyProof):=
 (zcT a0).bind fun z1=>
 (zc4 z1.1 z1.2.1 z1.2.2.1 z1.2.2.2.1 z1.2.2.2.2.1).bind fun z2=>
 (zcM z1.1 z1.2.1 z1.2.2.1 z1.2.2.2.1 z1.2.2.2.2.1 z1.2.2.2.2.2).bind fun z3=>
 ((if z2.2=true then(
 (zaP a0 0 0 6).bind fun z8=>
 some ((z8.2.1,z8.2.2.1,z8.2.2.2),z8.1))else(
 some ((a0,0,0),false)):Option (((List Int×Int×Int)×Bool))).bind fun x6=>
 ((if x6.2=true then(
 (zag x6.1.1 x6.1.2.1 x6.1.2.2 (z2.1.length:Int)).bind fun z13=>
 (zbO z13.2.1 z13.2.2.1 z13.2.2.2 z1.1).bind fun z14=>
 (ix z2.1 z13.1).bind fun x15=>
 some ((z14.2.1,z14.2.2.1,z14.2.2.2),z2.1.set z13.1.toNat z14.1))else(
 some ((x6.1.1,x6.1.2.1,x6.1.2.2),z2.1)):Option (((List Int×Int×Int)×List Cipher))).bind fun x11=>
 (zco x11.1.1 x11.1.2.1 x11.1.2.2 z1.1 z3.1).bind fun z16=>
 some (z1.1,z1.2.1,z1.2.2.1,x11.2,z16.1)))
theorem zjO:∀{a0}{r},zdt a0=some r→PCalls Tryz.prog 8 [(.sh,vA a0)] (Eo (.tup [vE r.1,.int .i64 r.2.1,vG r.2.2.1,vG r.2.2.2.1,vN r.2.2.2.2]) [.junk]):=by
 intro a0 r hr
 apply pF 71 [] [69] [20] [.cell 2 24,.tmp 3,.tmp 4,.tmp 5,.cell 6 32] hr cl8 Tryz.func8
 intro Φ hΦ hF g
 unfold zdt at hF
 iterate 2 refine wW ?_
 refine wC hF [.sh] zhA (fun z1 hF=>?_)
 refine wK [2,6,7,8,9,10,11,12,13] ?_
 refine wC hF [.sh,.sh,.sh,.sh,.sh] zmb (fun z2 hF=>?_)
 refine wK [2,6,7,8,9,10,11,12,13,14,15] ?_
 refine wC hF [.sh,.sh,.sh,.sh,.sh,.sh] zi1 (fun z3 hF=>?_)
 refine wK [2,6,7,8,9,10,14,15,16] ?_
 refine wJ hF (fun x6=>[(2,.bl [.int .i64 0,.int .i64 0,.int .i64 0]),(6,.bl [.sl true 1 [],.sl true 1 [],.sl true 1 [],.sl true 1 [],.sl true 1 [],.sl true 1 []]),(7,.v (vB x6.1.1 x6.1.2.1 x6.1.2.2)),(8,.bl [.int .i64 z1.1.P,.int .i64 z1.1.Q,.int .i64 z1.1.G]),(9,.v (.int .i64 z1.2.1)),(10,.v (vG z1.2.2.1)),(14,.v (vG z2.1)),(16,.bl [vD z3.1.Places,vD z3.1.Powers,vD z3.1.Chain,vD z3.1.Pi.Commits,vD z3.1.Pi.Challenges,vD z3.1.Pi.Responses]),(53,.v (.bool x6.2))]) (fun x6 hF=>?_) fun _ hj4 hF=>?_
 ·refine wJ hF (fun x11=>[(2,.bl [.int .i64 0,.int .i64 0,.int .i64 0]),(6,.bl [.sl true 1 [],.sl true 1 [],.sl true 1 [],.sl true 1 [],.sl true 1 [],.sl true 1 []]),(7,.v (vB x11.1.1 x11.1.2.1 x11.1.2.2)),(8,.bl [.int .i64 z1.1.P,.int .i64 z1.1.Q,.int .i64 z1.1.G]),(9,.v (.int .i64 z1.2.1)),(10,.v (vG z1.2.2.1)),(14,.v (vG x11.2)),(16,.bl [vD z3.1.Places,vD z3.1.Powers,vD z3.1.Chain,vD z3.1.Pi.Commits,vD z3.1.Pi.Challenges,vD z3.1.Pi.Responses])]) (fun x11 hF=>?_) fun _ hj9 hF=>?_
  ·refine wX zFH follows ?_
   refine wC hF [.io,.sh,.sh] zii (fun z16 hF=>?_)
   refine wK [2,3,4,5,6] ?_
   exact wm hΦ hF
  refine wI hF (fun h12 hF=>?_) (fun h12 hF=>?_)
  ·refine wX zHO follows ?_
   try simp[go_sem,g]
   try intros
   refine wC hF [.io,.sh] zai (fun z13 hF=>?_)
   refine wC hF [.io,.sh] zfI (fun z14 hF=>?_)
   obtain⟨x15,g,hF⟩:=Rx g hF
   exact wT (hj9 _) (zaa hF)
  exact wT (hj9 _) (zaa hF)
 refine wG hF (fun h7 hF=>?_) fun h7 hF=>?_
 ·try simp[go_sem,g,h7]
  refine wC hF [.io,.sh] zbh (fun z8 hF=>?_)
  exact wV h7 (hj4 _) (zaa hF)
 exact wV h7 (hj4 _) (zaa hF)
def zbT (a0:Int) (a1c0x0:Group):Option Bool:=
 (zcR a1c0x0 a0).bind fun z1=>
 some (!z1)
theorem zhm:∀{a0}{a1c0x0}{r},zbT a0 a1c0x0=some r→PCalls Tryz.prog 149 [(.sh,.int .i64 a0),(.sh,.fp [.func (.func 123) [vE a1c0x0] []])] (Eo (.bool r) [.junk,.junk]):=by
 intro a0 a1c0x0 r hr
 apply pF 8 [] [] [] [.tmp 3] hr znT Tryz.func149
 intro Φ hΦ hF g
 unfold zbT at hF
 refine wW ?_
 refine wC hF [.sh] zfO (fun z1 hF=>?_)
 exact wl hΦ hF
def zaZ (a0:List Int) (a1u0c0x0:Group):Option Int:=
 ((zap (σ:=Unit) (fun i5 s4=>
 (ix a0 i5).bind fun x11=>
 (zbT x11 a1u0c0x0).bind fun z12=>
 if z12=true then(
 some (.out (.inr i5)))else(
 some (.go ()))) (fun s4=>.inl ()) (a0.length) 0 ():Option (Unit ⊕ Int)).bind (Sum.elim (fun x3=>
 some (-1)) some))
theorem zee:∀{a0}{a1u0c0x0}{r},zaZ a0 a1u0c0x0=some r→PCalls Tryz.prog 171 [(.sh,vC a0),(.sh,.func (.func 149) [] [.fp [.func (.func 123) [vE a1u0c0x0] []]])] (Eo (.int .i64 r) [.junk,.junk]):=by
 intro a0 a1u0c0x0 r hr
 apply pF 19 [] [] [] [.tmp 4] hr znr Tryz.func171
 intro Φ hΦ hF g
 unfold zaZ at hF
 iterate 2 (try simp[go_sem,g];try intros;refine zaD ?_)
 refine wS hF (fun x3=>[]) (fun x3 hF=>?_) fun _ hj1 hr2 hF=>?_
 ·exact wl hΦ hF
 refine wB ?_
 obtain⟨b14,hb15,hψ8⟩:=hF
 refine pR hb15 (fun i5 s4=>[(0,.v (vC a0)),(1,.v (.func (.func 149) [] [.fp [.func (.func 123) [vE a1u0c0x0] []]])),(7,.v (.int .i64 (a0.length:Int))),(8,.v (.int .i64 i5))]) (fun s4 _ hN16=>?_) (fun i5 s4 _ _ hi9 hi10 ho6 hg7 hF=>?_)
 ·exact wn hN16 (hj1 _) hψ8
 refine wW ?_
 refine wu hi9 hi10 ?_
 refine wW ?_
 refine wB ?_
 obtain⟨x11,g,hF⟩:=Rx g hF
 refine wW ?_
 refine wC hF [.sh] zhm (fun z12 hF=>?_)
 refine wK [0,1,5,7,8,16] ?_
 refine wI hF (fun h13 hF=>?_) (fun h13 hF=>?_)
 ·cases ho6 _ (zaa hF)
  cases hΦ _ (hr2 _ hψ8)
  refine wW ?_
  try simp[go_sem,g]
 refine wW ?_
 exact wi hi9 hi10 (hg7 _) (zaa hF)
def zaV (a0:List Int) (a1u0c0x0:Group):Option Bool:=
 (zaZ a0 a1u0c0x0).bind fun z1=>
 some (decide (0≤z1))
theorem zdV:∀{a0}{a1u0c0x0}{r},zaV a0 a1u0c0x0=some r→PCalls Tryz.prog 148 [(.sh,vC a0),(.sh,.func (.func 149) [] [.fp [.func (.func 123) [vE a1u0c0x0] []]])] (Eo (.bool r) [.junk,.junk]):=by
 intro a0 a1u0c0x0 r hr
 apply pF 9 [] [] [] [.tmp 4] hr znR Tryz.func148
 intro Φ hΦ hF g
 unfold zaV at hF
 refine wW ?_
 refine wC hF [.sh,.sh] zee (fun z1 hF=>?_)
 exact wl hΦ hF
def zcJ (a0:List Int) (a1x0:Group):Option Bool:=
 (zaV a0 a1x0).bind fun z1=>
 some (!z1)
theorem zhG:∀{a0}{a1x0}{r},zcJ a0 a1x0=some r→PCalls Tryz.prog 81 [(.sh,vC a0),(.sh,.func (.func 123) [vE a1x0] [])] (Eo (.bool r) [.junk,.junk]):=by
 intro a0 a1x0 r hr
 apply pF 9 [] [] [1000000] [.tmp 4] hr zqy Tryz.func81
 intro Φ hΦ hF g
 unfold zcJ at hF
 refine wW ?_
 refine wC hF [.sh,.sh] zdV (fun z1 hF=>?_)
 exact wl hΦ hF
def zbz (a0:Group) (a1:List Int):Option Bool:=
 (zcJ a1 a0).bind fun z1=>
 some z1
theorem zdd:∀{a0}{a1}{r},zbz a0 a1=some r→PCalls Tryz.prog 55 [(.sh,vE a0),(.sh,vC a1)] (Eo (.bool r) [.junk,.junk]):=by
 intro a0 a1 r hr
 apply pF 9 [] [] [] [.tmp 4] hr zG2 Tryz.func55
 intro Φ hΦ hF g
 unfold zbz at hF
 refine wW ?_
 refine wC hF [.sh,.sh] zhG (fun z1 hF=>?_)
 exact wl hΦ hF
def zc1 (a0:Group) (a1:PolyProof) (a2:Int):Option Bool:=
 ((if((a1.Places.length:Int)==a2)=true then(
 if((a1.Powers.length:Int)==a2)=true then(
 if((a1.Chain.length:Int)==a2)=true then(
 if((a1.Pi.Commits.length:Int)==(i64.wrap ((i64.wrap (3*a2))+3)))=true then(
 if((a1.Pi.Challenges.length:Int)==1)=true then(
 if((a1.Pi.Responses.length:Int)==(i64.wrap ((i64.wrap (5*a2))+2)))=true then(
 (zbz a0 a1.Places).bind fun z10=>
 if z10=true then(
 (zbz a0 a1.Powers).bind fun z12=>
 if z12=true then(
 (zbz a0 a1.Chain).bind fun z14=>
 if z14=true then(
 (zbz a0 a1.Pi.Commits).bind fun z16=>
 if z16=true then(
 (zcn a0 a1.Pi.Responses).bind fun z18=>
 some z18)else(
 some false))else(
 some false))else(
 some false))else(
 some false))else(
 some false))else(
 some false))else(
 some false))else(
 some false))else(
 some false))else(
 some false):Option Bool).bind fun x3=>
 some x3)
theorem zjf:∀{a0}{a1}{a2}{r},zc1 a0 a1 a2=some r→PCalls Tryz.prog 115 [(.sh,vE a0),(.sh,vL a1),(.sh,.int .i64 a2)] (Eo (.bool r) [.junk,.junk,.junk]):=by
 intro a0 a1 a2 r hr
 apply pF 85 [] [] [] [.tmp 6] hr zBQ Tryz.func115
 intro Φ hΦ hF g
 unfold zc1 at hF
 refine wW ?_
 refine wJ hF (fun x3=>[(6,.v (.bool x3))]) (fun x3 hF=>?_) fun _ hj1 hF=>?_
 ·exact wm hΦ hF
 try simp[go_sem,g]
 try intros
 refine wG hF (fun h4 hF=>?_) fun h4 hF=>?_
 ·try simp[go_sem,g,h4]
  try intros
  refine wG hF (fun h5 hF=>?_) fun h5 hF=>?_
  ·try simp[go_sem,g,h5]
   try intros
   refine wG hF (fun h6 hF=>?_) fun h6 hF=>?_
   ·try simp[go_sem,g,h6]
    try intros
    refine wG hF (fun h7 hF=>?_) fun h7 hF=>?_
    ·try simp[go_sem,g,h7]
     try intros
     refine wG hF (fun h8 hF=>?_) fun h8 hF=>?_
     ·try simp[go_sem,g,h8]
      try intros
      refine wG hF (fun h9 hF=>?_) fun h9 hF=>?_
      ·try simp[go_sem,g,h9]
       refine wC hF [.sh,.sh] zdd (fun z10 hF=>?_)
       try simp[go_sem,g,h9]
       refine wG hF (fun h11 hF=>?_) fun h11 hF=>?_
       ·try simp[go_sem,g,h11]
        refine wC hF [.sh,.sh] zdd (fun z12 hF=>?_)
        try simp[go_sem,g,h11]
        refine wG hF (fun h13 hF=>?_) fun h13 hF=>?_
        ·try simp[go_sem,g,h13]
         refine wC hF [.sh,.sh] zdd (fun z14 hF=>?_)
         try simp[go_sem,g,h13]
         refine wG hF (fun h15 hF=>?_) fun h15 hF=>?_
         ·try simp[go_sem,g,h15]
          refine wC hF [.sh,.sh] zdd (fun z16 hF=>?_)
          try simp[go_sem,g,h15]
          refine wG hF (fun h17 hF=>?_) fun h17 hF=>?_
          ·try simp[go_sem,g,h17]
           refine wC hF [.sh,.sh] zfL (fun z18 hF=>?_)
           exact wV h17 (hj1 _) (zaa hF)
          exact wV h17 (hj1 _) (zaa hF)
         exact wV h15 (hj1 _) (zaa hF)
        exact wV h13 (hj1 _) (zaa hF)
       exact wV h11 (hj1 _) (zaa hF)
      exact wV h9 (hj1 _) (zaa hF)
     exact wV h8 (hj1 _) (zaa hF)
    exact wV h7 (hj1 _) (zaa hF)
   exact wV h6 (hj1 _) (zaa hF)
  exact wV h5 (hj1 _) (zaa hF)
 exact wV h4 (hj1 _) (zaa hF)
@[go_sem] def zz1:List DE:=[d0 0 [3],d0 1 [9],d0 2 [4,10],d0 3 [0,10],d0 4 [4,10],d0 5 [1,10],d0 6 [5,10],d0 10 [2,10],⟨7,[13,14,15,10],[],none,false,true,false⟩,d0 8 [12,16,10],⟨9,[11,17,10],[],none,true,true,true⟩,d0 11 [18,19,10],d0 12 [10,20],d0 13 [3,21]]
def zax (a0:Int) (a1:Int) (a2:Int) (a3c0:Bool) (a4c0:Int) (a4c1:Int) (a4c2:Int) (a5c0:Int):Option Bool:=
 if a3c0=true then(
 (zam (Group.mk a4c0 a4c1 a4c2) a1 a5c0).bind fun z2=>
 (zaz (Group.mk a4c0 a4c1 a4c2) [a0,z2]).bind fun z3=>
 some (z3==a2))else(
 some false)
theorem zbx:∀{a0}{a1}{a2}{a3c0}{a4c0}{a4c1}{a4c2}{a5c0}{r},zax a0 a1 a2 a3c0 a4c0 a4c1 a4c2 a5c0=some r→PCalls Tryz.prog 116 [(.sh,.int .i64 a0),(.sh,.int .i64 a1),(.sh,.int .i64 a2),(.io,.bx [.bool a3c0]),(.sh,.fp [.int .i64 a4c0,.int .i64 a4c1,.int .i64 a4c2]),(.sh,.fp [.int .i64 a5c0])] (Eo (.junk) [.junk,.junk,.junk,.bx [.bool r],.junk,.junk]):=by
 intro a0 a1 a2 a3c0 a4c0 a4c1 a4c2 a5c0 r hr
 apply pF 22 [3] [] [] [] hr zBu Tryz.func116
 intro Φ hΦ hF g
 unfold zax at hF
 refine wX zz1 follows ?_
 refine wH hF (fun h1 hF=>?_) fun h1 hF=>?_
 ·try simp[go_sem,g,h1]
  refine wD hF zaI (fun z2 hF=>?_)
  try simp[go_sem,g,h1]
  refine wC hF [.sh,.sh] zbd (fun z3 hF=>?_)
  cases hΦ _ (zaa hF)
  try simp[go_sem,g,h1]
  try simp[go_sem,g]
 cases hΦ _ (zaa hF)
 try simp[go_sem,g,h1]
 try simp[go_sem,g]
def zcU (a0:Int) (a1:Int) (a2:Int) (a3:Int) (a4:Int):Option Int:=
 ((zbo (σ:=Int×Int×Int) (fun s4=>
 if decide (s4.2.2≤a1)=true then(
 gd (a0≠0)<|
 gd (a0≠0)<|
 (ze6 (i64.wrap ((i64.wrap (((i64.wrap (a3*s4.2.2)).tmod a0)+((i64.wrap (s4.2.1*a2)).tmod a0)))-a4)) a0).bind fun z10=>
 gd (a0≠0)<|
 some (.go ((i64.wrap (s4.1*z10)).tmod a0,(i64.wrap (s4.2.1*a2)).tmod a0,i64.wrap (s4.2.2+1))))else(
 some (.out s4.1))) (1,1,1):Option Int).bind fun x3=>
 some x3)
theorem zho:∀{a0}{a1}{a2}{a3}{a4}{r},zcU a0 a1 a2 a3 a4=some r→PCalls Tryz.prog 60 [(.sh,.int .i64 a0),(.sh,.int .i64 a1),(.sh,.int .i64 a2),(.sh,.int .i64 a3),(.sh,.int .i64 a4)] (Eo (.int .i64 r) [.junk,.junk,.junk,.junk,.junk]):=by
 intro a0 a1 a2 a3 a4 r hr
 apply pF 40 [] [] [] [.tmp 10] hr zIX Tryz.func60
 intro Φ hΦ hF g
 unfold zcU at hF
 iterate 3 refine wW ?_
 refine wJ hF (fun x3=>[(11,.v (.int .i64 x3))]) (fun x3 hF=>?_) fun _ hj1 hF=>?_
 ·exact wl hΦ hF
 refine wB ?_
 obtain⟨b11,hb12,hψ8⟩:=hF
 refine pL hb12 (fun s4=>[(0,.v (.int .i64 a0)),(1,.v (.int .i64 a1)),(2,.v (.int .i64 a2)),(3,.v (.int .i64 a3)),(4,.v (.int .i64 a4)),(11,.v (.int .i64 s4.1)),(12,.v (.int .i64 s4.2.1)),(13,.v (.int .i64 s4.2.2))]) (fun s4 _ _ ho6 hg7 hF=>?_)
 refine wW ?_
 refine wI hF (fun h9 hF=>?_) (fun h9 hF=>?_)
 ·refine wW ?_
  refine wB ?_
  obtain⟨g,hF⟩:=Rz g hF
  refine wK [0,1,2,3,4,11,12,13] ?_
  obtain⟨g,hF⟩:=Rz g hF
  refine wC hF [.sh,.sh] zkr (fun z10 hF=>?_)
  obtain⟨g,hF⟩:=Rz g hF
  refine wK [0,1,2,3,4,11,12,13] ?_
  exact wT (hg7 _) (zaa hF)
 cases ho6 _ (zaa hF)
 exact wT (hj1 _) hψ8
def zfV (a0:Group) (a1:Int):Option Int:=
 (zam a0 a1 (-1)).bind fun z1=>
 some z1
theorem zm6:∀{a0}{a1}{r},zfV a0 a1=some r→PCalls Tryz.prog 159 [(.sh,vE a0),(.sh,.int .i64 a1)] (Eo (.int .i64 r) [.junk,.junk]):=by
 intro a0 a1 r hr
 apply pF 8 [] [] [] [.tmp 4] hr zAY Tryz.func159
 intro Φ hΦ hF g
 unfold zfV at hF
 refine wW ?_
 refine wC hF [.sh,.sh,.sh] zaI (fun z1 hF=>?_)
 exact wl hΦ hF
@[go_sem] def zzI:List DE:=[d2 0 [3] 3 3,d0 1 [1],d2 2 [3] 3 3,d0 3 [2],d3 4 [9,10],d0 5 [8,11],⟨6,[7,12],[],none,true,true,true⟩,d0 7 [13]]
def zey (a0:Group) (a1:Int) (a2:Int):Option Int:=
 (zfV a0 a2).bind fun z1=>
 (zaz a0 [a1,z1]).bind fun z2=>
 some z2
theorem zmc:∀{a0}{a1}{a2}{r},zey a0 a1 a2=some r→PCalls Tryz.prog 117 [(.sh,vE a0),(.sh,.int .i64 a1),(.sh,.int .i64 a2)] (Eo (.int .i64 r) [.junk,.junk,.junk]):=by
 intro a0 a1 a2 r hr
 apply pF 14 [] [] [] [.tmp 6] hr zA9 Tryz.func117
 intro Φ hΦ hF g
 unfold zey at hF
 refine wW ?_
 refine wX zzI follows ?_
 refine wC hF [.sh,.sh] zm6 (fun z1 hF=>?_)
 refine wC hF [.sh,.sh] zbd (fun z2 hF=>?_)
 refine wK [6] ?_
 exact wm hΦ hF
@[go_sem] def zyI:List DE:=[d1 0 [11] 11,d1 1 [113] 11,d2 2 [114] 11 114,d1 3 [11] 11,d1 4 [116] 11,d2 5 [117] 11 117,d0 6 [118],d0 7 [119],d0 8 [115],d1 9 [120] 120]
@[go_sem] def zy8:List DE:=[d0 0 [34],d0 1 [22],d0 2 [35],d0 3 [162,163],d0 4 [164],d0 5 [6],d0 6 [6],d1 7 [11] 11,d2 8 [168] 11 168,d0 9 [35],d0 10 [169,170],d0 11 [171],d0 12 [17],d1 14 [11] 11,d2 15 [175] 11 175,d0 16 [35],d0 17 [176,177],d0 18 [178],d0 19 [6],d0 20 [6],d0 21 [181],d0 22 [18],d0 23 [183],d0 27 [6],d2 28 [7] 7 7,d0 29 [24],d0 30 [35],d0 31 [190,191],d0 32 [192],d0 33 [25],d0 34 [35],d0 35 [194,195],d0 36 [196],⟨13,[167,172,173],[],none,false,true,false⟩,⟨24,[180,182,184],[],none,false,true,false⟩,d0 25 [174,179,185],⟨26,[166,186],[],none,true,true,false⟩,⟨37,[188,189,193,197],[],none,false,true,false⟩,d3 38 [161,165,187,198]]
@[go_sem] def zzC:List DE:=[d0 0 [34],d0 1 [22],d0 2 [13],d0 3 [35],d0 4 [202,203],d0 5 [201,204],d0 6 [205],d1 7 [11] 11,d2 8 [207] 11 207,d0 9 [35],d0 10 [208,209],d0 11 [210],d0 12 [6],d0 13 [6],d0 14 [31],d0 15 [35],d0 16 [214,215],d0 17 [216],d0 18 [24],d0 19 [35],d0 20 [218,219],d0 21 [220],d0 23 [6],d1 24 [7] 7,d2 25 [224] 7 224,d0 26 [26],d0 27 [35],d0 28 [226,227],d0 29 [228],⟨22,[213,217,221],[],none,false,true,false⟩,⟨30,[223,225,229],[],none,false,true,false⟩,d0 31 [222,230],⟨32,[212,231],[],none,true,true,false⟩,d3 33 [200,206,211,232]]
@[go_sem] def zzX:List DE:=[d0 0 [34],d0 1 [22],d0 2 [13],d0 3 [236],d0 4 [237],d0 5 [35],d0 6 [238,239],d0 7 [235,240],d0 8 [241],d1 9 [11] 11,d2 10 [243] 11 243,d0 11 [35],d0 12 [244,245],d0 13 [246],d0 14 [6],d2 15 [7] 7 7,d0 16 [28],d0 17 [35],d0 18 [250,251],d0 19 [252],d0 20 [29],d0 21 [35],d0 22 [254,255],d0 23 [256],⟨24,[248,249,253,257],[],none,false,true,false⟩,d3 25 [234,242,247,258]]
@[go_sem] def zyL:List DE:=[d0 0 [34],d0 1 [22],d0 2 [13],d0 3 [263],d0 4 [262,264],d0 5 [265],d0 6 [6],d1 7 [11] 11,d2 8 [268] 11 268,d0 9 [13],d0 10 [270],d0 11 [269,271],d0 12 [272],d0 13 [6],d0 14 [6],d0 15 [275],d0 16 [6],d0 17 [277],d0 18 [13],d0 19 [14],d0 20 [17],d0 21 [18],d0 25 [6],d1 26 [7] 7,d2 27 [287] 7 287,d0 28 [27],⟨22,[278,279,280,281,282],[],none,false,true,false⟩,⟨23,[274,276,283],[],none,false,true,false⟩,⟨24,[267,273,284],[],none,false,true,false⟩,⟨29,[286,288,289],[],none,false,true,false⟩,d3 30 [261,266,285,290]]
@[go_sem] def zze:List DE:=[d0 0 [34],d0 1 [22],d0 2 [13],d0 3 [304],d0 4 [305],d0 5 [303,306],d0 6 [307],d0 7 [6],d0 8 [36],d0 9 [32],d0 11 [6],d0 12 [6],d0 13 [6],d0 14 [315],d0 15 [30],d0 16 [317],d0 18 [6],d0 19 [38],d0 20 [28],⟨10,[309,310,311],[],none,false,true,false⟩,⟨17,[314,316,318],[],none,false,true,false⟩,⟨21,[320,321,322],[],none,false,true,false⟩,d0 22 [319,323],⟨23,[313,324],[],none,true,true,false⟩,d3 24 [302,308,312,325]]
@[go_sem] def zyt:List DE:=[d0 0 [34],d0 1 [22],d0 2 [13],d0 3 [329],d0 4 [330],d0 5 [328,331],d0 6 [332],d0 7 [6],d0 8 [37],d0 9 [32],d0 11 [6],d0 12 [6],d0 13 [2],d0 14 [30],d0 15 [341],d0 17 [6],d0 18 [39],d0 19 [28],⟨10,[334,335,336],[],none,false,true,false⟩,⟨16,[339,340,342],[],none,false,true,false⟩,⟨20,[344,345,346],[],none,false,true,false⟩,d0 21 [343,347],⟨22,[338,348],[],none,true,true,false⟩,d3 23 [327,333,337,349]]
@[go_sem] def zAX:List DE:=[d2 0 [6] 6 6,d0 1 [2],d0 2 [3],d0 3 [4],d1 4 [11] 11,d2 5 [58] 11 58,d3 6 [55,56,57,59],d3 7 [54,60],d0 8 [61],d0 9 [53],d0 10 [53],d0 11 [62],d0 12 [63]]
@[go_sem] def zCF:List DE:=[d0 0 [2],d0 1 [3],d0 2 [4],d1 3 [11] 11,d2 4 [67] 11 67,d1 6 [11] 11,d2 7 [70] 11 70,d3 5 [68],d0 8 [69,71],d3 9 [64,65,66,72],d0 10 [73]]
@[go_sem] def zCa:List DE:=[d2 0 [6] 6 6,d0 1 [16],d1 2 [11] 11,d2 3 [84] 11 84,d1 4 [11] 11,d1 5 [86] 11,d2 6 [87] 11 87,d0 7 [83,85,88],d0 13 [],⟨8,[89],[],none,true,true,true⟩,d3 9 [82,90],d0 10 [91],d0 11 [81],d0 12 [81],d2 14 [20,92] 20 20,d0 15 [93]]
@[go_sem] def zC0:List DE:=[d0 0 [15],d0 1 [94],d0 2 [95],d0 3 [19,96],d0 4 [97,96],d0 5 [96,98],d0 6 [99],d0 7 [21,100],d0 8 [101,100],d0 9 [100,102],d0 10 [103],d1 11 [11,104] 11,d1 12 [105,104] 11,d2 13 [106,104] 11 106,d0 14 [107,104],d0 15 [108,104],d2 16 [20,104] 20 20,d0 17 [109,110,104],d0 18 [104,111]]
def zbX (a0:Group) (a1:Bases) (a2:Int) (a3:List Cipher) (a4:List Cipher) (a5:PolyProof):Option Bool:=
 ((if((a4.length:Int) !=(a3.length:Int))=true then(
 some true)else(
 (zc1 a0 a5 (a3.length:Int)).bind fun z5=>
 some (!z5)):Option Bool).bind fun x3=>
 if x3=true then(
 some false)else(
 (zcg a2 a3 a4 a5.Places).bind fun z7=>
 (zaJ a0 (⟨#[109,105,120,32,120]⟩:ByteArray) z7).bind fun z8=>
 (zcr a5.Places).bind fun z9=>
 gd ((z9.length+a5.Powers.length)*8≤140737488355328∧z9.length+a5.Powers.length≤4611686018427387904)<|
 (zcg a2 a3 a4 (z9++a5.Powers)).bind fun z10=>
 (zb9 a0 z10).bind fun z11=>
 (zbk [z10,a5.Chain,a5.Pi.Commits]).bind fun z12=>
 (zaJ a0 (⟨#[109,105,120,32,101,110,100]⟩:ByteArray) z12).bind fun z13=>
 ((if(!z8.2)=true then(
 some true)else(
 if(!z11.2.2)=true then(
 some true)else(
 if(!z13.2)=true then(
 some true)else(
 (ix a5.Pi.Challenges 0).bind fun x20=>
 some (x20 !=z13.1)))):Option Bool).bind fun x16=>
 if x16=true then(
 some false)else(
 (zau a5.Pi.Responses (a3.length:Int)).bind fun z22=>
 (zau z22.2 (a3.length:Int)).bind fun z23=>
 (zau z23.2 (a3.length:Int)).bind fun z24=>
 (zbQ z24.2).bind fun z25=>
 (zau z25.2 (a3.length:Int)).bind fun z26=>
 (zau z26.2 (a3.length:Int)).bind fun z27=>
 (zbQ z27.2).bind fun z28=>
 gd (([a0.G].length+a5.Chain.length)*8≤140737488355328∧[a0.G].length+a5.Chain.length≤4611686018427387904)<|
 (some ([a0.G]++a5.Chain)).bind fun x29=>
 ((zap (σ:=(List Int)×Bool) (fun i66 s65=>
 (zbE z8.1 (i64.wrap (i66+1)) a0.Q).bind fun z72=>
 gd ((s65.1.length+1)*8≤140737488355328∧s65.1.length+1≤4611686018427387904)<|
 (ix a5.Pi.Commits i66).bind fun x73=>
 (ix a5.Places i66).bind fun x74=>
 (ix a5.Powers i66).bind fun x75=>
 (ix z22.1 i66).bind fun x76=>
 (ix z23.1 i66).bind fun x77=>
 (zam a0 x74 z11.1).bind fun z78=>
 (zam a0 a0.G (i64.wrap (0-z11.2.1))).bind fun z79=>
 (zaz a0 [z78,x75,z79]).bind fun z80=>
 (zaS a0 a1 x76 x77).bind fun z81=>
 (zax x73 z80 z81 s65.2 a0.P a0.Q a0.G z13.1).bind fun z82=>
 (ix a5.Pi.Commits (i64.wrap ((a3.length:Int)+i66))).bind fun x83=>
 (ix a5.Chain i66).bind fun x84=>
 (ix x29 i66).bind fun x85=>
 (ix z24.1 i66).bind fun x86=>
 (zam a0 x85 x76).bind fun z87=>
 (zam a0 a1.H x86).bind fun z88=>
 (zaz a0 [z87,z88]).bind fun z89=>
 (zax x83 x84 z89 z82 a0.P a0.Q a0.G z13.1).bind fun z90=>
 (ix a5.Pi.Commits (i64.wrap ((i64.wrap ((i64.wrap (2*(a3.length:Int)))+1))+i66))).bind fun x91=>
 (ix z26.1 i66).bind fun x92=>
 (ix z27.1 i66).bind fun x93=>
 (zaS a0 a1 x92 x93).bind fun z94=>
 (zax x91 x75 z94 z90 a0.P a0.Q a0.G z13.1).bind fun z95=>
 some (.go (s65.1++[z72],z95))) (fun s65=>(s65.1,s65.2)) (a3.length) 0 ([],true):Option ((List Int×Bool))).bind fun x33=>
 (ix a5.Pi.Commits (i64.wrap (2*(a3.length:Int)))).bind fun x100=>
 (ix a5.Chain (i64.wrap ((a3.length:Int)-1))).bind fun x101=>
 (zcU a0.Q (a3.length:Int) z8.1 z11.1 z11.2.1).bind fun z102=>
 (zam a0 a0.G z102).bind fun z103=>
 (zey a0 x101 z103).bind fun z104=>
 (zam a0 a1.H z25.1).bind fun z105=>
 (zax x100 z104 z105 x33.2 a0.P a0.Q a0.G z13.1).bind fun z106=>
 (zeN a3).bind fun z107=>
 (zeN a4).bind fun z108=>
 (ix a5.Pi.Commits (i64.wrap ((i64.wrap (3*(a3.length:Int)))+1))).bind fun x109=>
 (zby a0 z107.1 x33.1).bind fun z110=>
 (zam a0 a0.G (i64.wrap (0-z28.1))).bind fun z111=>
 (zby a0 z108.1 z26.1).bind fun z112=>
 (zaz a0 [z111,z112]).bind fun z113=>
 (zax x109 z110 z113 z106 a0.P a0.Q a0.G z13.1).bind fun z114=>
 (ix a5.Pi.Commits (i64.wrap ((i64.wrap (3*(a3.length:Int)))+2))).bind fun x115=>
 (zby a0 z107.2 x33.1).bind fun z116=>
 (zam a0 a2 (i64.wrap (0-z28.1))).bind fun z117=>
 (zby a0 z108.2 z26.1).bind fun z118=>
 (zaz a0 [z117,z118]).bind fun z119=>
 (zax x115 z116 z119 z114 a0.P a0.Q a0.G z13.1).bind fun z120=>
 some z120)))))
set_option maxHeartbeats 1000000 in
theorem zjb:∀{a0}{a1}{a2}{a3}{a4}{a5}{r},zbX a0 a1 a2 a3 a4 a5=some r→PCalls Tryz.prog 44 [(.sh,vE a0),(.sh,vJ a1),(.sh,.int .i64 a2),(.sh,vH a3),(.sh,vH a4),(.sh,vL a5)] (Eo (.bool r) [.junk,.junk,.junk,.junk,.junk,.junk]):=by
 intro a0 a1 a2 a3 a4 a5 r hr
 apply pF 352 [] [727,738,1145,1555,1881] [33,1000000] [.tmp 12] hr zIb Tryz.func44
 intro Φ hΦ hF g
 unfold zbX at hF
 iterate 2 (try simp[go_sem,g];try intros;refine zaD ?_)
 refine wJ hF (fun x3=>[(2,.v (.int .i64 a2)),(3,.v (vH a3)),(4,.v (vH a4)),(6,.bl [.int .i64 a0.P,.int .i64 a0.Q,.int .i64 a0.G]),(7,.bl [.int .i64 a1.H,vC a1.Hs]),(11,.bl [vC a5.Places,vC a5.Powers,vC a5.Chain,vC a5.Pi.Commits,vC a5.Pi.Challenges,vC a5.Pi.Responses]),(13,.v (.int .i64 (a3.length:Int))),(52,.v (.bool x3))]) (fun x3 hF=>?_) fun _ hj1 hF=>?_
 ·refine wI hF (fun h6 hF=>?_) (fun h6 hF=>?_)
  ·exact wl hΦ hF
  refine wW ?_
  refine wX zAX follows ?_
  refine wC hF [.sh,.sh,.sh,.sh] zeJ (fun z7 hF=>?_)
  refine wC hF [.sh,.sh,.sh] zb6 (fun z8 hF=>?_)
  refine wK [2,3,4,6,7,11,13,14,15] ?_
  refine wX zCF follows ?_
  refine wC hF [.sh] zfj (fun z9 hF=>?_)
  obtain⟨g,hF⟩:=Rg g hF
  refine wC hF [.sh,.sh,.sh,.sh] zeJ (fun z10 hF=>?_)
  refine wK [2,3,4,6,7,11,13,14,15,16] ?_
  refine wC hF [.sh,.sh] zgd (fun z11 hF=>?_)
  refine wK [2,3,4,6,7,11,13,14,15,16,17,18,19] ?_
  refine wX zCa follows ?_
  refine wC hF [.sh] zeX (fun z12 hF=>?_)
  refine wC hF [.sh,.sh,.sh] zb6 (fun z13 hF=>?_)
  refine wK [2,3,4,6,7,11,13,14,15,17,18,19,20,21] ?_
  refine wJ hF (fun x16=>[(2,.v (.int .i64 a2)),(3,.v (vH a3)),(4,.v (vH a4)),(6,.bl [.int .i64 a0.P,.int .i64 a0.Q,.int .i64 a0.G]),(7,.bl [.int .i64 a1.H,vC a1.Hs]),(11,.bl [vC a5.Places,vC a5.Powers,vC a5.Chain,vC a5.Pi.Commits,vC a5.Pi.Challenges,vC a5.Pi.Responses]),(13,.v (.int .i64 (a3.length:Int))),(14,.v (.int .i64 z8.1)),(17,.v (.int .i64 z11.1)),(18,.v (.int .i64 z11.2.1)),(20,.bl [.int .i64 z13.1]),(112,.v (.bool x16))]) (fun x16 hF=>?_) fun _ hj14 hF=>?_
  ·refine wI hF (fun h21 hF=>?_) (fun h21 hF=>?_)
   ·exact wl hΦ hF
   refine wW ?_
   refine wX zyI follows ?_
   refine wK [2,3,4,6,7,11,13,14,17,18,20,22,23,120] ?_
   refine wC hF [.io,.sh] zaK (fun z22 hF=>?_)
   refine wC hF [.io,.sh] zaK (fun z23 hF=>?_)
   refine wC hF [.io,.sh] zaK (fun z24 hF=>?_)
   refine wK [2,3,4,6,7,11,13,14,17,18,20,22,23,24,25,26,120] ?_
   refine wC hF [.io] zep (fun z25 hF=>?_)
   refine wW ?_
   refine wC hF [.io,.sh] zaK (fun z26 hF=>?_)
   refine wC hF [.io,.sh] zaK (fun z27 hF=>?_)
   refine wK [2,3,4,6,7,11,13,14,17,18,20,22,23,24,25,26,27,28,29,120] ?_
   refine wC hF [.io] zep (fun z28 hF=>?_)
   obtain⟨g,hF⟩:=Rg g hF
   obtain⟨x29,e30,hF⟩:=zeo hF
   have g:=And.intro g (show[.int .i64 a0.G]::(List.map zao a5.Chain)=x29.map zao by injection e30 with e30;rw[←e30];simp[go_sem])
   refine wW ?_
   refine wK [2,3,4,6,7,11,13,14,17,18,20,22,24,25,26,27,28,29,30,31] ?_
   iterate 3 refine wW ?_
   refine wJ hF (fun x33=>[(2,.v (.int .i64 a2)),(3,.v (vH a3)),(4,.v (vH a4)),(6,.v (.fp [.int .i64 a0.P,.int .i64 a0.Q,.int .i64 a0.G])),(7,.bl [.int .i64 a1.H,vC a1.Hs]),(11,.bl [vC a5.Places,vC a5.Powers,vC a5.Chain,vC a5.Pi.Commits,vC a5.Pi.Challenges,vC a5.Pi.Responses]),(13,.v (.int .i64 (a3.length:Int))),(14,.v (.int .i64 z8.1)),(17,.v (.int .i64 z11.1)),(18,.v (.int .i64 z11.2.1)),(22,.v (vC a5.Pi.Commits)),(27,.v (.int .i64 z25.1)),(28,.v (vC z26.1)),(30,.v (.int .i64 z28.1)),(32,.v (vD x33.1)),(33,.v (.bx [.bool x33.2])),(34,.cl 33 116 [.fp [.int .i64 a0.P,.int .i64 a0.Q,.int .i64 a0.G],.fp [.int .i64 z13.1]])]) (fun x33 hF=>?_) fun _ hj31 hF=>?_
   ·refine wX zyL follows ?_
    obtain⟨x100,g,hF⟩:=Rx g hF
    obtain⟨x101,g,hF⟩:=Rx g hF
    refine wD hF zho (fun z102 hF=>?_)
    refine wD hF zaI (fun z103 hF=>?_)
    refine wD hF zmc (fun z104 hF=>?_)
    refine wD hF zaI (fun z105 hF=>?_)
    refine wY hF [.sh,.sh,.sh] zbx (fun z106 hF=>?_)
    refine wK [2,3,4,6,13,22,28,30,32,33,34] ?_
    refine wC hF [.sh] ziU (fun z107 hF=>?_)
    refine wW ?_
    refine wC hF [.sh] ziU (fun z108 hF=>?_)
    refine wK [2,6,13,22,28,30,32,33,34,36,37,38,39] ?_
    refine wX zze follows ?_
    obtain⟨x109,g,hF⟩:=Rx g hF
    refine wD hF zde (fun z110 hF=>?_)
    refine wD hF zaI (fun z111 hF=>?_)
    refine wD hF zde (fun z112 hF=>?_)
    refine wD hF zbd (fun z113 hF=>?_)
    refine wY hF [.sh,.sh,.sh] zbx (fun z114 hF=>?_)
    refine wK [2,6,13,22,28,30,32,33,34,37,39] ?_
    refine wX zyt follows ?_
    obtain⟨x115,g,hF⟩:=Rx g hF
    refine wD hF zde (fun z116 hF=>?_)
    refine wD hF zaI (fun z117 hF=>?_)
    refine wD hF zde (fun z118 hF=>?_)
    refine wD hF zbd (fun z119 hF=>?_)
    refine wY hF [.sh,.sh,.sh] zbx (fun z120 hF=>?_)
    refine wK [33] ?_
    exact wl hΦ hF
   refine wB ?_
   obtain⟨b96,hb97,hψ69⟩:=hF
   refine pR hb97 (fun i66 s65=>[(2,.v (.int .i64 a2)),(3,.v (vH a3)),(4,.v (vH a4)),(6,.v (.fp [.int .i64 a0.P,.int .i64 a0.Q,.int .i64 a0.G])),(7,.bl [.int .i64 a1.H,vC a1.Hs]),(11,.bl [vC a5.Places,vC a5.Powers,vC a5.Chain,vC a5.Pi.Commits,vC a5.Pi.Challenges,vC a5.Pi.Responses]),(13,.v (.int .i64 (a3.length:Int))),(14,.v (.int .i64 z8.1)),(17,.v (.int .i64 z11.1)),(18,.v (.int .i64 z11.2.1)),(22,.v (vC a5.Pi.Commits)),(24,.v (vC z22.1)),(25,.v (vC z23.1)),(26,.v (vC z24.1)),(27,.v (.int .i64 z25.1)),(28,.v (vC z26.1)),(29,.v (vC z27.1)),(30,.v (.int .i64 z28.1)),(31,.v (vD x29)),(32,.v (vD s65.1)),(33,.v (.bx [.bool s65.2])),(34,.cl 33 116 [.fp [.int .i64 a0.P,.int .i64 a0.Q,.int .i64 a0.G],.fp [.int .i64 z13.1]]),(148,.v (.int .i64 (a3.length:Int))),(149,.v (.int .i64 i66))]) (fun s65 _ hN98=>?_) (fun i66 s65 _ _ hi70 hi71 ho67 hg68 hF=>?_)
   ·exact wn hN98 (hj31 _) hψ69
   refine wW ?_
   refine wu hi70 hi71 ?_
   refine wW ?_
   refine wB ?_
   refine wK [2,3,4,6,7,11,13,14,17,18,22,24,25,26,27,28,29,30,31,32,33,34,35,148,149] ?_
   refine wC hF [.sh,.sh,.sh] zfD (fun z72 hF=>?_)
   obtain⟨g,hF⟩:=Rg g hF
   refine wK [2,3,4,6,7,11,13,14,17,18,22,24,25,26,27,28,29,30,31,32,33,34,35,148,149] ?_
   refine wX zy8 follows ?_
   obtain⟨x73,g,hF⟩:=Rx g hF
   obtain⟨x74,g,hF⟩:=Rx g hF
   obtain⟨x75,g,hF⟩:=Rx g hF
   obtain⟨x76,g,hF⟩:=Rx g hF
   obtain⟨x77,g,hF⟩:=Rx g hF
   refine wD hF zaI (fun z78 hF=>?_)
   refine wD hF zaI (fun z79 hF=>?_)
   refine wD hF zbd (fun z80 hF=>?_)
   refine wD hF zcA (fun z81 hF=>?_)
   refine wY hF [.sh,.sh,.sh] zbx (fun z82 hF=>?_)
   refine wK [2,3,4,6,7,11,13,14,17,18,22,24,25,26,27,28,29,30,31,32,33,34,35,148,149] ?_
   refine wX zzC follows ?_
   obtain⟨x83,g,hF⟩:=Rx g hF
   obtain⟨x84,g,hF⟩:=Rx g hF
   obtain⟨x85,g,hF⟩:=Rx g hF
   obtain⟨x86,g,hF⟩:=Rx g hF
   refine wD hF zaI (fun z87 hF=>?_)
   refine wD hF zaI (fun z88 hF=>?_)
   refine wD hF zbd (fun z89 hF=>?_)
   refine wY hF [.sh,.sh,.sh] zbx (fun z90 hF=>?_)
   refine wK [2,3,4,6,7,11,13,14,17,18,22,24,25,26,27,28,29,30,31,32,33,34,35,148,149] ?_
   refine wX zzX follows ?_
   obtain⟨x91,g,hF⟩:=Rx g hF
   obtain⟨x92,g,hF⟩:=Rx g hF
   obtain⟨x93,g,hF⟩:=Rx g hF
   refine wD hF zcA (fun z94 hF=>?_)
   refine wY hF [.sh,.sh,.sh] zbx (fun z95 hF=>?_)
   refine wK [2,3,4,6,7,11,13,14,17,18,22,24,25,26,27,28,29,30,31,32,33,34,148,149] ?_
   exact wi hi70 hi71 (hg68 _) (zaa hF)
  refine wX zC0 follows ?_
  refine wH hF (fun h17 hF=>?_) fun h17 hF=>?_
  ·exact wV h17 (hj14 _) (zaa hF)
  try simp[go_sem,g,h17]
  refine wH hF (fun h18 hF=>?_) fun h18 hF=>?_
  ·exact wV h18 (hj14 _) (zaa hF)
  try simp[go_sem,g,h18]
  refine wH hF (fun h19 hF=>?_) fun h19 hF=>?_
  ·exact wV h19 (hj14 _) (zaa hF)
  obtain⟨x20,g,hF⟩:=Rxn g 0 hF
  exact wV h19 (hj14 _) (zaa hF)
 try simp[go_sem,g]
 try intros
 refine wG hF (fun h4 hF=>?_) fun h4 hF=>?_
 ·exact wV h4 (hj1 _) (zaa hF)
 try simp[go_sem,g,h4]
 refine wC hF [.sh,.sh,.sh] zjf (fun z5 hF=>?_)
 exact wV h4 (hj1 _) (zaa hF)
def zdU (a0:Group) (a1:Int) (a2:List Cipher) (a3:List Cipher) (a4:PolyProof):Option (Bool×Bool):=
 (zcL a0 a1 a2).bind fun z1=>
 ((if(!z1.2)=true then(
 some true)else(
 (zch a0 a3).bind fun z6=>
 some (!z6)):Option Bool).bind fun x4=>
 if x4=true then(
 some (false,false))else(
 (zbX a0 z1.1 a1 a2 a3 a4).bind fun z8=>
 some (z8,true)))
theorem zme:∀{a0}{a1}{a2}{a3}{a4}{r},zdU a0 a1 a2 a3 a4=some r→PCalls Tryz.prog 9 [(.sh,vE a0),(.sh,.int .i64 a1),(.sh,vH a2),(.sh,vH a3),(.sh,vL a4)] (Eo (.tup [.bool r.1,.bool r.2]) [.junk,.junk,.junk,.junk,.junk]):=by
 intro a0 a1 a2 a3 a4 r hr
 apply pF 36 [] [] [] [.tmp 10,.tmp 11] hr cl9 Tryz.func9
 intro Φ hΦ hF g
 unfold zdU at hF
 refine wW ?_
 refine wC hF [.sh,.sh,.sh] ziR (fun z1 hF=>?_)
 refine wK [1,2,3,5,9,12,13] ?_
 refine wJ hF (fun x4=>[(1,.v (.int .i64 a1)),(2,.v (vH a2)),(3,.v (vH a3)),(5,.bl [.int .i64 a0.P,.int .i64 a0.Q,.int .i64 a0.G]),(9,.bl [vC a4.Places,vC a4.Powers,vC a4.Chain,vC a4.Pi.Commits,vC a4.Pi.Challenges,vC a4.Pi.Responses]),(12,.bl [.int .i64 z1.1.H,vD z1.1.Hs]),(28,.v (.bool x4))]) (fun x4 hF=>?_) fun _ hj2 hF=>?_
 ·refine wI hF (fun h7 hF=>?_) (fun h7 hF=>?_)
  ·exact wl hΦ hF
  refine wW ?_
  refine wC hF [.sh,.sh,.sh,.sh,.sh,.sh] zjb (fun z8 hF=>?_)
  exact wl hΦ hF
 refine wG hF (fun h5 hF=>?_) fun h5 hF=>?_
 ·exact wV h5 (hj2 _) (zaa hF)
 try simp[go_sem,g,h5]
 refine wC hF [.sh,.sh] zfz (fun z6 hF=>?_)
 exact wV h5 (hj2 _) (zaa hF)
def zf0 (a0:Group) (a1:Int) (a2:PolyProof):Option Bool:=
 ((if((a2.Places.length:Int)==a1)=true then(
 if((a2.Powers.length:Int)==a1)=true then(
 if((a2.Chain.length:Int)==a1)=true then(
 if((a2.Pi.Commits.length:Int)==(i64.wrap ((i64.wrap (3*a1))+3)))=true then(
 if((a2.Pi.Challenges.length:Int)==1)=true then(
 if((a2.Pi.Responses.length:Int)==(i64.wrap ((i64.wrap (5*a1))+2)))=true then(
 (zdL a0 a2.Places).bind fun z10=>
 if z10=true then(
 (zdL a0 a2.Powers).bind fun z12=>
 if z12=true then(
 (zdL a0 a2.Chain).bind fun z14=>
 if z14=true then(
 (zdL a0 a2.Pi.Commits).bind fun z16=>
 if z16=true then(
 (zen a0 a2.Pi.Responses).bind fun z18=>
 some z18)else(
 some false))else(
 some false))else(
 some false))else(
 some false))else(
 some false))else(
 some false))else(
 some false))else(
 some false))else(
 some false))else(
 some false):Option Bool).bind fun x3=>
 some x3)
theorem zo3:∀{a0}{a1}{a2}{r},zf0 a0 a1 a2=some r→PCalls Tryz.prog 118 [(.sh,vE a0),(.sh,.int .i64 a1),(.sh,vL a2)] (Eo (.bool r) [.junk,.junk,.junk]):=by
 intro a0 a1 a2 r hr
 apply pF 85 [] [] [] [.tmp 6] hr zDr Tryz.func118
 intro Φ hΦ hF g
 unfold zf0 at hF
 refine wW ?_
 refine wJ hF (fun x3=>[(6,.v (.bool x3))]) (fun x3 hF=>?_) fun _ hj1 hF=>?_
 ·exact wm hΦ hF
 try simp[go_sem,g]
 try intros
 refine wG hF (fun h4 hF=>?_) fun h4 hF=>?_
 ·try simp[go_sem,g,h4]
  try intros
  refine wG hF (fun h5 hF=>?_) fun h5 hF=>?_
  ·try simp[go_sem,g,h5]
   try intros
   refine wG hF (fun h6 hF=>?_) fun h6 hF=>?_
   ·try simp[go_sem,g,h6]
    try intros
    refine wG hF (fun h7 hF=>?_) fun h7 hF=>?_
    ·try simp[go_sem,g,h7]
     try intros
     refine wG hF (fun h8 hF=>?_) fun h8 hF=>?_
     ·try simp[go_sem,g,h8]
      try intros
      refine wG hF (fun h9 hF=>?_) fun h9 hF=>?_
      ·try simp[go_sem,g,h9]
       refine wC hF [.sh,.sh] zgD (fun z10 hF=>?_)
       try simp[go_sem,g,h9]
       refine wG hF (fun h11 hF=>?_) fun h11 hF=>?_
       ·try simp[go_sem,g,h11]
        refine wC hF [.sh,.sh] zgD (fun z12 hF=>?_)
        try simp[go_sem,g,h11]
        refine wG hF (fun h13 hF=>?_) fun h13 hF=>?_
        ·try simp[go_sem,g,h13]
         refine wC hF [.sh,.sh] zgD (fun z14 hF=>?_)
         try simp[go_sem,g,h13]
         refine wG hF (fun h15 hF=>?_) fun h15 hF=>?_
         ·try simp[go_sem,g,h15]
          refine wC hF [.sh,.sh] zgD (fun z16 hF=>?_)
          try simp[go_sem,g,h15]
          refine wG hF (fun h17 hF=>?_) fun h17 hF=>?_
          ·try simp[go_sem,g,h17]
           refine wC hF [.sh,.sh] zhn (fun z18 hF=>?_)
           exact wV h17 (hj1 _) (zaa hF)
          exact wV h17 (hj1 _) (zaa hF)
         exact wV h15 (hj1 _) (zaa hF)
        exact wV h13 (hj1 _) (zaa hF)
       exact wV h11 (hj1 _) (zaa hF)
      exact wV h9 (hj1 _) (zaa hF)
     exact wV h8 (hj1 _) (zaa hF)
    exact wV h7 (hj1 _) (zaa hF)
   exact wV h6 (hj1 _) (zaa hF)
  exact wV h5 (hj1 _) (zaa hF)
 exact wV h4 (hj1 _) (zaa hF)
def zfx (a0:Int) (a1:Int) (a2:Int) (a3:Int) (a4:Int):Option Int:=
 gd (a0≠0)<|
 ((zbo (σ:=Int×Int×Int) (fun s4=>
 if decide (s4.2.2≤a1)=true then(
 gd (a0≠0)<|
 gd (a0≠0)<|
 (zcu (i64.wrap ((i64.wrap ((i64.wrap (a3*(s4.2.2.tmod a0)))+((i64.wrap (s4.2.1*a2)).tmod a0)))-a4)) a0).bind fun z10=>
 gd (a0≠0)<|
 some (.go ((i64.wrap (s4.1*z10)).tmod a0,(i64.wrap (s4.2.1*a2)).tmod a0,i64.wrap (s4.2.2+1))))else(
 some (.out s4.1))) ((1:Int).tmod a0,1,1):Option Int).bind fun x3=>
 some x3)
theorem zn5:∀{a0}{a1}{a2}{a3}{a4}{r},zfx a0 a1 a2 a3 a4=some r→PCalls Tryz.prog 119 [(.sh,.int .i64 a0),(.sh,.int .i64 a1),(.sh,.int .i64 a2),(.sh,.int .i64 a3),(.sh,.int .i64 a4)] (Eo (.int .i64 r) [.junk,.junk,.junk,.junk,.junk]):=by
 intro a0 a1 a2 a3 a4 r hr
 apply pF 42 [] [] [] [.tmp 10] hr zBL Tryz.func119
 intro Φ hΦ hF g
 unfold zfx at hF
 obtain⟨g,hF⟩:=Rz g hF
 iterate 3 refine wW ?_
 refine wJ hF (fun x3=>[(11,.v (.int .i64 x3))]) (fun x3 hF=>?_) fun _ hj1 hF=>?_
 ·exact wl hΦ hF
 refine wB ?_
 obtain⟨b11,hb12,hψ8⟩:=hF
 refine pL hb12 (fun s4=>[(0,.v (.int .i64 a0)),(1,.v (.int .i64 a1)),(2,.v (.int .i64 a2)),(3,.v (.int .i64 a3)),(4,.v (.int .i64 a4)),(11,.v (.int .i64 s4.1)),(12,.v (.int .i64 s4.2.1)),(13,.v (.int .i64 s4.2.2))]) (fun s4 _ _ ho6 hg7 hF=>?_)
 refine wW ?_
 refine wI hF (fun h9 hF=>?_) (fun h9 hF=>?_)
 ·refine wW ?_
  refine wB ?_
  obtain⟨g,hF⟩:=Rz g hF
  refine wK [0,1,2,3,4,11,12,13] ?_
  obtain⟨g,hF⟩:=Rz g hF
  refine wC hF [.sh,.sh] zgO (fun z10 hF=>?_)
  obtain⟨g,hF⟩:=Rz g hF
  refine wK [0,1,2,3,4,11,12,13] ?_
  exact wT (hg7 _) (zaa hF)
 cases ho6 _ (zaa hF)
 exact wT (hj1 _) hψ8
def zfy (a0:Group) (a1:Int) (a2:Int):Option ((List Int)):=
 ((zbo (σ:=(List Int)×Int) (fun s4=>
 if decide (s4.2≤a1)=true then(
 (za6 a2 s4.2 a0.Q).bind fun z10=>
 gd ((s4.1.length+1)*8≤140737488355328∧s4.1.length+1≤4611686018427387904)<|
 some (.go (s4.1++[z10],i64.wrap (s4.2+1))))else(
 some (.out s4.1))) ([],1):Option ((List Int))).bind fun x3=>
 some x3)
theorem zk4:∀{a0}{a1}{a2}{r},zfy a0 a1 a2=some r→PCalls Tryz.prog 120 [(.sh,vE a0),(.sh,.int .i64 a1),(.sh,.int .i64 a2)] (Eo (vD r) [.junk,.junk,.junk]):=by
 intro a0 a1 a2 r hr
 apply pF 23 [] [] [] [.tmp 6] hr zCK Tryz.func120
 intro Φ hΦ hF g
 unfold zfy at hF
 iterate 3 refine wW ?_
 refine wJ hF (fun x3=>[(7,.v (vD x3))]) (fun x3 hF=>?_) fun _ hj1 hF=>?_
 ·exact wl hΦ hF
 refine wB ?_
 obtain⟨b11,hb12,hψ8⟩:=hF
 refine pL hb12 (fun s4=>[(1,.v (.int .i64 a1)),(2,.v (.int .i64 a2)),(3,.bl [.int .i64 a0.P,.int .i64 a0.Q,.int .i64 a0.G]),(7,.v (vD s4.1)),(8,.v (.int .i64 s4.2))]) (fun s4 _ _ ho6 hg7 hF=>?_)
 refine wW ?_
 refine wI hF (fun h9 hF=>?_) (fun h9 hF=>?_)
 ·refine wW ?_
  refine wB ?_
  refine wC hF [.sh,.sh,.sh] zdX (fun z10 hF=>?_)
  obtain⟨g,hF⟩:=Rg g hF
  refine wK [1,2,3,7,8] ?_
  exact wT (hg7 _) (zaa hF)
 cases ho6 _ (zaa hF)
 exact wT (hj1 _) hψ8
@[go_sem] def zyO:List DE:=[d0 0 [21],d2 1 [6] 6 6,d2 2 [6] 6 6,d1 3 [11] 11,d2 4 [110] 11 110,d0 5 [23],d0 6 [111,112],d0 7 [113],d0 8 [17],d1 10 [11] 11,d2 11 [117] 11 117,d0 12 [23],d0 13 [118,119],d0 14 [120],d2 15 [6] 6 6,d1 16 [6] 6,d2 17 [123] 6 123,d0 18 [18],d0 19 [125],⟨9,[109,114,115],[],none,false,true,false⟩,⟨20,[122,124,126],[],none,false,true,false⟩,d0 21 [116,121,127],⟨22,[108,128],[],none,true,true,true⟩,d0 23 [129],⟨24,[107,130],[],none,true,false,false⟩,d0 25 [131]]
@[go_sem] def zzd:List DE:=[d0 0 [22],d2 1 [6] 6 6,d0 2 [2],d0 3 [15],d0 4 [23],d0 5 [135,136],d0 6 [137],d0 7 [15],d0 8 [13],d0 9 [23],d0 10 [140,141],d0 11 [139,142],d0 12 [143],d3 13 [133,134,138,144],d0 14 [145],⟨15,[132,146],[],none,true,false,false⟩,d0 16 [147]]
@[go_sem] def zBp:List DE:=[d0 0 [4],d0 1 [35],d0 2 [13],d0 3 [36,37],d0 4 [38],d2 5 [6,39] 6 6,d0 6 [13,39],d2 7 [11,39] 11 11,d3 8 [40,41,42,39],d0 9 [43,39],d0 10 [39,44],d0 11 [45],d1 12 [11,46] 11,d1 13 [47,46] 11,d2 14 [48,46] 11 48,d0 15 [49,46],d0 16 [50,46],d2 17 [6,46] 6 6,d0 18 [1,46],d0 19 [3,46],d0 20 [4,46],d2 21 [11,46] 11 11,⟨22,[52,53,54,55,56,46],[],none,false,true,false⟩,d0 23 [51,57,46],d0 24 [46,58]]
@[go_sem] def zyY:List DE:=[d0 0 [22],d2 1 [6] 6 6,d2 2 [6] 6 6,d0 3 [24],d0 4 [15],d0 5 [25],d0 6 [167,168],d0 7 [169],d2 9 [6] 6 6,d0 10 [2],d0 11 [15],d0 12 [13],d0 13 [175],d0 14 [25],d0 15 [176,177],d0 16 [174,178],d0 17 [179],⟨8,[165,166,170],[],none,false,true,false⟩,d3 18 [172,173,180],d0 19 [171,181],⟨20,[164,182],[],none,true,true,true⟩,d0 21 [183],⟨22,[163,184],[],none,true,false,false⟩,d0 23 [185]]
@[go_sem] def zzU:List DE:=[d0 0 [21],d2 1 [6] 6 6,d1 2 [11] 11,d2 3 [193] 11 193,d0 4 [13],d0 5 [195],d0 6 [194,196],d0 7 [197],d2 8 [6] 6 6,d1 9 [6] 6,d2 10 [200] 6 200,d1 11 [6] 6,d2 12 [202] 6 202,d0 13 [13],d0 14 [16],d0 15 [17],d0 16 [18],⟨17,[203,204,205,206,207],[],none,false,true,false⟩,d0 18 [208],⟨19,[199,201,209],[],none,false,true,false⟩,d0 20 [198,210],⟨21,[192,211],[],none,true,true,true⟩,d0 22 [212],⟨23,[191,213],[],none,true,false,false⟩,d0 24 [214]]
@[go_sem] def zzL:List DE:=[d0 0 [22],d2 1 [6] 6 6,d0 2 [2],d0 3 [15],d0 4 [13],d0 5 [219],d0 6 [218,220],d0 7 [221],d3 8 [216,217,222],d0 9 [223],⟨10,[215,224],[],none,true,false,false⟩,d0 11 [225]]
@[go_sem] def zyB:List DE:=[d0 0 [22],d2 1 [6] 6 6,d0 2 [2],d0 3 [19],d0 4 [26],d0 5 [242,243],d0 6 [244],d0 7 [15],d0 8 [13],d0 9 [247],d0 10 [248],d0 11 [26],d0 12 [249,250],d0 13 [246,251],d0 14 [252],d3 15 [240,241,245,253],d0 16 [254],⟨17,[239,255],[],none,true,false,false⟩,d0 18 [256]]
@[go_sem] def zyN:List DE:=[d0 0 [21],d2 1 [6] 6 6,d0 2 [27],d2 3 [6] 6 6,d0 4 [13],d0 5 [16],d2 8 [6] 6 6,d0 9 [28],d2 10 [6] 6 6,d0 11 [13],d0 12 [16],d3 6 [270,271,272],d3 7 [268,269,273],d3 13 [277,278,279],d3 14 [275,276,280],d0 15 [274,281],⟨16,[267,282],[],none,true,false,false⟩,d0 17 [283]]
@[go_sem] def zz7:List DE:=[d0 0 [22],d2 1 [6] 6 6,d2 2 [6] 6 6,d1 3 [6] 6,d2 4 [287] 6 287,d0 5 [20],d0 6 [289],d2 8 [6] 6 6,d0 9 [29],d0 10 [19],d2 14 [6] 6 6,d2 15 [6] 6 6,d0 16 [1],d0 17 [20],d0 18 [301],d2 20 [6] 6 6,d0 21 [30],d0 22 [19],d3 7 [286,288,290],d3 11 [292,293,294],d0 12 [291,295],⟨13,[285,296],[],none,true,true,true⟩,d3 19 [299,300,302],d3 23 [304,305,306],d0 24 [303,307],⟨25,[298,308],[],none,true,true,true⟩,d0 26 [297,309],⟨27,[284,310],[],none,true,false,false⟩,d0 28 [311]]
@[go_sem] def zzM:List DE:=[d2 0 [6] 6 6,d0 1 [32],d2 2 [6] 6 6,d0 3 [21],d0 4 [31],d0 5 [324,325],d0 6 [326],d0 7 [14],d0 11 [22],d0 12 [31],d0 13 [332,333],d0 14 [334],⟨8,[323,327,328],[],none,false,true,false⟩,d0 9 [322,329],⟨10,[321,330],[],none,true,true,false⟩,d0 15 [331,335]]
@[go_sem] def zBM:List DE:=[d2 0 [6] 6 6,d0 1 [1],d0 2 [3],d0 3 [4],d1 4 [11] 11,d2 5 [72] 11 72,d3 6 [69,70,71,73],d3 7 [68,74],d0 8 [75]]
def zef (a0:Group) (a1:Int) (a2:Int) (a3:List Cipher) (a4:List Cipher) (a5:PolyProof):Option Bool:=
 ((if((a4.length:Int) !=(a3.length:Int))=true then(
 some true)else(
 (zf0 a0 (a3.length:Int) a5).bind fun z5=>
 if(!z5)=true then(
 some true)else(
 (ix a5.Pi.Challenges 0).bind fun x7=>
 (zeH a0 a1 a3 a4 a5).bind fun z8=>
 some (x7 !=z8))):Option Bool).bind fun x3=>
 if x3=true then(
 some false)else(
 (ix a5.Pi.Challenges 0).bind fun x10=>
 (zdw a1 a3 a4 a5.Places).bind fun z11=>
 (zbD a0 (⟨#[109,105,120,32,120]⟩:ByteArray) z11).bind fun z12=>
 (zdA a0 a1 a3 a4 a5.Places a5.Powers).bind fun z13=>
 gd (0≤(i64.wrap ((i64.wrap (3*(a3.length:Int)))+1)))<|
 gd (0≤(i64.wrap ((i64.wrap (4*(a3.length:Int)))+1)))<|
 gd ((i64.wrap ((i64.wrap (3*(a3.length:Int)))+1)).toNat≤(i64.wrap ((i64.wrap (4*(a3.length:Int)))+1)).toNat∧(i64.wrap ((i64.wrap (4*(a3.length:Int)))+1)).toNat≤a5.Pi.Responses.length)<|
 (ix a5.Pi.Responses (i64.wrap ((i64.wrap (5*(a3.length:Int)))+1))).bind fun x14=>
 ((zbo (σ:=(List Int)×List Int×Int) (fun s18=>
 if decide (s18.2.2<(a3.length:Int))=true then(
 (ix a5.Places s18.2.2).bind fun x24=>
 (ix a5.Powers s18.2.2).bind fun x25=>
 (zat a0 x24 z13.1).bind fun z26=>
 (zat a0 a0.G (i64.wrap (0-z13.2))).bind fun z27=>
 (za1 a0 [z26,x25,z27]).bind fun z28=>
 gd ((s18.1.length+1)*8≤140737488355328∧s18.1.length+1≤4611686018427387904)<|
 (ix a5.Pi.Responses s18.2.2).bind fun x29=>
 (ix a5.Pi.Responses (i64.wrap ((a3.length:Int)+s18.2.2))).bind fun x30=>
 (zcz a0 a2 x29 x30).bind fun z31=>
 gd ((s18.2.1.length+1)*8≤140737488355328∧s18.2.1.length+1≤4611686018427387904)<|
 some (.go (s18.1++[z28],s18.2.1++[z31],i64.wrap (s18.2.2+1))))else(
 some (.out (s18.1,s18.2.1)))) ([],[],0):Option ((List Int×List Int))).bind fun x17=>
 ((zbo (σ:=(List Int)×List Int×Int×Int) (fun s37=>
 if decide (s37.2.2.2<(a3.length:Int))=true then(
 (ix a5.Chain s37.2.2.2).bind fun x43=>
 gd ((s37.1.length+1)*8≤140737488355328∧s37.1.length+1≤4611686018427387904)<|
 (ix a5.Pi.Responses s37.2.2.2).bind fun x44=>
 (ix a5.Pi.Responses (i64.wrap ((i64.wrap (2*(a3.length:Int)))+s37.2.2.2))).bind fun x45=>
 (zat a0 s37.2.2.1 x44).bind fun z46=>
 (zat a0 a2 x45).bind fun z47=>
 (za1 a0 [z46,z47]).bind fun z48=>
 gd ((s37.2.1.length+1)*8≤140737488355328∧s37.2.1.length+1≤4611686018427387904)<|
 some (.go (s37.1++[x43],s37.2.1++[z48],x43,i64.wrap (s37.2.2.2+1))))else(
 some (.out (s37.1,s37.2.1)))) (x17.1,x17.2,a0.G,0):Option ((List Int×List Int))).bind fun x36=>
 (ix a5.Chain (i64.wrap ((a3.length:Int)-1))).bind fun x51=>
 (zfx a0.Q (a3.length:Int) z12 z13.1 z13.2).bind fun z52=>
 (zat a0 a0.G (i64.wrap (0-z52))).bind fun z53=>
 (za1 a0 [x51,z53]).bind fun z54=>
 gd ((x36.1.length+1)*8≤140737488355328∧x36.1.length+1≤4611686018427387904)<|
 (ix a5.Pi.Responses (i64.wrap (3*(a3.length:Int)))).bind fun x55=>
 (zat a0 a2 x55).bind fun z56=>
 gd ((x36.2.length+1)*8≤140737488355328∧x36.2.length+1≤4611686018427387904)<|
 ((zbo (σ:=(List Int)×List Int×Int) (fun s60=>
 if decide (s60.2.2<(a3.length:Int))=true then(
 (ix a5.Powers s60.2.2).bind fun x66=>
 gd ((s60.1.length+1)*8≤140737488355328∧s60.1.length+1≤4611686018427387904)<|
 (ix ((a5.Pi.Responses.take ((i64.wrap ((i64.wrap (4*(a3.length:Int)))+1)).toNat)).drop ((i64.wrap ((i64.wrap (3*(a3.length:Int)))+1)).toNat)) s60.2.2).bind fun x67=>
 (ix a5.Pi.Responses (i64.wrap ((i64.wrap ((i64.wrap (4*(a3.length:Int)))+1))+s60.2.2))).bind fun x68=>
 (zcz a0 a2 x67 x68).bind fun z69=>
 gd ((s60.2.1.length+1)*8≤140737488355328∧s60.2.1.length+1≤4611686018427387904)<|
 some (.go (s60.1++[x66],s60.2.1++[z69],i64.wrap (s60.2.2+1))))else(
 some (.out (s60.1,s60.2.1)))) (x36.1++[z54],x36.2++[z56],0):Option ((List Int×List Int))).bind fun x59=>
 (zeu a3).bind fun z72=>
 (zeu a4).bind fun z73=>
 (zfy a0 (a3.length:Int) z12).bind fun z74=>
 (zdk a0 z72.1 z74).bind fun z75=>
 (zfy a0 (a3.length:Int) z12).bind fun z76=>
 (zdk a0 z72.2 z76).bind fun z77=>
 gd ((x59.1.length+2)*8≤140737488355328∧x59.1.length+2≤4611686018427387904)<|
 (zat a0 a0.G (i64.wrap (0-x14))).bind fun z78=>
 (zdk a0 z73.1 ((a5.Pi.Responses.take ((i64.wrap ((i64.wrap (4*(a3.length:Int)))+1)).toNat)).drop ((i64.wrap ((i64.wrap (3*(a3.length:Int)))+1)).toNat))).bind fun z79=>
 (za1 a0 [z78,z79]).bind fun z80=>
 (zat a0 a1 (i64.wrap (0-x14))).bind fun z81=>
 (zdk a0 z73.2 ((a5.Pi.Responses.take ((i64.wrap ((i64.wrap (4*(a3.length:Int)))+1)).toNat)).drop ((i64.wrap ((i64.wrap (3*(a3.length:Int)))+1)).toNat))).bind fun z82=>
 (za1 a0 [z81,z82]).bind fun z83=>
 gd ((x59.2.length+2)*8≤140737488355328∧x59.2.length+2≤4611686018427387904)<|
 ((zap (σ:=(List Int)×List Int) (fun i105 s104=>
 (ix a5.Pi.Commits i105).bind fun x111=>
 (ix s104.1 i105).bind fun x112=>
 (ix s104.2 i105).bind fun x113=>
 (zat a0 x112 x10).bind fun z114=>
 (za1 a0 [x111,z114]).bind fun z115=>
 if(z115 !=x113)=true then(
 some (.out (.inr false)))else(
 some (.go (s104.1,s104.2)))) (fun s104=>.inl ()) (a5.Pi.Commits.length) 0 (x59.1++[z75,z77],x59.2++[z80,z83]):Option (Unit ⊕ Bool)).bind (Sum.elim (fun x86=>
 some true) some)))))))
set_option maxHeartbeats 1000000 in
theorem zoh:∀{a0}{a1}{a2}{a3}{a4}{a5}{r},zef a0 a1 a2 a3 a4 a5=some r→PCalls Tryz.prog 45 [(.sh,vE a0),(.sh,.int .i64 a1),(.sh,.int .i64 a2),(.sh,vH a3),(.sh,vH a4),(.sh,vL a5)] (Eo (.bool r) [.junk,.junk,.junk,.junk,.junk,.junk]):=by
 intro a0 a1 a2 a3 a4 a5 r hr
 apply pF 338 [] [] [] [.tmp 12] hr zF9 Tryz.func45
 intro Φ hΦ hF g
 unfold zef at hF
 iterate 2 (try simp[go_sem,g];try intros;refine zaD ?_)
 refine wJ hF (fun x3=>[(1,.v (.int .i64 a1)),(2,.v (.int .i64 a2)),(3,.v (vH a3)),(4,.v (vH a4)),(6,.bl [.int .i64 a0.P,.int .i64 a0.Q,.int .i64 a0.G]),(11,.bl [vC a5.Places,vC a5.Powers,vC a5.Chain,vC a5.Pi.Commits,vC a5.Pi.Challenges,vC a5.Pi.Responses]),(13,.v (.int .i64 (a3.length:Int))),(59,.v (.bool x3))]) (fun x3 hF=>?_) fun _ hj1 hF=>?_
 ·refine wI hF (fun h9 hF=>?_) (fun h9 hF=>?_)
  ·exact wl hΦ hF
  obtain⟨x10,g,hF⟩:=Rxn g 0 hF
  refine wW ?_
  refine wK [1,2,3,4,6,11,13,14] ?_
  refine wW ?_
  refine wX zBM follows ?_
  refine wC hF [.sh,.sh,.sh,.sh] zgB (fun z11 hF=>?_)
  refine wC hF [.sh,.sh,.sh] zew (fun z12 hF=>?_)
  refine wK [1,2,3,4,6,11,13,14,15,16] ?_
  refine wC hF [.sh,.sh,.sh,.sh,.sh,.sh] zj0 (fun z13 hF=>?_)
  refine wK [1,2,3,4,6,11,13,14,15,16,17,18] ?_
  obtain⟨g,hF⟩:=Rg g hF
  obtain⟨g,hF⟩:=Rg g hF
  obtain⟨g,hF⟩:=Rg g hF
  obtain⟨x14,g,hF⟩:=Rx g hF
  refine wW ?_
  refine wK [1,2,3,4,6,11,13,14,15,16,17,18,19,20] ?_
  iterate 2 refine wW ?_
  refine wJ hF (fun x17=>[(1,.v (.int .i64 a1)),(2,.v (.int .i64 a2)),(3,.v (vH a3)),(4,.v (vH a4)),(6,.bl [.int .i64 a0.P,.int .i64 a0.Q,.int .i64 a0.G]),(11,.bl [vC a5.Places,vC a5.Powers,vC a5.Chain,vC a5.Pi.Commits,vC a5.Pi.Challenges,vC a5.Pi.Responses]),(13,.v (.int .i64 (a3.length:Int))),(14,.v (.int .i64 x10)),(15,.v (vC a5.Pi.Responses)),(16,.v (.int .i64 z12)),(17,.v (.int .i64 z13.1)),(18,.v (.int .i64 z13.2)),(19,.v (vC ((a5.Pi.Responses.take ((i64.wrap ((i64.wrap (4*(a3.length:Int)))+1)).toNat)).drop ((i64.wrap ((i64.wrap (3*(a3.length:Int)))+1)).toNat)))),(20,.v (.int .i64 x14)),(21,.v (vD x17.1)),(22,.v (vD x17.2))]) (fun x17 hF=>?_) fun _ hj15 hF=>?_
  ·iterate 2 refine wW ?_
   refine wJ hF (fun x36=>[(1,.v (.int .i64 a1)),(2,.v (.int .i64 a2)),(3,.v (vH a3)),(4,.v (vH a4)),(6,.bl [.int .i64 a0.P,.int .i64 a0.Q,.int .i64 a0.G]),(11,.bl [vC a5.Places,vC a5.Powers,vC a5.Chain,vC a5.Pi.Commits,vC a5.Pi.Challenges,vC a5.Pi.Responses]),(13,.v (.int .i64 (a3.length:Int))),(14,.v (.int .i64 x10)),(15,.v (vC a5.Pi.Responses)),(16,.v (.int .i64 z12)),(17,.v (.int .i64 z13.1)),(18,.v (.int .i64 z13.2)),(19,.v (vC ((a5.Pi.Responses.take ((i64.wrap ((i64.wrap (4*(a3.length:Int)))+1)).toNat)).drop ((i64.wrap ((i64.wrap (3*(a3.length:Int)))+1)).toNat)))),(20,.v (.int .i64 x14)),(21,.v (vD x36.1)),(22,.v (vD x36.2))]) (fun x36 hF=>?_) fun _ hj34 hF=>?_
   ·refine wX zzU follows ?_
    obtain⟨x51,g,hF⟩:=Rx g hF
    refine wD hF zn5 (fun z52 hF=>?_)
    refine wD hF zbb (fun z53 hF=>?_)
    refine wC hF [.sh,.sh] zcv (fun z54 hF=>?_)
    obtain⟨g,hF⟩:=Rg g hF
    refine wK [1,2,3,4,6,11,13,14,15,16,19,20,21,22] ?_
    refine wX zzL follows ?_
    obtain⟨x55,g,hF⟩:=Rx g hF
    refine wC hF [.sh,.sh,.sh] zbb (fun z56 hF=>?_)
    obtain⟨g,hF⟩:=Rg g hF
    refine wK [1,2,3,4,6,11,13,14,15,16,19,20,21,22] ?_
    refine wW ?_
    refine wJ hF (fun x59=>[(1,.v (.int .i64 a1)),(3,.v (vH a3)),(4,.v (vH a4)),(6,.bl [.int .i64 a0.P,.int .i64 a0.Q,.int .i64 a0.G]),(11,.bl [vC a5.Places,vC a5.Powers,vC a5.Chain,vC a5.Pi.Commits,vC a5.Pi.Challenges,vC a5.Pi.Responses]),(13,.v (.int .i64 (a3.length:Int))),(14,.v (.int .i64 x10)),(16,.v (.int .i64 z12)),(19,.v (vC ((a5.Pi.Responses.take ((i64.wrap ((i64.wrap (4*(a3.length:Int)))+1)).toNat)).drop ((i64.wrap ((i64.wrap (3*(a3.length:Int)))+1)).toNat)))),(20,.v (.int .i64 x14)),(21,.v (vD x59.1)),(22,.v (vD x59.2))]) (fun x59 hF=>?_) fun _ hj57 hF=>?_
    ·refine wC hF [.sh] zig (fun z72 hF=>?_)
     refine wW ?_
     refine wC hF [.sh] zig (fun z73 hF=>?_)
     refine wK [1,6,11,13,14,16,19,20,21,22,27,28,29,30] ?_
     refine wX zyN follows ?_
     refine wC hF [.sh,.sh,.sh] zk4 (fun z74 hF=>?_)
     refine wC hF [.sh,.sh,.sh] zfq (fun z75 hF=>?_)
     refine wC hF [.sh,.sh,.sh] zk4 (fun z76 hF=>?_)
     refine wC hF [.sh,.sh,.sh] zfq (fun z77 hF=>?_)
     obtain⟨g,hF⟩:=Rg g hF
     refine wK [1,6,11,14,19,20,21,22,29,30] ?_
     refine wX zz7 follows ?_
     refine wC hF [.sh,.sh,.sh] zbb (fun z78 hF=>?_)
     refine wC hF [.sh,.sh,.sh] zfq (fun z79 hF=>?_)
     refine wC hF [.sh,.sh] zcv (fun z80 hF=>?_)
     refine wC hF [.sh,.sh,.sh] zbb (fun z81 hF=>?_)
     refine wC hF [.sh,.sh,.sh] zfq (fun z82 hF=>?_)
     refine wC hF [.sh,.sh] zcv (fun z83 hF=>?_)
     obtain⟨g,hF⟩:=Rg g hF
     refine wK [6,11,14,21,22] ?_
     try simp[go_sem,g]
     try intros
     refine zaD ?_
     refine wS hF (fun x86=>[]) (fun x86 hF=>?_) fun _ hj84 hr85 hF=>?_
     ·exact wl hΦ hF
     refine wB ?_
     obtain⟨b117,hb118,hψ108⟩:=hF
     refine pR hb118 (fun i105 s104=>[(6,.bl [.int .i64 a0.P,.int .i64 a0.Q,.int .i64 a0.G]),(14,.v (.int .i64 x10)),(21,.v (vD s104.1)),(22,.v (vD s104.2)),(314,.v (vC a5.Pi.Commits)),(315,.v (.int .i64 (a5.Pi.Commits.length:Int))),(316,.v (.int .i64 i105))]) (fun s104 _ hN119=>?_) (fun i105 s104 _ _ hi109 hi110 ho106 hg107 hF=>?_)
     ·exact wn hN119 (hj84 _) hψ108
     refine wW ?_
     refine wu hi109 hi110 ?_
     refine wW ?_
     refine wB ?_
     obtain⟨x111,g,hF⟩:=Rx g hF
     refine wK [6,14,21,22,31,32,314,315,316] ?_
     refine wX zzM follows ?_
     obtain⟨x112,g,hF⟩:=Rx g hF
     obtain⟨x113,g,hF⟩:=Rx g hF
     refine wD hF zbb (fun z114 hF=>?_)
     refine wD hF zcv (fun z115 hF=>?_)
     refine wK [6,14,21,22,314,315,316,336] ?_
     refine wI hF (fun h116 hF=>?_) (fun h116 hF=>?_)
     ·cases ho106 _ (zaa hF)
      cases hΦ _ (hr85 _ hψ108)
      refine wW ?_
      try simp[go_sem,g]
     refine wW ?_
     exact wi hi109 hi110 (hg107 _) (zaa hF)
    refine wB ?_
    obtain⟨b70,hb71,hψ64⟩:=hF
    refine pL hb71 (fun s60=>[(1,.v (.int .i64 a1)),(2,.v (.int .i64 a2)),(3,.v (vH a3)),(4,.v (vH a4)),(6,.bl [.int .i64 a0.P,.int .i64 a0.Q,.int .i64 a0.G]),(11,.bl [vC a5.Places,vC a5.Powers,vC a5.Chain,vC a5.Pi.Commits,vC a5.Pi.Challenges,vC a5.Pi.Responses]),(13,.v (.int .i64 (a3.length:Int))),(14,.v (.int .i64 x10)),(15,.v (vC a5.Pi.Responses)),(16,.v (.int .i64 z12)),(19,.v (vC ((a5.Pi.Responses.take ((i64.wrap ((i64.wrap (4*(a3.length:Int)))+1)).toNat)).drop ((i64.wrap ((i64.wrap (3*(a3.length:Int)))+1)).toNat)))),(20,.v (.int .i64 x14)),(21,.v (vD s60.1)),(22,.v (vD s60.2.1)),(26,.v (.int .i64 s60.2.2))]) (fun s60 _ _ ho62 hg63 hF=>?_)
    refine wW ?_
    refine wI hF (fun h65 hF=>?_) (fun h65 hF=>?_)
    ·refine wW ?_
     refine wB ?_
     obtain⟨x66,g,hF⟩:=Rx g hF
     obtain⟨g,hF⟩:=Rg g hF
     refine wK [1,2,3,4,6,11,13,14,15,16,19,20,21,22,26] ?_
     refine wX zyB follows ?_
     obtain⟨x67,g,hF⟩:=Rxq g hF
     obtain⟨x68,g,hF⟩:=Rx g hF
     refine wC hF [.sh,.sh,.sh,.sh] zgp (fun z69 hF=>?_)
     obtain⟨g,hF⟩:=Rg g hF
     refine wK [1,2,3,4,6,11,13,14,15,16,19,20,21,22,26] ?_
     exact wT (hg63 _) (zaa hF)
    cases ho62 _ (zaa hF)
    exact wT (hj57 _) hψ64
   refine wB ?_
   obtain⟨b49,hb50,hψ41⟩:=hF
   refine pL hb50 (fun s37=>[(1,.v (.int .i64 a1)),(2,.v (.int .i64 a2)),(3,.v (vH a3)),(4,.v (vH a4)),(6,.bl [.int .i64 a0.P,.int .i64 a0.Q,.int .i64 a0.G]),(11,.bl [vC a5.Places,vC a5.Powers,vC a5.Chain,vC a5.Pi.Commits,vC a5.Pi.Challenges,vC a5.Pi.Responses]),(13,.v (.int .i64 (a3.length:Int))),(14,.v (.int .i64 x10)),(15,.v (vC a5.Pi.Responses)),(16,.v (.int .i64 z12)),(17,.v (.int .i64 z13.1)),(18,.v (.int .i64 z13.2)),(19,.v (vC ((a5.Pi.Responses.take ((i64.wrap ((i64.wrap (4*(a3.length:Int)))+1)).toNat)).drop ((i64.wrap ((i64.wrap (3*(a3.length:Int)))+1)).toNat)))),(20,.v (.int .i64 x14)),(21,.v (vD s37.1)),(22,.v (vD s37.2.1)),(24,.v (.int .i64 s37.2.2.1)),(25,.v (.int .i64 s37.2.2.2))]) (fun s37 _ _ ho39 hg40 hF=>?_)
   refine wK [1,2,3,4,6,11,13,14,15,16,17,18,19,20,21,22,24,25,152] ?_
   refine wI hF (fun h42 hF=>?_) (fun h42 hF=>?_)
   ·refine wW ?_
    refine wB ?_
    obtain⟨x43,g,hF⟩:=Rx g hF
    obtain⟨g,hF⟩:=Rg g hF
    refine wW ?_
    refine wX zyY follows ?_
    obtain⟨x44,g,hF⟩:=Rx g hF
    obtain⟨x45,g,hF⟩:=Rx g hF
    refine wD hF zbb (fun z46 hF=>?_)
    refine wC hF [.sh,.sh,.sh] zbb (fun z47 hF=>?_)
    refine wC hF [.sh,.sh] zcv (fun z48 hF=>?_)
    obtain⟨g,hF⟩:=Rg g hF
    refine wK [1,2,3,4,6,11,13,14,15,16,17,18,19,20,21,22,25] ?_
    refine wW ?_
    exact wT (hg40 _) (zaa hF)
   cases ho39 _ (zaa hF)
   exact wT (hj34 _) hψ41
  refine wB ?_
  obtain⟨b32,hb33,hψ22⟩:=hF
  refine pL hb33 (fun s18=>[(1,.v (.int .i64 a1)),(2,.v (.int .i64 a2)),(3,.v (vH a3)),(4,.v (vH a4)),(6,.bl [.int .i64 a0.P,.int .i64 a0.Q,.int .i64 a0.G]),(11,.bl [vC a5.Places,vC a5.Powers,vC a5.Chain,vC a5.Pi.Commits,vC a5.Pi.Challenges,vC a5.Pi.Responses]),(13,.v (.int .i64 (a3.length:Int))),(14,.v (.int .i64 x10)),(15,.v (vC a5.Pi.Responses)),(16,.v (.int .i64 z12)),(17,.v (.int .i64 z13.1)),(18,.v (.int .i64 z13.2)),(19,.v (vC ((a5.Pi.Responses.take ((i64.wrap ((i64.wrap (4*(a3.length:Int)))+1)).toNat)).drop ((i64.wrap ((i64.wrap (3*(a3.length:Int)))+1)).toNat)))),(20,.v (.int .i64 x14)),(21,.v (vD s18.1)),(22,.v (vD s18.2.1)),(23,.v (.int .i64 s18.2.2))]) (fun s18 _ _ ho20 hg21 hF=>?_)
  refine wW ?_
  refine wI hF (fun h23 hF=>?_) (fun h23 hF=>?_)
  ·refine wW ?_
   refine wB ?_
   refine wX zyO follows ?_
   obtain⟨x24,g,hF⟩:=Rx g hF
   obtain⟨x25,g,hF⟩:=Rx g hF
   refine wD hF zbb (fun z26 hF=>?_)
   refine wD hF zbb (fun z27 hF=>?_)
   refine wC hF [.sh,.sh] zcv (fun z28 hF=>?_)
   obtain⟨g,hF⟩:=Rg g hF
   refine wK [1,2,3,4,6,11,13,14,15,16,17,18,19,20,21,22,23] ?_
   refine wX zzd follows ?_
   obtain⟨x29,g,hF⟩:=Rx g hF
   obtain⟨x30,g,hF⟩:=Rx g hF
   refine wC hF [.sh,.sh,.sh,.sh] zgp (fun z31 hF=>?_)
   obtain⟨g,hF⟩:=Rg g hF
   refine wK [1,2,3,4,6,11,13,14,15,16,17,18,19,20,21,22,23] ?_
   exact wT (hg21 _) (zaa hF)
  cases ho20 _ (zaa hF)
  exact wT (hj15 _) hψ22
 refine wX zBp follows ?_
 try simp[go_sem,g]
 try intros
 refine wH hF (fun h4 hF=>?_) fun h4 hF=>?_
 ·exact wV h4 (hj1 _) (zaa hF)
 try simp[go_sem,g,h4]
 refine wC hF [.sh,.sh,.sh] zo3 (fun z5 hF=>?_)
 try simp[go_sem,g,h4]
 refine wH hF (fun h6 hF=>?_) fun h6 hF=>?_
 ·exact wV h6 (hj1 _) (zaa hF)
 obtain⟨x7,g,hF⟩:=Rxn g 0 hF
 try simp[go_sem,g,h6]
 refine wD hF zms (fun z8 hF=>?_)
 exact wV h6 (hj1 _) (zaa hF)
def zdR (a0:Group) (a1:Int) (a2:List Cipher) (a3:List Cipher) (a4:PolyProof):Option (Bool×Bool):=
 (((zdl a0 a1 a2).bind fun z4=>
 if(!z4)=true then(
 some true)else(
 (zdl a0 a1 a3).bind fun z6=>
 some (!z6)):Option Bool).bind fun x3=>
 if x3=true then(
 some (false,false))else(
 (zfu a0).bind fun z8=>
 if(!z8.2)=true then(
 some (false,false))else(
 (zef a0 a1 z8.1 a2 a3 a4).bind fun z10=>
 some (z10,true))))
theorem zmf:∀{a0}{a1}{a2}{a3}{a4}{r},zdR a0 a1 a2 a3 a4=some r→PCalls Tryz.prog 10 [(.sh,vE a0),(.sh,.int .i64 a1),(.sh,vH a2),(.sh,vH a3),(.sh,vL a4)] (Eo (.tup [.bool r.1,.bool r.2]) [.junk,.junk,.junk,.junk,.junk]):=by
 intro a0 a1 a2 a3 a4 r hr
 apply pF 40 [] [] [] [.tmp 10,.tmp 11] hr zIG Tryz.func10
 intro Φ hΦ hF g
 unfold zdR at hF
 refine wW ?_
 refine wJ hF (fun x3=>[(1,.v (.int .i64 a1)),(2,.v (vH a2)),(3,.v (vH a3)),(5,.bl [.int .i64 a0.P,.int .i64 a0.Q,.int .i64 a0.G]),(9,.bl [vC a4.Places,vC a4.Powers,vC a4.Chain,vC a4.Pi.Commits,vC a4.Pi.Challenges,vC a4.Pi.Responses]),(25,.v (.bool x3))]) (fun x3 hF=>?_) fun _ hj1 hF=>?_
 ·refine wI hF (fun h7 hF=>?_) (fun h7 hF=>?_)
  ·exact wl hΦ hF
  refine wW ?_
  refine wC hF [.sh] zlb (fun z8 hF=>?_)
  refine wK [1,2,3,5,9,12,13] ?_
  refine wW ?_
  refine wI hF (fun h9 hF=>?_) (fun h9 hF=>?_)
  ·exact wl hΦ hF
  refine wW ?_
  refine wC hF [.sh,.sh,.sh,.sh,.sh,.sh] zoh (fun z10 hF=>?_)
  refine wK [10,11] ?_
  exact wm hΦ hF
 refine wC hF [.sh,.sh,.sh] zhE (fun z4 hF=>?_)
 refine wG hF (fun h5 hF=>?_) fun h5 hF=>?_
 ·exact wV h5 (hj1 _) (zaa hF)
 try simp[go_sem,g,h5]
 refine wC hF [.sh,.sh,.sh] zhE (fun z6 hF=>?_)
 exact wV h5 (hj1 _) (zaa hF)
@[go_sem] def zBs:List DE:=[d0 0 [0],d0 1 [5],d0 2 [16,17],d0 3 [18],d0 4 [1],d0 5 [5],d0 6 [20,21],d0 7 [22],d0 8 [19,23]]
def zcQ (a0:List Int) (a1:List Int):Option Bool:=
 if((a0.length:Int) !=(a1.length:Int))=true then(
 some false)else(
 ((zap (σ:=Unit) (fun i6 s5=>
 (ix a0 i6).bind fun x12=>
 (ix a1 i6).bind fun x13=>
 if(x12 !=x13)=true then(
 some (.out (.inr false)))else(
 some (.go ()))) (fun s5=>.inl ()) (a0.length) 0 ():Option (Unit ⊕ Bool)).bind (Sum.elim (fun x4=>
 some true) some)))
theorem zeR:∀{a0}{a1}{r},zcQ a0 a1=some r→PCalls Tryz.prog 11 [(.sh,vC a0),(.sh,vC a1)] (Eo (.bool r) [.junk,.junk]):=by
 intro a0 a1 r hr
 apply pF 26 [] [] [] [.tmp 4] hr zHp Tryz.func11
 intro Φ hΦ hF g
 unfold zcQ at hF
 iterate 2 (try simp[go_sem,g];try intros;refine zaD ?_)
 refine wI hF (fun h1 hF=>?_) (fun h1 hF=>?_)
 ·exact wl hΦ hF
 iterate 2 (try simp[go_sem,g];try intros;refine zaD ?_)
 refine wS hF (fun x4=>[]) (fun x4 hF=>?_) fun _ hj2 hr3 hF=>?_
 ·refine wK [4] ?_
  exact wm hΦ hF
 refine wB ?_
 obtain⟨b15,hb16,hψ9⟩:=hF
 refine pR hb16 (fun i6 s5=>[(0,.v (vC a0)),(1,.v (vC a1)),(12,.v (.int .i64 (a0.length:Int))),(13,.v (.int .i64 i6))]) (fun s5 _ hN17=>?_) (fun i6 s5 _ _ hi10 hi11 ho7 hg8 hF=>?_)
 ·exact wn hN17 (hj2 _) hψ9
 refine wK [0,1,12,13,14] ?_
 refine wu hi10 hi11 ?_
 refine wW ?_
 refine wB ?_
 refine wW ?_
 refine wX zBs follows ?_
 obtain⟨x12,g,hF⟩:=Rx g hF
 obtain⟨x13,g,hF⟩:=Rx g hF
 refine wK [0,1,12,13,24] ?_
 refine wI hF (fun h14 hF=>?_) (fun h14 hF=>?_)
 ·cases ho7 _ (zaa hF)
  cases hΦ _ (hr3 _ hψ9)
  refine wW ?_
  try simp[go_sem,g]
 refine wW ?_
 exact wi hi10 hi11 (hg8 _) (zaa hF)
def zf2 (a0:Proof) (a1:Proof):Option Bool:=
 (((zcQ a0.Commits a1.Commits).bind fun z4=>
 if z4=true then(
 (zcQ a0.Challenges a1.Challenges).bind fun z6=>
 if z6=true then(
 (zcQ a0.Responses a1.Responses).bind fun z8=>
 some z8)else(
 some false))else(
 some false):Option Bool).bind fun x3=>
 some x3)
theorem zo4:∀{a0}{a1}{r},zf2 a0 a1=some r→PCalls Tryz.prog 12 [(.sh,vO a0),(.sh,vO a1)] (Eo (.bool r) [.junk,.junk]):=by
 intro a0 a1 r hr
 apply pF 24 [] [] [] [.tmp 4] hr zGc Tryz.func12
 intro Φ hΦ hF g
 unfold zf2 at hF
 refine wW ?_
 refine wJ hF (fun x3=>[(4,.v (.bool x3))]) (fun x3 hF=>?_) fun _ hj1 hF=>?_
 ·exact wm hΦ hF
 refine wC hF [.sh,.sh] zeR (fun z4 hF=>?_)
 refine wG hF (fun h5 hF=>?_) fun h5 hF=>?_
 ·try simp[go_sem,g,h5]
  refine wC hF [.sh,.sh] zeR (fun z6 hF=>?_)
  try simp[go_sem,g,h5]
  refine wG hF (fun h7 hF=>?_) fun h7 hF=>?_
  ·try simp[go_sem,g,h7]
   refine wC hF [.sh,.sh] zeR (fun z8 hF=>?_)
   exact wV h7 (hj1 _) (zaa hF)
  exact wV h7 (hj1 _) (zaa hF)
 exact wV h5 (hj1 _) (zaa hF)
def zd7 (a0:Group) (a1:List Int) (a2:List Int):Option (List Int×Bool):=
 (((zdb a0).bind fun z4=>
 if(!z4)=true then(
 some true)else(
 (zbe (a1.length:Int) 1 12).bind fun z6=>
 if(!z6)=true then(
 some true)else(
 (zcf a0 a1 a2 (a1.length:Int)).bind fun z8=>
 some (!z8))):Option Bool).bind fun x3=>
 if x3=true then(
 some ([],false))else(
 (zav a0 0).bind fun z10=>
 if(!z10.2)=true then(
 some ([],false))else(
 (zb7 a0 z10.1 a1 a2).bind fun z12=>
 some (z12,true))))
theorem zkQ:∀{a0}{a1}{a2}{r},zd7 a0 a1 a2=some r→PCalls Tryz.prog 13 [(.sh,vE a0),(.sh,vC a1),(.sh,vC a2)] (Eo (.tup [vD r.1,.bool r.2]) [.junk,.junk,.junk]):=by
 intro a0 a1 a2 r hr
 apply pF 41 [] [] [] [.tmp 6,.tmp 7] hr zIz Tryz.func13
 intro Φ hΦ hF g
 unfold zd7 at hF
 iterate 2 (try simp[go_sem,g];try intros;refine zaD ?_)
 refine wJ hF (fun x3=>[(1,.v (vC a1)),(2,.v (vC a2)),(3,.bl [.int .i64 a0.P,.int .i64 a0.Q,.int .i64 a0.G]),(28,.v (.bool x3))]) (fun x3 hF=>?_) fun _ hj1 hF=>?_
 ·refine wI hF (fun h9 hF=>?_) (fun h9 hF=>?_)
  ·exact wl hΦ hF
  refine wW ?_
  refine wC hF [.sh,.sh] zfK (fun z10 hF=>?_)
  refine wK [1,2,3,9,10] ?_
  refine wW ?_
  refine wI hF (fun h11 hF=>?_) (fun h11 hF=>?_)
  ·exact wl hΦ hF
  refine wW ?_
  refine wC hF [.sh,.sh,.sh,.sh] zgf (fun z12 hF=>?_)
  exact wl hΦ hF
 refine wC hF [.sh] zhH (fun z4 hF=>?_)
 refine wG hF (fun h5 hF=>?_) fun h5 hF=>?_
 ·exact wV h5 (hj1 _) (zaa hF)
 try simp[go_sem,g,h5]
 refine wC hF [.sh,.sh,.sh] zcc (fun z6 hF=>?_)
 try simp[go_sem,g,h5]
 refine wG hF (fun h7 hF=>?_) fun h7 hF=>?_
 ·exact wV h7 (hj1 _) (zaa hF)
 try simp[go_sem,g,h7]
 refine wC hF [.sh,.sh,.sh,.sh] zfE (fun z8 hF=>?_)
 exact wV h7 (hj1 _) (zaa hF)
def zez (a0:Group) (a1:Int) (a2:List Cipher) (a3:List Int) (a4:List Int):Option (List Cipher×Bool):=
 (zcG a0 a1 a2).bind fun z1=>
 ((if(!z1.2)=true then(
 some true)else(
 (zcf a0 a3 a4 (a2.length:Int)).bind fun z6=>
 some (!z6)):Option Bool).bind fun x4=>
 if x4=true then(
 some ([],false))else(
 (zed a0 a1 a2 a3 a4).bind fun z8=>
 some (z8,true)))
theorem zma:∀{a0}{a1}{a2}{a3}{a4}{r},zez a0 a1 a2 a3 a4=some r→PCalls Tryz.prog 14 [(.sh,vE a0),(.sh,.int .i64 a1),(.sh,vH a2),(.sh,vC a3),(.sh,vC a4)] (Eo (.tup [vG r.1,.bool r.2]) [.junk,.junk,.junk,.junk,.junk]):=by
 intro a0 a1 a2 a3 a4 r hr
 apply pF 38 [] [] [] [.tmp 10,.tmp 11] hr zHN Tryz.func14
 intro Φ hΦ hF g
 unfold zez at hF
 refine wW ?_
 refine wC hF [.sh,.sh,.sh] zhF (fun z1 hF=>?_)
 refine wK [1,2,3,4,5,13] ?_
 refine wJ hF (fun x4=>[(1,.v (.int .i64 a1)),(2,.v (vH a2)),(3,.v (vC a3)),(4,.v (vC a4)),(5,.bl [.int .i64 a0.P,.int .i64 a0.Q,.int .i64 a0.G]),(31,.v (.bool x4))]) (fun x4 hF=>?_) fun _ hj2 hF=>?_
 ·refine wI hF (fun h7 hF=>?_) (fun h7 hF=>?_)
  ·exact wl hΦ hF
  refine wW ?_
  refine wC hF [.sh,.sh,.sh,.sh,.sh] zi6 (fun z8 hF=>?_)
  exact wl hΦ hF
 refine wG hF (fun h5 hF=>?_) fun h5 hF=>?_
 ·exact wV h5 (hj2 _) (zaa hF)
 try simp[go_sem,g,h5]
 try intros
 refine wC hF [.sh,.sh,.sh,.sh] zfE (fun z6 hF=>?_)
 exact wV h5 (hj2 _) (zaa hF)
def zdT (a0:Group) (a1:Int) (a2:List Cipher) (a3:List Cipher) (a4:List Int):Option Bool:=
 (zcG a0 a1 a2).bind fun z1=>
 ((if z1.2=true then(
 if((a3.length:Int)==(a2.length:Int))=true then(
 (zch a0 a3).bind fun z7=>
 if z7=true then(
 if((a4.length:Int)==(a2.length:Int))=true then(
 (zbz a0 a4).bind fun z10=>
 some z10)else(
 some false))else(
 some false))else(
 some false))else(
 some false):Option Bool).bind fun x4=>
 some x4)
theorem zin:∀{a0}{a1}{a2}{a3}{a4}{r},zdT a0 a1 a2 a3 a4=some r→PCalls Tryz.prog 52 [(.sh,vE a0),(.sh,.int .i64 a1),(.sh,vH a2),(.sh,vH a3),(.sh,vC a4)] (Eo (.bool r) [.junk,.junk,.junk,.junk,.junk]):=by
 intro a0 a1 a2 a3 a4 r hr
 apply pF 45 [] [] [] [.tmp 10] hr zHq Tryz.func52
 intro Φ hΦ hF g
 unfold zdT at hF
 refine wW ?_
 refine wC hF [.sh,.sh,.sh] zhF (fun z1 hF=>?_)
 refine wK [2,3,4,5,12] ?_
 refine wJ hF (fun x4=>[(10,.v (.bool x4))]) (fun x4 hF=>?_) fun _ hj2 hF=>?_
 ·exact wm hΦ hF
 refine wG hF (fun h5 hF=>?_) fun h5 hF=>?_
 ·try simp[go_sem,g,h5]
  try intros
  refine wG hF (fun h6 hF=>?_) fun h6 hF=>?_
  ·try simp[go_sem,g,h6]
   refine wC hF [.sh,.sh] zfz (fun z7 hF=>?_)
   try simp[go_sem,g,h6]
   refine wG hF (fun h8 hF=>?_) fun h8 hF=>?_
   ·try simp[go_sem,g,h8]
    try intros
    refine wG hF (fun h9 hF=>?_) fun h9 hF=>?_
    ·try simp[go_sem,g,h9]
     refine wC hF [.sh,.sh] zdd (fun z10 hF=>?_)
     exact wV h9 (hj2 _) (zaa hF)
    exact wV h9 (hj2 _) (zaa hF)
   exact wV h8 (hj2 _) (zaa hF)
  exact wV h6 (hj2 _) (zaa hF)
 exact wV h5 (hj2 _) (zaa hF)
@[go_sem] def zDm:List DE:=[d2 0 [5] 5 5,d0 1 [1],d0 2 [2],d0 3 [3],d0 4 [4],d3 5 [20,21,22,23],d3 6 [19,24],d0 7 [25],d0 8 [25],d0 9 [26],d0 10 [27]]
def zdy (a0:Group) (a1:Int) (a2:List Cipher) (a3:List Cipher) (a4:List Int):Option (Int×Bool):=
 (zdT a0 a1 a2 a3 a4).bind fun z1=>
 if(!z1)=true then(
 some (0,false))else(
 (zcg a1 a2 a3 a4).bind fun z3=>
 (zaJ a0 (⟨#[109,105,120,32,120]⟩:ByteArray) z3).bind fun z4=>
 some (z4.1,z4.2))
theorem zkd:∀{a0}{a1}{a2}{a3}{a4}{r},zdy a0 a1 a2 a3 a4=some r→PCalls Tryz.prog 15 [(.sh,vE a0),(.sh,.int .i64 a1),(.sh,vH a2),(.sh,vH a3),(.sh,vC a4)] (Eo (.tup [.int .i64 r.1,.bool r.2]) [.junk,.junk,.junk,.junk,.junk]):=by
 intro a0 a1 a2 a3 a4 r hr
 apply pF 28 [] [] [] [.tmp 10,.tmp 11] hr zFS Tryz.func15
 intro Φ hΦ hF g
 unfold zdy at hF
 refine wW ?_
 refine wC hF [.sh,.sh,.sh,.sh,.sh] zin (fun z1 hF=>?_)
 refine wK [1,2,3,4,5,18] ?_
 refine wI hF (fun h2 hF=>?_) (fun h2 hF=>?_)
 ·exact wl hΦ hF
 refine wW ?_
 refine wX zDm follows ?_
 refine wC hF [.sh,.sh,.sh,.sh] zeJ (fun z3 hF=>?_)
 refine wC hF [.sh,.sh,.sh] zb6 (fun z4 hF=>?_)
 refine wK [10,11] ?_
 exact wm hΦ hF
@[go_sem] def zBF:List DE:=[d2 0 [6] 6 6,d0 1 [1],d0 2 [2],d0 3 [3],d0 4 [4],d0 6 [5],d3 5 [39],d0 7 [40,41],d3 8 [36,37,38,42],d3 9 [35,43],d0 10 [44],d0 11 [44],d0 12 [44],d0 13 [45],d0 14 [46],d0 15 [47]]
def zdj (a0:Group) (a1:Int) (a2:List Cipher) (a3:List Cipher) (a4:List Int) (a5:List Int):Option (Int×Int×Bool):=
 (((zdT a0 a1 a2 a3 a4).bind fun z4=>
 if(!z4)=true then(
 some true)else(
 if((a5.length:Int) !=(a2.length:Int))=true then(
 some true)else(
 (zbz a0 a5).bind fun z7=>
 some (!z7))):Option Bool).bind fun x3=>
 if x3=true then(
 some (0,0,false))else(
 (zcr a4).bind fun z9=>
 gd ((z9.length+a5.length)*8≤140737488355328∧z9.length+a5.length≤4611686018427387904)<|
 (zcg a1 a2 a3 (z9++a5)).bind fun z10=>
 (zb9 a0 z10).bind fun z11=>
 some (z11.1,z11.2.1,z11.2.2)))
theorem zjN:∀{a0}{a1}{a2}{a3}{a4}{a5}{r},zdj a0 a1 a2 a3 a4 a5=some r→PCalls Tryz.prog 16 [(.sh,vE a0),(.sh,.int .i64 a1),(.sh,vH a2),(.sh,vH a3),(.sh,vC a4),(.sh,vC a5)] (Eo (.tup [.int .i64 r.1,.int .i64 r.2.1,.bool r.2.2]) [.junk,.junk,.junk,.junk,.junk,.junk]):=by
 intro a0 a1 a2 a3 a4 a5 r hr
 apply pF 48 [] [] [] [.tmp 12,.tmp 13,.tmp 14] hr zHe Tryz.func16
 intro Φ hΦ hF g
 unfold zdj at hF
 refine wW ?_
 refine wJ hF (fun x3=>[(1,.v (.int .i64 a1)),(2,.v (vH a2)),(3,.v (vH a3)),(4,.v (vC a4)),(5,.v (vC a5)),(6,.bl [.int .i64 a0.P,.int .i64 a0.Q,.int .i64 a0.G]),(34,.v (.bool x3))]) (fun x3 hF=>?_) fun _ hj1 hF=>?_
 ·refine wI hF (fun h8 hF=>?_) (fun h8 hF=>?_)
  ·exact wl hΦ hF
  refine wW ?_
  refine wX zBF follows ?_
  refine wC hF [.sh] zfj (fun z9 hF=>?_)
  obtain⟨g,hF⟩:=Rg g hF
  refine wC hF [.sh,.sh,.sh,.sh] zeJ (fun z10 hF=>?_)
  refine wC hF [.sh,.sh] zgd (fun z11 hF=>?_)
  refine wK [12,13,14] ?_
  exact wm hΦ hF
 refine wC hF [.sh,.sh,.sh,.sh,.sh] zin (fun z4 hF=>?_)
 refine wG hF (fun h5 hF=>?_) fun h5 hF=>?_
 ·exact wV h5 (hj1 _) (zaa hF)
 try simp[go_sem,g,h5]
 try intros
 refine wG hF (fun h6 hF=>?_) fun h6 hF=>?_
 ·exact wV h6 (hj1 _) (zaa hF)
 try simp[go_sem,g,h6]
 refine wC hF [.sh,.sh] zdd (fun z7 hF=>?_)
 exact wV h6 (hj1 _) (zaa hF)
def zfv (a0:Int):Option Bool:=
 (zea a0).bind fun z1=>
 some z1
theorem zn1:∀{a0}{r},zfv a0=some r→PCalls Tryz.prog 58 [(.sh,.int .i64 a0)] (Eo (.bool r) [.junk]):=by
 intro a0 r hr
 apply pF 5 [] [] [] [.tmp 2] hr zFW Tryz.func58
 intro Φ hΦ hF g
 unfold zfv at hF
 refine wW ?_
 refine wC hF [.sh] zhQ (fun z1 hF=>?_)
 exact wl hΦ hF
def ze7 (a0:Int) (a1c0:Int):Option Bool:=
 (zbe a0 0 (i64.wrap (a1c0-1))).bind fun z1=>
 some z1
theorem zly:∀{a0}{a1c0}{r},ze7 a0 a1c0=some r→PCalls Tryz.prog 127 [(.sh,.int .i64 a0),(.sh,.fp [.int .i64 a1c0])] (Eo (.bool r) [.junk,.junk]):=by
 intro a0 a1c0 r hr
 apply pF 8 [] [] [] [.tmp 3] hr zBN Tryz.func127
 intro Φ hΦ hF g
 unfold ze7 at hF
 refine wW ?_
 refine wC hF [.sh,.sh,.sh] zcc (fun z1 hF=>?_)
 exact wl hΦ hF
def zbK (a0:Int) (a1c0u0c0:Int):Option Bool:=
 (ze7 a0 a1c0u0c0).bind fun z1=>
 some (!z1)
theorem zg3:∀{a0}{a1c0u0c0}{r},zbK a0 a1c0u0c0=some r→PCalls Tryz.prog 149 [(.sh,.int .i64 a0),(.sh,.fp [.func (.func 127) [] [.fp [.int .i64 a1c0u0c0]]])] (Eo (.bool r) [.junk,.junk]):=by
 intro a0 a1c0u0c0 r hr
 apply pF 8 [] [] [] [.tmp 3] hr znT Tryz.func149
 intro Φ hΦ hF g
 unfold zbK at hF
 refine wW ?_
 refine wC hF [.sh] zly (fun z1 hF=>?_)
 exact wl hΦ hF
def zbl (a0:List Int) (a1u0c0u0c0:Int):Option Int:=
 ((zap (σ:=Unit) (fun i5 s4=>
 (ix a0 i5).bind fun x11=>
 (zbK x11 a1u0c0u0c0).bind fun z12=>
 if z12=true then(
 some (.out (.inr i5)))else(
 some (.go ()))) (fun s4=>.inl ()) (a0.length) 0 ():Option (Unit ⊕ Int)).bind (Sum.elim (fun x3=>
 some (-1)) some))
theorem zd4:∀{a0}{a1u0c0u0c0}{r},zbl a0 a1u0c0u0c0=some r→PCalls Tryz.prog 171 [(.sh,vC a0),(.sh,.func (.func 149) [] [.fp [.func (.func 127) [] [.fp [.int .i64 a1u0c0u0c0]]]])] (Eo (.int .i64 r) [.junk,.junk]):=by
 intro a0 a1u0c0u0c0 r hr
 apply pF 19 [] [] [] [.tmp 4] hr znr Tryz.func171
 intro Φ hΦ hF g
 unfold zbl at hF
 iterate 2 (try simp[go_sem,g];try intros;refine zaD ?_)
 refine wS hF (fun x3=>[]) (fun x3 hF=>?_) fun _ hj1 hr2 hF=>?_
 ·exact wl hΦ hF
 refine wB ?_
 obtain⟨b14,hb15,hψ8⟩:=hF
 refine pR hb15 (fun i5 s4=>[(0,.v (vC a0)),(1,.v (.func (.func 149) [] [.fp [.func (.func 127) [] [.fp [.int .i64 a1u0c0u0c0]]]])),(7,.v (.int .i64 (a0.length:Int))),(8,.v (.int .i64 i5))]) (fun s4 _ hN16=>?_) (fun i5 s4 _ _ hi9 hi10 ho6 hg7 hF=>?_)
 ·exact wn hN16 (hj1 _) hψ8
 refine wW ?_
 refine wu hi9 hi10 ?_
 refine wW ?_
 refine wB ?_
 obtain⟨x11,g,hF⟩:=Rx g hF
 refine wW ?_
 refine wC hF [.sh] zg3 (fun z12 hF=>?_)
 refine wK [0,1,5,7,8,16] ?_
 refine wI hF (fun h13 hF=>?_) (fun h13 hF=>?_)
 ·cases ho6 _ (zaa hF)
  cases hΦ _ (hr2 _ hψ8)
  refine wW ?_
  try simp[go_sem,g]
 refine wW ?_
 exact wi hi9 hi10 (hg7 _) (zaa hF)
def zbc (a0:List Int) (a1u0c0u0c0:Int):Option Bool:=
 (zbl a0 a1u0c0u0c0).bind fun z1=>
 some (decide (0≤z1))
theorem zdK:∀{a0}{a1u0c0u0c0}{r},zbc a0 a1u0c0u0c0=some r→PCalls Tryz.prog 148 [(.sh,vC a0),(.sh,.func (.func 149) [] [.fp [.func (.func 127) [] [.fp [.int .i64 a1u0c0u0c0]]]])] (Eo (.bool r) [.junk,.junk]):=by
 intro a0 a1u0c0u0c0 r hr
 apply pF 9 [] [] [] [.tmp 4] hr znR Tryz.func148
 intro Φ hΦ hF g
 unfold zbc at hF
 refine wW ?_
 refine wC hF [.sh,.sh] zd4 (fun z1 hF=>?_)
 exact wl hΦ hF
def zcF (a0:List Int) (a1u0c0:Int):Option Bool:=
 (zbc a0 a1u0c0).bind fun z1=>
 some (!z1)
theorem zhq:∀{a0}{a1u0c0}{r},zcF a0 a1u0c0=some r→PCalls Tryz.prog 81 [(.sh,vC a0),(.sh,.func (.func 127) [] [.fp [.int .i64 a1u0c0]])] (Eo (.bool r) [.junk,.junk]):=by
 intro a0 a1u0c0 r hr
 apply pF 9 [] [] [1000000] [.tmp 4] hr zqy Tryz.func81
 intro Φ hΦ hF g
 unfold zcF at hF
 refine wW ?_
 refine wC hF [.sh,.sh] zdK (fun z1 hF=>?_)
 exact wl hΦ hF
def zfa (a0:List Int) (a1:Int):Option Bool:=
 (zcF a0 a1).bind fun z1=>
 some z1
theorem znK:∀{a0}{a1}{r},zfa a0 a1=some r→PCalls Tryz.prog 59 [(.sh,vC a0),(.sh,.int .i64 a1)] (Eo (.bool r) [.junk,.junk]):=by
 intro a0 a1 r hr
 apply pF 8 [] [] [1000000] [.tmp 4] hr zID Tryz.func59
 intro Φ hΦ hF g
 unfold zfa at hF
 refine wW ?_
 refine wC hF [.sh,.sh] zhq (fun z1 hF=>?_)
 exact wl hΦ hF
def zdM (a0:Int) (a1:Int) (a2:Int) (a3:Int) (a4:Int):Option (Int×Bool):=
 (((zfv a0).bind fun z4=>
 if(!z4)=true then(
 some true)else(
 (zbe a1 1 12).bind fun z6=>
 if(!z6)=true then(
 some true)else(
 (zfa [a2,a3,a4] a0).bind fun z8=>
 some (!z8))):Option Bool).bind fun x3=>
 if x3=true then(
 some (0,false))else(
 (zcU a0 a1 a2 a3 a4).bind fun z10=>
 some (z10,true)))
theorem zky:∀{a0}{a1}{a2}{a3}{a4}{r},zdM a0 a1 a2 a3 a4=some r→PCalls Tryz.prog 17 [(.sh,.int .i64 a0),(.sh,.int .i64 a1),(.sh,.int .i64 a2),(.sh,.int .i64 a3),(.sh,.int .i64 a4)] (Eo (.tup [.int .i64 r.1,.bool r.2]) [.junk,.junk,.junk,.junk,.junk]):=by
 intro a0 a1 a2 a3 a4 r hr
 apply pF 35 [] [] [] [.tmp 10,.tmp 11] hr zFr Tryz.func17
 intro Φ hΦ hF g
 unfold zdM at hF
 refine wW ?_
 refine wJ hF (fun x3=>[(0,.v (.int .i64 a0)),(1,.v (.int .i64 a1)),(2,.v (.int .i64 a2)),(3,.v (.int .i64 a3)),(4,.v (.int .i64 a4)),(28,.v (.bool x3))]) (fun x3 hF=>?_) fun _ hj1 hF=>?_
 ·refine wI hF (fun h9 hF=>?_) (fun h9 hF=>?_)
  ·exact wl hΦ hF
  refine wW ?_
  refine wC hF [.sh,.sh,.sh,.sh,.sh] zho (fun z10 hF=>?_)
  refine wK [10,11] ?_
  exact wm hΦ hF
 refine wC hF [.sh] zn1 (fun z4 hF=>?_)
 refine wG hF (fun h5 hF=>?_) fun h5 hF=>?_
 ·exact wV h5 (hj1 _) (zaa hF)
 try simp[go_sem,g,h5]
 refine wC hF [.sh,.sh,.sh] zcc (fun z6 hF=>?_)
 try simp[go_sem,g,h5]
 refine wG hF (fun h7 hF=>?_) fun h7 hF=>?_
 ·exact wV h7 (hj1 _) (zaa hF)
 try simp[go_sem,g,h7]
 refine wC hF [.sh,.sh] znK (fun z8 hF=>?_)
 exact wV h7 (hj1 _) (zaa hF)
def zfi (a0:Int) (a1:Int):Option Int:=
 gd (a1≠0)<|
 gd (a1≠0)<|
 some ((i64.wrap ((a0.tmod a1)+a1)).tmod a1)
theorem zrr:∀{a0}{a1}{r},zfi a0 a1=some r→PCalls Tryz.prog 18 [(.sh,.int .i64 a0),(.sh,.int .i64 a1)] (Eo (.int .i64 r) [.junk,.junk]):=by
 intro a0 a1 r hr
 apply pF 12 [] [] [] [.tmp 4] hr zIc Tryz.func18
 intro Φ hΦ hF g
 unfold zfi at hF
 obtain⟨g,hF⟩:=Rz g hF
 obtain⟨g,hF⟩:=Rz g hF
 cases hΦ _ (zaa hF)
 iterate 2 refine wW ?_
 try simp[go_sem,g]
@[go_sem] def zCb:List DE:=[d2 0 [5] 5 5,d0 1 [8],d0 2 [10],d0 3 [24],d0 4 [154,155],d3 5 [152,153,156],d0 6 [157],d0 7 [151],d0 8 [151],d0 9 [158],d0 10 [159]]
@[go_sem] def zCk:List DE:=[d0 0 [36],d0 1 [31],d0 2 [38],d0 3 [244],d1 4 [5] 5,d2 5 [246] 5 246,d0 6 [245,247],d0 7 [243,248],d0 8 [39],d0 9 [249,250],d0 10 [32],d0 11 [251,252],d1 12 [5] 5,d2 13 [254] 5 254,d1 16 [5] 5,d2 17 [258] 5 258,d3 14 [253,255],d0 15 [242,256],d0 18 [257,259],d0 19 [260]]
def zd6 (a0:List Int) (a1:List Int):Option Bool:=
 if decide (1048576<(i64.wrap ((a0.length:Int)+(a1.length:Int))))=true then(
 some true)else(
 (zcT a0).bind fun z2=>
 (zdr z2.1 z2.2.1 z2.2.2.1 z2.2.2.2.1 z2.2.2.2.2.1 z2.2.2.2.2.2).bind fun z3=>
 (zcM z2.1 z2.2.1 z2.2.2.1 z2.2.2.2.1 z2.2.2.2.2.1 z2.2.2.2.2.2).bind fun z4=>
 (zdt a1).bind fun z5=>
 (zdU z5.1 z5.2.1 z5.2.2.1 z5.2.2.2.1 z5.2.2.2.2).bind fun z6=>
 (zdR z5.1 z5.2.1 z5.2.2.1 z5.2.2.2.1 z5.2.2.2.2).bind fun z7=>
 ((if(z3.2 !=z4.2)=true then(
 some true)else(
 (zcQ z3.1.Places z4.1.Places).bind fun z12=>
 if(!z12)=true then(
 some true)else(
 (zcQ z3.1.Powers z4.1.Powers).bind fun z14=>
 if(!z14)=true then(
 some true)else(
 (zcQ z3.1.Chain z4.1.Chain).bind fun z16=>
 if(!z16)=true then(
 some true)else(
 (zf2 z3.1.Pi z4.1.Pi).bind fun z18=>
 if(!z18)=true then(
 some true)else(
 if(z6.2 !=z7.2)=true then(
 some true)else(
 some (z6.1 !=z7.1))))))):Option Bool).bind fun x10=>
 if x10=true then(
 some false)else(
 if(!z3.2)=true then(
 some true)else(
 gd (0≤(z2.2.2.1.length:Int))<|
 gd (0≤z2.2.2.1.length∧z2.2.2.1.length≤z2.2.2.2.2.2.length)<|
 (zd7 z2.1 z2.2.2.2.1 ((z2.2.2.2.2.2.take z2.2.2.1.length).drop 0)).bind fun z23=>
 (zez z2.1 z2.2.1 z2.2.2.1 z2.2.2.2.1 z2.2.2.2.2.1).bind fun z24=>
 (zdy z2.1 z2.2.1 z2.2.2.1 z24.1 z23.1).bind fun z25=>
 (zdj z2.1 z2.2.1 z2.2.2.1 z24.1 z23.1 z3.1.Powers).bind fun z26=>
 (zdM z2.1.Q (z2.2.2.1.length:Int) z25.1 z26.1 z26.2.1).bind fun z27=>
 ((if(!z23.2)=true then(
 some true)else(
 if(!z24.2)=true then(
 some true)else(
 if(!z25.2)=true then(
 some true)else(
 if(!z26.2.2)=true then(
 some true)else(
 if(!z27.2)=true then(
 some true)else(
 (zcQ z23.1 z3.1.Places).bind fun z36=>
 some (!z36)))))):Option Bool).bind fun x30=>
 if x30=true then(
 some false)else(
 ((zap (σ:=Int) (fun i42 s41=>
 (ix z2.2.2.2.1 i42).bind fun x48=>
 ((zbo (σ:=Int×Int) (fun s52=>
 if decide (s52.2≤x48)=true then(
 gd (z2.1.Q≠0)<|
 some (.go ((i64.wrap (s52.1*z25.1)).tmod z2.1.Q,i64.wrap (s52.2+1))))else(
 some (.out s52.1))) (1,0):Option Int).bind fun x51=>
 gd (z2.1.Q≠0)<|
 (zfi (i64.wrap ((i64.wrap ((i64.wrap (z26.1*((i64.wrap (x48+1)).tmod z2.1.Q)))+x51))-z26.2.1)) z2.1.Q).bind fun z60=>
 gd (z2.1.Q≠0)<|
 some (.go ((i64.wrap (s41*z60)).tmod z2.1.Q)))) (fun s41=>s41) (z2.2.2.2.1.length) 0 1:Option Int).bind fun x40=>
 gd (z2.1.Q≠0)<|
 some ((x40.tmod z2.1.Q)==z27.1))))))))
set_option maxHeartbeats 1000000 in
theorem zkR:∀{a0}{a1}{r},zd6 a0 a1=some r→PCalls Tryz.prog 3 [(.sh,.sl false 1 (a0.map zfp)),(.sh,.sl false 1 (a1.map zfp))] (Eo (.bool r) [.junk,.junk]):=by
 intro a0 a1 r hr
 apply pF 268 [] [59,60] [] [.tmp 4] hr cl3 Tryz.func3
 intro Φ hΦ hF g
 unfold zd6 at hF
 iterate 2 (try simp[go_sem,g];try intros;refine zaD ?_)
 refine wI hF (fun h1 hF=>?_) (fun h1 hF=>?_)
 ·exact wl hΦ hF
 refine wW ?_
 refine wC hF [.sh] zhA (fun z2 hF=>?_)
 refine wK [1,5,6,7,8,9,10] ?_
 refine wC hF [.sh,.sh,.sh,.sh,.sh,.sh] zmD (fun z3 hF=>?_)
 refine wK [1,5,6,7,8,9,10,11,12] ?_
 refine wC hF [.sh,.sh,.sh,.sh,.sh,.sh] zi1 (fun z4 hF=>?_)
 refine wK [1,5,6,7,8,9,10,11,12,13,14] ?_
 refine wC hF [.sh] zjO (fun z5 hF=>?_)
 refine wK [5,6,7,8,9,10,11,12,13,14,15,16,17,18,19] ?_
 refine wC hF [.sh,.sh,.sh,.sh,.sh] zme (fun z6 hF=>?_)
 refine wK [5,6,7,8,9,10,11,12,13,14,15,16,17,18,19,20,21] ?_
 refine wC hF [.sh,.sh,.sh,.sh,.sh] zmf (fun z7 hF=>?_)
 refine wK [5,6,7,8,9,10,11,12,13,14,20,21,22,23] ?_
 refine wJ hF (fun x10=>[(5,.bl [.int .i64 z2.1.P,.int .i64 z2.1.Q,.int .i64 z2.1.G]),(6,.v (.int .i64 z2.2.1)),(7,.v (vH z2.2.2.1)),(8,.v (vC z2.2.2.2.1)),(9,.v (vC z2.2.2.2.2.1)),(10,.v (vC z2.2.2.2.2.2)),(11,.bl [vC z3.1.Places,vC z3.1.Powers,vC z3.1.Chain,vC z3.1.Pi.Commits,vC z3.1.Pi.Challenges,vC z3.1.Pi.Responses]),(12,.v (.bool z3.2)),(146,.v (.bool x10))]) (fun x10 hF=>?_) fun _ hj8 hF=>?_
 ·refine wI hF (fun h21 hF=>?_) (fun h21 hF=>?_)
  ·exact wl hΦ hF
  iterate 2 refine wW ?_
  refine wI hF (fun h22 hF=>?_) (fun h22 hF=>?_)
  ·exact wl hΦ hF
  iterate 2 (try simp[go_sem,g];try intros;refine zaD ?_)
  refine wX zCb follows ?_
  obtain⟨g,hF⟩:=Rg g hF
  obtain⟨g,hF⟩:=Rg g hF
  refine wC hF [.sh,.sh,.sh] zkQ (fun z23 hF=>?_)
  refine wK [5,6,7,8,9,11,24,25,26] ?_
  refine wC hF [.sh,.sh,.sh,.sh,.sh] zma (fun z24 hF=>?_)
  refine wK [5,6,7,8,11,24,25,26,27,28] ?_
  refine wC hF [.sh,.sh,.sh,.sh,.sh] zkd (fun z25 hF=>?_)
  refine wK [5,6,7,8,11,24,25,26,27,28,29,30] ?_
  refine wC hF [.sh,.sh,.sh,.sh,.sh,.sh] zjN (fun z26 hF=>?_)
  refine wK [5,8,11,24,25,26,28,29,30,31,32,33] ?_
  refine wC hF [.sh,.sh,.sh,.sh,.sh] zky (fun z27 hF=>?_)
  refine wK [5,8,11,25,26,28,29,30,31,32,33,34,35] ?_
  refine wJ hF (fun x30=>[(5,.bl [.int .i64 z2.1.P,.int .i64 z2.1.Q,.int .i64 z2.1.G]),(8,.v (vC z2.2.2.2.1)),(29,.v (.int .i64 z25.1)),(31,.v (.int .i64 z26.1)),(32,.v (.int .i64 z26.2.1)),(34,.v (.int .i64 z27.1)),(224,.v (.bool x30))]) (fun x30 hF=>?_) fun _ hj28 hF=>?_
  ·refine wI hF (fun h37 hF=>?_) (fun h37 hF=>?_)
   ·exact wl hΦ hF
   iterate 3 (try simp[go_sem,g];try intros;refine zaD ?_)
   refine wJ hF (fun x40=>[(5,.bl [.int .i64 z2.1.P,.int .i64 z2.1.Q,.int .i64 z2.1.G]),(34,.v (.int .i64 z27.1)),(36,.v (.int .i64 x40))]) (fun x40 hF=>?_) fun _ hj38 hF=>?_
   ·obtain⟨g,hF⟩:=Rz g hF
    refine wK [4] ?_
    exact wm hΦ hF
   refine wB ?_
   obtain⟨b61,hb62,hψ45⟩:=hF
   refine pR hb62 (fun i42 s41=>[(5,.bl [.int .i64 z2.1.P,.int .i64 z2.1.Q,.int .i64 z2.1.G]),(29,.v (.int .i64 z25.1)),(31,.v (.int .i64 z26.1)),(32,.v (.int .i64 z26.2.1)),(34,.v (.int .i64 z27.1)),(36,.v (.int .i64 s41)),(225,.v (vC z2.2.2.2.1)),(226,.v (.int .i64 (z2.2.2.2.1.length:Int))),(227,.v (.int .i64 i42))]) (fun s41 _ hN63=>?_) (fun i42 s41 _ _ hi46 hi47 ho43 hg44 hF=>?_)
   ·exact wn hN63 (hj38 _) hψ45
   refine wW ?_
   refine wu hi46 hi47 ?_
   refine wW ?_
   refine wB ?_
   obtain⟨x48,g,hF⟩:=Rx g hF
   iterate 2 refine wW ?_
   refine wK [5,29,31,32,34,36,38,39,40,225,226,227] ?_
   refine wJ hF (fun x51=>[(5,.bl [.int .i64 z2.1.P,.int .i64 z2.1.Q,.int .i64 z2.1.G]),(29,.v (.int .i64 z25.1)),(31,.v (.int .i64 z26.1)),(32,.v (.int .i64 z26.2.1)),(34,.v (.int .i64 z27.1)),(36,.v (.int .i64 s41)),(38,.v (.int .i64 x48)),(39,.v (.int .i64 x51)),(225,.v (vC z2.2.2.2.1)),(226,.v (.int .i64 (z2.2.2.2.1.length:Int))),(227,.v (.int .i64 i42))]) (fun x51 hF=>?_) fun _ hj49 hF=>?_
   ·refine wX zCk follows ?_
    obtain⟨g,hF⟩:=Rz g hF
    refine wC hF [.sh,.sh] zrr (fun z60 hF=>?_)
    obtain⟨g,hF⟩:=Rz g hF
    refine wK [5,29,31,32,34,36,225,226,227] ?_
    exact wi hi46 hi47 (hg44 _) (zaa hF)
   refine wB ?_
   obtain⟨b58,hb59,hψ56⟩:=hF
   refine pL hb59 (fun s52=>[(5,.bl [.int .i64 z2.1.P,.int .i64 z2.1.Q,.int .i64 z2.1.G]),(29,.v (.int .i64 z25.1)),(31,.v (.int .i64 z26.1)),(32,.v (.int .i64 z26.2.1)),(34,.v (.int .i64 z27.1)),(36,.v (.int .i64 s41)),(38,.v (.int .i64 x48)),(39,.v (.int .i64 s52.1)),(40,.v (.int .i64 s52.2)),(225,.v (vC z2.2.2.2.1)),(226,.v (.int .i64 (z2.2.2.2.1.length:Int))),(227,.v (.int .i64 i42))]) (fun s52 _ _ ho54 hg55 hF=>?_)
   refine wW ?_
   refine wI hF (fun h57 hF=>?_) (fun h57 hF=>?_)
   ·refine wW ?_
    refine wB ?_
    obtain⟨g,hF⟩:=Rz g hF
    refine wK [5,29,31,32,34,36,38,39,40,225,226,227] ?_
    exact wT (hg55 _) (zaa hF)
   cases ho54 _ (zaa hF)
   exact wT (hj49 _) hψ56
  refine wG hF (fun h31 hF=>?_) fun h31 hF=>?_
  ·exact wV h31 (hj28 _) (zaa hF)
  try simp[go_sem,g,h31]
  refine wG hF (fun h32 hF=>?_) fun h32 hF=>?_
  ·exact wV h32 (hj28 _) (zaa hF)
  try simp[go_sem,g,h32]
  refine wG hF (fun h33 hF=>?_) fun h33 hF=>?_
  ·exact wV h33 (hj28 _) (zaa hF)
  try simp[go_sem,g,h33]
  refine wG hF (fun h34 hF=>?_) fun h34 hF=>?_
  ·exact wV h34 (hj28 _) (zaa hF)
  try simp[go_sem,g,h34]
  refine wG hF (fun h35 hF=>?_) fun h35 hF=>?_
  ·exact wV h35 (hj28 _) (zaa hF)
  try simp[go_sem,g,h35]
  refine wC hF [.sh,.sh] zeR (fun z36 hF=>?_)
  exact wV h35 (hj28 _) (zaa hF)
 refine wG hF (fun h11 hF=>?_) fun h11 hF=>?_
 ·exact wV h11 (hj8 _) (zaa hF)
 try simp[go_sem,g,h11]
 refine wC hF [.sh,.sh] zeR (fun z12 hF=>?_)
 try simp[go_sem,g,h11]
 refine wG hF (fun h13 hF=>?_) fun h13 hF=>?_
 ·exact wV h13 (hj8 _) (zaa hF)
 try simp[go_sem,g,h13]
 refine wC hF [.sh,.sh] zeR (fun z14 hF=>?_)
 try simp[go_sem,g,h13]
 refine wG hF (fun h15 hF=>?_) fun h15 hF=>?_
 ·exact wV h15 (hj8 _) (zaa hF)
 try simp[go_sem,g,h15]
 refine wC hF [.sh,.sh] zeR (fun z16 hF=>?_)
 try simp[go_sem,g,h15]
 refine wG hF (fun h17 hF=>?_) fun h17 hF=>?_
 ·exact wV h17 (hj8 _) (zaa hF)
 try simp[go_sem,g,h17]
 refine wC hF [.sh,.sh] zo4 (fun z18 hF=>?_)
 try simp[go_sem,g,h17]
 refine wG hF (fun h19 hF=>?_) fun h19 hF=>?_
 ·exact wV h19 (hj8 _) (zaa hF)
 try simp[go_sem,g,h19]
 refine wG hF (fun h20 hF=>?_) fun h20 hF=>?_
 ·exact wV h20 (hj8 _) (zaa hF)
 exact wV h20 (hj8 _) (zaa hF)
end
end Go.Pm
