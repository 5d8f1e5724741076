/-
  Plain functions and their walks. Written by wip/tools/lift.py.
-/
import Derived.Test.YthafgjhkjgcdeaaGreatM37
namespace Go.Pm
open Go.Am IntKind
open Go.Proofs
set_option maxRecDepth 100000
attribute [local irreducible] pw pwx pw1 pwg qv qz qf
attribute [-simp] List.map_set
set_option linter.unusedSimpArgs false
set_option linter.unusedVariables false
noncomputable section
def zdd (a0:Group) (a1:Bases) (a2:Int) (a3:List Cipher) (a4:List Int) (a5:List Int) (a6:List Int):Option (PolyProof×Bool):=
 (zan a6 (a3.length:Int)).bind fun z1=>
 (zan z1.2 (a3.length:Int)).bind fun z2=>
 (zan z2.2 (a3.length:Int)).bind fun z3=>
 (zan z3.2 (a3.length:Int)).bind fun z4=>
 (zan z4.2 (a3.length:Int)).bind fun z5=>
 (zan z5.2 (a3.length:Int)).bind fun z6=>
 (za7 z6.2).bind fun z7=>
 (zan z7.2 (a3.length:Int)).bind fun z8=>
 (zan z8.2 (a3.length:Int)).bind fun z9=>
 (za7 z9.2).bind fun z10=>
 (zdp a0 a2 a3 a4 a5).bind fun z11=>
 (zcz a0 a1 a4 z1.1).bind fun z12=>
 (zbL a2 a3 z11 z12).bind fun z13=>
 (zaz a0 (⟨#[109,105,120,32,120]⟩:ByteArray) z13).bind fun z14=>
 ((zaq (σ:=(List Int)×List Int×List Int×List Int×List Int×List Int×List Int) (fun i33 s32=>
 (ix a4 i33).bind fun x39=>
 (zbG z14.1 (i64.wrap (x39+1)) a0.Q).bind fun z40=>
 gd ((s32.2.2.2.2.2.2.length+1)*8≤140737488355328∧s32.2.2.2.2.2.2.length+1≤4611686018427387904)<|
 (some (s32.2.2.2.2.2.2++[z40])).bind fun x41=>
 (ix x41 i33).bind fun x43=>
 (ix z2.1 i33).bind fun x44=>
 (zaW a0 a1 x43 x44).bind fun z45=>
 gd ((s32.2.1.length+1)*8≤140737488355328∧s32.2.1.length+1≤4611686018427387904)<|
 some (.go (s32.1,s32.2.1++[z45],s32.2.2.1,s32.2.2.2.1,s32.2.2.2.2.1,s32.2.2.2.2.2.1,x41))) (fun s32=>(s32.1,s32.2.1,s32.2.2.1,s32.2.2.2.1,s32.2.2.2.2.1,s32.2.2.2.2.2.1,s32.2.2.2.2.2.2)) (a4.length) 0 (z12,[],[],[],[],[],[]):Option ((List Int×List Int×List Int×List Int×List Int×List Int×List Int))).bind fun x17=>
 (zb4 x17.1).bind fun z50=>
 gd ((z50.length+x17.2.1.length)*8≤140737488355328∧z50.length+x17.2.1.length≤4611686018427387904)<|
 (zbL a2 a3 z11 (z50++x17.2.1)).bind fun z51=>
 (zcu a0 z51).bind fun z52=>
 ((zaq (σ:=(List Int)×List Int×List Int×List Int×List Int×List Int×List Int×Int×List Int) (fun i80 s79=>
 (ix a4 i80).bind fun x86=>
 (ix x17.2.2.2.2.2.2 i80).bind fun x87=>
 (zak a0 (i64.wrap ((i64.wrap ((i64.wrap (z52.1*(i64.wrap (x86+1))))+x87))-z52.2.1))).bind fun z88=>
 gd ((s79.2.2.2.2.2.2.1.length+1)*8≤140737488355328∧s79.2.2.2.2.2.2.1.length+1≤4611686018427387904)<|
 (some (s79.2.2.2.2.2.2.1++[z88])).bind fun x89=>
 (ix x89 i80).bind fun x91=>
 (zak a0 (i64.wrap (s79.2.2.2.2.2.2.2.1*x91))).bind fun z92=>
 (ix z3.1 i80).bind fun x93=>
 (zaW a0 a1 z92 x93).bind fun z94=>
 gd ((s79.2.2.1.length+1)*8≤140737488355328∧s79.2.2.1.length+1≤4611686018427387904)<|
 ((if decide (0<i80)=true then(
 (ix z3.1 (i64.wrap (i80-1))).bind fun x99=>
 (zak a0 (i64.wrap (x99*x91))).bind fun z100=>
 (zak a0 (i64.wrap (x93-z100))).bind fun z101=>
 some z101)else(
 some x93):Option Int).bind fun x97=>
 gd ((s79.2.2.2.2.2.2.2.2.length+1)*8≤140737488355328∧s79.2.2.2.2.2.2.2.2.length+1≤4611686018427387904)<|
 some (.go (s79.1,s79.2.1,s79.2.2.1++[z94],s79.2.2.2.1,s79.2.2.2.2.1,s79.2.2.2.2.2.1,x89,z92,s79.2.2.2.2.2.2.2.2++[x97])))) (fun s79=>(s79.1,s79.2.1,s79.2.2.1,s79.2.2.2.1,s79.2.2.2.2.1,s79.2.2.2.2.2.1,s79.2.2.2.2.2.2.1,s79.2.2.2.2.2.2.2.2)) (a4.length) 0 (x17.1,x17.2.1,x17.2.2.1,x17.2.2.2.1,x17.2.2.2.2.1,x17.2.2.2.2.2.1,[],1,[]):Option ((List Int×List Int×List Int×List Int×List Int×List Int×List Int×List Int))).bind fun x55=>
 gd (([a0.G].length+x55.2.2.1.length)*8≤140737488355328∧[a0.G].length+x55.2.2.1.length≤4611686018427387904)<|
 (some ([a0.G]++x55.2.2.1)).bind fun x106=>
 ((zaq (σ:=(List Int)) (fun i112 s111=>
 (ix z4.1 i112).bind fun x118=>
 (ix z5.1 i112).bind fun x119=>
 (zaW a0 a1 x118 x119).bind fun z120=>
 gd ((s111.length+1)*8≤140737488355328∧s111.length+1≤4611686018427387904)<|
 some (.go (s111++[z120]))) (fun s111=>s111) (a3.length) 0 []:Option ((List Int))).bind fun x110=>
 ((zaq (σ:=(List Int)) (fun i129 s128=>
 (ix x106 i129).bind fun x135=>
 (ix z4.1 i129).bind fun x136=>
 (ix z6.1 i129).bind fun x137=>
 (zag a0 x135 x136).bind fun z138=>
 (zag a0 a1.H x137).bind fun z139=>
 (zai a0 [z138,z139]).bind fun z140=>
 gd ((s128.length+1)*8≤140737488355328∧s128.length+1≤4611686018427387904)<|
 some (.go (s128++[z140]))) (fun s128=>s128) (a3.length) 0 x110:Option ((List Int))).bind fun x127=>
 (zag a0 a1.H z7.1).bind fun z145=>
 gd ((x127.length+1)*8≤140737488355328∧x127.length+1≤4611686018427387904)<|
 ((zaq (σ:=(List Int)) (fun i150 s149=>
 (ix z8.1 i150).bind fun x156=>
 (ix z9.1 i150).bind fun x157=>
 (zaW a0 a1 x156 x157).bind fun z158=>
 gd ((s149.length+1)*8≤140737488355328∧s149.length+1≤4611686018427387904)<|
 some (.go (s149++[z158]))) (fun s149=>s149) (a3.length) 0 (x127++[z145]):Option ((List Int))).bind fun x148=>
 (zdf z11).bind fun z163=>
 (zag a0 a0.G (i64.wrap (0-z10.1))).bind fun z164=>
 (zaE a0 z163.1 z8.1).bind fun z165=>
 (zai a0 [z164,z165]).bind fun z166=>
 (zag a0 a2 (i64.wrap (0-z10.1))).bind fun z167=>
 (zaE a0 z163.2 z8.1).bind fun z168=>
 (zai a0 [z167,z168]).bind fun z169=>
 gd ((x148.length+2)*8≤140737488355328∧x148.length+2≤4611686018427387904)<|
 (zaS [z51,x55.2.2.1,x148++[z166,z169]]).bind fun z170=>
 (zaz a0 (⟨#[109,105,120,32,101,110,100]⟩:ByteArray) z170).bind fun z171=>
 ((if(!z14.2)=true then(
 some true)else(
 if(!z52.2.2)=true then(
 some true)else(
 some (!z171.2))):Option Bool).bind fun x174=>
 if x174=true then(
 some ((PolyProof.mk [] [] [] (Proof.mk [] [] [])),false))else(
 ((zaq (σ:=(List Int)×List Int×List Int×List Int×List Int) (fun i205 s204=>
 (ix z4.1 i205).bind fun x211=>
 (ix x55.2.2.2.2.2.2.1 i205).bind fun x212=>
 (zak a0 (i64.wrap (x211+(i64.wrap (z171.1*x212))))).bind fun z213=>
 gd ((s204.1.length+1)*8≤140737488355328∧s204.1.length+1≤4611686018427387904)<|
 (ix z5.1 i205).bind fun x214=>
 (ix z1.1 i205).bind fun x215=>
 (ix z2.1 i205).bind fun x216=>
 (zak a0 (i64.wrap ((i64.wrap (z52.1*x215))+x216))).bind fun z217=>
 (zak a0 (i64.wrap (x214+(i64.wrap (z171.1*z217))))).bind fun z218=>
 gd ((s204.2.1.length+1)*8≤140737488355328∧s204.2.1.length+1≤4611686018427387904)<|
 (ix z6.1 i205).bind fun x219=>
 (ix x55.2.2.2.2.2.2.2 i205).bind fun x220=>
 (zak a0 (i64.wrap (x219+(i64.wrap (z171.1*x220))))).bind fun z221=>
 gd ((s204.2.2.1.length+1)*8≤140737488355328∧s204.2.2.1.length+1≤4611686018427387904)<|
 (ix z8.1 i205).bind fun x222=>
 (ix x17.2.2.2.2.2.2 i205).bind fun x223=>
 (zak a0 (i64.wrap (x222+(i64.wrap (z171.1*x223))))).bind fun z224=>
 gd ((s204.2.2.2.1.length+1)*8≤140737488355328∧s204.2.2.2.1.length+1≤4611686018427387904)<|
 (ix z9.1 i205).bind fun x225=>
 (zak a0 (i64.wrap (x225+(i64.wrap (z171.1*x216))))).bind fun z226=>
 gd ((s204.2.2.2.2.length+1)*8≤140737488355328∧s204.2.2.2.2.length+1≤4611686018427387904)<|
 some (.go (s204.1++[z213],s204.2.1++[z218],s204.2.2.1++[z221],s204.2.2.2.1++[z224],s204.2.2.2.2++[z226]))) (fun s204=>(s204.1,s204.2.1,s204.2.2.1,s204.2.2.2.1,s204.2.2.2.2)) (a3.length) 0 ([],[],[],[],[]):Option ((List Int×List Int×List Int×List Int×List Int))).bind fun x180=>
 (ix z3.1 (i64.wrap ((a3.length:Int)-1))).bind fun x231=>
 (zak a0 (i64.wrap (z7.1+(i64.wrap (z171.1*x231))))).bind fun z232=>
 (zef a5 x17.2.2.2.2.2.2 a0.Q).bind fun z233=>
 (zak a0 (i64.wrap (z10.1+(i64.wrap (z171.1*z233))))).bind fun z234=>
 (zaS [x180.1,x180.2.1,x180.2.2.1,[z232],x180.2.2.2.1,x180.2.2.2.2,[z234]]).bind fun z235=>
 some ((PolyProof.mk x55.1 x55.2.1 x55.2.2.1 (Proof.mk (x148++[z166,z169]) [z171.1] z235)),true)))))))))
set_option maxHeartbeats 1000000 in
theorem zjC:∀{a0}{a1}{a2}{a3}{a4}{a5}{a6}{r},zdd a0 a1 a2 a3 a4 a5 a6=some r→PCalls Tryz.prog 33 [(.sh,vE a0),(.sh,vJ a1),(.sh,.int .i64 a2),(.sh,vH a3),(.sh,vC a4),(.sh,vC a5),(.sh,vC a6)] (Eo (.tup [vM r.1,.bool r.2]) [.junk,.junk,.junk,.junk,.junk,.junk,.junk]):=by
 intro a0 a1 a2 a3 a4 a5 a6 r hr
 apply pFz 528 [] [358,360,363,490,492,494,506,508,510,522,2107] [60] [.cell 14 32,.tmp 15] hr zJS Tryz.func33
 intro Φ hΦ hF g
 unfold zdd at hF
 try simp[go_sem,g]
 try intros
 refine zaT ?_
 try simp[go_sem,g]
 try intros
 refine wK [2,3,4,5,7,8,14,16,17] ?_
 refine wC hF [.io,.sh] zaA (fun z1 hF=>?_)
 refine wC hF [.io,.sh] zaA (fun z2 hF=>?_)
 refine wC hF [.io,.sh] zaA (fun z3 hF=>?_)
 refine wC hF [.io,.sh] zaA (fun z4 hF=>?_)
 refine wC hF [.io,.sh] zaA (fun z5 hF=>?_)
 refine wC hF [.io,.sh] zaA (fun z6 hF=>?_)
 refine wK [2,3,4,5,7,8,14,16,17,18,19,20,21,22,23] ?_
 refine wC hF [.io] zbU (fun z7 hF=>?_)
 refine wW ?_
 refine wC hF [.io,.sh] zaA (fun z8 hF=>?_)
 refine wC hF [.io,.sh] zaA (fun z9 hF=>?_)
 refine wK [2,3,4,5,7,8,14,16,17,18,19,20,21,22,23,24,25,26] ?_
 refine wC hF [.io] zbU (fun z10 hF=>?_)
 refine wW ?_
 refine wC hF [.sh,.sh,.sh,.sh,.sh] zg0 (fun z11 hF=>?_)
 refine wK [2,3,4,5,7,8,14,16,18,19,20,21,22,23,24,25,26,27,28] ?_
 refine wC hF [.sh,.sh,.sh,.sh] zit (fun z12 hF=>?_)
 refine wW ?_
 refine wX zCW follows ?_
 refine wC hF [.sh,.sh,.sh,.sh] zeL (fun z13 hF=>?_)
 refine wC hF [.sh,.sh,.sh] zbv (fun z14 hF=>?_)
 refine wK [2,3,4,5,7,8,14,16,18,19,20,21,22,23,24,25,26,27,28,29,30,31] ?_
 iterate 2 (try simp[go_sem,g];try intros;refine zaT ?_)
 refine wJ hF (fun x17=>[(2,.v (.int .i64 a2)),(3,.v (vH a3)),(4,.v (vC a4)),(5,.v (vC a5)),(7,.bl [.int .i64 a0.P,.int .i64 a0.Q,.int .i64 a0.G]),(8,.bl [.int .i64 a1.H,vC a1.Hs]),(14,.bl [.sl true 1 [],.sl true 1 [],.sl true 1 [],.sl true 1 [],.sl true 1 [],.sl true 1 []]),(16,.v (.int .i64 (a3.length:Int))),(18,.v (vC z1.1)),(19,.v (vC z2.1)),(20,.v (vC z3.1)),(21,.v (vC z4.1)),(22,.v (vC z5.1)),(23,.v (vC z6.1)),(24,.v (.int .i64 z7.1)),(25,.v (vC z8.1)),(26,.v (vC z9.1)),(27,.v (.int .i64 z10.1)),(28,.v (vG z11)),(29,.bl [vD x17.1,vD x17.2.1,vD x17.2.2.1,vD x17.2.2.2.1,vD x17.2.2.2.2.1,vD x17.2.2.2.2.2.1]),(31,.v (.bool z14.2)),(32,.v (vD x17.2.2.2.2.2.2))]) (fun x17 hF=>?_) fun _ hj15 hF=>?_
 ·refine wX zzn follows ?_
  refine wC hF [.sh] zfr (fun z50 hF=>?_)
  obtain⟨g,hF⟩:=Rg g hF
  refine wC hF [.sh,.sh,.sh,.sh] zeL (fun z51 hF=>?_)
  refine wK [2,4,5,7,8,14,16,18,19,20,21,22,23,24,25,26,27,28,29,31,32,35] ?_
  refine wC hF [.sh,.sh] zhA (fun z52 hF=>?_)
  refine wK [2,4,5,7,8,14,16,18,19,20,21,22,23,24,25,26,27,28,29,31,32,35,36,37,38] ?_
  iterate 2 (try simp[go_sem,g];try intros;refine zaT ?_)
  refine wJ hF (fun x55=>[(2,.v (.int .i64 a2)),(5,.v (vC a5)),(7,.bl [.int .i64 a0.P,.int .i64 a0.Q,.int .i64 a0.G]),(8,.bl [.int .i64 a1.H,vC a1.Hs]),(14,.bl [.sl true 1 [],.sl true 1 [],.sl true 1 [],.sl true 1 [],.sl true 1 [],.sl true 1 []]),(16,.v (.int .i64 (a3.length:Int))),(18,.v (vC z1.1)),(19,.v (vC z2.1)),(20,.v (vC z3.1)),(21,.v (vC z4.1)),(22,.v (vC z5.1)),(23,.v (vC z6.1)),(24,.v (.int .i64 z7.1)),(25,.v (vC z8.1)),(26,.v (vC z9.1)),(27,.v (.int .i64 z10.1)),(28,.v (vG z11)),(29,.bl [vD x55.1,vD x55.2.1,vD x55.2.2.1,vD x55.2.2.2.1,vD x55.2.2.2.2.1,vD x55.2.2.2.2.2.1]),(31,.v (.bool z14.2)),(32,.v (vD x17.2.2.2.2.2.2)),(35,.v (vD z51)),(36,.v (.int .i64 z52.1)),(38,.v (.bool z52.2.2)),(39,.v (vD x55.2.2.2.2.2.2.1)),(41,.v (vD x55.2.2.2.2.2.2.2))]) (fun x55 hF=>?_) fun _ hj53 hF=>?_
  ·obtain⟨g,hF⟩:=Rg g hF
   obtain⟨x106,e107,hF⟩:=zdR hF
   have g:=And.intro g (show[.int .i64 a0.G]::(List.map zax x55.2.2.1)=x106.map zax by injection e107 with e107;rw[←e107];simp[go_sem])
   refine wK [2,5,7,8,14,16,18,19,20,21,22,23,24,25,26,27,28,29,31,32,35,36,38,39,41,45] ?_
   iterate 2 refine wW ?_
   refine wJ hF (fun x110=>[(2,.v (.int .i64 a2)),(5,.v (vC a5)),(7,.bl [.int .i64 a0.P,.int .i64 a0.Q,.int .i64 a0.G]),(8,.bl [.int .i64 a1.H,vC a1.Hs]),(14,.bl [.sl true 1 [],.sl true 1 [],.sl true 1 [],.sl true 1 [],.sl true 1 [],.sl true 1 []]),(16,.v (.int .i64 (a3.length:Int))),(18,.v (vC z1.1)),(19,.v (vC z2.1)),(20,.v (vC z3.1)),(21,.v (vC z4.1)),(22,.v (vC z5.1)),(23,.v (vC z6.1)),(24,.v (.int .i64 z7.1)),(25,.v (vC z8.1)),(26,.v (vC z9.1)),(27,.v (.int .i64 z10.1)),(28,.v (vG z11)),(29,.bl [vD x55.1,vD x55.2.1,vD x55.2.2.1,vD x55.2.2.2.1,vD x55.2.2.2.2.1,vD x55.2.2.2.2.2.1]),(31,.v (.bool z14.2)),(32,.v (vD x17.2.2.2.2.2.2)),(35,.v (vD z51)),(36,.v (.int .i64 z52.1)),(38,.v (.bool z52.2.2)),(39,.v (vD x55.2.2.2.2.2.2.1)),(41,.v (vD x55.2.2.2.2.2.2.2)),(45,.v (vD x106)),(46,.v (vD x110))]) (fun x110 hF=>?_) fun _ hj108 hF=>?_
   ·refine wW ?_
    refine wJ hF (fun x127=>[(2,.v (.int .i64 a2)),(5,.v (vC a5)),(7,.bl [.int .i64 a0.P,.int .i64 a0.Q,.int .i64 a0.G]),(8,.bl [.int .i64 a1.H,vC a1.Hs]),(14,.bl [.sl true 1 [],.sl true 1 [],.sl true 1 [],.sl true 1 [],.sl true 1 [],.sl true 1 []]),(16,.v (.int .i64 (a3.length:Int))),(18,.v (vC z1.1)),(19,.v (vC z2.1)),(20,.v (vC z3.1)),(21,.v (vC z4.1)),(22,.v (vC z5.1)),(23,.v (vC z6.1)),(24,.v (.int .i64 z7.1)),(25,.v (vC z8.1)),(26,.v (vC z9.1)),(27,.v (.int .i64 z10.1)),(28,.v (vG z11)),(29,.bl [vD x55.1,vD x55.2.1,vD x55.2.2.1,vD x55.2.2.2.1,vD x55.2.2.2.2.1,vD x55.2.2.2.2.2.1]),(31,.v (.bool z14.2)),(32,.v (vD x17.2.2.2.2.2.2)),(35,.v (vD z51)),(36,.v (.int .i64 z52.1)),(38,.v (.bool z52.2.2)),(39,.v (vD x55.2.2.2.2.2.2.1)),(41,.v (vD x55.2.2.2.2.2.2.2)),(46,.v (vD x127))]) (fun x127 hF=>?_) fun _ hj125 hF=>?_
    ·refine wC hF [.sh,.sh,.sh] zaj (fun z145 hF=>?_)
     obtain⟨g,hF⟩:=Rg g hF
     refine wK [2,5,7,8,14,16,18,19,20,21,22,23,24,25,26,27,28,29,31,32,35,36,38,39,41,46] ?_
     refine wW ?_
     refine wJ hF (fun x148=>[(2,.v (.int .i64 a2)),(5,.v (vC a5)),(7,.bl [.int .i64 a0.P,.int .i64 a0.Q,.int .i64 a0.G]),(14,.bl [.sl true 1 [],.sl true 1 [],.sl true 1 [],.sl true 1 [],.sl true 1 [],.sl true 1 []]),(16,.v (.int .i64 (a3.length:Int))),(18,.v (vC z1.1)),(19,.v (vC z2.1)),(20,.v (vC z3.1)),(21,.v (vC z4.1)),(22,.v (vC z5.1)),(23,.v (vC z6.1)),(24,.v (.int .i64 z7.1)),(25,.v (vC z8.1)),(26,.v (vC z9.1)),(27,.v (.int .i64 z10.1)),(28,.v (vG z11)),(29,.bl [vD x55.1,vD x55.2.1,vD x55.2.2.1,vD x55.2.2.2.1,vD x55.2.2.2.2.1,vD x55.2.2.2.2.2.1]),(31,.v (.bool z14.2)),(32,.v (vD x17.2.2.2.2.2.2)),(35,.v (vD z51)),(36,.v (.int .i64 z52.1)),(38,.v (.bool z52.2.2)),(39,.v (vD x55.2.2.2.2.2.2.1)),(41,.v (vD x55.2.2.2.2.2.2.2)),(46,.v (vD x148))]) (fun x148 hF=>?_) fun _ hj146 hF=>?_
     ·refine wC hF [.sh] zfE (fun z163 hF=>?_)
      refine wW ?_
      refine wX zzY follows ?_
      refine wC hF [.sh,.sh,.sh] zaj (fun z164 hF=>?_)
      refine wC hF [.sh,.sh,.sh] zaX (fun z165 hF=>?_)
      refine wC hF [.sh,.sh] zas (fun z166 hF=>?_)
      refine wC hF [.sh,.sh,.sh] zaj (fun z167 hF=>?_)
      refine wC hF [.sh,.sh,.sh] zaX (fun z168 hF=>?_)
      refine wC hF [.sh,.sh] zas (fun z169 hF=>?_)
      obtain⟨g,hF⟩:=Rg g hF
      refine wK [5,7,14,16,18,19,20,21,22,23,24,25,26,27,29,31,32,35,36,38,39,41] ?_
      refine wX zyI follows ?_
      refine wC hF [.sh] zcY (fun z170 hF=>?_)
      refine wC hF [.sh,.sh,.sh] zbv (fun z171 hF=>?_)
      refine wK [5,7,14,16,18,19,20,21,22,23,24,25,26,27,29,31,32,36,38,39,41,52,53] ?_
      refine wJ hF (fun x174=>[(5,.v (vC a5)),(7,.bl [.int .i64 a0.P,.int .i64 a0.Q,.int .i64 a0.G]),(14,.bl [.sl true 1 [],.sl true 1 [],.sl true 1 [],.sl true 1 [],.sl true 1 [],.sl true 1 []]),(16,.v (.int .i64 (a3.length:Int))),(18,.v (vC z1.1)),(19,.v (vC z2.1)),(20,.v (vC z3.1)),(21,.v (vC z4.1)),(22,.v (vC z5.1)),(23,.v (vC z6.1)),(24,.v (.int .i64 z7.1)),(25,.v (vC z8.1)),(26,.v (vC z9.1)),(27,.v (.int .i64 z10.1)),(29,.bl [vD x55.1,vD x55.2.1,vC x55.2.2.1,vC (x148++[z166,z169]),vD x55.2.2.2.2.1,vD x55.2.2.2.2.2.1]),(32,.v (vD x17.2.2.2.2.2.2)),(36,.v (.int .i64 z52.1)),(39,.v (vD x55.2.2.2.2.2.2.1)),(41,.v (vD x55.2.2.2.2.2.2.2)),(52,.v (.int .i64 z171.1)),(378,.v (.bool x174))]) (fun x174 hF=>?_) fun _ hj172 hF=>?_
      ·refine wI hF (fun h177 hF=>?_) (fun h177 hF=>?_)
       ·exact wl hΦ hF
       iterate 3 refine wW ?_
       refine wK [5,7,14,16,18,19,20,21,22,23,24,25,26,27,29,32,36,39,41,52,54,385,386] ?_
       refine wJ hF (fun x180=>[(5,.v (vC a5)),(7,.bl [.int .i64 a0.P,.int .i64 a0.Q,.int .i64 a0.G]),(14,.bl [.sl true 1 [],.sl true 1 [],.sl true 1 [],.sl true 1 [],.sl true 1 [],.sl true 1 []]),(16,.v (.int .i64 (a3.length:Int))),(20,.v (vC z3.1)),(24,.v (.int .i64 z7.1)),(27,.v (.int .i64 z10.1)),(29,.bl [vD x55.1,vD x55.2.1,vC x55.2.2.1,vC (x148++[z166,z169]),vD [z171.1],vD x55.2.2.2.2.2.1]),(32,.v (vD x17.2.2.2.2.2.2)),(52,.v (.int .i64 z171.1)),(54,.bl [vD x180.1,vD x180.2.1,vD x180.2.2.1,vD x180.2.2.2.1,vD x180.2.2.2.2])]) (fun x180 hF=>?_) fun _ hj178 hF=>?_
       ·refine wX zzR follows ?_
        obtain⟨x231,g,hF⟩:=Rx g hF
        refine wC hF [.sh,.sh] zaO (fun z232 hF=>?_)
        refine wC hF [.sh,.sh,.sh] zkv (fun z233 hF=>?_)
        refine wC hF [.sh,.sh] zaO (fun z234 hF=>?_)
        refine wC hF [.sh] zcY (fun z235 hF=>?_)
        refine wK [14,29] ?_
        exact wl hΦ hF
       refine wB ?_
       obtain⟨b227,hb228,hψ208⟩:=hF
       refine pR hb228 (fun i205 s204=>[(5,.v (vC a5)),(7,.bl [.int .i64 a0.P,.int .i64 a0.Q,.int .i64 a0.G]),(14,.bl [.sl true 1 [],.sl true 1 [],.sl true 1 [],.sl true 1 [],.sl true 1 [],.sl true 1 []]),(16,.v (.int .i64 (a3.length:Int))),(18,.v (vC z1.1)),(19,.v (vC z2.1)),(20,.v (vC z3.1)),(21,.v (vC z4.1)),(22,.v (vC z5.1)),(23,.v (vC z6.1)),(24,.v (.int .i64 z7.1)),(25,.v (vC z8.1)),(26,.v (vC z9.1)),(27,.v (.int .i64 z10.1)),(29,.bl [vD x55.1,vD x55.2.1,vC x55.2.2.1,vC (x148++[z166,z169]),vD [z171.1],vD x55.2.2.2.2.2.1]),(32,.v (vD x17.2.2.2.2.2.2)),(36,.v (.int .i64 z52.1)),(39,.v (vD x55.2.2.2.2.2.2.1)),(41,.v (vD x55.2.2.2.2.2.2.2)),(52,.v (.int .i64 z171.1)),(54,.bl [vD s204.1,vD s204.2.1,vD s204.2.2.1,vD s204.2.2.2.1,vD s204.2.2.2.2]),(385,.v (.int .i64 (a3.length:Int))),(386,.v (.int .i64 i205))]) (fun s204 _ hN229=>?_) (fun i205 s204 _ _ hi209 hi210 ho206 hg207 hF=>?_)
       ·exact wn hN229 (hj178 _) hψ208
       refine wW ?_
       refine wu hi209 hi210 ?_
       refine wW ?_
       refine wB ?_
       refine wW ?_
       refine wX zyM follows ?_
       obtain⟨x211,g,hF⟩:=Rx g hF
       obtain⟨x212,g,hF⟩:=Rx g hF
       refine wC hF [.sh,.sh] zaO (fun z213 hF=>?_)
       obtain⟨g,hF⟩:=Rg g hF
       refine wK [5,7,14,16,18,19,20,21,22,23,24,25,26,27,29,32,36,39,41,52,54,55,385,386] ?_
       refine wX zzA follows ?_
       obtain⟨x214,g,hF⟩:=Rx g hF
       obtain⟨x215,g,hF⟩:=Rx g hF
       obtain⟨x216,g,hF⟩:=Rx g hF
       refine wD hF zaO (fun z217 hF=>?_)
       refine wC hF [.sh,.sh] zaO (fun z218 hF=>?_)
       obtain⟨g,hF⟩:=Rg g hF
       refine wK [5,7,14,16,18,19,20,21,22,23,24,25,26,27,29,32,36,39,41,52,54,55,385,386] ?_
       refine wX zAa follows ?_
       obtain⟨x219,g,hF⟩:=Rx g hF
       obtain⟨x220,g,hF⟩:=Rx g hF
       refine wC hF [.sh,.sh] zaO (fun z221 hF=>?_)
       obtain⟨g,hF⟩:=Rg g hF
       refine wK [5,7,14,16,18,19,20,21,22,23,24,25,26,27,29,32,36,39,41,52,54,55,385,386] ?_
       refine wX zzg follows ?_
       obtain⟨x222,g,hF⟩:=Rx g hF
       obtain⟨x223,g,hF⟩:=Rx g hF
       refine wC hF [.sh,.sh] zaO (fun z224 hF=>?_)
       obtain⟨g,hF⟩:=Rg g hF
       refine wK [5,7,14,16,18,19,20,21,22,23,24,25,26,27,29,32,36,39,41,52,54,55,385,386] ?_
       refine wX zzW follows ?_
       obtain⟨x225,g,hF⟩:=Rx g hF
       refine wC hF [.sh,.sh] zaO (fun z226 hF=>?_)
       obtain⟨g,hF⟩:=Rg g hF
       refine wK [5,7,14,16,18,19,20,21,22,23,24,25,26,27,29,32,36,39,41,52,54,385,386] ?_
       exact wi hi209 hi210 (hg207 _) (zac hF)
      refine wG hF (fun h175 hF=>?_) fun h175 hF=>?_
      ·exact wV h175 (hj172 _) (zac hF)
      try simp[go_sem,g,h175]
      refine wG hF (fun h176 hF=>?_) fun h176 hF=>?_
      ·exact wV h176 (hj172 _) (zac hF)
      exact wV h176 (hj172 _) (zac hF)
     refine wB ?_
     obtain⟨b159,hb160,hψ153⟩:=hF
     refine pR hb160 (fun i150 s149=>[(2,.v (.int .i64 a2)),(5,.v (vC a5)),(7,.bl [.int .i64 a0.P,.int .i64 a0.Q,.int .i64 a0.G]),(8,.bl [.int .i64 a1.H,vC a1.Hs]),(14,.bl [.sl true 1 [],.sl true 1 [],.sl true 1 [],.sl true 1 [],.sl true 1 [],.sl true 1 []]),(16,.v (.int .i64 (a3.length:Int))),(18,.v (vC z1.1)),(19,.v (vC z2.1)),(20,.v (vC z3.1)),(21,.v (vC z4.1)),(22,.v (vC z5.1)),(23,.v (vC z6.1)),(24,.v (.int .i64 z7.1)),(25,.v (vC z8.1)),(26,.v (vC z9.1)),(27,.v (.int .i64 z10.1)),(28,.v (vG z11)),(29,.bl [vD x55.1,vD x55.2.1,vD x55.2.2.1,vD x55.2.2.2.1,vD x55.2.2.2.2.1,vD x55.2.2.2.2.2.1]),(31,.v (.bool z14.2)),(32,.v (vD x17.2.2.2.2.2.2)),(35,.v (vD z51)),(36,.v (.int .i64 z52.1)),(38,.v (.bool z52.2.2)),(39,.v (vD x55.2.2.2.2.2.2.1)),(41,.v (vD x55.2.2.2.2.2.2.2)),(46,.v (vD s149)),(302,.v (.int .i64 (a3.length:Int))),(303,.v (.int .i64 i150))]) (fun s149 _ hN161=>?_) (fun i150 s149 _ _ hi154 hi155 ho151 hg152 hF=>?_)
     ·exact wn hN161 (hj146 _) hψ153
     refine wW ?_
     refine wu hi154 hi155 ?_
     refine wW ?_
     refine wB ?_
     refine wW ?_
     refine wX zAz follows ?_
     obtain⟨x156,g,hF⟩:=Rx g hF
     obtain⟨x157,g,hF⟩:=Rx g hF
     refine wC hF [.sh,.sh,.sh,.sh] zcw (fun z158 hF=>?_)
     obtain⟨g,hF⟩:=Rg g hF
     refine wK [2,5,7,8,14,16,18,19,20,21,22,23,24,25,26,27,28,29,31,32,35,36,38,39,41,46,302,303] ?_
     exact wi hi154 hi155 (hg152 _) (zac hF)
    refine wB ?_
    obtain⟨b141,hb142,hψ132⟩:=hF
    refine pR hb142 (fun i129 s128=>[(2,.v (.int .i64 a2)),(5,.v (vC a5)),(7,.bl [.int .i64 a0.P,.int .i64 a0.Q,.int .i64 a0.G]),(8,.bl [.int .i64 a1.H,vC a1.Hs]),(14,.bl [.sl true 1 [],.sl true 1 [],.sl true 1 [],.sl true 1 [],.sl true 1 [],.sl true 1 []]),(16,.v (.int .i64 (a3.length:Int))),(18,.v (vC z1.1)),(19,.v (vC z2.1)),(20,.v (vC z3.1)),(21,.v (vC z4.1)),(22,.v (vC z5.1)),(23,.v (vC z6.1)),(24,.v (.int .i64 z7.1)),(25,.v (vC z8.1)),(26,.v (vC z9.1)),(27,.v (.int .i64 z10.1)),(28,.v (vG z11)),(29,.bl [vD x55.1,vD x55.2.1,vD x55.2.2.1,vD x55.2.2.2.1,vD x55.2.2.2.2.1,vD x55.2.2.2.2.2.1]),(31,.v (.bool z14.2)),(32,.v (vD x17.2.2.2.2.2.2)),(35,.v (vD z51)),(36,.v (.int .i64 z52.1)),(38,.v (.bool z52.2.2)),(39,.v (vD x55.2.2.2.2.2.2.1)),(41,.v (vD x55.2.2.2.2.2.2.2)),(45,.v (vD x106)),(46,.v (vD s128)),(265,.v (.int .i64 (a3.length:Int))),(266,.v (.int .i64 i129))]) (fun s128 _ hN143=>?_) (fun i129 s128 _ _ hi133 hi134 ho130 hg131 hF=>?_)
    ·exact wn hN143 (hj125 _) hψ132
    refine wW ?_
    refine wu hi133 hi134 ?_
    refine wW ?_
    refine wB ?_
    refine wW ?_
    refine wX zAf follows ?_
    obtain⟨x135,g,hF⟩:=Rx g hF
    obtain⟨x136,g,hF⟩:=Rx g hF
    obtain⟨x137,g,hF⟩:=Rx g hF
    refine wD hF zaj (fun z138 hF=>?_)
    refine wC hF [.sh,.sh,.sh] zaj (fun z139 hF=>?_)
    refine wC hF [.sh,.sh] zas (fun z140 hF=>?_)
    obtain⟨g,hF⟩:=Rg g hF
    refine wK [2,5,7,8,14,16,18,19,20,21,22,23,24,25,26,27,28,29,31,32,35,36,38,39,41,45,46,265,266] ?_
    exact wi hi133 hi134 (hg131 _) (zac hF)
   refine wB ?_
   obtain⟨b121,hb122,hψ115⟩:=hF
   refine pR hb122 (fun i112 s111=>[(2,.v (.int .i64 a2)),(5,.v (vC a5)),(7,.bl [.int .i64 a0.P,.int .i64 a0.Q,.int .i64 a0.G]),(8,.bl [.int .i64 a1.H,vC a1.Hs]),(14,.bl [.sl true 1 [],.sl true 1 [],.sl true 1 [],.sl true 1 [],.sl true 1 [],.sl true 1 []]),(16,.v (.int .i64 (a3.length:Int))),(18,.v (vC z1.1)),(19,.v (vC z2.1)),(20,.v (vC z3.1)),(21,.v (vC z4.1)),(22,.v (vC z5.1)),(23,.v (vC z6.1)),(24,.v (.int .i64 z7.1)),(25,.v (vC z8.1)),(26,.v (vC z9.1)),(27,.v (.int .i64 z10.1)),(28,.v (vG z11)),(29,.bl [vD x55.1,vD x55.2.1,vD x55.2.2.1,vD x55.2.2.2.1,vD x55.2.2.2.2.1,vD x55.2.2.2.2.2.1]),(31,.v (.bool z14.2)),(32,.v (vD x17.2.2.2.2.2.2)),(35,.v (vD z51)),(36,.v (.int .i64 z52.1)),(38,.v (.bool z52.2.2)),(39,.v (vD x55.2.2.2.2.2.2.1)),(41,.v (vD x55.2.2.2.2.2.2.2)),(45,.v (vD x106)),(46,.v (vD s111)),(246,.v (.int .i64 (a3.length:Int))),(247,.v (.int .i64 i112))]) (fun s111 _ hN123=>?_) (fun i112 s111 _ _ hi116 hi117 ho113 hg114 hF=>?_)
   ·exact wn hN123 (hj108 _) hψ115
   refine wW ?_
   refine wu hi116 hi117 ?_
   refine wW ?_
   refine wB ?_
   refine wW ?_
   refine wX zAB follows ?_
   obtain⟨x118,g,hF⟩:=Rx g hF
   obtain⟨x119,g,hF⟩:=Rx g hF
   refine wC hF [.sh,.sh,.sh,.sh] zcw (fun z120 hF=>?_)
   obtain⟨g,hF⟩:=Rg g hF
   refine wK [2,5,7,8,14,16,18,19,20,21,22,23,24,25,26,27,28,29,31,32,35,36,38,39,41,45,46,246,247] ?_
   exact wi hi116 hi117 (hg114 _) (zac hF)
  refine wB ?_
  obtain⟨b102,hb103,hψ83⟩:=hF
  refine pR hb103 (fun i80 s79=>[(2,.v (.int .i64 a2)),(5,.v (vC a5)),(7,.bl [.int .i64 a0.P,.int .i64 a0.Q,.int .i64 a0.G]),(8,.bl [.int .i64 a1.H,vC a1.Hs]),(14,.bl [.sl true 1 [],.sl true 1 [],.sl true 1 [],.sl true 1 [],.sl true 1 [],.sl true 1 []]),(16,.v (.int .i64 (a3.length:Int))),(18,.v (vC z1.1)),(19,.v (vC z2.1)),(20,.v (vC z3.1)),(21,.v (vC z4.1)),(22,.v (vC z5.1)),(23,.v (vC z6.1)),(24,.v (.int .i64 z7.1)),(25,.v (vC z8.1)),(26,.v (vC z9.1)),(27,.v (.int .i64 z10.1)),(28,.v (vG z11)),(29,.bl [vD s79.1,vD s79.2.1,vD s79.2.2.1,vD s79.2.2.2.1,vD s79.2.2.2.2.1,vD s79.2.2.2.2.2.1]),(31,.v (.bool z14.2)),(32,.v (vD x17.2.2.2.2.2.2)),(35,.v (vD z51)),(36,.v (.int .i64 z52.1)),(37,.v (.int .i64 z52.2.1)),(38,.v (.bool z52.2.2)),(39,.v (vD s79.2.2.2.2.2.2.1)),(40,.v (.int .i64 s79.2.2.2.2.2.2.2.1)),(41,.v (vD s79.2.2.2.2.2.2.2.2)),(165,.v (vC a4)),(166,.v (.int .i64 (a4.length:Int))),(167,.v (.int .i64 i80))]) (fun s79 _ hN104=>?_) (fun i80 s79 _ _ hi84 hi85 ho81 hg82 hF=>?_)
  ·exact wn hN104 (hj53 _) hψ83
  refine wW ?_
  refine wu hi84 hi85 ?_
  refine wW ?_
  refine wB ?_
  obtain⟨x86,g,hF⟩:=Rx g hF
  refine wK [2,5,7,8,14,16,18,19,20,21,22,23,24,25,26,27,28,29,31,32,35,36,37,38,39,40,41,42,43,165,166,167] ?_
  refine wX zAE follows ?_
  obtain⟨x87,g,hF⟩:=Rx g hF
  refine wC hF [.sh,.sh] zaO (fun z88 hF=>?_)
  obtain⟨g,hF⟩:=Rg g hF
  refine wK [2,5,7,8,14,16,18,19,20,21,22,23,24,25,26,27,28,29,31,32,35,36,37,38,39,40,41,42,165,166,167] ?_
  refine wX zAI follows ?_
  obtain⟨x89,e90,hF⟩:=zdR hF
  have g:=And.intro g (show List.map zax s79.2.2.2.2.2.2.1++[[.int .i64 z88]]=x89.map zax by injection e90 with e90;rw[←e90];simp[go_sem])
  obtain⟨x91,g,hF⟩:=Rx g hF
  refine wC hF [.sh,.sh] zaO (fun z92 hF=>?_)
  refine wW ?_
  refine wX zyH follows ?_
  obtain⟨x93,g,hF⟩:=Rx g hF
  refine wC hF [.sh,.sh,.sh,.sh] zcw (fun z94 hF=>?_)
  obtain⟨g,hF⟩:=Rg g hF
  refine wK [2,5,7,8,14,16,18,19,20,21,22,23,24,25,26,27,28,29,31,32,35,36,37,38,39,40,41,42,165,166,167] ?_
  iterate 2 refine wW ?_
  refine wJ hF (fun x97=>[(2,.v (.int .i64 a2)),(5,.v (vC a5)),(7,.bl [.int .i64 a0.P,.int .i64 a0.Q,.int .i64 a0.G]),(8,.bl [.int .i64 a1.H,vC a1.Hs]),(14,.bl [.sl true 1 [],.sl true 1 [],.sl true 1 [],.sl true 1 [],.sl true 1 [],.sl true 1 []]),(16,.v (.int .i64 (a3.length:Int))),(18,.v (vC z1.1)),(19,.v (vC z2.1)),(20,.v (vC z3.1)),(21,.v (vC z4.1)),(22,.v (vC z5.1)),(23,.v (vC z6.1)),(24,.v (.int .i64 z7.1)),(25,.v (vC z8.1)),(26,.v (vC z9.1)),(27,.v (.int .i64 z10.1)),(28,.v (vG z11)),(29,.bl [vD s79.1,vD s79.2.1,vD (s79.2.2.1++[z94]),vD s79.2.2.2.1,vD s79.2.2.2.2.1,vD s79.2.2.2.2.2.1]),(31,.v (.bool z14.2)),(32,.v (vD x17.2.2.2.2.2.2)),(35,.v (vD z51)),(36,.v (.int .i64 z52.1)),(37,.v (.int .i64 z52.2.1)),(38,.v (.bool z52.2.2)),(39,.v (vD x89)),(40,.v (.int .i64 z92)),(41,.v (vD s79.2.2.2.2.2.2.2.2)),(44,.v (.int .i64 x97)),(165,.v (vC a4)),(166,.v (.int .i64 (a4.length:Int))),(167,.v (.int .i64 i80))]) (fun x97 hF=>?_) fun _ hj95 hF=>?_
  ·obtain⟨g,hF⟩:=Rg g hF
   refine wK [2,5,7,8,14,16,18,19,20,21,22,23,24,25,26,27,28,29,31,32,35,36,37,38,39,40,41,165,166,167] ?_
   exact wi hi84 hi85 (hg82 _) (zac hF)
  refine wI hF (fun h98 hF=>?_) (fun h98 hF=>?_)
  ·refine wX zAt follows ?_
   obtain⟨x99,g,hF⟩:=Rx g hF
   refine wD hF zaO (fun z100 hF=>?_)
   refine wC hF [.sh,.sh] zaO (fun z101 hF=>?_)
   exact wT (hj95 _) (zac hF)
  exact wT (hj95 _) (zac hF)
 refine wB ?_
 obtain⟨b46,hb47,hψ36⟩:=hF
 refine pR hb47 (fun i33 s32=>[(2,.v (.int .i64 a2)),(3,.v (vH a3)),(4,.v (vC a4)),(5,.v (vC a5)),(7,.bl [.int .i64 a0.P,.int .i64 a0.Q,.int .i64 a0.G]),(8,.bl [.int .i64 a1.H,vC a1.Hs]),(14,.bl [.sl true 1 [],.sl true 1 [],.sl true 1 [],.sl true 1 [],.sl true 1 [],.sl true 1 []]),(16,.v (.int .i64 (a3.length:Int))),(18,.v (vC z1.1)),(19,.v (vC z2.1)),(20,.v (vC z3.1)),(21,.v (vC z4.1)),(22,.v (vC z5.1)),(23,.v (vC z6.1)),(24,.v (.int .i64 z7.1)),(25,.v (vC z8.1)),(26,.v (vC z9.1)),(27,.v (.int .i64 z10.1)),(28,.v (vG z11)),(29,.bl [vD s32.1,vD s32.2.1,vD s32.2.2.1,vD s32.2.2.2.1,vD s32.2.2.2.2.1,vD s32.2.2.2.2.2.1]),(30,.v (.int .i64 z14.1)),(31,.v (.bool z14.2)),(32,.v (vD s32.2.2.2.2.2.2)),(113,.v (vC a4)),(114,.v (.int .i64 (a4.length:Int))),(115,.v (.int .i64 i33))]) (fun s32 _ hN48=>?_) (fun i33 s32 _ _ hi37 hi38 ho34 hg35 hF=>?_)
 ·exact wn hN48 (hj15 _) hψ36
 refine wW ?_
 refine wu hi37 hi38 ?_
 refine wW ?_
 refine wB ?_
 obtain⟨x39,g,hF⟩:=Rx g hF
 refine wK [2,3,4,5,7,8,14,16,18,19,20,21,22,23,24,25,26,27,28,29,30,31,32,33,34,113,114,115] ?_
 refine wC hF [.sh,.sh,.sh] zfx (fun z40 hF=>?_)
 obtain⟨g,hF⟩:=Rg g hF
 refine wK [2,3,4,5,7,8,14,16,18,19,20,21,22,23,24,25,26,27,28,29,30,31,32,33,113,114,115] ?_
 refine wX zzM follows ?_
 obtain⟨x41,e42,hF⟩:=zdR hF
 have g:=And.intro g (show List.map zax s32.2.2.2.2.2.2++[[.int .i64 z40]]=x41.map zax by injection e42 with e42;rw[←e42];simp[go_sem])
 obtain⟨x43,g,hF⟩:=Rx g hF
 obtain⟨x44,g,hF⟩:=Rx g hF
 refine wC hF [.sh,.sh,.sh,.sh] zcw (fun z45 hF=>?_)
 obtain⟨g,hF⟩:=Rg g hF
 refine wK [2,3,4,5,7,8,14,16,18,19,20,21,22,23,24,25,26,27,28,29,30,31,32,113,114,115] ?_
 exact wi hi37 hi38 (hg35 _) (zac hF)
def zeN (a0:Group) (a1:Int) (a2:List Cipher) (a3:List Int) (a4:List Int) (a5:List Int):Option (PolyProof×Bool):=
 (zd9 a0 a1 a2).bind fun z1=>
 ((if(!z1.2)=true then(
 some true)else(
 (zce a0 a3 a4 (a2.length:Int)).bind fun z6=>
 if(!z6)=true then(
 some true)else(
 if((a5.length:Int) !=(i64.wrap ((i64.wrap (8*(a2.length:Int)))+2)))=true then(
 some true)else(
 (zbH a0 a5).bind fun z9=>
 some (!z9)))):Option Bool).bind fun x4=>
 if x4=true then(
 some ((PolyProof.mk [] [] [] (Proof.mk [] [] [])),false))else(
 (zdd a0 z1.1 a1 a2 a3 a4 a5).bind fun z11=>
 some (z11.1,z11.2)))
theorem zm0:∀{a0}{a1}{a2}{a3}{a4}{a5}{r},zeN a0 a1 a2 a3 a4 a5=some r→PCalls Tryz.prog 6 [(.sh,vE a0),(.sh,.int .i64 a1),(.sh,vH a2),(.sh,vC a3),(.sh,vC a4),(.sh,vC a5)] (Eo (.tup [vM r.1,.bool r.2]) [.junk,.junk,.junk,.junk,.junk,.junk]):=by
 intro a0 a1 a2 a3 a4 a5 r hr
 apply pFz 60 [] [51] [] [.cell 12 32,.tmp 13] hr cl6 Tryz.func6
 intro Φ hΦ hF g
 unfold zeN at hF
 refine wW ?_
 refine wC hF [.sh,.sh,.sh] ziU (fun z1 hF=>?_)
 refine wK [1,2,3,4,5,6,12,14,15] ?_
 refine wJ hF (fun x4=>[(1,.v (.int .i64 a1)),(2,.v (vH a2)),(3,.v (vC a3)),(4,.v (vC a4)),(5,.v (vC a5)),(6,.bl [.int .i64 a0.P,.int .i64 a0.Q,.int .i64 a0.G]),(12,.bl [.sl true 1 [],.sl true 1 [],.sl true 1 [],.sl true 1 [],.sl true 1 [],.sl true 1 []]),(14,.bl [.int .i64 z1.1.H,vD z1.1.Hs]),(48,.v (.bool x4))]) (fun x4 hF=>?_) fun _ hj2 hF=>?_
 ·refine wI hF (fun h10 hF=>?_) (fun h10 hF=>?_)
  ·exact wl hΦ hF
  refine wW ?_
  refine wC hF [.sh,.sh,.sh,.sh,.sh,.sh,.sh] zjC (fun z11 hF=>?_)
  refine wK [12,13] ?_
  exact wm hΦ hF
 refine wG hF (fun h5 hF=>?_) fun h5 hF=>?_
 ·exact wV h5 (hj2 _) (zac hF)
 try simp[go_sem,g,h5]
 try intros
 refine wC hF [.sh,.sh,.sh,.sh] zfA (fun z6 hF=>?_)
 try simp[go_sem,g,h5]
 refine wG hF (fun h7 hF=>?_) fun h7 hF=>?_
 ·exact wV h7 (hj2 _) (zac hF)
 try simp[go_sem,g,h7]
 try intros
 refine wG hF (fun h8 hF=>?_) fun h8 hF=>?_
 ·exact wV h8 (hj2 _) (zac hF)
 try simp[go_sem,g,h8]
 refine wC hF [.sh,.sh] zdI (fun z9 hF=>?_)
 exact wV h8 (hj2 _) (zac hF)
def zbX (a0:Int) (a1c0x0:Group):Option Bool:=
 (zcM a1c0x0 a0).bind fun z1=>
 some (!z1)
theorem zhf:∀{a0}{a1c0x0}{r},zbX a0 a1c0x0=some r→PCalls Tryz.prog 149 [(.sh,.int .i64 a0),(.sh,.fp [.func (.func 123) [vE a1c0x0] []])] (Eo (.bool r) [.junk,.junk]):=by
 intro a0 a1c0x0 r hr
 apply pF 8 [] [] [] [.tmp 3] hr zpd Tryz.func149
 intro Φ hΦ hF g
 unfold zbX at hF
 refine wW ?_
 refine wC hF [.sh] zfX (fun z1 hF=>?_)
 exact wl hΦ hF
def za5 (a0:List Int) (a1u0c0x0:Group):Option Int:=
 ((zaq (σ:=Unit) (fun i5 s4=>
 (ix a0 i5).bind fun x11=>
 (zbX x11 a1u0c0x0).bind fun z12=>
 if z12=true then(
 some (.out (.inr i5)))else(
 some (.go ()))) (fun s4=>.inl ()) (a0.length) 0 ():Option (Unit ⊕ Int)).bind (Sum.elim (fun x3=>
 some (-1)) some))
theorem zd8:∀{a0}{a1u0c0x0}{r},za5 a0 a1u0c0x0=some r→PCalls Tryz.prog 171 [(.sh,vC a0),(.sh,.func (.func 149) [] [.fp [.func (.func 123) [vE a1u0c0x0] []]])] (Eo (.int .i64 r) [.junk,.junk]):=by
 intro a0 a1u0c0x0 r hr
 apply pF 19 [] [] [] [.tmp 4] hr zo0 Tryz.func171
 intro Φ hΦ hF g
 unfold za5 at hF
 iterate 2 (try simp[go_sem,g];try intros;refine zaT ?_)
 refine wS hF (fun x3=>[]) (fun x3 hF=>?_) fun _ hj1 hr2 hF=>?_
 ·exact wl hΦ hF
 refine wB ?_
 obtain⟨b14,hb15,hψ8⟩:=hF
 refine pR hb15 (fun i5 s4=>[(0,.v (vC a0)),(1,.v (.func (.func 149) [] [.fp [.func (.func 123) [vE a1u0c0x0] []]])),(7,.v (.int .i64 (a0.length:Int))),(8,.v (.int .i64 i5))]) (fun s4 _ hN16=>?_) (fun i5 s4 _ _ hi9 hi10 ho6 hg7 hF=>?_)
 ·exact wn hN16 (hj1 _) hψ8
 refine wW ?_
 refine wu hi9 hi10 ?_
 refine wW ?_
 refine wB ?_
 obtain⟨x11,g,hF⟩:=Rx g hF
 refine wW ?_
 refine wC hF [.sh] zhf (fun z12 hF=>?_)
 refine wK [0,1,5,7,8,16] ?_
 refine wI hF (fun h13 hF=>?_) (fun h13 hF=>?_)
 ·cases ho6 _ (zac hF)
  cases hΦ _ (hr2 _ hψ8)
  refine wW ?_
  try simp[go_sem,g]
 refine wW ?_
 exact wi hi9 hi10 (hg7 _) (zac hF)
def zaZ (a0:List Int) (a1u0c0x0:Group):Option Bool:=
 (za5 a0 a1u0c0x0).bind fun z1=>
 some (decide (0≤z1))
theorem zdS:∀{a0}{a1u0c0x0}{r},zaZ a0 a1u0c0x0=some r→PCalls Tryz.prog 148 [(.sh,vC a0),(.sh,.func (.func 149) [] [.fp [.func (.func 123) [vE a1u0c0x0] []]])] (Eo (.bool r) [.junk,.junk]):=by
 intro a0 a1u0c0x0 r hr
 apply pF 9 [] [] [] [.tmp 4] hr zoU Tryz.func148
 intro Φ hΦ hF g
 unfold zaZ at hF
 refine wW ?_
 refine wC hF [.sh,.sh] zd8 (fun z1 hF=>?_)
 exact wl hΦ hF
def zcG (a0:List Int) (a1x0:Group):Option Bool:=
 (zaZ a0 a1x0).bind fun z1=>
 some (!z1)
theorem zhx:∀{a0}{a1x0}{r},zcG a0 a1x0=some r→PCalls Tryz.prog 81 [(.sh,vC a0),(.sh,.func (.func 123) [vE a1x0] [])] (Eo (.bool r) [.junk,.junk]):=by
 intro a0 a1x0 r hr
 apply pF 9 [] [] [1000000] [.tmp 4] hr ztb Tryz.func81
 intro Φ hΦ hF g
 unfold zcG at hF
 refine wW ?_
 refine wC hF [.sh,.sh] zdS (fun z1 hF=>?_)
 exact wl hΦ hF
def zbn (a0:Group) (a1:List Int):Option Bool:=
 (zcG a1 a0).bind fun z1=>
 some z1
theorem zcy:∀{a0}{a1}{r},zbn a0 a1=some r→PCalls Tryz.prog 55 [(.sh,vE a0),(.sh,vC a1)] (Eo (.bool r) [.junk,.junk]):=by
 intro a0 a1 r hr
 apply pF 9 [] [] [] [.tmp 4] hr zJR Tryz.func55
 intro Φ hΦ hF g
 unfold zbn at hF
 refine wW ?_
 refine wC hF [.sh,.sh] zhx (fun z1 hF=>?_)
 exact wl hΦ hF
def zcB (a0:Group) (a1:MatrixProof) (a2:Int):Option Bool:=
 ((if((a1.Columns.length:Int)==a2)=true then(
 if((a1.Chain.length:Int)==a2)=true then(
 if((a1.Pi.Commits.length:Int)==(i64.wrap (a2+5)))=true then(
 if((a1.Pi.Challenges.length:Int)==1)=true then(
 if((a1.Pi.Responses.length:Int)==(i64.wrap ((i64.wrap (2*a2))+4)))=true then(
 (zbn a0 a1.Columns).bind fun z9=>
 if z9=true then(
 (zbn a0 a1.Chain).bind fun z11=>
 if z11=true then(
 (zbn a0 a1.Pi.Commits).bind fun z13=>
 if z13=true then(
 (zbH a0 a1.Pi.Responses).bind fun z15=>
 some z15)else(
 some false))else(
 some false))else(
 some false))else(
 some false))else(
 some false))else(
 some false))else(
 some false))else(
 some false):Option Bool).bind fun x3=>
 some x3)
theorem ziq:∀{a0}{a1}{a2}{r},zcB a0 a1 a2=some r→PCalls Tryz.prog 141 [(.sh,vE a0),(.sh,vL a1),(.sh,.int .i64 a2)] (Eo (.bool r) [.junk,.junk,.junk]):=by
 intro a0 a1 a2 r hr
 apply pF 71 [] [] [] [.tmp 6] hr zEz Tryz.func141
 intro Φ hΦ hF g
 unfold zcB at hF
 refine wW ?_
 refine wJ hF (fun x3=>[(6,.v (.bool x3))]) (fun x3 hF=>?_) fun _ hj1 hF=>?_
 ·exact wm hΦ hF
 try simp[go_sem,g]
 try intros
 refine wG hF (fun h4 hF=>?_) fun h4 hF=>?_
 ·try simp[go_sem,g,h4]
  try intros
  refine wG hF (fun h5 hF=>?_) fun h5 hF=>?_
  ·try simp[go_sem,g,h5]
   try intros
   refine wG hF (fun h6 hF=>?_) fun h6 hF=>?_
   ·try simp[go_sem,g,h6]
    try intros
    refine wG hF (fun h7 hF=>?_) fun h7 hF=>?_
    ·try simp[go_sem,g,h7]
     try intros
     refine wG hF (fun h8 hF=>?_) fun h8 hF=>?_
     ·try simp[go_sem,g,h8]
      refine wC hF [.sh,.sh] zcy (fun z9 hF=>?_)
      try simp[go_sem,g,h8]
      refine wG hF (fun h10 hF=>?_) fun h10 hF=>?_
      ·try simp[go_sem,g,h10]
       refine wC hF [.sh,.sh] zcy (fun z11 hF=>?_)
       try simp[go_sem,g,h10]
       refine wG hF (fun h12 hF=>?_) fun h12 hF=>?_
       ·try simp[go_sem,g,h12]
        refine wC hF [.sh,.sh] zcy (fun z13 hF=>?_)
        try simp[go_sem,g,h12]
        refine wG hF (fun h14 hF=>?_) fun h14 hF=>?_
        ·try simp[go_sem,g,h14]
         refine wC hF [.sh,.sh] zdI (fun z15 hF=>?_)
         exact wV h14 (hj1 _) (zac hF)
        exact wV h14 (hj1 _) (zac hF)
       exact wV h12 (hj1 _) (zac hF)
      exact wV h10 (hj1 _) (zac hF)
     exact wV h8 (hj1 _) (zac hF)
    exact wV h7 (hj1 _) (zac hF)
   exact wV h6 (hj1 _) (zac hF)
  exact wV h5 (hj1 _) (zac hF)
 exact wV h4 (hj1 _) (zac hF)
@[go_sem] def zzf:List DE:=[d2 0 [3] 3 3,d0 1 [1],d2 2 [3] 3 3,d0 3 [2],d3 4 [9,10],d0 5 [8,11],⟨6,[7,12],[],none,true,true,true⟩,d0 7 [13]]
def zc3 (a0:Group) (a1:Int) (a2:Int):Option Int:=
 (zd5 a0 a2).bind fun z1=>
 (zai a0 [a1,z1]).bind fun z2=>
 some z2
theorem zgF:∀{a0}{a1}{a2}{r},zc3 a0 a1 a2=some r→PCalls Tryz.prog 117 [(.sh,vE a0),(.sh,.int .i64 a1),(.sh,.int .i64 a2)] (Eo (.int .i64 r) [.junk,.junk,.junk]):=by
 intro a0 a1 a2 r hr
 apply pF 14 [] [] [] [.tmp 6] hr zCg Tryz.func117
 intro Φ hΦ hF g
 unfold zc3 at hF
 refine wW ?_
 refine wX zzf follows ?_
 refine wC hF [.sh,.sh] zje (fun z1 hF=>?_)
 refine wC hF [.sh,.sh] zas (fun z2 hF=>?_)
 refine wK [6] ?_
 exact wm hΦ hF
@[go_sem] def zyL:List DE:=[d0 0 [3],d0 1 [0],d0 2 [3],d0 3 [1],d0 4 [4],d0 8 [2],⟨5,[11,12,13],[],none,false,true,false⟩,d0 6 [10,14],⟨7,[9,15],[],none,true,true,true⟩,d0 9 [16,17],d0 10 [18]]
def zaN (a0:Int) (a1:Int) (a2:Int) (a3c0:Int) (a3c1:Int) (a3c2:Int) (a4c0:Int):Option Bool:=
 (zag (Group.mk a3c0 a3c1 a3c2) a1 a4c0).bind fun z1=>
 (zai (Group.mk a3c0 a3c1 a3c2) [a0,z1]).bind fun z2=>
 some (z2==a2)
theorem zbM:∀{a0}{a1}{a2}{a3c0}{a3c1}{a3c2}{a4c0}{r},zaN a0 a1 a2 a3c0 a3c1 a3c2 a4c0=some r→PCalls Tryz.prog 142 [(.sh,.int .i64 a0),(.sh,.int .i64 a1),(.sh,.int .i64 a2),(.sh,.fp [.int .i64 a3c0,.int .i64 a3c1,.int .i64 a3c2]),(.sh,.fp [.int .i64 a4c0])] (Eo (.bool r) [.junk,.junk,.junk,.junk,.junk]):=by
 intro a0 a1 a2 a3c0 a3c1 a3c2 a4c0 r hr
 apply pF 19 [] [] [] [.tmp 8] hr zC3 Tryz.func142
 intro Φ hΦ hF g
 unfold zaN at hF
 refine wW ?_
 refine wX zyL follows ?_
 refine wD hF zaj (fun z1 hF=>?_)
 refine wC hF [.sh,.sh] zas (fun z2 hF=>?_)
 refine wK [8] ?_
 exact wm hΦ hF
@[go_sem] def zyR:List DE:=[d0 0 [29],d0 1 [19],d0 2 [121],d0 3 [122],d0 4 [6],d0 5 [6],d1 6 [11] 11,d2 7 [126] 11 126,d0 9 [6],d1 10 [7] 7,d2 11 [130] 7 130,d0 14 [6],d0 15 [6],d0 16 [135],d0 17 [20],d0 18 [137],d0 19 [138],⟨8,[125,127],[],none,false,true,false⟩,⟨12,[129,131],[],none,false,true,false⟩,⟨13,[124,128,132],[],none,false,true,false⟩,⟨20,[134,136,139],[],none,false,true,false⟩,d3 21 [120,123,133,140],d0 22 [141],d0 23 [29,142],d0 24 [19,142],d0 25 [144,142],d0 26 [145,142],d0 27 [6,142],d1 28 [11,142] 11,d2 29 [148,142] 11 148,d0 30 [15,142],d0 32 [6,142],d0 33 [6,142],d0 34 [6,142],d0 35 [154,142],d0 36 [20,142],d0 37 [156,142],d0 38 [157,142],d0 40 [6,142],d1 41 [7,142] 7,d2 42 [161,142] 7 161,d0 43 [21,142],⟨31,[147,149,150,142],[],none,false,true,false⟩,⟨39,[153,155,158,142],[],none,false,true,false⟩,⟨44,[160,162,163,142],[],none,false,true,false⟩,d0 45 [159,164,142],⟨46,[152,165,142],[],none,true,true,false⟩,d3 47 [143,146,151,166,142],d0 48 [142,167],d0 49 [168],d0 50 [29,169],d0 51 [19,169],d0 52 [171,169],d0 53 [172,169],d0 54 [6,169],d1 55 [11,169] 11,d2 56 [175,169] 11 175,d0 57 [13,169],d0 58 [177,169],d0 59 [176,178,169],d0 60 [179,169],d0 61 [6,169],d1 62 [7,169] 7,d2 63 [182,169] 7 182,d0 64 [22,169],d0 67 [6,169],d0 68 [6,169],d0 69 [188,169],d0 70 [20,169],d0 71 [190,169],d0 72 [191,169],⟨65,[181,183,184,169],[],none,false,true,false⟩,⟨66,[174,180,185,169],[],none,false,true,false⟩,⟨73,[187,189,192,169],[],none,false,true,false⟩,d3 74 [170,173,186,193,169],d0 75 [169,194],d0 76 [195],d0 77 [29,196],d0 78 [19,196],d0 79 [198,196],d0 80 [199,196],d0 81 [6,196],d0 82 [25,196],d0 83 [15,196],d0 85 [6,196],d0 86 [6,196],d0 87 [6,196],d0 88 [207,196],d0 89 [20,196],d0 90 [209,196],d0 91 [210,196],d0 92 [211,196],d0 94 [6,196],d0 95 [27,196],d0 96 [21,196],⟨84,[201,202,203,196],[],none,false,true,false⟩,⟨93,[206,208,212,196],[],none,false,true,false⟩,⟨97,[214,215,216,196],[],none,false,true,false⟩,d0 98 [213,217,196],⟨99,[205,218,196],[],none,true,true,false⟩,d3 100 [197,200,204,219,196],d0 101 [196,220],d0 102 [221],d0 103 [29,222],d0 104 [19,222],d0 105 [224,222],d0 106 [225,222],d0 107 [6,222],d0 108 [26,222],d0 109 [15,222],d0 111 [6,222],d0 112 [6,222],d0 113 [2,222],d0 114 [20,222],d0 115 [234,222],d0 116 [235,222],d0 117 [236,222],d0 119 [6,222],d0 120 [28,222],d0 121 [21,222],⟨110,[227,228,229,222],[],none,false,true,false⟩,⟨118,[232,233,237,222],[],none,false,true,false⟩,⟨122,[239,240,241,222],[],none,false,true,false⟩,d0 123 [238,242,222],⟨124,[231,243,222],[],none,true,true,false⟩,d3 125 [223,226,230,244,222],d0 126 [222,245],d0 127 [246]]
@[go_sem] def zzo:List DE:=[d0 0 [30],d0 1 [257],d0 2 [29,258],d0 3 [19,258],d0 4 [32,258],d0 5 [261,258],d0 6 [260,262,258],d0 7 [263,258],d1 8 [11,258] 11,d2 9 [265,258] 11 265,d0 10 [32,258],d0 11 [266,267,258],d0 12 [268,258],d0 13 [6,258],d0 14 [6,258],d0 15 [6,258],d0 16 [272,258],d0 17 [20,258],d0 18 [32,258],d0 19 [275,258],d0 20 [274,276,258],d0 21 [277,258],d0 23 [6,258],d0 24 [31,258],d0 25 [32,258],d0 26 [281,282,258],d0 27 [283,258],d0 28 [21,258],d0 29 [32,258],d0 30 [285,286,258],d0 31 [287,258],⟨22,[271,273,278,258],[],none,false,true,false⟩,⟨32,[280,284,288,258],[],none,false,true,false⟩,d0 33 [279,289,258],⟨34,[270,290,258],[],none,true,true,false⟩,d3 35 [259,264,269,291,258],d0 36 [258,292],d0 37 [293]]
@[go_sem] def zDG:List DE:=[d2 0 [6] 6 6,d0 1 [14],d1 2 [11] 11,d2 3 [62] 11 62,d1 4 [11] 11,d1 5 [64] 11,d2 6 [65] 11 65,d0 7 [61,63,66],d0 13 [],⟨8,[67],[],none,true,true,true⟩,d3 9 [60,68],d0 10 [69],d0 11 [59],d0 12 [59],d2 14 [17,70] 17 17,d0 15 [71]]
@[go_sem] def zD3:List DE:=[d0 0 [16],d0 1 [72],d0 2 [73],d0 3 [18,74],d0 4 [75,74],d0 5 [74,76],d0 6 [77],d1 7 [11,78] 11,d1 8 [79,78] 11,d2 9 [80,78] 11 80,d0 10 [81,78],d0 11 [82,78],d2 12 [17,78] 17 17,d0 13 [83,84,78],d0 14 [78,85]]
@[go_sem] def zDc:List DE:=[d1 0 [11] 11,d1 1 [87] 11,d2 2 [88] 11 88,d1 3 [11] 11,d1 4 [90] 11,d2 5 [91] 11 91,d0 6 [89],d0 7 [92]]
def zb7 (a0:Group) (a1:Bases) (a2:Int) (a3:List Cipher) (a4:List Cipher) (a5:MatrixProof):Option Bool:=
 ((if((a4.length:Int) !=(a3.length:Int))=true then(
 some true)else(
 (zcB a0 a5 (a3.length:Int)).bind fun z5=>
 some (!z5)):Option Bool).bind fun x3=>
 if x3=true then(
 some false)else(
 (zbL a2 a3 a4 a5.Columns).bind fun z7=>
 (zbC a0 (⟨#[109,105,120,32,99,111,108,117,109,110,115]⟩:ByteArray) z7 (a3.length:Int)).bind fun z8=>
 (zaS [z7,a5.Chain,a5.Pi.Commits]).bind fun z9=>
 (zaz a0 (⟨#[109,105,120,32,112,114,111,111,102]⟩:ByteArray) z9).bind fun z10=>
 ((if(!z8.2)=true then(
 some true)else(
 if(!z10.2)=true then(
 some true)else(
 (ix a5.Pi.Challenges 0).bind fun x16=>
 some (x16 !=z10.1))):Option Bool).bind fun x13=>
 if x13=true then(
 some false)else(
 gd (0≤(i64.wrap ((a3.length:Int)+4)))<|
 gd ((i64.wrap ((a3.length:Int)+4)).toNat≤a5.Pi.Responses.length∧a5.Pi.Responses.length≤a5.Pi.Responses.length)<|
 ((zaq (σ:=Int) (fun i22 s21=>
 (ix z8.1 i22).bind fun x28=>
 (zak a0 (i64.wrap (s21*x28))).bind fun z29=>
 some (.go z29)) (fun s21=>s21) (z8.1.length) 0 1:Option Int).bind fun x20=>
 (zdf a3).bind fun z34=>
 (zdf a4).bind fun z35=>
 (((ix a5.Pi.Commits 0).bind fun x39=>
 (ix a5.Pi.Responses 0).bind fun x40=>
 (zai a0 a5.Columns).bind fun z41=>
 (zai a0 a1.Hs).bind fun z42=>
 (zc3 a0 z41 z42).bind fun z43=>
 (zag a0 a0.G x40).bind fun z44=>
 (zaN x39 z43 z44 a0.P a0.Q a0.G z10.1).bind fun z45=>
 if z45=true then(
 (ix a5.Pi.Commits 1).bind fun x47=>
 (ix a5.Pi.Responses 1).bind fun x48=>
 (zaE a0 a5.Columns z8.1).bind fun z49=>
 (zag a0 a0.G x48).bind fun z50=>
 (zaE a0 a1.Hs ((a5.Pi.Responses.take a5.Pi.Responses.length).drop ((i64.wrap ((a3.length:Int)+4)).toNat))).bind fun z51=>
 (zai a0 [z50,z51]).bind fun z52=>
 (zaN x47 z49 z52 a0.P a0.Q a0.G z10.1).bind fun z53=>
 if z53=true then(
 (ix a5.Pi.Commits 2).bind fun x55=>
 (ix a5.Chain (i64.wrap ((a3.length:Int)-1))).bind fun x56=>
 (ix a5.Pi.Responses 2).bind fun x57=>
 (zag a0 a1.H x20).bind fun z58=>
 (zc3 a0 x56 z58).bind fun z59=>
 (zag a0 a0.G x57).bind fun z60=>
 (zaN x55 z59 z60 a0.P a0.Q a0.G z10.1).bind fun z61=>
 if z61=true then(
 (ix a5.Pi.Commits 3).bind fun x63=>
 (ix a5.Pi.Responses 3).bind fun x64=>
 (zaE a0 z34.1 z8.1).bind fun z65=>
 (zag a0 a0.G (i64.wrap (0-x64))).bind fun z66=>
 (zaE a0 z35.1 ((a5.Pi.Responses.take a5.Pi.Responses.length).drop ((i64.wrap ((a3.length:Int)+4)).toNat))).bind fun z67=>
 (zai a0 [z66,z67]).bind fun z68=>
 (zaN x63 z65 z68 a0.P a0.Q a0.G z10.1).bind fun z69=>
 if z69=true then(
 (ix a5.Pi.Commits 4).bind fun x71=>
 (zaE a0 z34.2 z8.1).bind fun z72=>
 (zag a0 a2 (i64.wrap (0-x64))).bind fun z73=>
 (zaE a0 z35.2 ((a5.Pi.Responses.take a5.Pi.Responses.length).drop ((i64.wrap ((a3.length:Int)+4)).toNat))).bind fun z74=>
 (zai a0 [z73,z74]).bind fun z75=>
 (zaN x71 z72 z75 a0.P a0.Q a0.G z10.1).bind fun z76=>
 some z76)else(
 some false))else(
 some false))else(
 some false))else(
 some false):Option Bool).bind fun x38=>
 gd (([a1.H].length+a5.Chain.length)*8≤140737488355328∧[a1.H].length+a5.Chain.length≤4611686018427387904)<|
 (some ([a1.H]++a5.Chain)).bind fun x77=>
 ((zaq (σ:=Bool) (fun i83 s82=>
 ((if s82=true then(
 (ix a5.Pi.Commits (i64.wrap (5+i83))).bind fun x93=>
 (ix a5.Chain i83).bind fun x94=>
 (ix a5.Pi.Responses (i64.wrap (4+i83))).bind fun x95=>
 (ix x77 i83).bind fun x96=>
 (ix ((a5.Pi.Responses.take a5.Pi.Responses.length).drop ((i64.wrap ((a3.length:Int)+4)).toNat)) i83).bind fun x97=>
 (zag a0 a0.G x95).bind fun z98=>
 (zag a0 x96 x97).bind fun z99=>
 (zai a0 [z98,z99]).bind fun z100=>
 (zaN x93 x94 z100 a0.P a0.Q a0.G z10.1).bind fun z101=>
 some z101)else(
 some false):Option Bool).bind fun x91=>
 some (.go x91))) (fun s82=>s82) (a3.length) 0 x38:Option Bool).bind fun x81=>
 some x81)))))))
set_option maxHeartbeats 1000000 in
theorem ziB:∀{a0}{a1}{a2}{a3}{a4}{a5}{r},zb7 a0 a1 a2 a3 a4 a5=some r→PCalls Tryz.prog 72 [(.sh,vE a0),(.sh,vJ a1),(.sh,.int .i64 a2),(.sh,vH a3),(.sh,vH a4),(.sh,vL a5)] (Eo (.bool r) [.junk,.junk,.junk,.junk,.junk,.junk]):=by
 intro a0 a1 a2 a3 a4 a5 r hr
 apply pF 296 [] [955] [1000000] [.tmp 12] hr zJH Tryz.func72
 intro Φ hΦ hF g
 unfold zb7 at hF
 iterate 2 (try simp[go_sem,g];try intros;refine zaT ?_)
 refine wJ hF (fun x3=>[(2,.v (.int .i64 a2)),(3,.v (vH a3)),(4,.v (vH a4)),(6,.bl [.int .i64 a0.P,.int .i64 a0.Q,.int .i64 a0.G]),(7,.bl [.int .i64 a1.H,vC a1.Hs]),(11,.bl [vC a5.Columns,vC a5.Chain,vC a5.Pi.Commits,vC a5.Pi.Challenges,vC a5.Pi.Responses]),(13,.v (.int .i64 (a3.length:Int))),(45,.v (.bool x3))]) (fun x3 hF=>?_) fun _ hj1 hF=>?_
 ·refine wI hF (fun h6 hF=>?_) (fun h6 hF=>?_)
  ·exact wl hΦ hF
  refine wW ?_
  refine wC hF [.sh,.sh,.sh,.sh] zeL (fun z7 hF=>?_)
  refine wK [2,3,4,6,7,11,13,14] ?_
  refine wC hF [.sh,.sh,.sh,.sh] zgz (fun z8 hF=>?_)
  refine wW ?_
  refine wX zDG follows ?_
  refine wC hF [.sh] zcY (fun z9 hF=>?_)
  refine wC hF [.sh,.sh,.sh] zbv (fun z10 hF=>?_)
  refine wK [2,3,4,6,7,11,13,15,16,17,18] ?_
  refine wJ hF (fun x13=>[(2,.v (.int .i64 a2)),(3,.v (vH a3)),(4,.v (vH a4)),(6,.bl [.int .i64 a0.P,.int .i64 a0.Q,.int .i64 a0.G]),(7,.bl [.int .i64 a1.H,vC a1.Hs]),(11,.bl [vC a5.Columns,vC a5.Chain,vC a5.Pi.Commits,vC a5.Pi.Challenges,vC a5.Pi.Responses]),(13,.v (.int .i64 (a3.length:Int))),(15,.v (vD z8.1)),(17,.bl [.int .i64 z10.1]),(86,.v (.bool x13))]) (fun x13 hF=>?_) fun _ hj11 hF=>?_
  ·refine wI hF (fun h17 hF=>?_) (fun h17 hF=>?_)
   ·exact wl hΦ hF
   refine wW ?_
   refine wX zDc follows ?_
   obtain⟨g,hF⟩:=Rg g hF
   obtain⟨g,hF⟩:=Rg g hF
   refine wW ?_
   refine wK [2,3,4,6,7,11,13,15,17,19,20,21,22] ?_
   try simp[go_sem,g]
   try intros
   refine zaT ?_
   refine wJ hF (fun x20=>[(2,.v (.int .i64 a2)),(3,.v (vH a3)),(4,.v (vH a4)),(6,.bl [.int .i64 a0.P,.int .i64 a0.Q,.int .i64 a0.G]),(7,.bl [.int .i64 a1.H,vC a1.Hs]),(11,.bl [vC a5.Columns,vC a5.Chain,vC a5.Pi.Commits,vC a5.Pi.Challenges,vC a5.Pi.Responses]),(13,.v (.int .i64 (a3.length:Int))),(15,.v (vD z8.1)),(17,.bl [.int .i64 z10.1]),(19,.v (vC a5.Pi.Commits)),(20,.v (vC a5.Pi.Responses)),(21,.v (vC ((a5.Pi.Responses.take a5.Pi.Responses.length).drop ((i64.wrap ((a3.length:Int)+4)).toNat)))),(22,.v (.int .i64 x20))]) (fun x20 hF=>?_) fun _ hj18 hF=>?_
   ·refine wC hF [.sh] zfE (fun z34 hF=>?_)
    refine wK [2,4,6,7,11,13,15,17,19,20,21,22,25,26] ?_
    refine wC hF [.sh] zfE (fun z35 hF=>?_)
    iterate 2 refine wW ?_
    refine wJ hF (fun x38=>[(6,.v (.fp [.int .i64 a0.P,.int .i64 a0.Q,.int .i64 a0.G])),(7,.bl [.int .i64 a1.H,vC a1.Hs]),(11,.bl [vC a5.Columns,vC a5.Chain,vC a5.Pi.Commits,vC a5.Pi.Challenges,vC a5.Pi.Responses]),(13,.v (.int .i64 (a3.length:Int))),(19,.v (vC a5.Pi.Commits)),(20,.v (vC a5.Pi.Responses)),(21,.v (vC ((a5.Pi.Responses.take a5.Pi.Responses.length).drop ((i64.wrap ((a3.length:Int)+4)).toNat)))),(29,.v (.func (.func 142) [] [.fp [.int .i64 a0.P,.int .i64 a0.Q,.int .i64 a0.G],.fp [.int .i64 z10.1]])),(30,.v (.bool x38))]) (fun x38 hF=>?_) fun _ hj36 hF=>?_
    ·obtain⟨g,hF⟩:=Rg g hF
     obtain⟨x77,e78,hF⟩:=zdR hF
     have g:=And.intro g (show[.int .i64 a1.H]::(List.map zax a5.Chain)=x77.map zax by injection e78 with e78;rw[←e78];simp[go_sem])
     refine wK [6,11,13,19,20,21,29,30,31] ?_
     refine wW ?_
     refine wJ hF (fun x81=>[(30,.v (.bool x81))]) (fun x81 hF=>?_) fun _ hj79 hF=>?_
     ·exact wl hΦ hF
     refine wB ?_
     obtain⟨b102,hb103,hψ86⟩:=hF
     refine pR hb103 (fun i83 s82=>[(6,.v (.fp [.int .i64 a0.P,.int .i64 a0.Q,.int .i64 a0.G])),(11,.bl [vC a5.Columns,vC a5.Chain,vC a5.Pi.Commits,vC a5.Pi.Challenges,vC a5.Pi.Responses]),(19,.v (vC a5.Pi.Commits)),(20,.v (vC a5.Pi.Responses)),(21,.v (vC ((a5.Pi.Responses.take a5.Pi.Responses.length).drop ((i64.wrap ((a3.length:Int)+4)).toNat)))),(29,.v (.func (.func 142) [] [.fp [.int .i64 a0.P,.int .i64 a0.Q,.int .i64 a0.G],.fp [.int .i64 z10.1]])),(30,.v (.bool s82)),(31,.v (vD x77)),(253,.v (.int .i64 (a3.length:Int))),(254,.v (.int .i64 i83))]) (fun s82 _ hN104=>?_) (fun i83 s82 _ _ hi87 hi88 ho84 hg85 hF=>?_)
     ·exact wn hN104 (hj79 _) hψ86
     refine wW ?_
     refine wu hi87 hi88 ?_
     refine wW ?_
     refine wJ hF (fun x91=>[(6,.v (.fp [.int .i64 a0.P,.int .i64 a0.Q,.int .i64 a0.G])),(11,.bl [vC a5.Columns,vC a5.Chain,vC a5.Pi.Commits,vC a5.Pi.Challenges,vC a5.Pi.Responses]),(19,.v (vC a5.Pi.Commits)),(20,.v (vC a5.Pi.Responses)),(21,.v (vC ((a5.Pi.Responses.take a5.Pi.Responses.length).drop ((i64.wrap ((a3.length:Int)+4)).toNat)))),(29,.v (.func (.func 142) [] [.fp [.int .i64 a0.P,.int .i64 a0.Q,.int .i64 a0.G],.fp [.int .i64 z10.1]])),(30,.v (.bool x91)),(31,.v (vD x77)),(253,.v (.int .i64 (a3.length:Int))),(254,.v (.int .i64 i83))]) (fun x91 hF=>?_) fun _ hj89 hF=>?_
     ·exact wi hi87 hi88 (hg85 _) (zac hF)
     refine wB ?_
     refine wW ?_
     refine wX zzo follows ?_
     refine wH hF (fun h92 hF=>?_) fun h92 hF=>?_
     ·obtain⟨x93,g,hF⟩:=Rx g hF
      obtain⟨x94,g,hF⟩:=Rx g hF
      obtain⟨x95,g,hF⟩:=Rx g hF
      obtain⟨x96,g,hF⟩:=Rx g hF
      obtain⟨x97,g,hF⟩:=Rxq g hF
      try simp[go_sem,g,h92]
      refine wD hF zaj (fun z98 hF=>?_)
      try simp[go_sem,g,h92]
      refine wD hF zaj (fun z99 hF=>?_)
      try simp[go_sem,g,h92]
      refine wD hF zas (fun z100 hF=>?_)
      try simp[go_sem,g,h92]
      refine wC hF [.sh,.sh,.sh] zbM (fun z101 hF=>?_)
      exact wV h92 (hj89 _) (zac hF)
     exact wV h92 (hj89 _) (zac hF)
    refine wX zyR follows ?_
    obtain⟨x39,g,hF⟩:=Rxn g 0 hF
    obtain⟨x40,g,hF⟩:=Rxn g 0 hF
    refine wD hF zas (fun z41 hF=>?_)
    refine wD hF zas (fun z42 hF=>?_)
    refine wD hF zgF (fun z43 hF=>?_)
    refine wD hF zaj (fun z44 hF=>?_)
    refine wC hF [.sh,.sh,.sh] zbM (fun z45 hF=>?_)
    refine wH hF (fun h46 hF=>?_) fun h46 hF=>?_
    ·obtain⟨x47,g,hF⟩:=Rxn g 1 hF
     obtain⟨x48,g,hF⟩:=Rxn g 1 hF
     try simp[go_sem,g,h46]
     refine wD hF zaX (fun z49 hF=>?_)
     try simp[go_sem,g,h46]
     refine wD hF zaj (fun z50 hF=>?_)
     try simp[go_sem,g,h46]
     refine wD hF zaX (fun z51 hF=>?_)
     try simp[go_sem,g,h46]
     refine wD hF zas (fun z52 hF=>?_)
     try simp[go_sem,g,h46]
     refine wC hF [.sh,.sh,.sh] zbM (fun z53 hF=>?_)
     try simp[go_sem,g,h46]
     refine wH hF (fun h54 hF=>?_) fun h54 hF=>?_
     ·obtain⟨x55,g,hF⟩:=Rxn g 2 hF
      obtain⟨x56,g,hF⟩:=Rx g hF
      obtain⟨x57,g,hF⟩:=Rxn g 2 hF
      try simp[go_sem,g,h54]
      refine wD hF zaj (fun z58 hF=>?_)
      try simp[go_sem,g,h54]
      refine wD hF zgF (fun z59 hF=>?_)
      try simp[go_sem,g,h54]
      refine wD hF zaj (fun z60 hF=>?_)
      try simp[go_sem,g,h54]
      refine wC hF [.sh,.sh,.sh] zbM (fun z61 hF=>?_)
      try simp[go_sem,g,h54]
      refine wH hF (fun h62 hF=>?_) fun h62 hF=>?_
      ·obtain⟨x63,g,hF⟩:=Rxn g 3 hF
       obtain⟨x64,g,hF⟩:=Rxn g 3 hF
       try simp[go_sem,g,h62]
       refine wD hF zaX (fun z65 hF=>?_)
       try simp[go_sem,g,h62]
       refine wD hF zaj (fun z66 hF=>?_)
       try simp[go_sem,g,h62]
       refine wD hF zaX (fun z67 hF=>?_)
       try simp[go_sem,g,h62]
       refine wD hF zas (fun z68 hF=>?_)
       try simp[go_sem,g,h62]
       refine wC hF [.sh,.sh,.sh] zbM (fun z69 hF=>?_)
       try simp[go_sem,g,h62]
       refine wH hF (fun h70 hF=>?_) fun h70 hF=>?_
       ·obtain⟨x71,g,hF⟩:=Rxn g 4 hF
        try simp[go_sem,g,h70]
        refine wD hF zaX (fun z72 hF=>?_)
        try simp[go_sem,g,h70]
        refine wD hF zaj (fun z73 hF=>?_)
        try simp[go_sem,g,h70]
        refine wD hF zaX (fun z74 hF=>?_)
        try simp[go_sem,g,h70]
        refine wD hF zas (fun z75 hF=>?_)
        try simp[go_sem,g,h70]
        refine wC hF [.sh,.sh,.sh] zbM (fun z76 hF=>?_)
        exact wV h70 (hj36 _) (zac hF)
       exact wV h70 (hj36 _) (zac hF)
      exact wV h62 (hj36 _) (zac hF)
     exact wV h54 (hj36 _) (zac hF)
    exact wV h46 (hj36 _) (zac hF)
   refine wB ?_
   obtain⟨b30,hb31,hψ25⟩:=hF
   refine pR hb31 (fun i22 s21=>[(2,.v (.int .i64 a2)),(3,.v (vH a3)),(4,.v (vH a4)),(6,.bl [.int .i64 a0.P,.int .i64 a0.Q,.int .i64 a0.G]),(7,.bl [.int .i64 a1.H,vC a1.Hs]),(11,.bl [vC a5.Columns,vC a5.Chain,vC a5.Pi.Commits,vC a5.Pi.Challenges,vC a5.Pi.Responses]),(13,.v (.int .i64 (a3.length:Int))),(15,.v (vD z8.1)),(17,.bl [.int .i64 z10.1]),(19,.v (vC a5.Pi.Commits)),(20,.v (vC a5.Pi.Responses)),(21,.v (vC ((a5.Pi.Responses.take a5.Pi.Responses.length).drop ((i64.wrap ((a3.length:Int)+4)).toNat)))),(22,.v (.int .i64 s21)),(97,.rf 15 []),(98,.v (.int .i64 (z8.1.length:Int))),(99,.v (.int .i64 i22))]) (fun s21 _ hN32=>?_) (fun i22 s21 _ _ hi26 hi27 ho23 hg24 hF=>?_)
   ·exact wn hN32 (hj18 _) hψ25
   refine wW ?_
   refine wu hi26 hi27 ?_
   refine wW ?_
   refine wB ?_
   obtain⟨x28,g,hF⟩:=Rx g hF
   refine wW ?_
   refine wC hF [.sh,.sh] zaO (fun z29 hF=>?_)
   refine wK [2,3,4,6,7,11,13,15,17,19,20,21,22,97,98,99] ?_
   exact wi hi26 hi27 (hg24 _) (zac hF)
  refine wX zD3 follows ?_
  refine wH hF (fun h14 hF=>?_) fun h14 hF=>?_
  ·exact wV h14 (hj11 _) (zac hF)
  try simp[go_sem,g,h14]
  refine wH hF (fun h15 hF=>?_) fun h15 hF=>?_
  ·exact wV h15 (hj11 _) (zac hF)
  obtain⟨x16,g,hF⟩:=Rxn g 0 hF
  exact wV h15 (hj11 _) (zac hF)
 try simp[go_sem,g]
 try intros
 refine wG hF (fun h4 hF=>?_) fun h4 hF=>?_
 ·exact wV h4 (hj1 _) (zac hF)
 try simp[go_sem,g,h4]
 refine wC hF [.sh,.sh,.sh] ziq (fun z5 hF=>?_)
 exact wV h4 (hj1 _) (zac hF)
def zd2 (a0:Group) (a1:Int) (a2:List Cipher) (a3:List Cipher) (a4:MatrixProof):Option (Bool×Bool):=
 (zb3 a0 a1 a2).bind fun z1=>
 ((if(!z1.2)=true then(
 some true)else(
 (zbw a0 a3).bind fun z6=>
 some (!z6)):Option Bool).bind fun x4=>
 if x4=true then(
 some (false,false))else(
 (zb7 a0 z1.1 a1 a2 a3 a4).bind fun z8=>
 some (z8,true)))
theorem zk0:∀{a0}{a1}{a2}{a3}{a4}{r},zd2 a0 a1 a2 a3 a4=some r→PCalls Tryz.prog 27 [(.sh,vE a0),(.sh,.int .i64 a1),(.sh,vH a2),(.sh,vH a3),(.sh,vL a4)] (Eo (.tup [.bool r.1,.bool r.2]) [.junk,.junk,.junk,.junk,.junk]):=by
 intro a0 a1 a2 a3 a4 r hr
 apply pF 36 [] [] [] [.tmp 10,.tmp 11] hr zI0 Tryz.func27
 intro Φ hΦ hF g
 unfold zd2 at hF
 refine wW ?_
 refine wC hF [.sh,.sh,.sh] ze9 (fun z1 hF=>?_)
 refine wK [1,2,3,5,9,12,13] ?_
 refine wJ hF (fun x4=>[(1,.v (.int .i64 a1)),(2,.v (vH a2)),(3,.v (vH a3)),(5,.bl [.int .i64 a0.P,.int .i64 a0.Q,.int .i64 a0.G]),(9,.bl [vC a4.Columns,vC a4.Chain,vC a4.Pi.Commits,vC a4.Pi.Challenges,vC a4.Pi.Responses]),(12,.bl [.int .i64 z1.1.H,vD z1.1.Hs]),(28,.v (.bool x4))]) (fun x4 hF=>?_) fun _ hj2 hF=>?_
 ·refine wI hF (fun h7 hF=>?_) (fun h7 hF=>?_)
  ·exact wl hΦ hF
  refine wW ?_
  refine wC hF [.sh,.sh,.sh,.sh,.sh,.sh] ziB (fun z8 hF=>?_)
  exact wl hΦ hF
 refine wG hF (fun h5 hF=>?_) fun h5 hF=>?_
 ·exact wV h5 (hj2 _) (zac hF)
 try simp[go_sem,g,h5]
 refine wC hF [.sh,.sh] zdu (fun z6 hF=>?_)
 exact wV h5 (hj2 _) (zac hF)
def zcZ (a0:Group) (a1:PolyProof) (a2:Int):Option Bool:=
 ((if((a1.Places.length:Int)==a2)=true then(
 if((a1.Powers.length:Int)==a2)=true then(
 if((a1.Chain.length:Int)==a2)=true then(
 if((a1.Pi.Commits.length:Int)==(i64.wrap ((i64.wrap (3*a2))+3)))=true then(
 if((a1.Pi.Challenges.length:Int)==1)=true then(
 if((a1.Pi.Responses.length:Int)==(i64.wrap ((i64.wrap (5*a2))+2)))=true then(
 (zbn a0 a1.Places).bind fun z10=>
 if z10=true then(
 (zbn a0 a1.Powers).bind fun z12=>
 if z12=true then(
 (zbn a0 a1.Chain).bind fun z14=>
 if z14=true then(
 (zbn a0 a1.Pi.Commits).bind fun z16=>
 if z16=true then(
 (zbH a0 a1.Pi.Responses).bind fun z18=>
 some z18)else(
 some false))else(
 some false))else(
 some false))else(
 some false))else(
 some false))else(
 some false))else(
 some false))else(
 some false))else(
 some false))else(
 some false):Option Bool).bind fun x3=>
 some x3)
theorem zjm:∀{a0}{a1}{a2}{r},zcZ a0 a1 a2=some r→PCalls Tryz.prog 115 [(.sh,vE a0),(.sh,vM a1),(.sh,.int .i64 a2)] (Eo (.bool r) [.junk,.junk,.junk]):=by
 intro a0 a1 a2 r hr
 apply pF 85 [] [] [] [.tmp 6] hr zEp Tryz.func115
 intro Φ hΦ hF g
 unfold zcZ at hF
 refine wW ?_
 refine wJ hF (fun x3=>[(6,.v (.bool x3))]) (fun x3 hF=>?_) fun _ hj1 hF=>?_
 ·exact wm hΦ hF
 try simp[go_sem,g]
 try intros
 refine wG hF (fun h4 hF=>?_) fun h4 hF=>?_
 ·try simp[go_sem,g,h4]
  try intros
  refine wG hF (fun h5 hF=>?_) fun h5 hF=>?_
  ·try simp[go_sem,g,h5]
   try intros
   refine wG hF (fun h6 hF=>?_) fun h6 hF=>?_
   ·try simp[go_sem,g,h6]
    try intros
    refine wG hF (fun h7 hF=>?_) fun h7 hF=>?_
    ·try simp[go_sem,g,h7]
     try intros
     refine wG hF (fun h8 hF=>?_) fun h8 hF=>?_
     ·try simp[go_sem,g,h8]
      try intros
      refine wG hF (fun h9 hF=>?_) fun h9 hF=>?_
      ·try simp[go_sem,g,h9]
       refine wC hF [.sh,.sh] zcy (fun z10 hF=>?_)
       try simp[go_sem,g,h9]
       refine wG hF (fun h11 hF=>?_) fun h11 hF=>?_
       ·try simp[go_sem,g,h11]
        refine wC hF [.sh,.sh] zcy (fun z12 hF=>?_)
        try simp[go_sem,g,h11]
        refine wG hF (fun h13 hF=>?_) fun h13 hF=>?_
        ·try simp[go_sem,g,h13]
         refine wC hF [.sh,.sh] zcy (fun z14 hF=>?_)
         try simp[go_sem,g,h13]
         refine wG hF (fun h15 hF=>?_) fun h15 hF=>?_
         ·try simp[go_sem,g,h15]
          refine wC hF [.sh,.sh] zcy (fun z16 hF=>?_)
          try simp[go_sem,g,h15]
          refine wG hF (fun h17 hF=>?_) fun h17 hF=>?_
          ·try simp[go_sem,g,h17]
           refine wC hF [.sh,.sh] zdI (fun z18 hF=>?_)
           exact wV h17 (hj1 _) (zac hF)
          exact wV h17 (hj1 _) (zac hF)
         exact wV h15 (hj1 _) (zac hF)
        exact wV h13 (hj1 _) (zac hF)
       exact wV h11 (hj1 _) (zac hF)
      exact wV h9 (hj1 _) (zac hF)
     exact wV h8 (hj1 _) (zac hF)
    exact wV h7 (hj1 _) (zac hF)
   exact wV h6 (hj1 _) (zac hF)
  exact wV h5 (hj1 _) (zac hF)
 exact wV h4 (hj1 _) (zac hF)
@[go_sem] def zzD:List DE:=[d0 0 [3],d0 1 [9],d0 2 [4,10],d0 3 [0,10],d0 4 [4,10],d0 5 [1,10],d0 6 [5,10],d0 10 [2,10],⟨7,[13,14,15,10],[],none,false,true,false⟩,d0 8 [12,16,10],⟨9,[11,17,10],[],none,true,true,true⟩,d0 11 [18,19,10],d0 12 [10,20],d0 13 [3,21]]
def zay (a0:Int) (a1:Int) (a2:Int) (a3c0:Bool) (a4c0:Int) (a4c1:Int) (a4c2:Int) (a5c0:Int):Option Bool:=
 if a3c0=true then(
 (zag (Group.mk a4c0 a4c1 a4c2) a1 a5c0).bind fun z2=>
 (zai (Group.mk a4c0 a4c1 a4c2) [a0,z2]).bind fun z3=>
 some (z3==a2))else(
 some false)
theorem zbz:∀{a0}{a1}{a2}{a3c0}{a4c0}{a4c1}{a4c2}{a5c0}{r},zay a0 a1 a2 a3c0 a4c0 a4c1 a4c2 a5c0=some r→PCalls Tryz.prog 116 [(.sh,.int .i64 a0),(.sh,.int .i64 a1),(.sh,.int .i64 a2),(.io,.bx [.bool a3c0]),(.sh,.fp [.int .i64 a4c0,.int .i64 a4c1,.int .i64 a4c2]),(.sh,.fp [.int .i64 a5c0])] (Eo (.junk) [.junk,.junk,.junk,.bx [.bool r],.junk,.junk]):=by
 intro a0 a1 a2 a3c0 a4c0 a4c1 a4c2 a5c0 r hr
 apply pF 22 [3] [] [] [] hr zBY Tryz.func116
 intro Φ hΦ hF g
 unfold zay at hF
 refine wX zzD follows ?_
 refine wH hF (fun h1 hF=>?_) fun h1 hF=>?_
 ·try simp[go_sem,g,h1]
  refine wD hF zaj (fun z2 hF=>?_)
  try simp[go_sem,g,h1]
  refine wC hF [.sh,.sh] zas (fun z3 hF=>?_)
  cases hΦ _ (zac hF)
  try simp[go_sem,g,h1]
  try simp[go_sem,g]
 cases hΦ _ (zac hF)
 try simp[go_sem,g,h1]
 try simp[go_sem,g]
def zdG (a0:Int) (a1:Int) (a2:Int) (a3:Int) (a4:Int):Option Int:=
 ((zbS (σ:=Int×Int×Int) (fun s4=>
 if decide (s4.2.2≤a1)=true then(
 gd (a0≠0)<|
 gd (a0≠0)<|
 (ze8 (i64.wrap ((i64.wrap (((i64.wrap (a3*s4.2.2)).tmod a0)+((i64.wrap (s4.2.1*a2)).tmod a0)))-a4)) a0).bind fun z10=>
 gd (a0≠0)<|
 some (.go ((i64.wrap (s4.1*z10)).tmod a0,(i64.wrap (s4.2.1*a2)).tmod a0,i64.wrap (s4.2.2+1))))else(
 some (.out s4.1))) (1,1,1):Option Int).bind fun x3=>
 some x3)
theorem zkQ:∀{a0}{a1}{a2}{a3}{a4}{r},zdG a0 a1 a2 a3 a4=some r→PCalls Tryz.prog 60 [(.sh,.int .i64 a0),(.sh,.int .i64 a1),(.sh,.int .i64 a2),(.sh,.int .i64 a3),(.sh,.int .i64 a4)] (Eo (.int .i64 r) [.junk,.junk,.junk,.junk,.junk]):=by
 intro a0 a1 a2 a3 a4 r hr
 apply pF 40 [] [] [] [.tmp 10] hr zH6 Tryz.func60
 intro Φ hΦ hF g
 unfold zdG at hF
 iterate 3 refine wW ?_
 refine wJ hF (fun x3=>[(11,.v (.int .i64 x3))]) (fun x3 hF=>?_) fun _ hj1 hF=>?_
 ·exact wl hΦ hF
 refine wB ?_
 obtain⟨b11,hb12,hψ8⟩:=hF
 refine pL hb12 (fun s4=>[(0,.v (.int .i64 a0)),(1,.v (.int .i64 a1)),(2,.v (.int .i64 a2)),(3,.v (.int .i64 a3)),(4,.v (.int .i64 a4)),(11,.v (.int .i64 s4.1)),(12,.v (.int .i64 s4.2.1)),(13,.v (.int .i64 s4.2.2))]) (fun s4 _ _ ho6 hg7 hF=>?_)
 refine wW ?_
 refine wI hF (fun h9 hF=>?_) (fun h9 hF=>?_)
 ·refine wW ?_
  refine wB ?_
  obtain⟨g,hF⟩:=Rz g hF
  refine wK [0,1,2,3,4,11,12,13] ?_
  obtain⟨g,hF⟩:=Rz g hF
  refine wC hF [.sh,.sh] zkF (fun z10 hF=>?_)
  obtain⟨g,hF⟩:=Rz g hF
  refine wK [0,1,2,3,4,11,12,13] ?_
  exact wT (hg7 _) (zac hF)
 cases ho6 _ (zac hF)
 exact wT (hj1 _) hψ8
@[go_sem] def zAl:List DE:=[d1 0 [11] 11,d1 1 [113] 11,d2 2 [114] 11 114,d1 3 [11] 11,d1 4 [116] 11,d2 5 [117] 11 117,d0 6 [118],d0 7 [119],d0 8 [115],d1 9 [120] 120]
@[go_sem] def zy3:List DE:=[d0 0 [34],d0 1 [22],d0 2 [35],d0 3 [162,163],d0 4 [164],d0 5 [6],d0 6 [6],d1 7 [11] 11,d2 8 [168] 11 168,d0 9 [35],d0 10 [169,170],d0 11 [171],d0 12 [17],d1 14 [11] 11,d2 15 [175] 11 175,d0 16 [35],d0 17 [176,177],d0 18 [178],d0 19 [6],d0 20 [6],d0 21 [181],d0 22 [18],d0 23 [183],d0 27 [6],d2 28 [7] 7 7,d0 29 [24],d0 30 [35],d0 31 [190,191],d0 32 [192],d0 33 [25],d0 34 [35],d0 35 [194,195],d0 36 [196],⟨13,[167,172,173],[],none,false,true,false⟩,⟨24,[180,182,184],[],none,false,true,false⟩,d0 25 [174,179,185],⟨26,[166,186],[],none,true,true,false⟩,⟨37,[188,189,193,197],[],none,false,true,false⟩,d3 38 [161,165,187,198]]
@[go_sem] def zzt:List DE:=[d0 0 [34],d0 1 [22],d0 2 [13],d0 3 [35],d0 4 [202,203],d0 5 [201,204],d0 6 [205],d1 7 [11] 11,d2 8 [207] 11 207,d0 9 [35],d0 10 [208,209],d0 11 [210],d0 12 [6],d0 13 [6],d0 14 [31],d0 15 [35],d0 16 [214,215],d0 17 [216],d0 18 [24],d0 19 [35],d0 20 [218,219],d0 21 [220],d0 23 [6],d1 24 [7] 7,d2 25 [224] 7 224,d0 26 [26],d0 27 [35],d0 28 [226,227],d0 29 [228],⟨22,[213,217,221],[],none,false,true,false⟩,⟨30,[223,225,229],[],none,false,true,false⟩,d0 31 [222,230],⟨32,[212,231],[],none,true,true,false⟩,d3 33 [200,206,211,232]]
@[go_sem] def zyO:List DE:=[d0 0 [34],d0 1 [22],d0 2 [13],d0 3 [236],d0 4 [237],d0 5 [35],d0 6 [238,239],d0 7 [235,240],d0 8 [241],d1 9 [11] 11,d2 10 [243] 11 243,d0 11 [35],d0 12 [244,245],d0 13 [246],d0 14 [6],d2 15 [7] 7 7,d0 16 [28],d0 17 [35],d0 18 [250,251],d0 19 [252],d0 20 [29],d0 21 [35],d0 22 [254,255],d0 23 [256],⟨24,[248,249,253,257],[],none,false,true,false⟩,d3 25 [234,242,247,258]]
@[go_sem] def zyw:List DE:=[d0 0 [34],d0 1 [22],d0 2 [13],d0 3 [263],d0 4 [262,264],d0 5 [265],d0 6 [6],d1 7 [11] 11,d2 8 [268] 11 268,d0 9 [13],d0 10 [270],d0 11 [269,271],d0 12 [272],d0 13 [6],d0 14 [6],d0 15 [275],d0 16 [6],d0 17 [277],d0 18 [13],d0 19 [14],d0 20 [17],d0 21 [18],d0 25 [6],d1 26 [7] 7,d2 27 [287] 7 287,d0 28 [27],⟨22,[278,279,280,281,282],[],none,false,true,false⟩,⟨23,[274,276,283],[],none,false,true,false⟩,⟨24,[267,273,284],[],none,false,true,false⟩,⟨29,[286,288,289],[],none,false,true,false⟩,d3 30 [261,266,285,290]]
@[go_sem] def zAs:List DE:=[d0 0 [34],d0 1 [22],d0 2 [13],d0 3 [304],d0 4 [305],d0 5 [303,306],d0 6 [307],d0 7 [6],d0 8 [36],d0 9 [32],d0 11 [6],d0 12 [6],d0 13 [6],d0 14 [315],d0 15 [30],d0 16 [317],d0 18 [6],d0 19 [38],d0 20 [28],⟨10,[309,310,311],[],none,false,true,false⟩,⟨17,[314,316,318],[],none,false,true,false⟩,⟨21,[320,321,322],[],none,false,true,false⟩,d0 22 [319,323],⟨23,[313,324],[],none,true,true,false⟩,d3 24 [302,308,312,325]]
@[go_sem] def zyA:List DE:=[d0 0 [34],d0 1 [22],d0 2 [13],d0 3 [329],d0 4 [330],d0 5 [328,331],d0 6 [332],d0 7 [6],d0 8 [37],d0 9 [32],d0 11 [6],d0 12 [6],d0 13 [2],d0 14 [30],d0 15 [341],d0 17 [6],d0 18 [39],d0 19 [28],⟨10,[334,335,336],[],none,false,true,false⟩,⟨16,[339,340,342],[],none,false,true,false⟩,⟨20,[344,345,346],[],none,false,true,false⟩,d0 21 [343,347],⟨22,[338,348],[],none,true,true,false⟩,d3 23 [327,333,337,349]]
@[go_sem] def zEC:List DE:=[d2 0 [6] 6 6,d0 1 [2],d0 2 [3],d0 3 [4],d1 4 [11] 11,d2 5 [58] 11 58,d3 6 [55,56,57,59],d3 7 [54,60],d0 8 [61],d0 9 [53],d0 10 [53],d0 11 [62],d0 12 [63]]
@[go_sem] def zCl:List DE:=[d0 0 [2],d0 1 [3],d0 2 [4],d1 3 [11] 11,d2 4 [67] 11 67,d1 6 [11] 11,d2 7 [70] 11 70,d3 5 [68],d0 8 [69,71],d3 9 [64,65,66,72],d0 10 [73]]
@[go_sem] def zEu:List DE:=[d2 0 [6] 6 6,d0 1 [16],d1 2 [11] 11,d2 3 [84] 11 84,d1 4 [11] 11,d1 5 [86] 11,d2 6 [87] 11 87,d0 7 [83,85,88],d0 13 [],⟨8,[89],[],none,true,true,true⟩,d3 9 [82,90],d0 10 [91],d0 11 [81],d0 12 [81],d2 14 [20,92] 20 20,d0 15 [93]]
@[go_sem] def zDo:List DE:=[d0 0 [15],d0 1 [94],d0 2 [95],d0 3 [19,96],d0 4 [97,96],d0 5 [96,98],d0 6 [99],d0 7 [21,100],d0 8 [101,100],d0 9 [100,102],d0 10 [103],d1 11 [11,104] 11,d1 12 [105,104] 11,d2 13 [106,104] 11 106,d0 14 [107,104],d0 15 [108,104],d2 16 [20,104] 20 20,d0 17 [109,110,104],d0 18 [104,111]]
def zci (a0:Group) (a1:Bases) (a2:Int) (a3:List Cipher) (a4:List Cipher) (a5:PolyProof):Option Bool:=
 ((if((a4.length:Int) !=(a3.length:Int))=true then(
 some true)else(
 (zcZ a0 a5 (a3.length:Int)).bind fun z5=>
 some (!z5)):Option Bool).bind fun x3=>
 if x3=true then(
 some false)else(
 (zbL a2 a3 a4 a5.Places).bind fun z7=>
 (zaz a0 (⟨#[109,105,120,32,120]⟩:ByteArray) z7).bind fun z8=>
 (zb4 a5.Places).bind fun z9=>
 gd ((z9.length+a5.Powers.length)*8≤140737488355328∧z9.length+a5.Powers.length≤4611686018427387904)<|
 (zbL a2 a3 a4 (z9++a5.Powers)).bind fun z10=>
 (zcu a0 z10).bind fun z11=>
 (zaS [z10,a5.Chain,a5.Pi.Commits]).bind fun z12=>
 (zaz a0 (⟨#[109,105,120,32,101,110,100]⟩:ByteArray) z12).bind fun z13=>
 ((if(!z8.2)=true then(
 some true)else(
 if(!z11.2.2)=true then(
 some true)else(
 if(!z13.2)=true then(
 some true)else(
 (ix a5.Pi.Challenges 0).bind fun x20=>
 some (x20 !=z13.1)))):Option Bool).bind fun x16=>
 if x16=true then(
 some false)else(
 (zan a5.Pi.Responses (a3.length:Int)).bind fun z22=>
 (zan z22.2 (a3.length:Int)).bind fun z23=>
 (zan z23.2 (a3.length:Int)).bind fun z24=>
 (za7 z24.2).bind fun z25=>
 (zan z25.2 (a3.length:Int)).bind fun z26=>
 (zan z26.2 (a3.length:Int)).bind fun z27=>
 (za7 z27.2).bind fun z28=>
 gd (([a0.G].length+a5.Chain.length)*8≤140737488355328∧[a0.G].length+a5.Chain.length≤4611686018427387904)<|
 (some ([a0.G]++a5.Chain)).bind fun x29=>
 ((zaq (σ:=(List Int)×Bool) (fun i66 s65=>
 (zbG z8.1 (i64.wrap (i66+1)) a0.Q).bind fun z72=>
 gd ((s65.1.length+1)*8≤140737488355328∧s65.1.length+1≤4611686018427387904)<|
 (ix a5.Pi.Commits i66).bind fun x73=>
 (ix a5.Places i66).bind fun x74=>
 (ix a5.Powers i66).bind fun x75=>
 (ix z22.1 i66).bind fun x76=>
 (ix z23.1 i66).bind fun x77=>
 (zag a0 x74 z11.1).bind fun z78=>
 (zag a0 a0.G (i64.wrap (0-z11.2.1))).bind fun z79=>
 (zai a0 [z78,x75,z79]).bind fun z80=>
 (zaW a0 a1 x76 x77).bind fun z81=>
 (zay x73 z80 z81 s65.2 a0.P a0.Q a0.G z13.1).bind fun z82=>
 (ix a5.Pi.Commits (i64.wrap ((a3.length:Int)+i66))).bind fun x83=>
 (ix a5.Chain i66).bind fun x84=>
 (ix x29 i66).bind fun x85=>
 (ix z24.1 i66).bind fun x86=>
 (zag a0 x85 x76).bind fun z87=>
 (zag a0 a1.H x86).bind fun z88=>
 (zai a0 [z87,z88]).bind fun z89=>
 (zay x83 x84 z89 z82 a0.P a0.Q a0.G z13.1).bind fun z90=>
 (ix a5.Pi.Commits (i64.wrap ((i64.wrap ((i64.wrap (2*(a3.length:Int)))+1))+i66))).bind fun x91=>
 (ix z26.1 i66).bind fun x92=>
 (ix z27.1 i66).bind fun x93=>
 (zaW a0 a1 x92 x93).bind fun z94=>
 (zay x91 x75 z94 z90 a0.P a0.Q a0.G z13.1).bind fun z95=>
 some (.go (s65.1++[z72],z95))) (fun s65=>(s65.1,s65.2)) (a3.length) 0 ([],true):Option ((List Int×Bool))).bind fun x33=>
 (ix a5.Pi.Commits (i64.wrap (2*(a3.length:Int)))).bind fun x100=>
 (ix a5.Chain (i64.wrap ((a3.length:Int)-1))).bind fun x101=>
 (zdG a0.Q (a3.length:Int) z8.1 z11.1 z11.2.1).bind fun z102=>
 (zag a0 a0.G z102).bind fun z103=>
 (zc3 a0 x101 z103).bind fun z104=>
 (zag a0 a1.H z25.1).bind fun z105=>
 (zay x100 z104 z105 x33.2 a0.P a0.Q a0.G z13.1).bind fun z106=>
 (zdf a3).bind fun z107=>
 (zdf a4).bind fun z108=>
 (ix a5.Pi.Commits (i64.wrap ((i64.wrap (3*(a3.length:Int)))+1))).bind fun x109=>
 (zaE a0 z107.1 x33.1).bind fun z110=>
 (zag a0 a0.G (i64.wrap (0-z28.1))).bind fun z111=>
 (zaE a0 z108.1 z26.1).bind fun z112=>
 (zai a0 [z111,z112]).bind fun z113=>
 (zay x109 z110 z113 z106 a0.P a0.Q a0.G z13.1).bind fun z114=>
 (ix a5.Pi.Commits (i64.wrap ((i64.wrap (3*(a3.length:Int)))+2))).bind fun x115=>
 (zaE a0 z107.2 x33.1).bind fun z116=>
 (zag a0 a2 (i64.wrap (0-z28.1))).bind fun z117=>
 (zaE a0 z108.2 z26.1).bind fun z118=>
 (zai a0 [z117,z118]).bind fun z119=>
 (zay x115 z116 z119 z114 a0.P a0.Q a0.G z13.1).bind fun z120=>
 some z120)))))
set_option maxHeartbeats 1000000 in
theorem zjj:∀{a0}{a1}{a2}{a3}{a4}{a5}{r},zci a0 a1 a2 a3 a4 a5=some r→PCalls Tryz.prog 44 [(.sh,vE a0),(.sh,vJ a1),(.sh,.int .i64 a2),(.sh,vH a3),(.sh,vH a4),(.sh,vM a5)] (Eo (.bool r) [.junk,.junk,.junk,.junk,.junk,.junk]):=by
 intro a0 a1 a2 a3 a4 a5 r hr
 apply pF 352 [] [727,738,1145,1555,1881] [33,1000000] [.tmp 12] hr zIF Tryz.func44
 intro Φ hΦ hF g
 unfold zci at hF
 iterate 2 (try simp[go_sem,g];try intros;refine zaT ?_)
 refine wJ hF (fun x3=>[(2,.v (.int .i64 a2)),(3,.v (vH a3)),(4,.v (vH a4)),(6,.bl [.int .i64 a0.P,.int .i64 a0.Q,.int .i64 a0.G]),(7,.bl [.int .i64 a1.H,vC a1.Hs]),(11,.bl [vC a5.Places,vC a5.Powers,vC a5.Chain,vC a5.Pi.Commits,vC a5.Pi.Challenges,vC a5.Pi.Responses]),(13,.v (.int .i64 (a3.length:Int))),(52,.v (.bool x3))]) (fun x3 hF=>?_) fun _ hj1 hF=>?_
 ·refine wI hF (fun h6 hF=>?_) (fun h6 hF=>?_)
  ·exact wl hΦ hF
  refine wW ?_
  refine wX zEC follows ?_
  refine wC hF [.sh,.sh,.sh,.sh] zeL (fun z7 hF=>?_)
  refine wC hF [.sh,.sh,.sh] zbv (fun z8 hF=>?_)
  refine wK [2,3,4,6,7,11,13,14,15] ?_
  refine wX zCl follows ?_
  refine wC hF [.sh] zfr (fun z9 hF=>?_)
  obtain⟨g,hF⟩:=Rg g hF
  refine wC hF [.sh,.sh,.sh,.sh] zeL (fun z10 hF=>?_)
  refine wK [2,3,4,6,7,11,13,14,15,16] ?_
  refine wC hF [.sh,.sh] zhA (fun z11 hF=>?_)
  refine wK [2,3,4,6,7,11,13,14,15,16,17,18,19] ?_
  refine wX zEu follows ?_
  refine wC hF [.sh] zcY (fun z12 hF=>?_)
  refine wC hF [.sh,.sh,.sh] zbv (fun z13 hF=>?_)
  refine wK [2,3,4,6,7,11,13,14,15,17,18,19,20,21] ?_
  refine wJ hF (fun x16=>[(2,.v (.int .i64 a2)),(3,.v (vH a3)),(4,.v (vH a4)),(6,.bl [.int .i64 a0.P,.int .i64 a0.Q,.int .i64 a0.G]),(7,.bl [.int .i64 a1.H,vC a1.Hs]),(11,.bl [vC a5.Places,vC a5.Powers,vC a5.Chain,vC a5.Pi.Commits,vC a5.Pi.Challenges,vC a5.Pi.Responses]),(13,.v (.int .i64 (a3.length:Int))),(14,.v (.int .i64 z8.1)),(17,.v (.int .i64 z11.1)),(18,.v (.int .i64 z11.2.1)),(20,.bl [.int .i64 z13.1]),(112,.v (.bool x16))]) (fun x16 hF=>?_) fun _ hj14 hF=>?_
  ·refine wI hF (fun h21 hF=>?_) (fun h21 hF=>?_)
   ·exact wl hΦ hF
   refine wW ?_
   refine wX zAl follows ?_
   refine wK [2,3,4,6,7,11,13,14,17,18,20,22,23,120] ?_
   refine wC hF [.io,.sh] zaA (fun z22 hF=>?_)
   refine wC hF [.io,.sh] zaA (fun z23 hF=>?_)
   refine wC hF [.io,.sh] zaA (fun z24 hF=>?_)
   refine wK [2,3,4,6,7,11,13,14,17,18,20,22,23,24,25,26,120] ?_
   refine wC hF [.io] zbU (fun z25 hF=>?_)
   refine wW ?_
   refine wC hF [.io,.sh] zaA (fun z26 hF=>?_)
   refine wC hF [.io,.sh] zaA (fun z27 hF=>?_)
   refine wK [2,3,4,6,7,11,13,14,17,18,20,22,23,24,25,26,27,28,29,120] ?_
   refine wC hF [.io] zbU (fun z28 hF=>?_)
   obtain⟨g,hF⟩:=Rg g hF
   obtain⟨x29,e30,hF⟩:=zdR hF
   have g:=And.intro g (show[.int .i64 a0.G]::(List.map zax a5.Chain)=x29.map zax by injection e30 with e30;rw[←e30];simp[go_sem])
   refine wW ?_
   refine wK [2,3,4,6,7,11,13,14,17,18,20,22,24,25,26,27,28,29,30,31] ?_
   iterate 3 refine wW ?_
   refine wJ hF (fun x33=>[(2,.v (.int .i64 a2)),(3,.v (vH a3)),(4,.v (vH a4)),(6,.v (.fp [.int .i64 a0.P,.int .i64 a0.Q,.int .i64 a0.G])),(7,.bl [.int .i64 a1.H,vC a1.Hs]),(11,.bl [vC a5.Places,vC a5.Powers,vC a5.Chain,vC a5.Pi.Commits,vC a5.Pi.Challenges,vC a5.Pi.Responses]),(13,.v (.int .i64 (a3.length:Int))),(14,.v (.int .i64 z8.1)),(17,.v (.int .i64 z11.1)),(18,.v (.int .i64 z11.2.1)),(22,.v (vC a5.Pi.Commits)),(27,.v (.int .i64 z25.1)),(28,.v (vC z26.1)),(30,.v (.int .i64 z28.1)),(32,.v (vD x33.1)),(33,.v (.bx [.bool x33.2])),(34,.cl 33 116 [.fp [.int .i64 a0.P,.int .i64 a0.Q,.int .i64 a0.G],.fp [.int .i64 z13.1]])]) (fun x33 hF=>?_) fun _ hj31 hF=>?_
   ·refine wX zyw follows ?_
    obtain⟨x100,g,hF⟩:=Rx g hF
    obtain⟨x101,g,hF⟩:=Rx g hF
    refine wD hF zkQ (fun z102 hF=>?_)
    refine wD hF zaj (fun z103 hF=>?_)
    refine wD hF zgF (fun z104 hF=>?_)
    refine wD hF zaj (fun z105 hF=>?_)
    refine wY hF [.sh,.sh,.sh] zbz (fun z106 hF=>?_)
    refine wK [2,3,4,6,13,22,28,30,32,33,34] ?_
    refine wC hF [.sh] zfE (fun z107 hF=>?_)
    refine wW ?_
    refine wC hF [.sh] zfE (fun z108 hF=>?_)
    refine wK [2,6,13,22,28,30,32,33,34,36,37,38,39] ?_
    refine wX zAs follows ?_
    obtain⟨x109,g,hF⟩:=Rx g hF
    refine wD hF zaX (fun z110 hF=>?_)
    refine wD hF zaj (fun z111 hF=>?_)
    refine wD hF zaX (fun z112 hF=>?_)
    refine wD hF zas (fun z113 hF=>?_)
    refine wY hF [.sh,.sh,.sh] zbz (fun z114 hF=>?_)
    refine wK [2,6,13,22,28,30,32,33,34,37,39] ?_
    refine wX zyA follows ?_
    obtain⟨x115,g,hF⟩:=Rx g hF
    refine wD hF zaX (fun z116 hF=>?_)
    refine wD hF zaj (fun z117 hF=>?_)
    refine wD hF zaX (fun z118 hF=>?_)
    refine wD hF zas (fun z119 hF=>?_)
    refine wY hF [.sh,.sh,.sh] zbz (fun z120 hF=>?_)
    refine wK [33] ?_
    exact wl hΦ hF
   refine wB ?_
   obtain⟨b96,hb97,hψ69⟩:=hF
   refine pR hb97 (fun i66 s65=>[(2,.v (.int .i64 a2)),(3,.v (vH a3)),(4,.v (vH a4)),(6,.v (.fp [.int .i64 a0.P,.int .i64 a0.Q,.int .i64 a0.G])),(7,.bl [.int .i64 a1.H,vC a1.Hs]),(11,.bl [vC a5.Places,vC a5.Powers,vC a5.Chain,vC a5.Pi.Commits,vC a5.Pi.Challenges,vC a5.Pi.Responses]),(13,.v (.int .i64 (a3.length:Int))),(14,.v (.int .i64 z8.1)),(17,.v (.int .i64 z11.1)),(18,.v (.int .i64 z11.2.1)),(22,.v (vC a5.Pi.Commits)),(24,.v (vC z22.1)),(25,.v (vC z23.1)),(26,.v (vC z24.1)),(27,.v (.int .i64 z25.1)),(28,.v (vC z26.1)),(29,.v (vC z27.1)),(30,.v (.int .i64 z28.1)),(31,.v (vD x29)),(32,.v (vD s65.1)),(33,.v (.bx [.bool s65.2])),(34,.cl 33 116 [.fp [.int .i64 a0.P,.int .i64 a0.Q,.int .i64 a0.G],.fp [.int .i64 z13.1]]),(148,.v (.int .i64 (a3.length:Int))),(149,.v (.int .i64 i66))]) (fun s65 _ hN98=>?_) (fun i66 s65 _ _ hi70 hi71 ho67 hg68 hF=>?_)
   ·exact wn hN98 (hj31 _) hψ69
   refine wW ?_
   refine wu hi70 hi71 ?_
   refine wW ?_
   refine wB ?_
   refine wK [2,3,4,6,7,11,13,14,17,18,22,24,25,26,27,28,29,30,31,32,33,34,35,148,149] ?_
   refine wC hF [.sh,.sh,.sh] zfx (fun z72 hF=>?_)
   obtain⟨g,hF⟩:=Rg g hF
   refine wK [2,3,4,6,7,11,13,14,17,18,22,24,25,26,27,28,29,30,31,32,33,34,35,148,149] ?_
   refine wX zy3 follows ?_
   obtain⟨x73,g,hF⟩:=Rx g hF
   obtain⟨x74,g,hF⟩:=Rx g hF
   obtain⟨x75,g,hF⟩:=Rx g hF
   obtain⟨x76,g,hF⟩:=Rx g hF
   obtain⟨x77,g,hF⟩:=Rx g hF
   refine wD hF zaj (fun z78 hF=>?_)
   refine wD hF zaj (fun z79 hF=>?_)
   refine wD hF zas (fun z80 hF=>?_)
   refine wD hF zcw (fun z81 hF=>?_)
   refine wY hF [.sh,.sh,.sh] zbz (fun z82 hF=>?_)
   refine wK [2,3,4,6,7,11,13,14,17,18,22,24,25,26,27,28,29,30,31,32,33,34,35,148,149] ?_
   refine wX zzt follows ?_
   obtain⟨x83,g,hF⟩:=Rx g hF
   obtain⟨x84,g,hF⟩:=Rx g hF
   obtain⟨x85,g,hF⟩:=Rx g hF
   obtain⟨x86,g,hF⟩:=Rx g hF
   refine wD hF zaj (fun z87 hF=>?_)
   refine wD hF zaj (fun z88 hF=>?_)
   refine wD hF zas (fun z89 hF=>?_)
   refine wY hF [.sh,.sh,.sh] zbz (fun z90 hF=>?_)
   refine wK [2,3,4,6,7,11,13,14,17,18,22,24,25,26,27,28,29,30,31,32,33,34,35,148,149] ?_
   refine wX zyO follows ?_
   obtain⟨x91,g,hF⟩:=Rx g hF
   obtain⟨x92,g,hF⟩:=Rx g hF
   obtain⟨x93,g,hF⟩:=Rx g hF
   refine wD hF zcw (fun z94 hF=>?_)
   refine wY hF [.sh,.sh,.sh] zbz (fun z95 hF=>?_)
   refine wK [2,3,4,6,7,11,13,14,17,18,22,24,25,26,27,28,29,30,31,32,33,34,148,149] ?_
   exact wi hi70 hi71 (hg68 _) (zac hF)
  refine wX zDo follows ?_
  refine wH hF (fun h17 hF=>?_) fun h17 hF=>?_
  ·exact wV h17 (hj14 _) (zac hF)
  try simp[go_sem,g,h17]
  refine wH hF (fun h18 hF=>?_) fun h18 hF=>?_
  ·exact wV h18 (hj14 _) (zac hF)
  try simp[go_sem,g,h18]
  refine wH hF (fun h19 hF=>?_) fun h19 hF=>?_
  ·exact wV h19 (hj14 _) (zac hF)
  obtain⟨x20,g,hF⟩:=Rxn g 0 hF
  exact wV h19 (hj14 _) (zac hF)
 try simp[go_sem,g]
 try intros
 refine wG hF (fun h4 hF=>?_) fun h4 hF=>?_
 ·exact wV h4 (hj1 _) (zac hF)
 try simp[go_sem,g,h4]
 refine wC hF [.sh,.sh,.sh] zjm (fun z5 hF=>?_)
 exact wV h4 (hj1 _) (zac hF)
def zeu (a0:Group) (a1:Int) (a2:List Cipher) (a3:List Cipher) (a4:PolyProof):Option (Bool×Bool):=
 (zd9 a0 a1 a2).bind fun z1=>
 ((if(!z1.2)=true then(
 some true)else(
 (zbw a0 a3).bind fun z6=>
 some (!z6)):Option Bool).bind fun x4=>
 if x4=true then(
 some (false,false))else(
 (zci a0 z1.1 a1 a2 a3 a4).bind fun z8=>
 some (z8,true)))
theorem zme:∀{a0}{a1}{a2}{a3}{a4}{r},zeu a0 a1 a2 a3 a4=some r→PCalls Tryz.prog 9 [(.sh,vE a0),(.sh,.int .i64 a1),(.sh,vH a2),(.sh,vH a3),(.sh,vM a4)] (Eo (.tup [.bool r.1,.bool r.2]) [.junk,.junk,.junk,.junk,.junk]):=by
 intro a0 a1 a2 a3 a4 r hr
 apply pF 36 [] [] [] [.tmp 10,.tmp 11] hr cl9 Tryz.func9
 intro Φ hΦ hF g
 unfold zeu at hF
 refine wW ?_
 refine wC hF [.sh,.sh,.sh] ziU (fun z1 hF=>?_)
 refine wK [1,2,3,5,9,12,13] ?_
 refine wJ hF (fun x4=>[(1,.v (.int .i64 a1)),(2,.v (vH a2)),(3,.v (vH a3)),(5,.bl [.int .i64 a0.P,.int .i64 a0.Q,.int .i64 a0.G]),(9,.bl [vC a4.Places,vC a4.Powers,vC a4.Chain,vC a4.Pi.Commits,vC a4.Pi.Challenges,vC a4.Pi.Responses]),(12,.bl [.int .i64 z1.1.H,vD z1.1.Hs]),(28,.v (.bool x4))]) (fun x4 hF=>?_) fun _ hj2 hF=>?_
 ·refine wI hF (fun h7 hF=>?_) (fun h7 hF=>?_)
  ·exact wl hΦ hF
  refine wW ?_
  refine wC hF [.sh,.sh,.sh,.sh,.sh,.sh] zjj (fun z8 hF=>?_)
  exact wl hΦ hF
 refine wG hF (fun h5 hF=>?_) fun h5 hF=>?_
 ·exact wV h5 (hj2 _) (zac hF)
 try simp[go_sem,g,h5]
 refine wC hF [.sh,.sh] zdu (fun z6 hF=>?_)
 exact wV h5 (hj2 _) (zac hF)
@[go_sem] def zDm:List DE:=[d2 0 [5] 5 5,d0 1 [6],d0 2 [7],d0 3 [8],d0 4 [9],d0 5 [24],d0 6 [7],d0 7 [147],d0 8 [148],d0 9 [149],d0 10 [146,150],d0 15 [],d3 11 [141,142,143,144,145,151],d0 12 [152],d0 13 [140],d0 14 [140],d2 16 [26,153] 26 26,d0 17 [154]]
def zev (a0:List Int) (a1:List Int):Option Bool:=
 if decide (1048576<(i64.wrap ((a0.length:Int)+(a1.length:Int))))=true then(
 some true)else(
 (zdx a0).bind fun z2=>
 (zct z2.1 z2.2.1 z2.2.2.1 z2.2.2.2.1 z2.2.2.2.2).bind fun z3=>
 (zbE z2.1 z2.2.1 z2.2.2.1 z2.2.2.2.1 z2.2.2.2.2).bind fun z4=>
 (zcX a1).bind fun z5=>
 (zda z5.1 z5.2.1 z5.2.2.1 z5.2.2.2).bind fun z6=>
 (zc9 z5.1 z5.2.1 z5.2.2.1 z5.2.2.2).bind fun z7=>
 ((if(z3.2 !=z4.2)=true then(
 some true)else(
 (zgj z3.1 z4.1).bind fun z12=>
 if(!z12)=true then(
 some true)else(
 if(z6.2 !=z7.2)=true then(
 some true)else(
 some (z6.1 !=z7.1)))):Option Bool).bind fun x10=>
 if x10=true then(
 some false)else(
 if(!z3.2)=true then(
 some true)else(
 (zfC z2.1 z2.2.1 z2.2.2.1 z3.1 z2.2.2.2.1 z2.2.2.2.2).bind fun z17=>
 ((zbS (σ:=(List Int)×Int) (fun s21=>
 if decide (s21.2<(i64.wrap ((i64.wrap (8*(z2.2.2.1.length:Int)))+2)))=true then(
 (zgc (i64.wrap ((i64.wrap (s21.2*s21.2))+(a1.length:Int))) z2.1.Q).bind fun z27=>
 gd ((s21.1.length+1)*8≤140737488355328∧s21.1.length+1≤4611686018427387904)<|
 some (.go (s21.1++[z27],i64.wrap (s21.2+1))))else(
 some (.out s21.1))) ([],0):Option ((List Int))).bind fun x20=>
 gd (0≤(i64.wrap ((i64.wrap (4*(z2.2.2.1.length:Int)))+4)))<|
 gd (0≤(i64.wrap ((i64.wrap (4*(z2.2.2.1.length:Int)))+4)).toNat∧(i64.wrap ((i64.wrap (4*(z2.2.2.1.length:Int)))+4)).toNat≤x20.length)<|
 (zem z2.1 z2.2.1 z2.2.2.1 z2.2.2.2.1 z2.2.2.2.2 ((x20.take ((i64.wrap ((i64.wrap (4*(z2.2.2.1.length:Int)))+4)).toNat)).drop 0)).bind fun z30=>
 (zeN z2.1 z2.2.1 z2.2.2.1 z2.2.2.2.1 z2.2.2.2.2 x20).bind fun z31=>
 ((if(!z17.1)=true then(
 some true)else(
 if(!z17.2)=true then(
 some true)else(
 if(!z30.2)=true then(
 some true)else(
 some (!z31.2)))):Option Bool).bind fun x34=>
 if x34=true then(
 some false)else(
 (zd2 z2.1 z2.2.1 z2.2.2.1 z3.1 z30.1).bind fun z39=>
 (zeu z2.1 z2.2.1 z2.2.2.1 z3.1 z31.1).bind fun z40=>
 ((if z39.2=true then(
 if z40.2=true then(
 if z39.1=true then(
 some z40.1)else(
 some false))else(
 some false))else(
 some false):Option Bool).bind fun x43=>
 some x43))))))))
theorem zmd:∀{a0}{a1}{r},zev a0 a1=some r→PCalls Tryz.prog 4 [(.sh,.sl false 1 (a0.map zfH)),(.sh,.sl false 1 (a1.map zfH))] (Eo (.bool r) [.junk,.junk]):=by
 intro a0 a1 r hr
 apply pF 207 [] [143,144,146,151] [] [.tmp 4] hr cl4 Tryz.func4
 intro Φ hΦ hF g
 unfold zev at hF
 iterate 2 (try simp[go_sem,g];try intros;refine zaT ?_)
 refine wI hF (fun h1 hF=>?_) (fun h1 hF=>?_)
 ·exact wl hΦ hF
 refine wW ?_
 refine wC hF [.sh] zjT (fun z2 hF=>?_)
 refine wK [1,5,6,7,8,9] ?_
 refine wC hF [.sh,.sh,.sh,.sh,.sh] zil (fun z3 hF=>?_)
 refine wK [1,5,6,7,8,9,10,11] ?_
 refine wC hF [.sh,.sh,.sh,.sh,.sh] zik (fun z4 hF=>?_)
 refine wK [1,5,6,7,8,9,10,11,12,13] ?_
 refine wC hF [.sh] zjn (fun z5 hF=>?_)
 refine wK [1,5,6,7,8,9,10,11,12,13,14,15,16,17] ?_
 refine wC hF [.sh,.sh,.sh,.sh] zkX (fun z6 hF=>?_)
 refine wK [1,5,6,7,8,9,10,11,12,13,14,15,16,17,18,19] ?_
 refine wC hF [.sh,.sh,.sh,.sh] zkZ (fun z7 hF=>?_)
 refine wK [1,5,6,7,8,9,10,11,12,13,18,19,20,21] ?_
 refine wJ hF (fun x10=>[(1,.v (vA a1)),(5,.bl [.int .i64 z2.1.P,.int .i64 z2.1.Q,.int .i64 z2.1.G]),(6,.v (.int .i64 z2.2.1)),(7,.v (vG z2.2.2.1)),(8,.v (vD z2.2.2.2.1)),(9,.v (vC z2.2.2.2.2)),(10,.v (vG z3.1)),(11,.v (.bool z3.2)),(107,.v (.bool x10))]) (fun x10 hF=>?_) fun _ hj8 hF=>?_
 ·refine wI hF (fun h15 hF=>?_) (fun h15 hF=>?_)
  ·exact wl hΦ hF
  iterate 2 refine wW ?_
  refine wI hF (fun h16 hF=>?_) (fun h16 hF=>?_)
  ·exact wl hΦ hF
  refine wW ?_
  refine wC hF [.sh,.sh,.sh,.sh,.sh,.sh] znX (fun z17 hF=>?_)
  refine wK [1,5,6,7,8,9,10,22,23] ?_
  iterate 2 refine wW ?_
  refine wJ hF (fun x20=>[(5,.bl [.int .i64 z2.1.P,.int .i64 z2.1.Q,.int .i64 z2.1.G]),(6,.v (.int .i64 z2.2.1)),(7,.v (vG z2.2.2.1)),(8,.v (vD z2.2.2.2.1)),(9,.v (vC z2.2.2.2.2)),(10,.v (vG z3.1)),(22,.v (.bool z17.1)),(23,.v (.bool z17.2)),(24,.v (vD x20))]) (fun x20 hF=>?_) fun _ hj18 hF=>?_
  ·refine wX zDm follows ?_
   obtain⟨g,hF⟩:=Rg g hF
   obtain⟨g,hF⟩:=Rg g hF
   try simp[go_sem,g]
   try intros
   refine wC hF [.sh,.sh,.sh,.sh,.sh,.sh] zlL (fun z30 hF=>?_)
   refine wK [5,6,7,8,9,10,22,23,24,26,27] ?_
   refine wC hF [.sh,.sh,.sh,.sh,.sh,.sh] zm0 (fun z31 hF=>?_)
   refine wK [5,6,7,10,22,23,26,27,28,29] ?_
   refine wJ hF (fun x34=>[(5,.bl [.int .i64 z2.1.P,.int .i64 z2.1.Q,.int .i64 z2.1.G]),(6,.v (.int .i64 z2.2.1)),(7,.v (vH z2.2.2.1)),(10,.v (vG z3.1)),(26,.bl [vC z30.1.Columns,vC z30.1.Chain,vC z30.1.Pi.Commits,vC z30.1.Pi.Challenges,vC z30.1.Pi.Responses]),(28,.bl [vC z31.1.Places,vC z31.1.Powers,vC z31.1.Chain,vC z31.1.Pi.Commits,vC z31.1.Pi.Challenges,vC z31.1.Pi.Responses]),(178,.v (.bool x34))]) (fun x34 hF=>?_) fun _ hj32 hF=>?_
   ·refine wI hF (fun h38 hF=>?_) (fun h38 hF=>?_)
    ·exact wl hΦ hF
    refine wW ?_
    refine wC hF [.sh,.sh,.sh,.sh,.sh] zk0 (fun z39 hF=>?_)
    refine wK [5,6,7,10,28,30,31] ?_
    refine wC hF [.sh,.sh,.sh,.sh,.sh] zme (fun z40 hF=>?_)
    refine wK [30,31,32,33] ?_
    refine wJ hF (fun x43=>[(4,.v (.bool x43))]) (fun x43 hF=>?_) fun _ hj41 hF=>?_
    ·exact wm hΦ hF
    refine wG hF (fun h44 hF=>?_) fun h44 hF=>?_
    ·try simp[go_sem,g,h44]
     refine wG hF (fun h45 hF=>?_) fun h45 hF=>?_
     ·try simp[go_sem,g,h45]
      refine wG hF (fun h46 hF=>?_) fun h46 hF=>?_
      ·exact wV h46 (hj41 _) (zac hF)
      exact wV h46 (hj41 _) (zac hF)
     exact wV h45 (hj41 _) (zac hF)
    exact wV h44 (hj41 _) (zac hF)
   refine wG hF (fun h35 hF=>?_) fun h35 hF=>?_
   ·exact wV h35 (hj32 _) (zac hF)
   try simp[go_sem,g,h35]
   refine wG hF (fun h36 hF=>?_) fun h36 hF=>?_
   ·exact wV h36 (hj32 _) (zac hF)
   try simp[go_sem,g,h36]
   refine wG hF (fun h37 hF=>?_) fun h37 hF=>?_
   ·exact wV h37 (hj32 _) (zac hF)
   exact wV h37 (hj32 _) (zac hF)
  refine wB ?_
  obtain⟨b28,hb29,hψ25⟩:=hF
  refine pL hb29 (fun s21=>[(1,.v (vA a1)),(5,.bl [.int .i64 z2.1.P,.int .i64 z2.1.Q,.int .i64 z2.1.G]),(6,.v (.int .i64 z2.2.1)),(7,.v (vG z2.2.2.1)),(8,.v (vD z2.2.2.2.1)),(9,.v (vC z2.2.2.2.2)),(10,.v (vG z3.1)),(22,.v (.bool z17.1)),(23,.v (.bool z17.2)),(24,.v (vD s21.1)),(25,.v (.int .i64 s21.2))]) (fun s21 _ _ ho23 hg24 hF=>?_)
  try simp[go_sem,g]
  try intros
  refine zaT ?_
  refine wI hF (fun h26 hF=>?_) (fun h26 hF=>?_)
  ·refine wW ?_
   refine wB ?_
   try simp[go_sem,g]
   try intros
   refine wC hF [.sh,.sh] zrb (fun z27 hF=>?_)
   obtain⟨g,hF⟩:=Rg g hF
   refine wK [1,5,6,7,8,9,10,22,23,24,25] ?_
   exact wT (hg24 _) (zac hF)
  cases ho23 _ (zac hF)
  exact wT (hj18 _) hψ25
 refine wG hF (fun h11 hF=>?_) fun h11 hF=>?_
 ·exact wV h11 (hj8 _) (zac hF)
 try simp[go_sem,g,h11]
 refine wC hF [.sh,.sh] znt (fun z12 hF=>?_)
 try simp[go_sem,g,h11]
 refine wG hF (fun h13 hF=>?_) fun h13 hF=>?_
 ·exact wV h13 (hj8 _) (zac hF)
 try simp[go_sem,g,h13]
 refine wG hF (fun h14 hF=>?_) fun h14 hF=>?_
 ·exact wV h14 (hj8 _) (zac hF)
 exact wV h14 (hj8 _) (zac hF)
end
end Go.Pm
