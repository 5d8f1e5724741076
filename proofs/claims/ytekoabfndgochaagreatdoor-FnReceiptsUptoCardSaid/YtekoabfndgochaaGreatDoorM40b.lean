/-
  Plain functions and their walks. Written by wip/tools/lift.py.
-/
import Derived.Test.YtekoabfndgochaaGreatDoorM40
namespace Go.Pm
open Go.Am IntKind
open Go.Proofs
set_option maxRecDepth 100000
attribute [local irreducible] pw pwx pw1 pwg qv qz qf
attribute [-simp] List.map_set
set_option linter.unusedSimpArgs false
set_option linter.unusedVariables false
noncomputable section
theorem zj7:∀{a0}{a1}{r},zed a0 a1=some r→PCalls Tryz.prog 190 [(.sh,vF a0),(.sh,vC a1)] (Eo (vD r) [.junk,.junk]):=by
 intro a0 a1 r hr
 apply pF 22 [] [] [] [.tmp 4] hr zDT Tryz.func190
 intro Φ hΦ hF g
 unfold zed at hF
 obtain⟨g,hF⟩:=Rg g hF
 obtain⟨x1,e2,hF⟩:=zen hF
 have g3:List.replicate a0.Options.toNat ([.int .i64 0]:List PV)=x1.map zaj:=by injection e2 with e2;rw[←e2];simp[go_sem]
 iterate 3 (try simp[go_sem,g,g3];try intros;refine zat ?_)
 refine wJ hF (fun x6=>[(5,.v (vD x6))]) (fun x6 hF=>?_) fun _ hj4 hF=>?_
 ·refine wK [4] ?_
  exact wm hΦ hF
 refine wB ?_
 obtain⟨b25,hb26,hψ20⟩:=hF
 refine pR hb26 (fun i17 s16=>[(5,.v (vD s16)),(11,.v (vC a1)),(12,.v (.int .i64 (a1.length:Int))),(13,.v (.int .i64 i17))]) (fun s16 _ hN27=>?_) (fun i17 s16 _ _ hi21 hi22 ho18 hg19 hF=>?_)
 ·exact wn hN27 (hj4 _) hψ20
 refine wK [5,11,12,13,14] ?_
 refine wu hi21 hi22 ?_
 refine wW ?_
 refine wB ?_
 obtain⟨x23,g,hF⟩:=Rx g hF
 obtain⟨x24,g,hF⟩:=Rx g hF
 iterate 2 refine wW ?_
 exact wi hi21 hi22 (hg19 _) (zaa hF)
def zda (a0:List Int):Option (List Int):=
 gd (a0.length*8≤140737488355328∧a0.length≤4611686018427387904)<|
 some a0
theorem zkf {a0:(List Int)}{r:(List Int)}(hr:zda a0=some r):PCalls Tryz.prog 191 [(.sh,.sl false 1 (a0.map zaj))] (Eo (.sl true 1 (r.map zaj)) [.junk]):=by
 apply zmo 8 [] [] [1000000] [.tmp 2] hr zE7 Tryz.func191 rfl rfl rfl
 ·exact⟨by simp,rfl⟩
 intro Φ hΦ hF
 unfold zda at hF
 obtain⟨g,hF⟩:=zgK hF
 have h1:=hΦ _ (zaa hF)
 subst h1
 try simp[go_sem]
 refine zl1 [(0,.v (.sl false 1 (a0.map zaj)))] (by simp[go_sem]) ?_
 try simp[go_sem]
 refine zsD rfl rfl (by simp[go_sem]) rfl (by rfl) fun b hb=>?_
 try simp[go_sem]
 refine zat ?_
 repeat rw[zrM]
 cases b
 ·refine zlQ (by simp[go_sem]) ?_
  try simp[go_sem]
  refine zat ?_
  try simp[go_sem,g]
  refine zat ?_
  try simp[go_sem,g]
 have hb0:a0=[]:=by
  cases a0 with
  |nil=>rfl
  |cons x l=>exact absurd (hb (by simp)) (by simp)
 subst hb0
 refine zl4 (by simp[go_sem]) ?_
 try simp[go_sem]
 refine zat ?_
 try simp[go_sem]
def zcB (a0:Contest) (a1:List Int):Option ((List Int)):=
 if(a0.Kind==1)=true then(
 (zed a0 a1).bind fun z2=>
 some z2)else(
 if(a0.Kind==3)=true then(
 ((zap (σ:=(List Int)) (fun i8 s7=>
 (ix a1 i8).bind fun x14=>
 gd ((s7.length+1)*8≤140737488355328∧s7.length+1≤4611686018427387904)<|
 some (.go (s7++[i64.wrap (x14+1)]))) (fun s7=>s7) (a1.length) 0 []:Option ((List Int))).bind fun x6=>
 some x6))else(
 (zda a1).bind fun z19=>
 some z19))
theorem zhu:∀{a0}{a1}{r},zcB a0 a1=some r→PCalls Tryz.prog 123 [(.sh,vF a0),(.sh,vC a1)] (Eo (vD r) [.junk,.junk]):=by
 intro a0 a1 r hr
 apply pF 33 [] [] [] [.tmp 4] hr zCZ Tryz.func123
 intro Φ hΦ hF g
 unfold zcB at hF
 iterate 2 refine wW ?_
 refine wB ?_
 refine wW ?_
 refine wI hF (fun h1 hF=>?_) (fun h1 hF=>?_)
 ·refine wC hF [.sh,.sh] zj7 (fun z2 hF=>?_)
  refine wK [4] ?_
  exact wm hΦ hF
 refine wW ?_
 refine wI hF (fun h3 hF=>?_) (fun h3 hF=>?_)
 ·refine wK [1,5] ?_
  try simp[go_sem,g]
  try intros
  refine zat ?_
  refine wJ hF (fun x6=>[(5,.v (vD x6))]) (fun x6 hF=>?_) fun _ hj4 hF=>?_
  ·exact wl hΦ hF
  refine wB ?_
  obtain⟨b15,hb16,hψ11⟩:=hF
  refine pR hb16 (fun i8 s7=>[(5,.v (vD s7)),(18,.v (vC a1)),(19,.v (.int .i64 (a1.length:Int))),(20,.v (.int .i64 i8))]) (fun s7 _ hN17=>?_) (fun i8 s7 _ _ hi12 hi13 ho9 hg10 hF=>?_)
  ·exact wn hN17 (hj4 _) hψ11
  refine wW ?_
  refine wu hi12 hi13 ?_
  refine wW ?_
  refine wB ?_
  obtain⟨x14,g,hF⟩:=Rx g hF
  obtain⟨g,hF⟩:=Rg g hF
  refine wW ?_
  refine wK [5,18,19,20] ?_
  exact wi hi12 hi13 (hg10 _) (zaa hF)
 refine wW ?_
 refine wC hF [.sh] zkf (fun z19 hF=>?_)
 refine wK [4] ?_
 exact wm hΦ hF
@[go_sem] def zAp:List DE:=[d2 0 [2] 2 2,d0 1 [1],d2 3 [2] 2 2,d3 2 [5,6],d3 4 [8],d3 5 [7,9],d0 6 [10]]
def zdY (a0:Contest) (a1:List Int):Option Int:=
 (zcB a0 a1).bind fun z1=>
 (zaK a0).bind fun z2=>
 (ze9 z1 z2).bind fun z3=>
 some z3
theorem zlB:∀{a0}{a1}{r},zdY a0 a1=some r→PCalls Tryz.prog 124 [(.sh,vF a0),(.sh,vC a1)] (Eo (.int .i64 r) [.junk,.junk]):=by
 intro a0 a1 r hr
 apply pF 11 [] [] [] [.tmp 4] hr zEJ Tryz.func124
 intro Φ hΦ hF g
 unfold zdY at hF
 refine wW ?_
 refine wX zAp follows ?_
 refine wC hF [.sh,.sh] zhu (fun z1 hF=>?_)
 refine wC hF [.sh] zh1 (fun z2 hF=>?_)
 refine wC hF [.sh,.sh] zlt (fun z3 hF=>?_)
 exact wl hΦ hF
def zbW (a0:Contest) (a1:List Int):Option ((List Int)):=
 ((if(a0.Kind==1)=true then(
 some true)else(
 some (a0.Kind==2)):Option Bool).bind fun x3=>
 if x3=true then(
 (zcB a0 a1).bind fun z6=>
 some z6)else(
 (zdY a0 a1).bind fun z7=>
 some [z7]))
theorem zjE:∀{a0}{a1}{r},zbW a0 a1=some r→PCalls Tryz.prog 53 [(.sh,vF a0),(.sh,vC a1)] (Eo (vD r) [.junk,.junk]):=by
 intro a0 a1 r hr
 apply pF 20 [] [] [] [.tmp 4] hr zIf Tryz.func53
 intro Φ hΦ hF g
 unfold zbW at hF
 refine wW ?_
 refine wJ hF (fun x3=>[(1,.v (vC a1)),(2,.bl [.int .i64 a0.Kind,.int .i64 a0.Options,.int .i64 a0.Least,.int .i64 a0.Most,.int .i64 a0.Points]),(12,.v (.bool x3))]) (fun x3 hF=>?_) fun _ hj1 hF=>?_
 ·refine wI hF (fun h5 hF=>?_) (fun h5 hF=>?_)
  ·refine wC hF [.sh,.sh] zhu (fun z6 hF=>?_)
   exact wl hΦ hF
  refine wW ?_
  refine wC hF [.sh,.sh] zlB (fun z7 hF=>?_)
  exact wl hΦ hF
 refine wG hF (fun h4 hF=>?_) fun h4 hF=>?_
 ·exact wV h4 (hj1 _) (zaa hF)
 exact wV h4 (hj1 _) (zaa hF)
def zdi (a0:ByteArray):Option Bool:=
 some (decide ((a0.size:Int)≤40))
theorem zic:∀{a0}{r},zdi a0=some r→PCalls Tryz.prog 128 [(.sh,.str a0)] (Eo (.bool r) [.junk]):=by
 intro a0 r hr
 apply pF 6 [] [] [] [.tmp 2] hr zEV Tryz.func128
 intro Φ hΦ hF g
 unfold zdi at hF
 cases hΦ _ (zaa hF)
 iterate 2 refine wW ?_
 try simp[go_sem,g]
def zbD (a0:Int) (a1c0x0:Group):Option Bool:=
 (zd4 a1c0x0 a0).bind fun z1=>
 some (!z1)
theorem zhy:∀{a0}{a1c0x0}{r},zbD a0 a1c0x0=some r→PCalls Tryz.prog 181 [(.sh,.int .i64 a0),(.sh,.fp [.func (.func 47) [vE a1c0x0] []])] (Eo (.bool r) [.junk,.junk]):=by
 intro a0 a1c0x0 r hr
 apply pF 8 [] [] [] [.tmp 3] hr znY Tryz.func181
 intro Φ hΦ hF g
 unfold zbD at hF
 refine wW ?_
 refine wC hF [.sh] zjK (fun z1 hF=>?_)
 exact wl hΦ hF
def zaN (a0:List Int) (a1u0c0x0:Group):Option Int:=
 ((zap (σ:=Unit) (fun i5 s4=>
 (ix a0 i5).bind fun x11=>
 (zbD x11 a1u0c0x0).bind fun z12=>
 if z12=true then(
 some (.out (.inr i5)))else(
 some (.go ()))) (fun s4=>.inl ()) (a0.length) 0 ():Option (Unit ⊕ Int)).bind (Sum.elim (fun x3=>
 some (-1)) some))
theorem zd3:∀{a0}{a1u0c0x0}{r},zaN a0 a1u0c0x0=some r→PCalls Tryz.prog 219 [(.sh,vC a0),(.sh,.func (.func 181) [] [.fp [.func (.func 47) [vE a1u0c0x0] []]])] (Eo (.int .i64 r) [.junk,.junk]):=by
 intro a0 a1u0c0x0 r hr
 apply pF 19 [] [] [] [.tmp 4] hr znX Tryz.func219
 intro Φ hΦ hF g
 unfold zaN at hF
 iterate 2 (try simp[go_sem,g];try intros;refine zat ?_)
 refine wS hF (fun x3=>[]) (fun x3 hF=>?_) fun _ hj1 hr2 hF=>?_
 ·exact wl hΦ hF
 refine wB ?_
 obtain⟨b14,hb15,hψ8⟩:=hF
 refine pR hb15 (fun i5 s4=>[(0,.v (vC a0)),(1,.v (.func (.func 181) [] [.fp [.func (.func 47) [vE a1u0c0x0] []]])),(7,.v (.int .i64 (a0.length:Int))),(8,.v (.int .i64 i5))]) (fun s4 _ hN16=>?_) (fun i5 s4 _ _ hi9 hi10 ho6 hg7 hF=>?_)
 ·exact wn hN16 (hj1 _) hψ8
 refine wW ?_
 refine wu hi9 hi10 ?_
 refine wW ?_
 refine wB ?_
 obtain⟨x11,g,hF⟩:=Rx g hF
 refine wW ?_
 refine wC hF [.sh] zhy (fun z12 hF=>?_)
 refine wK [0,1,5,7,8,16] ?_
 refine wI hF (fun h13 hF=>?_) (fun h13 hF=>?_)
 ·cases ho6 _ (zaa hF)
  cases hΦ _ (hr2 _ hψ8)
  refine wW ?_
  try simp[go_sem,g]
 refine wW ?_
 exact wi hi9 hi10 (hg7 _) (zaa hF)
def zaI (a0:List Int) (a1u0c0x0:Group):Option Bool:=
 (zaN a0 a1u0c0x0).bind fun z1=>
 some (decide (0≤z1))
theorem zdL:∀{a0}{a1u0c0x0}{r},zaI a0 a1u0c0x0=some r→PCalls Tryz.prog 180 [(.sh,vC a0),(.sh,.func (.func 181) [] [.fp [.func (.func 47) [vE a1u0c0x0] []]])] (Eo (.bool r) [.junk,.junk]):=by
 intro a0 a1u0c0x0 r hr
 apply pF 9 [] [] [] [.tmp 4] hr zoA Tryz.func180
 intro Φ hΦ hF g
 unfold zaI at hF
 refine wW ?_
 refine wC hF [.sh,.sh] zd3 (fun z1 hF=>?_)
 exact wl hΦ hF
def zcE (a0:List Int) (a1x0:Group):Option Bool:=
 (zaI a0 a1x0).bind fun z1=>
 some (!z1)
theorem zhW:∀{a0}{a1x0}{r},zcE a0 a1x0=some r→PCalls Tryz.prog 103 [(.sh,vC a0),(.sh,.func (.func 47) [vE a1x0] [])] (Eo (.bool r) [.junk,.junk]):=by
 intro a0 a1x0 r hr
 apply pF 9 [] [] [1000000] [.tmp 4] hr znS Tryz.func103
 intro Φ hΦ hF g
 unfold zcE at hF
 refine wW ?_
 refine wC hF [.sh,.sh] zdL (fun z1 hF=>?_)
 exact wl hΦ hF
def zcr (a0:Group) (a1:List Int):Option Bool:=
 (zcE a1 a0).bind fun z1=>
 some z1
theorem zhY:∀{a0}{a1}{r},zcr a0 a1=some r→PCalls Tryz.prog 207 [(.sh,vE a0),(.sh,vC a1)] (Eo (.bool r) [.junk,.junk]):=by
 intro a0 a1 r hr
 apply pF 9 [] [] [] [.tmp 4] hr zES Tryz.func207
 intro Φ hΦ hF g
 unfold zcr at hF
 refine wW ?_
 refine wC hF [.sh,.sh] zhW (fun z1 hF=>?_)
 exact wl hΦ hF
def zcR (a0:List Int) (a1c0:(List (List Int))) (a2c0:Int) (a2c1:Int) (a2c2:Int):Option Bool:=
 (((ix a1c0 0).bind fun x4=>
 if((a0.length:Int) !=(x4.length:Int))=true then(
 some true)else(
 (zcr (Group.mk a2c0 a2c1 a2c2) a0).bind fun z6=>
 some (!z6)):Option Bool).bind fun x3=>
 some x3)
theorem zjO:∀{a0}{a1c0}{a2c0}{a2c1}{a2c2}{r},zcR a0 a1c0 a2c0 a2c1 a2c2=some r→PCalls Tryz.prog 225 [(.sh,vC a0),(.sh,.fp [vH a1c0]),(.sh,.fp [.int .i64 a2c0,.int .i64 a2c1,.int .i64 a2c2])] (Eo (.bool r) [.junk,.junk,.junk]):=by
 intro a0 a1c0 a2c0 a2c1 a2c2 r hr
 apply pF 18 [] [] [] [.tmp 4] hr zDO Tryz.func225
 intro Φ hΦ hF g
 unfold zcR at hF
 refine wW ?_
 refine wJ hF (fun x3=>[(4,.v (.bool x3))]) (fun x3 hF=>?_) fun _ hj1 hF=>?_
 ·exact wm hΦ hF
 obtain⟨x4,g,hF⟩:=Rxn g 0 hF
 try simp[go_sem,g]
 try intros
 refine wG hF (fun h5 hF=>?_) fun h5 hF=>?_
 ·exact wV h5 (hj1 _) (zaa hF)
 try simp[go_sem,g,h5]
 refine wC hF [.sh,.sh] zhY (fun z6 hF=>?_)
 exact wV h5 (hj1 _) (zaa hF)
def zaJ (a0:(List (List Int))) (a1u0c0:(List (List Int))) (a1u1c0:Int) (a1u1c1:Int) (a1u1c2:Int):Option Int:=
 ((zap (σ:=Unit) (fun i5 s4=>
 (ix a0 i5).bind fun x11=>
 (zcR x11 a1u0c0 a1u1c0 a1u1c1 a1u1c2).bind fun z12=>
 if z12=true then(
 some (.out (.inr i5)))else(
 some (.go ()))) (fun s4=>.inl ()) (a0.length) 0 ():Option (Unit ⊕ Int)).bind (Sum.elim (fun x3=>
 some (-1)) some))
theorem zeV:∀{a0}{a1u0c0}{a1u1c0}{a1u1c1}{a1u1c2}{r},zaJ a0 a1u0c0 a1u1c0 a1u1c1 a1u1c2=some r→PCalls Tryz.prog 236 [(.sh,vH a0),(.sh,.func (.func 225) [] [.fp [vH a1u0c0],.fp [.int .i64 a1u1c0,.int .i64 a1u1c1,.int .i64 a1u1c2]])] (Eo (.int .i64 r) [.junk,.junk]):=by
 intro a0 a1u0c0 a1u1c0 a1u1c1 a1u1c2 r hr
 apply pF 19 [] [] [] [.tmp 4] hr zE4 Tryz.func236
 intro Φ hΦ hF g
 unfold zaJ at hF
 iterate 2 (try simp[go_sem,g];try intros;refine zat ?_)
 refine wS hF (fun x3=>[]) (fun x3 hF=>?_) fun _ hj1 hr2 hF=>?_
 ·exact wl hΦ hF
 refine wB ?_
 obtain⟨b14,hb15,hψ8⟩:=hF
 refine pR hb15 (fun i5 s4=>[(0,.v (vH a0)),(1,.v (.func (.func 225) [] [.fp [vH a1u0c0],.fp [.int .i64 a1u1c0,.int .i64 a1u1c1,.int .i64 a1u1c2]])),(7,.v (.int .i64 (a0.length:Int))),(8,.v (.int .i64 i5))]) (fun s4 _ hN16=>?_) (fun i5 s4 _ _ hi9 hi10 ho6 hg7 hF=>?_)
 ·exact wn hN16 (hj1 _) hψ8
 refine wW ?_
 refine wu hi9 hi10 ?_
 refine wW ?_
 refine wB ?_
 obtain⟨x11,g,hF⟩:=Rx g hF
 refine wW ?_
 refine wC hF [.sh] zjO (fun z12 hF=>?_)
 refine wK [0,1,5,7,8,16] ?_
 refine wI hF (fun h13 hF=>?_) (fun h13 hF=>?_)
 ·cases ho6 _ (zaa hF)
  cases hΦ _ (hr2 _ hψ8)
  refine wW ?_
  try simp[go_sem,g]
 refine wW ?_
 exact wi hi9 hi10 (hg7 _) (zaa hF)
def zaW (a0:(List (List Int))) (a1u0c0:(List (List Int))) (a1u1c0:Int) (a1u1c1:Int) (a1u1c2:Int):Option Bool:=
 (zaJ a0 a1u0c0 a1u1c0 a1u1c1 a1u1c2).bind fun z1=>
 some (decide (0≤z1))
theorem zez:∀{a0}{a1u0c0}{a1u1c0}{a1u1c1}{a1u1c2}{r},zaW a0 a1u0c0 a1u1c0 a1u1c1 a1u1c2=some r→PCalls Tryz.prog 224 [(.sh,vH a0),(.sh,.func (.func 225) [] [.fp [vH a1u0c0],.fp [.int .i64 a1u1c0,.int .i64 a1u1c1,.int .i64 a1u1c2]])] (Eo (.bool r) [.junk,.junk]):=by
 intro a0 a1u0c0 a1u1c0 a1u1c1 a1u1c2 r hr
 apply pF 9 [] [] [] [.tmp 4] hr zFd Tryz.func224
 intro Φ hΦ hF g
 unfold zaW at hF
 refine wW ?_
 refine wC hF [.sh,.sh] zeV (fun z1 hF=>?_)
 exact wl hΦ hF
def zcL (a0:Group) (a1:(List (List Int))):Option Bool:=
 (((zaB (a1.length:Int) 1 8).bind fun z4=>
 if(!z4)=true then(
 some true)else(
 (ix a1 0).bind fun x6=>
 (zaB (x6.length:Int) 1 8).bind fun z7=>
 some (!z7)):Option Bool).bind fun x3=>
 if x3=true then(
 some false)else(
 (zaW a1 a1 a0.P a0.Q a0.G).bind fun z9=>
 some (!z9)))
theorem zhQ:∀{a0}{a1}{r},zcL a0 a1=some r→PCalls Tryz.prog 192 [(.sh,vE a0),(.sh,vH a1)] (Eo (.bool r) [.junk,.junk]):=by
 intro a0 a1 r hr
 apply pF 21 [] [] [1000000] [.tmp 4] hr zB6 Tryz.func192
 intro Φ hΦ hF g
 unfold zcL at hF
 refine wW ?_
 refine wJ hF (fun x3=>[(2,.bl [.int .i64 a0.P,.int .i64 a0.Q,.int .i64 a0.G]),(3,.bl [vH a1]),(16,.v (.bool x3))]) (fun x3 hF=>?_) fun _ hj1 hF=>?_
 ·refine wI hF (fun h8 hF=>?_) (fun h8 hF=>?_)
  ·exact wl hΦ hF
  refine wW ?_
  refine wC hF [.sh,.sh] zez (fun z9 hF=>?_)
  exact wl hΦ hF
 try simp[go_sem,g]
 try intros
 refine wC hF [.sh,.sh,.sh] za2 (fun z4 hF=>?_)
 refine wG hF (fun h5 hF=>?_) fun h5 hF=>?_
 ·exact wV h5 (hj1 _) (zaa hF)
 obtain⟨x6,g,hF⟩:=Rxn g 0 hF
 try simp[go_sem,g,h5]
 try intros
 refine wC hF [.sh,.sh,.sh] za2 (fun z7 hF=>?_)
 exact wV h5 (hj1 _) (zaa hF)
def zgH (a0:Int) (a1:Int):Option Int:=
 gd (a1≠0)<|
 gd (a1≠0)<|
 some ((i64.wrap ((a0.tmod a1)+a1)).tmod a1)
theorem zoq:∀{a0}{a1}{r},zgH a0 a1=some r→PCalls Tryz.prog 127 [(.sh,.int .i64 a0),(.sh,.int .i64 a1)] (Eo (.int .i64 r) [.junk,.junk]):=by
 intro a0 a1 r hr
 apply pF 12 [] [] [] [.tmp 4] hr zD1 Tryz.func127
 intro Φ hΦ hF g
 unfold zgH at hF
 obtain⟨g,hF⟩:=Rz g hF
 obtain⟨g,hF⟩:=Rz g hF
 cases hΦ _ (zaa hF)
 iterate 2 refine wW ?_
 try simp[go_sem,g]
@[go_sem] def zE6:List DE:=[d0 0 [1],d0 1 [2],d1 2 [3] 3,d2 3 [9] 3 9,d1 5 [3] 3,d2 6 [12] 3 12,d3 4 [8,10],d3 7 [7,11,13],d0 8 [14]]
def zau (a0:Group) (a1:Int) (a2:Int):Option Int:=
 (zgH a2 a0.Q).bind fun z1=>
 (zeh a1 z1 a0.P).bind fun z2=>
 some z2
theorem za7:∀{a0}{a1}{a2}{r},zau a0 a1 a2=some r→PCalls Tryz.prog 57 [(.sh,vE a0),(.sh,.int .i64 a1),(.sh,.int .i64 a2)] (Eo (.int .i64 r) [.junk,.junk,.junk]):=by
 intro a0 a1 a2 r hr
 apply pF 15 [] [] [] [.tmp 6] hr zJM Tryz.func57
 intro Φ hΦ hF g
 unfold zau at hF
 refine wW ?_
 refine wX zE6 follows ?_
 refine wC hF [.sh,.sh] zoq (fun z1 hF=>?_)
 refine wC hF [.sh,.sh,.sh] zju (fun z2 hF=>?_)
 refine wK [6] ?_
 exact wm hΦ hF
def zbk (a0:Group) (a1:List Int):Option Int:=
 ((zap (σ:=Int) (fun i5 s4=>
 (ix a1 i5).bind fun x11=>
 gd (a0.P≠0)<|
 some (.go ((i64.wrap (s4*x11)).tmod a0.P))) (fun s4=>s4) (a1.length) 0 1:Option Int).bind fun x3=>
 some x3)
theorem zde:∀{a0}{a1}{r},zbk a0 a1=some r→PCalls Tryz.prog 126 [(.sh,vE a0),(.sh,vC a1)] (Eo (.int .i64 r) [.junk,.junk]):=by
 intro a0 a1 r hr
 apply pF 22 [] [] [] [.tmp 4] hr zEE Tryz.func126
 intro Φ hΦ hF g
 unfold zbk at hF
 iterate 3 (try simp[go_sem,g];try intros;refine zat ?_)
 refine wJ hF (fun x3=>[(5,.v (.int .i64 x3))]) (fun x3 hF=>?_) fun _ hj1 hF=>?_
 ·exact wl hΦ hF
 refine wB ?_
 obtain⟨b12,hb13,hψ8⟩:=hF
 refine pR hb13 (fun i5 s4=>[(2,.bl [.int .i64 a0.P,.int .i64 a0.Q,.int .i64 a0.G]),(5,.v (.int .i64 s4)),(8,.v (vC a1)),(9,.v (.int .i64 (a1.length:Int))),(10,.v (.int .i64 i5))]) (fun s4 _ hN14=>?_) (fun i5 s4 _ _ hi9 hi10 ho6 hg7 hF=>?_)
 ·exact wn hN14 (hj1 _) hψ8
 refine wW ?_
 refine wu hi9 hi10 ?_
 refine wW ?_
 refine wB ?_
 obtain⟨x11,g,hF⟩:=Rx g hF
 refine wK [2,5,7,8,9,10] ?_
 obtain⟨g,hF⟩:=Rz g hF
 refine wW ?_
 exact wi hi9 hi10 (hg7 _) (zaa hF)
@[go_sem] def zAr:List DE:=[d2 0 [3] 3 3,d0 1 [7],d2 2 [3] 3 3,d0 3 [9],d0 4 [2],d0 5 [8],d0 6 [21,22],d0 7 [23],d3 8 [19,20,24],d0 9 [18,25],⟨10,[17,26],[],none,true,true,true⟩,d0 11 [27]]
def zdV (a0:Group) (a1:List Int) (a2:List Int):Option Int:=
 ((zap (σ:=Int) (fun i5 s4=>
 (ix a1 i5).bind fun x11=>
 (ix a2 i5).bind fun x12=>
 (zau a0 x11 x12).bind fun z13=>
 (zbk a0 [s4,z13]).bind fun z14=>
 some (.go z14)) (fun s4=>s4) (a1.length) 0 1:Option Int).bind fun x3=>
 some x3)
theorem zlD:∀{a0}{a1}{a2}{r},zdV a0 a1 a2=some r→PCalls Tryz.prog 227 [(.sh,vE a0),(.sh,vC a1),(.sh,vC a2)] (Eo (.int .i64 r) [.junk,.junk,.junk]):=by
 intro a0 a1 a2 r hr
 apply pF 30 [] [] [] [.tmp 6] hr zCa Tryz.func227
 intro Φ hΦ hF g
 unfold zdV at hF
 iterate 3 (try simp[go_sem,g];try intros;refine zat ?_)
 refine wJ hF (fun x3=>[(7,.v (.int .i64 x3))]) (fun x3 hF=>?_) fun _ hj1 hF=>?_
 ·exact wl hΦ hF
 refine wB ?_
 obtain⟨b15,hb16,hψ8⟩:=hF
 refine pR hb16 (fun i5 s4=>[(2,.v (vC a2)),(3,.bl [.int .i64 a0.P,.int .i64 a0.Q,.int .i64 a0.G]),(7,.v (.int .i64 s4)),(10,.v (vC a1)),(11,.v (.int .i64 (a1.length:Int))),(12,.v (.int .i64 i5))]) (fun s4 _ hN17=>?_) (fun i5 s4 _ _ hi9 hi10 ho6 hg7 hF=>?_)
 ·exact wn hN17 (hj1 _) hψ8
 refine wW ?_
 refine wu hi9 hi10 ?_
 refine wW ?_
 refine wB ?_
 obtain⟨x11,g,hF⟩:=Rx g hF
 refine wK [2,3,7,8,9,10,11,12] ?_
 refine wX zAr follows ?_
 obtain⟨x12,g,hF⟩:=Rx g hF
 refine wC hF [.sh,.sh,.sh] za7 (fun z13 hF=>?_)
 refine wC hF [.sh,.sh] zde (fun z14 hF=>?_)
 refine wK [2,3,7,10,11,12] ?_
 exact wi hi9 hi10 (hg7 _) (zaa hF)
def zc3 (a0:Group) (a1:(List (List Int))) (a2:List Int):Option ((List Int)):=
 ((zap (σ:=(List Int)) (fun i5 s4=>
 (ix a1 i5).bind fun x11=>
 (zdV a0 x11 a2).bind fun z12=>
 gd ((s4.length+1)*8≤140737488355328∧s4.length+1≤4611686018427387904)<|
 some (.go (s4++[z12]))) (fun s4=>s4) (a1.length) 0 []:Option ((List Int))).bind fun x3=>
 some x3)
theorem zhZ:∀{a0}{a1}{a2}{r},zc3 a0 a1 a2=some r→PCalls Tryz.prog 208 [(.sh,vE a0),(.sh,vH a1),(.sh,vC a2)] (Eo (vD r) [.junk,.junk,.junk]):=by
 intro a0 a1 a2 r hr
 apply pF 26 [] [] [] [.tmp 6] hr zDc Tryz.func208
 intro Φ hΦ hF g
 unfold zc3 at hF
 iterate 3 (try simp[go_sem,g];try intros;refine zat ?_)
 refine wJ hF (fun x3=>[(7,.v (vD x3))]) (fun x3 hF=>?_) fun _ hj1 hF=>?_
 ·exact wl hΦ hF
 refine wB ?_
 obtain⟨b13,hb14,hψ8⟩:=hF
 refine pR hb14 (fun i5 s4=>[(2,.v (vC a2)),(3,.bl [.int .i64 a0.P,.int .i64 a0.Q,.int .i64 a0.G]),(7,.v (vD s4)),(11,.v (vH a1)),(12,.v (.int .i64 (a1.length:Int))),(13,.v (.int .i64 i5))]) (fun s4 _ hN15=>?_) (fun i5 s4 _ _ hi9 hi10 ho6 hg7 hF=>?_)
 ·exact wn hN15 (hj1 _) hψ8
 refine wW ?_
 refine wu hi9 hi10 ?_
 refine wW ?_
 refine wB ?_
 obtain⟨x11,g,hF⟩:=Rx g hF
 refine wK [2,3,7,9,11,12,13] ?_
 refine wC hF [.sh,.sh,.sh] zlD (fun z12 hF=>?_)
 obtain⟨g,hF⟩:=Rg g hF
 refine wW ?_
 exact wi hi9 hi10 (hg7 _) (zaa hF)
theorem zCu:zuo Tryz.prog 211 28:=by
 intro n H e b es by_ z e1 e2 h0 h1 h2 h3 h4 h5
 refine zlP zCE Tryz.func211 rfl rfl (by simp[Tryz.f211]) fun hw=>?_
 have hn:¬n<0:=by omega
 have hw1:i64.wrap n=n:=wrI (by omega)
 have hw0:i64.wrap 0=0:=wrI (by omega)
 have ei:(zdI Tryz.prog 3).isSome=true:=by kernel_rfl
 by_cases hp:0<n
 ·have hne:n≠0:=by omega
  have h5':=h5
  simp[zan]at h5'
  simp[Tryz.f211,awp,zhf,aop,ahp,zaM,zbj,zaP,mat,zbe,zas,zpX,FR.put,FR.init,rdv,rda,zbo,zdv,zan,Am.lenV,zfi,zdp,bnd,znD,zuO,ziQ,zj6,zny,hn,e1,e2,ei,hw1,hw0,hp,h1,h2,h3,h4,hne]
  first|exact h5'|exact .inl h5'
 have hz:n=0:=by omega
 subst hz
 simp[Tryz.f211,awp,zhf,aop,ahp,zaM,zbj,zaP,mat,zbe,zas,zpX,FR.put,FR.init,rdv,rda,zbo,zdv,zan,Am.lenV,zfi,zdp,bnd,znD,zuO,ziQ,zj6,zny,hn,e1,e2,hw1,hw0,hp]
def zbE (a0:(List (List Int))):Option ((List Int)):=
 ((zap (σ:=Int) (fun i5 s4=>
 (ix a0 i5).bind fun x11=>
 if decide ((i64.wrap (s4+(x11.length:Int)))<0)=true then(
 none)else(
 some (.go (i64.wrap (s4+(x11.length:Int)))))) (fun s4=>s4) (a0.length) 0 0:Option Int).bind fun x3=>
 gd (0≤x3∧8*x3≤140737488355328∧x3≤4611686018427387904)<|
 ((zap (σ:=(List Int)) (fun i22 s21=>
 (ix a0 i22).bind fun x28=>
 gd ((s21.length+x28.length)*8≤140737488355328∧s21.length+x28.length≤4611686018427387904)<|
 some (.go (s21++x28))) (fun s21=>s21) (a0.length) 0 []:Option ((List Int))).bind fun x20=>
 some x20))
theorem ze8:∀{a0}{r},zbE a0=some r→PCalls Tryz.prog 158 [(.sh,vH a0)] (Eo (vD r) [.junk]):=by
 intro a0 r hr
 apply pF 36 [] [] [] [.tmp 2] hr zEy Tryz.func158
 intro Φ hΦ hF g
 unfold zbE at hF
 iterate 3 (try simp[go_sem,g];try intros;refine zat ?_)
 refine wJ hF (fun x3=>[(0,.v (vH a0)),(3,.v (.int .i64 x3))]) (fun x3 hF=>?_) fun _ hj1 hF=>?_
 ·obtain⟨g17,hF⟩:=zgK hF
  try simp[go_sem,g]
  refine zy6 zCu zJI (by simp[go_sem,g]) g17 ?_
  try simp[go_sem,g]
  try intros
  refine zat ?_
  try simp[go_sem,g]
  try intros
  refine wK [6,25,26,27] ?_
  refine wJ hF (fun x20=>[(6,.v (vD x20))]) (fun x20 hF=>?_) fun _ hj18 hF=>?_
  ·exact wl hΦ hF
  refine wB ?_
  obtain⟨b29,hb30,hψ25⟩:=hF
  refine pR hb30 (fun i22 s21=>[(6,.v (vD s21)),(25,.v (vH a0)),(26,.v (.int .i64 (a0.length:Int))),(27,.v (.int .i64 i22))]) (fun s21 _ hN31=>?_) (fun i22 s21 _ _ hi26 hi27 ho23 hg24 hF=>?_)
  ·exact wn hN31 (hj18 _) hψ25
  refine wW ?_
  refine wu hi26 hi27 ?_
  refine wW ?_
  refine wB ?_
  obtain⟨x28,g,hF⟩:=Rx g hF
  obtain⟨g,hF⟩:=Rg g hF
  iterate 2 refine wW ?_
  exact wi hi26 hi27 (hg24 _) (zaa hF)
 refine wB ?_
 obtain⟨b13,hb14,hψ8⟩:=hF
 refine pR hb14 (fun i5 s4=>[(0,.v (vH a0)),(3,.v (.int .i64 s4)),(9,.v (vH a0)),(10,.v (.int .i64 (a0.length:Int))),(11,.v (.int .i64 i5))]) (fun s4 _ hN15=>?_) (fun i5 s4 _ _ hi9 hi10 ho6 hg7 hF=>?_)
 ·exact wn hN15 (hj1 _) hψ8
 refine wW ?_
 refine wu hi9 hi10 ?_
 refine wW ?_
 refine wB ?_
 obtain⟨x11,g,hF⟩:=Rx g hF
 try simp[go_sem,g]
 try intros
 refine zat ?_
 try simp[go_sem,g]
 try intros
 refine wK [0,3,9,10,11] ?_
 refine wW ?_
 refine wI hF (fun h12 hF=>?_) (fun h12 hF=>?_)
 ·exact(zsV hF).elim
 refine wW ?_
 exact wi hi9 hi10 (hg7 _) (zaa hF)
def zgn (a0:ByteArray) (a1:List Int):Option ((List Int)):=
 ((zaQ (σ:=(List Int)×Int) (fun s4=>
 if decide (s4.2<(a0.size:Int))=true then(
 (ixs a0 s4.2).bind fun x10=>
 gd ((s4.1.length+1)*8≤140737488355328∧s4.1.length+1≤4611686018427387904)<|
 some (.go (s4.1++[i64.wrap x10],i64.wrap (s4.2+1))))else(
 some (.out s4.1))) ([(a0.size:Int)],0):Option ((List Int))).bind fun x3=>
 gd ((x3.length+a1.length)*8≤140737488355328∧x3.length+a1.length≤4611686018427387904)<|
 some (x3++a1))
theorem zoh:∀{a0}{a1}{r},zgn a0 a1=some r→PCalls Tryz.prog 107 [(.sh,.str a0),(.sh,vC a1)] (Eo (vD r) [.junk,.junk]):=by
 intro a0 a1 r hr
 apply pF 26 [] [] [] [.tmp 4] hr zCj Tryz.func107
 intro Φ hΦ hF g
 unfold zgn at hF
 iterate 3 refine wW ?_
 refine wJ hF (fun x3=>[(1,.v (vC a1)),(5,.v (vD x3))]) (fun x3 hF=>?_) fun _ hj1 hF=>?_
 ·obtain⟨g,hF⟩:=Rg g hF
  refine wK [4] ?_
  exact wm hΦ hF
 refine wB ?_
 obtain⟨b11,hb12,hψ8⟩:=hF
 refine pL hb12 (fun s4=>[(0,.v (.str a0)),(1,.v (vC a1)),(5,.v (vD s4.1)),(11,.v (.int .i64 (a0.size:Int))),(12,.v (.int .i64 s4.2))]) (fun s4 _ _ ho6 hg7 hF=>?_)
 refine wW ?_
 refine wI hF (fun h9 hF=>?_) (fun h9 hF=>?_)
 ·refine wW ?_
  refine wB ?_
  refine wK [0,1,5,6,11,12] ?_
  obtain⟨x10,g,hF⟩:=Rxs g hF
  obtain⟨g,hF⟩:=Rg g hF
  refine wW ?_
  exact wT (hg7 _) (zaa hF)
 cases ho6 _ (zaa hF)
 exact wT (hj1 _) hψ8
def zek (a0:Int):Option Bool:=
 (zaB a0 0 4611686018427387903).bind fun z1=>
 some z1
theorem zjU:∀{a0}{r},zek a0=some r→PCalls Tryz.prog 31 [(.sh,.int .i64 a0)] (Eo (.bool r) [.junk]):=by
 intro a0 r hr
 apply pF 5 [] [] [] [.tmp 2] hr zJv Tryz.func31
 intro Φ hΦ hF g
 unfold zek at hF
 refine wW ?_
 refine wC hF [.sh,.sh,.sh] za2 (fun z1 hF=>?_)
 exact wl hΦ hF
def zaF (a0:Int):Option Bool:=
 (zek a0).bind fun z1=>
 some (!z1)
theorem zhR:∀{a0}{r},zaF a0=some r→PCalls Tryz.prog 181 [(.sh,.int .i64 a0),(.sh,.fp [.func (.func 31) [] []])] (Eo (.bool r) [.junk,.junk]):=by
 intro a0 r hr
 apply pF 8 [] [] [] [.tmp 3] hr znY Tryz.func181
 intro Φ hΦ hF g
 unfold zaF at hF
 refine wW ?_
 refine wC hF [.sh] zjU (fun z1 hF=>?_)
 exact wl hΦ hF
def zbm (a0:List Int):Option Int:=
 ((zap (σ:=Unit) (fun i5 s4=>
 (ix a0 i5).bind fun x11=>
 (zaF x11).bind fun z12=>
 if z12=true then(
 some (.out (.inr i5)))else(
 some (.go ()))) (fun s4=>.inl ()) (a0.length) 0 ():Option (Unit ⊕ Int)).bind (Sum.elim (fun x3=>
 some (-1)) some))
theorem zec:∀{a0}{r},zbm a0=some r→PCalls Tryz.prog 219 [(.sh,vC a0),(.sh,.func (.func 181) [] [.fp [.func (.func 31) [] []]])] (Eo (.int .i64 r) [.junk,.junk]):=by
 intro a0 r hr
 apply pF 19 [] [] [] [.tmp 4] hr znX Tryz.func219
 intro Φ hΦ hF g
 unfold zbm at hF
 iterate 2 (try simp[go_sem,g];try intros;refine zat ?_)
 refine wS hF (fun x3=>[]) (fun x3 hF=>?_) fun _ hj1 hr2 hF=>?_
 ·exact wl hΦ hF
 refine wB ?_
 obtain⟨b14,hb15,hψ8⟩:=hF
 refine pR hb15 (fun i5 s4=>[(0,.v (vC a0)),(1,.v (.func (.func 181) [] [.fp [.func (.func 31) [] []]])),(7,.v (.int .i64 (a0.length:Int))),(8,.v (.int .i64 i5))]) (fun s4 _ hN16=>?_) (fun i5 s4 _ _ hi9 hi10 ho6 hg7 hF=>?_)
 ·exact wn hN16 (hj1 _) hψ8
 refine wW ?_
 refine wu hi9 hi10 ?_
 refine wW ?_
 refine wB ?_
 obtain⟨x11,g,hF⟩:=Rx g hF
 refine wW ?_
 refine wC hF [.sh] zhR (fun z12 hF=>?_)
 refine wK [0,1,5,7,8,16] ?_
 refine wI hF (fun h13 hF=>?_) (fun h13 hF=>?_)
 ·cases ho6 _ (zaa hF)
  cases hΦ _ (hr2 _ hψ8)
  refine wW ?_
  try simp[go_sem,g]
 refine wW ?_
 exact wi hi9 hi10 (hg7 _) (zaa hF)
def zbb (a0:List Int):Option Bool:=
 (zbm a0).bind fun z1=>
 some (decide (0≤z1))
theorem zdQ:∀{a0}{r},zbb a0=some r→PCalls Tryz.prog 180 [(.sh,vC a0),(.sh,.func (.func 181) [] [.fp [.func (.func 31) [] []]])] (Eo (.bool r) [.junk,.junk]):=by
 intro a0 r hr
 apply pF 9 [] [] [] [.tmp 4] hr zoA Tryz.func180
 intro Φ hΦ hF g
 unfold zbb at hF
 refine wW ?_
 refine wC hF [.sh,.sh] zec (fun z1 hF=>?_)
 exact wl hΦ hF
def za0 (a0:List Int):Option Bool:=
 (zbb a0).bind fun z1=>
 some (!z1)
theorem zd8:∀{a0}{r},za0 a0=some r→PCalls Tryz.prog 103 [(.sh,vC a0),(.sh,.func (.func 31) [] [])] (Eo (.bool r) [.junk,.junk]):=by
 intro a0 r hr
 apply pF 9 [] [] [1000000] [.tmp 4] hr znS Tryz.func103
 intro Φ hΦ hF g
 unfold za0 at hF
 refine wW ?_
 refine wC hF [.sh,.sh] zdQ (fun z1 hF=>?_)
 exact wl hΦ hF
def zeA (a0:List Int):Option Bool:=
 ((if decide ((a0.length:Int)≤400)=true then(
 (za0 a0).bind fun z5=>
 some z5)else(
 some false):Option Bool).bind fun x3=>
 some x3)
theorem zmX:∀{a0}{r},zeA a0=some r→PCalls Tryz.prog 183 [(.sh,vC a0)] (Eo (.bool r) [.junk]):=by
 intro a0 r hr
 apply pF 10 [] [] [] [.tmp 2] hr zET Tryz.func183
 intro Φ hΦ hF g
 unfold zeA at hF
 refine wW ?_
 refine wJ hF (fun x3=>[(2,.v (.bool x3))]) (fun x3 hF=>?_) fun _ hj1 hF=>?_
 ·exact wm hΦ hF
 try simp[go_sem,g]
 try intros
 refine wG hF (fun h4 hF=>?_) fun h4 hF=>?_
 ·try simp[go_sem,g,h4]
  refine wC hF [.sh,.sh] zd8 (fun z5 hF=>?_)
  exact wV h4 (hj1 _) (zaa hF)
 exact wV h4 (hj1 _) (zaa hF)
def zg4 (a0:List Int):Option Int:=
 gd (([(a0.length:Int)].length+a0.length)*8≤140737488355328∧[(a0.length:Int)].length+a0.length≤4611686018427387904)<|
 (some ([(a0.length:Int)]++a0)).bind fun x1=>
 ((zap (σ:=Int×Int) (fun i7 s6=>
 (ix x1 i7).bind fun x13=>
 some (.go ((i64.wrap ((i64.wrap ((i64.wrap (48271*((i64.wrap ((i64.wrap ((i64.wrap (48271*s6.1))+(i64.wrap ((BitVec.ofInt i64.bits x13&&&BitVec.ofInt i64.bits 2147483647).toNat))))+1)).tmod 2147483647)))+(x13.fdiv 2147483648)))+1)).tmod 2147483647,(i64.wrap ((i64.wrap ((i64.wrap (69621*((i64.wrap ((i64.wrap ((i64.wrap (69621*s6.2))+(i64.wrap ((BitVec.ofInt i64.bits x13&&&BitVec.ofInt i64.bits 2147483647).toNat))))+1)).tmod 2147483647)))+(x13.fdiv 2147483648)))+1)).tmod 2147483647))) (fun s6=>(s6.1,s6.2)) (x1.length) 0 (1,2):Option ((Int×Int))).bind fun x5=>
 some (i64.wrap ((i64.wrap (x5.1*2147483648))+x5.2)))
theorem zsc:∀{a0}{r},zg4 a0=some r→PCalls Tryz.prog 184 [(.sh,vC a0)] (Eo (.int .i64 r) [.junk]):=by
 intro a0 r hr
 apply pF 52 [] [] [] [.tmp 2] hr zEx Tryz.func184
 intro Φ hΦ hF g
 unfold zg4 at hF
 obtain⟨g,hF⟩:=Rg g hF
 obtain⟨x1,e2,hF⟩:=zen hF
 have g:=And.intro g (show[.int .i64 (a0.length:Int)]::(List.map zaj a0)=x1.map zaj by injection e2 with e2;rw[←e2];simp[go_sem])
 iterate 2 (try simp[go_sem,g];try intros;refine zat ?_)
 try simp[go_sem,g]
 try intros
 refine wK [3,4,13,14,15] ?_
 refine wJ hF (fun x5=>[(3,.v (.int .i64 x5.1)),(4,.v (.int .i64 x5.2))]) (fun x5 hF=>?_) fun _ hj3 hF=>?_
 ·have g:=Ls g 31
  exact wl hΦ hF
 refine wB ?_
 obtain⟨b14,hb15,hψ10⟩:=hF
 refine pR hb15 (fun i7 s6=>[(3,.v (.int .i64 s6.1)),(4,.v (.int .i64 s6.2)),(13,.v (vD x1)),(14,.v (.int .i64 (x1.length:Int))),(15,.v (.int .i64 i7))]) (fun s6 _ hN16=>?_) (fun i7 s6 _ _ hi11 hi12 ho8 hg9 hF=>?_)
 ·exact wn hN16 (hj3 _) hψ10
 refine wW ?_
 refine wu hi11 hi12 ?_
 refine wW ?_
 refine wB ?_
 obtain⟨x13,g,hF⟩:=Rx g hF
 have g:=Ls g 31
 refine wW ?_
 refine wK [3,4,7,8,13,14,15] ?_
 have g:=Ld g 2147483647
 refine wW ?_
 refine wK [3,4,7,8,13,14,15] ?_
 refine wW ?_
 refine wK [3,4,13,14,15] ?_
 exact wi hi11 hi12 (hg9 _) (zaa hF)
def zfl (a0:List Int):Option (Int×Bool):=
 (zeA a0).bind fun z1=>
 if(!z1)=true then(
 some (0,false))else(
 (zg4 a0).bind fun z3=>
 some (z3,true))
theorem znZ:∀{a0}{r},zfl a0=some r→PCalls Tryz.prog 106 [(.sh,vC a0)] (Eo (.tup [.int .i64 r.1,.bool r.2]) [.junk]):=by
 intro a0 r hr
 apply pF 9 [] [] [] [.tmp 2,.tmp 3] hr zCQ Tryz.func106
 intro Φ hΦ hF g
 unfold zfl at hF
 refine wW ?_
 refine wC hF [.sh] zmX (fun z1 hF=>?_)
 refine wW ?_
 refine wI hF (fun h2 hF=>?_) (fun h2 hF=>?_)
 ·exact wl hΦ hF
 refine wW ?_
 refine wC hF [.sh] zsc (fun z3 hF=>?_)
 exact wl hΦ hF
def zcp (a0:ByteArray) (a1:List Int):Option (Int×Bool):=
 ((if decide (40<(a0.size:Int))=true then(
 some true)else(
 some (decide (400<(a1.length:Int)))):Option Bool).bind fun x3=>
 if x3=true then(
 some (0,false))else(
 (zgn a0 a1).bind fun z6=>
 (zfl z6).bind fun z7=>
 some (z7.1,z7.2)))
theorem zgg:∀{a0}{a1}{r},zcp a0 a1=some r→PCalls Tryz.prog 41 [(.sh,.str a0),(.sh,vC a1)] (Eo (.tup [.int .i64 r.1,.bool r.2]) [.junk,.junk]):=by
 intro a0 a1 r hr
 apply pF 20 [] [] [] [.tmp 4,.tmp 5] hr zKp Tryz.func41
 intro Φ hΦ hF g
 unfold zcp at hF
 refine wW ?_
 refine wJ hF (fun x3=>[(0,.v (.str a0)),(1,.v (vC a1)),(13,.v (.bool x3))]) (fun x3 hF=>?_) fun _ hj1 hF=>?_
 ·refine wI hF (fun h5 hF=>?_) (fun h5 hF=>?_)
  ·exact wl hΦ hF
  refine wW ?_
  refine wC hF [.sh,.sh] zoh (fun z6 hF=>?_)
  refine wC hF [.sh] znZ (fun z7 hF=>?_)
  refine wK [4,5] ?_
  exact wm hΦ hF
 refine wG hF (fun h4 hF=>?_) fun h4 hF=>?_
 ·exact wV h4 (hj1 _) (zaa hF)
 try simp[go_sem,g,h4]
 try intros
 exact wT (hj1 _) (zaa hF)
def zbw (a0:Group) (a1:ByteArray) (a2:List Int):Option (Int×Bool):=
 gd (([a0.P,a0.Q,a0.G].length+a2.length)*8≤140737488355328∧[a0.P,a0.Q,a0.G].length+a2.length≤4611686018427387904)<|
 (zcp a1 ([a0.P,a0.Q,a0.G]++a2)).bind fun z1=>
 if(!z1.2)=true then(
 some (0,false))else(
 gd (a0.Q≠0)<|
 some (z1.1.tmod a0.Q,true))
theorem zg1:∀{a0}{a1}{a2}{r},zbw a0 a1 a2=some r→PCalls Tryz.prog 197 [(.sh,vE a0),(.sh,.str a1),(.sh,vC a2)] (Eo (.tup [.int .i64 r.1,.bool r.2]) [.junk,.junk,.junk]):=by
 intro a0 a1 a2 r hr
 apply pF 30 [] [] [] [.tmp 6,.tmp 7] hr zDd Tryz.func197
 intro Φ hΦ hF g
 unfold zbw at hF
 obtain⟨g,hF⟩:=Rg g hF
 refine wW ?_
 refine wC hF [.sh,.sh] zgg (fun z1 hF=>?_)
 refine wK [3,8,9] ?_
 refine wW ?_
 refine wI hF (fun h2 hF=>?_) (fun h2 hF=>?_)
 ·exact wl hΦ hF
 obtain⟨g,hF⟩:=Rz g hF
 cases hΦ _ (zaa hF)
 iterate 2 refine wW ?_
 try simp[go_sem,g]
def zbr (a0:Group) (a1:Int):Option Int:=
 (zgH a1 a0.Q).bind fun z1=>
 some z1
theorem zfS:∀{a0}{a1}{r},zbr a0 a1=some r→PCalls Tryz.prog 61 [(.sh,vE a0),(.sh,.int .i64 a1)] (Eo (.int .i64 r) [.junk,.junk]):=by
 intro a0 a1 r hr
 apply pF 9 [] [] [] [.tmp 4] hr zHN Tryz.func61
 intro Φ hΦ hF g
 unfold zbr at hF
 refine wW ?_
 refine wC hF [.sh,.sh] zoq (fun z1 hF=>?_)
 exact wl hΦ hF
@[go_sem] def zzD:List DE:=[d2 0 [5] 5 5,d0 1 [1],d0 2 [2],d2 4 [5] 5 5,d0 5 [2],d0 6 [3],d1 8 [12] 12,d2 9 [31] 12 31,d3 3 [25],d3 7 [27,28,29],d0 10 [26,30,32],⟨11,[33],[],none,true,true,true⟩,d3 12 [23,24,34],d0 13 [35],d0 14 [22],d0 15 [22],d0 16 [36],d0 17 [37]]
@[go_sem] def zBd:List DE:=[d1 0 [12] 12,d2 1 [51] 12 51,d2 2 [5] 5 5,d0 3 [16],d0 4 [13],d0 5 [3],d0 6 [15],d0 7 [56,57],d0 8 [58],d0 9 [55,59],d0 10 [54,60],d3 11 [53,61],d0 12 [62],⟨13,[52,63],[],none,true,false,false⟩,d1 14 [12] 12,d2 15 [65,64] 12 65]
def zcG (a0:Group) (a1:ByteArray) (a2:(List (List Int))) (a3:List Int) (a4:List Int):Option (Proof×Bool):=
 (zc3 a0 a2 a4).bind fun z1=>
 (zbE a2).bind fun z2=>
 (zc3 a0 a2 a3).bind fun z3=>
 (zbE [z2,z3,z1]).bind fun z4=>
 (zbw a0 a1 z4).bind fun z5=>
 if(!z5.2)=true then(
 some ((Proof.mk [] [] []),false))else(
 ((zap (σ:=(List Int)×List Int×List Int) (fun i21 s20=>
 (ix a4 i21).bind fun x27=>
 (ix a3 i21).bind fun x28=>
 (zbr a0 (i64.wrap (x27+(i64.wrap (z5.1*x28))))).bind fun z29=>
 gd ((s20.2.2.length+1)*8≤140737488355328∧s20.2.2.length+1≤4611686018427387904)<|
 some (.go (s20.1,s20.2.1,s20.2.2++[z29]))) (fun s20=>(s20.1,s20.2.1,s20.2.2)) (a4.length) 0 (z1,[z5.1],[]):Option ((List Int×List Int×List Int))).bind fun x9=>
 some ((Proof.mk x9.1 x9.2.1 x9.2.2),true)))
theorem zgt:∀{a0}{a1}{a2}{a3}{a4}{r},zcG a0 a1 a2 a3 a4=some r→PCalls Tryz.prog 193 [(.sh,vE a0),(.sh,.str a1),(.sh,vH a2),(.sh,vC a3),(.sh,vC a4)] (Eo (.tup [vQ r.1,.bool r.2]) [.junk,.junk,.junk,.junk,.junk]):=by
 intro a0 a1 a2 a3 a4 r hr
 apply pFz 68 [] [26,30,32] [] [.cell 10 49,.tmp 11] hr zBV Tryz.func193
 intro Φ hΦ hF g
 unfold zcG at hF
 refine wW ?_
 refine wC hF [.sh,.sh,.sh] zhZ (fun z1 hF=>?_)
 refine wK [1,2,3,4,5,10,12] ?_
 refine wX zzD follows ?_
 refine wC hF [.sh] ze8 (fun z2 hF=>?_)
 refine wC hF [.sh,.sh,.sh] zhZ (fun z3 hF=>?_)
 refine wC hF [.sh] ze8 (fun z4 hF=>?_)
 refine wC hF [.sh,.sh,.sh] zg1 (fun z5 hF=>?_)
 refine wK [3,4,5,10,12,13,14] ?_
 refine wW ?_
 refine wI hF (fun h6 hF=>?_) (fun h6 hF=>?_)
 ·exact wl hΦ hF
 iterate 3 (try simp[go_sem,g];try intros;refine zat ?_)
 refine wJ hF (fun x9=>[(10,.bl [.sl true 1 [],.sl true 1 [],.sl true 1 []]),(12,.bl [vC x9.1,vD x9.2.1,vD x9.2.2])]) (fun x9 hF=>?_) fun _ hj7 hF=>?_
 ·refine wK [10,11] ?_
  exact wm hΦ hF
 refine wB ?_
 obtain⟨b30,hb31,hψ24⟩:=hF
 refine pR hb31 (fun i21 s20=>[(3,.v (vC a3)),(5,.bl [.int .i64 a0.P,.int .i64 a0.Q,.int .i64 a0.G]),(10,.bl [.sl true 1 [],.sl true 1 [],.sl true 1 []]),(12,.bl [vC s20.1,vD s20.2.1,vD s20.2.2]),(13,.v (.int .i64 z5.1)),(44,.v (vC a4)),(45,.v (.int .i64 (a4.length:Int))),(46,.v (.int .i64 i21))]) (fun s20 _ hN32=>?_) (fun i21 s20 _ _ hi25 hi26 ho22 hg23 hF=>?_)
 ·exact wn hN32 (hj7 _) hψ24
 refine wK [3,5,10,12,13,44,45,46,47] ?_
 refine wu hi25 hi26 ?_
 refine wW ?_
 refine wB ?_
 obtain⟨x27,g,hF⟩:=Rx g hF
 refine wW ?_
 refine wX zBd follows ?_
 obtain⟨x28,g,hF⟩:=Rx g hF
 refine wC hF [.sh,.sh] zfS (fun z29 hF=>?_)
 obtain⟨g,hF⟩:=Rg g hF
 refine wK [3,5,10,12,13,44,45,46] ?_
 exact wi hi25 hi26 (hg23 _) (zaa hF)
def ziv (a0:Group) (a1:ByteArray) (a2:(List (List Int))) (a3:List Int) (a4:List Int):Option (Proof×Bool):=
 (((zbO a0).bind fun z4=>
 if(!z4)=true then(
 some true)else(
 (zdi a1).bind fun z6=>
 if(!z6)=true then(
 some true)else(
 (zcL a0 a2).bind fun z8=>
 if(!z8)=true then(
 some true)else(
 (ix a2 0).bind fun x10=>
 if((a3.length:Int) !=(x10.length:Int))=true then(
 some true)else(
 if((a4.length:Int) !=(a3.length:Int))=true then(
 some true)else(
 (za5 a0 a3).bind fun z13=>
 if(!z13)=true then(
 some true)else(
 (za5 a0 a4).bind fun z15=>
 some (!z15))))))):Option Bool).bind fun x3=>
 if x3=true then(
 some ((Proof.mk [] [] []),false))else(
 (zcG a0 a1 a2 a3 a4).bind fun z17=>
 some (z17.1,z17.2)))
theorem zwa:∀{a0}{a1}{a2}{a3}{a4}{r},ziv a0 a1 a2 a3 a4=some r→PCalls Tryz.prog 125 [(.sh,vE a0),(.sh,.str a1),(.sh,vH a2),(.sh,vC a3),(.sh,vC a4)] (Eo (.tup [vQ r.1,.bool r.2]) [.junk,.junk,.junk,.junk,.junk]):=by
 intro a0 a1 a2 a3 a4 r hr
 apply pFz 63 [] [] [] [.cell 10 49,.tmp 11] hr zxK Tryz.func125
 intro Φ hΦ hF g
 unfold ziv at hF
 refine wW ?_
 refine wJ hF (fun x3=>[(1,.v (.str a1)),(2,.v (vH a2)),(3,.v (vC a3)),(4,.v (vC a4)),(5,.bl [.int .i64 a0.P,.int .i64 a0.Q,.int .i64 a0.G]),(10,.bl [.sl true 1 [],.sl true 1 [],.sl true 1 []]),(53,.v (.bool x3))]) (fun x3 hF=>?_) fun _ hj1 hF=>?_
 ·refine wI hF (fun h16 hF=>?_) (fun h16 hF=>?_)
  ·exact wl hΦ hF
  refine wW ?_
  refine wC hF [.sh,.sh,.sh,.sh,.sh] zgt (fun z17 hF=>?_)
  refine wK [10,11] ?_
  exact wm hΦ hF
 refine wC hF [.sh] ze3 (fun z4 hF=>?_)
 refine wG hF (fun h5 hF=>?_) fun h5 hF=>?_
 ·exact wV h5 (hj1 _) (zaa hF)
 try simp[go_sem,g,h5]
 refine wC hF [.sh] zic (fun z6 hF=>?_)
 try simp[go_sem,g,h5]
 refine wG hF (fun h7 hF=>?_) fun h7 hF=>?_
 ·exact wV h7 (hj1 _) (zaa hF)
 try simp[go_sem,g,h7]
 refine wC hF [.sh,.sh] zhQ (fun z8 hF=>?_)
 try simp[go_sem,g,h7]
 refine wG hF (fun h9 hF=>?_) fun h9 hF=>?_
 ·exact wV h9 (hj1 _) (zaa hF)
 obtain⟨x10,g,hF⟩:=Rxn g 0 hF
 try simp[go_sem,g,h9]
 try intros
 refine wG hF (fun h11 hF=>?_) fun h11 hF=>?_
 ·exact wV h11 (hj1 _) (zaa hF)
 try simp[go_sem,g,h11]
 try intros
 refine wG hF (fun h12 hF=>?_) fun h12 hF=>?_
 ·exact wV h12 (hj1 _) (zaa hF)
 try simp[go_sem,g,h12]
 refine wC hF [.sh,.sh] zcO (fun z13 hF=>?_)
 try simp[go_sem,g,h12]
 refine wG hF (fun h14 hF=>?_) fun h14 hF=>?_
 ·exact wV h14 (hj1 _) (zaa hF)
 try simp[go_sem,g,h14]
 refine wC hF [.sh,.sh] zcO (fun z15 hF=>?_)
 exact wV h14 (hj1 _) (zaa hF)
def zcf (a0:Group) (a1:ByteArray) (a2:(List (List Int))) (a3:List Int) (a4:List Int):Option (Proof×Bool):=
 (((zbO a0).bind fun z4=>
 if(!z4)=true then(
 some true)else(
 (zdi a1).bind fun z6=>
 if(!z6)=true then(
 some true)else(
 (zcL a0 a2).bind fun z8=>
 if(!z8)=true then(
 some true)else(
 (ix a2 0).bind fun x10=>
 if((a3.length:Int) !=(x10.length:Int))=true then(
 some true)else(
 if((a4.length:Int) !=(a3.length:Int))=true then(
 some true)else(
 (za5 a0 a3).bind fun z13=>
 if(!z13)=true then(
 some true)else(
 (za5 a0 a4).bind fun z15=>
 some (!z15))))))):Option Bool).bind fun x3=>
 if x3=true then(
 some ((Proof.mk [] [] []),false))else(
 (zcG a0 a1 a2 a3 a4).bind fun z17=>
 some (z17.1,z17.2)))
theorem zhx:∀{a0}{a1}{a2}{a3}{a4}{r},zcf a0 a1 a2 a3 a4=some r→PCalls Tryz.prog 125 [(.sh,vE a0),(.sh,.str a1),(.mv,vS a2),(.mv,vD a3),(.mv,vD a4)] (Eo (.tup [vQ r.1,.bool r.2]) [.junk,.junk,.junk,.junk,.junk]):=by
 intro a0 a1 a2 a3 a4 r hr
 apply pFz 63 [] [57,58,59] [] [.cell 10 49,.tmp 11] hr zxK Tryz.func125
 intro Φ hΦ hF g
 unfold zcf at hF
 refine wW ?_
 refine wJ hF (fun x3=>[(1,.v (.str a1)),(2,.v (vS a2)),(3,.v (vD a3)),(4,.v (vD a4)),(5,.bl [.int .i64 a0.P,.int .i64 a0.Q,.int .i64 a0.G]),(10,.bl [.sl true 1 [],.sl true 1 [],.sl true 1 []]),(53,.v (.bool x3))]) (fun x3 hF=>?_) fun _ hj1 hF=>?_
 ·refine wI hF (fun h16 hF=>?_) (fun h16 hF=>?_)
  ·exact wl hΦ hF
  refine wW ?_
  refine wC hF [.sh,.sh,.sh,.sh,.sh] zgt (fun z17 hF=>?_)
  refine wK [10,11] ?_
  exact wm hΦ hF
 refine wC hF [.sh] ze3 (fun z4 hF=>?_)
 refine wG hF (fun h5 hF=>?_) fun h5 hF=>?_
 ·exact wV h5 (hj1 _) (zaa hF)
 try simp[go_sem,g,h5]
 refine wC hF [.sh] zic (fun z6 hF=>?_)
 try simp[go_sem,g,h5]
 refine wG hF (fun h7 hF=>?_) fun h7 hF=>?_
 ·exact wV h7 (hj1 _) (zaa hF)
 try simp[go_sem,g,h7]
 refine wC hF [.sh,.sh] zhQ (fun z8 hF=>?_)
 try simp[go_sem,g,h7]
 refine wG hF (fun h9 hF=>?_) fun h9 hF=>?_
 ·exact wV h9 (hj1 _) (zaa hF)
 obtain⟨x10,g,hF⟩:=Rxn g 0 hF
 try simp[go_sem,g,h9]
 try intros
 refine wG hF (fun h11 hF=>?_) fun h11 hF=>?_
 ·exact wV h11 (hj1 _) (zaa hF)
 try simp[go_sem,g,h11]
 try intros
 refine wG hF (fun h12 hF=>?_) fun h12 hF=>?_
 ·exact wV h12 (hj1 _) (zaa hF)
 try simp[go_sem,g,h12]
 refine wC hF [.sh,.sh] zcO (fun z13 hF=>?_)
 try simp[go_sem,g,h12]
 refine wG hF (fun h14 hF=>?_) fun h14 hF=>?_
 ·exact wV h14 (hj1 _) (zaa hF)
 try simp[go_sem,g,h14]
 refine wC hF [.sh,.sh] zcO (fun z15 hF=>?_)
 exact wV h14 (hj1 _) (zaa hF)
def zcC (a0:Group) (a1:ByteArray) (a2:Int) (a3:Int) (a4:Int):Option (Proof×Bool):=
 (zcf a0 a1 [[a2]] [a3] [a4]).bind fun z1=>
 some (z1.1,z1.2)
theorem zkm:∀{a0}{a1}{a2}{a3}{a4}{r},zcC a0 a1 a2 a3 a4=some r→PCalls Tryz.prog 55 [(.sh,vE a0),(.sh,.str a1),(.sh,.int .i64 a2),(.sh,.int .i64 a3),(.sh,.int .i64 a4)] (Eo (.tup [vQ r.1,.bool r.2]) [.junk,.junk,.junk,.junk,.junk]):=by
 intro a0 a1 a2 a3 a4 r hr
 apply pF 24 [] [] [] [.cell 10 49,.tmp 11] hr zHd Tryz.func55
 intro Φ hΦ hF g
 unfold zcC at hF
 refine wW ?_
 refine wC hF [.sh,.sh,.mv,.mv,.mv] zhx (fun z1 hF=>?_)
 refine wK [10,11] ?_
 exact wm hΦ hF
@[go_sem] def zC3:List DE:=[d2 0 [4] 4 4,d1 1 [4] 4,d2 2 [10] 4 10,d0 3 [3],d2 5 [4] 4 4,d0 6 [2],d2 7 [4] 4 4,d0 8 [1],d0 9 [3],d3 4 [9,11,12],d3 10 [16,17,18],d0 11 [15,19],⟨12,[14,20],[],none,true,true,true⟩,d0 13 [13,21],d2 14 [8,22] 8 8]
def zbK (a0:Group) (a1:Int) (a2:Int) (a3:Int):Option Cipher:=
 (zau a0 a0.G a3).bind fun z1=>
 (zau a0 a1 a3).bind fun z2=>
 (zbk a0 [a2,z2]).bind fun z3=>
 some (Cipher.mk z1 z3)
theorem zhM:∀{a0}{a1}{a2}{a3}{r},zbK a0 a1 a2 a3=some r→PCalls Tryz.prog 56 [(.sh,vE a0),(.sh,.int .i64 a1),(.sh,.int .i64 a2),(.sh,.int .i64 a3)] (Eo (vG r) [.junk,.junk,.junk,.junk]):=by
 intro a0 a1 a2 a3 r hr
 apply pF 23 [] [] [] [.cell 8 88] hr zGG Tryz.func56
 intro Φ hΦ hF g
 unfold zbK at hF
 refine wW ?_
 refine wX zC3 follows ?_
 refine wC hF [.sh,.sh,.sh] za7 (fun z1 hF=>?_)
 refine wC hF [.sh,.sh,.sh] za7 (fun z2 hF=>?_)
 refine wC hF [.sh,.sh] zde (fun z3 hF=>?_)
 refine wK [8] ?_
 exact wm hΦ hF
@[go_sem] def zCg:List DE:=[d0 0 [11],d1 1 [5] 5,d2 2 [21] 5 21,d1 3 [7] 7,d2 4 [23] 7 23,d0 5 [1],d2 6 [5] 5 5,d1 7 [7] 7,d2 8 [27] 7 27,d2 9 [5] 5 5,d1 10 [5] 5,d2 11 [30] 5 30,d0 12 [12],d0 13 [32],d3 14 [29,31,33],d0 15 [28,34],⟨16,[26,35],[],none,true,true,true⟩,d0 17 [22,24,25,36],d0 18 [37],⟨19,[20,38],[],none,true,false,false⟩,d0 20 [39]]
def zbG (a0:Group) (a1:Int) (a2:Cipher) (a3:Int) (a4:Int):Option ((List EqualLog)):=
 ((zaQ (σ:=(List EqualLog)×Int) (fun s4=>
 if decide (s4.2≤a4)=true then(
 (zau a0 a0.G (i64.wrap (0-s4.2))).bind fun z10=>
 (zbk a0 [a2.B,z10]).bind fun z11=>
 gd ((s4.1.length+1)*32≤140737488355328∧s4.1.length+1≤4611686018427387904)<|
 some (.go (s4.1++[(EqualLog.mk a0.G a2.A a1 z11)],i64.wrap (s4.2+1))))else(
 some (.out s4.1))) ([],a3):Option ((List EqualLog))).bind fun x3=>
 some x3)
theorem zgS:∀{a0}{a1}{a2}{a3}{a4}{r},zbG a0 a1 a2 a3 a4=some r→PCalls Tryz.prog 60 [(.sh,vE a0),(.sh,.int .i64 a1),(.sh,vG a2),(.sh,.int .i64 a3),(.sh,.int .i64 a4)] (Eo (vK r) [.junk,.junk,.junk,.junk,.junk]):=by
 intro a0 a1 a2 a3 a4 r hr
 apply pF 41 [] [] [] [.tmp 10] hr zI8 Tryz.func60
 intro Φ hΦ hF g
 unfold zbG at hF
 iterate 3 refine wW ?_
 refine wJ hF (fun x3=>[(11,.v (vK x3))]) (fun x3 hF=>?_) fun _ hj1 hF=>?_
 ·exact wl hΦ hF
 refine wB ?_
 obtain⟨b12,hb13,hψ8⟩:=hF
 refine pL hb13 (fun s4=>[(1,.v (.int .i64 a1)),(4,.v (.int .i64 a4)),(5,.bl [.int .i64 a0.P,.int .i64 a0.Q,.int .i64 a0.G]),(7,.bl [.int .i64 a2.A,.int .i64 a2.B]),(11,.v (vK s4.1)),(12,.v (.int .i64 s4.2))]) (fun s4 _ _ ho6 hg7 hF=>?_)
 refine wK [1,4,5,7,11,12,17] ?_
 refine wI hF (fun h9 hF=>?_) (fun h9 hF=>?_)
 ·refine wW ?_
  refine wB ?_
  refine wX zCg follows ?_
  refine wC hF [.sh,.sh,.sh] za7 (fun z10 hF=>?_)
  refine wC hF [.sh,.sh] zde (fun z11 hF=>?_)
  obtain⟨g,hF⟩:=Rg g hF
  refine wK [1,4,5,7,11,12] ?_
  exact wT (hg7 _) (zaa hF)
 cases ho6 _ (zaa hF)
 exact wT (hj1 _) hψ8
def zcz (a0:Group) (a1:EqualLog):Option Bool:=
 (zcr a0 [a1.G1,a1.Y1,a1.G2,a1.Y2]).bind fun z1=>
 some z1
theorem zkA:∀{a0}{a1}{r},zcz a0 a1=some r→PCalls Tryz.prog 196 [(.sh,vE a0),(.sh,vV a1)] (Eo (.bool r) [.junk,.junk]):=by
 intro a0 a1 r hr
 apply pF 16 [] [] [] [.tmp 4] hr zEr Tryz.func196
 intro Φ hΦ hF g
 unfold zcz at hF
 refine wW ?_
 refine wC hF [.sh,.sh] zhY (fun z1 hF=>?_)
 refine wK [4] ?_
 exact wm hΦ hF
def zbN (a0:EqualLog) (a1c0:Int) (a1c1:Int) (a1c2:Int):Option Bool:=
 (zcz (Group.mk a1c0 a1c1 a1c2) a0).bind fun z1=>
 some (!z1)
theorem zhX:∀{a0}{a1c0}{a1c1}{a1c2}{r},zbN a0 a1c0 a1c1 a1c2=some r→PCalls Tryz.prog 195 [(.sh,vV a0),(.sh,.fp [.int .i64 a1c0,.int .i64 a1c1,.int .i64 a1c2])] (Eo (.bool r) [.junk,.junk]):=by
 intro a0 a1c0 a1c1 a1c2 r hr
 apply pF 8 [] [] [] [.tmp 3] hr zEI Tryz.func195
 intro Φ hΦ hF g
 unfold zbN at hF
 refine wW ?_
 refine wC hF [.sh,.sh] zkA (fun z1 hF=>?_)
 exact wl hΦ hF
def zaH (a0:List EqualLog) (a1u0c0:Int) (a1u0c1:Int) (a1u0c2:Int):Option Int:=
 ((zap (σ:=Unit) (fun i5 s4=>
 (ix a0 i5).bind fun x11=>
 (zbN x11 a1u0c0 a1u0c1 a1u0c2).bind fun z12=>
 if z12=true then(
 some (.out (.inr i5)))else(
 some (.go ()))) (fun s4=>.inl ()) (a0.length) 0 ():Option (Unit ⊕ Int)).bind (Sum.elim (fun x3=>
 some (-1)) some))
theorem zcy:∀{a0}{a1u0c0}{a1u0c1}{a1u0c2}{r},zaH a0 a1u0c0 a1u0c1 a1u0c2=some r→PCalls Tryz.prog 226 [(.sh,vL a0),(.sh,.func (.func 195) [] [.fp [.int .i64 a1u0c0,.int .i64 a1u0c1,.int .i64 a1u0c2]])] (Eo (.int .i64 r) [.junk,.junk]):=by
 intro a0 a1u0c0 a1u0c1 a1u0c2 r hr
 apply pF 19 [] [] [] [.tmp 4] hr zDS Tryz.func226
 intro Φ hΦ hF g
 unfold zaH at hF
 iterate 2 (try simp[go_sem,g];try intros;refine zat ?_)
 refine wS hF (fun x3=>[]) (fun x3 hF=>?_) fun _ hj1 hr2 hF=>?_
 ·exact wl hΦ hF
 refine wB ?_
 obtain⟨b14,hb15,hψ8⟩:=hF
 refine pR hb15 (fun i5 s4=>[(0,.v (vL a0)),(1,.v (.func (.func 195) [] [.fp [.int .i64 a1u0c0,.int .i64 a1u0c1,.int .i64 a1u0c2]])),(7,.v (.int .i64 (a0.length:Int))),(8,.v (.int .i64 i5))]) (fun s4 _ hN16=>?_) (fun i5 s4 _ _ hi9 hi10 ho6 hg7 hF=>?_)
 ·exact wn hN16 (hj1 _) hψ8
 refine wW ?_
 refine wu hi9 hi10 ?_
 refine wW ?_
 refine wB ?_
 obtain⟨x11,g,hF⟩:=Rx g hF
 refine wW ?_
 refine wC hF [.sh] zhX (fun z12 hF=>?_)
 refine wK [0,1,5,7,8,16] ?_
 refine wI hF (fun h13 hF=>?_) (fun h13 hF=>?_)
 ·cases ho6 _ (zaa hF)
  cases hΦ _ (hr2 _ hψ8)
  refine wW ?_
  try simp[go_sem,g]
 refine wW ?_
 exact wi hi9 hi10 (hg7 _) (zaa hF)
def zar (a0:List EqualLog) (a1u0c0:Int) (a1u0c1:Int) (a1u0c2:Int):Option Bool:=
 (zaH a0 a1u0c0 a1u0c1 a1u0c2).bind fun z1=>
 some (decide (0≤z1))
theorem zcl:∀{a0}{a1u0c0}{a1u0c1}{a1u0c2}{r},zar a0 a1u0c0 a1u0c1 a1u0c2=some r→PCalls Tryz.prog 194 [(.sh,vL a0),(.sh,.func (.func 195) [] [.fp [.int .i64 a1u0c0,.int .i64 a1u0c1,.int .i64 a1u0c2]])] (Eo (.bool r) [.junk,.junk]):=by
 intro a0 a1u0c0 a1u0c1 a1u0c2 r hr
 apply pF 9 [] [] [] [.tmp 4] hr zDM Tryz.func194
 intro Φ hΦ hF g
 unfold zar at hF
 refine wW ?_
 refine wC hF [.sh,.sh] zcy (fun z1 hF=>?_)
 exact wl hΦ hF
def zcc (a0:Group) (a1:List EqualLog):Option Bool:=
 (((zaB (a1.length:Int) 1 8).bind fun z4=>
 if z4=true then(
 (zar a1 a0.P a0.Q a0.G).bind fun z6=>
 some (!z6))else(
 some false):Option Bool).bind fun x3=>
 some x3)
theorem ziP:∀{a0}{a1}{r},zcc a0 a1=some r→PCalls Tryz.prog 129 [(.sh,vE a0),(.sh,vL a1)] (Eo (.bool r) [.junk,.junk]):=by
 intro a0 a1 r hr
 apply pF 14 [] [] [1000000] [.tmp 4] hr zDr Tryz.func129
 intro Φ hΦ hF g
 unfold zcc at hF
 refine wW ?_
 refine wJ hF (fun x3=>[(4,.v (.bool x3))]) (fun x3 hF=>?_) fun _ hj1 hF=>?_
 ·exact wm hΦ hF
 try simp[go_sem,g]
 try intros
 refine wC hF [.sh,.sh,.sh] za2 (fun z4 hF=>?_)
 refine wG hF (fun h5 hF=>?_) fun h5 hF=>?_
 ·try simp[go_sem,g,h5]
  refine wC hF [.sh,.sh] zcl (fun z6 hF=>?_)
  exact wV h5 (hj1 _) (zaa hF)
 exact wV h5 (hj1 _) (zaa hF)
@[go_sem] def zAX:List DE:=[d2 0 [3] 3 3,d1 1 [4] 4,d2 2 [8] 4 8,d0 3 [2],d1 5 [4] 4,d2 6 [12] 4 12,d3 4 [7,9,10],d0 7 [11,13],d0 8 [14],d2 9 [3,15] 3 3,d1 10 [4,15] 4,d2 11 [17,15] 4 17,d0 12 [2,15],d1 14 [4,15] 4,d2 15 [21,15] 4 21,d3 13 [16,18,19,15],d0 16 [20,22,15],d0 17 [15,23],d0 18 [24]]
def zdX (a0:Group) (a1:EqualLog) (a2:Int):Option Bool:=
 (((zau a0 a1.G1 a2).bind fun z4=>
 if(z4==a1.Y1)=true then(
 (zau a0 a1.G2 a2).bind fun z6=>
 some (z6==a1.Y2))else(
 some false):Option Bool).bind fun x3=>
 some x3)
theorem zlx:∀{a0}{a1}{a2}{r},zdX a0 a1 a2=some r→PCalls Tryz.prog 130 [(.sh,vE a0),(.sh,vV a1),(.sh,.int .i64 a2)] (Eo (.bool r) [.junk,.junk,.junk]):=by
 intro a0 a1 a2 r hr
 apply pF 25 [] [] [] [.tmp 6] hr zBZ Tryz.func130
 intro Φ hΦ hF g
 unfold zdX at hF
 refine wW ?_
 refine wJ hF (fun x3=>[(6,.v (.bool x3))]) (fun x3 hF=>?_) fun _ hj1 hF=>?_
 ·exact wm hΦ hF
 refine wX zAX follows ?_
 refine wC hF [.sh,.sh,.sh] za7 (fun z4 hF=>?_)
 refine wH hF (fun h5 hF=>?_) fun h5 hF=>?_
 ·try simp[go_sem,g,h5]
  refine wC hF [.sh,.sh,.sh] za7 (fun z6 hF=>?_)
  exact wV h5 (hj1 _) (zaa hF)
 exact wV h5 (hj1 _) (zaa hF)
@[go_sem] def zz8:List DE:=[d2 0 [4] 4 4,d2 1 [4] 4 4,d1 2 [5] 5,d2 3 [12] 5 12,d0 4 [3],d2 6 [4] 4 4,d1 7 [5] 5,d2 8 [17] 5 17,d0 9 [2],d0 10 [19],d2 14 [4] 4 4,d2 15 [4] 4 4,d1 16 [5] 5,d2 17 [26] 5 26,d0 18 [3],d2 20 [4] 4 4,d1 21 [5] 5,d2 22 [31] 5 31,d0 23 [2],d0 24 [33],d3 5 [11,13,14],d3 11 [16,18,20],d0 12 [15,21],⟨13,[10,22],[],none,true,true,true⟩,d3 19 [25,27,28],d3 25 [30,32,34],d0 26 [29,35],⟨27,[24,36],[],none,true,true,true⟩,d0 28 [23],d0 29 [37]]
def zck (a0:Group) (a1:EqualLog) (a2:Int) (a3:Int):Option (Int×Int):=
 (zau a0 a1.G1 a3).bind fun z1=>
 (zau a0 a1.Y1 (i64.wrap (0-a2))).bind fun z2=>
 (zbk a0 [z1,z2]).bind fun z3=>
 (zau a0 a1.G2 a3).bind fun z4=>
 (zau a0 a1.Y2 (i64.wrap (0-a2))).bind fun z5=>
 (zbk a0 [z4,z5]).bind fun z6=>
 some (z3,z6)
theorem zkd:∀{a0}{a1}{a2}{a3}{r},zck a0 a1 a2 a3=some r→PCalls Tryz.prog 131 [(.sh,vE a0),(.sh,vV a1),(.sh,.int .i64 a2),(.sh,.int .i64 a3)] (Eo (.tup [.int .i64 r.1,.int .i64 r.2]) [.junk,.junk,.junk,.junk]):=by
 intro a0 a1 a2 a3 r hr
 apply pF 38 [] [] [] [.tmp 8,.tmp 9] hr zEB Tryz.func131
 intro Φ hΦ hF g
 unfold zck at hF
 refine wW ?_
 refine wX zz8 follows ?_
 refine wC hF [.sh,.sh,.sh] za7 (fun z1 hF=>?_)
 refine wC hF [.sh,.sh,.sh] za7 (fun z2 hF=>?_)
 refine wC hF [.sh,.sh] zde (fun z3 hF=>?_)
 refine wC hF [.sh,.sh,.sh] za7 (fun z4 hF=>?_)
 refine wC hF [.sh,.sh,.sh] za7 (fun z5 hF=>?_)
 refine wC hF [.sh,.sh] zde (fun z6 hF=>?_)
 refine wK [8,9] ?_
 exact wm hΦ hF
@[go_sem] def zBr:List DE:=[d2 0 [4] 4 4,d0 1 [1],d0 2 [10],d0 3 [3],d0 4 [34,35],d3 5 [32,33,36],d0 6 [37],d0 7 [37],d0 8 [38],d0 9 [39]]
def zb3 (a0:Group) (a1:ByteArray) (a2:List EqualLog) (a3:List Int):Option (Int×Bool):=
 ((zap (σ:=(List Int)) (fun i5 s4=>
 (ix a2 i5).bind fun x11=>
 gd ((s4.length+4)*8≤140737488355328∧s4.length+4≤4611686018427387904)<|
 some (.go (s4++[x11.G1,x11.Y1,x11.G2,x11.Y2]))) (fun s4=>s4) (a2.length) 0 []:Option ((List Int))).bind fun x3=>
 gd ((x3.length+a3.length)*8≤140737488355328∧x3.length+a3.length≤4611686018427387904)<|
 (zbw a0 a1 (x3++a3)).bind fun z16=>
 some (z16.1,z16.2))
theorem zix:∀{a0}{a1}{a2}{a3}{r},zb3 a0 a1 a2 a3=some r→PCalls Tryz.prog 132 [(.sh,vE a0),(.sh,.str a1),(.sh,vL a2),(.sh,vC a3)] (Eo (.tup [.int .i64 r.1,.bool r.2]) [.junk,.junk,.junk,.junk]):=by
 intro a0 a1 a2 a3 r hr
 apply pF 40 [] [] [] [.tmp 8,.tmp 9] hr zCn Tryz.func132
 intro Φ hΦ hF g
 unfold zb3 at hF
 iterate 3 (try simp[go_sem,g];try intros;refine zat ?_)
 refine wJ hF (fun x3=>[(1,.v (.str a1)),(3,.v (vC a3)),(4,.bl [.int .i64 a0.P,.int .i64 a0.Q,.int .i64 a0.G]),(10,.v (vD x3))]) (fun x3 hF=>?_) fun _ hj1 hF=>?_
 ·refine wX zBr follows ?_
  obtain⟨g,hF⟩:=Rg g hF
  refine wC hF [.sh,.sh,.sh] zg1 (fun z16 hF=>?_)
  refine wK [8,9] ?_
  exact wm hΦ hF
 refine wB ?_
 obtain⟨b12,hb13,hψ8⟩:=hF
 refine pR hb13 (fun i5 s4=>[(1,.v (.str a1)),(3,.v (vC a3)),(4,.bl [.int .i64 a0.P,.int .i64 a0.Q,.int .i64 a0.G]),(10,.v (vD s4)),(14,.v (vL a2)),(15,.v (.int .i64 (a2.length:Int))),(16,.v (.int .i64 i5))]) (fun s4 _ hN14=>?_) (fun i5 s4 _ _ hi9 hi10 ho6 hg7 hF=>?_)
 ·exact wn hN14 (hj1 _) hψ8
 refine wW ?_
 refine wu hi9 hi10 ?_
 refine wW ?_
 refine wB ?_
 obtain⟨x11,g,hF⟩:=Rx g hF
 refine wK [1,3,4,10,12,14,15,16] ?_
 obtain⟨g,hF⟩:=Rg g hF
 refine wK [1,3,4,10,14,15,16] ?_
 exact wi hi9 hi10 (hg7 _) (zaa hF)
def zhN (a0:List Int) (a1:Int):Option Int:=
 ((zap (σ:=Int) (fun i5 s4=>
 (ix a0 i5).bind fun x11=>
 gd (a1≠0)<|
 some (.go ((i64.wrap (s4+x11)).tmod a1))) (fun s4=>s4) (a0.length) 0 0:Option Int).bind fun x3=>
 some x3)
theorem zui:∀{a0}{a1}{r},zhN a0 a1=some r→PCalls Tryz.prog 133 [(.sh,vC a0),(.sh,.int .i64 a1)] (Eo (.int .i64 r) [.junk,.junk]):=by
 intro a0 a1 r hr
 apply pF 21 [] [] [] [.tmp 4] hr zDH Tryz.func133
 intro Φ hΦ hF g
 unfold zhN at hF
 iterate 3 (try simp[go_sem,g];try intros;refine zat ?_)
 refine wJ hF (fun x3=>[(5,.v (.int .i64 x3))]) (fun x3 hF=>?_) fun _ hj1 hF=>?_
 ·exact wl hΦ hF
 refine wB ?_
 obtain⟨b12,hb13,hψ8⟩:=hF
 refine pR hb13 (fun i5 s4=>[(1,.v (.int .i64 a1)),(5,.v (.int .i64 s4)),(8,.v (vC a0)),(9,.v (.int .i64 (a0.length:Int))),(10,.v (.int .i64 i5))]) (fun s4 _ hN14=>?_) (fun i5 s4 _ _ hi9 hi10 ho6 hg7 hF=>?_)
 ·exact wn hN14 (hj1 _) hψ8
 refine wW ?_
 refine wu hi9 hi10 ?_
 refine wW ?_
 refine wB ?_
 obtain⟨x11,g,hF⟩:=Rx g hF
 obtain⟨g,hF⟩:=Rz g hF
 refine wW ?_
 refine wK [1,5,8,9,10] ?_
 exact wi hi9 hi10 (hg7 _) (zaa hF)
@[go_sem] def zDG:List DE:=[d2 0 [6] 6 6,d3 1 [25],d0 2 [26],d0 3 [27],d0 4 [1,28],d3 5 [29,28],d0 6 [30,28],d0 7 [28,31],d0 8 [32],d2 9 [6,33] 6 6,d0 10 [2,33],d3 11 [34,35,33],d0 12 [36,33],d0 13 [33,37],d0 14 [38],d0 15 [3,39],d0 16 [2,39],d0 17 [41,39],d0 18 [42,39],d3 19 [40,43,39],d0 20 [44,39],d0 21 [39,45],d0 22 [46],d2 23 [6,47] 6 6,d0 24 [4,47],d3 25 [48,49,47],d0 26 [50,47],d0 27 [47,51],d0 28 [52],d0 29 [5,53],d0 30 [54,53],d0 31 [2,53],d0 32 [56,53],d0 33 [57,53],d0 34 [58,53],d0 35 [55,59,53],d0 36 [53,60],d0 37 [61],d2 38 [6,62] 6 6,d0 39 [5,62],d3 40 [63,64,62],d0 41 [65,62],d0 42 [62,66],d0 43 [67],d2 44 [6,68] 6 6,d0 45 [2,68],d0 46 [3,68],d0 47 [70,71,68],d0 48 [72,68],d0 49 [4,68],d3 50 [69,73,74,68],d0 51 [75,68],d0 52 [68,76]]
@[go_sem] def zBk:List DE:=[d2 0 [6] 6 6,d1 1 [18] 18,d2 2 [97] 18 97,d0 3 [16],d2 5 [6] 6 6,d1 6 [18] 18,d2 7 [102] 18 102,d0 8 [16],d3 4 [96,98,99],d3 9 [101,103,104],d0 10 [100],d0 11 [105]]
@[go_sem] def zz1:List DE:=[d0 0 [5],d0 1 [15],d0 2 [106,107],d0 3 [108],d0 4 [5],d0 5 [15],d0 6 [111],d0 7 [110,112],d0 8 [113],d0 9 [109],d0 10 [114]]
@[go_sem] def zAM:List DE:=[d1 0 [14] 14,d2 1 [125] 14 125,d0 2 [21],d0 3 [22],d0 4 [127,128],d1 6 [14] 14,d2 7 [131] 14 131,d0 8 [19],d0 9 [133],d1 11 [14] 14,d2 12 [136] 14 136,d0 13 [20],d0 14 [138],⟨5,[126,129],[],none,true,false,false⟩,d1 16 [14] 14,⟨10,[132,134],[],none,true,false,false⟩,⟨15,[137,139],[],none,true,false,false⟩,d2 17 [141,130] 14 141,d1 18 [14] 14,d2 19 [142,135] 14 142,d1 20 [14] 14,d2 21 [143,140] 14 143]
@[go_sem] def zBg:List DE:=[d1 0 [14] 14,d2 1 [157] 14 157,d0 2 [3],d2 3 [6] 6 6,d0 4 [23],d1 5 [14] 14,d2 6 [162] 14 162,d1 7 [6] 6,d2 8 [164] 6 164,d3 9 [163,165],d0 10 [161,166],d3 11 [160,167],d0 12 [158,159],d0 13 [169,168]]
@[go_sem] def zAd:List DE:=[d1 0 [14] 14,d2 1 [170] 14 170,d0 2 [3],d2 3 [6] 6 6,d0 4 [16],d1 5 [14] 14,d2 6 [175] 14 175,d0 7 [3],d0 8 [176,177],d0 9 [178],d0 10 [4],d0 11 [179,180],d0 12 [174,181],d3 13 [173,182],d0 14 [171,172],d0 15 [184,183]]
def zcW (a0:Group) (a1:ByteArray) (a2:List EqualLog) (a3:Int) (a4:Int) (a5:List Int):Option (Proof×Bool):=
 (((zbO a0).bind fun z4=>
 if(!z4)=true then(
 some true)else(
 (zdi a1).bind fun z6=>
 if(!z6)=true then(
 some true)else(
 (zcc a0 a2).bind fun z8=>
 if(!z8)=true then(
 some true)else(
 (zaB a3 0 (i64.wrap ((a2.length:Int)-1))).bind fun z10=>
 if(!z10)=true then(
 some true)else(
 (zdk a0 a4).bind fun z12=>
 if(!z12)=true then(
 some true)else(
 if((a5.length:Int) !=(i64.wrap ((i64.wrap (2*(a2.length:Int)))-1)))=true then(
 some true)else(
 (za5 a0 a5).bind fun z15=>
 if(!z15)=true then(
 some true)else(
 (ix a2 a3).bind fun x17=>
 (zdX a0 x17 a4).bind fun z18=>
 some (!z18)))))))):Option Bool).bind fun x3=>
 if x3=true then(
 some ((Proof.mk [] [] []),false))else(
 (ix a5 (i64.wrap ((a5.length:Int)-1))).bind fun x20=>
 ((zap (σ:=(List Int)×List Int×List Int×Int) (fun i42 s41=>
 (ix a2 i42).bind fun x48=>
 ((if(i42==a3)=true then(
 (zau a0 x48.G1 x20).bind fun z53=>
 (zau a0 x48.G2 x20).bind fun z54=>
 some (s41.2.2.2,0,0,z53,z54))else(
 (ix a5 s41.2.2.2).bind fun x55=>
 (ix a5 (i64.wrap (s41.2.2.2+1))).bind fun x56=>
 (zck a0 x48 x55 x56).bind fun z57=>
 some (i64.wrap (s41.2.2.2+2),x55,x56,z57.1,z57.2)):Option ((Int×Int×Int×Int×Int))).bind fun x51=>
 gd ((s41.1.length+2)*8≤140737488355328∧s41.1.length+2≤4611686018427387904)<|
 gd ((s41.2.1.length+1)*8≤140737488355328∧s41.2.1.length+1≤4611686018427387904)<|
 gd ((s41.2.2.1.length+1)*8≤140737488355328∧s41.2.2.1.length+1≤4611686018427387904)<|
 some (.go (s41.1++[x51.2.2.2.1,x51.2.2.2.2],s41.2.1++[x51.2.1],s41.2.2.1++[x51.2.2.1],x51.1)))) (fun s41=>(s41.1,s41.2.1,s41.2.2.1)) (a2.length) 0 ([],[],[],0):Option ((List Int×List Int×List Int))).bind fun x23=>
 (zb3 a0 a1 a2 x23.1).bind fun z62=>
 if(!z62.2)=true then(
 some ((Proof.mk [] [] []),false))else(
 (zhN x23.2.1 a0.Q).bind fun z64=>
 (zbr a0 (i64.wrap (z62.1-z64))).bind fun z65=>
 (ix x23.2.1 a3).bind fun x66=>
 (ix (x23.2.1.set a3.toNat z65) a3).bind fun x67=>
 (zbr a0 (i64.wrap (x20+(i64.wrap (x67*a4))))).bind fun z68=>
 (ix x23.2.2 a3).bind fun x69=>
 some ((Proof.mk x23.1 (x23.2.1.set a3.toNat z65) (x23.2.2.set a3.toNat z68)),true)))))
set_option maxHeartbeats 1000000 in
theorem ziS:∀{a0}{a1}{a2}{a3}{a4}{a5}{r},zcW a0 a1 a2 a3 a4 a5=some r→PCalls Tryz.prog 59 [(.sh,vE a0),(.sh,.str a1),(.sh,vL a2),(.sh,.int .i64 a3),(.sh,.int .i64 a4),(.sh,vC a5)] (Eo (.tup [vJ r.1,.bool r.2]) [.junk,.junk,.junk,.junk,.junk,.junk]):=by
 intro a0 a1 a2 a3 a4 a5 r hr
 apply pF 186 [] [1242,1248,1253] [] [.cell 12 49,.tmp 13] hr zJj Tryz.func59
 intro Φ hΦ hF g
 unfold zcW at hF
 refine wW ?_
 refine wJ hF (fun x3=>[(1,.v (.str a1)),(2,.v (vL a2)),(3,.v (.int .i64 a3)),(4,.v (.int .i64 a4)),(5,.v (vC a5)),(6,.bl [.int .i64 a0.P,.int .i64 a0.Q,.int .i64 a0.G]),(12,.bl [.sl true 1 [],.sl true 1 [],.sl true 1 []]),(77,.v (.bool x3))]) (fun x3 hF=>?_) fun _ hj1 hF=>?_
 ·refine wI hF (fun h19 hF=>?_) (fun h19 hF=>?_)
  ·exact wl hΦ hF
  obtain⟨x20,g,hF⟩:=Rx g hF
  iterate 2 (try simp[go_sem,g];try intros;refine zat ?_)
  try simp[go_sem,g]
  try intros
  refine wK [1,2,3,4,5,6,12,14,15,16] ?_
  try simp[go_sem,g]
  try intros
  refine zat ?_
  refine wJ hF (fun x23=>[(1,.v (.str a1)),(2,.v (vL a2)),(3,.v (.int .i64 a3)),(4,.v (.int .i64 a4)),(6,.bl [.int .i64 a0.P,.int .i64 a0.Q,.int .i64 a0.G]),(12,.bl [.sl true 1 [],.sl true 1 [],.sl true 1 []]),(14,.bl [vD x23.1,vD x23.2.1,vD x23.2.2]),(16,.v (.int .i64 x20))]) (fun x23 hF=>?_) fun _ hj21 hF=>?_
  ·refine wC hF [.sh,.sh,.sh,.sh] zix (fun z62 hF=>?_)
   refine wK [3,4,6,12,14,16,23,24] ?_
   refine wW ?_
   refine wI hF (fun h63 hF=>?_) (fun h63 hF=>?_)
   ·exact wl hΦ hF
   refine wW ?_
   refine wX zBg follows ?_
   refine wC hF [.sh,.sh] zui (fun z64 hF=>?_)
   refine wC hF [.sh,.sh] zfS (fun z65 hF=>?_)
   obtain⟨x66,g,hF⟩:=Rx g hF
   refine wK [3,4,6,12,14,16] ?_
   refine wX zAd follows ?_
   obtain⟨x67,g,hF⟩:=Rx g hF
   try simp only[List.length_set]at g
   refine wC hF [.sh,.sh] zfS (fun z68 hF=>?_)
   obtain⟨x69,g,hF⟩:=Rx g hF
   refine wK [12,14] ?_
   exact wl hΦ hF
  refine wB ?_
  obtain⟨b58,hb59,hψ45⟩:=hF
  refine pR hb59 (fun i42 s41=>[(1,.v (.str a1)),(2,.v (vL a2)),(3,.v (.int .i64 a3)),(4,.v (.int .i64 a4)),(5,.v (vC a5)),(6,.bl [.int .i64 a0.P,.int .i64 a0.Q,.int .i64 a0.G]),(12,.bl [.sl true 1 [],.sl true 1 [],.sl true 1 []]),(14,.bl [vD s41.1,vD s41.2.1,vD s41.2.2.1]),(15,.v (.int .i64 s41.2.2.2)),(16,.v (.int .i64 x20)),(86,.v (vL a2)),(87,.v (.int .i64 (a2.length:Int))),(88,.v (.int .i64 i42))]) (fun s41 _ hN60=>?_) (fun i42 s41 _ _ hi46 hi47 ho43 hg44 hF=>?_)
  ·exact wn hN60 (hj21 _) hψ45
  refine wW ?_
  refine wu hi46 hi47 ?_
  refine wW ?_
  refine wB ?_
  obtain⟨x48,g,hF⟩:=Rx g hF
  refine wK [1,2,3,4,5,6,12,14,15,16,17,18,86,87,88] ?_
  iterate 2 refine wW ?_
  refine wJ hF (fun x51=>[(1,.v (.str a1)),(2,.v (vL a2)),(3,.v (.int .i64 a3)),(4,.v (.int .i64 a4)),(5,.v (vC a5)),(6,.bl [.int .i64 a0.P,.int .i64 a0.Q,.int .i64 a0.G]),(12,.bl [.sl true 1 [],.sl true 1 [],.sl true 1 []]),(14,.bl [vD s41.1,vD s41.2.1,vD s41.2.2.1]),(15,.v (.int .i64 x51.1)),(16,.v (.int .i64 x20)),(19,.v (.int .i64 x51.2.1)),(20,.v (.int .i64 x51.2.2.1)),(21,.v (.int .i64 x51.2.2.2.1)),(22,.v (.int .i64 x51.2.2.2.2)),(86,.v (vL a2)),(87,.v (.int .i64 (a2.length:Int))),(88,.v (.int .i64 i42))]) (fun x51 hF=>?_) fun _ hj49 hF=>?_
  ·refine wX zAM follows ?_
   obtain⟨g,hF⟩:=Rg g hF
   obtain⟨g,hF⟩:=Rg g hF
   obtain⟨g,hF⟩:=Rg g hF
   refine wK [1,2,3,4,5,6,12,14,15,16,86,87,88] ?_
   exact wi hi46 hi47 (hg44 _) (zaa hF)
  refine wI hF (fun h52 hF=>?_) (fun h52 hF=>?_)
  ·refine wX zBk follows ?_
   refine wC hF [.sh,.sh,.sh] za7 (fun z53 hF=>?_)
   refine wC hF [.sh,.sh,.sh] za7 (fun z54 hF=>?_)
   exact wT (hj49 _) (zaa hF)
  refine wX zz1 follows ?_
  obtain⟨x55,g,hF⟩:=Rx g hF
  obtain⟨x56,g,hF⟩:=Rx g hF
  refine wK [1,2,3,4,5,6,12,14,15,16,18,19,20,86,87,88] ?_
  refine wW ?_
  refine wC hF [.sh,.sh,.sh,.sh] zkd (fun z57 hF=>?_)
  exact wT (hj49 _) (zaa hF)
 refine wX zDG follows ?_
 refine wC hF [.sh] ze3 (fun z4 hF=>?_)
 refine wH hF (fun h5 hF=>?_) fun h5 hF=>?_
 ·exact wV h5 (hj1 _) (zaa hF)
 try simp[go_sem,g,h5]
 refine wC hF [.sh] zic (fun z6 hF=>?_)
 try simp[go_sem,g,h5]
 refine wH hF (fun h7 hF=>?_) fun h7 hF=>?_
 ·exact wV h7 (hj1 _) (zaa hF)
 try simp[go_sem,g,h7]
 refine wC hF [.sh,.sh] ziP (fun z8 hF=>?_)
 try simp[go_sem,g,h7]
 refine wH hF (fun h9 hF=>?_) fun h9 hF=>?_
 ·exact wV h9 (hj1 _) (zaa hF)
 try simp[go_sem,g,h9]
 try intros
 refine wC hF [.sh,.sh,.sh] za2 (fun z10 hF=>?_)
 try simp[go_sem,g,h9]
 refine wH hF (fun h11 hF=>?_) fun h11 hF=>?_
 ·exact wV h11 (hj1 _) (zaa hF)
 try simp[go_sem,g,h11]
 refine wC hF [.sh,.sh] ziz (fun z12 hF=>?_)
 try simp[go_sem,g,h11]
 refine wH hF (fun h13 hF=>?_) fun h13 hF=>?_
 ·exact wV h13 (hj1 _) (zaa hF)
 try simp[go_sem,g,h13]
 try intros
 refine wH hF (fun h14 hF=>?_) fun h14 hF=>?_
 ·exact wV h14 (hj1 _) (zaa hF)
 try simp[go_sem,g,h14]
 refine wC hF [.sh,.sh] zcO (fun z15 hF=>?_)
 try simp[go_sem,g,h14]
 refine wH hF (fun h16 hF=>?_) fun h16 hF=>?_
 ·exact wV h16 (hj1 _) (zaa hF)
 obtain⟨x17,g,hF⟩:=Rx g hF
 try simp[go_sem,g,h16]
 refine wC hF [.sh,.sh,.sh] zlx (fun z18 hF=>?_)
 exact wV h16 (hj1 _) (zaa hF)
@[go_sem] def zAB:List DE:=[d2 0 [3] 3 3,d1 1 [4] 4,d2 2 [8] 4 8,d1 3 [5] 5,d2 4 [10] 5 10,d0 5 [9,11],d2 7 [3] 3 3,d1 8 [4] 4,d2 9 [15] 4 15,d1 10 [5] 5,d2 11 [17] 5 17,d0 12 [16,18],⟨6,[7,12],[],none,true,true,true⟩,⟨13,[14,19],[],none,true,true,true⟩,d0 14 [13,20],d2 15 [6,21] 6 6]
def zc4 (a0:Group) (a1:Cipher) (a2:Cipher):Option Cipher:=
 (zbk a0 [a1.A,a2.A]).bind fun z1=>
 (zbk a0 [a1.B,a2.B]).bind fun z2=>
 some (Cipher.mk z1 z2)
theorem zlA:∀{a0}{a1}{a2}{r},zc4 a0 a1 a2=some r→PCalls Tryz.prog 134 [(.sh,vE a0),(.sh,vG a1),(.sh,vG a2)] (Eo (vG r) [.junk,.junk,.junk]):=by
 intro a0 a1 a2 r hr
 apply pF 22 [] [] [] [.cell 6 88] hr zB1 Tryz.func134
 intro Φ hΦ hF g
 unfold zc4 at hF
 refine wW ?_
 refine wX zAB follows ?_
 refine wC hF [.sh,.sh] zde (fun z1 hF=>?_)
 refine wC hF [.sh,.sh] zde (fun z2 hF=>?_)
 refine wK [6] ?_
 exact wm hΦ hF
def zcT (a0:Group) (a1:List Cipher):Option Cipher:=
 ((zap (σ:=Int×Int) (fun i14 s13=>
 (ix a1 i14).bind fun x20=>
 (zc4 a0 (Cipher.mk s13.1 s13.2) x20).bind fun z21=>
 some (.go (z21.A,z21.B))) (fun s13=>(s13.1,s13.2)) (a1.length) 0 (1,1):Option ((Int×Int))).bind fun x3=>
 some (Cipher.mk x3.1 x3.2))
theorem zjQ:∀{a0}{a1}{r},zcT a0 a1=some r→PCalls Tryz.prog 62 [(.sh,vE a0),(.sh,vO a1)] (Eo (vG r) [.junk,.junk]):=by
 intro a0 a1 r hr
 apply pF 21 [] [] [] [.cell 4 88] hr zHf Tryz.func62
 intro Φ hΦ hF g
 unfold zcT at hF
 iterate 3 (try simp[go_sem,g];try intros;refine zat ?_)
 refine wJ hF (fun x3=>[(4,.bl [.int .i64 0,.int .i64 0]),(5,.bl [.int .i64 x3.1,.int .i64 x3.2])]) (fun x3 hF=>?_) fun _ hj1 hF=>?_
 ·refine wK [4] ?_
  exact wm hΦ hF
 refine wB ?_
 obtain⟨b22,hb23,hψ17⟩:=hF
 refine pR hb23 (fun i14 s13=>[(2,.bl [.int .i64 a0.P,.int .i64 a0.Q,.int .i64 a0.G]),(4,.bl [.int .i64 0,.int .i64 0]),(5,.bl [.int .i64 s13.1,.int .i64 s13.2]),(9,.v (vO a1)),(10,.v (.int .i64 (a1.length:Int))),(11,.v (.int .i64 i14))]) (fun s13 _ hN24=>?_) (fun i14 s13 _ _ hi18 hi19 ho15 hg16 hF=>?_)
 ·exact wn hN24 (hj1 _) hψ17
 refine wW ?_
 refine wu hi18 hi19 ?_
 refine wW ?_
 refine wB ?_
 obtain⟨x20,g,hF⟩:=Rx g hF
 refine wK [2,4,5,7,9,10,11] ?_
 refine wC hF [.sh,.sh,.sh] zlA (fun z21 hF=>?_)
 refine wW ?_
 exact wi hi18 hi19 (hg16 _) (zaa hF)
@[go_sem] def zBb:List DE:=[d2 0 [6] 6 6,d0 1 [1],d2 2 [6] 6 6,d1 3 [6] 6,d2 4 [132] 6 132,d0 5 [23],d0 7 [24],d0 8 [136],d0 9 [137],d0 11 [],⟨6,[131,133,134],[],none,false,true,false⟩,d3 10 [129,130,135,138],d2 12 [25,139] 25 25]
@[go_sem] def zzR:List DE:=[d2 0 [6] 6 6,d0 1 [15],d2 2 [6] 6 6,d0 3 [1],d2 4 [25] 25 25,d2 5 [8] 8 8,d0 8 [23],d0 9 [24],d0 10 [150],d0 11 [151],d0 12 [24],d0 13 [153],d0 18 [],⟨6,[146],[],none,false,true,false⟩,⟨7,[143,144,145,147],[],none,false,true,false⟩,d3 14 [141,142,148,149,152,154],d0 15 [155],d0 16 [140],d0 17 [140],d2 19 [26,156] 26 26,d0 20 [157]]
@[go_sem] def zzO:List DE:=[d1 0 [14] 14,d2 1 [161] 14 161,d2 2 [25] 25 25,d0 3 [163],d1 5 [14] 14,d2 6 [166] 14 166,d2 7 [26] 26 26,d0 8 [168],⟨4,[162,164],[],none,true,false,false⟩,d1 10 [14] 14,⟨9,[167,169],[],none,true,false,false⟩,d2 11 [171,165] 14 171,d1 12 [14] 14,d2 13 [172,170] 14 172]
@[go_sem] def zAT:List DE:=[d0 0 [20],d0 1 [23],d0 2 [173,174],d2 3 [6] 6 6,d0 4 [21],d0 5 [24],d0 6 [178],d0 7 [179],d0 8 [177,180],d3 9 [176,181],d0 10 [175],d0 11 [182]]
@[go_sem] def zA4:List DE:=[d2 0 [6] 6 6,d0 1 [15],d2 2 [6] 6 6,d0 3 [1],d2 4 [6] 6 6,d1 5 [14] 14,d2 6 [190] 14 190,d1 8 [8] 8,d2 9 [193] 8 193,d1 10 [8] 8,d2 11 [195] 8 195,d0 13 [20],d1 14 [8] 8,d2 15 [199] 8 199,d0 16 [198,200],d0 17 [21],d0 18 [5],d0 19 [16],d0 20 [204],d0 21 [19],d0 22 [205,206],d0 23 [203,207],d0 28 [],d3 7 [189,191],d3 12 [187,188,192,194,196],d3 24 [185,186,197,201,202,208],d0 25 [209],d0 26 [184],d0 27 [184],d2 29 [28,210] 28 28,d0 30 [211]]
@[go_sem] def zEP:List DE:=[d2 0 [6] 6 6,d0 1 [15],d1 2 [6] 6,d2 3 [78] 6 78,d0 4 [5],d0 5 [80],d0 6 [81],d0 7 [5],d0 8 [83],d0 9 [84],d0 14 [],d3 10 [76,77,79,82,85],d0 11 [86],d0 12 [75],d0 13 [75],d2 15 [17,87] 17 17,d0 16 [88]]
@[go_sem] def zCS:List DE:=[d2 0 [6] 6 6,d0 1 [1],d2 2 [6] 6 6,d1 3 [6] 6,d2 4 [92] 6 92,d0 5 [16],d0 6 [94],d0 7 [95],d0 9 [5],d0 10 [98],d0 11 [99],d2 14 [17] 17 17,d0 15 [103],⟨8,[91,93,96],[],none,false,true,false⟩,d3 12 [89,90,97,100],d0 13 [101],d1 16 [14] 14,⟨17,[105,102],[14],some 105,true,true,true⟩,d1 18 [14] 14,⟨19,[106,104],[14],some 106,true,true,true⟩]
def zfq (a0:Group) (a1:Int) (a2:Contest) (a3:Int) (a4:List Int) (a5:List Int):Option (Sealed×Bool):=
 (((zeC a0 a2).bind fun z4=>
 if(!z4)=true then(
 some true)else(
 (zd4 a0 a1).bind fun z6=>
 if(!z6)=true then(
 some true)else(
 (zeO a3).bind fun z8=>
 if(!z8)=true then(
 some true)else(
 (zdm a2 a4).bind fun z10=>
 if(!z10)=true then(
 some true)else(
 (zdD a2).bind fun z12=>
 if((a5.length:Int) !=z12)=true then(
 some true)else(
 (za5 a0 a5).bind fun z14=>
 some (!z14)))))):Option Bool).bind fun x3=>
 if x3=true then(
 some ((Sealed.mk 0 [] [] (Proof.mk [] [] [])),false))else(
 (zef a3).bind fun z16=>
 (zbW a2 a4).bind fun z17=>
 (zbX a2).bind fun z18=>
 if(!z18)=true then(
 (ix a5 0).bind fun x20=>
 (ix a5 1).bind fun x21=>
 (zcC a0 z16 a0.G x20 x21).bind fun z22=>
 (ix z17 0).bind fun x23=>
 (zau a0 a0.G x23).bind fun z24=>
 (zbK a0 a1 z24 x20).bind fun z25=>
 some ((Sealed.mk a3 [z25] [z22.1] (Proof.mk [] [] [])),z22.2))else(
 (zbB a2).bind fun z26=>
 ((zap (σ:=Int×List Cipher×List Proof×List Int×List Int×List Int×Int×Int) (fun i62 s61=>
 (ix z17 i62).bind fun x68=>
 gd (0≤(i64.wrap (i62*(i64.wrap ((i64.wrap (2*z26))+2)))))<|
 gd (0≤(i64.wrap ((i64.wrap (i62+1))*(i64.wrap ((i64.wrap (2*z26))+2)))))<|
 gd ((i64.wrap (i62*(i64.wrap ((i64.wrap (2*z26))+2)))).toNat≤(i64.wrap ((i64.wrap (i62+1))*(i64.wrap ((i64.wrap (2*z26))+2)))).toNat∧(i64.wrap ((i64.wrap (i62+1))*(i64.wrap ((i64.wrap (2*z26))+2)))).toNat≤a5.length)<|
 (ix ((a5.take ((i64.wrap ((i64.wrap (i62+1))*(i64.wrap ((i64.wrap (2*z26))+2)))).toNat)).drop ((i64.wrap (i62*(i64.wrap ((i64.wrap (2*z26))+2)))).toNat)) 0).bind fun x69=>
 (zau a0 a0.G x68).bind fun z70=>
 (zbK a0 a1 z70 x69).bind fun z71=>
 gd (1≤((a5.take ((i64.wrap ((i64.wrap (i62+1))*(i64.wrap ((i64.wrap (2*z26))+2)))).toNat)).drop ((i64.wrap (i62*(i64.wrap ((i64.wrap (2*z26))+2)))).toNat)).length∧((a5.take ((i64.wrap ((i64.wrap (i62+1))*(i64.wrap ((i64.wrap (2*z26))+2)))).toNat)).drop ((i64.wrap (i62*(i64.wrap ((i64.wrap (2*z26))+2)))).toNat)).length≤((a5.take ((i64.wrap ((i64.wrap (i62+1))*(i64.wrap ((i64.wrap (2*z26))+2)))).toNat)).drop ((i64.wrap (i62*(i64.wrap ((i64.wrap (2*z26))+2)))).toNat)).length)<|
 (zbB a2).bind fun z72=>
 (zbG a0 a1 z71 0 z72).bind fun z73=>
 (zcW a0 z16 z73 x68 x69 ((((a5.take ((i64.wrap ((i64.wrap (i62+1))*(i64.wrap ((i64.wrap (2*z26))+2)))).toNat)).drop ((i64.wrap (i62*(i64.wrap ((i64.wrap (2*z26))+2)))).toNat)).take (((a5.take ((i64.wrap ((i64.wrap (i62+1))*(i64.wrap ((i64.wrap (2*z26))+2)))).toNat)).drop ((i64.wrap (i62*(i64.wrap ((i64.wrap (2*z26))+2)))).toNat)).length)).drop 1)).bind fun z74=>
 if(!z74.2)=true then(
 some (.out (.inr ((Sealed.mk 0 [] [] (Proof.mk [] [] [])),false))))else(
 gd ((s61.2.1.length+1)*16≤140737488355328∧s61.2.1.length+1≤4611686018427387904)<|
 gd ((s61.2.2.1.length+1)*72≤140737488355328∧s61.2.2.1.length+1≤4611686018427387904)<|
 (zbr a0 (i64.wrap (s61.2.2.2.2.2.2.2+x69))).bind fun z76=>
 some (.go (s61.1,s61.2.1++[z71],s61.2.2.1++[z74.1],s61.2.2.2.1,s61.2.2.2.2.1,s61.2.2.2.2.2.1,i64.wrap (s61.2.2.2.2.2.2.1+x68),z76)))) (fun s61=>.inl (s61.1,s61.2.1,s61.2.2.1,s61.2.2.2.1,s61.2.2.2.2.1,s61.2.2.2.2.2.1,s61.2.2.2.2.2.2.1,s61.2.2.2.2.2.2.2)) (z17.length) 0 (a3,[],[],[],[],[],0,0):Option ((Int×List Cipher×List Proof×List Int×List Int×List Int×Int×Int) ⊕ (Sealed×Bool))).bind (Sum.elim (fun x29=>
 gd (0≤(i64.wrap ((z17.length:Int)*(i64.wrap ((i64.wrap (2*z26))+2)))))<|
 gd ((i64.wrap ((z17.length:Int)*(i64.wrap ((i64.wrap (2*z26))+2)))).toNat≤a5.length∧a5.length≤a5.length)<|
 (zcT a0 x29.2.1).bind fun z81=>
 (zbG a0 a1 z81 a2.Least a2.Most).bind fun z82=>
 (zcW a0 z16 z82 (i64.wrap (x29.2.2.2.2.2.2.1-a2.Least)) x29.2.2.2.2.2.2.2 ((a5.take a5.length).drop ((i64.wrap ((z17.length:Int)*(i64.wrap ((i64.wrap (2*z26))+2)))).toNat))).bind fun z83=>
 if(!z83.2)=true then(
 some ((Sealed.mk 0 [] [] (Proof.mk [] [] [])),false))else(
 some ((Sealed.mk x29.1 x29.2.1 x29.2.2.1 z83.1),true))) some)))))
set_option maxHeartbeats 1000000 in
theorem zn2:∀{a0}{a1}{a2}{a3}{a4}{a5}{r},zfq a0 a1 a2 a3 a4 a5=some r→PCalls Tryz.prog 17 [(.sh,vE a0),(.sh,.int .i64 a1),(.sh,vF a2),(.sh,.int .i64 a3),(.sh,vC a4),(.sh,vC a5)] (Eo (.tup [vT r.1,.bool r.2]) [.junk,.junk,.junk,.junk,.junk,.junk]):=by
 intro a0 a1 a2 a3 a4 a5 r hr
 apply pFz 218 [] [1470,1475] [] [.cell 12 51,.tmp 13] hr zGT Tryz.func17
 intro Φ hΦ hF g
 unfold zfq at hF
 refine wW ?_
 refine wJ hF (fun x3=>[(1,.v (.int .i64 a1)),(3,.v (.int .i64 a3)),(4,.v (vC a4)),(5,.v (vC a5)),(6,.bl [.int .i64 a0.P,.int .i64 a0.Q,.int .i64 a0.G]),(8,.bl [.int .i64 a2.Kind,.int .i64 a2.Options,.int .i64 a2.Least,.int .i64 a2.Most,.int .i64 a2.Points]),(12,.bl [.int .i64 0,.sl true 2 [],.sl true 3 [],.sl true 1 [],.sl true 1 [],.sl true 1 []]),(63,.v (.bool x3))]) (fun x3 hF=>?_) fun _ hj1 hF=>?_
 ·refine wI hF (fun h15 hF=>?_) (fun h15 hF=>?_)
  ·exact wl hΦ hF
  refine wW ?_
  refine wC hF [.sh] zmf (fun z16 hF=>?_)
  refine wK [1,4,5,6,8,12,14,15] ?_
  refine wC hF [.sh,.sh] zjE (fun z17 hF=>?_)
  refine wW ?_
  refine wC hF [.sh] zfB (fun z18 hF=>?_)
  refine wW ?_
  refine wI hF (fun h19 hF=>?_) (fun h19 hF=>?_)
  ·refine wX zEP follows ?_
   obtain⟨x20,g,hF⟩:=Rxn g 0 hF
   obtain⟨x21,g,hF⟩:=Rxn g 1 hF
   refine wC hF [.sh,.sh,.sh,.sh,.sh] zkm (fun z22 hF=>?_)
   refine wK [1,5,6,12,14,16,17,18] ?_
   refine wX zCS follows ?_
   obtain⟨x23,g,hF⟩:=Rxn g 0 hF
   refine wD hF za7 (fun z24 hF=>?_)
   refine wC hF [.sh,.sh,.sh,.sh] zhM (fun z25 hF=>?_)
   refine wK [12,14,18] ?_
   exact wl hΦ hF
  refine wW ?_
  refine wC hF [.sh] zgh (fun z26 hF=>?_)
  refine wK [1,5,6,8,12,14,15,16,19,20,21] ?_
  try simp[go_sem,g]
  try intros
  refine zat ?_
  refine wS hF (fun x29=>[(1,.v (.int .i64 a1)),(5,.v (vC a5)),(6,.bl [.int .i64 a0.P,.int .i64 a0.Q,.int .i64 a0.G]),(8,.bl [.int .i64 a2.Kind,.int .i64 a2.Options,.int .i64 a2.Least,.int .i64 a2.Most,.int .i64 a2.Points]),(12,.bl [.int .i64 0,.sl true 2 [],.sl true 3 [],.sl true 1 [],.sl true 1 [],.sl true 1 []]),(14,.bl [.int .i64 x29.1,vM x29.2.1,vN x29.2.2.1,vD x29.2.2.2.1,vD x29.2.2.2.2.1,vD x29.2.2.2.2.2.1]),(15,.v (.str z16)),(16,.v (vD z17)),(19,.v (.int .i64 (i64.wrap ((i64.wrap (2*z26))+2)))),(20,.v (.int .i64 x29.2.2.2.2.2.2.1)),(21,.v (.int .i64 x29.2.2.2.2.2.2.2))]) (fun x29 hF=>?_) fun _ hj27 hr28 hF=>?_
  ·refine wX zA4 follows ?_
   obtain⟨g,hF⟩:=Rg g hF
   obtain⟨g,hF⟩:=Rg g hF
   try simp[go_sem,g]
   try intros
   refine wC hF [.sh,.sh] zjQ (fun z81 hF=>?_)
   refine wC hF [.sh,.sh,.sh,.sh,.sh] zgS (fun z82 hF=>?_)
   refine wC hF [.sh,.sh,.sh,.sh,.sh,.sh] ziS (fun z83 hF=>?_)
   refine wK [12,14,28,29] ?_
   refine wW ?_
   refine wI hF (fun h84 hF=>?_) (fun h84 hF=>?_)
   ·exact wl hΦ hF
   cases hΦ _ (zaa hF)
   iterate 3 refine wW ?_
   try simp[go_sem,g]
  refine wB ?_
  obtain⟨b77,hb78,hψ65⟩:=hF
  refine pR hb78 (fun i62 s61=>[(1,.v (.int .i64 a1)),(5,.v (vC a5)),(6,.bl [.int .i64 a0.P,.int .i64 a0.Q,.int .i64 a0.G]),(8,.bl [.int .i64 a2.Kind,.int .i64 a2.Options,.int .i64 a2.Least,.int .i64 a2.Most,.int .i64 a2.Points]),(12,.bl [.int .i64 0,.sl true 2 [],.sl true 3 [],.sl true 1 [],.sl true 1 [],.sl true 1 []]),(14,.bl [.int .i64 s61.1,vM s61.2.1,vN s61.2.2.1,vD s61.2.2.2.1,vD s61.2.2.2.2.1,vD s61.2.2.2.2.2.1]),(15,.v (.str z16)),(16,.v (vD z17)),(19,.v (.int .i64 (i64.wrap ((i64.wrap (2*z26))+2)))),(20,.v (.int .i64 s61.2.2.2.2.2.2.1)),(21,.v (.int .i64 s61.2.2.2.2.2.2.2)),(113,.rf 16 []),(114,.v (.int .i64 (z17.length:Int))),(115,.v (.int .i64 i62))]) (fun s61 _ hN79=>?_) (fun i62 s61 _ _ hi66 hi67 ho63 hg64 hF=>?_)
  ·exact wn hN79 (hj27 _) hψ65
  refine wW ?_
  refine wu hi66 hi67 ?_
  refine wW ?_
  refine wB ?_
  obtain⟨x68,g,hF⟩:=Rx g hF
  obtain⟨g,hF⟩:=Rg g hF
  obtain⟨g,hF⟩:=Rg g hF
  obtain⟨g,hF⟩:=Rg g hF
  refine wW ?_
  refine wK [1,5,6,8,12,14,15,16,19,20,21,23,24,113,114,115] ?_
  refine wX zBb follows ?_
  obtain⟨x69,g,hF⟩:=zJE g 0 hF
  refine wD hF za7 (fun z70 hF=>?_)
  refine wC hF [.sh,.sh,.sh,.sh] zhM (fun z71 hF=>?_)
  refine wK [1,5,6,8,12,14,15,16,19,20,21,23,24,25,113,114,115] ?_
  refine wX zzR follows ?_
  obtain⟨g,hF⟩:=Rg g hF
  have w:=g.1.2
  try simp[g.1.1]at w
  try have g:=And.intro g w
  refine wD hF zgh (fun z72 hF=>?_)
  refine wD hF zgS (fun z73 hF=>?_)
  refine wC hF [.sh,.sh,.sh,.sh,.sh,.sh] ziS (fun z74 hF=>?_)
  refine wK [1,5,6,8,12,14,15,16,19,20,21,23,24,25,26,27,113,114,115] ?_
  refine wW ?_
  refine wI hF (fun h75 hF=>?_) (fun h75 hF=>?_)
  ·cases ho63 _ (zaa hF)
   cases hΦ _ (hr28 _ hψ65)
   refine wW ?_
   try simp[go_sem,g]
  refine wW ?_
  refine wX zzO follows ?_
  obtain⟨g,hF⟩:=Rg g hF
  obtain⟨g,hF⟩:=Rg g hF
  refine wK [1,5,6,8,12,14,15,16,19,20,21,23,24,113,114,115] ?_
  refine wX zAT follows ?_
  refine wC hF [.sh,.sh] zfS (fun z76 hF=>?_)
  refine wK [1,5,6,8,12,14,15,16,19,20,21,113,114,115] ?_
  exact wi hi66 hi67 (hg64 _) (zaa hF)
 refine wC hF [.sh,.sh] zmU (fun z4 hF=>?_)
 refine wG hF (fun h5 hF=>?_) fun h5 hF=>?_
 ·exact wV h5 (hj1 _) (zaa hF)
 try simp[go_sem,g,h5]
 refine wC hF [.sh,.sh] zjK (fun z6 hF=>?_)
 try simp[go_sem,g,h5]
 refine wG hF (fun h7 hF=>?_) fun h7 hF=>?_
 ·exact wV h7 (hj1 _) (zaa hF)
 try simp[go_sem,g,h7]
 refine wC hF [.sh] zkD (fun z8 hF=>?_)
 try simp[go_sem,g,h7]
 refine wG hF (fun h9 hF=>?_) fun h9 hF=>?_
 ·exact wV h9 (hj1 _) (zaa hF)
 try simp[go_sem,g,h9]
 refine wC hF [.sh,.sh] zkz (fun z10 hF=>?_)
 try simp[go_sem,g,h9]
 refine wG hF (fun h11 hF=>?_) fun h11 hF=>?_
 ·exact wV h11 (hj1 _) (zaa hF)
 try simp[go_sem,g,h11]
 try intros
 refine wC hF [.sh] zk7 (fun z12 hF=>?_)
 try simp[go_sem,g,h11]
 refine wG hF (fun h13 hF=>?_) fun h13 hF=>?_
 ·exact wV h13 (hj1 _) (zaa hF)
 try simp[go_sem,g,h13]
 refine wC hF [.sh,.sh] zcO (fun z14 hF=>?_)
 exact wV h13 (hj1 _) (zaa hF)
def zfj (a0:List Int):Option Bool:=
 ((if decide ((a0.length:Int)≤400)=true then(
 (za0 a0).bind fun z5=>
 some z5)else(
 some false):Option Bool).bind fun x3=>
 some x3)
theorem znM:∀{a0}{r},zfj a0=some r→PCalls Tryz.prog 160 [(.sh,vC a0)] (Eo (.bool r) [.junk]):=by
 intro a0 r hr
 apply pF 10 [] [] [] [.tmp 2] hr zCA Tryz.func160
 intro Φ hΦ hF g
 unfold zfj at hF
 refine wW ?_
 refine wJ hF (fun x3=>[(2,.v (.bool x3))]) (fun x3 hF=>?_) fun _ hj1 hF=>?_
 ·exact wm hΦ hF
 try simp[go_sem,g]
 try intros
 refine wG hF (fun h4 hF=>?_) fun h4 hF=>?_
 ·try simp[go_sem,g,h4]
  refine wC hF [.sh,.sh] zd8 (fun z5 hF=>?_)
  exact wV h4 (hj1 _) (zaa hF)
 exact wV h4 (hj1 _) (zaa hF)
def zdN (a0:List Int):Option (List Int×Bool):=
 (zfj a0).bind fun z1=>
 if(!z1)=true then(
 some ([],false))else(
 some (a0,true))
theorem ziM:∀{a0}{r},zdN a0=some r→PCalls Tryz.prog 157 [(.sh,vC a0)] (Eo (.tup [vC r.1,.bool r.2]) [.junk]):=by
 intro a0 r hr
 apply pF 8 [] [2] [] [.tmp 2,.tmp 3] hr zFe Tryz.func157
 intro Φ hΦ hF g
 unfold zdN at hF
 refine wW ?_
 refine wC hF [.sh] znM (fun z1 hF=>?_)
 refine wW ?_
 refine wI hF (fun h2 hF=>?_) (fun h2 hF=>?_)
 ·exact wl hΦ hF
 cases hΦ _ (zaa hF)
 iterate 2 refine wW ?_
 try simp[go_sem,g]
def zdE (a0:List Cipher):Option (List Int×Bool):=
 ((zap (σ:=(List Int)) (fun i5 s4=>
 (ix a0 i5).bind fun x11=>
 gd ((s4.length+2)*8≤140737488355328∧s4.length+2≤4611686018427387904)<|
 some (.go (s4++[x11.A,x11.B]))) (fun s4=>s4) (a0.length) 0 [(a0.length:Int)]:Option ((List Int))).bind fun x3=>
 (zdN x3).bind fun z16=>
 some (z16.1,z16.2))
theorem zli:∀{a0}{r},zdE a0=some r→PCalls Tryz.prog 80 [(.sh,vO a0)] (Eo (.tup [vC r.1,.bool r.2]) [.junk]):=by
 intro a0 r hr
 apply pF 28 [] [24] [] [.tmp 2,.tmp 3] hr zII Tryz.func80
 intro Φ hΦ hF g
 unfold zdE at hF
 iterate 3 (try simp[go_sem,g];try intros;refine zat ?_)
 refine wJ hF (fun x3=>[(4,.v (vD x3))]) (fun x3 hF=>?_) fun _ hj1 hF=>?_
 ·refine wC hF [.sh] ziM (fun z16 hF=>?_)
  refine wK [2,3] ?_
  exact wm hΦ hF
 refine wB ?_
 obtain⟨b12,hb13,hψ8⟩:=hF
 refine pR hb13 (fun i5 s4=>[(4,.v (vD s4)),(10,.v (vO a0)),(11,.v (.int .i64 (a0.length:Int))),(12,.v (.int .i64 i5))]) (fun s4 _ hN14=>?_) (fun i5 s4 _ _ hi9 hi10 ho6 hg7 hF=>?_)
 ·exact wn hN14 (hj1 _) hψ8
 refine wK [4,10,11,12,13] ?_
 refine wu hi9 hi10 ?_
 refine wW ?_
 refine wB ?_
 obtain⟨x11,g,hF⟩:=Rx g hF
 obtain⟨g,hF⟩:=Rg g hF
 refine wW ?_
 refine wK [4,10,11,12] ?_
 exact wi hi9 hi10 (hg7 _) (zaa hF)
def zbn (a0:List Proof):Option (List Proof):=
 gd (a0.length*72≤140737488355328∧a0.length≤4611686018427387904)<|
 some a0
theorem zgA {a0:(List Proof)}{r:(List Proof)}(hr:zbn a0=some r):PCalls Tryz.prog 81 [(.sh,.sl false 3 (a0.map za1))] (Eo (.sl true 3 (r.map za1)) [.junk]):=by
 apply zmo 8 [] [] [1000000] [.tmp 2] hr zH9 Tryz.func81 rfl rfl rfl
 ·exact⟨by simp,rfl⟩
 intro Φ hΦ hF
 unfold zbn at hF
 obtain⟨g,hF⟩:=zgK hF
 have h1:=hΦ _ (zaa hF)
 subst h1
 try simp[go_sem]
 refine zl1 [(0,.v (.sl false 3 (a0.map za1)))] (by simp[go_sem]) ?_
 try simp[go_sem]
 refine zsD rfl rfl (by simp[go_sem]) rfl (by rfl) fun b hb=>?_
 try simp[go_sem]
 refine zat ?_
 repeat rw[zrM]
 cases b
 ·refine zlQ (by simp[go_sem]) ?_
  try simp[go_sem]
  refine zat ?_
  try simp[go_sem,g]
  refine zat ?_
  try simp[go_sem,g]
 have hb0:a0=[]:=by
  cases a0 with
  |nil=>rfl
  |cons x l=>exact absurd (hb (by simp)) (by simp)
 subst hb0
 refine zl4 (by simp[go_sem]) ?_
 try simp[go_sem]
 refine zat ?_
 try simp[go_sem]
def zcK (a0:List Int):Option ((List Int)):=
 gd (([(a0.length:Int)].length+a0.length)*8≤140737488355328∧[(a0.length:Int)].length+a0.length≤4611686018427387904)<|
 some ([(a0.length:Int)]++a0)
theorem zgN:∀{a0}{r},zcK a0=some r→PCalls Tryz.prog 159 [(.sh,vC a0)] (Eo (vD r) [.junk]):=by
 intro a0 r hr
 apply pF 8 [] [] [] [.tmp 2] hr zEq Tryz.func159
 intro Φ hΦ hF g
 unfold zcK at hF
 obtain⟨g,hF⟩:=Rg g hF
 cases hΦ _ (zaa hF)
 iterate 2 (try simp[go_sem,g];try intros;refine zat ?_)
 try simp[go_sem,g]
 try intros
 try simp[go_sem,g]
@[go_sem] def zER:List DE:=[d1 0 [1] 1,d2 1 [4] 1 4,d1 3 [1] 1,d2 4 [7] 1 7,d1 6 [1] 1,d2 7 [10] 1 10,d3 2 [5],d3 5 [8],d3 8 [11],d0 9 [6,9,12],⟨10,[13],[],none,true,true,true⟩,d3 11 [14],d0 12 [15],d0 13 [15],d0 14 [16],d0 15 [17]]
def zdl (a0:Proof):Option (List Int×Bool):=
 (zcK a0.Commits).bind fun z1=>
 (zcK a0.Challenges).bind fun z2=>
 (zcK a0.Responses).bind fun z3=>
 (zbE [z1,z2,z3]).bind fun z4=>
 (zdN z4).bind fun z5=>
 some (z5.1,z5.2)
theorem zmv:∀{a0}{r},zdl a0=some r→PCalls Tryz.prog 82 [(.sh,vQ a0)] (Eo (.tup [vC r.1,.bool r.2]) [.junk]):=by
 intro a0 r hr
 apply pF 18 [] [14] [] [.tmp 2,.tmp 3] hr zIC Tryz.func82
 intro Φ hΦ hF g
 unfold zdl at hF
 refine wW ?_
 refine wX zER follows ?_
 refine wC hF [.sh] zgN (fun z1 hF=>?_)
 refine wC hF [.sh] zgN (fun z2 hF=>?_)
 refine wC hF [.sh] zgN (fun z3 hF=>?_)
 refine wC hF [.sh] ze8 (fun z4 hF=>?_)
 refine wC hF [.sh] ziM (fun z5 hF=>?_)
 refine wK [2,3] ?_
 exact wm hΦ hF
def zee (a0:(List (List Int))):Option (List Int×Bool):=
 ((zap (σ:=(List Int)) (fun i5 s4=>
 (ix a0 i5).bind fun x11=>
 (zcK x11).bind fun z12=>
 gd ((s4.length+z12.length)*8≤140737488355328∧s4.length+z12.length≤4611686018427387904)<|
 if decide (400<((s4++z12).length:Int))=true then(
 some (.out (.inr ([],false))))else(
 some (.go (s4++z12)))) (fun s4=>.inl s4) (a0.length) 0 [(a0.length:Int)]:Option ((List Int) ⊕ (List Int×Bool))).bind (Sum.elim (fun x3=>
 (zdN x3).bind fun z18=>
 some (z18.1,z18.2)) some))
theorem zlW:∀{a0}{r},zee a0=some r→PCalls Tryz.prog 83 [(.sh,vH a0)] (Eo (.tup [vC r.1,.bool r.2]) [.junk]):=by
 intro a0 r hr
 apply pF 28 [] [2,24] [] [.tmp 2,.tmp 3] hr zIr Tryz.func83
 intro Φ hΦ hF g
 unfold zee at hF
 iterate 3 (try simp[go_sem,g];try intros;refine zat ?_)
 refine wS hF (fun x3=>[(4,.v (vD x3))]) (fun x3 hF=>?_) fun _ hj1 hr2 hF=>?_
 ·refine wC hF [.sh] ziM (fun z18 hF=>?_)
  refine wK [2,3] ?_
  exact wm hΦ hF
 refine wB ?_
 obtain⟨b14,hb15,hψ8⟩:=hF
 refine pR hb15 (fun i5 s4=>[(4,.v (vD s4)),(10,.v (vH a0)),(11,.v (.int .i64 (a0.length:Int))),(12,.v (.int .i64 i5))]) (fun s4 _ hN16=>?_) (fun i5 s4 _ _ hi9 hi10 ho6 hg7 hF=>?_)
 ·exact wn hN16 (hj1 _) hψ8
 refine wK [4,10,11,12,13] ?_
 refine wu hi9 hi10 ?_
 refine wW ?_
 refine wB ?_
 obtain⟨x11,g,hF⟩:=Rx g hF
 refine wW ?_
 refine wC hF [.sh] zgN (fun z12 hF=>?_)
 obtain⟨g,hF⟩:=Rg g hF
 try simp[go_sem,g]
 try intros
 refine zat ?_
 try simp[go_sem,g]
 try intros
 refine wK [4,10,11,12,22] ?_
 refine wI hF (fun h13 hF=>?_) (fun h13 hF=>?_)
 ·cases ho6 _ (zaa hF)
  cases hΦ _ (hr2 _ hψ8)
  refine wW ?_
  try simp[go_sem,g]
 refine wW ?_
 exact wi hi9 hi10 (hg7 _) (zaa hF)
@[go_sem] def zDt:List DE:=[d1 0 [1] 1,d2 1 [36] 1 36,d1 3 [1] 1,d2 4 [39] 1 39,d0 5 [40],d0 8 [],d3 2 [37],⟨6,[38,41],[],none,true,false,false⟩,d0 7 [42]]
def zc2 (a0:Sealed):Option (List Int×Bool):=
 (zdE a0.Ciphers).bind fun z1=>
 ((if(!z1.2)=true then(
 some true)else(
 (zeO a0.Voter).bind fun z6=>
 if(!z6)=true then(
 some true)else(
 some (decide (400<(a0.Proofs.length:Int))))):Option Bool).bind fun x4=>
 if x4=true then(
 some ([],false))else(
 (zbn a0.Proofs).bind fun z9=>
 gd ((z9.length+1)*72≤140737488355328∧z9.length+1≤4611686018427387904)<|
 ((zap (σ:=(List (List Int))) (fun i14 s13=>
 (ix (z9++[a0.Sum]) i14).bind fun x22=>
 (zdl x22).bind fun z23=>
 if(!z23.2)=true then(
 some (.out (.inr ([],false))))else(
 gd ((s13.length+1)*24≤140737488355328∧s13.length+1≤4611686018427387904)<|
 some (.go (s13++[z23.1])))) (fun s13=>.inl s13) ((z9++[a0.Sum]).length) 0 [[a0.Voter],z1.1]:Option ((List (List Int)) ⊕ (List Int×Bool))).bind (Sum.elim (fun x12=>
 (zee x12).bind fun z29=>
 some (z29.1,z29.2)) some))))
theorem zlE:∀{a0}{r},zc2 a0=some r→PCalls Tryz.prog 23 [(.sh,vT a0)] (Eo (.tup [vC r.1,.bool r.2]) [.junk]):=by
 intro a0 r hr
 apply pF 64 [] [2,60,227] [] [.tmp 2,.tmp 3] hr zIA Tryz.func23
 intro Φ hΦ hF g
 unfold zc2 at hF
 refine wW ?_
 refine wC hF [.sh] zli (fun z1 hF=>?_)
 refine wK [1,4,5] ?_
 refine wJ hF (fun x4=>[(1,.bl [.int .i64 a0.Voter,vO a0.Ciphers,vR a0.Proofs,vC a0.Sum.Commits,vC a0.Sum.Challenges,vC a0.Sum.Responses]),(4,.v (vC z1.1)),(30,.v (.bool x4))]) (fun x4 hF=>?_) fun _ hj2 hF=>?_
 ·refine wI hF (fun h8 hF=>?_) (fun h8 hF=>?_)
  ·exact wl hΦ hF
  iterate 2 refine wW ?_
  refine wX zDt follows ?_
  refine wC hF [.sh] zgA (fun z9 hF=>?_)
  obtain⟨g,hF⟩:=Rg g hF
  try simp[go_sem,g]
  try intros
  refine wK [6,42,43,44] ?_
  refine wS hF (fun x12=>[(6,.v (vX x12))]) (fun x12 hF=>?_) fun _ hj10 hr11 hF=>?_
  ·refine wC hF [.sh] zlW (fun z29 hF=>?_)
   exact wl hΦ hF
  refine wB ?_
  obtain⟨b25,hb26,hψ17⟩:=hF
  refine pR hb26 (fun i14 s13=>[(6,.v (vX s13)),(42,.v (vW (z9++[a0.Sum]))),(43,.v (.int .i64 ((z9++[a0.Sum]).length:Int))),(44,.v (.int .i64 i14))]) (fun s13 _ hN27=>?_) (fun i14 s13 _ _ hi18 hi19 ho15 hg16 hF=>?_)
  ·exact wn hN27 (hj10 _) hψ17
  generalize e20:(z9++[a0.Sum])=zq21 at*
  have e20l:zq21.length≤zcQ:=by rw[←e20];simp;omega
  refine wW ?_
  refine wu hi18 hi19 ?_
  refine wW ?_
  refine wB ?_
  obtain⟨x22,g,hF⟩:=Rx g hF
  refine wW ?_
  refine wC hF [.sh] zmv (fun z23 hF=>?_)
  refine wK [6,9,10,42,43,44] ?_
  refine wW ?_
  refine wI hF (fun h24 hF=>?_) (fun h24 hF=>?_)
  ·cases ho15 _ (zaa hF)
   cases hΦ _ (hr11 _ hψ17)
   refine wW ?_
   try simp[go_sem,g]
  obtain⟨g,hF⟩:=Rg g hF
  iterate 2 refine wW ?_
  exact wi hi18 hi19 (hg16 _) (zaa hF)
 refine wG hF (fun h5 hF=>?_) fun h5 hF=>?_
 ·exact wV h5 (hj2 _) (zaa hF)
 try simp[go_sem,g,h5]
 refine wC hF [.sh] zkD (fun z6 hF=>?_)
 try simp[go_sem,g,h5]
 refine wG hF (fun h7 hF=>?_) fun h7 hF=>?_
 ·exact wV h7 (hj2 _) (zaa hF)
 try simp[go_sem,g,h7]
 try intros
 exact wT (hj2 _) (zaa hF)
def zd0 (a0:Sealed):Option (Int×Bool):=
 (zc2 a0).bind fun z1=>
 if(!z1.2)=true then(
 some (0,false))else(
 (zcp (⟨#[115,101,97,108,101,100]⟩:ByteArray) z1.1).bind fun z3=>
 some (z3.1,z3.2))
theorem zly:∀{a0}{r},zd0 a0=some r→PCalls Tryz.prog 34 [(.sh,vT a0)] (Eo (.tup [.int .i64 r.1,.bool r.2]) [.junk]):=by
 intro a0 r hr
 apply pF 17 [] [] [] [.tmp 2,.tmp 3] hr zGN Tryz.func34
 intro Φ hΦ hF g
 unfold zd0 at hF
 refine wW ?_
 refine wC hF [.sh] zlE (fun z1 hF=>?_)
 refine wK [4,5] ?_
 refine wW ?_
 refine wI hF (fun h2 hF=>?_) (fun h2 hF=>?_)
 ·exact wl hΦ hF
 refine wW ?_
 refine wC hF [.sh,.sh] zgg (fun z3 hF=>?_)
 exact wl hΦ hF
def zdK (a0:Group) (a1:Int) (a2:Contest) (a3:Int) (a4:List Int) (a5:List Int):Option (Int×Bool):=
 (zfq a0 a1 a2 a3 a4 a5).bind fun z1=>
 if(!z1.2)=true then(
 some (0,false))else(
 (zd0 z1.1).bind fun z3=>
 some (z3.1,z3.2))
theorem ziT:∀{a0}{a1}{a2}{a3}{a4}{a5}{r},zdK a0 a1 a2 a3 a4 a5=some r→PCalls Tryz.prog 9 [(.sh,vE a0),(.sh,.int .i64 a1),(.sh,vF a2),(.sh,.int .i64 a3),(.sh,vC a4),(.sh,vC a5)] (Eo (.tup [.int .i64 r.1,.bool r.2]) [.junk,.junk,.junk,.junk,.junk,.junk]):=by
 intro a0 a1 a2 a3 a4 a5 r hr
 apply pF 32 [] [] [] [.tmp 12,.tmp 13] hr cl9 Tryz.func9
 intro Φ hΦ hF g
 unfold zdK at hF
 refine wW ?_
 refine wC hF [.sh,.sh,.sh,.sh,.sh,.sh] zn2 (fun z1 hF=>?_)
 refine wK [14,15] ?_
 refine wW ?_
 refine wI hF (fun h2 hF=>?_) (fun h2 hF=>?_)
 ·exact wl hΦ hF
 refine wW ?_
 refine wC hF [.sh] zly (fun z3 hF=>?_)
 exact wl hΦ hF
def zbP (a0:Group) (a1:Int) (a2:Contest) (a3:Session):Option (Bool×Bool):=
 (zdK a0 a1 a2 a3.Voter a3.Vote a3.Coins).bind fun z1=>
 ((if(!z1.2)=true then(
 some true)else(
 if a3.Cast=true then(
 some true)else(
 (zek a3.Receipt).bind fun z7=>
 some (!z7))):Option Bool).bind fun x4=>
 if x4=true then(
 some (false,false))else(
 some ((z1.1==a3.Receipt),true)))
theorem zh2:∀{a0}{a1}{a2}{a3}{r},zbP a0 a1 a2 a3=some r→PCalls Tryz.prog 7 [(.sh,vE a0),(.sh,.int .i64 a1),(.sh,vF a2),(.sh,vY a3)] (Eo (.tup [.bool r.1,.bool r.2]) [.junk,.junk,.junk,.junk]):=by
 intro a0 a1 a2 a3 r hr
 apply pF 41 [] [] [] [.tmp 8,.tmp 9] hr cl7 Tryz.func7
 intro Φ hΦ hF g
 unfold zbP at hF
 refine wW ?_
 refine wC hF [.sh,.sh,.sh,.sh,.sh,.sh] ziT (fun z1 hF=>?_)
 refine wK [7,10,11] ?_
 refine wJ hF (fun x4=>[(7,.bl [.int .i64 a3.Voter,vC a3.Vote,vC a3.Coins,.int .i64 a3.Receipt,.bool a3.Cast]),(10,.v (.int .i64 z1.1)),(36,.v (.bool x4))]) (fun x4 hF=>?_) fun _ hj2 hF=>?_
 ·refine wI hF (fun h8 hF=>?_) (fun h8 hF=>?_)
  ·exact wl hΦ hF
  cases hΦ _ (zaa hF)
  iterate 2 refine wW ?_
  try simp[go_sem,g]
 refine wG hF (fun h5 hF=>?_) fun h5 hF=>?_
 ·exact wV h5 (hj2 _) (zaa hF)
 try simp[go_sem,g,h5]
 refine wG hF (fun h6 hF=>?_) fun h6 hF=>?_
 ·try simp[go_sem,g,h6]
  exact wT (hj2 true) (zaa hF) (a:=by first|(simp[go_sem,g];done)|simp[go_sem,g,h6])
 try simp[go_sem,g,h6]
 refine wC hF [.sh] zjU (fun z7 hF=>?_)
 try simp[go_sem,g,h6]
 exact wT (hj2 (!z7)) (zaa hF) (a:=by first|(simp[go_sem,g];done)|simp[go_sem,g,h6])
def zfm (a0:Int):Option Bool:=
 (zaX a0 0 4611686018427387903).bind fun z1=>
 some z1
theorem zoD:∀{a0}{r},zfm a0=some r→PCalls Tryz.prog 32 [(.sh,.int .i64 a0)] (Eo (.bool r) [.junk]):=by
 intro a0 r hr
 apply pF 5 [] [] [] [.tmp 2] hr zI0 Tryz.func32
 intro Φ hΦ hF g
 unfold zfm at hF
 refine wW ?_
 refine wC hF [.sh,.sh,.sh] zbv (fun z1 hF=>?_)
 exact wl hΦ hF
def zdT (a0:Group) (a1:Int) (a2:Contest) (a3:Session):Option (Bool×Bool):=
 ((if a3.Cast=true then(
 some true)else(
 (zfm a3.Receipt).bind fun z5=>
 some (!z5)):Option Bool).bind fun x3=>
 if x3=true then(
 some (false,false))else(
 (zdJ a0 a1 a2 a3.Voter a3.Vote a3.Coins).bind fun z7=>
 if(!z7.2)=true then(
 some (false,false))else(
 some ((z7.1==a3.Receipt),true))))
theorem zlC:∀{a0}{a1}{a2}{a3}{r},zdT a0 a1 a2 a3=some r→PCalls Tryz.prog 8 [(.sh,vE a0),(.sh,.int .i64 a1),(.sh,vF a2),(.sh,vY a3)] (Eo (.tup [.bool r.1,.bool r.2]) [.junk,.junk,.junk,.junk]):=by
 intro a0 a1 a2 a3 r hr
 apply pF 39 [] [] [] [.tmp 8,.tmp 9] hr cl8 Tryz.func8
 intro Φ hΦ hF g
 unfold zdT at hF
 refine wW ?_
 refine wJ hF (fun x3=>[(1,.v (.int .i64 a1)),(4,.bl [.int .i64 a0.P,.int .i64 a0.Q,.int .i64 a0.G]),(6,.bl [.int .i64 a2.Kind,.int .i64 a2.Options,.int .i64 a2.Least,.int .i64 a2.Most,.int .i64 a2.Points]),(7,.bl [.int .i64 a3.Voter,vC a3.Vote,vC a3.Coins,.int .i64 a3.Receipt,.bool a3.Cast]),(19,.v (.bool x3))]) (fun x3 hF=>?_) fun _ hj1 hF=>?_
 ·refine wI hF (fun h6 hF=>?_) (fun h6 hF=>?_)
  ·exact wl hΦ hF
  refine wW ?_
  refine wC hF [.sh,.sh,.sh,.sh,.sh,.sh] ziR (fun z7 hF=>?_)
  refine wK [7,10,11] ?_
  refine wW ?_
  refine wI hF (fun h8 hF=>?_) (fun h8 hF=>?_)
  ·exact wl hΦ hF
  cases hΦ _ (zaa hF)
  iterate 2 refine wW ?_
  try simp[go_sem,g]
 refine wG hF (fun h4 hF=>?_) fun h4 hF=>?_
 ·try simp[go_sem,g,h4]
  exact wT (hj1 true) (zaa hF) (a:=by first|(simp[go_sem,g];done)|simp[go_sem,g,h4])
 try simp[go_sem,g,h4]
 refine wC hF [.sh] zoD (fun z5 hF=>?_)
 try simp[go_sem,g,h4]
 exact wT (hj1 (!z5)) (zaa hF) (a:=by first|(simp[go_sem,g];done)|simp[go_sem,g,h4])
def zcd (a0c0:List Int) (a0c1:Int) (a0c2:Int):Option (List Int×(List Int×Int×Int)):=
 (zag a0c0 a0c1 a0c2 6).bind fun z1=>
 ((zaQ (σ:=(List Int×Int×Int)×List Int×Int) (fun s12=>
 if decide (0<s12.2.2)=true then(
 (zbz s12.1.1 s12.1.2.1 s12.1.2.2).bind fun z18=>
 gd ((s12.2.1.length+1)*8≤140737488355328∧s12.2.1.length+1≤4611686018427387904)<|
 some (.go ((z18.2.1,z18.2.2.1,z18.2.2.2),s12.2.1++[z18.1],i64.wrap (s12.2.2-1))))else(
 some (.out ((s12.1.1,s12.1.2.1,s12.1.2.2),s12.2.1)))) ((z1.2.1,z1.2.2.1,z1.2.2.2),[],z1.1):Option (((List Int×Int×Int)×List Int))).bind fun x4=>
 (zbp x4.1.1 x4.1.2.1 x4.1.2.2 20).bind fun z21=>
 ((if z21.1=true then(
 (zag z21.2.1 z21.2.2.1 z21.2.2.2 2).bind fun z26=>
 gd (0≤(i64.wrap (24+z26.1))∧(i64.wrap (24+z26.1))≤(i64.wrap (24+z26.1))∧8*(i64.wrap (24+z26.1))≤140737488355328∧(i64.wrap (24+z26.1))≤4611686018427387904)<|
 (some (List.replicate ((i64.wrap (24+z26.1)).toNat) 0)).bind fun x27=>
 some ((z26.2.1,z26.2.2.1,z26.2.2.2),x27))else(
 some ((z21.2.1,z21.2.2.1,z21.2.2.2),x4.2)):Option (((List Int×Int×Int)×List Int))).bind fun x24=>
 some (x24.2,(x24.1.1,x24.1.2.1,x24.1.2.2))))
theorem ziF:∀{a0c0}{a0c1}{a0c2}{r},zcd a0c0 a0c1 a0c2=some r→PCalls Tryz.prog 35 [(.io,vB a0c0 a0c1 a0c2)] (Eo (vD r.1) [vB r.2.1 r.2.2.1 r.2.2.2]):=by
 intro a0c0 a0c1 a0c2 r hr
 apply pF 23 [0] [] [] [.tmp 2] hr zHB Tryz.func35
 intro Φ hΦ hF g
 unfold zcd at hF
 iterate 2 refine wW ?_
 refine wC hF [.io,.sh] zah (fun z1 hF=>?_)
 refine wW ?_
 refine wJ hF (fun x4=>[(0,.v (vB x4.1.1 x4.1.2.1 x4.1.2.2)),(3,.v (vD x4.2))]) (fun x4 hF=>?_) fun _ hj2 hF=>?_
 ·refine wC hF [.io,.sh] zdj (fun z21 hF=>?_)
  refine wW ?_
  refine wJ hF (fun x24=>[(0,.v (vB x24.1.1 x24.1.2.1 x24.1.2.2)),(3,.v (vD x24.2))]) (fun x24 hF=>?_) fun _ hj22 hF=>?_
  ·exact wl hΦ hF
  refine wI hF (fun h25 hF=>?_) (fun h25 hF=>?_)
  ·refine wC hF [.io,.sh] zah (fun z26 hF=>?_)
   obtain⟨g,hF⟩:=Rg g hF
   obtain⟨x27,e28,hF⟩:=zen hF
   have g29:List.replicate ((i64.wrap (24+z26.1)).toNat) ([.int .i64 0]:List PV)=x27.map zaj:=by injection e28 with e28;rw[←e28];simp[go_sem]
   exact wV g29 (hj22 _) (zaa hF)
  exact wT (hj22 _) (zaa hF)
 refine wB ?_
 obtain⟨b19,hb20,hψ16⟩:=hF
 refine pL hb20 (fun s12=>[(0,.v (vB s12.1.1 s12.1.2.1 s12.1.2.2)),(3,.v (vD s12.2.1)),(4,.v (.int .i64 s12.2.2))]) (fun s12 _ _ ho14 hg15 hF=>?_)
 refine wW ?_
 refine wI hF (fun h17 hF=>?_) (fun h17 hF=>?_)
 ·refine wW ?_
  refine wB ?_
  refine wC hF [.io] zeY (fun z18 hF=>?_)
  obtain⟨g,hF⟩:=Rg g hF
  refine wK [0,3,4] ?_
  exact wT (hg15 _) (zaa hF)
 cases ho14 _ (zaa hF)
 exact wT (hj2 _) hψ16
def zdd (a0:List Int):Option Bool:=
 ((if decide ((a0.length:Int)≤24)=true then(
 (zb9 a0 0 4611686018427387903).bind fun z5=>
 some z5)else(
 some false):Option Bool).bind fun x3=>
 some x3)
theorem zhh:∀{a0}{r},zdd a0=some r→PCalls Tryz.prog 39 [(.sh,vC a0)] (Eo (.bool r) [.junk]):=by
 intro a0 r hr
 apply pF 10 [] [] [] [.tmp 2] hr zHn Tryz.func39
 intro Φ hΦ hF g
 unfold zdd at hF
 refine wW ?_
 refine wJ hF (fun x3=>[(2,.v (.bool x3))]) (fun x3 hF=>?_) fun _ hj1 hF=>?_
 ·exact wm hΦ hF
 try simp[go_sem,g]
 try intros
 refine wG hF (fun h4 hF=>?_) fun h4 hF=>?_
 ·try simp[go_sem,g,h4]
  refine wC hF [.sh,.sh,.sh] zeZ (fun z5 hF=>?_)
  exact wV h4 (hj1 _) (zaa hF)
 exact wV h4 (hj1 _) (zaa hF)
def zfd (a0:List Int):Option ((List Int)):=
 ((zap (σ:=(List Int)×Int) (fun i5 s4=>
 (ix a0 i5).bind fun x11=>
 (zdf (⟨#[99,104,97,105,110]⟩:ByteArray) [s4.2,i5,x11]).bind fun z12=>
 gd ((s4.1.length+1)*8≤140737488355328∧s4.1.length+1≤4611686018427387904)<|
 some (.go (s4.1++[z12],z12))) (fun s4=>s4.1) (a0.length) 0 ([],0):Option ((List Int))).bind fun x3=>
 some x3)
theorem zls:∀{a0}{r},zfd a0=some r→PCalls Tryz.prog 40 [(.sh,vC a0)] (Eo (vD r) [.junk]):=by
 intro a0 r hr
 apply pF 25 [] [] [] [.tmp 2] hr zG5 Tryz.func40
 intro Φ hΦ hF g
 unfold zfd at hF
 iterate 4 (try simp[go_sem,g];try intros;refine zat ?_)
 refine wJ hF (fun x3=>[(3,.v (vD x3))]) (fun x3 hF=>?_) fun _ hj1 hF=>?_
 ·exact wl hΦ hF
 refine wB ?_
 obtain⟨b13,hb14,hψ8⟩:=hF
 refine pR hb14 (fun i5 s4=>[(3,.v (vD s4.1)),(4,.v (.int .i64 s4.2)),(7,.v (vC a0)),(8,.v (.int .i64 (a0.length:Int))),(9,.v (.int .i64 i5))]) (fun s4 _ hN15=>?_) (fun i5 s4 _ _ hi9 hi10 ho6 hg7 hF=>?_)
 ·exact wn hN15 (hj1 _) hψ8
 refine wW ?_
 refine wu hi9 hi10 ?_
 refine wW ?_
 refine wB ?_
 obtain⟨x11,g,hF⟩:=Rx g hF
 refine wK [3,4,5,6,7,8,9] ?_
 refine wC hF [.sh,.sh] zhl (fun z12 hF=>?_)
 obtain⟨g,hF⟩:=Rg g hF
 refine wW ?_
 refine wK [3,4,7,8,9] ?_
 exact wi hi9 hi10 (hg7 _) (zaa hF)
def zfK (a0:List Int):Option (List Int×Bool):=
 (zdd a0).bind fun z1=>
 if(!z1)=true then(
 some ([],false))else(
 (zfd a0).bind fun z3=>
 some (z3,true))
theorem zpi:∀{a0}{r},zfK a0=some r→PCalls Tryz.prog 36 [(.sh,vC a0)] (Eo (.tup [vD r.1,.bool r.2]) [.junk]):=by
 intro a0 r hr
 apply pF 9 [] [] [] [.tmp 2,.tmp 3] hr zHz Tryz.func36
 intro Φ hΦ hF g
 unfold zfK at hF
 refine wW ?_
 refine wC hF [.sh] zhh (fun z1 hF=>?_)
 refine wW ?_
 refine wI hF (fun h2 hF=>?_) (fun h2 hF=>?_)
 ·exact wl hΦ hF
 refine wW ?_
 refine wC hF [.sh] zls (fun z3 hF=>?_)
 exact wl hΦ hF
def zbZ (a0c0:List Int) (a0c1:Int) (a0c2:Int) (a1:List Int):Option (List Int×(List Int×Int×Int)):=
 (zgu a1).bind fun z1=>
 (zag a0c0 a0c1 a0c2 8).bind fun z2=>
 ((if(z2.1==0)=true then(
 if decide (0<(z1.length:Int))=true then(
 (zag z2.2.1 z2.2.2.1 z2.2.2.2 (z1.length:Int)).bind fun z8=>
 (zbz z8.2.1 z8.2.2.1 z8.2.2.2).bind fun z9=>
 (ix z1 z8.1).bind fun x10=>
 some ((z9.2.1,z9.2.2.1,z9.2.2.2),z1.set z8.1.toNat z9.1))else(
 some ((z2.2.1,z2.2.2.1,z2.2.2.2),z1)))else(
 if(z2.1==1)=true then(
 gd ((z1.length+1)*8≤140737488355328∧z1.length+1≤4611686018427387904)<|
 some ((z2.2.1,z2.2.2.1,z2.2.2.2),z1++[7]))else(
 if(z2.1==2)=true then(
 if decide (0<(z1.length:Int))=true then(
 gd (1≤z1.length∧z1.length≤z1.length)<|
 some ((z2.2.1,z2.2.2.1,z2.2.2.2),(z1.take z1.length).drop 1))else(
 some ((z2.2.1,z2.2.2.1,z2.2.2.2),z1)))else(
 some ((z2.2.1,z2.2.2.1,z2.2.2.2),z1)))):Option (((List Int×Int×Int)×List Int))).bind fun x5=>
 some (x5.2,(x5.1.1,x5.1.2.1,x5.1.2.2)))
theorem zh8:∀{a0c0}{a0c1}{a0c2}{a1}{r},zbZ a0c0 a0c1 a0c2 a1=some r→PCalls Tryz.prog 37 [(.io,vB a0c0 a0c1 a0c2),(.sh,vC a1)] (Eo (vC r.1) [vB r.2.1 r.2.2.1 r.2.2.2,.junk]):=by
 intro a0c0 a0c1 a0c2 a1 r hr
 apply pF 36 [0] [] [] [.tmp 4] hr zI1 Tryz.func37
 intro Φ hΦ hF g
 unfold zbZ at hF
 refine wW ?_
 refine wC hF [.sh] zl0 (fun z1 hF=>?_)
 refine wW ?_
 refine wC hF [.io,.sh] zah (fun z2 hF=>?_)
 refine wW ?_
 refine wJ hF (fun x5=>[(0,.v (vB x5.1.1 x5.1.2.1 x5.1.2.2)),(5,.v (vC x5.2))]) (fun x5 hF=>?_) fun _ hj3 hF=>?_
 ·exact wl hΦ hF
 refine wB ?_
 refine wW ?_
 refine wI hF (fun h6 hF=>?_) (fun h6 hF=>?_)
 ·try simp[go_sem,g]
  try intros
  refine wK [0,5,14] ?_
  refine wI hF (fun h7 hF=>?_) (fun h7 hF=>?_)
  ·try simp[go_sem,g]
   try intros
   refine wC hF [.io,.sh] zah (fun z8 hF=>?_)
   refine wC hF [.io] zeY (fun z9 hF=>?_)
   obtain⟨x10,g,hF⟩:=Rx g hF
   try simp[go_sem,g]
   refine zlK 5 (by simp[go_sem,g];rfl) (by simp[go_sem]) ?_
   exact wT (hj3 _) (zaa hF)
  try simp[go_sem,g]
  refine zlK 5 (by simp[go_sem,g];rfl) (by simp[go_sem]) ?_
  exact wT (hj3 _) (zaa hF)
 refine wK [0,5,9,23] ?_
 refine wI hF (fun h11 hF=>?_) (fun h11 hF=>?_)
 ·obtain⟨g,hF⟩:=Rg g hF
  try simp[go_sem,g]
  refine zlK 5 (by simp[go_sem,g];rfl) (by simp[go_sem]) ?_
  exact wT (hj3 _) (zaa hF)
 refine wW ?_
 refine wI hF (fun h12 hF=>?_) (fun h12 hF=>?_)
 ·try simp[go_sem,g]
  try intros
  refine zat ?_
  refine wI hF (fun h13 hF=>?_) (fun h13 hF=>?_)
  ·obtain⟨g,hF⟩:=Rg g hF
   exact wT (hj3 _) (zaa hF)
  try simp[go_sem,g]
  refine zlK 5 (by simp[go_sem,g];rfl) (by simp[go_sem]) ?_
  exact wT (hj3 _) (zaa hF)
 try simp[go_sem,g]
 refine zlK 5 (by simp[go_sem,g];rfl) (by simp[go_sem]) ?_
 exact wT (hj3 _) (zaa hF)
def zdh (a0:List Int):Option (List Int×List Int):=
 (zcd a0 0 0).bind fun z1=>
 (zfK z1.1).bind fun z2=>
 (zbZ z1.2.1 z1.2.2.1 z1.2.2.2 z2.1).bind fun z3=>
 some (z1.1,z3.1)
theorem zkE:∀{a0}{r},zdh a0=some r→PCalls Tryz.prog 10 [(.sh,vA a0)] (Eo (.tup [vD r.1,vC r.2]) [.junk]):=by
 intro a0 r hr
 apply pF 22 [] [20] [10] [.tmp 2,.tmp 3] hr zKl Tryz.func10
 intro Φ hΦ hF g
 unfold zdh at hF
 iterate 2 refine wW ?_
 refine wC hF [.io] ziF (fun z1 hF=>?_)
 refine wW ?_
 refine wC hF [.sh] zpi (fun z2 hF=>?_)
 refine wK [4,5,6] ?_
 refine wC hF [.io,.sh] zh8 (fun z3 hF=>?_)
 exact wl hΦ hF
def zdr (a0:List Int):Option Bool:=
 ((if decide ((a0.length:Int)≤24)=true then(
 (za0 a0).bind fun z5=>
 some z5)else(
 some false):Option Bool).bind fun x3=>
 some x3)
theorem ziC:∀{a0}{r},zdr a0=some r→PCalls Tryz.prog 38 [(.sh,vC a0)] (Eo (.bool r) [.junk]):=by
 intro a0 r hr
 apply pF 10 [] [] [] [.tmp 2] hr zIs Tryz.func38
 intro Φ hΦ hF g
 unfold zdr at hF
 refine wW ?_
 refine wJ hF (fun x3=>[(2,.v (.bool x3))]) (fun x3 hF=>?_) fun _ hj1 hF=>?_
 ·exact wm hΦ hF
 try simp[go_sem,g]
 try intros
 refine wG hF (fun h4 hF=>?_) fun h4 hF=>?_
 ·try simp[go_sem,g,h4]
  refine wC hF [.sh,.sh] zd8 (fun z5 hF=>?_)
  exact wV h4 (hj1 _) (zaa hF)
 exact wV h4 (hj1 _) (zaa hF)
def zd7 (a0:List Int):Option (List Int×Bool):=
 (zdr a0).bind fun z1=>
 if(!z1)=true then(
 some ([],false))else(
 ((zap (σ:=(List Int)×Int) (fun i7 s6=>
 (ix a0 i7).bind fun x13=>
 (zcp (⟨#[99,104,97,105,110]⟩:ByteArray) [s6.2,i7,x13]).bind fun z14=>
 gd ((s6.1.length+1)*8≤140737488355328∧s6.1.length+1≤4611686018427387904)<|
 some (.go (s6.1++[z14.1],z14.1))) (fun s6=>s6.1) (a0.length) 0 ([],0):Option ((List Int))).bind fun x5=>
 some (x5,true)))
theorem zkI:∀{a0}{r},zd7 a0=some r→PCalls Tryz.prog 13 [(.sh,vC a0)] (Eo (.tup [vD r.1,.bool r.2]) [.junk]):=by
 intro a0 r hr
 apply pF 33 [] [] [] [.tmp 2,.tmp 3] hr zIP Tryz.func13
 intro Φ hΦ hF g
 unfold zd7 at hF
 refine wW ?_
 refine wC hF [.sh] ziC (fun z1 hF=>?_)
 refine wW ?_
 refine wI hF (fun h2 hF=>?_) (fun h2 hF=>?_)
 ·exact wl hΦ hF
 iterate 2 (try simp[go_sem,g];try intros;refine zat ?_)
 try simp[go_sem,g]
 try intros
 refine wK [4,5,12,13,14] ?_
 refine wJ hF (fun x5=>[(4,.v (vD x5))]) (fun x5 hF=>?_) fun _ hj3 hF=>?_
 ·exact wl hΦ hF
 refine wB ?_
 obtain⟨b15,hb16,hψ10⟩:=hF
 refine pR hb16 (fun i7 s6=>[(4,.v (vD s6.1)),(5,.v (.int .i64 s6.2)),(12,.v (vC a0)),(13,.v (.int .i64 (a0.length:Int))),(14,.v (.int .i64 i7))]) (fun s6 _ hN17=>?_) (fun i7 s6 _ _ hi11 hi12 ho8 hg9 hF=>?_)
 ·exact wn hN17 (hj3 _) hψ10
 refine wW ?_
 refine wu hi11 hi12 ?_
 refine wW ?_
 refine wB ?_
 obtain⟨x13,g,hF⟩:=Rx g hF
 refine wW ?_
 refine wC hF [.sh,.sh] zgg (fun z14 hF=>?_)
 refine wK [4,5,12,13,14] ?_
 obtain⟨g,hF⟩:=Rg g hF
 refine wW ?_
 exact wi hi11 hi12 (hg9 _) (zaa hF)
@[go_sem] def zDR:List DE:=[d0 0 [6],d0 1 [8],d0 2 [33,34],d0 3 [35],d0 4 [1],d0 5 [8],d0 6 [37,38],d0 7 [39],d0 8 [36,40]]
def zbQ (a0:List Int) (a1:List Int):Option (Int×Bool):=
 (zd7 a0).bind fun z1=>
 ((if(!z1.2)=true then(
 some true)else(
 if((a1.length:Int) !=(a0.length:Int))=true then(
 some true)else(
 (zdr a1).bind fun z7=>
 some (!z7))):Option Bool).bind fun x4=>
 if x4=true then(
 some (0,false))else(
 ((zap (σ:=Unit) (fun i13 s12=>
 (ix z1.1 i13).bind fun x19=>
 (ix a1 i13).bind fun x20=>
 if(x19 !=x20)=true then(
 some (.out (.inr (i13,true))))else(
 some (.go ()))) (fun s12=>.inl ()) (z1.1.length) 0 ():Option (Unit ⊕ (Int×Bool))).bind (Sum.elim (fun x11=>
 some ((z1.1.length:Int),true)) some))))
theorem ziU:∀{a0}{a1}{r},zbQ a0 a1=some r→PCalls Tryz.prog 11 [(.sh,vC a0),(.sh,vC a1)] (Eo (.tup [.int .i64 r.1,.bool r.2]) [.junk,.junk]):=by
 intro a0 a1 r hr
 apply pF 46 [] [] [] [.tmp 4,.tmp 5] hr zIV Tryz.func11
 intro Φ hΦ hF g
 unfold zbQ at hF
 refine wW ?_
 refine wC hF [.sh] zkI (fun z1 hF=>?_)
 refine wW ?_
 refine wJ hF (fun x4=>[(1,.v (vC a1)),(6,.v (vD z1.1)),(27,.v (.bool x4))]) (fun x4 hF=>?_) fun _ hj2 hF=>?_
 ·refine wI hF (fun h8 hF=>?_) (fun h8 hF=>?_)
  ·refine wK [4,5] ?_
   exact wm hΦ hF
  try simp[go_sem,g]
  try intros
  refine zat ?_
  try simp[go_sem,g]
  try intros
  refine wK [1,6,29,30] ?_
  refine wS hF (fun x11=>[(6,.v (vD z1.1))]) (fun x11 hF=>?_) fun _ hj9 hr10 hF=>?_
  ·cases hΦ _ (zaa hF)
   try simp[go_sem,g]
   try intros
   refine zat ?_
   try simp[go_sem,g]
   try intros
   try simp[go_sem,g]
  refine wB ?_
  obtain⟨b22,hb23,hψ16⟩:=hF
  refine pR hb23 (fun i13 s12=>[(1,.v (vC a1)),(6,.v (vD z1.1)),(29,.v (.int .i64 (z1.1.length:Int))),(30,.v (.int .i64 i13))]) (fun s12 _ hN24=>?_) (fun i13 s12 _ _ hi17 hi18 ho14 hg15 hF=>?_)
  ·exact wn hN24 (hj9 _) hψ16
  refine wW ?_
  refine wu hi17 hi18 ?_
  refine wW ?_
  refine wB ?_
  refine wW ?_
  refine wX zDR follows ?_
  obtain⟨x19,g,hF⟩:=Rx g hF
  obtain⟨x20,g,hF⟩:=Rx g hF
  refine wK [1,6,8,29,30,41] ?_
  refine wI hF (fun h21 hF=>?_) (fun h21 hF=>?_)
  ·cases ho14 _ (zaa hF)
   cases hΦ _ (hr10 _ hψ16)
   refine wW ?_
   try simp[go_sem,g]
  refine wW ?_
  exact wi hi17 hi18 (hg15 _) (zaa hF)
 refine wG hF (fun h5 hF=>?_) fun h5 hF=>?_
 ·exact wV h5 (hj2 _) (zaa hF)
 try simp[go_sem,g,h5]
 try intros
 refine wG hF (fun h6 hF=>?_) fun h6 hF=>?_
 ·exact wV h6 (hj2 _) (zaa hF)
 try simp[go_sem,g,h6]
 refine wC hF [.sh] ziC (fun z7 hF=>?_)
 exact wV h6 (hj2 _) (zaa hF)
def zex (a0:List Int) (a1:List Int):Option (Int×Bool):=
 (((zdd a0).bind fun z4=>
 if(!z4)=true then(
 some true)else(
 (zdd a1).bind fun z6=>
 if(!z6)=true then(
 some true)else(
 some ((a1.length:Int) !=(a0.length:Int)))):Option Bool).bind fun x3=>
 if x3=true then(
 some (0,false))else(
 (zfd a0).bind fun z9=>
 ((zap (σ:=Unit) (fun i14 s13=>
 (ix z9 i14).bind fun x20=>
 (ix a1 i14).bind fun x21=>
 if(x21 !=x20)=true then(
 some (.out (.inr (i14,true))))else(
 some (.go ()))) (fun s13=>.inl ()) (z9.length) 0 ():Option (Unit ⊕ (Int×Bool))).bind (Sum.elim (fun x12=>
 some ((a1.length:Int),true)) some))))
theorem zmS:∀{a0}{a1}{r},zex a0 a1=some r→PCalls Tryz.prog 12 [(.sh,vC a0),(.sh,vC a1)] (Eo (.tup [.int .i64 r.1,.bool r.2]) [.junk,.junk]):=by
 intro a0 a1 r hr
 apply pF 41 [] [] [] [.tmp 4,.tmp 5] hr zKC Tryz.func12
 intro Φ hΦ hF g
 unfold zex at hF
 refine wW ?_
 refine wJ hF (fun x3=>[(0,.v (vC a0)),(1,.v (vC a1)),(22,.v (.bool x3))]) (fun x3 hF=>?_) fun _ hj1 hF=>?_
 ·refine wI hF (fun h8 hF=>?_) (fun h8 hF=>?_)
  ·exact wl hΦ hF
  refine wW ?_
  refine wC hF [.sh] zls (fun z9 hF=>?_)
  try simp[go_sem,g]
  try intros
  refine zat ?_
  refine wS hF (fun x12=>[(1,.v (vC a1))]) (fun x12 hF=>?_) fun _ hj10 hr11 hF=>?_
  ·try simp[go_sem,g]
   try intros
   refine wK [4,5] ?_
   exact wm hΦ hF
  refine wB ?_
  obtain⟨b23,hb24,hψ17⟩:=hF
  refine pR hb24 (fun i14 s13=>[(1,.v (vC a1)),(24,.v (vD z9)),(25,.v (.int .i64 (z9.length:Int))),(26,.v (.int .i64 i14))]) (fun s13 _ hN25=>?_) (fun i14 s13 _ _ hi18 hi19 ho15 hg16 hF=>?_)
  ·exact wn hN25 (hj10 _) hψ17
  refine wW ?_
  refine wu hi18 hi19 ?_
  refine wW ?_
  refine wB ?_
  obtain⟨x20,g,hF⟩:=Rx g hF
  refine wK [1,6,7,24,25,26] ?_
  obtain⟨x21,g,hF⟩:=Rx g hF
  refine wW ?_
  refine wI hF (fun h22 hF=>?_) (fun h22 hF=>?_)
  ·cases ho15 _ (zaa hF)
   cases hΦ _ (hr11 _ hψ17)
   refine wW ?_
   try simp[go_sem,g]
  refine wW ?_
  exact wi hi18 hi19 (hg16 _) (zaa hF)
 refine wC hF [.sh] zhh (fun z4 hF=>?_)
 refine wG hF (fun h5 hF=>?_) fun h5 hF=>?_
 ·exact wV h5 (hj1 _) (zaa hF)
 try simp[go_sem,g,h5]
 refine wC hF [.sh] zhh (fun z6 hF=>?_)
 try simp[go_sem,g,h5]
 refine wG hF (fun h7 hF=>?_) fun h7 hF=>?_
 ·exact wV h7 (hj1 _) (zaa hF)
 try simp[go_sem,g,h7]
 try intros
 exact wT (hj1 _) (zaa hF)
def zey (a0:List Int) (a1:List Int):Option Bool:=
 (zi6 a0 a1).bind fun z1=>
 if z1=true then(
 some true)else(
 (zcU a0).bind fun z3=>
 (zbP z3.1 z3.2.1 z3.2.2.1 z3.2.2.2).bind fun z4=>
 (zdT z3.1 z3.2.1 z3.2.2.1 z3.2.2.2).bind fun z5=>
 ((if(z4.2 !=z5.2)=true then(
 some true)else(
 some (z4.1 !=z5.1)):Option Bool).bind fun x8=>
 if x8=true then(
 some false)else(
 (zdK z3.1 z3.2.1 z3.2.2.1 z3.2.2.2.Voter z3.2.2.2.Vote z3.2.2.2.Coins).bind fun z11=>
 ((if z11.2=true then(
 (zbP z3.1 z3.2.1 z3.2.2.1 (Session.mk z3.2.2.2.Voter z3.2.2.2.Vote z3.2.2.2.Coins z11.1 false)).bind fun z16=>
 ((if(!z16.2)=true then(
 some true)else(
 some (!z16.1)):Option Bool).bind fun x19=>
 if x19=true then(
 some (.inr false))else(
 some (.inl ()))))else(
 some (.inl ())):Option (Unit ⊕ Bool)).bind (Sum.elim (fun x14=>
 (zdh a1).bind fun z22=>
 (zbQ z22.1 z22.2).bind fun z23=>
 (zex z22.1 z22.2).bind fun z24=>
 ((if(z23.2 !=z24.2)=true then(
 some true)else(
 some (z23.1 !=z24.1)):Option Bool).bind fun x27=>
 if x27=true then(
 some false)else(
 (zd7 z22.1).bind fun z30=>
 if z30.2=true then(
 (zbQ z22.1 z30.1).bind fun z32=>
 ((if z32.2=true then(
 some (z32.1==(z22.1.length:Int)))else(
 some false):Option Bool).bind fun x35=>
 some x35))else(
 some true)))) some)))))
theorem zmV:∀{a0}{a1}{r},zey a0 a1=some r→PCalls Tryz.prog 3 [(.sh,.sl false 1 (a0.map zfM)),(.sh,.sl false 1 (a1.map zfM))] (Eo (.bool r) [.junk,.junk]):=by
 intro a0 a1 r hr
 apply pF 138 [] [] [] [.tmp 4] hr cl3 Tryz.func3
 intro Φ hΦ hF g
 unfold zey at hF
 refine wW ?_
 refine wC hF [.sh,.sh] zus (fun z1 hF=>?_)
 refine wW ?_
 refine wI hF (fun h2 hF=>?_) (fun h2 hF=>?_)
 ·exact wl hΦ hF
 refine wW ?_
 refine wC hF [.sh] zjR (fun z3 hF=>?_)
 refine wK [1,5,6,7,8] ?_
 refine wC hF [.sh,.sh,.sh,.sh] zh2 (fun z4 hF=>?_)
 refine wK [1,5,6,7,8,9,10] ?_
 refine wC hF [.sh,.sh,.sh,.sh] zlC (fun z5 hF=>?_)
 refine wK [1,5,6,7,8,9,10,11,12] ?_
 refine wJ hF (fun x8=>[(1,.v (vA a1)),(5,.bl [.int .i64 z3.1.P,.int .i64 z3.1.Q,.int .i64 z3.1.G]),(6,.v (.int .i64 z3.2.1)),(7,.bl [.int .i64 z3.2.2.1.Kind,.int .i64 z3.2.2.1.Options,.int .i64 z3.2.2.1.Least,.int .i64 z3.2.2.1.Most,.int .i64 z3.2.2.1.Points]),(8,.bl [.int .i64 z3.2.2.2.Voter,vD z3.2.2.2.Vote,vC z3.2.2.2.Coins,.int .i64 z3.2.2.2.Receipt,.bool z3.2.2.2.Cast]),(61,.v (.bool x8))]) (fun x8 hF=>?_) fun _ hj6 hF=>?_
 ·refine wI hF (fun h10 hF=>?_) (fun h10 hF=>?_)
  ·exact wl hΦ hF
  refine wW ?_
  refine wC hF [.sh,.sh,.sh,.sh,.sh,.sh] ziT (fun z11 hF=>?_)
  refine wK [1,5,6,7,8,13,14] ?_
  refine wW ?_
  refine wS hF (fun x14=>[(1,.v (vA a1))]) (fun x14 hF=>?_) fun _ hj12 hr13 hF=>?_
  ·refine wC hF [.sh] zkE (fun z22 hF=>?_)
   refine wW ?_
   refine wC hF [.sh,.sh] ziU (fun z23 hF=>?_)
   refine wK [18,19,20,21] ?_
   refine wC hF [.sh,.sh] zmS (fun z24 hF=>?_)
   refine wW ?_
   refine wJ hF (fun x27=>[(18,.v (vD z22.1)),(118,.v (.bool x27))]) (fun x27 hF=>?_) fun _ hj25 hF=>?_
   ·refine wI hF (fun h29 hF=>?_) (fun h29 hF=>?_)
    ·exact wl hΦ hF
    refine wW ?_
    refine wC hF [.sh] zkI (fun z30 hF=>?_)
    refine wK [18,24,25] ?_
    refine wW ?_
    refine wI hF (fun h31 hF=>?_) (fun h31 hF=>?_)
    ·refine wC hF [.sh,.sh] ziU (fun z32 hF=>?_)
     refine wW ?_
     refine wJ hF (fun x35=>[(4,.v (.bool x35))]) (fun x35 hF=>?_) fun _ hj33 hF=>?_
     ·exact wm hΦ hF
     refine wG hF (fun h36 hF=>?_) fun h36 hF=>?_
     ·try simp[go_sem,g,h36]
      try intros
      exact wT (hj33 _) (zaa hF)
     exact wV h36 (hj33 _) (zaa hF)
    cases hΦ _ (zaa hF)
    iterate 2 refine wW ?_
    try simp[go_sem,g]
   refine wG hF (fun h28 hF=>?_) fun h28 hF=>?_
   ·exact wV h28 (hj25 _) (zaa hF)
   exact wV h28 (hj25 _) (zaa hF)
  refine wI hF (fun h15 hF=>?_) (fun h15 hF=>?_)
  ·iterate 3 refine wW ?_
   refine wC hF [.sh,.sh,.sh,.sh] zh2 (fun z16 hF=>?_)
   refine wK [1,16,17] ?_
   refine wJ hF (fun x19=>[(1,.v (vA a1)),(93,.v (.bool x19))]) (fun x19 hF=>?_) fun _ hj17 hF=>?_
   ·refine wI hF (fun h21 hF=>?_) (fun h21 hF=>?_)
    ·cases hΦ _ (hr13 _ (zaa hF))
     refine wW ?_
     try simp[go_sem,g]
    exact wT (hj12 _) (zaa hF)
   refine wG hF (fun h20 hF=>?_) fun h20 hF=>?_
   ·exact wV h20 (hj17 _) (zaa hF)
   exact wV h20 (hj17 _) (zaa hF)
  exact wT (hj12 _) (zaa hF)
 refine wG hF (fun h9 hF=>?_) fun h9 hF=>?_
 ·exact wV h9 (hj6 _) (zaa hF)
 exact wV h9 (hj6 _) (zaa hF)
end
end Go.Pm
