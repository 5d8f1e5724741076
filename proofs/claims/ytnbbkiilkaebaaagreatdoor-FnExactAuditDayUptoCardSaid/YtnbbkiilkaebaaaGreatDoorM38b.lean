/-
  Plain functions and their walks. Written by wip/tools/lift.py.
-/
import Derived.Test.YtnbbkiilkaebaaaGreatDoorM38
namespace Go.Pm
open Go.Am IntKind
open Go.Proofs
set_option maxRecDepth 100000
attribute [local irreducible] pw pwx pw1 pwg qv qz qf
attribute [-simp] List.map_set
set_option linter.unusedSimpArgs false
set_option linter.unusedVariables false
noncomputable section
def zco (a0:Group) (a1:ByteArray) (a2:(List (List Int))) (a3:List Int) (a4:List Int):Option (Proof×Bool):=
 (zcE a0 a2 a4).bind fun z1=>
 (zbx a2).bind fun z2=>
 (zcE a0 a2 a3).bind fun z3=>
 (zbx [z2,z3,z1]).bind fun z4=>
 (zbl a0 a1 z4).bind fun z5=>
 if(!z5.2)=true then(
 some ((Proof.mk [] [] []),false))else(
 ((zak (σ:=(List Int)×List Int×List Int) (fun i21 s20=>
 (ix a4 i21).bind fun x27=>
 (ix a3 i21).bind fun x28=>
 (zbj a0 (i64.wrap (x27+(i64.wrap (z5.1*x28))))).bind fun z29=>
 gd ((s20.2.2.length+1)*8≤140737488355328∧s20.2.2.length+1≤4611686018427387904)<|
 some (.go (s20.1,s20.2.1,s20.2.2++[z29]))) (fun s20=>(s20.1,s20.2.1,s20.2.2)) (a4.length) 0 (z1,[z5.1],[]):Option ((List Int×List Int×List Int))).bind fun x9=>
 some ((Proof.mk x9.1 x9.2.1 x9.2.2),true)))
theorem zgi:∀{a0}{a1}{a2}{a3}{a4}{r},zco a0 a1 a2 a3 a4=some r→PCalls Tryz.prog 152 [(.sh,vD a0),(.sh,.str a1),(.sh,vJ a2),(.sh,vA a3),(.sh,vA a4)] (Eo (.tup [vS r.1,.bool r.2]) [.junk,.junk,.junk,.junk,.junk]):=by
 intro a0 a1 a2 a3 a4 r hr
 apply pFz 68 [] [26,30,32] [] [.cell 10 39,.tmp 11] hr zBm Tryz.func152
 intro Φ hΦ hF g
 unfold zco at hF
 refine wW ?_
 refine wC hF [.sh,.sh,.sh] zhz (fun z1 hF=>?_)
 refine wK [1,2,3,4,5,10,12] ?_
 refine wX zyZ follows ?_
 refine wC hF [.sh] zeI (fun z2 hF=>?_)
 refine wC hF [.sh,.sh,.sh] zhz (fun z3 hF=>?_)
 refine wC hF [.sh] zeI (fun z4 hF=>?_)
 refine wC hF [.sh,.sh,.sh] zgC (fun z5 hF=>?_)
 refine wK [3,4,5,10,12,13,14] ?_
 refine wW ?_
 refine wI hF (fun h6 hF=>?_) (fun h6 hF=>?_)
 ·exact wl hΦ hF
 iterate 3 (try simp[go_sem,g];try intros;refine zal ?_)
 refine wJ hF (fun x9=>[(10,.bl [.sl true 1 [],.sl true 1 [],.sl true 1 []]),(12,.bl [vA x9.1,vF x9.2.1,vF x9.2.2])]) (fun x9 hF=>?_) fun _ hj7 hF=>?_
 ·refine wK [10,11] ?_
  exact wm hΦ hF
 refine wB ?_
 obtain⟨b30,hb31,hψ24⟩:=hF
 refine pR hb31 (fun i21 s20=>[(3,.v (vA a3)),(5,.bl [.int .i64 a0.P,.int .i64 a0.Q,.int .i64 a0.G]),(10,.bl [.sl true 1 [],.sl true 1 [],.sl true 1 []]),(12,.bl [vA s20.1,vF s20.2.1,vF s20.2.2]),(13,.v (.int .i64 z5.1)),(44,.v (vA a4)),(45,.v (.int .i64 (a4.length:Int))),(46,.v (.int .i64 i21))]) (fun s20 _ hN32=>?_) (fun i21 s20 _ _ hi25 hi26 ho22 hg23 hF=>?_)
 ·exact wn hN32 (hj7 _) hψ24
 refine wK [3,5,10,12,13,44,45,46,47] ?_
 refine wu hi25 hi26 ?_
 refine wW ?_
 refine wB ?_
 obtain⟨x27,g,hF⟩:=Rx g hF
 refine wW ?_
 refine wX zy7 follows ?_
 obtain⟨x28,g,hF⟩:=Rx g hF
 refine wC hF [.sh,.sh] zfz (fun z29 hF=>?_)
 obtain⟨g,hF⟩:=Rg g hF
 refine wK [3,5,10,12,13,44,45,46] ?_
 exact wi hi25 hi26 (hg23 _) (zaa hF)
def zhV (a0:Group) (a1:ByteArray) (a2:(List (List Int))) (a3:List Int) (a4:List Int):Option (Proof×Bool):=
 (((zbI a0).bind fun z4=>
 if(!z4)=true then(
 some true)else(
 (zc0 a1).bind fun z6=>
 if(!z6)=true then(
 some true)else(
 (zct a0 a2).bind fun z8=>
 if(!z8)=true then(
 some true)else(
 (ix a2 0).bind fun x10=>
 if((a3.length:Int) !=(x10.length:Int))=true then(
 some true)else(
 if((a4.length:Int) !=(a3.length:Int))=true then(
 some true)else(
 (za0 a0 a3).bind fun z13=>
 if(!z13)=true then(
 some true)else(
 (za0 a0 a4).bind fun z15=>
 some (!z15))))))):Option Bool).bind fun x3=>
 if x3=true then(
 some ((Proof.mk [] [] []),false))else(
 (zco a0 a1 a2 a3 a4).bind fun z17=>
 some (z17.1,z17.2)))
theorem zuj:∀{a0}{a1}{a2}{a3}{a4}{r},zhV a0 a1 a2 a3 a4=some r→PCalls Tryz.prog 105 [(.sh,vD a0),(.sh,.str a1),(.sh,vJ a2),(.sh,vA a3),(.sh,vA a4)] (Eo (.tup [vS r.1,.bool r.2]) [.junk,.junk,.junk,.junk,.junk]):=by
 intro a0 a1 a2 a3 a4 r hr
 apply pFz 63 [] [] [] [.cell 10 39,.tmp 11] hr zxi Tryz.func105
 intro Φ hΦ hF g
 unfold zhV at hF
 refine wW ?_
 refine wJ hF (fun x3=>[(1,.v (.str a1)),(2,.v (vJ a2)),(3,.v (vA a3)),(4,.v (vA a4)),(5,.bl [.int .i64 a0.P,.int .i64 a0.Q,.int .i64 a0.G]),(10,.bl [.sl true 1 [],.sl true 1 [],.sl true 1 []]),(53,.v (.bool x3))]) (fun x3 hF=>?_) fun _ hj1 hF=>?_
 ·refine wI hF (fun h16 hF=>?_) (fun h16 hF=>?_)
  ·exact wl hΦ hF
  refine wW ?_
  refine wC hF [.sh,.sh,.sh,.sh,.sh] zgi (fun z17 hF=>?_)
  refine wK [10,11] ?_
  exact wm hΦ hF
 refine wC hF [.sh] zeD (fun z4 hF=>?_)
 refine wG hF (fun h5 hF=>?_) fun h5 hF=>?_
 ·exact wV h5 (hj1 _) (zaa hF)
 try simp[go_sem,g,h5]
 refine wC hF [.sh] zhO (fun z6 hF=>?_)
 try simp[go_sem,g,h5]
 refine wG hF (fun h7 hF=>?_) fun h7 hF=>?_
 ·exact wV h7 (hj1 _) (zaa hF)
 try simp[go_sem,g,h7]
 refine wC hF [.sh,.sh] zhj (fun z8 hF=>?_)
 try simp[go_sem,g,h7]
 refine wG hF (fun h9 hF=>?_) fun h9 hF=>?_
 ·exact wV h9 (hj1 _) (zaa hF)
 obtain⟨x10,g,hF⟩:=Rxn g 0 hF
 try simp[go_sem,g,h9]
 try intros
 refine wG hF (fun h11 hF=>?_) fun h11 hF=>?_
 ·exact wV h11 (hj1 _) (zaa hF)
 try simp[go_sem,g,h11]
 try intros
 refine wG hF (fun h12 hF=>?_) fun h12 hF=>?_
 ·exact wV h12 (hj1 _) (zaa hF)
 try simp[go_sem,g,h12]
 refine wC hF [.sh,.sh] zcq (fun z13 hF=>?_)
 try simp[go_sem,g,h12]
 refine wG hF (fun h14 hF=>?_) fun h14 hF=>?_
 ·exact wV h14 (hj1 _) (zaa hF)
 try simp[go_sem,g,h14]
 refine wC hF [.sh,.sh] zcq (fun z15 hF=>?_)
 exact wV h14 (hj1 _) (zaa hF)
def zb1 (a0:Group) (a1:ByteArray) (a2:(List (List Int))) (a3:List Int) (a4:List Int):Option (Proof×Bool):=
 (((zbI a0).bind fun z4=>
 if(!z4)=true then(
 some true)else(
 (zc0 a1).bind fun z6=>
 if(!z6)=true then(
 some true)else(
 (zct a0 a2).bind fun z8=>
 if(!z8)=true then(
 some true)else(
 (ix a2 0).bind fun x10=>
 if((a3.length:Int) !=(x10.length:Int))=true then(
 some true)else(
 if((a4.length:Int) !=(a3.length:Int))=true then(
 some true)else(
 (za0 a0 a3).bind fun z13=>
 if(!z13)=true then(
 some true)else(
 (za0 a0 a4).bind fun z15=>
 some (!z15))))))):Option Bool).bind fun x3=>
 if x3=true then(
 some ((Proof.mk [] [] []),false))else(
 (zco a0 a1 a2 a3 a4).bind fun z17=>
 some (z17.1,z17.2)))
theorem zg9:∀{a0}{a1}{a2}{a3}{a4}{r},zb1 a0 a1 a2 a3 a4=some r→PCalls Tryz.prog 105 [(.sh,vD a0),(.sh,.str a1),(.mv,vU a2),(.mv,vF a3),(.mv,vF a4)] (Eo (.tup [vS r.1,.bool r.2]) [.junk,.junk,.junk,.junk,.junk]):=by
 intro a0 a1 a2 a3 a4 r hr
 apply pFz 63 [] [57,58,59] [] [.cell 10 39,.tmp 11] hr zxi Tryz.func105
 intro Φ hΦ hF g
 unfold zb1 at hF
 refine wW ?_
 refine wJ hF (fun x3=>[(1,.v (.str a1)),(2,.v (vU a2)),(3,.v (vF a3)),(4,.v (vF a4)),(5,.bl [.int .i64 a0.P,.int .i64 a0.Q,.int .i64 a0.G]),(10,.bl [.sl true 1 [],.sl true 1 [],.sl true 1 []]),(53,.v (.bool x3))]) (fun x3 hF=>?_) fun _ hj1 hF=>?_
 ·refine wI hF (fun h16 hF=>?_) (fun h16 hF=>?_)
  ·exact wl hΦ hF
  refine wW ?_
  refine wC hF [.sh,.sh,.sh,.sh,.sh] zgi (fun z17 hF=>?_)
  refine wK [10,11] ?_
  exact wm hΦ hF
 refine wC hF [.sh] zeD (fun z4 hF=>?_)
 refine wG hF (fun h5 hF=>?_) fun h5 hF=>?_
 ·exact wV h5 (hj1 _) (zaa hF)
 try simp[go_sem,g,h5]
 refine wC hF [.sh] zhO (fun z6 hF=>?_)
 try simp[go_sem,g,h5]
 refine wG hF (fun h7 hF=>?_) fun h7 hF=>?_
 ·exact wV h7 (hj1 _) (zaa hF)
 try simp[go_sem,g,h7]
 refine wC hF [.sh,.sh] zhj (fun z8 hF=>?_)
 try simp[go_sem,g,h7]
 refine wG hF (fun h9 hF=>?_) fun h9 hF=>?_
 ·exact wV h9 (hj1 _) (zaa hF)
 obtain⟨x10,g,hF⟩:=Rxn g 0 hF
 try simp[go_sem,g,h9]
 try intros
 refine wG hF (fun h11 hF=>?_) fun h11 hF=>?_
 ·exact wV h11 (hj1 _) (zaa hF)
 try simp[go_sem,g,h11]
 try intros
 refine wG hF (fun h12 hF=>?_) fun h12 hF=>?_
 ·exact wV h12 (hj1 _) (zaa hF)
 try simp[go_sem,g,h12]
 refine wC hF [.sh,.sh] zcq (fun z13 hF=>?_)
 try simp[go_sem,g,h12]
 refine wG hF (fun h14 hF=>?_) fun h14 hF=>?_
 ·exact wV h14 (hj1 _) (zaa hF)
 try simp[go_sem,g,h14]
 refine wC hF [.sh,.sh] zcq (fun z15 hF=>?_)
 exact wV h14 (hj1 _) (zaa hF)
def zce (a0:Group) (a1:ByteArray) (a2:Int) (a3:Int) (a4:Int):Option (Proof×Bool):=
 (zb1 a0 a1 [[a2]] [a3] [a4]).bind fun z1=>
 some (z1.1,z1.2)
theorem zjG:∀{a0}{a1}{a2}{a3}{a4}{r},zce a0 a1 a2 a3 a4=some r→PCalls Tryz.prog 49 [(.sh,vD a0),(.sh,.str a1),(.sh,.int .i64 a2),(.sh,.int .i64 a3),(.sh,.int .i64 a4)] (Eo (.tup [vS r.1,.bool r.2]) [.junk,.junk,.junk,.junk,.junk]):=by
 intro a0 a1 a2 a3 a4 r hr
 apply pF 24 [] [] [] [.cell 10 39,.tmp 11] hr zG8 Tryz.func49
 intro Φ hΦ hF g
 unfold zce at hF
 refine wW ?_
 refine wC hF [.sh,.sh,.mv,.mv,.mv] zg9 (fun z1 hF=>?_)
 refine wK [10,11] ?_
 exact wm hΦ hF
@[go_sem] def zDv:List DE:=[d2 0 [4] 4 4,d1 1 [4] 4,d2 2 [10] 4 10,d0 3 [3],d2 5 [4] 4 4,d0 6 [2],d2 7 [4] 4 4,d0 8 [1],d0 9 [3],d3 4 [9,11,12],d3 10 [16,17,18],d0 11 [15,19],⟨12,[14,20],[],none,true,true,true⟩,d0 13 [13,21],d2 14 [8,22] 8 8]
def zbC (a0:Group) (a1:Int) (a2:Int) (a3:Int):Option Cipher:=
 (zaq a0 a0.G a3).bind fun z1=>
 (zaq a0 a1 a3).bind fun z2=>
 (zbd a0 [a2,z2]).bind fun z3=>
 some (Cipher.mk z1 z3)
theorem zhi:∀{a0}{a1}{a2}{a3}{r},zbC a0 a1 a2 a3=some r→PCalls Tryz.prog 50 [(.sh,vD a0),(.sh,.int .i64 a1),(.sh,.int .i64 a2),(.sh,.int .i64 a3)] (Eo (vI r) [.junk,.junk,.junk,.junk]):=by
 intro a0 a1 a2 a3 r hr
 apply pF 23 [] [] [] [.cell 8 81] hr zFn Tryz.func50
 intro Φ hΦ hF g
 unfold zbC at hF
 refine wW ?_
 refine wX zDv follows ?_
 refine wC hF [.sh,.sh,.sh] zaY (fun z1 hF=>?_)
 refine wC hF [.sh,.sh,.sh] zaY (fun z2 hF=>?_)
 refine wC hF [.sh,.sh] zcR (fun z3 hF=>?_)
 refine wK [8] ?_
 exact wm hΦ hF
@[go_sem] def zC8:List DE:=[d0 0 [11],d1 1 [5] 5,d2 2 [21] 5 21,d1 3 [7] 7,d2 4 [23] 7 23,d0 5 [1],d2 6 [5] 5 5,d1 7 [7] 7,d2 8 [27] 7 27,d2 9 [5] 5 5,d1 10 [5] 5,d2 11 [30] 5 30,d0 12 [12],d0 13 [32],d3 14 [29,31,33],d0 15 [28,34],⟨16,[26,35],[],none,true,true,true⟩,d0 17 [22,24,25,36],d0 18 [37],⟨19,[20,38],[],none,true,false,false⟩,d0 20 [39]]
def zbz (a0:Group) (a1:Int) (a2:Cipher) (a3:Int) (a4:Int):Option ((List EqualLog)):=
 ((zaN (σ:=(List EqualLog)×Int) (fun s4=>
 if decide (s4.2≤a4)=true then(
 (zaq a0 a0.G (i64.wrap (0-s4.2))).bind fun z10=>
 (zbd a0 [a2.B,z10]).bind fun z11=>
 gd ((s4.1.length+1)*32≤140737488355328∧s4.1.length+1≤4611686018427387904)<|
 some (.go (s4.1++[(EqualLog.mk a0.G a2.A a1 z11)],i64.wrap (s4.2+1))))else(
 some (.out s4.1))) ([],a3):Option ((List EqualLog))).bind fun x3=>
 some x3)
theorem zgv:∀{a0}{a1}{a2}{a3}{a4}{r},zbz a0 a1 a2 a3 a4=some r→PCalls Tryz.prog 54 [(.sh,vD a0),(.sh,.int .i64 a1),(.sh,vI a2),(.sh,.int .i64 a3),(.sh,.int .i64 a4)] (Eo (vM r) [.junk,.junk,.junk,.junk,.junk]):=by
 intro a0 a1 a2 a3 a4 r hr
 apply pF 41 [] [] [] [.tmp 10] hr zH7 Tryz.func54
 intro Φ hΦ hF g
 unfold zbz at hF
 iterate 3 refine wW ?_
 refine wJ hF (fun x3=>[(11,.v (vM x3))]) (fun x3 hF=>?_) fun _ hj1 hF=>?_
 ·exact wl hΦ hF
 refine wB ?_
 obtain⟨b12,hb13,hψ8⟩:=hF
 refine pL hb13 (fun s4=>[(1,.v (.int .i64 a1)),(4,.v (.int .i64 a4)),(5,.bl [.int .i64 a0.P,.int .i64 a0.Q,.int .i64 a0.G]),(7,.bl [.int .i64 a2.A,.int .i64 a2.B]),(11,.v (vM s4.1)),(12,.v (.int .i64 s4.2))]) (fun s4 _ _ ho6 hg7 hF=>?_)
 refine wK [1,4,5,7,11,12,17] ?_
 refine wI hF (fun h9 hF=>?_) (fun h9 hF=>?_)
 ·refine wW ?_
  refine wB ?_
  refine wX zC8 follows ?_
  refine wC hF [.sh,.sh,.sh] zaY (fun z10 hF=>?_)
  refine wC hF [.sh,.sh] zcR (fun z11 hF=>?_)
  obtain⟨g,hF⟩:=Rg g hF
  refine wK [1,4,5,7,11,12] ?_
  exact wT (hg7 _) (zaa hF)
 cases ho6 _ (zaa hF)
 exact wT (hj1 _) hψ8
def zcg (a0:Group) (a1:EqualLog):Option Bool:=
 (zb8 a0 [a1.G1,a1.Y1,a1.G2,a1.Y2]).bind fun z1=>
 some z1
theorem zj1:∀{a0}{a1}{r},zcg a0 a1=some r→PCalls Tryz.prog 155 [(.sh,vD a0),(.sh,vW a1)] (Eo (.bool r) [.junk,.junk]):=by
 intro a0 a1 r hr
 apply pF 16 [] [] [] [.tmp 4] hr zB1 Tryz.func155
 intro Φ hΦ hF g
 unfold zcg at hF
 refine wW ?_
 refine wC hF [.sh,.sh] zhy (fun z1 hF=>?_)
 refine wK [4] ?_
 exact wm hΦ hF
def zbH (a0:EqualLog) (a1c0:Int) (a1c1:Int) (a1c2:Int):Option Bool:=
 (zcg (Group.mk a1c0 a1c1 a1c2) a0).bind fun z1=>
 some (!z1)
theorem zhv:∀{a0}{a1c0}{a1c1}{a1c2}{r},zbH a0 a1c0 a1c1 a1c2=some r→PCalls Tryz.prog 154 [(.sh,vW a0),(.sh,.fp [.int .i64 a1c0,.int .i64 a1c1,.int .i64 a1c2])] (Eo (.bool r) [.junk,.junk]):=by
 intro a0 a1c0 a1c1 a1c2 r hr
 apply pF 8 [] [] [] [.tmp 3] hr zDa Tryz.func154
 intro Φ hΦ hF g
 unfold zbH at hF
 refine wW ?_
 refine wC hF [.sh,.sh] zj1 (fun z1 hF=>?_)
 exact wl hΦ hF
def zaB (a0:List EqualLog) (a1u0c0:Int) (a1u0c1:Int) (a1u0c2:Int):Option Int:=
 ((zak (σ:=Unit) (fun i5 s4=>
 (ix a0 i5).bind fun x11=>
 (zbH x11 a1u0c0 a1u0c1 a1u0c2).bind fun z12=>
 if z12=true then(
 some (.out (.inr i5)))else(
 some (.go ()))) (fun s4=>.inl ()) (a0.length) 0 ():Option (Unit ⊕ Int)).bind (Sum.elim (fun x3=>
 some (-1)) some))
theorem zcc:∀{a0}{a1u0c0}{a1u0c1}{a1u0c2}{r},zaB a0 a1u0c0 a1u0c1 a1u0c2=some r→PCalls Tryz.prog 178 [(.sh,vN a0),(.sh,.func (.func 154) [] [.fp [.int .i64 a1u0c0,.int .i64 a1u0c1,.int .i64 a1u0c2]])] (Eo (.int .i64 r) [.junk,.junk]):=by
 intro a0 a1u0c0 a1u0c1 a1u0c2 r hr
 apply pF 19 [] [] [] [.tmp 4] hr zCc Tryz.func178
 intro Φ hΦ hF g
 unfold zaB at hF
 iterate 2 (try simp[go_sem,g];try intros;refine zal ?_)
 refine wS hF (fun x3=>[]) (fun x3 hF=>?_) fun _ hj1 hr2 hF=>?_
 ·exact wl hΦ hF
 refine wB ?_
 obtain⟨b14,hb15,hψ8⟩:=hF
 refine pR hb15 (fun i5 s4=>[(0,.v (vN a0)),(1,.v (.func (.func 154) [] [.fp [.int .i64 a1u0c0,.int .i64 a1u0c1,.int .i64 a1u0c2]])),(7,.v (.int .i64 (a0.length:Int))),(8,.v (.int .i64 i5))]) (fun s4 _ hN16=>?_) (fun i5 s4 _ _ hi9 hi10 ho6 hg7 hF=>?_)
 ·exact wn hN16 (hj1 _) hψ8
 refine wW ?_
 refine wu hi9 hi10 ?_
 refine wW ?_
 refine wB ?_
 obtain⟨x11,g,hF⟩:=Rx g hF
 refine wW ?_
 refine wC hF [.sh] zhv (fun z12 hF=>?_)
 refine wK [0,1,5,7,8,16] ?_
 refine wI hF (fun h13 hF=>?_) (fun h13 hF=>?_)
 ·cases ho6 _ (zaa hF)
  cases hΦ _ (hr2 _ hψ8)
  refine wW ?_
  try simp[go_sem,g]
 refine wW ?_
 exact wi hi9 hi10 (hg7 _) (zaa hF)
def zam (a0:List EqualLog) (a1u0c0:Int) (a1u0c1:Int) (a1u0c2:Int):Option Bool:=
 (zaB a0 a1u0c0 a1u0c1 a1u0c2).bind fun z1=>
 some (decide (0≤z1))
theorem zb4:∀{a0}{a1u0c0}{a1u0c1}{a1u0c2}{r},zam a0 a1u0c0 a1u0c1 a1u0c2=some r→PCalls Tryz.prog 153 [(.sh,vN a0),(.sh,.func (.func 154) [] [.fp [.int .i64 a1u0c0,.int .i64 a1u0c1,.int .i64 a1u0c2]])] (Eo (.bool r) [.junk,.junk]):=by
 intro a0 a1u0c0 a1u0c1 a1u0c2 r hr
 apply pF 9 [] [] [] [.tmp 4] hr zA7 Tryz.func153
 intro Φ hΦ hF g
 unfold zam at hF
 refine wW ?_
 refine wC hF [.sh,.sh] zcc (fun z1 hF=>?_)
 exact wl hΦ hF
def zbY (a0:Group) (a1:List EqualLog):Option Bool:=
 (((zax (a1.length:Int) 1 8).bind fun z4=>
 if z4=true then(
 (zam a1 a0.P a0.Q a0.G).bind fun z6=>
 some (!z6))else(
 some false):Option Bool).bind fun x3=>
 some x3)
theorem zig:∀{a0}{a1}{r},zbY a0 a1=some r→PCalls Tryz.prog 109 [(.sh,vD a0),(.sh,vN a1)] (Eo (.bool r) [.junk,.junk]):=by
 intro a0 a1 r hr
 apply pF 14 [] [] [1000000] [.tmp 4] hr zCX Tryz.func109
 intro Φ hΦ hF g
 unfold zbY at hF
 refine wW ?_
 refine wJ hF (fun x3=>[(4,.v (.bool x3))]) (fun x3 hF=>?_) fun _ hj1 hF=>?_
 ·exact wm hΦ hF
 try simp[go_sem,g]
 try intros
 refine wC hF [.sh,.sh,.sh] zaT (fun z4 hF=>?_)
 refine wG hF (fun h5 hF=>?_) fun h5 hF=>?_
 ·try simp[go_sem,g,h5]
  refine wC hF [.sh,.sh] zb4 (fun z6 hF=>?_)
  exact wV h5 (hj1 _) (zaa hF)
 exact wV h5 (hj1 _) (zaa hF)
@[go_sem] def zAn:List DE:=[d2 0 [3] 3 3,d1 1 [4] 4,d2 2 [8] 4 8,d0 3 [2],d1 5 [4] 4,d2 6 [12] 4 12,d3 4 [7,9,10],d0 7 [11,13],d0 8 [14],d2 9 [3,15] 3 3,d1 10 [4,15] 4,d2 11 [17,15] 4 17,d0 12 [2,15],d1 14 [4,15] 4,d2 15 [21,15] 4 21,d3 13 [16,18,19,15],d0 16 [20,22,15],d0 17 [15,23],d0 18 [24]]
def zdy (a0:Group) (a1:EqualLog) (a2:Int):Option Bool:=
 (((zaq a0 a1.G1 a2).bind fun z4=>
 if(z4==a1.Y1)=true then(
 (zaq a0 a1.G2 a2).bind fun z6=>
 some (z6==a1.Y2))else(
 some false):Option Bool).bind fun x3=>
 some x3)
theorem zkP:∀{a0}{a1}{a2}{r},zdy a0 a1 a2=some r→PCalls Tryz.prog 110 [(.sh,vD a0),(.sh,vW a1),(.sh,.int .i64 a2)] (Eo (.bool r) [.junk,.junk,.junk]):=by
 intro a0 a1 a2 r hr
 apply pF 25 [] [] [] [.tmp 6] hr zCi Tryz.func110
 intro Φ hΦ hF g
 unfold zdy at hF
 refine wW ?_
 refine wJ hF (fun x3=>[(6,.v (.bool x3))]) (fun x3 hF=>?_) fun _ hj1 hF=>?_
 ·exact wm hΦ hF
 refine wX zAn follows ?_
 refine wC hF [.sh,.sh,.sh] zaY (fun z4 hF=>?_)
 refine wH hF (fun h5 hF=>?_) fun h5 hF=>?_
 ·try simp[go_sem,g,h5]
  refine wC hF [.sh,.sh,.sh] zaY (fun z6 hF=>?_)
  exact wV h5 (hj1 _) (zaa hF)
 exact wV h5 (hj1 _) (zaa hF)
@[go_sem] def zy8:List DE:=[d2 0 [4] 4 4,d2 1 [4] 4 4,d1 2 [5] 5,d2 3 [12] 5 12,d0 4 [3],d2 6 [4] 4 4,d1 7 [5] 5,d2 8 [17] 5 17,d0 9 [2],d0 10 [19],d2 14 [4] 4 4,d2 15 [4] 4 4,d1 16 [5] 5,d2 17 [26] 5 26,d0 18 [3],d2 20 [4] 4 4,d1 21 [5] 5,d2 22 [31] 5 31,d0 23 [2],d0 24 [33],d3 5 [11,13,14],d3 11 [16,18,20],d0 12 [15,21],⟨13,[10,22],[],none,true,true,true⟩,d3 19 [25,27,28],d3 25 [30,32,34],d0 26 [29,35],⟨27,[24,36],[],none,true,true,true⟩,d0 28 [23],d0 29 [37]]
def zb5 (a0:Group) (a1:EqualLog) (a2:Int) (a3:Int):Option (Int×Int):=
 (zaq a0 a1.G1 a3).bind fun z1=>
 (zaq a0 a1.Y1 (i64.wrap (0-a2))).bind fun z2=>
 (zbd a0 [z1,z2]).bind fun z3=>
 (zaq a0 a1.G2 a3).bind fun z4=>
 (zaq a0 a1.Y2 (i64.wrap (0-a2))).bind fun z5=>
 (zbd a0 [z4,z5]).bind fun z6=>
 some (z3,z6)
theorem zjC:∀{a0}{a1}{a2}{a3}{r},zb5 a0 a1 a2 a3=some r→PCalls Tryz.prog 111 [(.sh,vD a0),(.sh,vW a1),(.sh,.int .i64 a2),(.sh,.int .i64 a3)] (Eo (.tup [.int .i64 r.1,.int .i64 r.2]) [.junk,.junk,.junk,.junk]):=by
 intro a0 a1 a2 a3 r hr
 apply pF 38 [] [] [] [.tmp 8,.tmp 9] hr zBv Tryz.func111
 intro Φ hΦ hF g
 unfold zb5 at hF
 refine wW ?_
 refine wX zy8 follows ?_
 refine wC hF [.sh,.sh,.sh] zaY (fun z1 hF=>?_)
 refine wC hF [.sh,.sh,.sh] zaY (fun z2 hF=>?_)
 refine wC hF [.sh,.sh] zcR (fun z3 hF=>?_)
 refine wC hF [.sh,.sh,.sh] zaY (fun z4 hF=>?_)
 refine wC hF [.sh,.sh,.sh] zaY (fun z5 hF=>?_)
 refine wC hF [.sh,.sh] zcR (fun z6 hF=>?_)
 refine wK [8,9] ?_
 exact wm hΦ hF
@[go_sem] def zy6:List DE:=[d2 0 [4] 4 4,d0 1 [1],d0 2 [10],d0 3 [3],d0 4 [34,35],d3 5 [32,33,36],d0 6 [37],d0 7 [37],d0 8 [38],d0 9 [39]]
def zbS (a0:Group) (a1:ByteArray) (a2:List EqualLog) (a3:List Int):Option (Int×Bool):=
 ((zak (σ:=(List Int)) (fun i5 s4=>
 (ix a2 i5).bind fun x11=>
 gd ((s4.length+4)*8≤140737488355328∧s4.length+4≤4611686018427387904)<|
 some (.go (s4++[x11.G1,x11.Y1,x11.G2,x11.Y2]))) (fun s4=>s4) (a2.length) 0 []:Option ((List Int))).bind fun x3=>
 gd ((x3.length+a3.length)*8≤140737488355328∧x3.length+a3.length≤4611686018427387904)<|
 (zbl a0 a1 (x3++a3)).bind fun z16=>
 some (z16.1,z16.2))
theorem zh5:∀{a0}{a1}{a2}{a3}{r},zbS a0 a1 a2 a3=some r→PCalls Tryz.prog 112 [(.sh,vD a0),(.sh,.str a1),(.sh,vN a2),(.sh,vA a3)] (Eo (.tup [.int .i64 r.1,.bool r.2]) [.junk,.junk,.junk,.junk]):=by
 intro a0 a1 a2 a3 r hr
 apply pF 40 [] [] [] [.tmp 8,.tmp 9] hr zBt Tryz.func112
 intro Φ hΦ hF g
 unfold zbS at hF
 iterate 3 (try simp[go_sem,g];try intros;refine zal ?_)
 refine wJ hF (fun x3=>[(1,.v (.str a1)),(3,.v (vA a3)),(4,.bl [.int .i64 a0.P,.int .i64 a0.Q,.int .i64 a0.G]),(10,.v (vF x3))]) (fun x3 hF=>?_) fun _ hj1 hF=>?_
 ·refine wX zy6 follows ?_
  obtain⟨g,hF⟩:=Rg g hF
  refine wC hF [.sh,.sh,.sh] zgC (fun z16 hF=>?_)
  refine wK [8,9] ?_
  exact wm hΦ hF
 refine wB ?_
 obtain⟨b12,hb13,hψ8⟩:=hF
 refine pR hb13 (fun i5 s4=>[(1,.v (.str a1)),(3,.v (vA a3)),(4,.bl [.int .i64 a0.P,.int .i64 a0.Q,.int .i64 a0.G]),(10,.v (vF s4)),(14,.v (vN a2)),(15,.v (.int .i64 (a2.length:Int))),(16,.v (.int .i64 i5))]) (fun s4 _ hN14=>?_) (fun i5 s4 _ _ hi9 hi10 ho6 hg7 hF=>?_)
 ·exact wn hN14 (hj1 _) hψ8
 refine wW ?_
 refine wu hi9 hi10 ?_
 refine wW ?_
 refine wB ?_
 obtain⟨x11,g,hF⟩:=Rx g hF
 refine wK [1,3,4,10,12,14,15,16] ?_
 obtain⟨g,hF⟩:=Rg g hF
 refine wK [1,3,4,10,14,15,16] ?_
 exact wi hi9 hi10 (hg7 _) (zaa hF)
def zhs (a0:List Int) (a1:Int):Option Int:=
 ((zak (σ:=Int) (fun i5 s4=>
 (ix a0 i5).bind fun x11=>
 gd (a1≠0)<|
 some (.go ((i64.wrap (s4+x11)).tmod a1))) (fun s4=>s4) (a0.length) 0 0:Option Int).bind fun x3=>
 some x3)
theorem ztI:∀{a0}{a1}{r},zhs a0 a1=some r→PCalls Tryz.prog 113 [(.sh,vA a0),(.sh,.int .i64 a1)] (Eo (.int .i64 r) [.junk,.junk]):=by
 intro a0 a1 r hr
 apply pF 21 [] [] [] [.tmp 4] hr zDz Tryz.func113
 intro Φ hΦ hF g
 unfold zhs at hF
 iterate 3 (try simp[go_sem,g];try intros;refine zal ?_)
 refine wJ hF (fun x3=>[(5,.v (.int .i64 x3))]) (fun x3 hF=>?_) fun _ hj1 hF=>?_
 ·exact wl hΦ hF
 refine wB ?_
 obtain⟨b12,hb13,hψ8⟩:=hF
 refine pR hb13 (fun i5 s4=>[(1,.v (.int .i64 a1)),(5,.v (.int .i64 s4)),(8,.v (vA a0)),(9,.v (.int .i64 (a0.length:Int))),(10,.v (.int .i64 i5))]) (fun s4 _ hN14=>?_) (fun i5 s4 _ _ hi9 hi10 ho6 hg7 hF=>?_)
 ·exact wn hN14 (hj1 _) hψ8
 refine wW ?_
 refine wu hi9 hi10 ?_
 refine wW ?_
 refine wB ?_
 obtain⟨x11,g,hF⟩:=Rx g hF
 obtain⟨g,hF⟩:=Rz g hF
 refine wW ?_
 refine wK [1,5,8,9,10] ?_
 exact wi hi9 hi10 (hg7 _) (zaa hF)
@[go_sem] def zDb:List DE:=[d2 0 [6] 6 6,d3 1 [25],d0 2 [26],d0 3 [27],d0 4 [1,28],d3 5 [29,28],d0 6 [30,28],d0 7 [28,31],d0 8 [32],d2 9 [6,33] 6 6,d0 10 [2,33],d3 11 [34,35,33],d0 12 [36,33],d0 13 [33,37],d0 14 [38],d0 15 [3,39],d0 16 [2,39],d0 17 [41,39],d0 18 [42,39],d3 19 [40,43,39],d0 20 [44,39],d0 21 [39,45],d0 22 [46],d2 23 [6,47] 6 6,d0 24 [4,47],d3 25 [48,49,47],d0 26 [50,47],d0 27 [47,51],d0 28 [52],d0 29 [5,53],d0 30 [54,53],d0 31 [2,53],d0 32 [56,53],d0 33 [57,53],d0 34 [58,53],d0 35 [55,59,53],d0 36 [53,60],d0 37 [61],d2 38 [6,62] 6 6,d0 39 [5,62],d3 40 [63,64,62],d0 41 [65,62],d0 42 [62,66],d0 43 [67],d2 44 [6,68] 6 6,d0 45 [2,68],d0 46 [3,68],d0 47 [70,71,68],d0 48 [72,68],d0 49 [4,68],d3 50 [69,73,74,68],d0 51 [75,68],d0 52 [68,76]]
@[go_sem] def zz9:List DE:=[d2 0 [6] 6 6,d1 1 [18] 18,d2 2 [97] 18 97,d0 3 [16],d2 5 [6] 6 6,d1 6 [18] 18,d2 7 [102] 18 102,d0 8 [16],d3 4 [96,98,99],d3 9 [101,103,104],d0 10 [100],d0 11 [105]]
@[go_sem] def zzQ:List DE:=[d0 0 [5],d0 1 [15],d0 2 [106,107],d0 3 [108],d0 4 [5],d0 5 [15],d0 6 [111],d0 7 [110,112],d0 8 [113],d0 9 [109],d0 10 [114]]
@[go_sem] def zAi:List DE:=[d1 0 [14] 14,d2 1 [125] 14 125,d0 2 [21],d0 3 [22],d0 4 [127,128],d1 6 [14] 14,d2 7 [131] 14 131,d0 8 [19],d0 9 [133],d1 11 [14] 14,d2 12 [136] 14 136,d0 13 [20],d0 14 [138],⟨5,[126,129],[],none,true,false,false⟩,d1 16 [14] 14,⟨10,[132,134],[],none,true,false,false⟩,⟨15,[137,139],[],none,true,false,false⟩,d2 17 [141,130] 14 141,d1 18 [14] 14,d2 19 [142,135] 14 142,d1 20 [14] 14,d2 21 [143,140] 14 143]
@[go_sem] def zzz:List DE:=[d1 0 [14] 14,d2 1 [157] 14 157,d0 2 [3],d2 3 [6] 6 6,d0 4 [23],d1 5 [14] 14,d2 6 [162] 14 162,d1 7 [6] 6,d2 8 [164] 6 164,d3 9 [163,165],d0 10 [161,166],d3 11 [160,167],d0 12 [158,159],d0 13 [169,168]]
@[go_sem] def zyR:List DE:=[d1 0 [14] 14,d2 1 [170] 14 170,d0 2 [3],d2 3 [6] 6 6,d0 4 [16],d1 5 [14] 14,d2 6 [175] 14 175,d0 7 [3],d0 8 [176,177],d0 9 [178],d0 10 [4],d0 11 [179,180],d0 12 [174,181],d3 13 [173,182],d0 14 [171,172],d0 15 [184,183]]
def zcy (a0:Group) (a1:ByteArray) (a2:List EqualLog) (a3:Int) (a4:Int) (a5:List Int):Option (Proof×Bool):=
 (((zbI a0).bind fun z4=>
 if(!z4)=true then(
 some true)else(
 (zc0 a1).bind fun z6=>
 if(!z6)=true then(
 some true)else(
 (zbY a0 a2).bind fun z8=>
 if(!z8)=true then(
 some true)else(
 (zax a3 0 (i64.wrap ((a2.length:Int)-1))).bind fun z10=>
 if(!z10)=true then(
 some true)else(
 (zc2 a0 a4).bind fun z12=>
 if(!z12)=true then(
 some true)else(
 if((a5.length:Int) !=(i64.wrap ((i64.wrap (2*(a2.length:Int)))-1)))=true then(
 some true)else(
 (za0 a0 a5).bind fun z15=>
 if(!z15)=true then(
 some true)else(
 (ix a2 a3).bind fun x17=>
 (zdy a0 x17 a4).bind fun z18=>
 some (!z18)))))))):Option Bool).bind fun x3=>
 if x3=true then(
 some ((Proof.mk [] [] []),false))else(
 (ix a5 (i64.wrap ((a5.length:Int)-1))).bind fun x20=>
 ((zak (σ:=(List Int)×List Int×List Int×Int) (fun i42 s41=>
 (ix a2 i42).bind fun x48=>
 ((if(i42==a3)=true then(
 (zaq a0 x48.G1 x20).bind fun z53=>
 (zaq a0 x48.G2 x20).bind fun z54=>
 some (s41.2.2.2,0,0,z53,z54))else(
 (ix a5 s41.2.2.2).bind fun x55=>
 (ix a5 (i64.wrap (s41.2.2.2+1))).bind fun x56=>
 (zb5 a0 x48 x55 x56).bind fun z57=>
 some (i64.wrap (s41.2.2.2+2),x55,x56,z57.1,z57.2)):Option ((Int×Int×Int×Int×Int))).bind fun x51=>
 gd ((s41.1.length+2)*8≤140737488355328∧s41.1.length+2≤4611686018427387904)<|
 gd ((s41.2.1.length+1)*8≤140737488355328∧s41.2.1.length+1≤4611686018427387904)<|
 gd ((s41.2.2.1.length+1)*8≤140737488355328∧s41.2.2.1.length+1≤4611686018427387904)<|
 some (.go (s41.1++[x51.2.2.2.1,x51.2.2.2.2],s41.2.1++[x51.2.1],s41.2.2.1++[x51.2.2.1],x51.1)))) (fun s41=>(s41.1,s41.2.1,s41.2.2.1)) (a2.length) 0 ([],[],[],0):Option ((List Int×List Int×List Int))).bind fun x23=>
 (zbS a0 a1 a2 x23.1).bind fun z62=>
 if(!z62.2)=true then(
 some ((Proof.mk [] [] []),false))else(
 (zhs x23.2.1 a0.Q).bind fun z64=>
 (zbj a0 (i64.wrap (z62.1-z64))).bind fun z65=>
 (ix x23.2.1 a3).bind fun x66=>
 (ix (x23.2.1.set a3.toNat z65) a3).bind fun x67=>
 (zbj a0 (i64.wrap (x20+(i64.wrap (x67*a4))))).bind fun z68=>
 (ix x23.2.2 a3).bind fun x69=>
 some ((Proof.mk x23.1 (x23.2.1.set a3.toNat z65) (x23.2.2.set a3.toNat z68)),true)))))
set_option maxHeartbeats 1000000 in
theorem zik:∀{a0}{a1}{a2}{a3}{a4}{a5}{r},zcy a0 a1 a2 a3 a4 a5=some r→PCalls Tryz.prog 53 [(.sh,vD a0),(.sh,.str a1),(.sh,vN a2),(.sh,.int .i64 a3),(.sh,.int .i64 a4),(.sh,vA a5)] (Eo (.tup [vL r.1,.bool r.2]) [.junk,.junk,.junk,.junk,.junk,.junk]):=by
 intro a0 a1 a2 a3 a4 a5 r hr
 apply pF 186 [] [1242,1248,1253] [] [.cell 12 39,.tmp 13] hr zGr Tryz.func53
 intro Φ hΦ hF g
 unfold zcy at hF
 refine wW ?_
 refine wJ hF (fun x3=>[(1,.v (.str a1)),(2,.v (vN a2)),(3,.v (.int .i64 a3)),(4,.v (.int .i64 a4)),(5,.v (vA a5)),(6,.bl [.int .i64 a0.P,.int .i64 a0.Q,.int .i64 a0.G]),(12,.bl [.sl true 1 [],.sl true 1 [],.sl true 1 []]),(77,.v (.bool x3))]) (fun x3 hF=>?_) fun _ hj1 hF=>?_
 ·refine wI hF (fun h19 hF=>?_) (fun h19 hF=>?_)
  ·exact wl hΦ hF
  obtain⟨x20,g,hF⟩:=Rx g hF
  iterate 2 (try simp[go_sem,g];try intros;refine zal ?_)
  try simp[go_sem,g]
  try intros
  refine wK [1,2,3,4,5,6,12,14,15,16] ?_
  try simp[go_sem,g]
  try intros
  refine zal ?_
  refine wJ hF (fun x23=>[(1,.v (.str a1)),(2,.v (vN a2)),(3,.v (.int .i64 a3)),(4,.v (.int .i64 a4)),(6,.bl [.int .i64 a0.P,.int .i64 a0.Q,.int .i64 a0.G]),(12,.bl [.sl true 1 [],.sl true 1 [],.sl true 1 []]),(14,.bl [vF x23.1,vF x23.2.1,vF x23.2.2]),(16,.v (.int .i64 x20))]) (fun x23 hF=>?_) fun _ hj21 hF=>?_
  ·refine wC hF [.sh,.sh,.sh,.sh] zh5 (fun z62 hF=>?_)
   refine wK [3,4,6,12,14,16,23,24] ?_
   refine wW ?_
   refine wI hF (fun h63 hF=>?_) (fun h63 hF=>?_)
   ·exact wl hΦ hF
   refine wW ?_
   refine wX zzz follows ?_
   refine wC hF [.sh,.sh] ztI (fun z64 hF=>?_)
   refine wC hF [.sh,.sh] zfz (fun z65 hF=>?_)
   obtain⟨x66,g,hF⟩:=Rx g hF
   refine wK [3,4,6,12,14,16] ?_
   refine wX zyR follows ?_
   obtain⟨x67,g,hF⟩:=Rx g hF
   try simp only[List.length_set]at g
   refine wC hF [.sh,.sh] zfz (fun z68 hF=>?_)
   obtain⟨x69,g,hF⟩:=Rx g hF
   refine wK [12,14] ?_
   exact wl hΦ hF
  refine wB ?_
  obtain⟨b58,hb59,hψ45⟩:=hF
  refine pR hb59 (fun i42 s41=>[(1,.v (.str a1)),(2,.v (vN a2)),(3,.v (.int .i64 a3)),(4,.v (.int .i64 a4)),(5,.v (vA a5)),(6,.bl [.int .i64 a0.P,.int .i64 a0.Q,.int .i64 a0.G]),(12,.bl [.sl true 1 [],.sl true 1 [],.sl true 1 []]),(14,.bl [vF s41.1,vF s41.2.1,vF s41.2.2.1]),(15,.v (.int .i64 s41.2.2.2)),(16,.v (.int .i64 x20)),(86,.v (vN a2)),(87,.v (.int .i64 (a2.length:Int))),(88,.v (.int .i64 i42))]) (fun s41 _ hN60=>?_) (fun i42 s41 _ _ hi46 hi47 ho43 hg44 hF=>?_)
  ·exact wn hN60 (hj21 _) hψ45
  refine wW ?_
  refine wu hi46 hi47 ?_
  refine wW ?_
  refine wB ?_
  obtain⟨x48,g,hF⟩:=Rx g hF
  refine wK [1,2,3,4,5,6,12,14,15,16,17,18,86,87,88] ?_
  iterate 2 refine wW ?_
  refine wJ hF (fun x51=>[(1,.v (.str a1)),(2,.v (vN a2)),(3,.v (.int .i64 a3)),(4,.v (.int .i64 a4)),(5,.v (vA a5)),(6,.bl [.int .i64 a0.P,.int .i64 a0.Q,.int .i64 a0.G]),(12,.bl [.sl true 1 [],.sl true 1 [],.sl true 1 []]),(14,.bl [vF s41.1,vF s41.2.1,vF s41.2.2.1]),(15,.v (.int .i64 x51.1)),(16,.v (.int .i64 x20)),(19,.v (.int .i64 x51.2.1)),(20,.v (.int .i64 x51.2.2.1)),(21,.v (.int .i64 x51.2.2.2.1)),(22,.v (.int .i64 x51.2.2.2.2)),(86,.v (vN a2)),(87,.v (.int .i64 (a2.length:Int))),(88,.v (.int .i64 i42))]) (fun x51 hF=>?_) fun _ hj49 hF=>?_
  ·refine wX zAi follows ?_
   obtain⟨g,hF⟩:=Rg g hF
   obtain⟨g,hF⟩:=Rg g hF
   obtain⟨g,hF⟩:=Rg g hF
   refine wK [1,2,3,4,5,6,12,14,15,16,86,87,88] ?_
   exact wi hi46 hi47 (hg44 _) (zaa hF)
  refine wI hF (fun h52 hF=>?_) (fun h52 hF=>?_)
  ·refine wX zz9 follows ?_
   refine wC hF [.sh,.sh,.sh] zaY (fun z53 hF=>?_)
   refine wC hF [.sh,.sh,.sh] zaY (fun z54 hF=>?_)
   exact wT (hj49 _) (zaa hF)
  refine wX zzQ follows ?_
  obtain⟨x55,g,hF⟩:=Rx g hF
  obtain⟨x56,g,hF⟩:=Rx g hF
  refine wK [1,2,3,4,5,6,12,14,15,16,18,19,20,86,87,88] ?_
  refine wW ?_
  refine wC hF [.sh,.sh,.sh,.sh] zjC (fun z57 hF=>?_)
  exact wT (hj49 _) (zaa hF)
 refine wX zDb follows ?_
 refine wC hF [.sh] zeD (fun z4 hF=>?_)
 refine wH hF (fun h5 hF=>?_) fun h5 hF=>?_
 ·exact wV h5 (hj1 _) (zaa hF)
 try simp[go_sem,g,h5]
 refine wC hF [.sh] zhO (fun z6 hF=>?_)
 try simp[go_sem,g,h5]
 refine wH hF (fun h7 hF=>?_) fun h7 hF=>?_
 ·exact wV h7 (hj1 _) (zaa hF)
 try simp[go_sem,g,h7]
 refine wC hF [.sh,.sh] zig (fun z8 hF=>?_)
 try simp[go_sem,g,h7]
 refine wH hF (fun h9 hF=>?_) fun h9 hF=>?_
 ·exact wV h9 (hj1 _) (zaa hF)
 try simp[go_sem,g,h9]
 try intros
 refine wC hF [.sh,.sh,.sh] zaT (fun z10 hF=>?_)
 try simp[go_sem,g,h9]
 refine wH hF (fun h11 hF=>?_) fun h11 hF=>?_
 ·exact wV h11 (hj1 _) (zaa hF)
 try simp[go_sem,g,h11]
 refine wC hF [.sh,.sh] zh4 (fun z12 hF=>?_)
 try simp[go_sem,g,h11]
 refine wH hF (fun h13 hF=>?_) fun h13 hF=>?_
 ·exact wV h13 (hj1 _) (zaa hF)
 try simp[go_sem,g,h13]
 try intros
 refine wH hF (fun h14 hF=>?_) fun h14 hF=>?_
 ·exact wV h14 (hj1 _) (zaa hF)
 try simp[go_sem,g,h14]
 refine wC hF [.sh,.sh] zcq (fun z15 hF=>?_)
 try simp[go_sem,g,h14]
 refine wH hF (fun h16 hF=>?_) fun h16 hF=>?_
 ·exact wV h16 (hj1 _) (zaa hF)
 obtain⟨x17,g,hF⟩:=Rx g hF
 try simp[go_sem,g,h16]
 refine wC hF [.sh,.sh,.sh] zkP (fun z18 hF=>?_)
 exact wV h16 (hj1 _) (zaa hF)
@[go_sem] def zAd:List DE:=[d2 0 [3] 3 3,d1 1 [4] 4,d2 2 [8] 4 8,d1 3 [5] 5,d2 4 [10] 5 10,d0 5 [9,11],d2 7 [3] 3 3,d1 8 [4] 4,d2 9 [15] 4 15,d1 10 [5] 5,d2 11 [17] 5 17,d0 12 [16,18],⟨6,[7,12],[],none,true,true,true⟩,⟨13,[14,19],[],none,true,true,true⟩,d0 14 [13,20],d2 15 [6,21] 6 6]
def zcH (a0:Group) (a1:Cipher) (a2:Cipher):Option Cipher:=
 (zbd a0 [a1.A,a2.A]).bind fun z1=>
 (zbd a0 [a1.B,a2.B]).bind fun z2=>
 some (Cipher.mk z1 z2)
theorem zkR:∀{a0}{a1}{a2}{r},zcH a0 a1 a2=some r→PCalls Tryz.prog 114 [(.sh,vD a0),(.sh,vI a1),(.sh,vI a2)] (Eo (vI r) [.junk,.junk,.junk]):=by
 intro a0 a1 a2 r hr
 apply pF 22 [] [] [] [.cell 6 81] hr zBF Tryz.func114
 intro Φ hΦ hF g
 unfold zcH at hF
 refine wW ?_
 refine wX zAd follows ?_
 refine wC hF [.sh,.sh] zcR (fun z1 hF=>?_)
 refine wC hF [.sh,.sh] zcR (fun z2 hF=>?_)
 refine wK [6] ?_
 exact wm hΦ hF
def zcv (a0:Group) (a1:List Cipher):Option Cipher:=
 ((zak (σ:=Int×Int) (fun i14 s13=>
 (ix a1 i14).bind fun x20=>
 (zcH a0 (Cipher.mk s13.1 s13.2) x20).bind fun z21=>
 some (.go (z21.A,z21.B))) (fun s13=>(s13.1,s13.2)) (a1.length) 0 (1,1):Option ((Int×Int))).bind fun x3=>
 some (Cipher.mk x3.1 x3.2))
theorem zja:∀{a0}{a1}{r},zcv a0 a1=some r→PCalls Tryz.prog 56 [(.sh,vD a0),(.sh,vQ a1)] (Eo (vI r) [.junk,.junk]):=by
 intro a0 a1 r hr
 apply pF 21 [] [] [] [.cell 4 81] hr zFv Tryz.func56
 intro Φ hΦ hF g
 unfold zcv at hF
 iterate 3 (try simp[go_sem,g];try intros;refine zal ?_)
 refine wJ hF (fun x3=>[(4,.bl [.int .i64 0,.int .i64 0]),(5,.bl [.int .i64 x3.1,.int .i64 x3.2])]) (fun x3 hF=>?_) fun _ hj1 hF=>?_
 ·refine wK [4] ?_
  exact wm hΦ hF
 refine wB ?_
 obtain⟨b22,hb23,hψ17⟩:=hF
 refine pR hb23 (fun i14 s13=>[(2,.bl [.int .i64 a0.P,.int .i64 a0.Q,.int .i64 a0.G]),(4,.bl [.int .i64 0,.int .i64 0]),(5,.bl [.int .i64 s13.1,.int .i64 s13.2]),(9,.v (vQ a1)),(10,.v (.int .i64 (a1.length:Int))),(11,.v (.int .i64 i14))]) (fun s13 _ hN24=>?_) (fun i14 s13 _ _ hi18 hi19 ho15 hg16 hF=>?_)
 ·exact wn hN24 (hj1 _) hψ17
 refine wW ?_
 refine wu hi18 hi19 ?_
 refine wW ?_
 refine wB ?_
 obtain⟨x20,g,hF⟩:=Rx g hF
 refine wK [2,4,5,7,9,10,11] ?_
 refine wC hF [.sh,.sh,.sh] zkR (fun z21 hF=>?_)
 refine wW ?_
 exact wi hi18 hi19 (hg16 _) (zaa hF)
@[go_sem] def zAf:List DE:=[d2 0 [6] 6 6,d0 1 [1],d2 2 [6] 6 6,d1 3 [6] 6,d2 4 [132] 6 132,d0 5 [23],d0 7 [24],d0 8 [136],d0 9 [137],d0 11 [],⟨6,[131,133,134],[],none,false,true,false⟩,d3 10 [129,130,135,138],d2 12 [25,139] 25 25]
@[go_sem] def zAb:List DE:=[d2 0 [6] 6 6,d0 1 [15],d2 2 [6] 6 6,d0 3 [1],d2 4 [25] 25 25,d2 5 [8] 8 8,d0 8 [23],d0 9 [24],d0 10 [150],d0 11 [151],d0 12 [24],d0 13 [153],d0 18 [],⟨6,[146],[],none,false,true,false⟩,⟨7,[143,144,145,147],[],none,false,true,false⟩,d3 14 [141,142,148,149,152,154],d0 15 [155],d0 16 [140],d0 17 [140],d2 19 [26,156] 26 26,d0 20 [157]]
@[go_sem] def zzn:List DE:=[d1 0 [14] 14,d2 1 [161] 14 161,d2 2 [25] 25 25,d0 3 [163],d1 5 [14] 14,d2 6 [166] 14 166,d2 7 [26] 26 26,d0 8 [168],⟨4,[162,164],[],none,true,false,false⟩,d1 10 [14] 14,⟨9,[167,169],[],none,true,false,false⟩,d2 11 [171,165] 14 171,d1 12 [14] 14,d2 13 [172,170] 14 172]
@[go_sem] def zzG:List DE:=[d0 0 [20],d0 1 [23],d0 2 [173,174],d2 3 [6] 6 6,d0 4 [21],d0 5 [24],d0 6 [178],d0 7 [179],d0 8 [177,180],d3 9 [176,181],d0 10 [175],d0 11 [182]]
@[go_sem] def zzI:List DE:=[d2 0 [6] 6 6,d0 1 [15],d2 2 [6] 6 6,d0 3 [1],d2 4 [6] 6 6,d1 5 [14] 14,d2 6 [190] 14 190,d1 8 [8] 8,d2 9 [193] 8 193,d1 10 [8] 8,d2 11 [195] 8 195,d0 13 [20],d1 14 [8] 8,d2 15 [199] 8 199,d0 16 [198,200],d0 17 [21],d0 18 [5],d0 19 [16],d0 20 [204],d0 21 [19],d0 22 [205,206],d0 23 [203,207],d0 28 [],d3 7 [189,191],d3 12 [187,188,192,194,196],d3 24 [185,186,197,201,202,208],d0 25 [209],d0 26 [184],d0 27 [184],d2 29 [28,210] 28 28,d0 30 [211]]
@[go_sem] def zCG:List DE:=[d2 0 [6] 6 6,d0 1 [15],d1 2 [6] 6,d2 3 [78] 6 78,d0 4 [5],d0 5 [80],d0 6 [81],d0 7 [5],d0 8 [83],d0 9 [84],d0 14 [],d3 10 [76,77,79,82,85],d0 11 [86],d0 12 [75],d0 13 [75],d2 15 [17,87] 17 17,d0 16 [88]]
@[go_sem] def zC2:List DE:=[d2 0 [6] 6 6,d0 1 [1],d2 2 [6] 6 6,d1 3 [6] 6,d2 4 [92] 6 92,d0 5 [16],d0 6 [94],d0 7 [95],d0 9 [5],d0 10 [98],d0 11 [99],d2 14 [17] 17 17,d0 15 [103],⟨8,[91,93,96],[],none,false,true,false⟩,d3 12 [89,90,97,100],d0 13 [101],d1 16 [14] 14,⟨17,[105,102],[14],some 105,true,true,true⟩,d1 18 [14] 14,⟨19,[106,104],[14],some 106,true,true,true⟩]
def ze4 (a0:Group) (a1:Int) (a2:Contest) (a3:Int) (a4:List Int) (a5:List Int):Option (Sealed×Bool):=
 (((zdm a0 a2).bind fun z4=>
 if(!z4)=true then(
 some true)else(
 (zcS a0 a1).bind fun z6=>
 if(!z6)=true then(
 some true)else(
 (zeq a3).bind fun z8=>
 if(!z8)=true then(
 some true)else(
 (zcX a2 a4).bind fun z10=>
 if(!z10)=true then(
 some true)else(
 (zdk a2).bind fun z12=>
 if((a5.length:Int) !=z12)=true then(
 some true)else(
 (za0 a0 a5).bind fun z14=>
 some (!z14)))))):Option Bool).bind fun x3=>
 if x3=true then(
 some ((Sealed.mk 0 [] [] (Proof.mk [] [] [])),false))else(
 (zdR a3).bind fun z16=>
 (zbP a2 a4).bind fun z17=>
 (zbN a2).bind fun z18=>
 if(!z18)=true then(
 (ix a5 0).bind fun x20=>
 (ix a5 1).bind fun x21=>
 (zce a0 z16 a0.G x20 x21).bind fun z22=>
 (ix z17 0).bind fun x23=>
 (zaq a0 a0.G x23).bind fun z24=>
 (zbC a0 a1 z24 x20).bind fun z25=>
 some ((Sealed.mk a3 [z25] [z22.1] (Proof.mk [] [] [])),z22.2))else(
 (zbt a2).bind fun z26=>
 ((zak (σ:=Int×List Cipher×List Proof×List Int×List Int×List Int×Int×Int) (fun i62 s61=>
 (ix z17 i62).bind fun x68=>
 gd (0≤(i64.wrap (i62*(i64.wrap ((i64.wrap (2*z26))+2)))))<|
 gd (0≤(i64.wrap ((i64.wrap (i62+1))*(i64.wrap ((i64.wrap (2*z26))+2)))))<|
 gd ((i64.wrap (i62*(i64.wrap ((i64.wrap (2*z26))+2)))).toNat≤(i64.wrap ((i64.wrap (i62+1))*(i64.wrap ((i64.wrap (2*z26))+2)))).toNat∧(i64.wrap ((i64.wrap (i62+1))*(i64.wrap ((i64.wrap (2*z26))+2)))).toNat≤a5.length)<|
 (ix ((a5.take ((i64.wrap ((i64.wrap (i62+1))*(i64.wrap ((i64.wrap (2*z26))+2)))).toNat)).drop ((i64.wrap (i62*(i64.wrap ((i64.wrap (2*z26))+2)))).toNat)) 0).bind fun x69=>
 (zaq a0 a0.G x68).bind fun z70=>
 (zbC a0 a1 z70 x69).bind fun z71=>
 gd (1≤((a5.take ((i64.wrap ((i64.wrap (i62+1))*(i64.wrap ((i64.wrap (2*z26))+2)))).toNat)).drop ((i64.wrap (i62*(i64.wrap ((i64.wrap (2*z26))+2)))).toNat)).length∧((a5.take ((i64.wrap ((i64.wrap (i62+1))*(i64.wrap ((i64.wrap (2*z26))+2)))).toNat)).drop ((i64.wrap (i62*(i64.wrap ((i64.wrap (2*z26))+2)))).toNat)).length≤((a5.take ((i64.wrap ((i64.wrap (i62+1))*(i64.wrap ((i64.wrap (2*z26))+2)))).toNat)).drop ((i64.wrap (i62*(i64.wrap ((i64.wrap (2*z26))+2)))).toNat)).length)<|
 (zbt a2).bind fun z72=>
 (zbz a0 a1 z71 0 z72).bind fun z73=>
 (zcy a0 z16 z73 x68 x69 ((((a5.take ((i64.wrap ((i64.wrap (i62+1))*(i64.wrap ((i64.wrap (2*z26))+2)))).toNat)).drop ((i64.wrap (i62*(i64.wrap ((i64.wrap (2*z26))+2)))).toNat)).take (((a5.take ((i64.wrap ((i64.wrap (i62+1))*(i64.wrap ((i64.wrap (2*z26))+2)))).toNat)).drop ((i64.wrap (i62*(i64.wrap ((i64.wrap (2*z26))+2)))).toNat)).length)).drop 1)).bind fun z74=>
 if(!z74.2)=true then(
 some (.out (.inr ((Sealed.mk 0 [] [] (Proof.mk [] [] [])),false))))else(
 gd ((s61.2.1.length+1)*16≤140737488355328∧s61.2.1.length+1≤4611686018427387904)<|
 gd ((s61.2.2.1.length+1)*72≤140737488355328∧s61.2.2.1.length+1≤4611686018427387904)<|
 (zbj a0 (i64.wrap (s61.2.2.2.2.2.2.2+x69))).bind fun z76=>
 some (.go (s61.1,s61.2.1++[z71],s61.2.2.1++[z74.1],s61.2.2.2.1,s61.2.2.2.2.1,s61.2.2.2.2.2.1,i64.wrap (s61.2.2.2.2.2.2.1+x68),z76)))) (fun s61=>.inl (s61.1,s61.2.1,s61.2.2.1,s61.2.2.2.1,s61.2.2.2.2.1,s61.2.2.2.2.2.1,s61.2.2.2.2.2.2.1,s61.2.2.2.2.2.2.2)) (z17.length) 0 (a3,[],[],[],[],[],0,0):Option ((Int×List Cipher×List Proof×List Int×List Int×List Int×Int×Int) ⊕ (Sealed×Bool))).bind (Sum.elim (fun x29=>
 gd (0≤(i64.wrap ((z17.length:Int)*(i64.wrap ((i64.wrap (2*z26))+2)))))<|
 gd ((i64.wrap ((z17.length:Int)*(i64.wrap ((i64.wrap (2*z26))+2)))).toNat≤a5.length∧a5.length≤a5.length)<|
 (zcv a0 x29.2.1).bind fun z81=>
 (zbz a0 a1 z81 a2.Least a2.Most).bind fun z82=>
 (zcy a0 z16 z82 (i64.wrap (x29.2.2.2.2.2.2.1-a2.Least)) x29.2.2.2.2.2.2.2 ((a5.take a5.length).drop ((i64.wrap ((z17.length:Int)*(i64.wrap ((i64.wrap (2*z26))+2)))).toNat))).bind fun z83=>
 if(!z83.2)=true then(
 some ((Sealed.mk 0 [] [] (Proof.mk [] [] [])),false))else(
 some ((Sealed.mk x29.1 x29.2.1 x29.2.2.1 z83.1),true))) some)))))
set_option maxHeartbeats 1000000 in
theorem znv:∀{a0}{a1}{a2}{a3}{a4}{a5}{r},ze4 a0 a1 a2 a3 a4 a5=some r→PCalls Tryz.prog 14 [(.sh,vD a0),(.sh,.int .i64 a1),(.sh,vE a2),(.sh,.int .i64 a3),(.sh,vA a4),(.sh,vA a5)] (Eo (.tup [vV r.1,.bool r.2]) [.junk,.junk,.junk,.junk,.junk,.junk]):=by
 intro a0 a1 a2 a3 a4 a5 r hr
 apply pFz 218 [] [1470,1475] [] [.cell 12 41,.tmp 13] hr zGh Tryz.func14
 intro Φ hΦ hF g
 unfold ze4 at hF
 refine wW ?_
 refine wJ hF (fun x3=>[(1,.v (.int .i64 a1)),(3,.v (.int .i64 a3)),(4,.v (vA a4)),(5,.v (vA a5)),(6,.bl [.int .i64 a0.P,.int .i64 a0.Q,.int .i64 a0.G]),(8,.bl [.int .i64 a2.Kind,.int .i64 a2.Options,.int .i64 a2.Least,.int .i64 a2.Most,.int .i64 a2.Points]),(12,.bl [.int .i64 0,.sl true 2 [],.sl true 3 [],.sl true 1 [],.sl true 1 [],.sl true 1 []]),(63,.v (.bool x3))]) (fun x3 hF=>?_) fun _ hj1 hF=>?_
 ·refine wI hF (fun h15 hF=>?_) (fun h15 hF=>?_)
  ·exact wl hΦ hF
  refine wW ?_
  refine wC hF [.sh] zll (fun z16 hF=>?_)
  refine wK [1,4,5,6,8,12,14,15] ?_
  refine wC hF [.sh,.sh] ziV (fun z17 hF=>?_)
  refine wW ?_
  refine wC hF [.sh] zfn (fun z18 hF=>?_)
  refine wW ?_
  refine wI hF (fun h19 hF=>?_) (fun h19 hF=>?_)
  ·refine wX zCG follows ?_
   obtain⟨x20,g,hF⟩:=Rxn g 0 hF
   obtain⟨x21,g,hF⟩:=Rxn g 1 hF
   refine wC hF [.sh,.sh,.sh,.sh,.sh] zjG (fun z22 hF=>?_)
   refine wK [1,5,6,12,14,16,17,18] ?_
   refine wX zC2 follows ?_
   obtain⟨x23,g,hF⟩:=Rxn g 0 hF
   refine wD hF zaY (fun z24 hF=>?_)
   refine wC hF [.sh,.sh,.sh,.sh] zhi (fun z25 hF=>?_)
   refine wK [12,14,18] ?_
   exact wl hΦ hF
  refine wW ?_
  refine wC hF [.sh] zfZ (fun z26 hF=>?_)
  refine wK [1,5,6,8,12,14,15,16,19,20,21] ?_
  try simp[go_sem,g]
  try intros
  refine zal ?_
  refine wS hF (fun x29=>[(1,.v (.int .i64 a1)),(5,.v (vA a5)),(6,.bl [.int .i64 a0.P,.int .i64 a0.Q,.int .i64 a0.G]),(8,.bl [.int .i64 a2.Kind,.int .i64 a2.Options,.int .i64 a2.Least,.int .i64 a2.Most,.int .i64 a2.Points]),(12,.bl [.int .i64 0,.sl true 2 [],.sl true 3 [],.sl true 1 [],.sl true 1 [],.sl true 1 []]),(14,.bl [.int .i64 x29.1,vO x29.2.1,vP x29.2.2.1,vF x29.2.2.2.1,vF x29.2.2.2.2.1,vF x29.2.2.2.2.2.1]),(15,.v (.str z16)),(16,.v (vF z17)),(19,.v (.int .i64 (i64.wrap ((i64.wrap (2*z26))+2)))),(20,.v (.int .i64 x29.2.2.2.2.2.2.1)),(21,.v (.int .i64 x29.2.2.2.2.2.2.2))]) (fun x29 hF=>?_) fun _ hj27 hr28 hF=>?_
  ·refine wX zzI follows ?_
   obtain⟨g,hF⟩:=Rg g hF
   obtain⟨g,hF⟩:=Rg g hF
   try simp[go_sem,g]
   try intros
   refine wC hF [.sh,.sh] zja (fun z81 hF=>?_)
   refine wC hF [.sh,.sh,.sh,.sh,.sh] zgv (fun z82 hF=>?_)
   refine wC hF [.sh,.sh,.sh,.sh,.sh,.sh] zik (fun z83 hF=>?_)
   refine wK [12,14,28,29] ?_
   refine wW ?_
   refine wI hF (fun h84 hF=>?_) (fun h84 hF=>?_)
   ·exact wl hΦ hF
   cases hΦ _ (zaa hF)
   iterate 3 refine wW ?_
   try simp[go_sem,g]
  refine wB ?_
  obtain⟨b77,hb78,hψ65⟩:=hF
  refine pR hb78 (fun i62 s61=>[(1,.v (.int .i64 a1)),(5,.v (vA a5)),(6,.bl [.int .i64 a0.P,.int .i64 a0.Q,.int .i64 a0.G]),(8,.bl [.int .i64 a2.Kind,.int .i64 a2.Options,.int .i64 a2.Least,.int .i64 a2.Most,.int .i64 a2.Points]),(12,.bl [.int .i64 0,.sl true 2 [],.sl true 3 [],.sl true 1 [],.sl true 1 [],.sl true 1 []]),(14,.bl [.int .i64 s61.1,vO s61.2.1,vP s61.2.2.1,vF s61.2.2.2.1,vF s61.2.2.2.2.1,vF s61.2.2.2.2.2.1]),(15,.v (.str z16)),(16,.v (vF z17)),(19,.v (.int .i64 (i64.wrap ((i64.wrap (2*z26))+2)))),(20,.v (.int .i64 s61.2.2.2.2.2.2.1)),(21,.v (.int .i64 s61.2.2.2.2.2.2.2)),(113,.rf 16 []),(114,.v (.int .i64 (z17.length:Int))),(115,.v (.int .i64 i62))]) (fun s61 _ hN79=>?_) (fun i62 s61 _ _ hi66 hi67 ho63 hg64 hF=>?_)
  ·exact wn hN79 (hj27 _) hψ65
  refine wW ?_
  refine wu hi66 hi67 ?_
  refine wW ?_
  refine wB ?_
  obtain⟨x68,g,hF⟩:=Rx g hF
  obtain⟨g,hF⟩:=Rg g hF
  obtain⟨g,hF⟩:=Rg g hF
  obtain⟨g,hF⟩:=Rg g hF
  refine wW ?_
  refine wK [1,5,6,8,12,14,15,16,19,20,21,23,24,113,114,115] ?_
  refine wX zAf follows ?_
  obtain⟨x69,g,hF⟩:=zE9 g 0 hF
  refine wD hF zaY (fun z70 hF=>?_)
  refine wC hF [.sh,.sh,.sh,.sh] zhi (fun z71 hF=>?_)
  refine wK [1,5,6,8,12,14,15,16,19,20,21,23,24,25,113,114,115] ?_
  refine wX zAb follows ?_
  obtain⟨g,hF⟩:=Rg g hF
  have w:=g.1.2
  try simp[g.1.1]at w
  try have g:=And.intro g w
  refine wD hF zfZ (fun z72 hF=>?_)
  refine wD hF zgv (fun z73 hF=>?_)
  refine wC hF [.sh,.sh,.sh,.sh,.sh,.sh] zik (fun z74 hF=>?_)
  refine wK [1,5,6,8,12,14,15,16,19,20,21,23,24,25,26,27,113,114,115] ?_
  refine wW ?_
  refine wI hF (fun h75 hF=>?_) (fun h75 hF=>?_)
  ·cases ho63 _ (zaa hF)
   cases hΦ _ (hr28 _ hψ65)
   refine wW ?_
   try simp[go_sem,g]
  refine wW ?_
  refine wX zzn follows ?_
  obtain⟨g,hF⟩:=Rg g hF
  obtain⟨g,hF⟩:=Rg g hF
  refine wK [1,5,6,8,12,14,15,16,19,20,21,23,24,113,114,115] ?_
  refine wX zzG follows ?_
  refine wC hF [.sh,.sh] zfz (fun z76 hF=>?_)
  refine wK [1,5,6,8,12,14,15,16,19,20,21,113,114,115] ?_
  exact wi hi66 hi67 (hg64 _) (zaa hF)
 refine wC hF [.sh,.sh] zij (fun z4 hF=>?_)
 refine wG hF (fun h5 hF=>?_) fun h5 hF=>?_
 ·exact wV h5 (hj1 _) (zaa hF)
 try simp[go_sem,g,h5]
 refine wC hF [.sh,.sh] zgS (fun z6 hF=>?_)
 try simp[go_sem,g,h5]
 refine wG hF (fun h7 hF=>?_) fun h7 hF=>?_
 ·exact wV h7 (hj1 _) (zaa hF)
 try simp[go_sem,g,h7]
 refine wC hF [.sh] zjN (fun z8 hF=>?_)
 try simp[go_sem,g,h7]
 refine wG hF (fun h9 hF=>?_) fun h9 hF=>?_
 ·exact wV h9 (hj1 _) (zaa hF)
 try simp[go_sem,g,h9]
 refine wC hF [.sh,.sh] zjT (fun z10 hF=>?_)
 try simp[go_sem,g,h9]
 refine wG hF (fun h11 hF=>?_) fun h11 hF=>?_
 ·exact wV h11 (hj1 _) (zaa hF)
 try simp[go_sem,g,h11]
 try intros
 refine wC hF [.sh] zkg (fun z12 hF=>?_)
 try simp[go_sem,g,h11]
 refine wG hF (fun h13 hF=>?_) fun h13 hF=>?_
 ·exact wV h13 (hj1 _) (zaa hF)
 try simp[go_sem,g,h13]
 refine wC hF [.sh,.sh] zcq (fun z14 hF=>?_)
 exact wV h13 (hj1 _) (zaa hF)
def zeW (a0:List Int):Option Bool:=
 ((if decide ((a0.length:Int)≤400)=true then(
 (zbm a0).bind fun z5=>
 some z5)else(
 some false):Option Bool).bind fun x3=>
 some x3)
theorem znP:∀{a0}{r},zeW a0=some r→PCalls Tryz.prog 181 [(.sh,vA a0)] (Eo (.bool r) [.junk]):=by
 intro a0 r hr
 apply pF 10 [] [] [] [.tmp 2] hr zCI Tryz.func181
 intro Φ hΦ hF g
 unfold zeW at hF
 refine wW ?_
 refine wJ hF (fun x3=>[(2,.v (.bool x3))]) (fun x3 hF=>?_) fun _ hj1 hF=>?_
 ·exact wm hΦ hF
 try simp[go_sem,g]
 try intros
 refine wG hF (fun h4 hF=>?_) fun h4 hF=>?_
 ·try simp[go_sem,g,h4]
  refine wC hF [.sh,.sh] zfm (fun z5 hF=>?_)
  exact wV h4 (hj1 _) (zaa hF)
 exact wV h4 (hj1 _) (zaa hF)
def zdq (a0:List Int):Option (List Int×Bool):=
 (zeW a0).bind fun z1=>
 if(!z1)=true then(
 some ([],false))else(
 some (a0,true))
theorem zia:∀{a0}{r},zdq a0=some r→PCalls Tryz.prog 163 [(.sh,vA a0)] (Eo (.tup [vA r.1,.bool r.2]) [.junk]):=by
 intro a0 r hr
 apply pF 8 [] [2] [] [.tmp 2,.tmp 3] hr zBe Tryz.func163
 intro Φ hΦ hF g
 unfold zdq at hF
 refine wW ?_
 refine wC hF [.sh] znP (fun z1 hF=>?_)
 refine wW ?_
 refine wI hF (fun h2 hF=>?_) (fun h2 hF=>?_)
 ·exact wl hΦ hF
 cases hΦ _ (zaa hF)
 iterate 2 refine wW ?_
 try simp[go_sem,g]
def zdh (a0:List Cipher):Option (List Int×Bool):=
 ((zak (σ:=(List Int)) (fun i5 s4=>
 (ix a0 i5).bind fun x11=>
 gd ((s4.length+2)*8≤140737488355328∧s4.length+2≤4611686018427387904)<|
 some (.go (s4++[x11.A,x11.B]))) (fun s4=>s4) (a0.length) 0 [(a0.length:Int)]:Option ((List Int))).bind fun x3=>
 (zdq x3).bind fun z16=>
 some (z16.1,z16.2))
theorem zkm:∀{a0}{r},zdh a0=some r→PCalls Tryz.prog 120 [(.sh,vQ a0)] (Eo (.tup [vA r.1,.bool r.2]) [.junk]):=by
 intro a0 r hr
 apply pF 28 [] [24] [] [.tmp 2,.tmp 3] hr zBr Tryz.func120
 intro Φ hΦ hF g
 unfold zdh at hF
 iterate 3 (try simp[go_sem,g];try intros;refine zal ?_)
 refine wJ hF (fun x3=>[(4,.v (vF x3))]) (fun x3 hF=>?_) fun _ hj1 hF=>?_
 ·refine wC hF [.sh] zia (fun z16 hF=>?_)
  refine wK [2,3] ?_
  exact wm hΦ hF
 refine wB ?_
 obtain⟨b12,hb13,hψ8⟩:=hF
 refine pR hb13 (fun i5 s4=>[(4,.v (vF s4)),(10,.v (vQ a0)),(11,.v (.int .i64 (a0.length:Int))),(12,.v (.int .i64 i5))]) (fun s4 _ hN14=>?_) (fun i5 s4 _ _ hi9 hi10 ho6 hg7 hF=>?_)
 ·exact wn hN14 (hj1 _) hψ8
 refine wK [4,10,11,12,13] ?_
 refine wu hi9 hi10 ?_
 refine wW ?_
 refine wB ?_
 obtain⟨x11,g,hF⟩:=Rx g hF
 obtain⟨g,hF⟩:=Rg g hF
 refine wW ?_
 refine wK [4,10,11,12] ?_
 exact wi hi9 hi10 (hg7 _) (zaa hF)
def zbg (a0:List Proof):Option (List Proof):=
 gd (a0.length*72≤140737488355328∧a0.length≤4611686018427387904)<|
 some a0
theorem zga {a0:(List Proof)}{r:(List Proof)}(hr:zbg a0=some r):PCalls Tryz.prog 121 [(.sh,.sl false 3 (a0.map zaU))] (Eo (.sl true 3 (r.map zaU)) [.junk]):=by
 apply zk3 8 [] [] [1000000] [.tmp 2] hr zCE Tryz.func121 rfl rfl rfl
 ·exact⟨by simp,rfl⟩
 intro Φ hΦ hF
 unfold zbg at hF
 obtain⟨g,hF⟩:=zgo hF
 have h1:=hΦ _ (zaa hF)
 subst h1
 try simp[go_sem]
 refine zlF [(0,.v (.sl false 3 (a0.map zaU)))] (by simp[go_sem]) ?_
 try simp[go_sem]
 refine zsq rfl rfl (by simp[go_sem]) rfl (by rfl) fun b hb=>?_
 try simp[go_sem]
 refine zal ?_
 repeat rw[zp5]
 cases b
 ·refine zlI (by simp[go_sem]) ?_
  try simp[go_sem]
  refine zal ?_
  try simp[go_sem,g]
  refine zal ?_
  try simp[go_sem,g]
 have hb0:a0=[]:=by
  cases a0 with
  |nil=>rfl
  |cons x l=>exact absurd (hb (by simp)) (by simp)
 subst hb0
 refine zlo (by simp[go_sem]) ?_
 try simp[go_sem]
 refine zal ?_
 try simp[go_sem]
def zcr (a0:List Int):Option ((List Int)):=
 gd (([(a0.length:Int)].length+a0.length)*8≤140737488355328∧[(a0.length:Int)].length+a0.length≤4611686018427387904)<|
 some ([(a0.length:Int)]++a0)
theorem zgr:∀{a0}{r},zcr a0=some r→PCalls Tryz.prog 165 [(.sh,vA a0)] (Eo (vF r) [.junk]):=by
 intro a0 r hr
 apply pF 8 [] [] [] [.tmp 2] hr zBZ Tryz.func165
 intro Φ hΦ hF g
 unfold zcr at hF
 obtain⟨g,hF⟩:=Rg g hF
 cases hΦ _ (zaa hF)
 iterate 2 (try simp[go_sem,g];try intros;refine zal ?_)
 try simp[go_sem,g]
 try intros
 try simp[go_sem,g]
@[go_sem] def zzF:List DE:=[d1 0 [1] 1,d2 1 [4] 1 4,d1 3 [1] 1,d2 4 [7] 1 7,d1 6 [1] 1,d2 7 [10] 1 10,d3 2 [5],d3 5 [8],d3 8 [11],d0 9 [6,9,12],⟨10,[13],[],none,true,true,true⟩,d3 11 [14],d0 12 [15],d0 13 [15],d0 14 [16],d0 15 [17]]
def zcU (a0:Proof):Option (List Int×Bool):=
 (zcr a0.Commits).bind fun z1=>
 (zcr a0.Challenges).bind fun z2=>
 (zcr a0.Responses).bind fun z3=>
 (zbx [z1,z2,z3]).bind fun z4=>
 (zdq z4).bind fun z5=>
 some (z5.1,z5.2)
theorem zlf:∀{a0}{r},zcU a0=some r→PCalls Tryz.prog 122 [(.sh,vS a0)] (Eo (.tup [vA r.1,.bool r.2]) [.junk]):=by
 intro a0 r hr
 apply pF 18 [] [14] [] [.tmp 2,.tmp 3] hr zCx Tryz.func122
 intro Φ hΦ hF g
 unfold zcU at hF
 refine wW ?_
 refine wX zzF follows ?_
 refine wC hF [.sh] zgr (fun z1 hF=>?_)
 refine wC hF [.sh] zgr (fun z2 hF=>?_)
 refine wC hF [.sh] zgr (fun z3 hF=>?_)
 refine wC hF [.sh] zeI (fun z4 hF=>?_)
 refine wC hF [.sh] zia (fun z5 hF=>?_)
 refine wK [2,3] ?_
 exact wm hΦ hF
def zdQ (a0:(List (List Int))):Option (List Int×Bool):=
 ((zak (σ:=(List Int)) (fun i5 s4=>
 (ix a0 i5).bind fun x11=>
 (zcr x11).bind fun z12=>
 gd ((s4.length+z12.length)*8≤140737488355328∧s4.length+z12.length≤4611686018427387904)<|
 if decide (400<((s4++z12).length:Int))=true then(
 some (.out (.inr ([],false))))else(
 some (.go (s4++z12)))) (fun s4=>.inl s4) (a0.length) 0 [(a0.length:Int)]:Option ((List Int) ⊕ (List Int×Bool))).bind (Sum.elim (fun x3=>
 (zdq x3).bind fun z18=>
 some (z18.1,z18.2)) some))
theorem zlm:∀{a0}{r},zdQ a0=some r→PCalls Tryz.prog 123 [(.sh,vJ a0)] (Eo (.tup [vA r.1,.bool r.2]) [.junk]):=by
 intro a0 r hr
 apply pF 28 [] [2,24] [] [.tmp 2,.tmp 3] hr zDk Tryz.func123
 intro Φ hΦ hF g
 unfold zdQ at hF
 iterate 3 (try simp[go_sem,g];try intros;refine zal ?_)
 refine wS hF (fun x3=>[(4,.v (vF x3))]) (fun x3 hF=>?_) fun _ hj1 hr2 hF=>?_
 ·refine wC hF [.sh] zia (fun z18 hF=>?_)
  refine wK [2,3] ?_
  exact wm hΦ hF
 refine wB ?_
 obtain⟨b14,hb15,hψ8⟩:=hF
 refine pR hb15 (fun i5 s4=>[(4,.v (vF s4)),(10,.v (vJ a0)),(11,.v (.int .i64 (a0.length:Int))),(12,.v (.int .i64 i5))]) (fun s4 _ hN16=>?_) (fun i5 s4 _ _ hi9 hi10 ho6 hg7 hF=>?_)
 ·exact wn hN16 (hj1 _) hψ8
 refine wK [4,10,11,12,13] ?_
 refine wu hi9 hi10 ?_
 refine wW ?_
 refine wB ?_
 obtain⟨x11,g,hF⟩:=Rx g hF
 refine wW ?_
 refine wC hF [.sh] zgr (fun z12 hF=>?_)
 obtain⟨g,hF⟩:=Rg g hF
 try simp[go_sem,g]
 try intros
 refine zal ?_
 try simp[go_sem,g]
 try intros
 refine wK [4,10,11,12,22] ?_
 refine wI hF (fun h13 hF=>?_) (fun h13 hF=>?_)
 ·cases ho6 _ (zaa hF)
  cases hΦ _ (hr2 _ hψ8)
  refine wW ?_
  try simp[go_sem,g]
 refine wW ?_
 exact wi hi9 hi10 (hg7 _) (zaa hF)
@[go_sem] def zBu:List DE:=[d1 0 [1] 1,d2 1 [36] 1 36,d1 3 [1] 1,d2 4 [39] 1 39,d0 5 [40],d0 8 [],d3 2 [37],⟨6,[38,41],[],none,true,false,false⟩,d0 7 [42]]
def zcG (a0:Sealed):Option (List Int×Bool):=
 (zdh a0.Ciphers).bind fun z1=>
 ((if(!z1.2)=true then(
 some true)else(
 (zeq a0.Voter).bind fun z6=>
 if(!z6)=true then(
 some true)else(
 some (decide (400<(a0.Proofs.length:Int))))):Option Bool).bind fun x4=>
 if x4=true then(
 some ([],false))else(
 (zbg a0.Proofs).bind fun z9=>
 gd ((z9.length+1)*72≤140737488355328∧z9.length+1≤4611686018427387904)<|
 ((zak (σ:=(List (List Int))) (fun i14 s13=>
 (ix (z9++[a0.Sum]) i14).bind fun x22=>
 (zcU x22).bind fun z23=>
 if(!z23.2)=true then(
 some (.out (.inr ([],false))))else(
 gd ((s13.length+1)*24≤140737488355328∧s13.length+1≤4611686018427387904)<|
 some (.go (s13++[z23.1])))) (fun s13=>.inl s13) ((z9++[a0.Sum]).length) 0 [[a0.Voter],z1.1]:Option ((List (List Int)) ⊕ (List Int×Bool))).bind (Sum.elim (fun x12=>
 (zdQ x12).bind fun z29=>
 some (z29.1,z29.2)) some))))
theorem zkX:∀{a0}{r},zcG a0=some r→PCalls Tryz.prog 71 [(.sh,vV a0)] (Eo (.tup [vA r.1,.bool r.2]) [.junk]):=by
 intro a0 r hr
 apply pF 64 [] [2,60,227] [] [.tmp 2,.tmp 3] hr zFz Tryz.func71
 intro Φ hΦ hF g
 unfold zcG at hF
 refine wW ?_
 refine wC hF [.sh] zkm (fun z1 hF=>?_)
 refine wK [1,4,5] ?_
 refine wJ hF (fun x4=>[(1,.bl [.int .i64 a0.Voter,vQ a0.Ciphers,vT a0.Proofs,vA a0.Sum.Commits,vA a0.Sum.Challenges,vA a0.Sum.Responses]),(4,.v (vA z1.1)),(30,.v (.bool x4))]) (fun x4 hF=>?_) fun _ hj2 hF=>?_
 ·refine wI hF (fun h8 hF=>?_) (fun h8 hF=>?_)
  ·exact wl hΦ hF
  iterate 2 refine wW ?_
  refine wX zBu follows ?_
  refine wC hF [.sh] zga (fun z9 hF=>?_)
  obtain⟨g,hF⟩:=Rg g hF
  try simp[go_sem,g]
  try intros
  refine wK [6,42,43,44] ?_
  refine wS hF (fun x12=>[(6,.v (vY x12))]) (fun x12 hF=>?_) fun _ hj10 hr11 hF=>?_
  ·refine wC hF [.sh] zlm (fun z29 hF=>?_)
   exact wl hΦ hF
  refine wB ?_
  obtain⟨b25,hb26,hψ17⟩:=hF
  refine pR hb26 (fun i14 s13=>[(6,.v (vY s13)),(42,.v (vX (z9++[a0.Sum]))),(43,.v (.int .i64 ((z9++[a0.Sum]).length:Int))),(44,.v (.int .i64 i14))]) (fun s13 _ hN27=>?_) (fun i14 s13 _ _ hi18 hi19 ho15 hg16 hF=>?_)
  ·exact wn hN27 (hj10 _) hψ17
  generalize e20:(z9++[a0.Sum])=zq21 at*
  have e20l:zq21.length≤zcw:=by rw[←e20];simp;omega
  refine wW ?_
  refine wu hi18 hi19 ?_
  refine wW ?_
  refine wB ?_
  obtain⟨x22,g,hF⟩:=Rx g hF
  refine wW ?_
  refine wC hF [.sh] zlf (fun z23 hF=>?_)
  refine wK [6,9,10,42,43,44] ?_
  refine wW ?_
  refine wI hF (fun h24 hF=>?_) (fun h24 hF=>?_)
  ·cases ho15 _ (zaa hF)
   cases hΦ _ (hr11 _ hψ17)
   refine wW ?_
   try simp[go_sem,g]
  obtain⟨g,hF⟩:=Rg g hF
  iterate 2 refine wW ?_
  exact wi hi18 hi19 (hg16 _) (zaa hF)
 refine wG hF (fun h5 hF=>?_) fun h5 hF=>?_
 ·exact wV h5 (hj2 _) (zaa hF)
 try simp[go_sem,g,h5]
 refine wC hF [.sh] zjN (fun z6 hF=>?_)
 try simp[go_sem,g,h5]
 refine wG hF (fun h7 hF=>?_) fun h7 hF=>?_
 ·exact wV h7 (hj2 _) (zaa hF)
 try simp[go_sem,g,h7]
 try intros
 exact wT (hj2 _) (zaa hF)
def zdx (a0:Sealed):Option (Int×Bool):=
 (zcG a0).bind fun z1=>
 if(!z1.2)=true then(
 some (0,false))else(
 (zcF (⟨#[115,101,97,108,101,100]⟩:ByteArray) z1.1).bind fun z3=>
 some (z3.1,z3.2))
theorem zk0:∀{a0}{r},zdx a0=some r→PCalls Tryz.prog 32 [(.sh,vV a0)] (Eo (.tup [.int .i64 r.1,.bool r.2]) [.junk]):=by
 intro a0 r hr
 apply pF 17 [] [] [] [.tmp 2,.tmp 3] hr zF4 Tryz.func32
 intro Φ hΦ hF g
 unfold zdx at hF
 refine wW ?_
 refine wC hF [.sh] zkX (fun z1 hF=>?_)
 refine wK [4,5] ?_
 refine wW ?_
 refine wI hF (fun h2 hF=>?_) (fun h2 hF=>?_)
 ·exact wl hΦ hF
 refine wW ?_
 refine wC hF [.sh,.sh] zhA (fun z3 hF=>?_)
 exact wl hΦ hF
def zeb (a0:Group) (a1:Int) (a2:Contest) (a3:Int) (a4:List Int) (a5:List Int):Option (Int×Bool):=
 (ze4 a0 a1 a2 a3 a4 a5).bind fun z1=>
 if(!z1.2)=true then(
 some (0,false))else(
 (zdx z1.1).bind fun z3=>
 some (z3.1,z3.2))
theorem zmg:∀{a0}{a1}{a2}{a3}{a4}{a5}{r},zeb a0 a1 a2 a3 a4 a5=some r→PCalls Tryz.prog 11 [(.sh,vD a0),(.sh,.int .i64 a1),(.sh,vE a2),(.sh,.int .i64 a3),(.sh,vA a4),(.sh,vA a5)] (Eo (.tup [.int .i64 r.1,.bool r.2]) [.junk,.junk,.junk,.junk,.junk,.junk]):=by
 intro a0 a1 a2 a3 a4 a5 r hr
 apply pF 32 [] [] [] [.tmp 12,.tmp 13] hr zGu Tryz.func11
 intro Φ hΦ hF g
 unfold zeb at hF
 refine wW ?_
 refine wC hF [.sh,.sh,.sh,.sh,.sh,.sh] znv (fun z1 hF=>?_)
 refine wK [14,15] ?_
 refine wW ?_
 refine wI hF (fun h2 hF=>?_) (fun h2 hF=>?_)
 ·exact wl hΦ hF
 refine wW ?_
 refine wC hF [.sh] zk0 (fun z3 hF=>?_)
 exact wl hΦ hF
def zdA (a0:Group) (a1:Int) (a2:Contest) (a3:Session):Option (Bool×Bool):=
 (zeb a0 a1 a2 a3.Voter a3.Vote a3.Coins).bind fun z1=>
 ((if(!z1.2)=true then(
 some true)else(
 if a3.Cast=true then(
 some true)else(
 (zdV a3.Receipt).bind fun z7=>
 some (!z7))):Option Bool).bind fun x4=>
 if x4=true then(
 some (false,false))else(
 some ((z1.1==a3.Receipt),true)))
theorem zk1:∀{a0}{a1}{a2}{a3}{r},zdA a0 a1 a2 a3=some r→PCalls Tryz.prog 22 [(.sh,vD a0),(.sh,.int .i64 a1),(.sh,vE a2),(.sh,vB a3)] (Eo (.tup [.bool r.1,.bool r.2]) [.junk,.junk,.junk,.junk]):=by
 intro a0 a1 a2 a3 r hr
 apply pF 41 [] [] [] [.tmp 8,.tmp 9] hr zIC Tryz.func22
 intro Φ hΦ hF g
 unfold zdA at hF
 refine wW ?_
 refine wC hF [.sh,.sh,.sh,.sh,.sh,.sh] zmg (fun z1 hF=>?_)
 refine wK [7,10,11] ?_
 refine wJ hF (fun x4=>[(7,.bl [.int .i64 a3.Voter,vA a3.Vote,vA a3.Coins,.int .i64 a3.Receipt,.bool a3.Cast]),(10,.v (.int .i64 z1.1)),(36,.v (.bool x4))]) (fun x4 hF=>?_) fun _ hj2 hF=>?_
 ·refine wI hF (fun h8 hF=>?_) (fun h8 hF=>?_)
  ·exact wl hΦ hF
  cases hΦ _ (zaa hF)
  iterate 2 refine wW ?_
  try simp[go_sem,g]
 refine wG hF (fun h5 hF=>?_) fun h5 hF=>?_
 ·exact wV h5 (hj2 _) (zaa hF)
 try simp[go_sem,g,h5]
 refine wG hF (fun h6 hF=>?_) fun h6 hF=>?_
 ·try simp[go_sem,g,h6]
  exact wT (hj2 true) (zaa hF) (a:=by first|(simp[go_sem,g];done)|simp[go_sem,g,h6])
 try simp[go_sem,g,h6]
 refine wC hF [.sh] zjj (fun z7 hF=>?_)
 try simp[go_sem,g,h6]
 exact wT (hj2 (!z7)) (zaa hF) (a:=by first|(simp[go_sem,g];done)|simp[go_sem,g,h6])
def zdX (a0:Group) (a1:Int) (a2:Contest) (a3:List Session):Option (List Int×Bool):=
 (((zdm a0 a2).bind fun z4=>
 if(!z4)=true then(
 some true)else(
 (zcS a0 a1).bind fun z6=>
 if(!z6)=true then(
 some true)else(
 some (decide (24<(a3.length:Int))))):Option Bool).bind fun x3=>
 if x3=true then(
 some ([],false))else(
 ((zak (σ:=(List Int)) (fun i13 s12=>
 (((ix a3 i13).bind fun x22=>
 (zdA a0 a1 a2 x22).bind fun z23=>
 ((if(!x22.Cast)=true then(
 if(!z23.1)=true then(
 some true)else(
 some (!z23.2)))else(
 some false):Option Bool).bind fun x26=>
 if x26=true then(
 gd ((s12.length+1)*8≤140737488355328∧s12.length+1≤4611686018427387904)<|
 some (s12++[i13]))else(
 some s12)):Option ((List Int))).bind fun x21=>
 some (.go x21))) (fun s12=>s12) (a3.length) 0 []:Option ((List Int))).bind fun x11=>
 some (x11,true))))
theorem zjo:∀{a0}{a1}{a2}{a3}{r},zdX a0 a1 a2 a3=some r→PCalls Tryz.prog 27 [(.sh,vD a0),(.sh,.int .i64 a1),(.sh,vE a2),(.sh,vC a3)] (Eo (.tup [vF r.1,.bool r.2]) [.junk,.junk,.junk,.junk]):=by
 intro a0 a1 a2 a3 r hr
 apply pF 63 [] [] [] [.tmp 8,.tmp 9] hr zGH Tryz.func27
 intro Φ hΦ hF g
 unfold zdX at hF
 refine wW ?_
 refine wJ hF (fun x3=>[(1,.v (.int .i64 a1)),(3,.v (vC a3)),(4,.bl [.int .i64 a0.P,.int .i64 a0.Q,.int .i64 a0.G]),(6,.bl [.int .i64 a2.Kind,.int .i64 a2.Options,.int .i64 a2.Least,.int .i64 a2.Most,.int .i64 a2.Points]),(29,.v (.bool x3))]) (fun x3 hF=>?_) fun _ hj1 hF=>?_
 ·refine wI hF (fun h8 hF=>?_) (fun h8 hF=>?_)
  ·exact wl hΦ hF
  iterate 3 (try simp[go_sem,g];try intros;refine zal ?_)
  refine wJ hF (fun x11=>[(10,.v (vF x11))]) (fun x11 hF=>?_) fun _ hj9 hF=>?_
  ·refine wK [8,9] ?_
   exact wm hΦ hF
  refine wB ?_
  obtain⟨b30,hb31,hψ16⟩:=hF
  refine pR hb31 (fun i13 s12=>[(1,.v (.int .i64 a1)),(4,.bl [.int .i64 a0.P,.int .i64 a0.Q,.int .i64 a0.G]),(6,.bl [.int .i64 a2.Kind,.int .i64 a2.Options,.int .i64 a2.Least,.int .i64 a2.Most,.int .i64 a2.Points]),(10,.v (vF s12)),(31,.v (vC a3)),(32,.v (.int .i64 (a3.length:Int))),(33,.v (.int .i64 i13))]) (fun s12 _ hN32=>?_) (fun i13 s12 _ _ hi17 hi18 ho14 hg15 hF=>?_)
  ·exact wn hN32 (hj9 _) hψ16
  refine wK [1,4,6,10,31,32,33,34] ?_
  refine wu hi17 hi18 ?_
  refine wW ?_
  refine wJ hF (fun x21=>[(1,.v (.int .i64 a1)),(4,.bl [.int .i64 a0.P,.int .i64 a0.Q,.int .i64 a0.G]),(6,.bl [.int .i64 a2.Kind,.int .i64 a2.Options,.int .i64 a2.Least,.int .i64 a2.Most,.int .i64 a2.Points]),(10,.v (vF x21)),(31,.v (vC a3)),(32,.v (.int .i64 (a3.length:Int))),(33,.v (.int .i64 i13))]) (fun x21 hF=>?_) fun _ hj19 hF=>?_
  ·exact wi hi17 hi18 (hg15 _) (zaa hF)
  refine wB ?_
  obtain⟨x22,g,hF⟩:=Rx g hF
  refine wW ?_
  refine wC hF [.sh,.sh,.sh,.sh] zk1 (fun z23 hF=>?_)
  refine wK [1,4,6,10,11,12,13,14,31,32,33] ?_
  refine wJ hF (fun x26=>[(1,.v (.int .i64 a1)),(4,.bl [.int .i64 a0.P,.int .i64 a0.Q,.int .i64 a0.G]),(6,.bl [.int .i64 a2.Kind,.int .i64 a2.Options,.int .i64 a2.Least,.int .i64 a2.Most,.int .i64 a2.Points]),(10,.v (vF s12)),(11,.v (.int .i64 i13)),(31,.v (vC a3)),(32,.v (.int .i64 (a3.length:Int))),(33,.v (.int .i64 i13)),(56,.v (.bool x26))]) (fun x26 hF=>?_) fun _ hj24 hF=>?_
  ·refine wI hF (fun h29 hF=>?_) (fun h29 hF=>?_)
   ·obtain⟨g,hF⟩:=Rg g hF
    exact wT (hj19 _) (zaa hF)
   exact wT (hj19 _) (zaa hF)
  refine wG hF (fun h27 hF=>?_) fun h27 hF=>?_
  ·try simp[go_sem,g,h27]
   refine wG hF (fun h28 hF=>?_) fun h28 hF=>?_
   ·try simp[go_sem,g,h28,h27]
    exact wT (hj24 _) (zaa hF)
   try simp[go_sem,g,h28,h27]
   exact wT (hj24 _) (zaa hF)
  exact wV h27 (hj24 _) (zaa hF)
 refine wC hF [.sh,.sh] zij (fun z4 hF=>?_)
 refine wG hF (fun h5 hF=>?_) fun h5 hF=>?_
 ·exact wV h5 (hj1 _) (zaa hF)
 try simp[go_sem,g,h5]
 refine wC hF [.sh,.sh] zgS (fun z6 hF=>?_)
 try simp[go_sem,g,h5]
 refine wG hF (fun h7 hF=>?_) fun h7 hF=>?_
 ·exact wV h7 (hj1 _) (zaa hF)
 try simp[go_sem,g,h7]
 try intros
 exact wT (hj1 _) (zaa hF)
@[go_sem] def zBd:List DE:=[d0 0 [0],d0 1 [5],d0 2 [17,18],d0 3 [19],d0 4 [1],d0 5 [5],d0 6 [21,22],d0 7 [23],d0 8 [20,24]]
def zcP (a0:List Int) (a1:List Int):Option Bool:=
 if((a0.length:Int) !=(a1.length:Int))=true then(
 some false)else(
 ((zaN (σ:=Int) (fun s5=>
 if decide (s5<(a0.length:Int))=true then(
 (ix a0 s5).bind fun x11=>
 (ix a1 s5).bind fun x12=>
 if(x11 !=x12)=true then(
 some (.out (.inr false)))else(
 some (.go (i64.wrap (s5+1)))))else(
 some (.out (.inl ())))) 0:Option (Unit ⊕ Bool)).bind (Sum.elim (fun x4=>
 some true) some)))
theorem zfK:∀{a0}{a1}{r},zcP a0 a1=some r→PCalls Tryz.prog 12 [(.sh,vA a0),(.sh,vA a1)] (Eo (.bool r) [.junk,.junk]):=by
 intro a0 a1 r hr
 apply pF 26 [] [] [] [.tmp 4] hr zI9 Tryz.func12
 intro Φ hΦ hF g
 unfold zcP at hF
 iterate 2 (try simp[go_sem,g];try intros;refine zal ?_)
 refine wI hF (fun h1 hF=>?_) (fun h1 hF=>?_)
 ·exact wl hΦ hF
 iterate 2 refine wW ?_
 refine wS hF (fun x4=>[]) (fun x4 hF=>?_) fun _ hj2 hr3 hF=>?_
 ·exact wl hΦ hF
 refine wB ?_
 obtain⟨b14,hb15,hψ9⟩:=hF
 refine pL hb15 (fun s5=>[(0,.v (vA a0)),(1,.v (vA a1)),(5,.v (.int .i64 s5))]) (fun s5 _ _ ho7 hg8 hF=>?_)
 try simp[go_sem,g]
 try intros
 refine wK [0,1,5,14] ?_
 refine wI hF (fun h10 hF=>?_) (fun h10 hF=>?_)
 ·refine wW ?_
  refine wB ?_
  refine wX zBd follows ?_
  obtain⟨x11,g,hF⟩:=Rx g hF
  obtain⟨x12,g,hF⟩:=Rx g hF
  refine wW ?_
  refine wI hF (fun h13 hF=>?_) (fun h13 hF=>?_)
  ·refine wK [4] ?_
   cases ho7 _ (zaa hF)
   cases hΦ _ (hr3 _ hψ9)
   try simp[go_sem,g]
  refine wW ?_
  exact wT (hg8 _) (zaa hF)
 cases ho7 _ (zaa hF)
 exact wT (hj2 _) hψ9
def zdC (a0:Session) (a1:Session):Option Bool:=
 if(a0.Voter !=a1.Voter)=true then(
 some false)else(
 (zcP a0.Vote a1.Vote).bind fun z2=>
 if(!z2)=true then(
 some false)else(
 (zcP a0.Coins a1.Coins).bind fun z4=>
 if(!z4)=true then(
 some false)else(
 if(a0.Receipt !=a1.Receipt)=true then(
 some false)else(
 if(a0.Cast !=a1.Cast)=true then(
 some false)else(
 some true)))))
theorem zmQ:∀{a0}{a1}{r},zdC a0 a1=some r→PCalls Tryz.prog 23 [(.sh,vB a0),(.sh,vB a1)] (Eo (.bool r) [.junk,.junk]):=by
 intro a0 a1 r hr
 apply pF 32 [] [] [] [.tmp 4] hr zHG Tryz.func23
 intro Φ hΦ hF g
 unfold zdC at hF
 iterate 2 refine wW ?_
 refine wI hF (fun h1 hF=>?_) (fun h1 hF=>?_)
 ·exact wl hΦ hF
 refine wW ?_
 refine wC hF [.sh,.sh] zfK (fun z2 hF=>?_)
 refine wK [2,3,15] ?_
 refine wI hF (fun h3 hF=>?_) (fun h3 hF=>?_)
 ·exact wl hΦ hF
 refine wW ?_
 refine wC hF [.sh,.sh] zfK (fun z4 hF=>?_)
 refine wW ?_
 refine wI hF (fun h5 hF=>?_) (fun h5 hF=>?_)
 ·exact wl hΦ hF
 refine wW ?_
 refine wK [2,3,26] ?_
 refine wI hF (fun h6 hF=>?_) (fun h6 hF=>?_)
 ·exact wl hΦ hF
 iterate 2 refine wW ?_
 refine wI hF (fun h7 hF=>?_) (fun h7 hF=>?_)
 ·exact wl hΦ hF
 cases hΦ _ (zaa hF)
 iterate 2 refine wW ?_
 try simp[go_sem,g]
@[go_sem] def zCD:List DE:=[d0 0 [0],d0 1 [5],d0 2 [17,18],d0 3 [19],d0 4 [1],d0 5 [5],d0 6 [21,22],d0 7 [23],d3 8 [20,24],d0 9 [25]]
def zd9 (a0:List Session) (a1:List Session):Option Bool:=
 if((a0.length:Int) !=(a1.length:Int))=true then(
 some false)else(
 ((zaN (σ:=Int) (fun s5=>
 if decide (s5<(a0.length:Int))=true then(
 (ix a0 s5).bind fun x11=>
 (ix a1 s5).bind fun x12=>
 (zdC x11 x12).bind fun z13=>
 if(!z13)=true then(
 some (.out (.inr false)))else(
 some (.go (i64.wrap (s5+1)))))else(
 some (.out (.inl ())))) 0:Option (Unit ⊕ Bool)).bind (Sum.elim (fun x4=>
 some true) some)))
theorem zmh:∀{a0}{a1}{r},zd9 a0 a1=some r→PCalls Tryz.prog 28 [(.sh,vC a0),(.sh,vC a1)] (Eo (.bool r) [.junk,.junk]):=by
 intro a0 a1 r hr
 apply pF 27 [] [] [] [.tmp 4] hr zFa Tryz.func28
 intro Φ hΦ hF g
 unfold zd9 at hF
 iterate 2 (try simp[go_sem,g];try intros;refine zal ?_)
 refine wI hF (fun h1 hF=>?_) (fun h1 hF=>?_)
 ·exact wl hΦ hF
 iterate 2 refine wW ?_
 refine wS hF (fun x4=>[]) (fun x4 hF=>?_) fun _ hj2 hr3 hF=>?_
 ·exact wl hΦ hF
 refine wB ?_
 obtain⟨b15,hb16,hψ9⟩:=hF
 refine pL hb16 (fun s5=>[(0,.v (vC a0)),(1,.v (vC a1)),(5,.v (.int .i64 s5))]) (fun s5 _ _ ho7 hg8 hF=>?_)
 try simp[go_sem,g]
 try intros
 refine wK [0,1,5,14] ?_
 refine wI hF (fun h10 hF=>?_) (fun h10 hF=>?_)
 ·refine wW ?_
  refine wB ?_
  refine wX zCD follows ?_
  obtain⟨x11,g,hF⟩:=Rx g hF
  obtain⟨x12,g,hF⟩:=Rx g hF
  refine wC hF [.sh,.sh] zmQ (fun z13 hF=>?_)
  refine wK [0,1,5,26] ?_
  refine wI hF (fun h14 hF=>?_) (fun h14 hF=>?_)
  ·cases ho7 _ (zaa hF)
   cases hΦ _ (hr3 _ hψ9)
   refine wW ?_
   try simp[go_sem,g]
  refine wW ?_
  exact wT (hg8 _) (zaa hF)
 cases ho7 _ (zaa hF)
 exact wT (hj2 _) hψ9
def zbW (a0:List Int) (a1:Int):Option (Int×List Int):=
 ((zaN (σ:=(List Int)×Int×Int) (fun s11=>
 if decide (s11.2.2<(s11.1.length:Int))=true then(
 (ix s11.1 s11.2.2).bind fun x17=>
 some (.go (s11.1.set s11.2.2.toNat s11.2.1,i64.wrap (s11.2.1+1),i64.wrap (s11.2.2+1))))else(
 some (.out (s11.1,s11.2.1)))) (a0,a1,0):Option ((List Int×Int))).bind fun x3=>
 some (x3.2,x3.1))
theorem zfF:∀{a0}{a1}{r},zbW a0 a1=some r→PCalls Tryz.prog 16 [(.io,vF a0),(.sh,.int .i64 a1)] (Eo (.int .i64 r.1) [vF r.2,.junk]):=by
 intro a0 a1 r hr
 apply pF 19 [0] [] [] [.tmp 4] hr zFf Tryz.func16
 intro Φ hΦ hF g
 unfold zbW at hF
 iterate 2 refine wW ?_
 refine wJ hF (fun x3=>[(0,.v (vF x3.1)),(1,.v (.int .i64 x3.2))]) (fun x3 hF=>?_) fun _ hj1 hF=>?_
 ·exact wl hΦ hF
 refine wB ?_
 obtain⟨b18,hb19,hψ15⟩:=hF
 refine pL hb19 (fun s11=>[(0,.v (vF s11.1)),(1,.v (.int .i64 s11.2.1)),(5,.v (.int .i64 s11.2.2))]) (fun s11 _ _ ho13 hg14 hF=>?_)
 try simp[go_sem,g]
 try intros
 refine zal ?_
 refine wI hF (fun h16 hF=>?_) (fun h16 hF=>?_)
 ·refine wW ?_
  refine wB ?_
  obtain⟨x17,g,hF⟩:=Rx g hF
  refine wK [0,1,5] ?_
  refine wW ?_
  exact wT (hg14 _) (zaa hF)
 cases ho13 _ (zaa hF)
 exact wT (hj1 _) hψ15
def zcj (a0:List Session) (a1:Int):Option (Int×List Session):=
 ((zaN (σ:=(List Session)×Int×Int) (fun s13=>
 if decide (s13.2.2<(s13.1.length:Int))=true then(
 (ix s13.1 s13.2.2).bind fun x19=>
 (zbW x19.Vote (i64.wrap (s13.2.1+1))).bind fun z20=>
 (zbW x19.Coins z20.1).bind fun z21=>
 some (.go (((((s13.1.set s13.2.2.toNat (Session.mk s13.2.1 x19.Vote x19.Coins x19.Receipt x19.Cast)).set s13.2.2.toNat (Session.mk s13.2.1 z20.2 x19.Coins x19.Receipt x19.Cast)).set s13.2.2.toNat (Session.mk s13.2.1 z20.2 z21.2 x19.Receipt x19.Cast)).set s13.2.2.toNat (Session.mk s13.2.1 z20.2 z21.2 z21.1 x19.Cast)).set s13.2.2.toNat (Session.mk s13.2.1 z20.2 z21.2 z21.1 (((i64.wrap (z21.1+1)).tmod 3)==0)),i64.wrap ((i64.wrap (z21.1+1))+1),i64.wrap (s13.2.2+1))))else(
 some (.out (s13.1,s13.2.1)))) (a0,a1,0):Option ((List Session×Int))).bind fun x3=>
 some (x3.2,x3.1))
theorem zi5:∀{a0}{a1}{r},zcj a0 a1=some r→PCalls Tryz.prog 29 [(.io,vH a0),(.sh,.int .i64 a1)] (Eo (.int .i64 r.1) [vH r.2,.junk]):=by
 intro a0 a1 r hr
 apply pF 50 [0] [] [] [.tmp 4] hr zGz Tryz.func29
 intro Φ hΦ hF g
 unfold zcj at hF
 iterate 2 refine wW ?_
 refine wJ hF (fun x3=>[(0,.v (vH x3.1)),(1,.v (.int .i64 x3.2))]) (fun x3 hF=>?_) fun _ hj1 hF=>?_
 ·exact wl hΦ hF
 refine wB ?_
 obtain⟨b22,hb23,hψ17⟩:=hF
 refine pL hb23 (fun s13=>[(0,.v (vH s13.1)),(1,.v (.int .i64 s13.2.1)),(5,.v (.int .i64 s13.2.2))]) (fun s13 _ _ ho15 hg16 hF=>?_)
 try simp[go_sem,g]
 try intros
 refine zal ?_
 refine wI hF (fun h18 hF=>?_) (fun h18 hF=>?_)
 ·refine wW ?_
  refine wB ?_
  obtain⟨x19,g,hF⟩:=Rx g hF
  refine wK [0,1,5] ?_
  refine wW ?_
  refine wC hF [.io,.sh] zfF (fun z20 hF=>?_)
  refine wK [0,1,5] ?_
  refine wC hF [.io,.sh] zfF (fun z21 hF=>?_)
  refine wW ?_
  refine wK [0,1,5] ?_
  have g:=Ld g 3
  refine wW ?_
  refine wK [0,1,5] ?_
  refine wW ?_
  exact wT (hg16 _) (zaa hF)
 cases ho15 _ (zaa hF)
 exact wT (hj1 _) hψ17
def zdZ (a0:List Int) (a1:Int):Option Int:=
 ((zaN (σ:=Int×Int) (fun s4=>
 if decide (s4.2<(a0.length:Int))=true then(
 (ix a0 s4.2).bind fun x10=>
 if(x10 !=s4.1)=true then(
 some (.out (.inr (-1))))else(
 some (.go (i64.wrap (s4.1+1),i64.wrap (s4.2+1)))))else(
 some (.out (.inl s4.1)))) (a1,0):Option (Int ⊕ Int)).bind (Sum.elim (fun x3=>
 some x3) some))
theorem zjd:∀{a0}{a1}{r},zdZ a0 a1=some r→PCalls Tryz.prog 30 [(.sh,vA a0),(.sh,.int .i64 a1)] (Eo (.int .i64 r) [.junk,.junk]):=by
 intro a0 a1 r hr
 apply pF 21 [] [] [] [.tmp 4] hr zIw Tryz.func30
 intro Φ hΦ hF g
 unfold zdZ at hF
 iterate 2 refine wW ?_
 refine wS hF (fun x3=>[(1,.v (.int .i64 x3))]) (fun x3 hF=>?_) fun _ hj1 hr2 hF=>?_
 ·exact wl hΦ hF
 refine wB ?_
 obtain⟨b12,hb13,hψ8⟩:=hF
 refine pL hb13 (fun s4=>[(0,.v (vA a0)),(1,.v (.int .i64 s4.1)),(5,.v (.int .i64 s4.2))]) (fun s4 _ _ ho6 hg7 hF=>?_)
 try simp[go_sem,g]
 try intros
 refine zal ?_
 refine wI hF (fun h9 hF=>?_) (fun h9 hF=>?_)
 ·refine wW ?_
  refine wB ?_
  obtain⟨x10,g,hF⟩:=Rx g hF
  refine wK [0,1,5,17] ?_
  refine wI hF (fun h11 hF=>?_) (fun h11 hF=>?_)
  ·cases ho6 _ (zaa hF)
   cases hΦ _ (hr2 _ hψ8)
   refine wW ?_
   try simp[go_sem,g]
  iterate 2 refine wW ?_
  exact wT (hg7 _) (zaa hF)
 cases ho6 _ (zaa hF)
 exact wT (hj1 _) hψ8
@[go_sem] def zAZ:List DE:=[d2 0 [4] 4 4,d0 2 [1],d2 3 [6] 6 6,d0 5 [3],d3 1 [90],d3 4 [93],d3 6 [95],d3 7 [91,92,94,96],d0 8 [97],d0 9 [89],d0 10 [89],d0 11 [98],d0 12 [99]]
@[go_sem] def zHP:List DE:=[d2 0 [4] 4 4,d0 2 [1],d2 3 [6] 6 6,d0 5 [3],d3 1 [26],d3 4 [29],d3 6 [31],d3 7 [27,28,30,32],d0 8 [33],d0 9 [25],d0 10 [25],d0 11 [34],d0 12 [35]]
@[go_sem] def zIK:List DE:=[d2 0 [4] 4 4,d0 2 [1],d2 3 [6] 6 6,d0 5 [12],d3 1 [39],d3 4 [42],d3 6 [40,41,43,44],d0 7 [45],d0 8 [38],d0 9 [38],d0 10 [46],d0 11 [47]]
def zcJ (a0:Group) (a1:Int) (a2:Contest) (a3:List Session):Option Bool:=
 (zea a3 1048576).bind fun z1=>
 if decide (z1<0)=true then(
 some true)else(
 (zer a0).bind fun z3=>
 (zdG a2).bind fun z4=>
 (zb6 a3).bind fun z5=>
 (zeQ z3 a1 z4 z5).bind fun z6=>
 (zb6 a3).bind fun z7=>
 (zer a0).bind fun z8=>
 (zdG a2).bind fun z9=>
 (zdX z8 a1 z9 z7).bind fun z10=>
 (((zcP z10.1 z6.1).bind fun z14=>
 if(!z14)=true then(
 some true)else(
 some (z10.2 !=z6.2)):Option Bool).bind fun x13=>
 if x13=true then(
 some false)else(
 (zb6 a3).bind fun z17=>
 (zd9 z7 z17).bind fun z18=>
 if(!z18)=true then(
 some false)else(
 (zcj z7 1).bind fun z20=>
 ((if decide (z20.1<0)=true then(
 some true)else(
 (zcP z10.1 z6.1).bind fun z25=>
 if(!z25)=true then(
 some true)else(
 some (z10.2 !=z6.2))):Option Bool).bind fun x23=>
 if x23=true then(
 some false)else(
 (zbW z10.1 1).bind fun z28=>
 (zdZ z28.2 1).bind fun z29=>
 if decide (z29<0)=true then(
 some false)else(
 if(z29 !=z28.1)=true then(
 some false)else(
 (zer a0).bind fun z32=>
 (zdG a2).bind fun z33=>
 (zb6 a3).bind fun z34=>
 (zdX z32 a1 z33 z34).bind fun z35=>
 (((zcP z35.1 z6.1).bind fun z39=>
 if(!z39)=true then(
 some true)else(
 some (z35.2 !=z6.2)):Option Bool).bind fun x38=>
 if x38=true then(
 some false)else(
 (zdZ z28.2 1).bind fun z42=>
 if decide (z42<0)=true then(
 some false)else(
 if(z42 !=z28.1)=true then(
 some false)else(
 some true))))))))))))
set_option maxHeartbeats 1000000 in
theorem zjy:∀{a0}{a1}{a2}{a3}{r},zcJ a0 a1 a2 a3=some r→PCalls Tryz.prog 6 [(.sh,.agg [.int .i64 a0.P,.int .i64 a0.Q,.int .i64 a0.G]),(.sh,.int .i64 a1),(.sh,.agg [.int .i64 a2.Kind,.int .i64 a2.Options,.int .i64 a2.Least,.int .i64 a2.Most,.int .i64 a2.Points]),(.sh,.sl false 5 (a3.map zbB))] (Eo (.bool r) [.junk,.junk,.junk,.junk]):=by
 intro a0 a1 a2 a3 r hr
 apply pF 117 [] [] [] [.tmp 8] hr cl6 Tryz.func6
 intro Φ hΦ hF g
 unfold zcJ at hF
 iterate 2 refine wW ?_
 refine wC hF [.sh,.sh] zmf (fun z1 hF=>?_)
 refine wW ?_
 refine wK [1,3,4,6,24] ?_
 refine wI hF (fun h2 hF=>?_) (fun h2 hF=>?_)
 ·exact wl hΦ hF
 refine wW ?_
 refine wX zHP follows ?_
 refine wC hF [.sh] zhH (fun z3 hF=>?_)
 refine wC hF [.sh] zgN (fun z4 hF=>?_)
 refine wC hF [.sh] zfc (fun z5 hF=>?_)
 refine wC hF [.sh,.sh,.sh,.sh] zno (fun z6 hF=>?_)
 refine wK [1,3,4,6,10,11] ?_
 refine wC hF [.sh] zfc (fun z7 hF=>?_)
 refine wW ?_
 refine wX zIK follows ?_
 refine wC hF [.sh] zhH (fun z8 hF=>?_)
 refine wC hF [.sh] zgN (fun z9 hF=>?_)
 refine wC hF [.sh,.sh,.sh,.sh] zjo (fun z10 hF=>?_)
 refine wK [1,3,4,6,10,11,12,13,14] ?_
 refine wJ hF (fun x13=>[(1,.v (.int .i64 a1)),(3,.v (vC a3)),(4,.bl [.int .i64 a0.P,.int .i64 a0.Q,.int .i64 a0.G]),(6,.bl [.int .i64 a2.Kind,.int .i64 a2.Options,.int .i64 a2.Least,.int .i64 a2.Most,.int .i64 a2.Points]),(10,.v (vF z6.1)),(11,.v (.bool z6.2)),(12,.v (vH z7)),(13,.v (vF z10.1)),(14,.v (.bool z10.2)),(56,.v (.bool x13))]) (fun x13 hF=>?_) fun _ hj11 hF=>?_
 ·refine wI hF (fun h16 hF=>?_) (fun h16 hF=>?_)
  ·exact wl hΦ hF
  refine wW ?_
  refine wC hF [.sh] zfc (fun z17 hF=>?_)
  refine wC hF [.sh,.sh] zmh (fun z18 hF=>?_)
  refine wW ?_
  refine wI hF (fun h19 hF=>?_) (fun h19 hF=>?_)
  ·exact wl hΦ hF
  iterate 2 refine wW ?_
  refine wC hF [.io,.sh] zi5 (fun z20 hF=>?_)
  refine wK [1,3,4,6,10,11,13,14,15] ?_
  refine wJ hF (fun x23=>[(1,.v (.int .i64 a1)),(3,.v (vC a3)),(4,.bl [.int .i64 a0.P,.int .i64 a0.Q,.int .i64 a0.G]),(6,.bl [.int .i64 a2.Kind,.int .i64 a2.Options,.int .i64 a2.Least,.int .i64 a2.Most,.int .i64 a2.Points]),(10,.v (vF z6.1)),(11,.v (.bool z6.2)),(13,.v (vF z10.1)),(77,.v (.bool x23))]) (fun x23 hF=>?_) fun _ hj21 hF=>?_
  ·refine wI hF (fun h27 hF=>?_) (fun h27 hF=>?_)
   ·exact wl hΦ hF
   iterate 2 refine wW ?_
   refine wC hF [.io,.sh] zfF (fun z28 hF=>?_)
   iterate 2 refine wW ?_
   refine wC hF [.sh,.sh] zjd (fun z29 hF=>?_)
   refine wK [1,3,4,6,10,11,13,16,17] ?_
   refine wW ?_
   refine wI hF (fun h30 hF=>?_) (fun h30 hF=>?_)
   ·exact wl hΦ hF
   iterate 2 refine wW ?_
   refine wI hF (fun h31 hF=>?_) (fun h31 hF=>?_)
   ·exact wl hΦ hF
   refine wW ?_
   refine wX zAZ follows ?_
   refine wC hF [.sh] zhH (fun z32 hF=>?_)
   refine wC hF [.sh] zgN (fun z33 hF=>?_)
   refine wC hF [.sh] zfc (fun z34 hF=>?_)
   refine wC hF [.sh,.sh,.sh,.sh] zjo (fun z35 hF=>?_)
   refine wK [10,11,13,16,18,19] ?_
   refine wJ hF (fun x38=>[(13,.v (vF z28.2)),(16,.v (.int .i64 z28.1)),(108,.v (.bool x38))]) (fun x38 hF=>?_) fun _ hj36 hF=>?_
   ·refine wI hF (fun h41 hF=>?_) (fun h41 hF=>?_)
    ·exact wl hΦ hF
    iterate 2 refine wW ?_
    refine wC hF [.sh,.sh] zjd (fun z42 hF=>?_)
    iterate 2 refine wW ?_
    refine wI hF (fun h43 hF=>?_) (fun h43 hF=>?_)
    ·exact wl hΦ hF
    refine wW ?_
    refine wK [116] ?_
    refine wI hF (fun h44 hF=>?_) (fun h44 hF=>?_)
    ·exact wl hΦ hF
    cases hΦ _ (zaa hF)
    iterate 2 refine wW ?_
    try simp[go_sem,g]
   refine wC hF [.sh,.sh] zfK (fun z39 hF=>?_)
   refine wG hF (fun h40 hF=>?_) fun h40 hF=>?_
   ·exact wV h40 (hj36 _) (zaa hF)
   exact wV h40 (hj36 _) (zaa hF)
  refine wG hF (fun h24 hF=>?_) fun h24 hF=>?_
  ·exact wV h24 (hj21 _) (zaa hF)
  try simp[go_sem,g,h24]
  refine wC hF [.sh,.sh] zfK (fun z25 hF=>?_)
  try simp[go_sem,g,h24]
  refine wG hF (fun h26 hF=>?_) fun h26 hF=>?_
  ·exact wV h26 (hj21 _) (zaa hF)
  exact wV h26 (hj21 _) (zaa hF)
 refine wC hF [.sh,.sh] zfK (fun z14 hF=>?_)
 refine wG hF (fun h15 hF=>?_) fun h15 hF=>?_
 ·exact wV h15 (hj11 _) (zaa hF)
 exact wV h15 (hj11 _) (zaa hF)
end
end Go.Pm
