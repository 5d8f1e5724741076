/-
  Plain functions and their walks. Written by wip/tools/lift.py.
-/
import Derived.Test.YtplemekcclpaoaaGreatDoorM44
namespace Go.Pm
open Go.Am IntKind
open Go.Proofs
set_option maxRecDepth 100000
attribute [local irreducible] pw pwx pw1 pwg qv qz qf
attribute [-simp] List.map_set
set_option linter.unusedSimpArgs false
set_option linter.unusedVariables false
noncomputable section
theorem zm7{a0 a1 r}(hr:zeF a0 a1=some r):PCalls Tryz.prog 75 [(.sh,vF a0),(.sh,vO a1)] (Eo (.bool r) zak):=by
 apply pF 43 [] [] [] [.tmp 4] hr zGX Tryz.func75;intro Φ hΦ hF g;unfold zeF at hF;refine wW ?_;refine wJK hF [2,3] (fun x3=>[(24,.v (.bool x3))]) (fun x3 hF=>?_) fun _ hj1 hF=>?_
 ·refine wI hF (fun h11 hF=>?_) fun h11 hF=>?_
  ·exact wl hΦ hF
  refine wW ?_;refine wJ hF (fun x14=>[(4,.v (.bool x14))]) (fun x14 hF=>?_) fun _ hj12 hF=>?_
  ·exact wm hΦ hF
  refine wE hF zes fun z15 hF=>?_
  refine wG hF (fun h16 hF=>?_) fun h16 hF=>?_
  ·exact wV h16 (hj12 _) (zaa hF)
  try simp[go_sem,g,h16]
  refine wG hF (fun h17 hF=>?_) fun h17 hF=>?_
  ·try simp[go_sem,g,h17,h16]
   exact wT (hj12 _) (zaa hF)
  try simp[go_sem,g,h17,h16]
  exact wT (hj12 _) (zaa hF)
 refine wZ [k2 0 2,k3 1,k0 2,k0 3,k2 4 3,k3 5,k0 6,k0 7,k0 8,k2 9 3,k3 10,k0 11,k0 12,k0 13,k2 14 3,k1 16 2,k2 17 2,k3 15,k0 18,k0 19] follows ?_;refine wE hF zin fun z4 hF=>?_
 refine wH hF (fun h5 hF=>?_) fun h5 hF=>?_
 ·exact wV h5 (hj1 _) (zaa hF)
 try simp[go_sem,g,h5]
 refine wE hF zhG fun z6 hF=>?_
 try simp[go_sem,g,h5]
 refine wH hF (fun h7 hF=>?_) fun h7 hF=>?_
 ·exact wV h7 (hj1 _) (zaa hF)
 try simp[go_sem,g,h7]
 refine wE hF zg5 fun z8 hF=>?_
 try simp[go_sem,g,h7]
 refine wH hF (fun h9 hF=>?_) fun h9 hF=>?_
 ·exact wV h9 (hj1 _) (zaa hF)
 try simp[go_sem,g,h9]
 refine wE hF zg5 fun z10 hF=>?_
 exact wV h9 (hj1 _) (zaa hF)
def zbV(a0:Contest):Option Int:=
 if(a0.Kind==2)=true then(
 some a0.Points)else(
 some 1)
theorem zim{a0 r}(hr:zbV a0=some r):PCalls Tryz.prog 78 [(.sh,vO a0)] (Eo (.int .i64 r) [.junk]):=by
 apply pF 8 [] [] [] [.tmp 2] hr zKa Tryz.func78;intro Φ hΦ hF g;unfold zbV at hF
 iterate 2 refine wW ?_
 refine wI hF (fun h1 hF=>?_) fun h1 hF=>?_
 ·exact wl hΦ hF
 cases hΦ _ (zaa hF)
 iterate 2 refine wW ?_
 try simp[go_sem,g]
def zbu(a0:Group)(a1:ByteArray)(a2:Int):Option (Int×Bool):=
 ((zax (σ:=Int) (fun s4=>
 if decide (s4<1000)=true then(
 (zbU a1 [a0.P,a0.Q,a0.G,a2,s4]).bind fun z10=>
 if(!z10.2)=true then(
 some (.out (.inr (0,false))))else(
 gd (i64.wrap (a0.P-1)≠0)<|
 gd (a0.Q≠0)<|
 (zc9 (i64.wrap (1+(z10.1.tmod (i64.wrap (a0.P-1))))) (i64.wrap ((i64.wrap (a0.P-1)).tdiv a0.Q)) a0.P).bind fun z12=>
 if(z12 !=1)=true then(
 some (.out (.inr (z12,true))))else(
 some (.go (i64.wrap (s4+1))))))else(
 some (.out (.inl ())))) 0:Option (Unit ⊕ (Int×Bool))).bind (Sum.elim (fun x3=>
 some (0,false)) some))
theorem zil{a0 a1 a2 r}(hr:zbu a0 a1 a2=some r):PCalls Tryz.prog 122 [(.sh,vF a0),(.sh,.str a1),(.sh,.int .i64 a2)] (Eo (.tup [.int .i64 r.1,.bool r.2]) zcj):=by
 apply pF 50 [] [] [] [.tmp 6,.tmp 7] hr zCS Tryz.func122;intro Φ hΦ hF g;unfold zbu at hF
 iterate 2 refine wW ?_
 refine wS hF (fun x3=>[]) (fun x3 hF=>?_) fun _ hj1 hr2 hF=>?_
 ·exact wl hΦ hF
 refine wB ?_;obtain⟨b14,hb15,hψ8⟩:=hF;refine pLK hb15 [1,2,3] (fun s4=>[(12,.v (.int .i64 s4))]) fun s4 _ _ ho6 hg7 hF=>?_
 refine wW ?_;refine wI hF (fun h9 hF=>?_) fun h9 hF=>?_
 ·refine wW ?_;refine wB ?_;refine wW ?_;refine wE hF zgh fun z10 hF=>?_
  refine wK [1,2,3,9,10,12] ?_;refine wW ?_;refine wI hF (fun h11 hF=>?_) fun h11 hF=>?_
  ·cases ho6 _ (zaa hF);cases hΦ _ (hr2 _ hψ8);refine wW ?_;try simp[go_sem,g]
  refine wW ?_;refine wZ [k0 0,k1 1 3,k2 2 3,k0 3,k0 4,k0 5,k1 6 3,k2 7 3,k0 8,k1 9 3,k2 10 3,k0 11,k1 12 3,k2 13 3,k3 14,k0 15] follows ?_
  iterate 2 obtain⟨g,hF⟩:=Rz g hF
  refine wE hF zhV fun z12 hF=>?_
  refine wK [1,2,3,11,12] ?_;refine wW ?_;refine wI hF (fun h13 hF=>?_) fun h13 hF=>?_
  ·cases ho6 _ (zaa hF);cases hΦ _ (hr2 _ hψ8);refine wW ?_;try simp[go_sem,g]
  refine wW ?_;exact wT (hg7 _) (zaa hF)
 cases ho6 _ (zaa hF);exact wT (hj1 _) hψ8
def zcf(a0:Group)(a1:Int):Option (Bases×Bool):=
 (zbu a0 (⟨#[104]⟩:ByteArray) 0).bind fun z1=>
 ((zax (σ:=Int×List Int×Bool×Int) (fun s16=>
 if decide (s16.2.2.2<a1)=true then(
 (zbu a0 (⟨#[104,115]⟩:ByteArray) s16.2.2.2).bind fun z22=>
 ((if s16.2.2.1=true then(
 some z22.2)else(
 some false):Option Bool).bind fun x25=>
 gd ((s16.2.1.length+1)*8≤140737488355328∧s16.2.1.length+1≤4611686018427387904)<|
 some (.go (s16.1,s16.2.1++[z22.1],x25,i64.wrap (s16.2.2.2+1)))))else(
 some (.out (s16.1,s16.2.1,s16.2.2.1)))) (z1.1,[],true,0):Option ((Int×List Int×Bool))).bind fun x4=>
 ((if(!z1.2)=true then(
 some true)else(
 some (!x4.2.2)):Option Bool).bind fun x31=>
 if x31=true then(
 some ((Bases.mk 0 []),false))else(
 some ((Bases.mk x4.1 x4.2.1),true))))
theorem zlz{a0 a1 r}(hr:zcf a0 a1=some r):PCalls Tryz.prog 79 [(.sh,vF a0),(.sh,.int .i64 a1)] (Eo (.tup [vP r.1,.bool r.2]) zak):=by
 apply pF 49 [] [] [] [.cell 4 115,.tmp 5] hr zH3 Tryz.func79;intro Φ hΦ hF g;unfold zcf at hF;refine wW ?_;refine wE hF zil fun z1 hF=>?_
 refine wK [1,2,4,6,7] ?_
 iterate 2 refine wW ?_
 refine wJK hF [4,7] (fun x4=>[(8,.bl [.int .i64 x4.1,vG x4.2.1]),(9,.v (.bool x4.2.2))]) (fun x4 hF=>?_) fun _ hj2 hF=>?_
 ·refine wJK hF [4,8] (fun x31=>[(46,.v (.bool x31))]) (fun x31 hF=>?_) fun _ hj29 hF=>?_
  ·refine wI hF (fun h33 hF=>?_) fun h33 hF=>?_
   ·refine wK [4,5] ?_;exact wm hΦ hF
   refine wW ?_;refine wK [4,5] ?_;exact wm hΦ hF
  refine wG hF (fun h32 hF=>?_) fun h32 hF=>?_
  ·exact wV h32 (hj29 _) (zaa hF)
  exact wV h32 (hj29 _) (zaa hF)
 refine wB ?_;obtain⟨b27,hb28,hψ20⟩:=hF;refine pLK hb28 [2,4,7,20] (fun s16=>[(8,.bl [.int .i64 s16.1,vG s16.2.1]),(9,.v (.bool s16.2.2.1)),(21,.v (.int .i64 s16.2.2.2))]) fun s16 _ _ ho18 hg19 hF=>?_
 refine wW ?_;refine wI hF (fun h21 hF=>?_) fun h21 hF=>?_
 ·refine wW ?_;refine wB ?_;refine wK [2,4,7,8,9,10,20,21] ?_;refine wE hF zil fun z22 hF=>?_
  refine wW ?_;refine wJK hF [2,4,7,8,11,20,21] (fun x25=>[(9,.v (.bool x25))]) (fun x25 hF=>?_) fun _ hj23 hF=>?_
  ·obtain⟨g,hF⟩:=Rg g hF;refine wK [2,4,7,8,9,20,21] ?_;exact wT (hg19 _) (zaa hF)
  refine wG hF (fun h26 hF=>?_) fun h26 hF=>?_
  ·exact wV h26 (hj23 _) (zaa hF)
  exact wV h26 (hj23 _) (zaa hF)
 cases ho18 _ (zaa hF);exact wT (hj2 _) hψ20
def zen(a0:Plan):Option Bool:=
 (((zeF a0.Gr a0.Ct).bind fun z4=>
 if(!z4)=true then(
 some true)else(
 if decide (a0.Gr.Q≤7)=true then(
 some true)else(
 (zav a0.Trustees 1 4).bind fun z7=>
 if(!z7)=true then(
 some true)else(
 (zav a0.Threshold 1 a0.Trustees).bind fun z9=>
 if(!z9)=true then(
 some true)else(
 (zav a0.Mixers 0 3).bind fun z11=>
 if(!z11)=true then(
 some true)else(
 (zav a0.Voters 1 12).bind fun z13=>
 if(!z13)=true then(
 some true)else(
 (zdK a0.Seed).bind fun z15=>
 some (!z15))))))):Option Bool).bind fun x3=>
 if x3=true then(
 some false)else(
 (((zbw a0.Ct).bind fun z20=>
 if z20=true then(
 (zbV a0.Ct).bind fun z22=>
 some (decide (a0.Gr.Q≤(i64.wrap (a0.Voters*z22)))))else(
 some false):Option Bool).bind fun x19=>
 if x19=true then(
 some false)else(
 (zcf a0.Gr 12).bind fun z24=>
 some z24.2))))
theorem zmz{a0 r}(hr:zen a0=some r):PCalls Tryz.prog 42 [(.sh,vQ a0)] (Eo (.bool r) [.junk]):=by
 apply pF 71 [] [] [] [.tmp 2] hr zJb Tryz.func42;intro Φ hΦ hF g;unfold zen at hF;refine wW ?_;refine wJ hF (fun x3=>[(1,.bl [.int .i64 a0.Gr.P,.int .i64 a0.Gr.Q,.int .i64 a0.Gr.G,.int .i64 a0.Ct.Kind,.int .i64 a0.Ct.Options,.int .i64 a0.Ct.Least,.int .i64 a0.Ct.Most,.int .i64 a0.Ct.Points,.int .i64 a0.Threshold,.int .i64 a0.Trustees,.int .i64 a0.Mixers,.int .i64 a0.Voters,.int .i64 a0.Seed]),(48,.v (.bool x3))]) (fun x3 hF=>?_) fun _ hj1 hF=>?_
 ·refine wI hF (fun h16 hF=>?_) fun h16 hF=>?_
  ·exact wl hΦ hF
  refine wW ?_;refine wJ hF (fun x19=>[(1,.bl [.int .i64 a0.Gr.P,.int .i64 a0.Gr.Q,.int .i64 a0.Gr.G,.int .i64 a0.Ct.Kind,.int .i64 a0.Ct.Options,.int .i64 a0.Ct.Least,.int .i64 a0.Ct.Most,.int .i64 a0.Ct.Points,.int .i64 a0.Threshold,.int .i64 a0.Trustees,.int .i64 a0.Mixers,.int .i64 a0.Voters,.int .i64 a0.Seed]),(63,.v (.bool x19))]) (fun x19 hF=>?_) fun _ hj17 hF=>?_
  ·refine wI hF (fun h23 hF=>?_) fun h23 hF=>?_
   ·exact wl hΦ hF
   refine wW ?_;refine wE hF zlz fun z24 hF=>?_
   refine wK [4] ?_;exact wl hΦ hF
  refine wZ [k1 0 1,k2 1 1,k3 2,k0 3,k1 4 1,k2 5 1,k1 6 1,k2 7 1,k1 10 1,k1 11 1,k2 12 1,k3 8,k0 9,k0 13,k0 14] follows ?_;refine wE hF zes fun z20 hF=>?_
  refine wH hF (fun h21 hF=>?_) fun h21 hF=>?_
  ·try simp[go_sem,g,h21]
   refine wE hF zim fun z22 hF=>?_
   exact wV h21 (hj17 _) (zaa hF)
  exact wV h21 (hj17 _) (zaa hF)
 refine wE hF zm7 fun z4 hF=>?_
 refine wG hF (fun h5 hF=>?_) fun h5 hF=>?_
 ·exact wV h5 (hj1 _) (zaa hF)
 try simp[go_sem,g,h5]
 refine wG hF (fun h6 hF=>?_) fun h6 hF=>?_
 ·exact wV h6 (hj1 _) (zaa hF)
 try simp[go_sem,g,h6]
 refine wE hF zaM fun z7 hF=>?_
 try simp[go_sem,g,h6]
 refine wG hF (fun h8 hF=>?_) fun h8 hF=>?_
 ·exact wV h8 (hj1 _) (zaa hF)
 try simp[go_sem,g,h8]
 refine wE hF zaM fun z9 hF=>?_
 try simp[go_sem,g,h8]
 refine wG hF (fun h10 hF=>?_) fun h10 hF=>?_
 ·exact wV h10 (hj1 _) (zaa hF)
 try simp[go_sem,g,h10]
 refine wE hF zaM fun z11 hF=>?_
 try simp[go_sem,g,h10]
 refine wG hF (fun h12 hF=>?_) fun h12 hF=>?_
 ·exact wV h12 (hj1 _) (zaa hF)
 try simp[go_sem,g,h12]
 refine wE hF zaM fun z13 hF=>?_
 try simp[go_sem,g,h12]
 refine wG hF (fun h14 hF=>?_) fun h14 hF=>?_
 ·exact wV h14 (hj1 _) (zaa hF)
 try simp[go_sem,g,h14]
 refine wE hF zid fun z15 hF=>?_
 exact wV h14 (hj1 _) (zaa hF)
def ze8(a0:Plan):Option Int:=
 some (i64.wrap ((i64.wrap ((i64.wrap (1+a0.Trustees))+a0.Mixers))+a0.Voters))
theorem zlN{a0 r}(hr:ze8 a0=some r):PCalls Tryz.prog 43 [(.sh,vQ a0)] (Eo (.int .i64 r) [.junk]):=by
 apply pF 12 [] [] [] [.tmp 2] hr zIW Tryz.func43;intro Φ hΦ hF g;unfold ze8 at hF;refine wW ?_;refine wK [2] ?_;exact wm hΦ hF
def zbK(a0:Group)(a1:Board):Option (Opening×Bool):=
 ((if((a1.Entries.length:Int)==0)=true then(
 some true)else(
 (ix a1.Entries 0).bind fun x5=>
 if(x5.Kind !=1)=true then(
 some true)else(
 if(x5.Author !=0)=true then(
 some true)else(
 some ((x5.Data.length:Int) !=9)))):Option Bool).bind fun x3=>
 if x3=true then(
 some ((Opening.mk (Contest.mk 0 0 0 0 0) 0 0 0 0),false))else(
 (ix a1.Entries 0).bind fun x9=>
 gd (0≤5∧5≤x9.Data.length)<|
 (zdz ((x9.Data.take 5).drop 0)).bind fun z10=>
 (ix x9.Data 5).bind fun x11=>
 (ix x9.Data 6).bind fun x12=>
 (ix x9.Data 7).bind fun x13=>
 (ix x9.Data 8).bind fun x14=>
 (zeB a0 (Opening.mk z10.1 x11 x12 x13 x14)).bind fun z15=>
 ((if(!z10.2)=true then(
 some true)else(
 (zen z15).bind fun z20=>
 if(!z20)=true then(
 some true)else(
 (ze8 z15).bind fun z22=>
 some ((a1.Keys.length:Int) !=z22))):Option Bool).bind fun x18=>
 if x18=true then(
 some ((Opening.mk (Contest.mk 0 0 0 0 0) 0 0 0 0),false))else(
 some ((Opening.mk z10.1 x11 x12 x13 x14),true)))))
theorem zh4{a0 a1 r}(hr:zbK a0 a1=some r):PCalls Tryz.prog 33 [(.sh,vF a0),(.sh,vE a1)] (Eo (.tup [vAD r.1,.bool r.2]) zak):=by
 apply pF 86 [] [] [] [.cell 4 69,.tmp 5] hr zHU Tryz.func33;intro Φ hΦ hF g;unfold zbK at hF;refine wW ?_;refine wJK hF [2,3,4] (fun x3=>[(39,.v (.bool x3))]) (fun x3 hF=>?_) fun _ hj1 hF=>?_
 ·refine wI hF (fun h8 hF=>?_) fun h8 hF=>?_
  ·exact wl hΦ hF
  obtain⟨x9,g,hF⟩:=Rxn g 0 hF;refine wW ?_;refine wK [2,3,4,6] ?_;obtain⟨g,hF⟩:=Rg g hF;refine wE hF zli fun z10 hF=>?_
  refine wW ?_;refine wZ [k2 0 7,k0 1,k0 2,k0 3,k0 4,k0 5,k0 6,k0 7,k0 8,k0 9,k0 10,k0 11,k0 12,k0 13,k0 14,k2 15 9] follows ?_;obtain⟨x11,g,hF⟩:=Rxn g 5 hF;obtain⟨x12,g,hF⟩:=Rxn g 6 hF;obtain⟨x13,g,hF⟩:=Rxn g 7 hF;obtain⟨x14,g,hF⟩:=Rxn g 8 hF;refine wK [2,3,4,8,9] ?_;refine wE hF zlD fun z15 hF=>?_
  refine wW ?_;refine wJK hF [4,9] (fun x18=>[(83,.v (.bool x18))]) (fun x18 hF=>?_) fun _ hj16 hF=>?_
  ·refine wI hF (fun h23 hF=>?_) fun h23 hF=>?_
   ·exact wl hΦ hF
   cases hΦ _ (zaa hF)
   iterate 2 refine wW ?_
   try simp[go_sem,g]
  refine wZ [k0 0,k0 1,k0 2,k2 3 10,k3 4,k0 5,k0 6,k0 7,k1 8 3,k2 9 3,k0 10,k2 11 10,k3 12,k0 13,k0 14] follows ?_;refine wH hF (fun h19 hF=>?_) fun h19 hF=>?_
  ·exact wV h19 (hj16 _) (zaa hF)
  try simp[go_sem,g,h19]
  refine wE hF zmz fun z20 hF=>?_
  try simp[go_sem,g,h19]
  refine wH hF (fun h21 hF=>?_) fun h21 hF=>?_
  ·exact wV h21 (hj16 _) (zaa hF)
  try simp[go_sem,g,h21]
  try intros
  refine wE hF zlN fun z22 hF=>?_
  exact wV h21 (hj16 _) (zaa hF)
 try simp[go_sem,g]
 try intros
 refine wG hF (fun h4 hF=>?_) fun h4 hF=>?_
 ·exact wV h4 (hj1 _) (zaa hF)
 obtain⟨x5,g,hF⟩:=Rxn g 0 hF;try simp[go_sem,g,h4]
 refine wG hF (fun h6 hF=>?_) fun h6 hF=>?_
 ·exact wV h6 (hj1 _) (zaa hF)
 try simp[go_sem,g,h6]
 refine wG hF (fun h7 hF=>?_) fun h7 hF=>?_
 ·exact wV h7 (hj1 _) (zaa hF)
 try simp[go_sem,g,h7]
 try intros
 exact wT (hj1 _) (zaa hF)
def zcB(a0:Group)(a1:Board):Option (Opening×Bool):=
 (zev a0 a1).bind fun z1=>
 if(!z1)=true then(
 some ((Opening.mk (Contest.mk 0 0 0 0 0) 0 0 0 0),false))else(
 (zbK a0 a1).bind fun z3=>
 some (z3.1,z3.2))
theorem zn0{a0 a1 r}(hr:zcB a0 a1=some r):PCalls Tryz.prog 55 [(.sh,vF a0),(.sh,vE a1)] (Eo (.tup [vAD r.1,.bool r.2]) zak):=by
 apply pF 16 [] [] [] [.cell 4 69,.tmp 5] hr zJ2 Tryz.func55;intro Φ hΦ hF g;unfold zcB at hF;refine wW ?_;refine wE hF zov fun z1 hF=>?_
 refine wW ?_;refine wI hF (fun h2 hF=>?_) fun h2 hF=>?_
 ·refine wK [4,5] ?_;exact wm hΦ hF
 refine wW ?_;refine wE hF zh4 fun z3 hF=>?_
 refine wK [4,5] ?_;exact wm hΦ hF
def zxF:FV→Bool
 | .v _=>true
 |_=>false
theorem zv3{P:Program}{nt:Nat}{d q:Tmp}{ty:TypeId}{s:String}{af:Array Edge}{gu:Option (Nat×Bool)}{K:FR→AH→Prop}{fr:FR}{H:AH}(h:zxF (fr q)=true):ahp P nt ⟨some d,.move (.tmp q),ty,s,af,gu⟩ K fr H=False:=by
 refine eq_false fun⟨a,b,h1,_⟩=>?_
 rw[h1.2.2.1]at h;cases h
set_option maxHeartbeats 2000000 in
theorem zCe(n:Nat)(hn:n≤1000000)(H:AH):ACalls Tryz.prog 127 [.int .u64 1,.int .u64 n] H (fun v H'=>v=.tuple #[.int .u64 0,.int .u64 n]∧H'=H):=by
 refine zgB zEB Tryz.func127 rfl rfl (by simp[Tryz.f127]) fun hw=>?_
 simp[↓zv3,zxF,Tryz.f127,awp,zeh,aop,ahp,zaB,zaJ,zaG,mat,zaP,zar,zh1,FR.put,FR.init,rdv,rda,za1,zbJ,zai];simp[zmc,zhv,ziA,zke,FR.put]
 have w:∀m:Int,0≤m→m≤1000000→u64.wrap m=m:=fun m h1 h2=>by
  have:u64.wrap m=m%18446744073709551616:=by simp[wrap,signed];rfl
  rw[this];omega
 have a1:n%2^u64.bits&&&4294967295%2^u64.bits=n:=by
  show n%18446744073709551616&&&(2^32-1)=n;rw[Nat.and_two_pow_sub_one_eq_mod];omega
 have a2:1%2^u64.bits&&&4294967295%2^u64.bits=1:=by decide
 have f1:Int.fdiv 1 (2^min 32 u64.bits)=0:=by decide
 have f2:(n:Int).fdiv (2^min 32 u64.bits)=0:=by
  show(n:Int).fdiv 4294967296=0;rw[Int.fdiv_eq_ediv_of_nonneg _ (by omega)];omega
 have f3:Int.fdiv 0 (2^min 32 u64.bits)=0:=by decide
 have w1:=w n (by omega) (by omega);have w2:=w 1 (by omega) (by omega);have w3:=w 0 (by omega) (by omega);have a3:((0:Int)%2^u64.bits).toNat&&&4294967295%2^u64.bits=0:=by decide
 simp[a1,a2,f1,f2,f3,w1,w2,w3,a3]
theorem zHy(n:Nat)(hn:n≤1000000)(H:AH):ACalls Tryz.prog 82 [.int .u64 1,.int .u64 n] H (fun v H'=>v=.tuple #[.int .u64 0,.int .u64 n]∧H'=H):=by
 refine zgB zIA Tryz.func82 rfl rfl (by simp[Tryz.f82]) fun hw=>?_
 simp[↓zv3,zxF,Tryz.f82,awp,zeh,aop,ahp,zaB,zaJ,zaG,mat,zaP,zar,zh1,FR.put,FR.init,rdv,rda,za1,zbJ,zai];refine(zCe n hn H).mono fun v H' hv=>?_
 obtain⟨rfl,rfl⟩:=hv;simp[zmc,zhv,ziA,zke,FR.put]
def zyQ:List DE:=[d0 0 [8],d0 1 [7],d0 2 [8],d0 3 [39,40],d0 4 [7],d0 5 [8],d0 6 [42,43],d3 7 [41,44],d0 8 [38,45],d0 9 [46]]
theorem zCf:zBm Tryz.prog 45:=by
 intro id off c n k a H hk ha hid hc h1 hn;have e1:zaw Tryz.prog 28=some 3:=by kernel_rfl
 have e2:tsz Tryz.prog 3=some (false,1,8,[.int .i64 0]):=by kernel_rfl
 refine zgB zAE Tryz.func45 rfl rfl (by simp[Tryz.f45]) fun hw=>?_
 have a1:(0:Int)≤(n:Int):=by omega
 have a2:¬(n:Int)<0:=by omega
 have a6:decide (9223372036854775807<(n:Int))=false:=by simp;omega
 have a3:i64.wrap ((n:Nat):Int)=(n:Int):=by rw[wrap_i64];omega
 have a4:u64.wrap ((n:Nat):Int)=(n:Int):=by
  have:∀m:Int,u64.wrap m=m%18446744073709551616:=fun m=>by simp[wrap,signed];rfl
  rw[this];omega
 have a5:u64.wrap 1=1:=by decide
 have i1:zde Tryz.prog 130=some .u64:=by kernel_rfl
 have i2:zde Tryz.prog 3=some .i64:=by kernel_rfl
 have i3:zg1 Tryz.prog 3=false:=by kernel_rfl
 have i4:zg1 Tryz.prog 130=false:=by kernel_rfl
 have k1:∀m:Int,ziL Tryz.prog 3 130 (.int .i64 m)=some (.int .u64 (u64.wrap m)):=fun m=>by simp[ziL,i1,i2]
 have k2:∀m:Int,ziL Tryz.prog 130 3 (.int .u64 m)=some (.int .i64 (i64.wrap m)):=fun m=>by simp[ziL,i1,i2]
 generalize hQ:zmc _ _ _=Q
 repeat refine zgz ?_
 refine zfx (by simp[awp,zeh,aop,ahp,zaB,zaJ,zaG,mat,zaP,zar,FR.init,zai];first|exact⟨rfl,rfl⟩|exact⟨rfl,rfl,rfl⟩) ?_
 repeat refine zgz ?_
 refine zfx (by simp[awp,zeh,aop,ahp,zaB,zaJ,zaG,mat,zaP,zar,FR.put,FR.init,rdv,rda,za1,zbJ,zai,a2];first|exact⟨rfl,rfl⟩|exact⟨rfl,rfl,rfl⟩) ?_
 repeat refine zgz ?_
 refine zfx (by simp[awp,FR.put,rdv,zai,a2,a6];first|exact⟨rfl,rfl⟩|exact⟨rfl,rfl,rfl⟩) ?_
 repeat refine zgz ?_
 refine zfx (by
  simp[awp,zeh,aop,ahp,zaB,zaJ,zaG,mat,zaP,zar,FR.put,FR.init,rdv,rda,za1,zbJ,zai,a2,a3,a4,a5,Am.lenV,e1,k1,i3];refine(zHy n hn H).mono fun v H' hv=>?_
  obtain⟨rfl,rfl⟩:=hv
  first|exact⟨rfl,rfl⟩|exact⟨rfl,rfl,rfl⟩) ?_
 repeat refine zgz ?_
 refine zfx (by simp[awp,zeh,aop,ahp,zaB,zaJ,zaG,mat,zaP,zar,FR.put,FR.init,rdv,rda,za1,zbJ,zai,zeD,a2,a3,a4,a5,a6];first|exact⟨rfl,rfl⟩|exact⟨rfl,rfl,rfl⟩) ?_
 repeat refine zgz ?_
 refine zfx (by simp[awp,FR.put,rdv,zai,a2,a6];first|exact⟨rfl,rfl⟩|exact⟨rfl,rfl,rfl⟩) ?_
 repeat refine zgz ?_
 have b1:8*(n:Int)≤140737488355328:=by omega
 have b2:(n:Int)≤4611686018427387904:=by omega
 have b3:(8*(n:Int)≤140737488355328∧(n:Int)≤4611686018427387904):=⟨b1,b2⟩
 have hz:(List.replicate n [Value.int i64 0]).flatten=List.replicate n (.int .i64 0):=by simp
 refine zfx (H':=H.push ⟨true,List.replicate n (.int .i64 0)⟩) (by
  simp[awp,zeh,aop,ahp,zaB,zaJ,zaG,mat,zaP,zar,FR.put,FR.init,rdv,rda,za1,zbJ,zai,a1,a2,a3,a4,a5,e1,e2,k2,i4,b1,b2,hz]
  exact rfl) ?_
 let B:Nat→Blk:=fun m=>⟨true,List.replicate m (.int .i64 a)++List.replicate (n-m) (.int .i64 0)⟩
 have hps:∀x y,(H.push x).set H.n (some y)=H.push y:=fun x y=>by
  simp only[AH.push,AH.set,AH.mk.injEq,true_and];funext i;split<;>rfl
 have hid':id≠H.n:=by omega
 have hl1:∀x,(H.push x).load id off=some (k.cells.drop off):=fun x=>by simp[AH.push,AH.load,hid',hk]
 have hd:k.cells.drop off=.int .i64 a::k.cells.drop (off+1):=by
  obtain⟨h,e⟩:=List.getElem?_eq_some_iff.1 ha;rw[List.drop_eq_getElem_cons h,e]
 have hb1:∀x,(H.push x).b H.n=some x:=fun x=>by simp[AH.push]
 have hp1:zbQ (List.replicate n (.int .i64 0)) 0 [.int .i64 a]=some (B 1).cells:=by
  obtain⟨m,rfl⟩:∃m,n=m+1:=⟨n-1,by omega⟩
  simp[List.replicate_succ,zbQ,B]
 have h1n:¬n=0:=by omega
 have hmin:min 1 n=1:=by omega
 repeat refine zgz ?_
 refine zfx (H':=H.push (B 1)) (by
  simp[awp,zeh,aop,ahp,zaB,zaJ,zaG,mat,zaP,zar,FR.put,FR.init,rdv,rda,za1,zbJ,zai,zdS,zg3,zeb,e1,e2,hl1,hd,hb1,hmin,h1n,h1,hp1]
  exact⟨rfl,hps _ _⟩) ?_
 repeat refine zgz ?_
 refine zxp (I:=fun f g=>f 7=.v (.slice (some ⟨H.n,0,some 1⟩) n n)∧g=H.push (B n)) ?_ ?_
 ·show awp Tryz.prog _ (.loop _) (ziV 0 _) _ _;refine zBD (n:=n) (fun m f g=>1≤m∧f 7=.v (.slice (some ⟨H.n,0,some 1⟩) n n)∧f 8=.v (.int .i64 (m:Int))∧g=H.push (B m)) ?_ h1 ⟨Nat.le_refl _,by simp[FR.put],by simp[FR.put],rfl⟩;rintro m f g hm ⟨m1,h7,h8,rfl⟩;refine⟨(FR.put (fun _=>jv) 7 (.v (.slice (some ⟨H.n,0,some 1⟩) n n))).put 8 (.v (.int .i64 (m:Int))),fun t=>?_,?_⟩
  ·by_cases t8:t=8
   ·subst t8;simp[FR.put,h8]
   by_cases t7:t=7
   ·subst t7;simp[FR.put,h7]
   right;simp[FR.put,t7,t8]
  repeat refine zgz ?_
  refine zfx (H':=H.push (B m)) (by
   simp[awp,zeh,aop,ahp,zaB,zaJ,zaG,mat,zaP,zar,FR.put,FR.init,rdv,rda,za1,zbJ,zai,e1,e2,Am.lenV]
   exact rfl) ?_
  repeat refine zgz ?_
  by_cases hmn:m<n
  ·have hmn':decide ((m:Int)<(n:Int))=true:=by simpa using hmn
   refine zfx (H':=H.push (B m)) (by
    simp[awp,FR.put,rdv,hmn]
    exact rfl) ?_
   show awp Tryz.prog _ (.region 9 _ true) (ziV 1 _) _ _;simp only[awp,if_true];refine⟨follows,0,zyQ,by kernel_rfl,?_⟩;have f1:(0:Int)≤(m:Int):=by omega
   have f3:¬(n-m=0):=by omega
   have f4:¬(m=0):=by omega
   have hld:(H.push (B m)).load H.n 0=some (B m).cells:=by simp[AH.load,hb1]
   have hT:zg3 m (B m).cells=some (List.replicate m (.int .i64 a)):=by
    rw[zhu (by simp[B])];simp[B]
   simp[zyQ,d0,d3,dops,dop,gop,zlp,zdH,okL,okS,okR,DE.ex,awp,zh1,zeh,aop,ahp,zaB,zaJ,zaG,mat,zaP,zar,FR.put,rdv,rda,za1,zbJ,zai,e1,e2,Am.lenV,ze6,zcW,bnd,zmB,zdS,f1,f3,f4,hm,hld,hT,hb1,zeb];obtain⟨q,hq⟩:∃q,q=min m (n-m):=⟨_,rfl⟩
   rw[←hq];have q0:0<q:=by omega
   have q1:m+q≤n:=by omega
   have hw1:i64.wrap ((m:Int)+(q:Int))=((m+q:Nat):Int):=by rw[wrap_i64];omega
   have hput:zbQ (B m).cells m (List.replicate q (.int .i64 a))=some (B (m+q)).cells:=by
    have hne:List.replicate q (Value.int .i64 a)≠[]:=by
     intro e0;have:=congrArg List.length e0;simp at this;omega
    obtain⟨r,hr⟩:=zhC (cs:=(B m).cells) (n:=m) hne (by simp[B];omega);rw[hr];rcases zgO hr with⟨h,_⟩|⟨_,rfl⟩
    ·exact absurd h hne
    ·congr 1;simp only[B,List.length_replicate];rw[List.take_append_of_le_length (by simp),List.take_of_length_le (by simp),List.drop_append,List.drop_of_length_le (by simp),List.nil_append,List.length_replicate,List.drop_replicate,List.replicate_append_replicate];congr 2;omega
   refine⟨⟨rfl,q0⟩,?_⟩;rw[hput,hw1];refine⟨m+q,by omega,q1,by omega,by simp[FR.put],by simp[FR.put],?_⟩;rw[show(⟨true,(B (m+q)).cells⟩:Blk)=B (m+q)from rfl];exact hps _ _
  have e:m=n:=by omega
  subst e;refine zx9 ?_;simp[awp,FR.put,rdv,ziV]
 rintro f g ⟨h7,rfl⟩;subst hQ;have hB:B n=⟨true,List.replicate n (.int .i64 a)⟩:=by simp[B]
 simp[awp,zeh,aop,ahp,zaB,zaJ,zaG,mat,zaP,zar,zh1,FR.put,rdv,rda,zai,h7,zmc,zhv,ziA,zke,Tryz.f45,hB]
def zbl(a0:List Int)(a1:Int):Option (List Int):=
 gd (a0.length=1∧1≤a1∧a1≤1000000)<|
 some (List.replicate a1.toNat (a0.headD 0))
theorem zg6{a0:List Int}{a1:Int}{r:List Int}(hr:zbl a0 a1=some r):PCalls Tryz.prog 45 [(.sh,.sl false 1 (a0.map zaf)),(.sh,.int .i64 a1)] (Eo (.sl true 1 (r.map zaf)) [.junk,.junk]):=by
 have hF:Rn _ (fun x=>x=r):=⟨r,hr,rfl⟩
 unfold zbl at hF;obtain⟨⟨g0,g1,g2⟩,hF⟩:=zfp hF;have h1:=zaa hF;subst h1;obtain⟨n,rfl⟩:=Int.eq_ofNat_of_zero_le (by omega:0≤a1);obtain⟨x,rfl⟩:=List.length_eq_one_iff.1 g0;rw[show(List.replicate (n:Int).toNat ([x].headD 0)).map zaf=List.replicate n [.int .i64 x]from by rw[List.map_replicate];rfl];exact zww (md:=.sh) zCf zAE (fun E x v h=>⟨none,h⟩) (by omega) (by omega)
def zcp(a0:List Int)(a1:Int):Option Int:=
 ((zau (σ:=Unit) (fun i5 s4=>
 (ix a0 i5).bind fun x11=>
 if(a1==x11)=true then(
 some (.out (.inr i5)))else(
 some (.go ()))) (fun s4=>.inl ()) (a0.length) 0 ():Option (Unit ⊕ Int)).bind (Sum.elim (fun x3=>
 some (-1)) some))
theorem zki{a0 a1 r}(hr:zcp a0 a1=some r):PCalls Tryz.prog 95 [(.sh,vA a0),(.sh,.int .i64 a1)] (Eo (.int .i64 r) zak):=by
 apply pF 19 [] [] [] [.tmp 4] hr zJq Tryz.func95;intro Φ hΦ hF g;unfold zcp at hF
 iterate 2 (try simp[go_sem,g];try intros;refine zap ?_)
 refine wS hF (fun x3=>[]) (fun x3 hF=>?_) fun _ hj1 hr2 hF=>?_
 ·exact wl hΦ hF
 refine wB ?_;obtain⟨b13,hb14,hψ8⟩:=hF;refine pRK hb14 [0,1,7] (fun i5 s4=>[(8,.v (.int .i64 i5))]) (fun s4 _ hN15=>?_) fun i5 s4 _ _ hi9 hi10 ho6 hg7 hF=>?_
 ·exact wn hN15 (hj1 _) hψ8
 refine wW ?_;refine wu hi9 hi10 ?_;refine wW ?_;refine wB ?_;obtain⟨x11,g,hF⟩:=Rx g hF;refine wW ?_;refine wK [0,1,5,7,8,16] ?_;refine wI hF (fun h12 hF=>?_) fun h12 hF=>?_
 ·cases ho6 _ (zaa hF);cases hΦ _ (hr2 _ hψ8);refine wW ?_;try simp[go_sem,g]
 refine wW ?_;exact wi hi9 hi10 (hg7 _) (zaa hF)
def zbS(a0:List Int)(a1:Int):Option Bool:=
 (zcp a0 a1).bind fun z1=>
 some (decide (0≤z1))
theorem zje{a0 a1 r}(hr:zbS a0 a1=some r):PCalls Tryz.prog 57 [(.sh,vA a0),(.sh,.int .i64 a1)] (Eo (.bool r) zak):=by
 apply pF 9 [] [] [] [.tmp 4] hr zIR Tryz.func57;intro Φ hΦ hF g;unfold zbS at hF;refine wW ?_;refine wE hF zki fun z1 hF=>?_
 exact wl hΦ hF
def zbX(a0:Group)(a1:Board):Option (List Int×Bool):=
 (zcB a0 a1).bind fun z1=>
 if(!z1.2)=true then(
 some ([],false))else(
 (zbl [1] z1.1.Threshold).bind fun z3=>
 ((zau (σ:=(List Int)×List Int) (fun i57 s56=>
 (((ix a1.Entries i57).bind fun x66=>
 ((if(x66.Kind !=2)=true then(
 some true)else(
 (zav x66.Author 1 z1.1.Trustees).bind fun z71=>
 some (!z71)):Option Bool).bind fun x69=>
 if x69=true then(
 some (.inl (s56.1,s56.2)))else(
 (((zbS s56.2 x66.Author).bind fun z76=>
 if z76=true then(
 some true)else(
 if((x66.Data.length:Int) !=z1.1.Threshold)=true then(
 some true)else(
 (zbt a0 x66.Data).bind fun z79=>
 some (!z79))):Option Bool).bind fun x75=>
 if x75=true then(
 some (.inr (.out (.inr ([],false)))))else(
 gd ((s56.2.length+1)*8≤140737488355328∧s56.2.length+1≤4611686018427387904)<|
 zau (σ:=(List Int)) (fun i92 s91=>
 (ix x66.Data i92).bind fun x98=>
 (ix s91 i92).bind fun x99=>
 (zaZ a0 [x99,x98]).bind fun z100=>
 some (.go (s91.set i92.toNat z100))) (fun s91=>.inl (s91,s56.2++[x66.Author])) (x66.Data.length) 0 s56.1)))):Option ((List Int×List Int) ⊕ (Stp (List Int×List Int) ((List Int×List Int) ⊕ (List Int×Bool))))).bind (Sum.elim (fun x65=>
 some (.go (x65.1,x65.2))) some))) (fun s56=>.inl (s56.1,s56.2)) (a1.Entries.length) 0 (z3,[]):Option ((List Int×List Int) ⊕ (List Int×Bool))).bind (Sum.elim (fun x6=>
 if((x6.2.length:Int) !=z1.1.Trustees)=true then(
 some ([],false))else(
 some (x6.1,true))) some)))
set_option maxHeartbeats 1000000 in
theorem zlP{a0 a1 r}(hr:zbX a0 a1=some r):PCalls Tryz.prog 32 [(.sh,vF a0),(.sh,vE a1)] (Eo (.tup [vG r.1,.bool r.2]) zak):=by
 apply pF 96 [] [] [] [.tmp 4,.tmp 5] hr zII Tryz.func32;intro Φ hΦ hF g;unfold zbX at hF;refine wW ?_;refine wE hF zn0 fun z1 hF=>?_
 refine wK [2,3,6,7] ?_;refine wW ?_;refine wI hF (fun h2 hF=>?_) fun h2 hF=>?_
 ·exact wl hΦ hF
 refine wW ?_;refine wE hF zg6 fun z3 hF=>?_
 try simp[go_sem,g]
 try intros
 refine zap ?_;try simp[go_sem,g]
 try intros
 refine wK [2,6,8,9,28,29,30] ?_;refine wS hF (fun x6=>[(6,.bl [.int .i64 z1.1.Ct.Kind,.int .i64 z1.1.Ct.Options,.int .i64 z1.1.Ct.Least,.int .i64 z1.1.Ct.Most,.int .i64 z1.1.Ct.Points,.int .i64 z1.1.Threshold,.int .i64 z1.1.Trustees,.int .i64 z1.1.Mixers,.int .i64 z1.1.Voters]),(8,.v (vG x6.1)),(9,.v (vG x6.2))]) (fun x6 hF=>?_) fun _ hj4 hr5 hF=>?_
 ·try simp[go_sem,g]
  try intros
  refine zap ?_;refine wI hF (fun h109 hF=>?_) fun h109 hF=>?_
  ·exact wl hΦ hF
  cases hΦ _ (zaa hF)
  iterate 2 refine wW ?_
  try simp[go_sem,g]
 refine wB ?_;obtain⟨b105,hb106,hψ60⟩:=hF;refine pRK hb106 [2,6,28,29] (fun i57 s56=>[(8,.v (vG s56.1)),(9,.v (vG s56.2)),(30,.v (.int .i64 i57))]) (fun s56 _ hN107=>?_) fun i57 s56 _ _ hi61 hi62 ho58 hg59 hF=>?_
 ·exact wn hN107 (hj4 _) hψ60
 refine wW ?_;refine wu hi61 hi62 ?_;refine wW ?_;refine wSK hF [2,6,28,29,30] (fun x65=>[(8,.v (vG x65.1)),(9,.v (vG x65.2))]) (fun x65 hF=>?_) fun _ hj63 hr64 hF=>?_
 ·exact wi hi61 hi62 (hg59 _) (zaa hF)
 refine wB ?_;obtain⟨x66,g,hF⟩:=Rx g hF;refine wW ?_;refine wJK hF [2,6,8,9,11,28,29,30] (fun x69=>[(44,.v (.bool x69))]) (fun x69 hF=>?_) fun _ hj67 hF=>?_
 ·refine wI hF (fun h72 hF=>?_) fun h72 hF=>?_
  ·exact wT (hj63 _) (zaa hF)
  refine wW ?_;refine wJK hF [2,6,8,9,11,28,29,30] (fun x75=>[(63,.v (.bool x75))]) (fun x75 hF=>?_) fun _ hj73 hF=>?_
  ·refine wI hF (fun h80 hF=>?_) fun h80 hF=>?_
   ·cases ho58 _ (hr64 _ (zaa hF));cases hΦ _ (hr5 _ hψ60);refine wW ?_;try simp[go_sem,g]
   obtain⟨g,hF⟩:=Rg g hF;refine wW ?_;refine wK [2,6,8,9,11,28,29,30] ?_;try simp[go_sem,g]
   try intros
   refine zap ?_;refine wB ?_;obtain⟨b101,hb102,hψ95⟩:=hF;refine pRK hb102 [2,6,9,28,29,30,70,71] (fun i92 s91=>[(8,.v (vG s91)),(72,.v (.int .i64 i92))]) (fun s91 _ hN103=>?_) fun i92 s91 _ _ hi96 hi97 ho93 hg94 hF=>?_
   ·exact wn hN103 (hj63 _) hψ95
   refine wW ?_;refine wu hi96 hi97 ?_;refine wW ?_;refine wB ?_;obtain⟨x98,g,hF⟩:=Rx g hF;refine wK [2,6,8,9,12,13,28,29,30,70,71,72] ?_;refine wZ [k0 0,k0 1,k2 2 2,k0 3,k0 4,k0 5,k0 6,k0 7,k0 8,fun _=>⟨9,[79,85],[],none,true,true,true⟩,k0 10,k0 11] follows ?_;obtain⟨x99,g,hF⟩:=Rx g hF;refine wE hF zcy fun z100 hF=>?_
   refine wK [2,6,8,9,28,29,30,70,71,72] ?_;exact wi hi96 hi97 (hg94 _) (zaa hF)
  refine wE hF zje fun z76 hF=>?_
  refine wG hF (fun h77 hF=>?_) fun h77 hF=>?_
  ·exact wV h77 (hj73 _) (zaa hF)
  try simp[go_sem,g,h77]
  try intros
  refine wG hF (fun h78 hF=>?_) fun h78 hF=>?_
  ·exact wV h78 (hj73 _) (zaa hF)
  try simp[go_sem,g,h78]
  refine wE hF zfa fun z79 hF=>?_
  exact wV h78 (hj73 _) (zaa hF)
 refine wG hF (fun h70 hF=>?_) fun h70 hF=>?_
 ·exact wV h70 (hj67 _) (zaa hF)
 try simp[go_sem,g,h70]
 refine wE hF zaM fun z71 hF=>?_
 exact wV h70 (hj67 _) (zaa hF)
def zcU(a0:List Int):Option Bool:=
 ((if decide ((a0.length:Int)≤400)=true then(
 (za0 a0).bind fun z5=>
 some z5)else(
 some false):Option Bool).bind fun x3=>
 some x3)
theorem zgl{a0 r}(hr:zcU a0=some r):PCalls Tryz.prog 169 [(.sh,vA a0)] (Eo (.bool r) [.junk]):=by
 apply pF 10 [] [] [] [.tmp 2] hr zDm Tryz.func169;intro Φ hΦ hF g;unfold zcU at hF;refine wW ?_;refine wJ hF (fun x3=>[(2,.v (.bool x3))]) (fun x3 hF=>?_) fun _ hj1 hF=>?_
 ·exact wm hΦ hF
 try simp[go_sem,g]
 try intros
 refine wG hF (fun h4 hF=>?_) fun h4 hF=>?_
 ·try simp[go_sem,g,h4]
  refine wE hF zd1 fun z5 hF=>?_
  exact wV h4 (hj1 _) (zaa hF)
 exact wV h4 (hj1 _) (zaa hF)
def zaN(a0c0:List Int)(a0c1:Bool):Option (Int×(List Int×Bool)):=
 if((a0c0.length:Int)==0)=true then(
 some (0,(a0c0,false)))else(
 (ix a0c0 0).bind fun x2=>
 gd (1≤a0c0.length∧a0c0.length≤a0c0.length)<|
 some (x2,((a0c0.take a0c0.length).drop 1,a0c1)))
theorem zca{a0c0 a0c1 r}(hr:zaN a0c0 a0c1=some r):PCalls Tryz.prog 170 [(.io,vAE a0c0 a0c1)] (Eo (.int .i64 r.1) [vAE r.2.1 r.2.2]):=by
 apply pF 28 [0] [] [] [.tmp 2] hr zDU Tryz.func170;intro Φ hΦ hF g;unfold zaN at hF
 iterate 2 (try simp[go_sem,g];try intros;refine zap ?_)
 refine wI hF (fun h1 hF=>?_) fun h1 hF=>?_
 ·refine wK [0] ?_;exact wl hΦ hF
 obtain⟨x2,g,hF⟩:=Rxn g 0 hF;refine wW ?_;refine wK [0,3] ?_;obtain⟨g,hF⟩:=Rg g hF;refine wW ?_;refine wK [0,2] ?_;exact wm hΦ hF
def zc5(a0:List Int):Option (List Int):=
 gd (a0.length*8≤140737488355328∧a0.length≤4611686018427387904)<|
 some a0
theorem zkm{a0:(List Int)}{r:(List Int)}(hr:zc5 a0=some r):PCalls Tryz.prog 197 [(.sh,.sl false 1 (a0.map zaf))] (Eo (.sl true 1 (r.map zaf)) [.junk]):=by
 apply zlS 8 [] [] [1000000] [.tmp 2] hr zDL Tryz.func197 rfl rfl rfl
 ·exact⟨by simp,rfl⟩
 intro Φ hΦ hF;unfold zc5 at hF;obtain⟨g,hF⟩:=zfp hF;have h1:=hΦ _ (zaa hF);subst h1;try simp[go_sem]
 refine zmD [(0,.v (.sl false 1 (a0.map zaf)))] (by simp[go_sem]) ?_;try simp[go_sem]
 refine zt2 rfl rfl (by simp[go_sem]) rfl (by rfl) fun b hb=>?_
 try simp[go_sem]
 refine zap ?_
 repeat rw[zre]
 cases b
 ·refine zmx (by simp[go_sem]) ?_;try simp[go_sem]
  refine zap ?_;try simp[go_sem,g]
  refine zap ?_;try simp[go_sem,g]
 have hb0:a0=[]:=by
  cases a0 with
  |nil=>rfl
  |cons x l=>exact absurd (hb (by simp)) (by simp)
 subst hb0;refine zjT (by simp[go_sem]) ?_;try simp[go_sem]
 refine zap ?_;try simp[go_sem]
def zaD(a0c0:List Int)(a0c1:Bool):Option (List Int×(List Int×Bool)):=
 (zaN a0c0 a0c1).bind fun z1=>
 (zav z1.1 0 (z1.2.1.length:Int)).bind fun z2=>
 if(!z2)=true then(
 some ([],(z1.2.1,false)))else(
 gd (0≤z1.1)<|
 gd (0≤z1.1.toNat∧z1.1.toNat≤z1.2.1.length)<|
 (zc5 ((z1.2.1.take z1.1.toNat).drop 0)).bind fun z4=>
 gd (0≤z1.1)<|
 gd (z1.1.toNat≤z1.2.1.length∧z1.2.1.length≤z1.2.1.length)<|
 some (z4,((z1.2.1.take z1.2.1.length).drop z1.1.toNat,z1.2.2)))
theorem zcR{a0c0 a0c1 r}(hr:zaD a0c0 a0c1=some r):PCalls Tryz.prog 171 [(.io,vAE a0c0 a0c1)] (Eo (vG r.1) [vAE r.2.1 r.2.2]):=by
 apply pF 35 [0] [] [] [.tmp 2] hr zCR Tryz.func171;intro Φ hΦ hF g;unfold zaD at hF;refine wW ?_;refine wC hF [.io] zca fun z1 hF=>?_
 try simp[go_sem,g]
 try intros
 refine zap ?_;try simp[go_sem,g]
 try intros
 refine wE hF zaM fun z2 hF=>?_
 refine wK [0,3,14] ?_;refine wI hF (fun h3 hF=>?_) fun h3 hF=>?_
 ·cases hΦ _ (zaa hF)
  iterate 2 refine wW ?_
  try simp[go_sem,g]
 obtain⟨g,hF⟩:=Rg g hF;obtain⟨g,hF⟩:=Rg g hF;refine wW ?_;refine wE hF zkm fun z4 hF=>?_
 iterate 2 obtain⟨g,hF⟩:=Rg g hF
 refine wW ?_;refine wK [0,4] ?_;exact wl hΦ hF
def zcF(a0:List Int):Option ((List Int)):=
 gd (([(a0.length:Int)].length+a0.length)*8≤140737488355328∧[(a0.length:Int)].length+a0.length≤4611686018427387904)<|
 some ([(a0.length:Int)]++a0)
theorem zgV{a0 r}(hr:zcF a0=some r):PCalls Tryz.prog 198 [(.sh,vA a0)] (Eo (vG r) [.junk]):=by
 apply pF 8 [] [] [] [.tmp 2] hr zD6 Tryz.func198;intro Φ hΦ hF g;unfold zcF at hF;obtain⟨g,hF⟩:=Rg g hF;cases hΦ _ (zaa hF)
 iterate 2 (try simp[go_sem,g];try intros;refine zap ?_)
 try simp[go_sem,g]
 try intros
 try simp[go_sem,g]
def zdO(a0:List Int):Option (List Int×Bool):=
 (zcU a0).bind fun z1=>
 if(!z1)=true then(
 some ([],false))else(
 some (a0,true))
theorem ziY{a0 r}(hr:zdO a0=some r):PCalls Tryz.prog 199 [(.sh,vA a0)] (Eo (.tup [vA r.1,.bool r.2]) [.junk]):=by
 apply pF 8 [] [2] [] [.tmp 2,.tmp 3] hr zDQ Tryz.func199;intro Φ hΦ hF g;unfold zdO at hF;refine wW ?_;refine wE hF zgl fun z1 hF=>?_
 refine wW ?_;refine wI hF (fun h2 hF=>?_) fun h2 hF=>?_
 ·exact wl hΦ hF
 cases hΦ _ (zaa hF)
 iterate 2 refine wW ?_
 try simp[go_sem,g]
def zb8(a0:(List (List Int))):Option (List Int×Bool):=
 ((zau (σ:=(List Int)) (fun i5 s4=>
 (ix a0 i5).bind fun x11=>
 (zcF x11).bind fun z12=>
 gd ((s4.length+z12.length)*8≤140737488355328∧s4.length+z12.length≤4611686018427387904)<|
 if decide (400<((s4++z12).length:Int))=true then(
 some (.out (.inr ([],false))))else(
 some (.go (s4++z12)))) (fun s4=>.inl s4) (a0.length) 0 [(a0.length:Int)]:Option ((List Int) ⊕ (List Int×Bool))).bind (Sum.elim (fun x3=>
 (zdO x3).bind fun z18=>
 some (z18.1,z18.2)) some))
theorem ziU{a0 r}(hr:zb8 a0=some r):PCalls Tryz.prog 172 [(.sh,vN a0)] (Eo (.tup [vA r.1,.bool r.2]) [.junk]):=by
 apply pF 28 [] [2,24] [] [.tmp 2,.tmp 3] hr zDO Tryz.func172;intro Φ hΦ hF g;unfold zb8 at hF
 iterate 3 (try simp[go_sem,g];try intros;refine zap ?_)
 refine wS hF (fun x3=>[(4,.v (vG x3))]) (fun x3 hF=>?_) fun _ hj1 hr2 hF=>?_
 ·refine wE hF ziY fun z18 hF=>?_
  refine wK [2,3] ?_;exact wm hΦ hF
 refine wB ?_;obtain⟨b14,hb15,hψ8⟩:=hF;refine pRK hb15 [10,11] (fun i5 s4=>[(4,.v (vG s4)),(12,.v (.int .i64 i5))]) (fun s4 _ hN16=>?_) fun i5 s4 _ _ hi9 hi10 ho6 hg7 hF=>?_
 ·exact wn hN16 (hj1 _) hψ8
 refine wK [4,10,11,12,13] ?_;refine wu hi9 hi10 ?_;refine wW ?_;refine wB ?_;obtain⟨x11,g,hF⟩:=Rx g hF;refine wW ?_;refine wE hF zgV fun z12 hF=>?_
 obtain⟨g,hF⟩:=Rg g hF;try simp[go_sem,g]
 try intros
 refine zap ?_;try simp[go_sem,g]
 try intros
 refine wK [4,10,11,12,22] ?_;refine wI hF (fun h13 hF=>?_) fun h13 hF=>?_
 ·cases ho6 _ (zaa hF);cases hΦ _ (hr2 _ hψ8);refine wW ?_;try simp[go_sem,g]
 refine wW ?_;exact wi hi9 hi10 (hg7 _) (zaa hF)
def zbk(a0c0:List Int)(a0c1:Bool):Option Bool:=
 ((if a0c1=true then(
 some ((a0c0.length:Int)==0))else(
 some false):Option Bool).bind fun x3=>
 some x3)
theorem zfc{a0c0 a0c1 r}(hr:zbk a0c0 a0c1=some r):PCalls Tryz.prog 173 [(.sh,.fp [vA a0c0,.bool a0c1])] (Eo (.bool r) [.junk]):=by
 apply pF 15 [] [] [] [.tmp 2] hr zDG Tryz.func173;intro Φ hΦ hF g;unfold zbk at hF;refine wW ?_;refine wJ hF (fun x3=>[(2,.v (.bool x3))]) (fun x3 hF=>?_) fun _ hj1 hF=>?_
 ·exact wm hΦ hF
 refine wG hF (fun h4 hF=>?_) fun h4 hF=>?_
 ·try simp[go_sem,g,h4]
  try intros
  exact wT (hj1 _) (zaa hF)
 exact wV h4 (hj1 _) (zaa hF)
def zbL(a0:List Int)(a1:List Int):Option Bool:=
 if((a0.length:Int) !=(a1.length:Int))=true then(
 some false)else(
 ((zau (σ:=Unit) (fun i6 s5=>
 (ix a0 i6).bind fun x12=>
 (ix a1 i6).bind fun x13=>
 if(x12 !=x13)=true then(
 some (.out (.inr false)))else(
 some (.go ()))) (fun s5=>.inl ()) (a0.length) 0 ():Option (Unit ⊕ Bool)).bind (Sum.elim (fun x4=>
 some true) some)))
theorem zfu{a0 a1 r}(hr:zbL a0 a1=some r):PCalls Tryz.prog 132 [(.sh,vA a0),(.sh,vA a1)] (Eo (.bool r) zak):=by
 apply pF 26 [] [] [] [.tmp 4] hr zDc Tryz.func132;intro Φ hΦ hF g;unfold zbL at hF
 iterate 2 (try simp[go_sem,g];try intros;refine zap ?_)
 refine wI hF (fun h1 hF=>?_) fun h1 hF=>?_
 ·exact wl hΦ hF
 iterate 2 (try simp[go_sem,g];try intros;refine zap ?_)
 refine wS hF (fun x4=>[]) (fun x4 hF=>?_) fun _ hj2 hr3 hF=>?_
 ·refine wK [4] ?_;exact wm hΦ hF
 refine wB ?_;obtain⟨b15,hb16,hψ9⟩:=hF;refine pRK hb16 [0,1,12] (fun i6 s5=>[(13,.v (.int .i64 i6))]) (fun s5 _ hN17=>?_) fun i6 s5 _ _ hi10 hi11 ho7 hg8 hF=>?_
 ·exact wn hN17 (hj2 _) hψ9
 refine wK [0,1,12,13,14] ?_;refine wu hi10 hi11 ?_;refine wW ?_;refine wB ?_;refine wW ?_;refine wZ [k0 0,k0 1,k0 2,k0 3,k0 4,k0 5,k0 6,k0 7,k0 8] follows ?_;obtain⟨x12,g,hF⟩:=Rx g hF;obtain⟨x13,g,hF⟩:=Rx g hF;refine wK [0,1,12,13,24] ?_;refine wI hF (fun h14 hF=>?_) fun h14 hF=>?_
 ·cases ho7 _ (zaa hF);cases hΦ _ (hr3 _ hψ9);refine wW ?_;try simp[go_sem,g]
 refine wW ?_;exact wi hi10 hi11 (hg8 _) (zaa hF)
def zbW(a0:List Int):Option ((List (List Int))×Bool):=
 (zcU a0).bind fun z1=>
 (zaN a0 z1).bind fun z2=>
 ((zax (σ:=(List Int×Bool)×(List (List Int))×Int) (fun s20=>
 if decide (s20.2.2<(if(a0.length:Int)<z2.1 then(a0.length:Int)else z2.1))=true then(
 (zaD s20.1.1 s20.1.2).bind fun z26=>
 gd ((s20.2.1.length+1)*24≤140737488355328∧s20.2.1.length+1≤4611686018427387904)<|
 some (.go ((z26.2.1,z26.2.2),s20.2.1++[z26.1],i64.wrap (s20.2.2+1))))else(
 some (.out ((s20.1.1,s20.1.2),s20.2.1)))) ((z2.2.1,z2.2.2),[],0):Option (((List Int×Bool)×(List (List Int))))).bind fun x5=>
 (zb8 x5.2).bind fun z29=>
 (((zbk x5.1.1 x5.1.2).bind fun z33=>
 if(!z33)=true then(
 some true)else(
 if(!z29.2)=true then(
 some true)else(
 (zbL z29.1 a0).bind fun z36=>
 some (!z36))):Option Bool).bind fun x32=>
 if x32=true then(
 some ([],false))else(
 some (x5.2,true))))
theorem zlG{a0 r}(hr:zbW a0=some r):PCalls Tryz.prog 128 [(.sh,vA a0)] (Eo (.tup [vN r.1,.bool r.2]) [.junk]):=by
 apply pF 46 [] [2,28] [12] [.tmp 2,.tmp 3] hr zDo Tryz.func128;intro Φ hΦ hF g;unfold zbW at hF;refine wW ?_;refine wE hF zgl fun z1 hF=>?_
 refine wK [0,4,5] ?_;refine wC hF [.io] zca fun z2 hF=>?_
 try simp[go_sem,g]
 try intros
 refine zap ?_;refine wJ hF (fun x5=>[(0,.v (vA a0)),(4,.v (vAE x5.1.1 x5.1.2)),(5,.v (vS x5.2))]) (fun x5 hF=>?_) fun _ hj3 hF=>?_
 ·refine wE hF ziU fun z29 hF=>?_
  refine wK [0,4,5,6,7] ?_;refine wJ hF (fun x32=>[(5,.v (vN x5.2)),(44,.v (.bool x32))]) (fun x32 hF=>?_) fun _ hj30 hF=>?_
  ·refine wI hF (fun h37 hF=>?_) fun h37 hF=>?_
   ·exact wl hΦ hF
   cases hΦ _ (zaa hF)
   iterate 2 refine wW ?_
   try simp[go_sem,g]
  refine wE hF zfc fun z33 hF=>?_
  refine wG hF (fun h34 hF=>?_) fun h34 hF=>?_
  ·exact wV h34 (hj30 _) (zaa hF)
  try simp[go_sem,g,h34]
  refine wG hF (fun h35 hF=>?_) fun h35 hF=>?_
  ·exact wV h35 (hj30 _) (zaa hF)
  try simp[go_sem,g,h35]
  refine wE hF zfu fun z36 hF=>?_
  exact wV h35 (hj30 _) (zaa hF)
 refine wB ?_;obtain⟨b27,hb28,hψ24⟩:=hF;refine pLK hb28 [0,18] (fun s20=>[(4,.v (vAE s20.1.1 s20.1.2)),(5,.v (vS s20.2.1)),(19,.v (.int .i64 s20.2.2))]) fun s20 _ _ ho22 hg23 hF=>?_
 refine wW ?_;refine wI hF (fun h25 hF=>?_) fun h25 hF=>?_
 ·refine wW ?_;refine wB ?_;refine wC hF [.io] zcR fun z26 hF=>?_
  obtain⟨g,hF⟩:=Rg g hF;refine wK [0,4,5,18,19] ?_;exact wT (hg23 _) (zaa hF)
 cases ho22 _ (zaa hF);exact wT (hj3 _) hψ24
def zcG(a0:List Cipher):Option (List Int×Bool):=
 ((zau (σ:=(List Int)) (fun i5 s4=>
 (ix a0 i5).bind fun x11=>
 gd ((s4.length+2)*8≤140737488355328∧s4.length+2≤4611686018427387904)<|
 some (.go (s4++[x11.A,x11.B]))) (fun s4=>s4) (a0.length) 0 [(a0.length:Int)]:Option ((List Int))).bind fun x3=>
 (zdO x3).bind fun z16=>
 some (z16.1,z16.2))
theorem zig{a0 r}(hr:zcG a0=some r):PCalls Tryz.prog 174 [(.sh,vW a0)] (Eo (.tup [vA r.1,.bool r.2]) [.junk]):=by
 apply pF 28 [] [24] [] [.tmp 2,.tmp 3] hr zCQ Tryz.func174;intro Φ hΦ hF g;unfold zcG at hF
 iterate 3 (try simp[go_sem,g];try intros;refine zap ?_)
 refine wJ hF (fun x3=>[(4,.v (vG x3))]) (fun x3 hF=>?_) fun _ hj1 hF=>?_
 ·refine wE hF ziY fun z16 hF=>?_
  refine wK [2,3] ?_;exact wm hΦ hF
 refine wB ?_;obtain⟨b12,hb13,hψ8⟩:=hF;refine pRK hb13 [10,11] (fun i5 s4=>[(4,.v (vG s4)),(12,.v (.int .i64 i5))]) (fun s4 _ hN14=>?_) fun i5 s4 _ _ hi9 hi10 ho6 hg7 hF=>?_
 ·exact wn hN14 (hj1 _) hψ8
 refine wK [4,10,11,12,13] ?_;refine wu hi9 hi10 ?_;refine wW ?_;refine wB ?_;obtain⟨x11,g,hF⟩:=Rx g hF;obtain⟨g,hF⟩:=Rg g hF;refine wW ?_;refine wK [4,10,11,12] ?_;exact wi hi9 hi10 (hg7 _) (zaa hF)
def zcg(a0:List Int):Option (List Cipher×Bool):=
 (zcU a0).bind fun z1=>
 (zaN a0 z1).bind fun z2=>
 ((zax (σ:=(List Int×Bool)×List Cipher×Int) (fun s14=>
 if decide (s14.2.2<(if(a0.length:Int)<z2.1 then(a0.length:Int)else z2.1))=true then(
 (zaN s14.1.1 s14.1.2).bind fun z20=>
 (zaN z20.2.1 z20.2.2).bind fun z21=>
 gd ((s14.2.1.length+1)*16≤140737488355328∧s14.2.1.length+1≤4611686018427387904)<|
 some (.go ((z21.2.1,z21.2.2),s14.2.1++[(Cipher.mk z20.1 z21.1)],i64.wrap (s14.2.2+1))))else(
 some (.out ((s14.1.1,s14.1.2),s14.2.1)))) ((z2.2.1,z2.2.2),[],0):Option (((List Int×Bool)×List Cipher))).bind fun x5=>
 (zcG x5.2).bind fun z24=>
 (((zbk x5.1.1 x5.1.2).bind fun z28=>
 if(!z28)=true then(
 some true)else(
 if(!z24.2)=true then(
 some true)else(
 (zbL z24.1 a0).bind fun z31=>
 some (!z31))):Option Bool).bind fun x27=>
 if x27=true then(
 some ([],false))else(
 some (x5.2,true))))
theorem zlc{a0 r}(hr:zcg a0=some r):PCalls Tryz.prog 129 [(.sh,vA a0)] (Eo (.tup [vW r.1,.bool r.2]) [.junk]):=by
 apply pF 49 [] [2,31] [12] [.tmp 2,.tmp 3] hr zFd Tryz.func129;intro Φ hΦ hF g;unfold zcg at hF;refine wW ?_;refine wE hF zgl fun z1 hF=>?_
 refine wK [0,4,5] ?_;refine wC hF [.io] zca fun z2 hF=>?_
 try simp[go_sem,g]
 try intros
 refine zap ?_;refine wJ hF (fun x5=>[(0,.v (vA a0)),(4,.v (vAE x5.1.1 x5.1.2)),(5,.v (vT x5.2))]) (fun x5 hF=>?_) fun _ hj3 hF=>?_
 ·refine wE hF zig fun z24 hF=>?_
  refine wK [0,4,5,6,7] ?_;refine wJ hF (fun x27=>[(5,.v (vW x5.2)),(47,.v (.bool x27))]) (fun x27 hF=>?_) fun _ hj25 hF=>?_
  ·refine wI hF (fun h32 hF=>?_) fun h32 hF=>?_
   ·exact wl hΦ hF
   cases hΦ _ (zaa hF)
   iterate 2 refine wW ?_
   try simp[go_sem,g]
  refine wE hF zfc fun z28 hF=>?_
  refine wG hF (fun h29 hF=>?_) fun h29 hF=>?_
  ·exact wV h29 (hj25 _) (zaa hF)
  try simp[go_sem,g,h29]
  refine wG hF (fun h30 hF=>?_) fun h30 hF=>?_
  ·exact wV h30 (hj25 _) (zaa hF)
  try simp[go_sem,g,h30]
  refine wE hF zfu fun z31 hF=>?_
  exact wV h30 (hj25 _) (zaa hF)
 refine wB ?_;obtain⟨b22,hb23,hψ18⟩:=hF;refine pLK hb23 [0,18] (fun s14=>[(4,.v (vAE s14.1.1 s14.1.2)),(5,.v (vT s14.2.1)),(19,.v (.int .i64 s14.2.2))]) fun s14 _ _ ho16 hg17 hF=>?_
 refine wW ?_;refine wI hF (fun h19 hF=>?_) fun h19 hF=>?_
 ·refine wW ?_;refine wB ?_;refine wC hF [.io] zca fun z20 hF=>?_
  refine wC hF [.io] zca fun z21 hF=>?_
  obtain⟨g,hF⟩:=Rg g hF;refine wK [0,4,5,18,19] ?_;exact wT (hg17 _) (zaa hF)
 cases ho16 _ (zaa hF);exact wT (hj3 _) hψ18
def zcu(a0:List Int):Option (Proof×Bool):=
 (zcU a0).bind fun z1=>
 (zaD a0 z1).bind fun z2=>
 (zaD z2.2.1 z2.2.2).bind fun z3=>
 (zaD z3.2.1 z3.2.2).bind fun z4=>
 (zbk z4.2.1 z4.2.2).bind fun z5=>
 if(!z5)=true then(
 some ((Proof.mk [] [] []),false))else(
 some ((Proof.mk z2.1 z3.1 z4.1),true))
theorem zmF{a0 r}(hr:zcu a0=some r):PCalls Tryz.prog 130 [(.sh,vA a0)] (Eo (.tup [vH r.1,.bool r.2]) [.junk]):=by
 apply pF 23 [] [] [10] [.cell 2 82,.tmp 3] hr zDg Tryz.func130;intro Φ hΦ hF g;unfold zcu at hF;refine wW ?_;refine wE hF zgl fun z1 hF=>?_
 refine wW ?_;refine wC hF [.io] zcR fun z2 hF=>?_
 refine wC hF [.io] zcR fun z3 hF=>?_
 refine wC hF [.io] zcR fun z4 hF=>?_
 refine wK [2,4,5] ?_;refine wE hF zfc fun z5 hF=>?_
 refine wW ?_;refine wI hF (fun h6 hF=>?_) fun h6 hF=>?_
 ·exact wl hΦ hF
 cases hΦ _ (zaa hF)
 iterate 2 refine wW ?_
 try simp[go_sem,g]
def zeT(a0:Int):Option Bool:=
 (zav a0 0 999999).bind fun z1=>
 some z1
theorem zkv{a0 r}(hr:zeT a0=some r):PCalls Tryz.prog 134 [(.sh,.int .i64 a0)] (Eo (.bool r) [.junk]):=by
 apply pF 5 [] [] [] [.tmp 2] hr zDA Tryz.func134;intro Φ hΦ hF g;unfold zeT at hF;refine wW ?_;refine wE hF zaM fun z1 hF=>?_
 exact wl hΦ hF
def zbf(a0:List Proof):Option (List Proof):=
 gd (a0.length*72≤140737488355328∧a0.length≤4611686018427387904)<|
 some a0
theorem zgv{a0:(List Proof)}{r:(List Proof)}(hr:zbf a0=some r):PCalls Tryz.prog 175 [(.sh,.sl false 3 (a0.map za2))] (Eo (.sl true 3 (r.map za2)) [.junk]):=by
 apply zlS 8 [] [] [1000000] [.tmp 2] hr zCN Tryz.func175 rfl rfl rfl
 ·exact⟨by simp,rfl⟩
 intro Φ hΦ hF;unfold zbf at hF;obtain⟨g,hF⟩:=zfp hF;have h1:=hΦ _ (zaa hF);subst h1;try simp[go_sem]
 refine zmD [(0,.v (.sl false 3 (a0.map za2)))] (by simp[go_sem]) ?_;try simp[go_sem]
 refine zt2 rfl rfl (by simp[go_sem]) rfl (by rfl) fun b hb=>?_
 try simp[go_sem]
 refine zap ?_
 repeat rw[zre]
 cases b
 ·refine zmx (by simp[go_sem]) ?_;try simp[go_sem]
  refine zap ?_;try simp[go_sem,g]
  refine zap ?_;try simp[go_sem,g]
 have hb0:a0=[]:=by
  cases a0 with
  |nil=>rfl
  |cons x l=>exact absurd (hb (by simp)) (by simp)
 subst hb0;refine zjT (by simp[go_sem]) ?_;try simp[go_sem]
 refine zap ?_;try simp[go_sem]
def zeg(a0:Proof):Option (List Int×Bool):=
 (zcF a0.Commits).bind fun z1=>
 (zcF a0.Challenges).bind fun z2=>
 (zcF a0.Responses).bind fun z3=>
 (zbB [z1,z2,z3]).bind fun z4=>
 (zdO z4).bind fun z5=>
 some (z5.1,z5.2)
theorem zl6{a0 r}(hr:zeg a0=some r):PCalls Tryz.prog 176 [(.sh,vB a0)] (Eo (.tup [vA r.1,.bool r.2]) [.junk]):=by
 apply pF 18 [] [14] [] [.tmp 2,.tmp 3] hr zEa Tryz.func176;intro Φ hΦ hF g;unfold zeg at hF;refine wW ?_;refine wZ [k1 0 1,k2 1 1,k1 3 1,k2 4 1,k1 6 1,k2 7 1,k3 2,k3 5,k3 8,k0 9,fun _=>⟨10,[13],[],none,true,true,true⟩,k3 11,k0 12,k0 13,k0 14,k0 15] follows ?_;refine wE hF zgV fun z1 hF=>?_
 refine wE hF zgV fun z2 hF=>?_
 refine wE hF zgV fun z3 hF=>?_
 refine wE hF zfe fun z4 hF=>?_
 refine wE hF ziY fun z5 hF=>?_
 refine wK [2,3] ?_;exact wm hΦ hF
def zcZ(a0:Sealed):Option (List Int×Bool):=
 (zcG a0.Ciphers).bind fun z1=>
 ((if(!z1.2)=true then(
 some true)else(
 (zeT a0.Voter).bind fun z6=>
 if(!z6)=true then(
 some true)else(
 some (decide (400<(a0.Proofs.length:Int))))):Option Bool).bind fun x4=>
 if x4=true then(
 some ([],false))else(
 (zbf a0.Proofs).bind fun z9=>
 gd ((z9.length+1)*72≤140737488355328∧z9.length+1≤4611686018427387904)<|
 ((zau (σ:=(List (List Int))) (fun i14 s13=>
 (ix (z9++[a0.Sum]) i14).bind fun x22=>
 (zeg x22).bind fun z23=>
 if(!z23.2)=true then(
 some (.out (.inr ([],false))))else(
 gd ((s13.length+1)*24≤140737488355328∧s13.length+1≤4611686018427387904)<|
 some (.go (s13++[z23.1])))) (fun s13=>.inl s13) ((z9++[a0.Sum]).length) 0 [[a0.Voter],z1.1]:Option ((List (List Int)) ⊕ (List Int×Bool))).bind (Sum.elim (fun x12=>
 (zb8 x12).bind fun z29=>
 some (z29.1,z29.2)) some))))
theorem zlH{a0 r}(hr:zcZ a0=some r):PCalls Tryz.prog 131 [(.sh,vAB a0)] (Eo (.tup [vA r.1,.bool r.2]) [.junk]):=by
 apply pF 64 [] [2,60,227] [] [.tmp 2,.tmp 3] hr zD4 Tryz.func131;intro Φ hΦ hF g;unfold zcZ at hF;refine wW ?_;refine wE hF zig fun z1 hF=>?_
 refine wK [1,4,5] ?_;refine wJK hF [1,4] (fun x4=>[(30,.v (.bool x4))]) (fun x4 hF=>?_) fun _ hj2 hF=>?_
 ·refine wI hF (fun h8 hF=>?_) fun h8 hF=>?_
  ·exact wl hΦ hF
  iterate 2 refine wW ?_
  refine wZ [k1 0 1,k2 1 1,k1 3 1,k2 4 1,k0 5,k0 8,k3 2,fun _=>⟨6,[38,41],[],none,true,false,false⟩,k0 7] follows ?_;refine wE hF zgv fun z9 hF=>?_
  obtain⟨g,hF⟩:=Rg g hF;try simp[go_sem,g]
  try intros
  refine wK [6,42,43,44] ?_;refine wS hF (fun x12=>[(6,.v (vAG x12))]) (fun x12 hF=>?_) fun _ hj10 hr11 hF=>?_
  ·refine wE hF ziU fun z29 hF=>?_
   exact wl hΦ hF
  refine wB ?_;obtain⟨b25,hb26,hψ17⟩:=hF;refine pR hb26 (fun i14 s13=>[(6,.v (vAG s13)),(42,.v (vAF (z9++[a0.Sum]))),(43,.v (.int .i64 ((z9++[a0.Sum]).length:Int))),(44,.v (.int .i64 i14))]) (fun s13 _ hN27=>?_) fun i14 s13 _ _ hi18 hi19 ho15 hg16 hF=>?_
  ·exact wn hN27 (hj10 _) hψ17
  generalize e20:(z9++[a0.Sum])=zq21 at*;have e20l:zq21.length≤zcx:=by rw[←e20];simp;omega
  refine wW ?_;refine wu hi18 hi19 ?_;refine wW ?_;refine wB ?_;obtain⟨x22,g,hF⟩:=Rx g hF;refine wW ?_;refine wE hF zl6 fun z23 hF=>?_
  refine wK [6,9,10,42,43,44] ?_;refine wW ?_;refine wI hF (fun h24 hF=>?_) fun h24 hF=>?_
  ·cases ho15 _ (zaa hF);cases hΦ _ (hr11 _ hψ17);refine wW ?_;try simp[go_sem,g]
  obtain⟨g,hF⟩:=Rg g hF
  iterate 2 refine wW ?_
  exact wi hi18 hi19 (hg16 _) (zaa hF)
 refine wG hF (fun h5 hF=>?_) fun h5 hF=>?_
 ·exact wV h5 (hj2 _) (zaa hF)
 try simp[go_sem,g,h5]
 refine wE hF zkv fun z6 hF=>?_
 try simp[go_sem,g,h5]
 refine wG hF (fun h7 hF=>?_) fun h7 hF=>?_
 ·exact wV h7 (hj2 _) (zaa hF)
 try simp[go_sem,g,h7]
 try intros
 exact wT (hj2 _) (zaa hF)
def zbx(a0:List Int):Option (Sealed×Bool):=
 (zbW a0).bind fun z1=>
 ((if(!z1.2)=true then(
 some true)else(
 if decide ((z1.1.length:Int)<3)=true then(
 some true)else(
 (ix z1.1 0).bind fun x7=>
 some ((x7.length:Int) !=1))):Option Bool).bind fun x4=>
 if x4=true then(
 some ((Sealed.mk 0 [] [] (Proof.mk [] [] [])),false))else(
 (ix z1.1 1).bind fun x9=>
 (zcg x9).bind fun z10=>
 (ix z1.1 0).bind fun x11=>
 (ix x11 0).bind fun x12=>
 gd (2≤z1.1.length∧z1.1.length≤z1.1.length)<|
 ((zau (σ:=Bool×Int×List Cipher×List Proof×List Int×List Int×List Int) (fun i31 s30=>
 (ix ((z1.1.take z1.1.length).drop 2) i31).bind fun x38=>
 (zcu x38).bind fun z39=>
 ((if s30.1=true then(
 some z39.2)else(
 some false):Option Bool).bind fun x42=>
 gd ((s30.2.2.2.1.length+1)*72≤140737488355328∧s30.2.2.2.1.length+1≤4611686018427387904)<|
 some (.go (x42,s30.2.1,s30.2.2.1,s30.2.2.2.1++[z39.1],s30.2.2.2.2.1,s30.2.2.2.2.2.1,s30.2.2.2.2.2.2)))) (fun s30=>(s30.1,s30.2.1,s30.2.2.1,s30.2.2.2.1,s30.2.2.2.2.1,s30.2.2.2.2.2.1,s30.2.2.2.2.2.2)) (((z1.1.take z1.1.length).drop 2).length) 0 (z10.2,x12,z10.1,[],[],[],[]):Option ((Bool×Int×List Cipher×List Proof×List Int×List Int×List Int))).bind fun x15=>
 (ix x15.2.2.2.1 (i64.wrap ((x15.2.2.2.1.length:Int)-1))).bind fun x48=>
 gd (0≤(i64.wrap ((x15.2.2.2.1.length:Int)-1)))<|
 gd (0≤(i64.wrap ((x15.2.2.2.1.length:Int)-1)).toNat∧(i64.wrap ((x15.2.2.2.1.length:Int)-1)).toNat≤x15.2.2.2.1.length)<|
 (zcZ (Sealed.mk x15.2.1 x15.2.2.1 (x15.2.2.2.1.take ((i64.wrap ((x15.2.2.2.1.length:Int)-1)).toNat)) x48)).bind fun z49=>
 ((if(!x15.1)=true then(
 some true)else(
 if(!z49.2)=true then(
 some true)else(
 (zbL z49.1 a0).bind fun z55=>
 some (!z55))):Option Bool).bind fun x52=>
 if x52=true then(
 some ((Sealed.mk 0 [] [] (Proof.mk [] [] [])),false))else(
 some ((Sealed.mk x15.2.1 x15.2.2.1 (x15.2.2.2.1.take ((i64.wrap ((x15.2.2.2.1.length:Int)-1)).toNat)) x48),true))))))
theorem zkr{a0 r}(hr:zbx a0=some r):PCalls Tryz.prog 83 [(.sh,vA a0)] (Eo (.tup [vAB r.1,.bool r.2]) [.junk]):=by
 apply pFz 106 [] [67,88,718] [] [.cell 2 88,.tmp 3] hr zJP Tryz.func83;intro Φ hΦ hF g;unfold zbx at hF;refine wW ?_;refine wE hF zlG fun z1 hF=>?_
 refine wW ?_;refine wJK hF [0,2,4] (fun x4=>[(33,.v (.bool x4))]) (fun x4 hF=>?_) fun _ hj2 hF=>?_
 ·refine wI hF (fun h8 hF=>?_) fun h8 hF=>?_
  ·refine wK [2,3] ?_;exact wm hΦ hF
  obtain⟨x9,g,hF⟩:=Rxn g 1 hF;refine wW ?_;refine wE hF zlc fun z10 hF=>?_
  refine wK [0,2,4,5,6] ?_;obtain⟨x11,g,hF⟩:=Rxn g 0 hF;obtain⟨x12,g,hF⟩:=Rxn g 0 hF;obtain⟨g,hF⟩:=Rg g hF;try simp[go_sem,g]
  try intros
  refine zap ?_;try simp[go_sem,g]
  try intros
  refine wK [0,2,5,7,50,51,52] ?_;refine wJK hF [0,2] (fun x15=>[(5,.v (.bool x15.1)),(7,.bl [.int .i64 x15.2.1,vW x15.2.2.1,vAF x15.2.2.2.1,vG x15.2.2.2.2.1,vG x15.2.2.2.2.2.1,vG x15.2.2.2.2.2.2])]) (fun x15 hF=>?_) fun _ hj13 hF=>?_
  ·try simp[go_sem,g]
   try intros
   refine zap ?_;refine wZ [k1 0 7,k2 1 7,k0 2,k0 3,k0 4,k1 5 7,k2 6 7,k0 7,k0 8,k1 9 7,k2 10 7,k1 11 7,k2 12 7] follows ?_;obtain⟨x48,g,hF⟩:=Rx g hF
   iterate 2 obtain⟨g,hF⟩:=Rg g hF
   refine wK [0,2,5,7] ?_;refine wE hF zlH fun z49 hF=>?_
   refine wW ?_;refine wJK hF [2,7] (fun x52=>[(103,.v (.bool x52))]) (fun x52 hF=>?_) fun _ hj50 hF=>?_
   ·refine wI hF (fun h56 hF=>?_) fun h56 hF=>?_
    ·refine wK [2,3] ?_;exact wm hΦ hF
    refine wW ?_;refine wK [2,3] ?_;exact wm hΦ hF
   refine wG hF (fun h53 hF=>?_) fun h53 hF=>?_
   ·exact wV h53 (hj50 _) (zaa hF)
   try simp[go_sem,g,h53]
   refine wG hF (fun h54 hF=>?_) fun h54 hF=>?_
   ·exact wV h54 (hj50 _) (zaa hF)
   try simp[go_sem,g,h54]
   refine wE hF zfu fun z55 hF=>?_
   exact wV h54 (hj50 _) (zaa hF)
  refine wB ?_;obtain⟨b44,hb45,hψ34⟩:=hF;refine pRK hb45 [0,2,50,51] (fun i31 s30=>[(5,.v (.bool s30.1)),(7,.bl [.int .i64 s30.2.1,vW s30.2.2.1,vAF s30.2.2.2.1,vG s30.2.2.2.2.1,vG s30.2.2.2.2.2.1,vG s30.2.2.2.2.2.2]),(52,.v (.int .i64 i31))]) (fun s30 _ hN46=>?_) fun i31 s30 _ _ hi35 hi36 ho32 hg33 hF=>?_
  ·exact wn hN46 (hj13 _) hψ34
  have hi37:=hi36;try simp at hi37
  refine wW ?_;refine wt ?_ (hb:=by simp[go_sem,g,hi35,hi36,hi37]<;>omega);refine wW ?_;refine wB ?_;obtain⟨x38,g,hF⟩:=Rxq g hF;refine wW ?_;refine wE hF zmF fun z39 hF=>?_
  refine wK [0,2,5,7,10,11,50,51,52] ?_;refine wJK hF [0,2,7,10,50,51,52] (fun x42=>[(5,.v (.bool x42))]) (fun x42 hF=>?_) fun _ hj40 hF=>?_
  ·obtain⟨g,hF⟩:=Rg g hF;refine wW ?_;exact wT (hg33 (x42,s30.2.1,s30.2.2.1,s30.2.2.2.1++[z39.1],s30.2.2.2.2.1,s30.2.2.2.2.2.1,s30.2.2.2.2.2.2)) (zaa hF) (a:=by simp[go_sem,g,zx6 hi35 hi36 (by first|assumption|(simp;assumption)|(simp;omega))])
  refine wG hF (fun h43 hF=>?_) fun h43 hF=>?_
  ·exact wV h43 (hj40 _) (zaa hF)
  exact wV h43 (hj40 _) (zaa hF)
 refine wG hF (fun h5 hF=>?_) fun h5 hF=>?_
 ·exact wV h5 (hj2 _) (zaa hF)
 try simp[go_sem,g,h5]
 try intros
 refine wG hF (fun h6 hF=>?_) fun h6 hF=>?_
 ·exact wV h6 (hj2 _) (zaa hF)
 obtain⟨x7,g,hF⟩:=Rxn g 0 hF;try simp[go_sem,g,h6]
 try intros
 exact wT (hj2 _) (zaa hF)
def zfA(a0:Plan)(a1:Int):Option Int:=
 some (i64.wrap ((i64.wrap ((i64.wrap (1+a0.Trustees))+a0.Mixers))+a1))
theorem zna{a0 a1 r}(hr:zfA a0 a1=some r):PCalls Tryz.prog 84 [(.sh,vQ a0),(.sh,.int .i64 a1)] (Eo (.int .i64 r) zak):=by
 apply pF 13 [] [] [] [.tmp 4] hr zGT Tryz.func84;intro Φ hΦ hF g;unfold zfA at hF;refine wW ?_;refine wK [4] ?_;exact wm hΦ hF
def zdF(a0:Contest):Option Int:=
 (zbw a0).bind fun z1=>
 if z1=true then(
 some a0.Options)else(
 some 1)
theorem zlb{a0 r}(hr:zdF a0=some r):PCalls Tryz.prog 133 [(.sh,vO a0)] (Eo (.int .i64 r) [.junk]):=by
 apply pF 7 [] [] [] [.tmp 2] hr zCz Tryz.func133;intro Φ hΦ hF g;unfold zdF at hF;refine wW ?_;refine wE hF zes fun z1 hF=>?_
 refine wW ?_;refine wI hF (fun h2 hF=>?_) fun h2 hF=>?_
 ·exact wl hΦ hF
 cases hΦ _ (zaa hF)
 iterate 2 refine wW ?_
 try simp[go_sem,g]
def zc3(a0:Group)(a1:Cipher):Option Bool:=
 (((zdh a0 a1.A).bind fun z4=>
 if z4=true then(
 (zdh a0 a1.B).bind fun z6=>
 some z6)else(
 some false):Option Bool).bind fun x3=>
 some x3)
theorem zkd{a0 a1 r}(hr:zc3 a0 a1=some r):PCalls Tryz.prog 179 [(.sh,vF a0),(.sh,vZ a1)] (Eo (.bool r) zak):=by
 apply pF 15 [] [] [] [.tmp 4] hr zEw Tryz.func179;intro Φ hΦ hF g;unfold zc3 at hF;refine wW ?_;refine wJ hF (fun x3=>[(4,.v (.bool x3))]) (fun x3 hF=>?_) fun _ hj1 hF=>?_
 ·exact wm hΦ hF
 refine wE hF zhr fun z4 hF=>?_
 refine wG hF (fun h5 hF=>?_) fun h5 hF=>?_
 ·try simp[go_sem,g,h5]
  refine wE hF zhr fun z6 hF=>?_
  exact wV h5 (hj1 _) (zaa hF)
 exact wV h5 (hj1 _) (zaa hF)
def zdf(a0:Cipher)(a1c0:Int)(a1c1:Int)(a1c2:Int):Option Bool:=
 (zc3 (Group.mk a1c0 a1c1 a1c2) a0).bind fun z1=>
 some (!z1)
theorem zi3{a0 a1c0 a1c1 a1c2 r}(hr:zdf a0 a1c0 a1c1 a1c2=some r):PCalls Tryz.prog 178 [(.sh,vZ a0),(.sh,.fp [.int .i64 a1c0,.int .i64 a1c1,.int .i64 a1c2])] (Eo (.bool r) zak):=by
 apply pF 8 [] [] [] [.tmp 3] hr zCC Tryz.func178;intro Φ hΦ hF g;unfold zdf at hF;refine wW ?_;refine wE hF zkd fun z1 hF=>?_
 exact wl hΦ hF
def zat(a0:List Cipher)(a1u0c0:Int)(a1u0c1:Int)(a1u0c2:Int):Option Int:=
 ((zau (σ:=Unit) (fun i5 s4=>
 (ix a0 i5).bind fun x11=>
 (zdf x11 a1u0c0 a1u0c1 a1u0c2).bind fun z12=>
 if z12=true then(
 some (.out (.inr i5)))else(
 some (.go ()))) (fun s4=>.inl ()) (a0.length) 0 ():Option (Unit ⊕ Int)).bind (Sum.elim (fun x3=>
 some (-1)) some))
theorem zcX{a0 a1u0c0 a1u0c1 a1u0c2 r}(hr:zat a0 a1u0c0 a1u0c1 a1u0c2=some r):PCalls Tryz.prog 200 [(.sh,vW a0),(.sh,.func (.func 178) [] [.fp [.int .i64 a1u0c0,.int .i64 a1u0c1,.int .i64 a1u0c2]])] (Eo (.int .i64 r) zak):=by
 apply pF 19 [] [] [] [.tmp 4] hr zDt Tryz.func200;intro Φ hΦ hF g;unfold zat at hF
 iterate 2 (try simp[go_sem,g];try intros;refine zap ?_)
 refine wS hF (fun x3=>[]) (fun x3 hF=>?_) fun _ hj1 hr2 hF=>?_
 ·exact wl hΦ hF
 refine wB ?_;obtain⟨b14,hb15,hψ8⟩:=hF;refine pRK hb15 [0,1,7] (fun i5 s4=>[(8,.v (.int .i64 i5))]) (fun s4 _ hN16=>?_) fun i5 s4 _ _ hi9 hi10 ho6 hg7 hF=>?_
 ·exact wn hN16 (hj1 _) hψ8
 refine wW ?_;refine wu hi9 hi10 ?_;refine wW ?_;refine wB ?_;obtain⟨x11,g,hF⟩:=Rx g hF;refine wW ?_;refine wE hF zi3 fun z12 hF=>?_
 refine wK [0,1,5,7,8,16] ?_;refine wI hF (fun h13 hF=>?_) fun h13 hF=>?_
 ·cases ho6 _ (zaa hF);cases hΦ _ (hr2 _ hψ8);refine wW ?_;try simp[go_sem,g]
 refine wW ?_;exact wi hi9 hi10 (hg7 _) (zaa hF)
def zaA(a0:List Cipher)(a1u0c0:Int)(a1u0c1:Int)(a1u0c2:Int):Option Bool:=
 (zat a0 a1u0c0 a1u0c1 a1u0c2).bind fun z1=>
 some (decide (0≤z1))
theorem zcI{a0 a1u0c0 a1u0c1 a1u0c2 r}(hr:zaA a0 a1u0c0 a1u0c1 a1u0c2=some r):PCalls Tryz.prog 177 [(.sh,vW a0),(.sh,.func (.func 178) [] [.fp [.int .i64 a1u0c0,.int .i64 a1u0c1,.int .i64 a1u0c2]])] (Eo (.bool r) zak):=by
 apply pF 9 [] [] [] [.tmp 4] hr zEO Tryz.func177;intro Φ hΦ hF g;unfold zaA at hF;refine wW ?_;refine wE hF zcX fun z1 hF=>?_
 exact wl hΦ hF
def zcK(a0:Group)(a1:List Cipher):Option Bool:=
 ((if decide ((a1.length:Int)≤24)=true then(
 (zaA a1 a0.P a0.Q a0.G).bind fun z5=>
 some (!z5))else(
 some false):Option Bool).bind fun x3=>
 some x3)
theorem zjR{a0 a1 r}(hr:zcK a0 a1=some r):PCalls Tryz.prog 135 [(.sh,vF a0),(.sh,vW a1)] (Eo (.bool r) zak):=by
 apply pF 14 [] [] [1000000] [.tmp 4] hr zED Tryz.func135;intro Φ hΦ hF g;unfold zcK at hF;refine wW ?_;refine wJ hF (fun x3=>[(4,.v (.bool x3))]) (fun x3 hF=>?_) fun _ hj1 hF=>?_
 ·exact wm hΦ hF
 try simp[go_sem,g]
 try intros
 refine wG hF (fun h4 hF=>?_) fun h4 hF=>?_
 ·try simp[go_sem,g,h4]
  refine wE hF zcI fun z5 hF=>?_
  exact wV h4 (hj1 _) (zaa hF)
 exact wV h4 (hj1 _) (zaa hF)
def zfH(a0:Int):Option ByteArray:=
 gd (-9223372036854775808≤a0∧a0≤9223372036854775807)<|
 some ⟨(Lib.itoa a0).toArray⟩
theorem zpq:∀{a0}{r},zfH a0=some r→PCalls Tryz.prog 180 [(.sh,.int .i64 a0)] (Eo (.str r) [.junk]):=by
 intro a0 r hr;have hF:Rn _ (fun x=>x=r):=⟨r,hr,rfl⟩
 unfold zfH at hF;obtain⟨⟨g0,g1⟩,hF⟩:=zfp hF;have h1:=zaa hF;subst h1;exact Go.Pm.itoa_calls zCj g0 g1
def zee(a0:Int):Option ByteArray:=
 (zfH a0).bind fun z1=>
 gd ((⟨#[98,97,108,108,111,116,32]⟩:ByteArray).size+z1.size≤9223372036854775807)<|
 some ((⟨#[98,97,108,108,111,116,32]⟩:ByteArray)++z1)
theorem zmq{a0 r}(hr:zee a0=some r):PCalls Tryz.prog 136 [(.sh,.int .i64 a0)] (Eo (.str r) [.junk]):=by
 apply pF 6 [] [] [] [.tmp 2] hr zDn Tryz.func136;intro Φ hΦ hF g;unfold zee at hF;refine wW ?_;refine wE hF zpq fun z1 hF=>?_
 obtain⟨g,hF⟩:=Rsa g hF;exact wl hΦ hF
def zdy(a0:Proof):Option Bool:=
 ((if((a0.Commits.length:Int)==0)=true then(
 if((a0.Challenges.length:Int)==0)=true then(
 some ((a0.Responses.length:Int)==0))else(
 some false))else(
 some false):Option Bool).bind fun x3=>
 some x3)
theorem zk4{a0 r}(hr:zdy a0=some r):PCalls Tryz.prog 137 [(.sh,vB a0)] (Eo (.bool r) [.junk]):=by
 apply pF 19 [] [] [] [.tmp 2] hr zE8 Tryz.func137;intro Φ hΦ hF g;unfold zdy at hF;refine wW ?_;refine wJ hF (fun x3=>[(2,.v (.bool x3))]) (fun x3 hF=>?_) fun _ hj1 hF=>?_
 ·exact wm hΦ hF
 try simp[go_sem,g]
 try intros
 refine wG hF (fun h4 hF=>?_) fun h4 hF=>?_
 ·try simp[go_sem,g,h4]
  try intros
  refine wG hF (fun h5 hF=>?_) fun h5 hF=>?_
  ·try simp[go_sem,g,h5]
   try intros
   exact wT (hj1 _) (zaa hF)
  exact wV h5 (hj1 _) (zaa hF)
 exact wV h4 (hj1 _) (zaa hF)
def zbC(a0:Group)(a1:Int)(a2:Cipher)(a3:Int)(a4:Int):Option ((List EqualLog)):=
 ((zax (σ:=(List EqualLog)×Int) (fun s4=>
 if decide (s4.2≤a4)=true then(
 (zbj a0 a0.G (i64.wrap (0-s4.2))).bind fun z10=>
 (zaZ a0 [a2.B,z10]).bind fun z11=>
 gd ((s4.1.length+1)*32≤140737488355328∧s4.1.length+1≤4611686018427387904)<|
 some (.go (s4.1++[(EqualLog.mk a0.G a2.A a1 z11)],i64.wrap (s4.2+1))))else(
 some (.out s4.1))) ([],a3):Option ((List EqualLog))).bind fun x3=>
 some x3)
theorem zg4{a0 a1 a2 a3 a4 r}(hr:zbC a0 a1 a2 a3 a4=some r):PCalls Tryz.prog 140 [(.sh,vF a0),(.sh,.int .i64 a1),(.sh,vZ a2),(.sh,.int .i64 a3),(.sh,.int .i64 a4)] (Eo (vY r) zn9):=by
 apply pF 41 [] [] [] [.tmp 10] hr zEL Tryz.func140;intro Φ hΦ hF g;unfold zbC at hF
 iterate 3 refine wW ?_
 refine wJ hF (fun x3=>[(11,.v (vY x3))]) (fun x3 hF=>?_) fun _ hj1 hF=>?_
 ·exact wl hΦ hF
 refine wB ?_;obtain⟨b12,hb13,hψ8⟩:=hF;refine pLK hb13 [1,4,5,7] (fun s4=>[(11,.v (vY s4.1)),(12,.v (.int .i64 s4.2))]) fun s4 _ _ ho6 hg7 hF=>?_
 refine wK [1,4,5,7,11,12,17] ?_;refine wI hF (fun h9 hF=>?_) fun h9 hF=>?_
 ·refine wW ?_;refine wB ?_;refine wZ [k0 0,k1 1 5,k2 2 5,k1 3 7,k2 4 7,k0 5,k2 6 5,k1 7 7,k2 8 7,k2 9 5,k1 10 5,k2 11 5,k0 12,k0 13,k3 14,k0 15,fun _=>⟨16,[26,35],[],none,true,true,true⟩,k0 17,k0 18,fun _=>⟨19,[20,38],[],none,true,false,false⟩,k0 20] follows ?_;refine wE hF zdj fun z10 hF=>?_
  refine wE hF zcy fun z11 hF=>?_
  obtain⟨g,hF⟩:=Rg g hF;refine wK [1,4,5,7,11,12] ?_;exact wT (hg7 _) (zaa hF)
 cases ho6 _ (zaa hF);exact wT (hj1 _) hψ8
def zc2(a0:Group)(a1:EqualLog)(a2:Int)(a3:Int):Option (Int×Int):=
 (zbj a0 a1.G1 a3).bind fun z1=>
 (zbj a0 a1.Y1 (i64.wrap (0-a2))).bind fun z2=>
 (zaZ a0 [z1,z2]).bind fun z3=>
 (zbj a0 a1.G2 a3).bind fun z4=>
 (zbj a0 a1.Y2 (i64.wrap (0-a2))).bind fun z5=>
 (zaZ a0 [z4,z5]).bind fun z6=>
 some (z3,z6)
theorem zkc{a0 a1 a2 a3 r}(hr:zc2 a0 a1 a2 a3=some r):PCalls Tryz.prog 205 [(.sh,vF a0),(.sh,vAH a1),(.sh,.int .i64 a2),(.sh,.int .i64 a3)] (Eo (.tup [.int .i64 r.1,.int .i64 r.2]) zf6):=by
 apply pF 38 [] [] [] [.tmp 8,.tmp 9] hr zDJ Tryz.func205;intro Φ hΦ hF g;unfold zc2 at hF;refine wW ?_;refine wZ [k2 0 4,k2 1 4,k1 2 5,k2 3 5,k0 4,k2 6 4,k1 7 5,k2 8 5,k0 9,k0 10,k2 14 4,k2 15 4,k1 16 5,k2 17 5,k0 18,k2 20 4,k1 21 5,k2 22 5,k0 23,k0 24,k3 5,k3 11,k0 12,fun _=>⟨13,[10,22],[],none,true,true,true⟩,k3 19,k3 25,k0 26,fun _=>⟨27,[24,36],[],none,true,true,true⟩,k0 28,k0 29] follows ?_;refine wE hF zdj fun z1 hF=>?_
 refine wE hF zdj fun z2 hF=>?_
 refine wE hF zcy fun z3 hF=>?_
 refine wE hF zdj fun z4 hF=>?_
 refine wE hF zdj fun z5 hF=>?_
 refine wE hF zcy fun z6 hF=>?_
 refine wK [8,9] ?_;exact wm hΦ hF
def zdB(a0:Group)(a1:List EqualLog)(a2:Proof):Option Bool:=
 ((if((a2.Commits.length:Int) !=(i64.wrap (2*(a1.length:Int))))=true then(
 some true)else(
 if((a2.Challenges.length:Int) !=(a1.length:Int))=true then(
 some true)else(
 if((a2.Responses.length:Int) !=(a1.length:Int))=true then(
 some true)else(
 (zbt a0 a2.Commits).bind fun z7=>
 if(!z7)=true then(
 some true)else(
 (zce a0 a2.Challenges).bind fun z9=>
 if(!z9)=true then(
 some true)else(
 (zce a0 a2.Responses).bind fun z11=>
 some (!z11)))))):Option Bool).bind fun x3=>
 if x3=true then(
 some false)else(
 ((zau (σ:=Unit) (fun i17 s16=>
 (ix a1 i17).bind fun x23=>
 (ix a2.Challenges i17).bind fun x24=>
 (ix a2.Responses i17).bind fun x25=>
 (zc2 a0 x23 x24 x25).bind fun z26=>
 (((ix a2.Commits (i64.wrap (2*i17))).bind fun x30=>
 if(z26.1 !=x30)=true then(
 some true)else(
 (ix a2.Commits (i64.wrap ((i64.wrap (2*i17))+1))).bind fun x32=>
 some (z26.2 !=x32)):Option Bool).bind fun x29=>
 if x29=true then(
 some (.out (.inr false)))else(
 some (.go ())))) (fun s16=>.inl ()) (a1.length) 0 ():Option (Unit ⊕ Bool)).bind (Sum.elim (fun x15=>
 some true) some))))
theorem zld{a0 a1 a2 r}(hr:zdB a0 a1 a2=some r):PCalls Tryz.prog 185 [(.sh,vF a0),(.sh,vAA a1),(.sh,vB a2)] (Eo (.bool r) zcj):=by
 apply pF 98 [] [] [] [.tmp 6] hr zEj Tryz.func185;intro Φ hΦ hF g;unfold zdB at hF
 iterate 2 (try simp[go_sem,g];try intros;refine zap ?_)
 refine wJK hF [1,3,5] (fun x3=>[(54,.v (.bool x3))]) (fun x3 hF=>?_) fun _ hj1 hF=>?_
 ·refine wI hF (fun h12 hF=>?_) fun h12 hF=>?_
  ·exact wl hΦ hF
  iterate 2 (try simp[go_sem,g];try intros;refine zap ?_)
  refine wS hF (fun x15=>[]) (fun x15 hF=>?_) fun _ hj13 hr14 hF=>?_
  ·refine wK [6] ?_;exact wm hΦ hF
  refine wB ?_;obtain⟨b34,hb35,hψ20⟩:=hF;refine pRK hb35 [3,5,55,56] (fun i17 s16=>[(57,.v (.int .i64 i17))]) (fun s16 _ hN36=>?_) fun i17 s16 _ _ hi21 hi22 ho18 hg19 hF=>?_
  ·exact wn hN36 (hj13 _) hψ20
  refine wK [3,5,55,56,57,58] ?_;refine wu hi21 hi22 ?_;refine wW ?_;refine wB ?_;obtain⟨x23,g,hF⟩:=Rx g hF;refine wW ?_;refine wZ [k2 0 3,k2 1 9,k1 2 5,k2 3 5,k0 4,k0 5,k0 6,k1 7 5,k2 8 5,k0 9,k0 10,k0 11,k3 12,k0 13,k0 14,k0 15,k0 16,k0 17] follows ?_;obtain⟨x24,g,hF⟩:=Rx g hF;obtain⟨x25,g,hF⟩:=Rx g hF;refine wE hF zkc fun z26 hF=>?_
  refine wK [3,5,8,10,11,55,56,57] ?_;refine wJK hF [3,5,55,56,57] (fun x29=>[(96,.v (.bool x29))]) (fun x29 hF=>?_) fun _ hj27 hF=>?_
  ·refine wI hF (fun h33 hF=>?_) fun h33 hF=>?_
   ·cases ho18 _ (zaa hF);cases hΦ _ (hr14 _ hψ20);refine wW ?_;try simp[go_sem,g]
   refine wW ?_;exact wi hi21 hi22 (hg19 _) (zaa hF)
  obtain⟨x30,g,hF⟩:=Rx g hF;refine wG hF (fun h31 hF=>?_) fun h31 hF=>?_
  ·exact wV h31 (hj27 _) (zaa hF)
  obtain⟨x32,g,hF⟩:=Rx g hF;exact wV h31 (hj27 _) (zaa hF)
 try simp[go_sem,g]
 try intros
 refine wG hF (fun h4 hF=>?_) fun h4 hF=>?_
 ·exact wV h4 (hj1 _) (zaa hF)
 try simp[go_sem,g,h4]
 try intros
 refine wG hF (fun h5 hF=>?_) fun h5 hF=>?_
 ·exact wV h5 (hj1 _) (zaa hF)
 try simp[go_sem,g,h5]
 try intros
 refine wG hF (fun h6 hF=>?_) fun h6 hF=>?_
 ·exact wV h6 (hj1 _) (zaa hF)
 try simp[go_sem,g,h6]
 refine wE hF zfa fun z7 hF=>?_
 try simp[go_sem,g,h6]
 refine wG hF (fun h8 hF=>?_) fun h8 hF=>?_
 ·exact wV h8 (hj1 _) (zaa hF)
 try simp[go_sem,g,h8]
 refine wE hF zfT fun z9 hF=>?_
 try simp[go_sem,g,h8]
 refine wG hF (fun h10 hF=>?_) fun h10 hF=>?_
 ·exact wV h10 (hj1 _) (zaa hF)
 try simp[go_sem,g,h10]
 refine wE hF zfT fun z11 hF=>?_
 exact wV h10 (hj1 _) (zaa hF)
def zb9(a0:Group)(a1:ByteArray)(a2:List EqualLog)(a3:List Int):Option (Int×Bool):=
 ((zau (σ:=(List Int)) (fun i5 s4=>
 (ix a2 i5).bind fun x11=>
 gd ((s4.length+4)*8≤140737488355328∧s4.length+4≤4611686018427387904)<|
 some (.go (s4++[x11.G1,x11.Y1,x11.G2,x11.Y2]))) (fun s4=>s4) (a2.length) 0 []:Option ((List Int))).bind fun x3=>
 gd ((x3.length+a3.length)*8≤140737488355328∧x3.length+a3.length≤4611686018427387904)<|
 (zbM a0 a1 (x3++a3)).bind fun z16=>
 some (z16.1,z16.2))
theorem ziW{a0 a1 a2 a3 r}(hr:zb9 a0 a1 a2 a3=some r):PCalls Tryz.prog 186 [(.sh,vF a0),(.sh,.str a1),(.sh,vAA a2),(.sh,vA a3)] (Eo (.tup [.int .i64 r.1,.bool r.2]) zf6):=by
 apply pF 40 [] [] [] [.tmp 8,.tmp 9] hr zEQ Tryz.func186;intro Φ hΦ hF g;unfold zb9 at hF
 iterate 3 (try simp[go_sem,g];try intros;refine zap ?_)
 refine wJK hF [1,3,4] (fun x3=>[(10,.v (vG x3))]) (fun x3 hF=>?_) fun _ hj1 hF=>?_
 ·refine wZ [k2 0 4,k0 1,k0 2,k0 3,k0 4,k3 5,k0 6,k0 7,k0 8,k0 9] follows ?_;obtain⟨g,hF⟩:=Rg g hF;refine wE hF zhd fun z16 hF=>?_
  refine wK [8,9] ?_;exact wm hΦ hF
 refine wB ?_;obtain⟨b12,hb13,hψ8⟩:=hF;refine pRK hb13 [1,3,4,14,15] (fun i5 s4=>[(10,.v (vG s4)),(16,.v (.int .i64 i5))]) (fun s4 _ hN14=>?_) fun i5 s4 _ _ hi9 hi10 ho6 hg7 hF=>?_
 ·exact wn hN14 (hj1 _) hψ8
 refine wW ?_;refine wu hi9 hi10 ?_;refine wW ?_;refine wB ?_;obtain⟨x11,g,hF⟩:=Rx g hF;refine wK [1,3,4,10,12,14,15,16] ?_;obtain⟨g,hF⟩:=Rg g hF;refine wK [1,3,4,10,14,15,16] ?_;exact wi hi9 hi10 (hg7 _) (zaa hF)
def zif(a0:List Int)(a1:Int):Option Int:=
 ((zau (σ:=Int) (fun i5 s4=>
 (ix a0 i5).bind fun x11=>
 gd (a1≠0)<|
 some (.go ((i64.wrap (s4+x11)).tmod a1))) (fun s4=>s4) (a0.length) 0 0:Option Int).bind fun x3=>
 some x3)
theorem zt6{a0 a1 r}(hr:zif a0 a1=some r):PCalls Tryz.prog 187 [(.sh,vA a0),(.sh,.int .i64 a1)] (Eo (.int .i64 r) zak):=by
 apply pF 21 [] [] [] [.tmp 4] hr zC5 Tryz.func187;intro Φ hΦ hF g;unfold zif at hF
 iterate 3 (try simp[go_sem,g];try intros;refine zap ?_)
 refine wJ hF (fun x3=>[(5,.v (.int .i64 x3))]) (fun x3 hF=>?_) fun _ hj1 hF=>?_
 ·exact wl hΦ hF
 refine wB ?_;obtain⟨b12,hb13,hψ8⟩:=hF;refine pRK hb13 [1,8,9] (fun i5 s4=>[(5,.v (.int .i64 s4)),(10,.v (.int .i64 i5))]) (fun s4 _ hN14=>?_) fun i5 s4 _ _ hi9 hi10 ho6 hg7 hF=>?_
 ·exact wn hN14 (hj1 _) hψ8
 refine wW ?_;refine wu hi9 hi10 ?_;refine wW ?_;refine wB ?_;obtain⟨x11,g,hF⟩:=Rx g hF;obtain⟨g,hF⟩:=Rz g hF;refine wW ?_;refine wK [1,5,8,9,10] ?_;exact wi hi9 hi10 (hg7 _) (zaa hF)
def zbq(a0:Group)(a1:ByteArray)(a2:List EqualLog)(a3:Proof):Option Bool:=
 (zdB a0 a2 a3).bind fun z1=>
 if(!z1)=true then(
 some false)else(
 (zb9 a0 a1 a2 a3.Commits).bind fun z3=>
 ((if z3.2=true then(
 (zif a3.Challenges a0.Q).bind fun z8=>
 some (z8==z3.1))else(
 some false):Option Bool).bind fun x6=>
 some x6))
theorem zgH{a0 a1 a2 a3 r}(hr:zbq a0 a1 a2 a3=some r):PCalls Tryz.prog 139 [(.sh,vF a0),(.sh,.str a1),(.sh,vAA a2),(.sh,vB a3)] (Eo (.bool r) zf6):=by
 apply pF 35 [] [] [] [.tmp 8] hr zFe Tryz.func139;intro Φ hΦ hF g;unfold zbq at hF;refine wW ?_;refine wE hF zld fun z1 hF=>?_
 refine wW ?_;refine wI hF (fun h2 hF=>?_) fun h2 hF=>?_
 ·exact wl hΦ hF
 refine wW ?_;refine wE hF ziW fun z3 hF=>?_
 refine wK [4,7,9,10] ?_;refine wJ hF (fun x6=>[(8,.v (.bool x6))]) (fun x6 hF=>?_) fun _ hj4 hF=>?_
 ·exact wm hΦ hF
 refine wG hF (fun h7 hF=>?_) fun h7 hF=>?_
 ·try simp[go_sem,g,h7]
  refine wE hF zt6 fun z8 hF=>?_
  exact wV h7 (hj4 _) (zaa hF)
 exact wV h7 (hj4 _) (zaa hF)
def zdX(a0:Group)(a1:Cipher)(a2:Cipher):Option Cipher:=
 (zaZ a0 [a1.A,a2.A]).bind fun z1=>
 (zaZ a0 [a1.B,a2.B]).bind fun z2=>
 some (Cipher.mk z1 z2)
theorem zlJ{a0 a1 a2 r}(hr:zdX a0 a1 a2=some r):PCalls Tryz.prog 188 [(.sh,vF a0),(.sh,vZ a1),(.sh,vZ a2)] (Eo (vZ r) zcj):=by
 apply pF 22 [] [] [] [.cell 6 160] hr zDD Tryz.func188;intro Φ hΦ hF g;unfold zdX at hF;refine wW ?_;refine wZ [k2 0 3,k1 1 4,k2 2 4,k1 3 5,k2 4 5,k0 5,k2 7 3,k1 8 4,k2 9 4,k1 10 5,k2 11 5,k0 12,fun _=>⟨6,[7,12],[],none,true,true,true⟩,fun _=>⟨13,[14,19],[],none,true,true,true⟩,k0 14,k2 15 6] follows ?_;refine wE hF zcy fun z1 hF=>?_
 refine wE hF zcy fun z2 hF=>?_
 refine wK [6] ?_;exact wm hΦ hF
def zcd(a0:Group)(a1:List Cipher):Option Cipher:=
 ((zau (σ:=Int×Int) (fun i14 s13=>
 (ix a1 i14).bind fun x20=>
 (zdX a0 (Cipher.mk s13.1 s13.2) x20).bind fun z21=>
 some (.go (z21.A,z21.B))) (fun s13=>(s13.1,s13.2)) (a1.length) 0 (1,1):Option ((Int×Int))).bind fun x3=>
 some (Cipher.mk x3.1 x3.2))
theorem zjQ{a0 a1 r}(hr:zcd a0 a1=some r):PCalls Tryz.prog 141 [(.sh,vF a0),(.sh,vW a1)] (Eo (vZ r) zak):=by
 apply pF 21 [] [] [] [.cell 4 160] hr zFj Tryz.func141;intro Φ hΦ hF g;unfold zcd at hF
 iterate 3 (try simp[go_sem,g];try intros;refine zap ?_)
 refine wJ hF (fun x3=>[(4,.bl [.int .i64 0,.int .i64 0]),(5,.bl [.int .i64 x3.1,.int .i64 x3.2])]) (fun x3 hF=>?_) fun _ hj1 hF=>?_
 ·refine wK [4] ?_;exact wm hΦ hF
 refine wB ?_;obtain⟨b22,hb23,hψ17⟩:=hF;refine pRK hb23 [2,4,9,10] (fun i14 s13=>[(5,.bl [.int .i64 s13.1,.int .i64 s13.2]),(11,.v (.int .i64 i14))]) (fun s13 _ hN24=>?_) fun i14 s13 _ _ hi18 hi19 ho15 hg16 hF=>?_
 ·exact wn hN24 (hj1 _) hψ17
 refine wW ?_;refine wu hi18 hi19 ?_;refine wW ?_;refine wB ?_;obtain⟨x20,g,hF⟩:=Rx g hF;refine wK [2,4,5,7,9,10,11] ?_;refine wE hF zlJ fun z21 hF=>?_
 refine wW ?_;exact wi hi18 hi19 (hg16 _) (zaa hF)
def zds(a0:Group)(a1:Int)(a2:Contest)(a3:Sealed):Option Bool:=
 (zdF a2).bind fun z1=>
 (((zeT a3.Voter).bind fun z5=>
 if(!z5)=true then(
 some true)else(
 if((a3.Ciphers.length:Int) !=z1)=true then(
 some true)else(
 if((a3.Proofs.length:Int) !=z1)=true then(
 some true)else(
 (zcK a0 a3.Ciphers).bind fun z9=>
 some (!z9)))):Option Bool).bind fun x4=>
 if x4=true then(
 some false)else(
 (zee a3.Voter).bind fun z11=>
 (zbw a2).bind fun z12=>
 if(!z12)=true then(
 (((zdy a3.Sum).bind fun z17=>
 if z17=true then(
 (ix a3.Ciphers 0).bind fun x19=>
 (ix a3.Proofs 0).bind fun x20=>
 (zbR a0 z11 [[a0.G]] [x19.A] x20).bind fun z21=>
 some z21)else(
 some false):Option Bool).bind fun x16=>
 some x16))else(
 ((zau (σ:=Unit) (fun i26 s25=>
 (ix a3.Ciphers i26).bind fun x32=>
 (ix a3.Proofs i26).bind fun x33=>
 (zbV a2).bind fun z34=>
 (zbC a0 a1 x32 0 z34).bind fun z35=>
 (zbq a0 z11 z35 x33).bind fun z36=>
 if(!z36)=true then(
 some (.out (.inr false)))else(
 some (.go ()))) (fun s25=>.inl ()) (a3.Ciphers.length) 0 ():Option (Unit ⊕ Bool)).bind (Sum.elim (fun x24=>
 (zcd a0 a3.Ciphers).bind fun z42=>
 (zbC a0 a1 z42 a2.Least a2.Most).bind fun z43=>
 (zbq a0 z11 z43 a3.Sum).bind fun z44=>
 some z44) some)))))
theorem zkS{a0 a1 a2 a3 r}(hr:zds a0 a1 a2 a3=some r):PCalls Tryz.prog 85 [(.sh,vF a0),(.sh,.int .i64 a1),(.sh,vO a2),(.sh,vAB a3)] (Eo (.bool r) zf6):=by
 apply pF 108 [] [] [] [.tmp 8] hr zId Tryz.func85;intro Φ hΦ hF g;unfold zds at hF;refine wW ?_;refine wE hF zlb fun z1 hF=>?_
 refine wW ?_;refine wJK hF [1,4,6,7] (fun x4=>[(39,.v (.bool x4))]) (fun x4 hF=>?_) fun _ hj2 hF=>?_
 ·refine wI hF (fun h10 hF=>?_) fun h10 hF=>?_
  ·exact wl hΦ hF
  refine wW ?_;refine wE hF zmq fun z11 hF=>?_
  refine wK [1,4,6,7,10] ?_;refine wE hF zes fun z12 hF=>?_
  refine wW ?_;refine wI hF (fun h13 hF=>?_) fun h13 hF=>?_
  ·refine wJ hF (fun x16=>[(8,.v (.bool x16))]) (fun x16 hF=>?_) fun _ hj14 hF=>?_
   ·exact wm hΦ hF
   refine wZ [k1 0 7,k2 1 7,k3 2,k0 3,k2 4 4,k0 5,k1 6 4,k2 7 4,k0 8,k1 10 7,k2 11 7,k0 12,k0 13,k0 14,k0 15,k1 16 7,k2 17 7,k0 18,k0 19,fun _=>⟨9,[54,49],[],none,true,true,false⟩,fun _=>⟨20,[50,51,55,61,65,49],[],none,true,true,true⟩,k0 21,k0 22] follows ?_;refine wE hF zk4 fun z17 hF=>?_
   refine wH hF (fun h18 hF=>?_) fun h18 hF=>?_
   ·obtain⟨x19,g,hF⟩:=Rxn g 0 hF;obtain⟨x20,g,hF⟩:=Rxn g 0 hF;try simp[go_sem,g,h18]
    refine wE hF zgq fun z21 hF=>?_
    exact wV h18 (hj14 _) (zaa hF)
   exact wV h18 (hj14 _) (zaa hF)
  iterate 2 (try simp[go_sem,g];try intros;refine zap ?_)
  refine wSK hF [1,4,6,7,10] (fun x24=>[]) (fun x24 hF=>?_) fun _ hj22 hr23 hF=>?_
  ·refine wZ [k2 0 4,k0 1,k2 2 4,k0 3,k2 4 4,k1 5 7,k2 6 7,k1 8 6,k2 9 6,k1 10 6,k2 11 6,k1 13 7,k2 14 7,k3 7,k3 12,k3 15,k0 16] follows ?_;refine wE hF zjQ fun z42 hF=>?_
   refine wE hF zg4 fun z43 hF=>?_
   refine wE hF zgH fun z44 hF=>?_
   refine wK [8] ?_;exact wm hΦ hF
  refine wB ?_;obtain⟨b38,hb39,hψ29⟩:=hF;refine pRK hb39 [1,4,6,7,10,69,70] (fun i26 s25=>[(71,.v (.int .i64 i26))]) (fun s25 _ hN40=>?_) fun i26 s25 _ _ hi30 hi31 ho27 hg28 hF=>?_
  ·exact wn hN40 (hj22 _) hψ29
  refine wW ?_;refine wu hi30 hi31 ?_;refine wW ?_;refine wB ?_;obtain⟨x32,g,hF⟩:=Rx g hF;refine wK [1,4,6,7,10,11,12,69,70,71] ?_;refine wZ [k2 0 4,k0 1,k2 2 4,k0 3,k2 4 12,k2 5 6,k1 8 7,k2 9 7,k0 10,k0 11,k0 12,fun _=>⟨6,[81],[],none,false,true,false⟩,fun _=>⟨7,[78,79,80,82],[],none,false,true,false⟩,k3 13,k0 14] follows ?_;obtain⟨x33,g,hF⟩:=Rx g hF;refine wD hF zim fun z34 hF=>?_
  refine wD hF zg4 fun z35 hF=>?_
  refine wE hF zgH fun z36 hF=>?_
  refine wK [1,4,6,7,10,69,70,71,90] ?_;refine wI hF (fun h37 hF=>?_) fun h37 hF=>?_
  ·cases ho27 _ (zaa hF);cases hΦ _ (hr23 _ hψ29);refine wW ?_;try simp[go_sem,g]
  refine wW ?_;exact wi hi30 hi31 (hg28 _) (zaa hF)
 refine wE hF zkv fun z5 hF=>?_
 refine wG hF (fun h6 hF=>?_) fun h6 hF=>?_
 ·exact wV h6 (hj2 _) (zaa hF)
 try simp[go_sem,g,h6]
 try intros
 refine wG hF (fun h7 hF=>?_) fun h7 hF=>?_
 ·exact wV h7 (hj2 _) (zaa hF)
 try simp[go_sem,g,h7]
 try intros
 refine wG hF (fun h8 hF=>?_) fun h8 hF=>?_
 ·exact wV h8 (hj2 _) (zaa hF)
 try simp[go_sem,g,h8]
 refine wE hF zjR fun z9 hF=>?_
 exact wV h8 (hj2 _) (zaa hF)
def zcz(a0:Plan)(a1:Int)(a2:Entry):Option (Sealed×Bool):=
 (zbx a2.Data).bind fun z1=>
 ((if(!z1.2)=true then(
 some true)else(
 if(a2.Kind !=3)=true then(
 some true)else(
 (zfA a0 z1.1.Voter).bind fun z7=>
 if(a2.Author !=z7)=true then(
 some true)else(
 (zav z1.1.Voter 0 (i64.wrap (a0.Voters-1))).bind fun z9=>
 if(!z9)=true then(
 some true)else(
 (zds a0.Gr a1 a0.Ct z1.1).bind fun z11=>
 some (!z11))))):Option Bool).bind fun x4=>
 if x4=true then(
 some ((Sealed.mk 0 [] [] (Proof.mk [] [] [])),false))else(
 some (z1.1,true)))
theorem zl7{a0 a1 a2 r}(hr:zcz a0 a1 a2=some r):PCalls Tryz.prog 46 [(.sh,vQ a0),(.sh,.int .i64 a1),(.sh,vC a2)] (Eo (.tup [vAB r.1,.bool r.2]) zcj):=by
 apply pFz 53 [] [] [] [.cell 6 88,.tmp 7] hr zHX Tryz.func46;intro Φ hΦ hF g;unfold zcz at hF;refine wW ?_;refine wE hF zkr fun z1 hF=>?_
 refine wK [1,3,5,6,8,9] ?_;refine wJK hF [6,8] (fun x4=>[(50,.v (.bool x4))]) (fun x4 hF=>?_) fun _ hj2 hF=>?_
 ·refine wI hF (fun h12 hF=>?_) fun h12 hF=>?_
  ·exact wl hΦ hF
  cases hΦ _ (zaa hF)
  iterate 2 refine wW ?_
  try simp[go_sem,g]
 refine wZ [k0 0,k0 1,k0 2,k1 3 5,k2 4 5,k0 5,k0 6,k0 7,k1 8 5,k2 9 5,k2 10 3,k1 11 8,k2 12 8,k3 13,k0 14,k0 15,k0 16,k1 17 8,k2 18 8,k1 19 3,k2 20 3,k0 21,k3 22,k0 23,k0 24,k0 25,k1 26 3,k2 27 3,k0 28,k1 29 3,k2 30 3,k2 31 8,k3 32,k0 33,k0 34] follows ?_;refine wH hF (fun h5 hF=>?_) fun h5 hF=>?_
 ·exact wV h5 (hj2 _) (zaa hF)
 try simp[go_sem,g,h5]
 refine wH hF (fun h6 hF=>?_) fun h6 hF=>?_
 ·exact wV h6 (hj2 _) (zaa hF)
 try simp[go_sem,g,h6]
 refine wE hF zna fun z7 hF=>?_
 try simp[go_sem,g,h6]
 refine wH hF (fun h8 hF=>?_) fun h8 hF=>?_
 ·exact wV h8 (hj2 _) (zaa hF)
 try simp[go_sem,g,h8]
 refine wE hF zaM fun z9 hF=>?_
 try simp[go_sem,g,h8]
 refine wH hF (fun h10 hF=>?_) fun h10 hF=>?_
 ·exact wV h10 (hj2 _) (zaa hF)
 try simp[go_sem,g,h10]
 refine wE hF zkS fun z11 hF=>?_
 exact wV h10 (hj2 _) (zaa hF)
def zeu(a0:Int):Option Bool:=
 some (decide (a0<0))
theorem zhI{a0 r}(hr:zeu a0=some r):PCalls Tryz.prog 48 [(.sh,.int .i64 a0)] (Eo (.bool r) [.junk]):=by
 apply pF 5 [] [] [] [.tmp 2] hr zKR Tryz.func48;intro Φ hΦ hF g;unfold zeu at hF;cases hΦ _ (zaa hF)
 iterate 2 refine wW ?_
 try simp[go_sem,g]
def zaR(a0:List Int):Option Int:=
 ((zau (σ:=Unit) (fun i5 s4=>
 (ix a0 i5).bind fun x11=>
 (zeu x11).bind fun z12=>
 if z12=true then(
 some (.out (.inr i5)))else(
 some (.go ()))) (fun s4=>.inl ()) (a0.length) 0 ():Option (Unit ⊕ Int)).bind (Sum.elim (fun x3=>
 some (-1)) some))
theorem zfb{a0 r}(hr:zaR a0=some r):PCalls Tryz.prog 86 [(.sh,vA a0),(.sh,.func (.func 48) [] [])] (Eo (.int .i64 r) zak):=by
 apply pF 19 [] [] [] [.tmp 4] hr zuB Tryz.func86;intro Φ hΦ hF g;unfold zaR at hF
 iterate 2 (try simp[go_sem,g];try intros;refine zap ?_)
 refine wS hF (fun x3=>[]) (fun x3 hF=>?_) fun _ hj1 hr2 hF=>?_
 ·exact wl hΦ hF
 refine wB ?_;obtain⟨b14,hb15,hψ8⟩:=hF;refine pRK hb15 [0,1,7] (fun i5 s4=>[(8,.v (.int .i64 i5))]) (fun s4 _ hN16=>?_) fun i5 s4 _ _ hi9 hi10 ho6 hg7 hF=>?_
 ·exact wn hN16 (hj1 _) hψ8
 refine wW ?_;refine wu hi9 hi10 ?_;refine wW ?_;refine wB ?_;obtain⟨x11,g,hF⟩:=Rx g hF;refine wW ?_;refine wE hF zhI fun z12 hF=>?_
 refine wK [0,1,5,7,8,16] ?_;refine wI hF (fun h13 hF=>?_) fun h13 hF=>?_
 ·cases ho6 _ (zaa hF);cases hΦ _ (hr2 _ hψ8);refine wW ?_;try simp[go_sem,g]
 refine wW ?_;exact wi hi9 hi10 (hg7 _) (zaa hF)
def zaI(a0:List Int):Option ((List Int)):=
 (zaR a0).bind fun z1=>
 if(z1==(-1))=true then(
 some a0)else(
 ((zax (σ:=(List Int)×Int×Int) (fun s19=>
 if decide (s19.2.2<(s19.1.length:Int))=true then(
 (((ix s19.1 s19.2.2).bind fun x28=>
 (zeu x28).bind fun z29=>
 if(!z29)=true then(
 (ix s19.1 s19.2.1).bind fun x31=>
 some (s19.1.set s19.2.1.toNat x28,i64.wrap (s19.2.1+1)))else(
 some (s19.1,s19.2.1)):Option ((List Int×Int))).bind fun x27=>
 some (.go (x27.1,x27.2,i64.wrap (s19.2.2+1)))))else(
 some (.out (s19.1,s19.2.1)))) (a0,z1,i64.wrap (z1+1)):Option ((List Int×Int))).bind fun x5=>
 gd (0≤x5.2)<|
 gd (x5.2.toNat≤x5.1.length∧x5.1.length≤x5.1.length)<|
 gd (x5.2.toNat<x5.1.length∧x5.1.length≤x5.1.length)<|
 (some (x5.1.take x5.2.toNat++(List.replicate (x5.1.length-x5.2.toNat) 0++x5.1.drop x5.1.length))).bind fun x34=>
 gd (0≤x5.2)<|
 gd (0≤x5.2.toNat∧x5.2.toNat≤x34.length)<|
 some (x34.take x5.2.toNat)))
theorem zey{a0 r}(hr:zaI a0=some r):PCalls Tryz.prog 47 [(.mv,vG a0),(.sh,.func (.func 48) [] [])] (Eo (vG r) zak):=by
 apply pF 42 [] [] [1000000] [.tmp 4] hr zIJ Tryz.func47;intro Φ hΦ hF g;unfold zaI at hF;refine wW ?_;refine wE hF zfb fun z1 hF=>?_
 iterate 2 refine wW ?_
 refine wI hF (fun h2 hF=>?_) fun h2 hF=>?_
 ·exact wl hΦ hF
 refine wW ?_;refine wK [0,1,5,6] ?_;refine wJ hF (fun x5=>[(0,.v (vG x5.1)),(5,.v (.int .i64 x5.2))]) (fun x5 hF=>?_) fun _ hj3 hF=>?_
 ·obtain⟨g,hF⟩:=Rg g hF
  iterate 2 obtain⟨g,hF⟩:=Rg g hF
  obtain⟨x34,e35,hF⟩:=zdL hF;try simp[go_sem,g]
  refine zAI (rows2:=x34.map zaf) (by simp) (by(try (conv=>lhs;simp[go_sem,g]))<;>rfl) (by(try (conv=>lhs;simp[go_sem]))<;>rfl) (by(try (conv=>lhs;simp[go_sem,g]))<;>rfl) (by simp[go_sem,g]) (by injection e35 with e35;rw[←e35];simp[go_sem]) ?_
  iterate 2 obtain⟨g,hF⟩:=Rg g hF
  cases hΦ _ (zaa hF)
  iterate 2 refine wW ?_
  try simp[go_sem,g]
 refine wB ?_;obtain⟨b32,hb33,hψ23⟩:=hF;refine pL hb33 (fun s19=>[(0,.v (vG s19.1)),(1,.v (.func (.func 48) [] [])),(5,.v (.int .i64 s19.2.1)),(6,.v (.int .i64 s19.2.2))]) fun s19 _ _ ho21 hg22 hF=>?_
 try simp[go_sem,g]
 try intros
 refine zap ?_;refine wI hF (fun h24 hF=>?_) fun h24 hF=>?_
 ·refine wW ?_;refine wJK hF [1,6] (fun x27=>[(0,.v (vG x27.1)),(5,.v (.int .i64 x27.2))]) (fun x27 hF=>?_) fun _ hj25 hF=>?_
  ·exact wT (hg22 _) (zaa hF)
  refine wB ?_;obtain⟨x28,g,hF⟩:=Rx g hF;refine wW ?_;refine wE hF zhI fun z29 hF=>?_
  refine wK [0,1,5,6,7,29] ?_;refine wI hF (fun h30 hF=>?_) fun h30 hF=>?_
  ·obtain⟨x31,g,hF⟩:=Rx g hF;refine wW ?_;exact wT (hj25 _) (zaa hF)
  exact wT (hj25 _) (zaa hF)
 cases ho21 _ (zaa hF);exact wT (hj3 _) hψ23
def zdW(a0:Plan)(a1:Int)(a2:Board):Option ((List Int)):=
 (zbl [(-1)] a0.Voters).bind fun z1=>
 ((zau (σ:=(List Int)) (fun i21 s20=>
 (((ix a2.Entries i21).bind fun x30=>
 if(x30.Kind==4)=true then(
 some (.inr (.out s20)))else(
 (zcz a0 a1 x30).bind fun z32=>
 if z32.2=true then(
 (ix s20 z32.1.Voter).bind fun x34=>
 some (.inl (s20.set z32.1.Voter.toNat i21)))else(
 some (.inl s20))):Option ((List Int) ⊕ (Stp (List Int) (List Int)))).bind (Sum.elim (fun x29=>
 some (.go x29)) some))) (fun s20=>s20) (a2.Entries.length) 0 z1:Option ((List Int))).bind fun x4=>
 (zaI x4).bind fun z39=>
 some z39)
theorem zlI{a0 a1 a2 r}(hr:zdW a0 a1 a2=some r):PCalls Tryz.prog 26 [(.sh,vQ a0),(.sh,.int .i64 a1),(.sh,vE a2)] (Eo (vG r) zcj):=by
 apply pF 43 [] [] [] [.tmp 6] hr zHY Tryz.func26;intro Φ hΦ hF g;unfold zdW at hF;refine wW ?_;refine wE hF zg6 fun z1 hF=>?_
 try simp[go_sem,g]
 try intros
 refine zap ?_;try simp[go_sem,g]
 try intros
 refine wK [1,3,7,17,18,19] ?_;refine wJ hF (fun x4=>[(7,.v (vG x4))]) (fun x4 hF=>?_) fun _ hj2 hF=>?_
 ·refine wC hF [.mv,.sh] zey fun z39 hF=>?_
  exact wl hΦ hF
 refine wB ?_;obtain⟨b35,hb36,hψ24⟩:=hF;refine pRK hb36 [1,3,17,18] (fun i21 s20=>[(7,.v (vG s20)),(19,.v (.int .i64 i21))]) (fun s20 _ hN37=>?_) fun i21 s20 _ _ hi25 hi26 ho22 hg23 hF=>?_
 ·exact wn hN37 (hj2 _) hψ24
 refine wW ?_;refine wu hi25 hi26 ?_;refine wW ?_;refine wSK hF [1,3,17,18,19] (fun x29=>[(7,.v (vG x29))]) (fun x29 hF=>?_) fun _ hj27 hr28 hF=>?_
 ·exact wi hi25 hi26 (hg23 _) (zaa hF)
 refine wB ?_;obtain⟨x30,g,hF⟩:=Rx g hF;refine wW ?_;refine wK [1,3,7,8,9,17,18,19,26] ?_;refine wI hF (fun h31 hF=>?_) fun h31 hF=>?_
 ·cases ho22 _ (hr28 _ (zaa hF));exact wT (hj2 _) hψ24
 refine wW ?_;refine wE hF zl7 fun z32 hF=>?_
 refine wK [1,3,7,8,10,11,17,18,19] ?_;refine wW ?_;refine wI hF (fun h33 hF=>?_) fun h33 hF=>?_
 ·obtain⟨x34,g,hF⟩:=Rx g hF;exact wT (hj27 _) (zaa hF)
 exact wT (hj27 _) (zaa hF)
def zb4(a0:Group)(a1:Board):Option (List Int×Bool):=
 (zbX a0 a1).bind fun z1=>
 if(!z1.2)=true then(
 some ([],false))else(
 (zbK a0 a1).bind fun z3=>
 (ix z1.1 0).bind fun x4=>
 (zeB a0 z3.1).bind fun z5=>
 (zdW z5 x4 a1).bind fun z6=>
 some (z6,true))
theorem zhJ{a0 a1 r}(hr:zb4 a0 a1=some r):PCalls Tryz.prog 17 [(.sh,vF a0),(.sh,vE a1)] (Eo (.tup [vG r.1,.bool r.2]) zak):=by
 apply pF 32 [] [] [] [.tmp 4,.tmp 5] hr zJ1 Tryz.func17;intro Φ hΦ hF g;unfold zb4 at hF;refine wW ?_;refine wE hF zlP fun z1 hF=>?_
 refine wK [2,3,6,7] ?_;refine wW ?_;refine wI hF (fun h2 hF=>?_) fun h2 hF=>?_
 ·exact wl hΦ hF
 refine wW ?_;refine wE hF zh4 fun z3 hF=>?_
 refine wK [2,3,6,8] ?_;refine wZ [k2 0 2,k2 1 8,k0 3,k0 4,k0 5,k2 6 3,fun _=>⟨2,[24,25],[],none,false,true,false⟩,k3 7,k0 8,k0 9] follows ?_;obtain⟨x4,g,hF⟩:=Rxn g 0 hF;refine wD hF zlD fun z5 hF=>?_
 refine wE hF zlI fun z6 hF=>?_
 refine wK [4,5] ?_;exact wm hΦ hF
def zbE(a0:List Int)(a1:List Int):Option Bool:=
 if((a0.length:Int) !=(a1.length:Int))=true then(
 some false)else(
 ((zax (σ:=Int) (fun s5=>
 if decide (s5<(a0.length:Int))=true then(
 (ix a0 s5).bind fun x11=>
 (ix a1 s5).bind fun x12=>
 if(x11 !=x12)=true then(
 some (.out (.inr false)))else(
 some (.go (i64.wrap (s5+1)))))else(
 some (.out (.inl ())))) 0:Option (Unit ⊕ Bool)).bind (Sum.elim (fun x4=>
 some true) some)))
theorem zdN{a0 a1 r}(hr:zbE a0 a1=some r):PCalls Tryz.prog 10 [(.sh,vA a0),(.sh,vA a1)] (Eo (.bool r) zak):=by
 apply pF 26 [] [] [] [.tmp 4] hr zKs Tryz.func10;intro Φ hΦ hF g;unfold zbE at hF
 iterate 2 (try simp[go_sem,g];try intros;refine zap ?_)
 refine wI hF (fun h1 hF=>?_) fun h1 hF=>?_
 ·exact wl hΦ hF
 iterate 2 refine wW ?_
 refine wS hF (fun x4=>[]) (fun x4 hF=>?_) fun _ hj2 hr3 hF=>?_
 ·exact wl hΦ hF
 refine wB ?_;obtain⟨b14,hb15,hψ9⟩:=hF;refine pLK hb15 [0,1] (fun s5=>[(5,.v (.int .i64 s5))]) fun s5 _ _ ho7 hg8 hF=>?_
 try simp[go_sem,g]
 try intros
 refine wK [0,1,5,14] ?_;refine wI hF (fun h10 hF=>?_) fun h10 hF=>?_
 ·refine wW ?_;refine wB ?_;refine wZ [k0 0,k0 1,k0 2,k0 3,k0 4,k0 5,k0 6,k0 7,k0 8] follows ?_;obtain⟨x11,g,hF⟩:=Rx g hF;obtain⟨x12,g,hF⟩:=Rx g hF;refine wW ?_;refine wI hF (fun h13 hF=>?_) fun h13 hF=>?_
  ·refine wK [4] ?_;cases ho7 _ (zaa hF);cases hΦ _ (hr3 _ hψ9);try simp[go_sem,g]
  refine wW ?_;exact wT (hg8 _) (zaa hF)
 cases ho7 _ (zaa hF);exact wT (hj2 _) hψ9
def zfF(a0:Proof)(a1:Proof):Option Bool:=
 (zbE a0.Commits a1.Commits).bind fun z1=>
 if(!z1)=true then(
 some false)else(
 (zbE a0.Challenges a1.Challenges).bind fun z3=>
 if(!z3)=true then(
 some false)else(
 (zbE a0.Responses a1.Responses).bind fun z5=>
 if(!z5)=true then(
 some false)else(
 some true)))
theorem zpl{a0 a1 r}(hr:zfF a0 a1=some r):PCalls Tryz.prog 90 [(.sh,vB a0),(.sh,vB a1)] (Eo (.bool r) zak):=by
 apply pF 23 [] [] [] [.tmp 4] hr zJR Tryz.func90;intro Φ hΦ hF g;unfold zfF at hF;refine wW ?_;refine wE hF zdN fun z1 hF=>?_
 refine wW ?_;refine wI hF (fun h2 hF=>?_) fun h2 hF=>?_
 ·refine wK [4] ?_;exact wm hΦ hF
 refine wW ?_;refine wE hF zdN fun z3 hF=>?_
 refine wK [2,3,16] ?_;refine wI hF (fun h4 hF=>?_) fun h4 hF=>?_
 ·exact wl hΦ hF
 refine wW ?_;refine wE hF zdN fun z5 hF=>?_
 refine wW ?_;refine wI hF (fun h6 hF=>?_) fun h6 hF=>?_
 ·exact wl hΦ hF
 cases hΦ _ (zaa hF)
 iterate 2 refine wW ?_
 try simp[go_sem,g]
def zfN(a0:Entry)(a1:Entry):Option Bool:=
 if(a0.Kind !=a1.Kind)=true then(
 some false)else(
 if(a0.Author !=a1.Author)=true then(
 some false)else(
 (zbE a0.Data a1.Data).bind fun z3=>
 if(!z3)=true then(
 some false)else(
 (zfF a0.Sign a1.Sign).bind fun z5=>
 if(!z5)=true then(
 some false)else(
 some true))))
theorem zo4{a0 a1 r}(hr:zfN a0 a1=some r):PCalls Tryz.prog 52 [(.sh,vC a0),(.sh,vC a1)] (Eo (.bool r) zak):=by
 apply pF 27 [] [] [] [.tmp 4] hr zGV Tryz.func52;intro Φ hΦ hF g;unfold zfN at hF
 iterate 2 refine wW ?_
 refine wI hF (fun h1 hF=>?_) fun h1 hF=>?_
 ·exact wl hΦ hF
 refine wW ?_;refine wK [2,3,14] ?_;refine wI hF (fun h2 hF=>?_) fun h2 hF=>?_
 ·exact wl hΦ hF
 refine wW ?_;refine wE hF zdN fun z3 hF=>?_
 refine wW ?_;refine wI hF (fun h4 hF=>?_) fun h4 hF=>?_
 ·exact wl hΦ hF
 refine wW ?_;refine wE hF zpl fun z5 hF=>?_
 refine wK [26] ?_;refine wI hF (fun h6 hF=>?_) fun h6 hF=>?_
 ·exact wl hΦ hF
 cases hΦ _ (zaa hF)
 iterate 2 refine wW ?_
 try simp[go_sem,g]
def zgo(a0:List Entry)(a1:List Entry):Option Bool:=
 if((a0.length:Int) !=(a1.length:Int))=true then(
 some false)else(
 ((zax (σ:=Int) (fun s5=>
 if decide (s5<(a0.length:Int))=true then(
 (ix a0 s5).bind fun x11=>
 (ix a1 s5).bind fun x12=>
 (zfN x11 x12).bind fun z13=>
 if(!z13)=true then(
 some (.out (.inr false)))else(
 some (.go (i64.wrap (s5+1)))))else(
 some (.out (.inl ())))) 0:Option (Unit ⊕ Bool)).bind (Sum.elim (fun x4=>
 some true) some)))
theorem zol{a0 a1 r}(hr:zgo a0 a1=some r):PCalls Tryz.prog 28 [(.sh,vD a0),(.sh,vD a1)] (Eo (.bool r) zak):=by
 apply pF 27 [] [] [] [.tmp 4] hr zHA Tryz.func28;intro Φ hΦ hF g;unfold zgo at hF
 iterate 2 (try simp[go_sem,g];try intros;refine zap ?_)
 refine wI hF (fun h1 hF=>?_) fun h1 hF=>?_
 ·exact wl hΦ hF
 iterate 2 refine wW ?_
 refine wS hF (fun x4=>[]) (fun x4 hF=>?_) fun _ hj2 hr3 hF=>?_
 ·exact wl hΦ hF
 refine wB ?_;obtain⟨b15,hb16,hψ9⟩:=hF;refine pLK hb16 [0,1] (fun s5=>[(5,.v (.int .i64 s5))]) fun s5 _ _ ho7 hg8 hF=>?_
 try simp[go_sem,g]
 try intros
 refine wK [0,1,5,14] ?_;refine wI hF (fun h10 hF=>?_) fun h10 hF=>?_
 ·refine wW ?_;refine wB ?_;refine wZ [k0 0,k0 1,k0 2,k0 3,k0 4,k0 5,k0 6,k0 7,k3 8,k0 9] follows ?_;obtain⟨x11,g,hF⟩:=Rx g hF;obtain⟨x12,g,hF⟩:=Rx g hF;refine wE hF zo4 fun z13 hF=>?_
  refine wK [0,1,5,26] ?_;refine wI hF (fun h14 hF=>?_) fun h14 hF=>?_
  ·cases ho7 _ (zaa hF);cases hΦ _ (hr3 _ hψ9);refine wW ?_;try simp[go_sem,g]
  refine wW ?_;exact wT (hg8 _) (zaa hF)
 cases ho7 _ (zaa hF);exact wT (hj2 _) hψ9
def zfC(a0:Board)(a1:Board):Option Bool:=
 (zbE a0.Keys a1.Keys).bind fun z1=>
 if(!z1)=true then(
 some false)else(
 (zgo a0.Entries a1.Entries).bind fun z3=>
 if(!z3)=true then(
 some false)else(
 some true))
theorem zpQ{a0 a1 r}(hr:zfC a0 a1=some r):PCalls Tryz.prog 11 [(.sh,vE a0),(.sh,vE a1)] (Eo (.bool r) zak):=by
 apply pF 17 [] [] [] [.tmp 4] hr zHj Tryz.func11;intro Φ hΦ hF g;unfold zfC at hF;refine wW ?_;refine wE hF zdN fun z1 hF=>?_
 refine wW ?_;refine wI hF (fun h2 hF=>?_) fun h2 hF=>?_
 ·refine wK [4] ?_;exact wm hΦ hF
 refine wW ?_;refine wE hF zol fun z3 hF=>?_
 refine wK [16] ?_;refine wI hF (fun h4 hF=>?_) fun h4 hF=>?_
 ·exact wl hΦ hF
 cases hΦ _ (zaa hF)
 iterate 2 refine wW ?_
 try simp[go_sem,g]
def zaL(a0:List Int)(a1:Int):Option (Int×List Int):=
 ((zax (σ:=(List Int)×Int×Int) (fun s11=>
 if decide (s11.2.2<(s11.1.length:Int))=true then(
 (ix s11.1 s11.2.2).bind fun x17=>
 some (.go (s11.1.set s11.2.2.toNat s11.2.1,i64.wrap (s11.2.1+1),i64.wrap (s11.2.2+1))))else(
 some (.out (s11.1,s11.2.1)))) (a0,a1,0):Option ((List Int×Int))).bind fun x3=>
 some (x3.2,x3.1))
theorem zcH{a0 a1 r}(hr:zaL a0 a1=some r):PCalls Tryz.prog 13 [(.io,vG a0),(.sh,.int .i64 a1)] (Eo (.int .i64 r.1) [vG r.2,.junk]):=by
 apply pF 19 [0] [] [] [.tmp 4] hr zIX Tryz.func13;intro Φ hΦ hF g;unfold zaL at hF
 iterate 2 refine wW ?_
 refine wJ hF (fun x3=>[(0,.v (vG x3.1)),(1,.v (.int .i64 x3.2))]) (fun x3 hF=>?_) fun _ hj1 hF=>?_
 ·exact wl hΦ hF
 refine wB ?_;obtain⟨b18,hb19,hψ15⟩:=hF;refine pL hb19 (fun s11=>[(0,.v (vG s11.1)),(1,.v (.int .i64 s11.2.1)),(5,.v (.int .i64 s11.2.2))]) fun s11 _ _ ho13 hg14 hF=>?_
 try simp[go_sem,g]
 try intros
 refine zap ?_;refine wI hF (fun h16 hF=>?_) fun h16 hF=>?_
 ·refine wW ?_;refine wB ?_;obtain⟨x17,g,hF⟩:=Rx g hF;refine wK [0,1,5] ?_;refine wW ?_;exact wT (hg14 _) (zaa hF)
 cases ho13 _ (zaa hF);exact wT (hj1 _) hψ15
def zc6(a0:List Entry)(a1:Int):Option (Int×List Entry):=
 ((zax (σ:=(List Entry)×Int×Int) (fun s15=>
 if decide (s15.2.2<(s15.1.length:Int))=true then(
 (ix s15.1 s15.2.2).bind fun x21=>
 (zaL x21.Data (i64.wrap ((i64.wrap (s15.2.1+1))+1))).bind fun z22=>
 (zaL x21.Sign.Commits z22.1).bind fun z23=>
 (zaL x21.Sign.Challenges z23.1).bind fun z24=>
 (zaL x21.Sign.Responses z24.1).bind fun z25=>
 some (.go ((((((s15.1.set s15.2.2.toNat (Entry.mk s15.2.1 x21.Author x21.Data x21.Sign)).set s15.2.2.toNat (Entry.mk s15.2.1 (i64.wrap (s15.2.1+1)) x21.Data x21.Sign)).set s15.2.2.toNat (Entry.mk s15.2.1 (i64.wrap (s15.2.1+1)) z22.2 x21.Sign)).set s15.2.2.toNat (Entry.mk s15.2.1 (i64.wrap (s15.2.1+1)) z22.2 (Proof.mk z23.2 x21.Sign.Challenges x21.Sign.Responses))).set s15.2.2.toNat (Entry.mk s15.2.1 (i64.wrap (s15.2.1+1)) z22.2 (Proof.mk z23.2 z24.2 x21.Sign.Responses))).set s15.2.2.toNat (Entry.mk s15.2.1 (i64.wrap (s15.2.1+1)) z22.2 (Proof.mk z23.2 z24.2 z25.2)),z25.1,i64.wrap (s15.2.2+1))))else(
 some (.out (s15.1,s15.2.1)))) (a0,a1,0):Option ((List Entry×Int))).bind fun x3=>
 some (x3.2,x3.1))
theorem zkn{a0 a1 r}(hr:zc6 a0 a1=some r):PCalls Tryz.prog 29 [(.io,vJ a0),(.sh,.int .i64 a1)] (Eo (.int .i64 r.1) [vJ r.2,.junk]):=by
 apply pF 58 [0] [] [] [.tmp 4] hr zI1 Tryz.func29;intro Φ hΦ hF g;unfold zc6 at hF
 iterate 2 refine wW ?_
 refine wJ hF (fun x3=>[(0,.v (vJ x3.1)),(1,.v (.int .i64 x3.2))]) (fun x3 hF=>?_) fun _ hj1 hF=>?_
 ·exact wl hΦ hF
 refine wB ?_;obtain⟨b26,hb27,hψ19⟩:=hF;refine pL hb27 (fun s15=>[(0,.v (vJ s15.1)),(1,.v (.int .i64 s15.2.1)),(5,.v (.int .i64 s15.2.2))]) fun s15 _ _ ho17 hg18 hF=>?_
 try simp[go_sem,g]
 try intros
 refine zap ?_;refine wI hF (fun h20 hF=>?_) fun h20 hF=>?_
 ·refine wW ?_;refine wB ?_;obtain⟨x21,g,hF⟩:=Rx g hF;refine wK [0,1,5] ?_
  iterate 2 refine wW ?_
  refine wK [0,1,5] ?_;refine wC hF [.io,.sh] zcH fun z22 hF=>?_
  refine wW ?_;refine wC hF [.io,.sh] zcH fun z23 hF=>?_
  refine wK [0,1,5] ?_;refine wC hF [.io,.sh] zcH fun z24 hF=>?_
  refine wW ?_;refine wC hF [.io,.sh] zcH fun z25 hF=>?_
  refine wK [0,1,5] ?_;exact wT (hg18 _) (zaa hF)
 cases ho17 _ (zaa hF);exact wT (hj1 _) hψ19
def zdn(a0:Board)(a1:Int):Option Int:=
 (zaL a0.Keys a1).bind fun z1=>
 (zc6 a0.Entries z1.1).bind fun z2=>
 some z2.1
theorem zku{a0 a1 r}(hr:zdn a0 a1=some r):PCalls Tryz.prog 12 [(.mv,vK a0),(.sh,.int .i64 a1)] (Eo (.int .i64 r) zak):=by
 apply pF 14 [] [] [] [.tmp 4] hr zI7 Tryz.func12;intro Φ hΦ hF g;unfold zdn at hF;refine wW ?_;refine wC hF [.io,.sh] zcH fun z1 hF=>?_
 refine wW ?_;refine wC hF [.io,.sh] zkn fun z2 hF=>?_
 refine wK [1] ?_;exact wl hΦ hF
def zet(a0:List Int)(a1:Int):Option Int:=
 ((zax (σ:=Int×Int) (fun s4=>
 if decide (s4.2<(a0.length:Int))=true then(
 (ix a0 s4.2).bind fun x10=>
 if(x10 !=s4.1)=true then(
 some (.out (.inr (-1))))else(
 some (.go (i64.wrap (s4.1+1),i64.wrap (s4.2+1)))))else(
 some (.out (.inl s4.1)))) (a1,0):Option (Int ⊕ Int)).bind (Sum.elim (fun x3=>
 some x3) some))
theorem zjW{a0 a1 r}(hr:zet a0 a1=some r):PCalls Tryz.prog 14 [(.sh,vA a0),(.sh,.int .i64 a1)] (Eo (.int .i64 r) zak):=by
 apply pF 21 [] [] [] [.tmp 4] hr zK5 Tryz.func14;intro Φ hΦ hF g;unfold zet at hF
 iterate 2 refine wW ?_
 refine wS hF (fun x3=>[(1,.v (.int .i64 x3))]) (fun x3 hF=>?_) fun _ hj1 hr2 hF=>?_
 ·exact wl hΦ hF
 refine wB ?_;obtain⟨b12,hb13,hψ8⟩:=hF;refine pL hb13 (fun s4=>[(0,.v (vA a0)),(1,.v (.int .i64 s4.1)),(5,.v (.int .i64 s4.2))]) fun s4 _ _ ho6 hg7 hF=>?_
 try simp[go_sem,g]
 try intros
 refine zap ?_;refine wI hF (fun h9 hF=>?_) fun h9 hF=>?_
 ·refine wW ?_;refine wB ?_;obtain⟨x10,g,hF⟩:=Rx g hF;refine wK [0,1,5,17] ?_;refine wI hF (fun h11 hF=>?_) fun h11 hF=>?_
  ·cases ho6 _ (zaa hF);cases hΦ _ (hr2 _ hψ8);refine wW ?_;try simp[go_sem,g]
  iterate 2 refine wW ?_
  exact wT (hg7 _) (zaa hF)
 cases ho6 _ (zaa hF);exact wT (hj1 _) hψ8
def zb2(a0:Group)(a1:Board):Option Bool:=
 (zgQ a1 1048576).bind fun z1=>
 if decide (z1<0)=true then(
 some true)else(
 (zeU a0).bind fun z3=>
 (zdl a1).bind fun z4=>
 (zcr z3 z4).bind fun z5=>
 (zdl a1).bind fun z6=>
 (zeU a0).bind fun z7=>
 (zb4 z7 z6).bind fun z8=>
 (((zbE z8.1 z5.1).bind fun z12=>
 if(!z12)=true then(
 some true)else(
 some (z8.2 !=z5.2)):Option Bool).bind fun x11=>
 if x11=true then(
 some false)else(
 (zdl a1).bind fun z15=>
 (zfC z6 z15).bind fun z16=>
 if(!z16)=true then(
 some false)else(
 (zdn z6 1).bind fun z18=>
 ((if decide (z18<0)=true then(
 some true)else(
 (zbE z8.1 z5.1).bind fun z23=>
 if(!z23)=true then(
 some true)else(
 some (z8.2 !=z5.2))):Option Bool).bind fun x21=>
 if x21=true then(
 some false)else(
 (zaL z8.1 1).bind fun z26=>
 (zet z26.2 1).bind fun z27=>
 if decide (z27<0)=true then(
 some false)else(
 if(z27 !=z26.1)=true then(
 some false)else(
 (zeU a0).bind fun z30=>
 (zdl a1).bind fun z31=>
 (zb4 z30 z31).bind fun z32=>
 (((zbE z32.1 z5.1).bind fun z36=>
 if(!z36)=true then(
 some true)else(
 some (z32.2 !=z5.2)):Option Bool).bind fun x35=>
 if x35=true then(
 some false)else(
 (zet z26.2 1).bind fun z39=>
 if decide (z39<0)=true then(
 some false)else(
 if(z39 !=z26.1)=true then(
 some false)else(
 some true))))))))))))
set_option maxHeartbeats 1000000 in
theorem zir{a0 a1 r}(hr:zb2 a0 a1=some r):PCalls Tryz.prog 4 [(.sh,.agg [.int .i64 a0.P,.int .i64 a0.Q,.int .i64 a0.G]),(.sh,.agg [.sl false 1 (a1.Keys.map zaf),.sl false 6 (a1.Entries.map zby)])] (Eo (.bool r) zak):=by
 apply pF 104 [] [] [] [.tmp 4] hr cl4 Tryz.func4;intro Φ hΦ hF g;unfold zb2 at hF
 iterate 2 refine wW ?_
 refine wE hF zo7 fun z1 hF=>?_
 refine wW ?_;refine wK [2,3,20] ?_;refine wI hF (fun h2 hF=>?_) fun h2 hF=>?_
 ·exact wl hΦ hF
 refine wW ?_;refine wZ [k2 0 2,k2 2 3,k3 1,k3 3,k3 4,k0 5,k0 6,k0 7,k0 8,k0 9] follows ?_;refine wE hF ziy fun z3 hF=>?_
 refine wE hF zgS fun z4 hF=>?_
 refine wE hF zkI fun z5 hF=>?_
 refine wK [2,3,6,7] ?_;refine wE hF zgS fun z6 hF=>?_
 refine wW ?_;refine wZ [k2 0 2,k2 2 8,k3 1,k3 3,k0 4,k0 5,k0 6,k0 7,k0 8] follows ?_;refine wE hF ziy fun z7 hF=>?_
 refine wE hF zhJ fun z8 hF=>?_
 refine wK [2,3,6,7,8,9,10] ?_;refine wJK hF [2,3,6,7,8,9,10] (fun x11=>[(46,.v (.bool x11))]) (fun x11 hF=>?_) fun _ hj9 hF=>?_
 ·refine wI hF (fun h14 hF=>?_) fun h14 hF=>?_
  ·exact wl hΦ hF
  refine wW ?_;refine wZ [k2 0 8,k2 1 3,k3 2,k3 3,k0 4] follows ?_;refine wE hF zgS fun z15 hF=>?_
  refine wE hF zpQ fun z16 hF=>?_
  refine wW ?_;refine wI hF (fun h17 hF=>?_) fun h17 hF=>?_
  ·exact wl hΦ hF
  iterate 2 refine wW ?_
  refine wC hF [.mv,.sh] zku fun z18 hF=>?_
  refine wK [2,3,6,7,9,10,11] ?_;refine wJK hF [2,3,6,7,9] (fun x21=>[(67,.v (.bool x21))]) (fun x21 hF=>?_) fun _ hj19 hF=>?_
  ·refine wI hF (fun h25 hF=>?_) fun h25 hF=>?_
   ·exact wl hΦ hF
   iterate 2 refine wW ?_
   refine wC hF [.io,.sh] zcH fun z26 hF=>?_
   iterate 2 refine wW ?_
   refine wE hF zjW fun z27 hF=>?_
   refine wK [2,3,6,7,9,12,13] ?_;refine wW ?_;refine wI hF (fun h28 hF=>?_) fun h28 hF=>?_
   ·exact wl hΦ hF
   iterate 2 refine wW ?_
   refine wI hF (fun h29 hF=>?_) fun h29 hF=>?_
   ·exact wl hΦ hF
   refine wW ?_;refine wZ [k2 0 2,k2 2 3,k3 1,k3 3,k3 4,k0 5,k0 6,k0 7,k0 8,k0 9] follows ?_;refine wE hF ziy fun z30 hF=>?_
   refine wE hF zgS fun z31 hF=>?_
   refine wE hF zhJ fun z32 hF=>?_
   refine wK [6,7,9,12,14,15] ?_;refine wJK hF [9,12] (fun x35=>[(95,.v (.bool x35))]) (fun x35 hF=>?_) fun _ hj33 hF=>?_
   ·refine wI hF (fun h38 hF=>?_) fun h38 hF=>?_
    ·exact wl hΦ hF
    iterate 2 refine wW ?_
    refine wE hF zjW fun z39 hF=>?_
    iterate 2 refine wW ?_
    refine wI hF (fun h40 hF=>?_) fun h40 hF=>?_
    ·exact wl hΦ hF
    refine wW ?_;refine wK [103] ?_;refine wI hF (fun h41 hF=>?_) fun h41 hF=>?_
    ·exact wl hΦ hF
    cases hΦ _ (zaa hF)
    iterate 2 refine wW ?_
    try simp[go_sem,g]
   refine wE hF zdN fun z36 hF=>?_
   refine wG hF (fun h37 hF=>?_) fun h37 hF=>?_
   ·exact wV h37 (hj33 _) (zaa hF)
   exact wV h37 (hj33 _) (zaa hF)
  refine wG hF (fun h22 hF=>?_) fun h22 hF=>?_
  ·exact wV h22 (hj19 _) (zaa hF)
  try simp[go_sem,g,h22]
  refine wE hF zdN fun z23 hF=>?_
  try simp[go_sem,g,h22]
  refine wG hF (fun h24 hF=>?_) fun h24 hF=>?_
  ·exact wV h24 (hj19 _) (zaa hF)
  exact wV h24 (hj19 _) (zaa hF)
 refine wE hF zdN fun z12 hF=>?_
 refine wG hF (fun h13 hF=>?_) fun h13 hF=>?_
 ·exact wV h13 (hj9 _) (zaa hF)
 exact wV h13 (hj9 _) (zaa hF)
end
end Go.Pm
