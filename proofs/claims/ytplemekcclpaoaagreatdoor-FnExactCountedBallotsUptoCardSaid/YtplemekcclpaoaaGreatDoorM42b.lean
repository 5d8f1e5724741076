/-
  Plain functions and their walks. Written by wip/tools/lift.py.
-/
import Derived.Test.YtplemekcclpaoaaGreatDoorM42
namespace Go.Pm
open Go.Am IntKind
open Go.Proofs
set_option maxRecDepth 100000
attribute [local irreducible] pw pwx pw1 pwg qv qz qf
attribute [-simp] List.map_set
set_option linter.unusedSimpArgs false
set_option linter.unusedVariables false
noncomputable section
theorem zlC:∀{a0}{a1}{a2}{r},zdL a0 a1 a2=some r→PCalls Tryz.prog 184 [(.sh,vF a0),(.sh,vQ a1),(.sh,vA a2)] (Eo (vI r) [.junk,.junk,.junk]):=by
 intro a0 a1 a2 r hr;apply pF 26 [] [] [] [.tmp 6] hr zFm Tryz.func184;intro Φ hΦ hF g;unfold zdL at hF
 iterate 3 (try simp[go_sem,g];try intros;refine zap ?_)
 refine wJ hF (fun x3=>[(7,.v (vI x3))]) (fun x3 hF=>?_) fun _ hj1 hF=>?_
 ·exact wl hΦ hF
 refine wB ?_;obtain⟨b13,hb14,hψ8⟩:=hF;refine pRK hb14 [2,3,11,12] (fun i5 s4=>[(7,.v (vI s4)),(13,.v (.int .i64 i5))]) (fun s4 _ hN15=>?_) fun i5 s4 _ _ hi9 hi10 ho6 hg7 hF=>?_
 ·exact wn hN15 (hj1 _) hψ8
 refine wW ?_;refine wu hi9 hi10 ?_;refine wW ?_;refine wB ?_;obtain⟨x11,g,hF⟩:=Rx g hF;refine wK [2,3,7,9,11,12,13] ?_;refine wC hF [.sh,.sh,.sh] zlD fun z12 hF=>?_
 obtain⟨g,hF⟩:=Rg g hF;refine wW ?_;exact wi hi9 hi10 (hg7 _) (zaa hF)
@[go_sem] def zAj:List DE:=[d1 0 [9] 9,d2 1 [15] 9 15,d0 2 [16],d0 3 [2],d0 4 [18],d0 5 [17,19],d0 6 [20],d1 7 [9,21] 9,d2 8 [22,21] 9 22,d0 9 [23,21],d0 10 [24,21],d0 11 [21,25],d0 12 [26],d1 13 [9,27] 9,d2 14 [28,27] 9 28,d0 15 [29,27],d0 16 [2,27],d0 17 [31,27],d0 18 [32,27],d0 19 [33,27],d0 20 [30,34,27],d0 21 [27,35],d0 22 [36],d2 23 [5,37] 5 5,d1 24 [9,37] 9,d2 25 [39,37] 9 39,d3 26 [38,40,37],d0 27 [41,37],d0 28 [37,42],d0 29 [43],d2 30 [5,44] 5 5,d1 31 [9,44] 9,d2 32 [46,44] 9 46,d3 33 [45,47,44],d0 34 [48,44],d0 35 [44,49]]
@[go_sem] def zBf:List DE:=[d2 0 [5] 5 5,d0 1 [1],d0 2 [2],d0 4 [3],d1 5 [9] 9,d2 6 [57] 9 57,d3 3 [54],d0 7 [55,56,58],⟨8,[59],[],none,true,true,true⟩,d3 9 [52,53,60],d0 10 [61],d0 11 [51],d0 12 [51],d0 13 [62],d0 14 [63]]
@[go_sem] def zBu:List DE:=[d0 0 [14],d2 1 [5] 5 5,d1 2 [9] 9,d2 3 [87] 9 87,d0 4 [13],d0 5 [88,89],d0 6 [90],d2 7 [5] 5 5,d0 8 [3],d0 9 [13],d0 10 [93,94],d0 11 [95],d0 12 [11],⟨13,[92,96,97],[],none,false,true,false⟩,d0 14 [91,98],⟨15,[86,99],[],none,true,true,true⟩,d0 16 [85,100]]
def zbR(a0:Group)(a1:ByteArray)(a2:(List (List Int)))(a3:List Int)(a4:Proof):Option Bool:=
 ((if((a4.Commits.length:Int) !=(a2.length:Int))=true then(
 some true)else(
 if((a4.Challenges.length:Int) !=1)=true then(
 some true)else(
 (ix a2 0).bind fun x6=>
 if((a4.Responses.length:Int) !=(x6.length:Int))=true then(
 some true)else(
 (zcl a0 a4.Commits).bind fun z8=>
 if(!z8)=true then(
 some true)else(
 (zca a0 a4.Responses).bind fun z10=>
 some (!z10))))):Option Bool).bind fun x3=>
 if x3=true then(
 some false)else(
 (zbE a2).bind fun z12=>
 (zbE [z12,a3,a4.Commits]).bind fun z13=>
 (zbK a0 a1 z13).bind fun z14=>
 ((if(!z14.2)=true then(
 some true)else(
 (ix a4.Challenges 0).bind fun x19=>
 some (x19 !=z14.1)):Option Bool).bind fun x17=>
 if x17=true then(
 some false)else(
 (zdL a0 a2 a4.Responses).bind fun z21=>
 ((zat (σ:=Unit) (fun i26 s25=>
 (ix z21 i26).bind fun x32=>
 (ix a4.Commits i26).bind fun x33=>
 (ix a3 i26).bind fun x34=>
 (za4 a0 x34 z14.1).bind fun z35=>
 (zaU a0 [x33,z35]).bind fun z36=>
 if(x32 !=z36)=true then(
 some (.out (.inr false)))else(
 some (.go ()))) (fun s25=>.inl ()) (z21.length) 0 ():Option (Unit ⊕ Bool)).bind (Sum.elim (fun x24=>
 some true) some))))))
theorem zgj:∀{a0}{a1}{a2}{a3}{a4}{r},zbR a0 a1 a2 a3 a4=some r→PCalls Tryz.prog 138 [(.sh,vF a0),(.sh,.str a1),(.sh,vQ a2),(.sh,vA a3),(.sh,vB a4)] (Eo (.bool r) [.junk,.junk,.junk,.junk,.junk]):=by
 intro a0 a1 a2 a3 a4 r hr;apply pF 103 [] [368] [] [.tmp 10] hr zEL Tryz.func138;intro Φ hΦ hF g;unfold zbR at hF;refine wW ?_;refine wJK hF [1,2,3,5,9] (fun x3=>[(50,.v (.bool x3))]) (fun x3 hF=>?_) fun _ hj1 hF=>?_
 ·refine wI hF (fun h11 hF=>?_) fun h11 hF=>?_
  ·exact wl hΦ hF
  refine wW ?_;refine wX zBf follows ?_;refine wC hF [.sh] ze4 fun z12 hF=>?_
  refine wC hF [.sh] ze4 fun z13 hF=>?_
  refine wC hF [.sh,.sh,.sh] zg6 fun z14 hF=>?_
  refine wK [2,3,5,9,11,12] ?_;refine wJK hF [2,3,5,9,11] (fun x17=>[(73,.v (.bool x17))]) (fun x17 hF=>?_) fun _ hj15 hF=>?_
  ·refine wI hF (fun h20 hF=>?_) fun h20 hF=>?_
   ·exact wl hΦ hF
   refine wW ?_;refine wC hF [.sh,.sh,.sh] zlC fun z21 hF=>?_
   try simp[go_sem,g]
   try intros
   refine zap ?_;refine wS hF (fun x24=>[]) (fun x24 hF=>?_) fun _ hj22 hr23 hF=>?_
   ·exact wl hΦ hF
   refine wB ?_;obtain⟨b38,hb39,hψ29⟩:=hF;refine pRK hb39 [3,5,9,11,78,79] (fun i26 s25=>[(80,.v (.int .i64 i26))]) (fun s25 _ hN40=>?_) fun i26 s25 _ _ hi30 hi31 ho27 hg28 hF=>?_
   ·exact wn hN40 (hj22 _) hψ29
   refine wW ?_;refine wu hi30 hi31 ?_;refine wW ?_;refine wB ?_;obtain⟨x32,g,hF⟩:=Rx g hF;refine wK [3,5,9,11,13,14,78,79,80] ?_;refine wX zBu follows ?_;obtain⟨x33,g,hF⟩:=Rx g hF;obtain⟨x34,g,hF⟩:=Rx g hF;refine wD hF zct fun z35 hF=>?_
   refine wC hF [.sh,.sh] zcp fun z36 hF=>?_
   refine wK [3,5,9,11,78,79,80,101] ?_;refine wI hF (fun h37 hF=>?_) fun h37 hF=>?_
   ·cases ho27 _ (zaa hF);cases hΦ _ (hr23 _ hψ29);refine wW ?_;try simp[go_sem,g]
   refine wW ?_;exact wi hi30 hi31 (hg28 _) (zaa hF)
  refine wG hF (fun h18 hF=>?_) fun h18 hF=>?_
  ·exact wV h18 (hj15 _) (zaa hF)
  obtain⟨x19,g,hF⟩:=Rxn g 0 hF;exact wV h18 (hj15 _) (zaa hF)
 refine wX zAj follows ?_;try simp[go_sem,g]
 try intros
 refine wH hF (fun h4 hF=>?_) fun h4 hF=>?_
 ·exact wV h4 (hj1 _) (zaa hF)
 try simp[go_sem,g,h4]
 try intros
 refine wH hF (fun h5 hF=>?_) fun h5 hF=>?_
 ·exact wV h5 (hj1 _) (zaa hF)
 obtain⟨x6,g,hF⟩:=Rxn g 0 hF;try simp[go_sem,g,h5]
 try intros
 refine wH hF (fun h7 hF=>?_) fun h7 hF=>?_
 ·exact wV h7 (hj1 _) (zaa hF)
 try simp[go_sem,g,h7]
 refine wC hF [.sh,.sh] zgg fun z8 hF=>?_
 try simp[go_sem,g,h7]
 refine wH hF (fun h9 hF=>?_) fun h9 hF=>?_
 ·exact wV h9 (hj1 _) (zaa hF)
 try simp[go_sem,g,h9]
 refine wC hF [.sh,.sh] zfX fun z10 hF=>?_
 exact wV h9 (hj1 _) (zaa hF)
def zdg(a0:Group)(a1:ByteArray)(a2:Int)(a3:Proof):Option Bool:=
 (zbR a0 a1 [[a0.G]] [a2] a3).bind fun z1=>
 some z1
theorem zkn:∀{a0}{a1}{a2}{a3}{r},zdg a0 a1 a2 a3=some r→PCalls Tryz.prog 124 [(.sh,vF a0),(.sh,.str a1),(.sh,.int .i64 a2),(.sh,vB a3)] (Eo (.bool r) [.junk,.junk,.junk,.junk]):=by
 intro a0 a1 a2 a3 r hr;apply pF 19 [] [] [] [.tmp 8] hr zE1 Tryz.func124;intro Φ hΦ hF g;unfold zdg at hF;refine wW ?_;refine wC hF [.sh,.sh,.sh,.sh,.sh] zgj fun z1 hF=>?_
 refine wK [8] ?_;exact wm hΦ hF
@[go_sem] def zDQ:List DE:=[d0 0 [10],d0 1 [22],d2 2 [4,23] 4 4,d0 3 [9,23],d0 5 [1,23],d1 6 [7,23] 7,d2 7 [28,23] 7 28,d3 4 [25,23],d3 8 [24,26,27,29,23],d0 9 [23,30],d0 10 [31]]
def zds(a0:Group)(a1:Int)(a2:Int)(a3:Entry):Option Bool:=
 (zd5 a3.Kind a3.Author a2 a3.Data).bind fun z1=>
 ((if z1.2=true then(
 (zd0 (⟨#[101,110,116,114,121,32]⟩:ByteArray) z1.1).bind fun z6=>
 (zdg a0 z6 a1 a3.Sign).bind fun z7=>
 some z7)else(
 some false):Option Bool).bind fun x4=>
 some x4)
theorem zlk:∀{a0}{a1}{a2}{a3}{r},zds a0 a1 a2 a3=some r→PCalls Tryz.prog 81 [(.sh,vF a0),(.sh,.int .i64 a1),(.sh,.int .i64 a2),(.sh,vC a3)] (Eo (.bool r) [.junk,.junk,.junk,.junk]):=by
 intro a0 a1 a2 a3 r hr;apply pF 32 [] [] [] [.tmp 8] hr zLt Tryz.func81;intro Φ hΦ hF g;unfold zds at hF;refine wW ?_;refine wC hF [.sh,.sh,.sh,.sh] zmt fun z1 hF=>?_
 refine wK [1,4,7,9,10] ?_;refine wJ hF (fun x4=>[(8,.v (.bool x4))]) (fun x4 hF=>?_) fun _ hj2 hF=>?_
 ·exact wm hΦ hF
 refine wX zDQ follows ?_;refine wH hF (fun h5 hF=>?_) fun h5 hF=>?_
 ·try simp[go_sem,g,h5]
  refine wC hF [.sh,.sh] znM fun z6 hF=>?_
  try simp[go_sem,g,h5]
  refine wC hF [.sh,.sh,.sh,.sh] zkn fun z7 hF=>?_
  exact wV h5 (hj2 _) (zaa hF)
 exact wV h5 (hj2 _) (zaa hF)
@[go_sem] def zFB:List DE:=[d1 0 [6] 6,d2 1 [26] 6 26,d1 2 [3] 3,d2 3 [28] 3 28,d0 4 [29],d0 5 [30],d3 6 [27,31],d0 7 [32],d0 8 [33],d2 9 [2,34] 2 2,d1 10 [3,34] 3,d2 11 [36,34] 3 36,d1 12 [6,34] 6,d2 13 [38,34] 6 38,d0 14 [37,39,34],d0 15 [40,34],d0 16 [5,34],d2 17 [6,34] 6 6,d3 18 [35,41,42,43,34],d0 19 [44,34],d0 20 [34,45]]
def zdx(a0:Group)(a1:Board):Option Bool:=
 (((zdw a0 a1.Keys).bind fun z4=>
 if(!z4)=true then(
 some true)else(
 some (decide (64<(a1.Entries.length:Int)))):Option Bool).bind fun x3=>
 if x3=true then(
 some false)else(
 ((zat (σ:=Unit) (fun i11 s10=>
 (ix a1.Entries i11).bind fun x17=>
 (((zax x17.Author 0 (i64.wrap ((a1.Keys.length:Int)-1))).bind fun z21=>
 if(!z21)=true then(
 some true)else(
 (ix a1.Keys x17.Author).bind fun x23=>
 (zds a0 x23 i11 x17).bind fun z24=>
 some (!z24)):Option Bool).bind fun x20=>
 if x20=true then(
 some (.out (.inr false)))else(
 some (.go ())))) (fun s10=>.inl ()) (a1.Entries.length) 0 ():Option (Unit ⊕ Bool)).bind (Sum.elim (fun x9=>
 some true) some))))
theorem zk4:∀{a0}{a1}{r},zdx a0 a1=some r→PCalls Tryz.prog 44 [(.sh,vF a0),(.sh,vE a1)] (Eo (.bool r) [.junk,.junk]):=by
 intro a0 a1 r hr;apply pF 48 [] [] [] [.tmp 4] hr zKa Tryz.func44;intro Φ hΦ hF g;unfold zdx at hF;refine wW ?_;refine wJK hF [2,3] (fun x3=>[(17,.v (.bool x3))]) (fun x3 hF=>?_) fun _ hj1 hF=>?_
 ·refine wI hF (fun h6 hF=>?_) fun h6 hF=>?_
  ·exact wl hΦ hF
  iterate 2 (try simp[go_sem,g];try intros;refine zap ?_)
  refine wS hF (fun x9=>[]) (fun x9 hF=>?_) fun _ hj7 hr8 hF=>?_
  ·exact wl hΦ hF
  refine wB ?_;obtain⟨b26,hb27,hψ14⟩:=hF;refine pRK hb27 [2,3,19,20] (fun i11 s10=>[(21,.v (.int .i64 i11))]) (fun s10 _ hN28=>?_) fun i11 s10 _ _ hi15 hi16 ho12 hg13 hF=>?_
  ·exact wn hN28 (hj7 _) hψ14
  refine wW ?_;refine wu hi15 hi16 ?_;refine wW ?_;refine wB ?_;obtain⟨x17,g,hF⟩:=Rx g hF;refine wK [2,3,5,6,19,20,21] ?_;refine wJK hF [2,3,19,20,21] (fun x20=>[(46,.v (.bool x20))]) (fun x20 hF=>?_) fun _ hj18 hF=>?_
  ·refine wI hF (fun h25 hF=>?_) fun h25 hF=>?_
   ·cases ho12 _ (zaa hF);cases hΦ _ (hr8 _ hψ14);refine wW ?_;try simp[go_sem,g]
   refine wW ?_;exact wi hi15 hi16 (hg13 _) (zaa hF)
  refine wX zFB follows ?_;try simp[go_sem,g]
  try intros
  refine wC hF [.sh,.sh,.sh] zaQ fun z21 hF=>?_
  refine wH hF (fun h22 hF=>?_) fun h22 hF=>?_
  ·exact wV h22 (hj18 _) (zaa hF)
  obtain⟨x23,g,hF⟩:=Rx g hF;try simp[go_sem,g,h22]
  refine wC hF [.sh,.sh,.sh,.sh] zlk fun z24 hF=>?_
  exact wV h22 (hj18 _) (zaa hF)
 refine wC hF [.sh,.sh] zld fun z4 hF=>?_
 refine wG hF (fun h5 hF=>?_) fun h5 hF=>?_
 ·exact wV h5 (hj1 _) (zaa hF)
 try simp[go_sem,g,h5]
 try intros
 exact wT (hj1 _) (zaa hF)
@[go_sem] def zE7:List DE:=[d2 0 [2] 2 2,d3 1 [5],d0 2 [6],d1 3 [3,7] 3,d2 4 [8,7] 3 8,d0 5 [9,7],d2 6 [2,7] 2 2,d3 7 [11,7],d0 8 [10,12,7],d0 9 [7,13],d0 10 [14],d1 11 [2,15] 2,d2 12 [16,15] 2 16,d2 13 [3,15] 3 3,d3 14 [17,18,15],d0 15 [15,19],d0 16 [20]]
def zc7(a0:Plan)(a1:Board):Option Bool:=
 (((zee a0).bind fun z4=>
 if z4=true then(
 (zeZ a0).bind fun z6=>
 if((a1.Keys.length:Int)==z6)=true then(
 (zdx a0.Gr a1).bind fun z8=>
 some z8)else(
 some false))else(
 some false):Option Bool).bind fun x3=>
 some x3)
theorem znq:∀{a0}{a1}{r},zc7 a0 a1=some r→PCalls Tryz.prog 25 [(.sh,vH a0),(.sh,vE a1)] (Eo (.bool r) [.junk,.junk]):=by
 intro a0 a1 r hr;apply pF 21 [] [] [] [.tmp 4] hr zKD Tryz.func25;intro Φ hΦ hF g;unfold zc7 at hF;refine wW ?_;refine wJ hF (fun x3=>[(4,.v (.bool x3))]) (fun x3 hF=>?_) fun _ hj1 hF=>?_
 ·exact wm hΦ hF
 refine wX zE7 follows ?_;refine wC hF [.sh] zmq fun z4 hF=>?_
 refine wH hF (fun h5 hF=>?_) fun h5 hF=>?_
 ·try simp[go_sem,g,h5]
  try intros
  refine wC hF [.sh] zls fun z6 hF=>?_
  try simp[go_sem,g,h5]
  refine wH hF (fun h7 hF=>?_) fun h7 hF=>?_
  ·try simp[go_sem,g,h7]
   refine wC hF [.sh,.sh] zk4 fun z8 hF=>?_
   exact wV h7 (hj1 _) (zaa hF)
  exact wV h7 (hj1 _) (zaa hF)
 exact wV h5 (hj1 _) (zaa hF)
def zxa:FV→Bool
 | .v _=>true
 |_=>false
theorem zvJ{P:Program}{nt:Nat}{d q:Tmp}{ty:TypeId}{s:String}{af:Array Edge}{gu:Option (Nat×Bool)}{K:FR→AH→Prop}{fr:FR}{H:AH}(h:zxa (fr q)=true):ahp P nt ⟨some d,.move (.tmp q),ty,s,af,gu⟩ K fr H=False:=by
 refine eq_false fun⟨a,b,h1,_⟩=>?_
 rw[h1.2.2.1]at h;cases h
set_option maxHeartbeats 2000000 in
theorem zDe(n:Nat)(hn:n≤1000000)(H:AH):ACalls Tryz.prog 127 [.int .u64 1,.int .u64 n] H (fun v H'=>v=.tuple #[.int .u64 0,.int .u64 n]∧H'=H):=by
 refine zgr zEz Tryz.func127 rfl rfl (by simp[Tryz.f127]) fun hw=>?_
 simp[↓zvJ,zxa,Tryz.f127,awp,zd9,aop,ahp,zaA,zaI,zaF,mat,zaN,zao,zhQ,FR.put,FR.init,rdv,rda,zaZ,zbI,zai];simp[zlI,zhn,zif,zj0,FR.put]
 have w:∀m:Int,0≤m→m≤1000000→u64.wrap m=m:=fun m h1 h2=>by
  have:u64.wrap m=m%18446744073709551616:=by simp[wrap,signed];rfl
  rw[this];omega
 have a1:n%2^u64.bits&&&4294967295%2^u64.bits=n:=by
  show n%18446744073709551616&&&(2^32-1)=n;rw[Nat.and_two_pow_sub_one_eq_mod];omega
 have a2:1%2^u64.bits&&&4294967295%2^u64.bits=1:=by decide
 have f1:Int.fdiv 1 (2^min 32 u64.bits)=0:=by decide
 have f2:(n:Int).fdiv (2^min 32 u64.bits)=0:=by
  show(n:Int).fdiv 4294967296=0;rw[Int.fdiv_eq_ediv_of_nonneg _ (by omega)];omega
 have f3:Int.fdiv 0 (2^min 32 u64.bits)=0:=by decide
 have w1:=w n (by omega) (by omega);have w2:=w 1 (by omega) (by omega);have w3:=w 0 (by omega) (by omega);have a3:((0:Int)%2^u64.bits).toNat&&&4294967295%2^u64.bits=0:=by decide
 simp[a1,a2,f1,f2,f3,w1,w2,w3,a3]
theorem zJQ(n:Nat)(hn:n≤1000000)(H:AH):ACalls Tryz.prog 82 [.int .u64 1,.int .u64 n] H (fun v H'=>v=.tuple #[.int .u64 0,.int .u64 n]∧H'=H):=by
 refine zgr zHC Tryz.func82 rfl rfl (by simp[Tryz.f82]) fun hw=>?_
 simp[↓zvJ,zxa,Tryz.f82,awp,zd9,aop,ahp,zaA,zaI,zaF,mat,zaN,zao,zhQ,FR.put,FR.init,rdv,rda,zaZ,zbI,zai];refine(zDe n hn H).mono fun v H' hv=>?_
 obtain⟨rfl,rfl⟩:=hv;simp[zlI,zhn,zif,zj0,FR.put]
def zyI:List DE:=[d0 0 [8],d0 1 [7],d0 2 [8],d0 3 [39,40],d0 4 [7],d0 5 [8],d0 6 [42,43],d3 7 [41,44],d0 8 [38,45],d0 9 [46]]
theorem zCE:zBa Tryz.prog 45:=by
 intro id off c n k a H hk ha hid hc h1 hn;have e1:zav Tryz.prog 28=some 3:=by kernel_rfl
 have e2:tsz Tryz.prog 3=some (false,1,8,[.int .i64 0]):=by kernel_rfl
 refine zgr zA4 Tryz.func45 rfl rfl (by simp[Tryz.f45]) fun hw=>?_
 have a1:(0:Int)≤(n:Int):=by omega
 have a2:¬(n:Int)<0:=by omega
 have a6:decide (9223372036854775807<(n:Int))=false:=by simp;omega
 have a3:i64.wrap ((n:Nat):Int)=(n:Int):=by rw[wrap_i64];omega
 have a4:u64.wrap ((n:Nat):Int)=(n:Int):=by
  have:∀m:Int,u64.wrap m=m%18446744073709551616:=fun m=>by simp[wrap,signed];rfl
  rw[this];omega
 have a5:u64.wrap 1=1:=by decide
 have i1:zc2 Tryz.prog 130=some .u64:=by kernel_rfl
 have i2:zc2 Tryz.prog 3=some .i64:=by kernel_rfl
 have i3:zgU Tryz.prog 3=false:=by kernel_rfl
 have i4:zgU Tryz.prog 130=false:=by kernel_rfl
 have k1:∀m:Int,ziw Tryz.prog 3 130 (.int .i64 m)=some (.int .u64 (u64.wrap m)):=fun m=>by simp[ziw,i1,i2]
 have k2:∀m:Int,ziw Tryz.prog 130 3 (.int .u64 m)=some (.int .i64 (i64.wrap m)):=fun m=>by simp[ziw,i1,i2]
 generalize hQ:zlI _ _ _=Q
 repeat refine zgB ?_
 refine zfp (by simp[awp,zd9,aop,ahp,zaA,zaI,zaF,mat,zaN,zao,FR.init,zai];first|exact⟨rfl,rfl⟩|exact⟨rfl,rfl,rfl⟩) ?_
 repeat refine zgB ?_
 refine zfp (by simp[awp,zd9,aop,ahp,zaA,zaI,zaF,mat,zaN,zao,FR.put,FR.init,rdv,rda,zaZ,zbI,zai,a2];first|exact⟨rfl,rfl⟩|exact⟨rfl,rfl,rfl⟩) ?_
 repeat refine zgB ?_
 refine zfp (by simp[awp,FR.put,rdv,zai,a2,a6];first|exact⟨rfl,rfl⟩|exact⟨rfl,rfl,rfl⟩) ?_
 repeat refine zgB ?_
 refine zfp (by
  simp[awp,zd9,aop,ahp,zaA,zaI,zaF,mat,zaN,zao,FR.put,FR.init,rdv,rda,zaZ,zbI,zai,a2,a3,a4,a5,Am.lenV,e1,k1,i3];refine(zJQ n hn H).mono fun v H' hv=>?_
  obtain⟨rfl,rfl⟩:=hv
  first|exact⟨rfl,rfl⟩|exact⟨rfl,rfl,rfl⟩) ?_
 repeat refine zgB ?_
 refine zfp (by simp[awp,zd9,aop,ahp,zaA,zaI,zaF,mat,zaN,zao,FR.put,FR.init,rdv,rda,zaZ,zbI,zai,zev,a2,a3,a4,a5,a6];first|exact⟨rfl,rfl⟩|exact⟨rfl,rfl,rfl⟩) ?_
 repeat refine zgB ?_
 refine zfp (by simp[awp,FR.put,rdv,zai,a2,a6];first|exact⟨rfl,rfl⟩|exact⟨rfl,rfl,rfl⟩) ?_
 repeat refine zgB ?_
 have b1:8*(n:Int)≤140737488355328:=by omega
 have b2:(n:Int)≤4611686018427387904:=by omega
 have b3:(8*(n:Int)≤140737488355328∧(n:Int)≤4611686018427387904):=⟨b1,b2⟩
 have hz:(List.replicate n [Value.int i64 0]).flatten=List.replicate n (.int .i64 0):=by simp
 refine zfp (H':=H.push ⟨true,List.replicate n (.int .i64 0)⟩) (by
  simp[awp,zd9,aop,ahp,zaA,zaI,zaF,mat,zaN,zao,FR.put,FR.init,rdv,rda,zaZ,zbI,zai,a1,a2,a3,a4,a5,e1,e2,k2,i4,b1,b2,hz]
  exact rfl) ?_
 let B:Nat→Blk:=fun m=>⟨true,List.replicate m (.int .i64 a)++List.replicate (n-m) (.int .i64 0)⟩
 have hps:∀x y,(H.push x).set H.n (some y)=H.push y:=fun x y=>by
  simp only[AH.push,AH.set,AH.mk.injEq,true_and];funext i;split<;>rfl
 have hid':id≠H.n:=by omega
 have hl1:∀x,(H.push x).load id off=some (k.cells.drop off):=fun x=>by simp[AH.push,AH.load,hid',hk]
 have hd:k.cells.drop off=.int .i64 a::k.cells.drop (off+1):=by
  obtain⟨h,e⟩:=List.getElem?_eq_some_iff.1 ha;rw[List.drop_eq_getElem_cons h,e]
 have hb1:∀x,(H.push x).b H.n=some x:=fun x=>by simp[AH.push]
 have hp1:zbO (List.replicate n (.int .i64 0)) 0 [.int .i64 a]=some (B 1).cells:=by
  obtain⟨m,rfl⟩:∃m,n=m+1:=⟨n-1,by omega⟩
  simp[List.replicate_succ,zbO,B]
 have h1n:¬n=0:=by omega
 have hmin:min 1 n=1:=by omega
 repeat refine zgB ?_
 refine zfp (H':=H.push (B 1)) (by
  simp[awp,zd9,aop,ahp,zaA,zaI,zaF,mat,zaN,zao,FR.put,FR.init,rdv,rda,zaZ,zbI,zai,zdI,zgN,zd2,e1,e2,hl1,hd,hb1,hmin,h1n,h1,hp1]
  exact⟨rfl,hps _ _⟩) ?_
 repeat refine zgB ?_
 refine zxn (I:=fun f g=>f 7=.v (.slice (some ⟨H.n,0,some 1⟩) n n)∧g=H.push (B n)) ?_ ?_
 ·show awp Tryz.prog _ (.loop _) (ziO 0 _) _ _;refine zAi (n:=n) (fun m f g=>1≤m∧f 7=.v (.slice (some ⟨H.n,0,some 1⟩) n n)∧f 8=.v (.int .i64 (m:Int))∧g=H.push (B m)) ?_ h1 ⟨Nat.le_refl _,by simp[FR.put],by simp[FR.put],rfl⟩;rintro m f g hm ⟨m1,h7,h8,rfl⟩;refine⟨(FR.put (fun _=>jv) 7 (.v (.slice (some ⟨H.n,0,some 1⟩) n n))).put 8 (.v (.int .i64 (m:Int))),fun t=>?_,?_⟩
  ·by_cases t8:t=8
   ·subst t8;simp[FR.put,h8]
   by_cases t7:t=7
   ·subst t7;simp[FR.put,h7]
   right;simp[FR.put,t7,t8]
  repeat refine zgB ?_
  refine zfp (H':=H.push (B m)) (by
   simp[awp,zd9,aop,ahp,zaA,zaI,zaF,mat,zaN,zao,FR.put,FR.init,rdv,rda,zaZ,zbI,zai,e1,e2,Am.lenV]
   exact rfl) ?_
  repeat refine zgB ?_
  by_cases hmn:m<n
  ·have hmn':decide ((m:Int)<(n:Int))=true:=by simpa using hmn
   refine zfp (H':=H.push (B m)) (by
    simp[awp,FR.put,rdv,hmn]
    exact rfl) ?_
   show awp Tryz.prog _ (.region 9 _ true) (ziO 1 _) _ _;simp only[awp,if_true];refine⟨follows,0,zyI,by kernel_rfl,?_⟩;have f1:(0:Int)≤(m:Int):=by omega
   have f3:¬(n-m=0):=by omega
   have f4:¬(m=0):=by omega
   have hld:(H.push (B m)).load H.n 0=some (B m).cells:=by simp[AH.load,hb1]
   have hT:zgN m (B m).cells=some (List.replicate m (.int .i64 a)):=by
    rw[zhy (by simp[B])];simp[B]
   simp[zyI,d0,d3,dops,dop,gop,zkK,zdt,okL,okS,okR,DE.ex,awp,zhQ,zd9,aop,ahp,zaA,zaI,zaF,mat,zaN,zao,FR.put,rdv,rda,zaZ,zbI,zai,e1,e2,Am.lenV,zeS,zcM,bnd,zlO,zdI,f1,f3,f4,hm,hld,hT,hb1,zd2];obtain⟨q,hq⟩:∃q,q=min m (n-m):=⟨_,rfl⟩
   rw[←hq];have q0:0<q:=by omega
   have q1:m+q≤n:=by omega
   have hw1:i64.wrap ((m:Int)+(q:Int))=((m+q:Nat):Int):=by rw[wrap_i64];omega
   have hput:zbO (B m).cells m (List.replicate q (.int .i64 a))=some (B (m+q)).cells:=by
    have hne:List.replicate q (Value.int .i64 a)≠[]:=by
     intro e0;have:=congrArg List.length e0;simp at this;omega
    obtain⟨r,hr⟩:=zhu (cs:=(B m).cells) (n:=m) hne (by simp[B];omega);rw[hr];rcases zgO hr with⟨h,_⟩|⟨_,rfl⟩
    ·exact absurd h hne
    ·congr 1;simp only[B,List.length_replicate];rw[List.take_append_of_le_length (by simp),List.take_of_length_le (by simp),List.drop_append,List.drop_of_length_le (by simp),List.nil_append,List.length_replicate,List.drop_replicate,List.replicate_append_replicate];congr 2;omega
   refine⟨⟨rfl,q0⟩,?_⟩;rw[hput,hw1];refine⟨m+q,by omega,q1,by omega,by simp[FR.put],by simp[FR.put],?_⟩;rw[show(⟨true,(B (m+q)).cells⟩:Blk)=B (m+q)from rfl];exact hps _ _
  have e:m=n:=by omega
  subst e;refine zw2 ?_;simp[awp,FR.put,rdv,ziO]
 rintro f g ⟨h7,rfl⟩;subst hQ;have hB:B n=⟨true,List.replicate n (.int .i64 a)⟩:=by simp[B]
 simp[awp,zd9,aop,ahp,zaA,zaI,zaF,mat,zaN,zao,zhQ,FR.put,rdv,rda,zai,h7,zlI,zhn,zif,zj0,Tryz.f45,hB]
def zbl(a0:List Int)(a1:Int):Option (List Int):=
 gd (a0.length=1∧1≤a1∧a1≤1000000)<|
 some (List.replicate a1.toNat (a0.headD 0))
theorem zgW{a0:List Int}{a1:Int}{r:List Int}(hr:zbl a0 a1=some r):PCalls Tryz.prog 45 [(.sh,.sl false 1 (a0.map zaf)),(.sh,.int .i64 a1)] (Eo (.sl true 1 (r.map zaf)) [.junk,.junk]):=by
 have hF:Rn _ (fun x=>x=r):=⟨r,hr,rfl⟩
 unfold zbl at hF;obtain⟨⟨g0,g1,g2⟩,hF⟩:=zff hF;have h1:=zaa hF;subst h1;obtain⟨n,rfl⟩:=Int.eq_ofNat_of_zero_le (by omega:0≤a1);obtain⟨x,rfl⟩:=List.length_eq_one_iff.1 g0;rw[show(List.replicate (n:Int).toNat ([x].headD 0)).map zaf=List.replicate n [.int .i64 x]from by rw[List.map_replicate];rfl];exact zvQ (md:=.sh) zCE zA4 (fun E x v h=>⟨none,h⟩) (by omega) (by omega)
def zer(a0:Plan)(a1:ByteArray)(a2:Int)(a3:Int):Option ((List Int)):=
 ((zau (σ:=(List Int)×Int) (fun s4=>
 if decide (s4.2<a3)=true then(
 (zbv a1 [a0.Seed,a2,s4.2]).bind fun z10=>
 gd (a0.Gr.Q≠0)<|
 gd ((s4.1.length+1)*8≤140737488355328∧s4.1.length+1≤4611686018427387904)<|
 some (.go (s4.1++[z10.1.tmod a0.Gr.Q],i64.wrap (s4.2+1))))else(
 some (.out s4.1))) ([],0):Option ((List Int))).bind fun x3=>
 some x3)
theorem zmX:∀{a0}{a1}{a2}{a3}{r},zer a0 a1 a2 a3=some r→PCalls Tryz.prog 49 [(.sh,vH a0),(.sh,.str a1),(.sh,.int .i64 a2),(.sh,.int .i64 a3)] (Eo (vI r) [.junk,.junk,.junk,.junk]):=by
 intro a0 a1 a2 a3 r hr;apply pF 38 [] [] [] [.tmp 8] hr zJL Tryz.func49;intro Φ hΦ hF g;unfold zer at hF
 iterate 3 refine wW ?_
 refine wJ hF (fun x3=>[(9,.v (vI x3))]) (fun x3 hF=>?_) fun _ hj1 hF=>?_
 ·exact wl hΦ hF
 refine wB ?_;obtain⟨b11,hb12,hψ8⟩:=hF;refine pLK hb12 [1,2,4,14] (fun s4=>[(9,.v (vI s4.1)),(15,.v (.int .i64 s4.2))]) fun s4 _ _ ho6 hg7 hF=>?_
 refine wW ?_;refine wI hF (fun h9 hF=>?_) fun h9 hF=>?_
 ·refine wW ?_;refine wB ?_;refine wW ?_;refine wC hF [.sh,.sh] ze0 fun z10 hF=>?_
  refine wK [1,2,4,9,11,14,15] ?_;obtain⟨g,hF⟩:=Rz g hF;obtain⟨g,hF⟩:=Rg g hF;refine wW ?_;exact wT (hg7 _) (zaa hF)
 cases ho6 _ (zaa hF);exact wT (hj1 _) hψ8
@[go_sem] def zFb:List DE:=[d0 0 [3],d0 1 [5],d1 2 [1] 1,d2 3 [30] 1 30,d0 4 [3],d0 5 [5],d0 6 [32,33],d0 7 [34],d1 8 [1] 1,d2 9 [36] 1 36,d1 10 [1] 1,d1 11 [38] 1,d2 12 [39] 1 39,d0 13 [6],⟨14,[37,40,41],[],none,false,true,false⟩,d0 15 [35,42],⟨16,[31,43],[],none,true,true,true⟩,d0 17 [28,29],d0 18 [45,44]]
def zdN(a0:Plan):Option ((List Int)):=
 (zbl [1] a0.Threshold).bind fun z1=>
 ((zau (σ:=(List Int)×Int) (fun s41=>
 if decide (s41.2≤a0.Trustees)=true then(
 (((zer a0 (⟨#[100,101,97,108]⟩:ByteArray) s41.2 a0.Threshold).bind fun z50=>
 zat (σ:=(List Int)) (fun i63 s62=>
 (ix z50 i63).bind fun x69=>
 (ix s62 i63).bind fun x70=>
 (za4 a0.Gr a0.Gr.G x69).bind fun z71=>
 (zaU a0.Gr [x70,z71]).bind fun z72=>
 some (.go (s62.set i63.toNat z72))) (fun s62=>s62) (z50.length) 0 s41.1:Option ((List Int))).bind fun x49=>
 some (.go (x49,i64.wrap (s41.2+1)))))else(
 some (.out s41.1))) (z1,1):Option ((List Int))).bind fun x4=>
 some x4)
theorem zlw:∀{a0}{r},zdN a0=some r→PCalls Tryz.prog 27 [(.sh,vH a0)] (Eo (vI r) [.junk]):=by
 intro a0 r hr;apply pF 48 [] [] [] [.tmp 2] hr zLx Tryz.func27;intro Φ hΦ hF g;unfold zdN at hF;refine wW ?_;refine wC hF [.sh,.sh] zgW fun z1 hF=>?_
 iterate 2 refine wW ?_
 refine wJ hF (fun x4=>[(3,.v (vI x4))]) (fun x4 hF=>?_) fun _ hj2 hF=>?_
 ·refine wK [2] ?_;exact wm hΦ hF
 refine wB ?_;obtain⟨b77,hb78,hψ45⟩:=hF;refine pL hb78 (fun s41=>[(1,.bl [.int .i64 a0.Gr.P,.int .i64 a0.Gr.Q,.int .i64 a0.Gr.G,.int .i64 a0.Ct.Kind,.int .i64 a0.Ct.Options,.int .i64 a0.Ct.Least,.int .i64 a0.Ct.Most,.int .i64 a0.Ct.Points,.int .i64 a0.Threshold,.int .i64 a0.Trustees,.int .i64 a0.Mixers,.int .i64 a0.Voters,.int .i64 a0.Seed]),(3,.v (vI s41.1)),(4,.v (.int .i64 s41.2))]) fun s41 _ _ ho43 hg44 hF=>?_
 refine wK [1,3,4,14] ?_;refine wI hF (fun h46 hF=>?_) fun h46 hF=>?_
 ·refine wW ?_;refine wJK hF [1,4] (fun x49=>[(3,.v (vI x49))]) (fun x49 hF=>?_) fun _ hj47 hF=>?_
  ·exact wT (hg44 _) (zaa hF)
  refine wB ?_;refine wC hF [.sh,.sh,.sh,.sh] zmX fun z50 hF=>?_
  try simp[go_sem,g]
  try intros
  refine zap ?_;refine wB ?_;obtain⟨b73,hb74,hψ66⟩:=hF;refine pRK hb74 [1,4,21,22] (fun i63 s62=>[(3,.v (vI s62)),(23,.v (.int .i64 i63))]) (fun s62 _ hN75=>?_) fun i63 s62 _ _ hi67 hi68 ho64 hg65 hF=>?_
  ·exact wn hN75 (hj47 _) hψ66
  refine wW ?_;refine wu hi67 hi68 ?_;refine wW ?_;refine wB ?_;obtain⟨x69,g,hF⟩:=Rx g hF;refine wK [1,3,4,5,6,21,22,23] ?_;refine wX zFb follows ?_;obtain⟨x70,g,hF⟩:=Rx g hF;refine wD hF zct fun z71 hF=>?_
  refine wC hF [.sh,.sh] zcp fun z72 hF=>?_
  refine wK [1,3,4,21,22,23] ?_;exact wi hi67 hi68 (hg65 _) (zaa hF)
 cases ho43 _ (zaa hF);exact wT (hj2 _) hψ45
def zcP(a0:List Int):Option Bool:=
 ((if decide ((a0.length:Int)≤400)=true then(
 (zaY a0).bind fun z5=>
 some z5)else(
 some false):Option Bool).bind fun x3=>
 some x3)
theorem zgl:∀{a0}{r},zcP a0=some r→PCalls Tryz.prog 169 [(.sh,vA a0)] (Eo (.bool r) [.junk]):=by
 intro a0 r hr;apply pF 10 [] [] [] [.tmp 2] hr zEk Tryz.func169;intro Φ hΦ hF g;unfold zcP at hF;refine wW ?_;refine wJ hF (fun x3=>[(2,.v (.bool x3))]) (fun x3 hF=>?_) fun _ hj1 hF=>?_
 ·exact wm hΦ hF
 try simp[go_sem,g]
 try intros
 refine wG hF (fun h4 hF=>?_) fun h4 hF=>?_
 ·try simp[go_sem,g,h4]
  refine wC hF [.sh,.sh] zdV fun z5 hF=>?_
  exact wV h4 (hj1 _) (zaa hF)
 exact wV h4 (hj1 _) (zaa hF)
def zaL(a0c0:List Int)(a0c1:Bool):Option (Int×(List Int×Bool)):=
 if((a0c0.length:Int)==0)=true then(
 some (0,(a0c0,false)))else(
 (ix a0c0 0).bind fun x2=>
 gd (1≤a0c0.length∧a0c0.length≤a0c0.length)<|
 some (x2,((a0c0.take a0c0.length).drop 1,a0c1)))
theorem zb4:∀{a0c0}{a0c1}{r},zaL a0c0 a0c1=some r→PCalls Tryz.prog 170 [(.io,vAB a0c0 a0c1)] (Eo (.int .i64 r.1) [vAB r.2.1 r.2.2]):=by
 intro a0c0 a0c1 r hr;apply pF 28 [0] [] [] [.tmp 2] hr zD5 Tryz.func170;intro Φ hΦ hF g;unfold zaL at hF
 iterate 2 (try simp[go_sem,g];try intros;refine zap ?_)
 refine wI hF (fun h1 hF=>?_) fun h1 hF=>?_
 ·refine wK [0] ?_;exact wl hΦ hF
 obtain⟨x2,g,hF⟩:=Rxn g 0 hF;refine wW ?_;refine wK [0,3] ?_;obtain⟨g,hF⟩:=Rg g hF;refine wW ?_;refine wK [0,2] ?_;exact wm hΦ hF
def zcY(a0:List Int):Option (List Int):=
 gd (a0.length*8≤140737488355328∧a0.length≤4611686018427387904)<|
 some a0
theorem zka{a0:(List Int)}{r:(List Int)}(hr:zcY a0=some r):PCalls Tryz.prog 197 [(.sh,.sl false 1 (a0.map zaf))] (Eo (.sl true 1 (r.map zaf)) [.junk]):=by
 apply zlU 8 [] [] [1000000] [.tmp 2] hr zEv Tryz.func197 rfl rfl rfl
 ·exact⟨by simp,rfl⟩
 intro Φ hΦ hF;unfold zcY at hF;obtain⟨g,hF⟩:=zff hF;have h1:=hΦ _ (zaa hF);subst h1;try simp[go_sem]
 refine zl6 [(0,.v (.sl false 1 (a0.map zaf)))] (by simp[go_sem]) ?_;try simp[go_sem]
 refine ztp rfl rfl (by simp[go_sem]) rfl (by rfl) fun b hb=>?_
 try simp[go_sem]
 refine zap ?_
 repeat rw[zsh]
 cases b
 ·refine zlY (by simp[go_sem]) ?_;try simp[go_sem]
  refine zap ?_;try simp[go_sem,g]
  refine zap ?_;try simp[go_sem,g]
 have hb0:a0=[]:=by
  cases a0 with
  |nil=>rfl
  |cons x l=>exact absurd (hb (by simp)) (by simp)
 subst hb0;refine zjY (by simp[go_sem]) ?_;try simp[go_sem]
 refine zap ?_;try simp[go_sem]
def zaC(a0c0:List Int)(a0c1:Bool):Option (List Int×(List Int×Bool)):=
 (zaL a0c0 a0c1).bind fun z1=>
 (zax z1.1 0 (z1.2.1.length:Int)).bind fun z2=>
 if(!z2)=true then(
 some ([],(z1.2.1,false)))else(
 gd (0≤z1.1)<|
 gd (0≤z1.1.toNat∧z1.1.toNat≤z1.2.1.length)<|
 (zcY ((z1.2.1.take z1.1.toNat).drop 0)).bind fun z4=>
 gd (0≤z1.1)<|
 gd (z1.1.toNat≤z1.2.1.length∧z1.2.1.length≤z1.2.1.length)<|
 some (z4,((z1.2.1.take z1.2.1.length).drop z1.1.toNat,z1.2.2)))
theorem zcN:∀{a0c0}{a0c1}{r},zaC a0c0 a0c1=some r→PCalls Tryz.prog 171 [(.io,vAB a0c0 a0c1)] (Eo (vI r.1) [vAB r.2.1 r.2.2]):=by
 intro a0c0 a0c1 r hr;apply pF 35 [0] [] [] [.tmp 2] hr zEU Tryz.func171;intro Φ hΦ hF g;unfold zaC at hF;refine wW ?_;refine wC hF [.io] zb4 fun z1 hF=>?_
 try simp[go_sem,g]
 try intros
 refine zap ?_;try simp[go_sem,g]
 try intros
 refine wC hF [.sh,.sh,.sh] zaQ fun z2 hF=>?_
 refine wK [0,3,14] ?_;refine wI hF (fun h3 hF=>?_) fun h3 hF=>?_
 ·cases hΦ _ (zaa hF)
  iterate 2 refine wW ?_
  try simp[go_sem,g]
 obtain⟨g,hF⟩:=Rg g hF;obtain⟨g,hF⟩:=Rg g hF;refine wW ?_;refine wC hF [.sh] zka fun z4 hF=>?_
 obtain⟨g,hF⟩:=Rg g hF;obtain⟨g,hF⟩:=Rg g hF;refine wW ?_;refine wK [0,4] ?_;exact wl hΦ hF
def zcD(a0:List Int):Option ((List Int)):=
 gd (([(a0.length:Int)].length+a0.length)*8≤140737488355328∧[(a0.length:Int)].length+a0.length≤4611686018427387904)<|
 some ([(a0.length:Int)]++a0)
theorem zgT:∀{a0}{r},zcD a0=some r→PCalls Tryz.prog 198 [(.sh,vA a0)] (Eo (vI r) [.junk]):=by
 intro a0 r hr;apply pF 8 [] [] [] [.tmp 2] hr zCH Tryz.func198;intro Φ hΦ hF g;unfold zcD at hF;obtain⟨g,hF⟩:=Rg g hF;cases hΦ _ (zaa hF)
 iterate 2 (try simp[go_sem,g];try intros;refine zap ?_)
 try simp[go_sem,g]
 try intros
 try simp[go_sem,g]
def zdD(a0:List Int):Option (List Int×Bool):=
 (zcP a0).bind fun z1=>
 if(!z1)=true then(
 some ([],false))else(
 some (a0,true))
theorem ziQ:∀{a0}{r},zdD a0=some r→PCalls Tryz.prog 199 [(.sh,vA a0)] (Eo (.tup [vA r.1,.bool r.2]) [.junk]):=by
 intro a0 r hr;apply pF 8 [] [2] [] [.tmp 2,.tmp 3] hr zFo Tryz.func199;intro Φ hΦ hF g;unfold zdD at hF;refine wW ?_;refine wC hF [.sh] zgl fun z1 hF=>?_
 refine wW ?_;refine wI hF (fun h2 hF=>?_) fun h2 hF=>?_
 ·exact wl hΦ hF
 cases hΦ _ (zaa hF)
 iterate 2 refine wW ?_
 try simp[go_sem,g]
def zb2(a0:(List (List Int))):Option (List Int×Bool):=
 ((zat (σ:=(List Int)) (fun i5 s4=>
 (ix a0 i5).bind fun x11=>
 (zcD x11).bind fun z12=>
 gd ((s4.length+z12.length)*8≤140737488355328∧s4.length+z12.length≤4611686018427387904)<|
 if decide (400<((s4++z12).length:Int))=true then(
 some (.out (.inr ([],false))))else(
 some (.go (s4++z12)))) (fun s4=>.inl s4) (a0.length) 0 [(a0.length:Int)]:Option ((List Int) ⊕ (List Int×Bool))).bind (Sum.elim (fun x3=>
 (zdD x3).bind fun z18=>
 some (z18.1,z18.2)) some))
theorem ziM:∀{a0}{r},zb2 a0=some r→PCalls Tryz.prog 172 [(.sh,vQ a0)] (Eo (.tup [vA r.1,.bool r.2]) [.junk]):=by
 intro a0 r hr;apply pF 28 [] [2,24] [] [.tmp 2,.tmp 3] hr zC3 Tryz.func172;intro Φ hΦ hF g;unfold zb2 at hF
 iterate 3 (try simp[go_sem,g];try intros;refine zap ?_)
 refine wS hF (fun x3=>[(4,.v (vI x3))]) (fun x3 hF=>?_) fun _ hj1 hr2 hF=>?_
 ·refine wC hF [.sh] ziQ fun z18 hF=>?_
  refine wK [2,3] ?_;exact wm hΦ hF
 refine wB ?_;obtain⟨b14,hb15,hψ8⟩:=hF;refine pRK hb15 [10,11] (fun i5 s4=>[(4,.v (vI s4)),(12,.v (.int .i64 i5))]) (fun s4 _ hN16=>?_) fun i5 s4 _ _ hi9 hi10 ho6 hg7 hF=>?_
 ·exact wn hN16 (hj1 _) hψ8
 refine wK [4,10,11,12,13] ?_;refine wu hi9 hi10 ?_;refine wW ?_;refine wB ?_;obtain⟨x11,g,hF⟩:=Rx g hF;refine wW ?_;refine wC hF [.sh] zgT fun z12 hF=>?_
 obtain⟨g,hF⟩:=Rg g hF;try simp[go_sem,g]
 try intros
 refine zap ?_;try simp[go_sem,g]
 try intros
 refine wK [4,10,11,12,22] ?_;refine wI hF (fun h13 hF=>?_) fun h13 hF=>?_
 ·cases ho6 _ (zaa hF);cases hΦ _ (hr2 _ hψ8);refine wW ?_;try simp[go_sem,g]
 refine wW ?_;exact wi hi9 hi10 (hg7 _) (zaa hF)
def zbk(a0c0:List Int)(a0c1:Bool):Option Bool:=
 ((if a0c1=true then(
 some ((a0c0.length:Int)==0))else(
 some false):Option Bool).bind fun x3=>
 some x3)
theorem ze2:∀{a0c0}{a0c1}{r},zbk a0c0 a0c1=some r→PCalls Tryz.prog 173 [(.sh,.fp [vA a0c0,.bool a0c1])] (Eo (.bool r) [.junk]):=by
 intro a0c0 a0c1 r hr;apply pF 15 [] [] [] [.tmp 2] hr zCX Tryz.func173;intro Φ hΦ hF g;unfold zbk at hF;refine wW ?_;refine wJ hF (fun x3=>[(2,.v (.bool x3))]) (fun x3 hF=>?_) fun _ hj1 hF=>?_
 ·exact wm hΦ hF
 refine wG hF (fun h4 hF=>?_) fun h4 hF=>?_
 ·try simp[go_sem,g,h4]
  try intros
  exact wT (hj1 _) (zaa hF)
 exact wV h4 (hj1 _) (zaa hF)
@[go_sem] def zAv:List DE:=[d0 0 [0],d0 1 [5],d0 2 [16,17],d0 3 [18],d0 4 [1],d0 5 [5],d0 6 [20,21],d0 7 [22],d0 8 [19,23]]
def zbM(a0:List Int)(a1:List Int):Option Bool:=
 if((a0.length:Int) !=(a1.length:Int))=true then(
 some false)else(
 ((zat (σ:=Unit) (fun i6 s5=>
 (ix a0 i6).bind fun x12=>
 (ix a1 i6).bind fun x13=>
 if(x12 !=x13)=true then(
 some (.out (.inr false)))else(
 some (.go ()))) (fun s5=>.inl ()) (a0.length) 0 ():Option (Unit ⊕ Bool)).bind (Sum.elim (fun x4=>
 some true) some)))
theorem zft:∀{a0}{a1}{r},zbM a0 a1=some r→PCalls Tryz.prog 132 [(.sh,vA a0),(.sh,vA a1)] (Eo (.bool r) [.junk,.junk]):=by
 intro a0 a1 r hr;apply pF 26 [] [] [] [.tmp 4] hr zFc Tryz.func132;intro Φ hΦ hF g;unfold zbM at hF
 iterate 2 (try simp[go_sem,g];try intros;refine zap ?_)
 refine wI hF (fun h1 hF=>?_) fun h1 hF=>?_
 ·exact wl hΦ hF
 iterate 2 (try simp[go_sem,g];try intros;refine zap ?_)
 refine wS hF (fun x4=>[]) (fun x4 hF=>?_) fun _ hj2 hr3 hF=>?_
 ·refine wK [4] ?_;exact wm hΦ hF
 refine wB ?_;obtain⟨b15,hb16,hψ9⟩:=hF;refine pRK hb16 [0,1,12] (fun i6 s5=>[(13,.v (.int .i64 i6))]) (fun s5 _ hN17=>?_) fun i6 s5 _ _ hi10 hi11 ho7 hg8 hF=>?_
 ·exact wn hN17 (hj2 _) hψ9
 refine wK [0,1,12,13,14] ?_;refine wu hi10 hi11 ?_;refine wW ?_;refine wB ?_;refine wW ?_;refine wX zAv follows ?_;obtain⟨x12,g,hF⟩:=Rx g hF;obtain⟨x13,g,hF⟩:=Rx g hF;refine wK [0,1,12,13,24] ?_;refine wI hF (fun h14 hF=>?_) fun h14 hF=>?_
 ·cases ho7 _ (zaa hF);cases hΦ _ (hr3 _ hψ9);refine wW ?_;try simp[go_sem,g]
 refine wW ?_;exact wi hi10 hi11 (hg8 _) (zaa hF)
def zbT(a0:List Int):Option ((List (List Int))×Bool):=
 (zcP a0).bind fun z1=>
 (zaL a0 z1).bind fun z2=>
 ((zau (σ:=(List Int×Bool)×(List (List Int))×Int) (fun s20=>
 if decide (s20.2.2<(if(a0.length:Int)<z2.1 then(a0.length:Int)else z2.1))=true then(
 (zaC s20.1.1 s20.1.2).bind fun z26=>
 gd ((s20.2.1.length+1)*24≤140737488355328∧s20.2.1.length+1≤4611686018427387904)<|
 some (.go ((z26.2.1,z26.2.2),s20.2.1++[z26.1],i64.wrap (s20.2.2+1))))else(
 some (.out ((s20.1.1,s20.1.2),s20.2.1)))) ((z2.2.1,z2.2.2),[],0):Option (((List Int×Bool)×(List (List Int))))).bind fun x5=>
 (zb2 x5.2).bind fun z29=>
 (((zbk x5.1.1 x5.1.2).bind fun z33=>
 if(!z33)=true then(
 some true)else(
 if(!z29.2)=true then(
 some true)else(
 (zbM z29.1 a0).bind fun z36=>
 some (!z36))):Option Bool).bind fun x32=>
 if x32=true then(
 some ([],false))else(
 some (x5.2,true))))
theorem zlA:∀{a0}{r},zbT a0=some r→PCalls Tryz.prog 128 [(.sh,vA a0)] (Eo (.tup [vQ r.1,.bool r.2]) [.junk]):=by
 intro a0 r hr;apply pF 46 [] [2,28] [12] [.tmp 2,.tmp 3] hr zDi Tryz.func128;intro Φ hΦ hF g;unfold zbT at hF;refine wW ?_;refine wC hF [.sh] zgl fun z1 hF=>?_
 refine wK [0,4,5] ?_;refine wC hF [.io] zb4 fun z2 hF=>?_
 try simp[go_sem,g]
 try intros
 refine zap ?_;refine wJ hF (fun x5=>[(0,.v (vA a0)),(4,.v (vAB x5.1.1 x5.1.2)),(5,.v (vR x5.2))]) (fun x5 hF=>?_) fun _ hj3 hF=>?_
 ·refine wC hF [.sh] ziM fun z29 hF=>?_
  refine wK [0,4,5,6,7] ?_;refine wJ hF (fun x32=>[(5,.v (vQ x5.2)),(44,.v (.bool x32))]) (fun x32 hF=>?_) fun _ hj30 hF=>?_
  ·refine wI hF (fun h37 hF=>?_) fun h37 hF=>?_
   ·exact wl hΦ hF
   cases hΦ _ (zaa hF)
   iterate 2 refine wW ?_
   try simp[go_sem,g]
  refine wC hF [.sh] ze2 fun z33 hF=>?_
  refine wG hF (fun h34 hF=>?_) fun h34 hF=>?_
  ·exact wV h34 (hj30 _) (zaa hF)
  try simp[go_sem,g,h34]
  refine wG hF (fun h35 hF=>?_) fun h35 hF=>?_
  ·exact wV h35 (hj30 _) (zaa hF)
  try simp[go_sem,g,h35]
  refine wC hF [.sh,.sh] zft fun z36 hF=>?_
  exact wV h35 (hj30 _) (zaa hF)
 refine wB ?_;obtain⟨b27,hb28,hψ24⟩:=hF;refine pLK hb28 [0,18] (fun s20=>[(4,.v (vAB s20.1.1 s20.1.2)),(5,.v (vR s20.2.1)),(19,.v (.int .i64 s20.2.2))]) fun s20 _ _ ho22 hg23 hF=>?_
 refine wW ?_;refine wI hF (fun h25 hF=>?_) fun h25 hF=>?_
 ·refine wW ?_;refine wB ?_;refine wC hF [.io] zcN fun z26 hF=>?_
  obtain⟨g,hF⟩:=Rg g hF;refine wK [0,4,5,18,19] ?_;exact wT (hg23 _) (zaa hF)
 cases ho22 _ (zaa hF);exact wT (hj3 _) hψ24
def zcF(a0:List Cipher):Option (List Int×Bool):=
 ((zat (σ:=(List Int)) (fun i5 s4=>
 (ix a0 i5).bind fun x11=>
 gd ((s4.length+2)*8≤140737488355328∧s4.length+2≤4611686018427387904)<|
 some (.go (s4++[x11.A,x11.B]))) (fun s4=>s4) (a0.length) 0 [(a0.length:Int)]:Option ((List Int))).bind fun x3=>
 (zdD x3).bind fun z16=>
 some (z16.1,z16.2))
theorem zh2:∀{a0}{r},zcF a0=some r→PCalls Tryz.prog 174 [(.sh,vV a0)] (Eo (.tup [vA r.1,.bool r.2]) [.junk]):=by
 intro a0 r hr;apply pF 28 [] [24] [] [.tmp 2,.tmp 3] hr zFH Tryz.func174;intro Φ hΦ hF g;unfold zcF at hF
 iterate 3 (try simp[go_sem,g];try intros;refine zap ?_)
 refine wJ hF (fun x3=>[(4,.v (vI x3))]) (fun x3 hF=>?_) fun _ hj1 hF=>?_
 ·refine wC hF [.sh] ziQ fun z16 hF=>?_
  refine wK [2,3] ?_;exact wm hΦ hF
 refine wB ?_;obtain⟨b12,hb13,hψ8⟩:=hF;refine pRK hb13 [10,11] (fun i5 s4=>[(4,.v (vI s4)),(12,.v (.int .i64 i5))]) (fun s4 _ hN14=>?_) fun i5 s4 _ _ hi9 hi10 ho6 hg7 hF=>?_
 ·exact wn hN14 (hj1 _) hψ8
 refine wK [4,10,11,12,13] ?_;refine wu hi9 hi10 ?_;refine wW ?_;refine wB ?_;obtain⟨x11,g,hF⟩:=Rx g hF;obtain⟨g,hF⟩:=Rg g hF;refine wW ?_;refine wK [4,10,11,12] ?_;exact wi hi9 hi10 (hg7 _) (zaa hF)
def zcc(a0:List Int):Option (List Cipher×Bool):=
 (zcP a0).bind fun z1=>
 (zaL a0 z1).bind fun z2=>
 ((zau (σ:=(List Int×Bool)×List Cipher×Int) (fun s14=>
 if decide (s14.2.2<(if(a0.length:Int)<z2.1 then(a0.length:Int)else z2.1))=true then(
 (zaL s14.1.1 s14.1.2).bind fun z20=>
 (zaL z20.2.1 z20.2.2).bind fun z21=>
 gd ((s14.2.1.length+1)*16≤140737488355328∧s14.2.1.length+1≤4611686018427387904)<|
 some (.go ((z21.2.1,z21.2.2),s14.2.1++[(Cipher.mk z20.1 z21.1)],i64.wrap (s14.2.2+1))))else(
 some (.out ((s14.1.1,s14.1.2),s14.2.1)))) ((z2.2.1,z2.2.2),[],0):Option (((List Int×Bool)×List Cipher))).bind fun x5=>
 (zcF x5.2).bind fun z24=>
 (((zbk x5.1.1 x5.1.2).bind fun z28=>
 if(!z28)=true then(
 some true)else(
 if(!z24.2)=true then(
 some true)else(
 (zbM z24.1 a0).bind fun z31=>
 some (!z31))):Option Bool).bind fun x27=>
 if x27=true then(
 some ([],false))else(
 some (x5.2,true))))
theorem zkO:∀{a0}{r},zcc a0=some r→PCalls Tryz.prog 129 [(.sh,vA a0)] (Eo (.tup [vV r.1,.bool r.2]) [.junk]):=by
 intro a0 r hr;apply pF 49 [] [2,31] [12] [.tmp 2,.tmp 3] hr zEX Tryz.func129;intro Φ hΦ hF g;unfold zcc at hF;refine wW ?_;refine wC hF [.sh] zgl fun z1 hF=>?_
 refine wK [0,4,5] ?_;refine wC hF [.io] zb4 fun z2 hF=>?_
 try simp[go_sem,g]
 try intros
 refine zap ?_;refine wJ hF (fun x5=>[(0,.v (vA a0)),(4,.v (vAB x5.1.1 x5.1.2)),(5,.v (vS x5.2))]) (fun x5 hF=>?_) fun _ hj3 hF=>?_
 ·refine wC hF [.sh] zh2 fun z24 hF=>?_
  refine wK [0,4,5,6,7] ?_;refine wJ hF (fun x27=>[(5,.v (vV x5.2)),(47,.v (.bool x27))]) (fun x27 hF=>?_) fun _ hj25 hF=>?_
  ·refine wI hF (fun h32 hF=>?_) fun h32 hF=>?_
   ·exact wl hΦ hF
   cases hΦ _ (zaa hF)
   iterate 2 refine wW ?_
   try simp[go_sem,g]
  refine wC hF [.sh] ze2 fun z28 hF=>?_
  refine wG hF (fun h29 hF=>?_) fun h29 hF=>?_
  ·exact wV h29 (hj25 _) (zaa hF)
  try simp[go_sem,g,h29]
  refine wG hF (fun h30 hF=>?_) fun h30 hF=>?_
  ·exact wV h30 (hj25 _) (zaa hF)
  try simp[go_sem,g,h30]
  refine wC hF [.sh,.sh] zft fun z31 hF=>?_
  exact wV h30 (hj25 _) (zaa hF)
 refine wB ?_;obtain⟨b22,hb23,hψ18⟩:=hF;refine pLK hb23 [0,18] (fun s14=>[(4,.v (vAB s14.1.1 s14.1.2)),(5,.v (vS s14.2.1)),(19,.v (.int .i64 s14.2.2))]) fun s14 _ _ ho16 hg17 hF=>?_
 refine wW ?_;refine wI hF (fun h19 hF=>?_) fun h19 hF=>?_
 ·refine wW ?_;refine wB ?_;refine wC hF [.io] zb4 fun z20 hF=>?_
  refine wC hF [.io] zb4 fun z21 hF=>?_
  obtain⟨g,hF⟩:=Rg g hF;refine wK [0,4,5,18,19] ?_;exact wT (hg17 _) (zaa hF)
 cases ho16 _ (zaa hF);exact wT (hj3 _) hψ18
def zcs(a0:List Int):Option (Proof×Bool):=
 (zcP a0).bind fun z1=>
 (zaC a0 z1).bind fun z2=>
 (zaC z2.2.1 z2.2.2).bind fun z3=>
 (zaC z3.2.1 z3.2.2).bind fun z4=>
 (zbk z4.2.1 z4.2.2).bind fun z5=>
 if(!z5)=true then(
 some ((Proof.mk [] [] []),false))else(
 some ((Proof.mk z2.1 z3.1 z4.1),true))
theorem zmb:∀{a0}{r},zcs a0=some r→PCalls Tryz.prog 130 [(.sh,vA a0)] (Eo (.tup [vJ r.1,.bool r.2]) [.junk]):=by
 intro a0 r hr;apply pF 23 [] [] [10] [.cell 2 82,.tmp 3] hr zDM Tryz.func130;intro Φ hΦ hF g;unfold zcs at hF;refine wW ?_;refine wC hF [.sh] zgl fun z1 hF=>?_
 refine wW ?_;refine wC hF [.io] zcN fun z2 hF=>?_
 refine wC hF [.io] zcN fun z3 hF=>?_
 refine wC hF [.io] zcN fun z4 hF=>?_
 refine wK [2,4,5] ?_;refine wC hF [.sh] ze2 fun z5 hF=>?_
 refine wW ?_;refine wI hF (fun h6 hF=>?_) fun h6 hF=>?_
 ·exact wl hΦ hF
 cases hΦ _ (zaa hF)
 iterate 2 refine wW ?_
 try simp[go_sem,g]
def zeK(a0:Int):Option Bool:=
 (zax a0 0 999999).bind fun z1=>
 some z1
theorem zkw:∀{a0}{r},zeK a0=some r→PCalls Tryz.prog 134 [(.sh,.int .i64 a0)] (Eo (.bool r) [.junk]):=by
 intro a0 r hr;apply pF 5 [] [] [] [.tmp 2] hr zFl Tryz.func134;intro Φ hΦ hF g;unfold zeK at hF;refine wW ?_;refine wC hF [.sh,.sh,.sh] zaQ fun z1 hF=>?_
 exact wl hΦ hF
def zbh(a0:List Proof):Option (List Proof):=
 gd (a0.length*72≤140737488355328∧a0.length≤4611686018427387904)<|
 some a0
theorem zgC{a0:(List Proof)}{r:(List Proof)}(hr:zbh a0=some r):PCalls Tryz.prog 175 [(.sh,.sl false 3 (a0.map za0))] (Eo (.sl true 3 (r.map za0)) [.junk]):=by
 apply zlU 8 [] [] [1000000] [.tmp 2] hr zDI Tryz.func175 rfl rfl rfl
 ·exact⟨by simp,rfl⟩
 intro Φ hΦ hF;unfold zbh at hF;obtain⟨g,hF⟩:=zff hF;have h1:=hΦ _ (zaa hF);subst h1;try simp[go_sem]
 refine zl6 [(0,.v (.sl false 3 (a0.map za0)))] (by simp[go_sem]) ?_;try simp[go_sem]
 refine ztp rfl rfl (by simp[go_sem]) rfl (by rfl) fun b hb=>?_
 try simp[go_sem]
 refine zap ?_
 repeat rw[zsh]
 cases b
 ·refine zlY (by simp[go_sem]) ?_;try simp[go_sem]
  refine zap ?_;try simp[go_sem,g]
  refine zap ?_;try simp[go_sem,g]
 have hb0:a0=[]:=by
  cases a0 with
  |nil=>rfl
  |cons x l=>exact absurd (hb (by simp)) (by simp)
 subst hb0;refine zjY (by simp[go_sem]) ?_;try simp[go_sem]
 refine zap ?_;try simp[go_sem]
@[go_sem] def zz9:List DE:=[d1 0 [1] 1,d2 1 [4] 1 4,d1 3 [1] 1,d2 4 [7] 1 7,d1 6 [1] 1,d2 7 [10] 1 10,d3 2 [5],d3 5 [8],d3 8 [11],d0 9 [6,9,12],⟨10,[13],[],none,true,true,true⟩,d3 11 [14],d0 12 [15],d0 13 [15],d0 14 [16],d0 15 [17]]
def zed(a0:Proof):Option (List Int×Bool):=
 (zcD a0.Commits).bind fun z1=>
 (zcD a0.Challenges).bind fun z2=>
 (zcD a0.Responses).bind fun z3=>
 (zbE [z1,z2,z3]).bind fun z4=>
 (zdD z4).bind fun z5=>
 some (z5.1,z5.2)
theorem zmk:∀{a0}{r},zed a0=some r→PCalls Tryz.prog 176 [(.sh,vB a0)] (Eo (.tup [vA r.1,.bool r.2]) [.junk]):=by
 intro a0 r hr;apply pF 18 [] [14] [] [.tmp 2,.tmp 3] hr zEW Tryz.func176;intro Φ hΦ hF g;unfold zed at hF;refine wW ?_;refine wX zz9 follows ?_;refine wC hF [.sh] zgT fun z1 hF=>?_
 refine wC hF [.sh] zgT fun z2 hF=>?_
 refine wC hF [.sh] zgT fun z3 hF=>?_
 refine wC hF [.sh] ze4 fun z4 hF=>?_
 refine wC hF [.sh] ziQ fun z5 hF=>?_
 refine wK [2,3] ?_;exact wm hΦ hF
@[go_sem] def zAN:List DE:=[d1 0 [1] 1,d2 1 [36] 1 36,d1 3 [1] 1,d2 4 [39] 1 39,d0 5 [40],d0 8 [],d3 2 [37],⟨6,[38,41],[],none,true,false,false⟩,d0 7 [42]]
def zcU(a0:Sealed):Option (List Int×Bool):=
 (zcF a0.Ciphers).bind fun z1=>
 ((if(!z1.2)=true then(
 some true)else(
 (zeK a0.Voter).bind fun z6=>
 if(!z6)=true then(
 some true)else(
 some (decide (400<(a0.Proofs.length:Int))))):Option Bool).bind fun x4=>
 if x4=true then(
 some ([],false))else(
 (zbh a0.Proofs).bind fun z9=>
 gd ((z9.length+1)*72≤140737488355328∧z9.length+1≤4611686018427387904)<|
 ((zat (σ:=(List (List Int))) (fun i14 s13=>
 (ix (z9++[a0.Sum]) i14).bind fun x22=>
 (zed x22).bind fun z23=>
 if(!z23.2)=true then(
 some (.out (.inr ([],false))))else(
 gd ((s13.length+1)*24≤140737488355328∧s13.length+1≤4611686018427387904)<|
 some (.go (s13++[z23.1])))) (fun s13=>.inl s13) ((z9++[a0.Sum]).length) 0 [[a0.Voter],z1.1]:Option ((List (List Int)) ⊕ (List Int×Bool))).bind (Sum.elim (fun x12=>
 (zb2 x12).bind fun z29=>
 some (z29.1,z29.2)) some))))
theorem zlz:∀{a0}{r},zcU a0=some r→PCalls Tryz.prog 131 [(.sh,vAA a0)] (Eo (.tup [vA r.1,.bool r.2]) [.junk]):=by
 intro a0 r hr;apply pF 64 [] [2,60,227] [] [.tmp 2,.tmp 3] hr zCK Tryz.func131;intro Φ hΦ hF g;unfold zcU at hF;refine wW ?_;refine wC hF [.sh] zh2 fun z1 hF=>?_
 refine wK [1,4,5] ?_;refine wJK hF [1,4] (fun x4=>[(30,.v (.bool x4))]) (fun x4 hF=>?_) fun _ hj2 hF=>?_
 ·refine wI hF (fun h8 hF=>?_) fun h8 hF=>?_
  ·exact wl hΦ hF
  iterate 2 refine wW ?_
  refine wX zAN follows ?_;refine wC hF [.sh] zgC fun z9 hF=>?_
  obtain⟨g,hF⟩:=Rg g hF;try simp[go_sem,g]
  try intros
  refine wK [6,42,43,44] ?_;refine wS hF (fun x12=>[(6,.v (vAD x12))]) (fun x12 hF=>?_) fun _ hj10 hr11 hF=>?_
  ·refine wC hF [.sh] ziM fun z29 hF=>?_
   exact wl hΦ hF
  refine wB ?_;obtain⟨b25,hb26,hψ17⟩:=hF;refine pR hb26 (fun i14 s13=>[(6,.v (vAD s13)),(42,.v (vAC (z9++[a0.Sum]))),(43,.v (.int .i64 ((z9++[a0.Sum]).length:Int))),(44,.v (.int .i64 i14))]) (fun s13 _ hN27=>?_) fun i14 s13 _ _ hi18 hi19 ho15 hg16 hF=>?_
  ·exact wn hN27 (hj10 _) hψ17
  generalize e20:(z9++[a0.Sum])=zq21 at*;have e20l:zq21.length≤zcq:=by rw[←e20];simp;omega
  refine wW ?_;refine wu hi18 hi19 ?_;refine wW ?_;refine wB ?_;obtain⟨x22,g,hF⟩:=Rx g hF;refine wW ?_;refine wC hF [.sh] zmk fun z23 hF=>?_
  refine wK [6,9,10,42,43,44] ?_;refine wW ?_;refine wI hF (fun h24 hF=>?_) fun h24 hF=>?_
  ·cases ho15 _ (zaa hF);cases hΦ _ (hr11 _ hψ17);refine wW ?_;try simp[go_sem,g]
  obtain⟨g,hF⟩:=Rg g hF
  iterate 2 refine wW ?_
  exact wi hi18 hi19 (hg16 _) (zaa hF)
 refine wG hF (fun h5 hF=>?_) fun h5 hF=>?_
 ·exact wV h5 (hj2 _) (zaa hF)
 try simp[go_sem,g,h5]
 refine wC hF [.sh] zkw fun z6 hF=>?_
 try simp[go_sem,g,h5]
 refine wG hF (fun h7 hF=>?_) fun h7 hF=>?_
 ·exact wV h7 (hj2 _) (zaa hF)
 try simp[go_sem,g,h7]
 try intros
 exact wT (hj2 _) (zaa hF)
@[go_sem] def zAD:List DE:=[d1 0 [7] 7,d2 1 [76] 7 76,d0 2 [12],d0 3 [77,78],d0 4 [79],d1 5 [7] 7,d2 6 [81] 7 81,d0 7 [12],d0 8 [82,83],d1 9 [7] 7,d2 10 [85,80] 7 85,d1 11 [7] 7,d2 12 [86,84] 7 86]
def zbz(a0:List Int):Option (Sealed×Bool):=
 (zbT a0).bind fun z1=>
 ((if(!z1.2)=true then(
 some true)else(
 if decide ((z1.1.length:Int)<3)=true then(
 some true)else(
 (ix z1.1 0).bind fun x7=>
 some ((x7.length:Int) !=1))):Option Bool).bind fun x4=>
 if x4=true then(
 some ((Sealed.mk 0 [] [] (Proof.mk [] [] [])),false))else(
 (ix z1.1 1).bind fun x9=>
 (zcc x9).bind fun z10=>
 (ix z1.1 0).bind fun x11=>
 (ix x11 0).bind fun x12=>
 gd (2≤z1.1.length∧z1.1.length≤z1.1.length)<|
 ((zat (σ:=Bool×Int×List Cipher×List Proof×List Int×List Int×List Int) (fun i31 s30=>
 (ix ((z1.1.take z1.1.length).drop 2) i31).bind fun x38=>
 (zcs x38).bind fun z39=>
 ((if s30.1=true then(
 some z39.2)else(
 some false):Option Bool).bind fun x42=>
 gd ((s30.2.2.2.1.length+1)*72≤140737488355328∧s30.2.2.2.1.length+1≤4611686018427387904)<|
 some (.go (x42,s30.2.1,s30.2.2.1,s30.2.2.2.1++[z39.1],s30.2.2.2.2.1,s30.2.2.2.2.2.1,s30.2.2.2.2.2.2)))) (fun s30=>(s30.1,s30.2.1,s30.2.2.1,s30.2.2.2.1,s30.2.2.2.2.1,s30.2.2.2.2.2.1,s30.2.2.2.2.2.2)) (((z1.1.take z1.1.length).drop 2).length) 0 (z10.2,x12,z10.1,[],[],[],[]):Option ((Bool×Int×List Cipher×List Proof×List Int×List Int×List Int))).bind fun x15=>
 (ix x15.2.2.2.1 (i64.wrap ((x15.2.2.2.1.length:Int)-1))).bind fun x48=>
 gd (0≤(i64.wrap ((x15.2.2.2.1.length:Int)-1)))<|
 gd (0≤(i64.wrap ((x15.2.2.2.1.length:Int)-1)).toNat∧(i64.wrap ((x15.2.2.2.1.length:Int)-1)).toNat≤x15.2.2.2.1.length)<|
 (zcU (Sealed.mk x15.2.1 x15.2.2.1 (x15.2.2.2.1.take ((i64.wrap ((x15.2.2.2.1.length:Int)-1)).toNat)) x48)).bind fun z49=>
 ((if(!x15.1)=true then(
 some true)else(
 if(!z49.2)=true then(
 some true)else(
 (zbM z49.1 a0).bind fun z55=>
 some (!z55))):Option Bool).bind fun x52=>
 if x52=true then(
 some ((Sealed.mk 0 [] [] (Proof.mk [] [] [])),false))else(
 some ((Sealed.mk x15.2.1 x15.2.2.1 (x15.2.2.2.1.take ((i64.wrap ((x15.2.2.2.1.length:Int)-1)).toNat)) x48),true))))))
theorem zkC:∀{a0}{r},zbz a0=some r→PCalls Tryz.prog 83 [(.sh,vA a0)] (Eo (.tup [vAA r.1,.bool r.2]) [.junk]):=by
 intro a0 r hr;apply pFz 106 [] [67,88,718] [] [.cell 2 88,.tmp 3] hr zJY Tryz.func83;intro Φ hΦ hF g;unfold zbz at hF;refine wW ?_;refine wC hF [.sh] zlA fun z1 hF=>?_
 refine wW ?_;refine wJK hF [0,2,4] (fun x4=>[(33,.v (.bool x4))]) (fun x4 hF=>?_) fun _ hj2 hF=>?_
 ·refine wI hF (fun h8 hF=>?_) fun h8 hF=>?_
  ·refine wK [2,3] ?_;exact wm hΦ hF
  obtain⟨x9,g,hF⟩:=Rxn g 1 hF;refine wW ?_;refine wC hF [.sh] zkO fun z10 hF=>?_
  refine wK [0,2,4,5,6] ?_;obtain⟨x11,g,hF⟩:=Rxn g 0 hF;obtain⟨x12,g,hF⟩:=Rxn g 0 hF;obtain⟨g,hF⟩:=Rg g hF;try simp[go_sem,g]
  try intros
  refine zap ?_;try simp[go_sem,g]
  try intros
  refine wK [0,2,5,7,50,51,52] ?_;refine wJK hF [0,2] (fun x15=>[(5,.v (.bool x15.1)),(7,.bl [.int .i64 x15.2.1,vV x15.2.2.1,vAC x15.2.2.2.1,vI x15.2.2.2.2.1,vI x15.2.2.2.2.2.1,vI x15.2.2.2.2.2.2])]) (fun x15 hF=>?_) fun _ hj13 hF=>?_
  ·try simp[go_sem,g]
   try intros
   refine zap ?_;refine wX zAD follows ?_;obtain⟨x48,g,hF⟩:=Rx g hF;obtain⟨g,hF⟩:=Rg g hF;obtain⟨g,hF⟩:=Rg g hF;refine wK [0,2,5,7] ?_;refine wC hF [.sh] zlz fun z49 hF=>?_
   refine wW ?_;refine wJK hF [2,7] (fun x52=>[(103,.v (.bool x52))]) (fun x52 hF=>?_) fun _ hj50 hF=>?_
   ·refine wI hF (fun h56 hF=>?_) fun h56 hF=>?_
    ·refine wK [2,3] ?_;exact wm hΦ hF
    refine wW ?_;refine wK [2,3] ?_;exact wm hΦ hF
   refine wG hF (fun h53 hF=>?_) fun h53 hF=>?_
   ·exact wV h53 (hj50 _) (zaa hF)
   try simp[go_sem,g,h53]
   refine wG hF (fun h54 hF=>?_) fun h54 hF=>?_
   ·exact wV h54 (hj50 _) (zaa hF)
   try simp[go_sem,g,h54]
   refine wC hF [.sh,.sh] zft fun z55 hF=>?_
   exact wV h54 (hj50 _) (zaa hF)
  refine wB ?_;obtain⟨b44,hb45,hψ34⟩:=hF;refine pRK hb45 [0,2,50,51] (fun i31 s30=>[(5,.v (.bool s30.1)),(7,.bl [.int .i64 s30.2.1,vV s30.2.2.1,vAC s30.2.2.2.1,vI s30.2.2.2.2.1,vI s30.2.2.2.2.2.1,vI s30.2.2.2.2.2.2]),(52,.v (.int .i64 i31))]) (fun s30 _ hN46=>?_) fun i31 s30 _ _ hi35 hi36 ho32 hg33 hF=>?_
  ·exact wn hN46 (hj13 _) hψ34
  have hi37:=hi36;try simp at hi37
  refine wW ?_;refine wt ?_ (hb:=by simp[go_sem,g,hi35,hi36,hi37]<;>omega);refine wW ?_;refine wB ?_;obtain⟨x38,g,hF⟩:=Rxq g hF;refine wW ?_;refine wC hF [.sh] zmb fun z39 hF=>?_
  refine wK [0,2,5,7,10,11,50,51,52] ?_;refine wJK hF [0,2,7,10,50,51,52] (fun x42=>[(5,.v (.bool x42))]) (fun x42 hF=>?_) fun _ hj40 hF=>?_
  ·obtain⟨g,hF⟩:=Rg g hF;refine wW ?_;exact wT (hg33 (x42,s30.2.1,s30.2.2.1,s30.2.2.2.1++[z39.1],s30.2.2.2.2.1,s30.2.2.2.2.2.1,s30.2.2.2.2.2.2)) (zaa hF) (a:=by simp[go_sem,g,zxc hi35 hi36 (by first|assumption|(simp;assumption)|(simp;omega))])
  refine wG hF (fun h43 hF=>?_) fun h43 hF=>?_
  ·exact wV h43 (hj40 _) (zaa hF)
  exact wV h43 (hj40 _) (zaa hF)
 refine wG hF (fun h5 hF=>?_) fun h5 hF=>?_
 ·exact wV h5 (hj2 _) (zaa hF)
 try simp[go_sem,g,h5]
 try intros
 refine wG hF (fun h6 hF=>?_) fun h6 hF=>?_
 ·exact wV h6 (hj2 _) (zaa hF)
 obtain⟨x7,g,hF⟩:=Rxn g 0 hF;try simp[go_sem,g,h6]
 try intros
 exact wT (hj2 _) (zaa hF)
def zfw(a0:Plan)(a1:Int):Option Int:=
 some (i64.wrap ((i64.wrap ((i64.wrap (1+a0.Trustees))+a0.Mixers))+a1))
theorem zm4:∀{a0}{a1}{r},zfw a0 a1=some r→PCalls Tryz.prog 84 [(.sh,vH a0),(.sh,.int .i64 a1)] (Eo (.int .i64 r) [.junk,.junk]):=by
 intro a0 a1 r hr;apply pF 13 [] [] [] [.tmp 4] hr zHA Tryz.func84;intro Φ hΦ hF g;unfold zfw at hF;refine wW ?_;refine wK [4] ?_;exact wm hΦ hF
def zdy(a0:Contest):Option Int:=
 (zbx a0).bind fun z1=>
 if z1=true then(
 some a0.Options)else(
 some 1)
theorem zk5:∀{a0}{r},zdy a0=some r→PCalls Tryz.prog 133 [(.sh,vG a0)] (Eo (.int .i64 r) [.junk]):=by
 intro a0 r hr;apply pF 7 [] [] [] [.tmp 2] hr zDq Tryz.func133;intro Φ hΦ hF g;unfold zdy at hF;refine wW ?_;refine wC hF [.sh] zeg fun z1 hF=>?_
 refine wW ?_;refine wI hF (fun h2 hF=>?_) fun h2 hF=>?_
 ·exact wl hΦ hF
 cases hΦ _ (zaa hF)
 iterate 2 refine wW ?_
 try simp[go_sem,g]
def zcX(a0:Group)(a1:Cipher):Option Bool:=
 (((zc9 a0 a1.A).bind fun z4=>
 if z4=true then(
 (zc9 a0 a1.B).bind fun z6=>
 some z6)else(
 some false):Option Bool).bind fun x3=>
 some x3)
theorem zj5:∀{a0}{a1}{r},zcX a0 a1=some r→PCalls Tryz.prog 179 [(.sh,vF a0),(.sh,vY a1)] (Eo (.bool r) [.junk,.junk]):=by
 intro a0 a1 r hr;apply pF 15 [] [] [] [.tmp 4] hr zEg Tryz.func179;intro Φ hΦ hF g;unfold zcX at hF;refine wW ?_;refine wJ hF (fun x3=>[(4,.v (.bool x3))]) (fun x3 hF=>?_) fun _ hj1 hF=>?_
 ·exact wm hΦ hF
 refine wC hF [.sh,.sh] zhw fun z4 hF=>?_
 refine wG hF (fun h5 hF=>?_) fun h5 hF=>?_
 ·try simp[go_sem,g,h5]
  refine wC hF [.sh,.sh] zhw fun z6 hF=>?_
  exact wV h5 (hj1 _) (zaa hF)
 exact wV h5 (hj1 _) (zaa hF)
def zc4(a0:Cipher)(a1c0:Int)(a1c1:Int)(a1c2:Int):Option Bool:=
 (zcX (Group.mk a1c0 a1c1 a1c2) a0).bind fun z1=>
 some (!z1)
theorem ziS:∀{a0}{a1c0}{a1c1}{a1c2}{r},zc4 a0 a1c0 a1c1 a1c2=some r→PCalls Tryz.prog 178 [(.sh,vY a0),(.sh,.fp [.int .i64 a1c0,.int .i64 a1c1,.int .i64 a1c2])] (Eo (.bool r) [.junk,.junk]):=by
 intro a0 a1c0 a1c1 a1c2 r hr;apply pF 8 [] [] [] [.tmp 3] hr zFX Tryz.func178;intro Φ hΦ hF g;unfold zc4 at hF;refine wW ?_;refine wC hF [.sh,.sh] zj5 fun z1 hF=>?_
 exact wl hΦ hF
def zas(a0:List Cipher)(a1u0c0:Int)(a1u0c1:Int)(a1u0c2:Int):Option Int:=
 ((zat (σ:=Unit) (fun i5 s4=>
 (ix a0 i5).bind fun x11=>
 (zc4 x11 a1u0c0 a1u0c1 a1u0c2).bind fun z12=>
 if z12=true then(
 some (.out (.inr i5)))else(
 some (.go ()))) (fun s4=>.inl ()) (a0.length) 0 ():Option (Unit ⊕ Int)).bind (Sum.elim (fun x3=>
 some (-1)) some))
theorem zcS:∀{a0}{a1u0c0}{a1u0c1}{a1u0c2}{r},zas a0 a1u0c0 a1u0c1 a1u0c2=some r→PCalls Tryz.prog 200 [(.sh,vV a0),(.sh,.func (.func 178) [] [.fp [.int .i64 a1u0c0,.int .i64 a1u0c1,.int .i64 a1u0c2]])] (Eo (.int .i64 r) [.junk,.junk]):=by
 intro a0 a1u0c0 a1u0c1 a1u0c2 r hr;apply pF 19 [] [] [] [.tmp 4] hr zFF Tryz.func200;intro Φ hΦ hF g;unfold zas at hF
 iterate 2 (try simp[go_sem,g];try intros;refine zap ?_)
 refine wS hF (fun x3=>[]) (fun x3 hF=>?_) fun _ hj1 hr2 hF=>?_
 ·exact wl hΦ hF
 refine wB ?_;obtain⟨b14,hb15,hψ8⟩:=hF;refine pRK hb15 [0,1,7] (fun i5 s4=>[(8,.v (.int .i64 i5))]) (fun s4 _ hN16=>?_) fun i5 s4 _ _ hi9 hi10 ho6 hg7 hF=>?_
 ·exact wn hN16 (hj1 _) hψ8
 refine wW ?_;refine wu hi9 hi10 ?_;refine wW ?_;refine wB ?_;obtain⟨x11,g,hF⟩:=Rx g hF;refine wW ?_;refine wC hF [.sh] ziS fun z12 hF=>?_
 refine wK [0,1,5,7,8,16] ?_;refine wI hF (fun h13 hF=>?_) fun h13 hF=>?_
 ·cases ho6 _ (zaa hF);cases hΦ _ (hr2 _ hψ8);refine wW ?_;try simp[go_sem,g]
 refine wW ?_;exact wi hi9 hi10 (hg7 _) (zaa hF)
def zaz(a0:List Cipher)(a1u0c0:Int)(a1u0c1:Int)(a1u0c2:Int):Option Bool:=
 (zas a0 a1u0c0 a1u0c1 a1u0c2).bind fun z1=>
 some (decide (0≤z1))
theorem zcB:∀{a0}{a1u0c0}{a1u0c1}{a1u0c2}{r},zaz a0 a1u0c0 a1u0c1 a1u0c2=some r→PCalls Tryz.prog 177 [(.sh,vV a0),(.sh,.func (.func 178) [] [.fp [.int .i64 a1u0c0,.int .i64 a1u0c1,.int .i64 a1u0c2]])] (Eo (.bool r) [.junk,.junk]):=by
 intro a0 a1u0c0 a1u0c1 a1u0c2 r hr;apply pF 9 [] [] [] [.tmp 4] hr zCz Tryz.func177;intro Φ hΦ hF g;unfold zaz at hF;refine wW ?_;refine wC hF [.sh,.sh] zcS fun z1 hF=>?_
 exact wl hΦ hF
def zcG(a0:Group)(a1:List Cipher):Option Bool:=
 ((if decide ((a1.length:Int)≤24)=true then(
 (zaz a1 a0.P a0.Q a0.G).bind fun z5=>
 some (!z5))else(
 some false):Option Bool).bind fun x3=>
 some x3)
theorem zjJ:∀{a0}{a1}{r},zcG a0 a1=some r→PCalls Tryz.prog 135 [(.sh,vF a0),(.sh,vV a1)] (Eo (.bool r) [.junk,.junk]):=by
 intro a0 a1 r hr;apply pF 14 [] [] [1000000] [.tmp 4] hr zDk Tryz.func135;intro Φ hΦ hF g;unfold zcG at hF;refine wW ?_;refine wJ hF (fun x3=>[(4,.v (.bool x3))]) (fun x3 hF=>?_) fun _ hj1 hF=>?_
 ·exact wm hΦ hF
 try simp[go_sem,g]
 try intros
 refine wG hF (fun h4 hF=>?_) fun h4 hF=>?_
 ·try simp[go_sem,g,h4]
  refine wC hF [.sh,.sh] zcB fun z5 hF=>?_
  exact wV h4 (hj1 _) (zaa hF)
 exact wV h4 (hj1 _) (zaa hF)
def zfz(a0:Int):Option ByteArray:=
 gd (-9223372036854775808≤a0∧a0≤9223372036854775807)<|
 some ⟨(Lib.itoa a0).toArray⟩
theorem zpq:∀{a0}{r},zfz a0=some r→PCalls Tryz.prog 180 [(.sh,.int .i64 a0)] (Eo (.str r) [.junk]):=by
 intro a0 r hr;have hF:Rn _ (fun x=>x=r):=⟨r,hr,rfl⟩
 unfold zfz at hF;obtain⟨⟨g0,g1⟩,hF⟩:=zff hF;have h1:=zaa hF;subst h1;exact Go.Pm.itoa_calls zEY g0 g1
def zef(a0:Int):Option ByteArray:=
 (zfz a0).bind fun z1=>
 gd ((⟨#[98,97,108,108,111,116,32]⟩:ByteArray).size+z1.size≤9223372036854775807)<|
 some ((⟨#[98,97,108,108,111,116,32]⟩:ByteArray)++z1)
theorem zms:∀{a0}{r},zef a0=some r→PCalls Tryz.prog 136 [(.sh,.int .i64 a0)] (Eo (.str r) [.junk]):=by
 intro a0 r hr;apply pF 6 [] [] [] [.tmp 2] hr zEK Tryz.func136;intro Φ hΦ hF g;unfold zef at hF;refine wW ?_;refine wC hF [.sh] zpq fun z1 hF=>?_
 obtain⟨g,hF⟩:=Rsa g hF;exact wl hΦ hF
def zdz(a0:Proof):Option Bool:=
 ((if((a0.Commits.length:Int)==0)=true then(
 if((a0.Challenges.length:Int)==0)=true then(
 some ((a0.Responses.length:Int)==0))else(
 some false))else(
 some false):Option Bool).bind fun x3=>
 some x3)
theorem zln:∀{a0}{r},zdz a0=some r→PCalls Tryz.prog 137 [(.sh,vB a0)] (Eo (.bool r) [.junk]):=by
 intro a0 r hr;apply pF 19 [] [] [] [.tmp 2] hr zE6 Tryz.func137;intro Φ hΦ hF g;unfold zdz at hF;refine wW ?_;refine wJ hF (fun x3=>[(2,.v (.bool x3))]) (fun x3 hF=>?_) fun _ hj1 hF=>?_
 ·exact wm hΦ hF
 try simp[go_sem,g]
 try intros
 refine wG hF (fun h4 hF=>?_) fun h4 hF=>?_
 ·try simp[go_sem,g,h4]
  try intros
  refine wG hF (fun h5 hF=>?_) fun h5 hF=>?_
  ·try simp[go_sem,g,h5]
   try intros
   exact wT (hj1 _) (zaa hF)
  exact wV h5 (hj1 _) (zaa hF)
 exact wV h4 (hj1 _) (zaa hF)
@[go_sem] def zBW:List DE:=[d0 0 [11],d1 1 [5] 5,d2 2 [21] 5 21,d1 3 [7] 7,d2 4 [23] 7 23,d0 5 [1],d2 6 [5] 5 5,d1 7 [7] 7,d2 8 [27] 7 27,d2 9 [5] 5 5,d1 10 [5] 5,d2 11 [30] 5 30,d0 12 [12],d0 13 [32],d3 14 [29,31,33],d0 15 [28,34],⟨16,[26,35],[],none,true,true,true⟩,d0 17 [22,24,25,36],d0 18 [37],⟨19,[20,38],[],none,true,false,false⟩,d0 20 [39]]
def zbC(a0:Group)(a1:Int)(a2:Cipher)(a3:Int)(a4:Int):Option ((List EqualLog)):=
 ((zau (σ:=(List EqualLog)×Int) (fun s4=>
 if decide (s4.2≤a4)=true then(
 (za4 a0 a0.G (i64.wrap (0-s4.2))).bind fun z10=>
 (zaU a0 [a2.B,z10]).bind fun z11=>
 gd ((s4.1.length+1)*32≤140737488355328∧s4.1.length+1≤4611686018427387904)<|
 some (.go (s4.1++[(EqualLog.mk a0.G a2.A a1 z11)],i64.wrap (s4.2+1))))else(
 some (.out s4.1))) ([],a3):Option ((List EqualLog))).bind fun x3=>
 some x3)
theorem zgX:∀{a0}{a1}{a2}{a3}{a4}{r},zbC a0 a1 a2 a3 a4=some r→PCalls Tryz.prog 140 [(.sh,vF a0),(.sh,.int .i64 a1),(.sh,vY a2),(.sh,.int .i64 a3),(.sh,.int .i64 a4)] (Eo (vX r) [.junk,.junk,.junk,.junk,.junk]):=by
 intro a0 a1 a2 a3 a4 r hr;apply pF 41 [] [] [] [.tmp 10] hr zEG Tryz.func140;intro Φ hΦ hF g;unfold zbC at hF
 iterate 3 refine wW ?_
 refine wJ hF (fun x3=>[(11,.v (vX x3))]) (fun x3 hF=>?_) fun _ hj1 hF=>?_
 ·exact wl hΦ hF
 refine wB ?_;obtain⟨b12,hb13,hψ8⟩:=hF;refine pLK hb13 [1,4,5,7] (fun s4=>[(11,.v (vX s4.1)),(12,.v (.int .i64 s4.2))]) fun s4 _ _ ho6 hg7 hF=>?_
 refine wK [1,4,5,7,11,12,17] ?_;refine wI hF (fun h9 hF=>?_) fun h9 hF=>?_
 ·refine wW ?_;refine wB ?_;refine wX zBW follows ?_;refine wC hF [.sh,.sh,.sh] zct fun z10 hF=>?_
  refine wC hF [.sh,.sh] zcp fun z11 hF=>?_
  obtain⟨g,hF⟩:=Rg g hF;refine wK [1,4,5,7,11,12] ?_;exact wT (hg7 _) (zaa hF)
 cases ho6 _ (zaa hF);exact wT (hj1 _) hψ8
@[go_sem] def zBC:List DE:=[d2 0 [4] 4 4,d2 1 [4] 4 4,d1 2 [5] 5,d2 3 [12] 5 12,d0 4 [3],d2 6 [4] 4 4,d1 7 [5] 5,d2 8 [17] 5 17,d0 9 [2],d0 10 [19],d2 14 [4] 4 4,d2 15 [4] 4 4,d1 16 [5] 5,d2 17 [26] 5 26,d0 18 [3],d2 20 [4] 4 4,d1 21 [5] 5,d2 22 [31] 5 31,d0 23 [2],d0 24 [33],d3 5 [11,13,14],d3 11 [16,18,20],d0 12 [15,21],⟨13,[10,22],[],none,true,true,true⟩,d3 19 [25,27,28],d3 25 [30,32,34],d0 26 [29,35],⟨27,[24,36],[],none,true,true,true⟩,d0 28 [23],d0 29 [37]]
def zc0(a0:Group)(a1:EqualLog)(a2:Int)(a3:Int):Option (Int×Int):=
 (za4 a0 a1.G1 a3).bind fun z1=>
 (za4 a0 a1.Y1 (i64.wrap (0-a2))).bind fun z2=>
 (zaU a0 [z1,z2]).bind fun z3=>
 (za4 a0 a1.G2 a3).bind fun z4=>
 (za4 a0 a1.Y2 (i64.wrap (0-a2))).bind fun z5=>
 (zaU a0 [z4,z5]).bind fun z6=>
 some (z3,z6)
theorem zj2:∀{a0}{a1}{a2}{a3}{r},zc0 a0 a1 a2 a3=some r→PCalls Tryz.prog 205 [(.sh,vF a0),(.sh,vAE a1),(.sh,.int .i64 a2),(.sh,.int .i64 a3)] (Eo (.tup [.int .i64 r.1,.int .i64 r.2]) [.junk,.junk,.junk,.junk]):=by
 intro a0 a1 a2 a3 r hr;apply pF 38 [] [] [] [.tmp 8,.tmp 9] hr zFu Tryz.func205;intro Φ hΦ hF g;unfold zc0 at hF;refine wW ?_;refine wX zBC follows ?_;refine wC hF [.sh,.sh,.sh] zct fun z1 hF=>?_
 refine wC hF [.sh,.sh,.sh] zct fun z2 hF=>?_
 refine wC hF [.sh,.sh] zcp fun z3 hF=>?_
 refine wC hF [.sh,.sh,.sh] zct fun z4 hF=>?_
 refine wC hF [.sh,.sh,.sh] zct fun z5 hF=>?_
 refine wC hF [.sh,.sh] zcp fun z6 hF=>?_
 refine wK [8,9] ?_;exact wm hΦ hF
@[go_sem] def zBj:List DE:=[d2 0 [3] 3 3,d2 1 [9] 9 9,d1 2 [5] 5,d2 3 [65] 5 65,d0 4 [8],d0 5 [66,67],d0 6 [68],d1 7 [5] 5,d2 8 [70] 5 70,d0 9 [8],d0 10 [71,72],d0 11 [73],d3 12 [63,64,69,74],d0 13 [75],d0 14 [62],d0 15 [62],d0 16 [76],d0 17 [77]]
def zdo(a0:Group)(a1:List EqualLog)(a2:Proof):Option Bool:=
 ((if((a2.Commits.length:Int) !=(i64.wrap (2*(a1.length:Int))))=true then(
 some true)else(
 if((a2.Challenges.length:Int) !=(a1.length:Int))=true then(
 some true)else(
 if((a2.Responses.length:Int) !=(a1.length:Int))=true then(
 some true)else(
 (zcl a0 a2.Commits).bind fun z7=>
 if(!z7)=true then(
 some true)else(
 (zca a0 a2.Challenges).bind fun z9=>
 if(!z9)=true then(
 some true)else(
 (zca a0 a2.Responses).bind fun z11=>
 some (!z11)))))):Option Bool).bind fun x3=>
 if x3=true then(
 some false)else(
 ((zat (σ:=Unit) (fun i17 s16=>
 (ix a1 i17).bind fun x23=>
 (ix a2.Challenges i17).bind fun x24=>
 (ix a2.Responses i17).bind fun x25=>
 (zc0 a0 x23 x24 x25).bind fun z26=>
 (((ix a2.Commits (i64.wrap (2*i17))).bind fun x30=>
 if(z26.1 !=x30)=true then(
 some true)else(
 (ix a2.Commits (i64.wrap ((i64.wrap (2*i17))+1))).bind fun x32=>
 some (z26.2 !=x32)):Option Bool).bind fun x29=>
 if x29=true then(
 some (.out (.inr false)))else(
 some (.go ())))) (fun s16=>.inl ()) (a1.length) 0 ():Option (Unit ⊕ Bool)).bind (Sum.elim (fun x15=>
 some true) some))))
theorem zkQ:∀{a0}{a1}{a2}{r},zdo a0 a1 a2=some r→PCalls Tryz.prog 185 [(.sh,vF a0),(.sh,vZ a1),(.sh,vB a2)] (Eo (.bool r) [.junk,.junk,.junk]):=by
 intro a0 a1 a2 r hr;apply pF 98 [] [] [] [.tmp 6] hr zDh Tryz.func185;intro Φ hΦ hF g;unfold zdo at hF
 iterate 2 (try simp[go_sem,g];try intros;refine zap ?_)
 refine wJK hF [1,3,5] (fun x3=>[(54,.v (.bool x3))]) (fun x3 hF=>?_) fun _ hj1 hF=>?_
 ·refine wI hF (fun h12 hF=>?_) fun h12 hF=>?_
  ·exact wl hΦ hF
  iterate 2 (try simp[go_sem,g];try intros;refine zap ?_)
  refine wS hF (fun x15=>[]) (fun x15 hF=>?_) fun _ hj13 hr14 hF=>?_
  ·refine wK [6] ?_;exact wm hΦ hF
  refine wB ?_;obtain⟨b34,hb35,hψ20⟩:=hF;refine pRK hb35 [3,5,55,56] (fun i17 s16=>[(57,.v (.int .i64 i17))]) (fun s16 _ hN36=>?_) fun i17 s16 _ _ hi21 hi22 ho18 hg19 hF=>?_
  ·exact wn hN36 (hj13 _) hψ20
  refine wK [3,5,55,56,57,58] ?_;refine wu hi21 hi22 ?_;refine wW ?_;refine wB ?_;obtain⟨x23,g,hF⟩:=Rx g hF;refine wW ?_;refine wX zBj follows ?_;obtain⟨x24,g,hF⟩:=Rx g hF;obtain⟨x25,g,hF⟩:=Rx g hF;refine wC hF [.sh,.sh,.sh,.sh] zj2 fun z26 hF=>?_
  refine wK [3,5,8,10,11,55,56,57] ?_;refine wJK hF [3,5,55,56,57] (fun x29=>[(96,.v (.bool x29))]) (fun x29 hF=>?_) fun _ hj27 hF=>?_
  ·refine wI hF (fun h33 hF=>?_) fun h33 hF=>?_
   ·cases ho18 _ (zaa hF);cases hΦ _ (hr14 _ hψ20);refine wW ?_;try simp[go_sem,g]
   refine wW ?_;exact wi hi21 hi22 (hg19 _) (zaa hF)
  obtain⟨x30,g,hF⟩:=Rx g hF;refine wG hF (fun h31 hF=>?_) fun h31 hF=>?_
  ·exact wV h31 (hj27 _) (zaa hF)
  obtain⟨x32,g,hF⟩:=Rx g hF;exact wV h31 (hj27 _) (zaa hF)
 try simp[go_sem,g]
 try intros
 refine wG hF (fun h4 hF=>?_) fun h4 hF=>?_
 ·exact wV h4 (hj1 _) (zaa hF)
 try simp[go_sem,g,h4]
 try intros
 refine wG hF (fun h5 hF=>?_) fun h5 hF=>?_
 ·exact wV h5 (hj1 _) (zaa hF)
 try simp[go_sem,g,h5]
 try intros
 refine wG hF (fun h6 hF=>?_) fun h6 hF=>?_
 ·exact wV h6 (hj1 _) (zaa hF)
 try simp[go_sem,g,h6]
 refine wC hF [.sh,.sh] zgg fun z7 hF=>?_
 try simp[go_sem,g,h6]
 refine wG hF (fun h8 hF=>?_) fun h8 hF=>?_
 ·exact wV h8 (hj1 _) (zaa hF)
 try simp[go_sem,g,h8]
 refine wC hF [.sh,.sh] zfX fun z9 hF=>?_
 try simp[go_sem,g,h8]
 refine wG hF (fun h10 hF=>?_) fun h10 hF=>?_
 ·exact wV h10 (hj1 _) (zaa hF)
 try simp[go_sem,g,h10]
 refine wC hF [.sh,.sh] zfX fun z11 hF=>?_
 exact wV h10 (hj1 _) (zaa hF)
@[go_sem] def zAI:List DE:=[d2 0 [4] 4 4,d0 1 [1],d0 2 [10],d0 3 [3],d0 4 [34,35],d3 5 [32,33,36],d0 6 [37],d0 7 [37],d0 8 [38],d0 9 [39]]
def zb3(a0:Group)(a1:ByteArray)(a2:List EqualLog)(a3:List Int):Option (Int×Bool):=
 ((zat (σ:=(List Int)) (fun i5 s4=>
 (ix a2 i5).bind fun x11=>
 gd ((s4.length+4)*8≤140737488355328∧s4.length+4≤4611686018427387904)<|
 some (.go (s4++[x11.G1,x11.Y1,x11.G2,x11.Y2]))) (fun s4=>s4) (a2.length) 0 []:Option ((List Int))).bind fun x3=>
 gd ((x3.length+a3.length)*8≤140737488355328∧x3.length+a3.length≤4611686018427387904)<|
 (zbK a0 a1 (x3++a3)).bind fun z16=>
 some (z16.1,z16.2))
theorem ziJ:∀{a0}{a1}{a2}{a3}{r},zb3 a0 a1 a2 a3=some r→PCalls Tryz.prog 186 [(.sh,vF a0),(.sh,.str a1),(.sh,vZ a2),(.sh,vA a3)] (Eo (.tup [.int .i64 r.1,.bool r.2]) [.junk,.junk,.junk,.junk]):=by
 intro a0 a1 a2 a3 r hr;apply pF 40 [] [] [] [.tmp 8,.tmp 9] hr zFx Tryz.func186;intro Φ hΦ hF g;unfold zb3 at hF
 iterate 3 (try simp[go_sem,g];try intros;refine zap ?_)
 refine wJK hF [1,3,4] (fun x3=>[(10,.v (vI x3))]) (fun x3 hF=>?_) fun _ hj1 hF=>?_
 ·refine wX zAI follows ?_;obtain⟨g,hF⟩:=Rg g hF;refine wC hF [.sh,.sh,.sh] zg6 fun z16 hF=>?_
  refine wK [8,9] ?_;exact wm hΦ hF
 refine wB ?_;obtain⟨b12,hb13,hψ8⟩:=hF;refine pRK hb13 [1,3,4,14,15] (fun i5 s4=>[(10,.v (vI s4)),(16,.v (.int .i64 i5))]) (fun s4 _ hN14=>?_) fun i5 s4 _ _ hi9 hi10 ho6 hg7 hF=>?_
 ·exact wn hN14 (hj1 _) hψ8
 refine wW ?_;refine wu hi9 hi10 ?_;refine wW ?_;refine wB ?_;obtain⟨x11,g,hF⟩:=Rx g hF;refine wK [1,3,4,10,12,14,15,16] ?_;obtain⟨g,hF⟩:=Rg g hF;refine wK [1,3,4,10,14,15,16] ?_;exact wi hi9 hi10 (hg7 _) (zaa hF)
def zhV(a0:List Int)(a1:Int):Option Int:=
 ((zat (σ:=Int) (fun i5 s4=>
 (ix a0 i5).bind fun x11=>
 gd (a1≠0)<|
 some (.go ((i64.wrap (s4+x11)).tmod a1))) (fun s4=>s4) (a0.length) 0 0:Option Int).bind fun x3=>
 some x3)
theorem zuq:∀{a0}{a1}{r},zhV a0 a1=some r→PCalls Tryz.prog 187 [(.sh,vA a0),(.sh,.int .i64 a1)] (Eo (.int .i64 r) [.junk,.junk]):=by
 intro a0 a1 r hr;apply pF 21 [] [] [] [.tmp 4] hr zCN Tryz.func187;intro Φ hΦ hF g;unfold zhV at hF
 iterate 3 (try simp[go_sem,g];try intros;refine zap ?_)
 refine wJ hF (fun x3=>[(5,.v (.int .i64 x3))]) (fun x3 hF=>?_) fun _ hj1 hF=>?_
 ·exact wl hΦ hF
 refine wB ?_;obtain⟨b12,hb13,hψ8⟩:=hF;refine pRK hb13 [1,8,9] (fun i5 s4=>[(5,.v (.int .i64 s4)),(10,.v (.int .i64 i5))]) (fun s4 _ hN14=>?_) fun i5 s4 _ _ hi9 hi10 ho6 hg7 hF=>?_
 ·exact wn hN14 (hj1 _) hψ8
 refine wW ?_;refine wu hi9 hi10 ?_;refine wW ?_;refine wB ?_;obtain⟨x11,g,hF⟩:=Rx g hF;obtain⟨g,hF⟩:=Rz g hF;refine wW ?_;refine wK [1,5,8,9,10] ?_;exact wi hi9 hi10 (hg7 _) (zaa hF)
def zbq(a0:Group)(a1:ByteArray)(a2:List EqualLog)(a3:Proof):Option Bool:=
 (zdo a0 a2 a3).bind fun z1=>
 if(!z1)=true then(
 some false)else(
 (zb3 a0 a1 a2 a3.Commits).bind fun z3=>
 ((if z3.2=true then(
 (zhV a3.Challenges a0.Q).bind fun z8=>
 some (z8==z3.1))else(
 some false):Option Bool).bind fun x6=>
 some x6))
theorem zgE:∀{a0}{a1}{a2}{a3}{r},zbq a0 a1 a2 a3=some r→PCalls Tryz.prog 139 [(.sh,vF a0),(.sh,.str a1),(.sh,vZ a2),(.sh,vB a3)] (Eo (.bool r) [.junk,.junk,.junk,.junk]):=by
 intro a0 a1 a2 a3 r hr;apply pF 35 [] [] [] [.tmp 8] hr zCo Tryz.func139;intro Φ hΦ hF g;unfold zbq at hF;refine wW ?_;refine wC hF [.sh,.sh,.sh] zkQ fun z1 hF=>?_
 refine wW ?_;refine wI hF (fun h2 hF=>?_) fun h2 hF=>?_
 ·exact wl hΦ hF
 refine wW ?_;refine wC hF [.sh,.sh,.sh,.sh] ziJ fun z3 hF=>?_
 refine wK [4,7,9,10] ?_;refine wJ hF (fun x6=>[(8,.v (.bool x6))]) (fun x6 hF=>?_) fun _ hj4 hF=>?_
 ·exact wm hΦ hF
 refine wG hF (fun h7 hF=>?_) fun h7 hF=>?_
 ·try simp[go_sem,g,h7]
  refine wC hF [.sh,.sh] zuq fun z8 hF=>?_
  exact wV h7 (hj4 _) (zaa hF)
 exact wV h7 (hj4 _) (zaa hF)
@[go_sem] def zBU:List DE:=[d2 0 [3] 3 3,d1 1 [4] 4,d2 2 [8] 4 8,d1 3 [5] 5,d2 4 [10] 5 10,d0 5 [9,11],d2 7 [3] 3 3,d1 8 [4] 4,d2 9 [15] 4 15,d1 10 [5] 5,d2 11 [17] 5 17,d0 12 [16,18],⟨6,[7,12],[],none,true,true,true⟩,⟨13,[14,19],[],none,true,true,true⟩,d0 14 [13,20],d2 15 [6,21] 6 6]
def zdQ(a0:Group)(a1:Cipher)(a2:Cipher):Option Cipher:=
 (zaU a0 [a1.A,a2.A]).bind fun z1=>
 (zaU a0 [a1.B,a2.B]).bind fun z2=>
 some (Cipher.mk z1 z2)
theorem zlE:∀{a0}{a1}{a2}{r},zdQ a0 a1 a2=some r→PCalls Tryz.prog 188 [(.sh,vF a0),(.sh,vY a1),(.sh,vY a2)] (Eo (vY r) [.junk,.junk,.junk]):=by
 intro a0 a1 a2 r hr;apply pF 22 [] [] [] [.cell 6 160] hr zDE Tryz.func188;intro Φ hΦ hF g;unfold zdQ at hF;refine wW ?_;refine wX zBU follows ?_;refine wC hF [.sh,.sh] zcp fun z1 hF=>?_
 refine wC hF [.sh,.sh] zcp fun z2 hF=>?_
 refine wK [6] ?_;exact wm hΦ hF
def zb6(a0:Group)(a1:List Cipher):Option Cipher:=
 ((zat (σ:=Int×Int) (fun i14 s13=>
 (ix a1 i14).bind fun x20=>
 (zdQ a0 (Cipher.mk s13.1 s13.2) x20).bind fun z21=>
 some (.go (z21.A,z21.B))) (fun s13=>(s13.1,s13.2)) (a1.length) 0 (1,1):Option ((Int×Int))).bind fun x3=>
 some (Cipher.mk x3.1 x3.2))
theorem zjI:∀{a0}{a1}{r},zb6 a0 a1=some r→PCalls Tryz.prog 141 [(.sh,vF a0),(.sh,vV a1)] (Eo (vY r) [.junk,.junk]):=by
 intro a0 a1 r hr;apply pF 21 [] [] [] [.cell 4 160] hr zFq Tryz.func141;intro Φ hΦ hF g;unfold zb6 at hF
 iterate 3 (try simp[go_sem,g];try intros;refine zap ?_)
 refine wJ hF (fun x3=>[(4,.bl [.int .i64 0,.int .i64 0]),(5,.bl [.int .i64 x3.1,.int .i64 x3.2])]) (fun x3 hF=>?_) fun _ hj1 hF=>?_
 ·refine wK [4] ?_;exact wm hΦ hF
 refine wB ?_;obtain⟨b22,hb23,hψ17⟩:=hF;refine pRK hb23 [2,4,9,10] (fun i14 s13=>[(5,.bl [.int .i64 s13.1,.int .i64 s13.2]),(11,.v (.int .i64 i14))]) (fun s13 _ hN24=>?_) fun i14 s13 _ _ hi18 hi19 ho15 hg16 hF=>?_
 ·exact wn hN24 (hj1 _) hψ17
 refine wW ?_;refine wu hi18 hi19 ?_;refine wW ?_;refine wB ?_;obtain⟨x20,g,hF⟩:=Rx g hF;refine wK [2,4,5,7,9,10,11] ?_;refine wC hF [.sh,.sh,.sh] zlE fun z21 hF=>?_
 refine wW ?_;exact wi hi18 hi19 (hg16 _) (zaa hF)
@[go_sem] def zBH:List DE:=[d2 0 [4] 4 4,d0 1 [10],d2 2 [4] 4 4,d0 3 [1],d2 4 [12] 12 12,d2 5 [6] 6 6,d1 8 [7] 7,d2 9 [84] 7 84,d0 10 [11],d0 11 [85,86],d0 12 [87],⟨6,[81],[],none,false,true,false⟩,⟨7,[78,79,80,82],[],none,false,true,false⟩,d3 13 [76,77,83,88],d0 14 [89]]
@[go_sem] def zBS:List DE:=[d2 0 [4] 4 4,d0 1 [10],d2 2 [4] 4 4,d0 3 [1],d2 4 [4] 4 4,d1 5 [7] 7,d2 6 [97] 7 97,d1 8 [6] 6,d2 9 [100] 6 100,d1 10 [6] 6,d2 11 [102] 6 102,d1 13 [7] 7,d2 14 [105] 7 105,d3 7 [96,98],d3 12 [94,95,99,101,103],d3 15 [92,93,104,106],d0 16 [107]]
@[go_sem] def zD6:List DE:=[d1 0 [7] 7,d2 1 [46] 7 46,d3 2 [47],d0 3 [48],d2 4 [4,49] 4 4,d0 5 [10,49],d1 6 [4,49] 4,d2 7 [52,49] 4 52,d0 8 [53,49],d1 10 [7,49] 7,d2 11 [56,49] 7 56,d0 12 [57,49],d0 13 [58,49],d0 14 [59,49],d0 15 [60,49],d1 16 [7,49] 7,d2 17 [62,49] 7 62,d0 18 [63,49],d0 19 [64,49],⟨9,[54,49],[],none,true,true,false⟩,⟨20,[50,51,55,61,65,49],[],none,true,true,true⟩,d0 21 [49,66],d0 22 [67]]
def zde(a0:Group)(a1:Int)(a2:Contest)(a3:Sealed):Option Bool:=
 (zdy a2).bind fun z1=>
 (((zeK a3.Voter).bind fun z5=>
 if(!z5)=true then(
 some true)else(
 if((a3.Ciphers.length:Int) !=z1)=true then(
 some true)else(
 if((a3.Proofs.length:Int) !=z1)=true then(
 some true)else(
 (zcG a0 a3.Ciphers).bind fun z9=>
 some (!z9)))):Option Bool).bind fun x4=>
 if x4=true then(
 some false)else(
 (zef a3.Voter).bind fun z11=>
 (zbx a2).bind fun z12=>
 if(!z12)=true then(
 (((zdz a3.Sum).bind fun z17=>
 if z17=true then(
 (ix a3.Ciphers 0).bind fun x19=>
 (ix a3.Proofs 0).bind fun x20=>
 (zbR a0 z11 [[a0.G]] [x19.A] x20).bind fun z21=>
 some z21)else(
 some false):Option Bool).bind fun x16=>
 some x16))else(
 ((zat (σ:=Unit) (fun i26 s25=>
 (ix a3.Ciphers i26).bind fun x32=>
 (ix a3.Proofs i26).bind fun x33=>
 (zbU a2).bind fun z34=>
 (zbC a0 a1 x32 0 z34).bind fun z35=>
 (zbq a0 z11 z35 x33).bind fun z36=>
 if(!z36)=true then(
 some (.out (.inr false)))else(
 some (.go ()))) (fun s25=>.inl ()) (a3.Ciphers.length) 0 ():Option (Unit ⊕ Bool)).bind (Sum.elim (fun x24=>
 (zb6 a0 a3.Ciphers).bind fun z42=>
 (zbC a0 a1 z42 a2.Least a2.Most).bind fun z43=>
 (zbq a0 z11 z43 a3.Sum).bind fun z44=>
 some z44) some)))))
theorem zkl:∀{a0}{a1}{a2}{a3}{r},zde a0 a1 a2 a3=some r→PCalls Tryz.prog 85 [(.sh,vF a0),(.sh,.int .i64 a1),(.sh,vG a2),(.sh,vAA a3)] (Eo (.bool r) [.junk,.junk,.junk,.junk]):=by
 intro a0 a1 a2 a3 r hr;apply pF 108 [] [] [] [.tmp 8] hr zIa Tryz.func85;intro Φ hΦ hF g;unfold zde at hF;refine wW ?_;refine wC hF [.sh] zk5 fun z1 hF=>?_
 refine wW ?_;refine wJK hF [1,4,6,7] (fun x4=>[(39,.v (.bool x4))]) (fun x4 hF=>?_) fun _ hj2 hF=>?_
 ·refine wI hF (fun h10 hF=>?_) fun h10 hF=>?_
  ·exact wl hΦ hF
  refine wW ?_;refine wC hF [.sh] zms fun z11 hF=>?_
  refine wK [1,4,6,7,10] ?_;refine wC hF [.sh] zeg fun z12 hF=>?_
  refine wW ?_;refine wI hF (fun h13 hF=>?_) fun h13 hF=>?_
  ·refine wJ hF (fun x16=>[(8,.v (.bool x16))]) (fun x16 hF=>?_) fun _ hj14 hF=>?_
   ·exact wm hΦ hF
   refine wX zD6 follows ?_;refine wC hF [.sh] zln fun z17 hF=>?_
   refine wH hF (fun h18 hF=>?_) fun h18 hF=>?_
   ·obtain⟨x19,g,hF⟩:=Rxn g 0 hF;obtain⟨x20,g,hF⟩:=Rxn g 0 hF;try simp[go_sem,g,h18]
    refine wC hF [.sh,.sh,.sh,.sh,.sh] zgj fun z21 hF=>?_
    exact wV h18 (hj14 _) (zaa hF)
   exact wV h18 (hj14 _) (zaa hF)
  iterate 2 (try simp[go_sem,g];try intros;refine zap ?_)
  refine wSK hF [1,4,6,7,10] (fun x24=>[]) (fun x24 hF=>?_) fun _ hj22 hr23 hF=>?_
  ·refine wX zBS follows ?_;refine wC hF [.sh,.sh] zjI fun z42 hF=>?_
   refine wC hF [.sh,.sh,.sh,.sh,.sh] zgX fun z43 hF=>?_
   refine wC hF [.sh,.sh,.sh,.sh] zgE fun z44 hF=>?_
   refine wK [8] ?_;exact wm hΦ hF
  refine wB ?_;obtain⟨b38,hb39,hψ29⟩:=hF;refine pRK hb39 [1,4,6,7,10,69,70] (fun i26 s25=>[(71,.v (.int .i64 i26))]) (fun s25 _ hN40=>?_) fun i26 s25 _ _ hi30 hi31 ho27 hg28 hF=>?_
  ·exact wn hN40 (hj22 _) hψ29
  refine wW ?_;refine wu hi30 hi31 ?_;refine wW ?_;refine wB ?_;obtain⟨x32,g,hF⟩:=Rx g hF;refine wK [1,4,6,7,10,11,12,69,70,71] ?_;refine wX zBH follows ?_;obtain⟨x33,g,hF⟩:=Rx g hF;refine wD hF zic fun z34 hF=>?_
  refine wD hF zgX fun z35 hF=>?_
  refine wC hF [.sh,.sh,.sh,.sh] zgE fun z36 hF=>?_
  refine wK [1,4,6,7,10,69,70,71,90] ?_;refine wI hF (fun h37 hF=>?_) fun h37 hF=>?_
  ·cases ho27 _ (zaa hF);cases hΦ _ (hr23 _ hψ29);refine wW ?_;try simp[go_sem,g]
  refine wW ?_;exact wi hi30 hi31 (hg28 _) (zaa hF)
 refine wC hF [.sh] zkw fun z5 hF=>?_
 refine wG hF (fun h6 hF=>?_) fun h6 hF=>?_
 ·exact wV h6 (hj2 _) (zaa hF)
 try simp[go_sem,g,h6]
 try intros
 refine wG hF (fun h7 hF=>?_) fun h7 hF=>?_
 ·exact wV h7 (hj2 _) (zaa hF)
 try simp[go_sem,g,h7]
 try intros
 refine wG hF (fun h8 hF=>?_) fun h8 hF=>?_
 ·exact wV h8 (hj2 _) (zaa hF)
 try simp[go_sem,g,h8]
 refine wC hF [.sh,.sh] zjJ fun z9 hF=>?_
 exact wV h8 (hj2 _) (zaa hF)
@[go_sem] def zFg:List DE:=[d0 0 [9],d0 1 [16],d0 2 [17],d1 3 [5,18] 5,d2 4 [19,18] 5 19,d0 5 [20,18],d0 6 [18,21],d0 7 [22],d1 8 [5,23] 5,d2 9 [24,23] 5 24,d2 10 [3,23] 3 3,d1 11 [8,23] 8,d2 12 [27,23] 8 27,d3 13 [26,28,23],d0 14 [25,29,23],d0 15 [23,30],d0 16 [31],d1 17 [8,32] 8,d2 18 [33,32] 8 33,d1 19 [3,32] 3,d2 20 [35,32] 3 35,d0 21 [36,32],d3 22 [34,37,32],d0 23 [38,32],d0 24 [32,39],d0 25 [40],d1 26 [3,41] 3,d2 27 [42,41] 3 42,d0 28 [1,41],d1 29 [3,41] 3,d2 30 [45,41] 3 45,d2 31 [8,41] 8 8,d3 32 [43,44,46,47,41],d0 33 [48,41],d0 34 [41,49]]
def zcx(a0:Plan)(a1:Int)(a2:Entry):Option (Sealed×Bool):=
 (zbz a2.Data).bind fun z1=>
 ((if(!z1.2)=true then(
 some true)else(
 if(a2.Kind !=3)=true then(
 some true)else(
 (zfw a0 z1.1.Voter).bind fun z7=>
 if(a2.Author !=z7)=true then(
 some true)else(
 (zax z1.1.Voter 0 (i64.wrap (a0.Voters-1))).bind fun z9=>
 if(!z9)=true then(
 some true)else(
 (zde a0.Gr a1 a0.Ct z1.1).bind fun z11=>
 some (!z11))))):Option Bool).bind fun x4=>
 if x4=true then(
 some ((Sealed.mk 0 [] [] (Proof.mk [] [] [])),false))else(
 some (z1.1,true)))
theorem zl4:∀{a0}{a1}{a2}{r},zcx a0 a1 a2=some r→PCalls Tryz.prog 46 [(.sh,vH a0),(.sh,.int .i64 a1),(.sh,vC a2)] (Eo (.tup [vAA r.1,.bool r.2]) [.junk,.junk,.junk]):=by
 intro a0 a1 a2 r hr;apply pFz 53 [] [] [] [.cell 6 88,.tmp 7] hr zKk Tryz.func46;intro Φ hΦ hF g;unfold zcx at hF;refine wW ?_;refine wC hF [.sh] zkC fun z1 hF=>?_
 refine wK [1,3,5,6,8,9] ?_;refine wJK hF [6,8] (fun x4=>[(50,.v (.bool x4))]) (fun x4 hF=>?_) fun _ hj2 hF=>?_
 ·refine wI hF (fun h12 hF=>?_) fun h12 hF=>?_
  ·exact wl hΦ hF
  cases hΦ _ (zaa hF)
  iterate 2 refine wW ?_
  try simp[go_sem,g]
 refine wX zFg follows ?_;refine wH hF (fun h5 hF=>?_) fun h5 hF=>?_
 ·exact wV h5 (hj2 _) (zaa hF)
 try simp[go_sem,g,h5]
 refine wH hF (fun h6 hF=>?_) fun h6 hF=>?_
 ·exact wV h6 (hj2 _) (zaa hF)
 try simp[go_sem,g,h6]
 refine wC hF [.sh,.sh] zm4 fun z7 hF=>?_
 try simp[go_sem,g,h6]
 refine wH hF (fun h8 hF=>?_) fun h8 hF=>?_
 ·exact wV h8 (hj2 _) (zaa hF)
 try simp[go_sem,g,h8]
 refine wC hF [.sh,.sh,.sh] zaQ fun z9 hF=>?_
 try simp[go_sem,g,h8]
 refine wH hF (fun h10 hF=>?_) fun h10 hF=>?_
 ·exact wV h10 (hj2 _) (zaa hF)
 try simp[go_sem,g,h10]
 refine wC hF [.sh,.sh,.sh,.sh] zkl fun z11 hF=>?_
 exact wV h10 (hj2 _) (zaa hF)
def zeh(a0:Int):Option Bool:=
 some (decide (a0<0))
theorem zhA:∀{a0}{r},zeh a0=some r→PCalls Tryz.prog 48 [(.sh,.int .i64 a0)] (Eo (.bool r) [.junk]):=by
 intro a0 r hr;apply pF 5 [] [] [] [.tmp 2] hr zKm Tryz.func48;intro Φ hΦ hF g;unfold zeh at hF;cases hΦ _ (zaa hF)
 iterate 2 refine wW ?_
 try simp[go_sem,g]
def zaR(a0:List Int):Option Int:=
 ((zat (σ:=Unit) (fun i5 s4=>
 (ix a0 i5).bind fun x11=>
 (zeh x11).bind fun z12=>
 if z12=true then(
 some (.out (.inr i5)))else(
 some (.go ()))) (fun s4=>.inl ()) (a0.length) 0 ():Option (Unit ⊕ Int)).bind (Sum.elim (fun x3=>
 some (-1)) some))
theorem ze1:∀{a0}{r},zaR a0=some r→PCalls Tryz.prog 86 [(.sh,vA a0),(.sh,.func (.func 48) [] [])] (Eo (.int .i64 r) [.junk,.junk]):=by
 intro a0 r hr;apply pF 19 [] [] [] [.tmp 4] hr zt0 Tryz.func86;intro Φ hΦ hF g;unfold zaR at hF
 iterate 2 (try simp[go_sem,g];try intros;refine zap ?_)
 refine wS hF (fun x3=>[]) (fun x3 hF=>?_) fun _ hj1 hr2 hF=>?_
 ·exact wl hΦ hF
 refine wB ?_;obtain⟨b14,hb15,hψ8⟩:=hF;refine pRK hb15 [0,1,7] (fun i5 s4=>[(8,.v (.int .i64 i5))]) (fun s4 _ hN16=>?_) fun i5 s4 _ _ hi9 hi10 ho6 hg7 hF=>?_
 ·exact wn hN16 (hj1 _) hψ8
 refine wW ?_;refine wu hi9 hi10 ?_;refine wW ?_;refine wB ?_;obtain⟨x11,g,hF⟩:=Rx g hF;refine wW ?_;refine wC hF [.sh] zhA fun z12 hF=>?_
 refine wK [0,1,5,7,8,16] ?_;refine wI hF (fun h13 hF=>?_) fun h13 hF=>?_
 ·cases ho6 _ (zaa hF);cases hΦ _ (hr2 _ hψ8);refine wW ?_;try simp[go_sem,g]
 refine wW ?_;exact wi hi9 hi10 (hg7 _) (zaa hF)
def zaH(a0:List Int):Option ((List Int)):=
 (zaR a0).bind fun z1=>
 if(z1==(-1))=true then(
 some a0)else(
 ((zau (σ:=(List Int)×Int×Int) (fun s19=>
 if decide (s19.2.2<(s19.1.length:Int))=true then(
 (((ix s19.1 s19.2.2).bind fun x28=>
 (zeh x28).bind fun z29=>
 if(!z29)=true then(
 (ix s19.1 s19.2.1).bind fun x31=>
 some (s19.1.set s19.2.1.toNat x28,i64.wrap (s19.2.1+1)))else(
 some (s19.1,s19.2.1)):Option ((List Int×Int))).bind fun x27=>
 some (.go (x27.1,x27.2,i64.wrap (s19.2.2+1)))))else(
 some (.out (s19.1,s19.2.1)))) (a0,z1,i64.wrap (z1+1)):Option ((List Int×Int))).bind fun x5=>
 gd (0≤x5.2)<|
 gd (x5.2.toNat≤x5.1.length∧x5.1.length≤x5.1.length)<|
 gd (x5.2.toNat<x5.1.length∧x5.1.length≤x5.1.length)<|
 (some (x5.1.take x5.2.toNat++(List.replicate (x5.1.length-x5.2.toNat) 0++x5.1.drop x5.1.length))).bind fun x34=>
 gd (0≤x5.2)<|
 gd (0≤x5.2.toNat∧x5.2.toNat≤x34.length)<|
 some (x34.take x5.2.toNat)))
theorem zen:∀{a0}{r},zaH a0=some r→PCalls Tryz.prog 47 [(.mv,vI a0),(.sh,.func (.func 48) [] [])] (Eo (vI r) [.junk,.junk]):=by
 intro a0 r hr;apply pF 42 [] [] [1000000] [.tmp 4] hr zH0 Tryz.func47;intro Φ hΦ hF g;unfold zaH at hF;refine wW ?_;refine wC hF [.sh,.sh] ze1 fun z1 hF=>?_
 iterate 2 refine wW ?_
 refine wI hF (fun h2 hF=>?_) fun h2 hF=>?_
 ·exact wl hΦ hF
 refine wW ?_;refine wK [0,1,5,6] ?_;refine wJ hF (fun x5=>[(0,.v (vI x5.1)),(5,.v (.int .i64 x5.2))]) (fun x5 hF=>?_) fun _ hj3 hF=>?_
 ·obtain⟨g,hF⟩:=Rg g hF;obtain⟨g,hF⟩:=Rg g hF;obtain⟨g,hF⟩:=Rg g hF;obtain⟨x34,e35,hF⟩:=zdA hF;try simp[go_sem,g]
  refine zAx (rows2:=x34.map zaf) (by simp) (by(try (conv=>lhs;simp[go_sem,g]))<;>rfl) (by(try (conv=>lhs;simp[go_sem]))<;>rfl) (by(try (conv=>lhs;simp[go_sem,g]))<;>rfl) (by simp[go_sem,g]) (by injection e35 with e35;rw[←e35];simp[go_sem]) ?_;obtain⟨g,hF⟩:=Rg g hF;obtain⟨g,hF⟩:=Rg g hF;cases hΦ _ (zaa hF)
  iterate 2 refine wW ?_
  try simp[go_sem,g]
 refine wB ?_;obtain⟨b32,hb33,hψ23⟩:=hF;refine pL hb33 (fun s19=>[(0,.v (vI s19.1)),(1,.v (.func (.func 48) [] [])),(5,.v (.int .i64 s19.2.1)),(6,.v (.int .i64 s19.2.2))]) fun s19 _ _ ho21 hg22 hF=>?_
 try simp[go_sem,g]
 try intros
 refine zap ?_;refine wI hF (fun h24 hF=>?_) fun h24 hF=>?_
 ·refine wW ?_;refine wJK hF [1,6] (fun x27=>[(0,.v (vI x27.1)),(5,.v (.int .i64 x27.2))]) (fun x27 hF=>?_) fun _ hj25 hF=>?_
  ·exact wT (hg22 _) (zaa hF)
  refine wB ?_;obtain⟨x28,g,hF⟩:=Rx g hF;refine wW ?_;refine wC hF [.sh] zhA fun z29 hF=>?_
  refine wK [0,1,5,6,7,29] ?_;refine wI hF (fun h30 hF=>?_) fun h30 hF=>?_
  ·obtain⟨x31,g,hF⟩:=Rx g hF;refine wW ?_;exact wT (hj25 _) (zaa hF)
  exact wT (hj25 _) (zaa hF)
 cases ho21 _ (zaa hF);exact wT (hj3 _) hψ23
def zdR(a0:Plan)(a1:Int)(a2:Board):Option ((List Int)):=
 (zbl [(-1)] a0.Voters).bind fun z1=>
 ((zat (σ:=(List Int)) (fun i21 s20=>
 (((ix a2.Entries i21).bind fun x30=>
 if(x30.Kind==4)=true then(
 some (.inr (.out s20)))else(
 (zcx a0 a1 x30).bind fun z32=>
 if z32.2=true then(
 (ix s20 z32.1.Voter).bind fun x34=>
 some (.inl (s20.set z32.1.Voter.toNat i21)))else(
 some (.inl s20))):Option ((List Int) ⊕ (Stp (List Int) (List Int)))).bind (Sum.elim (fun x29=>
 some (.go x29)) some))) (fun s20=>s20) (a2.Entries.length) 0 z1:Option ((List Int))).bind fun x4=>
 (zaH x4).bind fun z39=>
 some z39)
theorem zlv:∀{a0}{a1}{a2}{r},zdR a0 a1 a2=some r→PCalls Tryz.prog 26 [(.sh,vH a0),(.sh,.int .i64 a1),(.sh,vE a2)] (Eo (vI r) [.junk,.junk,.junk]):=by
 intro a0 a1 a2 r hr;apply pF 43 [] [] [] [.tmp 6] hr zH6 Tryz.func26;intro Φ hΦ hF g;unfold zdR at hF;refine wW ?_;refine wC hF [.sh,.sh] zgW fun z1 hF=>?_
 try simp[go_sem,g]
 try intros
 refine zap ?_;try simp[go_sem,g]
 try intros
 refine wK [1,3,7,17,18,19] ?_;refine wJ hF (fun x4=>[(7,.v (vI x4))]) (fun x4 hF=>?_) fun _ hj2 hF=>?_
 ·refine wC hF [.mv,.sh] zen fun z39 hF=>?_
  exact wl hΦ hF
 refine wB ?_;obtain⟨b35,hb36,hψ24⟩:=hF;refine pRK hb36 [1,3,17,18] (fun i21 s20=>[(7,.v (vI s20)),(19,.v (.int .i64 i21))]) (fun s20 _ hN37=>?_) fun i21 s20 _ _ hi25 hi26 ho22 hg23 hF=>?_
 ·exact wn hN37 (hj2 _) hψ24
 refine wW ?_;refine wu hi25 hi26 ?_;refine wW ?_;refine wSK hF [1,3,17,18,19] (fun x29=>[(7,.v (vI x29))]) (fun x29 hF=>?_) fun _ hj27 hr28 hF=>?_
 ·exact wi hi25 hi26 (hg23 _) (zaa hF)
 refine wB ?_;obtain⟨x30,g,hF⟩:=Rx g hF;refine wW ?_;refine wK [1,3,7,8,9,17,18,19,26] ?_;refine wI hF (fun h31 hF=>?_) fun h31 hF=>?_
 ·cases ho22 _ (hr28 _ (zaa hF));exact wT (hj2 _) hψ24
 refine wW ?_;refine wC hF [.sh,.sh,.sh] zl4 fun z32 hF=>?_
 refine wK [1,3,7,8,10,11,17,18,19] ?_;refine wW ?_;refine wI hF (fun h33 hF=>?_) fun h33 hF=>?_
 ·obtain⟨x34,g,hF⟩:=Rx g hF;exact wT (hj27 _) (zaa hF)
 exact wT (hj27 _) (zaa hF)
@[go_sem] def zJE:List DE:=[d2 0 [2] 2 2,d2 1 [2] 2 2,d2 5 [3] 3 3,d3 2 [11],d0 3 [12],d0 4 [13],d3 6 [10,14,15],d0 7 [16],d0 8 []]
def zby(a0:Plan)(a1:Board):Option (List Int×Bool):=
 (zc7 a0 a1).bind fun z1=>
 if(!z1)=true then(
 some ([],false))else(
 (zdN a0).bind fun z3=>
 (ix z3 0).bind fun x4=>
 (zdR a0 x4 a1).bind fun z5=>
 some (z5,true))
theorem zhD:∀{a0}{a1}{r},zby a0 a1=some r→PCalls Tryz.prog 9 [(.sh,vH a0),(.sh,vE a1)] (Eo (.tup [vI r.1,.bool r.2]) [.junk,.junk]):=by
 intro a0 a1 r hr;apply pF 17 [] [] [] [.tmp 4,.tmp 5] hr cl9 Tryz.func9;intro Φ hΦ hF g;unfold zby at hF;refine wW ?_;refine wC hF [.sh,.sh] znq fun z1 hF=>?_
 refine wW ?_;refine wI hF (fun h2 hF=>?_) fun h2 hF=>?_
 ·refine wK [4,5] ?_;exact wm hΦ hF
 refine wW ?_;refine wX zJE follows ?_;refine wC hF [.sh] zlw fun z3 hF=>?_
 obtain⟨x4,g,hF⟩:=Rxn g 0 hF;refine wC hF [.sh,.sh,.sh] zlv fun z5 hF=>?_
 refine wK [4,5] ?_;exact wm hΦ hF
@[go_sem] def zFw:List DE:=[d0 0 [0],d0 1 [5],d0 2 [17,18],d0 3 [19],d0 4 [1],d0 5 [5],d0 6 [21,22],d0 7 [23],d0 8 [20,24]]
def zbG(a0:List Int)(a1:List Int):Option Bool:=
 if((a0.length:Int) !=(a1.length:Int))=true then(
 some false)else(
 ((zau (σ:=Int) (fun s5=>
 if decide (s5<(a0.length:Int))=true then(
 (ix a0 s5).bind fun x11=>
 (ix a1 s5).bind fun x12=>
 if(x11 !=x12)=true then(
 some (.out (.inr false)))else(
 some (.go (i64.wrap (s5+1)))))else(
 some (.out (.inl ())))) 0:Option (Unit ⊕ Bool)).bind (Sum.elim (fun x4=>
 some true) some)))
theorem zdC:∀{a0}{a1}{r},zbG a0 a1=some r→PCalls Tryz.prog 10 [(.sh,vA a0),(.sh,vA a1)] (Eo (.bool r) [.junk,.junk]):=by
 intro a0 a1 r hr;apply pF 26 [] [] [] [.tmp 4] hr zKp Tryz.func10;intro Φ hΦ hF g;unfold zbG at hF
 iterate 2 (try simp[go_sem,g];try intros;refine zap ?_)
 refine wI hF (fun h1 hF=>?_) fun h1 hF=>?_
 ·exact wl hΦ hF
 iterate 2 refine wW ?_
 refine wS hF (fun x4=>[]) (fun x4 hF=>?_) fun _ hj2 hr3 hF=>?_
 ·exact wl hΦ hF
 refine wB ?_;obtain⟨b14,hb15,hψ9⟩:=hF;refine pLK hb15 [0,1] (fun s5=>[(5,.v (.int .i64 s5))]) fun s5 _ _ ho7 hg8 hF=>?_
 try simp[go_sem,g]
 try intros
 refine wK [0,1,5,14] ?_;refine wI hF (fun h10 hF=>?_) fun h10 hF=>?_
 ·refine wW ?_;refine wB ?_;refine wX zFw follows ?_;obtain⟨x11,g,hF⟩:=Rx g hF;obtain⟨x12,g,hF⟩:=Rx g hF;refine wW ?_;refine wI hF (fun h13 hF=>?_) fun h13 hF=>?_
  ·refine wK [4] ?_;cases ho7 _ (zaa hF);cases hΦ _ (hr3 _ hψ9);try simp[go_sem,g]
  refine wW ?_;exact wT (hg8 _) (zaa hF)
 cases ho7 _ (zaa hF);exact wT (hj2 _) hψ9
def zfA(a0:Proof)(a1:Proof):Option Bool:=
 (zbG a0.Commits a1.Commits).bind fun z1=>
 if(!z1)=true then(
 some false)else(
 (zbG a0.Challenges a1.Challenges).bind fun z3=>
 if(!z3)=true then(
 some false)else(
 (zbG a0.Responses a1.Responses).bind fun z5=>
 if(!z5)=true then(
 some false)else(
 some true)))
theorem zpz:∀{a0}{a1}{r},zfA a0 a1=some r→PCalls Tryz.prog 90 [(.sh,vB a0),(.sh,vB a1)] (Eo (.bool r) [.junk,.junk]):=by
 intro a0 a1 r hr;apply pF 23 [] [] [] [.tmp 4] hr zLp Tryz.func90;intro Φ hΦ hF g;unfold zfA at hF;refine wW ?_;refine wC hF [.sh,.sh] zdC fun z1 hF=>?_
 refine wW ?_;refine wI hF (fun h2 hF=>?_) fun h2 hF=>?_
 ·refine wK [4] ?_;exact wm hΦ hF
 refine wW ?_;refine wC hF [.sh,.sh] zdC fun z3 hF=>?_
 refine wK [2,3,16] ?_;refine wI hF (fun h4 hF=>?_) fun h4 hF=>?_
 ·exact wl hΦ hF
 refine wW ?_;refine wC hF [.sh,.sh] zdC fun z5 hF=>?_
 refine wW ?_;refine wI hF (fun h6 hF=>?_) fun h6 hF=>?_
 ·exact wl hΦ hF
 cases hΦ _ (zaa hF)
 iterate 2 refine wW ?_
 try simp[go_sem,g]
def zfJ(a0:Entry)(a1:Entry):Option Bool:=
 if(a0.Kind !=a1.Kind)=true then(
 some false)else(
 if(a0.Author !=a1.Author)=true then(
 some false)else(
 (zbG a0.Data a1.Data).bind fun z3=>
 if(!z3)=true then(
 some false)else(
 (zfA a0.Sign a1.Sign).bind fun z5=>
 if(!z5)=true then(
 some false)else(
 some true))))
theorem zpt:∀{a0}{a1}{r},zfJ a0 a1=some r→PCalls Tryz.prog 52 [(.sh,vC a0),(.sh,vC a1)] (Eo (.bool r) [.junk,.junk]):=by
 intro a0 a1 r hr;apply pF 27 [] [] [] [.tmp 4] hr zJu Tryz.func52;intro Φ hΦ hF g;unfold zfJ at hF
 iterate 2 refine wW ?_
 refine wI hF (fun h1 hF=>?_) fun h1 hF=>?_
 ·exact wl hΦ hF
 refine wW ?_;refine wK [2,3,14] ?_;refine wI hF (fun h2 hF=>?_) fun h2 hF=>?_
 ·exact wl hΦ hF
 refine wW ?_;refine wC hF [.sh,.sh] zdC fun z3 hF=>?_
 refine wW ?_;refine wI hF (fun h4 hF=>?_) fun h4 hF=>?_
 ·exact wl hΦ hF
 refine wW ?_;refine wC hF [.sh,.sh] zpz fun z5 hF=>?_
 refine wK [26] ?_;refine wI hF (fun h6 hF=>?_) fun h6 hF=>?_
 ·exact wl hΦ hF
 cases hΦ _ (zaa hF)
 iterate 2 refine wW ?_
 try simp[go_sem,g]
@[go_sem] def zCy:List DE:=[d0 0 [0],d0 1 [5],d0 2 [17,18],d0 3 [19],d0 4 [1],d0 5 [5],d0 6 [21,22],d0 7 [23],d3 8 [20,24],d0 9 [25]]
def zgm(a0:List Entry)(a1:List Entry):Option Bool:=
 if((a0.length:Int) !=(a1.length:Int))=true then(
 some false)else(
 ((zau (σ:=Int) (fun s5=>
 if decide (s5<(a0.length:Int))=true then(
 (ix a0 s5).bind fun x11=>
 (ix a1 s5).bind fun x12=>
 (zfJ x11 x12).bind fun z13=>
 if(!z13)=true then(
 some (.out (.inr false)))else(
 some (.go (i64.wrap (s5+1)))))else(
 some (.out (.inl ())))) 0:Option (Unit ⊕ Bool)).bind (Sum.elim (fun x4=>
 some true) some)))
theorem zoj:∀{a0}{a1}{r},zgm a0 a1=some r→PCalls Tryz.prog 28 [(.sh,vD a0),(.sh,vD a1)] (Eo (.bool r) [.junk,.junk]):=by
 intro a0 a1 r hr;apply pF 27 [] [] [] [.tmp 4] hr zKL Tryz.func28;intro Φ hΦ hF g;unfold zgm at hF
 iterate 2 (try simp[go_sem,g];try intros;refine zap ?_)
 refine wI hF (fun h1 hF=>?_) fun h1 hF=>?_
 ·exact wl hΦ hF
 iterate 2 refine wW ?_
 refine wS hF (fun x4=>[]) (fun x4 hF=>?_) fun _ hj2 hr3 hF=>?_
 ·exact wl hΦ hF
 refine wB ?_;obtain⟨b15,hb16,hψ9⟩:=hF;refine pLK hb16 [0,1] (fun s5=>[(5,.v (.int .i64 s5))]) fun s5 _ _ ho7 hg8 hF=>?_
 try simp[go_sem,g]
 try intros
 refine wK [0,1,5,14] ?_;refine wI hF (fun h10 hF=>?_) fun h10 hF=>?_
 ·refine wW ?_;refine wB ?_;refine wX zCy follows ?_;obtain⟨x11,g,hF⟩:=Rx g hF;obtain⟨x12,g,hF⟩:=Rx g hF;refine wC hF [.sh,.sh] zpt fun z13 hF=>?_
  refine wK [0,1,5,26] ?_;refine wI hF (fun h14 hF=>?_) fun h14 hF=>?_
  ·cases ho7 _ (zaa hF);cases hΦ _ (hr3 _ hψ9);refine wW ?_;try simp[go_sem,g]
  refine wW ?_;exact wT (hg8 _) (zaa hF)
 cases ho7 _ (zaa hF);exact wT (hj2 _) hψ9
def zfG(a0:Board)(a1:Board):Option Bool:=
 (zbG a0.Keys a1.Keys).bind fun z1=>
 if(!z1)=true then(
 some false)else(
 (zgm a0.Entries a1.Entries).bind fun z3=>
 if(!z3)=true then(
 some false)else(
 some true))
theorem zoZ:∀{a0}{a1}{r},zfG a0 a1=some r→PCalls Tryz.prog 11 [(.sh,vE a0),(.sh,vE a1)] (Eo (.bool r) [.junk,.junk]):=by
 intro a0 a1 r hr;apply pF 17 [] [] [] [.tmp 4] hr zK2 Tryz.func11;intro Φ hΦ hF g;unfold zfG at hF;refine wW ?_;refine wC hF [.sh,.sh] zdC fun z1 hF=>?_
 refine wW ?_;refine wI hF (fun h2 hF=>?_) fun h2 hF=>?_
 ·refine wK [4] ?_;exact wm hΦ hF
 refine wW ?_;refine wC hF [.sh,.sh] zoj fun z3 hF=>?_
 refine wK [16] ?_;refine wI hF (fun h4 hF=>?_) fun h4 hF=>?_
 ·exact wl hΦ hF
 cases hΦ _ (zaa hF)
 iterate 2 refine wW ?_
 try simp[go_sem,g]
def zaK(a0:List Int)(a1:Int):Option (Int×List Int):=
 ((zau (σ:=(List Int)×Int×Int) (fun s11=>
 if decide (s11.2.2<(s11.1.length:Int))=true then(
 (ix s11.1 s11.2.2).bind fun x17=>
 some (.go (s11.1.set s11.2.2.toNat s11.2.1,i64.wrap (s11.2.1+1),i64.wrap (s11.2.2+1))))else(
 some (.out (s11.1,s11.2.1)))) (a0,a1,0):Option ((List Int×Int))).bind fun x3=>
 some (x3.2,x3.1))
theorem zcE:∀{a0}{a1}{r},zaK a0 a1=some r→PCalls Tryz.prog 13 [(.io,vI a0),(.sh,.int .i64 a1)] (Eo (.int .i64 r.1) [vI r.2,.junk]):=by
 intro a0 a1 r hr;apply pF 19 [0] [] [] [.tmp 4] hr zIK Tryz.func13;intro Φ hΦ hF g;unfold zaK at hF
 iterate 2 refine wW ?_
 refine wJ hF (fun x3=>[(0,.v (vI x3.1)),(1,.v (.int .i64 x3.2))]) (fun x3 hF=>?_) fun _ hj1 hF=>?_
 ·exact wl hΦ hF
 refine wB ?_;obtain⟨b18,hb19,hψ15⟩:=hF;refine pL hb19 (fun s11=>[(0,.v (vI s11.1)),(1,.v (.int .i64 s11.2.1)),(5,.v (.int .i64 s11.2.2))]) fun s11 _ _ ho13 hg14 hF=>?_
 try simp[go_sem,g]
 try intros
 refine zap ?_;refine wI hF (fun h16 hF=>?_) fun h16 hF=>?_
 ·refine wW ?_;refine wB ?_;obtain⟨x17,g,hF⟩:=Rx g hF;refine wK [0,1,5] ?_;refine wW ?_;exact wT (hg14 _) (zaa hF)
 cases ho13 _ (zaa hF);exact wT (hj1 _) hψ15
def zc1(a0:List Entry)(a1:Int):Option (Int×List Entry):=
 ((zau (σ:=(List Entry)×Int×Int) (fun s15=>
 if decide (s15.2.2<(s15.1.length:Int))=true then(
 (ix s15.1 s15.2.2).bind fun x21=>
 (zaK x21.Data (i64.wrap ((i64.wrap (s15.2.1+1))+1))).bind fun z22=>
 (zaK x21.Sign.Commits z22.1).bind fun z23=>
 (zaK x21.Sign.Challenges z23.1).bind fun z24=>
 (zaK x21.Sign.Responses z24.1).bind fun z25=>
 some (.go ((((((s15.1.set s15.2.2.toNat (Entry.mk s15.2.1 x21.Author x21.Data x21.Sign)).set s15.2.2.toNat (Entry.mk s15.2.1 (i64.wrap (s15.2.1+1)) x21.Data x21.Sign)).set s15.2.2.toNat (Entry.mk s15.2.1 (i64.wrap (s15.2.1+1)) z22.2 x21.Sign)).set s15.2.2.toNat (Entry.mk s15.2.1 (i64.wrap (s15.2.1+1)) z22.2 (Proof.mk z23.2 x21.Sign.Challenges x21.Sign.Responses))).set s15.2.2.toNat (Entry.mk s15.2.1 (i64.wrap (s15.2.1+1)) z22.2 (Proof.mk z23.2 z24.2 x21.Sign.Responses))).set s15.2.2.toNat (Entry.mk s15.2.1 (i64.wrap (s15.2.1+1)) z22.2 (Proof.mk z23.2 z24.2 z25.2)),z25.1,i64.wrap (s15.2.2+1))))else(
 some (.out (s15.1,s15.2.1)))) (a0,a1,0):Option ((List Entry×Int))).bind fun x3=>
 some (x3.2,x3.1))
theorem zj1:∀{a0}{a1}{r},zc1 a0 a1=some r→PCalls Tryz.prog 29 [(.io,vL a0),(.sh,.int .i64 a1)] (Eo (.int .i64 r.1) [vL r.2,.junk]):=by
 intro a0 a1 r hr;apply pF 58 [0] [] [] [.tmp 4] hr zJp Tryz.func29;intro Φ hΦ hF g;unfold zc1 at hF
 iterate 2 refine wW ?_
 refine wJ hF (fun x3=>[(0,.v (vL x3.1)),(1,.v (.int .i64 x3.2))]) (fun x3 hF=>?_) fun _ hj1 hF=>?_
 ·exact wl hΦ hF
 refine wB ?_;obtain⟨b26,hb27,hψ19⟩:=hF;refine pL hb27 (fun s15=>[(0,.v (vL s15.1)),(1,.v (.int .i64 s15.2.1)),(5,.v (.int .i64 s15.2.2))]) fun s15 _ _ ho17 hg18 hF=>?_
 try simp[go_sem,g]
 try intros
 refine zap ?_;refine wI hF (fun h20 hF=>?_) fun h20 hF=>?_
 ·refine wW ?_;refine wB ?_;obtain⟨x21,g,hF⟩:=Rx g hF;refine wK [0,1,5] ?_
  iterate 2 refine wW ?_
  refine wK [0,1,5] ?_;refine wC hF [.io,.sh] zcE fun z22 hF=>?_
  refine wW ?_;refine wC hF [.io,.sh] zcE fun z23 hF=>?_
  refine wK [0,1,5] ?_;refine wC hF [.io,.sh] zcE fun z24 hF=>?_
  refine wW ?_;refine wC hF [.io,.sh] zcE fun z25 hF=>?_
  refine wK [0,1,5] ?_;exact wT (hg18 _) (zaa hF)
 cases ho17 _ (zaa hF);exact wT (hj1 _) hψ19
def zdd(a0:Board)(a1:Int):Option Int:=
 (zaK a0.Keys a1).bind fun z1=>
 (zc1 a0.Entries z1.1).bind fun z2=>
 some z2.1
theorem zkz:∀{a0}{a1}{r},zdd a0 a1=some r→PCalls Tryz.prog 12 [(.mv,vM a0),(.sh,.int .i64 a1)] (Eo (.int .i64 r) [.junk,.junk]):=by
 intro a0 a1 r hr;apply pF 14 [] [] [] [.tmp 4] hr zLB Tryz.func12;intro Φ hΦ hF g;unfold zdd at hF;refine wW ?_;refine wC hF [.io,.sh] zcE fun z1 hF=>?_
 refine wW ?_;refine wC hF [.io,.sh] zj1 fun z2 hF=>?_
 refine wK [1] ?_;exact wl hΦ hF
def zej(a0:List Int)(a1:Int):Option Int:=
 ((zau (σ:=Int×Int) (fun s4=>
 if decide (s4.2<(a0.length:Int))=true then(
 (ix a0 s4.2).bind fun x10=>
 if(x10 !=s4.1)=true then(
 some (.out (.inr (-1))))else(
 some (.go (i64.wrap (s4.1+1),i64.wrap (s4.2+1)))))else(
 some (.out (.inl s4.1)))) (a1,0):Option (Int ⊕ Int)).bind (Sum.elim (fun x3=>
 some x3) some))
theorem zjT:∀{a0}{a1}{r},zej a0 a1=some r→PCalls Tryz.prog 14 [(.sh,vA a0),(.sh,.int .i64 a1)] (Eo (.int .i64 r) [.junk,.junk]):=by
 intro a0 a1 r hr;apply pF 21 [] [] [] [.tmp 4] hr zJS Tryz.func14;intro Φ hΦ hF g;unfold zej at hF
 iterate 2 refine wW ?_
 refine wS hF (fun x3=>[(1,.v (.int .i64 x3))]) (fun x3 hF=>?_) fun _ hj1 hr2 hF=>?_
 ·exact wl hΦ hF
 refine wB ?_;obtain⟨b12,hb13,hψ8⟩:=hF;refine pL hb13 (fun s4=>[(0,.v (vA a0)),(1,.v (.int .i64 s4.1)),(5,.v (.int .i64 s4.2))]) fun s4 _ _ ho6 hg7 hF=>?_
 try simp[go_sem,g]
 try intros
 refine zap ?_;refine wI hF (fun h9 hF=>?_) fun h9 hF=>?_
 ·refine wW ?_;refine wB ?_;obtain⟨x10,g,hF⟩:=Rx g hF;refine wK [0,1,5,17] ?_;refine wI hF (fun h11 hF=>?_) fun h11 hF=>?_
  ·cases ho6 _ (zaa hF);cases hΦ _ (hr2 _ hψ8);refine wW ?_;try simp[go_sem,g]
  iterate 2 refine wW ?_
  exact wT (hg7 _) (zaa hF)
 cases ho6 _ (zaa hF);exact wT (hj1 _) hψ8
@[go_sem] def zFp:List DE:=[d2 0 [8] 8 8,d2 1 [3] 3 3,d3 2 [48],d3 3 [47,49],d0 4 [50]]
@[go_sem] def zFz:List DE:=[d2 0 [2] 2 2,d2 2 [3] 3 3,d3 1 [80],d3 3 [82],d3 4 [81,83],d0 5 [84],d0 6 [79],d0 7 [79],d0 8 [85],d0 9 [86]]
@[go_sem] def zKM:List DE:=[d2 0 [2] 2 2,d2 2 [3] 3 3,d3 1 [22],d3 3 [24],d3 4 [23,25],d0 5 [26],d0 6 [21],d0 7 [21],d0 8 [27],d0 9 [28]]
@[go_sem] def zJs:List DE:=[d2 0 [2] 2 2,d2 2 [8] 8 8,d3 1 [32],d3 3 [33,34],d0 4 [35],d0 5 [31],d0 6 [31],d0 7 [36],d0 8 [37]]
def zbZ(a0:Plan)(a1:Board):Option Bool:=
 (zgQ a1 1048576).bind fun z1=>
 if decide (z1<0)=true then(
 some true)else(
 (ze7 a0).bind fun z3=>
 (zdi a1).bind fun z4=>
 (zb0 z3 z4).bind fun z5=>
 (zdi a1).bind fun z6=>
 (ze7 a0).bind fun z7=>
 (zby z7 z6).bind fun z8=>
 (((zbG z8.1 z5.1).bind fun z12=>
 if(!z12)=true then(
 some true)else(
 some (z8.2 !=z5.2)):Option Bool).bind fun x11=>
 if x11=true then(
 some false)else(
 (zdi a1).bind fun z15=>
 (zfG z6 z15).bind fun z16=>
 if(!z16)=true then(
 some false)else(
 (zdd z6 1).bind fun z18=>
 ((if decide (z18<0)=true then(
 some true)else(
 (zbG z8.1 z5.1).bind fun z23=>
 if(!z23)=true then(
 some true)else(
 some (z8.2 !=z5.2))):Option Bool).bind fun x21=>
 if x21=true then(
 some false)else(
 (zaK z8.1 1).bind fun z26=>
 (zej z26.2 1).bind fun z27=>
 if decide (z27<0)=true then(
 some false)else(
 if(z27 !=z26.1)=true then(
 some false)else(
 (ze7 a0).bind fun z30=>
 (zdi a1).bind fun z31=>
 (zby z30 z31).bind fun z32=>
 (((zbG z32.1 z5.1).bind fun z36=>
 if(!z36)=true then(
 some true)else(
 some (z32.2 !=z5.2)):Option Bool).bind fun x35=>
 if x35=true then(
 some false)else(
 (zej z26.2 1).bind fun z39=>
 if decide (z39<0)=true then(
 some false)else(
 if(z39 !=z26.1)=true then(
 some false)else(
 some true))))))))))))
set_option maxHeartbeats 1000000 in
theorem ziq:∀{a0}{a1}{r},zbZ a0 a1=some r→PCalls Tryz.prog 3 [(.sh,.agg [.int .i64 a0.Gr.P,.int .i64 a0.Gr.Q,.int .i64 a0.Gr.G,.int .i64 a0.Ct.Kind,.int .i64 a0.Ct.Options,.int .i64 a0.Ct.Least,.int .i64 a0.Ct.Most,.int .i64 a0.Ct.Points,.int .i64 a0.Threshold,.int .i64 a0.Trustees,.int .i64 a0.Mixers,.int .i64 a0.Voters,.int .i64 a0.Seed]),(.sh,.agg [.sl false 1 (a1.Keys.map zaf),.sl false 6 (a1.Entries.map zbA)])] (Eo (.bool r) [.junk,.junk]):=by
 intro a0 a1 r hr;apply pF 104 [] [] [] [.tmp 4] hr cl3 Tryz.func3;intro Φ hΦ hF g;unfold zbZ at hF
 iterate 2 refine wW ?_
 refine wC hF [.sh,.sh] zo3 fun z1 hF=>?_
 refine wW ?_;refine wK [2,3,20] ?_;refine wI hF (fun h2 hF=>?_) fun h2 hF=>?_
 ·exact wl hΦ hF
 refine wW ?_;refine wX zKM follows ?_;refine wC hF [.sh] ziR fun z3 hF=>?_
 refine wC hF [.sh] zgI fun z4 hF=>?_
 refine wC hF [.sh,.sh] zkk fun z5 hF=>?_
 refine wK [2,3,6,7] ?_;refine wC hF [.sh] zgI fun z6 hF=>?_
 refine wW ?_;refine wX zJs follows ?_;refine wC hF [.sh] ziR fun z7 hF=>?_
 refine wC hF [.sh,.sh] zhD fun z8 hF=>?_
 refine wK [2,3,6,7,8,9,10] ?_;refine wJK hF [2,3,6,7,8,9,10] (fun x11=>[(46,.v (.bool x11))]) (fun x11 hF=>?_) fun _ hj9 hF=>?_
 ·refine wI hF (fun h14 hF=>?_) fun h14 hF=>?_
  ·exact wl hΦ hF
  refine wW ?_;refine wX zFp follows ?_;refine wC hF [.sh] zgI fun z15 hF=>?_
  refine wC hF [.sh,.sh] zoZ fun z16 hF=>?_
  refine wW ?_;refine wI hF (fun h17 hF=>?_) fun h17 hF=>?_
  ·exact wl hΦ hF
  iterate 2 refine wW ?_
  refine wC hF [.mv,.sh] zkz fun z18 hF=>?_
  refine wK [2,3,6,7,9,10,11] ?_;refine wJK hF [2,3,6,7,9] (fun x21=>[(67,.v (.bool x21))]) (fun x21 hF=>?_) fun _ hj19 hF=>?_
  ·refine wI hF (fun h25 hF=>?_) fun h25 hF=>?_
   ·exact wl hΦ hF
   iterate 2 refine wW ?_
   refine wC hF [.io,.sh] zcE fun z26 hF=>?_
   iterate 2 refine wW ?_
   refine wC hF [.sh,.sh] zjT fun z27 hF=>?_
   refine wK [2,3,6,7,9,12,13] ?_;refine wW ?_;refine wI hF (fun h28 hF=>?_) fun h28 hF=>?_
   ·exact wl hΦ hF
   iterate 2 refine wW ?_
   refine wI hF (fun h29 hF=>?_) fun h29 hF=>?_
   ·exact wl hΦ hF
   refine wW ?_;refine wX zFz follows ?_;refine wC hF [.sh] ziR fun z30 hF=>?_
   refine wC hF [.sh] zgI fun z31 hF=>?_
   refine wC hF [.sh,.sh] zhD fun z32 hF=>?_
   refine wK [6,7,9,12,14,15] ?_;refine wJK hF [9,12] (fun x35=>[(95,.v (.bool x35))]) (fun x35 hF=>?_) fun _ hj33 hF=>?_
   ·refine wI hF (fun h38 hF=>?_) fun h38 hF=>?_
    ·exact wl hΦ hF
    iterate 2 refine wW ?_
    refine wC hF [.sh,.sh] zjT fun z39 hF=>?_
    iterate 2 refine wW ?_
    refine wI hF (fun h40 hF=>?_) fun h40 hF=>?_
    ·exact wl hΦ hF
    refine wW ?_;refine wK [103] ?_;refine wI hF (fun h41 hF=>?_) fun h41 hF=>?_
    ·exact wl hΦ hF
    cases hΦ _ (zaa hF)
    iterate 2 refine wW ?_
    try simp[go_sem,g]
   refine wC hF [.sh,.sh] zdC fun z36 hF=>?_
   refine wG hF (fun h37 hF=>?_) fun h37 hF=>?_
   ·exact wV h37 (hj33 _) (zaa hF)
   exact wV h37 (hj33 _) (zaa hF)
  refine wG hF (fun h22 hF=>?_) fun h22 hF=>?_
  ·exact wV h22 (hj19 _) (zaa hF)
  try simp[go_sem,g,h22]
  refine wC hF [.sh,.sh] zdC fun z23 hF=>?_
  try simp[go_sem,g,h22]
  refine wG hF (fun h24 hF=>?_) fun h24 hF=>?_
  ·exact wV h24 (hj19 _) (zaa hF)
  exact wV h24 (hj19 _) (zaa hF)
 refine wC hF [.sh,.sh] zdC fun z12 hF=>?_
 refine wG hF (fun h13 hF=>?_) fun h13 hF=>?_
 ·exact wV h13 (hj9 _) (zaa hF)
 exact wV h13 (hj9 _) (zaa hF)
end
end Go.Pm
