/-
  Plain functions and their walks. Written by wip/tools/lift.py.
-/
import Derived.Test.YthafgjhkjgcdeaaGreatSo
namespace Go.Pm
open Go.Am IntKind
open Go.Proofs
set_option maxRecDepth 100000
attribute [local irreducible] pw pwx pw1 pwg qv qz qf
attribute [-simp] List.map_set
set_option linter.unusedSimpArgs false
set_option linter.unusedVariables false
noncomputable section
structure Group where
 P:Int
 Q:Int
 G:Int
structure Cipher where
 A:Int
 B:Int
structure l1Cur where
 code:(List Int)
 at_:Int
 seed:Int
structure Bases where
 H:Int
 Hs:(List Int)
structure Proof where
 Commits:(List Int)
 Challenges:(List Int)
 Responses:(List Int)
structure MatrixProof where
 Columns:(List Int)
 Chain:(List Int)
 Pi:Proof
structure taker where
 l:(List Int)
structure PolyProof where
 Places:(List Int)
 Powers:(List Int)
 Chain:(List Int)
 Pi:Proof
structure Arr5 where
 f0:(List Int)
 f1:(List Int)
 f2:(List Int)
 f3:(List Int)
 f4:(List Int)
def zfH (x:Int):List PV:=[.int .u8 x]
@[go_sem] theorem zFF {x:Int}:zfH x=[.int .u8 x]:=(rfl)
@[go_sem] theorem zqV {l:List Int}:List.map (List.map drop∘zfH) l=l.map zfH:=by refine List.map_congr_left fun x _=>?_;simp[go_sem]
@[go_sem] theorem zAF {l:List Int}:List.map (List.map drop) (l.map zfH)=l.map zfH:=by rw[List.map_map];exact zqV
@[go_sem] theorem zDr {l:List Int}{i:Nat}{a:Int}:(l.map zfH).set i [.int .u8 a]=(l.set i a).map zfH:=by rw[List.map_set];rfl
def zax (x:Int):List PV:=[.int .i64 x]
@[go_sem] theorem zDE {x:Int}:zax x=[.int .i64 x]:=(rfl)
@[go_sem] theorem zpB {l:List Int}:List.map (List.map drop∘zax) l=l.map zax:=by refine List.map_congr_left fun x _=>?_;simp[go_sem]
@[go_sem] theorem zyh {l:List Int}:List.map (List.map drop) (l.map zax)=l.map zax:=by rw[List.map_map];exact zpB
@[go_sem] theorem zAW {l:List Int}{i:Nat}{a:Int}:(l.map zax).set i [.int .i64 a]=(l.set i a).map zax:=by rw[List.map_set];rfl
def zb1 (x:Cipher):List PV:=[.int .i64 x.A,.int .i64 x.B]
@[go_sem] theorem zyj {x:Cipher}:zb1 x=[.int .i64 x.A,.int .i64 x.B]:=(rfl)
@[go_sem] theorem znr {l:List Cipher}:List.map (List.map drop∘zb1) l=l.map zb1:=by refine List.map_congr_left fun x _=>?_;simp[go_sem]
@[go_sem] theorem zwm {l:List Cipher}:List.map (List.map drop) (l.map zb1)=l.map zb1:=by rw[List.map_map];exact znr
@[go_sem] theorem zxY {l:List Cipher}{i:Nat}{A:Int}{B:Int}:(l.map zb1).set i [.int .i64 A,.int .i64 B]=(l.set i (Cipher.mk A B)).map zb1:=by rw[List.map_set];rfl
def zfO (x:List Int):List PV:=[.sl false 1 (x.map zax)]
@[go_sem] theorem zBd {x:(List Int)}:zfO x=[.sl false 1 (x.map zax)]:=(rfl)
@[go_sem] theorem zoP {l:List (List Int)}:List.map (List.map drop∘zfO) l=l.map zfO:=by refine List.map_congr_left fun x _=>?_;simp[go_sem]
@[go_sem] theorem zxb {l:List (List Int)}:List.map (List.map drop) (l.map zfO)=l.map zfO:=by rw[List.map_map];exact zoP
@[go_sem] theorem zAA {l:List (List Int)}{i:Nat}{a:(List Int)}:(l.map zfO).set i [.sl false 1 (a.map zax)]=(l.set i a).map zfO:=by rw[List.map_set];rfl
def vA (x:List Int):PV:=.sl false 1 (x.map zfH)
@[go_sem] theorem zQY {x:(List Int)}:vA x=.sl false 1 (x.map zfH):=(rfl)
def vB (x0:List Int) (x1:Int) (x2:Int):PV:=.bx [.sl false 1 (x0.map zfH),.int .i64 x1,.int .u64 x2]
@[go_sem] theorem zQH {x0:(List Int)}{x1:Int}{x2:Int}:vB x0 x1 x2=.bx [.sl false 1 (x0.map zfH),.int .i64 x1,.int .u64 x2]:=(rfl)
def vC (x:List Int):PV:=.sl false 1 (x.map zax)
@[go_sem] theorem zQq {x:(List Int)}:vC x=.sl false 1 (x.map zax):=(rfl)
def vD (x:List Int):PV:=.sl true 1 (x.map zax)
@[go_sem] theorem zQr {x:(List Int)}:vD x=.sl true 1 (x.map zax):=(rfl)
def vE (x:Group):PV:=.agg [.int .i64 x.P,.int .i64 x.Q,.int .i64 x.G]
@[go_sem] theorem zQB {x:Group}:vE x=.agg [.int .i64 x.P,.int .i64 x.Q,.int .i64 x.G]:=(rfl)
def vF (x:Cipher):PV:=.agg [.int .i64 x.A,.int .i64 x.B]
@[go_sem] theorem zRz {x:Cipher}:vF x=.agg [.int .i64 x.A,.int .i64 x.B]:=(rfl)
def vG (x:List Cipher):PV:=.sl true 2 (x.map zb1)
@[go_sem] theorem zRf {x:(List Cipher)}:vG x=.sl true 2 (x.map zb1):=(rfl)
def vH (x:List Cipher):PV:=.sl false 2 (x.map zb1)
@[go_sem] theorem zP0 {x:(List Cipher)}:vH x=.sl false 2 (x.map zb1):=(rfl)
def vI (x:Bases):PV:=.agg [.int .i64 x.H,.sl true 1 (x.Hs.map zax)]
@[go_sem] theorem zQf {x:Bases}:vI x=.agg [.int .i64 x.H,.sl true 1 (x.Hs.map zax)]:=(rfl)
def vJ (x:Bases):PV:=.agg [.int .i64 x.H,.sl false 1 (x.Hs.map zax)]
@[go_sem] theorem zPF {x:Bases}:vJ x=.agg [.int .i64 x.H,.sl false 1 (x.Hs.map zax)]:=(rfl)
def vK (x:(List (List Int))):PV:=.sl false 1 (x.map zfO)
@[go_sem] theorem zRt {x:(List (List Int))}:vK x=.sl false 1 (x.map zfO):=(rfl)
def vL (x:MatrixProof):PV:=.agg [.sl false 1 (x.Columns.map zax),.sl false 1 (x.Chain.map zax),.sl false 1 (x.Pi.Commits.map zax),.sl false 1 (x.Pi.Challenges.map zax),.sl false 1 (x.Pi.Responses.map zax)]
@[go_sem] theorem zQU {x:MatrixProof}:vL x=.agg [.sl false 1 (x.Columns.map zax),.sl false 1 (x.Chain.map zax),.sl false 1 (x.Pi.Commits.map zax),.sl false 1 (x.Pi.Challenges.map zax),.sl false 1 (x.Pi.Responses.map zax)]:=(rfl)
def vM (x:PolyProof):PV:=.agg [.sl false 1 (x.Places.map zax),.sl false 1 (x.Powers.map zax),.sl false 1 (x.Chain.map zax),.sl false 1 (x.Pi.Commits.map zax),.sl false 1 (x.Pi.Challenges.map zax),.sl false 1 (x.Pi.Responses.map zax)]
@[go_sem] theorem zQx {x:PolyProof}:vM x=.agg [.sl false 1 (x.Places.map zax),.sl false 1 (x.Powers.map zax),.sl false 1 (x.Chain.map zax),.sl false 1 (x.Pi.Commits.map zax),.sl false 1 (x.Pi.Challenges.map zax),.sl false 1 (x.Pi.Responses.map zax)]:=(rfl)
@[go_sem] def zyZ:List DE:=[d0 0 [0],d0 1 [4],d0 2 [5],d0 3 [6],d0 4 [0],d0 5 [8],d0 6 [9],d0 7 [10],d0 8 [11],d0 9 [7,12]]
@[go_sem] def zAL:List DE:=[d0 0 [0],d0 1 [14],d0 2 [15],d0 3 [16],d0 4 [0],d0 5 [18],d0 6 [19],d0 7 [20],d0 8 [17,21],d0 9 [22],d0 10 [23],d0 11 [24]]
@[go_sem] def zzw:List DE:=[d0 0 [0],d0 1 [44],d0 2 [45],d0 3 [46],d0 4 [0],d0 5 [48],d0 6 [49],d0 7 [50],d0 8 [51],d0 9 [47,52]]
def zcp (a0c0:List Int) (a0c1:Int) (a0c2:Int):Option (Int×(List Int×Int×Int)):=
 ((if decide (a0c1<(a0c0.length:Int))=true then(
 (ix a0c0 a0c1).bind fun x5=>
 some (i64.wrap x5))else(
 some 0):Option Int).bind fun x3=>
 if decide ((i64.wrap (a0c1+1))≤(a0c0.length:Int))=true then(
 some (x3,(a0c0,i64.wrap (a0c1+1),u64.wrap ((u64.wrap ((u64.wrap (a0c2*6364136223846793005))+(u64.wrap x3)))+1442695040888963407))))else(
 some (i64.wrap (u64.wrap ((BitVec.ofInt u64.bits ((u64.wrap ((u64.wrap ((u64.wrap (a0c2*6364136223846793005))+(u64.wrap x3)))+1442695040888963407)).fdiv 1099511627776)&&&BitVec.ofInt u64.bits 255).toNat)),(a0c0,i64.wrap (a0c1+1),u64.wrap ((u64.wrap ((u64.wrap (a0c2*6364136223846793005))+(u64.wrap x3)))+1442695040888963407)))))
theorem zgM:∀{a0c0}{a0c1}{a0c2}{r},zcp a0c0 a0c1 a0c2=some r→PCalls Tryz.prog 111 [(.io,vB a0c0 a0c1 a0c2)] (Eo (.int .i64 r.1) [vB r.2.1 r.2.2.1 r.2.2.2]):=by
 intro a0c0 a0c1 a0c2 r hr
 apply pF 62 [0] [] [] [.tmp 2] hr zEd Tryz.func111
 intro Φ hΦ hF g
 unfold zcp at hF
 iterate 2 refine wW ?_
 refine wX zyZ follows ?_
 try simp[go_sem,g]
 try intros
 refine wK [0,3,13] ?_
 refine wJ hF (fun x3=>[(0,.v (vB a0c0 a0c1 a0c2)),(3,.v (.int .i64 x3))]) (fun x3 hF=>?_) fun _ hj1 hF=>?_
 ·refine wW ?_
  refine wK [0,3] ?_
  refine wX zzw follows ?_
  try simp[go_sem,g]
  try intros
  refine wK [0,3,53] ?_
  refine wI hF (fun h6 hF=>?_) (fun h6 hF=>?_)
  ·exact wl hΦ hF
  have g:=Ls g 40
  cases hΦ _ (zac hF)
  iterate 2 refine wW ?_
  try simp[go_sem,g]
 refine wI hF (fun h4 hF=>?_) (fun h4 hF=>?_)
 ·refine wX zAL follows ?_
  obtain⟨x5,g,hF⟩:=Rx g hF
  exact wT (hj1 _) (zac hF)
 exact wT (hj1 _) (zac hF)
def zat (a0c0:List Int) (a0c1:Int) (a0c2:Int) (a1:Int):Option (Int×(List Int×Int×Int)):=
 if decide (a1≤1)=true then(
 some (0,(a0c0,a0c1,a0c2)))else(
 (zcp a0c0 a0c1 a0c2).bind fun z2=>
 ((if decide (200<a1)=true then(
 (zcp z2.2.1 z2.2.2.1 z2.2.2.2).bind fun z7=>
 some ((z7.2.1,z7.2.2.1,z7.2.2.2),i64.wrap ((i64.wrap (z2.1*256))+z7.1)))else(
 some ((z2.2.1,z2.2.2.1,z2.2.2.2),z2.1)):Option (((List Int×Int×Int)×Int))).bind fun x5=>
 gd (a1≠0)<|
 some (x5.2.tmod a1,(x5.1.1,x5.1.2.1,x5.1.2.2))))
theorem zaJ:∀{a0c0}{a0c1}{a0c2}{a1}{r},zat a0c0 a0c1 a0c2 a1=some r→PCalls Tryz.prog 41 [(.io,vB a0c0 a0c1 a0c2),(.sh,.int .i64 a1)] (Eo (.int .i64 r.1) [vB r.2.1 r.2.2.1 r.2.2.2,.junk]):=by
 intro a0c0 a0c1 a0c2 a1 r hr
 apply pF 20 [0] [] [] [.tmp 4] hr zGL Tryz.func41
 intro Φ hΦ hF g
 unfold zat at hF
 iterate 2 refine wW ?_
 refine wI hF (fun h1 hF=>?_) (fun h1 hF=>?_)
 ·exact wl hΦ hF
 refine wW ?_
 refine wC hF [.io] zgM (fun z2 hF=>?_)
 iterate 2 refine wW ?_
 refine wJ hF (fun x5=>[(0,.v (vB x5.1.1 x5.1.2.1 x5.1.2.2)),(1,.v (.int .i64 a1)),(5,.v (.int .i64 x5.2))]) (fun x5 hF=>?_) fun _ hj3 hF=>?_
 ·obtain⟨g,hF⟩:=Rz g hF
  refine wK [0,4] ?_
  exact wm hΦ hF
 refine wI hF (fun h6 hF=>?_) (fun h6 hF=>?_)
 ·refine wC hF [.io] zgM (fun z7 hF=>?_)
  exact wT (hj3 _) (zac hF)
 exact wT (hj3 _) (zac hF)
def zgA (a0c0:List Int) (a0c1:Int) (a0c2:Int) (a1:List Int):Option (Int×(List Int×Int×Int)):=
 (zat a0c0 a0c1 a0c2 (a1.length:Int)).bind fun z1=>
 (ix a1 z1.1).bind fun x2=>
 some (x2,(z1.2.1,z1.2.2.1,z1.2.2.2))
theorem zqL:∀{a0c0}{a0c1}{a0c2}{a1}{r},zgA a0c0 a0c1 a0c2 a1=some r→PCalls Tryz.prog 77 [(.io,vB a0c0 a0c1 a0c2),(.sh,vC a1)] (Eo (.int .i64 r.1) [vB r.2.1 r.2.2.1 r.2.2.2,.junk]):=by
 intro a0c0 a0c1 a0c2 a1 r hr
 apply pF 12 [0] [] [] [.tmp 4] hr zz7 Tryz.func77
 intro Φ hΦ hF g
 unfold zgA at hF
 try simp[go_sem,g]
 try intros
 refine zaT ?_
 try simp[go_sem,g]
 try intros
 refine wC hF [.io,.sh] zaJ (fun z1 hF=>?_)
 obtain⟨x2,g,hF⟩:=Rx g hF
 exact wl hΦ hF
def zaF (a0c0:List Int) (a0c1:Int) (a0c2:Int) (a1:List Int):Option (Int×(List Int×Int×Int)):=
 (zat a0c0 a0c1 a0c2 (a1.length:Int)).bind fun z1=>
 (ix a1 z1.1).bind fun x2=>
 some (x2,(z1.2.1,z1.2.2.1,z1.2.2.2))
theorem za9:∀{a0c0}{a0c1}{a0c2}{a1}{r},zaF a0c0 a0c1 a0c2 a1=some r→PCalls Tryz.prog 77 [(.io,vB a0c0 a0c1 a0c2),(.mv,vD a1)] (Eo (.int .i64 r.1) [vB r.2.1 r.2.2.1 r.2.2.2,.junk]):=by
 intro a0c0 a0c1 a0c2 a1 r hr
 apply pF 12 [0] [] [] [.tmp 4] hr zz7 Tryz.func77
 intro Φ hΦ hF g
 unfold zaF at hF
 try simp[go_sem,g]
 try intros
 refine zaT ?_
 try simp[go_sem,g]
 try intros
 refine wC hF [.io,.sh] zaJ (fun z1 hF=>?_)
 obtain⟨x2,g,hF⟩:=Rx g hF
 exact wl hΦ hF
def zch (a0:Int) (a1:Int) (a2:Int):Option Bool:=
 ((if decide (a1≤a0)=true then(
 some (decide (a0≤a2)))else(
 some false):Option Bool).bind fun x3=>
 some x3)
theorem zfq:∀{a0}{a1}{a2}{r},zch a0 a1 a2=some r→PCalls Tryz.prog 94 [(.sh,.int .i64 a0),(.sh,.int .i64 a1),(.sh,.int .i64 a2)] (Eo (.bool r) [.junk,.junk,.junk]):=by
 intro a0 a1 a2 r hr
 apply pF 15 [] [] [] [.tmp 6] hr zHo Tryz.func94
 intro Φ hΦ hF g
 unfold zch at hF
 refine wW ?_
 refine wJ hF (fun x3=>[(6,.v (.bool x3))]) (fun x3 hF=>?_) fun _ hj1 hF=>?_
 ·exact wm hΦ hF
 refine wG hF (fun h4 hF=>?_) fun h4 hF=>?_
 ·exact wV h4 (hj1 _) (zac hF)
 exact wV h4 (hj1 _) (zac hF)
def zdT (a0:Int):Option Bool:=
 if decide (a0<2)=true then(
 some false)else(
 ((zbS (σ:=Int) (fun s5=>
 if decide ((i64.wrap (s5*s5))≤a0)=true then(
 gd (s5≠0)<|
 if((a0.tmod s5)==0)=true then(
 some (.out (.inr false)))else(
 some (.go (i64.wrap (s5+1)))))else(
 some (.out (.inl ())))) 2:Option (Unit ⊕ Bool)).bind (Sum.elim (fun x4=>
 some true) some)))
theorem zgS:∀{a0}{r},zdT a0=some r→PCalls Tryz.prog 132 [(.sh,.int .i64 a0)] (Eo (.bool r) [.junk]):=by
 intro a0 r hr
 apply pF 17 [] [] [] [.tmp 2] hr zDu Tryz.func132
 intro Φ hΦ hF g
 unfold zdT at hF
 iterate 2 refine wW ?_
 refine wI hF (fun h1 hF=>?_) (fun h1 hF=>?_)
 ·exact wl hΦ hF
 iterate 2 refine wW ?_
 refine wS hF (fun x4=>[]) (fun x4 hF=>?_) fun _ hj2 hr3 hF=>?_
 ·exact wl hΦ hF
 refine wB ?_
 obtain⟨b12,hb13,hψ9⟩:=hF
 refine pL hb13 (fun s5=>[(0,.v (.int .i64 a0)),(3,.v (.int .i64 s5))]) (fun s5 _ _ ho7 hg8 hF=>?_)
 refine wW ?_
 refine wI hF (fun h10 hF=>?_) (fun h10 hF=>?_)
 ·refine wW ?_
  refine wB ?_
  obtain⟨g,hF⟩:=Rz g hF
  refine wK [0,3,16] ?_
  refine wI hF (fun h11 hF=>?_) (fun h11 hF=>?_)
  ·cases ho7 _ (zac hF)
   cases hΦ _ (hr3 _ hψ9)
   refine wW ?_
   try simp[go_sem,g]
  refine wW ?_
  exact wT (hg8 _) (zac hF)
 cases ho7 _ (zac hF)
 exact wT (hj2 _) hψ9
def zbi (a0:Int) (a1:Int) (a2:Int):Option Int:=
 gd (a2≠0)<|
 ((zbS (σ:=Int×Int×Int) (fun s4=>
 if decide (0<s4.2.1)=true then(
 ((if((s4.2.1.tmod 2)==1)=true then(
 gd (a2≠0)<|
 some ((i64.wrap (s4.2.2*s4.1)).tmod a2))else(
 some s4.2.2):Option Int).bind fun x12=>
 gd (a2≠0)<|
 some (.go ((i64.wrap (s4.1*s4.1)).tmod a2,i64.wrap (s4.2.1.tdiv 2),x12))))else(
 some (.out s4.2.2))) (a0,a1,(1:Int).tmod a2):Option Int).bind fun x3=>
 some x3)
theorem ze1:∀{a0}{a1}{a2}{r},zbi a0 a1 a2=some r→PCalls Tryz.prog 131 [(.sh,.int .i64 a0),(.sh,.int .i64 a1),(.sh,.int .i64 a2)] (Eo (.int .i64 r) [.junk,.junk,.junk]):=by
 intro a0 a1 a2 r hr
 apply pF 28 [] [] [] [.tmp 6] hr zBX Tryz.func131
 intro Φ hΦ hF g
 unfold zbi at hF
 obtain⟨g,hF⟩:=Rz g hF
 iterate 2 refine wW ?_
 refine wJ hF (fun x3=>[(7,.v (.int .i64 x3))]) (fun x3 hF=>?_) fun _ hj1 hF=>?_
 ·exact wl hΦ hF
 refine wB ?_
 obtain⟨b14,hb15,hψ8⟩:=hF
 refine pL hb15 (fun s4=>[(0,.v (.int .i64 s4.1)),(1,.v (.int .i64 s4.2.1)),(2,.v (.int .i64 a2)),(7,.v (.int .i64 s4.2.2))]) (fun s4 _ _ ho6 hg7 hF=>?_)
 refine wW ?_
 refine wI hF (fun h9 hF=>?_) (fun h9 hF=>?_)
 ·refine wW ?_
  refine wB ?_
  have g:=Ld g 2
  refine wW ?_
  refine wJ hF (fun x12=>[(0,.v (.int .i64 s4.1)),(1,.v (.int .i64 s4.2.1)),(2,.v (.int .i64 a2)),(7,.v (.int .i64 x12))]) (fun x12 hF=>?_) fun _ hj10 hF=>?_
  ·obtain⟨g,hF⟩:=Rz g hF
   refine wK [0,1,2,7] ?_
   exact wT (hg7 _) (zac hF)
  refine wI hF (fun h13 hF=>?_) (fun h13 hF=>?_)
  ·obtain⟨g,hF⟩:=Rz g hF
   exact wT (hj10 _) (zac hF)
  exact wT (hj10 _) (zac hF)
 cases ho6 _ (zac hF)
 exact wT (hj1 _) hψ8
def zb5 (a0:Int):Option (Group×Bool):=
 (((zch a0 2 1000000).bind fun z4=>
 if(!z4)=true then(
 some true)else(
 (zdT a0).bind fun z6=>
 some (!z6)):Option Bool).bind fun x3=>
 if x3=true then(
 some ((Group.mk 0 0 0),false))else(
 ((zbS (σ:=Int) (fun s11=>
 if decide (s11≤2000000000)=true then(
 (zdT s11).bind fun z17=>
 if(!z17)=true then(
 some (.go (i64.wrap (s11+a0))))else(
 ((zbS (σ:=Int) (fun s22=>
 gd (a0≠0)<|
 (zbi s22 (i64.wrap ((i64.wrap (s11-1)).tdiv a0)) s11).bind fun z27=>
 if(z27==1)=true then(
 some (.go (i64.wrap (s22+1))))else(
 some (.out s22))) 2:Option Int).bind fun x21=>
 gd (a0≠0)<|
 (zbi x21 (i64.wrap ((i64.wrap (s11-1)).tdiv a0)) s11).bind fun z31=>
 some (.out (.inr ((Group.mk s11 a0 z31),true))))))else(
 some (.out (.inl ())))) (i64.wrap (a0+1)):Option (Unit ⊕ (Group×Bool))).bind (Sum.elim (fun x10=>
 some ((Group.mk 0 0 0),false)) some))))
theorem ziQ:∀{a0}{r},zb5 a0=some r→PCalls Tryz.prog 143 [(.sh,.int .i64 a0)] (Eo (.tup [vE r.1,.bool r.2]) [.junk]):=by
 intro a0 r hr
 apply pF 46 [] [] [] [.cell 2 24,.tmp 3] hr zCa Tryz.func143
 intro Φ hΦ hF g
 unfold zb5 at hF
 refine wW ?_
 refine wJ hF (fun x3=>[(0,.v (.int .i64 a0)),(2,.bl [.int .i64 0,.int .i64 0,.int .i64 0]),(13,.v (.bool x3))]) (fun x3 hF=>?_) fun _ hj1 hF=>?_
 ·refine wI hF (fun h7 hF=>?_) (fun h7 hF=>?_)
  ·exact wl hΦ hF
  iterate 2 refine wW ?_
  refine wS hF (fun x10=>[(2,.bl [.int .i64 0,.int .i64 0,.int .i64 0])]) (fun x10 hF=>?_) fun _ hj8 hr9 hF=>?_
  ·exact wl hΦ hF
  refine wB ?_
  obtain⟨b32,hb33,hψ15⟩:=hF
  refine pL hb33 (fun s11=>[(0,.v (.int .i64 a0)),(2,.bl [.int .i64 0,.int .i64 0,.int .i64 0]),(4,.v (.int .i64 s11))]) (fun s11 _ _ ho13 hg14 hF=>?_)
  refine wW ?_
  refine wI hF (fun h16 hF=>?_) (fun h16 hF=>?_)
  ·refine wW ?_
   refine wB ?_
   refine wC hF [.sh] zgS (fun z17 hF=>?_)
   refine wK [0,2,4,24] ?_
   refine wI hF (fun h18 hF=>?_) (fun h18 hF=>?_)
   ·refine wW ?_
    exact wT (hg14 _) (zac hF)
   iterate 2 refine wW ?_
   refine wJ hF (fun x21=>[(0,.v (.int .i64 a0)),(2,.bl [.int .i64 0,.int .i64 0,.int .i64 0]),(4,.v (.int .i64 s11)),(5,.v (.int .i64 x21))]) (fun x21 hF=>?_) fun _ hj19 hF=>?_
   ·obtain⟨g,hF⟩:=Rz g hF
    refine wC hF [.sh,.sh,.sh] ze1 (fun z31 hF=>?_)
    refine wK [2,3] ?_
    cases ho13 _ (zac hF)
    cases hΦ _ (hr9 _ hψ15)
    try simp[go_sem,g]
   refine wB ?_
   obtain⟨b29,hb30,hψ26⟩:=hF
   refine pL hb30 (fun s22=>[(0,.v (.int .i64 a0)),(2,.bl [.int .i64 0,.int .i64 0,.int .i64 0]),(4,.v (.int .i64 s11)),(5,.v (.int .i64 s22))]) (fun s22 _ _ ho24 hg25 hF=>?_)
   obtain⟨g,hF⟩:=Rz g hF
   refine wC hF [.sh,.sh,.sh] ze1 (fun z27 hF=>?_)
   refine wW ?_
   refine wI hF (fun h28 hF=>?_) (fun h28 hF=>?_)
   ·refine wW ?_
    refine wB ?_
    exact wT (hg25 _) (zac hF)
   cases ho24 _ (zac hF)
   exact wT (hj19 _) hψ26
  cases ho13 _ (zac hF)
  exact wT (hj8 _) hψ15
 refine wC hF [.sh,.sh,.sh] zfq (fun z4 hF=>?_)
 refine wG hF (fun h5 hF=>?_) fun h5 hF=>?_
 ·exact wV h5 (hj1 _) (zac hF)
 try simp[go_sem,g,h5]
 refine wC hF [.sh] zgS (fun z6 hF=>?_)
 exact wV h5 (hj1 _) (zac hF)
def zcq (a0c0:List Int) (a0c1:Int) (a0c2:Int):Option (Group×(List Int×Int×Int)):=
 (zaF a0c0 a0c1 a0c2 [3,5,5,7,11,11,13,23]).bind fun z1=>
 (zb5 z1.1).bind fun z2=>
 some (z2.1,(z1.2.1,z1.2.2.1,z1.2.2.2))
theorem zjK:∀{a0c0}{a0c1}{a0c2}{r},zcq a0c0 a0c1 a0c2=some r→PCalls Tryz.prog 144 [(.io,vB a0c0 a0c1 a0c2)] (Eo (vE r.1) [vB r.2.1 r.2.2.1 r.2.2.2]):=by
 intro a0c0 a0c1 a0c2 r hr
 apply pF 13 [0] [] [] [.cell 2 24] hr zBU Tryz.func144
 intro Φ hΦ hF g
 unfold zcq at hF
 refine wW ?_
 refine wC hF [.io,.mv] za9 (fun z1 hF=>?_)
 refine wC hF [.sh] ziQ (fun z2 hF=>?_)
 refine wK [0,2,3] ?_
 exact wl hΦ hF
def zeF (a0:Int) (a1:Int):Option Int:=
 gd (a1≠0)<|
 gd (a1≠0)<|
 some ((i64.wrap ((a0.tmod a1)+a1)).tmod a1)
theorem zmp:∀{a0}{a1}{r},zeF a0 a1=some r→PCalls Tryz.prog 105 [(.sh,.int .i64 a0),(.sh,.int .i64 a1)] (Eo (.int .i64 r) [.junk,.junk]):=by
 intro a0 a1 r hr
 apply pF 12 [] [] [] [.tmp 4] hr zCc Tryz.func105
 intro Φ hΦ hF g
 unfold zeF at hF
 obtain⟨g,hF⟩:=Rz g hF
 obtain⟨g,hF⟩:=Rz g hF
 cases hΦ _ (zac hF)
 iterate 2 refine wW ?_
 try simp[go_sem,g]
@[go_sem] def zEk:List DE:=[d0 0 [1],d0 1 [2],d1 2 [3] 3,d2 3 [9] 3 9,d1 5 [3] 3,d2 6 [12] 3 12,d3 4 [8,10],d3 7 [7,11,13],d0 8 [14]]
def zbJ (a0:Group) (a1:Int) (a2:Int):Option Int:=
 (zeF a2 a0.Q).bind fun z1=>
 (zbi a1 z1 a0.P).bind fun z2=>
 some z2
theorem zga:∀{a0}{a1}{a2}{r},zbJ a0 a1 a2=some r→PCalls Tryz.prog 64 [(.sh,vE a0),(.sh,.int .i64 a1),(.sh,.int .i64 a2)] (Eo (.int .i64 r) [.junk,.junk,.junk]):=by
 intro a0 a1 a2 r hr
 apply pF 15 [] [] [] [.tmp 6] hr zJy Tryz.func64
 intro Φ hΦ hF g
 unfold zbJ at hF
 refine wW ?_
 refine wX zEk follows ?_
 refine wC hF [.sh,.sh] zmp (fun z1 hF=>?_)
 refine wC hF [.sh,.sh,.sh] ze1 (fun z2 hF=>?_)
 refine wK [6] ?_
 exact wm hΦ hF
@[go_sem] def zEg:List DE:=[d2 0 [5] 5 5,d1 1 [5] 5,d2 2 [24] 5 24,d0 3 [0],d1 4 [5] 5,d2 5 [27] 5 27,d0 6 [28],d3 7 [26,29],d0 8 [30],d3 9 [23,25,31],d1 10 [5] 5,d2 11 [33,32] 5 33]
def zbD (a0c0:List Int) (a0c1:Int) (a0c2:Int):Option (Group×(List Int×Int×Int)):=
 (zat a0c0 a0c1 a0c2 6).bind fun z1=>
 if(z1.1==0)=true then(
 some ((Group.mk 1000000007 500000003 4),(z1.2.1,z1.2.2.1,z1.2.2.2)))else(
 if(z1.1==1)=true then(
 (zaF z1.2.1 z1.2.2.1 z1.2.2.2 [101,1009,1019,65537,999983]).bind fun z4=>
 (zb5 z4.1).bind fun z5=>
 some (z5.1,(z4.2.1,z4.2.2.1,z4.2.2.2)))else(
 (zcq z1.2.1 z1.2.2.1 z1.2.2.2).bind fun z6=>
 (zat z6.2.1 z6.2.2.1 z6.2.2.2 (i64.wrap (z6.1.Q-1))).bind fun z7=>
 (zbJ z6.1 z6.1.G (i64.wrap (1+z7.1))).bind fun z8=>
 some ((Group.mk z6.1.P z6.1.Q z8),(z7.2.1,z7.2.2.1,z7.2.2.2))))
theorem zgC:∀{a0c0}{a0c1}{a0c2}{r},zbD a0c0 a0c1 a0c2=some r→PCalls Tryz.prog 73 [(.io,vB a0c0 a0c1 a0c2)] (Eo (vE r.1) [vB r.2.1 r.2.2.1 r.2.2.2]):=by
 intro a0c0 a0c1 a0c2 r hr
 apply pF 35 [0] [] [] [.cell 2 24] hr zIK Tryz.func73
 intro Φ hΦ hF g
 unfold zbD at hF
 refine wW ?_
 refine wC hF [.io,.sh] zaJ (fun z1 hF=>?_)
 refine wW ?_
 refine wB ?_
 refine wW ?_
 refine wI hF (fun h2 hF=>?_) (fun h2 hF=>?_)
 ·exact wl hΦ hF
 refine wW ?_
 refine wI hF (fun h3 hF=>?_) (fun h3 hF=>?_)
 ·refine wC hF [.io,.mv] za9 (fun z4 hF=>?_)
  refine wC hF [.sh] ziQ (fun z5 hF=>?_)
  refine wK [0,2,3] ?_
  exact wl hΦ hF
 refine wW ?_
 refine wC hF [.io] zjK (fun z6 hF=>?_)
 refine wK [0,2,5] ?_
 refine wX zEg follows ?_
 refine wC hF [.io,.sh] zaJ (fun z7 hF=>?_)
 refine wC hF [.sh,.sh,.sh] zga (fun z8 hF=>?_)
 refine wK [0,2,5] ?_
 exact wl hΦ hF
def zby (a0c0:List Int) (a0c1:Int) (a0c2:Int) (a1:Int):Option (Bool×(List Int×Int×Int)):=
 (zat a0c0 a0c1 a0c2 a1).bind fun z1=>
 some ((z1.1==0),(z1.2.1,z1.2.2.1,z1.2.2.2))
theorem zdv:∀{a0c0}{a0c1}{a0c2}{a1}{r},zby a0c0 a0c1 a0c2 a1=some r→PCalls Tryz.prog 39 [(.io,vB a0c0 a0c1 a0c2),(.sh,.int .i64 a1)] (Eo (.bool r.1) [vB r.2.1 r.2.2.1 r.2.2.2,.junk]):=by
 intro a0c0 a0c1 a0c2 a1 r hr
 apply pF 9 [0] [] [] [.tmp 4] hr zIg Tryz.func39
 intro Φ hΦ hF g
 unfold zby at hF
 refine wW ?_
 refine wC hF [.io,.sh] zaJ (fun z1 hF=>?_)
 exact wl hΦ hF
def zbB (a0c0:List Int) (a0c1:Int) (a0c2:Int):Option (Group×(List Int×Int×Int)):=
 (zbD a0c0 a0c1 a0c2).bind fun z1=>
 (zat z1.2.1 z1.2.2.1 z1.2.2.2 24).bind fun z2=>
 ((if(z2.1==0)=true then(
 (zaF z2.2.1 z2.2.2.1 z2.2.2.2 [0,i64.wrap (z1.1.P+2),4,(-7)]).bind fun z7=>
 some ((z7.2.1,z7.2.2.1,z7.2.2.2),z7.1,z1.1.Q,z1.1.G))else(
 if(z2.1==1)=true then(
 (zaF z2.2.1 z2.2.2.1 z2.2.2.2 [0,1,i64.wrap (z1.1.Q+1),i64.wrap (z1.1.P-1)]).bind fun z9=>
 some ((z9.2.1,z9.2.2.1,z9.2.2.2),z1.1.P,z9.1,z1.1.G))else(
 if(z2.1==2)=true then(
 (zaF z2.2.1 z2.2.2.1 z2.2.2.2 [0,1,i64.wrap (z1.1.P-1),z1.1.P,i64.wrap (z1.1.G+1)]).bind fun z11=>
 some ((z11.2.1,z11.2.2.1,z11.2.2.2),z1.1.P,z1.1.Q,z11.1))else(
 some ((z2.2.1,z2.2.2.1,z2.2.2.2),z1.1.P,z1.1.Q,z1.1.G)))):Option (((List Int×Int×Int)×Int×Int×Int))).bind fun x5=>
 some ((Group.mk x5.2.1 x5.2.2.1 x5.2.2.2),(x5.1.1,x5.1.2.1,x5.1.2.2)))
theorem zh9:∀{a0c0}{a0c1}{a0c2}{r},zbB a0c0 a0c1 a0c2=some r→PCalls Tryz.prog 74 [(.io,vB a0c0 a0c1 a0c2)] (Eo (vE r.1) [vB r.2.1 r.2.2.1 r.2.2.2]):=by
 intro a0c0 a0c1 a0c2 r hr
 apply pF 44 [0] [] [] [.cell 2 24] hr zI1 Tryz.func74
 intro Φ hΦ hF g
 unfold zbB at hF
 refine wW ?_
 refine wC hF [.io] zgC (fun z1 hF=>?_)
 refine wW ?_
 refine wC hF [.io,.sh] zaJ (fun z2 hF=>?_)
 refine wW ?_
 refine wJ hF (fun x5=>[(0,.v (vB x5.1.1 x5.1.2.1 x5.1.2.2)),(2,.bl [.int .i64 0,.int .i64 0,.int .i64 0]),(3,.bl [.int .i64 x5.2.1,.int .i64 x5.2.2.1,.int .i64 x5.2.2.2])]) (fun x5 hF=>?_) fun _ hj3 hF=>?_
 ·exact wl hΦ hF
 refine wB ?_
 refine wW ?_
 refine wI hF (fun h6 hF=>?_) (fun h6 hF=>?_)
 ·refine wC hF [.io,.mv] za9 (fun z7 hF=>?_)
  exact wT (hj3 _) (zac hF)
 refine wK [0,2,3,7,17] ?_
 refine wI hF (fun h8 hF=>?_) (fun h8 hF=>?_)
 ·refine wC hF [.io,.mv] za9 (fun z9 hF=>?_)
  exact wT (hj3 _) (zac hF)
 refine wW ?_
 refine wI hF (fun h10 hF=>?_) (fun h10 hF=>?_)
 ·refine wC hF [.io,.mv] za9 (fun z11 hF=>?_)
  exact wT (hj3 _) (zac hF)
 exact wT (hj3 _) (zac hF)
@[go_sem] def zyG:List DE:=[d0 0 [0],d0 3 [0],d1 6 [3] 3,d2 7 [14] 3 14,d3 1 [8],d0 2 [9],d3 4 [11],d0 5 [10,12],d0 8 [13,15],d0 9 [16]]
def zb6 (a0c0:List Int) (a0c1:Int) (a0c2:Int) (a1:Group):Option (Int×(List Int×Int×Int)):=
 if decide (a1.Q<2)=true then(
 some (0,(a0c0,a0c1,a0c2)))else(
 (zat a0c0 a0c1 a0c2 60000).bind fun z2=>
 (zat z2.2.1 z2.2.2.1 z2.2.2.2 60000).bind fun z3=>
 gd (a1.Q≠0)<|
 some ((i64.wrap ((i64.wrap (z2.1*60000))+z3.1)).tmod a1.Q,(z3.2.1,z3.2.2.1,z3.2.2.2)))
theorem zfp:∀{a0c0}{a0c1}{a0c2}{a1}{r},zb6 a0c0 a0c1 a0c2 a1=some r→PCalls Tryz.prog 130 [(.io,vB a0c0 a0c1 a0c2),(.sh,vE a1)] (Eo (.int .i64 r.1) [vB r.2.1 r.2.2.1 r.2.2.2,.junk]):=by
 intro a0c0 a0c1 a0c2 a1 r hr
 apply pF 17 [0] [] [] [.tmp 4] hr zDI Tryz.func130
 intro Φ hΦ hF g
 unfold zb6 at hF
 iterate 2 refine wW ?_
 refine wI hF (fun h1 hF=>?_) (fun h1 hF=>?_)
 ·exact wl hΦ hF
 refine wW ?_
 refine wX zyG follows ?_
 refine wC hF [.io,.sh] zaJ (fun z2 hF=>?_)
 refine wC hF [.io,.sh] zaJ (fun z3 hF=>?_)
 obtain⟨g,hF⟩:=Rz g hF
 refine wK [0,4] ?_
 exact wm hΦ hF
@[go_sem] def zz0:List DE:=[d2 0 [3] 3 3,d1 1 [3] 3,d2 2 [14] 3 14,d1 3 [3] 3,d2 4 [16] 3 16,d0 6 [0],d2 7 [3] 3 3,d3 5 [15,17],d3 8 [19,20],d3 9 [13,18,21],d0 10 [22]]
def zbI (a0c0:List Int) (a0c1:Int) (a0c2:Int) (a1:Group):Option (Int×(List Int×Int×Int)):=
 ((if decide (a1.P<3)=true then(
 some true)else(
 some (decide (a1.Q<1))):Option Bool).bind fun x3=>
 if x3=true then(
 some (1,(a0c0,a0c1,a0c2)))else(
 (zeF a1.G a1.P).bind fun z6=>
 (zb6 a0c0 a0c1 a0c2 a1).bind fun z7=>
 (zbJ a1 z6 z7.1).bind fun z8=>
 some (z8,(z7.2.1,z7.2.2.1,z7.2.2.2))))
theorem zeC:∀{a0c0}{a0c1}{a0c2}{a1}{r},zbI a0c0 a0c1 a0c2 a1=some r→PCalls Tryz.prog 145 [(.io,vB a0c0 a0c1 a0c2),(.sh,vE a1)] (Eo (.int .i64 r.1) [vB r.2.1 r.2.2.1 r.2.2.2,.junk]):=by
 intro a0c0 a0c1 a0c2 a1 r hr
 apply pF 23 [0] [] [] [.tmp 4] hr zCZ Tryz.func145
 intro Φ hΦ hF g
 unfold zbI at hF
 refine wW ?_
 refine wJ hF (fun x3=>[(0,.v (vB a0c0 a0c1 a0c2)),(3,.bl [.int .i64 a1.P,.int .i64 a1.Q,.int .i64 a1.G]),(12,.v (.bool x3))]) (fun x3 hF=>?_) fun _ hj1 hF=>?_
 ·refine wI hF (fun h5 hF=>?_) (fun h5 hF=>?_)
  ·exact wl hΦ hF
  refine wW ?_
  refine wX zz0 follows ?_
  refine wC hF [.sh,.sh] zmp (fun z6 hF=>?_)
  refine wC hF [.io,.sh] zfp (fun z7 hF=>?_)
  refine wC hF [.sh,.sh,.sh] zga (fun z8 hF=>?_)
  refine wK [0,4] ?_
  exact wm hΦ hF
 refine wG hF (fun h4 hF=>?_) fun h4 hF=>?_
 ·exact wV h4 (hj1 _) (zac hF)
 exact wV h4 (hj1 _) (zac hF)
@[go_sem] def zB7:List DE:=[d0 0 [0],d2 1 [3] 3 3,d0 3 [0],d2 4 [3] 3 3,d3 2 [5,6],d3 5 [8,9],d0 6 [7,10],d2 7 [4,11] 4 4]
def zcL (a0c0:List Int) (a0c1:Int) (a0c2:Int) (a1:Group):Option (Cipher×(List Int×Int×Int)):=
 (zbI a0c0 a0c1 a0c2 a1).bind fun z1=>
 (zbI z1.2.1 z1.2.2.1 z1.2.2.2 a1).bind fun z2=>
 some ((Cipher.mk z1.1 z2.1),(z2.2.1,z2.2.2.1,z2.2.2.2))
theorem zjf:∀{a0c0}{a0c1}{a0c2}{a1}{r},zcL a0c0 a0c1 a0c2 a1=some r→PCalls Tryz.prog 75 [(.io,vB a0c0 a0c1 a0c2),(.sh,vE a1)] (Eo (vF r.1) [vB r.2.1 r.2.2.1 r.2.2.2,.junk]):=by
 intro a0c0 a0c1 a0c2 a1 r hr
 apply pF 12 [0] [] [] [.cell 4 84] hr zHK Tryz.func75
 intro Φ hΦ hF g
 unfold zcL at hF
 refine wW ?_
 refine wX zB7 follows ?_
 refine wC hF [.io,.sh] zeC (fun z1 hF=>?_)
 refine wC hF [.io,.sh] zeC (fun z2 hF=>?_)
 refine wK [0,4] ?_
 exact wm hΦ hF
def zdg (a0c0:List Int) (a0c1:Int) (a0c2:Int) (a1:Int):Option (List Int×(List Int×Int×Int)):=
 ((zbS (σ:=(List Int)×Int) (fun s4=>
 if decide (s4.2<a1)=true then(
 gd ((s4.1.length+1)*8≤140737488355328∧s4.1.length+1≤4611686018427387904)<|
 some (.go (s4.1++[s4.2],i64.wrap (s4.2+1))))else(
 some (.out s4.1))) ([],0):Option ((List Int))).bind fun x3=>
 ((zbS (σ:=(List Int×Int×Int)×List Int×Int) (fun s25=>
 if decide (0<s25.2.2)=true then(
 (zat s25.1.1 s25.1.2.1 s25.1.2.2 (i64.wrap (s25.2.2+1))).bind fun z31=>
 (ix s25.2.1 s25.2.2).bind fun x32=>
 (ix s25.2.1 z31.1).bind fun x33=>
 (ix (s25.2.1.set s25.2.2.toNat x33) z31.1).bind fun x34=>
 some (.go ((z31.2.1,z31.2.2.1,z31.2.2.2),(s25.2.1.set s25.2.2.toNat x33).set z31.1.toNat x32,i64.wrap (s25.2.2-1))))else(
 some (.out ((s25.1.1,s25.1.2.1,s25.1.2.2),s25.2.1)))) ((a0c0,a0c1,a0c2),x3,i64.wrap (a1-1)):Option (((List Int×Int×Int)×List Int))).bind fun x14=>
 some (x14.2,(x14.1.1,x14.1.2.1,x14.1.2.2))))
theorem zjL:∀{a0c0}{a0c1}{a0c2}{a1}{r},zdg a0c0 a0c1 a0c2 a1=some r→PCalls Tryz.prog 76 [(.io,vB a0c0 a0c1 a0c2),(.sh,.int .i64 a1)] (Eo (vD r.1) [vB r.2.1 r.2.2.1 r.2.2.2,.junk]):=by
 intro a0c0 a0c1 a0c2 a1 r hr
 apply pF 45 [0] [] [] [.tmp 4] hr zG3 Tryz.func76
 intro Φ hΦ hF g
 unfold zdg at hF
 iterate 3 refine wW ?_
 refine wJ hF (fun x3=>[(0,.v (vB a0c0 a0c1 a0c2)),(1,.v (.int .i64 a1)),(5,.v (vD x3))]) (fun x3 hF=>?_) fun _ hj1 hF=>?_
 ·refine wW ?_
  refine wJ hF (fun x14=>[(0,.v (vB x14.1.1 x14.1.2.1 x14.1.2.2)),(5,.v (vD x14.2))]) (fun x14 hF=>?_) fun _ hj12 hF=>?_
  ·exact wl hΦ hF
  refine wB ?_
  obtain⟨b35,hb36,hψ29⟩:=hF
  refine pL hb36 (fun s25=>[(0,.v (vB s25.1.1 s25.1.2.1 s25.1.2.2)),(5,.v (vD s25.2.1)),(7,.v (.int .i64 s25.2.2))]) (fun s25 _ _ ho27 hg28 hF=>?_)
  refine wW ?_
  refine wI hF (fun h30 hF=>?_) (fun h30 hF=>?_)
  ·refine wW ?_
   refine wB ?_
   refine wC hF [.io,.sh] zaJ (fun z31 hF=>?_)
   refine wK [0,5,7,8] ?_
   obtain⟨x32,g,hF⟩:=Rx g hF
   obtain⟨x33,g,hF⟩:=Rx g hF
   refine wW ?_
   refine wK [0,5,7,8,9] ?_
   obtain⟨x34,g,hF⟩:=Rx g hF
   try simp only[List.length_set]at g
   refine wW ?_
   exact wT (hg28 _) (zac hF)
  cases ho27 _ (zac hF)
  exact wT (hj12 _) hψ29
 refine wB ?_
 obtain⟨b10,hb11,hψ8⟩:=hF
 refine pL hb11 (fun s4=>[(0,.v (vB a0c0 a0c1 a0c2)),(1,.v (.int .i64 a1)),(5,.v (vD s4.1)),(6,.v (.int .i64 s4.2))]) (fun s4 _ _ ho6 hg7 hF=>?_)
 refine wW ?_
 refine wI hF (fun h9 hF=>?_) (fun h9 hF=>?_)
 ·refine wW ?_
  refine wB ?_
  obtain⟨g,hF⟩:=Rg g hF
  refine wK [0,1,5,6] ?_
  exact wT (hg7 _) (zac hF)
 cases ho6 _ (zac hF)
 exact wT (hj1 _) hψ8
def zc1 (a0c0:List Int) (a0c1:Int) (a0c2:Int) (a1:Group) (a2:Int):Option (List Int×(List Int×Int×Int)):=
 ((zbS (σ:=(List Int×Int×Int)×Int×List Int) (fun s11=>
 if decide (0<s11.2.1)=true then(
 (zb6 s11.1.1 s11.1.2.1 s11.1.2.2 a1).bind fun z17=>
 gd ((s11.2.2.length+1)*8≤140737488355328∧s11.2.2.length+1≤4611686018427387904)<|
 some (.go ((z17.2.1,z17.2.2.1,z17.2.2.2),i64.wrap (s11.2.1-1),s11.2.2++[z17.1])))else(
 some (.out ((s11.1.1,s11.1.2.1,s11.1.2.2),s11.2.2)))) ((a0c0,a0c1,a0c2),a2,[]):Option (((List Int×Int×Int)×List Int))).bind fun x3=>
 some (x3.2,(x3.1.1,x3.1.2.1,x3.1.2.2)))
theorem zji:∀{a0c0}{a0c1}{a0c2}{a1}{a2}{r},zc1 a0c0 a0c1 a0c2 a1 a2=some r→PCalls Tryz.prog 79 [(.io,vB a0c0 a0c1 a0c2),(.sh,vE a1),(.sh,.int .i64 a2)] (Eo (vD r.1) [vB r.2.1 r.2.2.1 r.2.2.2,.junk,.junk]):=by
 intro a0c0 a0c1 a0c2 a1 a2 r hr
 apply pF 19 [0] [] [] [.tmp 6] hr zIp Tryz.func79
 intro Φ hΦ hF g
 unfold zc1 at hF
 iterate 2 refine wW ?_
 refine wJ hF (fun x3=>[(0,.v (vB x3.1.1 x3.1.2.1 x3.1.2.2)),(7,.v (vD x3.2))]) (fun x3 hF=>?_) fun _ hj1 hF=>?_
 ·exact wl hΦ hF
 refine wB ?_
 obtain⟨b18,hb19,hψ15⟩:=hF
 refine pL hb19 (fun s11=>[(0,.v (vB s11.1.1 s11.1.2.1 s11.1.2.2)),(2,.v (.int .i64 s11.2.1)),(4,.bl [.int .i64 a1.P,.int .i64 a1.Q,.int .i64 a1.G]),(7,.v (vD s11.2.2))]) (fun s11 _ _ ho13 hg14 hF=>?_)
 refine wW ?_
 refine wI hF (fun h16 hF=>?_) (fun h16 hF=>?_)
 ·refine wW ?_
  refine wB ?_
  refine wC hF [.io,.sh] zfp (fun z17 hF=>?_)
  obtain⟨g,hF⟩:=Rg g hF
  refine wK [0,2,4,7] ?_
  exact wT (hg14 _) (zac hF)
 cases ho13 _ (zac hF)
 exact wT (hj1 _) hψ15
@[go_sem] def zyB:List DE:=[d0 0 [7],d0 1 [0],d0 2 [2],d0 4 [0],d1 5 [4] 4,d2 6 [34] 4 34,d0 7 [35],d3 3 [30,31],⟨8,[33,36],[],none,true,true,true⟩,d0 9 [29,32],d0 10 [38,37]]
def zcm (a0c0:List Int) (a0c1:Int) (a0c2:Int) (a1:Group) (a2:Int):Option (List Int×(List Int×Int×Int)):=
 (zc1 a0c0 a0c1 a0c2 a1 a2).bind fun z1=>
 (zat z1.2.1 z1.2.2.1 z1.2.2.2 30).bind fun z2=>
 ((if(z2.1==0)=true then(
 gd ((z1.1.length+1)*8≤140737488355328∧z1.1.length+1≤4611686018427387904)<|
 some (.inr (z1.1++[0],(z2.2.1,z2.2.2.1,z2.2.2.2))))else(
 if(z2.1==1)=true then(
 if decide (0<a2)=true then(
 gd (1≤z1.1.length∧z1.1.length≤z1.1.length)<|
 some (.inr ((z1.1.take z1.1.length).drop 1,(z2.2.1,z2.2.2.1,z2.2.2.2))))else(
 some (.inl ((z2.2.1,z2.2.2.1,z2.2.2.2),z1.1))))else(
 if(z2.1==2)=true then(
 if decide (0<a2)=true then(
 (zat z2.2.1 z2.2.2.1 z2.2.2.2 a2).bind fun z11=>
 (zaF z11.2.1 z11.2.2.1 z11.2.2.2 [(-1),a1.Q]).bind fun z12=>
 (ix z1.1 z11.1).bind fun x13=>
 some (.inl ((z12.2.1,z12.2.2.1,z12.2.2.2),z1.1.set z11.1.toNat z12.1)))else(
 some (.inl ((z2.2.1,z2.2.2.1,z2.2.2.2),z1.1))))else(
 some (.inl ((z2.2.1,z2.2.2.1,z2.2.2.2),z1.1))))):Option (((List Int×Int×Int)×List Int) ⊕ (List Int×(List Int×Int×Int)))).bind (Sum.elim (fun x5=>
 some (x5.2,(x5.1.1,x5.1.2.1,x5.1.2.2))) some))
theorem zij:∀{a0c0}{a0c1}{a0c2}{a1}{a2}{r},zcm a0c0 a0c1 a0c2 a1 a2=some r→PCalls Tryz.prog 29 [(.io,vB a0c0 a0c1 a0c2),(.sh,vE a1),(.sh,.int .i64 a2)] (Eo (vC r.1) [vB r.2.1 r.2.2.1 r.2.2.2,.junk,.junk]):=by
 intro a0c0 a0c1 a0c2 a1 a2 r hr
 apply pF 40 [0] [6] [] [.tmp 6] hr zGG Tryz.func29
 intro Φ hΦ hF g
 unfold zcm at hF
 refine wW ?_
 refine wC hF [.io,.sh,.sh] zji (fun z1 hF=>?_)
 refine wW ?_
 refine wC hF [.io,.sh] zaJ (fun z2 hF=>?_)
 refine wW ?_
 refine wS hF (fun x5=>[(0,.v (vB x5.1.1 x5.1.2.1 x5.1.2.2)),(7,.v (vD x5.2))]) (fun x5 hF=>?_) fun _ hj3 hr4 hF=>?_
 ·refine wK [0,6] ?_
  exact wm hΦ hF
 refine wB ?_
 refine wK [0,2,4,7,13,14] ?_
 refine wI hF (fun h6 hF=>?_) (fun h6 hF=>?_)
 ·obtain⟨g,hF⟩:=Rg g hF
  cases hΦ _ (hr4 _ (zac hF))
  refine wW ?_
  try simp[go_sem,g]
 refine wW ?_
 refine wI hF (fun h7 hF=>?_) (fun h7 hF=>?_)
 ·refine wW ?_
  refine wI hF (fun h8 hF=>?_) (fun h8 hF=>?_)
  ·obtain⟨g,hF⟩:=Rg g hF
   cases hΦ _ (hr4 _ (zac hF))
   refine wW ?_
   try simp[go_sem,g]
  exact wT (hj3 _) (zac hF)
 refine wW ?_
 refine wI hF (fun h9 hF=>?_) (fun h9 hF=>?_)
 ·refine wW ?_
  refine wI hF (fun h10 hF=>?_) (fun h10 hF=>?_)
  ·refine wX zyB follows ?_
   refine wC hF [.io,.sh] zaJ (fun z11 hF=>?_)
   refine wC hF [.io,.mv] za9 (fun z12 hF=>?_)
   obtain⟨x13,g,hF⟩:=Rx g hF
   exact wT (hj3 _) (zac hF)
  exact wT (hj3 _) (zac hF)
 exact wT (hj3 _) (zac hF)
def zbs (a0c0:List Int) (a0c1:Int) (a0c2:Int) (a1:Group):Option (Int×(List Int×Int×Int)):=
 (zby a0c0 a0c1 a0c2 20).bind fun z1=>
 if z1.1=true then(
 (zaF z1.2.1 z1.2.2.1 z1.2.2.2 [0,1,i64.wrap (a1.P-1),a1.P,(-1),5]).bind fun z3=>
 some (z3.1,(z3.2.1,z3.2.2.1,z3.2.2.2)))else(
 (zbI z1.2.1 z1.2.2.1 z1.2.2.2 a1).bind fun z4=>
 some (z4.1,(z4.2.1,z4.2.2.1,z4.2.2.2)))
theorem zea:∀{a0c0}{a0c1}{a0c2}{a1}{r},zbs a0c0 a0c1 a0c2 a1=some r→PCalls Tryz.prog 78 [(.io,vB a0c0 a0c1 a0c2),(.sh,vE a1)] (Eo (.int .i64 r.1) [vB r.2.1 r.2.2.1 r.2.2.2,.junk]):=by
 intro a0c0 a0c1 a0c2 a1 r hr
 apply pF 18 [0] [] [] [.tmp 4] hr zHe Tryz.func78
 intro Φ hΦ hF g
 unfold zbs at hF
 refine wW ?_
 refine wC hF [.io,.sh] zdv (fun z1 hF=>?_)
 refine wW ?_
 refine wI hF (fun h2 hF=>?_) (fun h2 hF=>?_)
 ·refine wC hF [.io,.mv] za9 (fun z3 hF=>?_)
  refine wK [0,4] ?_
  exact wm hΦ hF
 refine wW ?_
 refine wC hF [.io,.sh] zeC (fun z4 hF=>?_)
 exact wl hΦ hF
@[go_sem] def zBK:List DE:=[d0 0 [0],d2 1 [3] 3 3,d0 3 [0],d2 4 [3] 3 3,d3 2 [5,6],d3 5 [8,9],d0 6 [7,10],d2 7 [4,11] 4 4]
def zbT (a0c0:List Int) (a0c1:Int) (a0c2:Int) (a1:Group):Option (Cipher×(List Int×Int×Int)):=
 (zbs a0c0 a0c1 a0c2 a1).bind fun z1=>
 (zbs z1.2.1 z1.2.2.1 z1.2.2.2 a1).bind fun z2=>
 some ((Cipher.mk z1.1 z2.1),(z2.2.1,z2.2.2.1,z2.2.2.2))
theorem zfJ:∀{a0c0}{a0c1}{a0c2}{a1}{r},zbT a0c0 a0c1 a0c2 a1=some r→PCalls Tryz.prog 40 [(.io,vB a0c0 a0c1 a0c2),(.sh,vE a1)] (Eo (vF r.1) [vB r.2.1 r.2.2.1 r.2.2.2,.junk]):=by
 intro a0c0 a0c1 a0c2 a1 r hr
 apply pF 12 [0] [] [] [.cell 4 84] hr zHh Tryz.func40
 intro Φ hΦ hF g
 unfold zbT at hF
 refine wW ?_
 refine wX zBK follows ?_
 refine wC hF [.io,.sh] zea (fun z1 hF=>?_)
 refine wC hF [.io,.sh] zea (fun z2 hF=>?_)
 refine wK [0,4] ?_
 exact wm hΦ hF
@[go_sem] def zAh:List DE:=[d2 0 [7] 7 7,d0 1 [0],d2 2 [7] 7 7,d0 4 [8],d0 5 [10],d0 6 [11],d3 3 [75,76],d2 7 [2,74] 2 2,d0 8 [77],d0 9 [78],d0 10 [79],d0 11 [80]]
def zck (a0c0:List Int) (a0c1:Int) (a0c2:Int):Option (Group×Int×List Cipher×List Int×List Int×(List Int×Int×Int)):=
 (zbD a0c0 a0c1 a0c2).bind fun z1=>
 (zby z1.2.1 z1.2.2.1 z1.2.2.2 20).bind fun z2=>
 ((if z2.1=true then(
 (zbB z2.2.1 z2.2.2.1 z2.2.2.2).bind fun z7=>
 some ((z7.2.1,z7.2.2.1,z7.2.2.2),z7.1.P,z7.1.Q,z7.1.G))else(
 some ((z2.2.1,z2.2.2.1,z2.2.2.2),z1.1.P,z1.1.Q,z1.1.G)):Option (((List Int×Int×Int)×Int×Int×Int))).bind fun x5=>
 (zat x5.1.1 x5.1.2.1 x5.1.2.2 4).bind fun z8=>
 ((zbS (σ:=(List Int×Int×Int)×List Cipher×Int) (fun s19=>
 if decide (0<s19.2.2)=true then(
 (zcL s19.1.1 s19.1.2.1 s19.1.2.2 (Group.mk x5.2.1 x5.2.2.1 x5.2.2.2)).bind fun z25=>
 gd ((s19.2.1.length+1)*16≤140737488355328∧s19.2.1.length+1≤4611686018427387904)<|
 some (.go ((z25.2.1,z25.2.2.1,z25.2.2.2),s19.2.1++[z25.1],i64.wrap (s19.2.2-1))))else(
 some (.out ((s19.1.1,s19.1.2.1,s19.1.2.2),s19.2.1)))) ((z8.2.1,z8.2.2.1,z8.2.2.2),[],i64.wrap (1+z8.1)):Option (((List Int×Int×Int)×List Cipher))).bind fun x11=>
 (zdg x11.1.1 x11.1.2.1 x11.1.2.2 (x11.2.length:Int)).bind fun z28=>
 (zcm z28.2.1 z28.2.2.1 z28.2.2.2 (Group.mk x5.2.1 x5.2.2.1 x5.2.2.2) (x11.2.length:Int)).bind fun z29=>
 (zat z29.2.1 z29.2.2.1 z29.2.2.2 24).bind fun z30=>
 ((if(z30.1==0)=true then(
 (zbT z30.2.1 z30.2.2.1 z30.2.2.2 (Group.mk x5.2.1 x5.2.2.1 x5.2.2.2)).bind fun z35=>
 (ix x11.2 0).bind fun x36=>
 some ((z35.2.1,z35.2.2.1,z35.2.2.2),x11.2.set 0 z35.1,z28.1))else(
 if(z30.1==1)=true then(
 (zaF z30.2.1 z30.2.2.1 z30.2.2.2 [(-1),(x11.2.length:Int),0]).bind fun z38=>
 (ix z28.1 0).bind fun x39=>
 some ((z38.2.1,z38.2.2.1,z38.2.2.2),x11.2,z28.1.set 0 z38.1))else(
 if(z30.1==2)=true then(
 some ((z30.2.1,z30.2.2.1,z30.2.2.2),[],z28.1))else(
 if(z30.1==3)=true then(
 zbS (σ:=(List Int×Int×Int)×List Cipher) (fun s50=>
 (zat s50.1.1 s50.1.2.1 s50.1.2.2 2).bind fun z55=>
 if decide ((s50.2.length:Int)<(i64.wrap (12+z55.1)))=true then(
 (ix s50.2 0).bind fun x57=>
 gd ((s50.2.length+1)*16≤140737488355328∧s50.2.length+1≤4611686018427387904)<|
 some (.go ((z55.2.1,z55.2.2.1,z55.2.2.2),s50.2++[x57])))else(
 some (.out ((z55.2.1,z55.2.2.1,z55.2.2.2),s50.2,z28.1)))) ((z30.2.1,z30.2.2.1,z30.2.2.2),x11.2))else(
 some ((z30.2.1,z30.2.2.1,z30.2.2.2),x11.2,z28.1))))):Option (((List Int×Int×Int)×List Cipher×List Int))).bind fun x33=>
 (zbs x33.1.1 x33.1.2.1 x33.1.2.2 (Group.mk x5.2.1 x5.2.2.1 x5.2.2.2)).bind fun z60=>
 some ((Group.mk x5.2.1 x5.2.2.1 x5.2.2.2),z60.1,x33.2.1,x33.2.2,z29.1,(z60.2.1,z60.2.2.1,z60.2.2.2)))))
theorem zgB:∀{a0c0}{a0c1}{a0c2}{r},zck a0c0 a0c1 a0c2=some r→PCalls Tryz.prog 28 [(.io,vB a0c0 a0c1 a0c2)] (Eo (.tup [vE r.1,.int .i64 r.2.1,vG r.2.2.1,vD r.2.2.2.1,vC r.2.2.2.2.1]) [vB r.2.2.2.2.2.1 r.2.2.2.2.2.2.1 r.2.2.2.2.2.2.2]):=by
 intro a0c0 a0c1 a0c2 r hr
 apply pF 81 [0] [] [] [.cell 2 24,.tmp 3,.tmp 4,.tmp 5,.tmp 6] hr zHl Tryz.func28
 intro Φ hΦ hF g
 unfold zck at hF
 refine wW ?_
 refine wC hF [.io] zgC (fun z1 hF=>?_)
 refine wW ?_
 refine wC hF [.io,.sh] zdv (fun z2 hF=>?_)
 refine wK [0,2,7,15] ?_
 refine wJ hF (fun x5=>[(0,.v (vB x5.1.1 x5.1.2.1 x5.1.2.2)),(2,.bl [.int .i64 0,.int .i64 0,.int .i64 0]),(7,.bl [.int .i64 x5.2.1,.int .i64 x5.2.2.1,.int .i64 x5.2.2.2])]) (fun x5 hF=>?_) fun _ hj3 hF=>?_
 ·refine wW ?_
  refine wC hF [.io,.sh] zaJ (fun z8 hF=>?_)
  refine wW ?_
  refine wJ hF (fun x11=>[(0,.v (vB x11.1.1 x11.1.2.1 x11.1.2.2)),(2,.bl [.int .i64 0,.int .i64 0,.int .i64 0]),(7,.bl [.int .i64 x5.2.1,.int .i64 x5.2.2.1,.int .i64 x5.2.2.2]),(8,.v (vG x11.2))]) (fun x11 hF=>?_) fun _ hj9 hF=>?_
  ·try simp[go_sem,g]
   try intros
   refine wC hF [.io,.sh] zjL (fun z28 hF=>?_)
   refine wK [0,2,7,8,10] ?_
   try simp[go_sem,g]
   try intros
   refine wC hF [.io,.sh,.sh] zij (fun z29 hF=>?_)
   refine wW ?_
   refine wC hF [.io,.sh] zaJ (fun z30 hF=>?_)
   refine wW ?_
   refine wJ hF (fun x33=>[(0,.v (vB x33.1.1 x33.1.2.1 x33.1.2.2)),(2,.bl [.int .i64 0,.int .i64 0,.int .i64 0]),(7,.bl [.int .i64 x5.2.1,.int .i64 x5.2.2.1,.int .i64 x5.2.2.2]),(8,.v (vG x33.2.1)),(10,.v (vD x33.2.2)),(11,.v (vC z29.1))]) (fun x33 hF=>?_) fun _ hj31 hF=>?_
   ·refine wX zAh follows ?_
    refine wC hF [.io,.sh] zea (fun z60 hF=>?_)
    refine wK [0,2,3,4,5,6] ?_
    exact wm hΦ hF
   refine wB ?_
   refine wK [0,2,7,8,10,11,41,42] ?_
   refine wI hF (fun h34 hF=>?_) (fun h34 hF=>?_)
   ·refine wC hF [.io,.sh] zfJ (fun z35 hF=>?_)
    obtain⟨x36,g,hF⟩:=Rxn g 0 hF
    exact wT (hj31 _) (zac hF)
   refine wW ?_
   refine wI hF (fun h37 hF=>?_) (fun h37 hF=>?_)
   ·try simp[go_sem,g]
    try intros
    refine wC hF [.io,.mv] za9 (fun z38 hF=>?_)
    obtain⟨x39,g,hF⟩:=Rxn g 0 hF
    exact wT (hj31 _) (zac hF)
   refine wW ?_
   refine wI hF (fun h40 hF=>?_) (fun h40 hF=>?_)
   ·exact wT (hj31 _) (zac hF)
   refine wW ?_
   refine wI hF (fun h41 hF=>?_) (fun h41 hF=>?_)
   ·refine wB ?_
    obtain⟨b58,hb59,hψ54⟩:=hF
    refine pL hb59 (fun s50=>[(0,.v (vB s50.1.1 s50.1.2.1 s50.1.2.2)),(2,.bl [.int .i64 0,.int .i64 0,.int .i64 0]),(7,.bl [.int .i64 x5.2.1,.int .i64 x5.2.2.1,.int .i64 x5.2.2.2]),(8,.v (vG s50.2)),(10,.v (vD z28.1)),(11,.v (vC z29.1))]) (fun s50 _ _ ho52 hg53 hF=>?_)
    try simp[go_sem,g]
    try intros
    refine wC hF [.io,.sh] zaJ (fun z55 hF=>?_)
    refine wK [0,2,7,8,10,11,67] ?_
    refine wI hF (fun h56 hF=>?_) (fun h56 hF=>?_)
    ·refine wW ?_
     refine wB ?_
     obtain⟨x57,g,hF⟩:=Rxn g 0 hF
     obtain⟨g,hF⟩:=Rg g hF
     exact wT (hg53 _) (zac hF)
    cases ho52 _ (zac hF)
    exact wT (hj31 _) hψ54
   exact wT (hj31 _) (zac hF)
  refine wB ?_
  obtain⟨b26,hb27,hψ23⟩:=hF
  refine pL hb27 (fun s19=>[(0,.v (vB s19.1.1 s19.1.2.1 s19.1.2.2)),(2,.bl [.int .i64 0,.int .i64 0,.int .i64 0]),(7,.bl [.int .i64 x5.2.1,.int .i64 x5.2.2.1,.int .i64 x5.2.2.2]),(8,.v (vG s19.2.1)),(9,.v (.int .i64 s19.2.2))]) (fun s19 _ _ ho21 hg22 hF=>?_)
  refine wW ?_
  refine wI hF (fun h24 hF=>?_) (fun h24 hF=>?_)
  ·refine wW ?_
   refine wB ?_
   refine wC hF [.io,.sh] zjf (fun z25 hF=>?_)
   obtain⟨g,hF⟩:=Rg g hF
   refine wK [0,2,7,8,9] ?_
   exact wT (hg22 _) (zac hF)
  cases ho21 _ (zac hF)
  exact wT (hj9 _) hψ23
 refine wI hF (fun h6 hF=>?_) (fun h6 hF=>?_)
 ·refine wC hF [.io] zh9 (fun z7 hF=>?_)
  exact wT (hj3 _) (zac hF)
 exact wT (hj3 _) (zac hF)
def zdx (a0:List Int):Option (Group×Int×List Cipher×List Int×List Int):=
 (zck a0 0 0).bind fun z1=>
 some (z1.1,z1.2.1,z1.2.2.1,z1.2.2.2.1,z1.2.2.2.2.1)
theorem zjT:∀{a0}{r},zdx a0=some r→PCalls Tryz.prog 19 [(.sh,vA a0)] (Eo (.tup [vE r.1,.int .i64 r.2.1,vG r.2.2.1,vD r.2.2.2.1,vC r.2.2.2.2]) [.junk]):=by
 intro a0 r hr
 apply pF 18 [] [] [10] [.cell 2 24,.tmp 3,.tmp 4,.tmp 5,.tmp 6] hr zJQ Tryz.func19
 intro Φ hΦ hF g
 unfold zdx at hF
 iterate 2 refine wW ?_
 refine wC hF [.io] zgB (fun z1 hF=>?_)
 refine wK [2,3,4,5,6] ?_
 exact wm hΦ hF
def zbZ (a0:Int) (a1:Int) (a2:Int):Option Bool:=
 ((if decide (a1≤a0)=true then(
 some (decide (a0≤a2)))else(
 some false):Option Bool).bind fun x3=>
 some x3)
theorem zdj:∀{a0}{a1}{a2}{r},zbZ a0 a1 a2=some r→PCalls Tryz.prog 47 [(.sh,.int .i64 a0),(.sh,.int .i64 a1),(.sh,.int .i64 a2)] (Eo (.bool r) [.junk,.junk,.junk]):=by
 intro a0 a1 a2 r hr
 apply pF 15 [] [] [] [.tmp 6] hr zIw Tryz.func47
 intro Φ hΦ hF g
 unfold zbZ at hF
 refine wW ?_
 refine wJ hF (fun x3=>[(6,.v (.bool x3))]) (fun x3 hF=>?_) fun _ hj1 hF=>?_
 ·exact wm hΦ hF
 refine wG hF (fun h4 hF=>?_) fun h4 hF=>?_
 ·exact wV h4 (hj1 _) (zac hF)
 exact wV h4 (hj1 _) (zac hF)
def zeQ (a0:Int):Option Bool:=
 (zbZ a0 2 2000000000).bind fun z1=>
 some z1
theorem zmJ:∀{a0}{r},zeQ a0=some r→PCalls Tryz.prog 160 [(.sh,.int .i64 a0)] (Eo (.bool r) [.junk]):=by
 intro a0 r hr
 apply pF 5 [] [] [] [.tmp 2] hr zDw Tryz.func160
 intro Φ hΦ hF g
 unfold zeQ at hF
 refine wW ?_
 refine wC hF [.sh,.sh,.sh] zdj (fun z1 hF=>?_)
 exact wl hΦ hF
def zeK (a0:Int):Option Bool:=
 (((zeQ a0).bind fun z4=>
 if(!z4)=true then(
 some true)else(
 if((a0.tmod 2)==0)=true then(
 some (a0 !=2))else(
 some false)):Option Bool).bind fun x3=>
 if x3=true then(
 some false)else(
 ((zbS (σ:=Int) (fun s11=>
 if decide ((i64.wrap (s11*s11))≤a0)=true then(
 gd (s11≠0)<|
 if((a0.tmod s11)==0)=true then(
 some (.out (.inr false)))else(
 some (.go (i64.wrap (s11+2)))))else(
 some (.out (.inl ())))) 3:Option (Unit ⊕ Bool)).bind (Sum.elim (fun x10=>
 some true) some))))
theorem zkf:∀{a0}{r},zeK a0=some r→PCalls Tryz.prog 121 [(.sh,.int .i64 a0)] (Eo (.bool r) [.junk]):=by
 intro a0 r hr
 apply pF 27 [] [] [] [.tmp 2] hr zDh Tryz.func121
 intro Φ hΦ hF g
 unfold zeK at hF
 refine wW ?_
 refine wJ hF (fun x3=>[(0,.v (.int .i64 a0)),(15,.v (.bool x3))]) (fun x3 hF=>?_) fun _ hj1 hF=>?_
 ·refine wI hF (fun h7 hF=>?_) (fun h7 hF=>?_)
  ·exact wl hΦ hF
  iterate 2 refine wW ?_
  refine wS hF (fun x10=>[]) (fun x10 hF=>?_) fun _ hj8 hr9 hF=>?_
  ·exact wl hΦ hF
  refine wB ?_
  obtain⟨b18,hb19,hψ15⟩:=hF
  refine pL hb19 (fun s11=>[(0,.v (.int .i64 a0)),(3,.v (.int .i64 s11))]) (fun s11 _ _ ho13 hg14 hF=>?_)
  refine wW ?_
  refine wI hF (fun h16 hF=>?_) (fun h16 hF=>?_)
  ·refine wW ?_
   refine wB ?_
   obtain⟨g,hF⟩:=Rz g hF
   refine wK [0,3,26] ?_
   refine wI hF (fun h17 hF=>?_) (fun h17 hF=>?_)
   ·cases ho13 _ (zac hF)
    cases hΦ _ (hr9 _ hψ15)
    refine wW ?_
    try simp[go_sem,g]
   refine wW ?_
   exact wT (hg14 _) (zac hF)
  cases ho13 _ (zac hF)
  exact wT (hj8 _) hψ15
 refine wC hF [.sh] zmJ (fun z4 hF=>?_)
 refine wG hF (fun h5 hF=>?_) fun h5 hF=>?_
 ·exact wV h5 (hj1 _) (zac hF)
 have g:=Ld g 2
 try simp[go_sem,g,h5]
 refine wG hF (fun h6 hF=>?_) fun h6 hF=>?_
 ·try simp[go_sem,g,h6,h5]
  exact wT (hj1 _) (zac hF)
 try simp[go_sem,g,h6,h5]
 exact wT (hj1 _) (zac hF)
def zbG (a0:Int) (a1:Int) (a2:Int):Option Int:=
 gd (a2≠0)<|
 ((zbS (σ:=Int×Int×Int) (fun s4=>
 if decide (0<s4.2.1)=true then(
 ((if((i64.wrap ((BitVec.ofInt i64.bits s4.2.1&&&BitVec.ofInt i64.bits 1).toNat))==1)=true then(
 gd (a2≠0)<|
 some ((i64.wrap (s4.2.2*s4.1)).tmod a2))else(
 some s4.2.2):Option Int).bind fun x12=>
 gd (a2≠0)<|
 some (.go ((i64.wrap (s4.1*s4.1)).tmod a2,s4.2.1.fdiv 2,x12))))else(
 some (.out s4.2.2))) (a0,a1,(1:Int).tmod a2):Option Int).bind fun x3=>
 some x3)
theorem zfx:∀{a0}{a1}{a2}{r},zbG a0 a1 a2=some r→PCalls Tryz.prog 84 [(.sh,.int .i64 a0),(.sh,.int .i64 a1),(.sh,.int .i64 a2)] (Eo (.int .i64 r) [.junk,.junk,.junk]):=by
 intro a0 a1 a2 r hr
 apply pF 28 [] [] [] [.tmp 6] hr zG8 Tryz.func84
 intro Φ hΦ hF g
 unfold zbG at hF
 obtain⟨g,hF⟩:=Rz g hF
 iterate 2 refine wW ?_
 refine wJ hF (fun x3=>[(7,.v (.int .i64 x3))]) (fun x3 hF=>?_) fun _ hj1 hF=>?_
 ·exact wl hΦ hF
 refine wB ?_
 obtain⟨b14,hb15,hψ8⟩:=hF
 refine pL hb15 (fun s4=>[(0,.v (.int .i64 s4.1)),(1,.v (.int .i64 s4.2.1)),(2,.v (.int .i64 a2)),(7,.v (.int .i64 s4.2.2))]) (fun s4 _ _ ho6 hg7 hF=>?_)
 refine wW ?_
 refine wI hF (fun h9 hF=>?_) (fun h9 hF=>?_)
 ·refine wW ?_
  refine wB ?_
  refine wW ?_
  refine wJ hF (fun x12=>[(0,.v (.int .i64 s4.1)),(1,.v (.int .i64 s4.2.1)),(2,.v (.int .i64 a2)),(7,.v (.int .i64 x12))]) (fun x12 hF=>?_) fun _ hj10 hF=>?_
  ·obtain⟨g,hF⟩:=Rz g hF
   refine wK [0,1,2,7] ?_
   have g:=Ls g 1
   exact wT (hg7 _) (zac hF)
  refine wI hF (fun h13 hF=>?_) (fun h13 hF=>?_)
  ·obtain⟨g,hF⟩:=Rz g hF
   exact wT (hj10 _) (zac hF)
  exact wT (hj10 _) (zac hF)
 cases ho6 _ (zac hF)
 exact wT (hj1 _) hψ8
def zd3 (a0:Group):Option Bool:=
 (((zbZ a0.P 3 2000000000).bind fun z4=>
 if z4=true then(
 (zbZ a0.Q 2 (i64.wrap (a0.P-1))).bind fun z6=>
 if z6=true then(
 gd (a0.Q≠0)<|
 if(((i64.wrap (a0.P-1)).tmod a0.Q)==0)=true then(
 (zbZ a0.G 2 (i64.wrap (a0.P-1))).bind fun z9=>
 if z9=true then(
 (zeK a0.P).bind fun z11=>
 if z11=true then(
 (zeK a0.Q).bind fun z13=>
 if z13=true then(
 (zbG a0.G a0.Q a0.P).bind fun z15=>
 some (z15==1))else(
 some false))else(
 some false))else(
 some false))else(
 some false))else(
 some false))else(
 some false):Option Bool).bind fun x3=>
 some x3)
theorem zkV:∀{a0}{r},zd3 a0=some r→PCalls Tryz.prog 46 [(.sh,vE a0)] (Eo (.bool r) [.junk]):=by
 intro a0 r hr
 apply pF 51 [] [] [] [.tmp 2] hr zKg Tryz.func46
 intro Φ hΦ hF g
 unfold zd3 at hF
 refine wW ?_
 refine wJ hF (fun x3=>[(2,.v (.bool x3))]) (fun x3 hF=>?_) fun _ hj1 hF=>?_
 ·exact wm hΦ hF
 refine wC hF [.sh,.sh,.sh] zdj (fun z4 hF=>?_)
 refine wG hF (fun h5 hF=>?_) fun h5 hF=>?_
 ·try simp[go_sem,g,h5]
  refine wC hF [.sh,.sh,.sh] zdj (fun z6 hF=>?_)
  try simp[go_sem,g,h5]
  refine wG hF (fun h7 hF=>?_) fun h7 hF=>?_
  ·obtain⟨g,hF⟩:=Rz g hF
   try simp[go_sem,g,h7]
   refine wG hF (fun h8 hF=>?_) fun h8 hF=>?_
   ·try simp[go_sem,g,h8]
    refine wC hF [.sh,.sh,.sh] zdj (fun z9 hF=>?_)
    try simp[go_sem,g,h8]
    refine wG hF (fun h10 hF=>?_) fun h10 hF=>?_
    ·try simp[go_sem,g,h10]
     refine wC hF [.sh] zkf (fun z11 hF=>?_)
     try simp[go_sem,g,h10]
     refine wG hF (fun h12 hF=>?_) fun h12 hF=>?_
     ·try simp[go_sem,g,h12]
      refine wC hF [.sh] zkf (fun z13 hF=>?_)
      try simp[go_sem,g,h12]
      refine wG hF (fun h14 hF=>?_) fun h14 hF=>?_
      ·try simp[go_sem,g,h14]
       refine wC hF [.sh,.sh,.sh] zfx (fun z15 hF=>?_)
       exact wV h14 (hj1 _) (zac hF)
      exact wV h14 (hj1 _) (zac hF)
     exact wV h12 (hj1 _) (zac hF)
    exact wV h10 (hj1 _) (zac hF)
   exact wV h8 (hj1 _) (zac hF)
  exact wV h7 (hj1 _) (zac hF)
 exact wV h5 (hj1 _) (zac hF)
def zcM (a0:Group) (a1:Int):Option Bool:=
 (((zbZ a1 1 (i64.wrap (a0.P-1))).bind fun z4=>
 if z4=true then(
 (zbG a1 a0.Q a0.P).bind fun z6=>
 some (z6==1))else(
 some false):Option Bool).bind fun x3=>
 some x3)
theorem zfX:∀{a0}{a1}{r},zcM a0 a1=some r→PCalls Tryz.prog 123 [(.sh,vE a0),(.sh,.int .i64 a1)] (Eo (.bool r) [.junk,.junk]):=by
 intro a0 a1 r hr
 apply pF 19 [] [] [] [.tmp 4] hr zEf Tryz.func123
 intro Φ hΦ hF g
 unfold zcM at hF
 refine wW ?_
 refine wJ hF (fun x3=>[(4,.v (.bool x3))]) (fun x3 hF=>?_) fun _ hj1 hF=>?_
 ·exact wm hΦ hF
 refine wC hF [.sh,.sh,.sh] zdj (fun z4 hF=>?_)
 refine wG hF (fun h5 hF=>?_) fun h5 hF=>?_
 ·try simp[go_sem,g,h5]
  refine wC hF [.sh,.sh,.sh] zfx (fun z6 hF=>?_)
  exact wV h5 (hj1 _) (zac hF)
 exact wV h5 (hj1 _) (zac hF)
def zdc (a0:Group) (a1:Cipher):Option Bool:=
 (((zcM a0 a1.A).bind fun z4=>
 if z4=true then(
 (zcM a0 a1.B).bind fun z6=>
 some z6)else(
 some false):Option Bool).bind fun x3=>
 some x3)
theorem zjP:∀{a0}{a1}{r},zdc a0 a1=some r→PCalls Tryz.prog 158 [(.sh,vE a0),(.sh,vF a1)] (Eo (.bool r) [.junk,.junk]):=by
 intro a0 a1 r hr
 apply pF 15 [] [] [] [.tmp 4] hr zB0 Tryz.func158
 intro Φ hΦ hF g
 unfold zdc at hF
 refine wW ?_
 refine wJ hF (fun x3=>[(4,.v (.bool x3))]) (fun x3 hF=>?_) fun _ hj1 hF=>?_
 ·exact wm hΦ hF
 refine wC hF [.sh,.sh] zfX (fun z4 hF=>?_)
 refine wG hF (fun h5 hF=>?_) fun h5 hF=>?_
 ·try simp[go_sem,g,h5]
  refine wC hF [.sh,.sh] zfX (fun z6 hF=>?_)
  exact wV h5 (hj1 _) (zac hF)
 exact wV h5 (hj1 _) (zac hF)
def zdo (a0:Cipher) (a1c0:Int) (a1c1:Int) (a1c2:Int):Option Bool:=
 (zdc (Group.mk a1c0 a1c1 a1c2) a0).bind fun z1=>
 some (!z1)
theorem zie:∀{a0}{a1c0}{a1c1}{a1c2}{r},zdo a0 a1c0 a1c1 a1c2=some r→PCalls Tryz.prog 157 [(.sh,vF a0),(.sh,.fp [.int .i64 a1c0,.int .i64 a1c1,.int .i64 a1c2])] (Eo (.bool r) [.junk,.junk]):=by
 intro a0 a1c0 a1c1 a1c2 r hr
 apply pF 8 [] [] [] [.tmp 3] hr zDA Tryz.func157
 intro Φ hΦ hF g
 unfold zdo at hF
 refine wW ?_
 refine wC hF [.sh,.sh] zjP (fun z1 hF=>?_)
 exact wl hΦ hF
def zaB (a0:List Cipher) (a1u0c0:Int) (a1u0c1:Int) (a1u0c2:Int):Option Int:=
 ((zaq (σ:=Unit) (fun i5 s4=>
 (ix a0 i5).bind fun x11=>
 (zdo x11 a1u0c0 a1u0c1 a1u0c2).bind fun z12=>
 if z12=true then(
 some (.out (.inr i5)))else(
 some (.go ()))) (fun s4=>.inl ()) (a0.length) 0 ():Option (Unit ⊕ Int)).bind (Sum.elim (fun x3=>
 some (-1)) some))
theorem zc8:∀{a0}{a1u0c0}{a1u0c1}{a1u0c2}{r},zaB a0 a1u0c0 a1u0c1 a1u0c2=some r→PCalls Tryz.prog 176 [(.sh,vH a0),(.sh,.func (.func 157) [] [.fp [.int .i64 a1u0c0,.int .i64 a1u0c1,.int .i64 a1u0c2]])] (Eo (.int .i64 r) [.junk,.junk]):=by
 intro a0 a1u0c0 a1u0c1 a1u0c2 r hr
 apply pF 19 [] [] [] [.tmp 4] hr zBG Tryz.func176
 intro Φ hΦ hF g
 unfold zaB at hF
 iterate 2 (try simp[go_sem,g];try intros;refine zaT ?_)
 refine wS hF (fun x3=>[]) (fun x3 hF=>?_) fun _ hj1 hr2 hF=>?_
 ·exact wl hΦ hF
 refine wB ?_
 obtain⟨b14,hb15,hψ8⟩:=hF
 refine pR hb15 (fun i5 s4=>[(0,.v (vH a0)),(1,.v (.func (.func 157) [] [.fp [.int .i64 a1u0c0,.int .i64 a1u0c1,.int .i64 a1u0c2]])),(7,.v (.int .i64 (a0.length:Int))),(8,.v (.int .i64 i5))]) (fun s4 _ hN16=>?_) (fun i5 s4 _ _ hi9 hi10 ho6 hg7 hF=>?_)
 ·exact wn hN16 (hj1 _) hψ8
 refine wW ?_
 refine wu hi9 hi10 ?_
 refine wW ?_
 refine wB ?_
 obtain⟨x11,g,hF⟩:=Rx g hF
 refine wW ?_
 refine wC hF [.sh] zie (fun z12 hF=>?_)
 refine wK [0,1,5,7,8,16] ?_
 refine wI hF (fun h13 hF=>?_) (fun h13 hF=>?_)
 ·cases ho6 _ (zac hF)
  cases hΦ _ (hr2 _ hψ8)
  refine wW ?_
  try simp[go_sem,g]
 refine wW ?_
 exact wi hi9 hi10 (hg7 _) (zac hF)
def zaK (a0:List Cipher) (a1u0c0:Int) (a1u0c1:Int) (a1u0c2:Int):Option Bool:=
 (zaB a0 a1u0c0 a1u0c1 a1u0c2).bind fun z1=>
 some (decide (0≤z1))
theorem zcU:∀{a0}{a1u0c0}{a1u0c1}{a1u0c2}{r},zaK a0 a1u0c0 a1u0c1 a1u0c2=some r→PCalls Tryz.prog 156 [(.sh,vH a0),(.sh,.func (.func 157) [] [.fp [.int .i64 a1u0c0,.int .i64 a1u0c1,.int .i64 a1u0c2]])] (Eo (.bool r) [.junk,.junk]):=by
 intro a0 a1u0c0 a1u0c1 a1u0c2 r hr
 apply pF 9 [] [] [] [.tmp 4] hr zD0 Tryz.func156
 intro Φ hΦ hF g
 unfold zaK at hF
 refine wW ?_
 refine wC hF [.sh,.sh] zc8 (fun z1 hF=>?_)
 exact wl hΦ hF
def zcW (a0:Group) (a1:List Cipher):Option Bool:=
 ((if decide ((a1.length:Int)≤24)=true then(
 (zaK a1 a0.P a0.Q a0.G).bind fun z5=>
 some (!z5))else(
 some false):Option Bool).bind fun x3=>
 some x3)
theorem zjl:∀{a0}{a1}{r},zcW a0 a1=some r→PCalls Tryz.prog 114 [(.sh,vE a0),(.sh,vH a1)] (Eo (.bool r) [.junk,.junk]):=by
 intro a0 a1 r hr
 apply pF 14 [] [] [1000000] [.tmp 4] hr zDP Tryz.func114
 intro Φ hΦ hF g
 unfold zcW at hF
 refine wW ?_
 refine wJ hF (fun x3=>[(4,.v (.bool x3))]) (fun x3 hF=>?_) fun _ hj1 hF=>?_
 ·exact wm hΦ hF
 try simp[go_sem,g]
 try intros
 refine wG hF (fun h4 hF=>?_) fun h4 hF=>?_
 ·try simp[go_sem,g,h4]
  refine wC hF [.sh,.sh] zcU (fun z5 hF=>?_)
  exact wV h4 (hj1 _) (zac hF)
 exact wV h4 (hj1 _) (zac hF)
def zbw (a0:Group) (a1:List Cipher):Option Bool:=
 (((zbZ (a1.length:Int) 1 12).bind fun z4=>
 if z4=true then(
 (zcW a0 a1).bind fun z6=>
 some z6)else(
 some false):Option Bool).bind fun x3=>
 some x3)
theorem zdu:∀{a0}{a1}{r},zbw a0 a1=some r→PCalls Tryz.prog 43 [(.sh,vE a0),(.sh,vH a1)] (Eo (.bool r) [.junk,.junk]):=by
 intro a0 a1 r hr
 apply pF 13 [] [] [] [.tmp 4] hr zJM Tryz.func43
 intro Φ hΦ hF g
 unfold zbw at hF
 refine wW ?_
 refine wJ hF (fun x3=>[(4,.v (.bool x3))]) (fun x3 hF=>?_) fun _ hj1 hF=>?_
 ·exact wm hΦ hF
 try simp[go_sem,g]
 try intros
 refine wC hF [.sh,.sh,.sh] zdj (fun z4 hF=>?_)
 refine wG hF (fun h5 hF=>?_) fun h5 hF=>?_
 ·try simp[go_sem,g,h5]
  refine wC hF [.sh,.sh] zjl (fun z6 hF=>?_)
  exact wV h5 (hj1 _) (zac hF)
 exact wV h5 (hj1 _) (zac hF)
def zgi (a0:ByteArray) (a1:List Int):Option ((List Int)):=
 ((zbS (σ:=(List Int)×Int) (fun s4=>
 if decide (s4.2<(a0.size:Int))=true then(
 (ixs a0 s4.2).bind fun x10=>
 gd ((s4.1.length+1)*8≤140737488355328∧s4.1.length+1≤4611686018427387904)<|
 some (.go (s4.1++[i64.wrap x10],i64.wrap (s4.2+1))))else(
 some (.out s4.1))) ([(a0.size:Int)],0):Option ((List Int))).bind fun x3=>
 gd ((x3.length+a1.length)*8≤140737488355328∧x3.length+a1.length≤4611686018427387904)<|
 some (x3++a1))
theorem zm5:∀{a0}{a1}{r},zgi a0 a1=some r→PCalls Tryz.prog 164 [(.sh,.str a0),(.sh,vC a1)] (Eo (vD r) [.junk,.junk]):=by
 intro a0 a1 r hr
 apply pF 26 [] [] [] [.tmp 4] hr zBD Tryz.func164
 intro Φ hΦ hF g
 unfold zgi at hF
 iterate 3 refine wW ?_
 refine wJ hF (fun x3=>[(1,.v (vC a1)),(5,.v (vD x3))]) (fun x3 hF=>?_) fun _ hj1 hF=>?_
 ·obtain⟨g,hF⟩:=Rg g hF
  refine wK [4] ?_
  exact wm hΦ hF
 refine wB ?_
 obtain⟨b11,hb12,hψ8⟩:=hF
 refine pL hb12 (fun s4=>[(0,.v (.str a0)),(1,.v (vC a1)),(5,.v (vD s4.1)),(11,.v (.int .i64 (a0.size:Int))),(12,.v (.int .i64 s4.2))]) (fun s4 _ _ ho6 hg7 hF=>?_)
 refine wW ?_
 refine wI hF (fun h9 hF=>?_) (fun h9 hF=>?_)
 ·refine wW ?_
  refine wB ?_
  refine wK [0,1,5,6,11,12] ?_
  obtain⟨x10,g,hF⟩:=Rxs g hF
  obtain⟨g,hF⟩:=Rg g hF
  refine wW ?_
  exact wT (hg7 _) (zac hF)
 cases ho6 _ (zac hF)
 exact wT (hj1 _) hψ8
def zfa (a0:Int):Option Bool:=
 (zbZ a0 0 4611686018427387903).bind fun z1=>
 some z1
theorem znO:∀{a0}{r},zfa a0=some r→PCalls Tryz.prog 192 [(.sh,.int .i64 a0)] (Eo (.bool r) [.junk]):=by
 intro a0 r hr
 apply pF 5 [] [] [] [.tmp 2] hr zD4 Tryz.func192
 intro Φ hΦ hF g
 unfold zfa at hF
 refine wW ?_
 refine wC hF [.sh,.sh,.sh] zdj (fun z1 hF=>?_)
 exact wl hΦ hF
def zb0 (a0:Int):Option Bool:=
 (zfa a0).bind fun z1=>
 some (!z1)
theorem zho:∀{a0}{r},zb0 a0=some r→PCalls Tryz.prog 149 [(.sh,.int .i64 a0),(.sh,.fp [.func (.func 192) [] []])] (Eo (.bool r) [.junk,.junk]):=by
 intro a0 r hr
 apply pF 8 [] [] [] [.tmp 3] hr zpd Tryz.func149
 intro Φ hΦ hF g
 unfold zb0 at hF
 refine wW ?_
 refine wC hF [.sh] znO (fun z1 hF=>?_)
 exact wl hΦ hF
def zbu (a0:List Int):Option Int:=
 ((zaq (σ:=Unit) (fun i5 s4=>
 (ix a0 i5).bind fun x11=>
 (zb0 x11).bind fun z12=>
 if z12=true then(
 some (.out (.inr i5)))else(
 some (.go ()))) (fun s4=>.inl ()) (a0.length) 0 ():Option (Unit ⊕ Int)).bind (Sum.elim (fun x3=>
 some (-1)) some))
theorem zee:∀{a0}{r},zbu a0=some r→PCalls Tryz.prog 171 [(.sh,vC a0),(.sh,.func (.func 149) [] [.fp [.func (.func 192) [] []]])] (Eo (.int .i64 r) [.junk,.junk]):=by
 intro a0 r hr
 apply pF 19 [] [] [] [.tmp 4] hr zo0 Tryz.func171
 intro Φ hΦ hF g
 unfold zbu at hF
 iterate 2 (try simp[go_sem,g];try intros;refine zaT ?_)
 refine wS hF (fun x3=>[]) (fun x3 hF=>?_) fun _ hj1 hr2 hF=>?_
 ·exact wl hΦ hF
 refine wB ?_
 obtain⟨b14,hb15,hψ8⟩:=hF
 refine pR hb15 (fun i5 s4=>[(0,.v (vC a0)),(1,.v (.func (.func 149) [] [.fp [.func (.func 192) [] []]])),(7,.v (.int .i64 (a0.length:Int))),(8,.v (.int .i64 i5))]) (fun s4 _ hN16=>?_) (fun i5 s4 _ _ hi9 hi10 ho6 hg7 hF=>?_)
 ·exact wn hN16 (hj1 _) hψ8
 refine wW ?_
 refine wu hi9 hi10 ?_
 refine wW ?_
 refine wB ?_
 obtain⟨x11,g,hF⟩:=Rx g hF
 refine wW ?_
 refine wC hF [.sh] zho (fun z12 hF=>?_)
 refine wK [0,1,5,7,8,16] ?_
 refine wI hF (fun h13 hF=>?_) (fun h13 hF=>?_)
 ·cases ho6 _ (zac hF)
  cases hΦ _ (hr2 _ hψ8)
  refine wW ?_
  try simp[go_sem,g]
 refine wW ?_
 exact wi hi9 hi10 (hg7 _) (zac hF)
def zbk (a0:List Int):Option Bool:=
 (zbu a0).bind fun z1=>
 some (decide (0≤z1))
theorem zdW:∀{a0}{r},zbk a0=some r→PCalls Tryz.prog 148 [(.sh,vC a0),(.sh,.func (.func 149) [] [.fp [.func (.func 192) [] []]])] (Eo (.bool r) [.junk,.junk]):=by
 intro a0 r hr
 apply pF 9 [] [] [] [.tmp 4] hr zoU Tryz.func148
 intro Φ hΦ hF g
 unfold zbk at hF
 refine wW ?_
 refine wC hF [.sh,.sh] zee (fun z1 hF=>?_)
 exact wl hΦ hF
def zcS (a0:List Int):Option Bool:=
 (zbk a0).bind fun z1=>
 some (!z1)
theorem zhH:∀{a0}{r},zcS a0=some r→PCalls Tryz.prog 81 [(.sh,vC a0),(.sh,.func (.func 192) [] [])] (Eo (.bool r) [.junk,.junk]):=by
 intro a0 r hr
 apply pF 9 [] [] [1000000] [.tmp 4] hr ztb Tryz.func81
 intro Φ hΦ hF g
 unfold zcS at hF
 refine wW ?_
 refine wC hF [.sh,.sh] zdW (fun z1 hF=>?_)
 exact wl hΦ hF
def zet (a0:List Int):Option Bool:=
 ((if decide ((a0.length:Int)≤400)=true then(
 (zcS a0).bind fun z5=>
 some z5)else(
 some false):Option Bool).bind fun x3=>
 some x3)
theorem zmc:∀{a0}{r},zet a0=some r→PCalls Tryz.prog 177 [(.sh,vC a0)] (Eo (.bool r) [.junk]):=by
 intro a0 r hr
 apply pF 10 [] [] [] [.tmp 2] hr zBv Tryz.func177
 intro Φ hΦ hF g
 unfold zet at hF
 refine wW ?_
 refine wJ hF (fun x3=>[(2,.v (.bool x3))]) (fun x3 hF=>?_) fun _ hj1 hF=>?_
 ·exact wm hΦ hF
 try simp[go_sem,g]
 try intros
 refine wG hF (fun h4 hF=>?_) fun h4 hF=>?_
 ·try simp[go_sem,g,h4]
  refine wC hF [.sh,.sh] zhH (fun z5 hF=>?_)
  exact wV h4 (hj1 _) (zac hF)
 exact wV h4 (hj1 _) (zac hF)
def zgI (a0:List Int):Option Int:=
 gd (([(a0.length:Int)].length+a0.length)*8≤140737488355328∧[(a0.length:Int)].length+a0.length≤4611686018427387904)<|
 (some ([(a0.length:Int)]++a0)).bind fun x1=>
 ((zaq (σ:=Int×Int) (fun i7 s6=>
 (ix x1 i7).bind fun x13=>
 some (.go ((i64.wrap ((i64.wrap ((i64.wrap (48271*((i64.wrap ((i64.wrap ((i64.wrap (48271*s6.1))+(i64.wrap ((BitVec.ofInt i64.bits x13&&&BitVec.ofInt i64.bits 2147483647).toNat))))+1)).tmod 2147483647)))+(x13.fdiv 2147483648)))+1)).tmod 2147483647,(i64.wrap ((i64.wrap ((i64.wrap (69621*((i64.wrap ((i64.wrap ((i64.wrap (69621*s6.2))+(i64.wrap ((BitVec.ofInt i64.bits x13&&&BitVec.ofInt i64.bits 2147483647).toNat))))+1)).tmod 2147483647)))+(x13.fdiv 2147483648)))+1)).tmod 2147483647))) (fun s6=>(s6.1,s6.2)) (x1.length) 0 (1,2):Option ((Int×Int))).bind fun x5=>
 some (i64.wrap ((i64.wrap (x5.1*2147483648))+x5.2)))
theorem zqU:∀{a0}{r},zgI a0=some r→PCalls Tryz.prog 178 [(.sh,vC a0)] (Eo (.int .i64 r) [.junk]):=by
 intro a0 r hr
 apply pF 52 [] [] [] [.tmp 2] hr zBB Tryz.func178
 intro Φ hΦ hF g
 unfold zgI at hF
 obtain⟨g,hF⟩:=Rg g hF
 obtain⟨x1,e2,hF⟩:=zdR hF
 have g:=And.intro g (show[.int .i64 (a0.length:Int)]::(List.map zax a0)=x1.map zax by injection e2 with e2;rw[←e2];simp[go_sem])
 iterate 2 (try simp[go_sem,g];try intros;refine zaT ?_)
 try simp[go_sem,g]
 try intros
 refine wK [3,4,13,14,15] ?_
 refine wJ hF (fun x5=>[(3,.v (.int .i64 x5.1)),(4,.v (.int .i64 x5.2))]) (fun x5 hF=>?_) fun _ hj3 hF=>?_
 ·have g:=Ls g 31
  exact wl hΦ hF
 refine wB ?_
 obtain⟨b14,hb15,hψ10⟩:=hF
 refine pR hb15 (fun i7 s6=>[(3,.v (.int .i64 s6.1)),(4,.v (.int .i64 s6.2)),(13,.v (vD x1)),(14,.v (.int .i64 (x1.length:Int))),(15,.v (.int .i64 i7))]) (fun s6 _ hN16=>?_) (fun i7 s6 _ _ hi11 hi12 ho8 hg9 hF=>?_)
 ·exact wn hN16 (hj3 _) hψ10
 refine wW ?_
 refine wu hi11 hi12 ?_
 refine wW ?_
 refine wB ?_
 obtain⟨x13,g,hF⟩:=Rx g hF
 have g:=Ls g 31
 refine wW ?_
 refine wK [3,4,7,8,13,14,15] ?_
 have g:=Ld g 2147483647
 refine wW ?_
 refine wK [3,4,7,8,13,14,15] ?_
 refine wW ?_
 refine wK [3,4,13,14,15] ?_
 exact wi hi11 hi12 (hg9 _) (zac hF)
def zfh (a0:List Int):Option (Int×Bool):=
 (zet a0).bind fun z1=>
 if(!z1)=true then(
 some (0,false))else(
 (zgI a0).bind fun z3=>
 some (z3,true))
theorem zm9:∀{a0}{r},zfh a0=some r→PCalls Tryz.prog 163 [(.sh,vC a0)] (Eo (.tup [.int .i64 r.1,.bool r.2]) [.junk]):=by
 intro a0 r hr
 apply pF 9 [] [] [] [.tmp 2,.tmp 3] hr zDz Tryz.func163
 intro Φ hΦ hF g
 unfold zfh at hF
 refine wW ?_
 refine wC hF [.sh] zmc (fun z1 hF=>?_)
 refine wW ?_
 refine wI hF (fun h2 hF=>?_) (fun h2 hF=>?_)
 ·exact wl hΦ hF
 refine wW ?_
 refine wC hF [.sh] zqU (fun z3 hF=>?_)
 exact wl hΦ hF
def zcx (a0:ByteArray) (a1:List Int):Option (Int×Bool):=
 ((if decide (40<(a0.size:Int))=true then(
 some true)else(
 some (decide (400<(a1.length:Int)))):Option Bool).bind fun x3=>
 if x3=true then(
 some (0,false))else(
 (zgi a0 a1).bind fun z6=>
 (zfh z6).bind fun z7=>
 some (z7.1,z7.2)))
theorem zhz:∀{a0}{a1}{r},zcx a0 a1=some r→PCalls Tryz.prog 125 [(.sh,.str a0),(.sh,vC a1)] (Eo (.tup [.int .i64 r.1,.bool r.2]) [.junk,.junk]):=by
 intro a0 a1 r hr
 apply pF 20 [] [] [] [.tmp 4,.tmp 5] hr zCH Tryz.func125
 intro Φ hΦ hF g
 unfold zcx at hF
 refine wW ?_
 refine wJ hF (fun x3=>[(0,.v (.str a0)),(1,.v (vC a1)),(13,.v (.bool x3))]) (fun x3 hF=>?_) fun _ hj1 hF=>?_
 ·refine wI hF (fun h5 hF=>?_) (fun h5 hF=>?_)
  ·exact wl hΦ hF
  refine wW ?_
  refine wC hF [.sh,.sh] zm5 (fun z6 hF=>?_)
  refine wC hF [.sh] zm9 (fun z7 hF=>?_)
  refine wK [4,5] ?_
  exact wm hΦ hF
 refine wG hF (fun h4 hF=>?_) fun h4 hF=>?_
 ·exact wV h4 (hj1 _) (zac hF)
 try simp[go_sem,g,h4]
 try intros
 exact wT (hj1 _) (zac hF)
@[go_sem] def zAM:List DE:=[d0 0 [9],d1 1 [3] 3,d2 2 [32] 3 32,d0 3 [33],d0 4 [31,34],d0 5 [35],d1 6 [3] 3,d2 7 [37] 3 37,d0 8 [38],d1 9 [3] 3,d2 10 [40] 3 40,d0 11 [39,41],d1 12 [3] 3,d2 13 [43] 3 43,d3 14 [36,42,44],d0 15 [45]]
def zbQ (a0:Group) (a1:ByteArray) (a2:Int):Option (Int×Bool):=
 ((zbS (σ:=Int) (fun s4=>
 if decide (s4<1000)=true then(
 (zcx a1 [a0.P,a0.Q,a0.G,a2,s4]).bind fun z10=>
 if(!z10.2)=true then(
 some (.out (.inr (0,false))))else(
 gd (i64.wrap (a0.P-1)≠0)<|
 gd (a0.Q≠0)<|
 (zbG (i64.wrap (1+(z10.1.tmod (i64.wrap (a0.P-1))))) (i64.wrap ((i64.wrap (a0.P-1)).tdiv a0.Q)) a0.P).bind fun z12=>
 if(z12 !=1)=true then(
 some (.out (.inr (z12,true))))else(
 some (.go (i64.wrap (s4+1))))))else(
 some (.out (.inl ())))) 0:Option (Unit ⊕ (Int×Bool))).bind (Sum.elim (fun x3=>
 some (0,false)) some))
theorem zhy:∀{a0}{a1}{a2}{r},zbQ a0 a1 a2=some r→PCalls Tryz.prog 122 [(.sh,vE a0),(.sh,.str a1),(.sh,.int .i64 a2)] (Eo (.tup [.int .i64 r.1,.bool r.2]) [.junk,.junk,.junk]):=by
 intro a0 a1 a2 r hr
 apply pF 50 [] [] [] [.tmp 6,.tmp 7] hr zCi Tryz.func122
 intro Φ hΦ hF g
 unfold zbQ at hF
 iterate 2 refine wW ?_
 refine wS hF (fun x3=>[]) (fun x3 hF=>?_) fun _ hj1 hr2 hF=>?_
 ·exact wl hΦ hF
 refine wB ?_
 obtain⟨b14,hb15,hψ8⟩:=hF
 refine pL hb15 (fun s4=>[(1,.v (.str a1)),(2,.v (.int .i64 a2)),(3,.bl [.int .i64 a0.P,.int .i64 a0.Q,.int .i64 a0.G]),(12,.v (.int .i64 s4))]) (fun s4 _ _ ho6 hg7 hF=>?_)
 refine wW ?_
 refine wI hF (fun h9 hF=>?_) (fun h9 hF=>?_)
 ·refine wW ?_
  refine wB ?_
  refine wW ?_
  refine wC hF [.sh,.sh] zhz (fun z10 hF=>?_)
  refine wK [1,2,3,9,10,12] ?_
  refine wW ?_
  refine wI hF (fun h11 hF=>?_) (fun h11 hF=>?_)
  ·cases ho6 _ (zac hF)
   cases hΦ _ (hr2 _ hψ8)
   refine wW ?_
   try simp[go_sem,g]
  refine wW ?_
  refine wX zAM follows ?_
  obtain⟨g,hF⟩:=Rz g hF
  obtain⟨g,hF⟩:=Rz g hF
  refine wC hF [.sh,.sh,.sh] zfx (fun z12 hF=>?_)
  refine wK [1,2,3,11,12] ?_
  refine wW ?_
  refine wI hF (fun h13 hF=>?_) (fun h13 hF=>?_)
  ·cases ho6 _ (zac hF)
   cases hΦ _ (hr2 _ hψ8)
   refine wW ?_
   try simp[go_sem,g]
  refine wW ?_
  exact wT (hg7 _) (zac hF)
 cases ho6 _ (zac hF)
 exact wT (hj1 _) hψ8
def zaG (a0:Group) (a1:Int):Option (Bases×Bool):=
 (zbQ a0 (⟨#[104]⟩:ByteArray) 0).bind fun z1=>
 ((zbS (σ:=Int×List Int×Bool×Int) (fun s16=>
 if decide (s16.2.2.2<a1)=true then(
 (zbQ a0 (⟨#[104,115]⟩:ByteArray) s16.2.2.2).bind fun z22=>
 ((if s16.2.2.1=true then(
 some z22.2)else(
 some false):Option Bool).bind fun x25=>
 gd ((s16.2.1.length+1)*8≤140737488355328∧s16.2.1.length+1≤4611686018427387904)<|
 some (.go (s16.1,s16.2.1++[z22.1],x25,i64.wrap (s16.2.2.2+1)))))else(
 some (.out (s16.1,s16.2.1,s16.2.2.1)))) (z1.1,[],true,0):Option ((Int×List Int×Bool))).bind fun x4=>
 ((if(!z1.2)=true then(
 some true)else(
 some (!x4.2.2)):Option Bool).bind fun x31=>
 if x31=true then(
 some ((Bases.mk 0 []),false))else(
 some ((Bases.mk x4.1 x4.2.1),true))))
theorem zhl:∀{a0}{a1}{r},zaG a0 a1=some r→PCalls Tryz.prog 48 [(.sh,vE a0),(.sh,.int .i64 a1)] (Eo (.tup [vI r.1,.bool r.2]) [.junk,.junk]):=by
 intro a0 a1 r hr
 apply pF 49 [] [] [] [.cell 4 71,.tmp 5] hr zF9 Tryz.func48
 intro Φ hΦ hF g
 unfold zaG at hF
 refine wW ?_
 refine wC hF [.sh,.sh,.sh] zhy (fun z1 hF=>?_)
 refine wK [1,2,4,6,7] ?_
 iterate 2 refine wW ?_
 refine wJ hF (fun x4=>[(4,.bl [.int .i64 0,.sl true 1 []]),(7,.v (.bool z1.2)),(8,.bl [.int .i64 x4.1,vD x4.2.1]),(9,.v (.bool x4.2.2))]) (fun x4 hF=>?_) fun _ hj2 hF=>?_
 ·refine wJ hF (fun x31=>[(4,.bl [.int .i64 0,.sl true 1 []]),(8,.bl [.int .i64 x4.1,vD x4.2.1]),(46,.v (.bool x31))]) (fun x31 hF=>?_) fun _ hj29 hF=>?_
  ·refine wI hF (fun h33 hF=>?_) (fun h33 hF=>?_)
   ·refine wK [4,5] ?_
    exact wm hΦ hF
   refine wW ?_
   refine wK [4,5] ?_
   exact wm hΦ hF
  refine wG hF (fun h32 hF=>?_) fun h32 hF=>?_
  ·exact wV h32 (hj29 _) (zac hF)
  exact wV h32 (hj29 _) (zac hF)
 refine wB ?_
 obtain⟨b27,hb28,hψ20⟩:=hF
 refine pL hb28 (fun s16=>[(2,.bl [.int .i64 a0.P,.int .i64 a0.Q,.int .i64 a0.G]),(4,.bl [.int .i64 0,.sl true 1 []]),(7,.v (.bool z1.2)),(8,.bl [.int .i64 s16.1,vD s16.2.1]),(9,.v (.bool s16.2.2.1)),(20,.v (.int .i64 a1)),(21,.v (.int .i64 s16.2.2.2))]) (fun s16 _ _ ho18 hg19 hF=>?_)
 refine wW ?_
 refine wI hF (fun h21 hF=>?_) (fun h21 hF=>?_)
 ·refine wW ?_
  refine wB ?_
  refine wK [2,4,7,8,9,10,20,21] ?_
  refine wC hF [.sh,.sh,.sh] zhy (fun z22 hF=>?_)
  refine wW ?_
  refine wJ hF (fun x25=>[(2,.bl [.int .i64 a0.P,.int .i64 a0.Q,.int .i64 a0.G]),(4,.bl [.int .i64 0,.sl true 1 []]),(7,.v (.bool z1.2)),(8,.bl [.int .i64 s16.1,vD s16.2.1]),(9,.v (.bool x25)),(11,.v (.int .i64 z22.1)),(20,.v (.int .i64 a1)),(21,.v (.int .i64 s16.2.2.2))]) (fun x25 hF=>?_) fun _ hj23 hF=>?_
  ·obtain⟨g,hF⟩:=Rg g hF
   refine wK [2,4,7,8,9,20,21] ?_
   exact wT (hg19 _) (zac hF)
  refine wG hF (fun h26 hF=>?_) fun h26 hF=>?_
  ·exact wV h26 (hj23 _) (zac hF)
  exact wV h26 (hj23 _) (zac hF)
 cases ho18 _ (zac hF)
 exact wT (hj2 _) hψ20
def zb3 (a0:Group) (a1:Int) (a2:List Cipher):Option (Bases×Bool):=
 (((zd3 a0).bind fun z4=>
 if(!z4)=true then(
 some true)else(
 (zcM a0 a1).bind fun z6=>
 if(!z6)=true then(
 some true)else(
 (zbw a0 a2).bind fun z8=>
 some (!z8))):Option Bool).bind fun x3=>
 if x3=true then(
 some ((Bases.mk 0 []),false))else(
 (zaG a0 (a2.length:Int)).bind fun z10=>
 some (z10.1,z10.2)))
theorem ze9:∀{a0}{a1}{a2}{r},zb3 a0 a1 a2=some r→PCalls Tryz.prog 50 [(.sh,vE a0),(.sh,.int .i64 a1),(.sh,vH a2)] (Eo (.tup [vI r.1,.bool r.2]) [.junk,.junk,.junk]):=by
 intro a0 a1 a2 r hr
 apply pF 30 [] [] [] [.cell 6 71,.tmp 7] hr zGo Tryz.func50
 intro Φ hΦ hF g
 unfold zb3 at hF
 refine wW ?_
 refine wJ hF (fun x3=>[(2,.v (vH a2)),(3,.bl [.int .i64 a0.P,.int .i64 a0.Q,.int .i64 a0.G]),(6,.bl [.int .i64 0,.sl true 1 []]),(22,.v (.bool x3))]) (fun x3 hF=>?_) fun _ hj1 hF=>?_
 ·refine wI hF (fun h9 hF=>?_) (fun h9 hF=>?_)
  ·exact wl hΦ hF
  try simp[go_sem,g]
  try intros
  refine zaT ?_
  try simp[go_sem,g]
  try intros
  refine wC hF [.sh,.sh] zhl (fun z10 hF=>?_)
  refine wK [6,7] ?_
  exact wm hΦ hF
 refine wC hF [.sh] zkV (fun z4 hF=>?_)
 refine wG hF (fun h5 hF=>?_) fun h5 hF=>?_
 ·exact wV h5 (hj1 _) (zac hF)
 try simp[go_sem,g,h5]
 refine wC hF [.sh,.sh] zfX (fun z6 hF=>?_)
 try simp[go_sem,g,h5]
 refine wG hF (fun h7 hF=>?_) fun h7 hF=>?_
 ·exact wV h7 (hj1 _) (zac hF)
 try simp[go_sem,g,h7]
 refine wC hF [.sh,.sh] zdu (fun z8 hF=>?_)
 exact wV h7 (hj1 _) (zac hF)
def zdZ (a0:Int) (a1c0:List Int):Option Bool:=
 (zbZ a0 0 (i64.wrap ((a1c0.length:Int)-1))).bind fun z1=>
 some z1
theorem zjk:∀{a0}{a1c0}{r},zdZ a0 a1c0=some r→PCalls Tryz.prog 146 [(.sh,.int .i64 a0),(.sh,.fp [vC a1c0])] (Eo (.bool r) [.junk,.junk]):=by
 intro a0 a1c0 r hr
 apply pF 9 [] [] [] [.tmp 3] hr zEa Tryz.func146
 intro Φ hΦ hF g
 unfold zdZ at hF
 try simp[go_sem,g]
 try intros
 refine zaT ?_
 try simp[go_sem,g]
 try intros
 refine wC hF [.sh,.sh,.sh] zdj (fun z1 hF=>?_)
 exact wl hΦ hF
def zbt (a0:Int) (a1c0u0c0:List Int):Option Bool:=
 (zdZ a0 a1c0u0c0).bind fun z1=>
 some (!z1)
theorem zgk:∀{a0}{a1c0u0c0}{r},zbt a0 a1c0u0c0=some r→PCalls Tryz.prog 149 [(.sh,.int .i64 a0),(.sh,.fp [.func (.func 146) [] [.fp [vC a1c0u0c0]]])] (Eo (.bool r) [.junk,.junk]):=by
 intro a0 a1c0u0c0 r hr
 apply pF 8 [] [] [] [.tmp 3] hr zpd Tryz.func149
 intro Φ hΦ hF g
 unfold zbt at hF
 refine wW ?_
 refine wC hF [.sh] zjk (fun z1 hF=>?_)
 exact wl hΦ hF
def zaV (a0:List Int) (a1u0c0u0c0:List Int):Option Int:=
 ((zaq (σ:=Unit) (fun i5 s4=>
 (ix a0 i5).bind fun x11=>
 (zbt x11 a1u0c0u0c0).bind fun z12=>
 if z12=true then(
 some (.out (.inr i5)))else(
 some (.go ()))) (fun s4=>.inl ()) (a0.length) 0 ():Option (Unit ⊕ Int)).bind (Sum.elim (fun x3=>
 some (-1)) some))
theorem zdD:∀{a0}{a1u0c0u0c0}{r},zaV a0 a1u0c0u0c0=some r→PCalls Tryz.prog 171 [(.sh,vC a0),(.sh,.func (.func 149) [] [.fp [.func (.func 146) [] [.fp [vC a1u0c0u0c0]]]])] (Eo (.int .i64 r) [.junk,.junk]):=by
 intro a0 a1u0c0u0c0 r hr
 apply pF 19 [] [] [] [.tmp 4] hr zo0 Tryz.func171
 intro Φ hΦ hF g
 unfold zaV at hF
 iterate 2 (try simp[go_sem,g];try intros;refine zaT ?_)
 refine wS hF (fun x3=>[]) (fun x3 hF=>?_) fun _ hj1 hr2 hF=>?_
 ·exact wl hΦ hF
 refine wB ?_
 obtain⟨b14,hb15,hψ8⟩:=hF
 refine pR hb15 (fun i5 s4=>[(0,.v (vC a0)),(1,.v (.func (.func 149) [] [.fp [.func (.func 146) [] [.fp [vC a1u0c0u0c0]]]])),(7,.v (.int .i64 (a0.length:Int))),(8,.v (.int .i64 i5))]) (fun s4 _ hN16=>?_) (fun i5 s4 _ _ hi9 hi10 ho6 hg7 hF=>?_)
 ·exact wn hN16 (hj1 _) hψ8
 refine wW ?_
 refine wu hi9 hi10 ?_
 refine wW ?_
 refine wB ?_
 obtain⟨x11,g,hF⟩:=Rx g hF
 refine wW ?_
 refine wC hF [.sh] zgk (fun z12 hF=>?_)
 refine wK [0,1,5,7,8,16] ?_
 refine wI hF (fun h13 hF=>?_) (fun h13 hF=>?_)
 ·cases ho6 _ (zac hF)
  cases hΦ _ (hr2 _ hψ8)
  refine wW ?_
  try simp[go_sem,g]
 refine wW ?_
 exact wi hi9 hi10 (hg7 _) (zac hF)
def zaR (a0:List Int) (a1u0c0u0c0:List Int):Option Bool:=
 (zaV a0 a1u0c0u0c0).bind fun z1=>
 some (decide (0≤z1))
theorem zdn:∀{a0}{a1u0c0u0c0}{r},zaR a0 a1u0c0u0c0=some r→PCalls Tryz.prog 148 [(.sh,vC a0),(.sh,.func (.func 149) [] [.fp [.func (.func 146) [] [.fp [vC a1u0c0u0c0]]]])] (Eo (.bool r) [.junk,.junk]):=by
 intro a0 a1u0c0u0c0 r hr
 apply pF 9 [] [] [] [.tmp 4] hr zoU Tryz.func148
 intro Φ hΦ hF g
 unfold zaR at hF
 refine wW ?_
 refine wC hF [.sh,.sh] zdD (fun z1 hF=>?_)
 exact wl hΦ hF
def zbA (a0:List Int) (a1u0c0:List Int):Option Bool:=
 (zaR a0 a1u0c0).bind fun z1=>
 some (!z1)
theorem zgw:∀{a0}{a1u0c0}{r},zbA a0 a1u0c0=some r→PCalls Tryz.prog 81 [(.sh,vC a0),(.sh,.func (.func 146) [] [.fp [vC a1u0c0]])] (Eo (.bool r) [.junk,.junk]):=by
 intro a0 a1u0c0 r hr
 apply pF 9 [] [] [1000000] [.tmp 4] hr ztb Tryz.func81
 intro Φ hΦ hF g
 unfold zbA at hF
 refine wW ?_
 refine wC hF [.sh,.sh] zdn (fun z1 hF=>?_)
 exact wl hΦ hF
def zcs (a0:List Int) (a1:Int):Option Int:=
 ((zaq (σ:=Unit) (fun i5 s4=>
 (ix a0 i5).bind fun x11=>
 if(a1==x11)=true then(
 some (.out (.inr i5)))else(
 some (.go ()))) (fun s4=>.inl ()) (a0.length) 0 ():Option (Unit ⊕ Int)).bind (Sum.elim (fun x3=>
 some (-1)) some))
theorem zjS:∀{a0}{a1}{r},zcs a0 a1=some r→PCalls Tryz.prog 190 [(.sh,vC a0),(.sh,.int .i64 a1)] (Eo (.int .i64 r) [.junk,.junk]):=by
 intro a0 a1 r hr
 apply pF 19 [] [] [] [.tmp 4] hr zDC Tryz.func190
 intro Φ hΦ hF g
 unfold zcs at hF
 iterate 2 (try simp[go_sem,g];try intros;refine zaT ?_)
 refine wS hF (fun x3=>[]) (fun x3 hF=>?_) fun _ hj1 hr2 hF=>?_
 ·exact wl hΦ hF
 refine wB ?_
 obtain⟨b13,hb14,hψ8⟩:=hF
 refine pR hb14 (fun i5 s4=>[(0,.v (vC a0)),(1,.v (.int .i64 a1)),(7,.v (.int .i64 (a0.length:Int))),(8,.v (.int .i64 i5))]) (fun s4 _ hN15=>?_) (fun i5 s4 _ _ hi9 hi10 ho6 hg7 hF=>?_)
 ·exact wn hN15 (hj1 _) hψ8
 refine wW ?_
 refine wu hi9 hi10 ?_
 refine wW ?_
 refine wB ?_
 obtain⟨x11,g,hF⟩:=Rx g hF
 refine wW ?_
 refine wK [0,1,5,7,8,16] ?_
 refine wI hF (fun h12 hF=>?_) (fun h12 hF=>?_)
 ·cases ho6 _ (zac hF)
  cases hΦ _ (hr2 _ hψ8)
  refine wW ?_
  try simp[go_sem,g]
 refine wW ?_
 exact wi hi9 hi10 (hg7 _) (zac hF)
def zcA (a0:List Int) (a1:Int):Option Bool:=
 (zcs a0 a1).bind fun z1=>
 some (decide (0≤z1))
theorem zix:∀{a0}{a1}{r},zcA a0 a1=some r→PCalls Tryz.prog 170 [(.sh,vC a0),(.sh,.int .i64 a1)] (Eo (.bool r) [.junk,.junk]):=by
 intro a0 a1 r hr
 apply pF 9 [] [] [] [.tmp 4] hr zDy Tryz.func170
 intro Φ hΦ hF g
 unfold zcA at hF
 refine wW ?_
 refine wC hF [.sh,.sh] zjS (fun z1 hF=>?_)
 exact wl hΦ hF
def zdb (a0:List Int):Option Bool:=
 ((zaq (σ:=Unit) (fun i5 s4=>
 (ix a0 i5).bind fun x11=>
 gd (0≤i5)<|
 gd (0≤i5.toNat∧i5.toNat≤a0.length)<|
 (zcA ((a0.take i5.toNat).drop 0) x11).bind fun z12=>
 if z12=true then(
 some (.out (.inr false)))else(
 some (.go ()))) (fun s4=>.inl ()) (a0.length) 0 ():Option (Unit ⊕ Bool)).bind (Sum.elim (fun x3=>
 some true) some))
theorem zkY:∀{a0}{r},zdb a0=some r→PCalls Tryz.prog 147 [(.sh,vC a0)] (Eo (.bool r) [.junk]):=by
 intro a0 r hr
 apply pF 18 [] [] [] [.tmp 2] hr zEm Tryz.func147
 intro Φ hΦ hF g
 unfold zdb at hF
 iterate 2 (try simp[go_sem,g];try intros;refine zaT ?_)
 refine wS hF (fun x3=>[]) (fun x3 hF=>?_) fun _ hj1 hr2 hF=>?_
 ·exact wl hΦ hF
 refine wB ?_
 obtain⟨b14,hb15,hψ8⟩:=hF
 refine pR hb15 (fun i5 s4=>[(0,.v (vC a0)),(5,.v (vC a0)),(6,.v (.int .i64 (a0.length:Int))),(7,.v (.int .i64 i5))]) (fun s4 _ hN16=>?_) (fun i5 s4 _ _ hi9 hi10 ho6 hg7 hF=>?_)
 ·exact wn hN16 (hj1 _) hψ8
 refine wW ?_
 refine wu hi9 hi10 ?_
 refine wW ?_
 refine wB ?_
 obtain⟨x11,g,hF⟩:=Rx g hF
 refine wK [0,3,4,5,6,7] ?_
 obtain⟨g,hF⟩:=Rg g hF
 obtain⟨g,hF⟩:=Rg g hF
 refine wC hF [.sh,.sh] zix (fun z12 hF=>?_)
 refine wW ?_
 refine wI hF (fun h13 hF=>?_) (fun h13 hF=>?_)
 ·cases ho6 _ (zac hF)
  cases hΦ _ (hr2 _ hψ8)
  refine wW ?_
  try simp[go_sem,g]
 refine wW ?_
 exact wi hi9 hi10 (hg7 _) (zac hF)
def zdK (a0:List Int):Option Bool:=
 ((if decide ((a0.length:Int)≤24)=true then(
 (zbA a0 a0).bind fun z5=>
 if z5=true then(
 (zdb a0).bind fun z7=>
 some z7)else(
 some false))else(
 some false):Option Bool).bind fun x3=>
 some x3)
theorem zkx:∀{a0}{r},zdK a0=some r→PCalls Tryz.prog 80 [(.sh,vC a0)] (Eo (.bool r) [.junk]):=by
 intro a0 r hr
 apply pF 15 [] [] [1000000] [.tmp 2] hr zHb Tryz.func80
 intro Φ hΦ hF g
 unfold zdK at hF
 refine wW ?_
 refine wJ hF (fun x3=>[(2,.v (.bool x3))]) (fun x3 hF=>?_) fun _ hj1 hF=>?_
 ·exact wm hΦ hF
 try simp[go_sem,g]
 try intros
 refine wG hF (fun h4 hF=>?_) fun h4 hF=>?_
 ·try simp[go_sem,g,h4]
  refine wC hF [.sh,.sh] zgw (fun z5 hF=>?_)
  try simp[go_sem,g,h4]
  refine wG hF (fun h6 hF=>?_) fun h6 hF=>?_
  ·try simp[go_sem,g,h6]
   refine wC hF [.sh] zkY (fun z7 hF=>?_)
   exact wV h6 (hj1 _) (zac hF)
  exact wV h6 (hj1 _) (zac hF)
 exact wV h4 (hj1 _) (zac hF)
def zdA (a0:Group) (a1:Int):Option Bool:=
 (zbZ a1 0 (i64.wrap (a0.Q-1))).bind fun z1=>
 some z1
theorem zh7:∀{a0}{a1}{r},zdA a0 a1=some r→PCalls Tryz.prog 65 [(.sh,vE a0),(.sh,.int .i64 a1)] (Eo (.bool r) [.junk,.junk]):=by
 intro a0 a1 r hr
 apply pF 10 [] [] [] [.tmp 4] hr zJa Tryz.func65
 intro Φ hΦ hF g
 unfold zdA at hF
 refine wW ?_
 refine wC hF [.sh,.sh,.sh] zdj (fun z1 hF=>?_)
 exact wl hΦ hF
def zbK (a0:Int) (a1c0x0:Group):Option Bool:=
 (zdA a1c0x0 a0).bind fun z1=>
 some (!z1)
theorem zgN:∀{a0}{a1c0x0}{r},zbK a0 a1c0x0=some r→PCalls Tryz.prog 149 [(.sh,.int .i64 a0),(.sh,.fp [.func (.func 65) [vE a1c0x0] []])] (Eo (.bool r) [.junk,.junk]):=by
 intro a0 a1c0x0 r hr
 apply pF 8 [] [] [] [.tmp 3] hr zpd Tryz.func149
 intro Φ hΦ hF g
 unfold zbK at hF
 refine wW ?_
 refine wC hF [.sh] zh7 (fun z1 hF=>?_)
 exact wl hΦ hF
def zbj (a0:List Int) (a1u0c0x0:Group):Option Int:=
 ((zaq (σ:=Unit) (fun i5 s4=>
 (ix a0 i5).bind fun x11=>
 (zbK x11 a1u0c0x0).bind fun z12=>
 if z12=true then(
 some (.out (.inr i5)))else(
 some (.go ()))) (fun s4=>.inl ()) (a0.length) 0 ():Option (Unit ⊕ Int)).bind (Sum.elim (fun x3=>
 some (-1)) some))
theorem zdX:∀{a0}{a1u0c0x0}{r},zbj a0 a1u0c0x0=some r→PCalls Tryz.prog 171 [(.sh,vC a0),(.sh,.func (.func 149) [] [.fp [.func (.func 65) [vE a1u0c0x0] []]])] (Eo (.int .i64 r) [.junk,.junk]):=by
 intro a0 a1u0c0x0 r hr
 apply pF 19 [] [] [] [.tmp 4] hr zo0 Tryz.func171
 intro Φ hΦ hF g
 unfold zbj at hF
 iterate 2 (try simp[go_sem,g];try intros;refine zaT ?_)
 refine wS hF (fun x3=>[]) (fun x3 hF=>?_) fun _ hj1 hr2 hF=>?_
 ·exact wl hΦ hF
 refine wB ?_
 obtain⟨b14,hb15,hψ8⟩:=hF
 refine pR hb15 (fun i5 s4=>[(0,.v (vC a0)),(1,.v (.func (.func 149) [] [.fp [.func (.func 65) [vE a1u0c0x0] []]])),(7,.v (.int .i64 (a0.length:Int))),(8,.v (.int .i64 i5))]) (fun s4 _ hN16=>?_) (fun i5 s4 _ _ hi9 hi10 ho6 hg7 hF=>?_)
 ·exact wn hN16 (hj1 _) hψ8
 refine wW ?_
 refine wu hi9 hi10 ?_
 refine wW ?_
 refine wB ?_
 obtain⟨x11,g,hF⟩:=Rx g hF
 refine wW ?_
 refine wC hF [.sh] zgN (fun z12 hF=>?_)
 refine wK [0,1,5,7,8,16] ?_
 refine wI hF (fun h13 hF=>?_) (fun h13 hF=>?_)
 ·cases ho6 _ (zac hF)
  cases hΦ _ (hr2 _ hψ8)
  refine wW ?_
  try simp[go_sem,g]
 refine wW ?_
 exact wi hi9 hi10 (hg7 _) (zac hF)
def zbf (a0:List Int) (a1u0c0x0:Group):Option Bool:=
 (zbj a0 a1u0c0x0).bind fun z1=>
 some (decide (0≤z1))
theorem zdE:∀{a0}{a1u0c0x0}{r},zbf a0 a1u0c0x0=some r→PCalls Tryz.prog 148 [(.sh,vC a0),(.sh,.func (.func 149) [] [.fp [.func (.func 65) [vE a1u0c0x0] []]])] (Eo (.bool r) [.junk,.junk]):=by
 intro a0 a1u0c0x0 r hr
 apply pF 9 [] [] [] [.tmp 4] hr zoU Tryz.func148
 intro Φ hΦ hF g
 unfold zbf at hF
 refine wW ?_
 refine wC hF [.sh,.sh] zdX (fun z1 hF=>?_)
 exact wl hΦ hF
def zco (a0:List Int) (a1x0:Group):Option Bool:=
 (zbf a0 a1x0).bind fun z1=>
 some (!z1)
theorem zhg:∀{a0}{a1x0}{r},zco a0 a1x0=some r→PCalls Tryz.prog 81 [(.sh,vC a0),(.sh,.func (.func 65) [vE a1x0] [])] (Eo (.bool r) [.junk,.junk]):=by
 intro a0 a1x0 r hr
 apply pF 9 [] [] [1000000] [.tmp 4] hr ztb Tryz.func81
 intro Φ hΦ hF g
 unfold zco at hF
 refine wW ?_
 refine wC hF [.sh,.sh] zdE (fun z1 hF=>?_)
 exact wl hΦ hF
def zbH (a0:Group) (a1:List Int):Option Bool:=
 (zco a1 a0).bind fun z1=>
 some z1
theorem zdI:∀{a0}{a1}{r},zbH a0 a1=some r→PCalls Tryz.prog 32 [(.sh,vE a0),(.sh,vC a1)] (Eo (.bool r) [.junk,.junk]):=by
 intro a0 a1 r hr
 apply pF 9 [] [] [] [.tmp 4] hr zGi Tryz.func32
 intro Φ hΦ hF g
 unfold zbH at hF
 refine wW ?_
 refine wC hF [.sh,.sh] zhg (fun z1 hF=>?_)
 exact wl hΦ hF
def zce (a0:Group) (a1:List Int) (a2:List Int) (a3:Int):Option Bool:=
 (((zdK a1).bind fun z4=>
 if z4=true then(
 if((a1.length:Int)==a3)=true then(
 if((a2.length:Int)==a3)=true then(
 (zbH a0 a2).bind fun z8=>
 some z8)else(
 some false))else(
 some false))else(
 some false):Option Bool).bind fun x3=>
 some x3)
theorem zfA:∀{a0}{a1}{a2}{a3}{r},zce a0 a1 a2 a3=some r→PCalls Tryz.prog 31 [(.sh,vE a0),(.sh,vC a1),(.sh,vC a2),(.sh,.int .i64 a3)] (Eo (.bool r) [.junk,.junk,.junk,.junk]):=by
 intro a0 a1 a2 a3 r hr
 apply pF 28 [] [] [] [.tmp 8] hr zG2 Tryz.func31
 intro Φ hΦ hF g
 unfold zce at hF
 refine wW ?_
 refine wJ hF (fun x3=>[(8,.v (.bool x3))]) (fun x3 hF=>?_) fun _ hj1 hF=>?_
 ·exact wm hΦ hF
 refine wC hF [.sh] zkx (fun z4 hF=>?_)
 refine wG hF (fun h5 hF=>?_) fun h5 hF=>?_
 ·try simp[go_sem,g,h5]
  try intros
  refine wG hF (fun h6 hF=>?_) fun h6 hF=>?_
  ·try simp[go_sem,g,h6]
   try intros
   refine wG hF (fun h7 hF=>?_) fun h7 hF=>?_
   ·try simp[go_sem,g,h7]
    refine wC hF [.sh,.sh] zdI (fun z8 hF=>?_)
    exact wV h7 (hj1 _) (zac hF)
   exact wV h7 (hj1 _) (zac hF)
  exact wV h6 (hj1 _) (zac hF)
 exact wV h5 (hj1 _) (zac hF)
def ze8 (a0:Int) (a1:Int):Option Int:=
 gd (a1≠0)<|
 gd (a1≠0)<|
 some ((i64.wrap ((a0.tmod a1)+a1)).tmod a1)
theorem zkF:∀{a0}{a1}{r},ze8 a0 a1=some r→PCalls Tryz.prog 128 [(.sh,.int .i64 a0),(.sh,.int .i64 a1)] (Eo (.int .i64 r) [.junk,.junk]):=by
 intro a0 a1 r hr
 apply pF 12 [] [] [] [.tmp 4] hr zCr Tryz.func128
 intro Φ hΦ hF g
 unfold ze8 at hF
 obtain⟨g,hF⟩:=Rz g hF
 obtain⟨g,hF⟩:=Rz g hF
 cases hΦ _ (zac hF)
 iterate 2 refine wW ?_
 try simp[go_sem,g]
@[go_sem] def zB3:List DE:=[d0 0 [1],d0 1 [2],d1 2 [3] 3,d2 3 [9] 3 9,d1 5 [3] 3,d2 6 [12] 3 12,d3 4 [8,10],d3 7 [7,11,13],d0 8 [14]]
def zag (a0:Group) (a1:Int) (a2:Int):Option Int:=
 (ze8 a2 a0.Q).bind fun z1=>
 (zbG a1 z1 a0.P).bind fun z2=>
 some z2
theorem zaj:∀{a0}{a1}{a2}{r},zag a0 a1 a2=some r→PCalls Tryz.prog 88 [(.sh,vE a0),(.sh,.int .i64 a1),(.sh,.int .i64 a2)] (Eo (.int .i64 r) [.junk,.junk,.junk]):=by
 intro a0 a1 a2 r hr
 apply pF 15 [] [] [] [.tmp 6] hr zH7 Tryz.func88
 intro Φ hΦ hF g
 unfold zag at hF
 refine wW ?_
 refine wX zB3 follows ?_
 refine wC hF [.sh,.sh] zkF (fun z1 hF=>?_)
 refine wC hF [.sh,.sh,.sh] zfx (fun z2 hF=>?_)
 refine wK [6] ?_
 exact wm hΦ hF
def zai (a0:Group) (a1:List Int):Option Int:=
 ((zaq (σ:=Int) (fun i5 s4=>
 (ix a1 i5).bind fun x11=>
 gd (a0.P≠0)<|
 some (.go ((i64.wrap (s4*x11)).tmod a0.P))) (fun s4=>s4) (a1.length) 0 1:Option Int).bind fun x3=>
 some x3)
theorem zas:∀{a0}{a1}{r},zai a0 a1=some r→PCalls Tryz.prog 87 [(.sh,vE a0),(.sh,vC a1)] (Eo (.int .i64 r) [.junk,.junk]):=by
 intro a0 a1 r hr
 apply pF 22 [] [] [] [.tmp 4] hr zJe Tryz.func87
 intro Φ hΦ hF g
 unfold zai at hF
 iterate 3 (try simp[go_sem,g];try intros;refine zaT ?_)
 refine wJ hF (fun x3=>[(5,.v (.int .i64 x3))]) (fun x3 hF=>?_) fun _ hj1 hF=>?_
 ·exact wl hΦ hF
 refine wB ?_
 obtain⟨b12,hb13,hψ8⟩:=hF
 refine pR hb13 (fun i5 s4=>[(2,.bl [.int .i64 a0.P,.int .i64 a0.Q,.int .i64 a0.G]),(5,.v (.int .i64 s4)),(8,.v (vC a1)),(9,.v (.int .i64 (a1.length:Int))),(10,.v (.int .i64 i5))]) (fun s4 _ hN14=>?_) (fun i5 s4 _ _ hi9 hi10 ho6 hg7 hF=>?_)
 ·exact wn hN14 (hj1 _) hψ8
 refine wW ?_
 refine wu hi9 hi10 ?_
 refine wW ?_
 refine wB ?_
 obtain⟨x11,g,hF⟩:=Rx g hF
 refine wK [2,5,7,8,9,10] ?_
 obtain⟨g,hF⟩:=Rz g hF
 refine wW ?_
 exact wi hi9 hi10 (hg7 _) (zac hF)
@[go_sem] def zAH:List DE:=[d2 0 [4] 4 4,d1 1 [4] 4,d2 2 [10] 4 10,d0 3 [3],d2 5 [4] 4 4,d0 6 [2],d2 7 [4] 4 4,d0 8 [1],d0 9 [3],d3 4 [9,11,12],d3 10 [16,17,18],d0 11 [15,19],⟨12,[14,20],[],none,true,true,true⟩,d0 13 [13,21],d2 14 [8,22] 8 8]
def zdH (a0:Group) (a1:Int) (a2:Int) (a3:Int):Option Cipher:=
 (zag a0 a0.G a3).bind fun z1=>
 (zag a0 a1 a3).bind fun z2=>
 (zai a0 [a2,z2]).bind fun z3=>
 some (Cipher.mk z1 z3)
theorem zkk:∀{a0}{a1}{a2}{a3}{r},zdH a0 a1 a2 a3=some r→PCalls Tryz.prog 162 [(.sh,vE a0),(.sh,.int .i64 a1),(.sh,.int .i64 a2),(.sh,.int .i64 a3)] (Eo (vF r) [.junk,.junk,.junk,.junk]):=by
 intro a0 a1 a2 a3 r hr
 apply pF 23 [] [] [] [.cell 8 84] hr zBC Tryz.func162
 intro Φ hΦ hF g
 unfold zdH at hF
 refine wW ?_
 refine wX zAH follows ?_
 refine wC hF [.sh,.sh,.sh] zaj (fun z1 hF=>?_)
 refine wC hF [.sh,.sh,.sh] zaj (fun z2 hF=>?_)
 refine wC hF [.sh,.sh] zas (fun z3 hF=>?_)
 refine wK [8] ?_
 exact wm hΦ hF
@[go_sem] def zyY:List DE:=[d2 0 [3] 3 3,d1 1 [4] 4,d2 2 [8] 4 8,d1 3 [5] 5,d2 4 [10] 5 10,d0 5 [9,11],d2 7 [3] 3 3,d1 8 [4] 4,d2 9 [15] 4 15,d1 10 [5] 5,d2 11 [17] 5 17,d0 12 [16,18],⟨6,[7,12],[],none,true,true,true⟩,⟨13,[14,19],[],none,true,true,true⟩,d0 14 [13,20],d2 15 [6,21] 6 6]
def zeV (a0:Group) (a1:Cipher) (a2:Cipher):Option Cipher:=
 (zai a0 [a1.A,a2.A]).bind fun z1=>
 (zai a0 [a1.B,a2.B]).bind fun z2=>
 some (Cipher.mk z1 z2)
theorem zkW:∀{a0}{a1}{a2}{r},zeV a0 a1 a2=some r→PCalls Tryz.prog 161 [(.sh,vE a0),(.sh,vF a1),(.sh,vF a2)] (Eo (vF r) [.junk,.junk,.junk]):=by
 intro a0 a1 a2 r hr
 apply pF 22 [] [] [] [.cell 6 84] hr zCA Tryz.func161
 intro Φ hΦ hF g
 unfold zeV at hF
 refine wW ?_
 refine wX zyY follows ?_
 refine wC hF [.sh,.sh] zas (fun z1 hF=>?_)
 refine wC hF [.sh,.sh] zas (fun z2 hF=>?_)
 refine wK [6] ?_
 exact wm hΦ hF
@[go_sem] def zAG:List DE:=[d2 0 [4] 4 4,d2 1 [6] 6 6,d2 2 [4] 4 4,d0 3 [1],d0 4 [3],d3 5 [11,12,13],d3 6 [9,10,14],d2 7 [8,15] 8 8]
def zcr (a0:Group) (a1:Int) (a2:Cipher) (a3:Int):Option Cipher:=
 (zdH a0 a1 1 a3).bind fun z1=>
 (zeV a0 a2 z1).bind fun z2=>
 some z2
theorem zjF:∀{a0}{a1}{a2}{a3}{r},zcr a0 a1 a2 a3=some r→PCalls Tryz.prog 124 [(.sh,vE a0),(.sh,.int .i64 a1),(.sh,vF a2),(.sh,.int .i64 a3)] (Eo (vF r) [.junk,.junk,.junk,.junk]):=by
 intro a0 a1 a2 a3 r hr
 apply pF 16 [] [] [] [.cell 8 84] hr zCh Tryz.func124
 intro Φ hΦ hF g
 unfold zcr at hF
 refine wW ?_
 refine wX zAG follows ?_
 refine wC hF [.sh,.sh,.sh,.sh] zkk (fun z1 hF=>?_)
 refine wC hF [.sh,.sh,.sh] zkW (fun z2 hF=>?_)
 refine wK [8] ?_
 exact wm hΦ hF
@[go_sem] def zED:List DE:=[d0 0 [11],d2 1 [5] 5 5,d0 2 [1],d0 3 [2],d0 4 [13],d0 5 [25,26],d0 6 [27],d0 7 [4],d0 8 [12],d0 9 [29,30],d0 10 [31],d3 11 [23,24,28,32],d0 12 [33],⟨13,[22,34],[],none,true,false,false⟩,d0 14 [35]]
def zdp (a0:Group) (a1:Int) (a2:List Cipher) (a3:List Int) (a4:List Int):Option ((List Cipher)):=
 ((zaq (σ:=(List Cipher)) (fun i5 s4=>
 (ix a3 i5).bind fun x11=>
 (ix a2 x11).bind fun x12=>
 (ix a4 i5).bind fun x13=>
 (zcr a0 a1 x12 x13).bind fun z14=>
 gd ((s4.length+1)*16≤140737488355328∧s4.length+1≤4611686018427387904)<|
 some (.go (s4++[z14]))) (fun s4=>s4) (a3.length) 0 []:Option ((List Cipher))).bind fun x3=>
 some x3)
theorem zg0:∀{a0}{a1}{a2}{a3}{a4}{r},zdp a0 a1 a2 a3 a4=some r→PCalls Tryz.prog 51 [(.sh,vE a0),(.sh,.int .i64 a1),(.sh,vH a2),(.sh,vC a3),(.sh,vC a4)] (Eo (vG r) [.junk,.junk,.junk,.junk,.junk]):=by
 intro a0 a1 a2 a3 a4 r hr
 apply pF 38 [] [] [] [.tmp 10] hr zIq Tryz.func51
 intro Φ hΦ hF g
 unfold zdp at hF
 iterate 3 (try simp[go_sem,g];try intros;refine zaT ?_)
 refine wJ hF (fun x3=>[(11,.v (vG x3))]) (fun x3 hF=>?_) fun _ hj1 hF=>?_
 ·exact wl hΦ hF
 refine wB ?_
 obtain⟨b15,hb16,hψ8⟩:=hF
 refine pR hb16 (fun i5 s4=>[(1,.v (.int .i64 a1)),(2,.v (vH a2)),(4,.v (vC a4)),(5,.bl [.int .i64 a0.P,.int .i64 a0.Q,.int .i64 a0.G]),(11,.v (vG s4)),(15,.v (vC a3)),(16,.v (.int .i64 (a3.length:Int))),(17,.v (.int .i64 i5))]) (fun s4 _ hN17=>?_) (fun i5 s4 _ _ hi9 hi10 ho6 hg7 hF=>?_)
 ·exact wn hN17 (hj1 _) hψ8
 refine wW ?_
 refine wu hi9 hi10 ?_
 refine wW ?_
 refine wB ?_
 obtain⟨x11,g,hF⟩:=Rx g hF
 refine wK [1,2,4,5,11,12,13,15,16,17] ?_
 refine wX zED follows ?_
 obtain⟨x12,g,hF⟩:=Rx g hF
 obtain⟨x13,g,hF⟩:=Rx g hF
 refine wC hF [.sh,.sh,.sh,.sh] zjF (fun z14 hF=>?_)
 obtain⟨g,hF⟩:=Rg g hF
 refine wK [1,2,4,5,11,15,16,17] ?_
 exact wi hi9 hi10 (hg7 _) (zac hF)
def zct (a0:Group) (a1:Int) (a2:List Cipher) (a3:List Int) (a4:List Int):Option (List Cipher×Bool):=
 (zb3 a0 a1 a2).bind fun z1=>
 ((if(!z1.2)=true then(
 some true)else(
 (zce a0 a3 a4 (a2.length:Int)).bind fun z6=>
 some (!z6)):Option Bool).bind fun x4=>
 if x4=true then(
 some ([],false))else(
 (zdp a0 a1 a2 a3 a4).bind fun z8=>
 some (z8,true)))
theorem zil:∀{a0}{a1}{a2}{a3}{a4}{r},zct a0 a1 a2 a3 a4=some r→PCalls Tryz.prog 14 [(.sh,vE a0),(.sh,.int .i64 a1),(.sh,vH a2),(.sh,vC a3),(.sh,vC a4)] (Eo (.tup [vG r.1,.bool r.2]) [.junk,.junk,.junk,.junk,.junk]):=by
 intro a0 a1 a2 a3 a4 r hr
 apply pF 38 [] [] [] [.tmp 10,.tmp 11] hr zJj Tryz.func14
 intro Φ hΦ hF g
 unfold zct at hF
 refine wW ?_
 refine wC hF [.sh,.sh,.sh] ze9 (fun z1 hF=>?_)
 refine wK [1,2,3,4,5,13] ?_
 refine wJ hF (fun x4=>[(1,.v (.int .i64 a1)),(2,.v (vH a2)),(3,.v (vC a3)),(4,.v (vC a4)),(5,.bl [.int .i64 a0.P,.int .i64 a0.Q,.int .i64 a0.G]),(31,.v (.bool x4))]) (fun x4 hF=>?_) fun _ hj2 hF=>?_
 ·refine wI hF (fun h7 hF=>?_) (fun h7 hF=>?_)
  ·exact wl hΦ hF
  refine wW ?_
  refine wC hF [.sh,.sh,.sh,.sh,.sh] zg0 (fun z8 hF=>?_)
  exact wl hΦ hF
 refine wG hF (fun h5 hF=>?_) fun h5 hF=>?_
 ·exact wV h5 (hj2 _) (zac hF)
 try simp[go_sem,g,h5]
 try intros
 refine wC hF [.sh,.sh,.sh,.sh] zfA (fun z6 hF=>?_)
 exact wV h5 (hj2 _) (zac hF)
def zcQ (a0:Group):Option Bool:=
 (((zch a0.P 3 2000000000).bind fun z4=>
 if z4=true then(
 (zch a0.Q 2 (i64.wrap (a0.P-1))).bind fun z6=>
 if z6=true then(
 gd (a0.Q≠0)<|
 if(((i64.wrap (a0.P-1)).tmod a0.Q)==0)=true then(
 (zch a0.G 2 (i64.wrap (a0.P-1))).bind fun z9=>
 if z9=true then(
 (zbi a0.G a0.Q a0.P).bind fun z11=>
 if(z11==1)=true then(
 (zdT a0.Q).bind fun z13=>
 if z13=true then(
 (zdT a0.P).bind fun z15=>
 some z15)else(
 some false))else(
 some false))else(
 some false))else(
 some false))else(
 some false))else(
 some false):Option Bool).bind fun x3=>
 some x3)
theorem zig:∀{a0}{r},zcQ a0=some r→PCalls Tryz.prog 63 [(.sh,vE a0)] (Eo (.bool r) [.junk]):=by
 intro a0 r hr
 apply pF 51 [] [] [] [.tmp 2] hr zH0 Tryz.func63
 intro Φ hΦ hF g
 unfold zcQ at hF
 refine wW ?_
 refine wJ hF (fun x3=>[(2,.v (.bool x3))]) (fun x3 hF=>?_) fun _ hj1 hF=>?_
 ·exact wm hΦ hF
 refine wC hF [.sh,.sh,.sh] zfq (fun z4 hF=>?_)
 refine wG hF (fun h5 hF=>?_) fun h5 hF=>?_
 ·try simp[go_sem,g,h5]
  refine wC hF [.sh,.sh,.sh] zfq (fun z6 hF=>?_)
  try simp[go_sem,g,h5]
  refine wG hF (fun h7 hF=>?_) fun h7 hF=>?_
  ·obtain⟨g,hF⟩:=Rz g hF
   try simp[go_sem,g,h7]
   refine wG hF (fun h8 hF=>?_) fun h8 hF=>?_
   ·try simp[go_sem,g,h8]
    refine wC hF [.sh,.sh,.sh] zfq (fun z9 hF=>?_)
    try simp[go_sem,g,h8]
    refine wG hF (fun h10 hF=>?_) fun h10 hF=>?_
    ·try simp[go_sem,g,h10]
     refine wC hF [.sh,.sh,.sh] ze1 (fun z11 hF=>?_)
     try simp[go_sem,g,h10]
     refine wG hF (fun h12 hF=>?_) fun h12 hF=>?_
     ·try simp[go_sem,g,h12]
      refine wC hF [.sh] zgS (fun z13 hF=>?_)
      try simp[go_sem,g,h12]
      refine wG hF (fun h14 hF=>?_) fun h14 hF=>?_
      ·try simp[go_sem,g,h14]
       refine wC hF [.sh] zgS (fun z15 hF=>?_)
       exact wV h14 (hj1 _) (zac hF)
      exact wV h14 (hj1 _) (zac hF)
     exact wV h12 (hj1 _) (zac hF)
    exact wV h10 (hj1 _) (zac hF)
   exact wV h8 (hj1 _) (zac hF)
  exact wV h7 (hj1 _) (zac hF)
 exact wV h5 (hj1 _) (zac hF)
def zfS (a0:Group) (a1:List Int):Option Bool:=
 ((zaq (σ:=Unit) (fun i5 s4=>
 (ix a1 i5).bind fun x11=>
 (((zch x11 1 (i64.wrap (a0.P-1))).bind fun z15=>
 if(!z15)=true then(
 some true)else(
 (zbi x11 a0.Q a0.P).bind fun z17=>
 some (z17 !=1)):Option Bool).bind fun x14=>
 if x14=true then(
 some (.out (.inr false)))else(
 some (.go ())))) (fun s4=>.inl ()) (a1.length) 0 ():Option (Unit ⊕ Bool)).bind (Sum.elim (fun x3=>
 some true) some))
theorem znJ:∀{a0}{a1}{r},zfS a0 a1=some r→PCalls Tryz.prog 151 [(.sh,vE a0),(.sh,vC a1)] (Eo (.bool r) [.junk,.junk]):=by
 intro a0 a1 r hr
 apply pF 29 [] [] [] [.tmp 4] hr zCu Tryz.func151
 intro Φ hΦ hF g
 unfold zfS at hF
 iterate 2 (try simp[go_sem,g];try intros;refine zaT ?_)
 refine wS hF (fun x3=>[]) (fun x3 hF=>?_) fun _ hj1 hr2 hF=>?_
 ·exact wl hΦ hF
 refine wB ?_
 obtain⟨b19,hb20,hψ8⟩:=hF
 refine pR hb20 (fun i5 s4=>[(2,.bl [.int .i64 a0.P,.int .i64 a0.Q,.int .i64 a0.G]),(7,.v (vC a1)),(8,.v (.int .i64 (a1.length:Int))),(9,.v (.int .i64 i5))]) (fun s4 _ hN21=>?_) (fun i5 s4 _ _ hi9 hi10 ho6 hg7 hF=>?_)
 ·exact wn hN21 (hj1 _) hψ8
 refine wW ?_
 refine wu hi9 hi10 ?_
 refine wW ?_
 refine wB ?_
 obtain⟨x11,g,hF⟩:=Rx g hF
 refine wW ?_
 refine wJ hF (fun x14=>[(2,.bl [.int .i64 a0.P,.int .i64 a0.Q,.int .i64 a0.G]),(7,.v (vC a1)),(8,.v (.int .i64 (a1.length:Int))),(9,.v (.int .i64 i5)),(27,.v (.bool x14))]) (fun x14 hF=>?_) fun _ hj12 hF=>?_
 ·refine wI hF (fun h18 hF=>?_) (fun h18 hF=>?_)
  ·refine wK [4] ?_
   cases ho6 _ (zac hF)
   cases hΦ _ (hr2 _ hψ8)
   try simp[go_sem,g]
  refine wW ?_
  exact wi hi9 hi10 (hg7 _) (zac hF)
 refine wC hF [.sh,.sh,.sh] zfq (fun z15 hF=>?_)
 refine wG hF (fun h16 hF=>?_) fun h16 hF=>?_
 ·exact wV h16 (hj12 _) (zac hF)
 try simp[go_sem,g,h16]
 refine wC hF [.sh,.sh,.sh] ze1 (fun z17 hF=>?_)
 exact wV h16 (hj12 _) (zac hF)
def zf7 (a0:Group) (a1:Int):Option Bool:=
 (((zcQ a0).bind fun z4=>
 if z4=true then(
 (zfS a0 [a1]).bind fun z6=>
 some z6)else(
 some false):Option Bool).bind fun x3=>
 some x3)
theorem zrj:∀{a0}{a1}{r},zf7 a0 a1=some r→PCalls Tryz.prog 93 [(.sh,vE a0),(.sh,.int .i64 a1)] (Eo (.bool r) [.junk,.junk]):=by
 intro a0 a1 r hr
 apply pF 13 [] [] [] [.tmp 4] hr zIs Tryz.func93
 intro Φ hΦ hF g
 unfold zf7 at hF
 refine wW ?_
 refine wJ hF (fun x3=>[(4,.v (.bool x3))]) (fun x3 hF=>?_) fun _ hj1 hF=>?_
 ·exact wm hΦ hF
 refine wC hF [.sh] zig (fun z4 hF=>?_)
 refine wG hF (fun h5 hF=>?_) fun h5 hF=>?_
 ·try simp[go_sem,g,h5]
  refine wC hF [.sh,.sh] znJ (fun z6 hF=>?_)
  exact wV h5 (hj1 _) (zac hF)
 exact wV h5 (hj1 _) (zac hF)
def zgq (a0:Group) (a1:List Cipher):Option Bool:=
 if decide (24<(a1.length:Int))=true then(
 some false)else(
 ((zaq (σ:=Unit) (fun i6 s5=>
 (ix a1 i6).bind fun x12=>
 (zfS a0 [x12.A,x12.B]).bind fun z13=>
 if(!z13)=true then(
 some (.out (.inr false)))else(
 some (.go ()))) (fun s5=>.inl ()) (a1.length) 0 ():Option (Unit ⊕ Bool)).bind (Sum.elim (fun x4=>
 some true) some)))
theorem zpl:∀{a0}{a1}{r},zgq a0 a1=some r→PCalls Tryz.prog 95 [(.sh,vE a0),(.sh,vH a1)] (Eo (.bool r) [.junk,.junk]):=by
 intro a0 a1 r hr
 apply pF 25 [] [] [] [.tmp 4] hr zJw Tryz.func95
 intro Φ hΦ hF g
 unfold zgq at hF
 iterate 2 (try simp[go_sem,g];try intros;refine zaT ?_)
 refine wI hF (fun h1 hF=>?_) (fun h1 hF=>?_)
 ·exact wl hΦ hF
 iterate 2 (try simp[go_sem,g];try intros;refine zaT ?_)
 refine wS hF (fun x4=>[]) (fun x4 hF=>?_) fun _ hj2 hr3 hF=>?_
 ·exact wl hΦ hF
 refine wB ?_
 obtain⟨b15,hb16,hψ9⟩:=hF
 refine pR hb16 (fun i6 s5=>[(2,.bl [.int .i64 a0.P,.int .i64 a0.Q,.int .i64 a0.G]),(10,.v (vH a1)),(11,.v (.int .i64 (a1.length:Int))),(12,.v (.int .i64 i6))]) (fun s5 _ hN17=>?_) (fun i6 s5 _ _ hi10 hi11 ho7 hg8 hF=>?_)
 ·exact wn hN17 (hj2 _) hψ9
 refine wW ?_
 refine wu hi10 hi11 ?_
 refine wW ?_
 refine wB ?_
 obtain⟨x12,g,hF⟩:=Rx g hF
 refine wK [2,6,10,11,12] ?_
 refine wC hF [.sh,.sh] znJ (fun z13 hF=>?_)
 refine wW ?_
 refine wI hF (fun h14 hF=>?_) (fun h14 hF=>?_)
 ·cases ho7 _ (zac hF)
  cases hΦ _ (hr3 _ hψ9)
  refine wW ?_
  try simp[go_sem,g]
 refine wW ?_
 exact wi hi10 hi11 (hg8 _) (zac hF)
def zcO (a0:Group) (a1:Int) (a2:List Cipher):Option Bool:=
 (((zf7 a0 a1).bind fun z4=>
 if z4=true then(
 (zch (a2.length:Int) 1 12).bind fun z6=>
 if z6=true then(
 (zgq a0 a2).bind fun z8=>
 some z8)else(
 some false))else(
 some false):Option Bool).bind fun x3=>
 some x3)
theorem zi4:∀{a0}{a1}{a2}{r},zcO a0 a1 a2=some r→PCalls Tryz.prog 34 [(.sh,vE a0),(.sh,.int .i64 a1),(.sh,vH a2)] (Eo (.bool r) [.junk,.junk,.junk]):=by
 intro a0 a1 a2 r hr
 apply pF 20 [] [] [] [.tmp 6] hr zGb Tryz.func34
 intro Φ hΦ hF g
 unfold zcO at hF
 refine wW ?_
 refine wJ hF (fun x3=>[(6,.v (.bool x3))]) (fun x3 hF=>?_) fun _ hj1 hF=>?_
 ·exact wm hΦ hF
 refine wC hF [.sh,.sh] zrj (fun z4 hF=>?_)
 refine wG hF (fun h5 hF=>?_) fun h5 hF=>?_
 ·try simp[go_sem,g,h5]
  try intros
  refine wC hF [.sh,.sh,.sh] zfq (fun z6 hF=>?_)
  try simp[go_sem,g,h5]
  refine wG hF (fun h7 hF=>?_) fun h7 hF=>?_
  ·try simp[go_sem,g,h7]
   refine wC hF [.sh,.sh] zpl (fun z8 hF=>?_)
   exact wV h7 (hj1 _) (zac hF)
  exact wV h7 (hj1 _) (zac hF)
 exact wV h5 (hj1 _) (zac hF)
def zfI (a0:List Int) (a1:Int) (a2:Int):Option Bool:=
 ((zaq (σ:=Unit) (fun i5 s4=>
 (ix a0 i5).bind fun x11=>
 (zch x11 a1 a2).bind fun z12=>
 if(!z12)=true then(
 some (.out (.inr false)))else(
 some (.go ()))) (fun s4=>.inl ()) (a0.length) 0 ():Option (Unit ⊕ Bool)).bind (Sum.elim (fun x3=>
 some true) some))
theorem zls:∀{a0}{a1}{a2}{r},zfI a0 a1 a2=some r→PCalls Tryz.prog 96 [(.sh,vC a0),(.sh,.int .i64 a1),(.sh,.int .i64 a2)] (Eo (.bool r) [.junk,.junk,.junk]):=by
 intro a0 a1 a2 r hr
 apply pF 21 [] [] [] [.tmp 6] hr zGc Tryz.func96
 intro Φ hΦ hF g
 unfold zfI at hF
 iterate 2 (try simp[go_sem,g];try intros;refine zaT ?_)
 refine wS hF (fun x3=>[]) (fun x3 hF=>?_) fun _ hj1 hr2 hF=>?_
 ·exact wl hΦ hF
 refine wB ?_
 obtain⟨b14,hb15,hψ8⟩:=hF
 refine pR hb15 (fun i5 s4=>[(1,.v (.int .i64 a1)),(2,.v (.int .i64 a2)),(9,.v (vC a0)),(10,.v (.int .i64 (a0.length:Int))),(11,.v (.int .i64 i5))]) (fun s4 _ hN16=>?_) (fun i5 s4 _ _ hi9 hi10 ho6 hg7 hF=>?_)
 ·exact wn hN16 (hj1 _) hψ8
 refine wW ?_
 refine wu hi9 hi10 ?_
 refine wW ?_
 refine wB ?_
 obtain⟨x11,g,hF⟩:=Rx g hF
 refine wW ?_
 refine wC hF [.sh,.sh,.sh] zfq (fun z12 hF=>?_)
 refine wK [1,2,9,10,11,19] ?_
 refine wI hF (fun h13 hF=>?_) (fun h13 hF=>?_)
 ·cases ho6 _ (zac hF)
  cases hΦ _ (hr2 _ hψ8)
  refine wW ?_
  try simp[go_sem,g]
 refine wW ?_
 exact wi hi9 hi10 (hg7 _) (zac hF)
def zgr (a0:List Int) (a1:Int):Option Bool:=
 ((zaq (σ:=Unit) (fun i5 s4=>
 (ix a0 i5).bind fun x11=>
 if(x11==a1)=true then(
 some (.out (.inr true)))else(
 some (.go ()))) (fun s4=>.inl ()) (a0.length) 0 ():Option (Unit ⊕ Bool)).bind (Sum.elim (fun x3=>
 some false) some))
theorem zpZ:∀{a0}{a1}{r},zgr a0 a1=some r→PCalls Tryz.prog 152 [(.sh,vC a0),(.sh,.int .i64 a1)] (Eo (.bool r) [.junk,.junk]):=by
 intro a0 a1 r hr
 apply pF 17 [] [] [] [.tmp 4] hr zBs Tryz.func152
 intro Φ hΦ hF g
 unfold zgr at hF
 iterate 2 (try simp[go_sem,g];try intros;refine zaT ?_)
 refine wS hF (fun x3=>[]) (fun x3 hF=>?_) fun _ hj1 hr2 hF=>?_
 ·exact wl hΦ hF
 refine wB ?_
 obtain⟨b13,hb14,hψ8⟩:=hF
 refine pR hb14 (fun i5 s4=>[(1,.v (.int .i64 a1)),(7,.v (vC a0)),(8,.v (.int .i64 (a0.length:Int))),(9,.v (.int .i64 i5))]) (fun s4 _ hN15=>?_) (fun i5 s4 _ _ hi9 hi10 ho6 hg7 hF=>?_)
 ·exact wn hN15 (hj1 _) hψ8
 refine wW ?_
 refine wu hi9 hi10 ?_
 refine wW ?_
 refine wB ?_
 obtain⟨x11,g,hF⟩:=Rx g hF
 refine wW ?_
 refine wK [1,7,8,9,15] ?_
 refine wI hF (fun h12 hF=>?_) (fun h12 hF=>?_)
 ·cases ho6 _ (zac hF)
  cases hΦ _ (hr2 _ hψ8)
  refine wW ?_
  try simp[go_sem,g]
 refine wW ?_
 exact wi hi9 hi10 (hg7 _) (zac hF)
def zds (a0:List Int):Option Bool:=
 ((zaq (σ:=Unit) (fun i5 s4=>
 (ix a0 i5).bind fun x11=>
 gd (0≤i5)<|
 gd (0≤i5.toNat∧i5.toNat≤a0.length)<|
 (zgr ((a0.take i5.toNat).drop 0) x11).bind fun z12=>
 if z12=true then(
 some (.out (.inr false)))else(
 some (.go ()))) (fun s4=>.inl ()) (a0.length) 0 ():Option (Unit ⊕ Bool)).bind (Sum.elim (fun x3=>
 some true) some))
theorem zoi:∀{a0}{r},zds a0=some r→PCalls Tryz.prog 97 [(.sh,vC a0)] (Eo (.bool r) [.junk]):=by
 intro a0 r hr
 apply pF 18 [] [] [] [.tmp 2] hr zGk Tryz.func97
 intro Φ hΦ hF g
 unfold zds at hF
 iterate 2 (try simp[go_sem,g];try intros;refine zaT ?_)
 refine wS hF (fun x3=>[]) (fun x3 hF=>?_) fun _ hj1 hr2 hF=>?_
 ·exact wl hΦ hF
 refine wB ?_
 obtain⟨b14,hb15,hψ8⟩:=hF
 refine pR hb15 (fun i5 s4=>[(0,.v (vC a0)),(5,.v (vC a0)),(6,.v (.int .i64 (a0.length:Int))),(7,.v (.int .i64 i5))]) (fun s4 _ hN16=>?_) (fun i5 s4 _ _ hi9 hi10 ho6 hg7 hF=>?_)
 ·exact wn hN16 (hj1 _) hψ8
 refine wW ?_
 refine wu hi9 hi10 ?_
 refine wW ?_
 refine wB ?_
 obtain⟨x11,g,hF⟩:=Rx g hF
 refine wK [0,3,4,5,6,7] ?_
 obtain⟨g,hF⟩:=Rg g hF
 obtain⟨g,hF⟩:=Rg g hF
 refine wC hF [.sh,.sh] zpZ (fun z12 hF=>?_)
 refine wW ?_
 refine wI hF (fun h13 hF=>?_) (fun h13 hF=>?_)
 ·cases ho6 _ (zac hF)
  cases hΦ _ (hr2 _ hψ8)
  refine wW ?_
  try simp[go_sem,g]
 refine wW ?_
 exact wi hi9 hi10 (hg7 _) (zac hF)
def zeT (a0:List Int) (a1:Int):Option Bool:=
 ((if((a0.length:Int)==a1)=true then(
 (zfI a0 0 (i64.wrap (a1-1))).bind fun z5=>
 if z5=true then(
 (zds a0).bind fun z7=>
 some z7)else(
 some false))else(
 some false):Option Bool).bind fun x3=>
 some x3)
theorem zqu:∀{a0}{a1}{r},zeT a0 a1=some r→PCalls Tryz.prog 35 [(.sh,vC a0),(.sh,.int .i64 a1)] (Eo (.bool r) [.junk,.junk]):=by
 intro a0 a1 r hr
 apply pF 19 [] [] [] [.tmp 4] hr zJs Tryz.func35
 intro Φ hΦ hF g
 unfold zeT at hF
 refine wW ?_
 refine wJ hF (fun x3=>[(4,.v (.bool x3))]) (fun x3 hF=>?_) fun _ hj1 hF=>?_
 ·exact wm hΦ hF
 try simp[go_sem,g]
 try intros
 refine wG hF (fun h4 hF=>?_) fun h4 hF=>?_
 ·try simp[go_sem,g,h4]
  refine wC hF [.sh,.sh,.sh] zls (fun z5 hF=>?_)
  try simp[go_sem,g,h4]
  refine wG hF (fun h6 hF=>?_) fun h6 hF=>?_
  ·try simp[go_sem,g,h6]
   refine wC hF [.sh] zoi (fun z7 hF=>?_)
   exact wV h6 (hj1 _) (zac hF)
  exact wV h6 (hj1 _) (zac hF)
 exact wV h4 (hj1 _) (zac hF)
def zeU (a0:Group) (a1:List Int):Option Bool:=
 (zfI a1 0 (i64.wrap (a0.Q-1))).bind fun z1=>
 some z1
theorem ziT:∀{a0}{a1}{r},zeU a0 a1=some r→PCalls Tryz.prog 36 [(.sh,vE a0),(.sh,vC a1)] (Eo (.bool r) [.junk,.junk]):=by
 intro a0 a1 r hr
 apply pF 10 [] [] [] [.tmp 4] hr zI7 Tryz.func36
 intro Φ hΦ hF g
 unfold zeU at hF
 refine wW ?_
 refine wC hF [.sh,.sh,.sh] zls (fun z1 hF=>?_)
 exact wl hΦ hF
def zcR (a0:Group) (a1:List Int):Option Int:=
 ((zaq (σ:=Int) (fun i5 s4=>
 (ix a1 i5).bind fun x11=>
 gd (a0.P≠0)<|
 some (.go ((i64.wrap (s4*x11)).tmod a0.P))) (fun s4=>s4) (a1.length) 0 1:Option Int).bind fun x3=>
 some x3)
theorem zhT:∀{a0}{a1}{r},zcR a0 a1=some r→PCalls Tryz.prog 107 [(.sh,vE a0),(.sh,vC a1)] (Eo (.int .i64 r) [.junk,.junk]):=by
 intro a0 a1 r hr
 apply pF 22 [] [] [] [.tmp 4] hr zDx Tryz.func107
 intro Φ hΦ hF g
 unfold zcR at hF
 iterate 3 (try simp[go_sem,g];try intros;refine zaT ?_)
 refine wJ hF (fun x3=>[(5,.v (.int .i64 x3))]) (fun x3 hF=>?_) fun _ hj1 hF=>?_
 ·exact wl hΦ hF
 refine wB ?_
 obtain⟨b12,hb13,hψ8⟩:=hF
 refine pR hb13 (fun i5 s4=>[(2,.bl [.int .i64 a0.P,.int .i64 a0.Q,.int .i64 a0.G]),(5,.v (.int .i64 s4)),(8,.v (vC a1)),(9,.v (.int .i64 (a1.length:Int))),(10,.v (.int .i64 i5))]) (fun s4 _ hN14=>?_) (fun i5 s4 _ _ hi9 hi10 ho6 hg7 hF=>?_)
 ·exact wn hN14 (hj1 _) hψ8
 refine wW ?_
 refine wu hi9 hi10 ?_
 refine wW ?_
 refine wB ?_
 obtain⟨x11,g,hF⟩:=Rx g hF
 refine wK [2,5,7,8,9,10] ?_
 obtain⟨g,hF⟩:=Rz g hF
 refine wW ?_
 exact wi hi9 hi10 (hg7 _) (zac hF)
@[go_sem] def zy5:List DE:=[d2 0 [4] 4 4,d1 1 [4] 4,d2 2 [10] 4 10,d0 3 [3],d2 5 [4] 4 4,d0 6 [2],d2 7 [4] 4 4,d0 8 [1],d0 9 [3],d3 4 [9,11,12],d3 10 [16,17,18],d0 11 [15,19],⟨12,[14,20],[],none,true,true,true⟩,d0 13 [13,21],d2 14 [8,22] 8 8]
def zf9 (a0:Group) (a1:Int) (a2:Int) (a3:Int):Option Cipher:=
 (zbJ a0 a0.G a3).bind fun z1=>
 (zbJ a0 a1 a3).bind fun z2=>
 (zcR a0 [a2,z2]).bind fun z3=>
 some (Cipher.mk z1 z3)
theorem zru:∀{a0}{a1}{a2}{a3}{r},zf9 a0 a1 a2 a3=some r→PCalls Tryz.prog 166 [(.sh,vE a0),(.sh,.int .i64 a1),(.sh,.int .i64 a2),(.sh,.int .i64 a3)] (Eo (vF r) [.junk,.junk,.junk,.junk]):=by
 intro a0 a1 a2 a3 r hr
 apply pF 23 [] [] [] [.cell 8 84] hr zCV Tryz.func166
 intro Φ hΦ hF g
 unfold zf9 at hF
 refine wW ?_
 refine wX zy5 follows ?_
 refine wC hF [.sh,.sh,.sh] zga (fun z1 hF=>?_)
 refine wC hF [.sh,.sh,.sh] zga (fun z2 hF=>?_)
 refine wC hF [.sh,.sh] zhT (fun z3 hF=>?_)
 refine wK [8] ?_
 exact wm hΦ hF
@[go_sem] def zAD:List DE:=[d2 0 [2] 2 2,d1 1 [5] 5,d2 2 [16] 5 16,d1 3 [7] 7,d2 4 [18] 7 18,d0 5 [17,19],d2 7 [2] 2 2,d1 8 [5] 5,d2 9 [23] 5 23,d1 10 [7] 7,d2 11 [25] 7 25,d0 12 [24,26],⟨6,[15,20],[],none,true,true,true⟩,⟨13,[22,27],[],none,true,true,true⟩,d0 14 [21,28],d2 15 [5,29] 5 5]
def zgG (a0:Group) (a1:List Cipher):Option Cipher:=
 ((zaq (σ:=Int×Int) (fun i15 s14=>
 (ix a1 i15).bind fun x21=>
 (zcR a0 [s14.1,x21.A]).bind fun z22=>
 (zcR a0 [s14.2,x21.B]).bind fun z23=>
 some (.go (z22,z23))) (fun s14=>(s14.1,s14.2)) (a1.length) 0 (1,1):Option ((Int×Int))).bind fun x3=>
 some (Cipher.mk x3.1 x3.2))
theorem zqO:∀{a0}{a1}{r},zgG a0 a1=some r→PCalls Tryz.prog 165 [(.sh,vE a0),(.sh,vH a1)] (Eo (vF r) [.junk,.junk]):=by
 intro a0 a1 r hr
 apply pF 32 [] [] [] [.cell 4 84] hr zCn Tryz.func165
 intro Φ hΦ hF g
 unfold zgG at hF
 iterate 3 (try simp[go_sem,g];try intros;refine zaT ?_)
 refine wJ hF (fun x3=>[(4,.bl [.int .i64 0,.int .i64 0]),(5,.bl [.int .i64 x3.1,.int .i64 x3.2])]) (fun x3 hF=>?_) fun _ hj1 hF=>?_
 ·refine wK [4] ?_
  exact wm hΦ hF
 refine wB ?_
 obtain⟨b24,hb25,hψ18⟩:=hF
 refine pR hb25 (fun i15 s14=>[(2,.bl [.int .i64 a0.P,.int .i64 a0.Q,.int .i64 a0.G]),(4,.bl [.int .i64 0,.int .i64 0]),(5,.bl [.int .i64 s14.1,.int .i64 s14.2]),(9,.v (vH a1)),(10,.v (.int .i64 (a1.length:Int))),(11,.v (.int .i64 i15))]) (fun s14 _ hN26=>?_) (fun i15 s14 _ _ hi19 hi20 ho16 hg17 hF=>?_)
 ·exact wn hN26 (hj1 _) hψ18
 refine wW ?_
 refine wu hi19 hi20 ?_
 refine wW ?_
 refine wB ?_
 obtain⟨x21,g,hF⟩:=Rx g hF
 refine wK [2,4,5,7,9,10,11] ?_
 refine wX zAD follows ?_
 refine wC hF [.sh,.sh] zhT (fun z22 hF=>?_)
 refine wC hF [.sh,.sh] zhT (fun z23 hF=>?_)
 refine wK [2,4,5,9,10,11] ?_
 exact wi hi19 hi20 (hg17 _) (zac hF)
@[go_sem] def zzE:List DE:=[d2 0 [4] 4 4,d2 1 [6] 6 6,d2 2 [4] 4 4,d0 3 [1],d0 4 [3],d3 5 [11,12,13],d0 6 [10,14],⟨7,[9,15],[],none,true,true,true⟩,d2 8 [8,16] 8 8]
def zfg (a0:Group) (a1:Int) (a2:Cipher) (a3:Int):Option Cipher:=
 (zf9 a0 a1 1 a3).bind fun z1=>
 (zgG a0 [a2,z1]).bind fun z2=>
 some z2
theorem zsP:∀{a0}{a1}{a2}{a3}{r},zfg a0 a1 a2 a3=some r→PCalls Tryz.prog 129 [(.sh,vE a0),(.sh,.int .i64 a1),(.sh,vF a2),(.sh,.int .i64 a3)] (Eo (vF r) [.junk,.junk,.junk,.junk]):=by
 intro a0 a1 a2 a3 r hr
 apply pF 17 [] [] [] [.cell 8 84] hr zDO Tryz.func129
 intro Φ hΦ hF g
 unfold zfg at hF
 refine wW ?_
 refine wX zzE follows ?_
 refine wC hF [.sh,.sh,.sh,.sh] zru (fun z1 hF=>?_)
 refine wC hF [.sh,.sh] zqO (fun z2 hF=>?_)
 refine wK [8] ?_
 exact wm hΦ hF
@[go_sem] def zBM:List DE:=[d0 0 [11],d2 1 [5] 5 5,d0 2 [1],d0 3 [2],d0 4 [13],d0 5 [24,25],d0 6 [26],d0 7 [4],d0 8 [12],d0 9 [28,29],d0 10 [30],d3 11 [22,23,27,31],d0 12 [32],⟨13,[21,33],[],none,true,false,false⟩,d0 14 [34]]
def zgb (a0:Group) (a1:Int) (a2:List Cipher) (a3:List Int) (a4:List Int):Option ((List Cipher)):=
 ((zaq (σ:=(List Cipher)) (fun i5 s4=>
 (ix a3 i5).bind fun x11=>
 (ix a2 x11).bind fun x12=>
 (ix a4 i5).bind fun x13=>
 (zfg a0 a1 x12 x13).bind fun z14=>
 gd ((s4.length+1)*16≤140737488355328∧s4.length+1≤4611686018427387904)<|
 some (.go (s4++[z14]))) (fun s4=>s4) (a3.length) 0 []:Option ((List Cipher))).bind fun x3=>
 some x3)
theorem zrq:∀{a0}{a1}{a2}{a3}{a4}{r},zgb a0 a1 a2 a3 a4=some r→PCalls Tryz.prog 61 [(.sh,vE a0),(.sh,.int .i64 a1),(.sh,vH a2),(.sh,vC a3),(.sh,vC a4)] (Eo (vG r) [.junk,.junk,.junk,.junk,.junk]):=by
 intro a0 a1 a2 a3 a4 r hr
 apply pF 37 [] [] [] [.tmp 10] hr zHv Tryz.func61
 intro Φ hΦ hF g
 unfold zgb at hF
 iterate 3 (try simp[go_sem,g];try intros;refine zaT ?_)
 refine wJ hF (fun x3=>[(11,.v (vG x3))]) (fun x3 hF=>?_) fun _ hj1 hF=>?_
 ·exact wl hΦ hF
 refine wB ?_
 obtain⟨b15,hb16,hψ8⟩:=hF
 refine pR hb16 (fun i5 s4=>[(1,.v (.int .i64 a1)),(2,.v (vH a2)),(4,.v (vC a4)),(5,.bl [.int .i64 a0.P,.int .i64 a0.Q,.int .i64 a0.G]),(11,.v (vG s4)),(14,.v (vC a3)),(15,.v (.int .i64 (a3.length:Int))),(16,.v (.int .i64 i5))]) (fun s4 _ hN17=>?_) (fun i5 s4 _ _ hi9 hi10 ho6 hg7 hF=>?_)
 ·exact wn hN17 (hj1 _) hψ8
 refine wW ?_
 refine wu hi9 hi10 ?_
 refine wW ?_
 refine wB ?_
 obtain⟨x11,g,hF⟩:=Rx g hF
 refine wK [1,2,4,5,11,12,13,14,15,16] ?_
 refine wX zBM follows ?_
 obtain⟨x12,g,hF⟩:=Rx g hF
 obtain⟨x13,g,hF⟩:=Rx g hF
 refine wC hF [.sh,.sh,.sh,.sh] zsP (fun z14 hF=>?_)
 obtain⟨g,hF⟩:=Rg g hF
 refine wK [1,2,4,5,11,14,15,16] ?_
 exact wi hi9 hi10 (hg7 _) (zac hF)
def zbE (a0:Group) (a1:Int) (a2:List Cipher) (a3:List Int) (a4:List Int):Option (List Cipher×Bool):=
 (((zcO a0 a1 a2).bind fun z4=>
 if(!z4)=true then(
 some true)else(
 (zeT a3 (a2.length:Int)).bind fun z6=>
 if(!z6)=true then(
 some true)else(
 if((a4.length:Int) !=(a2.length:Int))=true then(
 some true)else(
 (zeU a0 a4).bind fun z9=>
 some (!z9)))):Option Bool).bind fun x3=>
 if x3=true then(
 some ([],false))else(
 (zgb a0 a1 a2 a3 a4).bind fun z11=>
 some (z11,true)))
theorem zik:∀{a0}{a1}{a2}{a3}{a4}{r},zbE a0 a1 a2 a3 a4=some r→PCalls Tryz.prog 20 [(.sh,vE a0),(.sh,.int .i64 a1),(.sh,vH a2),(.sh,vC a3),(.sh,vC a4)] (Eo (.tup [vG r.1,.bool r.2]) [.junk,.junk,.junk,.junk,.junk]):=by
 intro a0 a1 a2 a3 a4 r hr
 apply pF 43 [] [] [] [.tmp 10,.tmp 11] hr zHB Tryz.func20
 intro Φ hΦ hF g
 unfold zbE at hF
 refine wW ?_
 refine wJ hF (fun x3=>[(1,.v (.int .i64 a1)),(2,.v (vH a2)),(3,.v (vC a3)),(4,.v (vC a4)),(5,.bl [.int .i64 a0.P,.int .i64 a0.Q,.int .i64 a0.G]),(36,.v (.bool x3))]) (fun x3 hF=>?_) fun _ hj1 hF=>?_
 ·refine wI hF (fun h10 hF=>?_) (fun h10 hF=>?_)
  ·exact wl hΦ hF
  refine wW ?_
  refine wC hF [.sh,.sh,.sh,.sh,.sh] zrq (fun z11 hF=>?_)
  refine wK [10,11] ?_
  exact wm hΦ hF
 refine wC hF [.sh,.sh,.sh] zi4 (fun z4 hF=>?_)
 refine wG hF (fun h5 hF=>?_) fun h5 hF=>?_
 ·exact wV h5 (hj1 _) (zac hF)
 try simp[go_sem,g,h5]
 try intros
 refine wC hF [.sh,.sh] zqu (fun z6 hF=>?_)
 try simp[go_sem,g,h5]
 refine wG hF (fun h7 hF=>?_) fun h7 hF=>?_
 ·exact wV h7 (hj1 _) (zac hF)
 try simp[go_sem,g,h7]
 try intros
 refine wG hF (fun h8 hF=>?_) fun h8 hF=>?_
 ·exact wV h8 (hj1 _) (zac hF)
 try simp[go_sem,g,h8]
 refine wC hF [.sh,.sh] ziT (fun z9 hF=>?_)
 exact wV h8 (hj1 _) (zac hF)
def zcC (a0c0:List Int) (a0c1:Int) (a0c2:Int) (a1:Group):Option (Int×(List Int×Int×Int)):=
 (zby a0c0 a0c1 a0c2 24).bind fun z1=>
 if z1.1=true then(
 (zaF z1.2.1 z1.2.2.1 z1.2.2.2 [a1.Q,(-1),i64.wrap (a1.Q-1)]).bind fun z3=>
 some (z3.1,(z3.2.1,z3.2.2.1,z3.2.2.2)))else(
 (zb6 z1.2.1 z1.2.2.1 z1.2.2.2 a1).bind fun z4=>
 some (z4.1,(z4.2.1,z4.2.2.1,z4.2.2.2)))
theorem zio:∀{a0c0}{a0c1}{a0c2}{a1}{r},zcC a0c0 a0c1 a0c2 a1=some r→PCalls Tryz.prog 62 [(.io,vB a0c0 a0c1 a0c2),(.sh,vE a1)] (Eo (.int .i64 r.1) [vB r.2.1 r.2.2.1 r.2.2.2,.junk]):=by
 intro a0c0 a0c1 a0c2 a1 r hr
 apply pF 18 [0] [] [] [.tmp 4] hr zH3 Tryz.func62
 intro Φ hΦ hF g
 unfold zcC at hF
 refine wW ?_
 refine wC hF [.io,.sh] zdv (fun z1 hF=>?_)
 refine wW ?_
 refine wI hF (fun h2 hF=>?_) (fun h2 hF=>?_)
 ·refine wC hF [.io,.mv] za9 (fun z3 hF=>?_)
  refine wK [0,4] ?_
  exact wm hΦ hF
 refine wW ?_
 refine wC hF [.io,.sh] zfp (fun z4 hF=>?_)
 exact wl hΦ hF
@[go_sem] def zCF:List DE:=[d2 0 [7] 7 7,d2 1 [7] 7 7,d1 2 [7] 7,d2 3 [40] 7 40,d0 4 [12],d0 6 [9],d0 7 [10],d0 8 [11],d3 5 [39,41,42],d3 9 [38,43,44,45,46],d0 10 [47],d0 11 [37],d0 12 [37],d0 13 [48],d0 14 [49]]
@[go_sem] def zBL:List DE:=[d0 0 [13],d0 1 [6],d0 2 [13],d0 3 [57],d0 5 [6],d2 6 [7] 7 7,d3 4 [56,58],d3 7 [60,61],d0 8 [55,59],d0 9 [63,62]]
def zcX (a0:List Int):Option (Group×Int×List Cipher×List Cipher):=
 (zck a0 0 0).bind fun z1=>
 (zcC z1.2.2.2.2.2.1 z1.2.2.2.2.2.2.1 z1.2.2.2.2.2.2.2 z1.1).bind fun z2=>
 (((zcQ z1.1).bind fun z6=>
 if z6=true then(
 (zeU z1.1 [z2.1]).bind fun z8=>
 some z8)else(
 some false):Option Bool).bind fun x5=>
 ((if x5=true then(
 (zbJ z1.1 z1.1.G z2.1).bind fun z13=>
 (zbE z1.1 z13 z1.2.2.1 z1.2.2.2.1 z1.2.2.2.2.1).bind fun z14=>
 some (z14.1,z14.2))else(
 some ([],false)):Option ((List Cipher×Bool))).bind fun x11=>
 ((if x11.2=true then(
 (zby z2.2.1 z2.2.2.1 z2.2.2.2 3).bind fun z19=>
 some ((z19.2.1,z19.2.2.1,z19.2.2.2),z19.1))else(
 some ((z2.2.1,z2.2.2.1,z2.2.2.2),false)):Option (((List Int×Int×Int)×Bool))).bind fun x17=>
 ((if x17.2=true then(
 (zat x17.1.1 x17.1.2.1 x17.1.2.2 (x11.1.length:Int)).bind fun z24=>
 (zbT z24.2.1 z24.2.2.1 z24.2.2.2 z1.1).bind fun z25=>
 (ix x11.1 z24.1).bind fun x26=>
 some ((z25.2.1,z25.2.2.1,z25.2.2.2),x11.1.set z24.1.toNat z25.1))else(
 some ((x17.1.1,x17.1.2.1,x17.1.2.2),x11.1)):Option (((List Int×Int×Int)×List Cipher))).bind fun x22=>
 ((if x11.2=true then(
 (zby x22.1.1 x22.1.2.1 x22.1.2.2 10).bind fun z31=>
 some z31.1)else(
 some false):Option Bool).bind fun x29=>
 ((if x29=true then(
 gd (1≤x22.2.length∧x22.2.length≤x22.2.length)<|
 some ((x22.2.take x22.2.length).drop 1))else(
 some x22.2):Option ((List Cipher))).bind fun x34=>
 some (z1.1,z2.1,z1.2.2.1,x34)))))))
theorem zjn:∀{a0}{r},zcX a0=some r→PCalls Tryz.prog 21 [(.sh,vA a0)] (Eo (.tup [vE r.1,.int .i64 r.2.1,vG r.2.2.1,vH r.2.2.2]) [.junk]):=by
 intro a0 r hr
 apply pF 75 [] [] [17] [.cell 2 24,.tmp 3,.tmp 4,.tmp 5] hr zHw Tryz.func21
 intro Φ hΦ hF g
 unfold zcX at hF
 iterate 2 refine wW ?_
 refine wC hF [.io] zgB (fun z1 hF=>?_)
 refine wK [2,6,7,9,10,11] ?_
 refine wC hF [.io,.sh] zio (fun z2 hF=>?_)
 iterate 2 refine wW ?_
 refine wJ hF (fun x5=>[(2,.bl [.int .i64 0,.int .i64 0,.int .i64 0]),(6,.v (vB z2.2.1 z2.2.2.1 z2.2.2.2)),(7,.bl [.int .i64 z1.1.P,.int .i64 z1.1.Q,.int .i64 z1.1.G]),(9,.v (vG z1.2.2.1)),(10,.v (vD z1.2.2.2.1)),(11,.v (vC z1.2.2.2.2.1)),(12,.v (.int .i64 z2.1)),(13,.v (.sl true 2 [])),(14,.v (.bool false)),(36,.v (.bool x5))]) (fun x5 hF=>?_) fun _ hj3 hF=>?_
 ·refine wJ hF (fun x11=>[(2,.bl [.int .i64 0,.int .i64 0,.int .i64 0]),(6,.v (vB z2.2.1 z2.2.2.1 z2.2.2.2)),(7,.bl [.int .i64 z1.1.P,.int .i64 z1.1.Q,.int .i64 z1.1.G]),(9,.v (vG z1.2.2.1)),(12,.v (.int .i64 z2.1)),(13,.v (vG x11.1)),(14,.v (.bool x11.2))]) (fun x11 hF=>?_) fun _ hj9 hF=>?_
  ·refine wJ hF (fun x17=>[(2,.bl [.int .i64 0,.int .i64 0,.int .i64 0]),(6,.v (vB x17.1.1 x17.1.2.1 x17.1.2.2)),(7,.bl [.int .i64 z1.1.P,.int .i64 z1.1.Q,.int .i64 z1.1.G]),(9,.v (vG z1.2.2.1)),(12,.v (.int .i64 z2.1)),(13,.v (vG x11.1)),(14,.v (.bool x11.2)),(54,.v (.bool x17.2))]) (fun x17 hF=>?_) fun _ hj15 hF=>?_
   ·refine wJ hF (fun x22=>[(2,.bl [.int .i64 0,.int .i64 0,.int .i64 0]),(6,.v (vB x22.1.1 x22.1.2.1 x22.1.2.2)),(7,.bl [.int .i64 z1.1.P,.int .i64 z1.1.Q,.int .i64 z1.1.G]),(9,.v (vG z1.2.2.1)),(12,.v (.int .i64 z2.1)),(13,.v (vG x22.2)),(14,.v (.bool x11.2))]) (fun x22 hF=>?_) fun _ hj20 hF=>?_
    ·refine wJ hF (fun x29=>[(2,.bl [.int .i64 0,.int .i64 0,.int .i64 0]),(7,.bl [.int .i64 z1.1.P,.int .i64 z1.1.Q,.int .i64 z1.1.G]),(9,.v (vG z1.2.2.1)),(12,.v (.int .i64 z2.1)),(13,.v (vG x22.2)),(68,.v (.bool x29))]) (fun x29 hF=>?_) fun _ hj27 hF=>?_
     ·refine wJ hF (fun x34=>[(2,.bl [.int .i64 0,.int .i64 0,.int .i64 0]),(7,.bl [.int .i64 z1.1.P,.int .i64 z1.1.Q,.int .i64 z1.1.G]),(9,.v (vG z1.2.2.1)),(12,.v (.int .i64 z2.1)),(13,.v (vH x34))]) (fun x34 hF=>?_) fun _ hj32 hF=>?_
      ·refine wK [2,3,4,5] ?_
       exact wm hΦ hF
      refine wI hF (fun h35 hF=>?_) (fun h35 hF=>?_)
      ·obtain⟨g,hF⟩:=Rg g hF
       exact wT (hj32 _) (zac hF)
      try simp[go_sem,g]
      refine zzh 13 (by simp[go_sem,g];rfl) (by simp[go_sem]) ?_
      exact wT (hj32 _) (zac hF)
     refine wG hF (fun h30 hF=>?_) fun h30 hF=>?_
     ·try simp[go_sem,g,h30]
      refine wC hF [.io,.sh] zdv (fun z31 hF=>?_)
      exact wV h30 (hj27 _) (zac hF)
     exact wV h30 (hj27 _) (zac hF)
    refine wI hF (fun h23 hF=>?_) (fun h23 hF=>?_)
    ·refine wX zBL follows ?_
     try simp[go_sem,g]
     try intros
     refine wC hF [.io,.sh] zaJ (fun z24 hF=>?_)
     refine wC hF [.io,.sh] zfJ (fun z25 hF=>?_)
     obtain⟨x26,g,hF⟩:=Rx g hF
     exact wT (hj20 _) (zac hF)
    exact wT (hj20 _) (zac hF)
   refine wG hF (fun h18 hF=>?_) fun h18 hF=>?_
   ·try simp[go_sem,g,h18]
    refine wC hF [.io,.sh] zdv (fun z19 hF=>?_)
    try simp[go_sem,g,h18]
    exact wT (hj15 ((z19.2.1,z19.2.2.1,z19.2.2.2),z19.1)) (zac hF) (a:=by first|(simp[go_sem,g];done)|simp[go_sem,g,h18])
   try simp[go_sem,g,h18]
   exact wT (hj15 ((z2.2.1,z2.2.2.1,z2.2.2.2),false)) (zac hF) (a:=by first|(simp[go_sem,g];done)|simp[go_sem,g,h18])
  refine wI hF (fun h12 hF=>?_) (fun h12 hF=>?_)
  ·refine wX zCF follows ?_
   refine wC hF [.sh,.sh,.sh] zga (fun z13 hF=>?_)
   refine wC hF [.sh,.sh,.sh,.sh,.sh] zik (fun z14 hF=>?_)
   exact wT (hj9 _) (zac hF)
  exact wT (hj9 _) (zac hF)
 refine wC hF [.sh] zig (fun z6 hF=>?_)
 refine wG hF (fun h7 hF=>?_) fun h7 hF=>?_
 ·try simp[go_sem,g,h7]
  refine wC hF [.sh,.sh] ziT (fun z8 hF=>?_)
  exact wV h7 (hj3 _) (zac hF)
 exact wV h7 (hj3 _) (zac hF)
def zd5 (a0:Group) (a1:Int):Option Int:=
 (zag a0 a1 (-1)).bind fun z1=>
 some z1
theorem zje:∀{a0}{a1}{r},zd5 a0 a1=some r→PCalls Tryz.prog 159 [(.sh,vE a0),(.sh,.int .i64 a1)] (Eo (.int .i64 r) [.junk,.junk]):=by
 intro a0 a1 r hr
 apply pF 8 [] [] [] [.tmp 4] hr zEE Tryz.func159
 intro Φ hΦ hF g
 unfold zd5 at hF
 refine wW ?_
 refine wC hF [.sh,.sh,.sh] zaj (fun z1 hF=>?_)
 exact wl hΦ hF
@[go_sem] def zz4:List DE:=[d2 0 [3] 3 3,d1 1 [5] 5,d2 2 [8] 5 8,d2 3 [3] 3 3,d2 4 [3] 3 3,d1 5 [5] 5,d2 6 [12] 5 12,d0 7 [1],d3 8 [11,13,14],d3 9 [10,15],d0 10 [9,16],⟨11,[7,17],[],none,true,true,true⟩,d0 12 [18]]
def zcV (a0:Group) (a1:Int) (a2:Cipher):Option Int:=
 (zag a0 a2.A a1).bind fun z1=>
 (zd5 a0 z1).bind fun z2=>
 (zai a0 [a2.B,z2]).bind fun z3=>
 some z3
theorem zkj:∀{a0}{a1}{a2}{r},zcV a0 a1 a2=some r→PCalls Tryz.prog 133 [(.sh,vE a0),(.sh,.int .i64 a1),(.sh,vF a2)] (Eo (.int .i64 r) [.junk,.junk,.junk]):=by
 intro a0 a1 a2 r hr
 apply pF 19 [] [] [] [.tmp 6] hr zCI Tryz.func133
 intro Φ hΦ hF g
 unfold zcV at hF
 refine wW ?_
 refine wX zz4 follows ?_
 refine wC hF [.sh,.sh,.sh] zaj (fun z1 hF=>?_)
 refine wC hF [.sh,.sh] zje (fun z2 hF=>?_)
 refine wC hF [.sh,.sh] zas (fun z3 hF=>?_)
 refine wK [6] ?_
 exact wm hΦ hF
def zdi (a0:List Int):Option (List Int):=
 gd (a0.length*8≤140737488355328)<|
 some (srt a0)
theorem zid:∀{a0}{r},zdi a0=some r→PCalls Tryz.prog 134 [(.io,.sl true 1 (a0.map zax))] (Eo .junk [.sl true 1 (r.map zax)]):=by
 intro a0 r hr
 have hF:Rn _ (fun x=>x=r):=⟨r,hr,rfl⟩
 unfold zdi at hF
 obtain⟨g0,hF⟩:=zhU hF
 have h1:=zac hF
 subst h1
 exact Go.Pm.sort_calls zCz zax (fun _=>rfl) g0
def zcF (a0:Group) (a1:Int) (a2:List Cipher):Option ((List Int)):=
 ((zaq (σ:=(List Int)) (fun i5 s4=>
 (ix a2 i5).bind fun x11=>
 (zcV a0 a1 x11).bind fun z12=>
 gd ((s4.length+1)*8≤140737488355328∧s4.length+1≤4611686018427387904)<|
 some (.go (s4++[z12]))) (fun s4=>s4) (a2.length) 0 []:Option ((List Int))).bind fun x3=>
 (zdi x3).bind fun z17=>
 some z17)
theorem zg3:∀{a0}{a1}{a2}{r},zcF a0 a1 a2=some r→PCalls Tryz.prog 67 [(.sh,vE a0),(.sh,.int .i64 a1),(.sh,vH a2)] (Eo (vD r) [.junk,.junk,.junk]):=by
 intro a0 a1 a2 r hr
 apply pF 28 [] [] [] [.tmp 6] hr zIe Tryz.func67
 intro Φ hΦ hF g
 unfold zcF at hF
 iterate 3 (try simp[go_sem,g];try intros;refine zaT ?_)
 refine wJ hF (fun x3=>[(7,.v (vD x3))]) (fun x3 hF=>?_) fun _ hj1 hF=>?_
 ·refine wC hF [.io] zid (fun z17 hF=>?_)
  refine wW ?_
  refine wK [6] ?_
  exact wm hΦ hF
 refine wB ?_
 obtain⟨b13,hb14,hψ8⟩:=hF
 refine pR hb14 (fun i5 s4=>[(1,.v (.int .i64 a1)),(3,.bl [.int .i64 a0.P,.int .i64 a0.Q,.int .i64 a0.G]),(7,.v (vD s4)),(11,.v (vH a2)),(12,.v (.int .i64 (a2.length:Int))),(13,.v (.int .i64 i5))]) (fun s4 _ hN15=>?_) (fun i5 s4 _ _ hi9 hi10 ho6 hg7 hF=>?_)
 ·exact wn hN15 (hj1 _) hψ8
 refine wW ?_
 refine wu hi9 hi10 ?_
 refine wW ?_
 refine wB ?_
 obtain⟨x11,g,hF⟩:=Rx g hF
 refine wK [1,3,7,9,11,12,13] ?_
 refine wC hF [.sh,.sh,.sh] zkj (fun z12 hF=>?_)
 obtain⟨g,hF⟩:=Rg g hF
 refine wW ?_
 exact wi hi9 hi10 (hg7 _) (zac hF)
@[go_sem] def zBx:List DE:=[d0 0 [0],d0 1 [5],d0 2 [16,17],d0 3 [18],d0 4 [1],d0 5 [5],d0 6 [20,21],d0 7 [22],d0 8 [19,23]]
def zde (a0:List Int) (a1:List Int):Option Bool:=
 if((a0.length:Int) !=(a1.length:Int))=true then(
 some false)else(
 ((zaq (σ:=Unit) (fun i6 s5=>
 (ix a0 i6).bind fun x12=>
 (ix a1 i6).bind fun x13=>
 if(x12 !=x13)=true then(
 some (.out (.inr false)))else(
 some (.go ()))) (fun s5=>.inl ()) (a0.length) 0 ():Option (Unit ⊕ Bool)).bind (Sum.elim (fun x4=>
 some true) some)))
theorem zjQ:∀{a0}{a1}{r},zde a0 a1=some r→PCalls Tryz.prog 66 [(.sh,vC a0),(.sh,vC a1)] (Eo (.bool r) [.junk,.junk]):=by
 intro a0 a1 r hr
 apply pF 26 [] [] [] [.tmp 4] hr zF3 Tryz.func66
 intro Φ hΦ hF g
 unfold zde at hF
 iterate 2 (try simp[go_sem,g];try intros;refine zaT ?_)
 refine wI hF (fun h1 hF=>?_) (fun h1 hF=>?_)
 ·exact wl hΦ hF
 iterate 2 (try simp[go_sem,g];try intros;refine zaT ?_)
 refine wS hF (fun x4=>[]) (fun x4 hF=>?_) fun _ hj2 hr3 hF=>?_
 ·refine wK [4] ?_
  exact wm hΦ hF
 refine wB ?_
 obtain⟨b15,hb16,hψ9⟩:=hF
 refine pR hb16 (fun i6 s5=>[(0,.v (vC a0)),(1,.v (vC a1)),(12,.v (.int .i64 (a0.length:Int))),(13,.v (.int .i64 i6))]) (fun s5 _ hN17=>?_) (fun i6 s5 _ _ hi10 hi11 ho7 hg8 hF=>?_)
 ·exact wn hN17 (hj2 _) hψ9
 refine wK [0,1,12,13,14] ?_
 refine wu hi10 hi11 ?_
 refine wW ?_
 refine wB ?_
 refine wW ?_
 refine wX zBx follows ?_
 obtain⟨x12,g,hF⟩:=Rx g hF
 obtain⟨x13,g,hF⟩:=Rx g hF
 refine wK [0,1,12,13,24] ?_
 refine wI hF (fun h14 hF=>?_) (fun h14 hF=>?_)
 ·cases ho7 _ (zac hF)
  cases hΦ _ (hr3 _ hψ9)
  refine wW ?_
  try simp[go_sem,g]
 refine wW ?_
 exact wi hi10 hi11 (hg8 _) (zac hF)
@[go_sem] def zDU:List DE:=[d2 0 [4] 4 4,d0 1 [1],d0 2 [2],d2 4 [4] 4 4,d0 5 [1],d0 6 [3],d3 3 [32,33,34],d3 7 [36,37,38],d3 8 [35,39],d0 9 [40],d0 10 []]
def zda (a0:Group) (a1:Int) (a2:List Cipher) (a3:List Cipher):Option (Bool×Bool):=
 (zb3 a0 1 a2).bind fun z1=>
 ((if(!z1.2)=true then(
 some true)else(
 (zbw a0 a3).bind fun z6=>
 if(!z6)=true then(
 some true)else(
 (zdA a0 a1).bind fun z8=>
 some (!z8))):Option Bool).bind fun x4=>
 if x4=true then(
 some (false,false))else(
 (zcF a0 a1 a2).bind fun z10=>
 (zcF a0 a1 a3).bind fun z11=>
 (zde z10 z11).bind fun z12=>
 some (z12,true)))
theorem zkX:∀{a0}{a1}{a2}{a3}{r},zda a0 a1 a2 a3=some r→PCalls Tryz.prog 22 [(.sh,vE a0),(.sh,.int .i64 a1),(.sh,vH a2),(.sh,vH a3)] (Eo (.tup [.bool r.1,.bool r.2]) [.junk,.junk,.junk,.junk]):=by
 intro a0 a1 a2 a3 r hr
 apply pF 41 [] [] [] [.tmp 8,.tmp 9] hr zHV Tryz.func22
 intro Φ hΦ hF g
 unfold zda at hF
 refine wW ?_
 refine wC hF [.sh,.sh,.sh] ze9 (fun z1 hF=>?_)
 refine wK [1,2,3,4,11] ?_
 refine wJ hF (fun x4=>[(1,.v (.int .i64 a1)),(2,.v (vH a2)),(3,.v (vH a3)),(4,.bl [.int .i64 a0.P,.int .i64 a0.Q,.int .i64 a0.G]),(31,.v (.bool x4))]) (fun x4 hF=>?_) fun _ hj2 hF=>?_
 ·refine wI hF (fun h9 hF=>?_) (fun h9 hF=>?_)
  ·exact wl hΦ hF
  refine wW ?_
  refine wX zDU follows ?_
  refine wC hF [.sh,.sh,.sh] zg3 (fun z10 hF=>?_)
  refine wC hF [.sh,.sh,.sh] zg3 (fun z11 hF=>?_)
  refine wC hF [.sh,.sh] zjQ (fun z12 hF=>?_)
  refine wK [8,9] ?_
  exact wm hΦ hF
 refine wG hF (fun h5 hF=>?_) fun h5 hF=>?_
 ·exact wV h5 (hj2 _) (zac hF)
 try simp[go_sem,g,h5]
 refine wC hF [.sh,.sh] zdu (fun z6 hF=>?_)
 try simp[go_sem,g,h5]
 refine wG hF (fun h7 hF=>?_) fun h7 hF=>?_
 ·exact wV h7 (hj2 _) (zac hF)
 try simp[go_sem,g,h7]
 refine wC hF [.sh,.sh] zh7 (fun z8 hF=>?_)
 exact wV h7 (hj2 _) (zac hF)
def zgK (a0:Group) (a1:Int):Option Int:=
 (zbi a1 (i64.wrap (a0.Q-1)) a0.P).bind fun z1=>
 some z1
theorem zq2:∀{a0}{a1}{r},zgK a0 a1=some r→PCalls Tryz.prog 169 [(.sh,vE a0),(.sh,.int .i64 a1)] (Eo (.int .i64 r) [.junk,.junk]):=by
 intro a0 a1 r hr
 apply pF 12 [] [] [] [.tmp 4] hr zDn Tryz.func169
 intro Φ hΦ hF g
 unfold zgK at hF
 refine wW ?_
 refine wC hF [.sh,.sh,.sh] ze1 (fun z1 hF=>?_)
 refine wK [4] ?_
 exact wm hΦ hF
@[go_sem] def zyC:List DE:=[d2 0 [3] 3 3,d1 1 [5] 5,d2 2 [8] 5 8,d2 3 [3] 3 3,d2 4 [3] 3 3,d1 5 [5] 5,d2 6 [12] 5 12,d0 7 [1],d3 8 [11,13,14],d3 9 [10,15],d0 10 [9,16],⟨11,[7,17],[],none,true,true,true⟩,d0 12 [18]]
def zgJ (a0:Group) (a1:Int) (a2:Cipher):Option Int:=
 (zbJ a0 a2.A a1).bind fun z1=>
 (zgK a0 z1).bind fun z2=>
 (zcR a0 [a2.B,z2]).bind fun z3=>
 some z3
theorem zqY:∀{a0}{a1}{a2}{r},zgJ a0 a1 a2=some r→PCalls Tryz.prog 135 [(.sh,vE a0),(.sh,.int .i64 a1),(.sh,vF a2)] (Eo (.int .i64 r) [.junk,.junk,.junk]):=by
 intro a0 a1 a2 r hr
 apply pF 19 [] [] [] [.tmp 6] hr zCB Tryz.func135
 intro Φ hΦ hF g
 unfold zgJ at hF
 refine wW ?_
 refine wX zyC follows ?_
 refine wC hF [.sh,.sh,.sh] zga (fun z1 hF=>?_)
 refine wC hF [.sh,.sh] zq2 (fun z2 hF=>?_)
 refine wC hF [.sh,.sh] zhT (fun z3 hF=>?_)
 refine wK [6] ?_
 exact wm hΦ hF
def zd4 (a0:Group) (a1:Int) (a2:List Cipher):Option ((List Int)):=
 ((zaq (σ:=(List Int)) (fun i5 s4=>
 (ix a2 i5).bind fun x11=>
 (zgJ a0 a1 x11).bind fun z12=>
 gd ((s4.length+1)*8≤140737488355328∧s4.length+1≤4611686018427387904)<|
 ((zbS (σ:=(List Int)×Int) (fun s31=>
 ((if decide (0<s31.2)=true then(
 (ix s31.1 (i64.wrap (s31.2-1))).bind fun x40=>
 some (decide (z12<x40)))else(
 some false):Option Bool).bind fun x38=>
 if x38=true then(
 (ix s31.1 (i64.wrap (s31.2-1))).bind fun x42=>
 (ix s31.1 s31.2).bind fun x43=>
 some (.go (s31.1.set s31.2.toNat x42,i64.wrap (s31.2-1))))else(
 some (.out (s31.1,s31.2))))) (s4++[z12],(s4.length:Int)):Option ((List Int×Int))).bind fun x15=>
 (ix x15.1 x15.2).bind fun x46=>
 some (.go (x15.1.set x15.2.toNat z12)))) (fun s4=>s4) (a2.length) 0 []:Option ((List Int))).bind fun x3=>
 some x3)
theorem zi6:∀{a0}{a1}{a2}{r},zd4 a0 a1 a2=some r→PCalls Tryz.prog 69 [(.sh,vE a0),(.sh,.int .i64 a1),(.sh,vH a2)] (Eo (vD r) [.junk,.junk,.junk]):=by
 intro a0 a1 a2 r hr
 apply pF 55 [] [] [] [.tmp 6] hr zHa Tryz.func69
 intro Φ hΦ hF g
 unfold zd4 at hF
 iterate 3 (try simp[go_sem,g];try intros;refine zaT ?_)
 refine wJ hF (fun x3=>[(7,.v (vD x3))]) (fun x3 hF=>?_) fun _ hj1 hF=>?_
 ·exact wl hΦ hF
 refine wB ?_
 obtain⟨b47,hb48,hψ8⟩:=hF
 refine pR hb48 (fun i5 s4=>[(1,.v (.int .i64 a1)),(3,.bl [.int .i64 a0.P,.int .i64 a0.Q,.int .i64 a0.G]),(7,.v (vD s4)),(12,.v (vH a2)),(13,.v (.int .i64 (a2.length:Int))),(14,.v (.int .i64 i5))]) (fun s4 _ hN49=>?_) (fun i5 s4 _ _ hi9 hi10 ho6 hg7 hF=>?_)
 ·exact wn hN49 (hj1 _) hψ8
 refine wW ?_
 refine wu hi9 hi10 ?_
 refine wW ?_
 refine wB ?_
 obtain⟨x11,g,hF⟩:=Rx g hF
 refine wK [1,3,7,9,12,13,14] ?_
 refine wC hF [.sh,.sh,.sh] zqY (fun z12 hF=>?_)
 obtain⟨g,hF⟩:=Rg g hF
 iterate 2 (try simp[go_sem,g];try intros;refine zaT ?_)
 try simp[go_sem,g]
 try intros
 refine wK [1,3,7,10,11,12,13,14] ?_
 refine wJ hF (fun x15=>[(1,.v (.int .i64 a1)),(3,.bl [.int .i64 a0.P,.int .i64 a0.Q,.int .i64 a0.G]),(7,.v (vD x15.1)),(10,.v (.int .i64 z12)),(11,.v (.int .i64 x15.2)),(12,.v (vH a2)),(13,.v (.int .i64 (a2.length:Int))),(14,.v (.int .i64 i5))]) (fun x15 hF=>?_) fun _ hj13 hF=>?_
 ·obtain⟨x46,g,hF⟩:=Rx g hF
  refine wW ?_
  exact wi hi9 hi10 (hg7 _) (zac hF)
 refine wB ?_
 obtain⟨b44,hb45,hψ35⟩:=hF
 refine pL hb45 (fun s31=>[(1,.v (.int .i64 a1)),(3,.bl [.int .i64 a0.P,.int .i64 a0.Q,.int .i64 a0.G]),(7,.v (vD s31.1)),(10,.v (.int .i64 z12)),(11,.v (.int .i64 s31.2)),(12,.v (vH a2)),(13,.v (.int .i64 (a2.length:Int))),(14,.v (.int .i64 i5))]) (fun s31 _ _ ho33 hg34 hF=>?_)
 refine wJ hF (fun x38=>[(1,.v (.int .i64 a1)),(3,.bl [.int .i64 a0.P,.int .i64 a0.Q,.int .i64 a0.G]),(7,.v (vD s31.1)),(10,.v (.int .i64 z12)),(11,.v (.int .i64 s31.2)),(12,.v (vH a2)),(13,.v (.int .i64 (a2.length:Int))),(14,.v (.int .i64 i5)),(38,.v (.bool x38))]) (fun x38 hF=>?_) fun _ hj36 hF=>?_
 ·refine wI hF (fun h41 hF=>?_) (fun h41 hF=>?_)
  ·refine wW ?_
   refine wB ?_
   obtain⟨x42,g,hF⟩:=Rx g hF
   obtain⟨x43,g,hF⟩:=Rx g hF
   refine wW ?_
   exact wT (hg34 _) (zac hF)
  cases ho33 _ (zac hF)
  exact wT (hj13 _) hψ35
 refine wG hF (fun h39 hF=>?_) fun h39 hF=>?_
 ·obtain⟨x40,g,hF⟩:=Rx g hF
  exact wV h39 (hj36 _) (zac hF)
 exact wV h39 (hj36 _) (zac hF)
@[go_sem] def zBm:List DE:=[d0 0 [0],d0 1 [5],d0 2 [16,17],d0 3 [18],d0 4 [1],d0 5 [5],d0 6 [20,21],d0 7 [22],d0 8 [19,23]]
def zf1 (a0:List Int) (a1:List Int):Option Bool:=
 if((a0.length:Int) !=(a1.length:Int))=true then(
 some false)else(
 ((zaq (σ:=Unit) (fun i6 s5=>
 (ix a0 i6).bind fun x12=>
 (ix a1 i6).bind fun x13=>
 if(x12 !=x13)=true then(
 some (.out (.inr false)))else(
 some (.go ()))) (fun s5=>.inl ()) (a0.length) 0 ():Option (Unit ⊕ Bool)).bind (Sum.elim (fun x4=>
 some true) some)))
theorem zoN:∀{a0}{a1}{r},zf1 a0 a1=some r→PCalls Tryz.prog 68 [(.sh,vC a0),(.sh,vC a1)] (Eo (.bool r) [.junk,.junk]):=by
 intro a0 a1 r hr
 apply pF 26 [] [] [] [.tmp 4] hr zKj Tryz.func68
 intro Φ hΦ hF g
 unfold zf1 at hF
 iterate 2 (try simp[go_sem,g];try intros;refine zaT ?_)
 refine wI hF (fun h1 hF=>?_) (fun h1 hF=>?_)
 ·exact wl hΦ hF
 iterate 2 (try simp[go_sem,g];try intros;refine zaT ?_)
 refine wS hF (fun x4=>[]) (fun x4 hF=>?_) fun _ hj2 hr3 hF=>?_
 ·refine wK [4] ?_
  exact wm hΦ hF
 refine wB ?_
 obtain⟨b15,hb16,hψ9⟩:=hF
 refine pR hb16 (fun i6 s5=>[(0,.v (vC a0)),(1,.v (vC a1)),(12,.v (.int .i64 (a0.length:Int))),(13,.v (.int .i64 i6))]) (fun s5 _ hN17=>?_) (fun i6 s5 _ _ hi10 hi11 ho7 hg8 hF=>?_)
 ·exact wn hN17 (hj2 _) hψ9
 refine wK [0,1,12,13,14] ?_
 refine wu hi10 hi11 ?_
 refine wW ?_
 refine wB ?_
 refine wW ?_
 refine wX zBm follows ?_
 obtain⟨x12,g,hF⟩:=Rx g hF
 obtain⟨x13,g,hF⟩:=Rx g hF
 refine wK [0,1,12,13,24] ?_
 refine wI hF (fun h14 hF=>?_) (fun h14 hF=>?_)
 ·cases ho7 _ (zac hF)
  cases hΦ _ (hr3 _ hψ9)
  refine wW ?_
  try simp[go_sem,g]
 refine wW ?_
 exact wi hi10 hi11 (hg8 _) (zac hF)
@[go_sem] def zDV:List DE:=[d2 0 [4] 4 4,d0 1 [1],d0 2 [2],d2 4 [4] 4 4,d0 5 [1],d0 6 [3],d3 3 [32,33,34],d3 7 [36,37,38],d3 8 [35,39],d0 9 [40],d0 10 []]
def zc9 (a0:Group) (a1:Int) (a2:List Cipher) (a3:List Cipher):Option (Bool×Bool):=
 (((zcQ a0).bind fun z4=>
 if(!z4)=true then(
 some true)else(
 (zeU a0 [a1]).bind fun z6=>
 if(!z6)=true then(
 some true)else(
 (zcO a0 1 a2).bind fun z8=>
 if(!z8)=true then(
 some true)else(
 (zcO a0 1 a3).bind fun z10=>
 some (!z10)))):Option Bool).bind fun x3=>
 if x3=true then(
 some (false,false))else(
 (zd4 a0 a1 a2).bind fun z12=>
 (zd4 a0 a1 a3).bind fun z13=>
 (zf1 z12 z13).bind fun z14=>
 some (z14,true)))
theorem zkZ:∀{a0}{a1}{a2}{a3}{r},zc9 a0 a1 a2 a3=some r→PCalls Tryz.prog 23 [(.sh,vE a0),(.sh,.int .i64 a1),(.sh,vH a2),(.sh,vH a3)] (Eo (.tup [.bool r.1,.bool r.2]) [.junk,.junk,.junk,.junk]):=by
 intro a0 a1 a2 a3 r hr
 apply pF 41 [] [] [] [.tmp 8,.tmp 9] hr zHA Tryz.func23
 intro Φ hΦ hF g
 unfold zc9 at hF
 refine wW ?_
 refine wJ hF (fun x3=>[(1,.v (.int .i64 a1)),(2,.v (vH a2)),(3,.v (vH a3)),(4,.bl [.int .i64 a0.P,.int .i64 a0.Q,.int .i64 a0.G]),(31,.v (.bool x3))]) (fun x3 hF=>?_) fun _ hj1 hF=>?_
 ·refine wI hF (fun h11 hF=>?_) (fun h11 hF=>?_)
  ·exact wl hΦ hF
  refine wW ?_
  refine wX zDV follows ?_
  refine wC hF [.sh,.sh,.sh] zi6 (fun z12 hF=>?_)
  refine wC hF [.sh,.sh,.sh] zi6 (fun z13 hF=>?_)
  refine wC hF [.sh,.sh] zoN (fun z14 hF=>?_)
  refine wK [8,9] ?_
  exact wm hΦ hF
 refine wC hF [.sh] zig (fun z4 hF=>?_)
 refine wG hF (fun h5 hF=>?_) fun h5 hF=>?_
 ·exact wV h5 (hj1 _) (zac hF)
 try simp[go_sem,g,h5]
 refine wC hF [.sh,.sh] ziT (fun z6 hF=>?_)
 try simp[go_sem,g,h5]
 refine wG hF (fun h7 hF=>?_) fun h7 hF=>?_
 ·exact wV h7 (hj1 _) (zac hF)
 try simp[go_sem,g,h7]
 refine wC hF [.sh,.sh,.sh] zi4 (fun z8 hF=>?_)
 try simp[go_sem,g,h7]
 refine wG hF (fun h9 hF=>?_) fun h9 hF=>?_
 ·exact wV h9 (hj1 _) (zac hF)
 try simp[go_sem,g,h9]
 refine wC hF [.sh,.sh,.sh] zi4 (fun z10 hF=>?_)
 exact wV h9 (hj1 _) (zac hF)
@[go_sem] def zCG:List DE:=[d0 0 [0],d0 1 [5],d0 2 [16,17],d0 3 [18],d0 4 [1],d0 5 [5],d0 6 [20,21],d0 7 [22],d0 8 [19,23]]
def zgj (a0:List Cipher) (a1:List Cipher):Option Bool:=
 if((a0.length:Int) !=(a1.length:Int))=true then(
 some false)else(
 ((zaq (σ:=Unit) (fun i6 s5=>
 (ix a0 i6).bind fun x12=>
 (ix a1 i6).bind fun x13=>
 if(!(x12.A==x13.A&&x12.B==x13.B))=true then(
 some (.out (.inr false)))else(
 some (.go ()))) (fun s5=>.inl ()) (a0.length) 0 ():Option (Unit ⊕ Bool)).bind (Sum.elim (fun x4=>
 some true) some)))
theorem znt:∀{a0}{a1}{r},zgj a0 a1=some r→PCalls Tryz.prog 24 [(.sh,vH a0),(.sh,vH a1)] (Eo (.bool r) [.junk,.junk]):=by
 intro a0 a1 r hr
 apply pF 26 [] [] [] [.tmp 4] hr zGx Tryz.func24
 intro Φ hΦ hF g
 unfold zgj at hF
 iterate 2 (try simp[go_sem,g];try intros;refine zaT ?_)
 refine wI hF (fun h1 hF=>?_) (fun h1 hF=>?_)
 ·exact wl hΦ hF
 iterate 2 (try simp[go_sem,g];try intros;refine zaT ?_)
 refine wS hF (fun x4=>[]) (fun x4 hF=>?_) fun _ hj2 hr3 hF=>?_
 ·refine wK [4] ?_
  exact wm hΦ hF
 refine wB ?_
 obtain⟨b15,hb16,hψ9⟩:=hF
 refine pR hb16 (fun i6 s5=>[(0,.v (vH a0)),(1,.v (vH a1)),(12,.v (.int .i64 (a0.length:Int))),(13,.v (.int .i64 i6))]) (fun s5 _ hN17=>?_) (fun i6 s5 _ _ hi10 hi11 ho7 hg8 hF=>?_)
 ·exact wn hN17 (hj2 _) hψ9
 refine wK [0,1,12,13,14] ?_
 refine wu hi10 hi11 ?_
 refine wW ?_
 refine wB ?_
 refine wW ?_
 refine wX zCG follows ?_
 obtain⟨x12,g,hF⟩:=Rx g hF
 obtain⟨x13,g,hF⟩:=Rx g hF
 refine wK [0,1,12,13,24] ?_
 refine wI hF (fun h14 hF=>?_) (fun h14 hF=>?_)
 ·cases ho7 _ (zac hF)
  cases hΦ _ (hr3 _ hψ9)
  refine wW ?_
  try simp[go_sem,g]
 refine wW ?_
 exact wi hi10 hi11 (hg8 _) (zac hF)
@[go_sem] def zBQ:List DE:=[d0 0 [0],d0 1 [5],d0 2 [16,17],d0 3 [18],d0 4 [1],d0 5 [5],d0 6 [20,21],d0 7 [22],d0 8 [19,23]]
def zbR (a0:List Cipher) (a1:List Cipher):Option Bool:=
 if((a0.length:Int) !=(a1.length:Int))=true then(
 some false)else(
 ((zaq (σ:=Unit) (fun i6 s5=>
 (ix a0 i6).bind fun x12=>
 (ix a1 i6).bind fun x13=>
 if(!(x12.A==x13.A&&x12.B==x13.B))=true then(
 some (.out (.inr false)))else(
 some (.go ()))) (fun s5=>.inl ()) (a0.length) 0 ():Option (Unit ⊕ Bool)).bind (Sum.elim (fun x4=>
 some true) some)))
theorem zge:∀{a0}{a1}{r},zbR a0 a1=some r→PCalls Tryz.prog 70 [(.sh,vH a0),(.sh,vH a1)] (Eo (.bool r) [.junk,.junk]):=by
 intro a0 a1 r hr
 apply pF 26 [] [] [] [.tmp 4] hr zGN Tryz.func70
 intro Φ hΦ hF g
 unfold zbR at hF
 iterate 2 (try simp[go_sem,g];try intros;refine zaT ?_)
 refine wI hF (fun h1 hF=>?_) (fun h1 hF=>?_)
 ·exact wl hΦ hF
 iterate 2 (try simp[go_sem,g];try intros;refine zaT ?_)
 refine wS hF (fun x4=>[]) (fun x4 hF=>?_) fun _ hj2 hr3 hF=>?_
 ·refine wK [4] ?_
  exact wm hΦ hF
 refine wB ?_
 obtain⟨b15,hb16,hψ9⟩:=hF
 refine pR hb16 (fun i6 s5=>[(0,.v (vH a0)),(1,.v (vH a1)),(12,.v (.int .i64 (a0.length:Int))),(13,.v (.int .i64 i6))]) (fun s5 _ hN17=>?_) (fun i6 s5 _ _ hi10 hi11 ho7 hg8 hF=>?_)
 ·exact wn hN17 (hj2 _) hψ9
 refine wK [0,1,12,13,14] ?_
 refine wu hi10 hi11 ?_
 refine wW ?_
 refine wB ?_
 refine wW ?_
 refine wX zBQ follows ?_
 obtain⟨x12,g,hF⟩:=Rx g hF
 obtain⟨x13,g,hF⟩:=Rx g hF
 refine wK [0,1,12,13,24] ?_
 refine wI hF (fun h14 hF=>?_) (fun h14 hF=>?_)
 ·cases ho7 _ (zac hF)
  cases hΦ _ (hr3 _ hψ9)
  refine wW ?_
  try simp[go_sem,g]
 refine wW ?_
 exact wi hi10 hi11 (hg8 _) (zac hF)
def zfC (a0:Group) (a1:Int) (a2:List Cipher) (a3:List Cipher) (a4:List Int) (a5:List Int):Option (Bool×Bool):=
 (zct a0 a1 a2 a4 a5).bind fun z1=>
 ((if(!z1.2)=true then(
 some true)else(
 (zbw a0 a3).bind fun z6=>
 some (!z6)):Option Bool).bind fun x4=>
 if x4=true then(
 some (false,false))else(
 (zbR z1.1 a3).bind fun z8=>
 some (z8,true)))
theorem znX:∀{a0}{a1}{a2}{a3}{a4}{a5}{r},zfC a0 a1 a2 a3 a4 a5=some r→PCalls Tryz.prog 25 [(.sh,vE a0),(.sh,.int .i64 a1),(.sh,vH a2),(.sh,vH a3),(.sh,vC a4),(.sh,vC a5)] (Eo (.tup [.bool r.1,.bool r.2]) [.junk,.junk,.junk,.junk,.junk,.junk]):=by
 intro a0 a1 a2 a3 a4 a5 r hr
 apply pF 36 [] [] [] [.tmp 12,.tmp 13] hr zJX Tryz.func25
 intro Φ hΦ hF g
 unfold zfC at hF
 refine wW ?_
 refine wC hF [.sh,.sh,.sh,.sh,.sh] zil (fun z1 hF=>?_)
 refine wK [3,6,14,15] ?_
 refine wJ hF (fun x4=>[(3,.v (vH a3)),(14,.v (vG z1.1)),(32,.v (.bool x4))]) (fun x4 hF=>?_) fun _ hj2 hF=>?_
 ·refine wI hF (fun h7 hF=>?_) (fun h7 hF=>?_)
  ·exact wl hΦ hF
  refine wW ?_
  refine wC hF [.sh,.sh] zge (fun z8 hF=>?_)
  exact wl hΦ hF
 refine wG hF (fun h5 hF=>?_) fun h5 hF=>?_
 ·exact wV h5 (hj2 _) (zac hF)
 try simp[go_sem,g,h5]
 refine wC hF [.sh,.sh] zdu (fun z6 hF=>?_)
 exact wV h5 (hj2 _) (zac hF)
def zgc (a0:Int) (a1:Int):Option Int:=
 gd (a1≠0)<|
 gd (a1≠0)<|
 some ((i64.wrap ((a0.tmod a1)+a1)).tmod a1)
theorem zrb:∀{a0}{a1}{r},zgc a0 a1=some r→PCalls Tryz.prog 18 [(.sh,.int .i64 a0),(.sh,.int .i64 a1)] (Eo (.int .i64 r) [.junk,.junk]):=by
 intro a0 a1 r hr
 apply pF 12 [] [] [] [.tmp 4] hr zHQ Tryz.func18
 intro Φ hΦ hF g
 unfold zgc at hF
 obtain⟨g,hF⟩:=Rz g hF
 obtain⟨g,hF⟩:=Rz g hF
 cases hΦ _ (zac hF)
 iterate 2 refine wW ?_
 try simp[go_sem,g]
def zan (a0c0:List Int) (a1:Int):Option (List Int×List Int):=
 gd (0≤a1)<|
 gd (0≤a1.toNat∧a1.toNat≤a0c0.length)<|
 gd (0≤a1)<|
 gd (a1.toNat≤a0c0.length∧a0c0.length≤a0c0.length)<|
 some ((a0c0.take a1.toNat).drop 0,(a0c0.take a0c0.length).drop a1.toNat)
theorem zaA:∀{a0c0}{a1}{r},zan a0c0 a1=some r→PCalls Tryz.prog 82 [(.io,.bx [vC a0c0]),(.sh,.int .i64 a1)] (Eo (vC r.1) [.bx [vC r.2],.junk]):=by
 intro a0c0 a1 r hr
 apply pF 22 [0] [] [] [.tmp 4] hr zGg Tryz.func82
 intro Φ hΦ hF g
 unfold zan at hF
 obtain⟨g,hF⟩:=Rg g hF
 obtain⟨g,hF⟩:=Rg g hF
 obtain⟨g,hF⟩:=Rg g hF
 obtain⟨g,hF⟩:=Rg g hF
 iterate 2 refine wW ?_
 refine wK [0,5] ?_
 exact wl hΦ hF
def za7 (a0c0:List Int):Option (Int×List Int):=
 (zan a0c0 1).bind fun z1=>
 (ix z1.1 0).bind fun x2=>
 some (x2,z1.2)
theorem zbU:∀{a0c0}{r},za7 a0c0=some r→PCalls Tryz.prog 83 [(.io,.bx [vC a0c0])] (Eo (.int .i64 r.1) [.bx [vC r.2]]):=by
 intro a0c0 r hr
 apply pF 7 [0] [] [] [.tmp 2] hr zGt Tryz.func83
 intro Φ hΦ hF g
 unfold za7 at hF
 refine wW ?_
 refine wC hF [.io,.sh] zaA (fun z1 hF=>?_)
 obtain⟨x2,g,hF⟩:=Rxn g 0 hF
 exact wl hΦ hF
@[go_sem] def zzZ:List DE:=[d0 0 [9],d0 1 [11],d2 2 [4] 4 4,d2 3 [4] 4 4,d1 4 [4] 4,d2 5 [26] 4 26,d0 6 [3],d0 7 [11],d0 8 [28,29],d0 9 [30],d1 11 [5] 5,d2 12 [33] 5 33,d0 13 [10],d0 14 [34,35],d0 15 [36],⟨10,[25,27,31],[],none,false,true,false⟩,d0 16 [32,37],⟨17,[24,38],[],none,true,true,true⟩,d0 18 [22,23],d0 19 [40,39]]
def zcl (a0:Group) (a1:Bases) (a2:List Int) (a3:List Int):Option ((List Int)):=
 gd (0≤(a2.length:Int)∧(a2.length:Int)≤(a2.length:Int)∧8*(a2.length:Int)≤140737488355328∧(a2.length:Int)≤4611686018427387904)<|
 (some (List.replicate a2.length 0)).bind fun x1=>
 ((zaq (σ:=(List Int)) (fun i21 s20=>
 (ix a2 i21).bind fun x27=>
 (ix a3 x27).bind fun x28=>
 (ix a1.Hs i21).bind fun x29=>
 (zag a0 a0.G x28).bind fun z30=>
 (zai a0 [z30,x29]).bind fun z31=>
 (ix s20 x27).bind fun x32=>
 some (.go (s20.set x27.toNat z31))) (fun s20=>s20) (a2.length) 0 x1:Option ((List Int))).bind fun x6=>
 some x6)
theorem zib:∀{a0}{a1}{a2}{a3}{r},zcl a0 a1 a2 a3=some r→PCalls Tryz.prog 136 [(.sh,vE a0),(.sh,vJ a1),(.sh,vC a2),(.sh,vC a3)] (Eo (vD r) [.junk,.junk,.junk,.junk]):=by
 intro a0 a1 a2 a3 r hr
 apply pF 43 [] [] [] [.tmp 8] hr zDD Tryz.func136
 intro Φ hΦ hF g
 unfold zcl at hF
 obtain⟨g,hF⟩:=Rg g hF
 obtain⟨x1,e2,hF⟩:=zdR hF
 have g3:List.replicate a2.length ([.int .i64 0]:List PV)=x1.map zax:=by injection e2 with e2;rw[←e2];simp[go_sem]
 iterate 2 (try simp[go_sem,g,g3];try intros;refine zaT ?_)
 try simp[go_sem,g,g3]
 try intros
 refine wK [3,4,5,9,15,16,17] ?_
 refine wJ hF (fun x6=>[(9,.v (vD x6))]) (fun x6 hF=>?_) fun _ hj4 hF=>?_
 ·exact wl hΦ hF
 refine wB ?_
 obtain⟨b33,hb34,hψ24⟩:=hF
 refine pR hb34 (fun i21 s20=>[(3,.v (vC a3)),(4,.bl [.int .i64 a0.P,.int .i64 a0.Q,.int .i64 a0.G]),(5,.bl [.int .i64 a1.H,vC a1.Hs]),(9,.v (vD s20)),(15,.v (vC a2)),(16,.v (.int .i64 (a2.length:Int))),(17,.v (.int .i64 i21))]) (fun s20 _ hN35=>?_) (fun i21 s20 _ _ hi25 hi26 ho22 hg23 hF=>?_)
 ·exact wn hN35 (hj4 _) hψ24
 refine wW ?_
 refine wu hi25 hi26 ?_
 refine wW ?_
 refine wB ?_
 obtain⟨x27,g,hF⟩:=Rx g hF
 refine wW ?_
 refine wX zzZ follows ?_
 obtain⟨x28,g,hF⟩:=Rx g hF
 obtain⟨x29,g,hF⟩:=Rx g hF
 refine wD hF zaj (fun z30 hF=>?_)
 refine wC hF [.sh,.sh] zas (fun z31 hF=>?_)
 obtain⟨x32,g,hF⟩:=Rx g hF
 refine wK [3,4,5,9,15,16,17] ?_
 exact wi hi25 hi26 (hg23 _) (zac hF)
def zbP (a0:List Cipher):Option (List Cipher):=
 gd (a0.length*16≤140737488355328∧a0.length≤4611686018427387904)<|
 some a0
theorem zgf {a0:(List Cipher)}{r:(List Cipher)}(hr:zbP a0=some r):PCalls Tryz.prog 126 [(.sh,.sl false 2 (a0.map zb1))] (Eo (.sl true 2 (r.map zb1)) [.junk]):=by
 apply zlM 8 [] [] [1000000] [.tmp 2] hr zEc Tryz.func126 rfl rfl rfl
 ·exact⟨by simp,rfl⟩
 intro Φ hΦ hF
 unfold zbP at hF
 obtain⟨g,hF⟩:=zhU hF
 have h1:=hΦ _ (zac hF)
 subst h1
 try simp[go_sem]
 refine zla [(0,.v (.sl false 2 (a0.map zb1)))] (by simp[go_sem]) ?_
 try simp[go_sem]
 refine zrz rfl rfl (by simp[go_sem]) rfl (by rfl) fun b hb=>?_
 try simp[go_sem]
 refine zaT ?_
 repeat rw[zpT]
 cases b
 ·refine zlv (by simp[go_sem]) ?_
  try simp[go_sem]
  refine zaT ?_
  try simp[go_sem,g]
  refine zaT ?_
  try simp[go_sem,g]
 have hb0:a0=[]:=by
  cases a0 with
  |nil=>rfl
  |cons x l=>exact absurd (hb (by simp)) (by simp)
 subst hb0
 refine zlb (by simp[go_sem]) ?_
 try simp[go_sem]
 refine zaT ?_
 try simp[go_sem]
def zbL (a0:Int) (a1:List Cipher) (a2:List Cipher) (a3:List Int):Option ((List Int)):=
 (zbP a1).bind fun z1=>
 gd ((z1.length+a2.length)*16≤140737488355328∧z1.length+a2.length≤4611686018427387904)<|
 (some (z1++a2)).bind fun x2=>
 ((zaq (σ:=(List Int)) (fun i8 s7=>
 (ix x2 i8).bind fun x14=>
 gd ((s7.length+2)*8≤140737488355328∧s7.length+2≤4611686018427387904)<|
 some (.go (s7++[x14.A,x14.B]))) (fun s7=>s7) (x2.length) 0 [a0]:Option ((List Int))).bind fun x6=>
 gd ((x6.length+a3.length)*8≤140737488355328∧x6.length+a3.length≤4611686018427387904)<|
 some (x6++a3))
theorem zeL:∀{a0}{a1}{a2}{a3}{r},zbL a0 a1 a2 a3=some r→PCalls Tryz.prog 54 [(.sh,.int .i64 a0),(.sh,vH a1),(.sh,vH a2),(.sh,vC a3)] (Eo (vD r) [.junk,.junk,.junk,.junk]):=by
 intro a0 a1 a2 a3 r hr
 apply pF 34 [] [] [] [.tmp 8] hr zHU Tryz.func54
 intro Φ hΦ hF g
 unfold zbL at hF
 iterate 2 refine wW ?_
 refine wC hF [.sh] zgf (fun z1 hF=>?_)
 obtain⟨g,hF⟩:=Rg g hF
 obtain⟨x2,e3,hF⟩:=zdR hF
 have g:=And.intro g (show List.map zb1 z1++List.map zb1 a2=x2.map zb1 by injection e3 with e3;rw[←e3];simp[go_sem])
 try simp[go_sem,g]
 try intros
 refine wK [3,9,17,18,19] ?_
 refine wJ hF (fun x6=>[(3,.v (vC a3)),(9,.v (vD x6))]) (fun x6 hF=>?_) fun _ hj4 hF=>?_
 ·obtain⟨g,hF⟩:=Rg g hF
  exact wl hΦ hF
 refine wB ?_
 obtain⟨b15,hb16,hψ11⟩:=hF
 refine pR hb16 (fun i8 s7=>[(3,.v (vC a3)),(9,.v (vD s7)),(17,.v (vG x2)),(18,.v (.int .i64 (x2.length:Int))),(19,.v (.int .i64 i8))]) (fun s7 _ hN17=>?_) (fun i8 s7 _ _ hi12 hi13 ho9 hg10 hF=>?_)
 ·exact wn hN17 (hj4 _) hψ11
 refine wW ?_
 refine wu hi12 hi13 ?_
 refine wW ?_
 refine wB ?_
 obtain⟨x14,g,hF⟩:=Rx g hF
 obtain⟨g,hF⟩:=Rg g hF
 refine wW ?_
 refine wK [3,9,17,18,19] ?_
 exact wi hi12 hi13 (hg10 _) (zac hF)
def zb4 (a0:List Int):Option (List Int):=
 gd (a0.length*8≤140737488355328∧a0.length≤4611686018427387904)<|
 some a0
theorem zfr {a0:(List Int)}{r:(List Int)}(hr:zb4 a0=some r):PCalls Tryz.prog 57 [(.sh,.sl false 1 (a0.map zax))] (Eo (.sl true 1 (r.map zax)) [.junk]):=by
 apply zlM 8 [] [] [1000000] [.tmp 2] hr zHn Tryz.func57 rfl rfl rfl
 ·exact⟨by simp,rfl⟩
 intro Φ hΦ hF
 unfold zb4 at hF
 obtain⟨g,hF⟩:=zhU hF
 have h1:=hΦ _ (zac hF)
 subst h1
 try simp[go_sem]
 refine zla [(0,.v (.sl false 1 (a0.map zax)))] (by simp[go_sem]) ?_
 try simp[go_sem]
 refine zrz rfl rfl (by simp[go_sem]) rfl (by rfl) fun b hb=>?_
 try simp[go_sem]
 refine zaT ?_
 repeat rw[zpT]
 cases b
 ·refine zlv (by simp[go_sem]) ?_
  try simp[go_sem]
  refine zaT ?_
  try simp[go_sem,g]
  refine zaT ?_
  try simp[go_sem,g]
 have hb0:a0=[]:=by
  cases a0 with
  |nil=>rfl
  |cons x l=>exact absurd (hb (by simp)) (by simp)
 subst hb0
 refine zlb (by simp[go_sem]) ?_
 try simp[go_sem]
 refine zaT ?_
 try simp[go_sem]
def zaz (a0:Group) (a1:ByteArray) (a2:List Int):Option (Int×Bool):=
 gd (([a0.P,a0.Q,a0.G].length+a2.length)*8≤140737488355328∧[a0.P,a0.Q,a0.G].length+a2.length≤4611686018427387904)<|
 (zcx a1 ([a0.P,a0.Q,a0.G]++a2)).bind fun z1=>
 if(!z1.2)=true then(
 some (0,false))else(
 gd (a0.Q≠0)<|
 some (z1.1.tmod a0.Q,true))
theorem zbv:∀{a0}{a1}{a2}{r},zaz a0 a1 a2=some r→PCalls Tryz.prog 53 [(.sh,vE a0),(.sh,.str a1),(.sh,vC a2)] (Eo (.tup [.int .i64 r.1,.bool r.2]) [.junk,.junk,.junk]):=by
 intro a0 a1 a2 r hr
 apply pF 30 [] [] [] [.tmp 6,.tmp 7] hr zGj Tryz.func53
 intro Φ hΦ hF g
 unfold zaz at hF
 obtain⟨g,hF⟩:=Rg g hF
 refine wW ?_
 refine wC hF [.sh,.sh] zhz (fun z1 hF=>?_)
 refine wK [3,8,9] ?_
 refine wW ?_
 refine wI hF (fun h2 hF=>?_) (fun h2 hF=>?_)
 ·exact wl hΦ hF
 obtain⟨g,hF⟩:=Rz g hF
 cases hΦ _ (zac hF)
 iterate 2 refine wW ?_
 try simp[go_sem,g]
@[go_sem] def zyN:List DE:=[d2 0 [4] 4 4,d0 1 [1],d0 2 [2],d0 4 [11],d0 5 [25],d3 3 [23],⟨6,[24,26],[],none,true,false,false⟩,d3 7 [21,22,27],d0 8 [28],d0 9 [20],d0 10 [20],d0 11 [29],d0 12 [30]]
def zbC (a0:Group) (a1:ByteArray) (a2:List Int) (a3:Int):Option (List Int×Bool):=
 ((zbS (σ:=(List Int)×Int) (fun s4=>
 if decide (s4.2<(if a3<1 then 1 else a3))=true then(
 (zb4 a2).bind fun z10=>
 gd ((z10.length+1)*8≤140737488355328∧z10.length+1≤4611686018427387904)<|
 (zaz a0 a1 (z10++[s4.2])).bind fun z11=>
 if(!z11.2)=true then(
 some (.out (.inr ([],false))))else(
 gd ((s4.1.length+1)*8≤140737488355328∧s4.1.length+1≤4611686018427387904)<|
 some (.go (s4.1++[z11.1],i64.wrap (s4.2+1)))))else(
 some (.out (.inl s4.1)))) ([],0):Option ((List Int) ⊕ (List Int×Bool))).bind (Sum.elim (fun x3=>
 gd (0≤a3)<|
 gd (0≤a3.toNat∧a3.toNat≤x3.length)<|
 some (x3.take a3.toNat,true)) some))
theorem zgz:∀{a0}{a1}{a2}{a3}{r},zbC a0 a1 a2 a3=some r→PCalls Tryz.prog 137 [(.sh,vE a0),(.sh,.str a1),(.sh,vC a2),(.sh,.int .i64 a3)] (Eo (.tup [vD r.1,.bool r.2]) [.junk,.junk,.junk,.junk]):=by
 intro a0 a1 a2 a3 r hr
 apply pF 41 [] [] [] [.tmp 8,.tmp 9] hr zDT Tryz.func137
 intro Φ hΦ hF g
 unfold zbC at hF
 iterate 3 refine wW ?_
 refine wS hF (fun x3=>[(3,.v (.int .i64 a3)),(10,.v (vD x3))]) (fun x3 hF=>?_) fun _ hj1 hr2 hF=>?_
 ·obtain⟨g,hF⟩:=Rg g hF
  obtain⟨g,hF⟩:=Rg g hF
  refine wK [8,9] ?_
  exact wm hΦ hF
 refine wB ?_
 obtain⟨b13,hb14,hψ8⟩:=hF
 refine pL hb14 (fun s4=>[(1,.v (.str a1)),(2,.v (vC a2)),(3,.v (.int .i64 a3)),(4,.bl [.int .i64 a0.P,.int .i64 a0.Q,.int .i64 a0.G]),(10,.v (vD s4.1)),(16,.v (.int .i64 (if a3<1 then 1 else a3))),(17,.v (.int .i64 s4.2))]) (fun s4 _ _ ho6 hg7 hF=>?_)
 refine wW ?_
 refine wI hF (fun h9 hF=>?_) (fun h9 hF=>?_)
 ·refine wW ?_
  refine wB ?_
  refine wK [1,2,3,4,10,11,16,17] ?_
  refine wX zyN follows ?_
  refine wC hF [.sh] zfr (fun z10 hF=>?_)
  obtain⟨g,hF⟩:=Rg g hF
  refine wC hF [.sh,.sh,.sh] zbv (fun z11 hF=>?_)
  refine wK [1,2,3,4,10,12,13,16,17] ?_
  refine wW ?_
  refine wI hF (fun h12 hF=>?_) (fun h12 hF=>?_)
  ·cases ho6 _ (zac hF)
   cases hΦ _ (hr2 _ hψ8)
   refine wW ?_
   try simp[go_sem,g]
  obtain⟨g,hF⟩:=Rg g hF
  iterate 2 refine wW ?_
  exact wT (hg7 _) (zac hF)
 cases ho6 _ (zac hF)
 exact wT (hj1 _) hψ8
def zha (a0:List Int) (a1:List Int):Option ((List Int)):=
 ((zaq (σ:=(List Int)) (fun i5 s4=>
 (ix a1 i5).bind fun x11=>
 (ix a0 x11).bind fun x12=>
 gd ((s4.length+1)*8≤140737488355328∧s4.length+1≤4611686018427387904)<|
 some (.go (s4++[x12]))) (fun s4=>s4) (a1.length) 0 []:Option ((List Int))).bind fun x3=>
 some x3)
theorem zuY:∀{a0}{a1}{r},zha a0 a1=some r→PCalls Tryz.prog 138 [(.sh,vC a0),(.sh,vC a1)] (Eo (vD r) [.junk,.junk]):=by
 intro a0 a1 r hr
 apply pF 24 [] [] [] [.tmp 4] hr zEx Tryz.func138
 intro Φ hΦ hF g
 unfold zha at hF
 iterate 3 (try simp[go_sem,g];try intros;refine zaT ?_)
 refine wJ hF (fun x3=>[(5,.v (vD x3))]) (fun x3 hF=>?_) fun _ hj1 hF=>?_
 ·exact wl hΦ hF
 refine wB ?_
 obtain⟨b13,hb14,hψ8⟩:=hF
 refine pR hb14 (fun i5 s4=>[(0,.v (vC a0)),(5,.v (vD s4)),(9,.v (vC a1)),(10,.v (.int .i64 (a1.length:Int))),(11,.v (.int .i64 i5))]) (fun s4 _ hN15=>?_) (fun i5 s4 _ _ hi9 hi10 ho6 hg7 hF=>?_)
 ·exact wn hN15 (hj1 _) hψ8
 refine wW ?_
 refine wu hi9 hi10 ?_
 refine wW ?_
 refine wB ?_
 obtain⟨x11,g,hF⟩:=Rx g hF
 refine wK [0,5,7,9,10,11] ?_
 obtain⟨x12,g,hF⟩:=Rx g hF
 obtain⟨g,hF⟩:=Rg g hF
 refine wW ?_
 exact wi hi9 hi10 (hg7 _) (zac hF)
@[go_sem] def zy1:List DE:=[d2 0 [4] 4 4,d2 1 [4] 4 4,d1 2 [4] 4,d2 3 [22] 4 22,d0 4 [3],d0 5 [10],d0 6 [24,25],d0 7 [26],d2 9 [4] 4 4,d0 10 [1],d0 11 [11],d3 8 [21,23,27],d3 12 [29,30,31],d0 13 [28,32],⟨14,[20,33],[],none,true,true,true⟩,d0 15 [34]]
def zek (a0:Group) (a1:Int) (a2:List Int) (a3:List Int):Option ((List Int)):=
 ((zaq (σ:=Int×List Int) (fun i5 s4=>
 (ix a2 i5).bind fun x11=>
 (ix a3 i5).bind fun x12=>
 (zag a0 a0.G x12).bind fun z13=>
 (zag a0 s4.1 x11).bind fun z14=>
 (zai a0 [z13,z14]).bind fun z15=>
 gd ((s4.2.length+1)*8≤140737488355328∧s4.2.length+1≤4611686018427387904)<|
 some (.go (z15,s4.2++[z15]))) (fun s4=>s4.2) (a2.length) 0 (a1,[]):Option ((List Int))).bind fun x3=>
 some x3)
theorem zlg:∀{a0}{a1}{a2}{a3}{r},zek a0 a1 a2 a3=some r→PCalls Tryz.prog 139 [(.sh,vE a0),(.sh,.int .i64 a1),(.sh,vC a2),(.sh,vC a3)] (Eo (vD r) [.junk,.junk,.junk,.junk]):=by
 intro a0 a1 a2 a3 r hr
 apply pF 41 [] [] [] [.tmp 8] hr zCP Tryz.func139
 intro Φ hΦ hF g
 unfold zek at hF
 iterate 3 (try simp[go_sem,g];try intros;refine zaT ?_)
 refine wJ hF (fun x3=>[(9,.v (vD x3))]) (fun x3 hF=>?_) fun _ hj1 hF=>?_
 ·exact wl hΦ hF
 refine wB ?_
 obtain⟨b16,hb17,hψ8⟩:=hF
 refine pR hb17 (fun i5 s4=>[(1,.v (.int .i64 s4.1)),(3,.v (vC a3)),(4,.bl [.int .i64 a0.P,.int .i64 a0.Q,.int .i64 a0.G]),(9,.v (vD s4.2)),(13,.v (vC a2)),(14,.v (.int .i64 (a2.length:Int))),(15,.v (.int .i64 i5))]) (fun s4 _ hN18=>?_) (fun i5 s4 _ _ hi9 hi10 ho6 hg7 hF=>?_)
 ·exact wn hN18 (hj1 _) hψ8
 refine wW ?_
 refine wu hi9 hi10 ?_
 refine wW ?_
 refine wB ?_
 obtain⟨x11,g,hF⟩:=Rx g hF
 refine wK [1,3,4,9,10,11,13,14,15] ?_
 refine wX zy1 follows ?_
 obtain⟨x12,g,hF⟩:=Rx g hF
 refine wC hF [.sh,.sh,.sh] zaj (fun z13 hF=>?_)
 refine wC hF [.sh,.sh,.sh] zaj (fun z14 hF=>?_)
 refine wC hF [.sh,.sh] zas (fun z15 hF=>?_)
 refine wK [1,3,4,9,13,14,15] ?_
 obtain⟨g,hF⟩:=Rg g hF
 refine wW ?_
 exact wi hi9 hi10 (hg7 _) (zac hF)
def zak (a0:Group) (a1:Int):Option Int:=
 (ze8 a1 a0.Q).bind fun z1=>
 some z1
theorem zaO:∀{a0}{a1}{r},zak a0 a1=some r→PCalls Tryz.prog 86 [(.sh,vE a0),(.sh,.int .i64 a1)] (Eo (.int .i64 r) [.junk,.junk]):=by
 intro a0 a1 r hr
 apply pF 9 [] [] [] [.tmp 4] hr zIv Tryz.func86
 intro Φ hΦ hF g
 unfold zak at hF
 refine wW ?_
 refine wC hF [.sh,.sh] zkF (fun z1 hF=>?_)
 exact wl hΦ hF
@[go_sem] def zDj:List DE:=[d0 0 [4],d1 1 [7] 7,d2 2 [17] 7 17,d0 3 [18],d0 5 [5],d1 6 [7] 7,d2 7 [22] 7 22,d0 8 [23],⟨4,[16,19],[],none,true,false,false⟩,⟨9,[21,24],[],none,true,false,false⟩,d0 10 [20],d0 11 [25]]
def zdf (a0:List Cipher):Option (List Int×List Int):=
 ((zaq (σ:=(List Int)×List Int) (fun i5 s4=>
 (ix a0 i5).bind fun x11=>
 gd ((s4.1.length+1)*8≤140737488355328∧s4.1.length+1≤4611686018427387904)<|
 gd ((s4.2.length+1)*8≤140737488355328∧s4.2.length+1≤4611686018427387904)<|
 some (.go (s4.1++[x11.A],s4.2++[x11.B]))) (fun s4=>(s4.1,s4.2)) (a0.length) 0 ([],[]):Option ((List Int×List Int))).bind fun x3=>
 some (x3.1,x3.2))
theorem zfE:∀{a0}{r},zdf a0=some r→PCalls Tryz.prog 89 [(.sh,vH a0)] (Eo (.tup [vD r.1,vD r.2]) [.junk]):=by
 intro a0 r hr
 apply pF 29 [] [] [] [.tmp 2,.tmp 3] hr zIy Tryz.func89
 intro Φ hΦ hF g
 unfold zdf at hF
 iterate 3 (try simp[go_sem,g];try intros;refine zaT ?_)
 refine wJ hF (fun x3=>[(4,.v (vD x3.1)),(5,.v (vD x3.2))]) (fun x3 hF=>?_) fun _ hj1 hF=>?_
 ·refine wK [2,3] ?_
  exact wm hΦ hF
 refine wB ?_
 obtain⟨b12,hb13,hψ8⟩:=hF
 refine pR hb13 (fun i5 s4=>[(4,.v (vD s4.1)),(5,.v (vD s4.2)),(10,.v (vH a0)),(11,.v (.int .i64 (a0.length:Int))),(12,.v (.int .i64 i5))]) (fun s4 _ hN14=>?_) (fun i5 s4 _ _ hi9 hi10 ho6 hg7 hF=>?_)
 ·exact wn hN14 (hj1 _) hψ8
 refine wK [4,5,10,11,12,13] ?_
 refine wu hi9 hi10 ?_
 refine wW ?_
 refine wB ?_
 obtain⟨x11,g,hF⟩:=Rx g hF
 refine wW ?_
 refine wX zDj follows ?_
 obtain⟨g,hF⟩:=Rg g hF
 obtain⟨g,hF⟩:=Rg g hF
 refine wK [4,5,10,11,12] ?_
 exact wi hi9 hi10 (hg7 _) (zac hF)
@[go_sem] def zD1:List DE:=[d2 0 [3] 3 3,d0 1 [7],d2 2 [3] 3 3,d0 3 [9],d0 4 [2],d0 5 [8],d0 6 [21,22],d0 7 [23],d3 8 [19,20,24],d0 9 [18,25],⟨10,[17,26],[],none,true,true,true⟩,d0 11 [27]]
def zaE (a0:Group) (a1:List Int) (a2:List Int):Option Int:=
 ((zaq (σ:=Int) (fun i5 s4=>
 (ix a1 i5).bind fun x11=>
 (ix a2 i5).bind fun x12=>
 (zag a0 x11 x12).bind fun z13=>
 (zai a0 [s4,z13]).bind fun z14=>
 some (.go z14)) (fun s4=>s4) (a1.length) 0 1:Option Int).bind fun x3=>
 some x3)
theorem zaX:∀{a0}{a1}{a2}{r},zaE a0 a1 a2=some r→PCalls Tryz.prog 90 [(.sh,vE a0),(.sh,vC a1),(.sh,vC a2)] (Eo (.int .i64 r) [.junk,.junk,.junk]):=by
 intro a0 a1 a2 r hr
 apply pF 30 [] [] [] [.tmp 6] hr zJf Tryz.func90
 intro Φ hΦ hF g
 unfold zaE at hF
 iterate 3 (try simp[go_sem,g];try intros;refine zaT ?_)
 refine wJ hF (fun x3=>[(7,.v (.int .i64 x3))]) (fun x3 hF=>?_) fun _ hj1 hF=>?_
 ·exact wl hΦ hF
 refine wB ?_
 obtain⟨b15,hb16,hψ8⟩:=hF
 refine pR hb16 (fun i5 s4=>[(2,.v (vC a2)),(3,.bl [.int .i64 a0.P,.int .i64 a0.Q,.int .i64 a0.G]),(7,.v (.int .i64 s4)),(10,.v (vC a1)),(11,.v (.int .i64 (a1.length:Int))),(12,.v (.int .i64 i5))]) (fun s4 _ hN17=>?_) (fun i5 s4 _ _ hi9 hi10 ho6 hg7 hF=>?_)
 ·exact wn hN17 (hj1 _) hψ8
 refine wW ?_
 refine wu hi9 hi10 ?_
 refine wW ?_
 refine wB ?_
 obtain⟨x11,g,hF⟩:=Rx g hF
 refine wK [2,3,7,8,9,10,11,12] ?_
 refine wX zD1 follows ?_
 obtain⟨x12,g,hF⟩:=Rx g hF
 refine wC hF [.sh,.sh,.sh] zaj (fun z13 hF=>?_)
 refine wC hF [.sh,.sh] zas (fun z14 hF=>?_)
 refine wK [2,3,7,10,11,12] ?_
 exact wi hi9 hi10 (hg7 _) (zac hF)
theorem zBP:zsX Tryz.prog 150 26:=by
 intro n H e b es by_ z e1 e2 h0 h1 h2 h3 h4 h5
 refine zk6 zCJ Tryz.func150 rfl rfl (by simp[Tryz.f150]) fun hw=>?_
 have hn:¬n<0:=by omega
 have hw1:i64.wrap n=n:=wrI (by omega)
 have hw0:i64.wrap 0=0:=wrI (by omega)
 have ei:(zdC Tryz.prog 3).isSome=true:=by kernel_rfl
 by_cases hp:0<n
 ·have hne:n≠0:=by omega
  have h5':=h5
  simp[zav]at h5'
  simp[Tryz.f150,awp,zgT,aop,ahp,za3,zbq,za8,mat,zbo,zaD,zo6,FR.put,FR.init,rdv,rda,zbF,zdw,zav,Am.lenV,zfe,zdB,bnd,zmU,zs1,zii,zjO,zmN,hn,e1,e2,ei,hw1,hw0,hp,h1,h2,h3,h4,hne]
  first|exact h5'|exact .inl h5'
 have hz:n=0:=by omega
 subst hz
 simp[Tryz.f150,awp,zgT,aop,ahp,za3,zbq,za8,mat,zbo,zaD,zo6,FR.put,FR.init,rdv,rda,zbF,zdw,zav,Am.lenV,zfe,zdB,bnd,zmU,zs1,zii,zjO,zmN,hn,e1,e2,hw1,hw0,hp]
def zaS (a0:(List (List Int))):Option ((List Int)):=
 ((zaq (σ:=Int) (fun i5 s4=>
 (ix a0 i5).bind fun x11=>
 if decide ((i64.wrap (s4+(x11.length:Int)))<0)=true then(
 none)else(
 some (.go (i64.wrap (s4+(x11.length:Int)))))) (fun s4=>s4) (a0.length) 0 0:Option Int).bind fun x3=>
 gd (0≤x3∧8*x3≤140737488355328∧x3≤4611686018427387904)<|
 ((zaq (σ:=(List Int)) (fun i22 s21=>
 (ix a0 i22).bind fun x28=>
 gd ((s21.length+x28.length)*8≤140737488355328∧s21.length+x28.length≤4611686018427387904)<|
 some (.go (s21++x28))) (fun s21=>s21) (a0.length) 0 []:Option ((List Int))).bind fun x20=>
 some x20))
theorem zcY:∀{a0}{r},zaS a0=some r→PCalls Tryz.prog 91 [(.sh,vK a0)] (Eo (vD r) [.junk]):=by
 intro a0 r hr
 apply pF 36 [] [] [] [.tmp 2] hr zHu Tryz.func91
 intro Φ hΦ hF g
 unfold zaS at hF
 iterate 3 (try simp[go_sem,g];try intros;refine zaT ?_)
 refine wJ hF (fun x3=>[(0,.v (vK a0)),(3,.v (.int .i64 x3))]) (fun x3 hF=>?_) fun _ hj1 hF=>?_
 ·obtain⟨g17,hF⟩:=zhU hF
  try simp[go_sem,g]
  refine zxf zBP zG1 (by simp[go_sem,g]) g17 ?_
  try simp[go_sem,g]
  try intros
  refine zaT ?_
  try simp[go_sem,g]
  try intros
  refine wK [6,25,26,27] ?_
  refine wJ hF (fun x20=>[(6,.v (vD x20))]) (fun x20 hF=>?_) fun _ hj18 hF=>?_
  ·exact wl hΦ hF
  refine wB ?_
  obtain⟨b29,hb30,hψ25⟩:=hF
  refine pR hb30 (fun i22 s21=>[(6,.v (vD s21)),(25,.v (vK a0)),(26,.v (.int .i64 (a0.length:Int))),(27,.v (.int .i64 i22))]) (fun s21 _ hN31=>?_) (fun i22 s21 _ _ hi26 hi27 ho23 hg24 hF=>?_)
  ·exact wn hN31 (hj18 _) hψ25
  refine wW ?_
  refine wu hi26 hi27 ?_
  refine wW ?_
  refine wB ?_
  obtain⟨x28,g,hF⟩:=Rx g hF
  obtain⟨g,hF⟩:=Rg g hF
  iterate 2 refine wW ?_
  exact wi hi26 hi27 (hg24 _) (zac hF)
 refine wB ?_
 obtain⟨b13,hb14,hψ8⟩:=hF
 refine pR hb14 (fun i5 s4=>[(0,.v (vK a0)),(3,.v (.int .i64 s4)),(9,.v (vK a0)),(10,.v (.int .i64 (a0.length:Int))),(11,.v (.int .i64 i5))]) (fun s4 _ hN15=>?_) (fun i5 s4 _ _ hi9 hi10 ho6 hg7 hF=>?_)
 ·exact wn hN15 (hj1 _) hψ8
 refine wW ?_
 refine wu hi9 hi10 ?_
 refine wW ?_
 refine wB ?_
 obtain⟨x11,g,hF⟩:=Rx g hF
 try simp[go_sem,g]
 try intros
 refine zaT ?_
 try simp[go_sem,g]
 try intros
 refine wK [0,3,9,10,11] ?_
 refine wW ?_
 refine wI hF (fun h12 hF=>?_) (fun h12 hF=>?_)
 ·exact(zrB hF).elim
 refine wW ?_
 exact wi hi9 hi10 (hg7 _) (zac hF)
def zgy (a0:List Int) (a1:Int):Option Int:=
 ((zaq (σ:=Int) (fun i5 s4=>
 (ix a0 i5).bind fun x11=>
 gd (a1≠0)<|
 some (.go ((i64.wrap (s4+x11)).tmod a1))) (fun s4=>s4) (a0.length) 0 0:Option Int).bind fun x3=>
 some x3)
theorem zs3:∀{a0}{a1}{r},zgy a0 a1=some r→PCalls Tryz.prog 140 [(.sh,vC a0),(.sh,.int .i64 a1)] (Eo (.int .i64 r) [.junk,.junk]):=by
 intro a0 a1 r hr
 apply pF 21 [] [] [] [.tmp 4] hr zBF Tryz.func140
 intro Φ hΦ hF g
 unfold zgy at hF
 iterate 3 (try simp[go_sem,g];try intros;refine zaT ?_)
 refine wJ hF (fun x3=>[(5,.v (.int .i64 x3))]) (fun x3 hF=>?_) fun _ hj1 hF=>?_
 ·exact wl hΦ hF
 refine wB ?_
 obtain⟨b12,hb13,hψ8⟩:=hF
 refine pR hb13 (fun i5 s4=>[(1,.v (.int .i64 a1)),(5,.v (.int .i64 s4)),(8,.v (vC a0)),(9,.v (.int .i64 (a0.length:Int))),(10,.v (.int .i64 i5))]) (fun s4 _ hN14=>?_) (fun i5 s4 _ _ hi9 hi10 ho6 hg7 hF=>?_)
 ·exact wn hN14 (hj1 _) hψ8
 refine wW ?_
 refine wu hi9 hi10 ?_
 refine wW ?_
 refine wB ?_
 obtain⟨x11,g,hF⟩:=Rx g hF
 obtain⟨g,hF⟩:=Rz g hF
 refine wW ?_
 refine wK [1,5,8,9,10] ?_
 exact wi hi9 hi10 (hg7 _) (zac hF)
@[go_sem] def zDN:List DE:=[d0 0 [7],d0 1 [0],d0 2 [8],d0 3 [15,16],d0 4 [17],d0 5 [1],d0 6 [8],d0 7 [19,20],d0 8 [21],d0 9 [18,22],d0 10 [2],d0 11 [23,24],d0 12 [14,25],d0 13 [2],d0 14 [26,27],d0 15 [28]]
def zef (a0:List Int) (a1:List Int) (a2:Int):Option Int:=
 ((zaq (σ:=Int) (fun i5 s4=>
 (ix a0 i5).bind fun x11=>
 (ix a1 i5).bind fun x12=>
 gd (a2≠0)<|
 gd (a2≠0)<|
 some (.go ((i64.wrap (s4+((i64.wrap (x11*x12)).tmod a2))).tmod a2))) (fun s4=>s4) (a0.length) 0 0:Option Int).bind fun x3=>
 some x3)
theorem zkv:∀{a0}{a1}{a2}{r},zef a0 a1 a2=some r→PCalls Tryz.prog 92 [(.sh,vC a0),(.sh,vC a1),(.sh,.int .i64 a2)] (Eo (.int .i64 r) [.junk,.junk,.junk]):=by
 intro a0 a1 a2 r hr
 apply pF 31 [] [] [] [.tmp 6] hr zIE Tryz.func92
 intro Φ hΦ hF g
 unfold zef at hF
 iterate 3 (try simp[go_sem,g];try intros;refine zaT ?_)
 refine wJ hF (fun x3=>[(7,.v (.int .i64 x3))]) (fun x3 hF=>?_) fun _ hj1 hF=>?_
 ·exact wl hΦ hF
 refine wB ?_
 obtain⟨b13,hb14,hψ8⟩:=hF
 refine pR hb14 (fun i5 s4=>[(0,.v (vC a0)),(1,.v (vC a1)),(2,.v (.int .i64 a2)),(7,.v (.int .i64 s4)),(10,.v (.int .i64 (a0.length:Int))),(11,.v (.int .i64 i5))]) (fun s4 _ hN15=>?_) (fun i5 s4 _ _ hi9 hi10 ho6 hg7 hF=>?_)
 ·exact wn hN15 (hj1 _) hψ8
 refine wW ?_
 refine wu hi9 hi10 ?_
 refine wW ?_
 refine wB ?_
 refine wW ?_
 refine wX zDN follows ?_
 obtain⟨x11,g,hF⟩:=Rx g hF
 obtain⟨x12,g,hF⟩:=Rx g hF
 obtain⟨g,hF⟩:=Rz g hF
 obtain⟨g,hF⟩:=Rz g hF
 refine wK [0,1,2,7,10,11] ?_
 exact wi hi9 hi10 (hg7 _) (zac hF)
@[go_sem] def zAc:List DE:=[d2 0 [7] 7 7,d0 1 [19],d0 2 [33],d0 3 [109,110],d0 4 [111],d0 5 [31],d0 6 [33],d0 7 [113,114],d0 8 [115],d0 9 [32],d0 10 [116,117],d0 11 [112,118],d3 12 [108,119],d0 13 [120]]
@[go_sem] def zz1:List DE:=[d2 0 [7] 7 7,d1 1 [7] 7,d2 2 [128] 7 128,d0 3 [20],d2 5 [7] 7 7,d2 6 [7] 7 7,d1 7 [7] 7,d2 8 [134] 7 134,d0 9 [21],d2 11 [7] 7 7,d1 12 [8] 8,d2 13 [139] 8 139,d0 14 [25],d2 18 [7] 7 7,d1 19 [7] 7,d2 20 [146] 7 146,d0 21 [22],d2 23 [7] 7 7,d2 24 [7] 7 7,d1 25 [7] 7,d2 26 [152] 7 152,d0 27 [23],d0 28 [154],d2 30 [7] 7 7,d0 31 [34],d0 32 [25],d2 36 [7] 7 7,d2 37 [7] 7 7,d0 38 [2],d0 39 [23],d0 40 [166],d2 42 [7] 7 7,d0 43 [35],d0 44 [25],d3 4 [127,129,130],d3 10 [133,135,136],d3 15 [138,140,141],d0 16 [137,142],⟨17,[132,143],[],none,true,true,true⟩,d3 22 [145,147,148],d3 29 [151,153,155],d3 33 [157,158,159],d0 34 [156,160],⟨35,[150,161],[],none,true,true,true⟩,d3 41 [164,165,167],d3 45 [169,170,171],d0 46 [168,172],⟨47,[163,173],[],none,true,true,true⟩,d0 48 [131,144,149,162,174],d1 49 [27] 27,d1 50 [176] 27,⟨51,[177,175],[27],some 177,true,true,true⟩]
@[go_sem] def zAQ:List DE:=[d1 0 [27] 27,d1 1 [188] 27,d2 2 [189] 27 189,d2 3 [7] 7 7,d2 4 [7] 7 7,d1 5 [7] 7,d2 6 [193] 7 193,d0 7 [24],d0 8 [37],d0 9 [195,196],d0 10 [197],d2 12 [7] 7 7,d0 13 [36],d0 14 [37],d0 15 [201,202],d0 16 [203],d0 17 [25],d0 18 [37],d0 19 [205,206],d0 20 [207],⟨11,[192,194,198],[],none,false,true,false⟩,d3 21 [200,204,208],d0 22 [199,209],⟨23,[191,210],[],none,true,true,true⟩,d0 24 [211],⟨25,[190,212],[],none,true,false,false⟩,d1 26 [27] 27,d1 27 [214] 27,d2 28 [215,213] 27 215]
@[go_sem] def zyQ:List DE:=[d2 0 [7] 7 7,d0 1 [28],d1 2 [27] 27,d2 3 [220] 27 220,d1 4 [27] 27,d1 5 [222] 27,d2 6 [223] 27 223,d0 7 [219,221,224],⟨8,[225],[],none,true,true,true⟩,d3 9 [218,226],d0 10 [227],d0 11 [217],d0 12 [217],d0 13 [228],d0 14 [229]]
@[go_sem] def zz5:List DE:=[d2 0 [7] 7 7,d0 1 [20],d0 2 [38],d0 3 [18],d1 4 [7] 7,d2 5 [241] 7 241,d2 10 [7] 7 7,d0 11 [21],d0 12 [38],d0 13 [18],d0 14 [29],d1 15 [7] 7,d2 16 [252] 7 252,d2 21 [7] 7 7,d0 22 [22],d0 23 [38],d0 24 [32],d0 25 [260,261],d0 26 [259,262],d2 28 [7] 7 7,d0 29 [23],d0 30 [38],d0 31 [5],d0 32 [31],d1 33 [7] 7,d2 34 [270] 7 270,d3 6 [240,242],d0 7 [239,243],d0 8 [238,244],d3 9 [237,245],d3 17 [250,251,253],d0 18 [249,254],d0 19 [248,255],d3 20 [247,256],d3 27 [258,263],d3 35 [268,269,271],d0 36 [267,272],d0 37 [266,273],d3 38 [265,274],d0 39 [246,257,264,275],d1 40 [27] 27,d1 41 [277] 27,⟨42,[278,276],[27],some 278,true,true,true⟩]
@[go_sem] def zyu:List DE:=[d1 0 [27] 27,d1 1 [283] 27,d2 2 [284] 27 284,d2 3 [7] 7 7,d0 4 [24],d0 5 [39],d0 6 [287,288],d0 7 [289],d0 8 [38],d0 9 [19],d0 10 [39],d0 11 [292,293],d0 12 [294],d0 13 [291,295],d0 14 [290,296],d3 15 [286,297],d0 16 [298],⟨17,[285,299],[],none,true,false,false⟩,d1 18 [27] 27,d1 19 [301] 27,d2 20 [302,300] 27 302]
@[go_sem] def zAw:List DE:=[d1 0 [27] 27,d1 1 [308] 27,d2 2 [309] 27 309,d2 3 [7] 7 7,d0 4 [25],d0 5 [40],d0 6 [312,313],d0 7 [314],d0 8 [38],d0 9 [31],d0 10 [40],d0 11 [317,318],d0 12 [319],d0 13 [316,320],d0 14 [315,321],d3 15 [311,322],d0 16 [323],⟨17,[310,324],[],none,true,false,false⟩,d1 18 [27] 27,d1 19 [326] 27,d2 20 [327,325] 27 327]
def zcK (a0:Group) (a1:Bases) (a2:Int) (a3:List Cipher) (a4:List Int) (a5:List Int) (a6:List Int):Option (MatrixProof×Bool):=
 (zan a6 (a3.length:Int)).bind fun z1=>
 (zan z1.2 (a3.length:Int)).bind fun z2=>
 (za7 z2.2).bind fun z3=>
 (za7 z3.2).bind fun z4=>
 (za7 z4.2).bind fun z5=>
 (za7 z5.2).bind fun z6=>
 (zan z6.2 (a3.length:Int)).bind fun z7=>
 (zan z7.2 (a3.length:Int)).bind fun z8=>
 (zdp a0 a2 a3 a4 a5).bind fun z9=>
 (zcl a0 a1 a4 z1.1).bind fun z10=>
 (zbL a2 a3 z9 z10).bind fun z11=>
 (zbC a0 (⟨#[109,105,120,32,99,111,108,117,109,110,115]⟩:ByteArray) z11 (a3.length:Int)).bind fun z12=>
 if(!z12.2)=true then(
 some ((MatrixProof.mk [] [] (Proof.mk [] [] [])),false))else(
 (zha z12.1 a4).bind fun z14=>
 (zek a0 a1.H z14 z2.1).bind fun z15=>
 ((zaq (σ:=Int) (fun i20 s19=>
 (ix z2.1 i20).bind fun x26=>
 (ix z14 i20).bind fun x27=>
 (zak a0 (i64.wrap (x26+(i64.wrap (x27*s19))))).bind fun z28=>
 some (.go z28)) (fun s19=>s19) (a3.length) 0 0:Option Int).bind fun x18=>
 (zdf z9).bind fun z33=>
 (zag a0 a0.G z3.1).bind fun z34=>
 (zag a0 a0.G z4.1).bind fun z35=>
 (zaE a0 a1.Hs z8.1).bind fun z36=>
 (zai a0 [z35,z36]).bind fun z37=>
 (zag a0 a0.G z5.1).bind fun z38=>
 (zag a0 a0.G (i64.wrap (0-z6.1))).bind fun z39=>
 (zaE a0 z33.1 z8.1).bind fun z40=>
 (zai a0 [z39,z40]).bind fun z41=>
 (zag a0 a2 (i64.wrap (0-z6.1))).bind fun z42=>
 (zaE a0 z33.2 z8.1).bind fun z43=>
 (zai a0 [z42,z43]).bind fun z44=>
 gd (([a1.H].length+z15.length)*8≤140737488355328∧[a1.H].length+z15.length≤4611686018427387904)<|
 (some ([a1.H]++z15)).bind fun x45=>
 ((zaq (σ:=(List Int)×List Int×List Int×List Int×List Int) (fun i64 s63=>
 (ix z7.1 i64).bind fun x70=>
 (ix x45 i64).bind fun x71=>
 (ix z8.1 i64).bind fun x72=>
 (zag a0 a0.G x70).bind fun z73=>
 (zag a0 x71 x72).bind fun z74=>
 (zai a0 [z73,z74]).bind fun z75=>
 gd ((s63.2.2.1.length+1)*8≤140737488355328∧s63.2.2.1.length+1≤4611686018427387904)<|
 some (.go (s63.1,s63.2.1,s63.2.2.1++[z75],s63.2.2.2.1,s63.2.2.2.2))) (fun s63=>(s63.1,s63.2.1,s63.2.2.1,s63.2.2.2.1,s63.2.2.2.2)) (a3.length) 0 (z10,z15,[z34,z37,z38,z41,z44],[],[]):Option ((List Int×List Int×List Int×List Int×List Int))).bind fun x49=>
 (zaS [z11,x49.2.1,x49.2.2.1]).bind fun z80=>
 (zaz a0 (⟨#[109,105,120,32,112,114,111,111,102]⟩:ByteArray) z80).bind fun z81=>
 if(!z81.2)=true then(
 some ((MatrixProof.mk [] [] (Proof.mk [] [] [])),false))else(
 (zgy z1.1 a0.Q).bind fun z83=>
 (zak a0 (i64.wrap (z3.1+(i64.wrap (z81.1*z83))))).bind fun z84=>
 (zef z1.1 z12.1 a0.Q).bind fun z85=>
 (zak a0 (i64.wrap (z4.1+(i64.wrap (z81.1*z85))))).bind fun z86=>
 (zak a0 (i64.wrap (z5.1+(i64.wrap (z81.1*x18))))).bind fun z87=>
 (zef a5 z14 a0.Q).bind fun z88=>
 (zak a0 (i64.wrap (z6.1+(i64.wrap (z81.1*z88))))).bind fun z89=>
 ((zaq (σ:=(List Int)×List Int×List Int×List Int×List Int) (fun i104 s103=>
 (ix z7.1 i104).bind fun x110=>
 (ix z2.1 i104).bind fun x111=>
 (zak a0 (i64.wrap (x110+(i64.wrap (z81.1*x111))))).bind fun z112=>
 gd ((s103.2.2.2.2.length+1)*8≤140737488355328∧s103.2.2.2.2.length+1≤4611686018427387904)<|
 some (.go (s103.1,s103.2.1,s103.2.2.1,s103.2.2.2.1,s103.2.2.2.2++[z112]))) (fun s103=>(s103.1,s103.2.1,s103.2.2.1,s103.2.2.2.1,s103.2.2.2.2)) (a3.length) 0 (x49.1,x49.2.1,x49.2.2.1,[z81.1],[z84,z86,z87,z89]):Option ((List Int×List Int×List Int×List Int×List Int))).bind fun x92=>
 ((zaq (σ:=(List Int)×List Int×List Int×List Int×List Int) (fun i131 s130=>
 (ix z8.1 i131).bind fun x137=>
 (ix z14 i131).bind fun x138=>
 (zak a0 (i64.wrap (x137+(i64.wrap (z81.1*x138))))).bind fun z139=>
 gd ((s130.2.2.2.2.length+1)*8≤140737488355328∧s130.2.2.2.2.length+1≤4611686018427387904)<|
 some (.go (s130.1,s130.2.1,s130.2.2.1,s130.2.2.2.1,s130.2.2.2.2++[z139]))) (fun s130=>(s130.1,s130.2.1,s130.2.2.1,s130.2.2.2.1,s130.2.2.2.2)) (a3.length) 0 (x92.1,x92.2.1,x92.2.2.1,x92.2.2.2.1,x92.2.2.2.2):Option ((List Int×List Int×List Int×List Int×List Int))).bind fun x119=>
 some ((MatrixProof.mk x119.1 x119.2.1 (Proof.mk x119.2.2.1 x119.2.2.2.1 x119.2.2.2.2)),true)))))))
set_option maxHeartbeats 1000000 in
theorem zjc:∀{a0}{a1}{a2}{a3}{a4}{a5}{a6}{r},zcK a0 a1 a2 a3 a4 a5 a6=some r→PCalls Tryz.prog 71 [(.sh,vE a0),(.sh,vJ a1),(.sh,.int .i64 a2),(.sh,vH a3),(.sh,vC a4),(.sh,vC a5),(.sh,vC a6)] (Eo (.tup [vL r.1,.bool r.2]) [.junk,.junk,.junk,.junk,.junk,.junk,.junk]):=by
 intro a0 a1 a2 a3 a4 a5 a6 r hr
 apply pFz 330 [] [219,221,224] [45] [.cell 14 60,.tmp 15] hr zH9 Tryz.func71
 intro Φ hΦ hF g
 unfold zcK at hF
 try simp[go_sem,g]
 try intros
 refine zaT ?_
 try simp[go_sem,g]
 try intros
 refine wK [2,3,4,5,7,8,14,16,17] ?_
 refine wC hF [.io,.sh] zaA (fun z1 hF=>?_)
 refine wC hF [.io,.sh] zaA (fun z2 hF=>?_)
 refine wW ?_
 refine wC hF [.io] zbU (fun z3 hF=>?_)
 refine wC hF [.io] zbU (fun z4 hF=>?_)
 refine wC hF [.io] zbU (fun z5 hF=>?_)
 refine wC hF [.io] zbU (fun z6 hF=>?_)
 refine wK [2,3,4,5,7,8,14,16,17,18,19,20,21,22,23] ?_
 refine wC hF [.io,.sh] zaA (fun z7 hF=>?_)
 refine wC hF [.io,.sh] zaA (fun z8 hF=>?_)
 refine wW ?_
 refine wC hF [.sh,.sh,.sh,.sh,.sh] zg0 (fun z9 hF=>?_)
 refine wK [2,3,4,5,7,8,14,16,18,19,20,21,22,23,24,25,26] ?_
 refine wC hF [.sh,.sh,.sh,.sh] zib (fun z10 hF=>?_)
 refine wW ?_
 refine wC hF [.sh,.sh,.sh,.sh] zeL (fun z11 hF=>?_)
 refine wK [2,4,5,7,8,14,16,18,19,20,21,22,23,24,25,26,27,28] ?_
 refine wC hF [.sh,.sh,.sh,.sh] zgz (fun z12 hF=>?_)
 refine wW ?_
 refine wK [2,4,5,7,8,14,16,18,19,20,21,22,23,24,25,26,27,28,29,92] ?_
 refine wI hF (fun h13 hF=>?_) (fun h13 hF=>?_)
 ·exact wl hΦ hF
 refine wW ?_
 refine wC hF [.sh,.sh] zuY (fun z14 hF=>?_)
 refine wW ?_
 refine wC hF [.sh,.sh,.sh,.sh] zlg (fun z15 hF=>?_)
 refine wK [2,5,7,8,14,16,18,19,20,21,22,23,24,25,26,27,28,29,31] ?_
 iterate 2 refine wW ?_
 refine wJ hF (fun x18=>[(2,.v (.int .i64 a2)),(5,.v (vC a5)),(7,.bl [.int .i64 a0.P,.int .i64 a0.Q,.int .i64 a0.G]),(8,.bl [.int .i64 a1.H,vC a1.Hs]),(14,.bl [.sl true 1 [],.sl true 1 [],.sl true 1 [],.sl true 1 [],.sl true 1 []]),(16,.v (.int .i64 (a3.length:Int))),(18,.v (vC z1.1)),(19,.v (vC z2.1)),(20,.v (.int .i64 z3.1)),(21,.v (.int .i64 z4.1)),(22,.v (.int .i64 z5.1)),(23,.v (.int .i64 z6.1)),(24,.v (vC z7.1)),(25,.v (vC z8.1)),(26,.v (vG z9)),(27,.bl [vD z10,vD z15,.sl true 1 [],.sl true 1 [],.sl true 1 []]),(28,.v (vD z11)),(29,.v (vD z12.1)),(31,.v (vD z14)),(32,.v (.int .i64 x18))]) (fun x18 hF=>?_) fun _ hj16 hF=>?_
 ·refine wC hF [.sh] zfE (fun z33 hF=>?_)
  refine wK [2,5,7,8,14,16,18,19,20,21,22,23,24,25,27,28,29,31,32,34,35] ?_
  refine wX zz1 follows ?_
  refine wC hF [.sh,.sh,.sh] zaj (fun z34 hF=>?_)
  refine wC hF [.sh,.sh,.sh] zaj (fun z35 hF=>?_)
  refine wC hF [.sh,.sh,.sh] zaX (fun z36 hF=>?_)
  refine wC hF [.sh,.sh] zas (fun z37 hF=>?_)
  refine wC hF [.sh,.sh,.sh] zaj (fun z38 hF=>?_)
  refine wC hF [.sh,.sh,.sh] zaj (fun z39 hF=>?_)
  refine wC hF [.sh,.sh,.sh] zaX (fun z40 hF=>?_)
  refine wC hF [.sh,.sh] zas (fun z41 hF=>?_)
  refine wC hF [.sh,.sh,.sh] zaj (fun z42 hF=>?_)
  refine wC hF [.sh,.sh,.sh] zaX (fun z43 hF=>?_)
  refine wC hF [.sh,.sh] zas (fun z44 hF=>?_)
  refine wK [5,7,8,14,16,18,19,20,21,22,23,24,25,27,28,29,31,32] ?_
  obtain⟨g,hF⟩:=Rg g hF
  obtain⟨x45,e46,hF⟩:=zdR hF
  have g:=And.intro g (show[.int .i64 a1.H]::(List.map zax z15)=x45.map zax by injection e46 with e46;rw[←e46];simp[go_sem])
  iterate 2 refine wW ?_
  refine wJ hF (fun x49=>[(5,.v (vC a5)),(7,.bl [.int .i64 a0.P,.int .i64 a0.Q,.int .i64 a0.G]),(14,.bl [.sl true 1 [],.sl true 1 [],.sl true 1 [],.sl true 1 [],.sl true 1 []]),(16,.v (.int .i64 (a3.length:Int))),(18,.v (vC z1.1)),(19,.v (vC z2.1)),(20,.v (.int .i64 z3.1)),(21,.v (.int .i64 z4.1)),(22,.v (.int .i64 z5.1)),(23,.v (.int .i64 z6.1)),(24,.v (vC z7.1)),(25,.v (vC z8.1)),(27,.bl [vD x49.1,vD x49.2.1,vD x49.2.2.1,vD x49.2.2.2.1,vD x49.2.2.2.2]),(28,.v (vD z11)),(29,.v (vD z12.1)),(31,.v (vD z14)),(32,.v (.int .i64 x18))]) (fun x49 hF=>?_) fun _ hj47 hF=>?_
  ·refine wX zyQ follows ?_
   refine wC hF [.sh] zcY (fun z80 hF=>?_)
   refine wC hF [.sh,.sh,.sh] zbv (fun z81 hF=>?_)
   refine wK [5,7,14,16,18,19,20,21,22,23,24,25,27,29,30,31,32,38] ?_
   refine wW ?_
   refine wI hF (fun h82 hF=>?_) (fun h82 hF=>?_)
   ·exact wl hΦ hF
   iterate 2 refine wW ?_
   refine wX zz5 follows ?_
   refine wC hF [.sh,.sh] zs3 (fun z83 hF=>?_)
   refine wC hF [.sh,.sh] zaO (fun z84 hF=>?_)
   refine wC hF [.sh,.sh,.sh] zkv (fun z85 hF=>?_)
   refine wC hF [.sh,.sh] zaO (fun z86 hF=>?_)
   refine wC hF [.sh,.sh] zaO (fun z87 hF=>?_)
   refine wC hF [.sh,.sh,.sh] zkv (fun z88 hF=>?_)
   refine wC hF [.sh,.sh] zaO (fun z89 hF=>?_)
   refine wK [7,14,16,19,24,25,27,31,38] ?_
   refine wW ?_
   refine wJ hF (fun x92=>[(7,.bl [.int .i64 a0.P,.int .i64 a0.Q,.int .i64 a0.G]),(14,.bl [.sl true 1 [],.sl true 1 [],.sl true 1 [],.sl true 1 [],.sl true 1 []]),(16,.v (.int .i64 (a3.length:Int))),(25,.v (vC z8.1)),(27,.bl [vD x92.1,vC x92.2.1,vC x92.2.2.1,vD x92.2.2.2.1,vD x92.2.2.2.2]),(31,.v (vD z14)),(38,.v (.int .i64 z81.1))]) (fun x92 hF=>?_) fun _ hj90 hF=>?_
   ·refine wW ?_
    refine wJ hF (fun x119=>[(14,.bl [.sl true 1 [],.sl true 1 [],.sl true 1 [],.sl true 1 [],.sl true 1 []]),(27,.bl [vD x119.1,vC x119.2.1,vC x119.2.2.1,vD x119.2.2.2.1,vD x119.2.2.2.2])]) (fun x119 hF=>?_) fun _ hj117 hF=>?_
    ·exact wl hΦ hF
    refine wB ?_
    obtain⟨b140,hb141,hψ134⟩:=hF
    refine pR hb141 (fun i131 s130=>[(7,.bl [.int .i64 a0.P,.int .i64 a0.Q,.int .i64 a0.G]),(14,.bl [.sl true 1 [],.sl true 1 [],.sl true 1 [],.sl true 1 [],.sl true 1 []]),(25,.v (vC z8.1)),(27,.bl [vD s130.1,vC s130.2.1,vC s130.2.2.1,vD s130.2.2.2.1,vD s130.2.2.2.2]),(31,.v (vD z14)),(38,.v (.int .i64 z81.1)),(304,.v (.int .i64 (a3.length:Int))),(305,.v (.int .i64 i131))]) (fun s130 _ hN142=>?_) (fun i131 s130 _ _ hi135 hi136 ho132 hg133 hF=>?_)
    ·exact wn hN142 (hj117 _) hψ134
    refine wW ?_
    refine wu hi135 hi136 ?_
    refine wW ?_
    refine wB ?_
    refine wW ?_
    refine wX zAw follows ?_
    obtain⟨x137,g,hF⟩:=Rx g hF
    obtain⟨x138,g,hF⟩:=Rx g hF
    refine wC hF [.sh,.sh] zaO (fun z139 hF=>?_)
    obtain⟨g,hF⟩:=Rg g hF
    refine wK [7,14,25,27,31,38,304,305] ?_
    exact wi hi135 hi136 (hg133 _) (zac hF)
   refine wB ?_
   obtain⟨b113,hb114,hψ107⟩:=hF
   refine pR hb114 (fun i104 s103=>[(7,.bl [.int .i64 a0.P,.int .i64 a0.Q,.int .i64 a0.G]),(14,.bl [.sl true 1 [],.sl true 1 [],.sl true 1 [],.sl true 1 [],.sl true 1 []]),(16,.v (.int .i64 (a3.length:Int))),(19,.v (vC z2.1)),(24,.v (vC z7.1)),(25,.v (vC z8.1)),(27,.bl [vD s103.1,vC s103.2.1,vC s103.2.2.1,vD s103.2.2.2.1,vD s103.2.2.2.2]),(31,.v (vD z14)),(38,.v (.int .i64 z81.1)),(279,.v (.int .i64 (a3.length:Int))),(280,.v (.int .i64 i104))]) (fun s103 _ hN115=>?_) (fun i104 s103 _ _ hi108 hi109 ho105 hg106 hF=>?_)
   ·exact wn hN115 (hj90 _) hψ107
   refine wW ?_
   refine wu hi108 hi109 ?_
   refine wW ?_
   refine wB ?_
   refine wW ?_
   refine wX zyu follows ?_
   obtain⟨x110,g,hF⟩:=Rx g hF
   obtain⟨x111,g,hF⟩:=Rx g hF
   refine wC hF [.sh,.sh] zaO (fun z112 hF=>?_)
   obtain⟨g,hF⟩:=Rg g hF
   refine wK [7,14,16,19,24,25,27,31,38,279,280] ?_
   exact wi hi108 hi109 (hg106 _) (zac hF)
  refine wB ?_
  obtain⟨b76,hb77,hψ67⟩:=hF
  refine pR hb77 (fun i64 s63=>[(5,.v (vC a5)),(7,.bl [.int .i64 a0.P,.int .i64 a0.Q,.int .i64 a0.G]),(14,.bl [.sl true 1 [],.sl true 1 [],.sl true 1 [],.sl true 1 [],.sl true 1 []]),(16,.v (.int .i64 (a3.length:Int))),(18,.v (vC z1.1)),(19,.v (vC z2.1)),(20,.v (.int .i64 z3.1)),(21,.v (.int .i64 z4.1)),(22,.v (.int .i64 z5.1)),(23,.v (.int .i64 z6.1)),(24,.v (vC z7.1)),(25,.v (vC z8.1)),(27,.bl [vD s63.1,vD s63.2.1,vD s63.2.2.1,vD s63.2.2.2.1,vD s63.2.2.2.2]),(28,.v (vD z11)),(29,.v (vD z12.1)),(31,.v (vD z14)),(32,.v (.int .i64 x18)),(36,.v (vD x45)),(184,.v (.int .i64 (a3.length:Int))),(185,.v (.int .i64 i64))]) (fun s63 _ hN78=>?_) (fun i64 s63 _ _ hi68 hi69 ho65 hg66 hF=>?_)
  ·exact wn hN78 (hj47 _) hψ67
  refine wK [5,7,14,16,18,19,20,21,22,23,24,25,27,28,29,31,32,36,184,185,186] ?_
  refine wu hi68 hi69 ?_
  refine wW ?_
  refine wB ?_
  refine wW ?_
  refine wX zAQ follows ?_
  obtain⟨x70,g,hF⟩:=Rx g hF
  obtain⟨x71,g,hF⟩:=Rx g hF
  obtain⟨x72,g,hF⟩:=Rx g hF
  refine wD hF zaj (fun z73 hF=>?_)
  refine wC hF [.sh,.sh,.sh] zaj (fun z74 hF=>?_)
  refine wC hF [.sh,.sh] zas (fun z75 hF=>?_)
  obtain⟨g,hF⟩:=Rg g hF
  refine wK [5,7,14,16,18,19,20,21,22,23,24,25,27,28,29,31,32,36,184,185] ?_
  exact wi hi68 hi69 (hg66 _) (zac hF)
 refine wB ?_
 obtain⟨b29,hb30,hψ23⟩:=hF
 refine pR hb30 (fun i20 s19=>[(2,.v (.int .i64 a2)),(5,.v (vC a5)),(7,.bl [.int .i64 a0.P,.int .i64 a0.Q,.int .i64 a0.G]),(8,.bl [.int .i64 a1.H,vC a1.Hs]),(14,.bl [.sl true 1 [],.sl true 1 [],.sl true 1 [],.sl true 1 [],.sl true 1 []]),(16,.v (.int .i64 (a3.length:Int))),(18,.v (vC z1.1)),(19,.v (vC z2.1)),(20,.v (.int .i64 z3.1)),(21,.v (.int .i64 z4.1)),(22,.v (.int .i64 z5.1)),(23,.v (.int .i64 z6.1)),(24,.v (vC z7.1)),(25,.v (vC z8.1)),(26,.v (vG z9)),(27,.bl [vD z10,vD z15,.sl true 1 [],.sl true 1 [],.sl true 1 []]),(28,.v (vD z11)),(29,.v (vD z12.1)),(31,.v (vD z14)),(32,.v (.int .i64 s19)),(104,.v (.int .i64 (a3.length:Int))),(105,.v (.int .i64 i20))]) (fun s19 _ hN31=>?_) (fun i20 s19 _ _ hi24 hi25 ho21 hg22 hF=>?_)
 ·exact wn hN31 (hj16 _) hψ23
 refine wW ?_
 refine wu hi24 hi25 ?_
 refine wW ?_
 refine wB ?_
 refine wW ?_
 refine wX zAc follows ?_
 obtain⟨x26,g,hF⟩:=Rx g hF
 obtain⟨x27,g,hF⟩:=Rx g hF
 refine wC hF [.sh,.sh] zaO (fun z28 hF=>?_)
 refine wK [2,5,7,8,14,16,18,19,20,21,22,23,24,25,26,27,28,29,31,32,104,105] ?_
 exact wi hi24 hi25 (hg22 _) (zac hF)
def zem (a0:Group) (a1:Int) (a2:List Cipher) (a3:List Int) (a4:List Int) (a5:List Int):Option (MatrixProof×Bool):=
 (zb3 a0 a1 a2).bind fun z1=>
 ((if(!z1.2)=true then(
 some true)else(
 (zce a0 a3 a4 (a2.length:Int)).bind fun z6=>
 if(!z6)=true then(
 some true)else(
 if((a5.length:Int) !=(i64.wrap ((i64.wrap (4*(a2.length:Int)))+4)))=true then(
 some true)else(
 (zbH a0 a5).bind fun z9=>
 some (!z9)))):Option Bool).bind fun x4=>
 if x4=true then(
 some ((MatrixProof.mk [] [] (Proof.mk [] [] [])),false))else(
 (zcK a0 z1.1 a1 a2 a3 a4 a5).bind fun z11=>
 some (z11.1,z11.2)))
theorem zlL:∀{a0}{a1}{a2}{a3}{a4}{a5}{r},zem a0 a1 a2 a3 a4 a5=some r→PCalls Tryz.prog 26 [(.sh,vE a0),(.sh,.int .i64 a1),(.sh,vH a2),(.sh,vC a3),(.sh,vC a4),(.sh,vC a5)] (Eo (.tup [vL r.1,.bool r.2]) [.junk,.junk,.junk,.junk,.junk,.junk]):=by
 intro a0 a1 a2 a3 a4 a5 r hr
 apply pFz 60 [] [51] [] [.cell 12 60,.tmp 13] hr zGI Tryz.func26
 intro Φ hΦ hF g
 unfold zem at hF
 refine wW ?_
 refine wC hF [.sh,.sh,.sh] ze9 (fun z1 hF=>?_)
 refine wK [1,2,3,4,5,6,12,14,15] ?_
 refine wJ hF (fun x4=>[(1,.v (.int .i64 a1)),(2,.v (vH a2)),(3,.v (vC a3)),(4,.v (vC a4)),(5,.v (vC a5)),(6,.bl [.int .i64 a0.P,.int .i64 a0.Q,.int .i64 a0.G]),(12,.bl [.sl true 1 [],.sl true 1 [],.sl true 1 [],.sl true 1 [],.sl true 1 []]),(14,.bl [.int .i64 z1.1.H,vD z1.1.Hs]),(48,.v (.bool x4))]) (fun x4 hF=>?_) fun _ hj2 hF=>?_
 ·refine wI hF (fun h10 hF=>?_) (fun h10 hF=>?_)
  ·exact wl hΦ hF
  refine wW ?_
  refine wC hF [.sh,.sh,.sh,.sh,.sh,.sh,.sh] zjc (fun z11 hF=>?_)
  refine wK [12,13] ?_
  exact wm hΦ hF
 refine wG hF (fun h5 hF=>?_) fun h5 hF=>?_
 ·exact wV h5 (hj2 _) (zac hF)
 try simp[go_sem,g,h5]
 try intros
 refine wC hF [.sh,.sh,.sh,.sh] zfA (fun z6 hF=>?_)
 try simp[go_sem,g,h5]
 refine wG hF (fun h7 hF=>?_) fun h7 hF=>?_
 ·exact wV h7 (hj2 _) (zac hF)
 try simp[go_sem,g,h7]
 try intros
 refine wG hF (fun h8 hF=>?_) fun h8 hF=>?_
 ·exact wV h8 (hj2 _) (zac hF)
 try simp[go_sem,g,h8]
 refine wC hF [.sh,.sh] zdI (fun z9 hF=>?_)
 exact wV h8 (hj2 _) (zac hF)
def zd9 (a0:Group) (a1:Int) (a2:List Cipher):Option (Bases×Bool):=
 (zb3 a0 a1 a2).bind fun z1=>
 if(!z1.2)=true then(
 some ((Bases.mk 0 []),false))else(
 (zaG a0 0).bind fun z3=>
 some (z3.1,z3.2))
theorem ziU:∀{a0}{a1}{a2}{r},zd9 a0 a1 a2=some r→PCalls Tryz.prog 30 [(.sh,vE a0),(.sh,.int .i64 a1),(.sh,vH a2)] (Eo (.tup [vI r.1,.bool r.2]) [.junk,.junk,.junk]):=by
 intro a0 a1 a2 r hr
 apply pF 24 [] [] [] [.cell 6 71,.tmp 7] hr zGa Tryz.func30
 intro Φ hΦ hF g
 unfold zd9 at hF
 refine wW ?_
 refine wC hF [.sh,.sh,.sh] ze9 (fun z1 hF=>?_)
 refine wK [3,6,9] ?_
 refine wW ?_
 refine wI hF (fun h2 hF=>?_) (fun h2 hF=>?_)
 ·exact wl hΦ hF
 refine wW ?_
 refine wC hF [.sh,.sh] zhl (fun z3 hF=>?_)
 exact wl hΦ hF
@[go_sem] def zB6:List DE:=[d2 0 [4] 4 4,d2 1 [4] 4 4,d1 2 [4] 4,d2 3 [11] 4 11,d0 4 [2],d2 6 [4] 4 4,d1 7 [5] 5,d2 8 [16] 5 16,d0 9 [3],d3 5 [10,12,13],d3 10 [15,17,18],d0 11 [14,19],⟨12,[9,20],[],none,true,true,true⟩,d0 13 [21]]
def zaW (a0:Group) (a1:Bases) (a2:Int) (a3:Int):Option Int:=
 (zag a0 a0.G a2).bind fun z1=>
 (zag a0 a1.H a3).bind fun z2=>
 (zai a0 [z1,z2]).bind fun z3=>
 some z3
theorem zcw:∀{a0}{a1}{a2}{a3}{r},zaW a0 a1 a2 a3=some r→PCalls Tryz.prog 85 [(.sh,vE a0),(.sh,vJ a1),(.sh,.int .i64 a2),(.sh,.int .i64 a3)] (Eo (.int .i64 r) [.junk,.junk,.junk,.junk]):=by
 intro a0 a1 a2 a3 r hr
 apply pF 22 [] [] [] [.tmp 8] hr zHF Tryz.func85
 intro Φ hΦ hF g
 unfold zaW at hF
 refine wW ?_
 refine wX zB6 follows ?_
 refine wC hF [.sh,.sh,.sh] zaj (fun z1 hF=>?_)
 refine wC hF [.sh,.sh,.sh] zaj (fun z2 hF=>?_)
 refine wC hF [.sh,.sh] zas (fun z3 hF=>?_)
 refine wK [8] ?_
 exact wm hΦ hF
@[go_sem] def zDB:List DE:=[d0 0 [9],d2 1 [4] 4 4,d2 2 [5] 5 5,d0 3 [11],d0 4 [23],d0 5 [3],d0 6 [10],d0 7 [25,26],d0 8 [27],d3 9 [21,22,24,28],d0 10 [29],⟨11,[20,30],[],none,true,false,false⟩,d0 12 [31]]
def zcz (a0:Group) (a1:Bases) (a2:List Int) (a3:List Int):Option ((List Int)):=
 ((zaq (σ:=(List Int)) (fun i5 s4=>
 (ix a2 i5).bind fun x11=>
 (ix a3 i5).bind fun x12=>
 (zaW a0 a1 (i64.wrap (x11+1)) x12).bind fun z13=>
 gd ((s4.length+1)*8≤140737488355328∧s4.length+1≤4611686018427387904)<|
 some (.go (s4++[z13]))) (fun s4=>s4) (a2.length) 0 []:Option ((List Int))).bind fun x3=>
 some x3)
theorem zit:∀{a0}{a1}{a2}{a3}{r},zcz a0 a1 a2 a3=some r→PCalls Tryz.prog 49 [(.sh,vE a0),(.sh,vJ a1),(.sh,vC a2),(.sh,vC a3)] (Eo (vD r) [.junk,.junk,.junk,.junk]):=by
 intro a0 a1 a2 a3 r hr
 apply pF 34 [] [] [] [.tmp 8] hr zJ9 Tryz.func49
 intro Φ hΦ hF g
 unfold zcz at hF
 iterate 3 (try simp[go_sem,g];try intros;refine zaT ?_)
 refine wJ hF (fun x3=>[(9,.v (vD x3))]) (fun x3 hF=>?_) fun _ hj1 hF=>?_
 ·refine wK [8] ?_
  exact wm hΦ hF
 refine wB ?_
 obtain⟨b14,hb15,hψ8⟩:=hF
 refine pR hb15 (fun i5 s4=>[(3,.v (vC a3)),(4,.bl [.int .i64 a0.P,.int .i64 a0.Q,.int .i64 a0.G]),(5,.bl [.int .i64 a1.H,vC a1.Hs]),(9,.v (vD s4)),(13,.v (vC a2)),(14,.v (.int .i64 (a2.length:Int))),(15,.v (.int .i64 i5))]) (fun s4 _ hN16=>?_) (fun i5 s4 _ _ hi9 hi10 ho6 hg7 hF=>?_)
 ·exact wn hN16 (hj1 _) hψ8
 refine wW ?_
 refine wu hi9 hi10 ?_
 refine wW ?_
 refine wB ?_
 obtain⟨x11,g,hF⟩:=Rx g hF
 refine wK [3,4,5,9,10,11,13,14,15] ?_
 refine wX zDB follows ?_
 obtain⟨x12,g,hF⟩:=Rx g hF
 refine wC hF [.sh,.sh,.sh,.sh] zcw (fun z13 hF=>?_)
 obtain⟨g,hF⟩:=Rg g hF
 refine wK [3,4,5,9,13,14,15] ?_
 exact wi hi9 hi10 (hg7 _) (zac hF)
def zcu (a0:Group) (a1:List Int):Option (Int×Int×Bool):=
 (zaz a0 (⟨#[109,105,120,32,121]⟩:ByteArray) a1).bind fun z1=>
 (zaz a0 (⟨#[109,105,120,32,122]⟩:ByteArray) a1).bind fun z2=>
 ((if(!z1.2)=true then(
 some true)else(
 some (!z2.2)):Option Bool).bind fun x5=>
 if x5=true then(
 some (0,0,false))else(
 some (z1.1,z2.1,true)))
theorem zhA:∀{a0}{a1}{r},zcu a0 a1=some r→PCalls Tryz.prog 56 [(.sh,vE a0),(.sh,vC a1)] (Eo (.tup [.int .i64 r.1,.int .i64 r.2.1,.bool r.2.2]) [.junk,.junk]):=by
 intro a0 a1 r hr
 apply pF 31 [] [] [] [.tmp 4,.tmp 5,.tmp 6] hr zJA Tryz.func56
 intro Φ hΦ hF g
 unfold zcu at hF
 refine wW ?_
 refine wC hF [.sh,.sh,.sh] zbv (fun z1 hF=>?_)
 refine wK [1,2,7,8] ?_
 refine wC hF [.sh,.sh,.sh] zbv (fun z2 hF=>?_)
 refine wW ?_
 refine wJ hF (fun x5=>[(7,.v (.int .i64 z1.1)),(9,.v (.int .i64 z2.1)),(28,.v (.bool x5))]) (fun x5 hF=>?_) fun _ hj3 hF=>?_
 ·refine wI hF (fun h7 hF=>?_) (fun h7 hF=>?_)
  ·refine wK [4,5,6] ?_
   exact wm hΦ hF
  refine wW ?_
  refine wK [4,5,6] ?_
  exact wm hΦ hF
 refine wG hF (fun h6 hF=>?_) fun h6 hF=>?_
 ·exact wV h6 (hj3 _) (zac hF)
 exact wV h6 (hj3 _) (zac hF)
@[go_sem] def zzM:List DE:=[d1 0 [29] 29,d2 1 [129] 29 129,d2 2 [7] 7 7,d2 3 [8] 8 8,d0 4 [32],d0 5 [33],d0 6 [133,134],d0 7 [135],d0 8 [19],d0 9 [33],d0 10 [137,138],d0 11 [139],d3 12 [131,132,136,140],d0 13 [141],⟨14,[130,142],[],none,true,false,false⟩,d1 15 [29] 29,d2 16 [144,143] 29 144]
@[go_sem] def zzn:List DE:=[d0 0 [2],d0 1 [3],d0 2 [28],d1 3 [29] 29,d2 4 [149] 29 149,d1 6 [29] 29,d2 7 [152] 29 152,d3 5 [150],d0 8 [151,153],d3 9 [146,147,148,154],d0 10 [155]]
@[go_sem] def zAE:List DE:=[d0 0 [39],d2 1 [7] 7 7,d0 2 [36],d0 3 [43],d0 4 [175],d0 5 [174,176],d0 6 [32],d0 7 [42],d0 8 [178,179],d0 9 [180],d0 10 [177,181],d0 11 [37],d0 12 [182,183],d3 13 [173,184],d0 14 [185],⟨15,[172,186],[],none,true,false,false⟩,d0 16 [187]]
@[go_sem] def zAI:List DE:=[d2 0 [7] 7 7,d0 1 [40],d0 2 [39],d0 3 [42],d0 4 [190,191],d0 5 [192],d0 6 [189,193],d3 7 [188,194],d0 8 [195]]
@[go_sem] def zyH:List DE:=[d1 0 [29] 29,d2 1 [196] 29 196,d2 2 [7] 7 7,d2 3 [8] 8 8,d0 4 [40],d0 5 [20],d0 6 [42],d0 7 [201,202],d0 8 [203],d3 9 [198,199,200,204],d0 10 [205],⟨11,[197,206],[],none,true,false,false⟩,d1 12 [29] 29,d2 13 [208,207] 29 208]
@[go_sem] def zAt:List DE:=[d2 0 [7] 7 7,d0 1 [20],d0 2 [42],d0 3 [216,217],d0 4 [218],d2 5 [7] 7 7,d0 6 [20],d0 7 [42],d0 8 [222],d0 9 [221,223],d0 10 [224],d0 11 [39],d0 12 [42],d0 13 [226,227],d0 14 [228],d0 15 [225,229],⟨16,[220,230],[],none,false,true,false⟩,d0 17 [219,231],d3 18 [215,232],d0 19 [233]]
@[go_sem] def zAB:List DE:=[d0 0 [46],d2 1 [7] 7 7,d2 2 [8] 8 8,d0 3 [21],d0 4 [47],d0 5 [253,254],d0 6 [255],d0 7 [22],d0 8 [47],d0 9 [257,258],d0 10 [259],d3 11 [251,252,256,260],d0 12 [261],⟨13,[250,262],[],none,true,false,false⟩,d0 14 [263]]
@[go_sem] def zAf:List DE:=[d0 0 [46],d2 1 [7] 7 7,d2 2 [7] 7 7,d0 3 [45],d0 4 [48],d0 5 [272,273],d0 6 [274],d0 7 [21],d0 8 [48],d0 9 [276,277],d0 10 [278],d2 12 [7] 7 7,d1 13 [8] 8,d2 14 [282] 8 282,d0 15 [23],d0 16 [48],d0 17 [284,285],d0 18 [286],⟨11,[271,275,279],[],none,false,true,false⟩,d3 19 [281,283,287],d0 20 [280,288],⟨21,[270,289],[],none,true,true,true⟩,d0 22 [290],⟨23,[269,291],[],none,true,false,false⟩,d0 24 [292]]
@[go_sem] def zAz:List DE:=[d0 0 [46],d2 1 [7] 7 7,d2 2 [8] 8 8,d0 3 [25],d0 4 [49],d0 5 [309,310],d0 6 [311],d0 7 [26],d0 8 [49],d0 9 [313,314],d0 10 [315],d3 11 [307,308,312,316],d0 12 [317],⟨13,[306,318],[],none,true,false,false⟩,d0 14 [319]]
@[go_sem] def zzY:List DE:=[d0 0 [46],d2 1 [7] 7 7,d2 2 [7] 7 7,d1 3 [7] 7,d2 4 [329] 7 329,d0 5 [27],d0 6 [331],d2 8 [7] 7 7,d0 9 [50],d0 10 [25],d2 14 [7] 7 7,d2 15 [7] 7 7,d0 16 [2],d0 17 [27],d0 18 [343],d2 20 [7] 7 7,d0 21 [51],d0 22 [25],d3 7 [328,330,332],d3 11 [334,335,336],d0 12 [333,337],⟨13,[327,338],[],none,true,true,true⟩,d3 19 [341,342,344],d3 23 [346,347,348],d0 24 [345,349],⟨25,[340,350],[],none,true,true,true⟩,d0 26 [339,351],⟨27,[326,352],[],none,true,false,false⟩,d1 28 [29] 29,d1 29 [354] 29,d2 30 [355,353] 29 355]
@[go_sem] def zyI:List DE:=[d2 0 [7] 7 7,d0 1 [35],d1 2 [29] 29,d2 3 [359] 29 359,d1 4 [29] 29,d1 5 [361] 29,d2 6 [362] 29 362,d0 7 [358,360,363],⟨8,[364],[],none,true,true,true⟩,d3 9 [357,365],d0 10 [366],d0 11 [356],d0 12 [356],d0 13 [367],d0 14 [368]]
@[go_sem] def zyM:List DE:=[d1 0 [54] 54,d2 1 [389] 54 389,d2 2 [7] 7 7,d0 3 [21],d0 4 [55],d0 5 [392,393],d0 6 [394],d0 7 [52],d0 8 [39],d0 9 [55],d0 10 [397,398],d0 11 [399],d0 12 [396,400],d0 13 [395,401],d3 14 [391,402],d0 15 [403],⟨16,[390,404],[],none,true,false,false⟩,d1 17 [54] 54,d2 18 [406,405] 54 406]
@[go_sem] def zzA:List DE:=[d1 0 [54] 54,d2 1 [407] 54 407,d2 2 [7] 7 7,d0 3 [22],d0 4 [55],d0 5 [410,411],d0 6 [412],d0 7 [52],d2 8 [7] 7 7,d0 9 [36],d0 10 [18],d0 11 [55],d0 12 [417,418],d0 13 [419],d0 14 [416,420],d0 15 [19],d0 16 [55],d0 17 [422,423],d0 18 [424],d0 19 [421,425],⟨20,[415,426],[],none,false,true,false⟩,d0 21 [414,427],d0 22 [413,428],d3 23 [409,429],d0 24 [430],⟨25,[408,431],[],none,true,false,false⟩,d1 26 [54] 54,d2 27 [433,432] 54 433]
@[go_sem] def zAa:List DE:=[d1 0 [54] 54,d2 1 [434] 54 434,d2 2 [7] 7 7,d0 3 [23],d0 4 [55],d0 5 [437,438],d0 6 [439],d0 7 [52],d0 8 [41],d0 9 [55],d0 10 [442,443],d0 11 [444],d0 12 [441,445],d0 13 [440,446],d3 14 [436,447],d0 15 [448],⟨16,[435,449],[],none,true,false,false⟩,d1 17 [54] 54,d2 18 [451,450] 54 451]
@[go_sem] def zzg:List DE:=[d1 0 [54] 54,d2 1 [452] 54 452,d2 2 [7] 7 7,d0 3 [25],d0 4 [55],d0 5 [455,456],d0 6 [457],d0 7 [52],d0 8 [32],d0 9 [55],d0 10 [460,461],d0 11 [462],d0 12 [459,463],d0 13 [458,464],d3 14 [454,465],d0 15 [466],⟨16,[453,467],[],none,true,false,false⟩,d1 17 [54] 54,d2 18 [469,468] 54 469]
@[go_sem] def zzW:List DE:=[d1 0 [54] 54,d2 1 [470] 54 470,d2 2 [7] 7 7,d0 3 [26],d0 4 [55],d0 5 [473,474],d0 6 [475],d0 7 [52],d0 8 [19],d0 9 [55],d0 10 [478,479],d0 11 [480],d0 12 [477,481],d0 13 [476,482],d3 14 [472,483],d0 15 [484],⟨16,[471,485],[],none,true,false,false⟩,d1 17 [54] 54,d2 18 [487,486] 54 487]
@[go_sem] def zzR:List DE:=[d1 0 [54] 54,d2 1 [489] 54 489,d1 2 [54] 54,d2 3 [491] 54 491,d1 4 [54] 54,d2 5 [493] 54 493,d2 6 [7] 7 7,d0 7 [24],d0 8 [52],d0 9 [20],d0 10 [16],d0 11 [499],d0 12 [498,500],d0 13 [501],d0 14 [497,502],d0 15 [496,503],d1 18 [54] 54,d2 19 [507] 54 507,d1 20 [54] 54,d2 21 [509] 54 509,d2 22 [7] 7 7,d0 23 [27],d0 24 [52],d0 25 [5],d0 26 [32],d1 27 [7] 7,d2 28 [516] 7 516,d3 16 [495,504],d0 17 [505],d3 29 [514,515,517],d0 30 [513,518],d0 31 [512,519],d3 32 [511,520],d0 33 [521],⟨34,[490,492,494,506,508,510,522],[],none,true,true,false⟩,⟨35,[523],[],none,true,true,true⟩,d1 36 [29] 29,d1 37 [525] 29,d2 38 [526,524] 29 526]
@[go_sem] def zCW:List DE:=[d2 0 [7] 7 7,d0 1 [2],d0 2 [3],d0 3 [28],d1 4 [29] 29,d2 5 [106] 29 106,d3 6 [103,104,105,107],d3 7 [102,108],d0 8 [109],d0 9 [101],d0 10 [101],d0 11 [110],d0 12 [111]]
end
end Go.Pm
