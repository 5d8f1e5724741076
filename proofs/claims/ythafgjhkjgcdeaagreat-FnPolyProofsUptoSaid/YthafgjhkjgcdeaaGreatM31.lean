/-
  Plain functions and their walks. Written by wip/tools/lift.py.
-/
import Derived.Test.YthafgjhkjgcdeaaGreatPS
namespace Go.Pm
open Go.Am IntKind
open Go.Proofs
set_option maxRecDepth 100000
attribute [local irreducible] pw pwx pw1 pwg qv qz qf
attribute [-simp] List.map_set
set_option linter.unusedSimpArgs false
set_option linter.unusedVariables false
noncomputable section
structure Group where
 P:Int
 Q:Int
 G:Int
structure Cipher where
 A:Int
 B:Int
structure l1Cur where
 code:(List Int)
 at_:Int
 seed:Int
structure Proof where
 Commits:(List Int)
 Challenges:(List Int)
 Responses:(List Int)
structure PolyProof where
 Places:(List Int)
 Powers:(List Int)
 Chain:(List Int)
 Pi:Proof
structure Bases where
 H:Int
 Hs:(List Int)
structure taker where
 l:(List Int)
structure Arr5 where
 f0:(List Int)
 f1:(List Int)
 f2:(List Int)
 f3:(List Int)
 f4:(List Int)
structure l3State where
 s:Int
 t:Int
def zfp (x:Int):List PV:=[.int .u8 x]
@[go_sem] theorem zEk {x:Int}:zfp x=[.int .u8 x]:=(rfl)
@[go_sem] theorem zrA {l:List Int}:List.map (List.map drop∘zfp) l=l.map zfp:=by refine List.map_congr_left fun x _=>?_;simp[go_sem]
@[go_sem] theorem zzJ {l:List Int}:List.map (List.map drop) (l.map zfp)=l.map zfp:=by rw[List.map_map];exact zrA
@[go_sem] theorem zBO {l:List Int}{i:Nat}{a:Int}:(l.map zfp).set i [.int .u8 a]=(l.set i a).map zfp:=by rw[List.map_set];rfl
def zao (x:Int):List PV:=[.int .i64 x]
@[go_sem] theorem zDz {x:Int}:zao x=[.int .i64 x]:=(rfl)
@[go_sem] theorem zqn {l:List Int}:List.map (List.map drop∘zao) l=l.map zao:=by refine List.map_congr_left fun x _=>?_;simp[go_sem]
@[go_sem] theorem zxK {l:List Int}:List.map (List.map drop) (l.map zao)=l.map zao:=by rw[List.map_map];exact zqn
@[go_sem] theorem zAh {l:List Int}{i:Nat}{a:Int}:(l.map zao).set i [.int .i64 a]=(l.set i a).map zao:=by rw[List.map_set];rfl
def zb0 (x:Cipher):List PV:=[.int .i64 x.A,.int .i64 x.B]
@[go_sem] theorem zxN {x:Cipher}:zb0 x=[.int .i64 x.A,.int .i64 x.B]:=(rfl)
@[go_sem] theorem znH {l:List Cipher}:List.map (List.map drop∘zb0) l=l.map zb0:=by refine List.map_congr_left fun x _=>?_;simp[go_sem]
@[go_sem] theorem zvr {l:List Cipher}:List.map (List.map drop) (l.map zb0)=l.map zb0:=by rw[List.map_map];exact znH
@[go_sem] theorem zxk {l:List Cipher}{i:Nat}{A:Int}{B:Int}:(l.map zb0).set i [.int .i64 A,.int .i64 B]=(l.set i (Cipher.mk A B)).map zb0:=by rw[List.map_set];rfl
def zfS (x:List Int):List PV:=[.sl false 1 (x.map zao)]
@[go_sem] theorem zAi {x:(List Int)}:zfS x=[.sl false 1 (x.map zao)]:=(rfl)
@[go_sem] theorem zo8 {l:List (List Int)}:List.map (List.map drop∘zfS) l=l.map zfS:=by refine List.map_congr_left fun x _=>?_;simp[go_sem]
@[go_sem] theorem zw8 {l:List (List Int)}:List.map (List.map drop) (l.map zfS)=l.map zfS:=by rw[List.map_map];exact zo8
@[go_sem] theorem zzy {l:List (List Int)}{i:Nat}{a:(List Int)}:(l.map zfS).set i [.sl false 1 (a.map zao)]=(l.set i a).map zfS:=by rw[List.map_set];rfl
def vA (x:List Int):PV:=.sl false 1 (x.map zfp)
@[go_sem] theorem zQj {x:(List Int)}:vA x=.sl false 1 (x.map zfp):=(rfl)
def vB (x0:List Int) (x1:Int) (x2:Int):PV:=.bx [.sl false 1 (x0.map zfp),.int .i64 x1,.int .u64 x2]
@[go_sem] theorem zOv {x0:(List Int)}{x1:Int}{x2:Int}:vB x0 x1 x2=.bx [.sl false 1 (x0.map zfp),.int .i64 x1,.int .u64 x2]:=(rfl)
def vC (x:List Int):PV:=.sl false 1 (x.map zao)
@[go_sem] theorem zPA {x:(List Int)}:vC x=.sl false 1 (x.map zao):=(rfl)
def vD (x:List Int):PV:=.sl true 1 (x.map zao)
@[go_sem] theorem zO2 {x:(List Int)}:vD x=.sl true 1 (x.map zao):=(rfl)
def vE (x:Group):PV:=.agg [.int .i64 x.P,.int .i64 x.Q,.int .i64 x.G]
@[go_sem] theorem zPF {x:Group}:vE x=.agg [.int .i64 x.P,.int .i64 x.Q,.int .i64 x.G]:=(rfl)
def vF (x:Cipher):PV:=.agg [.int .i64 x.A,.int .i64 x.B]
@[go_sem] theorem zPG {x:Cipher}:vF x=.agg [.int .i64 x.A,.int .i64 x.B]:=(rfl)
def vG (x:List Cipher):PV:=.sl true 2 (x.map zb0)
@[go_sem] theorem zQk {x:(List Cipher)}:vG x=.sl true 2 (x.map zb0):=(rfl)
def vH (x:List Cipher):PV:=.sl false 2 (x.map zb0)
@[go_sem] theorem zQi {x:(List Cipher)}:vH x=.sl false 2 (x.map zb0):=(rfl)
def vI (x:Bases):PV:=.agg [.int .i64 x.H,.sl true 1 (x.Hs.map zao)]
@[go_sem] theorem zOX {x:Bases}:vI x=.agg [.int .i64 x.H,.sl true 1 (x.Hs.map zao)]:=(rfl)
def vJ (x:Bases):PV:=.agg [.int .i64 x.H,.sl false 1 (x.Hs.map zao)]
@[go_sem] theorem zPC {x:Bases}:vJ x=.agg [.int .i64 x.H,.sl false 1 (x.Hs.map zao)]:=(rfl)
def vK (x:(List (List Int))):PV:=.sl false 1 (x.map zfS)
@[go_sem] theorem zO9 {x:(List (List Int))}:vK x=.sl false 1 (x.map zfS):=(rfl)
def vL (x:PolyProof):PV:=.agg [.sl false 1 (x.Places.map zao),.sl false 1 (x.Powers.map zao),.sl false 1 (x.Chain.map zao),.sl false 1 (x.Pi.Commits.map zao),.sl false 1 (x.Pi.Challenges.map zao),.sl false 1 (x.Pi.Responses.map zao)]
@[go_sem] theorem zOW {x:PolyProof}:vL x=.agg [.sl false 1 (x.Places.map zao),.sl false 1 (x.Powers.map zao),.sl false 1 (x.Chain.map zao),.sl false 1 (x.Pi.Commits.map zao),.sl false 1 (x.Pi.Challenges.map zao),.sl false 1 (x.Pi.Responses.map zao)]:=(rfl)
def vM (x0:Int) (x1:Int):PV:=.bx [.int .i64 x0,.int .i64 x1]
@[go_sem] theorem zQq {x0:Int}{x1:Int}:vM x0 x1=.bx [.int .i64 x0,.int .i64 x1]:=(rfl)
def vN (x:PolyProof):PV:=.agg [.sl true 1 (x.Places.map zao),.sl true 1 (x.Powers.map zao),.sl true 1 (x.Chain.map zao),.sl true 1 (x.Pi.Commits.map zao),.sl true 1 (x.Pi.Challenges.map zao),.sl true 1 (x.Pi.Responses.map zao)]
@[go_sem] theorem zPQ {x:PolyProof}:vN x=.agg [.sl true 1 (x.Places.map zao),.sl true 1 (x.Powers.map zao),.sl true 1 (x.Chain.map zao),.sl true 1 (x.Pi.Commits.map zao),.sl true 1 (x.Pi.Challenges.map zao),.sl true 1 (x.Pi.Responses.map zao)]:=(rfl)
def vO (x:Proof):PV:=.agg [.sl false 1 (x.Commits.map zao),.sl false 1 (x.Challenges.map zao),.sl false 1 (x.Responses.map zao)]
@[go_sem] theorem zPv {x:Proof}:vO x=.agg [.sl false 1 (x.Commits.map zao),.sl false 1 (x.Challenges.map zao),.sl false 1 (x.Responses.map zao)]:=(rfl)
def vP (x:Proof):PV:=.agg [.sl true 1 (x.Commits.map zao),.sl true 1 (x.Challenges.map zao),.sl true 1 (x.Responses.map zao)]
@[go_sem] theorem zOy {x:Proof}:vP x=.agg [.sl true 1 (x.Commits.map zao),.sl true 1 (x.Challenges.map zao),.sl true 1 (x.Responses.map zao)]:=(rfl)
@[go_sem] def zyd:List DE:=[d0 0 [0],d0 1 [4],d0 2 [5],d0 3 [6],d0 4 [0],d0 5 [8],d0 6 [9],d0 7 [10],d0 8 [11],d0 9 [7,12]]
@[go_sem] def zzR:List DE:=[d0 0 [0],d0 1 [14],d0 2 [15],d0 3 [16],d0 4 [0],d0 5 [18],d0 6 [19],d0 7 [20],d0 8 [17,21],d0 9 [22],d0 10 [23],d0 11 [24]]
@[go_sem] def zx7:List DE:=[d0 0 [0],d0 1 [44],d0 2 [45],d0 3 [46],d0 4 [0],d0 5 [48],d0 6 [49],d0 7 [50],d0 8 [51],d0 9 [47,52]]
def zct (a0c0:List Int) (a0c1:Int) (a0c2:Int):Option (Int×(List Int×Int×Int)):=
 ((if decide (a0c1<(a0c0.length:Int))=true then(
 (ix a0c0 a0c1).bind fun x5=>
 some (i64.wrap x5))else(
 some 0):Option Int).bind fun x3=>
 if decide ((i64.wrap (a0c1+1))≤(a0c0.length:Int))=true then(
 some (x3,(a0c0,i64.wrap (a0c1+1),u64.wrap ((u64.wrap ((u64.wrap (a0c2*6364136223846793005))+(u64.wrap x3)))+1442695040888963407))))else(
 some (i64.wrap (u64.wrap ((BitVec.ofInt u64.bits ((u64.wrap ((u64.wrap ((u64.wrap (a0c2*6364136223846793005))+(u64.wrap x3)))+1442695040888963407)).fdiv 1099511627776)&&&BitVec.ofInt u64.bits 255).toNat)),(a0c0,i64.wrap (a0c1+1),u64.wrap ((u64.wrap ((u64.wrap (a0c2*6364136223846793005))+(u64.wrap x3)))+1442695040888963407)))))
theorem zgQ:∀{a0c0}{a0c1}{a0c2}{r},zct a0c0 a0c1 a0c2=some r→PCalls Tryz.prog 111 [(.io,vB a0c0 a0c1 a0c2)] (Eo (.int .i64 r.1) [vB r.2.1 r.2.2.1 r.2.2.2]):=by
 intro a0c0 a0c1 a0c2 r hr
 apply pF 62 [0] [] [] [.tmp 2] hr zB4 Tryz.func111
 intro Φ hΦ hF g
 unfold zct at hF
 iterate 2 refine wW ?_
 refine wX zyd follows ?_
 try simp[go_sem,g]
 try intros
 refine wK [0,3,13] ?_
 refine wJ hF (fun x3=>[(0,.v (vB a0c0 a0c1 a0c2)),(3,.v (.int .i64 x3))]) (fun x3 hF=>?_) fun _ hj1 hF=>?_
 ·refine wW ?_
  refine wK [0,3] ?_
  refine wX zx7 follows ?_
  try simp[go_sem,g]
  try intros
  refine wK [0,3,53] ?_
  refine wI hF (fun h6 hF=>?_) (fun h6 hF=>?_)
  ·exact wl hΦ hF
  have g:=Ls g 40
  cases hΦ _ (zaa hF)
  iterate 2 refine wW ?_
  try simp[go_sem,g]
 refine wI hF (fun h4 hF=>?_) (fun h4 hF=>?_)
 ·refine wX zzR follows ?_
  obtain⟨x5,g,hF⟩:=Rx g hF
  exact wT (hj1 _) (zaa hF)
 exact wT (hj1 _) (zaa hF)
def zag (a0c0:List Int) (a0c1:Int) (a0c2:Int) (a1:Int):Option (Int×(List Int×Int×Int)):=
 if decide (a1≤1)=true then(
 some (0,(a0c0,a0c1,a0c2)))else(
 (zct a0c0 a0c1 a0c2).bind fun z2=>
 ((if decide (200<a1)=true then(
 (zct z2.2.1 z2.2.2.1 z2.2.2.2).bind fun z7=>
 some ((z7.2.1,z7.2.2.1,z7.2.2.2),i64.wrap ((i64.wrap (z2.1*256))+z7.1)))else(
 some ((z2.2.1,z2.2.2.1,z2.2.2.2),z2.1)):Option (((List Int×Int×Int)×Int))).bind fun x5=>
 gd (a1≠0)<|
 some (x5.2.tmod a1,(x5.1.1,x5.1.2.1,x5.1.2.2))))
theorem zai:∀{a0c0}{a0c1}{a0c2}{a1}{r},zag a0c0 a0c1 a0c2 a1=some r→PCalls Tryz.prog 41 [(.io,vB a0c0 a0c1 a0c2),(.sh,.int .i64 a1)] (Eo (.int .i64 r.1) [vB r.2.1 r.2.2.1 r.2.2.2,.junk]):=by
 intro a0c0 a0c1 a0c2 a1 r hr
 apply pF 20 [0] [] [] [.tmp 4] hr zHL Tryz.func41
 intro Φ hΦ hF g
 unfold zag at hF
 iterate 2 refine wW ?_
 refine wI hF (fun h1 hF=>?_) (fun h1 hF=>?_)
 ·exact wl hΦ hF
 refine wW ?_
 refine wC hF [.io] zgQ (fun z2 hF=>?_)
 iterate 2 refine wW ?_
 refine wJ hF (fun x5=>[(0,.v (vB x5.1.1 x5.1.2.1 x5.1.2.2)),(1,.v (.int .i64 a1)),(5,.v (.int .i64 x5.2))]) (fun x5 hF=>?_) fun _ hj3 hF=>?_
 ·obtain⟨g,hF⟩:=Rz g hF
  refine wK [0,4] ?_
  exact wm hΦ hF
 refine wI hF (fun h6 hF=>?_) (fun h6 hF=>?_)
 ·refine wC hF [.io] zgQ (fun z7 hF=>?_)
  exact wT (hj3 _) (zaa hF)
 exact wT (hj3 _) (zaa hF)
def zgG (a0c0:List Int) (a0c1:Int) (a0c2:Int) (a1:List Int):Option (Int×(List Int×Int×Int)):=
 (zag a0c0 a0c1 a0c2 (a1.length:Int)).bind fun z1=>
 (ix a1 z1.1).bind fun x2=>
 some (x2,(z1.2.1,z1.2.2.1,z1.2.2.2))
theorem zqS:∀{a0c0}{a0c1}{a0c2}{a1}{r},zgG a0c0 a0c1 a0c2 a1=some r→PCalls Tryz.prog 77 [(.io,vB a0c0 a0c1 a0c2),(.sh,vC a1)] (Eo (.int .i64 r.1) [vB r.2.1 r.2.2.1 r.2.2.2,.junk]):=by
 intro a0c0 a0c1 a0c2 a1 r hr
 apply pF 12 [0] [] [] [.tmp 4] hr zAc Tryz.func77
 intro Φ hΦ hF g
 unfold zgG at hF
 try simp[go_sem,g]
 try intros
 refine zaD ?_
 try simp[go_sem,g]
 try intros
 refine wC hF [.io,.sh] zai (fun z1 hF=>?_)
 obtain⟨x2,g,hF⟩:=Rx g hF
 exact wl hΦ hF
def zar (a0c0:List Int) (a0c1:Int) (a0c2:Int) (a1:List Int):Option (Int×(List Int×Int×Int)):=
 (zag a0c0 a0c1 a0c2 (a1.length:Int)).bind fun z1=>
 (ix a1 z1.1).bind fun x2=>
 some (x2,(z1.2.1,z1.2.2.1,z1.2.2.2))
theorem zan:∀{a0c0}{a0c1}{a0c2}{a1}{r},zar a0c0 a0c1 a0c2 a1=some r→PCalls Tryz.prog 77 [(.io,vB a0c0 a0c1 a0c2),(.mv,vD a1)] (Eo (.int .i64 r.1) [vB r.2.1 r.2.2.1 r.2.2.2,.junk]):=by
 intro a0c0 a0c1 a0c2 a1 r hr
 apply pF 12 [0] [] [] [.tmp 4] hr zAc Tryz.func77
 intro Φ hΦ hF g
 unfold zar at hF
 try simp[go_sem,g]
 try intros
 refine zaD ?_
 try simp[go_sem,g]
 try intros
 refine wC hF [.io,.sh] zai (fun z1 hF=>?_)
 obtain⟨x2,g,hF⟩:=Rx g hF
 exact wl hΦ hF
def zck (a0:Int) (a1:Int) (a2:Int):Option Bool:=
 ((if decide (a1≤a0)=true then(
 some (decide (a0≤a2)))else(
 some false):Option Bool).bind fun x3=>
 some x3)
theorem zdH:∀{a0}{a1}{a2}{r},zck a0 a1 a2=some r→PCalls Tryz.prog 94 [(.sh,.int .i64 a0),(.sh,.int .i64 a1),(.sh,.int .i64 a2)] (Eo (.bool r) [.junk,.junk,.junk]):=by
 intro a0 a1 a2 r hr
 apply pF 15 [] [] [] [.tmp 6] hr zFR Tryz.func94
 intro Φ hΦ hF g
 unfold zck at hF
 refine wW ?_
 refine wJ hF (fun x3=>[(6,.v (.bool x3))]) (fun x3 hF=>?_) fun _ hj1 hF=>?_
 ·exact wm hΦ hF
 refine wG hF (fun h4 hF=>?_) fun h4 hF=>?_
 ·exact wV h4 (hj1 _) (zaa hF)
 exact wV h4 (hj1 _) (zaa hF)
def zdY (a0:Int):Option Bool:=
 if decide (a0<2)=true then(
 some false)else(
 ((zbo (σ:=Int) (fun s5=>
 if decide ((i64.wrap (s5*s5))≤a0)=true then(
 gd (s5≠0)<|
 if((a0.tmod s5)==0)=true then(
 some (.out (.inr false)))else(
 some (.go (i64.wrap (s5+1)))))else(
 some (.out (.inl ())))) 2:Option (Unit ⊕ Bool)).bind (Sum.elim (fun x4=>
 some true) some)))
theorem zgU:∀{a0}{r},zdY a0=some r→PCalls Tryz.prog 132 [(.sh,.int .i64 a0)] (Eo (.bool r) [.junk]):=by
 intro a0 r hr
 apply pF 17 [] [] [] [.tmp 2] hr zA3 Tryz.func132
 intro Φ hΦ hF g
 unfold zdY at hF
 iterate 2 refine wW ?_
 refine wI hF (fun h1 hF=>?_) (fun h1 hF=>?_)
 ·exact wl hΦ hF
 iterate 2 refine wW ?_
 refine wS hF (fun x4=>[]) (fun x4 hF=>?_) fun _ hj2 hr3 hF=>?_
 ·exact wl hΦ hF
 refine wB ?_
 obtain⟨b12,hb13,hψ9⟩:=hF
 refine pL hb13 (fun s5=>[(0,.v (.int .i64 a0)),(3,.v (.int .i64 s5))]) (fun s5 _ _ ho7 hg8 hF=>?_)
 refine wW ?_
 refine wI hF (fun h10 hF=>?_) (fun h10 hF=>?_)
 ·refine wW ?_
  refine wB ?_
  obtain⟨g,hF⟩:=Rz g hF
  refine wK [0,3,16] ?_
  refine wI hF (fun h11 hF=>?_) (fun h11 hF=>?_)
  ·cases ho7 _ (zaa hF)
   cases hΦ _ (hr3 _ hψ9)
   refine wW ?_
   try simp[go_sem,g]
  refine wW ?_
  exact wT (hg8 _) (zaa hF)
 cases ho7 _ (zaa hF)
 exact wT (hj2 _) hψ9
def za6 (a0:Int) (a1:Int) (a2:Int):Option Int:=
 gd (a2≠0)<|
 ((zbo (σ:=Int×Int×Int) (fun s4=>
 if decide (0<s4.2.1)=true then(
 ((if((s4.2.1.tmod 2)==1)=true then(
 gd (a2≠0)<|
 some ((i64.wrap (s4.2.2*s4.1)).tmod a2))else(
 some s4.2.2):Option Int).bind fun x12=>
 gd (a2≠0)<|
 some (.go ((i64.wrap (s4.1*s4.1)).tmod a2,i64.wrap (s4.2.1.tdiv 2),x12))))else(
 some (.out s4.2.2))) (a0,a1,(1:Int).tmod a2):Option Int).bind fun x3=>
 some x3)
theorem zdX:∀{a0}{a1}{a2}{r},za6 a0 a1 a2=some r→PCalls Tryz.prog 131 [(.sh,.int .i64 a0),(.sh,.int .i64 a1),(.sh,.int .i64 a2)] (Eo (.int .i64 r) [.junk,.junk,.junk]):=by
 intro a0 a1 a2 r hr
 apply pF 28 [] [] [] [.tmp 6] hr zBf Tryz.func131
 intro Φ hΦ hF g
 unfold za6 at hF
 obtain⟨g,hF⟩:=Rz g hF
 iterate 2 refine wW ?_
 refine wJ hF (fun x3=>[(7,.v (.int .i64 x3))]) (fun x3 hF=>?_) fun _ hj1 hF=>?_
 ·exact wl hΦ hF
 refine wB ?_
 obtain⟨b14,hb15,hψ8⟩:=hF
 refine pL hb15 (fun s4=>[(0,.v (.int .i64 s4.1)),(1,.v (.int .i64 s4.2.1)),(2,.v (.int .i64 a2)),(7,.v (.int .i64 s4.2.2))]) (fun s4 _ _ ho6 hg7 hF=>?_)
 refine wW ?_
 refine wI hF (fun h9 hF=>?_) (fun h9 hF=>?_)
 ·refine wW ?_
  refine wB ?_
  have g:=Ld g 2
  refine wW ?_
  refine wJ hF (fun x12=>[(0,.v (.int .i64 s4.1)),(1,.v (.int .i64 s4.2.1)),(2,.v (.int .i64 a2)),(7,.v (.int .i64 x12))]) (fun x12 hF=>?_) fun _ hj10 hF=>?_
  ·obtain⟨g,hF⟩:=Rz g hF
   refine wK [0,1,2,7] ?_
   exact wT (hg7 _) (zaa hF)
  refine wI hF (fun h13 hF=>?_) (fun h13 hF=>?_)
  ·obtain⟨g,hF⟩:=Rz g hF
   exact wT (hj10 _) (zaa hF)
  exact wT (hj10 _) (zaa hF)
 cases ho6 _ (zaa hF)
 exact wT (hj1 _) hψ8
def zb4 (a0:Int):Option (Group×Bool):=
 (((zck a0 2 1000000).bind fun z4=>
 if(!z4)=true then(
 some true)else(
 (zdY a0).bind fun z6=>
 some (!z6)):Option Bool).bind fun x3=>
 if x3=true then(
 some ((Group.mk 0 0 0),false))else(
 ((zbo (σ:=Int) (fun s11=>
 if decide (s11≤2000000000)=true then(
 (zdY s11).bind fun z17=>
 if(!z17)=true then(
 some (.go (i64.wrap (s11+a0))))else(
 ((zbo (σ:=Int) (fun s22=>
 gd (a0≠0)<|
 (za6 s22 (i64.wrap ((i64.wrap (s11-1)).tdiv a0)) s11).bind fun z27=>
 if(z27==1)=true then(
 some (.go (i64.wrap (s22+1))))else(
 some (.out s22))) 2:Option Int).bind fun x21=>
 gd (a0≠0)<|
 (za6 x21 (i64.wrap ((i64.wrap (s11-1)).tdiv a0)) s11).bind fun z31=>
 some (.out (.inr ((Group.mk s11 a0 z31),true))))))else(
 some (.out (.inl ())))) (i64.wrap (a0+1)):Option (Unit ⊕ (Group×Bool))).bind (Sum.elim (fun x10=>
 some ((Group.mk 0 0 0),false)) some))))
theorem ziZ:∀{a0}{r},zb4 a0=some r→PCalls Tryz.prog 143 [(.sh,.int .i64 a0)] (Eo (.tup [vE r.1,.bool r.2]) [.junk]):=by
 intro a0 r hr
 apply pF 46 [] [] [] [.cell 2 24,.tmp 3] hr zDC Tryz.func143
 intro Φ hΦ hF g
 unfold zb4 at hF
 refine wW ?_
 refine wJ hF (fun x3=>[(0,.v (.int .i64 a0)),(2,.bl [.int .i64 0,.int .i64 0,.int .i64 0]),(13,.v (.bool x3))]) (fun x3 hF=>?_) fun _ hj1 hF=>?_
 ·refine wI hF (fun h7 hF=>?_) (fun h7 hF=>?_)
  ·exact wl hΦ hF
  iterate 2 refine wW ?_
  refine wS hF (fun x10=>[(2,.bl [.int .i64 0,.int .i64 0,.int .i64 0])]) (fun x10 hF=>?_) fun _ hj8 hr9 hF=>?_
  ·exact wl hΦ hF
  refine wB ?_
  obtain⟨b32,hb33,hψ15⟩:=hF
  refine pL hb33 (fun s11=>[(0,.v (.int .i64 a0)),(2,.bl [.int .i64 0,.int .i64 0,.int .i64 0]),(4,.v (.int .i64 s11))]) (fun s11 _ _ ho13 hg14 hF=>?_)
  refine wW ?_
  refine wI hF (fun h16 hF=>?_) (fun h16 hF=>?_)
  ·refine wW ?_
   refine wB ?_
   refine wC hF [.sh] zgU (fun z17 hF=>?_)
   refine wK [0,2,4,24] ?_
   refine wI hF (fun h18 hF=>?_) (fun h18 hF=>?_)
   ·refine wW ?_
    exact wT (hg14 _) (zaa hF)
   iterate 2 refine wW ?_
   refine wJ hF (fun x21=>[(0,.v (.int .i64 a0)),(2,.bl [.int .i64 0,.int .i64 0,.int .i64 0]),(4,.v (.int .i64 s11)),(5,.v (.int .i64 x21))]) (fun x21 hF=>?_) fun _ hj19 hF=>?_
   ·obtain⟨g,hF⟩:=Rz g hF
    refine wC hF [.sh,.sh,.sh] zdX (fun z31 hF=>?_)
    refine wK [2,3] ?_
    cases ho13 _ (zaa hF)
    cases hΦ _ (hr9 _ hψ15)
    try simp[go_sem,g]
   refine wB ?_
   obtain⟨b29,hb30,hψ26⟩:=hF
   refine pL hb30 (fun s22=>[(0,.v (.int .i64 a0)),(2,.bl [.int .i64 0,.int .i64 0,.int .i64 0]),(4,.v (.int .i64 s11)),(5,.v (.int .i64 s22))]) (fun s22 _ _ ho24 hg25 hF=>?_)
   obtain⟨g,hF⟩:=Rz g hF
   refine wC hF [.sh,.sh,.sh] zdX (fun z27 hF=>?_)
   refine wW ?_
   refine wI hF (fun h28 hF=>?_) (fun h28 hF=>?_)
   ·refine wW ?_
    refine wB ?_
    exact wT (hg25 _) (zaa hF)
   cases ho24 _ (zaa hF)
   exact wT (hj19 _) hψ26
  cases ho13 _ (zaa hF)
  exact wT (hj8 _) hψ15
 refine wC hF [.sh,.sh,.sh] zdH (fun z4 hF=>?_)
 refine wG hF (fun h5 hF=>?_) fun h5 hF=>?_
 ·exact wV h5 (hj1 _) (zaa hF)
 try simp[go_sem,g,h5]
 refine wC hF [.sh] zgU (fun z6 hF=>?_)
 exact wV h5 (hj1 _) (zaa hF)
def zcw (a0c0:List Int) (a0c1:Int) (a0c2:Int):Option (Group×(List Int×Int×Int)):=
 (zar a0c0 a0c1 a0c2 [3,5,5,7,11,11,13,23]).bind fun z1=>
 (zb4 z1.1).bind fun z2=>
 some (z2.1,(z1.2.1,z1.2.2.1,z1.2.2.2))
theorem zjA:∀{a0c0}{a0c1}{a0c2}{r},zcw a0c0 a0c1 a0c2=some r→PCalls Tryz.prog 144 [(.io,vB a0c0 a0c1 a0c2)] (Eo (vE r.1) [vB r.2.1 r.2.2.1 r.2.2.2]):=by
 intro a0c0 a0c1 a0c2 r hr
 apply pF 13 [0] [] [] [.cell 2 24] hr zBg Tryz.func144
 intro Φ hΦ hF g
 unfold zcw at hF
 refine wW ?_
 refine wC hF [.io,.mv] zan (fun z1 hF=>?_)
 refine wC hF [.sh] ziZ (fun z2 hF=>?_)
 refine wK [0,2,3] ?_
 exact wl hΦ hF
def zcu (a0:Int) (a1:Int):Option Int:=
 gd (a1≠0)<|
 gd (a1≠0)<|
 some ((i64.wrap ((a0.tmod a1)+a1)).tmod a1)
theorem zgO:∀{a0}{a1}{r},zcu a0 a1=some r→PCalls Tryz.prog 105 [(.sh,.int .i64 a0),(.sh,.int .i64 a1)] (Eo (.int .i64 r) [.junk,.junk]):=by
 intro a0 a1 r hr
 apply pF 12 [] [] [] [.tmp 4] hr zAL Tryz.func105
 intro Φ hΦ hF g
 unfold zcu at hF
 obtain⟨g,hF⟩:=Rz g hF
 obtain⟨g,hF⟩:=Rz g hF
 cases hΦ _ (zaa hF)
 iterate 2 refine wW ?_
 try simp[go_sem,g]
@[go_sem] def zBB:List DE:=[d0 0 [1],d0 1 [2],d1 2 [3] 3,d2 3 [9] 3 9,d1 5 [3] 3,d2 6 [12] 3 12,d3 4 [8,10],d3 7 [7,11,13],d0 8 [14]]
def zat (a0:Group) (a1:Int) (a2:Int):Option Int:=
 (zcu a2 a0.Q).bind fun z1=>
 (za6 a1 z1 a0.P).bind fun z2=>
 some z2
theorem zbb:∀{a0}{a1}{a2}{r},zat a0 a1 a2=some r→PCalls Tryz.prog 64 [(.sh,vE a0),(.sh,.int .i64 a1),(.sh,.int .i64 a2)] (Eo (.int .i64 r) [.junk,.junk,.junk]):=by
 intro a0 a1 a2 r hr
 apply pF 15 [] [] [] [.tmp 6] hr zFy Tryz.func64
 intro Φ hΦ hF g
 unfold zat at hF
 refine wW ?_
 refine wX zBB follows ?_
 refine wC hF [.sh,.sh] zgO (fun z1 hF=>?_)
 refine wC hF [.sh,.sh,.sh] zdX (fun z2 hF=>?_)
 refine wK [6] ?_
 exact wm hΦ hF
@[go_sem] def zDq:List DE:=[d2 0 [5] 5 5,d1 1 [5] 5,d2 2 [24] 5 24,d0 3 [0],d1 4 [5] 5,d2 5 [27] 5 27,d0 6 [28],d3 7 [26,29],d0 8 [30],d3 9 [23,25,31],d1 10 [5] 5,d2 11 [33,32] 5 33]
def zbC (a0c0:List Int) (a0c1:Int) (a0c2:Int):Option (Group×(List Int×Int×Int)):=
 (zag a0c0 a0c1 a0c2 6).bind fun z1=>
 if(z1.1==0)=true then(
 some ((Group.mk 1000000007 500000003 4),(z1.2.1,z1.2.2.1,z1.2.2.2)))else(
 if(z1.1==1)=true then(
 (zar z1.2.1 z1.2.2.1 z1.2.2.2 [101,1009,1019,65537,999983]).bind fun z4=>
 (zb4 z4.1).bind fun z5=>
 some (z5.1,(z4.2.1,z4.2.2.1,z4.2.2.2)))else(
 (zcw z1.2.1 z1.2.2.1 z1.2.2.2).bind fun z6=>
 (zag z6.2.1 z6.2.2.1 z6.2.2.2 (i64.wrap (z6.1.Q-1))).bind fun z7=>
 (zat z6.1 z6.1.G (i64.wrap (1+z7.1))).bind fun z8=>
 some ((Group.mk z6.1.P z6.1.Q z8),(z7.2.1,z7.2.2.1,z7.2.2.2))))
theorem zgF:∀{a0c0}{a0c1}{a0c2}{r},zbC a0c0 a0c1 a0c2=some r→PCalls Tryz.prog 73 [(.io,vB a0c0 a0c1 a0c2)] (Eo (vE r.1) [vB r.2.1 r.2.2.1 r.2.2.2]):=by
 intro a0c0 a0c1 a0c2 r hr
 apply pF 35 [0] [] [] [.cell 2 24] hr zGI Tryz.func73
 intro Φ hΦ hF g
 unfold zbC at hF
 refine wW ?_
 refine wC hF [.io,.sh] zai (fun z1 hF=>?_)
 refine wW ?_
 refine wB ?_
 refine wW ?_
 refine wI hF (fun h2 hF=>?_) (fun h2 hF=>?_)
 ·exact wl hΦ hF
 refine wW ?_
 refine wI hF (fun h3 hF=>?_) (fun h3 hF=>?_)
 ·refine wC hF [.io,.mv] zan (fun z4 hF=>?_)
  refine wC hF [.sh] ziZ (fun z5 hF=>?_)
  refine wK [0,2,3] ?_
  exact wl hΦ hF
 refine wW ?_
 refine wC hF [.io] zjA (fun z6 hF=>?_)
 refine wK [0,2,5] ?_
 refine wX zDq follows ?_
 refine wC hF [.io,.sh] zai (fun z7 hF=>?_)
 refine wC hF [.sh,.sh,.sh] zbb (fun z8 hF=>?_)
 refine wK [0,2,5] ?_
 exact wl hΦ hF
def zaP (a0c0:List Int) (a0c1:Int) (a0c2:Int) (a1:Int):Option (Bool×(List Int×Int×Int)):=
 (zag a0c0 a0c1 a0c2 a1).bind fun z1=>
 some ((z1.1==0),(z1.2.1,z1.2.2.1,z1.2.2.2))
theorem zbh:∀{a0c0}{a0c1}{a0c2}{a1}{r},zaP a0c0 a0c1 a0c2 a1=some r→PCalls Tryz.prog 39 [(.io,vB a0c0 a0c1 a0c2),(.sh,.int .i64 a1)] (Eo (.bool r.1) [vB r.2.1 r.2.2.1 r.2.2.2,.junk]):=by
 intro a0c0 a0c1 a0c2 a1 r hr
 apply pF 9 [0] [] [] [.tmp 4] hr zFV Tryz.func39
 intro Φ hΦ hF g
 unfold zaP at hF
 refine wW ?_
 refine wC hF [.io,.sh] zai (fun z1 hF=>?_)
 exact wl hΦ hF
def zbB (a0c0:List Int) (a0c1:Int) (a0c2:Int):Option (Group×(List Int×Int×Int)):=
 (zbC a0c0 a0c1 a0c2).bind fun z1=>
 (zag z1.2.1 z1.2.2.1 z1.2.2.2 24).bind fun z2=>
 ((if(z2.1==0)=true then(
 (zar z2.2.1 z2.2.2.1 z2.2.2.2 [0,i64.wrap (z1.1.P+2),4,(-7)]).bind fun z7=>
 some ((z7.2.1,z7.2.2.1,z7.2.2.2),z7.1,z1.1.Q,z1.1.G))else(
 if(z2.1==1)=true then(
 (zar z2.2.1 z2.2.2.1 z2.2.2.2 [0,1,i64.wrap (z1.1.Q+1),i64.wrap (z1.1.P-1)]).bind fun z9=>
 some ((z9.2.1,z9.2.2.1,z9.2.2.2),z1.1.P,z9.1,z1.1.G))else(
 if(z2.1==2)=true then(
 (zar z2.2.1 z2.2.2.1 z2.2.2.2 [0,1,i64.wrap (z1.1.P-1),z1.1.P,i64.wrap (z1.1.G+1)]).bind fun z11=>
 some ((z11.2.1,z11.2.2.1,z11.2.2.2),z1.1.P,z1.1.Q,z11.1))else(
 some ((z2.2.1,z2.2.2.1,z2.2.2.2),z1.1.P,z1.1.Q,z1.1.G)))):Option (((List Int×Int×Int)×Int×Int×Int))).bind fun x5=>
 some ((Group.mk x5.2.1 x5.2.2.1 x5.2.2.2),(x5.1.1,x5.1.2.1,x5.1.2.2)))
theorem zim:∀{a0c0}{a0c1}{a0c2}{r},zbB a0c0 a0c1 a0c2=some r→PCalls Tryz.prog 74 [(.io,vB a0c0 a0c1 a0c2)] (Eo (vE r.1) [vB r.2.1 r.2.2.1 r.2.2.2]):=by
 intro a0c0 a0c1 a0c2 r hr
 apply pF 44 [0] [] [] [.cell 2 24] hr zIT Tryz.func74
 intro Φ hΦ hF g
 unfold zbB at hF
 refine wW ?_
 refine wC hF [.io] zgF (fun z1 hF=>?_)
 refine wW ?_
 refine wC hF [.io,.sh] zai (fun z2 hF=>?_)
 refine wW ?_
 refine wJ hF (fun x5=>[(0,.v (vB x5.1.1 x5.1.2.1 x5.1.2.2)),(2,.bl [.int .i64 0,.int .i64 0,.int .i64 0]),(3,.bl [.int .i64 x5.2.1,.int .i64 x5.2.2.1,.int .i64 x5.2.2.2])]) (fun x5 hF=>?_) fun _ hj3 hF=>?_
 ·exact wl hΦ hF
 refine wB ?_
 refine wW ?_
 refine wI hF (fun h6 hF=>?_) (fun h6 hF=>?_)
 ·refine wC hF [.io,.mv] zan (fun z7 hF=>?_)
  exact wT (hj3 _) (zaa hF)
 refine wK [0,2,3,7,17] ?_
 refine wI hF (fun h8 hF=>?_) (fun h8 hF=>?_)
 ·refine wC hF [.io,.mv] zan (fun z9 hF=>?_)
  exact wT (hj3 _) (zaa hF)
 refine wW ?_
 refine wI hF (fun h10 hF=>?_) (fun h10 hF=>?_)
 ·refine wC hF [.io,.mv] zan (fun z11 hF=>?_)
  exact wT (hj3 _) (zaa hF)
 exact wT (hj3 _) (zaa hF)
@[go_sem] def zyf:List DE:=[d0 0 [0],d0 3 [0],d1 6 [3] 3,d2 7 [14] 3 14,d3 1 [8],d0 2 [9],d3 4 [11],d0 5 [10,12],d0 8 [13,15],d0 9 [16]]
def zba (a0c0:List Int) (a0c1:Int) (a0c2:Int) (a1:Group):Option (Int×(List Int×Int×Int)):=
 if decide (a1.Q<2)=true then(
 some (0,(a0c0,a0c1,a0c2)))else(
 (zag a0c0 a0c1 a0c2 60000).bind fun z2=>
 (zag z2.2.1 z2.2.2.1 z2.2.2.2 60000).bind fun z3=>
 gd (a1.Q≠0)<|
 some ((i64.wrap ((i64.wrap (z2.1*60000))+z3.1)).tmod a1.Q,(z3.2.1,z3.2.2.1,z3.2.2.2)))
theorem za3:∀{a0c0}{a0c1}{a0c2}{a1}{r},zba a0c0 a0c1 a0c2 a1=some r→PCalls Tryz.prog 130 [(.io,vB a0c0 a0c1 a0c2),(.sh,vE a1)] (Eo (.int .i64 r.1) [vB r.2.1 r.2.2.1 r.2.2.2,.junk]):=by
 intro a0c0 a0c1 a0c2 a1 r hr
 apply pF 17 [0] [] [] [.tmp 4] hr zDa Tryz.func130
 intro Φ hΦ hF g
 unfold zba at hF
 iterate 2 refine wW ?_
 refine wI hF (fun h1 hF=>?_) (fun h1 hF=>?_)
 ·exact wl hΦ hF
 refine wW ?_
 refine wX zyf follows ?_
 refine wC hF [.io,.sh] zai (fun z2 hF=>?_)
 refine wC hF [.io,.sh] zai (fun z3 hF=>?_)
 obtain⟨g,hF⟩:=Rz g hF
 refine wK [0,4] ?_
 exact wm hΦ hF
@[go_sem] def zx2:List DE:=[d2 0 [3] 3 3,d1 1 [3] 3,d2 2 [14] 3 14,d1 3 [3] 3,d2 4 [16] 3 16,d0 6 [0],d2 7 [3] 3 3,d3 5 [15,17],d3 8 [19,20],d3 9 [13,18,21],d0 10 [22]]
def zaU (a0c0:List Int) (a0c1:Int) (a0c2:Int) (a1:Group):Option (Int×(List Int×Int×Int)):=
 ((if decide (a1.P<3)=true then(
 some true)else(
 some (decide (a1.Q<1))):Option Bool).bind fun x3=>
 if x3=true then(
 some (1,(a0c0,a0c1,a0c2)))else(
 (zcu a1.G a1.P).bind fun z6=>
 (zba a0c0 a0c1 a0c2 a1).bind fun z7=>
 (zat a1 z6 z7.1).bind fun z8=>
 some (z8,(z7.2.1,z7.2.2.1,z7.2.2.2))))
theorem zaN:∀{a0c0}{a0c1}{a0c2}{a1}{r},zaU a0c0 a0c1 a0c2 a1=some r→PCalls Tryz.prog 145 [(.io,vB a0c0 a0c1 a0c2),(.sh,vE a1)] (Eo (.int .i64 r.1) [vB r.2.1 r.2.2.1 r.2.2.2,.junk]):=by
 intro a0c0 a0c1 a0c2 a1 r hr
 apply pF 23 [0] [] [] [.tmp 4] hr zC5 Tryz.func145
 intro Φ hΦ hF g
 unfold zaU at hF
 refine wW ?_
 refine wJ hF (fun x3=>[(0,.v (vB a0c0 a0c1 a0c2)),(3,.bl [.int .i64 a1.P,.int .i64 a1.Q,.int .i64 a1.G]),(12,.v (.bool x3))]) (fun x3 hF=>?_) fun _ hj1 hF=>?_
 ·refine wI hF (fun h5 hF=>?_) (fun h5 hF=>?_)
  ·exact wl hΦ hF
  refine wW ?_
  refine wX zx2 follows ?_
  refine wC hF [.sh,.sh] zgO (fun z6 hF=>?_)
  refine wC hF [.io,.sh] za3 (fun z7 hF=>?_)
  refine wC hF [.sh,.sh,.sh] zbb (fun z8 hF=>?_)
  refine wK [0,4] ?_
  exact wm hΦ hF
 refine wG hF (fun h4 hF=>?_) fun h4 hF=>?_
 ·exact wV h4 (hj1 _) (zaa hF)
 exact wV h4 (hj1 _) (zaa hF)
@[go_sem] def zDA:List DE:=[d0 0 [0],d2 1 [3] 3 3,d0 3 [0],d2 4 [3] 3 3,d3 2 [5,6],d3 5 [8,9],d0 6 [7,10],d2 7 [4,11] 4 4]
def zcO (a0c0:List Int) (a0c1:Int) (a0c2:Int) (a1:Group):Option (Cipher×(List Int×Int×Int)):=
 (zaU a0c0 a0c1 a0c2 a1).bind fun z1=>
 (zaU z1.2.1 z1.2.2.1 z1.2.2.2 a1).bind fun z2=>
 some ((Cipher.mk z1.1 z2.1),(z2.2.1,z2.2.2.1,z2.2.2.2))
theorem zi2:∀{a0c0}{a0c1}{a0c2}{a1}{r},zcO a0c0 a0c1 a0c2 a1=some r→PCalls Tryz.prog 75 [(.io,vB a0c0 a0c1 a0c2),(.sh,vE a1)] (Eo (vF r.1) [vB r.2.1 r.2.2.1 r.2.2.2,.junk]):=by
 intro a0c0 a0c1 a0c2 a1 r hr
 apply pF 12 [0] [] [] [.cell 4 84] hr zF7 Tryz.func75
 intro Φ hΦ hF g
 unfold zcO at hF
 refine wW ?_
 refine wX zDA follows ?_
 refine wC hF [.io,.sh] zaN (fun z1 hF=>?_)
 refine wC hF [.io,.sh] zaN (fun z2 hF=>?_)
 refine wK [0,4] ?_
 exact wm hΦ hF
def zdh (a0c0:List Int) (a0c1:Int) (a0c2:Int) (a1:Int):Option (List Int×(List Int×Int×Int)):=
 ((zbo (σ:=(List Int)×Int) (fun s4=>
 if decide (s4.2<a1)=true then(
 gd ((s4.1.length+1)*8≤140737488355328∧s4.1.length+1≤4611686018427387904)<|
 some (.go (s4.1++[s4.2],i64.wrap (s4.2+1))))else(
 some (.out s4.1))) ([],0):Option ((List Int))).bind fun x3=>
 ((zbo (σ:=(List Int×Int×Int)×List Int×Int) (fun s25=>
 if decide (0<s25.2.2)=true then(
 (zag s25.1.1 s25.1.2.1 s25.1.2.2 (i64.wrap (s25.2.2+1))).bind fun z31=>
 (ix s25.2.1 s25.2.2).bind fun x32=>
 (ix s25.2.1 z31.1).bind fun x33=>
 (ix (s25.2.1.set s25.2.2.toNat x33) z31.1).bind fun x34=>
 some (.go ((z31.2.1,z31.2.2.1,z31.2.2.2),(s25.2.1.set s25.2.2.toNat x33).set z31.1.toNat x32,i64.wrap (s25.2.2-1))))else(
 some (.out ((s25.1.1,s25.1.2.1,s25.1.2.2),s25.2.1)))) ((a0c0,a0c1,a0c2),x3,i64.wrap (a1-1)):Option (((List Int×Int×Int)×List Int))).bind fun x14=>
 some (x14.2,(x14.1.1,x14.1.2.1,x14.1.2.2))))
theorem zjz:∀{a0c0}{a0c1}{a0c2}{a1}{r},zdh a0c0 a0c1 a0c2 a1=some r→PCalls Tryz.prog 76 [(.io,vB a0c0 a0c1 a0c2),(.sh,.int .i64 a1)] (Eo (vD r.1) [vB r.2.1 r.2.2.1 r.2.2.2,.junk]):=by
 intro a0c0 a0c1 a0c2 a1 r hr
 apply pF 45 [0] [] [] [.tmp 4] hr zHo Tryz.func76
 intro Φ hΦ hF g
 unfold zdh at hF
 iterate 3 refine wW ?_
 refine wJ hF (fun x3=>[(0,.v (vB a0c0 a0c1 a0c2)),(1,.v (.int .i64 a1)),(5,.v (vD x3))]) (fun x3 hF=>?_) fun _ hj1 hF=>?_
 ·refine wW ?_
  refine wJ hF (fun x14=>[(0,.v (vB x14.1.1 x14.1.2.1 x14.1.2.2)),(5,.v (vD x14.2))]) (fun x14 hF=>?_) fun _ hj12 hF=>?_
  ·exact wl hΦ hF
  refine wB ?_
  obtain⟨b35,hb36,hψ29⟩:=hF
  refine pL hb36 (fun s25=>[(0,.v (vB s25.1.1 s25.1.2.1 s25.1.2.2)),(5,.v (vD s25.2.1)),(7,.v (.int .i64 s25.2.2))]) (fun s25 _ _ ho27 hg28 hF=>?_)
  refine wW ?_
  refine wI hF (fun h30 hF=>?_) (fun h30 hF=>?_)
  ·refine wW ?_
   refine wB ?_
   refine wC hF [.io,.sh] zai (fun z31 hF=>?_)
   refine wK [0,5,7,8] ?_
   obtain⟨x32,g,hF⟩:=Rx g hF
   obtain⟨x33,g,hF⟩:=Rx g hF
   refine wW ?_
   refine wK [0,5,7,8,9] ?_
   obtain⟨x34,g,hF⟩:=Rx g hF
   try simp only[List.length_set]at g
   refine wW ?_
   exact wT (hg28 _) (zaa hF)
  cases ho27 _ (zaa hF)
  exact wT (hj12 _) hψ29
 refine wB ?_
 obtain⟨b10,hb11,hψ8⟩:=hF
 refine pL hb11 (fun s4=>[(0,.v (vB a0c0 a0c1 a0c2)),(1,.v (.int .i64 a1)),(5,.v (vD s4.1)),(6,.v (.int .i64 s4.2))]) (fun s4 _ _ ho6 hg7 hF=>?_)
 refine wW ?_
 refine wI hF (fun h9 hF=>?_) (fun h9 hF=>?_)
 ·refine wW ?_
  refine wB ?_
  obtain⟨g,hF⟩:=Rg g hF
  refine wK [0,1,5,6] ?_
  exact wT (hg7 _) (zaa hF)
 cases ho6 _ (zaa hF)
 exact wT (hj1 _) hψ8
def zc2 (a0c0:List Int) (a0c1:Int) (a0c2:Int) (a1:Group) (a2:Int):Option (List Int×(List Int×Int×Int)):=
 ((zbo (σ:=(List Int×Int×Int)×Int×List Int) (fun s11=>
 if decide (0<s11.2.1)=true then(
 (zba s11.1.1 s11.1.2.1 s11.1.2.2 a1).bind fun z17=>
 gd ((s11.2.2.length+1)*8≤140737488355328∧s11.2.2.length+1≤4611686018427387904)<|
 some (.go ((z17.2.1,z17.2.2.1,z17.2.2.2),i64.wrap (s11.2.1-1),s11.2.2++[z17.1])))else(
 some (.out ((s11.1.1,s11.1.2.1,s11.1.2.2),s11.2.2)))) ((a0c0,a0c1,a0c2),a2,[]):Option (((List Int×Int×Int)×List Int))).bind fun x3=>
 some (x3.2,(x3.1.1,x3.1.2.1,x3.1.2.2)))
theorem zjc:∀{a0c0}{a0c1}{a0c2}{a1}{a2}{r},zc2 a0c0 a0c1 a0c2 a1 a2=some r→PCalls Tryz.prog 79 [(.io,vB a0c0 a0c1 a0c2),(.sh,vE a1),(.sh,.int .i64 a2)] (Eo (vD r.1) [vB r.2.1 r.2.2.1 r.2.2.2,.junk,.junk]):=by
 intro a0c0 a0c1 a0c2 a1 a2 r hr
 apply pF 19 [0] [] [] [.tmp 6] hr zF2 Tryz.func79
 intro Φ hΦ hF g
 unfold zc2 at hF
 iterate 2 refine wW ?_
 refine wJ hF (fun x3=>[(0,.v (vB x3.1.1 x3.1.2.1 x3.1.2.2)),(7,.v (vD x3.2))]) (fun x3 hF=>?_) fun _ hj1 hF=>?_
 ·exact wl hΦ hF
 refine wB ?_
 obtain⟨b18,hb19,hψ15⟩:=hF
 refine pL hb19 (fun s11=>[(0,.v (vB s11.1.1 s11.1.2.1 s11.1.2.2)),(2,.v (.int .i64 s11.2.1)),(4,.bl [.int .i64 a1.P,.int .i64 a1.Q,.int .i64 a1.G]),(7,.v (vD s11.2.2))]) (fun s11 _ _ ho13 hg14 hF=>?_)
 refine wW ?_
 refine wI hF (fun h16 hF=>?_) (fun h16 hF=>?_)
 ·refine wW ?_
  refine wB ?_
  refine wC hF [.io,.sh] za3 (fun z17 hF=>?_)
  obtain⟨g,hF⟩:=Rg g hF
  refine wK [0,2,4,7] ?_
  exact wT (hg14 _) (zaa hF)
 cases ho13 _ (zaa hF)
 exact wT (hj1 _) hψ15
@[go_sem] def zyW:List DE:=[d0 0 [7],d0 1 [0],d0 2 [2],d0 4 [0],d1 5 [4] 4,d2 6 [34] 4 34,d0 7 [35],d3 3 [30,31],⟨8,[33,36],[],none,true,true,true⟩,d0 9 [29,32],d0 10 [38,37]]
def zbY (a0c0:List Int) (a0c1:Int) (a0c2:Int) (a1:Group) (a2:Int):Option (List Int×(List Int×Int×Int)):=
 (zc2 a0c0 a0c1 a0c2 a1 a2).bind fun z1=>
 (zag z1.2.1 z1.2.2.1 z1.2.2.2 30).bind fun z2=>
 ((if(z2.1==0)=true then(
 gd ((z1.1.length+1)*8≤140737488355328∧z1.1.length+1≤4611686018427387904)<|
 some (.inr (z1.1++[0],(z2.2.1,z2.2.2.1,z2.2.2.2))))else(
 if(z2.1==1)=true then(
 if decide (0<a2)=true then(
 gd (1≤z1.1.length∧z1.1.length≤z1.1.length)<|
 some (.inr ((z1.1.take z1.1.length).drop 1,(z2.2.1,z2.2.2.1,z2.2.2.2))))else(
 some (.inl ((z2.2.1,z2.2.2.1,z2.2.2.2),z1.1))))else(
 if(z2.1==2)=true then(
 if decide (0<a2)=true then(
 (zag z2.2.1 z2.2.2.1 z2.2.2.2 a2).bind fun z11=>
 (zar z11.2.1 z11.2.2.1 z11.2.2.2 [(-1),a1.Q]).bind fun z12=>
 (ix z1.1 z11.1).bind fun x13=>
 some (.inl ((z12.2.1,z12.2.2.1,z12.2.2.2),z1.1.set z11.1.toNat z12.1)))else(
 some (.inl ((z2.2.1,z2.2.2.1,z2.2.2.2),z1.1))))else(
 some (.inl ((z2.2.1,z2.2.2.1,z2.2.2.2),z1.1))))):Option (((List Int×Int×Int)×List Int) ⊕ (List Int×(List Int×Int×Int)))).bind (Sum.elim (fun x5=>
 some (x5.2,(x5.1.1,x5.1.2.1,x5.1.2.2))) some))
theorem zf3:∀{a0c0}{a0c1}{a0c2}{a1}{a2}{r},zbY a0c0 a0c1 a0c2 a1 a2=some r→PCalls Tryz.prog 29 [(.io,vB a0c0 a0c1 a0c2),(.sh,vE a1),(.sh,.int .i64 a2)] (Eo (vC r.1) [vB r.2.1 r.2.2.1 r.2.2.2,.junk,.junk]):=by
 intro a0c0 a0c1 a0c2 a1 a2 r hr
 apply pF 40 [0] [6] [] [.tmp 6] hr zI5 Tryz.func29
 intro Φ hΦ hF g
 unfold zbY at hF
 refine wW ?_
 refine wC hF [.io,.sh,.sh] zjc (fun z1 hF=>?_)
 refine wW ?_
 refine wC hF [.io,.sh] zai (fun z2 hF=>?_)
 refine wW ?_
 refine wS hF (fun x5=>[(0,.v (vB x5.1.1 x5.1.2.1 x5.1.2.2)),(7,.v (vD x5.2))]) (fun x5 hF=>?_) fun _ hj3 hr4 hF=>?_
 ·refine wK [0,6] ?_
  exact wm hΦ hF
 refine wB ?_
 refine wK [0,2,4,7,13,14] ?_
 refine wI hF (fun h6 hF=>?_) (fun h6 hF=>?_)
 ·obtain⟨g,hF⟩:=Rg g hF
  cases hΦ _ (hr4 _ (zaa hF))
  refine wW ?_
  try simp[go_sem,g]
 refine wW ?_
 refine wI hF (fun h7 hF=>?_) (fun h7 hF=>?_)
 ·refine wW ?_
  refine wI hF (fun h8 hF=>?_) (fun h8 hF=>?_)
  ·obtain⟨g,hF⟩:=Rg g hF
   cases hΦ _ (hr4 _ (zaa hF))
   refine wW ?_
   try simp[go_sem,g]
  exact wT (hj3 _) (zaa hF)
 refine wW ?_
 refine wI hF (fun h9 hF=>?_) (fun h9 hF=>?_)
 ·refine wW ?_
  refine wI hF (fun h10 hF=>?_) (fun h10 hF=>?_)
  ·refine wX zyW follows ?_
   refine wC hF [.io,.sh] zai (fun z11 hF=>?_)
   refine wC hF [.io,.mv] zan (fun z12 hF=>?_)
   obtain⟨x13,g,hF⟩:=Rx g hF
   exact wT (hj3 _) (zaa hF)
  exact wT (hj3 _) (zaa hF)
 exact wT (hj3 _) (zaa hF)
def zaR (a0c0:List Int) (a0c1:Int) (a0c2:Int) (a1:Group):Option (Int×(List Int×Int×Int)):=
 (zaP a0c0 a0c1 a0c2 20).bind fun z1=>
 if z1.1=true then(
 (zar z1.2.1 z1.2.2.1 z1.2.2.2 [0,1,i64.wrap (a1.P-1),a1.P,(-1),5]).bind fun z3=>
 some (z3.1,(z3.2.1,z3.2.2.1,z3.2.2.2)))else(
 (zaU z1.2.1 z1.2.2.1 z1.2.2.2 a1).bind fun z4=>
 some (z4.1,(z4.2.1,z4.2.2.1,z4.2.2.2)))
theorem zbI:∀{a0c0}{a0c1}{a0c2}{a1}{r},zaR a0c0 a0c1 a0c2 a1=some r→PCalls Tryz.prog 78 [(.io,vB a0c0 a0c1 a0c2),(.sh,vE a1)] (Eo (.int .i64 r.1) [vB r.2.1 r.2.2.1 r.2.2.2,.junk]):=by
 intro a0c0 a0c1 a0c2 a1 r hr
 apply pF 18 [0] [] [] [.tmp 4] hr zF3 Tryz.func78
 intro Φ hΦ hF g
 unfold zaR at hF
 refine wW ?_
 refine wC hF [.io,.sh] zbh (fun z1 hF=>?_)
 refine wW ?_
 refine wI hF (fun h2 hF=>?_) (fun h2 hF=>?_)
 ·refine wC hF [.io,.mv] zan (fun z3 hF=>?_)
  refine wK [0,4] ?_
  exact wm hΦ hF
 refine wW ?_
 refine wC hF [.io,.sh] zaN (fun z4 hF=>?_)
 exact wl hΦ hF
@[go_sem] def zBn:List DE:=[d0 0 [0],d2 1 [3] 3 3,d0 3 [0],d2 4 [3] 3 3,d3 2 [5,6],d3 5 [8,9],d0 6 [7,10],d2 7 [4,11] 4 4]
def zbO (a0c0:List Int) (a0c1:Int) (a0c2:Int) (a1:Group):Option (Cipher×(List Int×Int×Int)):=
 (zaR a0c0 a0c1 a0c2 a1).bind fun z1=>
 (zaR z1.2.1 z1.2.2.1 z1.2.2.2 a1).bind fun z2=>
 some ((Cipher.mk z1.1 z2.1),(z2.2.1,z2.2.2.1,z2.2.2.2))
theorem zfI:∀{a0c0}{a0c1}{a0c2}{a1}{r},zbO a0c0 a0c1 a0c2 a1=some r→PCalls Tryz.prog 40 [(.io,vB a0c0 a0c1 a0c2),(.sh,vE a1)] (Eo (vF r.1) [vB r.2.1 r.2.2.1 r.2.2.2,.junk]):=by
 intro a0c0 a0c1 a0c2 a1 r hr
 apply pF 12 [0] [] [] [.cell 4 84] hr zFP Tryz.func40
 intro Φ hΦ hF g
 unfold zbO at hF
 refine wW ?_
 refine wX zBn follows ?_
 refine wC hF [.io,.sh] zbI (fun z1 hF=>?_)
 refine wC hF [.io,.sh] zbI (fun z2 hF=>?_)
 refine wK [0,4] ?_
 exact wm hΦ hF
@[go_sem] def zz8:List DE:=[d2 0 [7] 7 7,d0 1 [0],d2 2 [7] 7 7,d0 4 [8],d0 5 [10],d0 6 [11],d3 3 [75,76],d2 7 [2,74] 2 2,d0 8 [77],d0 9 [78],d0 10 [79],d0 11 [80]]
def zcY (a0c0:List Int) (a0c1:Int) (a0c2:Int):Option (Group×Int×List Cipher×List Int×List Int×(List Int×Int×Int)):=
 (zbC a0c0 a0c1 a0c2).bind fun z1=>
 (zaP z1.2.1 z1.2.2.1 z1.2.2.2 20).bind fun z2=>
 ((if z2.1=true then(
 (zbB z2.2.1 z2.2.2.1 z2.2.2.2).bind fun z7=>
 some ((z7.2.1,z7.2.2.1,z7.2.2.2),z7.1.P,z7.1.Q,z7.1.G))else(
 some ((z2.2.1,z2.2.2.1,z2.2.2.2),z1.1.P,z1.1.Q,z1.1.G)):Option (((List Int×Int×Int)×Int×Int×Int))).bind fun x5=>
 (zag x5.1.1 x5.1.2.1 x5.1.2.2 4).bind fun z8=>
 ((zbo (σ:=(List Int×Int×Int)×List Cipher×Int) (fun s19=>
 if decide (0<s19.2.2)=true then(
 (zcO s19.1.1 s19.1.2.1 s19.1.2.2 (Group.mk x5.2.1 x5.2.2.1 x5.2.2.2)).bind fun z25=>
 gd ((s19.2.1.length+1)*16≤140737488355328∧s19.2.1.length+1≤4611686018427387904)<|
 some (.go ((z25.2.1,z25.2.2.1,z25.2.2.2),s19.2.1++[z25.1],i64.wrap (s19.2.2-1))))else(
 some (.out ((s19.1.1,s19.1.2.1,s19.1.2.2),s19.2.1)))) ((z8.2.1,z8.2.2.1,z8.2.2.2),[],i64.wrap (1+z8.1)):Option (((List Int×Int×Int)×List Cipher))).bind fun x11=>
 (zdh x11.1.1 x11.1.2.1 x11.1.2.2 (x11.2.length:Int)).bind fun z28=>
 (zbY z28.2.1 z28.2.2.1 z28.2.2.2 (Group.mk x5.2.1 x5.2.2.1 x5.2.2.2) (x11.2.length:Int)).bind fun z29=>
 (zag z29.2.1 z29.2.2.1 z29.2.2.2 24).bind fun z30=>
 ((if(z30.1==0)=true then(
 (zbO z30.2.1 z30.2.2.1 z30.2.2.2 (Group.mk x5.2.1 x5.2.2.1 x5.2.2.2)).bind fun z35=>
 (ix x11.2 0).bind fun x36=>
 some ((z35.2.1,z35.2.2.1,z35.2.2.2),x11.2.set 0 z35.1,z28.1))else(
 if(z30.1==1)=true then(
 (zar z30.2.1 z30.2.2.1 z30.2.2.2 [(-1),(x11.2.length:Int),0]).bind fun z38=>
 (ix z28.1 0).bind fun x39=>
 some ((z38.2.1,z38.2.2.1,z38.2.2.2),x11.2,z28.1.set 0 z38.1))else(
 if(z30.1==2)=true then(
 some ((z30.2.1,z30.2.2.1,z30.2.2.2),[],z28.1))else(
 if(z30.1==3)=true then(
 zbo (σ:=(List Int×Int×Int)×List Cipher) (fun s50=>
 (zag s50.1.1 s50.1.2.1 s50.1.2.2 2).bind fun z55=>
 if decide ((s50.2.length:Int)<(i64.wrap (12+z55.1)))=true then(
 (ix s50.2 0).bind fun x57=>
 gd ((s50.2.length+1)*16≤140737488355328∧s50.2.length+1≤4611686018427387904)<|
 some (.go ((z55.2.1,z55.2.2.1,z55.2.2.2),s50.2++[x57])))else(
 some (.out ((z55.2.1,z55.2.2.1,z55.2.2.2),s50.2,z28.1)))) ((z30.2.1,z30.2.2.1,z30.2.2.2),x11.2))else(
 some ((z30.2.1,z30.2.2.1,z30.2.2.2),x11.2,z28.1))))):Option (((List Int×Int×Int)×List Cipher×List Int))).bind fun x33=>
 (zaR x33.1.1 x33.1.2.1 x33.1.2.2 (Group.mk x5.2.1 x5.2.2.1 x5.2.2.2)).bind fun z60=>
 some ((Group.mk x5.2.1 x5.2.2.1 x5.2.2.2),z60.1,x33.2.1,x33.2.2,z29.1,(z60.2.1,z60.2.2.1,z60.2.2.2)))))
theorem zjd:∀{a0c0}{a0c1}{a0c2}{r},zcY a0c0 a0c1 a0c2=some r→PCalls Tryz.prog 28 [(.io,vB a0c0 a0c1 a0c2)] (Eo (.tup [vE r.1,.int .i64 r.2.1,vG r.2.2.1,vD r.2.2.2.1,vC r.2.2.2.2.1]) [vB r.2.2.2.2.2.1 r.2.2.2.2.2.2.1 r.2.2.2.2.2.2.2]):=by
 intro a0c0 a0c1 a0c2 r hr
 apply pF 81 [0] [] [] [.cell 2 24,.tmp 3,.tmp 4,.tmp 5,.tmp 6] hr zH0 Tryz.func28
 intro Φ hΦ hF g
 unfold zcY at hF
 refine wW ?_
 refine wC hF [.io] zgF (fun z1 hF=>?_)
 refine wW ?_
 refine wC hF [.io,.sh] zbh (fun z2 hF=>?_)
 refine wK [0,2,7,15] ?_
 refine wJ hF (fun x5=>[(0,.v (vB x5.1.1 x5.1.2.1 x5.1.2.2)),(2,.bl [.int .i64 0,.int .i64 0,.int .i64 0]),(7,.bl [.int .i64 x5.2.1,.int .i64 x5.2.2.1,.int .i64 x5.2.2.2])]) (fun x5 hF=>?_) fun _ hj3 hF=>?_
 ·refine wW ?_
  refine wC hF [.io,.sh] zai (fun z8 hF=>?_)
  refine wW ?_
  refine wJ hF (fun x11=>[(0,.v (vB x11.1.1 x11.1.2.1 x11.1.2.2)),(2,.bl [.int .i64 0,.int .i64 0,.int .i64 0]),(7,.bl [.int .i64 x5.2.1,.int .i64 x5.2.2.1,.int .i64 x5.2.2.2]),(8,.v (vG x11.2))]) (fun x11 hF=>?_) fun _ hj9 hF=>?_
  ·try simp[go_sem,g]
   try intros
   refine wC hF [.io,.sh] zjz (fun z28 hF=>?_)
   refine wK [0,2,7,8,10] ?_
   try simp[go_sem,g]
   try intros
   refine wC hF [.io,.sh,.sh] zf3 (fun z29 hF=>?_)
   refine wW ?_
   refine wC hF [.io,.sh] zai (fun z30 hF=>?_)
   refine wW ?_
   refine wJ hF (fun x33=>[(0,.v (vB x33.1.1 x33.1.2.1 x33.1.2.2)),(2,.bl [.int .i64 0,.int .i64 0,.int .i64 0]),(7,.bl [.int .i64 x5.2.1,.int .i64 x5.2.2.1,.int .i64 x5.2.2.2]),(8,.v (vG x33.2.1)),(10,.v (vD x33.2.2)),(11,.v (vC z29.1))]) (fun x33 hF=>?_) fun _ hj31 hF=>?_
   ·refine wX zz8 follows ?_
    refine wC hF [.io,.sh] zbI (fun z60 hF=>?_)
    refine wK [0,2,3,4,5,6] ?_
    exact wm hΦ hF
   refine wB ?_
   refine wK [0,2,7,8,10,11,41,42] ?_
   refine wI hF (fun h34 hF=>?_) (fun h34 hF=>?_)
   ·refine wC hF [.io,.sh] zfI (fun z35 hF=>?_)
    obtain⟨x36,g,hF⟩:=Rxn g 0 hF
    exact wT (hj31 _) (zaa hF)
   refine wW ?_
   refine wI hF (fun h37 hF=>?_) (fun h37 hF=>?_)
   ·try simp[go_sem,g]
    try intros
    refine wC hF [.io,.mv] zan (fun z38 hF=>?_)
    obtain⟨x39,g,hF⟩:=Rxn g 0 hF
    exact wT (hj31 _) (zaa hF)
   refine wW ?_
   refine wI hF (fun h40 hF=>?_) (fun h40 hF=>?_)
   ·exact wT (hj31 _) (zaa hF)
   refine wW ?_
   refine wI hF (fun h41 hF=>?_) (fun h41 hF=>?_)
   ·refine wB ?_
    obtain⟨b58,hb59,hψ54⟩:=hF
    refine pL hb59 (fun s50=>[(0,.v (vB s50.1.1 s50.1.2.1 s50.1.2.2)),(2,.bl [.int .i64 0,.int .i64 0,.int .i64 0]),(7,.bl [.int .i64 x5.2.1,.int .i64 x5.2.2.1,.int .i64 x5.2.2.2]),(8,.v (vG s50.2)),(10,.v (vD z28.1)),(11,.v (vC z29.1))]) (fun s50 _ _ ho52 hg53 hF=>?_)
    try simp[go_sem,g]
    try intros
    refine wC hF [.io,.sh] zai (fun z55 hF=>?_)
    refine wK [0,2,7,8,10,11,67] ?_
    refine wI hF (fun h56 hF=>?_) (fun h56 hF=>?_)
    ·refine wW ?_
     refine wB ?_
     obtain⟨x57,g,hF⟩:=Rxn g 0 hF
     obtain⟨g,hF⟩:=Rg g hF
     exact wT (hg53 _) (zaa hF)
    cases ho52 _ (zaa hF)
    exact wT (hj31 _) hψ54
   exact wT (hj31 _) (zaa hF)
  refine wB ?_
  obtain⟨b26,hb27,hψ23⟩:=hF
  refine pL hb27 (fun s19=>[(0,.v (vB s19.1.1 s19.1.2.1 s19.1.2.2)),(2,.bl [.int .i64 0,.int .i64 0,.int .i64 0]),(7,.bl [.int .i64 x5.2.1,.int .i64 x5.2.2.1,.int .i64 x5.2.2.2]),(8,.v (vG s19.2.1)),(9,.v (.int .i64 s19.2.2))]) (fun s19 _ _ ho21 hg22 hF=>?_)
  refine wW ?_
  refine wI hF (fun h24 hF=>?_) (fun h24 hF=>?_)
  ·refine wW ?_
   refine wB ?_
   refine wC hF [.io,.sh] zi2 (fun z25 hF=>?_)
   obtain⟨g,hF⟩:=Rg g hF
   refine wK [0,2,7,8,9] ?_
   exact wT (hg22 _) (zaa hF)
  cases ho21 _ (zaa hF)
  exact wT (hj9 _) hψ23
 refine wI hF (fun h6 hF=>?_) (fun h6 hF=>?_)
 ·refine wC hF [.io] zim (fun z7 hF=>?_)
  exact wT (hj3 _) (zaa hF)
 exact wT (hj3 _) (zaa hF)
@[go_sem] def zFA:List DE:=[d2 0 [9] 9 9,d0 1 [10],d0 2 [11],d0 3 [12],d0 4 [13],d0 5 [8],d2 6 [9] 9 9,d0 7 [11],d0 8 [32],d0 9 [33],d0 10 [34],d3 11 [30,31,35],d2 12 [2,25] 2 2,d0 13 [26],d0 14 [27],d0 15 [28],d0 16 [29],d0 17 [36]]
def zcT (a0:List Int):Option (Group×Int×List Cipher×List Int×List Int×List Int):=
 (zcY a0 0 0).bind fun z1=>
 (zbY z1.2.2.2.2.2.1 z1.2.2.2.2.2.2.1 z1.2.2.2.2.2.2.2 z1.1 (i64.wrap ((i64.wrap (8*(z1.2.2.1.length:Int)))+2))).bind fun z2=>
 some (z1.1,z1.2.1,z1.2.2.1,z1.2.2.2.1,z1.2.2.2.2.1,z2.1)
theorem zhA:∀{a0}{r},zcT a0=some r→PCalls Tryz.prog 5 [(.sh,vA a0)] (Eo (.tup [vE r.1,.int .i64 r.2.1,vG r.2.2.1,vD r.2.2.2.1,vC r.2.2.2.2.1,vC r.2.2.2.2.2]) [.junk]):=by
 intro a0 r hr
 apply pF 37 [] [] [16] [.cell 2 24,.tmp 3,.tmp 4,.tmp 5,.tmp 6,.tmp 7] hr cl5 Tryz.func5
 intro Φ hΦ hF g
 unfold zcT at hF
 refine wW ?_
 refine wK [2,8] ?_
 refine wC hF [.io] zjd (fun z1 hF=>?_)
 refine wK [2,8,9,10,11,12,13] ?_
 refine wX zFA follows ?_
 try simp[go_sem,g]
 try intros
 refine wC hF [.io,.sh,.sh] zf3 (fun z2 hF=>?_)
 refine wK [2,3,4,5,6,7] ?_
 exact wm hΦ hF
def zbe (a0:Int) (a1:Int) (a2:Int):Option Bool:=
 ((if decide (a1≤a0)=true then(
 some (decide (a0≤a2)))else(
 some false):Option Bool).bind fun x3=>
 some x3)
theorem zcc:∀{a0}{a1}{a2}{r},zbe a0 a1 a2=some r→PCalls Tryz.prog 47 [(.sh,.int .i64 a0),(.sh,.int .i64 a1),(.sh,.int .i64 a2)] (Eo (.bool r) [.junk,.junk,.junk]):=by
 intro a0 a1 a2 r hr
 apply pF 15 [] [] [] [.tmp 6] hr zFx Tryz.func47
 intro Φ hΦ hF g
 unfold zbe at hF
 refine wW ?_
 refine wJ hF (fun x3=>[(6,.v (.bool x3))]) (fun x3 hF=>?_) fun _ hj1 hF=>?_
 ·exact wm hΦ hF
 refine wG hF (fun h4 hF=>?_) fun h4 hF=>?_
 ·exact wV h4 (hj1 _) (zaa hF)
 exact wV h4 (hj1 _) (zaa hF)
def zeS (a0:Int):Option Bool:=
 (zbe a0 2 2000000000).bind fun z1=>
 some z1
theorem zmT:∀{a0}{r},zeS a0=some r→PCalls Tryz.prog 160 [(.sh,.int .i64 a0)] (Eo (.bool r) [.junk]):=by
 intro a0 r hr
 apply pF 5 [] [] [] [.tmp 2] hr zB6 Tryz.func160
 intro Φ hΦ hF g
 unfold zeS at hF
 refine wW ?_
 refine wC hF [.sh,.sh,.sh] zcc (fun z1 hF=>?_)
 exact wl hΦ hF
def zea (a0:Int):Option Bool:=
 (((zeS a0).bind fun z4=>
 if(!z4)=true then(
 some true)else(
 if((a0.tmod 2)==0)=true then(
 some (a0 !=2))else(
 some false)):Option Bool).bind fun x3=>
 if x3=true then(
 some false)else(
 ((zbo (σ:=Int) (fun s11=>
 if decide ((i64.wrap (s11*s11))≤a0)=true then(
 gd (s11≠0)<|
 if((a0.tmod s11)==0)=true then(
 some (.out (.inr false)))else(
 some (.go (i64.wrap (s11+2)))))else(
 some (.out (.inl ())))) 3:Option (Unit ⊕ Bool)).bind (Sum.elim (fun x10=>
 some true) some))))
theorem zhQ:∀{a0}{r},zea a0=some r→PCalls Tryz.prog 121 [(.sh,.int .i64 a0)] (Eo (.bool r) [.junk]):=by
 intro a0 r hr
 apply pF 27 [] [] [] [.tmp 2] hr zAN Tryz.func121
 intro Φ hΦ hF g
 unfold zea at hF
 refine wW ?_
 refine wJ hF (fun x3=>[(0,.v (.int .i64 a0)),(15,.v (.bool x3))]) (fun x3 hF=>?_) fun _ hj1 hF=>?_
 ·refine wI hF (fun h7 hF=>?_) (fun h7 hF=>?_)
  ·exact wl hΦ hF
  iterate 2 refine wW ?_
  refine wS hF (fun x10=>[]) (fun x10 hF=>?_) fun _ hj8 hr9 hF=>?_
  ·exact wl hΦ hF
  refine wB ?_
  obtain⟨b18,hb19,hψ15⟩:=hF
  refine pL hb19 (fun s11=>[(0,.v (.int .i64 a0)),(3,.v (.int .i64 s11))]) (fun s11 _ _ ho13 hg14 hF=>?_)
  refine wW ?_
  refine wI hF (fun h16 hF=>?_) (fun h16 hF=>?_)
  ·refine wW ?_
   refine wB ?_
   obtain⟨g,hF⟩:=Rz g hF
   refine wK [0,3,26] ?_
   refine wI hF (fun h17 hF=>?_) (fun h17 hF=>?_)
   ·cases ho13 _ (zaa hF)
    cases hΦ _ (hr9 _ hψ15)
    refine wW ?_
    try simp[go_sem,g]
   refine wW ?_
   exact wT (hg14 _) (zaa hF)
  cases ho13 _ (zaa hF)
  exact wT (hj8 _) hψ15
 refine wC hF [.sh] zmT (fun z4 hF=>?_)
 refine wG hF (fun h5 hF=>?_) fun h5 hF=>?_
 ·exact wV h5 (hj1 _) (zaa hF)
 have g:=Ld g 2
 try simp[go_sem,g,h5]
 refine wG hF (fun h6 hF=>?_) fun h6 hF=>?_
 ·try simp[go_sem,g,h6,h5]
  exact wT (hj1 _) (zaa hF)
 try simp[go_sem,g,h6,h5]
 exact wT (hj1 _) (zaa hF)
def zbE (a0:Int) (a1:Int) (a2:Int):Option Int:=
 gd (a2≠0)<|
 ((zbo (σ:=Int×Int×Int) (fun s4=>
 if decide (0<s4.2.1)=true then(
 ((if((i64.wrap ((BitVec.ofInt i64.bits s4.2.1&&&BitVec.ofInt i64.bits 1).toNat))==1)=true then(
 gd (a2≠0)<|
 some ((i64.wrap (s4.2.2*s4.1)).tmod a2))else(
 some s4.2.2):Option Int).bind fun x12=>
 gd (a2≠0)<|
 some (.go ((i64.wrap (s4.1*s4.1)).tmod a2,s4.2.1.fdiv 2,x12))))else(
 some (.out s4.2.2))) (a0,a1,(1:Int).tmod a2):Option Int).bind fun x3=>
 some x3)
theorem zfD:∀{a0}{a1}{a2}{r},zbE a0 a1 a2=some r→PCalls Tryz.prog 84 [(.sh,.int .i64 a0),(.sh,.int .i64 a1),(.sh,.int .i64 a2)] (Eo (.int .i64 r) [.junk,.junk,.junk]):=by
 intro a0 a1 a2 r hr
 apply pF 28 [] [] [] [.tmp 6] hr zFc Tryz.func84
 intro Φ hΦ hF g
 unfold zbE at hF
 obtain⟨g,hF⟩:=Rz g hF
 iterate 2 refine wW ?_
 refine wJ hF (fun x3=>[(7,.v (.int .i64 x3))]) (fun x3 hF=>?_) fun _ hj1 hF=>?_
 ·exact wl hΦ hF
 refine wB ?_
 obtain⟨b14,hb15,hψ8⟩:=hF
 refine pL hb15 (fun s4=>[(0,.v (.int .i64 s4.1)),(1,.v (.int .i64 s4.2.1)),(2,.v (.int .i64 a2)),(7,.v (.int .i64 s4.2.2))]) (fun s4 _ _ ho6 hg7 hF=>?_)
 refine wW ?_
 refine wI hF (fun h9 hF=>?_) (fun h9 hF=>?_)
 ·refine wW ?_
  refine wB ?_
  refine wW ?_
  refine wJ hF (fun x12=>[(0,.v (.int .i64 s4.1)),(1,.v (.int .i64 s4.2.1)),(2,.v (.int .i64 a2)),(7,.v (.int .i64 x12))]) (fun x12 hF=>?_) fun _ hj10 hF=>?_
  ·obtain⟨g,hF⟩:=Rz g hF
   refine wK [0,1,2,7] ?_
   have g:=Ls g 1
   exact wT (hg7 _) (zaa hF)
  refine wI hF (fun h13 hF=>?_) (fun h13 hF=>?_)
  ·obtain⟨g,hF⟩:=Rz g hF
   exact wT (hj10 _) (zaa hF)
  exact wT (hj10 _) (zaa hF)
 cases ho6 _ (zaa hF)
 exact wT (hj1 _) hψ8
def zdb (a0:Group):Option Bool:=
 (((zbe a0.P 3 2000000000).bind fun z4=>
 if z4=true then(
 (zbe a0.Q 2 (i64.wrap (a0.P-1))).bind fun z6=>
 if z6=true then(
 gd (a0.Q≠0)<|
 if(((i64.wrap (a0.P-1)).tmod a0.Q)==0)=true then(
 (zbe a0.G 2 (i64.wrap (a0.P-1))).bind fun z9=>
 if z9=true then(
 (zea a0.P).bind fun z11=>
 if z11=true then(
 (zea a0.Q).bind fun z13=>
 if z13=true then(
 (zbE a0.G a0.Q a0.P).bind fun z15=>
 some (z15==1))else(
 some false))else(
 some false))else(
 some false))else(
 some false))else(
 some false))else(
 some false):Option Bool).bind fun x3=>
 some x3)
theorem zhH:∀{a0}{r},zdb a0=some r→PCalls Tryz.prog 46 [(.sh,vE a0)] (Eo (.bool r) [.junk]):=by
 intro a0 r hr
 apply pF 51 [] [] [] [.tmp 2] hr zFD Tryz.func46
 intro Φ hΦ hF g
 unfold zdb at hF
 refine wW ?_
 refine wJ hF (fun x3=>[(2,.v (.bool x3))]) (fun x3 hF=>?_) fun _ hj1 hF=>?_
 ·exact wm hΦ hF
 refine wC hF [.sh,.sh,.sh] zcc (fun z4 hF=>?_)
 refine wG hF (fun h5 hF=>?_) fun h5 hF=>?_
 ·try simp[go_sem,g,h5]
  refine wC hF [.sh,.sh,.sh] zcc (fun z6 hF=>?_)
  try simp[go_sem,g,h5]
  refine wG hF (fun h7 hF=>?_) fun h7 hF=>?_
  ·obtain⟨g,hF⟩:=Rz g hF
   try simp[go_sem,g,h7]
   refine wG hF (fun h8 hF=>?_) fun h8 hF=>?_
   ·try simp[go_sem,g,h8]
    refine wC hF [.sh,.sh,.sh] zcc (fun z9 hF=>?_)
    try simp[go_sem,g,h8]
    refine wG hF (fun h10 hF=>?_) fun h10 hF=>?_
    ·try simp[go_sem,g,h10]
     refine wC hF [.sh] zhQ (fun z11 hF=>?_)
     try simp[go_sem,g,h10]
     refine wG hF (fun h12 hF=>?_) fun h12 hF=>?_
     ·try simp[go_sem,g,h12]
      refine wC hF [.sh] zhQ (fun z13 hF=>?_)
      try simp[go_sem,g,h12]
      refine wG hF (fun h14 hF=>?_) fun h14 hF=>?_
      ·try simp[go_sem,g,h14]
       refine wC hF [.sh,.sh,.sh] zfD (fun z15 hF=>?_)
       exact wV h14 (hj1 _) (zaa hF)
      exact wV h14 (hj1 _) (zaa hF)
     exact wV h12 (hj1 _) (zaa hF)
    exact wV h10 (hj1 _) (zaa hF)
   exact wV h8 (hj1 _) (zaa hF)
  exact wV h7 (hj1 _) (zaa hF)
 exact wV h5 (hj1 _) (zaa hF)
def zcR (a0:Group) (a1:Int):Option Bool:=
 (((zbe a1 1 (i64.wrap (a0.P-1))).bind fun z4=>
 if z4=true then(
 (zbE a1 a0.Q a0.P).bind fun z6=>
 some (z6==1))else(
 some false):Option Bool).bind fun x3=>
 some x3)
theorem zfO:∀{a0}{a1}{r},zcR a0 a1=some r→PCalls Tryz.prog 123 [(.sh,vE a0),(.sh,.int .i64 a1)] (Eo (.bool r) [.junk,.junk]):=by
 intro a0 a1 r hr
 apply pF 19 [] [] [] [.tmp 4] hr zDi Tryz.func123
 intro Φ hΦ hF g
 unfold zcR at hF
 refine wW ?_
 refine wJ hF (fun x3=>[(4,.v (.bool x3))]) (fun x3 hF=>?_) fun _ hj1 hF=>?_
 ·exact wm hΦ hF
 refine wC hF [.sh,.sh,.sh] zcc (fun z4 hF=>?_)
 refine wG hF (fun h5 hF=>?_) fun h5 hF=>?_
 ·try simp[go_sem,g,h5]
  refine wC hF [.sh,.sh,.sh] zfD (fun z6 hF=>?_)
  exact wV h5 (hj1 _) (zaa hF)
 exact wV h5 (hj1 _) (zaa hF)
def zdf (a0:Group) (a1:Cipher):Option Bool:=
 (((zcR a0 a1.A).bind fun z4=>
 if z4=true then(
 (zcR a0 a1.B).bind fun z6=>
 some z6)else(
 some false):Option Bool).bind fun x3=>
 some x3)
theorem zjw:∀{a0}{a1}{r},zdf a0 a1=some r→PCalls Tryz.prog 158 [(.sh,vE a0),(.sh,vF a1)] (Eo (.bool r) [.junk,.junk]):=by
 intro a0 a1 r hr
 apply pF 15 [] [] [] [.tmp 4] hr zDp Tryz.func158
 intro Φ hΦ hF g
 unfold zdf at hF
 refine wW ?_
 refine wJ hF (fun x3=>[(4,.v (.bool x3))]) (fun x3 hF=>?_) fun _ hj1 hF=>?_
 ·exact wm hΦ hF
 refine wC hF [.sh,.sh] zfO (fun z4 hF=>?_)
 refine wG hF (fun h5 hF=>?_) fun h5 hF=>?_
 ·try simp[go_sem,g,h5]
  refine wC hF [.sh,.sh] zfO (fun z6 hF=>?_)
  exact wV h5 (hj1 _) (zaa hF)
 exact wV h5 (hj1 _) (zaa hF)
def zdo (a0:Cipher) (a1c0:Int) (a1c1:Int) (a1c2:Int):Option Bool:=
 (zdf (Group.mk a1c0 a1c1 a1c2) a0).bind fun z1=>
 some (!z1)
theorem zij:∀{a0}{a1c0}{a1c1}{a1c2}{r},zdo a0 a1c0 a1c1 a1c2=some r→PCalls Tryz.prog 157 [(.sh,vF a0),(.sh,.fp [.int .i64 a1c0,.int .i64 a1c1,.int .i64 a1c2])] (Eo (.bool r) [.junk,.junk]):=by
 intro a0 a1c0 a1c1 a1c2 r hr
 apply pF 8 [] [] [] [.tmp 3] hr zBc Tryz.func157
 intro Φ hΦ hF g
 unfold zdo at hF
 refine wW ?_
 refine wC hF [.sh,.sh] zjw (fun z1 hF=>?_)
 exact wl hΦ hF
def zaA (a0:List Cipher) (a1u0c0:Int) (a1u0c1:Int) (a1u0c2:Int):Option Int:=
 ((zap (σ:=Unit) (fun i5 s4=>
 (ix a0 i5).bind fun x11=>
 (zdo x11 a1u0c0 a1u0c1 a1u0c2).bind fun z12=>
 if z12=true then(
 some (.out (.inr i5)))else(
 some (.go ()))) (fun s4=>.inl ()) (a0.length) 0 ():Option (Unit ⊕ Int)).bind (Sum.elim (fun x3=>
 some (-1)) some))
theorem zda:∀{a0}{a1u0c0}{a1u0c1}{a1u0c2}{r},zaA a0 a1u0c0 a1u0c1 a1u0c2=some r→PCalls Tryz.prog 176 [(.sh,vH a0),(.sh,.func (.func 157) [] [.fp [.int .i64 a1u0c0,.int .i64 a1u0c1,.int .i64 a1u0c2]])] (Eo (.int .i64 r) [.junk,.junk]):=by
 intro a0 a1u0c0 a1u0c1 a1u0c2 r hr
 apply pF 19 [] [] [] [.tmp 4] hr zBX Tryz.func176
 intro Φ hΦ hF g
 unfold zaA at hF
 iterate 2 (try simp[go_sem,g];try intros;refine zaD ?_)
 refine wS hF (fun x3=>[]) (fun x3 hF=>?_) fun _ hj1 hr2 hF=>?_
 ·exact wl hΦ hF
 refine wB ?_
 obtain⟨b14,hb15,hψ8⟩:=hF
 refine pR hb15 (fun i5 s4=>[(0,.v (vH a0)),(1,.v (.func (.func 157) [] [.fp [.int .i64 a1u0c0,.int .i64 a1u0c1,.int .i64 a1u0c2]])),(7,.v (.int .i64 (a0.length:Int))),(8,.v (.int .i64 i5))]) (fun s4 _ hN16=>?_) (fun i5 s4 _ _ hi9 hi10 ho6 hg7 hF=>?_)
 ·exact wn hN16 (hj1 _) hψ8
 refine wW ?_
 refine wu hi9 hi10 ?_
 refine wW ?_
 refine wB ?_
 obtain⟨x11,g,hF⟩:=Rx g hF
 refine wW ?_
 refine wC hF [.sh] zij (fun z12 hF=>?_)
 refine wK [0,1,5,7,8,16] ?_
 refine wI hF (fun h13 hF=>?_) (fun h13 hF=>?_)
 ·cases ho6 _ (zaa hF)
  cases hΦ _ (hr2 _ hψ8)
  refine wW ?_
  try simp[go_sem,g]
 refine wW ?_
 exact wi hi9 hi10 (hg7 _) (zaa hF)
def zaF (a0:List Cipher) (a1u0c0:Int) (a1u0c1:Int) (a1u0c2:Int):Option Bool:=
 (zaA a0 a1u0c0 a1u0c1 a1u0c2).bind fun z1=>
 some (decide (0≤z1))
theorem zcW:∀{a0}{a1u0c0}{a1u0c1}{a1u0c2}{r},zaF a0 a1u0c0 a1u0c1 a1u0c2=some r→PCalls Tryz.prog 156 [(.sh,vH a0),(.sh,.func (.func 157) [] [.fp [.int .i64 a1u0c0,.int .i64 a1u0c1,.int .i64 a1u0c2]])] (Eo (.bool r) [.junk,.junk]):=by
 intro a0 a1u0c0 a1u0c1 a1u0c2 r hr
 apply pF 9 [] [] [] [.tmp 4] hr zDH Tryz.func156
 intro Φ hΦ hF g
 unfold zaF at hF
 refine wW ?_
 refine wC hF [.sh,.sh] zda (fun z1 hF=>?_)
 exact wl hΦ hF
def zcZ (a0:Group) (a1:List Cipher):Option Bool:=
 ((if decide ((a1.length:Int)≤24)=true then(
 (zaF a1 a0.P a0.Q a0.G).bind fun z5=>
 some (!z5))else(
 some false):Option Bool).bind fun x3=>
 some x3)
theorem zjg:∀{a0}{a1}{r},zcZ a0 a1=some r→PCalls Tryz.prog 114 [(.sh,vE a0),(.sh,vH a1)] (Eo (.bool r) [.junk,.junk]):=by
 intro a0 a1 r hr
 apply pF 14 [] [] [1000000] [.tmp 4] hr zBJ Tryz.func114
 intro Φ hΦ hF g
 unfold zcZ at hF
 refine wW ?_
 refine wJ hF (fun x3=>[(4,.v (.bool x3))]) (fun x3 hF=>?_) fun _ hj1 hF=>?_
 ·exact wm hΦ hF
 try simp[go_sem,g]
 try intros
 refine wG hF (fun h4 hF=>?_) fun h4 hF=>?_
 ·try simp[go_sem,g,h4]
  refine wC hF [.sh,.sh] zcW (fun z5 hF=>?_)
  exact wV h4 (hj1 _) (zaa hF)
 exact wV h4 (hj1 _) (zaa hF)
def zch (a0:Group) (a1:List Cipher):Option Bool:=
 (((zbe (a1.length:Int) 1 12).bind fun z4=>
 if z4=true then(
 (zcZ a0 a1).bind fun z6=>
 some z6)else(
 some false):Option Bool).bind fun x3=>
 some x3)
theorem zfz:∀{a0}{a1}{r},zch a0 a1=some r→PCalls Tryz.prog 43 [(.sh,vE a0),(.sh,vH a1)] (Eo (.bool r) [.junk,.junk]):=by
 intro a0 a1 r hr
 apply pF 13 [] [] [] [.tmp 4] hr zFb Tryz.func43
 intro Φ hΦ hF g
 unfold zch at hF
 refine wW ?_
 refine wJ hF (fun x3=>[(4,.v (.bool x3))]) (fun x3 hF=>?_) fun _ hj1 hF=>?_
 ·exact wm hΦ hF
 try simp[go_sem,g]
 try intros
 refine wC hF [.sh,.sh,.sh] zcc (fun z4 hF=>?_)
 refine wG hF (fun h5 hF=>?_) fun h5 hF=>?_
 ·try simp[go_sem,g,h5]
  refine wC hF [.sh,.sh] zjg (fun z6 hF=>?_)
  exact wV h5 (hj1 _) (zaa hF)
 exact wV h5 (hj1 _) (zaa hF)
def zgi (a0:ByteArray) (a1:List Int):Option ((List Int)):=
 ((zbo (σ:=(List Int)×Int) (fun s4=>
 if decide (s4.2<(a0.size:Int))=true then(
 (ixs a0 s4.2).bind fun x10=>
 gd ((s4.1.length+1)*8≤140737488355328∧s4.1.length+1≤4611686018427387904)<|
 some (.go (s4.1++[i64.wrap x10],i64.wrap (s4.2+1))))else(
 some (.out s4.1))) ([(a0.size:Int)],0):Option ((List Int))).bind fun x3=>
 gd ((x3.length+a1.length)*8≤140737488355328∧x3.length+a1.length≤4611686018427387904)<|
 some (x3++a1))
theorem zny:∀{a0}{a1}{r},zgi a0 a1=some r→PCalls Tryz.prog 164 [(.sh,.str a0),(.sh,vC a1)] (Eo (vD r) [.junk,.junk]):=by
 intro a0 a1 r hr
 apply pF 26 [] [] [] [.tmp 4] hr zAU Tryz.func164
 intro Φ hΦ hF g
 unfold zgi at hF
 iterate 3 refine wW ?_
 refine wJ hF (fun x3=>[(1,.v (vC a1)),(5,.v (vD x3))]) (fun x3 hF=>?_) fun _ hj1 hF=>?_
 ·obtain⟨g,hF⟩:=Rg g hF
  refine wK [4] ?_
  exact wm hΦ hF
 refine wB ?_
 obtain⟨b11,hb12,hψ8⟩:=hF
 refine pL hb12 (fun s4=>[(0,.v (.str a0)),(1,.v (vC a1)),(5,.v (vD s4.1)),(11,.v (.int .i64 (a0.size:Int))),(12,.v (.int .i64 s4.2))]) (fun s4 _ _ ho6 hg7 hF=>?_)
 refine wW ?_
 refine wI hF (fun h9 hF=>?_) (fun h9 hF=>?_)
 ·refine wW ?_
  refine wB ?_
  refine wK [0,1,5,6,11,12] ?_
  obtain⟨x10,g,hF⟩:=Rxs g hF
  obtain⟨g,hF⟩:=Rg g hF
  refine wW ?_
  exact wT (hg7 _) (zaa hF)
 cases ho6 _ (zaa hF)
 exact wT (hj1 _) hψ8
def zfe (a0:Int):Option Bool:=
 (zbe a0 0 4611686018427387903).bind fun z1=>
 some z1
theorem znf:∀{a0}{r},zfe a0=some r→PCalls Tryz.prog 192 [(.sh,.int .i64 a0)] (Eo (.bool r) [.junk]):=by
 intro a0 r hr
 apply pF 5 [] [] [] [.tmp 2] hr zCL Tryz.func192
 intro Φ hΦ hF g
 unfold zfe at hF
 refine wW ?_
 refine wC hF [.sh,.sh,.sh] zcc (fun z1 hF=>?_)
 exact wl hΦ hF
def zb3 (a0:Int):Option Bool:=
 (zfe a0).bind fun z1=>
 some (!z1)
theorem zhp:∀{a0}{r},zb3 a0=some r→PCalls Tryz.prog 149 [(.sh,.int .i64 a0),(.sh,.fp [.func (.func 192) [] []])] (Eo (.bool r) [.junk,.junk]):=by
 intro a0 r hr
 apply pF 8 [] [] [] [.tmp 3] hr znT Tryz.func149
 intro Φ hΦ hF g
 unfold zb3 at hF
 refine wW ?_
 refine wC hF [.sh] znf (fun z1 hF=>?_)
 exact wl hΦ hF
def zbt (a0:List Int):Option Int:=
 ((zap (σ:=Unit) (fun i5 s4=>
 (ix a0 i5).bind fun x11=>
 (zb3 x11).bind fun z12=>
 if z12=true then(
 some (.out (.inr i5)))else(
 some (.go ()))) (fun s4=>.inl ()) (a0.length) 0 ():Option (Unit ⊕ Int)).bind (Sum.elim (fun x3=>
 some (-1)) some))
theorem zeh:∀{a0}{r},zbt a0=some r→PCalls Tryz.prog 171 [(.sh,vC a0),(.sh,.func (.func 149) [] [.fp [.func (.func 192) [] []]])] (Eo (.int .i64 r) [.junk,.junk]):=by
 intro a0 r hr
 apply pF 19 [] [] [] [.tmp 4] hr znr Tryz.func171
 intro Φ hΦ hF g
 unfold zbt at hF
 iterate 2 (try simp[go_sem,g];try intros;refine zaD ?_)
 refine wS hF (fun x3=>[]) (fun x3 hF=>?_) fun _ hj1 hr2 hF=>?_
 ·exact wl hΦ hF
 refine wB ?_
 obtain⟨b14,hb15,hψ8⟩:=hF
 refine pR hb15 (fun i5 s4=>[(0,.v (vC a0)),(1,.v (.func (.func 149) [] [.fp [.func (.func 192) [] []]])),(7,.v (.int .i64 (a0.length:Int))),(8,.v (.int .i64 i5))]) (fun s4 _ hN16=>?_) (fun i5 s4 _ _ hi9 hi10 ho6 hg7 hF=>?_)
 ·exact wn hN16 (hj1 _) hψ8
 refine wW ?_
 refine wu hi9 hi10 ?_
 refine wW ?_
 refine wB ?_
 obtain⟨x11,g,hF⟩:=Rx g hF
 refine wW ?_
 refine wC hF [.sh] zhp (fun z12 hF=>?_)
 refine wK [0,1,5,7,8,16] ?_
 refine wI hF (fun h13 hF=>?_) (fun h13 hF=>?_)
 ·cases ho6 _ (zaa hF)
  cases hΦ _ (hr2 _ hψ8)
  refine wW ?_
  try simp[go_sem,g]
 refine wW ?_
 exact wi hi9 hi10 (hg7 _) (zaa hF)
def zbf (a0:List Int):Option Bool:=
 (zbt a0).bind fun z1=>
 some (decide (0≤z1))
theorem zd0:∀{a0}{r},zbf a0=some r→PCalls Tryz.prog 148 [(.sh,vC a0),(.sh,.func (.func 149) [] [.fp [.func (.func 192) [] []]])] (Eo (.bool r) [.junk,.junk]):=by
 intro a0 r hr
 apply pF 9 [] [] [] [.tmp 4] hr znR Tryz.func148
 intro Φ hΦ hF g
 unfold zbf at hF
 refine wW ?_
 refine wC hF [.sh,.sh] zeh (fun z1 hF=>?_)
 exact wl hΦ hF
def zcS (a0:List Int):Option Bool:=
 (zbf a0).bind fun z1=>
 some (!z1)
theorem zhL:∀{a0}{r},zcS a0=some r→PCalls Tryz.prog 81 [(.sh,vC a0),(.sh,.func (.func 192) [] [])] (Eo (.bool r) [.junk,.junk]):=by
 intro a0 r hr
 apply pF 9 [] [] [1000000] [.tmp 4] hr zqy Tryz.func81
 intro Φ hΦ hF g
 unfold zcS at hF
 refine wW ?_
 refine wC hF [.sh,.sh] zd0 (fun z1 hF=>?_)
 exact wl hΦ hF
def zeA (a0:List Int):Option Bool:=
 ((if decide ((a0.length:Int)≤400)=true then(
 (zcS a0).bind fun z5=>
 some z5)else(
 some false):Option Bool).bind fun x3=>
 some x3)
theorem zmd:∀{a0}{r},zeA a0=some r→PCalls Tryz.prog 177 [(.sh,vC a0)] (Eo (.bool r) [.junk]):=by
 intro a0 r hr
 apply pF 10 [] [] [] [.tmp 2] hr zDe Tryz.func177
 intro Φ hΦ hF g
 unfold zeA at hF
 refine wW ?_
 refine wJ hF (fun x3=>[(2,.v (.bool x3))]) (fun x3 hF=>?_) fun _ hj1 hF=>?_
 ·exact wm hΦ hF
 try simp[go_sem,g]
 try intros
 refine wG hF (fun h4 hF=>?_) fun h4 hF=>?_
 ·try simp[go_sem,g,h4]
  refine wC hF [.sh,.sh] zhL (fun z5 hF=>?_)
  exact wV h4 (hj1 _) (zaa hF)
 exact wV h4 (hj1 _) (zaa hF)
def zgR (a0:List Int):Option Int:=
 gd (([(a0.length:Int)].length+a0.length)*8≤140737488355328∧[(a0.length:Int)].length+a0.length≤4611686018427387904)<|
 (some ([(a0.length:Int)]++a0)).bind fun x1=>
 ((zap (σ:=Int×Int) (fun i7 s6=>
 (ix x1 i7).bind fun x13=>
 some (.go ((i64.wrap ((i64.wrap ((i64.wrap (48271*((i64.wrap ((i64.wrap ((i64.wrap (48271*s6.1))+(i64.wrap ((BitVec.ofInt i64.bits x13&&&BitVec.ofInt i64.bits 2147483647).toNat))))+1)).tmod 2147483647)))+(x13.fdiv 2147483648)))+1)).tmod 2147483647,(i64.wrap ((i64.wrap ((i64.wrap (69621*((i64.wrap ((i64.wrap ((i64.wrap (69621*s6.2))+(i64.wrap ((BitVec.ofInt i64.bits x13&&&BitVec.ofInt i64.bits 2147483647).toNat))))+1)).tmod 2147483647)))+(x13.fdiv 2147483648)))+1)).tmod 2147483647))) (fun s6=>(s6.1,s6.2)) (x1.length) 0 (1,2):Option ((Int×Int))).bind fun x5=>
 some (i64.wrap ((i64.wrap (x5.1*2147483648))+x5.2)))
theorem zrb:∀{a0}{r},zgR a0=some r→PCalls Tryz.prog 178 [(.sh,vC a0)] (Eo (.int .i64 r) [.junk]):=by
 intro a0 r hr
 apply pF 52 [] [] [] [.tmp 2] hr zC2 Tryz.func178
 intro Φ hΦ hF g
 unfold zgR at hF
 obtain⟨g,hF⟩:=Rg g hF
 obtain⟨x1,e2,hF⟩:=zeo hF
 have g:=And.intro g (show[.int .i64 (a0.length:Int)]::(List.map zao a0)=x1.map zao by injection e2 with e2;rw[←e2];simp[go_sem])
 iterate 2 (try simp[go_sem,g];try intros;refine zaD ?_)
 try simp[go_sem,g]
 try intros
 refine wK [3,4,13,14,15] ?_
 refine wJ hF (fun x5=>[(3,.v (.int .i64 x5.1)),(4,.v (.int .i64 x5.2))]) (fun x5 hF=>?_) fun _ hj3 hF=>?_
 ·have g:=Ls g 31
  exact wl hΦ hF
 refine wB ?_
 obtain⟨b14,hb15,hψ10⟩:=hF
 refine pR hb15 (fun i7 s6=>[(3,.v (.int .i64 s6.1)),(4,.v (.int .i64 s6.2)),(13,.v (vD x1)),(14,.v (.int .i64 (x1.length:Int))),(15,.v (.int .i64 i7))]) (fun s6 _ hN16=>?_) (fun i7 s6 _ _ hi11 hi12 ho8 hg9 hF=>?_)
 ·exact wn hN16 (hj3 _) hψ10
 refine wW ?_
 refine wu hi11 hi12 ?_
 refine wW ?_
 refine wB ?_
 obtain⟨x13,g,hF⟩:=Rx g hF
 have g:=Ls g 31
 refine wW ?_
 refine wK [3,4,7,8,13,14,15] ?_
 have g:=Ld g 2147483647
 refine wW ?_
 refine wK [3,4,7,8,13,14,15] ?_
 refine wW ?_
 refine wK [3,4,13,14,15] ?_
 exact wi hi11 hi12 (hg9 _) (zaa hF)
def zff (a0:List Int):Option (Int×Bool):=
 (zeA a0).bind fun z1=>
 if(!z1)=true then(
 some (0,false))else(
 (zgR a0).bind fun z3=>
 some (z3,true))
theorem znO:∀{a0}{r},zff a0=some r→PCalls Tryz.prog 163 [(.sh,vC a0)] (Eo (.tup [.int .i64 r.1,.bool r.2]) [.junk]):=by
 intro a0 r hr
 apply pF 9 [] [] [] [.tmp 2,.tmp 3] hr zCv Tryz.func163
 intro Φ hΦ hF g
 unfold zff at hF
 refine wW ?_
 refine wC hF [.sh] zmd (fun z1 hF=>?_)
 refine wW ?_
 refine wI hF (fun h2 hF=>?_) (fun h2 hF=>?_)
 ·exact wl hΦ hF
 refine wW ?_
 refine wC hF [.sh] zrb (fun z3 hF=>?_)
 exact wl hΦ hF
def zcC (a0:ByteArray) (a1:List Int):Option (Int×Bool):=
 ((if decide (40<(a0.size:Int))=true then(
 some true)else(
 some (decide (400<(a1.length:Int)))):Option Bool).bind fun x3=>
 if x3=true then(
 some (0,false))else(
 (zgi a0 a1).bind fun z6=>
 (zff z6).bind fun z7=>
 some (z7.1,z7.2)))
theorem zhI:∀{a0}{a1}{r},zcC a0 a1=some r→PCalls Tryz.prog 125 [(.sh,.str a0),(.sh,vC a1)] (Eo (.tup [.int .i64 r.1,.bool r.2]) [.junk,.junk]):=by
 intro a0 a1 r hr
 apply pF 20 [] [] [] [.tmp 4,.tmp 5] hr zDB Tryz.func125
 intro Φ hΦ hF g
 unfold zcC at hF
 refine wW ?_
 refine wJ hF (fun x3=>[(0,.v (.str a0)),(1,.v (vC a1)),(13,.v (.bool x3))]) (fun x3 hF=>?_) fun _ hj1 hF=>?_
 ·refine wI hF (fun h5 hF=>?_) (fun h5 hF=>?_)
  ·exact wl hΦ hF
  refine wW ?_
  refine wC hF [.sh,.sh] zny (fun z6 hF=>?_)
  refine wC hF [.sh] znO (fun z7 hF=>?_)
  refine wK [4,5] ?_
  exact wm hΦ hF
 refine wG hF (fun h4 hF=>?_) fun h4 hF=>?_
 ·exact wV h4 (hj1 _) (zaa hF)
 try simp[go_sem,g,h4]
 try intros
 exact wT (hj1 _) (zaa hF)
@[go_sem] def zyk:List DE:=[d0 0 [9],d1 1 [3] 3,d2 2 [32] 3 32,d0 3 [33],d0 4 [31,34],d0 5 [35],d1 6 [3] 3,d2 7 [37] 3 37,d0 8 [38],d1 9 [3] 3,d2 10 [40] 3 40,d0 11 [39,41],d1 12 [3] 3,d2 13 [43] 3 43,d3 14 [36,42,44],d0 15 [45]]
def zbN (a0:Group) (a1:ByteArray) (a2:Int):Option (Int×Bool):=
 ((zbo (σ:=Int) (fun s4=>
 if decide (s4<1000)=true then(
 (zcC a1 [a0.P,a0.Q,a0.G,a2,s4]).bind fun z10=>
 if(!z10.2)=true then(
 some (.out (.inr (0,false))))else(
 gd (i64.wrap (a0.P-1)≠0)<|
 gd (a0.Q≠0)<|
 (zbE (i64.wrap (1+(z10.1.tmod (i64.wrap (a0.P-1))))) (i64.wrap ((i64.wrap (a0.P-1)).tdiv a0.Q)) a0.P).bind fun z12=>
 if(z12 !=1)=true then(
 some (.out (.inr (z12,true))))else(
 some (.go (i64.wrap (s4+1))))))else(
 some (.out (.inl ())))) 0:Option (Unit ⊕ (Int×Bool))).bind (Sum.elim (fun x3=>
 some (0,false)) some))
theorem zhJ:∀{a0}{a1}{a2}{r},zbN a0 a1 a2=some r→PCalls Tryz.prog 122 [(.sh,vE a0),(.sh,.str a1),(.sh,.int .i64 a2)] (Eo (.tup [.int .i64 r.1,.bool r.2]) [.junk,.junk,.junk]):=by
 intro a0 a1 a2 r hr
 apply pF 50 [] [] [] [.tmp 6,.tmp 7] hr zCH Tryz.func122
 intro Φ hΦ hF g
 unfold zbN at hF
 iterate 2 refine wW ?_
 refine wS hF (fun x3=>[]) (fun x3 hF=>?_) fun _ hj1 hr2 hF=>?_
 ·exact wl hΦ hF
 refine wB ?_
 obtain⟨b14,hb15,hψ8⟩:=hF
 refine pL hb15 (fun s4=>[(1,.v (.str a1)),(2,.v (.int .i64 a2)),(3,.bl [.int .i64 a0.P,.int .i64 a0.Q,.int .i64 a0.G]),(12,.v (.int .i64 s4))]) (fun s4 _ _ ho6 hg7 hF=>?_)
 refine wW ?_
 refine wI hF (fun h9 hF=>?_) (fun h9 hF=>?_)
 ·refine wW ?_
  refine wB ?_
  refine wW ?_
  refine wC hF [.sh,.sh] zhI (fun z10 hF=>?_)
  refine wK [1,2,3,9,10,12] ?_
  refine wW ?_
  refine wI hF (fun h11 hF=>?_) (fun h11 hF=>?_)
  ·cases ho6 _ (zaa hF)
   cases hΦ _ (hr2 _ hψ8)
   refine wW ?_
   try simp[go_sem,g]
  refine wW ?_
  refine wX zyk follows ?_
  obtain⟨g,hF⟩:=Rz g hF
  obtain⟨g,hF⟩:=Rz g hF
  refine wC hF [.sh,.sh,.sh] zfD (fun z12 hF=>?_)
  refine wK [1,2,3,11,12] ?_
  refine wW ?_
  refine wI hF (fun h13 hF=>?_) (fun h13 hF=>?_)
  ·cases ho6 _ (zaa hF)
   cases hΦ _ (hr2 _ hψ8)
   refine wW ?_
   try simp[go_sem,g]
  refine wW ?_
  exact wT (hg7 _) (zaa hF)
 cases ho6 _ (zaa hF)
 exact wT (hj1 _) hψ8
def zav (a0:Group) (a1:Int):Option (Bases×Bool):=
 (zbN a0 (⟨#[104]⟩:ByteArray) 0).bind fun z1=>
 ((zbo (σ:=Int×List Int×Bool×Int) (fun s16=>
 if decide (s16.2.2.2<a1)=true then(
 (zbN a0 (⟨#[104,115]⟩:ByteArray) s16.2.2.2).bind fun z22=>
 ((if s16.2.2.1=true then(
 some z22.2)else(
 some false):Option Bool).bind fun x25=>
 gd ((s16.2.1.length+1)*8≤140737488355328∧s16.2.1.length+1≤4611686018427387904)<|
 some (.go (s16.1,s16.2.1++[z22.1],x25,i64.wrap (s16.2.2.2+1)))))else(
 some (.out (s16.1,s16.2.1,s16.2.2.1)))) (z1.1,[],true,0):Option ((Int×List Int×Bool))).bind fun x4=>
 ((if(!z1.2)=true then(
 some true)else(
 some (!x4.2.2)):Option Bool).bind fun x31=>
 if x31=true then(
 some ((Bases.mk 0 []),false))else(
 some ((Bases.mk x4.1 x4.2.1),true))))
theorem zfK:∀{a0}{a1}{r},zav a0 a1=some r→PCalls Tryz.prog 48 [(.sh,vE a0),(.sh,.int .i64 a1)] (Eo (.tup [vI r.1,.bool r.2]) [.junk,.junk]):=by
 intro a0 a1 r hr
 apply pF 49 [] [] [] [.cell 4 71,.tmp 5] hr zFj Tryz.func48
 intro Φ hΦ hF g
 unfold zav at hF
 refine wW ?_
 refine wC hF [.sh,.sh,.sh] zhJ (fun z1 hF=>?_)
 refine wK [1,2,4,6,7] ?_
 iterate 2 refine wW ?_
 refine wJ hF (fun x4=>[(4,.bl [.int .i64 0,.sl true 1 []]),(7,.v (.bool z1.2)),(8,.bl [.int .i64 x4.1,vD x4.2.1]),(9,.v (.bool x4.2.2))]) (fun x4 hF=>?_) fun _ hj2 hF=>?_
 ·refine wJ hF (fun x31=>[(4,.bl [.int .i64 0,.sl true 1 []]),(8,.bl [.int .i64 x4.1,vD x4.2.1]),(46,.v (.bool x31))]) (fun x31 hF=>?_) fun _ hj29 hF=>?_
  ·refine wI hF (fun h33 hF=>?_) (fun h33 hF=>?_)
   ·refine wK [4,5] ?_
    exact wm hΦ hF
   refine wW ?_
   refine wK [4,5] ?_
   exact wm hΦ hF
  refine wG hF (fun h32 hF=>?_) fun h32 hF=>?_
  ·exact wV h32 (hj29 _) (zaa hF)
  exact wV h32 (hj29 _) (zaa hF)
 refine wB ?_
 obtain⟨b27,hb28,hψ20⟩:=hF
 refine pL hb28 (fun s16=>[(2,.bl [.int .i64 a0.P,.int .i64 a0.Q,.int .i64 a0.G]),(4,.bl [.int .i64 0,.sl true 1 []]),(7,.v (.bool z1.2)),(8,.bl [.int .i64 s16.1,vD s16.2.1]),(9,.v (.bool s16.2.2.1)),(20,.v (.int .i64 a1)),(21,.v (.int .i64 s16.2.2.2))]) (fun s16 _ _ ho18 hg19 hF=>?_)
 refine wW ?_
 refine wI hF (fun h21 hF=>?_) (fun h21 hF=>?_)
 ·refine wW ?_
  refine wB ?_
  refine wK [2,4,7,8,9,10,20,21] ?_
  refine wC hF [.sh,.sh,.sh] zhJ (fun z22 hF=>?_)
  refine wW ?_
  refine wJ hF (fun x25=>[(2,.bl [.int .i64 a0.P,.int .i64 a0.Q,.int .i64 a0.G]),(4,.bl [.int .i64 0,.sl true 1 []]),(7,.v (.bool z1.2)),(8,.bl [.int .i64 s16.1,vD s16.2.1]),(9,.v (.bool x25)),(11,.v (.int .i64 z22.1)),(20,.v (.int .i64 a1)),(21,.v (.int .i64 s16.2.2.2))]) (fun x25 hF=>?_) fun _ hj23 hF=>?_
  ·obtain⟨g,hF⟩:=Rg g hF
   refine wK [2,4,7,8,9,20,21] ?_
   exact wT (hg19 _) (zaa hF)
  refine wG hF (fun h26 hF=>?_) fun h26 hF=>?_
  ·exact wV h26 (hj23 _) (zaa hF)
  exact wV h26 (hj23 _) (zaa hF)
 cases ho18 _ (zaa hF)
 exact wT (hj2 _) hψ20
def zcG (a0:Group) (a1:Int) (a2:List Cipher):Option (Bases×Bool):=
 (((zdb a0).bind fun z4=>
 if(!z4)=true then(
 some true)else(
 (zcR a0 a1).bind fun z6=>
 if(!z6)=true then(
 some true)else(
 (zch a0 a2).bind fun z8=>
 some (!z8))):Option Bool).bind fun x3=>
 if x3=true then(
 some ((Bases.mk 0 []),false))else(
 (zav a0 (a2.length:Int)).bind fun z10=>
 some (z10.1,z10.2)))
theorem zhF:∀{a0}{a1}{a2}{r},zcG a0 a1 a2=some r→PCalls Tryz.prog 50 [(.sh,vE a0),(.sh,.int .i64 a1),(.sh,vH a2)] (Eo (.tup [vI r.1,.bool r.2]) [.junk,.junk,.junk]):=by
 intro a0 a1 a2 r hr
 apply pF 30 [] [] [] [.cell 6 71,.tmp 7] hr zFK Tryz.func50
 intro Φ hΦ hF g
 unfold zcG at hF
 refine wW ?_
 refine wJ hF (fun x3=>[(2,.v (vH a2)),(3,.bl [.int .i64 a0.P,.int .i64 a0.Q,.int .i64 a0.G]),(6,.bl [.int .i64 0,.sl true 1 []]),(22,.v (.bool x3))]) (fun x3 hF=>?_) fun _ hj1 hF=>?_
 ·refine wI hF (fun h9 hF=>?_) (fun h9 hF=>?_)
  ·exact wl hΦ hF
  try simp[go_sem,g]
  try intros
  refine zaD ?_
  try simp[go_sem,g]
  try intros
  refine wC hF [.sh,.sh] zfK (fun z10 hF=>?_)
  refine wK [6,7] ?_
  exact wm hΦ hF
 refine wC hF [.sh] zhH (fun z4 hF=>?_)
 refine wG hF (fun h5 hF=>?_) fun h5 hF=>?_
 ·exact wV h5 (hj1 _) (zaa hF)
 try simp[go_sem,g,h5]
 refine wC hF [.sh,.sh] zfO (fun z6 hF=>?_)
 try simp[go_sem,g,h5]
 refine wG hF (fun h7 hF=>?_) fun h7 hF=>?_
 ·exact wV h7 (hj1 _) (zaa hF)
 try simp[go_sem,g,h7]
 refine wC hF [.sh,.sh] zfz (fun z8 hF=>?_)
 exact wV h7 (hj1 _) (zaa hF)
def zcL (a0:Group) (a1:Int) (a2:List Cipher):Option (Bases×Bool):=
 (zcG a0 a1 a2).bind fun z1=>
 if(!z1.2)=true then(
 some ((Bases.mk 0 []),false))else(
 (zav a0 0).bind fun z3=>
 some (z3.1,z3.2))
theorem ziR:∀{a0}{a1}{a2}{r},zcL a0 a1 a2=some r→PCalls Tryz.prog 30 [(.sh,vE a0),(.sh,.int .i64 a1),(.sh,vH a2)] (Eo (.tup [vI r.1,.bool r.2]) [.junk,.junk,.junk]):=by
 intro a0 a1 a2 r hr
 apply pF 24 [] [] [] [.cell 6 71,.tmp 7] hr zIO Tryz.func30
 intro Φ hΦ hF g
 unfold zcL at hF
 refine wW ?_
 refine wC hF [.sh,.sh,.sh] zhF (fun z1 hF=>?_)
 refine wK [3,6,9] ?_
 refine wW ?_
 refine wI hF (fun h2 hF=>?_) (fun h2 hF=>?_)
 ·exact wl hΦ hF
 refine wW ?_
 refine wC hF [.sh,.sh] zfK (fun z3 hF=>?_)
 exact wl hΦ hF
def zd3 (a0:Int) (a1c0:List Int):Option Bool:=
 (zbe a0 0 (i64.wrap ((a1c0.length:Int)-1))).bind fun z1=>
 some z1
theorem zje:∀{a0}{a1c0}{r},zd3 a0 a1c0=some r→PCalls Tryz.prog 146 [(.sh,.int .i64 a0),(.sh,.fp [vC a1c0])] (Eo (.bool r) [.junk,.junk]):=by
 intro a0 a1c0 r hr
 apply pF 9 [] [] [] [.tmp 3] hr zAO Tryz.func146
 intro Φ hΦ hF g
 unfold zd3 at hF
 try simp[go_sem,g]
 try intros
 refine zaD ?_
 try simp[go_sem,g]
 try intros
 refine wC hF [.sh,.sh,.sh] zcc (fun z1 hF=>?_)
 exact wl hΦ hF
def zbs (a0:Int) (a1c0u0c0:List Int):Option Bool:=
 (zd3 a0 a1c0u0c0).bind fun z1=>
 some (!z1)
theorem zgj:∀{a0}{a1c0u0c0}{r},zbs a0 a1c0u0c0=some r→PCalls Tryz.prog 149 [(.sh,.int .i64 a0),(.sh,.fp [.func (.func 146) [] [.fp [vC a1c0u0c0]]])] (Eo (.bool r) [.junk,.junk]):=by
 intro a0 a1c0u0c0 r hr
 apply pF 8 [] [] [] [.tmp 3] hr znT Tryz.func149
 intro Φ hΦ hF g
 unfold zbs at hF
 refine wW ?_
 refine wC hF [.sh] zje (fun z1 hF=>?_)
 exact wl hΦ hF
def zaQ (a0:List Int) (a1u0c0u0c0:List Int):Option Int:=
 ((zap (σ:=Unit) (fun i5 s4=>
 (ix a0 i5).bind fun x11=>
 (zbs x11 a1u0c0u0c0).bind fun z12=>
 if z12=true then(
 some (.out (.inr i5)))else(
 some (.go ()))) (fun s4=>.inl ()) (a0.length) 0 ():Option (Unit ⊕ Int)).bind (Sum.elim (fun x3=>
 some (-1)) some))
theorem zdD:∀{a0}{a1u0c0u0c0}{r},zaQ a0 a1u0c0u0c0=some r→PCalls Tryz.prog 171 [(.sh,vC a0),(.sh,.func (.func 149) [] [.fp [.func (.func 146) [] [.fp [vC a1u0c0u0c0]]]])] (Eo (.int .i64 r) [.junk,.junk]):=by
 intro a0 a1u0c0u0c0 r hr
 apply pF 19 [] [] [] [.tmp 4] hr znr Tryz.func171
 intro Φ hΦ hF g
 unfold zaQ at hF
 iterate 2 (try simp[go_sem,g];try intros;refine zaD ?_)
 refine wS hF (fun x3=>[]) (fun x3 hF=>?_) fun _ hj1 hr2 hF=>?_
 ·exact wl hΦ hF
 refine wB ?_
 obtain⟨b14,hb15,hψ8⟩:=hF
 refine pR hb15 (fun i5 s4=>[(0,.v (vC a0)),(1,.v (.func (.func 149) [] [.fp [.func (.func 146) [] [.fp [vC a1u0c0u0c0]]]])),(7,.v (.int .i64 (a0.length:Int))),(8,.v (.int .i64 i5))]) (fun s4 _ hN16=>?_) (fun i5 s4 _ _ hi9 hi10 ho6 hg7 hF=>?_)
 ·exact wn hN16 (hj1 _) hψ8
 refine wW ?_
 refine wu hi9 hi10 ?_
 refine wW ?_
 refine wB ?_
 obtain⟨x11,g,hF⟩:=Rx g hF
 refine wW ?_
 refine wC hF [.sh] zgj (fun z12 hF=>?_)
 refine wK [0,1,5,7,8,16] ?_
 refine wI hF (fun h13 hF=>?_) (fun h13 hF=>?_)
 ·cases ho6 _ (zaa hF)
  cases hΦ _ (hr2 _ hψ8)
  refine wW ?_
  try simp[go_sem,g]
 refine wW ?_
 exact wi hi9 hi10 (hg7 _) (zaa hF)
def zaM (a0:List Int) (a1u0c0u0c0:List Int):Option Bool:=
 (zaQ a0 a1u0c0u0c0).bind fun z1=>
 some (decide (0≤z1))
theorem zdp:∀{a0}{a1u0c0u0c0}{r},zaM a0 a1u0c0u0c0=some r→PCalls Tryz.prog 148 [(.sh,vC a0),(.sh,.func (.func 149) [] [.fp [.func (.func 146) [] [.fp [vC a1u0c0u0c0]]]])] (Eo (.bool r) [.junk,.junk]):=by
 intro a0 a1u0c0u0c0 r hr
 apply pF 9 [] [] [] [.tmp 4] hr znR Tryz.func148
 intro Φ hΦ hF g
 unfold zaM at hF
 refine wW ?_
 refine wC hF [.sh,.sh] zdD (fun z1 hF=>?_)
 exact wl hΦ hF
def zbv (a0:List Int) (a1u0c0:List Int):Option Bool:=
 (zaM a0 a1u0c0).bind fun z1=>
 some (!z1)
theorem zgC:∀{a0}{a1u0c0}{r},zbv a0 a1u0c0=some r→PCalls Tryz.prog 81 [(.sh,vC a0),(.sh,.func (.func 146) [] [.fp [vC a1u0c0]])] (Eo (.bool r) [.junk,.junk]):=by
 intro a0 a1u0c0 r hr
 apply pF 9 [] [] [1000000] [.tmp 4] hr zqy Tryz.func81
 intro Φ hΦ hF g
 unfold zbv at hF
 refine wW ?_
 refine wC hF [.sh,.sh] zdp (fun z1 hF=>?_)
 exact wl hΦ hF
def zcx (a0:List Int) (a1:Int):Option Int:=
 ((zap (σ:=Unit) (fun i5 s4=>
 (ix a0 i5).bind fun x11=>
 if(a1==x11)=true then(
 some (.out (.inr i5)))else(
 some (.go ()))) (fun s4=>.inl ()) (a0.length) 0 ():Option (Unit ⊕ Int)).bind (Sum.elim (fun x3=>
 some (-1)) some))
theorem zjB:∀{a0}{a1}{r},zcx a0 a1=some r→PCalls Tryz.prog 190 [(.sh,vC a0),(.sh,.int .i64 a1)] (Eo (.int .i64 r) [.junk,.junk]):=by
 intro a0 a1 r hr
 apply pF 19 [] [] [] [.tmp 4] hr zCx Tryz.func190
 intro Φ hΦ hF g
 unfold zcx at hF
 iterate 2 (try simp[go_sem,g];try intros;refine zaD ?_)
 refine wS hF (fun x3=>[]) (fun x3 hF=>?_) fun _ hj1 hr2 hF=>?_
 ·exact wl hΦ hF
 refine wB ?_
 obtain⟨b13,hb14,hψ8⟩:=hF
 refine pR hb14 (fun i5 s4=>[(0,.v (vC a0)),(1,.v (.int .i64 a1)),(7,.v (.int .i64 (a0.length:Int))),(8,.v (.int .i64 i5))]) (fun s4 _ hN15=>?_) (fun i5 s4 _ _ hi9 hi10 ho6 hg7 hF=>?_)
 ·exact wn hN15 (hj1 _) hψ8
 refine wW ?_
 refine wu hi9 hi10 ?_
 refine wW ?_
 refine wB ?_
 obtain⟨x11,g,hF⟩:=Rx g hF
 refine wW ?_
 refine wK [0,1,5,7,8,16] ?_
 refine wI hF (fun h12 hF=>?_) (fun h12 hF=>?_)
 ·cases ho6 _ (zaa hF)
  cases hΦ _ (hr2 _ hψ8)
  refine wW ?_
  try simp[go_sem,g]
 refine wW ?_
 exact wi hi9 hi10 (hg7 _) (zaa hF)
def zcE (a0:List Int) (a1:Int):Option Bool:=
 (zcx a0 a1).bind fun z1=>
 some (decide (0≤z1))
theorem ziA:∀{a0}{a1}{r},zcE a0 a1=some r→PCalls Tryz.prog 170 [(.sh,vC a0),(.sh,.int .i64 a1)] (Eo (.bool r) [.junk,.junk]):=by
 intro a0 a1 r hr
 apply pF 9 [] [] [] [.tmp 4] hr zBd Tryz.func170
 intro Φ hΦ hF g
 unfold zcE at hF
 refine wW ?_
 refine wC hF [.sh,.sh] zjB (fun z1 hF=>?_)
 exact wl hΦ hF
def zdc (a0:List Int):Option Bool:=
 ((zap (σ:=Unit) (fun i5 s4=>
 (ix a0 i5).bind fun x11=>
 gd (0≤i5)<|
 gd (0≤i5.toNat∧i5.toNat≤a0.length)<|
 (zcE ((a0.take i5.toNat).drop 0) x11).bind fun z12=>
 if z12=true then(
 some (.out (.inr false)))else(
 some (.go ()))) (fun s4=>.inl ()) (a0.length) 0 ():Option (Unit ⊕ Bool)).bind (Sum.elim (fun x3=>
 some true) some))
theorem zkT:∀{a0}{r},zdc a0=some r→PCalls Tryz.prog 147 [(.sh,vC a0)] (Eo (.bool r) [.junk]):=by
 intro a0 r hr
 apply pF 18 [] [] [] [.tmp 2] hr zBR Tryz.func147
 intro Φ hΦ hF g
 unfold zdc at hF
 iterate 2 (try simp[go_sem,g];try intros;refine zaD ?_)
 refine wS hF (fun x3=>[]) (fun x3 hF=>?_) fun _ hj1 hr2 hF=>?_
 ·exact wl hΦ hF
 refine wB ?_
 obtain⟨b14,hb15,hψ8⟩:=hF
 refine pR hb15 (fun i5 s4=>[(0,.v (vC a0)),(5,.v (vC a0)),(6,.v (.int .i64 (a0.length:Int))),(7,.v (.int .i64 i5))]) (fun s4 _ hN16=>?_) (fun i5 s4 _ _ hi9 hi10 ho6 hg7 hF=>?_)
 ·exact wn hN16 (hj1 _) hψ8
 refine wW ?_
 refine wu hi9 hi10 ?_
 refine wW ?_
 refine wB ?_
 obtain⟨x11,g,hF⟩:=Rx g hF
 refine wK [0,3,4,5,6,7] ?_
 obtain⟨g,hF⟩:=Rg g hF
 obtain⟨g,hF⟩:=Rg g hF
 refine wC hF [.sh,.sh] ziA (fun z12 hF=>?_)
 refine wW ?_
 refine wI hF (fun h13 hF=>?_) (fun h13 hF=>?_)
 ·cases ho6 _ (zaa hF)
  cases hΦ _ (hr2 _ hψ8)
  refine wW ?_
  try simp[go_sem,g]
 refine wW ?_
 exact wi hi9 hi10 (hg7 _) (zaa hF)
def zdQ (a0:List Int):Option Bool:=
 ((if decide ((a0.length:Int)≤24)=true then(
 (zbv a0 a0).bind fun z5=>
 if z5=true then(
 (zdc a0).bind fun z7=>
 some z7)else(
 some false))else(
 some false):Option Bool).bind fun x3=>
 some x3)
theorem zkk:∀{a0}{r},zdQ a0=some r→PCalls Tryz.prog 80 [(.sh,vC a0)] (Eo (.bool r) [.junk]):=by
 intro a0 r hr
 apply pF 15 [] [] [1000000] [.tmp 2] hr zG1 Tryz.func80
 intro Φ hΦ hF g
 unfold zdQ at hF
 refine wW ?_
 refine wJ hF (fun x3=>[(2,.v (.bool x3))]) (fun x3 hF=>?_) fun _ hj1 hF=>?_
 ·exact wm hΦ hF
 try simp[go_sem,g]
 try intros
 refine wG hF (fun h4 hF=>?_) fun h4 hF=>?_
 ·try simp[go_sem,g,h4]
  refine wC hF [.sh,.sh] zgC (fun z5 hF=>?_)
  try simp[go_sem,g,h4]
  refine wG hF (fun h6 hF=>?_) fun h6 hF=>?_
  ·try simp[go_sem,g,h6]
   refine wC hF [.sh] zkT (fun z7 hF=>?_)
   exact wV h6 (hj1 _) (zaa hF)
  exact wV h6 (hj1 _) (zaa hF)
 exact wV h4 (hj1 _) (zaa hF)
def zej (a0:Group) (a1:Int):Option Bool:=
 (zbe a1 0 (i64.wrap (a0.Q-1))).bind fun z1=>
 some z1
theorem zlC:∀{a0}{a1}{r},zej a0 a1=some r→PCalls Tryz.prog 65 [(.sh,vE a0),(.sh,.int .i64 a1)] (Eo (.bool r) [.junk,.junk]):=by
 intro a0 a1 r hr
 apply pF 10 [] [] [] [.tmp 4] hr zGR Tryz.func65
 intro Φ hΦ hF g
 unfold zej at hF
 refine wW ?_
 refine wC hF [.sh,.sh,.sh] zcc (fun z1 hF=>?_)
 exact wl hΦ hF
def zbG (a0:Int) (a1c0x0:Group):Option Bool:=
 (zej a1c0x0 a0).bind fun z1=>
 some (!z1)
theorem zgK:∀{a0}{a1c0x0}{r},zbG a0 a1c0x0=some r→PCalls Tryz.prog 149 [(.sh,.int .i64 a0),(.sh,.fp [.func (.func 65) [vE a1c0x0] []])] (Eo (.bool r) [.junk,.junk]):=by
 intro a0 a1c0x0 r hr
 apply pF 8 [] [] [] [.tmp 3] hr znT Tryz.func149
 intro Φ hΦ hF g
 unfold zbG at hF
 refine wW ?_
 refine wC hF [.sh] zlC (fun z1 hF=>?_)
 exact wl hΦ hF
def zbg (a0:List Int) (a1u0c0x0:Group):Option Int:=
 ((zap (σ:=Unit) (fun i5 s4=>
 (ix a0 i5).bind fun x11=>
 (zbG x11 a1u0c0x0).bind fun z12=>
 if z12=true then(
 some (.out (.inr i5)))else(
 some (.go ()))) (fun s4=>.inl ()) (a0.length) 0 ():Option (Unit ⊕ Int)).bind (Sum.elim (fun x3=>
 some (-1)) some))
theorem zd1:∀{a0}{a1u0c0x0}{r},zbg a0 a1u0c0x0=some r→PCalls Tryz.prog 171 [(.sh,vC a0),(.sh,.func (.func 149) [] [.fp [.func (.func 65) [vE a1u0c0x0] []]])] (Eo (.int .i64 r) [.junk,.junk]):=by
 intro a0 a1u0c0x0 r hr
 apply pF 19 [] [] [] [.tmp 4] hr znr Tryz.func171
 intro Φ hΦ hF g
 unfold zbg at hF
 iterate 2 (try simp[go_sem,g];try intros;refine zaD ?_)
 refine wS hF (fun x3=>[]) (fun x3 hF=>?_) fun _ hj1 hr2 hF=>?_
 ·exact wl hΦ hF
 refine wB ?_
 obtain⟨b14,hb15,hψ8⟩:=hF
 refine pR hb15 (fun i5 s4=>[(0,.v (vC a0)),(1,.v (.func (.func 149) [] [.fp [.func (.func 65) [vE a1u0c0x0] []]])),(7,.v (.int .i64 (a0.length:Int))),(8,.v (.int .i64 i5))]) (fun s4 _ hN16=>?_) (fun i5 s4 _ _ hi9 hi10 ho6 hg7 hF=>?_)
 ·exact wn hN16 (hj1 _) hψ8
 refine wW ?_
 refine wu hi9 hi10 ?_
 refine wW ?_
 refine wB ?_
 obtain⟨x11,g,hF⟩:=Rx g hF
 refine wW ?_
 refine wC hF [.sh] zgK (fun z12 hF=>?_)
 refine wK [0,1,5,7,8,16] ?_
 refine wI hF (fun h13 hF=>?_) (fun h13 hF=>?_)
 ·cases ho6 _ (zaa hF)
  cases hΦ _ (hr2 _ hψ8)
  refine wW ?_
  try simp[go_sem,g]
 refine wW ?_
 exact wi hi9 hi10 (hg7 _) (zaa hF)
def za8 (a0:List Int) (a1u0c0x0:Group):Option Bool:=
 (zbg a0 a1u0c0x0).bind fun z1=>
 some (decide (0≤z1))
theorem zdF:∀{a0}{a1u0c0x0}{r},za8 a0 a1u0c0x0=some r→PCalls Tryz.prog 148 [(.sh,vC a0),(.sh,.func (.func 149) [] [.fp [.func (.func 65) [vE a1u0c0x0] []]])] (Eo (.bool r) [.junk,.junk]):=by
 intro a0 a1u0c0x0 r hr
 apply pF 9 [] [] [] [.tmp 4] hr znR Tryz.func148
 intro Φ hΦ hF g
 unfold za8 at hF
 refine wW ?_
 refine wC hF [.sh,.sh] zd1 (fun z1 hF=>?_)
 exact wl hΦ hF
def zcq (a0:List Int) (a1x0:Group):Option Bool:=
 (za8 a0 a1x0).bind fun z1=>
 some (!z1)
theorem zhl:∀{a0}{a1x0}{r},zcq a0 a1x0=some r→PCalls Tryz.prog 81 [(.sh,vC a0),(.sh,.func (.func 65) [vE a1x0] [])] (Eo (.bool r) [.junk,.junk]):=by
 intro a0 a1x0 r hr
 apply pF 9 [] [] [1000000] [.tmp 4] hr zqy Tryz.func81
 intro Φ hΦ hF g
 unfold zcq at hF
 refine wW ?_
 refine wC hF [.sh,.sh] zdF (fun z1 hF=>?_)
 exact wl hΦ hF
def zcn (a0:Group) (a1:List Int):Option Bool:=
 (zcq a1 a0).bind fun z1=>
 some z1
theorem zfL:∀{a0}{a1}{r},zcn a0 a1=some r→PCalls Tryz.prog 32 [(.sh,vE a0),(.sh,vC a1)] (Eo (.bool r) [.junk,.junk]):=by
 intro a0 a1 r hr
 apply pF 9 [] [] [] [.tmp 4] hr zI0 Tryz.func32
 intro Φ hΦ hF g
 unfold zcn at hF
 refine wW ?_
 refine wC hF [.sh,.sh] zhl (fun z1 hF=>?_)
 exact wl hΦ hF
def zcf (a0:Group) (a1:List Int) (a2:List Int) (a3:Int):Option Bool:=
 (((zdQ a1).bind fun z4=>
 if z4=true then(
 if((a1.length:Int)==a3)=true then(
 if((a2.length:Int)==a3)=true then(
 (zcn a0 a2).bind fun z8=>
 some z8)else(
 some false))else(
 some false))else(
 some false):Option Bool).bind fun x3=>
 some x3)
theorem zfE:∀{a0}{a1}{a2}{a3}{r},zcf a0 a1 a2 a3=some r→PCalls Tryz.prog 31 [(.sh,vE a0),(.sh,vC a1),(.sh,vC a2),(.sh,.int .i64 a3)] (Eo (.bool r) [.junk,.junk,.junk,.junk]):=by
 intro a0 a1 a2 a3 r hr
 apply pF 28 [] [] [] [.tmp 8] hr zH9 Tryz.func31
 intro Φ hΦ hF g
 unfold zcf at hF
 refine wW ?_
 refine wJ hF (fun x3=>[(8,.v (.bool x3))]) (fun x3 hF=>?_) fun _ hj1 hF=>?_
 ·exact wm hΦ hF
 refine wC hF [.sh] zkk (fun z4 hF=>?_)
 refine wG hF (fun h5 hF=>?_) fun h5 hF=>?_
 ·try simp[go_sem,g,h5]
  try intros
  refine wG hF (fun h6 hF=>?_) fun h6 hF=>?_
  ·try simp[go_sem,g,h6]
   try intros
   refine wG hF (fun h7 hF=>?_) fun h7 hF=>?_
   ·try simp[go_sem,g,h7]
    refine wC hF [.sh,.sh] zfL (fun z8 hF=>?_)
    exact wV h7 (hj1 _) (zaa hF)
   exact wV h7 (hj1 _) (zaa hF)
  exact wV h6 (hj1 _) (zaa hF)
 exact wV h5 (hj1 _) (zaa hF)
def zau (a0c0:List Int) (a1:Int):Option (List Int×List Int):=
 gd (0≤a1)<|
 gd (0≤a1.toNat∧a1.toNat≤a0c0.length)<|
 gd (0≤a1)<|
 gd (a1.toNat≤a0c0.length∧a0c0.length≤a0c0.length)<|
 some ((a0c0.take a1.toNat).drop 0,(a0c0.take a0c0.length).drop a1.toNat)
theorem zaK:∀{a0c0}{a1}{r},zau a0c0 a1=some r→PCalls Tryz.prog 82 [(.io,.bx [vC a0c0]),(.sh,.int .i64 a1)] (Eo (vC r.1) [.bx [vC r.2],.junk]):=by
 intro a0c0 a1 r hr
 apply pF 22 [0] [] [] [.tmp 4] hr zIi Tryz.func82
 intro Φ hΦ hF g
 unfold zau at hF
 obtain⟨g,hF⟩:=Rg g hF
 obtain⟨g,hF⟩:=Rg g hF
 obtain⟨g,hF⟩:=Rg g hF
 obtain⟨g,hF⟩:=Rg g hF
 iterate 2 refine wW ?_
 refine wK [0,5] ?_
 exact wl hΦ hF
def zbQ (a0c0:List Int):Option (Int×List Int):=
 (zau a0c0 1).bind fun z1=>
 (ix z1.1 0).bind fun x2=>
 some (x2,z1.2)
theorem zep:∀{a0c0}{r},zbQ a0c0=some r→PCalls Tryz.prog 83 [(.io,.bx [vC a0c0])] (Eo (.int .i64 r.1) [.bx [vC r.2]]):=by
 intro a0c0 r hr
 apply pF 7 [0] [] [] [.tmp 2] hr zIm Tryz.func83
 intro Φ hΦ hF g
 unfold zbQ at hF
 refine wW ?_
 refine wC hF [.io,.sh] zaK (fun z1 hF=>?_)
 obtain⟨x2,g,hF⟩:=Rxn g 0 hF
 exact wl hΦ hF
def ze6 (a0:Int) (a1:Int):Option Int:=
 gd (a1≠0)<|
 gd (a1≠0)<|
 some ((i64.wrap ((a0.tmod a1)+a1)).tmod a1)
theorem zkr:∀{a0}{a1}{r},ze6 a0 a1=some r→PCalls Tryz.prog 128 [(.sh,.int .i64 a0),(.sh,.int .i64 a1)] (Eo (.int .i64 r) [.junk,.junk]):=by
 intro a0 a1 r hr
 apply pF 12 [] [] [] [.tmp 4] hr zCc Tryz.func128
 intro Φ hΦ hF g
 unfold ze6 at hF
 obtain⟨g,hF⟩:=Rz g hF
 obtain⟨g,hF⟩:=Rz g hF
 cases hΦ _ (zaa hF)
 iterate 2 refine wW ?_
 try simp[go_sem,g]
@[go_sem] def zBt:List DE:=[d0 0 [1],d0 1 [2],d1 2 [3] 3,d2 3 [9] 3 9,d1 5 [3] 3,d2 6 [12] 3 12,d3 4 [8,10],d3 7 [7,11,13],d0 8 [14]]
def zam (a0:Group) (a1:Int) (a2:Int):Option Int:=
 (ze6 a2 a0.Q).bind fun z1=>
 (zbE a1 z1 a0.P).bind fun z2=>
 some z2
theorem zaI:∀{a0}{a1}{a2}{r},zam a0 a1 a2=some r→PCalls Tryz.prog 88 [(.sh,vE a0),(.sh,.int .i64 a1),(.sh,.int .i64 a2)] (Eo (.int .i64 r) [.junk,.junk,.junk]):=by
 intro a0 a1 a2 r hr
 apply pF 15 [] [] [] [.tmp 6] hr zFU Tryz.func88
 intro Φ hΦ hF g
 unfold zam at hF
 refine wW ?_
 refine wX zBt follows ?_
 refine wC hF [.sh,.sh] zkr (fun z1 hF=>?_)
 refine wC hF [.sh,.sh,.sh] zfD (fun z2 hF=>?_)
 refine wK [6] ?_
 exact wm hΦ hF
def zaz (a0:Group) (a1:List Int):Option Int:=
 ((zap (σ:=Int) (fun i5 s4=>
 (ix a1 i5).bind fun x11=>
 gd (a0.P≠0)<|
 some (.go ((i64.wrap (s4*x11)).tmod a0.P))) (fun s4=>s4) (a1.length) 0 1:Option Int).bind fun x3=>
 some x3)
theorem zbd:∀{a0}{a1}{r},zaz a0 a1=some r→PCalls Tryz.prog 87 [(.sh,vE a0),(.sh,vC a1)] (Eo (.int .i64 r) [.junk,.junk]):=by
 intro a0 a1 r hr
 apply pF 22 [] [] [] [.tmp 4] hr zH4 Tryz.func87
 intro Φ hΦ hF g
 unfold zaz at hF
 iterate 3 (try simp[go_sem,g];try intros;refine zaD ?_)
 refine wJ hF (fun x3=>[(5,.v (.int .i64 x3))]) (fun x3 hF=>?_) fun _ hj1 hF=>?_
 ·exact wl hΦ hF
 refine wB ?_
 obtain⟨b12,hb13,hψ8⟩:=hF
 refine pR hb13 (fun i5 s4=>[(2,.bl [.int .i64 a0.P,.int .i64 a0.Q,.int .i64 a0.G]),(5,.v (.int .i64 s4)),(8,.v (vC a1)),(9,.v (.int .i64 (a1.length:Int))),(10,.v (.int .i64 i5))]) (fun s4 _ hN14=>?_) (fun i5 s4 _ _ hi9 hi10 ho6 hg7 hF=>?_)
 ·exact wn hN14 (hj1 _) hψ8
 refine wW ?_
 refine wu hi9 hi10 ?_
 refine wW ?_
 refine wB ?_
 obtain⟨x11,g,hF⟩:=Rx g hF
 refine wK [2,5,7,8,9,10] ?_
 obtain⟨g,hF⟩:=Rz g hF
 refine wW ?_
 exact wi hi9 hi10 (hg7 _) (zaa hF)
@[go_sem] def zx4:List DE:=[d2 0 [4] 4 4,d1 1 [4] 4,d2 2 [10] 4 10,d0 3 [3],d2 5 [4] 4 4,d0 6 [2],d2 7 [4] 4 4,d0 8 [1],d0 9 [3],d3 4 [9,11,12],d3 10 [16,17,18],d0 11 [15,19],⟨12,[14,20],[],none,true,true,true⟩,d0 13 [13,21],d2 14 [8,22] 8 8]
def zdN (a0:Group) (a1:Int) (a2:Int) (a3:Int):Option Cipher:=
 (zam a0 a0.G a3).bind fun z1=>
 (zam a0 a1 a3).bind fun z2=>
 (zaz a0 [a2,z2]).bind fun z3=>
 some (Cipher.mk z1 z3)
theorem zkh:∀{a0}{a1}{a2}{a3}{r},zdN a0 a1 a2 a3=some r→PCalls Tryz.prog 162 [(.sh,vE a0),(.sh,.int .i64 a1),(.sh,.int .i64 a2),(.sh,.int .i64 a3)] (Eo (vF r) [.junk,.junk,.junk,.junk]):=by
 intro a0 a1 a2 a3 r hr
 apply pF 23 [] [] [] [.cell 8 84] hr zCU Tryz.func162
 intro Φ hΦ hF g
 unfold zdN at hF
 refine wW ?_
 refine wX zx4 follows ?_
 refine wC hF [.sh,.sh,.sh] zaI (fun z1 hF=>?_)
 refine wC hF [.sh,.sh,.sh] zaI (fun z2 hF=>?_)
 refine wC hF [.sh,.sh] zbd (fun z3 hF=>?_)
 refine wK [8] ?_
 exact wm hΦ hF
@[go_sem] def zyg:List DE:=[d2 0 [3] 3 3,d1 1 [4] 4,d2 2 [8] 4 8,d1 3 [5] 5,d2 4 [10] 5 10,d0 5 [9,11],d2 7 [3] 3 3,d1 8 [4] 4,d2 9 [15] 4 15,d1 10 [5] 5,d2 11 [17] 5 17,d0 12 [16,18],⟨6,[7,12],[],none,true,true,true⟩,⟨13,[14,19],[],none,true,true,true⟩,d0 14 [13,20],d2 15 [6,21] 6 6]
def zeV (a0:Group) (a1:Cipher) (a2:Cipher):Option Cipher:=
 (zaz a0 [a1.A,a2.A]).bind fun z1=>
 (zaz a0 [a1.B,a2.B]).bind fun z2=>
 some (Cipher.mk z1 z2)
theorem zkS:∀{a0}{a1}{a2}{r},zeV a0 a1 a2=some r→PCalls Tryz.prog 161 [(.sh,vE a0),(.sh,vF a1),(.sh,vF a2)] (Eo (vF r) [.junk,.junk,.junk]):=by
 intro a0 a1 a2 r hr
 apply pF 22 [] [] [] [.cell 6 84] hr zAT Tryz.func161
 intro Φ hΦ hF g
 unfold zeV at hF
 refine wW ?_
 refine wX zyg follows ?_
 refine wC hF [.sh,.sh] zbd (fun z1 hF=>?_)
 refine wC hF [.sh,.sh] zbd (fun z2 hF=>?_)
 refine wK [6] ?_
 exact wm hΦ hF
@[go_sem] def zyl:List DE:=[d2 0 [4] 4 4,d2 1 [6] 6 6,d2 2 [4] 4 4,d0 3 [1],d0 4 [3],d3 5 [11,12,13],d3 6 [9,10,14],d2 7 [8,15] 8 8]
def zcy (a0:Group) (a1:Int) (a2:Cipher) (a3:Int):Option Cipher:=
 (zdN a0 a1 1 a3).bind fun z1=>
 (zeV a0 a2 z1).bind fun z2=>
 some z2
theorem zjI:∀{a0}{a1}{a2}{a3}{r},zcy a0 a1 a2 a3=some r→PCalls Tryz.prog 124 [(.sh,vE a0),(.sh,.int .i64 a1),(.sh,vF a2),(.sh,.int .i64 a3)] (Eo (vF r) [.junk,.junk,.junk,.junk]):=by
 intro a0 a1 a2 a3 r hr
 apply pF 16 [] [] [] [.cell 8 84] hr zA0 Tryz.func124
 intro Φ hΦ hF g
 unfold zcy at hF
 refine wW ?_
 refine wX zyl follows ?_
 refine wC hF [.sh,.sh,.sh,.sh] zkh (fun z1 hF=>?_)
 refine wC hF [.sh,.sh,.sh] zkS (fun z2 hF=>?_)
 refine wK [8] ?_
 exact wm hΦ hF
@[go_sem] def zCt:List DE:=[d0 0 [11],d2 1 [5] 5 5,d0 2 [1],d0 3 [2],d0 4 [13],d0 5 [25,26],d0 6 [27],d0 7 [4],d0 8 [12],d0 9 [29,30],d0 10 [31],d3 11 [23,24,28,32],d0 12 [33],⟨13,[22,34],[],none,true,false,false⟩,d0 14 [35]]
def zed (a0:Group) (a1:Int) (a2:List Cipher) (a3:List Int) (a4:List Int):Option ((List Cipher)):=
 ((zap (σ:=(List Cipher)) (fun i5 s4=>
 (ix a3 i5).bind fun x11=>
 (ix a2 x11).bind fun x12=>
 (ix a4 i5).bind fun x13=>
 (zcy a0 a1 x12 x13).bind fun z14=>
 gd ((s4.length+1)*16≤140737488355328∧s4.length+1≤4611686018427387904)<|
 some (.go (s4++[z14]))) (fun s4=>s4) (a3.length) 0 []:Option ((List Cipher))).bind fun x3=>
 some x3)
theorem zi6:∀{a0}{a1}{a2}{a3}{a4}{r},zed a0 a1 a2 a3 a4=some r→PCalls Tryz.prog 51 [(.sh,vE a0),(.sh,.int .i64 a1),(.sh,vH a2),(.sh,vC a3),(.sh,vC a4)] (Eo (vG r) [.junk,.junk,.junk,.junk,.junk]):=by
 intro a0 a1 a2 a3 a4 r hr
 apply pF 38 [] [] [] [.tmp 10] hr zHw Tryz.func51
 intro Φ hΦ hF g
 unfold zed at hF
 iterate 3 (try simp[go_sem,g];try intros;refine zaD ?_)
 refine wJ hF (fun x3=>[(11,.v (vG x3))]) (fun x3 hF=>?_) fun _ hj1 hF=>?_
 ·exact wl hΦ hF
 refine wB ?_
 obtain⟨b15,hb16,hψ8⟩:=hF
 refine pR hb16 (fun i5 s4=>[(1,.v (.int .i64 a1)),(2,.v (vH a2)),(4,.v (vC a4)),(5,.bl [.int .i64 a0.P,.int .i64 a0.Q,.int .i64 a0.G]),(11,.v (vG s4)),(15,.v (vC a3)),(16,.v (.int .i64 (a3.length:Int))),(17,.v (.int .i64 i5))]) (fun s4 _ hN17=>?_) (fun i5 s4 _ _ hi9 hi10 ho6 hg7 hF=>?_)
 ·exact wn hN17 (hj1 _) hψ8
 refine wW ?_
 refine wu hi9 hi10 ?_
 refine wW ?_
 refine wB ?_
 obtain⟨x11,g,hF⟩:=Rx g hF
 refine wK [1,2,4,5,11,12,13,15,16,17] ?_
 refine wX zCt follows ?_
 obtain⟨x12,g,hF⟩:=Rx g hF
 obtain⟨x13,g,hF⟩:=Rx g hF
 refine wC hF [.sh,.sh,.sh,.sh] zjI (fun z14 hF=>?_)
 obtain⟨g,hF⟩:=Rg g hF
 refine wK [1,2,4,5,11,15,16,17] ?_
 exact wi hi9 hi10 (hg7 _) (zaa hF)
@[go_sem] def zCY:List DE:=[d2 0 [4] 4 4,d2 1 [4] 4 4,d1 2 [4] 4,d2 3 [11] 4 11,d0 4 [2],d2 6 [4] 4 4,d1 7 [5] 5,d2 8 [16] 5 16,d0 9 [3],d3 5 [10,12,13],d3 10 [15,17,18],d0 11 [14,19],⟨12,[9,20],[],none,true,true,true⟩,d0 13 [21]]
def zaS (a0:Group) (a1:Bases) (a2:Int) (a3:Int):Option Int:=
 (zam a0 a0.G a2).bind fun z1=>
 (zam a0 a1.H a3).bind fun z2=>
 (zaz a0 [z1,z2]).bind fun z3=>
 some z3
theorem zcA:∀{a0}{a1}{a2}{a3}{r},zaS a0 a1 a2 a3=some r→PCalls Tryz.prog 85 [(.sh,vE a0),(.sh,vJ a1),(.sh,.int .i64 a2),(.sh,.int .i64 a3)] (Eo (.int .i64 r) [.junk,.junk,.junk,.junk]):=by
 intro a0 a1 a2 a3 r hr
 apply pF 22 [] [] [] [.tmp 8] hr zGG Tryz.func85
 intro Φ hΦ hF g
 unfold zaS at hF
 refine wW ?_
 refine wX zCY follows ?_
 refine wC hF [.sh,.sh,.sh] zaI (fun z1 hF=>?_)
 refine wC hF [.sh,.sh,.sh] zaI (fun z2 hF=>?_)
 refine wC hF [.sh,.sh] zbd (fun z3 hF=>?_)
 refine wK [8] ?_
 exact wm hΦ hF
@[go_sem] def zDn:List DE:=[d0 0 [9],d2 1 [4] 4 4,d2 2 [5] 5 5,d0 3 [11],d0 4 [23],d0 5 [3],d0 6 [10],d0 7 [25,26],d0 8 [27],d3 9 [21,22,24,28],d0 10 [29],⟨11,[20,30],[],none,true,false,false⟩,d0 12 [31]]
def zb7 (a0:Group) (a1:Bases) (a2:List Int) (a3:List Int):Option ((List Int)):=
 ((zap (σ:=(List Int)) (fun i5 s4=>
 (ix a2 i5).bind fun x11=>
 (ix a3 i5).bind fun x12=>
 (zaS a0 a1 (i64.wrap (x11+1)) x12).bind fun z13=>
 gd ((s4.length+1)*8≤140737488355328∧s4.length+1≤4611686018427387904)<|
 some (.go (s4++[z13]))) (fun s4=>s4) (a2.length) 0 []:Option ((List Int))).bind fun x3=>
 some x3)
theorem zgf:∀{a0}{a1}{a2}{a3}{r},zb7 a0 a1 a2 a3=some r→PCalls Tryz.prog 49 [(.sh,vE a0),(.sh,vJ a1),(.sh,vC a2),(.sh,vC a3)] (Eo (vD r) [.junk,.junk,.junk,.junk]):=by
 intro a0 a1 a2 a3 r hr
 apply pF 34 [] [] [] [.tmp 8] hr zFJ Tryz.func49
 intro Φ hΦ hF g
 unfold zb7 at hF
 iterate 3 (try simp[go_sem,g];try intros;refine zaD ?_)
 refine wJ hF (fun x3=>[(9,.v (vD x3))]) (fun x3 hF=>?_) fun _ hj1 hF=>?_
 ·refine wK [8] ?_
  exact wm hΦ hF
 refine wB ?_
 obtain⟨b14,hb15,hψ8⟩:=hF
 refine pR hb15 (fun i5 s4=>[(3,.v (vC a3)),(4,.bl [.int .i64 a0.P,.int .i64 a0.Q,.int .i64 a0.G]),(5,.bl [.int .i64 a1.H,vC a1.Hs]),(9,.v (vD s4)),(13,.v (vC a2)),(14,.v (.int .i64 (a2.length:Int))),(15,.v (.int .i64 i5))]) (fun s4 _ hN16=>?_) (fun i5 s4 _ _ hi9 hi10 ho6 hg7 hF=>?_)
 ·exact wn hN16 (hj1 _) hψ8
 refine wW ?_
 refine wu hi9 hi10 ?_
 refine wW ?_
 refine wB ?_
 obtain⟨x11,g,hF⟩:=Rx g hF
 refine wK [3,4,5,9,10,11,13,14,15] ?_
 refine wX zDn follows ?_
 obtain⟨x12,g,hF⟩:=Rx g hF
 refine wC hF [.sh,.sh,.sh,.sh] zcA (fun z13 hF=>?_)
 obtain⟨g,hF⟩:=Rg g hF
 refine wK [3,4,5,9,13,14,15] ?_
 exact wi hi9 hi10 (hg7 _) (zaa hF)
def zbM (a0:List Cipher):Option (List Cipher):=
 gd (a0.length*16≤140737488355328∧a0.length≤4611686018427387904)<|
 some a0
theorem zge {a0:(List Cipher)}{r:(List Cipher)}(hr:zbM a0=some r):PCalls Tryz.prog 126 [(.sh,.sl false 2 (a0.map zb0))] (Eo (.sl true 2 (r.map zb0)) [.junk]):=by
 apply zlk 8 [] [] [1000000] [.tmp 2] hr zDv Tryz.func126 rfl rfl rfl
 ·exact⟨by simp,rfl⟩
 intro Φ hΦ hF
 unfold zbM at hF
 obtain⟨g,hF⟩:=ziB hF
 have h1:=hΦ _ (zaa hF)
 subst h1
 try simp[go_sem]
 refine zlt [(0,.v (.sl false 2 (a0.map zb0)))] (by simp[go_sem]) ?_
 try simp[go_sem]
 refine zrW rfl rfl (by simp[go_sem]) rfl (by rfl) fun b hb=>?_
 try simp[go_sem]
 refine zaD ?_
 repeat rw[zpL]
 cases b
 ·refine zlm (by simp[go_sem]) ?_
  try simp[go_sem]
  refine zaD ?_
  try simp[go_sem,g]
  refine zaD ?_
  try simp[go_sem,g]
 have hb0:a0=[]:=by
  cases a0 with
  |nil=>rfl
  |cons x l=>exact absurd (hb (by simp)) (by simp)
 subst hb0
 refine zjj (by simp[go_sem]) ?_
 try simp[go_sem]
 refine zaD ?_
 try simp[go_sem]
def zcg (a0:Int) (a1:List Cipher) (a2:List Cipher) (a3:List Int):Option ((List Int)):=
 (zbM a1).bind fun z1=>
 gd ((z1.length+a2.length)*16≤140737488355328∧z1.length+a2.length≤4611686018427387904)<|
 (some (z1++a2)).bind fun x2=>
 ((zap (σ:=(List Int)) (fun i8 s7=>
 (ix x2 i8).bind fun x14=>
 gd ((s7.length+2)*8≤140737488355328∧s7.length+2≤4611686018427387904)<|
 some (.go (s7++[x14.A,x14.B]))) (fun s7=>s7) (x2.length) 0 [a0]:Option ((List Int))).bind fun x6=>
 gd ((x6.length+a3.length)*8≤140737488355328∧x6.length+a3.length≤4611686018427387904)<|
 some (x6++a3))
theorem zeJ:∀{a0}{a1}{a2}{a3}{r},zcg a0 a1 a2 a3=some r→PCalls Tryz.prog 54 [(.sh,.int .i64 a0),(.sh,vH a1),(.sh,vH a2),(.sh,vC a3)] (Eo (vD r) [.junk,.junk,.junk,.junk]):=by
 intro a0 a1 a2 a3 r hr
 apply pF 34 [] [] [] [.tmp 8] hr zIk Tryz.func54
 intro Φ hΦ hF g
 unfold zcg at hF
 iterate 2 refine wW ?_
 refine wC hF [.sh] zge (fun z1 hF=>?_)
 obtain⟨g,hF⟩:=Rg g hF
 obtain⟨x2,e3,hF⟩:=zeo hF
 have g:=And.intro g (show List.map zb0 z1++List.map zb0 a2=x2.map zb0 by injection e3 with e3;rw[←e3];simp[go_sem])
 try simp[go_sem,g]
 try intros
 refine wK [3,9,17,18,19] ?_
 refine wJ hF (fun x6=>[(3,.v (vC a3)),(9,.v (vD x6))]) (fun x6 hF=>?_) fun _ hj4 hF=>?_
 ·obtain⟨g,hF⟩:=Rg g hF
  exact wl hΦ hF
 refine wB ?_
 obtain⟨b15,hb16,hψ11⟩:=hF
 refine pR hb16 (fun i8 s7=>[(3,.v (vC a3)),(9,.v (vD s7)),(17,.v (vG x2)),(18,.v (.int .i64 (x2.length:Int))),(19,.v (.int .i64 i8))]) (fun s7 _ hN17=>?_) (fun i8 s7 _ _ hi12 hi13 ho9 hg10 hF=>?_)
 ·exact wn hN17 (hj4 _) hψ11
 refine wW ?_
 refine wu hi12 hi13 ?_
 refine wW ?_
 refine wB ?_
 obtain⟨x14,g,hF⟩:=Rx g hF
 obtain⟨g,hF⟩:=Rg g hF
 refine wW ?_
 refine wK [3,9,17,18,19] ?_
 exact wi hi12 hi13 (hg10 _) (zaa hF)
def zaJ (a0:Group) (a1:ByteArray) (a2:List Int):Option (Int×Bool):=
 gd (([a0.P,a0.Q,a0.G].length+a2.length)*8≤140737488355328∧[a0.P,a0.Q,a0.G].length+a2.length≤4611686018427387904)<|
 (zcC a1 ([a0.P,a0.Q,a0.G]++a2)).bind fun z1=>
 if(!z1.2)=true then(
 some (0,false))else(
 gd (a0.Q≠0)<|
 some (z1.1.tmod a0.Q,true))
theorem zb6:∀{a0}{a1}{a2}{r},zaJ a0 a1 a2=some r→PCalls Tryz.prog 53 [(.sh,vE a0),(.sh,.str a1),(.sh,vC a2)] (Eo (.tup [.int .i64 r.1,.bool r.2]) [.junk,.junk,.junk]):=by
 intro a0 a1 a2 r hr
 apply pF 30 [] [] [] [.tmp 6,.tmp 7] hr zF4 Tryz.func53
 intro Φ hΦ hF g
 unfold zaJ at hF
 obtain⟨g,hF⟩:=Rg g hF
 refine wW ?_
 refine wC hF [.sh,.sh] zhI (fun z1 hF=>?_)
 refine wK [3,8,9] ?_
 refine wW ?_
 refine wI hF (fun h2 hF=>?_) (fun h2 hF=>?_)
 ·exact wl hΦ hF
 obtain⟨g,hF⟩:=Rz g hF
 cases hΦ _ (zaa hF)
 iterate 2 refine wW ?_
 try simp[go_sem,g]
def zcr (a0:List Int):Option (List Int):=
 gd (a0.length*8≤140737488355328∧a0.length≤4611686018427387904)<|
 some a0
theorem zfj {a0:(List Int)}{r:(List Int)}(hr:zcr a0=some r):PCalls Tryz.prog 57 [(.sh,.sl false 1 (a0.map zao))] (Eo (.sl true 1 (r.map zao)) [.junk]):=by
 apply zlk 8 [] [] [1000000] [.tmp 2] hr zHl Tryz.func57 rfl rfl rfl
 ·exact⟨by simp,rfl⟩
 intro Φ hΦ hF
 unfold zcr at hF
 obtain⟨g,hF⟩:=ziB hF
 have h1:=hΦ _ (zaa hF)
 subst h1
 try simp[go_sem]
 refine zlt [(0,.v (.sl false 1 (a0.map zao)))] (by simp[go_sem]) ?_
 try simp[go_sem]
 refine zrW rfl rfl (by simp[go_sem]) rfl (by rfl) fun b hb=>?_
 try simp[go_sem]
 refine zaD ?_
 repeat rw[zpL]
 cases b
 ·refine zlm (by simp[go_sem]) ?_
  try simp[go_sem]
  refine zaD ?_
  try simp[go_sem,g]
  refine zaD ?_
  try simp[go_sem,g]
 have hb0:a0=[]:=by
  cases a0 with
  |nil=>rfl
  |cons x l=>exact absurd (hb (by simp)) (by simp)
 subst hb0
 refine zjj (by simp[go_sem]) ?_
 try simp[go_sem]
 refine zaD ?_
 try simp[go_sem]
def zb9 (a0:Group) (a1:List Int):Option (Int×Int×Bool):=
 (zaJ a0 (⟨#[109,105,120,32,121]⟩:ByteArray) a1).bind fun z1=>
 (zaJ a0 (⟨#[109,105,120,32,122]⟩:ByteArray) a1).bind fun z2=>
 ((if(!z1.2)=true then(
 some true)else(
 some (!z2.2)):Option Bool).bind fun x5=>
 if x5=true then(
 some (0,0,false))else(
 some (z1.1,z2.1,true)))
theorem zgd:∀{a0}{a1}{r},zb9 a0 a1=some r→PCalls Tryz.prog 56 [(.sh,vE a0),(.sh,vC a1)] (Eo (.tup [.int .i64 r.1,.int .i64 r.2.1,.bool r.2.2]) [.junk,.junk]):=by
 intro a0 a1 r hr
 apply pF 31 [] [] [] [.tmp 4,.tmp 5,.tmp 6] hr zH6 Tryz.func56
 intro Φ hΦ hF g
 unfold zb9 at hF
 refine wW ?_
 refine wC hF [.sh,.sh,.sh] zb6 (fun z1 hF=>?_)
 refine wK [1,2,7,8] ?_
 refine wC hF [.sh,.sh,.sh] zb6 (fun z2 hF=>?_)
 refine wW ?_
 refine wJ hF (fun x5=>[(7,.v (.int .i64 z1.1)),(9,.v (.int .i64 z2.1)),(28,.v (.bool x5))]) (fun x5 hF=>?_) fun _ hj3 hF=>?_
 ·refine wI hF (fun h7 hF=>?_) (fun h7 hF=>?_)
  ·refine wK [4,5,6] ?_
   exact wm hΦ hF
  refine wW ?_
  refine wK [4,5,6] ?_
  exact wm hΦ hF
 refine wG hF (fun h6 hF=>?_) fun h6 hF=>?_
 ·exact wV h6 (hj3 _) (zaa hF)
 exact wV h6 (hj3 _) (zaa hF)
def zaw (a0:Group) (a1:Int):Option Int:=
 (ze6 a1 a0.Q).bind fun z1=>
 some z1
theorem zbA:∀{a0}{a1}{r},zaw a0 a1=some r→PCalls Tryz.prog 86 [(.sh,vE a0),(.sh,.int .i64 a1)] (Eo (.int .i64 r) [.junk,.junk]):=by
 intro a0 a1 r hr
 apply pF 9 [] [] [] [.tmp 4] hr zFG Tryz.func86
 intro Φ hΦ hF g
 unfold zaw at hF
 refine wW ?_
 refine wC hF [.sh,.sh] zkr (fun z1 hF=>?_)
 exact wl hΦ hF
@[go_sem] def zCV:List DE:=[d0 0 [4],d1 1 [7] 7,d2 2 [17] 7 17,d0 3 [18],d0 5 [5],d1 6 [7] 7,d2 7 [22] 7 22,d0 8 [23],⟨4,[16,19],[],none,true,false,false⟩,⟨9,[21,24],[],none,true,false,false⟩,d0 10 [20],d0 11 [25]]
def zeN (a0:List Cipher):Option (List Int×List Int):=
 ((zap (σ:=(List Int)×List Int) (fun i5 s4=>
 (ix a0 i5).bind fun x11=>
 gd ((s4.1.length+1)*8≤140737488355328∧s4.1.length+1≤4611686018427387904)<|
 gd ((s4.2.length+1)*8≤140737488355328∧s4.2.length+1≤4611686018427387904)<|
 some (.go (s4.1++[x11.A],s4.2++[x11.B]))) (fun s4=>(s4.1,s4.2)) (a0.length) 0 ([],[]):Option ((List Int×List Int))).bind fun x3=>
 some (x3.1,x3.2))
theorem ziU:∀{a0}{r},zeN a0=some r→PCalls Tryz.prog 89 [(.sh,vH a0)] (Eo (.tup [vD r.1,vD r.2]) [.junk]):=by
 intro a0 r hr
 apply pF 29 [] [] [] [.tmp 2,.tmp 3] hr zFm Tryz.func89
 intro Φ hΦ hF g
 unfold zeN at hF
 iterate 3 (try simp[go_sem,g];try intros;refine zaD ?_)
 refine wJ hF (fun x3=>[(4,.v (vD x3.1)),(5,.v (vD x3.2))]) (fun x3 hF=>?_) fun _ hj1 hF=>?_
 ·refine wK [2,3] ?_
  exact wm hΦ hF
 refine wB ?_
 obtain⟨b12,hb13,hψ8⟩:=hF
 refine pR hb13 (fun i5 s4=>[(4,.v (vD s4.1)),(5,.v (vD s4.2)),(10,.v (vH a0)),(11,.v (.int .i64 (a0.length:Int))),(12,.v (.int .i64 i5))]) (fun s4 _ hN14=>?_) (fun i5 s4 _ _ hi9 hi10 ho6 hg7 hF=>?_)
 ·exact wn hN14 (hj1 _) hψ8
 refine wK [4,5,10,11,12,13] ?_
 refine wu hi9 hi10 ?_
 refine wW ?_
 refine wB ?_
 obtain⟨x11,g,hF⟩:=Rx g hF
 refine wW ?_
 refine wX zCV follows ?_
 obtain⟨g,hF⟩:=Rg g hF
 obtain⟨g,hF⟩:=Rg g hF
 refine wK [4,5,10,11,12] ?_
 exact wi hi9 hi10 (hg7 _) (zaa hF)
@[go_sem] def zA6:List DE:=[d2 0 [3] 3 3,d0 1 [7],d2 2 [3] 3 3,d0 3 [9],d0 4 [2],d0 5 [8],d0 6 [21,22],d0 7 [23],d3 8 [19,20,24],d0 9 [18,25],⟨10,[17,26],[],none,true,true,true⟩,d0 11 [27]]
def zby (a0:Group) (a1:List Int) (a2:List Int):Option Int:=
 ((zap (σ:=Int) (fun i5 s4=>
 (ix a1 i5).bind fun x11=>
 (ix a2 i5).bind fun x12=>
 (zam a0 x11 x12).bind fun z13=>
 (zaz a0 [s4,z13]).bind fun z14=>
 some (.go z14)) (fun s4=>s4) (a1.length) 0 1:Option Int).bind fun x3=>
 some x3)
theorem zde:∀{a0}{a1}{a2}{r},zby a0 a1 a2=some r→PCalls Tryz.prog 90 [(.sh,vE a0),(.sh,vC a1),(.sh,vC a2)] (Eo (.int .i64 r) [.junk,.junk,.junk]):=by
 intro a0 a1 a2 r hr
 apply pF 30 [] [] [] [.tmp 6] hr zFk Tryz.func90
 intro Φ hΦ hF g
 unfold zby at hF
 iterate 3 (try simp[go_sem,g];try intros;refine zaD ?_)
 refine wJ hF (fun x3=>[(7,.v (.int .i64 x3))]) (fun x3 hF=>?_) fun _ hj1 hF=>?_
 ·exact wl hΦ hF
 refine wB ?_
 obtain⟨b15,hb16,hψ8⟩:=hF
 refine pR hb16 (fun i5 s4=>[(2,.v (vC a2)),(3,.bl [.int .i64 a0.P,.int .i64 a0.Q,.int .i64 a0.G]),(7,.v (.int .i64 s4)),(10,.v (vC a1)),(11,.v (.int .i64 (a1.length:Int))),(12,.v (.int .i64 i5))]) (fun s4 _ hN17=>?_) (fun i5 s4 _ _ hi9 hi10 ho6 hg7 hF=>?_)
 ·exact wn hN17 (hj1 _) hψ8
 refine wW ?_
 refine wu hi9 hi10 ?_
 refine wW ?_
 refine wB ?_
 obtain⟨x11,g,hF⟩:=Rx g hF
 refine wK [2,3,7,8,9,10,11,12] ?_
 refine wX zA6 follows ?_
 obtain⟨x12,g,hF⟩:=Rx g hF
 refine wC hF [.sh,.sh,.sh] zaI (fun z13 hF=>?_)
 refine wC hF [.sh,.sh] zbd (fun z14 hF=>?_)
 refine wK [2,3,7,10,11,12] ?_
 exact wi hi9 hi10 (hg7 _) (zaa hF)
theorem zCy:ztx Tryz.prog 150 26:=by
 intro n H e b es by_ z e1 e2 h0 h1 h2 h3 h4 h5
 refine zlA zBD Tryz.func150 rfl rfl (by simp[Tryz.f150]) fun hw=>?_
 have hn:¬n<0:=by omega
 have hw1:i64.wrap n=n:=wrI (by omega)
 have hw0:i64.wrap 0=0:=wrI (by omega)
 have ei:(zdC Tryz.prog 3).isSome=true:=by kernel_rfl
 by_cases hp:0<n
 ·have hne:n≠0:=by omega
  have h5':=h5
  simp[zas]at h5'
  simp[Tryz.f150,awp,zg5,aop,ahp,zaX,zbq,za2,mat,zbm,zaC,zpx,FR.put,FR.init,rdv,rda,zbF,zdz,zas,Am.lenV,ze9,zdu,bnd,zmy,zsG,zik,zjM,zm0,hn,e1,e2,ei,hw1,hw0,hp,h1,h2,h3,h4,hne]
  first|exact h5'|exact .inl h5'
 have hz:n=0:=by omega
 subst hz
 simp[Tryz.f150,awp,zg5,aop,ahp,zaX,zbq,za2,mat,zbm,zaC,zpx,FR.put,FR.init,rdv,rda,zbF,zdz,zas,Am.lenV,ze9,zdu,bnd,zmy,zsG,zik,zjM,zm0,hn,e1,e2,hw1,hw0,hp]
def zbk (a0:(List (List Int))):Option ((List Int)):=
 ((zap (σ:=Int) (fun i5 s4=>
 (ix a0 i5).bind fun x11=>
 if decide ((i64.wrap (s4+(x11.length:Int)))<0)=true then(
 none)else(
 some (.go (i64.wrap (s4+(x11.length:Int)))))) (fun s4=>s4) (a0.length) 0 0:Option Int).bind fun x3=>
 gd (0≤x3∧8*x3≤140737488355328∧x3≤4611686018427387904)<|
 ((zap (σ:=(List Int)) (fun i22 s21=>
 (ix a0 i22).bind fun x28=>
 gd ((s21.length+x28.length)*8≤140737488355328∧s21.length+x28.length≤4611686018427387904)<|
 some (.go (s21++x28))) (fun s21=>s21) (a0.length) 0 []:Option ((List Int))).bind fun x20=>
 some x20))
theorem zeX:∀{a0}{r},zbk a0=some r→PCalls Tryz.prog 91 [(.sh,vK a0)] (Eo (vD r) [.junk]):=by
 intro a0 r hr
 apply pF 36 [] [] [] [.tmp 2] hr zG6 Tryz.func91
 intro Φ hΦ hF g
 unfold zbk at hF
 iterate 3 (try simp[go_sem,g];try intros;refine zaD ?_)
 refine wJ hF (fun x3=>[(0,.v (vK a0)),(3,.v (.int .i64 x3))]) (fun x3 hF=>?_) fun _ hj1 hF=>?_
 ·obtain⟨g17,hF⟩:=ziB hF
  try simp[go_sem,g]
  refine zwP zCy zHb (by simp[go_sem,g]) g17 ?_
  try simp[go_sem,g]
  try intros
  refine zaD ?_
  try simp[go_sem,g]
  try intros
  refine wK [6,25,26,27] ?_
  refine wJ hF (fun x20=>[(6,.v (vD x20))]) (fun x20 hF=>?_) fun _ hj18 hF=>?_
  ·exact wl hΦ hF
  refine wB ?_
  obtain⟨b29,hb30,hψ25⟩:=hF
  refine pR hb30 (fun i22 s21=>[(6,.v (vD s21)),(25,.v (vK a0)),(26,.v (.int .i64 (a0.length:Int))),(27,.v (.int .i64 i22))]) (fun s21 _ hN31=>?_) (fun i22 s21 _ _ hi26 hi27 ho23 hg24 hF=>?_)
  ·exact wn hN31 (hj18 _) hψ25
  refine wW ?_
  refine wu hi26 hi27 ?_
  refine wW ?_
  refine wB ?_
  obtain⟨x28,g,hF⟩:=Rx g hF
  obtain⟨g,hF⟩:=Rg g hF
  iterate 2 refine wW ?_
  exact wi hi26 hi27 (hg24 _) (zaa hF)
 refine wB ?_
 obtain⟨b13,hb14,hψ8⟩:=hF
 refine pR hb14 (fun i5 s4=>[(0,.v (vK a0)),(3,.v (.int .i64 s4)),(9,.v (vK a0)),(10,.v (.int .i64 (a0.length:Int))),(11,.v (.int .i64 i5))]) (fun s4 _ hN15=>?_) (fun i5 s4 _ _ hi9 hi10 ho6 hg7 hF=>?_)
 ·exact wn hN15 (hj1 _) hψ8
 refine wW ?_
 refine wu hi9 hi10 ?_
 refine wW ?_
 refine wB ?_
 obtain⟨x11,g,hF⟩:=Rx g hF
 try simp[go_sem,g]
 try intros
 refine zaD ?_
 try simp[go_sem,g]
 try intros
 refine wK [0,3,9,10,11] ?_
 refine wW ?_
 refine wI hF (fun h12 hF=>?_) (fun h12 hF=>?_)
 ·exact(zlK hF).elim
 refine wW ?_
 exact wi hi9 hi10 (hg7 _) (zaa hF)
@[go_sem] def zBm:List DE:=[d0 0 [7],d0 1 [0],d0 2 [8],d0 3 [15,16],d0 4 [17],d0 5 [1],d0 6 [8],d0 7 [19,20],d0 8 [21],d0 9 [18,22],d0 10 [2],d0 11 [23,24],d0 12 [14,25],d0 13 [2],d0 14 [26,27],d0 15 [28]]
def zgz (a0:List Int) (a1:List Int) (a2:Int):Option Int:=
 ((zap (σ:=Int) (fun i5 s4=>
 (ix a0 i5).bind fun x11=>
 (ix a1 i5).bind fun x12=>
 gd (a2≠0)<|
 gd (a2≠0)<|
 some (.go ((i64.wrap (s4+((i64.wrap (x11*x12)).tmod a2))).tmod a2))) (fun s4=>s4) (a0.length) 0 0:Option Int).bind fun x3=>
 some x3)
theorem zs2:∀{a0}{a1}{a2}{r},zgz a0 a1 a2=some r→PCalls Tryz.prog 92 [(.sh,vC a0),(.sh,vC a1),(.sh,.int .i64 a2)] (Eo (.int .i64 r) [.junk,.junk,.junk]):=by
 intro a0 a1 a2 r hr
 apply pF 31 [] [] [] [.tmp 6] hr zGP Tryz.func92
 intro Φ hΦ hF g
 unfold zgz at hF
 iterate 3 (try simp[go_sem,g];try intros;refine zaD ?_)
 refine wJ hF (fun x3=>[(7,.v (.int .i64 x3))]) (fun x3 hF=>?_) fun _ hj1 hF=>?_
 ·exact wl hΦ hF
 refine wB ?_
 obtain⟨b13,hb14,hψ8⟩:=hF
 refine pR hb14 (fun i5 s4=>[(0,.v (vC a0)),(1,.v (vC a1)),(2,.v (.int .i64 a2)),(7,.v (.int .i64 s4)),(10,.v (.int .i64 (a0.length:Int))),(11,.v (.int .i64 i5))]) (fun s4 _ hN15=>?_) (fun i5 s4 _ _ hi9 hi10 ho6 hg7 hF=>?_)
 ·exact wn hN15 (hj1 _) hψ8
 refine wW ?_
 refine wu hi9 hi10 ?_
 refine wW ?_
 refine wB ?_
 refine wW ?_
 refine wX zBm follows ?_
 obtain⟨x11,g,hF⟩:=Rx g hF
 obtain⟨x12,g,hF⟩:=Rx g hF
 obtain⟨g,hF⟩:=Rz g hF
 obtain⟨g,hF⟩:=Rz g hF
 refine wK [0,1,2,7,10,11] ?_
 exact wi hi9 hi10 (hg7 _) (zaa hF)
@[go_sem] def zyo:List DE:=[d1 0 [29] 29,d2 1 [129] 29 129,d2 2 [7] 7 7,d2 3 [8] 8 8,d0 4 [32],d0 5 [33],d0 6 [133,134],d0 7 [135],d0 8 [19],d0 9 [33],d0 10 [137,138],d0 11 [139],d3 12 [131,132,136,140],d0 13 [141],⟨14,[130,142],[],none,true,false,false⟩,d1 15 [29] 29,d2 16 [144,143] 29 144]
@[go_sem] def zyy:List DE:=[d0 0 [2],d0 1 [3],d0 2 [28],d1 3 [29] 29,d2 4 [149] 29 149,d1 6 [29] 29,d2 7 [152] 29 152,d3 5 [150],d0 8 [151,153],d3 9 [146,147,148,154],d0 10 [155]]
@[go_sem] def zyS:List DE:=[d0 0 [39],d2 1 [7] 7 7,d0 2 [36],d0 3 [43],d0 4 [175],d0 5 [174,176],d0 6 [32],d0 7 [42],d0 8 [178,179],d0 9 [180],d0 10 [177,181],d0 11 [37],d0 12 [182,183],d3 13 [173,184],d0 14 [185],⟨15,[172,186],[],none,true,false,false⟩,d0 16 [187]]
@[go_sem] def zzs:List DE:=[d2 0 [7] 7 7,d0 1 [40],d0 2 [39],d0 3 [42],d0 4 [190,191],d0 5 [192],d0 6 [189,193],d3 7 [188,194],d0 8 [195]]
@[go_sem] def zzo:List DE:=[d1 0 [29] 29,d2 1 [196] 29 196,d2 2 [7] 7 7,d2 3 [8] 8 8,d0 4 [40],d0 5 [20],d0 6 [42],d0 7 [201,202],d0 8 [203],d3 9 [198,199,200,204],d0 10 [205],⟨11,[197,206],[],none,true,false,false⟩,d1 12 [29] 29,d2 13 [208,207] 29 208]
@[go_sem] def zyK:List DE:=[d2 0 [7] 7 7,d0 1 [20],d0 2 [42],d0 3 [216,217],d0 4 [218],d2 5 [7] 7 7,d0 6 [20],d0 7 [42],d0 8 [222],d0 9 [221,223],d0 10 [224],d0 11 [39],d0 12 [42],d0 13 [226,227],d0 14 [228],d0 15 [225,229],⟨16,[220,230],[],none,false,true,false⟩,d0 17 [219,231],d3 18 [215,232],d0 19 [233]]
@[go_sem] def zyh:List DE:=[d0 0 [46],d2 1 [7] 7 7,d2 2 [8] 8 8,d0 3 [21],d0 4 [47],d0 5 [253,254],d0 6 [255],d0 7 [22],d0 8 [47],d0 9 [257,258],d0 10 [259],d3 11 [251,252,256,260],d0 12 [261],⟨13,[250,262],[],none,true,false,false⟩,d0 14 [263]]
@[go_sem] def zzF:List DE:=[d0 0 [46],d2 1 [7] 7 7,d2 2 [7] 7 7,d0 3 [45],d0 4 [48],d0 5 [272,273],d0 6 [274],d0 7 [21],d0 8 [48],d0 9 [276,277],d0 10 [278],d2 12 [7] 7 7,d1 13 [8] 8,d2 14 [282] 8 282,d0 15 [23],d0 16 [48],d0 17 [284,285],d0 18 [286],⟨11,[271,275,279],[],none,false,true,false⟩,d3 19 [281,283,287],d0 20 [280,288],⟨21,[270,289],[],none,true,true,true⟩,d0 22 [290],⟨23,[269,291],[],none,true,false,false⟩,d0 24 [292]]
@[go_sem] def zzP:List DE:=[d0 0 [46],d2 1 [7] 7 7,d2 2 [8] 8 8,d0 3 [25],d0 4 [49],d0 5 [309,310],d0 6 [311],d0 7 [26],d0 8 [49],d0 9 [313,314],d0 10 [315],d3 11 [307,308,312,316],d0 12 [317],⟨13,[306,318],[],none,true,false,false⟩,d0 14 [319]]
@[go_sem] def zxZ:List DE:=[d0 0 [46],d2 1 [7] 7 7,d2 2 [7] 7 7,d1 3 [7] 7,d2 4 [329] 7 329,d0 5 [27],d0 6 [331],d2 8 [7] 7 7,d0 9 [50],d0 10 [25],d2 14 [7] 7 7,d2 15 [7] 7 7,d0 16 [2],d0 17 [27],d0 18 [343],d2 20 [7] 7 7,d0 21 [51],d0 22 [25],d3 7 [328,330,332],d3 11 [334,335,336],d0 12 [333,337],⟨13,[327,338],[],none,true,true,true⟩,d3 19 [341,342,344],d3 23 [346,347,348],d0 24 [345,349],⟨25,[340,350],[],none,true,true,true⟩,d0 26 [339,351],⟨27,[326,352],[],none,true,false,false⟩,d1 28 [29] 29,d1 29 [354] 29,d2 30 [355,353] 29 355]
@[go_sem] def zyi:List DE:=[d2 0 [7] 7 7,d0 1 [35],d1 2 [29] 29,d2 3 [359] 29 359,d1 4 [29] 29,d1 5 [361] 29,d2 6 [362] 29 362,d0 7 [358,360,363],⟨8,[364],[],none,true,true,true⟩,d3 9 [357,365],d0 10 [366],d0 11 [356],d0 12 [356],d0 13 [367],d0 14 [368]]
@[go_sem] def zyQ:List DE:=[d1 0 [54] 54,d2 1 [389] 54 389,d2 2 [7] 7 7,d0 3 [21],d0 4 [55],d0 5 [392,393],d0 6 [394],d0 7 [52],d0 8 [39],d0 9 [55],d0 10 [397,398],d0 11 [399],d0 12 [396,400],d0 13 [395,401],d3 14 [391,402],d0 15 [403],⟨16,[390,404],[],none,true,false,false⟩,d1 17 [54] 54,d2 18 [406,405] 54 406]
@[go_sem] def zye:List DE:=[d1 0 [54] 54,d2 1 [407] 54 407,d2 2 [7] 7 7,d0 3 [22],d0 4 [55],d0 5 [410,411],d0 6 [412],d0 7 [52],d2 8 [7] 7 7,d0 9 [36],d0 10 [18],d0 11 [55],d0 12 [417,418],d0 13 [419],d0 14 [416,420],d0 15 [19],d0 16 [55],d0 17 [422,423],d0 18 [424],d0 19 [421,425],⟨20,[415,426],[],none,false,true,false⟩,d0 21 [414,427],d0 22 [413,428],d3 23 [409,429],d0 24 [430],⟨25,[408,431],[],none,true,false,false⟩,d1 26 [54] 54,d2 27 [433,432] 54 433]
@[go_sem] def zyE:List DE:=[d1 0 [54] 54,d2 1 [434] 54 434,d2 2 [7] 7 7,d0 3 [23],d0 4 [55],d0 5 [437,438],d0 6 [439],d0 7 [52],d0 8 [41],d0 9 [55],d0 10 [442,443],d0 11 [444],d0 12 [441,445],d0 13 [440,446],d3 14 [436,447],d0 15 [448],⟨16,[435,449],[],none,true,false,false⟩,d1 17 [54] 54,d2 18 [451,450] 54 451]
@[go_sem] def zzE:List DE:=[d1 0 [54] 54,d2 1 [452] 54 452,d2 2 [7] 7 7,d0 3 [25],d0 4 [55],d0 5 [455,456],d0 6 [457],d0 7 [52],d0 8 [32],d0 9 [55],d0 10 [460,461],d0 11 [462],d0 12 [459,463],d0 13 [458,464],d3 14 [454,465],d0 15 [466],⟨16,[453,467],[],none,true,false,false⟩,d1 17 [54] 54,d2 18 [469,468] 54 469]
@[go_sem] def zyu:List DE:=[d1 0 [54] 54,d2 1 [470] 54 470,d2 2 [7] 7 7,d0 3 [26],d0 4 [55],d0 5 [473,474],d0 6 [475],d0 7 [52],d0 8 [19],d0 9 [55],d0 10 [478,479],d0 11 [480],d0 12 [477,481],d0 13 [476,482],d3 14 [472,483],d0 15 [484],⟨16,[471,485],[],none,true,false,false⟩,d1 17 [54] 54,d2 18 [487,486] 54 487]
@[go_sem] def zzp:List DE:=[d1 0 [54] 54,d2 1 [489] 54 489,d1 2 [54] 54,d2 3 [491] 54 491,d1 4 [54] 54,d2 5 [493] 54 493,d2 6 [7] 7 7,d0 7 [24],d0 8 [52],d0 9 [20],d0 10 [16],d0 11 [499],d0 12 [498,500],d0 13 [501],d0 14 [497,502],d0 15 [496,503],d1 18 [54] 54,d2 19 [507] 54 507,d1 20 [54] 54,d2 21 [509] 54 509,d2 22 [7] 7 7,d0 23 [27],d0 24 [52],d0 25 [5],d0 26 [32],d1 27 [7] 7,d2 28 [516] 7 516,d3 16 [495,504],d0 17 [505],d3 29 [514,515,517],d0 30 [513,518],d0 31 [512,519],d3 32 [511,520],d0 33 [521],⟨34,[490,492,494,506,508,510,522],[],none,true,true,false⟩,⟨35,[523],[],none,true,true,true⟩,d1 36 [29] 29,d1 37 [525] 29,d2 38 [526,524] 29 526]
@[go_sem] def zA2:List DE:=[d2 0 [7] 7 7,d0 1 [2],d0 2 [3],d0 3 [28],d1 4 [29] 29,d2 5 [106] 29 106,d3 6 [103,104,105,107],d3 7 [102,108],d0 8 [109],d0 9 [101],d0 10 [101],d0 11 [110],d0 12 [111]]
def zcs (a0:Group) (a1:Bases) (a2:Int) (a3:List Cipher) (a4:List Int) (a5:List Int) (a6:List Int):Option (PolyProof×Bool):=
 (zau a6 (a3.length:Int)).bind fun z1=>
 (zau z1.2 (a3.length:Int)).bind fun z2=>
 (zau z2.2 (a3.length:Int)).bind fun z3=>
 (zau z3.2 (a3.length:Int)).bind fun z4=>
 (zau z4.2 (a3.length:Int)).bind fun z5=>
 (zau z5.2 (a3.length:Int)).bind fun z6=>
 (zbQ z6.2).bind fun z7=>
 (zau z7.2 (a3.length:Int)).bind fun z8=>
 (zau z8.2 (a3.length:Int)).bind fun z9=>
 (zbQ z9.2).bind fun z10=>
 (zed a0 a2 a3 a4 a5).bind fun z11=>
 (zb7 a0 a1 a4 z1.1).bind fun z12=>
 (zcg a2 a3 z11 z12).bind fun z13=>
 (zaJ a0 (⟨#[109,105,120,32,120]⟩:ByteArray) z13).bind fun z14=>
 ((zap (σ:=(List Int)×List Int×List Int×List Int×List Int×List Int×List Int) (fun i33 s32=>
 (ix a4 i33).bind fun x39=>
 (zbE z14.1 (i64.wrap (x39+1)) a0.Q).bind fun z40=>
 gd ((s32.2.2.2.2.2.2.length+1)*8≤140737488355328∧s32.2.2.2.2.2.2.length+1≤4611686018427387904)<|
 (some (s32.2.2.2.2.2.2++[z40])).bind fun x41=>
 (ix x41 i33).bind fun x43=>
 (ix z2.1 i33).bind fun x44=>
 (zaS a0 a1 x43 x44).bind fun z45=>
 gd ((s32.2.1.length+1)*8≤140737488355328∧s32.2.1.length+1≤4611686018427387904)<|
 some (.go (s32.1,s32.2.1++[z45],s32.2.2.1,s32.2.2.2.1,s32.2.2.2.2.1,s32.2.2.2.2.2.1,x41))) (fun s32=>(s32.1,s32.2.1,s32.2.2.1,s32.2.2.2.1,s32.2.2.2.2.1,s32.2.2.2.2.2.1,s32.2.2.2.2.2.2)) (a4.length) 0 (z12,[],[],[],[],[],[]):Option ((List Int×List Int×List Int×List Int×List Int×List Int×List Int))).bind fun x17=>
 (zcr x17.1).bind fun z50=>
 gd ((z50.length+x17.2.1.length)*8≤140737488355328∧z50.length+x17.2.1.length≤4611686018427387904)<|
 (zcg a2 a3 z11 (z50++x17.2.1)).bind fun z51=>
 (zb9 a0 z51).bind fun z52=>
 ((zap (σ:=(List Int)×List Int×List Int×List Int×List Int×List Int×List Int×Int×List Int) (fun i80 s79=>
 (ix a4 i80).bind fun x86=>
 (ix x17.2.2.2.2.2.2 i80).bind fun x87=>
 (zaw a0 (i64.wrap ((i64.wrap ((i64.wrap (z52.1*(i64.wrap (x86+1))))+x87))-z52.2.1))).bind fun z88=>
 gd ((s79.2.2.2.2.2.2.1.length+1)*8≤140737488355328∧s79.2.2.2.2.2.2.1.length+1≤4611686018427387904)<|
 (some (s79.2.2.2.2.2.2.1++[z88])).bind fun x89=>
 (ix x89 i80).bind fun x91=>
 (zaw a0 (i64.wrap (s79.2.2.2.2.2.2.2.1*x91))).bind fun z92=>
 (ix z3.1 i80).bind fun x93=>
 (zaS a0 a1 z92 x93).bind fun z94=>
 gd ((s79.2.2.1.length+1)*8≤140737488355328∧s79.2.2.1.length+1≤4611686018427387904)<|
 ((if decide (0<i80)=true then(
 (ix z3.1 (i64.wrap (i80-1))).bind fun x99=>
 (zaw a0 (i64.wrap (x99*x91))).bind fun z100=>
 (zaw a0 (i64.wrap (x93-z100))).bind fun z101=>
 some z101)else(
 some x93):Option Int).bind fun x97=>
 gd ((s79.2.2.2.2.2.2.2.2.length+1)*8≤140737488355328∧s79.2.2.2.2.2.2.2.2.length+1≤4611686018427387904)<|
 some (.go (s79.1,s79.2.1,s79.2.2.1++[z94],s79.2.2.2.1,s79.2.2.2.2.1,s79.2.2.2.2.2.1,x89,z92,s79.2.2.2.2.2.2.2.2++[x97])))) (fun s79=>(s79.1,s79.2.1,s79.2.2.1,s79.2.2.2.1,s79.2.2.2.2.1,s79.2.2.2.2.2.1,s79.2.2.2.2.2.2.1,s79.2.2.2.2.2.2.2.2)) (a4.length) 0 (x17.1,x17.2.1,x17.2.2.1,x17.2.2.2.1,x17.2.2.2.2.1,x17.2.2.2.2.2.1,[],1,[]):Option ((List Int×List Int×List Int×List Int×List Int×List Int×List Int×List Int))).bind fun x55=>
 gd (([a0.G].length+x55.2.2.1.length)*8≤140737488355328∧[a0.G].length+x55.2.2.1.length≤4611686018427387904)<|
 (some ([a0.G]++x55.2.2.1)).bind fun x106=>
 ((zap (σ:=(List Int)) (fun i112 s111=>
 (ix z4.1 i112).bind fun x118=>
 (ix z5.1 i112).bind fun x119=>
 (zaS a0 a1 x118 x119).bind fun z120=>
 gd ((s111.length+1)*8≤140737488355328∧s111.length+1≤4611686018427387904)<|
 some (.go (s111++[z120]))) (fun s111=>s111) (a3.length) 0 []:Option ((List Int))).bind fun x110=>
 ((zap (σ:=(List Int)) (fun i129 s128=>
 (ix x106 i129).bind fun x135=>
 (ix z4.1 i129).bind fun x136=>
 (ix z6.1 i129).bind fun x137=>
 (zam a0 x135 x136).bind fun z138=>
 (zam a0 a1.H x137).bind fun z139=>
 (zaz a0 [z138,z139]).bind fun z140=>
 gd ((s128.length+1)*8≤140737488355328∧s128.length+1≤4611686018427387904)<|
 some (.go (s128++[z140]))) (fun s128=>s128) (a3.length) 0 x110:Option ((List Int))).bind fun x127=>
 (zam a0 a1.H z7.1).bind fun z145=>
 gd ((x127.length+1)*8≤140737488355328∧x127.length+1≤4611686018427387904)<|
 ((zap (σ:=(List Int)) (fun i150 s149=>
 (ix z8.1 i150).bind fun x156=>
 (ix z9.1 i150).bind fun x157=>
 (zaS a0 a1 x156 x157).bind fun z158=>
 gd ((s149.length+1)*8≤140737488355328∧s149.length+1≤4611686018427387904)<|
 some (.go (s149++[z158]))) (fun s149=>s149) (a3.length) 0 (x127++[z145]):Option ((List Int))).bind fun x148=>
 (zeN z11).bind fun z163=>
 (zam a0 a0.G (i64.wrap (0-z10.1))).bind fun z164=>
 (zby a0 z163.1 z8.1).bind fun z165=>
 (zaz a0 [z164,z165]).bind fun z166=>
 (zam a0 a2 (i64.wrap (0-z10.1))).bind fun z167=>
 (zby a0 z163.2 z8.1).bind fun z168=>
 (zaz a0 [z167,z168]).bind fun z169=>
 gd ((x148.length+2)*8≤140737488355328∧x148.length+2≤4611686018427387904)<|
 (zbk [z51,x55.2.2.1,x148++[z166,z169]]).bind fun z170=>
 (zaJ a0 (⟨#[109,105,120,32,101,110,100]⟩:ByteArray) z170).bind fun z171=>
 ((if(!z14.2)=true then(
 some true)else(
 if(!z52.2.2)=true then(
 some true)else(
 some (!z171.2))):Option Bool).bind fun x174=>
 if x174=true then(
 some ((PolyProof.mk [] [] [] (Proof.mk [] [] [])),false))else(
 ((zap (σ:=(List Int)×List Int×List Int×List Int×List Int) (fun i205 s204=>
 (ix z4.1 i205).bind fun x211=>
 (ix x55.2.2.2.2.2.2.1 i205).bind fun x212=>
 (zaw a0 (i64.wrap (x211+(i64.wrap (z171.1*x212))))).bind fun z213=>
 gd ((s204.1.length+1)*8≤140737488355328∧s204.1.length+1≤4611686018427387904)<|
 (ix z5.1 i205).bind fun x214=>
 (ix z1.1 i205).bind fun x215=>
 (ix z2.1 i205).bind fun x216=>
 (zaw a0 (i64.wrap ((i64.wrap (z52.1*x215))+x216))).bind fun z217=>
 (zaw a0 (i64.wrap (x214+(i64.wrap (z171.1*z217))))).bind fun z218=>
 gd ((s204.2.1.length+1)*8≤140737488355328∧s204.2.1.length+1≤4611686018427387904)<|
 (ix z6.1 i205).bind fun x219=>
 (ix x55.2.2.2.2.2.2.2 i205).bind fun x220=>
 (zaw a0 (i64.wrap (x219+(i64.wrap (z171.1*x220))))).bind fun z221=>
 gd ((s204.2.2.1.length+1)*8≤140737488355328∧s204.2.2.1.length+1≤4611686018427387904)<|
 (ix z8.1 i205).bind fun x222=>
 (ix x17.2.2.2.2.2.2 i205).bind fun x223=>
 (zaw a0 (i64.wrap (x222+(i64.wrap (z171.1*x223))))).bind fun z224=>
 gd ((s204.2.2.2.1.length+1)*8≤140737488355328∧s204.2.2.2.1.length+1≤4611686018427387904)<|
 (ix z9.1 i205).bind fun x225=>
 (zaw a0 (i64.wrap (x225+(i64.wrap (z171.1*x216))))).bind fun z226=>
 gd ((s204.2.2.2.2.length+1)*8≤140737488355328∧s204.2.2.2.2.length+1≤4611686018427387904)<|
 some (.go (s204.1++[z213],s204.2.1++[z218],s204.2.2.1++[z221],s204.2.2.2.1++[z224],s204.2.2.2.2++[z226]))) (fun s204=>(s204.1,s204.2.1,s204.2.2.1,s204.2.2.2.1,s204.2.2.2.2)) (a3.length) 0 ([],[],[],[],[]):Option ((List Int×List Int×List Int×List Int×List Int))).bind fun x180=>
 (ix z3.1 (i64.wrap ((a3.length:Int)-1))).bind fun x231=>
 (zaw a0 (i64.wrap (z7.1+(i64.wrap (z171.1*x231))))).bind fun z232=>
 (zgz a5 x17.2.2.2.2.2.2 a0.Q).bind fun z233=>
 (zaw a0 (i64.wrap (z10.1+(i64.wrap (z171.1*z233))))).bind fun z234=>
 (zbk [x180.1,x180.2.1,x180.2.2.1,[z232],x180.2.2.2.1,x180.2.2.2.2,[z234]]).bind fun z235=>
 some ((PolyProof.mk x55.1 x55.2.1 x55.2.2.1 (Proof.mk (x148++[z166,z169]) [z171.1] z235)),true)))))))))
set_option maxHeartbeats 1000000 in
theorem zjx:∀{a0}{a1}{a2}{a3}{a4}{a5}{a6}{r},zcs a0 a1 a2 a3 a4 a5 a6=some r→PCalls Tryz.prog 33 [(.sh,vE a0),(.sh,vJ a1),(.sh,.int .i64 a2),(.sh,vH a3),(.sh,vC a4),(.sh,vC a5),(.sh,vC a6)] (Eo (.tup [vL r.1,.bool r.2]) [.junk,.junk,.junk,.junk,.junk,.junk,.junk]):=by
 intro a0 a1 a2 a3 a4 a5 a6 r hr
 apply pFz 528 [] [358,360,363,490,492,494,506,508,510,522,2107] [60] [.cell 14 32,.tmp 15] hr zGU Tryz.func33
 intro Φ hΦ hF g
 unfold zcs at hF
 try simp[go_sem,g]
 try intros
 refine zaD ?_
 try simp[go_sem,g]
 try intros
 refine wK [2,3,4,5,7,8,14,16,17] ?_
 refine wC hF [.io,.sh] zaK (fun z1 hF=>?_)
 refine wC hF [.io,.sh] zaK (fun z2 hF=>?_)
 refine wC hF [.io,.sh] zaK (fun z3 hF=>?_)
 refine wC hF [.io,.sh] zaK (fun z4 hF=>?_)
 refine wC hF [.io,.sh] zaK (fun z5 hF=>?_)
 refine wC hF [.io,.sh] zaK (fun z6 hF=>?_)
 refine wK [2,3,4,5,7,8,14,16,17,18,19,20,21,22,23] ?_
 refine wC hF [.io] zep (fun z7 hF=>?_)
 refine wW ?_
 refine wC hF [.io,.sh] zaK (fun z8 hF=>?_)
 refine wC hF [.io,.sh] zaK (fun z9 hF=>?_)
 refine wK [2,3,4,5,7,8,14,16,17,18,19,20,21,22,23,24,25,26] ?_
 refine wC hF [.io] zep (fun z10 hF=>?_)
 refine wW ?_
 refine wC hF [.sh,.sh,.sh,.sh,.sh] zi6 (fun z11 hF=>?_)
 refine wK [2,3,4,5,7,8,14,16,18,19,20,21,22,23,24,25,26,27,28] ?_
 refine wC hF [.sh,.sh,.sh,.sh] zgf (fun z12 hF=>?_)
 refine wW ?_
 refine wX zA2 follows ?_
 refine wC hF [.sh,.sh,.sh,.sh] zeJ (fun z13 hF=>?_)
 refine wC hF [.sh,.sh,.sh] zb6 (fun z14 hF=>?_)
 refine wK [2,3,4,5,7,8,14,16,18,19,20,21,22,23,24,25,26,27,28,29,30,31] ?_
 iterate 2 (try simp[go_sem,g];try intros;refine zaD ?_)
 refine wJ hF (fun x17=>[(2,.v (.int .i64 a2)),(3,.v (vH a3)),(4,.v (vC a4)),(5,.v (vC a5)),(7,.bl [.int .i64 a0.P,.int .i64 a0.Q,.int .i64 a0.G]),(8,.bl [.int .i64 a1.H,vC a1.Hs]),(14,.bl [.sl true 1 [],.sl true 1 [],.sl true 1 [],.sl true 1 [],.sl true 1 [],.sl true 1 []]),(16,.v (.int .i64 (a3.length:Int))),(18,.v (vC z1.1)),(19,.v (vC z2.1)),(20,.v (vC z3.1)),(21,.v (vC z4.1)),(22,.v (vC z5.1)),(23,.v (vC z6.1)),(24,.v (.int .i64 z7.1)),(25,.v (vC z8.1)),(26,.v (vC z9.1)),(27,.v (.int .i64 z10.1)),(28,.v (vG z11)),(29,.bl [vD x17.1,vD x17.2.1,vD x17.2.2.1,vD x17.2.2.2.1,vD x17.2.2.2.2.1,vD x17.2.2.2.2.2.1]),(31,.v (.bool z14.2)),(32,.v (vD x17.2.2.2.2.2.2))]) (fun x17 hF=>?_) fun _ hj15 hF=>?_
 ·refine wX zyy follows ?_
  refine wC hF [.sh] zfj (fun z50 hF=>?_)
  obtain⟨g,hF⟩:=Rg g hF
  refine wC hF [.sh,.sh,.sh,.sh] zeJ (fun z51 hF=>?_)
  refine wK [2,4,5,7,8,14,16,18,19,20,21,22,23,24,25,26,27,28,29,31,32,35] ?_
  refine wC hF [.sh,.sh] zgd (fun z52 hF=>?_)
  refine wK [2,4,5,7,8,14,16,18,19,20,21,22,23,24,25,26,27,28,29,31,32,35,36,37,38] ?_
  iterate 2 (try simp[go_sem,g];try intros;refine zaD ?_)
  refine wJ hF (fun x55=>[(2,.v (.int .i64 a2)),(5,.v (vC a5)),(7,.bl [.int .i64 a0.P,.int .i64 a0.Q,.int .i64 a0.G]),(8,.bl [.int .i64 a1.H,vC a1.Hs]),(14,.bl [.sl true 1 [],.sl true 1 [],.sl true 1 [],.sl true 1 [],.sl true 1 [],.sl true 1 []]),(16,.v (.int .i64 (a3.length:Int))),(18,.v (vC z1.1)),(19,.v (vC z2.1)),(20,.v (vC z3.1)),(21,.v (vC z4.1)),(22,.v (vC z5.1)),(23,.v (vC z6.1)),(24,.v (.int .i64 z7.1)),(25,.v (vC z8.1)),(26,.v (vC z9.1)),(27,.v (.int .i64 z10.1)),(28,.v (vG z11)),(29,.bl [vD x55.1,vD x55.2.1,vD x55.2.2.1,vD x55.2.2.2.1,vD x55.2.2.2.2.1,vD x55.2.2.2.2.2.1]),(31,.v (.bool z14.2)),(32,.v (vD x17.2.2.2.2.2.2)),(35,.v (vD z51)),(36,.v (.int .i64 z52.1)),(38,.v (.bool z52.2.2)),(39,.v (vD x55.2.2.2.2.2.2.1)),(41,.v (vD x55.2.2.2.2.2.2.2))]) (fun x55 hF=>?_) fun _ hj53 hF=>?_
  ·obtain⟨g,hF⟩:=Rg g hF
   obtain⟨x106,e107,hF⟩:=zeo hF
   have g:=And.intro g (show[.int .i64 a0.G]::(List.map zao x55.2.2.1)=x106.map zao by injection e107 with e107;rw[←e107];simp[go_sem])
   refine wK [2,5,7,8,14,16,18,19,20,21,22,23,24,25,26,27,28,29,31,32,35,36,38,39,41,45] ?_
   iterate 2 refine wW ?_
   refine wJ hF (fun x110=>[(2,.v (.int .i64 a2)),(5,.v (vC a5)),(7,.bl [.int .i64 a0.P,.int .i64 a0.Q,.int .i64 a0.G]),(8,.bl [.int .i64 a1.H,vC a1.Hs]),(14,.bl [.sl true 1 [],.sl true 1 [],.sl true 1 [],.sl true 1 [],.sl true 1 [],.sl true 1 []]),(16,.v (.int .i64 (a3.length:Int))),(18,.v (vC z1.1)),(19,.v (vC z2.1)),(20,.v (vC z3.1)),(21,.v (vC z4.1)),(22,.v (vC z5.1)),(23,.v (vC z6.1)),(24,.v (.int .i64 z7.1)),(25,.v (vC z8.1)),(26,.v (vC z9.1)),(27,.v (.int .i64 z10.1)),(28,.v (vG z11)),(29,.bl [vD x55.1,vD x55.2.1,vD x55.2.2.1,vD x55.2.2.2.1,vD x55.2.2.2.2.1,vD x55.2.2.2.2.2.1]),(31,.v (.bool z14.2)),(32,.v (vD x17.2.2.2.2.2.2)),(35,.v (vD z51)),(36,.v (.int .i64 z52.1)),(38,.v (.bool z52.2.2)),(39,.v (vD x55.2.2.2.2.2.2.1)),(41,.v (vD x55.2.2.2.2.2.2.2)),(45,.v (vD x106)),(46,.v (vD x110))]) (fun x110 hF=>?_) fun _ hj108 hF=>?_
   ·refine wW ?_
    refine wJ hF (fun x127=>[(2,.v (.int .i64 a2)),(5,.v (vC a5)),(7,.bl [.int .i64 a0.P,.int .i64 a0.Q,.int .i64 a0.G]),(8,.bl [.int .i64 a1.H,vC a1.Hs]),(14,.bl [.sl true 1 [],.sl true 1 [],.sl true 1 [],.sl true 1 [],.sl true 1 [],.sl true 1 []]),(16,.v (.int .i64 (a3.length:Int))),(18,.v (vC z1.1)),(19,.v (vC z2.1)),(20,.v (vC z3.1)),(21,.v (vC z4.1)),(22,.v (vC z5.1)),(23,.v (vC z6.1)),(24,.v (.int .i64 z7.1)),(25,.v (vC z8.1)),(26,.v (vC z9.1)),(27,.v (.int .i64 z10.1)),(28,.v (vG z11)),(29,.bl [vD x55.1,vD x55.2.1,vD x55.2.2.1,vD x55.2.2.2.1,vD x55.2.2.2.2.1,vD x55.2.2.2.2.2.1]),(31,.v (.bool z14.2)),(32,.v (vD x17.2.2.2.2.2.2)),(35,.v (vD z51)),(36,.v (.int .i64 z52.1)),(38,.v (.bool z52.2.2)),(39,.v (vD x55.2.2.2.2.2.2.1)),(41,.v (vD x55.2.2.2.2.2.2.2)),(46,.v (vD x127))]) (fun x127 hF=>?_) fun _ hj125 hF=>?_
    ·refine wC hF [.sh,.sh,.sh] zaI (fun z145 hF=>?_)
     obtain⟨g,hF⟩:=Rg g hF
     refine wK [2,5,7,8,14,16,18,19,20,21,22,23,24,25,26,27,28,29,31,32,35,36,38,39,41,46] ?_
     refine wW ?_
     refine wJ hF (fun x148=>[(2,.v (.int .i64 a2)),(5,.v (vC a5)),(7,.bl [.int .i64 a0.P,.int .i64 a0.Q,.int .i64 a0.G]),(14,.bl [.sl true 1 [],.sl true 1 [],.sl true 1 [],.sl true 1 [],.sl true 1 [],.sl true 1 []]),(16,.v (.int .i64 (a3.length:Int))),(18,.v (vC z1.1)),(19,.v (vC z2.1)),(20,.v (vC z3.1)),(21,.v (vC z4.1)),(22,.v (vC z5.1)),(23,.v (vC z6.1)),(24,.v (.int .i64 z7.1)),(25,.v (vC z8.1)),(26,.v (vC z9.1)),(27,.v (.int .i64 z10.1)),(28,.v (vG z11)),(29,.bl [vD x55.1,vD x55.2.1,vD x55.2.2.1,vD x55.2.2.2.1,vD x55.2.2.2.2.1,vD x55.2.2.2.2.2.1]),(31,.v (.bool z14.2)),(32,.v (vD x17.2.2.2.2.2.2)),(35,.v (vD z51)),(36,.v (.int .i64 z52.1)),(38,.v (.bool z52.2.2)),(39,.v (vD x55.2.2.2.2.2.2.1)),(41,.v (vD x55.2.2.2.2.2.2.2)),(46,.v (vD x148))]) (fun x148 hF=>?_) fun _ hj146 hF=>?_
     ·refine wC hF [.sh] ziU (fun z163 hF=>?_)
      refine wW ?_
      refine wX zxZ follows ?_
      refine wC hF [.sh,.sh,.sh] zaI (fun z164 hF=>?_)
      refine wC hF [.sh,.sh,.sh] zde (fun z165 hF=>?_)
      refine wC hF [.sh,.sh] zbd (fun z166 hF=>?_)
      refine wC hF [.sh,.sh,.sh] zaI (fun z167 hF=>?_)
      refine wC hF [.sh,.sh,.sh] zde (fun z168 hF=>?_)
      refine wC hF [.sh,.sh] zbd (fun z169 hF=>?_)
      obtain⟨g,hF⟩:=Rg g hF
      refine wK [5,7,14,16,18,19,20,21,22,23,24,25,26,27,29,31,32,35,36,38,39,41] ?_
      refine wX zyi follows ?_
      refine wC hF [.sh] zeX (fun z170 hF=>?_)
      refine wC hF [.sh,.sh,.sh] zb6 (fun z171 hF=>?_)
      refine wK [5,7,14,16,18,19,20,21,22,23,24,25,26,27,29,31,32,36,38,39,41,52,53] ?_
      refine wJ hF (fun x174=>[(5,.v (vC a5)),(7,.bl [.int .i64 a0.P,.int .i64 a0.Q,.int .i64 a0.G]),(14,.bl [.sl true 1 [],.sl true 1 [],.sl true 1 [],.sl true 1 [],.sl true 1 [],.sl true 1 []]),(16,.v (.int .i64 (a3.length:Int))),(18,.v (vC z1.1)),(19,.v (vC z2.1)),(20,.v (vC z3.1)),(21,.v (vC z4.1)),(22,.v (vC z5.1)),(23,.v (vC z6.1)),(24,.v (.int .i64 z7.1)),(25,.v (vC z8.1)),(26,.v (vC z9.1)),(27,.v (.int .i64 z10.1)),(29,.bl [vD x55.1,vD x55.2.1,vC x55.2.2.1,vC (x148++[z166,z169]),vD x55.2.2.2.2.1,vD x55.2.2.2.2.2.1]),(32,.v (vD x17.2.2.2.2.2.2)),(36,.v (.int .i64 z52.1)),(39,.v (vD x55.2.2.2.2.2.2.1)),(41,.v (vD x55.2.2.2.2.2.2.2)),(52,.v (.int .i64 z171.1)),(378,.v (.bool x174))]) (fun x174 hF=>?_) fun _ hj172 hF=>?_
      ·refine wI hF (fun h177 hF=>?_) (fun h177 hF=>?_)
       ·exact wl hΦ hF
       iterate 3 refine wW ?_
       refine wK [5,7,14,16,18,19,20,21,22,23,24,25,26,27,29,32,36,39,41,52,54,385,386] ?_
       refine wJ hF (fun x180=>[(5,.v (vC a5)),(7,.bl [.int .i64 a0.P,.int .i64 a0.Q,.int .i64 a0.G]),(14,.bl [.sl true 1 [],.sl true 1 [],.sl true 1 [],.sl true 1 [],.sl true 1 [],.sl true 1 []]),(16,.v (.int .i64 (a3.length:Int))),(20,.v (vC z3.1)),(24,.v (.int .i64 z7.1)),(27,.v (.int .i64 z10.1)),(29,.bl [vD x55.1,vD x55.2.1,vC x55.2.2.1,vC (x148++[z166,z169]),vD [z171.1],vD x55.2.2.2.2.2.1]),(32,.v (vD x17.2.2.2.2.2.2)),(52,.v (.int .i64 z171.1)),(54,.bl [vD x180.1,vD x180.2.1,vD x180.2.2.1,vD x180.2.2.2.1,vD x180.2.2.2.2])]) (fun x180 hF=>?_) fun _ hj178 hF=>?_
       ·refine wX zzp follows ?_
        obtain⟨x231,g,hF⟩:=Rx g hF
        refine wC hF [.sh,.sh] zbA (fun z232 hF=>?_)
        refine wC hF [.sh,.sh,.sh] zs2 (fun z233 hF=>?_)
        refine wC hF [.sh,.sh] zbA (fun z234 hF=>?_)
        refine wC hF [.sh] zeX (fun z235 hF=>?_)
        refine wK [14,29] ?_
        exact wl hΦ hF
       refine wB ?_
       obtain⟨b227,hb228,hψ208⟩:=hF
       refine pR hb228 (fun i205 s204=>[(5,.v (vC a5)),(7,.bl [.int .i64 a0.P,.int .i64 a0.Q,.int .i64 a0.G]),(14,.bl [.sl true 1 [],.sl true 1 [],.sl true 1 [],.sl true 1 [],.sl true 1 [],.sl true 1 []]),(16,.v (.int .i64 (a3.length:Int))),(18,.v (vC z1.1)),(19,.v (vC z2.1)),(20,.v (vC z3.1)),(21,.v (vC z4.1)),(22,.v (vC z5.1)),(23,.v (vC z6.1)),(24,.v (.int .i64 z7.1)),(25,.v (vC z8.1)),(26,.v (vC z9.1)),(27,.v (.int .i64 z10.1)),(29,.bl [vD x55.1,vD x55.2.1,vC x55.2.2.1,vC (x148++[z166,z169]),vD [z171.1],vD x55.2.2.2.2.2.1]),(32,.v (vD x17.2.2.2.2.2.2)),(36,.v (.int .i64 z52.1)),(39,.v (vD x55.2.2.2.2.2.2.1)),(41,.v (vD x55.2.2.2.2.2.2.2)),(52,.v (.int .i64 z171.1)),(54,.bl [vD s204.1,vD s204.2.1,vD s204.2.2.1,vD s204.2.2.2.1,vD s204.2.2.2.2]),(385,.v (.int .i64 (a3.length:Int))),(386,.v (.int .i64 i205))]) (fun s204 _ hN229=>?_) (fun i205 s204 _ _ hi209 hi210 ho206 hg207 hF=>?_)
       ·exact wn hN229 (hj178 _) hψ208
       refine wW ?_
       refine wu hi209 hi210 ?_
       refine wW ?_
       refine wB ?_
       refine wW ?_
       refine wX zyQ follows ?_
       obtain⟨x211,g,hF⟩:=Rx g hF
       obtain⟨x212,g,hF⟩:=Rx g hF
       refine wC hF [.sh,.sh] zbA (fun z213 hF=>?_)
       obtain⟨g,hF⟩:=Rg g hF
       refine wK [5,7,14,16,18,19,20,21,22,23,24,25,26,27,29,32,36,39,41,52,54,55,385,386] ?_
       refine wX zye follows ?_
       obtain⟨x214,g,hF⟩:=Rx g hF
       obtain⟨x215,g,hF⟩:=Rx g hF
       obtain⟨x216,g,hF⟩:=Rx g hF
       refine wD hF zbA (fun z217 hF=>?_)
       refine wC hF [.sh,.sh] zbA (fun z218 hF=>?_)
       obtain⟨g,hF⟩:=Rg g hF
       refine wK [5,7,14,16,18,19,20,21,22,23,24,25,26,27,29,32,36,39,41,52,54,55,385,386] ?_
       refine wX zyE follows ?_
       obtain⟨x219,g,hF⟩:=Rx g hF
       obtain⟨x220,g,hF⟩:=Rx g hF
       refine wC hF [.sh,.sh] zbA (fun z221 hF=>?_)
       obtain⟨g,hF⟩:=Rg g hF
       refine wK [5,7,14,16,18,19,20,21,22,23,24,25,26,27,29,32,36,39,41,52,54,55,385,386] ?_
       refine wX zzE follows ?_
       obtain⟨x222,g,hF⟩:=Rx g hF
       obtain⟨x223,g,hF⟩:=Rx g hF
       refine wC hF [.sh,.sh] zbA (fun z224 hF=>?_)
       obtain⟨g,hF⟩:=Rg g hF
       refine wK [5,7,14,16,18,19,20,21,22,23,24,25,26,27,29,32,36,39,41,52,54,55,385,386] ?_
       refine wX zyu follows ?_
       obtain⟨x225,g,hF⟩:=Rx g hF
       refine wC hF [.sh,.sh] zbA (fun z226 hF=>?_)
       obtain⟨g,hF⟩:=Rg g hF
       refine wK [5,7,14,16,18,19,20,21,22,23,24,25,26,27,29,32,36,39,41,52,54,385,386] ?_
       exact wi hi209 hi210 (hg207 _) (zaa hF)
      refine wG hF (fun h175 hF=>?_) fun h175 hF=>?_
      ·exact wV h175 (hj172 _) (zaa hF)
      try simp[go_sem,g,h175]
      refine wG hF (fun h176 hF=>?_) fun h176 hF=>?_
      ·exact wV h176 (hj172 _) (zaa hF)
      exact wV h176 (hj172 _) (zaa hF)
     refine wB ?_
     obtain⟨b159,hb160,hψ153⟩:=hF
     refine pR hb160 (fun i150 s149=>[(2,.v (.int .i64 a2)),(5,.v (vC a5)),(7,.bl [.int .i64 a0.P,.int .i64 a0.Q,.int .i64 a0.G]),(8,.bl [.int .i64 a1.H,vC a1.Hs]),(14,.bl [.sl true 1 [],.sl true 1 [],.sl true 1 [],.sl true 1 [],.sl true 1 [],.sl true 1 []]),(16,.v (.int .i64 (a3.length:Int))),(18,.v (vC z1.1)),(19,.v (vC z2.1)),(20,.v (vC z3.1)),(21,.v (vC z4.1)),(22,.v (vC z5.1)),(23,.v (vC z6.1)),(24,.v (.int .i64 z7.1)),(25,.v (vC z8.1)),(26,.v (vC z9.1)),(27,.v (.int .i64 z10.1)),(28,.v (vG z11)),(29,.bl [vD x55.1,vD x55.2.1,vD x55.2.2.1,vD x55.2.2.2.1,vD x55.2.2.2.2.1,vD x55.2.2.2.2.2.1]),(31,.v (.bool z14.2)),(32,.v (vD x17.2.2.2.2.2.2)),(35,.v (vD z51)),(36,.v (.int .i64 z52.1)),(38,.v (.bool z52.2.2)),(39,.v (vD x55.2.2.2.2.2.2.1)),(41,.v (vD x55.2.2.2.2.2.2.2)),(46,.v (vD s149)),(302,.v (.int .i64 (a3.length:Int))),(303,.v (.int .i64 i150))]) (fun s149 _ hN161=>?_) (fun i150 s149 _ _ hi154 hi155 ho151 hg152 hF=>?_)
     ·exact wn hN161 (hj146 _) hψ153
     refine wW ?_
     refine wu hi154 hi155 ?_
     refine wW ?_
     refine wB ?_
     refine wW ?_
     refine wX zzP follows ?_
     obtain⟨x156,g,hF⟩:=Rx g hF
     obtain⟨x157,g,hF⟩:=Rx g hF
     refine wC hF [.sh,.sh,.sh,.sh] zcA (fun z158 hF=>?_)
     obtain⟨g,hF⟩:=Rg g hF
     refine wK [2,5,7,8,14,16,18,19,20,21,22,23,24,25,26,27,28,29,31,32,35,36,38,39,41,46,302,303] ?_
     exact wi hi154 hi155 (hg152 _) (zaa hF)
    refine wB ?_
    obtain⟨b141,hb142,hψ132⟩:=hF
    refine pR hb142 (fun i129 s128=>[(2,.v (.int .i64 a2)),(5,.v (vC a5)),(7,.bl [.int .i64 a0.P,.int .i64 a0.Q,.int .i64 a0.G]),(8,.bl [.int .i64 a1.H,vC a1.Hs]),(14,.bl [.sl true 1 [],.sl true 1 [],.sl true 1 [],.sl true 1 [],.sl true 1 [],.sl true 1 []]),(16,.v (.int .i64 (a3.length:Int))),(18,.v (vC z1.1)),(19,.v (vC z2.1)),(20,.v (vC z3.1)),(21,.v (vC z4.1)),(22,.v (vC z5.1)),(23,.v (vC z6.1)),(24,.v (.int .i64 z7.1)),(25,.v (vC z8.1)),(26,.v (vC z9.1)),(27,.v (.int .i64 z10.1)),(28,.v (vG z11)),(29,.bl [vD x55.1,vD x55.2.1,vD x55.2.2.1,vD x55.2.2.2.1,vD x55.2.2.2.2.1,vD x55.2.2.2.2.2.1]),(31,.v (.bool z14.2)),(32,.v (vD x17.2.2.2.2.2.2)),(35,.v (vD z51)),(36,.v (.int .i64 z52.1)),(38,.v (.bool z52.2.2)),(39,.v (vD x55.2.2.2.2.2.2.1)),(41,.v (vD x55.2.2.2.2.2.2.2)),(45,.v (vD x106)),(46,.v (vD s128)),(265,.v (.int .i64 (a3.length:Int))),(266,.v (.int .i64 i129))]) (fun s128 _ hN143=>?_) (fun i129 s128 _ _ hi133 hi134 ho130 hg131 hF=>?_)
    ·exact wn hN143 (hj125 _) hψ132
    refine wW ?_
    refine wu hi133 hi134 ?_
    refine wW ?_
    refine wB ?_
    refine wW ?_
    refine wX zzF follows ?_
    obtain⟨x135,g,hF⟩:=Rx g hF
    obtain⟨x136,g,hF⟩:=Rx g hF
    obtain⟨x137,g,hF⟩:=Rx g hF
    refine wD hF zaI (fun z138 hF=>?_)
    refine wC hF [.sh,.sh,.sh] zaI (fun z139 hF=>?_)
    refine wC hF [.sh,.sh] zbd (fun z140 hF=>?_)
    obtain⟨g,hF⟩:=Rg g hF
    refine wK [2,5,7,8,14,16,18,19,20,21,22,23,24,25,26,27,28,29,31,32,35,36,38,39,41,45,46,265,266] ?_
    exact wi hi133 hi134 (hg131 _) (zaa hF)
   refine wB ?_
   obtain⟨b121,hb122,hψ115⟩:=hF
   refine pR hb122 (fun i112 s111=>[(2,.v (.int .i64 a2)),(5,.v (vC a5)),(7,.bl [.int .i64 a0.P,.int .i64 a0.Q,.int .i64 a0.G]),(8,.bl [.int .i64 a1.H,vC a1.Hs]),(14,.bl [.sl true 1 [],.sl true 1 [],.sl true 1 [],.sl true 1 [],.sl true 1 [],.sl true 1 []]),(16,.v (.int .i64 (a3.length:Int))),(18,.v (vC z1.1)),(19,.v (vC z2.1)),(20,.v (vC z3.1)),(21,.v (vC z4.1)),(22,.v (vC z5.1)),(23,.v (vC z6.1)),(24,.v (.int .i64 z7.1)),(25,.v (vC z8.1)),(26,.v (vC z9.1)),(27,.v (.int .i64 z10.1)),(28,.v (vG z11)),(29,.bl [vD x55.1,vD x55.2.1,vD x55.2.2.1,vD x55.2.2.2.1,vD x55.2.2.2.2.1,vD x55.2.2.2.2.2.1]),(31,.v (.bool z14.2)),(32,.v (vD x17.2.2.2.2.2.2)),(35,.v (vD z51)),(36,.v (.int .i64 z52.1)),(38,.v (.bool z52.2.2)),(39,.v (vD x55.2.2.2.2.2.2.1)),(41,.v (vD x55.2.2.2.2.2.2.2)),(45,.v (vD x106)),(46,.v (vD s111)),(246,.v (.int .i64 (a3.length:Int))),(247,.v (.int .i64 i112))]) (fun s111 _ hN123=>?_) (fun i112 s111 _ _ hi116 hi117 ho113 hg114 hF=>?_)
   ·exact wn hN123 (hj108 _) hψ115
   refine wW ?_
   refine wu hi116 hi117 ?_
   refine wW ?_
   refine wB ?_
   refine wW ?_
   refine wX zyh follows ?_
   obtain⟨x118,g,hF⟩:=Rx g hF
   obtain⟨x119,g,hF⟩:=Rx g hF
   refine wC hF [.sh,.sh,.sh,.sh] zcA (fun z120 hF=>?_)
   obtain⟨g,hF⟩:=Rg g hF
   refine wK [2,5,7,8,14,16,18,19,20,21,22,23,24,25,26,27,28,29,31,32,35,36,38,39,41,45,46,246,247] ?_
   exact wi hi116 hi117 (hg114 _) (zaa hF)
  refine wB ?_
  obtain⟨b102,hb103,hψ83⟩:=hF
  refine pR hb103 (fun i80 s79=>[(2,.v (.int .i64 a2)),(5,.v (vC a5)),(7,.bl [.int .i64 a0.P,.int .i64 a0.Q,.int .i64 a0.G]),(8,.bl [.int .i64 a1.H,vC a1.Hs]),(14,.bl [.sl true 1 [],.sl true 1 [],.sl true 1 [],.sl true 1 [],.sl true 1 [],.sl true 1 []]),(16,.v (.int .i64 (a3.length:Int))),(18,.v (vC z1.1)),(19,.v (vC z2.1)),(20,.v (vC z3.1)),(21,.v (vC z4.1)),(22,.v (vC z5.1)),(23,.v (vC z6.1)),(24,.v (.int .i64 z7.1)),(25,.v (vC z8.1)),(26,.v (vC z9.1)),(27,.v (.int .i64 z10.1)),(28,.v (vG z11)),(29,.bl [vD s79.1,vD s79.2.1,vD s79.2.2.1,vD s79.2.2.2.1,vD s79.2.2.2.2.1,vD s79.2.2.2.2.2.1]),(31,.v (.bool z14.2)),(32,.v (vD x17.2.2.2.2.2.2)),(35,.v (vD z51)),(36,.v (.int .i64 z52.1)),(37,.v (.int .i64 z52.2.1)),(38,.v (.bool z52.2.2)),(39,.v (vD s79.2.2.2.2.2.2.1)),(40,.v (.int .i64 s79.2.2.2.2.2.2.2.1)),(41,.v (vD s79.2.2.2.2.2.2.2.2)),(165,.v (vC a4)),(166,.v (.int .i64 (a4.length:Int))),(167,.v (.int .i64 i80))]) (fun s79 _ hN104=>?_) (fun i80 s79 _ _ hi84 hi85 ho81 hg82 hF=>?_)
  ·exact wn hN104 (hj53 _) hψ83
  refine wW ?_
  refine wu hi84 hi85 ?_
  refine wW ?_
  refine wB ?_
  obtain⟨x86,g,hF⟩:=Rx g hF
  refine wK [2,5,7,8,14,16,18,19,20,21,22,23,24,25,26,27,28,29,31,32,35,36,37,38,39,40,41,42,43,165,166,167] ?_
  refine wX zyS follows ?_
  obtain⟨x87,g,hF⟩:=Rx g hF
  refine wC hF [.sh,.sh] zbA (fun z88 hF=>?_)
  obtain⟨g,hF⟩:=Rg g hF
  refine wK [2,5,7,8,14,16,18,19,20,21,22,23,24,25,26,27,28,29,31,32,35,36,37,38,39,40,41,42,165,166,167] ?_
  refine wX zzs follows ?_
  obtain⟨x89,e90,hF⟩:=zeo hF
  have g:=And.intro g (show List.map zao s79.2.2.2.2.2.2.1++[[.int .i64 z88]]=x89.map zao by injection e90 with e90;rw[←e90];simp[go_sem])
  obtain⟨x91,g,hF⟩:=Rx g hF
  refine wC hF [.sh,.sh] zbA (fun z92 hF=>?_)
  refine wW ?_
  refine wX zzo follows ?_
  obtain⟨x93,g,hF⟩:=Rx g hF
  refine wC hF [.sh,.sh,.sh,.sh] zcA (fun z94 hF=>?_)
  obtain⟨g,hF⟩:=Rg g hF
  refine wK [2,5,7,8,14,16,18,19,20,21,22,23,24,25,26,27,28,29,31,32,35,36,37,38,39,40,41,42,165,166,167] ?_
  iterate 2 refine wW ?_
  refine wJ hF (fun x97=>[(2,.v (.int .i64 a2)),(5,.v (vC a5)),(7,.bl [.int .i64 a0.P,.int .i64 a0.Q,.int .i64 a0.G]),(8,.bl [.int .i64 a1.H,vC a1.Hs]),(14,.bl [.sl true 1 [],.sl true 1 [],.sl true 1 [],.sl true 1 [],.sl true 1 [],.sl true 1 []]),(16,.v (.int .i64 (a3.length:Int))),(18,.v (vC z1.1)),(19,.v (vC z2.1)),(20,.v (vC z3.1)),(21,.v (vC z4.1)),(22,.v (vC z5.1)),(23,.v (vC z6.1)),(24,.v (.int .i64 z7.1)),(25,.v (vC z8.1)),(26,.v (vC z9.1)),(27,.v (.int .i64 z10.1)),(28,.v (vG z11)),(29,.bl [vD s79.1,vD s79.2.1,vD (s79.2.2.1++[z94]),vD s79.2.2.2.1,vD s79.2.2.2.2.1,vD s79.2.2.2.2.2.1]),(31,.v (.bool z14.2)),(32,.v (vD x17.2.2.2.2.2.2)),(35,.v (vD z51)),(36,.v (.int .i64 z52.1)),(37,.v (.int .i64 z52.2.1)),(38,.v (.bool z52.2.2)),(39,.v (vD x89)),(40,.v (.int .i64 z92)),(41,.v (vD s79.2.2.2.2.2.2.2.2)),(44,.v (.int .i64 x97)),(165,.v (vC a4)),(166,.v (.int .i64 (a4.length:Int))),(167,.v (.int .i64 i80))]) (fun x97 hF=>?_) fun _ hj95 hF=>?_
  ·obtain⟨g,hF⟩:=Rg g hF
   refine wK [2,5,7,8,14,16,18,19,20,21,22,23,24,25,26,27,28,29,31,32,35,36,37,38,39,40,41,165,166,167] ?_
   exact wi hi84 hi85 (hg82 _) (zaa hF)
  refine wI hF (fun h98 hF=>?_) (fun h98 hF=>?_)
  ·refine wX zyK follows ?_
   obtain⟨x99,g,hF⟩:=Rx g hF
   refine wD hF zbA (fun z100 hF=>?_)
   refine wC hF [.sh,.sh] zbA (fun z101 hF=>?_)
   exact wT (hj95 _) (zaa hF)
  exact wT (hj95 _) (zaa hF)
 refine wB ?_
 obtain⟨b46,hb47,hψ36⟩:=hF
 refine pR hb47 (fun i33 s32=>[(2,.v (.int .i64 a2)),(3,.v (vH a3)),(4,.v (vC a4)),(5,.v (vC a5)),(7,.bl [.int .i64 a0.P,.int .i64 a0.Q,.int .i64 a0.G]),(8,.bl [.int .i64 a1.H,vC a1.Hs]),(14,.bl [.sl true 1 [],.sl true 1 [],.sl true 1 [],.sl true 1 [],.sl true 1 [],.sl true 1 []]),(16,.v (.int .i64 (a3.length:Int))),(18,.v (vC z1.1)),(19,.v (vC z2.1)),(20,.v (vC z3.1)),(21,.v (vC z4.1)),(22,.v (vC z5.1)),(23,.v (vC z6.1)),(24,.v (.int .i64 z7.1)),(25,.v (vC z8.1)),(26,.v (vC z9.1)),(27,.v (.int .i64 z10.1)),(28,.v (vG z11)),(29,.bl [vD s32.1,vD s32.2.1,vD s32.2.2.1,vD s32.2.2.2.1,vD s32.2.2.2.2.1,vD s32.2.2.2.2.2.1]),(30,.v (.int .i64 z14.1)),(31,.v (.bool z14.2)),(32,.v (vD s32.2.2.2.2.2.2)),(113,.v (vC a4)),(114,.v (.int .i64 (a4.length:Int))),(115,.v (.int .i64 i33))]) (fun s32 _ hN48=>?_) (fun i33 s32 _ _ hi37 hi38 ho34 hg35 hF=>?_)
 ·exact wn hN48 (hj15 _) hψ36
 refine wW ?_
 refine wu hi37 hi38 ?_
 refine wW ?_
 refine wB ?_
 obtain⟨x39,g,hF⟩:=Rx g hF
 refine wK [2,3,4,5,7,8,14,16,18,19,20,21,22,23,24,25,26,27,28,29,30,31,32,33,34,113,114,115] ?_
 refine wC hF [.sh,.sh,.sh] zfD (fun z40 hF=>?_)
 obtain⟨g,hF⟩:=Rg g hF
 refine wK [2,3,4,5,7,8,14,16,18,19,20,21,22,23,24,25,26,27,28,29,30,31,32,33,113,114,115] ?_
 refine wX zyo follows ?_
 obtain⟨x41,e42,hF⟩:=zeo hF
 have g:=And.intro g (show List.map zao s32.2.2.2.2.2.2++[[.int .i64 z40]]=x41.map zao by injection e42 with e42;rw[←e42];simp[go_sem])
 obtain⟨x43,g,hF⟩:=Rx g hF
 obtain⟨x44,g,hF⟩:=Rx g hF
 refine wC hF [.sh,.sh,.sh,.sh] zcA (fun z45 hF=>?_)
 obtain⟨g,hF⟩:=Rg g hF
 refine wK [2,3,4,5,7,8,14,16,18,19,20,21,22,23,24,25,26,27,28,29,30,31,32,113,114,115] ?_
 exact wi hi37 hi38 (hg35 _) (zaa hF)
def zdr (a0:Group) (a1:Int) (a2:List Cipher) (a3:List Int) (a4:List Int) (a5:List Int):Option (PolyProof×Bool):=
 (zcL a0 a1 a2).bind fun z1=>
 ((if(!z1.2)=true then(
 some true)else(
 (zcf a0 a3 a4 (a2.length:Int)).bind fun z6=>
 if(!z6)=true then(
 some true)else(
 if((a5.length:Int) !=(i64.wrap ((i64.wrap (8*(a2.length:Int)))+2)))=true then(
 some true)else(
 (zcn a0 a5).bind fun z9=>
 some (!z9)))):Option Bool).bind fun x4=>
 if x4=true then(
 some ((PolyProof.mk [] [] [] (Proof.mk [] [] [])),false))else(
 (zcs a0 z1.1 a1 a2 a3 a4 a5).bind fun z11=>
 some (z11.1,z11.2)))
theorem zmD:∀{a0}{a1}{a2}{a3}{a4}{a5}{r},zdr a0 a1 a2 a3 a4 a5=some r→PCalls Tryz.prog 6 [(.sh,vE a0),(.sh,.int .i64 a1),(.sh,vH a2),(.sh,vC a3),(.sh,vC a4),(.sh,vC a5)] (Eo (.tup [vL r.1,.bool r.2]) [.junk,.junk,.junk,.junk,.junk,.junk]):=by
 intro a0 a1 a2 a3 a4 a5 r hr
 apply pFz 60 [] [51] [] [.cell 12 32,.tmp 13] hr cl6 Tryz.func6
 intro Φ hΦ hF g
 unfold zdr at hF
 refine wW ?_
 refine wC hF [.sh,.sh,.sh] ziR (fun z1 hF=>?_)
 refine wK [1,2,3,4,5,6,12,14,15] ?_
 refine wJ hF (fun x4=>[(1,.v (.int .i64 a1)),(2,.v (vH a2)),(3,.v (vC a3)),(4,.v (vC a4)),(5,.v (vC a5)),(6,.bl [.int .i64 a0.P,.int .i64 a0.Q,.int .i64 a0.G]),(12,.bl [.sl true 1 [],.sl true 1 [],.sl true 1 [],.sl true 1 [],.sl true 1 [],.sl true 1 []]),(14,.bl [.int .i64 z1.1.H,vD z1.1.Hs]),(48,.v (.bool x4))]) (fun x4 hF=>?_) fun _ hj2 hF=>?_
 ·refine wI hF (fun h10 hF=>?_) (fun h10 hF=>?_)
  ·exact wl hΦ hF
  refine wW ?_
  refine wC hF [.sh,.sh,.sh,.sh,.sh,.sh,.sh] zjx (fun z11 hF=>?_)
  refine wK [12,13] ?_
  exact wm hΦ hF
 refine wG hF (fun h5 hF=>?_) fun h5 hF=>?_
 ·exact wV h5 (hj2 _) (zaa hF)
 try simp[go_sem,g,h5]
 try intros
 refine wC hF [.sh,.sh,.sh,.sh] zfE (fun z6 hF=>?_)
 try simp[go_sem,g,h5]
 refine wG hF (fun h7 hF=>?_) fun h7 hF=>?_
 ·exact wV h7 (hj2 _) (zaa hF)
 try simp[go_sem,g,h7]
 try intros
 refine wG hF (fun h8 hF=>?_) fun h8 hF=>?_
 ·exact wV h8 (hj2 _) (zaa hF)
 try simp[go_sem,g,h8]
 refine wC hF [.sh,.sh] zfL (fun z9 hF=>?_)
 exact wV h8 (hj2 _) (zaa hF)
def zdW (a0:Group):Option Bool:=
 (((zck a0.P 3 2000000000).bind fun z4=>
 if z4=true then(
 (zck a0.Q 2 (i64.wrap (a0.P-1))).bind fun z6=>
 if z6=true then(
 gd (a0.Q≠0)<|
 if(((i64.wrap (a0.P-1)).tmod a0.Q)==0)=true then(
 (zck a0.G 2 (i64.wrap (a0.P-1))).bind fun z9=>
 if z9=true then(
 (za6 a0.G a0.Q a0.P).bind fun z11=>
 if(z11==1)=true then(
 (zdY a0.Q).bind fun z13=>
 if z13=true then(
 (zdY a0.P).bind fun z15=>
 some z15)else(
 some false))else(
 some false))else(
 some false))else(
 some false))else(
 some false))else(
 some false):Option Bool).bind fun x3=>
 some x3)
theorem zgX:∀{a0}{r},zdW a0=some r→PCalls Tryz.prog 63 [(.sh,vE a0)] (Eo (.bool r) [.junk]):=by
 intro a0 r hr
 apply pF 51 [] [] [] [.tmp 2] hr zG4 Tryz.func63
 intro Φ hΦ hF g
 unfold zdW at hF
 refine wW ?_
 refine wJ hF (fun x3=>[(2,.v (.bool x3))]) (fun x3 hF=>?_) fun _ hj1 hF=>?_
 ·exact wm hΦ hF
 refine wC hF [.sh,.sh,.sh] zdH (fun z4 hF=>?_)
 refine wG hF (fun h5 hF=>?_) fun h5 hF=>?_
 ·try simp[go_sem,g,h5]
  refine wC hF [.sh,.sh,.sh] zdH (fun z6 hF=>?_)
  try simp[go_sem,g,h5]
  refine wG hF (fun h7 hF=>?_) fun h7 hF=>?_
  ·obtain⟨g,hF⟩:=Rz g hF
   try simp[go_sem,g,h7]
   refine wG hF (fun h8 hF=>?_) fun h8 hF=>?_
   ·try simp[go_sem,g,h8]
    refine wC hF [.sh,.sh,.sh] zdH (fun z9 hF=>?_)
    try simp[go_sem,g,h8]
    refine wG hF (fun h10 hF=>?_) fun h10 hF=>?_
    ·try simp[go_sem,g,h10]
     refine wC hF [.sh,.sh,.sh] zdX (fun z11 hF=>?_)
     try simp[go_sem,g,h10]
     refine wG hF (fun h12 hF=>?_) fun h12 hF=>?_
     ·try simp[go_sem,g,h12]
      refine wC hF [.sh] zgU (fun z13 hF=>?_)
      try simp[go_sem,g,h12]
      refine wG hF (fun h14 hF=>?_) fun h14 hF=>?_
      ·try simp[go_sem,g,h14]
       refine wC hF [.sh] zgU (fun z15 hF=>?_)
       exact wV h14 (hj1 _) (zaa hF)
      exact wV h14 (hj1 _) (zaa hF)
     exact wV h12 (hj1 _) (zaa hF)
    exact wV h10 (hj1 _) (zaa hF)
   exact wV h8 (hj1 _) (zaa hF)
  exact wV h7 (hj1 _) (zaa hF)
 exact wV h5 (hj1 _) (zaa hF)
def zdL (a0:Group) (a1:List Int):Option Bool:=
 ((zap (σ:=Unit) (fun i5 s4=>
 (ix a1 i5).bind fun x11=>
 (((zck x11 1 (i64.wrap (a0.P-1))).bind fun z15=>
 if(!z15)=true then(
 some true)else(
 (za6 x11 a0.Q a0.P).bind fun z17=>
 some (z17 !=1)):Option Bool).bind fun x14=>
 if x14=true then(
 some (.out (.inr false)))else(
 some (.go ())))) (fun s4=>.inl ()) (a1.length) 0 ():Option (Unit ⊕ Bool)).bind (Sum.elim (fun x3=>
 some true) some))
theorem zgD:∀{a0}{a1}{r},zdL a0 a1=some r→PCalls Tryz.prog 151 [(.sh,vE a0),(.sh,vC a1)] (Eo (.bool r) [.junk,.junk]):=by
 intro a0 a1 r hr
 apply pF 29 [] [] [] [.tmp 4] hr zBw Tryz.func151
 intro Φ hΦ hF g
 unfold zdL at hF
 iterate 2 (try simp[go_sem,g];try intros;refine zaD ?_)
 refine wS hF (fun x3=>[]) (fun x3 hF=>?_) fun _ hj1 hr2 hF=>?_
 ·exact wl hΦ hF
 refine wB ?_
 obtain⟨b19,hb20,hψ8⟩:=hF
 refine pR hb20 (fun i5 s4=>[(2,.bl [.int .i64 a0.P,.int .i64 a0.Q,.int .i64 a0.G]),(7,.v (vC a1)),(8,.v (.int .i64 (a1.length:Int))),(9,.v (.int .i64 i5))]) (fun s4 _ hN21=>?_) (fun i5 s4 _ _ hi9 hi10 ho6 hg7 hF=>?_)
 ·exact wn hN21 (hj1 _) hψ8
 refine wW ?_
 refine wu hi9 hi10 ?_
 refine wW ?_
 refine wB ?_
 obtain⟨x11,g,hF⟩:=Rx g hF
 refine wW ?_
 refine wJ hF (fun x14=>[(2,.bl [.int .i64 a0.P,.int .i64 a0.Q,.int .i64 a0.G]),(7,.v (vC a1)),(8,.v (.int .i64 (a1.length:Int))),(9,.v (.int .i64 i5)),(27,.v (.bool x14))]) (fun x14 hF=>?_) fun _ hj12 hF=>?_
 ·refine wI hF (fun h18 hF=>?_) (fun h18 hF=>?_)
  ·refine wK [4] ?_
   cases ho6 _ (zaa hF)
   cases hΦ _ (hr2 _ hψ8)
   try simp[go_sem,g]
  refine wW ?_
  exact wi hi9 hi10 (hg7 _) (zaa hF)
 refine wC hF [.sh,.sh,.sh] zdH (fun z15 hF=>?_)
 refine wG hF (fun h16 hF=>?_) fun h16 hF=>?_
 ·exact wV h16 (hj12 _) (zaa hF)
 try simp[go_sem,g,h16]
 refine wC hF [.sh,.sh,.sh] zdX (fun z17 hF=>?_)
 exact wV h16 (hj12 _) (zaa hF)
def zgM (a0:Group) (a1:Int):Option Bool:=
 (((zdW a0).bind fun z4=>
 if z4=true then(
 (zdL a0 [a1]).bind fun z6=>
 some z6)else(
 some false):Option Bool).bind fun x3=>
 some x3)
theorem zqZ:∀{a0}{a1}{r},zgM a0 a1=some r→PCalls Tryz.prog 93 [(.sh,vE a0),(.sh,.int .i64 a1)] (Eo (.bool r) [.junk,.junk]):=by
 intro a0 a1 r hr
 apply pF 13 [] [] [] [.tmp 4] hr zFF Tryz.func93
 intro Φ hΦ hF g
 unfold zgM at hF
 refine wW ?_
 refine wJ hF (fun x3=>[(4,.v (.bool x3))]) (fun x3 hF=>?_) fun _ hj1 hF=>?_
 ·exact wm hΦ hF
 refine wC hF [.sh] zgX (fun z4 hF=>?_)
 refine wG hF (fun h5 hF=>?_) fun h5 hF=>?_
 ·try simp[go_sem,g,h5]
  refine wC hF [.sh,.sh] zgD (fun z6 hF=>?_)
  exact wV h5 (hj1 _) (zaa hF)
 exact wV h5 (hj1 _) (zaa hF)
def zgw (a0:Group) (a1:List Cipher):Option Bool:=
 if decide (24<(a1.length:Int))=true then(
 some false)else(
 ((zap (σ:=Unit) (fun i6 s5=>
 (ix a1 i6).bind fun x12=>
 (zdL a0 [x12.A,x12.B]).bind fun z13=>
 if(!z13)=true then(
 some (.out (.inr false)))else(
 some (.go ()))) (fun s5=>.inl ()) (a1.length) 0 ():Option (Unit ⊕ Bool)).bind (Sum.elim (fun x4=>
 some true) some)))
theorem zqD:∀{a0}{a1}{r},zgw a0 a1=some r→PCalls Tryz.prog 95 [(.sh,vE a0),(.sh,vH a1)] (Eo (.bool r) [.junk,.junk]):=by
 intro a0 a1 r hr
 apply pF 25 [] [] [] [.tmp 4] hr zHE Tryz.func95
 intro Φ hΦ hF g
 unfold zgw at hF
 iterate 2 (try simp[go_sem,g];try intros;refine zaD ?_)
 refine wI hF (fun h1 hF=>?_) (fun h1 hF=>?_)
 ·exact wl hΦ hF
 iterate 2 (try simp[go_sem,g];try intros;refine zaD ?_)
 refine wS hF (fun x4=>[]) (fun x4 hF=>?_) fun _ hj2 hr3 hF=>?_
 ·exact wl hΦ hF
 refine wB ?_
 obtain⟨b15,hb16,hψ9⟩:=hF
 refine pR hb16 (fun i6 s5=>[(2,.bl [.int .i64 a0.P,.int .i64 a0.Q,.int .i64 a0.G]),(10,.v (vH a1)),(11,.v (.int .i64 (a1.length:Int))),(12,.v (.int .i64 i6))]) (fun s5 _ hN17=>?_) (fun i6 s5 _ _ hi10 hi11 ho7 hg8 hF=>?_)
 ·exact wn hN17 (hj2 _) hψ9
 refine wW ?_
 refine wu hi10 hi11 ?_
 refine wW ?_
 refine wB ?_
 obtain⟨x12,g,hF⟩:=Rx g hF
 refine wK [2,6,10,11,12] ?_
 refine wC hF [.sh,.sh] zgD (fun z13 hF=>?_)
 refine wW ?_
 refine wI hF (fun h14 hF=>?_) (fun h14 hF=>?_)
 ·cases ho7 _ (zaa hF)
  cases hΦ _ (hr3 _ hψ9)
  refine wW ?_
  try simp[go_sem,g]
 refine wW ?_
 exact wi hi10 hi11 (hg8 _) (zaa hF)
def zdl (a0:Group) (a1:Int) (a2:List Cipher):Option Bool:=
 (((zgM a0 a1).bind fun z4=>
 if z4=true then(
 (zck (a2.length:Int) 1 12).bind fun z6=>
 if z6=true then(
 (zgw a0 a2).bind fun z8=>
 some z8)else(
 some false))else(
 some false):Option Bool).bind fun x3=>
 some x3)
theorem zhE:∀{a0}{a1}{a2}{r},zdl a0 a1 a2=some r→PCalls Tryz.prog 34 [(.sh,vE a0),(.sh,.int .i64 a1),(.sh,vH a2)] (Eo (.bool r) [.junk,.junk,.junk]):=by
 intro a0 a1 a2 r hr
 apply pF 20 [] [] [] [.tmp 6] hr zGs Tryz.func34
 intro Φ hΦ hF g
 unfold zdl at hF
 refine wW ?_
 refine wJ hF (fun x3=>[(6,.v (.bool x3))]) (fun x3 hF=>?_) fun _ hj1 hF=>?_
 ·exact wm hΦ hF
 refine wC hF [.sh,.sh] zqZ (fun z4 hF=>?_)
 refine wG hF (fun h5 hF=>?_) fun h5 hF=>?_
 ·try simp[go_sem,g,h5]
  try intros
  refine wC hF [.sh,.sh,.sh] zdH (fun z6 hF=>?_)
  try simp[go_sem,g,h5]
  refine wG hF (fun h7 hF=>?_) fun h7 hF=>?_
  ·try simp[go_sem,g,h7]
   refine wC hF [.sh,.sh] zqD (fun z8 hF=>?_)
   exact wV h7 (hj1 _) (zaa hF)
  exact wV h7 (hj1 _) (zaa hF)
 exact wV h5 (hj1 _) (zaa hF)
def zfm (a0:List Int) (a1:Int) (a2:Int):Option Bool:=
 ((zap (σ:=Unit) (fun i5 s4=>
 (ix a0 i5).bind fun x11=>
 (zck x11 a1 a2).bind fun z12=>
 if(!z12)=true then(
 some (.out (.inr false)))else(
 some (.go ()))) (fun s4=>.inl ()) (a0.length) 0 ():Option (Unit ⊕ Bool)).bind (Sum.elim (fun x3=>
 some true) some))
theorem zkZ:∀{a0}{a1}{a2}{r},zfm a0 a1 a2=some r→PCalls Tryz.prog 96 [(.sh,vC a0),(.sh,.int .i64 a1),(.sh,.int .i64 a2)] (Eo (.bool r) [.junk,.junk,.junk]):=by
 intro a0 a1 a2 r hr
 apply pF 21 [] [] [] [.tmp 6] hr zIC Tryz.func96
 intro Φ hΦ hF g
 unfold zfm at hF
 iterate 2 (try simp[go_sem,g];try intros;refine zaD ?_)
 refine wS hF (fun x3=>[]) (fun x3 hF=>?_) fun _ hj1 hr2 hF=>?_
 ·exact wl hΦ hF
 refine wB ?_
 obtain⟨b14,hb15,hψ8⟩:=hF
 refine pR hb15 (fun i5 s4=>[(1,.v (.int .i64 a1)),(2,.v (.int .i64 a2)),(9,.v (vC a0)),(10,.v (.int .i64 (a0.length:Int))),(11,.v (.int .i64 i5))]) (fun s4 _ hN16=>?_) (fun i5 s4 _ _ hi9 hi10 ho6 hg7 hF=>?_)
 ·exact wn hN16 (hj1 _) hψ8
 refine wW ?_
 refine wu hi9 hi10 ?_
 refine wW ?_
 refine wB ?_
 obtain⟨x11,g,hF⟩:=Rx g hF
 refine wW ?_
 refine wC hF [.sh,.sh,.sh] zdH (fun z12 hF=>?_)
 refine wK [1,2,9,10,11,19] ?_
 refine wI hF (fun h13 hF=>?_) (fun h13 hF=>?_)
 ·cases ho6 _ (zaa hF)
  cases hΦ _ (hr2 _ hψ8)
  refine wW ?_
  try simp[go_sem,g]
 refine wW ?_
 exact wi hi9 hi10 (hg7 _) (zaa hF)
def zgm (a0:List Int) (a1:Int):Option Bool:=
 ((zap (σ:=Unit) (fun i5 s4=>
 (ix a0 i5).bind fun x11=>
 if(x11==a1)=true then(
 some (.out (.inr true)))else(
 some (.go ()))) (fun s4=>.inl ()) (a0.length) 0 ():Option (Unit ⊕ Bool)).bind (Sum.elim (fun x3=>
 some false) some))
theorem zqB:∀{a0}{a1}{r},zgm a0 a1=some r→PCalls Tryz.prog 152 [(.sh,vC a0),(.sh,.int .i64 a1)] (Eo (.bool r) [.junk,.junk]):=by
 intro a0 a1 r hr
 apply pF 17 [] [] [] [.tmp 4] hr zBi Tryz.func152
 intro Φ hΦ hF g
 unfold zgm at hF
 iterate 2 (try simp[go_sem,g];try intros;refine zaD ?_)
 refine wS hF (fun x3=>[]) (fun x3 hF=>?_) fun _ hj1 hr2 hF=>?_
 ·exact wl hΦ hF
 refine wB ?_
 obtain⟨b13,hb14,hψ8⟩:=hF
 refine pR hb14 (fun i5 s4=>[(1,.v (.int .i64 a1)),(7,.v (vC a0)),(8,.v (.int .i64 (a0.length:Int))),(9,.v (.int .i64 i5))]) (fun s4 _ hN15=>?_) (fun i5 s4 _ _ hi9 hi10 ho6 hg7 hF=>?_)
 ·exact wn hN15 (hj1 _) hψ8
 refine wW ?_
 refine wu hi9 hi10 ?_
 refine wW ?_
 refine wB ?_
 obtain⟨x11,g,hF⟩:=Rx g hF
 refine wW ?_
 refine wK [1,7,8,9,15] ?_
 refine wI hF (fun h12 hF=>?_) (fun h12 hF=>?_)
 ·cases ho6 _ (zaa hF)
  cases hΦ _ (hr2 _ hψ8)
  refine wW ?_
  try simp[go_sem,g]
 refine wW ?_
 exact wi hi9 hi10 (hg7 _) (zaa hF)
def zeK (a0:List Int):Option Bool:=
 ((zap (σ:=Unit) (fun i5 s4=>
 (ix a0 i5).bind fun x11=>
 gd (0≤i5)<|
 gd (0≤i5.toNat∧i5.toNat≤a0.length)<|
 (zgm ((a0.take i5.toNat).drop 0) x11).bind fun z12=>
 if z12=true then(
 some (.out (.inr false)))else(
 some (.go ()))) (fun s4=>.inl ()) (a0.length) 0 ():Option (Unit ⊕ Bool)).bind (Sum.elim (fun x3=>
 some true) some))
theorem zoe:∀{a0}{r},zeK a0=some r→PCalls Tryz.prog 97 [(.sh,vC a0)] (Eo (.bool r) [.junk]):=by
 intro a0 r hr
 apply pF 18 [] [] [] [.tmp 2] hr zGz Tryz.func97
 intro Φ hΦ hF g
 unfold zeK at hF
 iterate 2 (try simp[go_sem,g];try intros;refine zaD ?_)
 refine wS hF (fun x3=>[]) (fun x3 hF=>?_) fun _ hj1 hr2 hF=>?_
 ·exact wl hΦ hF
 refine wB ?_
 obtain⟨b14,hb15,hψ8⟩:=hF
 refine pR hb15 (fun i5 s4=>[(0,.v (vC a0)),(5,.v (vC a0)),(6,.v (.int .i64 (a0.length:Int))),(7,.v (.int .i64 i5))]) (fun s4 _ hN16=>?_) (fun i5 s4 _ _ hi9 hi10 ho6 hg7 hF=>?_)
 ·exact wn hN16 (hj1 _) hψ8
 refine wW ?_
 refine wu hi9 hi10 ?_
 refine wW ?_
 refine wB ?_
 obtain⟨x11,g,hF⟩:=Rx g hF
 refine wK [0,3,4,5,6,7] ?_
 obtain⟨g,hF⟩:=Rg g hF
 obtain⟨g,hF⟩:=Rg g hF
 refine wC hF [.sh,.sh] zqB (fun z12 hF=>?_)
 refine wW ?_
 refine wI hF (fun h13 hF=>?_) (fun h13 hF=>?_)
 ·cases ho6 _ (zaa hF)
  cases hΦ _ (hr2 _ hψ8)
  refine wW ?_
  try simp[go_sem,g]
 refine wW ?_
 exact wi hi9 hi10 (hg7 _) (zaa hF)
def zfn (a0:List Int) (a1:Int):Option Bool:=
 ((if((a0.length:Int)==a1)=true then(
 (zfm a0 0 (i64.wrap (a1-1))).bind fun z5=>
 if z5=true then(
 (zeK a0).bind fun z7=>
 some z7)else(
 some false))else(
 some false):Option Bool).bind fun x3=>
 some x3)
theorem zlu:∀{a0}{a1}{r},zfn a0 a1=some r→PCalls Tryz.prog 35 [(.sh,vC a0),(.sh,.int .i64 a1)] (Eo (.bool r) [.junk,.junk]):=by
 intro a0 a1 r hr
 apply pF 19 [] [] [] [.tmp 4] hr zGr Tryz.func35
 intro Φ hΦ hF g
 unfold zfn at hF
 refine wW ?_
 refine wJ hF (fun x3=>[(4,.v (.bool x3))]) (fun x3 hF=>?_) fun _ hj1 hF=>?_
 ·exact wm hΦ hF
 try simp[go_sem,g]
 try intros
 refine wG hF (fun h4 hF=>?_) fun h4 hF=>?_
 ·try simp[go_sem,g,h4]
  refine wC hF [.sh,.sh,.sh] zkZ (fun z5 hF=>?_)
  try simp[go_sem,g,h4]
  refine wG hF (fun h6 hF=>?_) fun h6 hF=>?_
  ·try simp[go_sem,g,h6]
   refine wC hF [.sh] zoe (fun z7 hF=>?_)
   exact wV h6 (hj1 _) (zaa hF)
  exact wV h6 (hj1 _) (zaa hF)
 exact wV h4 (hj1 _) (zaa hF)
def zen (a0:Group) (a1:List Int):Option Bool:=
 (zfm a1 0 (i64.wrap (a0.Q-1))).bind fun z1=>
 some z1
theorem zhn:∀{a0}{a1}{r},zen a0 a1=some r→PCalls Tryz.prog 36 [(.sh,vE a0),(.sh,vC a1)] (Eo (.bool r) [.junk,.junk]):=by
 intro a0 a1 r hr
 apply pF 10 [] [] [] [.tmp 4] hr zFT Tryz.func36
 intro Φ hΦ hF g
 unfold zen at hF
 refine wW ?_
 refine wC hF [.sh,.sh,.sh] zkZ (fun z1 hF=>?_)
 exact wl hΦ hF
def ze5 (a0:Int):Option Bool:=
 (zck a0 0 4611686018427387903).bind fun z1=>
 some z1
theorem znt:∀{a0}{r},ze5 a0=some r→PCalls Tryz.prog 172 [(.sh,.int .i64 a0)] (Eo (.bool r) [.junk]):=by
 intro a0 r hr
 apply pF 5 [] [] [] [.tmp 2] hr zDc Tryz.func172
 intro Φ hΦ hF g
 unfold ze5 at hF
 refine wW ?_
 refine wC hF [.sh,.sh,.sh] zdH (fun z1 hF=>?_)
 exact wl hΦ hF
def zfZ (a0:ByteArray) (a1:List Int):Option ((List Int)):=
 ((zbo (σ:=(List Int)×Int) (fun s4=>
 if decide (s4.2<(a0.size:Int))=true then(
 (ixs a0 s4.2).bind fun x10=>
 gd ((s4.1.length+1)*8≤140737488355328∧s4.1.length+1≤4611686018427387904)<|
 some (.go (s4.1++[i64.wrap x10],i64.wrap (s4.2+1))))else(
 some (.out s4.1))) ([(a0.size:Int)],0):Option ((List Int))).bind fun x3=>
 gd ((x3.length+a1.length)*8≤140737488355328∧x3.length+a1.length≤4611686018427387904)<|
 some (x3++a1))
theorem zo9:∀{a0}{a1}{r},zfZ a0 a1=some r→PCalls Tryz.prog 175 [(.sh,.str a0),(.sh,vC a1)] (Eo (vD r) [.junk,.junk]):=by
 intro a0 a1 r hr
 apply pF 26 [] [] [] [.tmp 4] hr zDb Tryz.func175
 intro Φ hΦ hF g
 unfold zfZ at hF
 iterate 3 refine wW ?_
 refine wJ hF (fun x3=>[(1,.v (vC a1)),(5,.v (vD x3))]) (fun x3 hF=>?_) fun _ hj1 hF=>?_
 ·obtain⟨g,hF⟩:=Rg g hF
  refine wK [4] ?_
  exact wm hΦ hF
 refine wB ?_
 obtain⟨b11,hb12,hψ8⟩:=hF
 refine pL hb12 (fun s4=>[(0,.v (.str a0)),(1,.v (vC a1)),(5,.v (vD s4.1)),(6,.v (.int .i64 s4.2))]) (fun s4 _ _ ho6 hg7 hF=>?_)
 refine wK [0,1,5,6,13] ?_
 refine wI hF (fun h9 hF=>?_) (fun h9 hF=>?_)
 ·refine wW ?_
  refine wB ?_
  obtain⟨x10,g,hF⟩:=Rxs g hF
  obtain⟨g,hF⟩:=Rg g hF
  refine wW ?_
  exact wT (hg7 _) (zaa hF)
 cases ho6 _ (zaa hF)
 exact wT (hj1 _) hψ8
def zbZ (a0c0:Int) (a0c1:Int) (a1:Int):Option ((Int×Int)):=
 (some [a1.tmod 2147483648,i64.wrap (a1.tdiv 2147483648)]).bind fun x1=>
 zbo (σ:=(Int×Int)×Int) (fun s10=>
 if decide (s10.2<(x1.length:Int))=true then(
 (ix x1 s10.2).bind fun x16=>
 some (.go (((i64.wrap ((i64.wrap ((i64.wrap (48271*s10.1.1))+x16))+1)).tmod 2147483647,(i64.wrap ((i64.wrap ((i64.wrap (69621*s10.1.2))+x16))+1)).tmod 2147483647),i64.wrap (s10.2+1))))else(
 some (.out (s10.1.1,s10.1.2)))) ((a0c0,a0c1),0)
theorem zfY:∀{a0c0}{a0c1}{a1}{r},zbZ a0c0 a0c1 a1=some r→PCalls Tryz.prog 191 [(.io,vM a0c0 a0c1),(.sh,.int .i64 a1)] (Eo (.junk) [vM r.1 r.2,.junk]):=by
 intro a0c0 a0c1 a1 r hr
 apply pF 41 [0] [] [] [] hr zAE Tryz.func191
 intro Φ hΦ hF g
 unfold zbZ at hF
 have g:=Ld g 2147483648
 obtain⟨x1,e2,hF⟩:=zeo hF
 have g:=And.intro g (show[[.int .i64 (a1.tmod 2147483648)],[.int .i64 (i64.wrap (a1.tdiv 2147483648))]]=x1.map zao by injection e2 with e2;rw[←e2];simp[go_sem])
 try simp[go_sem,g]
 try intros
 refine zaD ?_
 refine wB ?_
 obtain⟨b17,hb18,hψ14⟩:=hF
 refine pL hb18 (fun s10=>[(0,.v (vM s10.1.1 s10.1.2)),(10,.v (vD x1)),(11,.v (.int .i64 (x1.length:Int))),(12,.v (.int .i64 s10.2))]) (fun s10 _ _ ho12 hg13 hF=>?_)
 refine wW ?_
 refine wI hF (fun h15 hF=>?_) (fun h15 hF=>?_)
 ·refine wW ?_
  refine wB ?_
  obtain⟨x16,g,hF⟩:=Rx g hF
  refine wK [0,5,10,11,12] ?_
  have g:=Ld g 2147483647
  refine wK [0,5,10,11,12] ?_
  refine wK [0,10,11,12] ?_
  exact wT (hg13 _) (zaa hF)
 cases ho12 _ (zaa hF)
 cases hΦ _ hψ14
 try simp[go_sem,g]
@[go_sem] def zza:List DE:=[d0 0 [3],d0 1 [22],d0 2 [23],d0 3 [24],d0 4 [25],d0 5 [3],d0 6 [27],d0 7 [28],d0 8 [29],d0 9 [26,30],d0 10 [31]]
def zgv (a0:List Int):Option Int:=
 (zbZ 1 2 (a0.length:Int)).bind fun z1=>
 ((zap (σ:=(Int×Int)) (fun i15 s14=>
 (ix a0 i15).bind fun x21=>
 (zbZ s14.1 s14.2 x21).bind fun z22=>
 some (.go (z22.1,z22.2))) (fun s14=>(s14.1,s14.2)) (a0.length) 0 (z1.1,z1.2):Option ((Int×Int))).bind fun x4=>
 some (i64.wrap ((i64.wrap (x4.1*2147483648))+x4.2)))
theorem zqx:∀{a0}{r},zgv a0=some r→PCalls Tryz.prog 174 [(.sh,vC a0)] (Eo (.int .i64 r) [.junk]):=by
 intro a0 r hr
 apply pF 32 [] [] [7] [.tmp 2] hr zBv Tryz.func174
 intro Φ hΦ hF g
 unfold zgv at hF
 iterate 2 (try simp[go_sem,g];try intros;refine zaD ?_)
 try simp[go_sem,g]
 try intros
 refine wC hF [.io,.sh] zfY (fun z1 hF=>?_)
 try simp[go_sem,g]
 try intros
 refine zaD ?_
 try simp[go_sem,g]
 try intros
 refine wK [3,12,13,14] ?_
 refine wJ hF (fun x4=>[(3,.v (vM x4.1 x4.2))]) (fun x4 hF=>?_) fun _ hj2 hF=>?_
 ·refine wX zza follows ?_
  refine wK [2] ?_
  exact wm hΦ hF
 refine wB ?_
 obtain⟨b23,hb24,hψ18⟩:=hF
 refine pR hb24 (fun i15 s14=>[(3,.v (vM s14.1 s14.2)),(12,.v (vC a0)),(13,.v (.int .i64 (a0.length:Int))),(14,.v (.int .i64 i15))]) (fun s14 _ hN25=>?_) (fun i15 s14 _ _ hi19 hi20 ho16 hg17 hF=>?_)
 ·exact wn hN25 (hj2 _) hψ18
 refine wW ?_
 refine wu hi19 hi20 ?_
 refine wW ?_
 refine wB ?_
 obtain⟨x21,g,hF⟩:=Rx g hF
 refine wW ?_
 refine wC hF [.io,.sh] zfY (fun z22 hF=>?_)
 refine wW ?_
 exact wi hi19 hi20 (hg17 _) (zaa hF)
def zec (a0:ByteArray) (a1:List Int):Option Int:=
 (zfZ a0 a1).bind fun z1=>
 (zgv z1).bind fun z2=>
 some z2
theorem ziS:∀{a0}{a1}{r},zec a0 a1=some r→PCalls Tryz.prog 155 [(.sh,.str a0),(.sh,vC a1)] (Eo (.int .i64 r) [.junk,.junk]):=by
 intro a0 a1 r hr
 apply pF 9 [] [] [] [.tmp 4] hr zDl Tryz.func155
 intro Φ hΦ hF g
 unfold zec at hF
 refine wW ?_
 refine wC hF [.sh,.sh] zo9 (fun z1 hF=>?_)
 refine wC hF [.sh] zqx (fun z2 hF=>?_)
 exact wl hΦ hF
@[go_sem] def zyc:List DE:=[d0 0 [1],d1 1 [3] 3,d2 2 [15] 3 15,d1 3 [3] 3,d2 4 [17] 3 17,d1 5 [3] 3,d2 6 [19] 3 19,d0 7 [2],d0 8 [7],d0 9 [16,18,20,21,22],d1 11 [3] 3,d2 12 [25] 3 25,d0 13 [26],⟨10,[14,23],[],none,true,true,true⟩,d0 14 [24,27],d0 15 [28],d0 16 [29]]
@[go_sem] def zzB:List DE:=[d0 0 [8],d1 1 [3] 3,d2 2 [31] 3 31,d0 3 [32],d1 4 [3] 3,d2 5 [34] 3 34,d0 6 [33,35],d1 7 [3] 3,d2 8 [37] 3 37,d3 9 [30,36,38],d0 10 [39]]
def zc9 (a0:Group) (a1:ByteArray) (a2:Int):Option Int:=
 ((zbo (σ:=Int) (fun s4=>
 if decide (s4<1000)=true then(
 (zec a1 [a0.P,a0.Q,a0.G,a2,s4]).bind fun z10=>
 gd (i64.wrap (a0.P-1)≠0)<|
 gd (a0.Q≠0)<|
 (za6 (i64.wrap (1+(z10.tmod (i64.wrap (a0.P-1))))) (i64.wrap ((i64.wrap (a0.P-1)).tdiv a0.Q)) a0.P).bind fun z11=>
 if(z11 !=1)=true then(
 some (.out (.inr z11)))else(
 some (.go (i64.wrap (s4+1)))))else(
 some (.out (.inl ())))) 0:Option (Unit ⊕ Int)).bind (Sum.elim (fun x3=>
 some 0) some))
theorem zjm:∀{a0}{a1}{a2}{r},zc9 a0 a1 a2=some r→PCalls Tryz.prog 173 [(.sh,vE a0),(.sh,.str a1),(.sh,.int .i64 a2)] (Eo (.int .i64 r) [.junk,.junk,.junk]):=by
 intro a0 a1 a2 r hr
 apply pF 43 [] [] [] [.tmp 6] hr zBx Tryz.func173
 intro Φ hΦ hF g
 unfold zc9 at hF
 iterate 2 refine wW ?_
 refine wS hF (fun x3=>[]) (fun x3 hF=>?_) fun _ hj1 hr2 hF=>?_
 ·exact wl hΦ hF
 refine wB ?_
 obtain⟨b13,hb14,hψ8⟩:=hF
 refine pL hb14 (fun s4=>[(1,.v (.str a1)),(2,.v (.int .i64 a2)),(3,.bl [.int .i64 a0.P,.int .i64 a0.Q,.int .i64 a0.G]),(7,.v (.int .i64 s4))]) (fun s4 _ _ ho6 hg7 hF=>?_)
 refine wW ?_
 refine wI hF (fun h9 hF=>?_) (fun h9 hF=>?_)
 ·refine wW ?_
  refine wB ?_
  refine wX zyc follows ?_
  refine wC hF [.sh,.sh] ziS (fun z10 hF=>?_)
  obtain⟨g,hF⟩:=Rz g hF
  refine wK [1,2,3,7,8] ?_
  refine wX zzB follows ?_
  obtain⟨g,hF⟩:=Rz g hF
  refine wC hF [.sh,.sh,.sh] zdX (fun z11 hF=>?_)
  refine wK [1,2,3,7,9] ?_
  refine wW ?_
  refine wI hF (fun h12 hF=>?_) (fun h12 hF=>?_)
  ·cases ho6 _ (zaa hF)
   cases hΦ _ (hr2 _ hψ8)
   refine wW ?_
   try simp[go_sem,g]
  refine wW ?_
  exact wT (hg7 _) (zaa hF)
 cases ho6 _ (zaa hF)
 exact wT (hj1 _) hψ8
def zdO (a0:Group) (a1:ByteArray) (a2:Int):Option (Int×Bool):=
 (((zdW a0).bind fun z4=>
 if(!z4)=true then(
 some true)else(
 if decide (40<(a1.size:Int))=true then(
 some true)else(
 (ze5 a2).bind fun z7=>
 some (!z7))):Option Bool).bind fun x3=>
 if x3=true then(
 some (0,false))else(
 (zc9 a0 a1 a2).bind fun z9=>
 some (z9,decide (0<z9))))
theorem zkq:∀{a0}{a1}{a2}{r},zdO a0 a1 a2=some r→PCalls Tryz.prog 153 [(.sh,vE a0),(.sh,.str a1),(.sh,.int .i64 a2)] (Eo (.tup [.int .i64 r.1,.bool r.2]) [.junk,.junk,.junk]):=by
 intro a0 a1 a2 r hr
 apply pF 29 [] [] [] [.tmp 6,.tmp 7] hr zCl Tryz.func153
 intro Φ hΦ hF g
 unfold zdO at hF
 refine wW ?_
 refine wJ hF (fun x3=>[(1,.v (.str a1)),(2,.v (.int .i64 a2)),(3,.bl [.int .i64 a0.P,.int .i64 a0.Q,.int .i64 a0.G]),(21,.v (.bool x3))]) (fun x3 hF=>?_) fun _ hj1 hF=>?_
 ·refine wI hF (fun h8 hF=>?_) (fun h8 hF=>?_)
  ·exact wl hΦ hF
  refine wW ?_
  refine wC hF [.sh,.sh,.sh] zjm (fun z9 hF=>?_)
  refine wW ?_
  refine wK [6,7] ?_
  exact wm hΦ hF
 refine wC hF [.sh] zgX (fun z4 hF=>?_)
 refine wG hF (fun h5 hF=>?_) fun h5 hF=>?_
 ·exact wV h5 (hj1 _) (zaa hF)
 try simp[go_sem,g,h5]
 refine wG hF (fun h6 hF=>?_) fun h6 hF=>?_
 ·exact wV h6 (hj1 _) (zaa hF)
 try simp[go_sem,g,h6]
 refine wC hF [.sh] znt (fun z7 hF=>?_)
 exact wV h6 (hj1 _) (zaa hF)
def zdx (a0:Group) (a1:ByteArray) (a2:Int):Option (List Int×Bool):=
 (((zdW a0).bind fun z4=>
 if(!z4)=true then(
 some true)else(
 if decide (40<(a1.size:Int))=true then(
 some true)else(
 (zck a2 0 100).bind fun z7=>
 some (!z7))):Option Bool).bind fun x3=>
 if x3=true then(
 some ([],false))else(
 ((zbo (σ:=(List Int)×Int) (fun s12=>
 if decide (s12.2<a2)=true then(
 (zc9 a0 a1 s12.2).bind fun z18=>
 if(z18==0)=true then(
 some (.out (.inr ([],false))))else(
 gd ((s12.1.length+1)*8≤140737488355328∧s12.1.length+1≤4611686018427387904)<|
 some (.go (s12.1++[z18],i64.wrap (s12.2+1)))))else(
 some (.out (.inl s12.1)))) ([],0):Option ((List Int) ⊕ (List Int×Bool))).bind (Sum.elim (fun x11=>
 some (x11,true)) some))))
theorem zkc:∀{a0}{a1}{a2}{r},zdx a0 a1 a2=some r→PCalls Tryz.prog 154 [(.sh,vE a0),(.sh,.str a1),(.sh,.int .i64 a2)] (Eo (.tup [vD r.1,.bool r.2]) [.junk,.junk,.junk]):=by
 intro a0 a1 a2 r hr
 apply pF 40 [] [] [] [.tmp 6,.tmp 7] hr zDy Tryz.func154
 intro Φ hΦ hF g
 unfold zdx at hF
 refine wW ?_
 refine wJ hF (fun x3=>[(1,.v (.str a1)),(2,.v (.int .i64 a2)),(3,.bl [.int .i64 a0.P,.int .i64 a0.Q,.int .i64 a0.G]),(23,.v (.bool x3))]) (fun x3 hF=>?_) fun _ hj1 hF=>?_
 ·refine wI hF (fun h8 hF=>?_) (fun h8 hF=>?_)
  ·exact wl hΦ hF
  iterate 3 refine wW ?_
  refine wS hF (fun x11=>[(8,.v (vD x11))]) (fun x11 hF=>?_) fun _ hj9 hr10 hF=>?_
  ·exact wl hΦ hF
  refine wB ?_
  obtain⟨b20,hb21,hψ16⟩:=hF
  refine pL hb21 (fun s12=>[(1,.v (.str a1)),(2,.v (.int .i64 a2)),(3,.bl [.int .i64 a0.P,.int .i64 a0.Q,.int .i64 a0.G]),(8,.v (vD s12.1)),(9,.v (.int .i64 s12.2))]) (fun s12 _ _ ho14 hg15 hF=>?_)
  refine wW ?_
  refine wI hF (fun h17 hF=>?_) (fun h17 hF=>?_)
  ·refine wW ?_
   refine wB ?_
   refine wC hF [.sh,.sh,.sh] zjm (fun z18 hF=>?_)
   refine wK [1,2,3,8,9,10] ?_
   refine wW ?_
   refine wI hF (fun h19 hF=>?_) (fun h19 hF=>?_)
   ·cases ho14 _ (zaa hF)
    cases hΦ _ (hr10 _ hψ16)
    refine wW ?_
    try simp[go_sem,g]
   obtain⟨g,hF⟩:=Rg g hF
   iterate 2 refine wW ?_
   exact wT (hg15 _) (zaa hF)
  cases ho14 _ (zaa hF)
  exact wT (hj9 _) hψ16
 refine wC hF [.sh] zgX (fun z4 hF=>?_)
 refine wG hF (fun h5 hF=>?_) fun h5 hF=>?_
 ·exact wV h5 (hj1 _) (zaa hF)
 try simp[go_sem,g,h5]
 refine wG hF (fun h6 hF=>?_) fun h6 hF=>?_
 ·exact wV h6 (hj1 _) (zaa hF)
 try simp[go_sem,g,h6]
 refine wC hF [.sh,.sh,.sh] zdH (fun z7 hF=>?_)
 exact wV h6 (hj1 _) (zaa hF)
def zcX (a0:Group) (a1:Int):Option (Bases×Bool):=
 (((zdW a0).bind fun z4=>
 if(!z4)=true then(
 some true)else(
 (zck a1 0 24).bind fun z6=>
 some (!z6)):Option Bool).bind fun x3=>
 if x3=true then(
 some ((Bases.mk 0 []),false))else(
 (zdO a0 (⟨#[104]⟩:ByteArray) 0).bind fun z8=>
 (zdx a0 (⟨#[104,115]⟩:ByteArray) a1).bind fun z9=>
 ((if(!z8.2)=true then(
 some true)else(
 some (!z9.2)):Option Bool).bind fun x12=>
 if x12=true then(
 some ((Bases.mk 0 []),false))else(
 some ((Bases.mk z8.1 z9.1),true)))))
theorem zop:∀{a0}{a1}{r},zcX a0 a1=some r→PCalls Tryz.prog 98 [(.sh,vE a0),(.sh,.int .i64 a1)] (Eo (.tup [vI r.1,.bool r.2]) [.junk,.junk]):=by
 intro a0 a1 r hr
 apply pF 40 [] [] [] [.cell 4 71,.tmp 5] hr zIP Tryz.func98
 intro Φ hΦ hF g
 unfold zcX at hF
 refine wW ?_
 refine wJ hF (fun x3=>[(1,.v (.int .i64 a1)),(2,.bl [.int .i64 a0.P,.int .i64 a0.Q,.int .i64 a0.G]),(4,.bl [.int .i64 0,.sl true 1 []]),(17,.v (.bool x3))]) (fun x3 hF=>?_) fun _ hj1 hF=>?_
 ·refine wI hF (fun h7 hF=>?_) (fun h7 hF=>?_)
  ·exact wl hΦ hF
  refine wW ?_
  refine wC hF [.sh,.sh,.sh] zkq (fun z8 hF=>?_)
  refine wK [1,2,4,6,7] ?_
  refine wC hF [.sh,.sh,.sh] zkc (fun z9 hF=>?_)
  refine wW ?_
  refine wJ hF (fun x12=>[(4,.bl [.int .i64 0,.sl true 1 []]),(6,.v (.int .i64 z8.1)),(8,.v (vD z9.1)),(35,.v (.bool x12))]) (fun x12 hF=>?_) fun _ hj10 hF=>?_
  ·refine wI hF (fun h14 hF=>?_) (fun h14 hF=>?_)
   ·refine wK [4,5] ?_
    exact wm hΦ hF
   refine wW ?_
   refine wK [4,5] ?_
   exact wm hΦ hF
  refine wG hF (fun h13 hF=>?_) fun h13 hF=>?_
  ·exact wV h13 (hj10 _) (zaa hF)
  exact wV h13 (hj10 _) (zaa hF)
 refine wC hF [.sh] zgX (fun z4 hF=>?_)
 refine wG hF (fun h5 hF=>?_) fun h5 hF=>?_
 ·exact wV h5 (hj1 _) (zaa hF)
 try simp[go_sem,g,h5]
 refine wC hF [.sh,.sh,.sh] zdH (fun z6 hF=>?_)
 exact wV h5 (hj1 _) (zaa hF)
def zfu (a0:Group):Option (Int×Bool):=
 (zcX a0 0).bind fun z1=>
 some (z1.1.H,z1.2)
theorem zlb:∀{a0}{r},zfu a0=some r→PCalls Tryz.prog 37 [(.sh,vE a0)] (Eo (.tup [.int .i64 r.1,.bool r.2]) [.junk]):=by
 intro a0 r hr
 apply pF 14 [] [] [] [.tmp 2,.tmp 3] hr zFe Tryz.func37
 intro Φ hΦ hF g
 unfold zfu at hF
 refine wW ?_
 refine wC hF [.sh,.sh] zop (fun z1 hF=>?_)
 refine wK [4,5] ?_
 exact wl hΦ hF
def za1 (a0:Group) (a1:List Int):Option Int:=
 ((zap (σ:=Int) (fun i5 s4=>
 (ix a1 i5).bind fun x11=>
 gd (a0.P≠0)<|
 some (.go ((i64.wrap (s4*x11)).tmod a0.P))) (fun s4=>s4) (a1.length) 0 1:Option Int).bind fun x3=>
 some x3)
theorem zcv:∀{a0}{a1}{r},za1 a0 a1=some r→PCalls Tryz.prog 107 [(.sh,vE a0),(.sh,vC a1)] (Eo (.int .i64 r) [.junk,.junk]):=by
 intro a0 a1 r hr
 apply pF 22 [] [] [] [.tmp 4] hr zBT Tryz.func107
 intro Φ hΦ hF g
 unfold za1 at hF
 iterate 3 (try simp[go_sem,g];try intros;refine zaD ?_)
 refine wJ hF (fun x3=>[(5,.v (.int .i64 x3))]) (fun x3 hF=>?_) fun _ hj1 hF=>?_
 ·exact wl hΦ hF
 refine wB ?_
 obtain⟨b12,hb13,hψ8⟩:=hF
 refine pR hb13 (fun i5 s4=>[(2,.bl [.int .i64 a0.P,.int .i64 a0.Q,.int .i64 a0.G]),(5,.v (.int .i64 s4)),(8,.v (vC a1)),(9,.v (.int .i64 (a1.length:Int))),(10,.v (.int .i64 i5))]) (fun s4 _ hN14=>?_) (fun i5 s4 _ _ hi9 hi10 ho6 hg7 hF=>?_)
 ·exact wn hN14 (hj1 _) hψ8
 refine wW ?_
 refine wu hi9 hi10 ?_
 refine wW ?_
 refine wB ?_
 obtain⟨x11,g,hF⟩:=Rx g hF
 refine wK [2,5,7,8,9,10] ?_
 obtain⟨g,hF⟩:=Rz g hF
 refine wW ?_
 exact wi hi9 hi10 (hg7 _) (zaa hF)
@[go_sem] def zzw:List DE:=[d2 0 [4] 4 4,d1 1 [4] 4,d2 2 [10] 4 10,d0 3 [3],d2 5 [4] 4 4,d0 6 [2],d2 7 [4] 4 4,d0 8 [1],d0 9 [3],d3 4 [9,11,12],d3 10 [16,17,18],d0 11 [15,19],⟨12,[14,20],[],none,true,true,true⟩,d0 13 [13,21],d2 14 [8,22] 8 8]
def zgL (a0:Group) (a1:Int) (a2:Int) (a3:Int):Option Cipher:=
 (zat a0 a0.G a3).bind fun z1=>
 (zat a0 a1 a3).bind fun z2=>
 (za1 a0 [a2,z2]).bind fun z3=>
 some (Cipher.mk z1 z3)
theorem zq7:∀{a0}{a1}{a2}{a3}{r},zgL a0 a1 a2 a3=some r→PCalls Tryz.prog 166 [(.sh,vE a0),(.sh,.int .i64 a1),(.sh,.int .i64 a2),(.sh,.int .i64 a3)] (Eo (vF r) [.junk,.junk,.junk,.junk]):=by
 intro a0 a1 a2 a3 r hr
 apply pF 23 [] [] [] [.cell 8 84] hr zCE Tryz.func166
 intro Φ hΦ hF g
 unfold zgL at hF
 refine wW ?_
 refine wX zzw follows ?_
 refine wC hF [.sh,.sh,.sh] zbb (fun z1 hF=>?_)
 refine wC hF [.sh,.sh,.sh] zbb (fun z2 hF=>?_)
 refine wC hF [.sh,.sh] zcv (fun z3 hF=>?_)
 refine wK [8] ?_
 exact wm hΦ hF
@[go_sem] def zyz:List DE:=[d2 0 [2] 2 2,d1 1 [5] 5,d2 2 [16] 5 16,d1 3 [7] 7,d2 4 [18] 7 18,d0 5 [17,19],d2 7 [2] 2 2,d1 8 [5] 5,d2 9 [23] 5 23,d1 10 [7] 7,d2 11 [25] 7 25,d0 12 [24,26],⟨6,[15,20],[],none,true,true,true⟩,⟨13,[22,27],[],none,true,true,true⟩,d0 14 [21,28],d2 15 [5,29] 5 5]
def zh4 (a0:Group) (a1:List Cipher):Option Cipher:=
 ((zap (σ:=Int×Int) (fun i15 s14=>
 (ix a1 i15).bind fun x21=>
 (za1 a0 [s14.1,x21.A]).bind fun z22=>
 (za1 a0 [s14.2,x21.B]).bind fun z23=>
 some (.go (z22,z23))) (fun s14=>(s14.1,s14.2)) (a1.length) 0 (1,1):Option ((Int×Int))).bind fun x3=>
 some (Cipher.mk x3.1 x3.2))
theorem zq3:∀{a0}{a1}{r},zh4 a0 a1=some r→PCalls Tryz.prog 165 [(.sh,vE a0),(.sh,vH a1)] (Eo (vF r) [.junk,.junk]):=by
 intro a0 a1 r hr
 apply pF 32 [] [] [] [.cell 4 84] hr zCS Tryz.func165
 intro Φ hΦ hF g
 unfold zh4 at hF
 iterate 3 (try simp[go_sem,g];try intros;refine zaD ?_)
 refine wJ hF (fun x3=>[(4,.bl [.int .i64 0,.int .i64 0]),(5,.bl [.int .i64 x3.1,.int .i64 x3.2])]) (fun x3 hF=>?_) fun _ hj1 hF=>?_
 ·refine wK [4] ?_
  exact wm hΦ hF
 refine wB ?_
 obtain⟨b24,hb25,hψ18⟩:=hF
 refine pR hb25 (fun i15 s14=>[(2,.bl [.int .i64 a0.P,.int .i64 a0.Q,.int .i64 a0.G]),(4,.bl [.int .i64 0,.int .i64 0]),(5,.bl [.int .i64 s14.1,.int .i64 s14.2]),(9,.v (vH a1)),(10,.v (.int .i64 (a1.length:Int))),(11,.v (.int .i64 i15))]) (fun s14 _ hN26=>?_) (fun i15 s14 _ _ hi19 hi20 ho16 hg17 hF=>?_)
 ·exact wn hN26 (hj1 _) hψ18
 refine wW ?_
 refine wu hi19 hi20 ?_
 refine wW ?_
 refine wB ?_
 obtain⟨x21,g,hF⟩:=Rx g hF
 refine wK [2,4,5,7,9,10,11] ?_
 refine wX zyz follows ?_
 refine wC hF [.sh,.sh] zcv (fun z22 hF=>?_)
 refine wC hF [.sh,.sh] zcv (fun z23 hF=>?_)
 refine wK [2,4,5,9,10,11] ?_
 exact wi hi19 hi20 (hg17 _) (zaa hF)
@[go_sem] def zyX:List DE:=[d2 0 [4] 4 4,d2 1 [6] 6 6,d2 2 [4] 4 4,d0 3 [1],d0 4 [3],d3 5 [11,12,13],d0 6 [10,14],⟨7,[9,15],[],none,true,true,true⟩,d2 8 [8,16] 8 8]
def zgy (a0:Group) (a1:Int) (a2:Cipher) (a3:Int):Option Cipher:=
 (zgL a0 a1 1 a3).bind fun z1=>
 (zh4 a0 [a2,z1]).bind fun z2=>
 some z2
theorem ztl:∀{a0}{a1}{a2}{a3}{r},zgy a0 a1 a2 a3=some r→PCalls Tryz.prog 129 [(.sh,vE a0),(.sh,.int .i64 a1),(.sh,vF a2),(.sh,.int .i64 a3)] (Eo (vF r) [.junk,.junk,.junk,.junk]):=by
 intro a0 a1 a2 a3 r hr
 apply pF 17 [] [] [] [.cell 8 84] hr zDs Tryz.func129
 intro Φ hΦ hF g
 unfold zgy at hF
 refine wW ?_
 refine wX zyX follows ?_
 refine wC hF [.sh,.sh,.sh,.sh] zq7 (fun z1 hF=>?_)
 refine wC hF [.sh,.sh] zq3 (fun z2 hF=>?_)
 refine wK [8] ?_
 exact wm hΦ hF
@[go_sem] def zA7:List DE:=[d0 0 [11],d2 1 [5] 5 5,d0 2 [1],d0 3 [2],d0 4 [13],d0 5 [24,25],d0 6 [26],d0 7 [4],d0 8 [12],d0 9 [28,29],d0 10 [30],d3 11 [22,23,27,31],d0 12 [32],⟨13,[21,33],[],none,true,false,false⟩,d0 14 [34]]
def zga (a0:Group) (a1:Int) (a2:List Cipher) (a3:List Int) (a4:List Int):Option ((List Cipher)):=
 ((zap (σ:=(List Cipher)) (fun i5 s4=>
 (ix a3 i5).bind fun x11=>
 (ix a2 x11).bind fun x12=>
 (ix a4 i5).bind fun x13=>
 (zgy a0 a1 x12 x13).bind fun z14=>
 gd ((s4.length+1)*16≤140737488355328∧s4.length+1≤4611686018427387904)<|
 some (.go (s4++[z14]))) (fun s4=>s4) (a3.length) 0 []:Option ((List Cipher))).bind fun x3=>
 some x3)
theorem zmt:∀{a0}{a1}{a2}{a3}{a4}{r},zga a0 a1 a2 a3 a4=some r→PCalls Tryz.prog 61 [(.sh,vE a0),(.sh,.int .i64 a1),(.sh,vH a2),(.sh,vC a3),(.sh,vC a4)] (Eo (vG r) [.junk,.junk,.junk,.junk,.junk]):=by
 intro a0 a1 a2 a3 a4 r hr
 apply pF 37 [] [] [] [.tmp 10] hr zHF Tryz.func61
 intro Φ hΦ hF g
 unfold zga at hF
 iterate 3 (try simp[go_sem,g];try intros;refine zaD ?_)
 refine wJ hF (fun x3=>[(11,.v (vG x3))]) (fun x3 hF=>?_) fun _ hj1 hF=>?_
 ·exact wl hΦ hF
 refine wB ?_
 obtain⟨b15,hb16,hψ8⟩:=hF
 refine pR hb16 (fun i5 s4=>[(1,.v (.int .i64 a1)),(2,.v (vH a2)),(4,.v (vC a4)),(5,.bl [.int .i64 a0.P,.int .i64 a0.Q,.int .i64 a0.G]),(11,.v (vG s4)),(14,.v (vC a3)),(15,.v (.int .i64 (a3.length:Int))),(16,.v (.int .i64 i5))]) (fun s4 _ hN17=>?_) (fun i5 s4 _ _ hi9 hi10 ho6 hg7 hF=>?_)
 ·exact wn hN17 (hj1 _) hψ8
 refine wW ?_
 refine wu hi9 hi10 ?_
 refine wW ?_
 refine wB ?_
 obtain⟨x11,g,hF⟩:=Rx g hF
 refine wK [1,2,4,5,11,12,13,14,15,16] ?_
 refine wX zA7 follows ?_
 obtain⟨x12,g,hF⟩:=Rx g hF
 obtain⟨x13,g,hF⟩:=Rx g hF
 refine wC hF [.sh,.sh,.sh,.sh] ztl (fun z14 hF=>?_)
 obtain⟨g,hF⟩:=Rg g hF
 refine wK [1,2,4,5,11,14,15,16] ?_
 exact wi hi9 hi10 (hg7 _) (zaa hF)
@[go_sem] def zzq:List DE:=[d2 0 [4] 4 4,d2 1 [4] 4 4,d1 2 [4] 4,d2 3 [11] 4 11,d0 4 [2],d2 6 [4] 4 4,d0 7 [1],d0 8 [3],d3 5 [10,12,13],d3 9 [15,16,17],d0 10 [14,18],⟨11,[9,19],[],none,true,true,true⟩,d0 12 [20]]
def zcz (a0:Group) (a1:Int) (a2:Int) (a3:Int):Option Int:=
 (zat a0 a0.G a2).bind fun z1=>
 (zat a0 a1 a3).bind fun z2=>
 (za1 a0 [z1,z2]).bind fun z3=>
 some z3
theorem zgp:∀{a0}{a1}{a2}{a3}{r},zcz a0 a1 a2 a3=some r→PCalls Tryz.prog 103 [(.sh,vE a0),(.sh,.int .i64 a1),(.sh,.int .i64 a2),(.sh,.int .i64 a3)] (Eo (.int .i64 r) [.junk,.junk,.junk,.junk]):=by
 intro a0 a1 a2 a3 r hr
 apply pF 21 [] [] [] [.tmp 8] hr zA5 Tryz.func103
 intro Φ hΦ hF g
 unfold zcz at hF
 refine wW ?_
 refine wX zzq follows ?_
 refine wC hF [.sh,.sh,.sh] zbb (fun z1 hF=>?_)
 refine wC hF [.sh,.sh,.sh] zbb (fun z2 hF=>?_)
 refine wC hF [.sh,.sh] zcv (fun z3 hF=>?_)
 refine wK [8] ?_
 exact wm hΦ hF
@[go_sem] def zCC:List DE:=[d0 0 [9],d2 1 [4] 4 4,d0 2 [1],d0 3 [11],d0 4 [22],d0 5 [3],d0 6 [10],d0 7 [24,25],d0 8 [26],d3 9 [20,21,23,27],d0 10 [28],⟨11,[19,29],[],none,true,false,false⟩,d0 12 [30]]
def zfF (a0:Group) (a1:Int) (a2:List Int) (a3:List Int):Option ((List Int)):=
 ((zap (σ:=(List Int)) (fun i5 s4=>
 (ix a2 i5).bind fun x11=>
 (ix a3 i5).bind fun x12=>
 (zcz a0 a1 (i64.wrap (x11+1)) x12).bind fun z13=>
 gd ((s4.length+1)*8≤140737488355328∧s4.length+1≤4611686018427387904)<|
 some (.go (s4++[z13]))) (fun s4=>s4) (a2.length) 0 []:Option ((List Int))).bind fun x3=>
 some x3)
theorem zoq:∀{a0}{a1}{a2}{a3}{r},zfF a0 a1 a2 a3=some r→PCalls Tryz.prog 99 [(.sh,vE a0),(.sh,.int .i64 a1),(.sh,vC a2),(.sh,vC a3)] (Eo (vD r) [.junk,.junk,.junk,.junk]):=by
 intro a0 a1 a2 a3 r hr
 apply pF 33 [] [] [] [.tmp 8] hr zGa Tryz.func99
 intro Φ hΦ hF g
 unfold zfF at hF
 iterate 3 (try simp[go_sem,g];try intros;refine zaD ?_)
 refine wJ hF (fun x3=>[(9,.v (vD x3))]) (fun x3 hF=>?_) fun _ hj1 hF=>?_
 ·exact wl hΦ hF
 refine wB ?_
 obtain⟨b14,hb15,hψ8⟩:=hF
 refine pR hb15 (fun i5 s4=>[(1,.v (.int .i64 a1)),(3,.v (vC a3)),(4,.bl [.int .i64 a0.P,.int .i64 a0.Q,.int .i64 a0.G]),(9,.v (vD s4)),(12,.v (vC a2)),(13,.v (.int .i64 (a2.length:Int))),(14,.v (.int .i64 i5))]) (fun s4 _ hN16=>?_) (fun i5 s4 _ _ hi9 hi10 ho6 hg7 hF=>?_)
 ·exact wn hN16 (hj1 _) hψ8
 refine wW ?_
 refine wu hi9 hi10 ?_
 refine wW ?_
 refine wB ?_
 obtain⟨x11,g,hF⟩:=Rx g hF
 refine wK [1,3,4,9,10,11,12,13,14] ?_
 refine wX zCC follows ?_
 obtain⟨x12,g,hF⟩:=Rx g hF
 refine wC hF [.sh,.sh,.sh,.sh] zgp (fun z13 hF=>?_)
 obtain⟨g,hF⟩:=Rg g hF
 refine wK [1,3,4,9,12,13,14] ?_
 exact wi hi9 hi10 (hg7 _) (zaa hF)
def zdw (a0:Int) (a1:List Cipher) (a2:List Cipher) (a3:List Int):Option ((List Int)):=
 ((zap (σ:=(List Int)) (fun i5 s4=>
 (ix a1 i5).bind fun x11=>
 gd ((s4.length+2)*8≤140737488355328∧s4.length+2≤4611686018427387904)<|
 some (.go (s4++[x11.A,x11.B]))) (fun s4=>s4) (a1.length) 0 [a0]:Option ((List Int))).bind fun x3=>
 ((zap (σ:=(List Int)) (fun i20 s19=>
 (ix a2 i20).bind fun x26=>
 gd ((s19.length+2)*8≤140737488355328∧s19.length+2≤4611686018427387904)<|
 some (.go (s19++[x26.A,x26.B]))) (fun s19=>s19) (a2.length) 0 x3:Option ((List Int))).bind fun x18=>
 gd ((x18.length+a3.length)*8≤140737488355328∧x18.length+a3.length≤4611686018427387904)<|
 some (x18++a3)))
theorem zgB:∀{a0}{a1}{a2}{a3}{r},zdw a0 a1 a2 a3=some r→PCalls Tryz.prog 102 [(.sh,.int .i64 a0),(.sh,vH a1),(.sh,vH a2),(.sh,vC a3)] (Eo (vD r) [.junk,.junk,.junk,.junk]):=by
 intro a0 a1 a2 a3 r hr
 apply pF 47 [] [] [] [.tmp 8] hr zDf Tryz.func102
 intro Φ hΦ hF g
 unfold zdw at hF
 iterate 3 (try simp[go_sem,g];try intros;refine zaD ?_)
 refine wJ hF (fun x3=>[(2,.v (vH a2)),(3,.v (vC a3)),(9,.v (vD x3))]) (fun x3 hF=>?_) fun _ hj1 hF=>?_
 ·try simp[go_sem,g]
  try intros
  refine wK [3,9,30,31,32] ?_
  refine wJ hF (fun x18=>[(3,.v (vC a3)),(9,.v (vD x18))]) (fun x18 hF=>?_) fun _ hj16 hF=>?_
  ·obtain⟨g,hF⟩:=Rg g hF
   exact wl hΦ hF
  refine wB ?_
  obtain⟨b27,hb28,hψ23⟩:=hF
  refine pR hb28 (fun i20 s19=>[(3,.v (vC a3)),(9,.v (vD s19)),(30,.v (vH a2)),(31,.v (.int .i64 (a2.length:Int))),(32,.v (.int .i64 i20))]) (fun s19 _ hN29=>?_) (fun i20 s19 _ _ hi24 hi25 ho21 hg22 hF=>?_)
  ·exact wn hN29 (hj16 _) hψ23
  refine wW ?_
  refine wu hi24 hi25 ?_
  refine wW ?_
  refine wB ?_
  obtain⟨x26,g,hF⟩:=Rx g hF
  obtain⟨g,hF⟩:=Rg g hF
  refine wW ?_
  refine wK [3,9,30,31,32] ?_
  exact wi hi24 hi25 (hg22 _) (zaa hF)
 refine wB ?_
 obtain⟨b12,hb13,hψ8⟩:=hF
 refine pR hb13 (fun i5 s4=>[(2,.v (vH a2)),(3,.v (vC a3)),(9,.v (vD s4)),(16,.v (vH a1)),(17,.v (.int .i64 (a1.length:Int))),(18,.v (.int .i64 i5))]) (fun s4 _ hN14=>?_) (fun i5 s4 _ _ hi9 hi10 ho6 hg7 hF=>?_)
 ·exact wn hN14 (hj1 _) hψ8
 refine wW ?_
 refine wu hi9 hi10 ?_
 refine wW ?_
 refine wB ?_
 obtain⟨x11,g,hF⟩:=Rx g hF
 refine wK [2,3,9,11,16,17,18] ?_
 obtain⟨g,hF⟩:=Rg g hF
 refine wW ?_
 exact wi hi9 hi10 (hg7 _) (zaa hF)
@[go_sem] def zzh:List DE:=[d0 0 [1],d1 1 [3] 3,d2 2 [8] 3 8,d1 3 [3] 3,d2 4 [10] 3 10,d1 5 [3] 3,d2 6 [12] 3 12,d0 7 [9,11,13],d0 8 [2],d1 11 [3] 3,d2 12 [18] 3 18,⟨9,[14,15],[],none,true,false,false⟩,d3 10 [7,16],d0 13 [17,19],d0 14 [20]]
def zbD (a0:Group) (a1:ByteArray) (a2:List Int):Option Int:=
 gd (([a0.P,a0.Q,a0.G].length+a2.length)*8≤140737488355328∧[a0.P,a0.Q,a0.G].length+a2.length≤4611686018427387904)<|
 (zec a1 ([a0.P,a0.Q,a0.G]++a2)).bind fun z1=>
 gd (a0.Q≠0)<|
 some (z1.tmod a0.Q)
theorem zew:∀{a0}{a1}{a2}{r},zbD a0 a1 a2=some r→PCalls Tryz.prog 101 [(.sh,vE a0),(.sh,.str a1),(.sh,vC a2)] (Eo (.int .i64 r) [.junk,.junk,.junk]):=by
 intro a0 a1 a2 r hr
 apply pF 21 [] [] [] [.tmp 6] hr zBz Tryz.func101
 intro Φ hΦ hF g
 unfold zbD at hF
 refine wW ?_
 refine wX zzh follows ?_
 obtain⟨g,hF⟩:=Rg g hF
 refine wC hF [.sh,.sh] ziS (fun z1 hF=>?_)
 obtain⟨g,hF⟩:=Rz g hF
 refine wK [6] ?_
 exact wm hΦ hF
def zfA (a0:Group) (a1:List Int) (a2:Int):Option ((List Int)):=
 ((zap (σ:=(List Int)) (fun i5 s4=>
 (ix a1 i5).bind fun x11=>
 (za6 a2 (i64.wrap (x11+1)) a0.Q).bind fun z12=>
 gd ((s4.length+1)*8≤140737488355328∧s4.length+1≤4611686018427387904)<|
 some (.go (s4++[z12]))) (fun s4=>s4) (a1.length) 0 []:Option ((List Int))).bind fun x3=>
 some x3)
theorem zoj:∀{a0}{a1}{a2}{r},zfA a0 a1 a2=some r→PCalls Tryz.prog 100 [(.sh,vE a0),(.sh,vC a1),(.sh,.int .i64 a2)] (Eo (vD r) [.junk,.junk,.junk]):=by
 intro a0 a1 a2 r hr
 apply pF 27 [] [] [] [.tmp 6] hr zBE Tryz.func100
 intro Φ hΦ hF g
 unfold zfA at hF
 iterate 3 (try simp[go_sem,g];try intros;refine zaD ?_)
 refine wJ hF (fun x3=>[(7,.v (vD x3))]) (fun x3 hF=>?_) fun _ hj1 hF=>?_
 ·exact wl hΦ hF
 refine wB ?_
 obtain⟨b13,hb14,hψ8⟩:=hF
 refine pR hb14 (fun i5 s4=>[(2,.v (.int .i64 a2)),(3,.bl [.int .i64 a0.P,.int .i64 a0.Q,.int .i64 a0.G]),(7,.v (vD s4)),(10,.v (vC a1)),(11,.v (.int .i64 (a1.length:Int))),(12,.v (.int .i64 i5))]) (fun s4 _ hN15=>?_) (fun i5 s4 _ _ hi9 hi10 ho6 hg7 hF=>?_)
 ·exact wn hN15 (hj1 _) hψ8
 refine wW ?_
 refine wu hi9 hi10 ?_
 refine wW ?_
 refine wB ?_
 obtain⟨x11,g,hF⟩:=Rx g hF
 refine wK [2,3,7,9,10,11,12] ?_
 refine wC hF [.sh,.sh,.sh] zdX (fun z12 hF=>?_)
 obtain⟨g,hF⟩:=Rg g hF
 refine wK [2,3,7,10,11,12] ?_
 exact wi hi9 hi10 (hg7 _) (zaa hF)
@[go_sem] def zzQ:List DE:=[d2 0 [6] 6 6,d0 1 [14],d2 3 [6] 6 6,d0 4 [14],d3 2 [22,23],d3 5 [25,26],d0 6 [24],d0 7 [27]]
def zdA (a0:Group) (a1:Int) (a2:List Cipher) (a3:List Cipher) (a4:List Int) (a5:List Int):Option (Int×Int):=
 (zdw a1 a2 a3 a4).bind fun z1=>
 gd ((z1.length+a5.length)*8≤140737488355328∧z1.length+a5.length≤4611686018427387904)<|
 (zbD a0 (⟨#[109,105,120,32,121]⟩:ByteArray) (z1++a5)).bind fun z2=>
 (zbD a0 (⟨#[109,105,120,32,122]⟩:ByteArray) (z1++a5)).bind fun z3=>
 some (z2,z3)
theorem zj0:∀{a0}{a1}{a2}{a3}{a4}{a5}{r},zdA a0 a1 a2 a3 a4 a5=some r→PCalls Tryz.prog 104 [(.sh,vE a0),(.sh,.int .i64 a1),(.sh,vH a2),(.sh,vH a3),(.sh,vC a4),(.sh,vC a5)] (Eo (.tup [.int .i64 r.1,.int .i64 r.2]) [.junk,.junk,.junk,.junk,.junk,.junk]):=by
 intro a0 a1 a2 a3 a4 a5 r hr
 apply pF 28 [] [] [] [.tmp 12,.tmp 13] hr zCi Tryz.func104
 intro Φ hΦ hF g
 unfold zdA at hF
 refine wW ?_
 refine wC hF [.sh,.sh,.sh,.sh] zgB (fun z1 hF=>?_)
 obtain⟨g,hF⟩:=Rg g hF
 refine wK [6,14] ?_
 refine wX zzQ follows ?_
 refine wC hF [.sh,.sh,.sh] zew (fun z2 hF=>?_)
 refine wC hF [.sh,.sh,.sh] zew (fun z3 hF=>?_)
 exact wl hΦ hF
def zeu (a0:List Cipher):Option (List Int×List Int):=
 ((zap (σ:=(List Int)×List Int) (fun i5 s4=>
 (ix a0 i5).bind fun x11=>
 gd ((s4.1.length+1)*8≤140737488355328∧s4.1.length+1≤4611686018427387904)<|
 gd ((s4.2.length+1)*8≤140737488355328∧s4.2.length+1≤4611686018427387904)<|
 some (.go (s4.1++[x11.A],s4.2++[x11.B]))) (fun s4=>(s4.1,s4.2)) (a0.length) 0 ([],[]):Option ((List Int×List Int))).bind fun x3=>
 some (x3.1,x3.2))
theorem zig:∀{a0}{r},zeu a0=some r→PCalls Tryz.prog 106 [(.sh,vH a0)] (Eo (.tup [vD r.1,vD r.2]) [.junk]):=by
 intro a0 r hr
 apply pF 27 [] [] [] [.tmp 2,.tmp 3] hr zDJ Tryz.func106
 intro Φ hΦ hF g
 unfold zeu at hF
 iterate 3 (try simp[go_sem,g];try intros;refine zaD ?_)
 refine wJ hF (fun x3=>[(4,.v (vD x3.1)),(5,.v (vD x3.2))]) (fun x3 hF=>?_) fun _ hj1 hF=>?_
 ·refine wK [2,3] ?_
  exact wm hΦ hF
 refine wB ?_
 obtain⟨b12,hb13,hψ8⟩:=hF
 refine pR hb13 (fun i5 s4=>[(4,.v (vD s4.1)),(5,.v (vD s4.2)),(8,.v (vH a0)),(9,.v (.int .i64 (a0.length:Int))),(10,.v (.int .i64 i5))]) (fun s4 _ hN14=>?_) (fun i5 s4 _ _ hi9 hi10 ho6 hg7 hF=>?_)
 ·exact wn hN14 (hj1 _) hψ8
 refine wW ?_
 refine wu hi9 hi10 ?_
 refine wW ?_
 refine wB ?_
 obtain⟨x11,g,hF⟩:=Rx g hF
 refine wK [4,5,7,8,9,10] ?_
 obtain⟨g,hF⟩:=Rg g hF
 obtain⟨g,hF⟩:=Rg g hF
 refine wW ?_
 refine wK [4,5,8,9,10] ?_
 exact wi hi9 hi10 (hg7 _) (zaa hF)
@[go_sem] def zx6:List DE:=[d0 0 [7],d2 1 [3] 3 3,d0 2 [9],d0 3 [2],d0 4 [8],d0 5 [20,21],d0 6 [22],d1 9 [3] 3,d2 10 [26] 3 26,d3 7 [18,19,23],d0 8 [17,24],d0 11 [25,27],d0 12 [28]]
def zdk (a0:Group) (a1:List Int) (a2:List Int):Option Int:=
 ((zap (σ:=Int) (fun i5 s4=>
 (ix a1 i5).bind fun x11=>
 (ix a2 i5).bind fun x12=>
 (zat a0 x11 x12).bind fun z13=>
 gd (a0.P≠0)<|
 some (.go ((i64.wrap (s4*z13)).tmod a0.P))) (fun s4=>s4) (a1.length) 0 1:Option Int).bind fun x3=>
 some x3)
theorem zfq:∀{a0}{a1}{a2}{r},zdk a0 a1 a2=some r→PCalls Tryz.prog 108 [(.sh,vE a0),(.sh,vC a1),(.sh,vC a2)] (Eo (.int .i64 r) [.junk,.junk,.junk]):=by
 intro a0 a1 a2 r hr
 apply pF 31 [] [] [] [.tmp 6] hr zA4 Tryz.func108
 intro Φ hΦ hF g
 unfold zdk at hF
 iterate 3 (try simp[go_sem,g];try intros;refine zaD ?_)
 refine wJ hF (fun x3=>[(7,.v (.int .i64 x3))]) (fun x3 hF=>?_) fun _ hj1 hF=>?_
 ·exact wl hΦ hF
 refine wB ?_
 obtain⟨b14,hb15,hψ8⟩:=hF
 refine pR hb15 (fun i5 s4=>[(2,.v (vC a2)),(3,.bl [.int .i64 a0.P,.int .i64 a0.Q,.int .i64 a0.G]),(7,.v (.int .i64 s4)),(10,.v (vC a1)),(11,.v (.int .i64 (a1.length:Int))),(12,.v (.int .i64 i5))]) (fun s4 _ hN16=>?_) (fun i5 s4 _ _ hi9 hi10 ho6 hg7 hF=>?_)
 ·exact wn hN16 (hj1 _) hψ8
 refine wW ?_
 refine wu hi9 hi10 ?_
 refine wW ?_
 refine wB ?_
 obtain⟨x11,g,hF⟩:=Rx g hF
 refine wK [2,3,7,8,9,10,11,12] ?_
 refine wX zx6 follows ?_
 obtain⟨x12,g,hF⟩:=Rx g hF
 refine wC hF [.sh,.sh,.sh] zbb (fun z13 hF=>?_)
 obtain⟨g,hF⟩:=Rz g hF
 refine wK [2,3,7,10,11,12] ?_
 exact wi hi9 hi10 (hg7 _) (zaa hF)
@[go_sem] def zzG:List DE:=[d0 0 [1],d0 1 [2],d0 2 [3],d1 3 [9] 9,d2 4 [15] 9 15,d1 6 [9] 9,d2 7 [18] 9 18,d3 5 [12,13,14,16],d0 8 [17,19],d0 9 [20]]
@[go_sem] def zx5:List DE:=[d0 0 [11],d1 1 [9] 9,d2 2 [22] 9 22,d1 4 [9] 9,d1 5 [25] 9,d2 6 [26] 9 26,d0 3 [21,23],d0 7 [24,27],d0 8 [28]]
def zeH (a0:Group) (a1:Int) (a2:List Cipher) (a3:List Cipher) (a4:PolyProof):Option Int:=
 (zdw a1 a2 a3 a4.Places).bind fun z1=>
 gd ((z1.length+a4.Powers.length)*8≤140737488355328∧z1.length+a4.Powers.length≤4611686018427387904)<|
 gd (((z1++a4.Powers).length+a4.Chain.length)*8≤140737488355328∧(z1++a4.Powers).length+a4.Chain.length≤4611686018427387904)<|
 gd (((z1++a4.Powers++a4.Chain).length+a4.Pi.Commits.length)*8≤140737488355328∧(z1++a4.Powers++a4.Chain).length+a4.Pi.Commits.length≤4611686018427387904)<|
 (zbD a0 (⟨#[109,105,120,32,101,110,100]⟩:ByteArray) (z1++a4.Powers++a4.Chain++a4.Pi.Commits)).bind fun z2=>
 some z2
theorem zms:∀{a0}{a1}{a2}{a3}{a4}{r},zeH a0 a1 a2 a3 a4=some r→PCalls Tryz.prog 109 [(.sh,vE a0),(.sh,.int .i64 a1),(.sh,vH a2),(.sh,vH a3),(.sh,vL a4)] (Eo (.int .i64 r) [.junk,.junk,.junk,.junk,.junk]):=by
 intro a0 a1 a2 a3 a4 r hr
 apply pF 32 [] [] [] [.tmp 10] hr zAP Tryz.func109
 intro Φ hΦ hF g
 unfold zeH at hF
 refine wW ?_
 refine wX zzG follows ?_
 refine wC hF [.sh,.sh,.sh,.sh] zgB (fun z1 hF=>?_)
 obtain⟨g,hF⟩:=Rg g hF
 refine wK [5,9,11] ?_
 refine wX zx5 follows ?_
 obtain⟨g,hF⟩:=Rg g hF
 obtain⟨g,hF⟩:=Rg g hF
 refine wW ?_
 refine wC hF [.sh,.sh,.sh] zew (fun z2 hF=>?_)
 refine wK [10] ?_
 exact wm hΦ hF
def zf6 (a0:List Int) (a1:List Int) (a2:Int):Option Int:=
 ((zap (σ:=Int) (fun i5 s4=>
 (ix a0 i5).bind fun x11=>
 (ix a1 i5).bind fun x12=>
 gd (a2≠0)<|
 some (.go ((i64.wrap (s4+(i64.wrap (x11*x12)))).tmod a2))) (fun s4=>s4) (a0.length) 0 0:Option Int).bind fun x3=>
 some x3)
theorem zqX:∀{a0}{a1}{a2}{r},zf6 a0 a1 a2=some r→PCalls Tryz.prog 110 [(.sh,vC a0),(.sh,vC a1),(.sh,.int .i64 a2)] (Eo (.int .i64 r) [.junk,.junk,.junk]):=by
 intro a0 a1 a2 r hr
 apply pF 29 [] [] [] [.tmp 6] hr zDo Tryz.func110
 intro Φ hΦ hF g
 unfold zf6 at hF
 iterate 3 (try simp[go_sem,g];try intros;refine zaD ?_)
 refine wJ hF (fun x3=>[(7,.v (.int .i64 x3))]) (fun x3 hF=>?_) fun _ hj1 hF=>?_
 ·exact wl hΦ hF
 refine wB ?_
 obtain⟨b13,hb14,hψ8⟩:=hF
 refine pR hb14 (fun i5 s4=>[(1,.v (vC a1)),(2,.v (.int .i64 a2)),(7,.v (.int .i64 s4)),(10,.v (vC a0)),(11,.v (.int .i64 (a0.length:Int))),(12,.v (.int .i64 i5))]) (fun s4 _ hN15=>?_) (fun i5 s4 _ _ hi9 hi10 ho6 hg7 hF=>?_)
 ·exact wn hN15 (hj1 _) hψ8
 refine wW ?_
 refine wu hi9 hi10 ?_
 refine wW ?_
 refine wB ?_
 obtain⟨x11,g,hF⟩:=Rx g hF
 refine wK [1,2,7,8,9,10,11,12] ?_
 obtain⟨x12,g,hF⟩:=Rx g hF
 obtain⟨g,hF⟩:=Rz g hF
 refine wK [1,2,7,10,11,12] ?_
 exact wi hi9 hi10 (hg7 _) (zaa hF)
@[go_sem] def zxR:List DE:=[d1 0 [28] 28,d2 1 [144] 28 144,d2 2 [7] 7 7,d0 3 [2],d0 4 [29],d0 5 [30],d0 6 [148,149],d0 7 [150],d0 8 [19],d0 9 [30],d0 10 [152,153],d0 11 [154],d3 12 [146,147,151,155],d0 13 [156],⟨14,[145,157],[],none,true,false,false⟩,d1 15 [28] 28,d2 16 [159,158] 28 159]
@[go_sem] def zya:List DE:=[d0 0 [31],d0 1 [38],d0 2 [181],d0 3 [16],d0 4 [182,183],d0 5 [180,184],d0 6 [29],d0 7 [37],d0 8 [186,187],d0 9 [188],d0 10 [185,189],d0 11 [32],d0 12 [190,191],d0 13 [16],d3 14 [192,193],d0 15 [194]]
@[go_sem] def zzb:List DE:=[d1 0 [28] 28,d2 1 [204] 28 204,d2 2 [7] 7 7,d0 3 [2],d0 4 [35],d0 5 [20],d0 6 [37],d0 7 [209,210],d0 8 [211],d3 9 [206,207,208,212],d0 10 [213],⟨11,[205,214],[],none,true,false,false⟩,d1 12 [28] 28,d2 13 [216,215] 28 216]
@[go_sem] def zx9:List DE:=[d1 0 [28] 28,d1 1 [245] 28,d2 2 [246] 28 246,d2 3 [7] 7 7,d0 4 [2],d0 5 [21],d0 6 [42],d0 7 [250,251],d0 8 [252],d0 9 [22],d0 10 [42],d0 11 [254,255],d0 12 [256],d3 13 [248,249,253,257],d0 14 [258],⟨15,[247,259],[],none,true,false,false⟩,d1 16 [28] 28,d1 17 [261] 28,d2 18 [262,260] 28 262]
@[go_sem] def zym:List DE:=[d1 0 [28] 28,d1 1 [271] 28,d2 2 [272] 28 272,d2 3 [7] 7 7,d2 4 [7] 7 7,d0 5 [43],d0 6 [21],d0 7 [44],d0 8 [277,278],d0 9 [279],d2 11 [7] 7 7,d0 12 [2],d0 13 [23],d0 14 [44],d0 15 [284,285],d0 16 [286],⟨10,[275,276,280],[],none,false,true,false⟩,d3 17 [282,283,287],d0 18 [281,288],⟨19,[274,289],[],none,true,true,true⟩,d0 20 [290],⟨21,[273,291],[],none,true,false,false⟩,d1 22 [28] 28,d1 23 [293] 28,d2 24 [294,292] 28 294]
@[go_sem] def zBA:List DE:=[d0 0 [6],d0 1 [15],d0 2 [63,64],d0 3 [6],d0 4 [15],d0 5 [15],d0 6 [68],d0 7 [66,67,69],d0 8 [6],d0 9 [15],d0 10 [72],d0 11 [15],d0 12 [74],d0 13 [71,73,75],d0 14 [65],d0 15 [70],d0 16 [76]]
@[go_sem] def zz5:List DE:=[d1 0 [28] 28,d1 1 [301] 28,d2 2 [302] 28 302,d2 3 [7] 7 7,d0 4 [2],d0 5 [24],d3 6 [304,305,306],d0 7 [307],⟨8,[303,308],[],none,true,false,false⟩,d1 9 [28] 28,d1 10 [310] 28,d2 11 [311,309] 28 311]
@[go_sem] def zAe:List DE:=[d1 0 [28] 28,d1 1 [317] 28,d2 2 [318] 28 318,d2 3 [7] 7 7,d0 4 [2],d0 5 [25],d0 6 [45],d0 7 [322,323],d0 8 [324],d0 9 [26],d0 10 [45],d0 11 [326,327],d0 12 [328],d3 13 [320,321,325,329],d0 14 [330],⟨15,[319,331],[],none,true,false,false⟩,d1 16 [28] 28,d1 17 [333] 28,d2 18 [334,332] 28 334]
@[go_sem] def zyJ:List DE:=[d1 0 [28] 28,d1 1 [336] 28,d2 2 [337] 28 337,d2 3 [7] 7 7,d2 4 [7] 7 7,d1 5 [7] 7,d2 6 [341] 7 341,d0 7 [27],d0 8 [343],d2 10 [7] 7 7,d0 11 [40],d0 12 [25],d2 16 [7] 7 7,d2 17 [7] 7 7,d0 18 [1],d0 19 [27],d0 20 [355],d2 22 [7] 7 7,d0 23 [41],d0 24 [25],d3 9 [340,342,344],d3 13 [346,347,348],d0 14 [345,349],⟨15,[339,350],[],none,true,true,true⟩,d3 21 [353,354,356],d3 25 [358,359,360],d0 26 [357,361],⟨27,[352,362],[],none,true,true,true⟩,d0 28 [351,363],⟨29,[338,364],[],none,true,false,false⟩,d1 30 [28] 28,d1 31 [366] 28,d2 32 [367,365] 28 367]
end
end Go.Pm
