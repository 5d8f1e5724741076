/-
  Plain functions and their walks. Written by wip/tools/lift.py.
-/
import Derived.Test.YtekoabfndgochaaGreatDoorIt
namespace Go.Pm
open Go.Am IntKind
open Go.Proofs
set_option maxRecDepth 100000
attribute [local irreducible] pw pwx pw1 pwg qv qz qf
attribute [-simp] List.map_set
set_option linter.unusedSimpArgs false
set_option linter.unusedVariables false
noncomputable section
structure Group where
 P:Int
 Q:Int
 G:Int
structure Contest where
 Kind:Int
 Options:Int
 Least:Int
 Most:Int
 Points:Int
structure Session where
 Voter:Int
 Vote:(List Int)
 Coins:(List Int)
 Receipt:Int
 Cast:Bool
structure l1Cur where
 code:(List Int)
 at_:Int
 seed:Int
structure Cipher where
 A:Int
 B:Int
structure Proof where
 Commits:(List Int)
 Challenges:(List Int)
 Responses:(List Int)
structure Sealed where
 Voter:Int
 Ciphers:(List Cipher)
 Proofs:(List Proof)
 Sum:Proof
structure l3State where
 s:Int
 t:Int
structure EqualLog where
 G1:Int
 Y1:Int
 G2:Int
 Y2:Int
def zfM (x:Int):List PV:=[.int .u8 x]
@[go_sem] theorem zFy {x:Int}:zfM x=[.int .u8 x]:=(rfl)
@[go_sem] theorem zrU {l:List Int}:List.map (List.map drop∘zfM) l=l.map zfM:=by refine List.map_congr_left fun x _=>?_;simp[go_sem]
@[go_sem] theorem zAW {l:List Int}:List.map (List.map drop) (l.map zfM)=l.map zfM:=by rw[List.map_map];exact zrU
@[go_sem] theorem zCP {l:List Int}{i:Nat}{a:Int}:(l.map zfM).set i [.int .u8 a]=(l.set i a).map zfM:=by rw[List.map_set];rfl
def zaj (x:Int):List PV:=[.int .i64 x]
@[go_sem] theorem zEn {x:Int}:zaj x=[.int .i64 x]:=(rfl)
@[go_sem] theorem zqu {l:List Int}:List.map (List.map drop∘zaj) l=l.map zaj:=by refine List.map_congr_left fun x _=>?_;simp[go_sem]
@[go_sem] theorem zzp {l:List Int}:List.map (List.map drop) (l.map zaj)=l.map zaj:=by rw[List.map_map];exact zqu
@[go_sem] theorem zBE {l:List Int}{i:Nat}{a:Int}:(l.map zaj).set i [.int .i64 a]=(l.set i a).map zaj:=by rw[List.map_set];rfl
def zd2 (x:List Int):List PV:=[.sl false 1 (x.map zaj)]
@[go_sem] theorem zBP {x:(List Int)}:zd2 x=[.sl false 1 (x.map zaj)]:=(rfl)
@[go_sem] theorem zpJ {l:List (List Int)}:List.map (List.map drop∘zd2) l=l.map zd2:=by refine List.map_congr_left fun x _=>?_;simp[go_sem]
@[go_sem] theorem zyq {l:List (List Int)}:List.map (List.map drop) (l.map zd2)=l.map zd2:=by rw[List.map_map];exact zpJ
@[go_sem] theorem zBh {l:List (List Int)}{i:Nat}{a:(List Int)}:(l.map zd2).set i [.sl false 1 (a.map zaj)]=(l.set i a).map zd2:=by rw[List.map_set];rfl
def zcJ (x:EqualLog):List PV:=[.int .i64 x.G1,.int .i64 x.Y1,.int .i64 x.G2,.int .i64 x.Y2]
@[go_sem] theorem zxJ {x:EqualLog}:zcJ x=[.int .i64 x.G1,.int .i64 x.Y1,.int .i64 x.G2,.int .i64 x.Y2]:=(rfl)
@[go_sem] theorem zmY {l:List EqualLog}:List.map (List.map drop∘zcJ) l=l.map zcJ:=by refine List.map_congr_left fun x _=>?_;simp[go_sem]
@[go_sem] theorem zu2 {l:List EqualLog}:List.map (List.map drop) (l.map zcJ)=l.map zcJ:=by rw[List.map_map];exact zmY
@[go_sem] theorem zxG {l:List EqualLog}{i:Nat}{G1:Int}{Y1:Int}{G2:Int}{Y2:Int}:(l.map zcJ).set i [.int .i64 G1,.int .i64 Y1,.int .i64 G2,.int .i64 Y2]=(l.set i (EqualLog.mk G1 Y1 G2 Y2)).map zcJ:=by rw[List.map_set];rfl
def zb8 (x:Cipher):List PV:=[.int .i64 x.A,.int .i64 x.B]
@[go_sem] theorem zzr {x:Cipher}:zb8 x=[.int .i64 x.A,.int .i64 x.B]:=(rfl)
@[go_sem] theorem zoI {l:List Cipher}:List.map (List.map drop∘zb8) l=l.map zb8:=by refine List.map_congr_left fun x _=>?_;simp[go_sem]
@[go_sem] theorem zxx {l:List Cipher}:List.map (List.map drop) (l.map zb8)=l.map zb8:=by rw[List.map_map];exact zoI
@[go_sem] theorem zzf {l:List Cipher}{i:Nat}{A:Int}{B:Int}:(l.map zb8).set i [.int .i64 A,.int .i64 B]=(l.set i (Cipher.mk A B)).map zb8:=by rw[List.map_set];rfl
def za1 (x:Proof):List PV:=[.sl false 1 (x.Commits.map zaj),.sl false 1 (x.Challenges.map zaj),.sl false 1 (x.Responses.map zaj)]
@[go_sem] theorem zwF {x:Proof}:za1 x=[.sl false 1 (x.Commits.map zaj),.sl false 1 (x.Challenges.map zaj),.sl false 1 (x.Responses.map zaj)]:=(rfl)
@[go_sem] theorem zmm {l:List Proof}:List.map (List.map drop∘za1) l=l.map za1:=by refine List.map_congr_left fun x _=>?_;simp[go_sem]
@[go_sem] theorem zuP {l:List Proof}:List.map (List.map drop) (l.map za1)=l.map za1:=by rw[List.map_map];exact zmm
@[go_sem] theorem zww {l:List Proof}{i:Nat}{Commits:(List Int)}{Challenges:(List Int)}{Responses:(List Int)}:(l.map za1).set i [.sl false 1 (Commits.map zaj),.sl false 1 (Challenges.map zaj),.sl false 1 (Responses.map zaj)]=(l.set i (Proof.mk Commits Challenges Responses)).map za1:=by rw[List.map_set];rfl
def zdb (x:Proof):List PV:=[.sl true 1 (x.Commits.map zaj),.sl true 1 (x.Challenges.map zaj),.sl true 1 (x.Responses.map zaj)]
@[go_sem] theorem zxC {x:Proof}:zdb x=[.sl true 1 (x.Commits.map zaj),.sl true 1 (x.Challenges.map zaj),.sl true 1 (x.Responses.map zaj)]:=(rfl)
@[go_sem] theorem zlU {l:List Proof}:List.map (List.map drop∘zdb) l=l.map za1:=by refine List.map_congr_left fun x _=>?_;simp[go_sem]
@[go_sem] theorem zuQ {l:List Proof}:List.map (List.map drop) (l.map zdb)=l.map za1:=by rw[List.map_map];exact zlU
@[go_sem] theorem zwv {l:List Proof}{i:Nat}{Commits:(List Int)}{Challenges:(List Int)}{Responses:(List Int)}:(l.map zdb).set i [.sl true 1 (Commits.map zaj),.sl true 1 (Challenges.map zaj),.sl true 1 (Responses.map zaj)]=(l.set i (Proof.mk Commits Challenges Responses)).map zdb:=by rw[List.map_set];rfl
def zhc (x:List Int):List PV:=[.sl true 1 (x.map zaj)]
@[go_sem] theorem zBG {x:(List Int)}:zhc x=[.sl true 1 (x.map zaj)]:=(rfl)
@[go_sem] theorem zpP {l:List (List Int)}:List.map (List.map drop∘zhc) l=l.map zd2:=by refine List.map_congr_left fun x _=>?_;simp[go_sem]
@[go_sem] theorem zyj {l:List (List Int)}:List.map (List.map drop) (l.map zhc)=l.map zd2:=by rw[List.map_map];exact zpP
@[go_sem] theorem zAD {l:List (List Int)}{i:Nat}{a:(List Int)}:(l.map zhc).set i [.sl true 1 (a.map zaj)]=(l.set i a).map zhc:=by rw[List.map_set];rfl
def vA (x:List Int):PV:=.sl false 1 (x.map zfM)
@[go_sem] theorem zR0 {x:(List Int)}:vA x=.sl false 1 (x.map zfM):=(rfl)
def vB (x0:List Int) (x1:Int) (x2:Int):PV:=.bx [.sl false 1 (x0.map zfM),.int .i64 x1,.int .u64 x2]
@[go_sem] theorem zR9 {x0:(List Int)}{x1:Int}{x2:Int}:vB x0 x1 x2=.bx [.sl false 1 (x0.map zfM),.int .i64 x1,.int .u64 x2]:=(rfl)
def vC (x:List Int):PV:=.sl false 1 (x.map zaj)
@[go_sem] theorem zRi {x:(List Int)}:vC x=.sl false 1 (x.map zaj):=(rfl)
def vD (x:List Int):PV:=.sl true 1 (x.map zaj)
@[go_sem] theorem zQp {x:(List Int)}:vD x=.sl true 1 (x.map zaj):=(rfl)
def vE (x:Group):PV:=.agg [.int .i64 x.P,.int .i64 x.Q,.int .i64 x.G]
@[go_sem] theorem zRc {x:Group}:vE x=.agg [.int .i64 x.P,.int .i64 x.Q,.int .i64 x.G]:=(rfl)
def vF (x:Contest):PV:=.agg [.int .i64 x.Kind,.int .i64 x.Options,.int .i64 x.Least,.int .i64 x.Most,.int .i64 x.Points]
@[go_sem] theorem zRI {x:Contest}:vF x=.agg [.int .i64 x.Kind,.int .i64 x.Options,.int .i64 x.Least,.int .i64 x.Most,.int .i64 x.Points]:=(rfl)
def vG (x:Cipher):PV:=.agg [.int .i64 x.A,.int .i64 x.B]
@[go_sem] theorem zRD {x:Cipher}:vG x=.agg [.int .i64 x.A,.int .i64 x.B]:=(rfl)
def vH (x:(List (List Int))):PV:=.sl false 1 (x.map zd2)
@[go_sem] theorem zSg {x:(List (List Int))}:vH x=.sl false 1 (x.map zd2):=(rfl)
def vI (x0:Int) (x1:Int):PV:=.bx [.int .i64 x0,.int .i64 x1]
@[go_sem] theorem zQt {x0:Int}{x1:Int}:vI x0 x1=.bx [.int .i64 x0,.int .i64 x1]:=(rfl)
def vJ (x:Proof):PV:=.agg [.sl true 1 (x.Commits.map zaj),.sl true 1 (x.Challenges.map zaj),.sl true 1 (x.Responses.map zaj)]
@[go_sem] theorem zQV {x:Proof}:vJ x=.agg [.sl true 1 (x.Commits.map zaj),.sl true 1 (x.Challenges.map zaj),.sl true 1 (x.Responses.map zaj)]:=(rfl)
def vK (x:List EqualLog):PV:=.sl true 4 (x.map zcJ)
@[go_sem] theorem zRJ {x:(List EqualLog)}:vK x=.sl true 4 (x.map zcJ):=(rfl)
def vL (x:List EqualLog):PV:=.sl false 4 (x.map zcJ)
@[go_sem] theorem zRs {x:(List EqualLog)}:vL x=.sl false 4 (x.map zcJ):=(rfl)
def vM (x:List Cipher):PV:=.sl true 2 (x.map zb8)
@[go_sem] theorem zQn {x:(List Cipher)}:vM x=.sl true 2 (x.map zb8):=(rfl)
def vN (x:List Proof):PV:=.sl true 3 (x.map zdb)
@[go_sem] theorem zQX {x:(List Proof)}:vN x=.sl true 3 (x.map zdb):=(rfl)
def vO (x:List Cipher):PV:=.sl false 2 (x.map zb8)
@[go_sem] theorem zQm {x:(List Cipher)}:vO x=.sl false 2 (x.map zb8):=(rfl)
def vP (x:Sealed):PV:=.agg [.int .i64 x.Voter,.sl true 2 (x.Ciphers.map zb8),.sl true 3 (x.Proofs.map zdb),.sl true 1 (x.Sum.Commits.map zaj),.sl true 1 (x.Sum.Challenges.map zaj),.sl true 1 (x.Sum.Responses.map zaj)]
@[go_sem] theorem zRE {x:Sealed}:vP x=.agg [.int .i64 x.Voter,.sl true 2 (x.Ciphers.map zb8),.sl true 3 (x.Proofs.map zdb),.sl true 1 (x.Sum.Commits.map zaj),.sl true 1 (x.Sum.Challenges.map zaj),.sl true 1 (x.Sum.Responses.map zaj)]:=(rfl)
def vQ (x:Proof):PV:=.agg [.sl false 1 (x.Commits.map zaj),.sl false 1 (x.Challenges.map zaj),.sl false 1 (x.Responses.map zaj)]
@[go_sem] theorem zQW {x:Proof}:vQ x=.agg [.sl false 1 (x.Commits.map zaj),.sl false 1 (x.Challenges.map zaj),.sl false 1 (x.Responses.map zaj)]:=(rfl)
def vR (x:List Proof):PV:=.sl false 3 (x.map za1)
@[go_sem] theorem zSj {x:(List Proof)}:vR x=.sl false 3 (x.map za1):=(rfl)
def vS (x:(List (List Int))):PV:=.sl true 1 (x.map zhc)
@[go_sem] theorem zRa {x:(List (List Int))}:vS x=.sl true 1 (x.map zhc):=(rfl)
def vT (x:Sealed):PV:=.agg [.int .i64 x.Voter,.sl false 2 (x.Ciphers.map zb8),.sl false 3 (x.Proofs.map za1),.sl false 1 (x.Sum.Commits.map zaj),.sl false 1 (x.Sum.Challenges.map zaj),.sl false 1 (x.Sum.Responses.map zaj)]
@[go_sem] theorem zQs {x:Sealed}:vT x=.agg [.int .i64 x.Voter,.sl false 2 (x.Ciphers.map zb8),.sl false 3 (x.Proofs.map za1),.sl false 1 (x.Sum.Commits.map zaj),.sl false 1 (x.Sum.Challenges.map zaj),.sl false 1 (x.Sum.Responses.map zaj)]:=(rfl)
def vU (x:Session):PV:=.agg [.int .i64 x.Voter,.sl true 1 (x.Vote.map zaj),.sl false 1 (x.Coins.map zaj),.int .i64 x.Receipt,.bool x.Cast]
@[go_sem] theorem zQA {x:Session}:vU x=.agg [.int .i64 x.Voter,.sl true 1 (x.Vote.map zaj),.sl false 1 (x.Coins.map zaj),.int .i64 x.Receipt,.bool x.Cast]:=(rfl)
def vV (x:EqualLog):PV:=.agg [.int .i64 x.G1,.int .i64 x.Y1,.int .i64 x.G2,.int .i64 x.Y2]
@[go_sem] theorem zQR {x:EqualLog}:vV x=.agg [.int .i64 x.G1,.int .i64 x.Y1,.int .i64 x.G2,.int .i64 x.Y2]:=(rfl)
def vW (x:List Proof):PV:=.sl true 3 (x.map za1)
@[go_sem] theorem zQE {x:(List Proof)}:vW x=.sl true 3 (x.map za1):=(rfl)
def vX (x:(List (List Int))):PV:=.sl true 1 (x.map zd2)
@[go_sem] theorem zRv {x:(List (List Int))}:vX x=.sl true 1 (x.map zd2):=(rfl)
def vY (x:Session):PV:=.agg [.int .i64 x.Voter,.sl false 1 (x.Vote.map zaj),.sl false 1 (x.Coins.map zaj),.int .i64 x.Receipt,.bool x.Cast]
@[go_sem] theorem zRL {x:Session}:vY x=.agg [.int .i64 x.Voter,.sl false 1 (x.Vote.map zaj),.sl false 1 (x.Coins.map zaj),.int .i64 x.Receipt,.bool x.Cast]:=(rfl)
def zi6 (a0:List Int) (a1:List Int):Option Bool:=
 ((if decide (1048576<(a0.length:Int))=true then(
 some true)else(
 some (decide ((i64.wrap (1048576-(a0.length:Int)))<(a1.length:Int)))):Option Bool).bind fun x3=>
 some x3)
theorem zus:∀{a0}{a1}{r},zi6 a0 a1=some r→PCalls Tryz.prog 5 [(.sh,vA a0),(.sh,vA a1)] (Eo (.bool r) [.junk,.junk]):=by
 intro a0 a1 r hr
 apply pF 16 [] [] [] [.tmp 4] hr cl5 Tryz.func5
 intro Φ hΦ hF g
 unfold zi6 at hF
 refine wW ?_
 refine wJ hF (fun x3=>[(4,.v (.bool x3))]) (fun x3 hF=>?_) fun _ hj1 hF=>?_
 ·exact wm hΦ hF
 try simp[go_sem,g]
 try intros
 refine wG hF (fun h4 hF=>?_) fun h4 hF=>?_
 ·exact wV h4 (hj1 _) (zaa hF)
 try simp[go_sem,g,h4]
 try intros
 exact wT (hj1 _) (zaa hF)
@[go_sem] def zAc:List DE:=[d0 0 [0],d0 1 [4],d0 2 [5],d0 3 [6],d0 4 [0],d0 5 [8],d0 6 [9],d0 7 [10],d0 8 [11],d0 9 [7,12]]
@[go_sem] def zBi:List DE:=[d0 0 [0],d0 1 [14],d0 2 [15],d0 3 [16],d0 4 [0],d0 5 [18],d0 6 [19],d0 7 [20],d0 8 [17,21],d0 9 [22],d0 10 [23],d0 11 [24]]
@[go_sem] def zAf:List DE:=[d0 0 [0],d0 1 [44],d0 2 [45],d0 3 [46],d0 4 [0],d0 5 [48],d0 6 [49],d0 7 [50],d0 8 [51],d0 9 [47,52]]
def zco (a0c0:List Int) (a0c1:Int) (a0c2:Int):Option (Int×(List Int×Int×Int)):=
 ((if decide (a0c1<(a0c0.length:Int))=true then(
 (ix a0c0 a0c1).bind fun x5=>
 some (i64.wrap x5))else(
 some 0):Option Int).bind fun x3=>
 if decide ((i64.wrap (a0c1+1))≤(a0c0.length:Int))=true then(
 some (x3,(a0c0,i64.wrap (a0c1+1),u64.wrap ((u64.wrap ((u64.wrap (a0c2*6364136223846793005))+(u64.wrap x3)))+1442695040888963407))))else(
 some (i64.wrap (u64.wrap ((BitVec.ofInt u64.bits ((u64.wrap ((u64.wrap ((u64.wrap (a0c2*6364136223846793005))+(u64.wrap x3)))+1442695040888963407)).fdiv 1099511627776)&&&BitVec.ofInt u64.bits 255).toNat)),(a0c0,i64.wrap (a0c1+1),u64.wrap ((u64.wrap ((u64.wrap (a0c2*6364136223846793005))+(u64.wrap x3)))+1442695040888963407)))))
theorem zg6:∀{a0c0}{a0c1}{a0c2}{r},zco a0c0 a0c1 a0c2=some r→PCalls Tryz.prog 174 [(.io,vB a0c0 a0c1 a0c2)] (Eo (.int .i64 r.1) [vB r.2.1 r.2.2.1 r.2.2.2]):=by
 intro a0c0 a0c1 a0c2 r hr
 apply pF 62 [0] [] [] [.tmp 2] hr zEL Tryz.func174
 intro Φ hΦ hF g
 unfold zco at hF
 iterate 2 refine wW ?_
 refine wX zAc follows ?_
 try simp[go_sem,g]
 try intros
 refine wK [0,3,13] ?_
 refine wJ hF (fun x3=>[(0,.v (vB a0c0 a0c1 a0c2)),(3,.v (.int .i64 x3))]) (fun x3 hF=>?_) fun _ hj1 hF=>?_
 ·refine wW ?_
  refine wK [0,3] ?_
  refine wX zAf follows ?_
  try simp[go_sem,g]
  try intros
  refine wK [0,3,53] ?_
  refine wI hF (fun h6 hF=>?_) (fun h6 hF=>?_)
  ·exact wl hΦ hF
  have g:=Ls g 40
  cases hΦ _ (zaa hF)
  iterate 2 refine wW ?_
  try simp[go_sem,g]
 refine wI hF (fun h4 hF=>?_) (fun h4 hF=>?_)
 ·refine wX zBi follows ?_
  obtain⟨x5,g,hF⟩:=Rx g hF
  exact wT (hj1 _) (zaa hF)
 exact wT (hj1 _) (zaa hF)
def zag (a0c0:List Int) (a0c1:Int) (a0c2:Int) (a1:Int):Option (Int×(List Int×Int×Int)):=
 if decide (a1≤1)=true then(
 some (0,(a0c0,a0c1,a0c2)))else(
 (zco a0c0 a0c1 a0c2).bind fun z2=>
 ((if decide (200<a1)=true then(
 (zco z2.2.1 z2.2.2.1 z2.2.2.2).bind fun z7=>
 some ((z7.2.1,z7.2.2.1,z7.2.2.2),i64.wrap ((i64.wrap (z2.1*256))+z7.1)))else(
 some ((z2.2.1,z2.2.2.1,z2.2.2.2),z2.1)):Option (((List Int×Int×Int)×Int))).bind fun x5=>
 gd (a1≠0)<|
 some (x5.2.tmod a1,(x5.1.1,x5.1.2.1,x5.1.2.2))))
theorem zah:∀{a0c0}{a0c1}{a0c2}{a1}{r},zag a0c0 a0c1 a0c2 a1=some r→PCalls Tryz.prog 94 [(.io,vB a0c0 a0c1 a0c2),(.sh,.int .i64 a1)] (Eo (.int .i64 r.1) [vB r.2.1 r.2.2.1 r.2.2.2,.junk]):=by
 intro a0c0 a0c1 a0c2 a1 r hr
 apply pF 20 [0] [] [] [.tmp 4] hr zKA Tryz.func94
 intro Φ hΦ hF g
 unfold zag at hF
 iterate 2 refine wW ?_
 refine wI hF (fun h1 hF=>?_) (fun h1 hF=>?_)
 ·exact wl hΦ hF
 refine wW ?_
 refine wC hF [.io] zg6 (fun z2 hF=>?_)
 iterate 2 refine wW ?_
 refine wJ hF (fun x5=>[(0,.v (vB x5.1.1 x5.1.2.1 x5.1.2.2)),(1,.v (.int .i64 a1)),(5,.v (.int .i64 x5.2))]) (fun x5 hF=>?_) fun _ hj3 hF=>?_
 ·obtain⟨g,hF⟩:=Rz g hF
  refine wK [0,4] ?_
  exact wm hΦ hF
 refine wI hF (fun h6 hF=>?_) (fun h6 hF=>?_)
 ·refine wC hF [.io] zg6 (fun z7 hF=>?_)
  exact wT (hj3 _) (zaa hF)
 exact wT (hj3 _) (zaa hF)
def zgR (a0c0:List Int) (a0c1:Int) (a0c2:Int) (a1:List Int):Option (Int×(List Int×Int×Int)):=
 (zag a0c0 a0c1 a0c2 (a1.length:Int)).bind fun z1=>
 (ix a1 z1.1).bind fun x2=>
 some (x2,(z1.2.1,z1.2.2.1,z1.2.2.2))
theorem zrQ:∀{a0c0}{a0c1}{a0c2}{a1}{r},zgR a0c0 a0c1 a0c2 a1=some r→PCalls Tryz.prog 99 [(.io,vB a0c0 a0c1 a0c2),(.sh,vC a1)] (Eo (.int .i64 r.1) [vB r.2.1 r.2.2.1 r.2.2.2,.junk]):=by
 intro a0c0 a0c1 a0c2 a1 r hr
 apply pF 12 [0] [] [] [.tmp 4] hr zBn Tryz.func99
 intro Φ hΦ hF g
 unfold zgR at hF
 try simp[go_sem,g]
 try intros
 refine zat ?_
 try simp[go_sem,g]
 try intros
 refine wC hF [.io,.sh] zah (fun z1 hF=>?_)
 obtain⟨x2,g,hF⟩:=Rx g hF
 exact wl hΦ hF
def zaq (a0c0:List Int) (a0c1:Int) (a0c2:Int) (a1:List Int):Option (Int×(List Int×Int×Int)):=
 (zag a0c0 a0c1 a0c2 (a1.length:Int)).bind fun z1=>
 (ix a1 z1.1).bind fun x2=>
 some (x2,(z1.2.1,z1.2.2.1,z1.2.2.2))
theorem zaG:∀{a0c0}{a0c1}{a0c2}{a1}{r},zaq a0c0 a0c1 a0c2 a1=some r→PCalls Tryz.prog 99 [(.io,vB a0c0 a0c1 a0c2),(.mv,vD a1)] (Eo (.int .i64 r.1) [vB r.2.1 r.2.2.1 r.2.2.2,.junk]):=by
 intro a0c0 a0c1 a0c2 a1 r hr
 apply pF 12 [0] [] [] [.tmp 4] hr zBn Tryz.func99
 intro Φ hΦ hF g
 unfold zaq at hF
 try simp[go_sem,g]
 try intros
 refine zat ?_
 try simp[go_sem,g]
 try intros
 refine wC hF [.io,.sh] zah (fun z1 hF=>?_)
 obtain⟨x2,g,hF⟩:=Rx g hF
 exact wl hΦ hF
def zaX (a0:Int) (a1:Int) (a2:Int):Option Bool:=
 ((if decide (a1≤a0)=true then(
 some (decide (a0≤a2)))else(
 some false):Option Bool).bind fun x3=>
 some x3)
theorem zbv:∀{a0}{a1}{a2}{r},zaX a0 a1 a2=some r→PCalls Tryz.prog 65 [(.sh,.int .i64 a0),(.sh,.int .i64 a1),(.sh,.int .i64 a2)] (Eo (.bool r) [.junk,.junk,.junk]):=by
 intro a0 a1 a2 r hr
 apply pF 15 [] [] [] [.tmp 6] hr zIk Tryz.func65
 intro Φ hΦ hF g
 unfold zaX at hF
 refine wW ?_
 refine wJ hF (fun x3=>[(6,.v (.bool x3))]) (fun x3 hF=>?_) fun _ hj1 hF=>?_
 ·exact wm hΦ hF
 refine wG hF (fun h4 hF=>?_) fun h4 hF=>?_
 ·exact wV h4 (hj1 _) (zaa hF)
 exact wV h4 (hj1 _) (zaa hF)
def zdO (a0:Int):Option Bool:=
 if decide (a0<2)=true then(
 some false)else(
 ((zaQ (σ:=Int) (fun s5=>
 if decide ((i64.wrap (s5*s5))≤a0)=true then(
 gd (s5≠0)<|
 if((a0.tmod s5)==0)=true then(
 some (.out (.inr false)))else(
 some (.go (i64.wrap (s5+1)))))else(
 some (.out (.inl ())))) 2:Option (Unit ⊕ Bool)).bind (Sum.elim (fun x4=>
 some true) some)))
theorem zg8:∀{a0}{r},zdO a0=some r→PCalls Tryz.prog 112 [(.sh,.int .i64 a0)] (Eo (.bool r) [.junk]):=by
 intro a0 r hr
 apply pF 17 [] [] [] [.tmp 2] hr zCl Tryz.func112
 intro Φ hΦ hF g
 unfold zdO at hF
 iterate 2 refine wW ?_
 refine wI hF (fun h1 hF=>?_) (fun h1 hF=>?_)
 ·exact wl hΦ hF
 iterate 2 refine wW ?_
 refine wS hF (fun x4=>[]) (fun x4 hF=>?_) fun _ hj2 hr3 hF=>?_
 ·exact wl hΦ hF
 refine wB ?_
 obtain⟨b12,hb13,hψ9⟩:=hF
 refine pL hb13 (fun s5=>[(0,.v (.int .i64 a0)),(3,.v (.int .i64 s5))]) (fun s5 _ _ ho7 hg8 hF=>?_)
 refine wW ?_
 refine wI hF (fun h10 hF=>?_) (fun h10 hF=>?_)
 ·refine wW ?_
  refine wB ?_
  obtain⟨g,hF⟩:=Rz g hF
  refine wK [0,3,16] ?_
  refine wI hF (fun h11 hF=>?_) (fun h11 hF=>?_)
  ·cases ho7 _ (zaa hF)
   cases hΦ _ (hr3 _ hψ9)
   refine wW ?_
   try simp[go_sem,g]
  refine wW ?_
  exact wT (hg8 _) (zaa hF)
 cases ho7 _ (zaa hF)
 exact wT (hj2 _) hψ9
def zbV (a0:Int) (a1:Int) (a2:Int):Option Int:=
 gd (a2≠0)<|
 ((zaQ (σ:=Int×Int×Int) (fun s4=>
 if decide (0<s4.2.1)=true then(
 ((if((s4.2.1.tmod 2)==1)=true then(
 gd (a2≠0)<|
 some ((i64.wrap (s4.2.2*s4.1)).tmod a2))else(
 some s4.2.2):Option Int).bind fun x12=>
 gd (a2≠0)<|
 some (.go ((i64.wrap (s4.1*s4.1)).tmod a2,i64.wrap (s4.2.1.tdiv 2),x12))))else(
 some (.out s4.2.2))) (a0,a1,(1:Int).tmod a2):Option Int).bind fun x3=>
 some x3)
theorem zf1:∀{a0}{a1}{a2}{r},zbV a0 a1 a2=some r→PCalls Tryz.prog 111 [(.sh,.int .i64 a0),(.sh,.int .i64 a1),(.sh,.int .i64 a2)] (Eo (.int .i64 r) [.junk,.junk,.junk]):=by
 intro a0 a1 a2 r hr
 apply pF 28 [] [] [] [.tmp 6] hr zEm Tryz.func111
 intro Φ hΦ hF g
 unfold zbV at hF
 obtain⟨g,hF⟩:=Rz g hF
 iterate 2 refine wW ?_
 refine wJ hF (fun x3=>[(7,.v (.int .i64 x3))]) (fun x3 hF=>?_) fun _ hj1 hF=>?_
 ·exact wl hΦ hF
 refine wB ?_
 obtain⟨b14,hb15,hψ8⟩:=hF
 refine pL hb15 (fun s4=>[(0,.v (.int .i64 s4.1)),(1,.v (.int .i64 s4.2.1)),(2,.v (.int .i64 a2)),(7,.v (.int .i64 s4.2.2))]) (fun s4 _ _ ho6 hg7 hF=>?_)
 refine wW ?_
 refine wI hF (fun h9 hF=>?_) (fun h9 hF=>?_)
 ·refine wW ?_
  refine wB ?_
  have g:=Ld g 2
  refine wW ?_
  refine wJ hF (fun x12=>[(0,.v (.int .i64 s4.1)),(1,.v (.int .i64 s4.2.1)),(2,.v (.int .i64 a2)),(7,.v (.int .i64 x12))]) (fun x12 hF=>?_) fun _ hj10 hF=>?_
  ·obtain⟨g,hF⟩:=Rz g hF
   refine wK [0,1,2,7] ?_
   exact wT (hg7 _) (zaa hF)
  refine wI hF (fun h13 hF=>?_) (fun h13 hF=>?_)
  ·obtain⟨g,hF⟩:=Rz g hF
   exact wT (hj10 _) (zaa hF)
  exact wT (hj10 _) (zaa hF)
 cases ho6 _ (zaa hF)
 exact wT (hj1 _) hψ8
def zd5 (a0:Int):Option (Group×Bool):=
 (((zaX a0 2 1000000).bind fun z4=>
 if(!z4)=true then(
 some true)else(
 (zdO a0).bind fun z6=>
 some (!z6)):Option Bool).bind fun x3=>
 if x3=true then(
 some ((Group.mk 0 0 0),false))else(
 ((zaQ (σ:=Int) (fun s11=>
 if decide (s11≤2000000000)=true then(
 (zdO s11).bind fun z17=>
 if(!z17)=true then(
 some (.go (i64.wrap (s11+a0))))else(
 ((zaQ (σ:=Int) (fun s22=>
 gd (a0≠0)<|
 (zbV s22 (i64.wrap ((i64.wrap (s11-1)).tdiv a0)) s11).bind fun z27=>
 if(z27==1)=true then(
 some (.go (i64.wrap (s22+1))))else(
 some (.out s22))) 2:Option Int).bind fun x21=>
 gd (a0≠0)<|
 (zbV x21 (i64.wrap ((i64.wrap (s11-1)).tdiv a0)) s11).bind fun z31=>
 some (.out (.inr ((Group.mk s11 a0 z31),true))))))else(
 some (.out (.inl ())))) (i64.wrap (a0+1)):Option (Unit ⊕ (Group×Bool))).bind (Sum.elim (fun x10=>
 some ((Group.mk 0 0 0),false)) some))))
theorem zjH:∀{a0}{r},zd5 a0=some r→PCalls Tryz.prog 171 [(.sh,.int .i64 a0)] (Eo (.tup [vE r.1,.bool r.2]) [.junk]):=by
 intro a0 r hr
 apply pF 46 [] [] [] [.cell 2 25,.tmp 3] hr zC5 Tryz.func171
 intro Φ hΦ hF g
 unfold zd5 at hF
 refine wW ?_
 refine wJ hF (fun x3=>[(0,.v (.int .i64 a0)),(2,.bl [.int .i64 0,.int .i64 0,.int .i64 0]),(13,.v (.bool x3))]) (fun x3 hF=>?_) fun _ hj1 hF=>?_
 ·refine wI hF (fun h7 hF=>?_) (fun h7 hF=>?_)
  ·exact wl hΦ hF
  iterate 2 refine wW ?_
  refine wS hF (fun x10=>[(2,.bl [.int .i64 0,.int .i64 0,.int .i64 0])]) (fun x10 hF=>?_) fun _ hj8 hr9 hF=>?_
  ·exact wl hΦ hF
  refine wB ?_
  obtain⟨b32,hb33,hψ15⟩:=hF
  refine pL hb33 (fun s11=>[(0,.v (.int .i64 a0)),(2,.bl [.int .i64 0,.int .i64 0,.int .i64 0]),(4,.v (.int .i64 s11))]) (fun s11 _ _ ho13 hg14 hF=>?_)
  refine wW ?_
  refine wI hF (fun h16 hF=>?_) (fun h16 hF=>?_)
  ·refine wW ?_
   refine wB ?_
   refine wC hF [.sh] zg8 (fun z17 hF=>?_)
   refine wK [0,2,4,24] ?_
   refine wI hF (fun h18 hF=>?_) (fun h18 hF=>?_)
   ·refine wW ?_
    exact wT (hg14 _) (zaa hF)
   iterate 2 refine wW ?_
   refine wJ hF (fun x21=>[(0,.v (.int .i64 a0)),(2,.bl [.int .i64 0,.int .i64 0,.int .i64 0]),(4,.v (.int .i64 s11)),(5,.v (.int .i64 x21))]) (fun x21 hF=>?_) fun _ hj19 hF=>?_
   ·obtain⟨g,hF⟩:=Rz g hF
    refine wC hF [.sh,.sh,.sh] zf1 (fun z31 hF=>?_)
    refine wK [2,3] ?_
    cases ho13 _ (zaa hF)
    cases hΦ _ (hr9 _ hψ15)
    try simp[go_sem,g]
   refine wB ?_
   obtain⟨b29,hb30,hψ26⟩:=hF
   refine pL hb30 (fun s22=>[(0,.v (.int .i64 a0)),(2,.bl [.int .i64 0,.int .i64 0,.int .i64 0]),(4,.v (.int .i64 s11)),(5,.v (.int .i64 s22))]) (fun s22 _ _ ho24 hg25 hF=>?_)
   obtain⟨g,hF⟩:=Rz g hF
   refine wC hF [.sh,.sh,.sh] zf1 (fun z27 hF=>?_)
   refine wW ?_
   refine wI hF (fun h28 hF=>?_) (fun h28 hF=>?_)
   ·refine wW ?_
    refine wB ?_
    exact wT (hg25 _) (zaa hF)
   cases ho24 _ (zaa hF)
   exact wT (hj19 _) hψ26
  cases ho13 _ (zaa hF)
  exact wT (hj8 _) hψ15
 refine wC hF [.sh,.sh,.sh] zbv (fun z4 hF=>?_)
 refine wG hF (fun h5 hF=>?_) fun h5 hF=>?_
 ·exact wV h5 (hj1 _) (zaa hF)
 try simp[go_sem,g,h5]
 refine wC hF [.sh] zg8 (fun z6 hF=>?_)
 exact wV h5 (hj1 _) (zaa hF)
def zc8 (a0c0:List Int) (a0c1:Int) (a0c2:Int):Option (Group×(List Int×Int×Int)):=
 (zaq a0c0 a0c1 a0c2 [3,5,5,7,11,11,13,23]).bind fun z1=>
 (zd5 z1.1).bind fun z2=>
 some (z2.1,(z1.2.1,z1.2.2.1,z1.2.2.2))
theorem zj5:∀{a0c0}{a0c1}{a0c2}{r},zc8 a0c0 a0c1 a0c2=some r→PCalls Tryz.prog 172 [(.io,vB a0c0 a0c1 a0c2)] (Eo (vE r.1) [vB r.2.1 r.2.2.1 r.2.2.2]):=by
 intro a0c0 a0c1 a0c2 r hr
 apply pF 13 [0] [] [] [.cell 2 25] hr zEt Tryz.func172
 intro Φ hΦ hF g
 unfold zc8 at hF
 refine wW ?_
 refine wC hF [.io,.mv] zaG (fun z1 hF=>?_)
 refine wC hF [.sh] zjH (fun z2 hF=>?_)
 refine wK [0,2,3] ?_
 exact wl hΦ hF
def zea (a0:Int) (a1:Int):Option Int:=
 gd (a1≠0)<|
 gd (a1≠0)<|
 some ((i64.wrap ((a0.tmod a1)+a1)).tmod a1)
theorem zkj:∀{a0}{a1}{r},zea a0 a1=some r→PCalls Tryz.prog 113 [(.sh,.int .i64 a0),(.sh,.int .i64 a1)] (Eo (.int .i64 r) [.junk,.junk]):=by
 intro a0 a1 r hr
 apply pF 12 [] [] [] [.tmp 4] hr zDD Tryz.func113
 intro Φ hΦ hF g
 unfold zea at hF
 obtain⟨g,hF⟩:=Rz g hF
 obtain⟨g,hF⟩:=Rz g hF
 cases hΦ _ (zaa hF)
 iterate 2 refine wW ?_
 try simp[go_sem,g]
@[go_sem] def zEQ:List DE:=[d0 0 [1],d0 1 [2],d1 2 [3] 3,d2 3 [9] 3 9,d1 5 [3] 3,d2 6 [12] 3 12,d3 4 [8,10],d3 7 [7,11,13],d0 8 [14]]
def zaA (a0:Group) (a1:Int) (a2:Int):Option Int:=
 (zea a2 a0.Q).bind fun z1=>
 (zbV a1 z1 a0.P).bind fun z2=>
 some z2
theorem zcm:∀{a0}{a1}{a2}{r},zaA a0 a1 a2=some r→PCalls Tryz.prog 45 [(.sh,vE a0),(.sh,.int .i64 a1),(.sh,.int .i64 a2)] (Eo (.int .i64 r) [.junk,.junk,.junk]):=by
 intro a0 a1 a2 r hr
 apply pF 15 [] [] [] [.tmp 6] hr zJT Tryz.func45
 intro Φ hΦ hF g
 unfold zaA at hF
 refine wW ?_
 refine wX zEQ follows ?_
 refine wC hF [.sh,.sh] zkj (fun z1 hF=>?_)
 refine wC hF [.sh,.sh,.sh] zf1 (fun z2 hF=>?_)
 refine wK [6] ?_
 exact wm hΦ hF
@[go_sem] def zEc:List DE:=[d2 0 [5] 5 5,d1 1 [5] 5,d2 2 [24] 5 24,d0 3 [0],d1 4 [5] 5,d2 5 [27] 5 27,d0 6 [28],d3 7 [26,29],d0 8 [30],d3 9 [23,25,31],d1 10 [5] 5,d2 11 [33,32] 5 33]
def zcS (a0c0:List Int) (a0c1:Int) (a0c2:Int):Option (Group×(List Int×Int×Int)):=
 (zag a0c0 a0c1 a0c2 6).bind fun z1=>
 if(z1.1==0)=true then(
 some ((Group.mk 1000000007 500000003 4),(z1.2.1,z1.2.2.1,z1.2.2.2)))else(
 if(z1.1==1)=true then(
 (zaq z1.2.1 z1.2.2.1 z1.2.2.2 [101,1009,1019,65537,999983]).bind fun z4=>
 (zd5 z4.1).bind fun z5=>
 some (z5.1,(z4.2.1,z4.2.2.1,z4.2.2.2)))else(
 (zc8 z1.2.1 z1.2.2.1 z1.2.2.2).bind fun z6=>
 (zag z6.2.1 z6.2.2.1 z6.2.2.2 (i64.wrap (z6.1.Q-1))).bind fun z7=>
 (zaA z6.1 z6.1.G (i64.wrap (1+z7.1))).bind fun z8=>
 some ((Group.mk z6.1.P z6.1.Q z8),(z7.2.1,z7.2.2.1,z7.2.2.2))))
theorem zjS:∀{a0c0}{a0c1}{a0c2}{r},zcS a0c0 a0c1 a0c2=some r→PCalls Tryz.prog 91 [(.io,vB a0c0 a0c1 a0c2)] (Eo (vE r.1) [vB r.2.1 r.2.2.1 r.2.2.2]):=by
 intro a0c0 a0c1 a0c2 r hr
 apply pF 35 [0] [] [] [.cell 2 25] hr zJy Tryz.func91
 intro Φ hΦ hF g
 unfold zcS at hF
 refine wW ?_
 refine wC hF [.io,.sh] zah (fun z1 hF=>?_)
 refine wW ?_
 refine wB ?_
 refine wW ?_
 refine wI hF (fun h2 hF=>?_) (fun h2 hF=>?_)
 ·exact wl hΦ hF
 refine wW ?_
 refine wI hF (fun h3 hF=>?_) (fun h3 hF=>?_)
 ·refine wC hF [.io,.mv] zaG (fun z4 hF=>?_)
  refine wC hF [.sh] zjH (fun z5 hF=>?_)
  refine wK [0,2,3] ?_
  exact wl hΦ hF
 refine wW ?_
 refine wC hF [.io] zj5 (fun z6 hF=>?_)
 refine wK [0,2,5] ?_
 refine wX zEc follows ?_
 refine wC hF [.io,.sh] zah (fun z7 hF=>?_)
 refine wC hF [.sh,.sh,.sh] zcm (fun z8 hF=>?_)
 refine wK [0,2,5] ?_
 exact wl hΦ hF
def zbp (a0c0:List Int) (a0c1:Int) (a0c2:Int) (a1:Int):Option (Bool×(List Int×Int×Int)):=
 (zag a0c0 a0c1 a0c2 a1).bind fun z1=>
 some ((z1.1==0),(z1.2.1,z1.2.2.1,z1.2.2.2))
theorem zdj:∀{a0c0}{a0c1}{a0c2}{a1}{r},zbp a0c0 a0c1 a0c2 a1=some r→PCalls Tryz.prog 29 [(.io,vB a0c0 a0c1 a0c2),(.sh,.int .i64 a1)] (Eo (.bool r.1) [vB r.2.1 r.2.2.1 r.2.2.2,.junk]):=by
 intro a0c0 a0c1 a0c2 a1 r hr
 apply pF 9 [0] [] [] [.tmp 4] hr zID Tryz.func29
 intro Φ hΦ hF g
 unfold zbp at hF
 refine wW ?_
 refine wC hF [.io,.sh] zah (fun z1 hF=>?_)
 exact wl hΦ hF
def zch (a0:Int) (a1:Int):Option Int:=
 if decide (a0<a1)=true then(
 some a0)else(
 some a1)
theorem zkr:∀{a0}{a1}{r},zch a0 a1=some r→PCalls Tryz.prog 173 [(.sh,.int .i64 a0),(.sh,.int .i64 a1)] (Eo (.int .i64 r) [.junk,.junk]):=by
 intro a0 a1 r hr
 apply pF 10 [] [] [] [.tmp 4] hr zE8 Tryz.func173
 intro Φ hΦ hF g
 unfold zch at hF
 iterate 2 refine wW ?_
 refine wI hF (fun h1 hF=>?_) (fun h1 hF=>?_)
 ·exact wl hΦ hF
 cases hΦ _ (zaa hF)
 iterate 2 refine wW ?_
 try simp[go_sem,g]
@[go_sem] def zBq:List DE:=[d1 0 [3] 3,d2 1 [37] 3 37,d0 2 [0],d0 3 [4],d1 4 [3] 3,d2 5 [41] 3 41,d0 6 [40,42],d0 7 [43],d3 8 [39,44],d0 9 [38,45],d1 10 [3] 3,d2 11 [47,46] 3 47]
def zbt (a0c0:List Int) (a0c1:Int) (a0c2:Int):Option (Contest×(List Int×Int×Int)):=
 (zag a0c0 a0c1 a0c2 4).bind fun z1=>
 (zag z1.2.1 z1.2.2.1 z1.2.2.2 5).bind fun z2=>
 (zbp z2.2.1 z2.2.2.1 z2.2.2.2 12).bind fun z3=>
 ((if z3.1=true then(
 some (i64.wrap (1+z1.1),8,0,0,0))else(
 some (i64.wrap (1+z1.1),i64.wrap (1+z2.1),0,0,0)):Option ((Int×Int×Int×Int×Int))).bind fun x6=>
 ((if(x6.1==2)=true then(
 (zag z3.2.1 z3.2.2.1 z3.2.2.2 5).bind fun z12=>
 some ((z12.2.1,z12.2.2.1,z12.2.2.2),x6.1,x6.2.1,x6.2.2.1,x6.2.2.2.1,i64.wrap (1+z12.1),i64.wrap (x6.2.1*(i64.wrap (1+z12.1)))))else(
 if(x6.1==4)=true then(
 some ((z3.2.1,z3.2.2.1,z3.2.2.2),x6.1,0,x6.2.2.1,x6.2.2.2.1,x6.2.2.2.2,3))else(
 some ((z3.2.1,z3.2.2.1,z3.2.2.2),x6.1,x6.2.1,x6.2.2.1,x6.2.2.2.1,x6.2.2.2.2,x6.2.1))):Option (((List Int×Int×Int)×Int×Int×Int×Int×Int×Int))).bind fun x10=>
 (zch x10.2.2.2.2.2.2 3).bind fun z14=>
 (zag x10.1.1 x10.1.2.1 x10.1.2.2 z14).bind fun z15=>
 (zag z15.2.1 z15.2.2.1 z15.2.2.2 (i64.wrap ((i64.wrap (x10.2.2.2.2.2.2-z15.1))+1))).bind fun z16=>
 some ((Contest.mk x10.2.1 x10.2.2.1 z15.1 (i64.wrap (z15.1+z16.1)) x10.2.2.2.2.2.1),(z16.2.1,z16.2.2.1,z16.2.2.2))))
theorem zeJ:∀{a0c0}{a0c1}{a0c2}{r},zbt a0c0 a0c1 a0c2=some r→PCalls Tryz.prog 92 [(.io,vB a0c0 a0c1 a0c2)] (Eo (vF r.1) [vB r.2.1 r.2.2.1 r.2.2.2]):=by
 intro a0c0 a0c1 a0c2 r hr
 apply pF 49 [0] [] [] [.cell 2 27] hr zHr Tryz.func92
 intro Φ hΦ hF g
 unfold zbt at hF
 refine wW ?_
 refine wC hF [.io,.sh] zah (fun z1 hF=>?_)
 refine wC hF [.io,.sh] zah (fun z2 hF=>?_)
 refine wK [0,2,3] ?_
 refine wC hF [.io,.sh] zdj (fun z3 hF=>?_)
 refine wW ?_
 refine wJ hF (fun x6=>[(0,.v (vB z3.2.1 z3.2.2.1 z3.2.2.2)),(2,.bl [.int .i64 0,.int .i64 0,.int .i64 0,.int .i64 0,.int .i64 0]),(3,.bl [.int .i64 x6.1,.int .i64 x6.2.1,.int .i64 x6.2.2.1,.int .i64 x6.2.2.2.1,.int .i64 x6.2.2.2.2])]) (fun x6 hF=>?_) fun _ hj4 hF=>?_
 ·iterate 2 refine wW ?_
  refine wJ hF (fun x10=>[(0,.v (vB x10.1.1 x10.1.2.1 x10.1.2.2)),(2,.bl [.int .i64 0,.int .i64 0,.int .i64 0,.int .i64 0,.int .i64 0]),(3,.bl [.int .i64 x10.2.1,.int .i64 x10.2.2.1,.int .i64 x10.2.2.2.1,.int .i64 x10.2.2.2.2.1,.int .i64 x10.2.2.2.2.2.1]),(4,.v (.int .i64 x10.2.2.2.2.2.2))]) (fun x10 hF=>?_) fun _ hj8 hF=>?_
  ·refine wC hF [.sh,.sh] zkr (fun z14 hF=>?_)
   refine wC hF [.io,.sh] zah (fun z15 hF=>?_)
   refine wK [0,2,3,4] ?_
   refine wX zBq follows ?_
   refine wC hF [.io,.sh] zah (fun z16 hF=>?_)
   refine wK [0,2,3] ?_
   exact wl hΦ hF
  refine wB ?_
  refine wW ?_
  refine wI hF (fun h11 hF=>?_) (fun h11 hF=>?_)
  ·refine wC hF [.io,.sh] zah (fun z12 hF=>?_)
   refine wK [0,2,3,4] ?_
   exact wT (hj8 _) (zaa hF)
  refine wK [0,2,3,4,29] ?_
  refine wI hF (fun h13 hF=>?_) (fun h13 hF=>?_)
  ·refine wW ?_
   exact wT (hj8 _) (zaa hF)
  exact wT (hj8 _) (zaa hF)
 refine wI hF (fun h7 hF=>?_) (fun h7 hF=>?_)
 ·exact wT (hj4 _) (zaa hF)
 exact wT (hj4 _) (zaa hF)
def zf7 (a0:Group):Option Bool:=
 (((zaX a0.P 3 2000000000).bind fun z4=>
 if z4=true then(
 (zaX a0.Q 2 (i64.wrap (a0.P-1))).bind fun z6=>
 if z6=true then(
 gd (a0.Q≠0)<|
 if(((i64.wrap (a0.P-1)).tmod a0.Q)==0)=true then(
 (zaX a0.G 2 (i64.wrap (a0.P-1))).bind fun z9=>
 if z9=true then(
 (zbV a0.G a0.Q a0.P).bind fun z11=>
 if(z11==1)=true then(
 (zdO a0.Q).bind fun z13=>
 if z13=true then(
 (zdO a0.P).bind fun z15=>
 some z15)else(
 some false))else(
 some false))else(
 some false))else(
 some false))else(
 some false))else(
 some false):Option Bool).bind fun x3=>
 some x3)
theorem zpT:∀{a0}{r},zf7 a0=some r→PCalls Tryz.prog 43 [(.sh,vE a0)] (Eo (.bool r) [.junk]):=by
 intro a0 r hr
 apply pF 51 [] [] [] [.tmp 2] hr zHG Tryz.func43
 intro Φ hΦ hF g
 unfold zf7 at hF
 refine wW ?_
 refine wJ hF (fun x3=>[(2,.v (.bool x3))]) (fun x3 hF=>?_) fun _ hj1 hF=>?_
 ·exact wm hΦ hF
 refine wC hF [.sh,.sh,.sh] zbv (fun z4 hF=>?_)
 refine wG hF (fun h5 hF=>?_) fun h5 hF=>?_
 ·try simp[go_sem,g,h5]
  refine wC hF [.sh,.sh,.sh] zbv (fun z6 hF=>?_)
  try simp[go_sem,g,h5]
  refine wG hF (fun h7 hF=>?_) fun h7 hF=>?_
  ·obtain⟨g,hF⟩:=Rz g hF
   try simp[go_sem,g,h7]
   refine wG hF (fun h8 hF=>?_) fun h8 hF=>?_
   ·try simp[go_sem,g,h8]
    refine wC hF [.sh,.sh,.sh] zbv (fun z9 hF=>?_)
    try simp[go_sem,g,h8]
    refine wG hF (fun h10 hF=>?_) fun h10 hF=>?_
    ·try simp[go_sem,g,h10]
     refine wC hF [.sh,.sh,.sh] zf1 (fun z11 hF=>?_)
     try simp[go_sem,g,h10]
     refine wG hF (fun h12 hF=>?_) fun h12 hF=>?_
     ·try simp[go_sem,g,h12]
      refine wC hF [.sh] zg8 (fun z13 hF=>?_)
      try simp[go_sem,g,h12]
      refine wG hF (fun h14 hF=>?_) fun h14 hF=>?_
      ·try simp[go_sem,g,h14]
       refine wC hF [.sh] zg8 (fun z15 hF=>?_)
       exact wV h14 (hj1 _) (zaa hF)
      exact wV h14 (hj1 _) (zaa hF)
     exact wV h12 (hj1 _) (zaa hF)
    exact wV h10 (hj1 _) (zaa hF)
   exact wV h8 (hj1 _) (zaa hF)
  exact wV h7 (hj1 _) (zaa hF)
 exact wV h5 (hj1 _) (zaa hF)
def zff (a0:Contest):Option Bool:=
 ((if decide (a0.Least<0)=true then(
 some true)else(
 some (decide (a0.Most<a0.Least))):Option Bool).bind fun x3=>
 if x3=true then(
 some false)else(
 ((if(a0.Kind==1)=true then(
 some (a0.Kind==1))else(
 some (a0.Kind==3)):Option Bool).bind fun x8=>
 if x8=true then(
 (((zaX a0.Options 1 8).bind fun z14=>
 if z14=true then(
 if decide (a0.Most≤a0.Options)=true then(
 some (a0.Points==0))else(
 some false))else(
 some false):Option Bool).bind fun x13=>
 some x13))else(
 if(a0.Kind==2)=true then(
 (((zaX a0.Options 1 8).bind fun z21=>
 if z21=true then(
 (zaX a0.Points 1 5).bind fun z23=>
 if z23=true then(
 some (decide (a0.Most≤(i64.wrap (a0.Options*a0.Points)))))else(
 some false))else(
 some false):Option Bool).bind fun x20=>
 some x20))else(
 ((if(a0.Kind==4)=true then(
 if(a0.Options==0)=true then(
 if decide (a0.Most≤5)=true then(
 some (a0.Points==0))else(
 some false))else(
 some false))else(
 some false):Option Bool).bind fun x27=>
 some x27))))))
theorem zor:∀{a0}{r},zff a0=some r→PCalls Tryz.prog 110 [(.sh,vF a0)] (Eo (.bool r) [.junk]):=by
 intro a0 r hr
 apply pF 71 [] [] [] [.tmp 2] hr zCw Tryz.func110
 intro Φ hΦ hF g
 unfold zff at hF
 refine wW ?_
 refine wJ hF (fun x3=>[(1,.bl [.int .i64 a0.Kind,.int .i64 a0.Options,.int .i64 a0.Least,.int .i64 a0.Most,.int .i64 a0.Points]),(12,.v (.bool x3))]) (fun x3 hF=>?_) fun _ hj1 hF=>?_
 ·refine wI hF (fun h5 hF=>?_) (fun h5 hF=>?_)
  ·exact wl hΦ hF
  iterate 2 refine wW ?_
  refine wB ?_
  refine wW ?_
  refine wJ hF (fun x8=>[(1,.bl [.int .i64 a0.Kind,.int .i64 a0.Options,.int .i64 a0.Least,.int .i64 a0.Most,.int .i64 a0.Points]),(14,.v (.int .i64 a0.Kind)),(15,.v (.bool x8))]) (fun x8 hF=>?_) fun _ hj6 hF=>?_
  ·refine wI hF (fun h10 hF=>?_) (fun h10 hF=>?_)
   ·refine wJ hF (fun x13=>[(2,.v (.bool x13))]) (fun x13 hF=>?_) fun _ hj11 hF=>?_
    ·exact wm hΦ hF
    refine wC hF [.sh,.sh,.sh] zbv (fun z14 hF=>?_)
    refine wG hF (fun h15 hF=>?_) fun h15 hF=>?_
    ·try simp[go_sem,g,h15]
     refine wG hF (fun h16 hF=>?_) fun h16 hF=>?_
     ·exact wV h16 (hj11 _) (zaa hF)
     exact wV h16 (hj11 _) (zaa hF)
    exact wV h15 (hj11 _) (zaa hF)
   refine wW ?_
   refine wI hF (fun h17 hF=>?_) (fun h17 hF=>?_)
   ·refine wJ hF (fun x20=>[(2,.v (.bool x20))]) (fun x20 hF=>?_) fun _ hj18 hF=>?_
    ·exact wm hΦ hF
    refine wC hF [.sh,.sh,.sh] zbv (fun z21 hF=>?_)
    refine wG hF (fun h22 hF=>?_) fun h22 hF=>?_
    ·try simp[go_sem,g,h22]
     refine wC hF [.sh,.sh,.sh] zbv (fun z23 hF=>?_)
     try simp[go_sem,g,h22]
     refine wG hF (fun h24 hF=>?_) fun h24 hF=>?_
     ·exact wV h24 (hj18 _) (zaa hF)
     exact wV h24 (hj18 _) (zaa hF)
    exact wV h22 (hj18 _) (zaa hF)
   refine wW ?_
   refine wJ hF (fun x27=>[(2,.v (.bool x27))]) (fun x27 hF=>?_) fun _ hj25 hF=>?_
   ·exact wm hΦ hF
   refine wG hF (fun h28 hF=>?_) fun h28 hF=>?_
   ·try simp[go_sem,g,h28]
    refine wG hF (fun h29 hF=>?_) fun h29 hF=>?_
    ·try simp[go_sem,g,h29]
     refine wG hF (fun h30 hF=>?_) fun h30 hF=>?_
     ·exact wV h30 (hj25 _) (zaa hF)
     exact wV h30 (hj25 _) (zaa hF)
    exact wV h29 (hj25 _) (zaa hF)
   exact wV h28 (hj25 _) (zaa hF)
  refine wI hF (fun h9 hF=>?_) (fun h9 hF=>?_)
  ·exact wT (hj6 _) (zaa hF)
  exact wT (hj6 _) (zaa hF)
 refine wG hF (fun h4 hF=>?_) fun h4 hF=>?_
 ·exact wV h4 (hj1 _) (zaa hF)
 exact wV h4 (hj1 _) (zaa hF)
def zeu (a0:Contest) (a1:List Int):Option ((List Int)):=
 gd (0≤a0.Options∧a0.Options≤a0.Options∧8*a0.Options≤140737488355328∧a0.Options≤4611686018427387904)<|
 (some (List.replicate a0.Options.toNat 0)).bind fun x1=>
 ((zap (σ:=(List Int)) (fun i17 s16=>
 (ix a1 i17).bind fun x23=>
 (ix s16 x23).bind fun x24=>
 some (.go (s16.set x23.toNat 1))) (fun s16=>s16) (a1.length) 0 x1:Option ((List Int))).bind fun x6=>
 some x6)
theorem zlv:∀{a0}{a1}{r},zeu a0 a1=some r→PCalls Tryz.prog 201 [(.sh,vF a0),(.sh,vC a1)] (Eo (vD r) [.junk,.junk]):=by
 intro a0 a1 r hr
 apply pF 22 [] [] [] [.tmp 4] hr zDE Tryz.func201
 intro Φ hΦ hF g
 unfold zeu at hF
 obtain⟨g,hF⟩:=Rg g hF
 obtain⟨x1,e2,hF⟩:=zen hF
 have g3:List.replicate a0.Options.toNat ([.int .i64 0]:List PV)=x1.map zaj:=by injection e2 with e2;rw[←e2];simp[go_sem]
 iterate 3 (try simp[go_sem,g,g3];try intros;refine zat ?_)
 refine wJ hF (fun x6=>[(5,.v (vD x6))]) (fun x6 hF=>?_) fun _ hj4 hF=>?_
 ·refine wK [4] ?_
  exact wm hΦ hF
 refine wB ?_
 obtain⟨b25,hb26,hψ20⟩:=hF
 refine pR hb26 (fun i17 s16=>[(5,.v (vD s16)),(11,.v (vC a1)),(12,.v (.int .i64 (a1.length:Int))),(13,.v (.int .i64 i17))]) (fun s16 _ hN27=>?_) (fun i17 s16 _ _ hi21 hi22 ho18 hg19 hF=>?_)
 ·exact wn hN27 (hj4 _) hψ20
 refine wK [5,11,12,13,14] ?_
 refine wu hi21 hi22 ?_
 refine wW ?_
 refine wB ?_
 obtain⟨x23,g,hF⟩:=Rx g hF
 obtain⟨x24,g,hF⟩:=Rx g hF
 iterate 2 refine wW ?_
 exact wi hi21 hi22 (hg19 _) (zaa hF)
def zdu (a0:List Int) (a1:Int) (a2:Int):Option Int:=
 ((zaQ (σ:=Int×Int) (fun s4=>
 if decide (0≤s4.2)=true then(
 (ix a0 s4.2).bind fun x10=>
 some (.go (i64.wrap ((i64.wrap ((i64.wrap (s4.1*a1))+x10))+a2),i64.wrap (s4.2-1))))else(
 some (.out s4.1))) (0,i64.wrap ((a0.length:Int)-1)):Option Int).bind fun x3=>
 some x3)
theorem zgG:∀{a0}{a1}{a2}{r},zdu a0 a1 a2=some r→PCalls Tryz.prog 200 [(.sh,vC a0),(.sh,.int .i64 a1),(.sh,.int .i64 a2)] (Eo (.int .i64 r) [.junk,.junk,.junk]):=by
 intro a0 a1 a2 r hr
 apply pF 27 [] [] [] [.tmp 6] hr zDl Tryz.func200
 intro Φ hΦ hF g
 unfold zdu at hF
 iterate 3 (try simp[go_sem,g];try intros;refine zat ?_)
 refine wJ hF (fun x3=>[(7,.v (.int .i64 x3))]) (fun x3 hF=>?_) fun _ hj1 hF=>?_
 ·exact wl hΦ hF
 refine wB ?_
 obtain⟨b11,hb12,hψ8⟩:=hF
 refine pL hb12 (fun s4=>[(0,.v (vC a0)),(1,.v (.int .i64 a1)),(2,.v (.int .i64 a2)),(7,.v (.int .i64 s4.1)),(8,.v (.int .i64 s4.2))]) (fun s4 _ _ ho6 hg7 hF=>?_)
 refine wW ?_
 refine wI hF (fun h9 hF=>?_) (fun h9 hF=>?_)
 ·refine wW ?_
  refine wB ?_
  obtain⟨x10,g,hF⟩:=Rx g hF
  refine wK [0,1,2,7,8] ?_
  exact wT (hg7 _) (zaa hF)
 cases ho6 _ (zaa hF)
 exact wT (hj1 _) hψ8
def zcI (a0:Contest) (a1:List Int):Option Int:=
 if(a0.Kind==1)=true then(
 (zeu a0 a1).bind fun z2=>
 (zdu z2 2 0).bind fun z3=>
 some z3)else(
 if(a0.Kind==2)=true then(
 (zdu a1 (i64.wrap (a0.Points+1)) 0).bind fun z5=>
 some z5)else(
 if(a0.Kind==3)=true then(
 (zdu a1 (i64.wrap (a0.Options+1)) 1).bind fun z7=>
 some z7)else(
 (zdu a1 27 0).bind fun z8=>
 some z8)))
theorem zjC:∀{a0}{a1}{r},zcI a0 a1=some r→PCalls Tryz.prog 143 [(.sh,vF a0),(.sh,vC a1)] (Eo (.int .i64 r) [.junk,.junk]):=by
 intro a0 a1 r hr
 apply pF 29 [] [] [] [.tmp 4] hr zEU Tryz.func143
 intro Φ hΦ hF g
 unfold zcI at hF
 iterate 2 refine wW ?_
 refine wB ?_
 refine wW ?_
 refine wI hF (fun h1 hF=>?_) (fun h1 hF=>?_)
 ·refine wC hF [.sh,.sh] zlv (fun z2 hF=>?_)
  refine wC hF [.sh,.sh,.sh] zgG (fun z3 hF=>?_)
  refine wK [4] ?_
  exact wm hΦ hF
 refine wW ?_
 refine wI hF (fun h4 hF=>?_) (fun h4 hF=>?_)
 ·refine wC hF [.sh,.sh,.sh] zgG (fun z5 hF=>?_)
  refine wK [4] ?_
  exact wm hΦ hF
 refine wK [1,2,20] ?_
 refine wI hF (fun h6 hF=>?_) (fun h6 hF=>?_)
 ·refine wC hF [.sh,.sh,.sh] zgG (fun z7 hF=>?_)
  exact wl hΦ hF
 refine wW ?_
 refine wC hF [.sh,.sh,.sh] zgG (fun z8 hF=>?_)
 exact wl hΦ hF
def zd6 (a0:Contest):Option Int:=
 ((if(a0.Kind==1)=true then(
 zaQ (σ:=(List Int)×Int) (fun s5=>
 if decide (s5.2<a0.Options)=true then(
 gd ((s5.1.length+1)*8≤140737488355328∧s5.1.length+1≤4611686018427387904)<|
 some (.go (s5.1++[s5.2],i64.wrap (s5.2+1))))else(
 some (.out s5.1))) ([],i64.wrap (a0.Options-a0.Most)))else(
 if(a0.Kind==2)=true then(
 gd (0≤a0.Options∧a0.Options≤a0.Options∧8*a0.Options≤140737488355328∧a0.Options≤4611686018427387904)<|
 (some (List.replicate a0.Options.toNat 0)).bind fun x14=>
 zaQ (σ:=(List Int)×Int×Int) (fun s26=>
 if decide (0≤s26.2.2)=true then(
 (zch s26.2.1 a0.Points).bind fun z32=>
 (ix s26.1 s26.2.2).bind fun x33=>
 (ix (s26.1.set s26.2.2.toNat z32) s26.2.2).bind fun x34=>
 some (.go (s26.1.set s26.2.2.toNat z32,i64.wrap (s26.2.1-x34),i64.wrap (s26.2.2-1))))else(
 some (.out s26.1))) (x14,a0.Most,i64.wrap (a0.Options-1)))else(
 if(a0.Kind==3)=true then(
 zaQ (σ:=(List Int)×Int) (fun s38=>
 if decide (s38.2<a0.Options)=true then(
 gd ((s38.1.length+1)*8≤140737488355328∧s38.1.length+1≤4611686018427387904)<|
 some (.go (s38.1++[s38.2],i64.wrap (s38.2+1))))else(
 some (.out s38.1))) ([],i64.wrap (a0.Options-a0.Most)))else(
 zaQ (σ:=(List Int)×Int) (fun s46=>
 if decide (s46.2<a0.Most)=true then(
 gd ((s46.1.length+1)*8≤140737488355328∧s46.1.length+1≤4611686018427387904)<|
 some (.go (s46.1++[26],i64.wrap (s46.2+1))))else(
 some (.out s46.1))) ([],0)))):Option ((List Int))).bind fun x3=>
 (zcI a0 x3).bind fun z54=>
 some z54)
theorem zjx:∀{a0}{r},zd6 a0=some r→PCalls Tryz.prog 135 [(.sh,vF a0)] (Eo (.int .i64 r) [.junk]):=by
 intro a0 r hr
 apply pF 84 [] [] [] [.tmp 2] hr zDg Tryz.func135
 intro Φ hΦ hF g
 unfold zd6 at hF
 iterate 3 refine wW ?_
 refine wJ hF (fun x3=>[(1,.bl [.int .i64 a0.Kind,.int .i64 a0.Options,.int .i64 a0.Least,.int .i64 a0.Most,.int .i64 a0.Points]),(3,.v (vD x3))]) (fun x3 hF=>?_) fun _ hj1 hF=>?_
 ·refine wC hF [.sh,.sh] zjC (fun z54 hF=>?_)
  exact wl hΦ hF
 refine wB ?_
 refine wW ?_
 refine wI hF (fun h4 hF=>?_) (fun h4 hF=>?_)
 ·refine wK [1,3,4] ?_
  refine wB ?_
  obtain⟨b11,hb12,hψ9⟩:=hF
  refine pL hb12 (fun s5=>[(1,.bl [.int .i64 a0.Kind,.int .i64 a0.Options,.int .i64 a0.Least,.int .i64 a0.Most,.int .i64 a0.Points]),(3,.v (vD s5.1)),(4,.v (.int .i64 s5.2))]) (fun s5 _ _ ho7 hg8 hF=>?_)
  refine wW ?_
  refine wI hF (fun h10 hF=>?_) (fun h10 hF=>?_)
  ·refine wW ?_
   refine wB ?_
   obtain⟨g,hF⟩:=Rg g hF
   refine wW ?_
   exact wT (hg8 _) (zaa hF)
  cases ho7 _ (zaa hF)
  exact wT (hj1 _) hψ9
 refine wW ?_
 refine wI hF (fun h13 hF=>?_) (fun h13 hF=>?_)
 ·obtain⟨g,hF⟩:=Rg g hF
  obtain⟨x14,e15,hF⟩:=zen hF
  have g16:List.replicate a0.Options.toNat ([.int .i64 0]:List PV)=x14.map zaj:=by injection e15 with e15;rw[←e15];simp[go_sem]
  try simp[go_sem,g,g16]
  refine wK [1,3] ?_
  iterate 2 refine wW ?_
  refine wB ?_
  obtain⟨b35,hb36,hψ30⟩:=hF
  refine pL hb36 (fun s26=>[(1,.bl [.int .i64 a0.Kind,.int .i64 a0.Options,.int .i64 a0.Least,.int .i64 a0.Most,.int .i64 a0.Points]),(3,.v (vD s26.1)),(5,.v (.int .i64 s26.2.1)),(6,.v (.int .i64 s26.2.2))]) (fun s26 _ _ ho28 hg29 hF=>?_)
  refine wW ?_
  refine wI hF (fun h31 hF=>?_) (fun h31 hF=>?_)
  ·refine wW ?_
   refine wB ?_
   refine wC hF [.sh,.sh] zkr (fun z32 hF=>?_)
   obtain⟨x33,g,hF⟩:=Rx g hF
   refine wK [1,3,5,6] ?_
   obtain⟨x34,g,hF⟩:=Rx g hF
   try simp only[List.length_set]at g
   refine wW ?_
   exact wT (hg29 _) (zaa hF)
  cases ho28 _ (zaa hF)
  exact wT (hj1 _) hψ30
 refine wK [1,3,64] ?_
 refine wI hF (fun h37 hF=>?_) (fun h37 hF=>?_)
 ·refine wW ?_
  refine wB ?_
  obtain⟨b44,hb45,hψ42⟩:=hF
  refine pL hb45 (fun s38=>[(1,.bl [.int .i64 a0.Kind,.int .i64 a0.Options,.int .i64 a0.Least,.int .i64 a0.Most,.int .i64 a0.Points]),(3,.v (vD s38.1)),(7,.v (.int .i64 s38.2))]) (fun s38 _ _ ho40 hg41 hF=>?_)
  refine wK [1,3,7,74] ?_
  refine wI hF (fun h43 hF=>?_) (fun h43 hF=>?_)
  ·refine wW ?_
   refine wB ?_
   obtain⟨g,hF⟩:=Rg g hF
   refine wW ?_
   exact wT (hg41 _) (zaa hF)
  cases ho40 _ (zaa hF)
  exact wT (hj1 _) hψ42
 refine wW ?_
 refine wB ?_
 obtain⟨b52,hb53,hψ50⟩:=hF
 refine pL hb53 (fun s46=>[(1,.bl [.int .i64 a0.Kind,.int .i64 a0.Options,.int .i64 a0.Least,.int .i64 a0.Most,.int .i64 a0.Points]),(3,.v (vD s46.1)),(8,.v (.int .i64 s46.2))]) (fun s46 _ _ ho48 hg49 hF=>?_)
 refine wW ?_
 refine wI hF (fun h51 hF=>?_) (fun h51 hF=>?_)
 ·refine wW ?_
  refine wB ?_
  obtain⟨g,hF⟩:=Rg g hF
  refine wW ?_
  exact wT (hg49 _) (zaa hF)
 cases ho48 _ (zaa hF)
 exact wT (hj1 _) hψ50
def zeT (a0:Contest):Option Bool:=
 ((if(a0.Kind==1)=true then(
 some true)else(
 some (a0.Kind==2)):Option Bool).bind fun x3=>
 some x3)
theorem zjt:∀{a0}{r},zeT a0=some r→PCalls Tryz.prog 136 [(.sh,vF a0)] (Eo (.bool r) [.junk]):=by
 intro a0 r hr
 apply pF 11 [] [] [] [.tmp 2] hr zEw Tryz.func136
 intro Φ hΦ hF g
 unfold zeT at hF
 refine wW ?_
 refine wJ hF (fun x3=>[(2,.v (.bool x3))]) (fun x3 hF=>?_) fun _ hj1 hF=>?_
 ·exact wm hΦ hF
 refine wG hF (fun h4 hF=>?_) fun h4 hF=>?_
 ·exact wV h4 (hj1 _) (zaa hF)
 exact wV h4 (hj1 _) (zaa hF)
@[go_sem] def zCK:List DE:=[d2 0 [2] 2 2,d3 1 [5],d0 2 [6],d0 3 [7],d2 4 [3,8] 3 3,d3 5 [9,8],d0 6 [10,8],d0 7 [8,11],d0 8 [12],d2 9 [3,13] 3 3,d3 10 [14,13],d0 11 [15,13],d0 12 [13,16],d0 13 [17],d2 14 [3,18] 3 3,d1 16 [2,18] 2,d2 17 [21,18] 2 21,d3 15 [19,18],d0 18 [20,22,18],d0 19 [18,23]]
def zc7 (a0:Group) (a1:Contest):Option Bool:=
 (((zf7 a0).bind fun z4=>
 if(!z4)=true then(
 some true)else(
 (zff a1).bind fun z6=>
 if(!z6)=true then(
 some true)else(
 (zd6 a1).bind fun z8=>
 if decide (100000<z8)=true then(
 some true)else(
 (zd6 a1).bind fun z10=>
 some (decide (a0.Q≤z10))))):Option Bool).bind fun x3=>
 if x3=true then(
 some false)else(
 (((zeT a1).bind fun z15=>
 if(!z15)=true then(
 some true)else(
 if decide ((i64.wrap (a1.Most-a1.Least))<8)=true then(
 some (decide (a1.Most<a0.Q)))else(
 some false)):Option Bool).bind fun x14=>
 some x14)))
theorem zjo:∀{a0}{a1}{r},zc7 a0 a1=some r→PCalls Tryz.prog 63 [(.sh,vE a0),(.sh,vF a1)] (Eo (.bool r) [.junk,.junk]):=by
 intro a0 a1 r hr
 apply pF 43 [] [] [] [.tmp 4] hr zKz Tryz.func63
 intro Φ hΦ hF g
 unfold zc7 at hF
 refine wW ?_
 refine wJ hF (fun x3=>[(2,.bl [.int .i64 a0.P,.int .i64 a0.Q,.int .i64 a0.G]),(3,.bl [.int .i64 a1.Kind,.int .i64 a1.Options,.int .i64 a1.Least,.int .i64 a1.Most,.int .i64 a1.Points]),(24,.v (.bool x3))]) (fun x3 hF=>?_) fun _ hj1 hF=>?_
 ·refine wI hF (fun h11 hF=>?_) (fun h11 hF=>?_)
  ·exact wl hΦ hF
  refine wW ?_
  refine wJ hF (fun x14=>[(4,.v (.bool x14))]) (fun x14 hF=>?_) fun _ hj12 hF=>?_
  ·exact wm hΦ hF
  refine wC hF [.sh] zjt (fun z15 hF=>?_)
  refine wG hF (fun h16 hF=>?_) fun h16 hF=>?_
  ·exact wV h16 (hj12 _) (zaa hF)
  try simp[go_sem,g,h16]
  refine wG hF (fun h17 hF=>?_) fun h17 hF=>?_
  ·try simp[go_sem,g,h17,h16]
   exact wT (hj12 _) (zaa hF)
  try simp[go_sem,g,h17,h16]
  exact wT (hj12 _) (zaa hF)
 refine wX zCK follows ?_
 refine wC hF [.sh] zpT (fun z4 hF=>?_)
 refine wH hF (fun h5 hF=>?_) fun h5 hF=>?_
 ·exact wV h5 (hj1 _) (zaa hF)
 try simp[go_sem,g,h5]
 refine wC hF [.sh] zor (fun z6 hF=>?_)
 try simp[go_sem,g,h5]
 refine wH hF (fun h7 hF=>?_) fun h7 hF=>?_
 ·exact wV h7 (hj1 _) (zaa hF)
 try simp[go_sem,g,h7]
 refine wC hF [.sh] zjx (fun z8 hF=>?_)
 try simp[go_sem,g,h7]
 refine wH hF (fun h9 hF=>?_) fun h9 hF=>?_
 ·exact wV h9 (hj1 _) (zaa hF)
 try simp[go_sem,g,h9]
 refine wC hF [.sh] zjx (fun z10 hF=>?_)
 exact wV h9 (hj1 _) (zaa hF)
@[go_sem] def zA0:List DE:=[d0 0 [0],d0 3 [0],d1 6 [3] 3,d2 7 [14] 3 14,d3 1 [8],d0 2 [9],d3 4 [11],d0 5 [10,12],d0 8 [13,15],d0 9 [16]]
def zcn (a0c0:List Int) (a0c1:Int) (a0c2:Int) (a1:Group):Option (Int×(List Int×Int×Int)):=
 if decide (a1.Q<2)=true then(
 some (0,(a0c0,a0c1,a0c2)))else(
 (zag a0c0 a0c1 a0c2 60000).bind fun z2=>
 (zag z2.2.1 z2.2.2.1 z2.2.2.2 60000).bind fun z3=>
 gd (a1.Q≠0)<|
 some ((i64.wrap ((i64.wrap (z2.1*60000))+z3.1)).tmod a1.Q,(z3.2.1,z3.2.2.1,z3.2.2.2)))
theorem zgY:∀{a0c0}{a0c1}{a0c2}{a1}{r},zcn a0c0 a0c1 a0c2 a1=some r→PCalls Tryz.prog 164 [(.io,vB a0c0 a0c1 a0c2),(.sh,vE a1)] (Eo (.int .i64 r.1) [vB r.2.1 r.2.2.1 r.2.2.2,.junk]):=by
 intro a0c0 a0c1 a0c2 a1 r hr
 apply pF 17 [0] [] [] [.tmp 4] hr zC6 Tryz.func164
 intro Φ hΦ hF g
 unfold zcn at hF
 iterate 2 refine wW ?_
 refine wI hF (fun h1 hF=>?_) (fun h1 hF=>?_)
 ·exact wl hΦ hF
 refine wW ?_
 refine wX zA0 follows ?_
 refine wC hF [.io,.sh] zah (fun z2 hF=>?_)
 refine wC hF [.io,.sh] zah (fun z3 hF=>?_)
 obtain⟨g,hF⟩:=Rz g hF
 refine wK [0,4] ?_
 exact wm hΦ hF
@[go_sem] def zD3:List DE:=[d2 0 [3] 3 3,d1 1 [3] 3,d2 2 [14] 3 14,d1 3 [3] 3,d2 4 [16] 3 16,d0 6 [0],d2 7 [3] 3 3,d3 5 [15,17],d3 8 [19,20],d3 9 [13,18,21],d0 10 [22]]
def zcs (a0c0:List Int) (a0c1:Int) (a0c2:Int) (a1:Group):Option (Int×(List Int×Int×Int)):=
 ((if decide (a1.P<3)=true then(
 some true)else(
 some (decide (a1.Q<1))):Option Bool).bind fun x3=>
 if x3=true then(
 some (1,(a0c0,a0c1,a0c2)))else(
 (zea a1.G a1.P).bind fun z6=>
 (zcn a0c0 a0c1 a0c2 a1).bind fun z7=>
 (zaA a1 z6 z7.1).bind fun z8=>
 some (z8,(z7.2.1,z7.2.2.1,z7.2.2.2))))
theorem zi8:∀{a0c0}{a0c1}{a0c2}{a1}{r},zcs a0c0 a0c1 a0c2 a1=some r→PCalls Tryz.prog 93 [(.io,vB a0c0 a0c1 a0c2),(.sh,vE a1)] (Eo (.int .i64 r.1) [vB r.2.1 r.2.2.1 r.2.2.2,.junk]):=by
 intro a0c0 a0c1 a0c2 a1 r hr
 apply pF 23 [0] [] [] [.tmp 4] hr zJ3 Tryz.func93
 intro Φ hΦ hF g
 unfold zcs at hF
 refine wW ?_
 refine wJ hF (fun x3=>[(0,.v (vB a0c0 a0c1 a0c2)),(3,.bl [.int .i64 a1.P,.int .i64 a1.Q,.int .i64 a1.G]),(12,.v (.bool x3))]) (fun x3 hF=>?_) fun _ hj1 hF=>?_
 ·refine wI hF (fun h5 hF=>?_) (fun h5 hF=>?_)
  ·exact wl hΦ hF
  refine wW ?_
  refine wX zD3 follows ?_
  refine wC hF [.sh,.sh] zkj (fun z6 hF=>?_)
  refine wC hF [.io,.sh] zgY (fun z7 hF=>?_)
  refine wC hF [.sh,.sh,.sh] zcm (fun z8 hF=>?_)
  refine wK [0,4] ?_
  exact wm hΦ hF
 refine wG hF (fun h4 hF=>?_) fun h4 hF=>?_
 ·exact wV h4 (hj1 _) (zaa hF)
 exact wV h4 (hj1 _) (zaa hF)
@[go_sem] def zzJ:List DE:=[d2 0 [5] 5 5,d0 1 [0],d2 2 [5] 5 5,d2 4 [6] 6 6,d3 3 [31,32],d2 5 [2,30] 2 2,d0 6 [33],d2 7 [4,34] 4 4]
def zcP (a0c0:List Int) (a0c1:Int) (a0c2:Int):Option (Group×Int×Contest×(List Int×Int×Int)):=
 (zcS a0c0 a0c1 a0c2).bind fun z1=>
 (zbt z1.2.1 z1.2.2.1 z1.2.2.2).bind fun z2=>
 ((zaQ (σ:=(List Int×Int×Int)×Int×Int×Int×Int×Int×Int) (fun s18=>
 ((if decide (s18.2.2.2.2.2.2<8)=true then(
 (zc7 z1.1 (Contest.mk s18.2.1 s18.2.2.1 s18.2.2.2.1 s18.2.2.2.2.1 s18.2.2.2.2.2.1)).bind fun z27=>
 some (!z27))else(
 some false):Option Bool).bind fun x25=>
 if x25=true then(
 (zbt s18.1.1 s18.1.2.1 s18.1.2.2).bind fun z29=>
 some (.go ((z29.2.1,z29.2.2.1,z29.2.2.2),z29.1.Kind,z29.1.Options,z29.1.Least,z29.1.Most,z29.1.Points,i64.wrap (s18.2.2.2.2.2.2+1))))else(
 some (.out ((s18.1.1,s18.1.2.1,s18.1.2.2),s18.2.1,s18.2.2.1,s18.2.2.2.1,s18.2.2.2.2.1,s18.2.2.2.2.2.1))))) ((z2.2.1,z2.2.2.1,z2.2.2.2),z2.1.Kind,z2.1.Options,z2.1.Least,z2.1.Most,z2.1.Points,0):Option (((List Int×Int×Int)×Int×Int×Int×Int×Int))).bind fun x5=>
 (zc7 z1.1 (Contest.mk x5.2.1 x5.2.2.1 x5.2.2.2.1 x5.2.2.2.2.1 x5.2.2.2.2.2)).bind fun z32=>
 ((if(!z32)=true then(
 some (23,11,2,1,2,0,1,0))else(
 some (z1.1.P,z1.1.Q,z1.1.G,x5.2.1,x5.2.2.1,x5.2.2.2.1,x5.2.2.2.2.1,x5.2.2.2.2.2)):Option ((Int×Int×Int×Int×Int×Int×Int×Int))).bind fun x35=>
 (zcs x5.1.1 x5.1.2.1 x5.1.2.2 (Group.mk x35.1 x35.2.1 x35.2.2.1)).bind fun z37=>
 some ((Group.mk x35.1 x35.2.1 x35.2.2.1),z37.1,(Contest.mk x35.2.2.2.1 x35.2.2.2.2.1 x35.2.2.2.2.2.1 x35.2.2.2.2.2.2.1 x35.2.2.2.2.2.2.2),(z37.2.1,z37.2.2.1,z37.2.2.2))))
theorem zjP:∀{a0c0}{a0c1}{a0c2}{r},zcP a0c0 a0c1 a0c2=some r→PCalls Tryz.prog 27 [(.io,vB a0c0 a0c1 a0c2)] (Eo (.tup [vE r.1,.int .i64 r.2.1,vF r.2.2.1]) [vB r.2.2.2.1 r.2.2.2.2.1 r.2.2.2.2.2]):=by
 intro a0c0 a0c1 a0c2 r hr
 apply pF 35 [0] [] [] [.cell 2 25,.tmp 3,.cell 4 27] hr zKs Tryz.func27
 intro Φ hΦ hF g
 unfold zcP at hF
 refine wW ?_
 refine wC hF [.io] zjS (fun z1 hF=>?_)
 refine wW ?_
 refine wC hF [.io] zeJ (fun z2 hF=>?_)
 refine wK [0,2,4,5,6] ?_
 refine wW ?_
 refine wJ hF (fun x5=>[(0,.v (vB x5.1.1 x5.1.2.1 x5.1.2.2)),(2,.bl [.int .i64 0,.int .i64 0,.int .i64 0]),(4,.bl [.int .i64 0,.int .i64 0,.int .i64 0,.int .i64 0,.int .i64 0]),(5,.bl [.int .i64 z1.1.P,.int .i64 z1.1.Q,.int .i64 z1.1.G]),(6,.bl [.int .i64 x5.2.1,.int .i64 x5.2.2.1,.int .i64 x5.2.2.2.1,.int .i64 x5.2.2.2.2.1,.int .i64 x5.2.2.2.2.2])]) (fun x5 hF=>?_) fun _ hj3 hF=>?_
 ·refine wC hF [.sh,.sh] zjo (fun z32 hF=>?_)
  refine wW ?_
  refine wJ hF (fun x35=>[(0,.v (vB x5.1.1 x5.1.2.1 x5.1.2.2)),(2,.bl [.int .i64 0,.int .i64 0,.int .i64 0]),(4,.bl [.int .i64 0,.int .i64 0,.int .i64 0,.int .i64 0,.int .i64 0]),(5,.bl [.int .i64 x35.1,.int .i64 x35.2.1,.int .i64 x35.2.2.1]),(6,.bl [.int .i64 x35.2.2.2.1,.int .i64 x35.2.2.2.2.1,.int .i64 x35.2.2.2.2.2.1,.int .i64 x35.2.2.2.2.2.2.1,.int .i64 x35.2.2.2.2.2.2.2])]) (fun x35 hF=>?_) fun _ hj33 hF=>?_
  ·refine wX zzJ follows ?_
   refine wC hF [.io,.sh] zi8 (fun z37 hF=>?_)
   refine wK [0,2,3,4] ?_
   exact wm hΦ hF
  refine wI hF (fun h36 hF=>?_) (fun h36 hF=>?_)
  ·refine wW ?_
   exact wT (hj33 _) (zaa hF)
  exact wT (hj33 _) (zaa hF)
 refine wB ?_
 obtain⟨b30,hb31,hψ22⟩:=hF
 refine pL hb31 (fun s18=>[(0,.v (vB s18.1.1 s18.1.2.1 s18.1.2.2)),(2,.bl [.int .i64 0,.int .i64 0,.int .i64 0]),(4,.bl [.int .i64 0,.int .i64 0,.int .i64 0,.int .i64 0,.int .i64 0]),(5,.bl [.int .i64 z1.1.P,.int .i64 z1.1.Q,.int .i64 z1.1.G]),(6,.bl [.int .i64 s18.2.1,.int .i64 s18.2.2.1,.int .i64 s18.2.2.2.1,.int .i64 s18.2.2.2.2.1,.int .i64 s18.2.2.2.2.2.1]),(7,.v (.int .i64 s18.2.2.2.2.2.2))]) (fun s18 _ _ ho20 hg21 hF=>?_)
 refine wJ hF (fun x25=>[(0,.v (vB s18.1.1 s18.1.2.1 s18.1.2.2)),(2,.bl [.int .i64 0,.int .i64 0,.int .i64 0]),(4,.bl [.int .i64 0,.int .i64 0,.int .i64 0,.int .i64 0,.int .i64 0]),(5,.bl [.int .i64 z1.1.P,.int .i64 z1.1.Q,.int .i64 z1.1.G]),(6,.bl [.int .i64 s18.2.1,.int .i64 s18.2.2.1,.int .i64 s18.2.2.2.1,.int .i64 s18.2.2.2.2.1,.int .i64 s18.2.2.2.2.2.1]),(7,.v (.int .i64 s18.2.2.2.2.2.2)),(19,.v (.bool x25))]) (fun x25 hF=>?_) fun _ hj23 hF=>?_
 ·refine wI hF (fun h28 hF=>?_) (fun h28 hF=>?_)
  ·refine wW ?_
   refine wB ?_
   refine wC hF [.io] zeJ (fun z29 hF=>?_)
   refine wW ?_
   exact wT (hg21 _) (zaa hF)
  cases ho20 _ (zaa hF)
  exact wT (hj3 _) hψ22
 refine wG hF (fun h26 hF=>?_) fun h26 hF=>?_
 ·try simp[go_sem,g,h26]
  refine wC hF [.sh,.sh] zjo (fun z27 hF=>?_)
  exact wV h26 (hj23 _) (zaa hF)
 exact wV h26 (hj23 _) (zaa hF)
def zfF (a0:List Int) (a1:Int):Option Bool:=
 ((zap (σ:=Unit) (fun i5 s4=>
 (ix a0 i5).bind fun x11=>
 if(x11==a1)=true then(
 some (.out (.inr true)))else(
 some (.go ()))) (fun s4=>.inl ()) (a0.length) 0 ():Option (Unit ⊕ Bool)).bind (Sum.elim (fun x3=>
 some false) some))
theorem zlJ:∀{a0}{a1}{r},zfF a0 a1=some r→PCalls Tryz.prog 175 [(.sh,vC a0),(.sh,.int .i64 a1)] (Eo (.bool r) [.junk,.junk]):=by
 intro a0 a1 r hr
 apply pF 17 [] [] [] [.tmp 4] hr zEN Tryz.func175
 intro Φ hΦ hF g
 unfold zfF at hF
 iterate 2 (try simp[go_sem,g];try intros;refine zat ?_)
 refine wS hF (fun x3=>[]) (fun x3 hF=>?_) fun _ hj1 hr2 hF=>?_
 ·exact wl hΦ hF
 refine wB ?_
 obtain⟨b13,hb14,hψ8⟩:=hF
 refine pR hb14 (fun i5 s4=>[(1,.v (.int .i64 a1)),(7,.v (vC a0)),(8,.v (.int .i64 (a0.length:Int))),(9,.v (.int .i64 i5))]) (fun s4 _ hN15=>?_) (fun i5 s4 _ _ hi9 hi10 ho6 hg7 hF=>?_)
 ·exact wn hN15 (hj1 _) hψ8
 refine wW ?_
 refine wu hi9 hi10 ?_
 refine wW ?_
 refine wB ?_
 obtain⟨x11,g,hF⟩:=Rx g hF
 refine wW ?_
 refine wK [1,7,8,9,15] ?_
 refine wI hF (fun h12 hF=>?_) (fun h12 hF=>?_)
 ·cases ho6 _ (zaa hF)
  cases hΦ _ (hr2 _ hψ8)
  refine wW ?_
  try simp[go_sem,g]
 refine wW ?_
 exact wi hi9 hi10 (hg7 _) (zaa hF)
def zeE (a0:List Int) (a1:Int):Option ((List Int)):=
 ((zaQ (σ:=Int) (fun s4=>
 ((if decide (s4<(a0.length:Int))=true then(
 (ix a0 s4).bind fun x13=>
 some (decide (x13<a1)))else(
 some false):Option Bool).bind fun x11=>
 if x11=true then(
 some (.go (i64.wrap (s4+1))))else(
 some (.out s4)))) 0:Option Int).bind fun x3=>
 ((if decide (x3<(a0.length:Int))=true then(
 (ix a0 x3).bind fun x21=>
 some (x21==a1))else(
 some false):Option Bool).bind fun x19=>
 if x19=true then(
 some a0)else(
 gd (0≤x3)<|
 gd (0≤x3.toNat∧x3.toNat≤a0.length)<|
 gd ((((a0.take x3.toNat).drop 0).length)*8≤140737488355328∧((a0.take x3.toNat).drop 0).length≤4611686018427387904)<|
 gd ((((a0.take x3.toNat).drop 0).length+1)*8≤140737488355328∧((a0.take x3.toNat).drop 0).length+1≤4611686018427387904)<|
 gd (0≤x3)<|
 gd (x3.toNat≤a0.length∧a0.length≤a0.length)<|
 gd ((((a0.take x3.toNat).drop 0++[a1]).length+((a0.take a0.length).drop x3.toNat).length)*8≤140737488355328∧((a0.take x3.toNat).drop 0++[a1]).length+((a0.take a0.length).drop x3.toNat).length≤4611686018427387904)<|
 some ((a0.take x3.toNat).drop 0++[a1]++(a0.take a0.length).drop x3.toNat))))
theorem zmT:∀{a0}{a1}{r},zeE a0 a1=some r→PCalls Tryz.prog 176 [(.mv,vD a0),(.sh,.int .i64 a1)] (Eo (vD r) [.junk,.junk]):=by
 intro a0 a1 r hr
 apply pF 48 [] [] [] [.tmp 4] hr zCe Tryz.func176
 intro Φ hΦ hF g
 unfold zeE at hF
 iterate 2 refine wW ?_
 refine wJ hF (fun x3=>[(0,.v (vD a0)),(1,.v (.int .i64 a1)),(5,.v (.int .i64 x3))]) (fun x3 hF=>?_) fun _ hj1 hF=>?_
 ·refine wJ hF (fun x19=>[(0,.v (vD a0)),(1,.v (.int .i64 a1)),(5,.v (.int .i64 x3)),(32,.v (.bool x19))]) (fun x19 hF=>?_) fun _ hj17 hF=>?_
  ·refine wI hF (fun h22 hF=>?_) (fun h22 hF=>?_)
   ·exact wl hΦ hF
   obtain⟨g,hF⟩:=Rg g hF
   obtain⟨g,hF⟩:=Rg g hF
   obtain⟨g,hF⟩:=Rg g hF
   have w:=g.1.2
   try simp[g.1.1]at w
   try have g:=And.intro g w
   obtain⟨g,hF⟩:=Rg g hF
   have w:=g.1.2
   try simp[g.1.1]at w
   try have g:=And.intro g w
   iterate 2 refine wW ?_
   refine wK [0,5,6] ?_
   obtain⟨g,hF⟩:=Rg g hF
   obtain⟨g,hF⟩:=Rg g hF
   obtain⟨g,hF⟩:=Rg g hF
   have w:=g.1.2
   try simp[g.1.1]at w
   try have g:=And.intro g w
   exact wl hΦ hF
  try simp[go_sem,g]
  try intros
  refine wG hF (fun h20 hF=>?_) fun h20 hF=>?_
  ·obtain⟨x21,g,hF⟩:=Rx g hF
   exact wV h20 (hj17 _) (zaa hF)
  exact wV h20 (hj17 _) (zaa hF)
 refine wB ?_
 obtain⟨b15,hb16,hψ8⟩:=hF
 refine pL hb16 (fun s4=>[(0,.v (vD a0)),(1,.v (.int .i64 a1)),(5,.v (.int .i64 s4))]) (fun s4 _ _ ho6 hg7 hF=>?_)
 refine wJ hF (fun x11=>[(0,.v (vD a0)),(1,.v (.int .i64 a1)),(5,.v (.int .i64 s4)),(18,.v (.bool x11))]) (fun x11 hF=>?_) fun _ hj9 hF=>?_
 ·refine wI hF (fun h14 hF=>?_) (fun h14 hF=>?_)
  ·refine wW ?_
   refine wB ?_
   exact wT (hg7 _) (zaa hF)
  cases ho6 _ (zaa hF)
  exact wT (hj1 _) hψ8
 try simp[go_sem,g]
 try intros
 refine wG hF (fun h12 hF=>?_) fun h12 hF=>?_
 ·obtain⟨x13,g,hF⟩:=Rx g hF
  exact wV h12 (hj9 _) (zaa hF)
 exact wV h12 (hj9 _) (zaa hF)
@[go_sem] def zDj:List DE:=[d1 0 [3] 3,d2 1 [9] 3 9,d0 2 [0],d1 3 [3] 3,d2 4 [12] 3 12,d1 5 [3] 3,d2 6 [14] 3 14,d0 7 [13,15],d0 8 [16],d3 9 [11,17],d0 10 [10,18],d0 11 [19]]
@[go_sem] def zDJ:List DE:=[d0 0 [6],d0 1 [7],d0 2 [33,34],d0 3 [35],d1 4 [3] 3,d2 5 [37] 3 37,d0 6 [36,38]]
def zci (a0c0:List Int) (a0c1:Int) (a0c2:Int) (a1:Contest):Option (List Int×(List Int×Int×Int)):=
 (zag a0c0 a0c1 a0c2 (i64.wrap ((i64.wrap (a1.Most-a1.Least))+1))).bind fun z1=>
 if(a1.Kind==2)=true then(
 gd (0≤a1.Options∧a1.Options≤a1.Options∧8*a1.Options≤140737488355328∧a1.Options≤4611686018427387904)<|
 (some (List.replicate a1.Options.toNat 0)).bind fun x3=>
 ((zaQ (σ:=(List Int×Int×Int)×Int×List Int) (fun s29=>
 if decide (0<s29.2.1)=true then(
 (zag s29.1.1 s29.1.2.1 s29.1.2.2 a1.Options).bind fun z35=>
 ((zaQ (σ:=Int) (fun s39=>
 (ix s29.2.2 s39).bind fun x44=>
 if(x44==a1.Points)=true then(
 gd (a1.Options≠0)<|
 some (.go ((i64.wrap (s39+1)).tmod a1.Options)))else(
 some (.out s39))) z35.1:Option Int).bind fun x38=>
 (ix s29.2.2 x38).bind fun x48=>
 some (.go ((z35.2.1,z35.2.2.1,z35.2.2.2),i64.wrap (s29.2.1-1),s29.2.2.set x38.toNat (i64.wrap (x48+1))))))else(
 some (.out ((s29.1.1,s29.1.2.1,s29.1.2.2),s29.2.2)))) ((z1.2.1,z1.2.2.1,z1.2.2.2),i64.wrap (a1.Least+z1.1),x3):Option (((List Int×Int×Int)×List Int))).bind fun x8=>
 some (x8.2,(x8.1.1,x8.1.2.1,x8.1.2.2))))else(
 if(a1.Kind==4)=true then(
 ((zaQ (σ:=(List Int×Int×Int)×Int×List Int) (fun s62=>
 if decide (0<s62.2.1)=true then(
 (zag s62.1.1 s62.1.2.1 s62.1.2.2 26).bind fun z68=>
 gd ((s62.2.2.length+1)*8≤140737488355328∧s62.2.2.length+1≤4611686018427387904)<|
 some (.go ((z68.2.1,z68.2.2.1,z68.2.2.2),i64.wrap (s62.2.1-1),s62.2.2++[i64.wrap (1+z68.1)])))else(
 some (.out ((s62.1.1,s62.1.2.1,s62.1.2.2),s62.2.2)))) ((z1.2.1,z1.2.2.1,z1.2.2.2),i64.wrap (a1.Least+z1.1),[]):Option (((List Int×Int×Int)×List Int))).bind fun x54=>
 some (x54.2,(x54.1.1,x54.1.2.1,x54.1.2.2))))else(
 ((zaQ (σ:=(List Int×Int×Int)×List Int) (fun s95=>
 if decide ((s95.2.length:Int)<(i64.wrap (a1.Least+z1.1)))=true then(
 (zag s95.1.1 s95.1.2.1 s95.1.2.2 a1.Options).bind fun z101=>
 ((zaQ (σ:=Int) (fun s105=>
 (zfF s95.2 s105).bind fun z110=>
 if z110=true then(
 gd (a1.Options≠0)<|
 some (.go ((i64.wrap (s105+1)).tmod a1.Options)))else(
 some (.out s105))) z101.1:Option Int).bind fun x104=>
 if(a1.Kind==3)=true then(
 gd ((s95.2.length+1)*8≤140737488355328∧s95.2.length+1≤4611686018427387904)<|
 some (.go ((z101.2.1,z101.2.2.1,z101.2.2.2),s95.2++[x104])))else(
 (zeE s95.2 x104).bind fun z115=>
 some (.go ((z101.2.1,z101.2.2.1,z101.2.2.2),z115)))))else(
 some (.out ((s95.1.1,s95.1.2.1,s95.1.2.2),s95.2)))) ((z1.2.1,z1.2.2.1,z1.2.2.2),[]):Option (((List Int×Int×Int)×List Int))).bind fun x73=>
 some (x73.2,(x73.1.1,x73.1.2.1,x73.1.2.2)))))
set_option maxHeartbeats 1000000 in
theorem zg7:∀{a0c0}{a0c1}{a0c2}{a1}{r},zci a0c0 a0c1 a0c2 a1=some r→PCalls Tryz.prog 95 [(.io,vB a0c0 a0c1 a0c2),(.sh,vF a1)] (Eo (vD r.1) [vB r.2.1 r.2.2.1 r.2.2.2,.junk]):=by
 intro a0c0 a0c1 a0c2 a1 r hr
 apply pF 94 [0] [] [] [.tmp 4] hr zGO Tryz.func95
 intro Φ hΦ hF g
 unfold zci at hF
 refine wW ?_
 refine wX zDj follows ?_
 refine wC hF [.io,.sh] zah (fun z1 hF=>?_)
 refine wK [0,3,5] ?_
 iterate 2 refine wW ?_
 refine wB ?_
 refine wW ?_
 refine wI hF (fun h2 hF=>?_) (fun h2 hF=>?_)
 ·obtain⟨g,hF⟩:=Rg g hF
  obtain⟨x3,e4,hF⟩:=zen hF
  have g5:List.replicate a1.Options.toNat ([.int .i64 0]:List PV)=x3.map zaj:=by injection e4 with e4;rw[←e4];simp[go_sem]
  try simp[go_sem,g,g5]
  refine zat ?_
  refine wJ hF (fun x8=>[(0,.v (vB x8.1.1 x8.1.2.1 x8.1.2.2)),(6,.v (vD x8.2))]) (fun x8 hF=>?_) fun _ hj6 hF=>?_
  ·refine wK [0,4] ?_
   exact wm hΦ hF
  refine wB ?_
  obtain⟨b49,hb50,hψ33⟩:=hF
  refine pL hb50 (fun s29=>[(0,.v (vB s29.1.1 s29.1.2.1 s29.1.2.2)),(3,.bl [.int .i64 a1.Kind,.int .i64 a1.Options,.int .i64 a1.Least,.int .i64 a1.Most,.int .i64 a1.Points]),(5,.v (.int .i64 s29.2.1)),(6,.v (vD s29.2.2))]) (fun s29 _ _ ho31 hg32 hF=>?_)
  refine wK [0,3,5,6,28] ?_
  refine wI hF (fun h34 hF=>?_) (fun h34 hF=>?_)
  ·refine wW ?_
   refine wB ?_
   refine wC hF [.io,.sh] zah (fun z35 hF=>?_)
   refine wW ?_
   refine wJ hF (fun x38=>[(0,.v (vB z35.2.1 z35.2.2.1 z35.2.2.2)),(3,.bl [.int .i64 a1.Kind,.int .i64 a1.Options,.int .i64 a1.Least,.int .i64 a1.Most,.int .i64 a1.Points]),(5,.v (.int .i64 s29.2.1)),(6,.v (vD s29.2.2)),(7,.v (.int .i64 x38))]) (fun x38 hF=>?_) fun _ hj36 hF=>?_
   ·obtain⟨x48,g,hF⟩:=Rx g hF
    refine wK [0,3,5,6] ?_
    exact wT (hg32 _) (zaa hF)
   refine wB ?_
   obtain⟨b46,hb47,hψ43⟩:=hF
   refine pL hb47 (fun s39=>[(0,.v (vB z35.2.1 z35.2.2.1 z35.2.2.2)),(3,.bl [.int .i64 a1.Kind,.int .i64 a1.Options,.int .i64 a1.Least,.int .i64 a1.Most,.int .i64 a1.Points]),(5,.v (.int .i64 s29.2.1)),(6,.v (vD s29.2.2)),(7,.v (.int .i64 s39))]) (fun s39 _ _ ho41 hg42 hF=>?_)
   refine wX zDJ follows ?_
   obtain⟨x44,g,hF⟩:=Rx g hF
   refine wK [0,3,5,6,7,39] ?_
   refine wI hF (fun h45 hF=>?_) (fun h45 hF=>?_)
   ·refine wW ?_
    refine wB ?_
    obtain⟨g,hF⟩:=Rz g hF
    exact wT (hg42 _) (zaa hF)
   cases ho41 _ (zaa hF)
   exact wT (hj36 _) hψ43
  cases ho31 _ (zaa hF)
  exact wT (hj6 _) hψ33
 refine wW ?_
 refine wI hF (fun h51 hF=>?_) (fun h51 hF=>?_)
 ·refine wJ hF (fun x54=>[(0,.v (vB x54.1.1 x54.1.2.1 x54.1.2.2)),(6,.v (vD x54.2))]) (fun x54 hF=>?_) fun _ hj52 hF=>?_
  ·exact wl hΦ hF
  refine wB ?_
  obtain⟨b69,hb70,hψ66⟩:=hF
  refine pL hb70 (fun s62=>[(0,.v (vB s62.1.1 s62.1.2.1 s62.1.2.2)),(5,.v (.int .i64 s62.2.1)),(6,.v (vD s62.2.2))]) (fun s62 _ _ ho64 hg65 hF=>?_)
  refine wW ?_
  refine wI hF (fun h67 hF=>?_) (fun h67 hF=>?_)
  ·refine wW ?_
   refine wB ?_
   refine wC hF [.io,.sh] zah (fun z68 hF=>?_)
   obtain⟨g,hF⟩:=Rg g hF
   refine wK [0,5,6] ?_
   exact wT (hg65 _) (zaa hF)
  cases ho64 _ (zaa hF)
  exact wT (hj52 _) hψ66
 refine wW ?_
 refine wJ hF (fun x73=>[(0,.v (vB x73.1.1 x73.1.2.1 x73.1.2.2)),(6,.v (vD x73.2))]) (fun x73 hF=>?_) fun _ hj71 hF=>?_
 ·exact wl hΦ hF
 refine wB ?_
 obtain⟨b116,hb117,hψ99⟩:=hF
 refine pL hb117 (fun s95=>[(0,.v (vB s95.1.1 s95.1.2.1 s95.1.2.2)),(3,.bl [.int .i64 a1.Kind,.int .i64 a1.Options,.int .i64 a1.Least,.int .i64 a1.Most,.int .i64 a1.Points]),(5,.v (.int .i64 (i64.wrap (a1.Least+z1.1)))),(6,.v (vD s95.2))]) (fun s95 _ _ ho97 hg98 hF=>?_)
 try simp[go_sem,g]
 try intros
 refine wK [0,3,5,6,70] ?_
 refine wI hF (fun h100 hF=>?_) (fun h100 hF=>?_)
 ·refine wW ?_
  refine wB ?_
  refine wC hF [.io,.sh] zah (fun z101 hF=>?_)
  refine wW ?_
  refine wJ hF (fun x104=>[(0,.v (vB z101.2.1 z101.2.2.1 z101.2.2.2)),(3,.bl [.int .i64 a1.Kind,.int .i64 a1.Options,.int .i64 a1.Least,.int .i64 a1.Most,.int .i64 a1.Points]),(5,.v (.int .i64 (i64.wrap (a1.Least+z1.1)))),(6,.v (vD s95.2)),(8,.v (.int .i64 x104))]) (fun x104 hF=>?_) fun _ hj102 hF=>?_
  ·refine wW ?_
   refine wI hF (fun h114 hF=>?_) (fun h114 hF=>?_)
   ·obtain⟨g,hF⟩:=Rg g hF
    exact wT (hg98 _) (zaa hF)
   refine wC hF [.mv,.sh] zmT (fun z115 hF=>?_)
   exact wT (hg98 _) (zaa hF)
  refine wB ?_
  obtain⟨b112,hb113,hψ109⟩:=hF
  refine pL hb113 (fun s105=>[(0,.v (vB z101.2.1 z101.2.2.1 z101.2.2.2)),(3,.bl [.int .i64 a1.Kind,.int .i64 a1.Options,.int .i64 a1.Least,.int .i64 a1.Most,.int .i64 a1.Points]),(5,.v (.int .i64 (i64.wrap (a1.Least+z1.1)))),(6,.v (vD s95.2)),(8,.v (.int .i64 s105))]) (fun s105 _ _ ho107 hg108 hF=>?_)
  refine wC hF [.sh,.sh] zlJ (fun z110 hF=>?_)
  refine wW ?_
  refine wI hF (fun h111 hF=>?_) (fun h111 hF=>?_)
  ·refine wW ?_
   refine wB ?_
   obtain⟨g,hF⟩:=Rz g hF
   exact wT (hg108 _) (zaa hF)
  cases ho107 _ (zaa hF)
  exact wT (hj102 _) hψ109
 cases ho97 _ (zaa hF)
 exact wT (hj71 _) hψ99
def zga (a0:Contest):Option Int:=
 if(a0.Kind==1)=true then(
 some 1)else(
 some a0.Points)
theorem zm4:∀{a0}{r},zga a0=some r→PCalls Tryz.prog 140 [(.sh,vF a0)] (Eo (.int .i64 r) [.junk]):=by
 intro a0 r hr
 apply pF 8 [] [] [] [.tmp 2] hr zDK Tryz.func140
 intro Φ hΦ hF g
 unfold zga at hF
 iterate 2 refine wW ?_
 refine wI hF (fun h1 hF=>?_) (fun h1 hF=>?_)
 ·exact wl hΦ hF
 cases hΦ _ (zaa hF)
 iterate 2 refine wW ?_
 try simp[go_sem,g]
@[go_sem] def zEX:List DE:=[d1 0 [1] 1,d2 1 [6] 1 6,d2 2 [1] 1 1,d1 7 [1] 1,d2 8 [13] 1 13,d1 9 [1] 1,d2 10 [15] 1 15,d0 11 [14,16],d0 12 [17],d3 3 [8],d0 4 [9],d0 5 [10],d0 6 [7,11],d0 13 [12,18],d0 14 [19],d0 15 [20]]
def zeo (a0:Contest):Option Int:=
 (zeT a0).bind fun z1=>
 if(!z1)=true then(
 some 2)else(
 (zga a0).bind fun z3=>
 some (i64.wrap ((i64.wrap ((i64.wrap (a0.Options*(i64.wrap ((i64.wrap (2*z3))+2))))+(i64.wrap (2*(i64.wrap (a0.Most-a0.Least))))))+1)))
theorem ziG:∀{a0}{r},zeo a0=some r→PCalls Tryz.prog 67 [(.sh,vF a0)] (Eo (.int .i64 r) [.junk]):=by
 intro a0 r hr
 apply pF 21 [] [] [] [.tmp 2] hr zHw Tryz.func67
 intro Φ hΦ hF g
 unfold zeo at hF
 refine wW ?_
 refine wC hF [.sh] zjt (fun z1 hF=>?_)
 refine wW ?_
 refine wI hF (fun h2 hF=>?_) (fun h2 hF=>?_)
 ·exact wl hΦ hF
 refine wW ?_
 refine wX zEX follows ?_
 refine wC hF [.sh] zm4 (fun z3 hF=>?_)
 refine wK [2] ?_
 exact wm hΦ hF
def zb7 (a0c0:List Int) (a0c1:Int) (a0c2:Int) (a1:Group) (a2:Int):Option (List Int×(List Int×Int×Int)):=
 ((zaQ (σ:=(List Int×Int×Int)×Int×List Int) (fun s11=>
 if decide (0<s11.2.1)=true then(
 (zcn s11.1.1 s11.1.2.1 s11.1.2.2 a1).bind fun z17=>
 gd ((s11.2.2.length+1)*8≤140737488355328∧s11.2.2.length+1≤4611686018427387904)<|
 some (.go ((z17.2.1,z17.2.2.1,z17.2.2.2),i64.wrap (s11.2.1-1),s11.2.2++[z17.1])))else(
 some (.out ((s11.1.1,s11.1.2.1,s11.1.2.2),s11.2.2)))) ((a0c0,a0c1,a0c2),a2,[]):Option (((List Int×Int×Int)×List Int))).bind fun x3=>
 some (x3.2,(x3.1.1,x3.1.2.1,x3.1.2.2)))
theorem zgQ:∀{a0c0}{a0c1}{a0c2}{a1}{a2}{r},zb7 a0c0 a0c1 a0c2 a1 a2=some r→PCalls Tryz.prog 96 [(.io,vB a0c0 a0c1 a0c2),(.sh,vE a1),(.sh,.int .i64 a2)] (Eo (vD r.1) [vB r.2.1 r.2.2.1 r.2.2.2,.junk,.junk]):=by
 intro a0c0 a0c1 a0c2 a1 a2 r hr
 apply pF 19 [0] [] [] [.tmp 6] hr zG6 Tryz.func96
 intro Φ hΦ hF g
 unfold zb7 at hF
 iterate 2 refine wW ?_
 refine wJ hF (fun x3=>[(0,.v (vB x3.1.1 x3.1.2.1 x3.1.2.2)),(7,.v (vD x3.2))]) (fun x3 hF=>?_) fun _ hj1 hF=>?_
 ·exact wl hΦ hF
 refine wB ?_
 obtain⟨b18,hb19,hψ15⟩:=hF
 refine pL hb19 (fun s11=>[(0,.v (vB s11.1.1 s11.1.2.1 s11.1.2.2)),(2,.v (.int .i64 s11.2.1)),(4,.bl [.int .i64 a1.P,.int .i64 a1.Q,.int .i64 a1.G]),(7,.v (vD s11.2.2))]) (fun s11 _ _ ho13 hg14 hF=>?_)
 refine wW ?_
 refine wI hF (fun h16 hF=>?_) (fun h16 hF=>?_)
 ·refine wW ?_
  refine wB ?_
  refine wC hF [.io,.sh] zgY (fun z17 hF=>?_)
  obtain⟨g,hF⟩:=Rg g hF
  refine wK [0,2,4,7] ?_
  exact wT (hg14 _) (zaa hF)
 cases ho13 _ (zaa hF)
 exact wT (hj1 _) hψ15
def zgM (a0:Group) (a1:List Int):Option Bool:=
 ((zap (σ:=Unit) (fun i5 s4=>
 (ix a1 i5).bind fun x11=>
 (((zaX x11 1 (i64.wrap (a0.P-1))).bind fun z15=>
 if(!z15)=true then(
 some true)else(
 (zbV x11 a0.Q a0.P).bind fun z17=>
 some (z17 !=1)):Option Bool).bind fun x14=>
 if x14=true then(
 some (.out (.inr false)))else(
 some (.go ())))) (fun s4=>.inl ()) (a1.length) 0 ():Option (Unit ⊕ Bool)).bind (Sum.elim (fun x3=>
 some true) some))
theorem zt8:∀{a0}{a1}{r},zgM a0 a1=some r→PCalls Tryz.prog 64 [(.sh,vE a0),(.sh,vC a1)] (Eo (.bool r) [.junk,.junk]):=by
 intro a0 a1 r hr
 apply pF 29 [] [] [] [.tmp 4] hr zH2 Tryz.func64
 intro Φ hΦ hF g
 unfold zgM at hF
 iterate 2 (try simp[go_sem,g];try intros;refine zat ?_)
 refine wS hF (fun x3=>[]) (fun x3 hF=>?_) fun _ hj1 hr2 hF=>?_
 ·exact wl hΦ hF
 refine wB ?_
 obtain⟨b19,hb20,hψ8⟩:=hF
 refine pR hb20 (fun i5 s4=>[(2,.bl [.int .i64 a0.P,.int .i64 a0.Q,.int .i64 a0.G]),(7,.v (vC a1)),(8,.v (.int .i64 (a1.length:Int))),(9,.v (.int .i64 i5))]) (fun s4 _ hN21=>?_) (fun i5 s4 _ _ hi9 hi10 ho6 hg7 hF=>?_)
 ·exact wn hN21 (hj1 _) hψ8
 refine wW ?_
 refine wu hi9 hi10 ?_
 refine wW ?_
 refine wB ?_
 obtain⟨x11,g,hF⟩:=Rx g hF
 refine wW ?_
 refine wJ hF (fun x14=>[(2,.bl [.int .i64 a0.P,.int .i64 a0.Q,.int .i64 a0.G]),(7,.v (vC a1)),(8,.v (.int .i64 (a1.length:Int))),(9,.v (.int .i64 i5)),(27,.v (.bool x14))]) (fun x14 hF=>?_) fun _ hj12 hF=>?_
 ·refine wI hF (fun h18 hF=>?_) (fun h18 hF=>?_)
  ·refine wK [4] ?_
   cases ho6 _ (zaa hF)
   cases hΦ _ (hr2 _ hψ8)
   try simp[go_sem,g]
  refine wW ?_
  exact wi hi9 hi10 (hg7 _) (zaa hF)
 refine wC hF [.sh,.sh,.sh] zbv (fun z15 hF=>?_)
 refine wG hF (fun h16 hF=>?_) fun h16 hF=>?_
 ·exact wV h16 (hj12 _) (zaa hF)
 try simp[go_sem,g,h16]
 refine wC hF [.sh,.sh,.sh] zf1 (fun z17 hF=>?_)
 exact wV h16 (hj12 _) (zaa hF)
def zfo (a0:List Int) (a1:Int) (a2:Int):Option Bool:=
 ((zap (σ:=Unit) (fun i5 s4=>
 (ix a0 i5).bind fun x11=>
 (((zaX x11 a1 a2).bind fun z15=>
 if(!z15)=true then(
 some true)else(
 if decide (0<i5)=true then(
 (ix a0 (i64.wrap (i5-1))).bind fun x18=>
 some (decide (x11≤x18)))else(
 some false)):Option Bool).bind fun x14=>
 if x14=true then(
 some (.out (.inr false)))else(
 some (.go ())))) (fun s4=>.inl ()) (a0.length) 0 ():Option (Unit ⊕ Bool)).bind (Sum.elim (fun x3=>
 some true) some))
theorem zof:∀{a0}{a1}{a2}{r},zfo a0 a1 a2=some r→PCalls Tryz.prog 137 [(.sh,vC a0),(.sh,.int .i64 a1),(.sh,.int .i64 a2)] (Eo (.bool r) [.junk,.junk,.junk]):=by
 intro a0 a1 a2 r hr
 apply pF 35 [] [] [] [.tmp 6] hr zCG Tryz.func137
 intro Φ hΦ hF g
 unfold zfo at hF
 iterate 2 (try simp[go_sem,g];try intros;refine zat ?_)
 refine wS hF (fun x3=>[]) (fun x3 hF=>?_) fun _ hj1 hr2 hF=>?_
 ·exact wl hΦ hF
 refine wB ?_
 obtain⟨b20,hb21,hψ8⟩:=hF
 refine pR hb21 (fun i5 s4=>[(0,.v (vC a0)),(1,.v (.int .i64 a1)),(2,.v (.int .i64 a2)),(9,.v (vC a0)),(10,.v (.int .i64 (a0.length:Int))),(11,.v (.int .i64 i5))]) (fun s4 _ hN22=>?_) (fun i5 s4 _ _ hi9 hi10 ho6 hg7 hF=>?_)
 ·exact wn hN22 (hj1 _) hψ8
 refine wW ?_
 refine wu hi9 hi10 ?_
 refine wW ?_
 refine wB ?_
 obtain⟨x11,g,hF⟩:=Rx g hF
 refine wK [0,1,2,7,8,9,10,11] ?_
 refine wJ hF (fun x14=>[(0,.v (vC a0)),(1,.v (.int .i64 a1)),(2,.v (.int .i64 a2)),(9,.v (vC a0)),(10,.v (.int .i64 (a0.length:Int))),(11,.v (.int .i64 i5)),(33,.v (.bool x14))]) (fun x14 hF=>?_) fun _ hj12 hF=>?_
 ·refine wI hF (fun h19 hF=>?_) (fun h19 hF=>?_)
  ·cases ho6 _ (zaa hF)
   cases hΦ _ (hr2 _ hψ8)
   refine wW ?_
   try simp[go_sem,g]
  refine wW ?_
  exact wi hi9 hi10 (hg7 _) (zaa hF)
 refine wC hF [.sh,.sh,.sh] zbv (fun z15 hF=>?_)
 refine wG hF (fun h16 hF=>?_) fun h16 hF=>?_
 ·exact wV h16 (hj12 _) (zaa hF)
 try simp[go_sem,g,h16]
 refine wG hF (fun h17 hF=>?_) fun h17 hF=>?_
 ·obtain⟨x18,g,hF⟩:=Rx g hF
  try simp[go_sem,g,h17,h16]
  exact wT (hj12 _) (zaa hF)
 try simp[go_sem,g,h17,h16]
 exact wT (hj12 _) (zaa hF)
def zb9 (a0:List Int) (a1:Int) (a2:Int):Option Bool:=
 ((zap (σ:=Unit) (fun i5 s4=>
 (ix a0 i5).bind fun x11=>
 (zaX x11 a1 a2).bind fun z12=>
 if(!z12)=true then(
 some (.out (.inr false)))else(
 some (.go ()))) (fun s4=>.inl ()) (a0.length) 0 ():Option (Unit ⊕ Bool)).bind (Sum.elim (fun x3=>
 some true) some))
theorem zeZ:∀{a0}{a1}{a2}{r},zb9 a0 a1 a2=some r→PCalls Tryz.prog 104 [(.sh,vC a0),(.sh,.int .i64 a1),(.sh,.int .i64 a2)] (Eo (.bool r) [.junk,.junk,.junk]):=by
 intro a0 a1 a2 r hr
 apply pF 21 [] [] [] [.tmp 6] hr zB5 Tryz.func104
 intro Φ hΦ hF g
 unfold zb9 at hF
 iterate 2 (try simp[go_sem,g];try intros;refine zat ?_)
 refine wS hF (fun x3=>[]) (fun x3 hF=>?_) fun _ hj1 hr2 hF=>?_
 ·exact wl hΦ hF
 refine wB ?_
 obtain⟨b14,hb15,hψ8⟩:=hF
 refine pR hb15 (fun i5 s4=>[(1,.v (.int .i64 a1)),(2,.v (.int .i64 a2)),(9,.v (vC a0)),(10,.v (.int .i64 (a0.length:Int))),(11,.v (.int .i64 i5))]) (fun s4 _ hN16=>?_) (fun i5 s4 _ _ hi9 hi10 ho6 hg7 hF=>?_)
 ·exact wn hN16 (hj1 _) hψ8
 refine wW ?_
 refine wu hi9 hi10 ?_
 refine wW ?_
 refine wB ?_
 obtain⟨x11,g,hF⟩:=Rx g hF
 refine wW ?_
 refine wC hF [.sh,.sh,.sh] zbv (fun z12 hF=>?_)
 refine wK [1,2,9,10,11,19] ?_
 refine wI hF (fun h13 hF=>?_) (fun h13 hF=>?_)
 ·cases ho6 _ (zaa hF)
  cases hΦ _ (hr2 _ hψ8)
  refine wW ?_
  try simp[go_sem,g]
 refine wW ?_
 exact wi hi9 hi10 (hg7 _) (zaa hF)
def zf5 (a0:List Int):Option Int:=
 ((zap (σ:=Int) (fun i5 s4=>
 (ix a0 i5).bind fun x11=>
 some (.go (i64.wrap (s4+x11)))) (fun s4=>s4) (a0.length) 0 0:Option Int).bind fun x3=>
 some x3)
theorem zpS:∀{a0}{r},zf5 a0=some r→PCalls Tryz.prog 138 [(.sh,vC a0)] (Eo (.int .i64 r) [.junk]):=by
 intro a0 r hr
 apply pF 17 [] [] [] [.tmp 2] hr zEo Tryz.func138
 intro Φ hΦ hF g
 unfold zf5 at hF
 iterate 3 (try simp[go_sem,g];try intros;refine zat ?_)
 refine wJ hF (fun x3=>[(3,.v (.int .i64 x3))]) (fun x3 hF=>?_) fun _ hj1 hF=>?_
 ·exact wl hΦ hF
 refine wB ?_
 obtain⟨b12,hb13,hψ8⟩:=hF
 refine pR hb13 (fun i5 s4=>[(3,.v (.int .i64 s4)),(6,.v (vC a0)),(7,.v (.int .i64 (a0.length:Int))),(8,.v (.int .i64 i5))]) (fun s4 _ hN14=>?_) (fun i5 s4 _ _ hi9 hi10 ho6 hg7 hF=>?_)
 ·exact wn hN14 (hj1 _) hψ8
 refine wW ?_
 refine wu hi9 hi10 ?_
 refine wW ?_
 refine wB ?_
 obtain⟨x11,g,hF⟩:=Rx g hF
 refine wW ?_
 refine wK [3,6,7,8] ?_
 exact wi hi9 hi10 (hg7 _) (zaa hF)
def zfw (a0:List Int):Option Bool:=
 ((zap (σ:=Unit) (fun i5 s4=>
 (ix a0 i5).bind fun x11=>
 gd (0≤i5)<|
 gd (0≤i5.toNat∧i5.toNat≤a0.length)<|
 (zfF ((a0.take i5.toNat).drop 0) x11).bind fun z12=>
 if z12=true then(
 some (.out (.inr false)))else(
 some (.go ()))) (fun s4=>.inl ()) (a0.length) 0 ():Option (Unit ⊕ Bool)).bind (Sum.elim (fun x3=>
 some true) some))
theorem zmW:∀{a0}{r},zfw a0=some r→PCalls Tryz.prog 139 [(.sh,vC a0)] (Eo (.bool r) [.junk]):=by
 intro a0 r hr
 apply pF 18 [] [] [] [.tmp 2] hr zCo Tryz.func139
 intro Φ hΦ hF g
 unfold zfw at hF
 iterate 2 (try simp[go_sem,g];try intros;refine zat ?_)
 refine wS hF (fun x3=>[]) (fun x3 hF=>?_) fun _ hj1 hr2 hF=>?_
 ·exact wl hΦ hF
 refine wB ?_
 obtain⟨b14,hb15,hψ8⟩:=hF
 refine pR hb15 (fun i5 s4=>[(0,.v (vC a0)),(5,.v (vC a0)),(6,.v (.int .i64 (a0.length:Int))),(7,.v (.int .i64 i5))]) (fun s4 _ hN16=>?_) (fun i5 s4 _ _ hi9 hi10 ho6 hg7 hF=>?_)
 ·exact wn hN16 (hj1 _) hψ8
 refine wW ?_
 refine wu hi9 hi10 ?_
 refine wW ?_
 refine wB ?_
 obtain⟨x11,g,hF⟩:=Rx g hF
 refine wK [0,3,4,5,6,7] ?_
 obtain⟨g,hF⟩:=Rg g hF
 obtain⟨g,hF⟩:=Rg g hF
 refine wC hF [.sh,.sh] zlJ (fun z12 hF=>?_)
 refine wW ?_
 refine wI hF (fun h13 hF=>?_) (fun h13 hF=>?_)
 ·cases ho6 _ (zaa hF)
  cases hΦ _ (hr2 _ hψ8)
  refine wW ?_
  try simp[go_sem,g]
 refine wW ?_
 exact wi hi9 hi10 (hg7 _) (zaa hF)
@[go_sem] def zC7:List DE:=[d0 0 [1],d0 1 [25],d1 2 [2] 2,d2 3 [27] 2 27,d0 4 [26,28],d0 5 [29],d0 6 [1,30],d1 7 [2,30] 2,d2 8 [32,30] 2 32,d3 9 [31,33,30],d0 10 [30,34],d0 11 [35],d0 12 [1,36],d1 14 [2,36] 2,d2 15 [39,36] 2 39,d1 16 [2,36] 2,d2 17 [41,36] 2 41,d3 13 [37,36],d3 18 [38,40,42,36],d0 19 [36,43],d0 20 [44]]
def zgs (a0:Contest) (a1:List Int):Option Bool:=
 if(a0.Kind==1)=true then(
 (((zfo a1 0 (i64.wrap (a0.Options-1))).bind fun z5=>
 if z5=true then(
 (zaX (a1.length:Int) a0.Least a0.Most).bind fun z7=>
 some z7)else(
 some false):Option Bool).bind fun x4=>
 some x4))else(
 if(a0.Kind==2)=true then(
 ((if((a1.length:Int)==a0.Options)=true then(
 (zb9 a1 0 a0.Points).bind fun z13=>
 if z13=true then(
 (zf5 a1).bind fun z15=>
 (zaX z15 a0.Least a0.Most).bind fun z16=>
 some z16)else(
 some false))else(
 some false):Option Bool).bind fun x11=>
 some x11))else(
 if(a0.Kind==3)=true then(
 (((zb9 a1 0 (i64.wrap (a0.Options-1))).bind fun z21=>
 if z21=true then(
 (zfw a1).bind fun z23=>
 if z23=true then(
 (zaX (a1.length:Int) a0.Least a0.Most).bind fun z25=>
 some z25)else(
 some false))else(
 some false):Option Bool).bind fun x20=>
 some x20))else(
 (((zb9 a1 1 26).bind fun z29=>
 if z29=true then(
 (zaX (a1.length:Int) a0.Least a0.Most).bind fun z31=>
 some z31)else(
 some false):Option Bool).bind fun x28=>
 some x28))))
theorem zqQ:∀{a0}{a1}{r},zgs a0 a1=some r→PCalls Tryz.prog 66 [(.sh,vF a0),(.sh,vC a1)] (Eo (.bool r) [.junk,.junk]):=by
 intro a0 a1 r hr
 apply pF 76 [] [] [] [.tmp 4] hr zHH Tryz.func66
 intro Φ hΦ hF g
 unfold zgs at hF
 iterate 2 refine wW ?_
 refine wB ?_
 refine wW ?_
 refine wI hF (fun h1 hF=>?_) (fun h1 hF=>?_)
 ·refine wJ hF (fun x4=>[(4,.v (.bool x4))]) (fun x4 hF=>?_) fun _ hj2 hF=>?_
  ·exact wm hΦ hF
  refine wC hF [.sh,.sh,.sh] zof (fun z5 hF=>?_)
  refine wG hF (fun h6 hF=>?_) fun h6 hF=>?_
  ·try simp[go_sem,g,h6]
   try intros
   refine wC hF [.sh,.sh,.sh] zbv (fun z7 hF=>?_)
   exact wV h6 (hj2 _) (zaa hF)
  exact wV h6 (hj2 _) (zaa hF)
 refine wW ?_
 refine wI hF (fun h8 hF=>?_) (fun h8 hF=>?_)
 ·refine wJ hF (fun x11=>[(4,.v (.bool x11))]) (fun x11 hF=>?_) fun _ hj9 hF=>?_
  ·exact wm hΦ hF
  refine wX zC7 follows ?_
  try simp[go_sem,g]
  try intros
  refine wH hF (fun h12 hF=>?_) fun h12 hF=>?_
  ·try simp[go_sem,g,h12]
   refine wC hF [.sh,.sh,.sh] zeZ (fun z13 hF=>?_)
   try simp[go_sem,g,h12]
   refine wH hF (fun h14 hF=>?_) fun h14 hF=>?_
   ·try simp[go_sem,g,h14]
    refine wC hF [.sh] zpS (fun z15 hF=>?_)
    try simp[go_sem,g,h14]
    refine wC hF [.sh,.sh,.sh] zbv (fun z16 hF=>?_)
    exact wV h14 (hj9 _) (zaa hF)
   exact wV h14 (hj9 _) (zaa hF)
  exact wV h12 (hj9 _) (zaa hF)
 refine wK [1,2,45] ?_
 refine wI hF (fun h17 hF=>?_) (fun h17 hF=>?_)
 ·refine wJ hF (fun x20=>[(4,.v (.bool x20))]) (fun x20 hF=>?_) fun _ hj18 hF=>?_
  ·exact wm hΦ hF
  refine wC hF [.sh,.sh,.sh] zeZ (fun z21 hF=>?_)
  refine wG hF (fun h22 hF=>?_) fun h22 hF=>?_
  ·try simp[go_sem,g,h22]
   refine wC hF [.sh] zmW (fun z23 hF=>?_)
   try simp[go_sem,g,h22]
   refine wG hF (fun h24 hF=>?_) fun h24 hF=>?_
   ·try simp[go_sem,g,h24]
    try intros
    refine wC hF [.sh,.sh,.sh] zbv (fun z25 hF=>?_)
    exact wV h24 (hj18 _) (zaa hF)
   exact wV h24 (hj18 _) (zaa hF)
  exact wV h22 (hj18 _) (zaa hF)
 refine wW ?_
 refine wJ hF (fun x28=>[(4,.v (.bool x28))]) (fun x28 hF=>?_) fun _ hj26 hF=>?_
 ·exact wm hΦ hF
 refine wC hF [.sh,.sh,.sh] zeZ (fun z29 hF=>?_)
 refine wG hF (fun h30 hF=>?_) fun h30 hF=>?_
 ·try simp[go_sem,g,h30]
  try intros
  refine wC hF [.sh,.sh,.sh] zbv (fun z31 hF=>?_)
  exact wV h30 (hj26 _) (zaa hF)
 exact wV h30 (hj26 _) (zaa hF)
def zgC (a0:Group) (a1:List Int):Option Bool:=
 (zb9 a1 0 (i64.wrap (a0.Q-1))).bind fun z1=>
 some z1
theorem zrk:∀{a0}{a1}{r},zgC a0 a1=some r→PCalls Tryz.prog 44 [(.sh,vE a0),(.sh,vC a1)] (Eo (.bool r) [.junk,.junk]):=by
 intro a0 a1 r hr
 apply pF 10 [] [] [] [.tmp 4] hr zIg Tryz.func44
 intro Φ hΦ hF g
 unfold zgC at hF
 refine wW ?_
 refine wC hF [.sh,.sh,.sh] zeZ (fun z1 hF=>?_)
 exact wl hΦ hF
@[go_sem] def zzK:List DE:=[d0 0 [0],d0 1 [10],d0 3 [0],d0 4 [13],d0 5 [14],d0 6 [15],d0 7 [16],d3 2 [11],⟨8,[17],[],none,true,true,false⟩,d0 9 [12,18],d0 10 [19]]
@[go_sem] def zxt:List DE:=[d0 0 [0],d0 1 [10],d0 3 [0],d0 4 [13],d0 5 [14],d0 6 [15],d0 7 [16],⟨8,[17],[],none,true,true,false⟩,d3 2 [11],d0 9 [12,18],d0 10 [19]]
def zbx:Nat→Int→Option ByteArray
 |0,_=>none
 |n_+1,a0=>
 if decide (a0<10)=true then(
 some (zem [u8.wrap (i64.wrap (48+a0))]))else(
 (zbx n_ (i64.wrap (a0.tdiv 10))).bind fun z2=>
 gd (z2.size+(zem [u8.wrap (i64.wrap (48+(a0.tmod 10)))]).size≤9223372036854775807)<|
 some (z2++(zem [u8.wrap (i64.wrap (48+(a0.tmod 10)))])))
def zjF (a0:Int):Option ByteArray:=zpe fun n_=>zbx n_ a0
theorem zo8:∀{n_:Nat}{a0:Int}{r:ByteArray}(hr:zbx n_ a0=some r),PCalls Tryz.prog 198 [(.sh,.int .i64 a0)] (Eo (.str r) [.junk]):=by
 intro n_
 induction n_ with
 |zero=>intro a0 r hr;cases hr
 |succ n_ ih=>
  intro a0 r hr
  apply pF 20 [] [] [1000000] [.tmp 2] hr zDy Tryz.func198
  intro Φ hΦ hF g
  simp only[zbx]at hF
  iterate 2 refine wW ?_
  refine wI hF (fun h1 hF=>?_) (fun h1 hF=>?_)
  ·exact wl hΦ hF
  ·refine wW ?_
   repeat rw[sq]
   refine zxh 2 8 zzK zxt follows (by decide) (by kernel_rfl) (by kernel_rfl) rfl rfl ?_ ?_
   ·have g:=Ld g 10
    refine wC hF [.sh] ih (fun z2 hF=>?_)
    obtain⟨g,hF⟩:=Rsa g hF
    refine wK [2] ?_
    exact wm hΦ hF
   ·have g:=Ld g 10
    refine wC hF [.sh] ih (fun z2 hF=>?_)
    obtain⟨g,hF⟩:=Rsa g hF
    refine wK [2] ?_
    exact wm hΦ hF
theorem zqP {a0:Int}{r:ByteArray}(hr:zjF a0=some r):PCalls Tryz.prog 198 [(.sh,.int .i64 a0)] (Eo (.str r) [.junk]):=by
 obtain⟨n_,hn⟩:=zvT hr
 exact zo8 hn
def zf9 (a0:Int):Option ByteArray:=
 (zjF a0).bind fun z1=>
 gd ((⟨#[98,97,108,108,111,116,32]⟩:ByteArray).size+z1.size≤9223372036854775807)<|
 some ((⟨#[98,97,108,108,111,116,32]⟩:ByteArray)++z1)
theorem zpO:∀{a0}{r},zf9 a0=some r→PCalls Tryz.prog 141 [(.sh,.int .i64 a0)] (Eo (.str r) [.junk]):=by
 intro a0 r hr
 apply pF 6 [] [] [] [.tmp 2] hr zDa Tryz.func141
 intro Φ hΦ hF g
 unfold zf9 at hF
 refine wW ?_
 refine wC hF [.sh] zqP (fun z1 hF=>?_)
 obtain⟨g,hF⟩:=Rsa g hF
 exact wl hΦ hF
def zbL (a0:Group) (a1:List Int):Option Int:=
 ((zap (σ:=Int) (fun i5 s4=>
 (ix a1 i5).bind fun x11=>
 gd (a0.P≠0)<|
 some (.go ((i64.wrap (s4*x11)).tmod a0.P))) (fun s4=>s4) (a1.length) 0 1:Option Int).bind fun x3=>
 some x3)
theorem zge:∀{a0}{a1}{r},zbL a0 a1=some r→PCalls Tryz.prog 205 [(.sh,vE a0),(.sh,vC a1)] (Eo (.int .i64 r) [.junk,.junk]):=by
 intro a0 a1 r hr
 apply pF 22 [] [] [] [.tmp 4] hr zCt Tryz.func205
 intro Φ hΦ hF g
 unfold zbL at hF
 iterate 3 (try simp[go_sem,g];try intros;refine zat ?_)
 refine wJ hF (fun x3=>[(5,.v (.int .i64 x3))]) (fun x3 hF=>?_) fun _ hj1 hF=>?_
 ·exact wl hΦ hF
 refine wB ?_
 obtain⟨b12,hb13,hψ8⟩:=hF
 refine pR hb13 (fun i5 s4=>[(2,.bl [.int .i64 a0.P,.int .i64 a0.Q,.int .i64 a0.G]),(5,.v (.int .i64 s4)),(8,.v (vC a1)),(9,.v (.int .i64 (a1.length:Int))),(10,.v (.int .i64 i5))]) (fun s4 _ hN14=>?_) (fun i5 s4 _ _ hi9 hi10 ho6 hg7 hF=>?_)
 ·exact wn hN14 (hj1 _) hψ8
 refine wW ?_
 refine wu hi9 hi10 ?_
 refine wW ?_
 refine wB ?_
 obtain⟨x11,g,hF⟩:=Rx g hF
 refine wK [2,5,7,8,9,10] ?_
 obtain⟨g,hF⟩:=Rz g hF
 refine wW ?_
 exact wi hi9 hi10 (hg7 _) (zaa hF)
@[go_sem] def zz3:List DE:=[d2 0 [4] 4 4,d1 1 [4] 4,d2 2 [10] 4 10,d0 3 [3],d2 5 [4] 4 4,d0 6 [2],d2 7 [4] 4 4,d0 8 [1],d0 9 [3],d3 4 [9,11,12],d3 10 [16,17,18],d0 11 [15,19],⟨12,[14,20],[],none,true,true,true⟩,d0 13 [13,21],d2 14 [8,22] 8 8]
def zgZ (a0:Group) (a1:Int) (a2:Int) (a3:Int):Option Cipher:=
 (zaA a0 a0.G a3).bind fun z1=>
 (zaA a0 a1 a3).bind fun z2=>
 (zbL a0 [a2,z2]).bind fun z3=>
 some (Cipher.mk z1 z3)
theorem zsp:∀{a0}{a1}{a2}{a3}{r},zgZ a0 a1 a2 a3=some r→PCalls Tryz.prog 199 [(.sh,vE a0),(.sh,.int .i64 a1),(.sh,.int .i64 a2),(.sh,.int .i64 a3)] (Eo (vG r) [.junk,.junk,.junk,.junk]):=by
 intro a0 a1 a2 a3 r hr
 apply pF 23 [] [] [] [.cell 8 88] hr zCk Tryz.func199
 intro Φ hΦ hF g
 unfold zgZ at hF
 refine wW ?_
 refine wX zz3 follows ?_
 refine wC hF [.sh,.sh,.sh] zcm (fun z1 hF=>?_)
 refine wC hF [.sh,.sh,.sh] zcm (fun z2 hF=>?_)
 refine wC hF [.sh,.sh] zge (fun z3 hF=>?_)
 refine wK [8] ?_
 exact wm hΦ hF
@[go_sem] def zAj:List DE:=[d2 0 [4] 4 4,d0 1 [1],d2 2 [4] 4 4,d1 3 [4] 4,d2 4 [12] 4 12,d0 5 [2],d0 7 [3],d3 6 [11,13,14],d3 8 [9,10,15,16],d2 9 [8,17] 8 8]
def zfs (a0:Group) (a1:Int) (a2:Int) (a3:Int):Option Cipher:=
 (zaA a0 a0.G a2).bind fun z1=>
 (zgZ a0 a1 z1 a3).bind fun z2=>
 some z2
theorem znb:∀{a0}{a1}{a2}{a3}{r},zfs a0 a1 a2 a3=some r→PCalls Tryz.prog 142 [(.sh,vE a0),(.sh,.int .i64 a1),(.sh,.int .i64 a2),(.sh,.int .i64 a3)] (Eo (vG r) [.junk,.junk,.junk,.junk]):=by
 intro a0 a1 a2 a3 r hr
 apply pF 18 [] [] [] [.cell 8 88] hr zEv Tryz.func142
 intro Φ hΦ hF g
 unfold zfs at hF
 refine wW ?_
 refine wX zAj follows ?_
 refine wC hF [.sh,.sh,.sh] zcm (fun z1 hF=>?_)
 refine wC hF [.sh,.sh,.sh,.sh] zsp (fun z2 hF=>?_)
 refine wK [8] ?_
 exact wm hΦ hF
@[go_sem] def zAZ:List DE:=[d0 0 [7],d2 1 [3] 3 3,d0 2 [9],d0 3 [2],d0 4 [8],d0 5 [20,21],d0 6 [22],d1 9 [3] 3,d2 10 [26] 3 26,d3 7 [18,19,23],d0 8 [17,24],d0 11 [25,27],d0 12 [28]]
def zfz (a0:Group) (a1:List Int) (a2:List Int):Option Int:=
 ((zap (σ:=Int) (fun i5 s4=>
 (ix a1 i5).bind fun x11=>
 (ix a2 i5).bind fun x12=>
 (zaA a0 x11 x12).bind fun z13=>
 gd (a0.P≠0)<|
 some (.go ((i64.wrap (s4*z13)).tmod a0.P))) (fun s4=>s4) (a1.length) 0 1:Option Int).bind fun x3=>
 some x3)
theorem zqD:∀{a0}{a1}{a2}{r},zfz a0 a1 a2=some r→PCalls Tryz.prog 213 [(.sh,vE a0),(.sh,vC a1),(.sh,vC a2)] (Eo (.int .i64 r) [.junk,.junk,.junk]):=by
 intro a0 a1 a2 r hr
 apply pF 31 [] [] [] [.tmp 6] hr zDp Tryz.func213
 intro Φ hΦ hF g
 unfold zfz at hF
 iterate 3 (try simp[go_sem,g];try intros;refine zat ?_)
 refine wJ hF (fun x3=>[(7,.v (.int .i64 x3))]) (fun x3 hF=>?_) fun _ hj1 hF=>?_
 ·exact wl hΦ hF
 refine wB ?_
 obtain⟨b14,hb15,hψ8⟩:=hF
 refine pR hb15 (fun i5 s4=>[(2,.v (vC a2)),(3,.bl [.int .i64 a0.P,.int .i64 a0.Q,.int .i64 a0.G]),(7,.v (.int .i64 s4)),(10,.v (vC a1)),(11,.v (.int .i64 (a1.length:Int))),(12,.v (.int .i64 i5))]) (fun s4 _ hN16=>?_) (fun i5 s4 _ _ hi9 hi10 ho6 hg7 hF=>?_)
 ·exact wn hN16 (hj1 _) hψ8
 refine wW ?_
 refine wu hi9 hi10 ?_
 refine wW ?_
 refine wB ?_
 obtain⟨x11,g,hF⟩:=Rx g hF
 refine wK [2,3,7,8,9,10,11,12] ?_
 refine wX zAZ follows ?_
 obtain⟨x12,g,hF⟩:=Rx g hF
 refine wC hF [.sh,.sh,.sh] zcm (fun z13 hF=>?_)
 obtain⟨g,hF⟩:=Rz g hF
 refine wK [2,3,7,10,11,12] ?_
 exact wi hi9 hi10 (hg7 _) (zaa hF)
def zeQ (a0:Group) (a1:(List (List Int))) (a2:List Int):Option ((List Int)):=
 ((zap (σ:=(List Int)) (fun i5 s4=>
 (ix a1 i5).bind fun x11=>
 (zfz a0 x11 a2).bind fun z12=>
 gd ((s4.length+1)*8≤140737488355328∧s4.length+1≤4611686018427387904)<|
 some (.go (s4++[z12]))) (fun s4=>s4) (a1.length) 0 []:Option ((List Int))).bind fun x3=>
 some x3)
theorem zkM:∀{a0}{a1}{a2}{r},zeQ a0 a1 a2=some r→PCalls Tryz.prog 202 [(.sh,vE a0),(.sh,vH a1),(.sh,vC a2)] (Eo (vD r) [.junk,.junk,.junk]):=by
 intro a0 a1 a2 r hr
 apply pF 25 [] [] [] [.tmp 6] hr zDA Tryz.func202
 intro Φ hΦ hF g
 unfold zeQ at hF
 iterate 3 (try simp[go_sem,g];try intros;refine zat ?_)
 refine wJ hF (fun x3=>[(7,.v (vD x3))]) (fun x3 hF=>?_) fun _ hj1 hF=>?_
 ·exact wl hΦ hF
 refine wB ?_
 obtain⟨b13,hb14,hψ8⟩:=hF
 refine pR hb14 (fun i5 s4=>[(2,.v (vC a2)),(3,.bl [.int .i64 a0.P,.int .i64 a0.Q,.int .i64 a0.G]),(7,.v (vD s4)),(10,.v (vH a1)),(11,.v (.int .i64 (a1.length:Int))),(12,.v (.int .i64 i5))]) (fun s4 _ hN15=>?_) (fun i5 s4 _ _ hi9 hi10 ho6 hg7 hF=>?_)
 ·exact wn hN15 (hj1 _) hψ8
 refine wW ?_
 refine wu hi9 hi10 ?_
 refine wW ?_
 refine wB ?_
 obtain⟨x11,g,hF⟩:=Rx g hF
 refine wK [2,3,7,9,10,11,12] ?_
 refine wC hF [.sh,.sh,.sh] zqD (fun z12 hF=>?_)
 obtain⟨g,hF⟩:=Rg g hF
 refine wW ?_
 exact wi hi9 hi10 (hg7 _) (zaa hF)
def zeD (a0:(List (List Int))) (a1:List Int) (a2:List Int):Option ((List Int)):=
 ((zap (σ:=(List Int)) (fun i5 s4=>
 (ix a0 i5).bind fun x11=>
 gd ((s4.length+x11.length)*8≤140737488355328∧s4.length+x11.length≤4611686018427387904)<|
 some (.go (s4++x11))) (fun s4=>s4) (a0.length) 0 []:Option ((List Int))).bind fun x3=>
 gd ((x3.length+a1.length)*8≤140737488355328∧x3.length+a1.length≤4611686018427387904)<|
 gd (((x3++a1).length+a2.length)*8≤140737488355328∧(x3++a1).length+a2.length≤4611686018427387904)<|
 some (x3++a1++a2))
theorem zmZ:∀{a0}{a1}{a2}{r},zeD a0 a1 a2=some r→PCalls Tryz.prog 204 [(.sh,vH a0),(.sh,vC a1),(.sh,vC a2)] (Eo (vD r) [.junk,.junk,.junk]):=by
 intro a0 a1 a2 r hr
 apply pF 25 [] [] [] [.tmp 6] hr zDU Tryz.func204
 intro Φ hΦ hF g
 unfold zeD at hF
 iterate 3 (try simp[go_sem,g];try intros;refine zat ?_)
 refine wJ hF (fun x3=>[(1,.v (vC a1)),(2,.v (vC a2)),(7,.v (vD x3))]) (fun x3 hF=>?_) fun _ hj1 hF=>?_
 ·obtain⟨g,hF⟩:=Rg g hF
  obtain⟨g,hF⟩:=Rg g hF
  refine wK [6] ?_
  exact wm hΦ hF
 refine wB ?_
 obtain⟨b12,hb13,hψ8⟩:=hF
 refine pR hb13 (fun i5 s4=>[(1,.v (vC a1)),(2,.v (vC a2)),(7,.v (vD s4)),(10,.v (vH a0)),(11,.v (.int .i64 (a0.length:Int))),(12,.v (.int .i64 i5))]) (fun s4 _ hN14=>?_) (fun i5 s4 _ _ hi9 hi10 ho6 hg7 hF=>?_)
 ·exact wn hN14 (hj1 _) hψ8
 refine wW ?_
 refine wu hi9 hi10 ?_
 refine wW ?_
 refine wB ?_
 obtain⟨x11,g,hF⟩:=Rx g hF
 obtain⟨g,hF⟩:=Rg g hF
 refine wW ?_
 refine wK [1,2,7,10,11,12] ?_
 exact wi hi9 hi10 (hg7 _) (zaa hF)
def zf8 (a0:ByteArray) (a1:List Int):Option ((List Int)):=
 ((zaQ (σ:=(List Int)×Int) (fun s4=>
 if decide (s4.2<(a0.size:Int))=true then(
 (ixs a0 s4.2).bind fun x10=>
 gd ((s4.1.length+1)*8≤140737488355328∧s4.1.length+1≤4611686018427387904)<|
 some (.go (s4.1++[i64.wrap x10],i64.wrap (s4.2+1))))else(
 some (.out s4.1))) ([(a0.size:Int)],0):Option ((List Int))).bind fun x3=>
 gd ((x3.length+a1.length)*8≤140737488355328∧x3.length+a1.length≤4611686018427387904)<|
 some (x3++a1))
theorem zpN:∀{a0}{a1}{r},zf8 a0 a1=some r→PCalls Tryz.prog 182 [(.sh,.str a0),(.sh,vC a1)] (Eo (vD r) [.junk,.junk]):=by
 intro a0 a1 r hr
 apply pF 26 [] [] [] [.tmp 4] hr zFi Tryz.func182
 intro Φ hΦ hF g
 unfold zf8 at hF
 iterate 3 refine wW ?_
 refine wJ hF (fun x3=>[(1,.v (vC a1)),(5,.v (vD x3))]) (fun x3 hF=>?_) fun _ hj1 hF=>?_
 ·obtain⟨g,hF⟩:=Rg g hF
  refine wK [4] ?_
  exact wm hΦ hF
 refine wB ?_
 obtain⟨b11,hb12,hψ8⟩:=hF
 refine pL hb12 (fun s4=>[(0,.v (.str a0)),(1,.v (vC a1)),(5,.v (vD s4.1)),(6,.v (.int .i64 s4.2))]) (fun s4 _ _ ho6 hg7 hF=>?_)
 refine wK [0,1,5,6,13] ?_
 refine wI hF (fun h9 hF=>?_) (fun h9 hF=>?_)
 ·refine wW ?_
  refine wB ?_
  obtain⟨x10,g,hF⟩:=Rxs g hF
  obtain⟨g,hF⟩:=Rg g hF
  refine wW ?_
  exact wT (hg7 _) (zaa hF)
 cases ho6 _ (zaa hF)
 exact wT (hj1 _) hψ8
def zbH (a0c0:Int) (a0c1:Int) (a1:Int):Option ((Int×Int)):=
 (some [a1.tmod 2147483648,i64.wrap (a1.tdiv 2147483648)]).bind fun x1=>
 zaQ (σ:=(Int×Int)×Int) (fun s10=>
 if decide (s10.2<(x1.length:Int))=true then(
 (ix x1 s10.2).bind fun x16=>
 some (.go (((i64.wrap ((i64.wrap ((i64.wrap (48271*s10.1.1))+x16))+1)).tmod 2147483647,(i64.wrap ((i64.wrap ((i64.wrap (69621*s10.1.2))+x16))+1)).tmod 2147483647),i64.wrap (s10.2+1))))else(
 some (.out (s10.1.1,s10.1.2)))) ((a0c0,a0c1),0)
theorem zf4:∀{a0c0}{a0c1}{a1}{r},zbH a0c0 a0c1 a1=some r→PCalls Tryz.prog 215 [(.io,vI a0c0 a0c1),(.sh,.int .i64 a1)] (Eo (.junk) [vI r.1 r.2,.junk]):=by
 intro a0c0 a0c1 a1 r hr
 apply pF 41 [0] [] [] [] hr zC0 Tryz.func215
 intro Φ hΦ hF g
 unfold zbH at hF
 have g:=Ld g 2147483648
 obtain⟨x1,e2,hF⟩:=zen hF
 have g:=And.intro g (show[[.int .i64 (a1.tmod 2147483648)],[.int .i64 (i64.wrap (a1.tdiv 2147483648))]]=x1.map zaj by injection e2 with e2;rw[←e2];simp[go_sem])
 try simp[go_sem,g]
 try intros
 refine zat ?_
 refine wB ?_
 obtain⟨b17,hb18,hψ14⟩:=hF
 refine pL hb18 (fun s10=>[(0,.v (vI s10.1.1 s10.1.2)),(10,.v (vD x1)),(11,.v (.int .i64 (x1.length:Int))),(12,.v (.int .i64 s10.2))]) (fun s10 _ _ ho12 hg13 hF=>?_)
 refine wW ?_
 refine wI hF (fun h15 hF=>?_) (fun h15 hF=>?_)
 ·refine wW ?_
  refine wB ?_
  obtain⟨x16,g,hF⟩:=Rx g hF
  refine wK [0,5,10,11,12] ?_
  have g:=Ld g 2147483647
  refine wK [0,5,10,11,12] ?_
  refine wK [0,10,11,12] ?_
  exact wT (hg13 _) (zaa hF)
 cases ho12 _ (zaa hF)
 cases hΦ _ hψ14
 try simp[go_sem,g]
@[go_sem] def zAg:List DE:=[d0 0 [3],d0 1 [22],d0 2 [23],d0 3 [24],d0 4 [25],d0 5 [3],d0 6 [27],d0 7 [28],d0 8 [29],d0 9 [26,30],d0 10 [31]]
def zfC (a0:List Int):Option Int:=
 (zbH 1 2 (a0.length:Int)).bind fun z1=>
 ((zap (σ:=(Int×Int)) (fun i15 s14=>
 (ix a0 i15).bind fun x21=>
 (zbH s14.1 s14.2 x21).bind fun z22=>
 some (.go (z22.1,z22.2))) (fun s14=>(s14.1,s14.2)) (a0.length) 0 (z1.1,z1.2):Option ((Int×Int))).bind fun x4=>
 some (i64.wrap ((i64.wrap (x4.1*2147483648))+x4.2)))
theorem zmi:∀{a0}{r},zfC a0=some r→PCalls Tryz.prog 177 [(.sh,vC a0)] (Eo (.int .i64 r) [.junk]):=by
 intro a0 r hr
 apply pF 32 [] [] [7] [.tmp 2] hr zCi Tryz.func177
 intro Φ hΦ hF g
 unfold zfC at hF
 iterate 2 (try simp[go_sem,g];try intros;refine zat ?_)
 try simp[go_sem,g]
 try intros
 refine wC hF [.io,.sh] zf4 (fun z1 hF=>?_)
 try simp[go_sem,g]
 try intros
 refine zat ?_
 try simp[go_sem,g]
 try intros
 refine wK [3,12,13,14] ?_
 refine wJ hF (fun x4=>[(3,.v (vI x4.1 x4.2))]) (fun x4 hF=>?_) fun _ hj2 hF=>?_
 ·refine wX zAg follows ?_
  refine wK [2] ?_
  exact wm hΦ hF
 refine wB ?_
 obtain⟨b23,hb24,hψ18⟩:=hF
 refine pR hb24 (fun i15 s14=>[(3,.v (vI s14.1 s14.2)),(12,.v (vC a0)),(13,.v (.int .i64 (a0.length:Int))),(14,.v (.int .i64 i15))]) (fun s14 _ hN25=>?_) (fun i15 s14 _ _ hi19 hi20 ho16 hg17 hF=>?_)
 ·exact wn hN25 (hj2 _) hψ18
 refine wW ?_
 refine wu hi19 hi20 ?_
 refine wW ?_
 refine wB ?_
 obtain⟨x21,g,hF⟩:=Rx g hF
 refine wW ?_
 refine wC hF [.io,.sh] zf4 (fun z22 hF=>?_)
 refine wW ?_
 exact wi hi19 hi20 (hg17 _) (zaa hF)
def zdf (a0:ByteArray) (a1:List Int):Option Int:=
 (zf8 a0 a1).bind fun z1=>
 (zfC z1).bind fun z2=>
 some z2
theorem zhl:∀{a0}{a1}{r},zdf a0 a1=some r→PCalls Tryz.prog 105 [(.sh,.str a0),(.sh,vC a1)] (Eo (.int .i64 r) [.junk,.junk]):=by
 intro a0 a1 r hr
 apply pF 9 [] [] [] [.tmp 4] hr zDN Tryz.func105
 intro Φ hΦ hF g
 unfold zdf at hF
 refine wW ?_
 refine wC hF [.sh,.sh] zpN (fun z1 hF=>?_)
 refine wC hF [.sh] zmi (fun z2 hF=>?_)
 exact wl hΦ hF
@[go_sem] def zzF:List DE:=[d0 0 [1],d1 1 [3] 3,d2 2 [8] 3 8,d1 3 [3] 3,d2 4 [10] 3 10,d1 5 [3] 3,d2 6 [12] 3 12,d0 7 [9,11,13],d0 8 [2],d1 11 [3] 3,d2 12 [18] 3 18,⟨9,[14,15],[],none,true,false,false⟩,d3 10 [7,16],d0 13 [17,19],d0 14 [20]]
def zbR (a0:Group) (a1:ByteArray) (a2:List Int):Option Int:=
 gd (([a0.P,a0.Q,a0.G].length+a2.length)*8≤140737488355328∧[a0.P,a0.Q,a0.G].length+a2.length≤4611686018427387904)<|
 (zdf a1 ([a0.P,a0.Q,a0.G]++a2)).bind fun z1=>
 gd (a0.Q≠0)<|
 some (z1.tmod a0.Q)
theorem ziV:∀{a0}{a1}{a2}{r},zbR a0 a1 a2=some r→PCalls Tryz.prog 203 [(.sh,vE a0),(.sh,.str a1),(.sh,vC a2)] (Eo (.int .i64 r) [.junk,.junk,.junk]):=by
 intro a0 a1 a2 r hr
 apply pF 21 [] [] [] [.tmp 6] hr zBW Tryz.func203
 intro Φ hΦ hF g
 unfold zbR at hF
 refine wW ?_
 refine wX zzF follows ?_
 obtain⟨g,hF⟩:=Rg g hF
 refine wC hF [.sh,.sh] zhl (fun z1 hF=>?_)
 obtain⟨g,hF⟩:=Rz g hF
 refine wK [6] ?_
 exact wm hΦ hF
@[go_sem] def zzA:List DE:=[d2 0 [5] 5 5,d0 1 [1],d0 2 [2],d2 3 [5] 5 5,d0 4 [2],d0 5 [3],d1 7 [11] 11,d2 8 [27] 11 27,d3 6 [23,24,25],d3 9 [22,26,28],d3 10 [20,21,29],d0 11 [30]]
@[go_sem] def zAw:List DE:=[d1 0 [11] 11,d2 1 [41] 11 41,d0 2 [4],d0 3 [13],d0 4 [43,44],d0 5 [45],d0 6 [12],d0 7 [14],d0 8 [47,48],d0 9 [46,49],d1 10 [5] 5,d2 11 [51] 5 51,d0 12 [50,52],d0 13 [53],⟨14,[42,54],[],none,true,false,false⟩,d1 15 [11] 11,d2 16 [56,55] 11 56]
def zf6 (a0:Group) (a1:ByteArray) (a2:(List (List Int))) (a3:List Int) (a4:List Int):Option Proof:=
 (zeQ a0 a2 a4).bind fun z1=>
 (zeQ a0 a2 a3).bind fun z2=>
 (zeD a2 z2 z1).bind fun z3=>
 (zbR a0 a1 z3).bind fun z4=>
 ((zap (σ:=(List Int)×List Int×List Int) (fun i18 s17=>
 (ix a3 i18).bind fun x24=>
 (ix a4 i18).bind fun x25=>
 gd (a0.Q≠0)<|
 gd ((s17.2.2.length+1)*8≤140737488355328∧s17.2.2.length+1≤4611686018427387904)<|
 some (.go (s17.1,s17.2.1,s17.2.2++[(i64.wrap (x25+(i64.wrap (z4*x24)))).tmod a0.Q]))) (fun s17=>(s17.1,s17.2.1,s17.2.2)) (a3.length) 0 (z1,[z4],[]):Option ((List Int×List Int×List Int))).bind fun x7=>
 some (Proof.mk x7.1 x7.2.1 x7.2.2))
theorem zpM:∀{a0}{a1}{a2}{a3}{a4}{r},zf6 a0 a1 a2 a3 a4=some r→PCalls Tryz.prog 144 [(.sh,vE a0),(.sh,.str a1),(.sh,vH a2),(.sh,vC a3),(.sh,vC a4)] (Eo (vJ r) [.junk,.junk,.junk,.junk,.junk]):=by
 intro a0 a1 a2 a3 a4 r hr
 apply pF 59 [] [] [] [.cell 10 49] hr zB7 Tryz.func144
 intro Φ hΦ hF g
 unfold zf6 at hF
 refine wW ?_
 refine wC hF [.sh,.sh,.sh] zkM (fun z1 hF=>?_)
 refine wW ?_
 refine wX zzA follows ?_
 refine wC hF [.sh,.sh,.sh] zkM (fun z2 hF=>?_)
 refine wC hF [.sh,.sh,.sh] zmZ (fun z3 hF=>?_)
 refine wC hF [.sh,.sh,.sh] ziV (fun z4 hF=>?_)
 refine wK [3,4,5,10,11,12] ?_
 iterate 2 (try simp[go_sem,g];try intros;refine zat ?_)
 refine wJ hF (fun x7=>[(10,.bl [.sl true 1 [],.sl true 1 [],.sl true 1 []]),(11,.bl [vD x7.1,vD x7.2.1,vD x7.2.2])]) (fun x7 hF=>?_) fun _ hj5 hF=>?_
 ·exact wl hΦ hF
 refine wB ?_
 obtain⟨b26,hb27,hψ21⟩:=hF
 refine pR hb27 (fun i18 s17=>[(4,.v (vC a4)),(5,.bl [.int .i64 a0.P,.int .i64 a0.Q,.int .i64 a0.G]),(10,.bl [.sl true 1 [],.sl true 1 [],.sl true 1 []]),(11,.bl [vD s17.1,vD s17.2.1,vD s17.2.2]),(12,.v (.int .i64 z4)),(34,.v (vC a3)),(35,.v (.int .i64 (a3.length:Int))),(36,.v (.int .i64 i18))]) (fun s17 _ hN28=>?_) (fun i18 s17 _ _ hi22 hi23 ho19 hg20 hF=>?_)
 ·exact wn hN28 (hj5 _) hψ21
 refine wW ?_
 refine wu hi22 hi23 ?_
 refine wW ?_
 refine wB ?_
 obtain⟨x24,g,hF⟩:=Rx g hF
 refine wK [4,5,10,11,12,13,14,34,35,36] ?_
 refine wX zAw follows ?_
 obtain⟨x25,g,hF⟩:=Rx g hF
 obtain⟨g,hF⟩:=Rz g hF
 obtain⟨g,hF⟩:=Rg g hF
 refine wK [4,5,10,11,12,34,35,36] ?_
 exact wi hi22 hi23 (hg20 _) (zaa hF)
def zgu (a0:List Int):Option ((List Int)):=
 gd (a0.length*8≤140737488355328∧a0.length≤4611686018427387904)<|
 some a0
theorem zl0:∀{a0}{r},zgu a0=some r→PCalls Tryz.prog 102 [(.sh,vC a0)] (Eo (vD r) [.junk]):=by
 intro a0 r hr
 apply pF 6 [] [] [] [.tmp 2] hr zEW Tryz.func102
 intro Φ hΦ hF g
 unfold zgu at hF
 obtain⟨g,hF⟩:=Rg g hF
 cases hΦ _ (zaa hF)
 iterate 2 refine wW ?_
 try simp[go_sem,g]
def zfN (a0:Contest) (a1:List Int):Option ((List Int)):=
 if(a0.Kind==1)=true then(
 (zeu a0 a1).bind fun z2=>
 some z2)else(
 if(a0.Kind==2)=true then(
 (zgu a1).bind fun z4=>
 some z4)else(
 (zcI a0 a1).bind fun z5=>
 some [z5]))
theorem zqm:∀{a0}{a1}{r},zfN a0 a1=some r→PCalls Tryz.prog 145 [(.sh,vF a0),(.sh,vC a1)] (Eo (vD r) [.junk,.junk]):=by
 intro a0 a1 r hr
 apply pF 20 [] [] [] [.tmp 4] hr zEK Tryz.func145
 intro Φ hΦ hF g
 unfold zfN at hF
 iterate 2 refine wW ?_
 refine wB ?_
 refine wW ?_
 refine wI hF (fun h1 hF=>?_) (fun h1 hF=>?_)
 ·refine wC hF [.sh,.sh] zlv (fun z2 hF=>?_)
  refine wK [4] ?_
  exact wm hΦ hF
 refine wW ?_
 refine wI hF (fun h3 hF=>?_) (fun h3 hF=>?_)
 ·refine wC hF [.sh] zl0 (fun z4 hF=>?_)
  refine wK [4] ?_
  exact wm hΦ hF
 refine wW ?_
 refine wC hF [.sh,.sh] zjC (fun z5 hF=>?_)
 refine wK [4] ?_
 exact wm hΦ hF
@[go_sem] def zzS:List DE:=[d0 0 [11],d1 1 [5] 5,d2 2 [20] 5 20,d1 3 [7] 7,d2 4 [22] 7 22,d0 5 [1],d2 6 [5] 5 5,d1 7 [7] 7,d2 8 [26] 7 26,d2 9 [5] 5 5,d1 10 [5] 5,d2 11 [29] 5 29,d0 12 [12],d0 13 [31],d3 14 [28,30,32],d0 15 [27,33],⟨16,[25,34],[],none,true,true,true⟩,d0 17 [21,23,24,35],d0 18 [36],⟨19,[19,37],[],none,true,false,false⟩,d0 20 [38]]
def zcF (a0:Group) (a1:Int) (a2:Cipher) (a3:Int) (a4:Int):Option ((List EqualLog)):=
 ((zaQ (σ:=(List EqualLog)×Int) (fun s4=>
 if decide (s4.2≤a4)=true then(
 (zaA a0 a0.G (i64.wrap (0-s4.2))).bind fun z10=>
 (zbL a0 [a2.B,z10]).bind fun z11=>
 gd ((s4.1.length+1)*32≤140737488355328∧s4.1.length+1≤4611686018427387904)<|
 some (.go (s4.1++[(EqualLog.mk a0.G a2.A a1 z11)],i64.wrap (s4.2+1))))else(
 some (.out s4.1))) ([],a3):Option ((List EqualLog))).bind fun x3=>
 some x3)
theorem zit:∀{a0}{a1}{a2}{a3}{a4}{r},zcF a0 a1 a2 a3 a4=some r→PCalls Tryz.prog 147 [(.sh,vE a0),(.sh,.int .i64 a1),(.sh,vG a2),(.sh,.int .i64 a3),(.sh,.int .i64 a4)] (Eo (vK r) [.junk,.junk,.junk,.junk,.junk]):=by
 intro a0 a1 a2 a3 a4 r hr
 apply pF 40 [] [] [] [.tmp 10] hr zB0 Tryz.func147
 intro Φ hΦ hF g
 unfold zcF at hF
 iterate 3 refine wW ?_
 refine wJ hF (fun x3=>[(11,.v (vK x3))]) (fun x3 hF=>?_) fun _ hj1 hF=>?_
 ·exact wl hΦ hF
 refine wB ?_
 obtain⟨b12,hb13,hψ8⟩:=hF
 refine pL hb13 (fun s4=>[(1,.v (.int .i64 a1)),(4,.v (.int .i64 a4)),(5,.bl [.int .i64 a0.P,.int .i64 a0.Q,.int .i64 a0.G]),(7,.bl [.int .i64 a2.A,.int .i64 a2.B]),(11,.v (vK s4.1)),(12,.v (.int .i64 s4.2))]) (fun s4 _ _ ho6 hg7 hF=>?_)
 refine wW ?_
 refine wI hF (fun h9 hF=>?_) (fun h9 hF=>?_)
 ·refine wW ?_
  refine wB ?_
  refine wX zzS follows ?_
  refine wC hF [.sh,.sh,.sh] zcm (fun z10 hF=>?_)
  refine wC hF [.sh,.sh] zge (fun z11 hF=>?_)
  obtain⟨g,hF⟩:=Rg g hF
  refine wK [1,4,5,7,11,12] ?_
  exact wT (hg7 _) (zaa hF)
 cases ho6 _ (zaa hF)
 exact wT (hj1 _) hψ8
@[go_sem] def zAR:List DE:=[d2 0 [4] 4 4,d0 1 [1],d0 2 [9],d0 3 [3],d0 4 [32,33],d3 5 [30,31,34],d0 6 [35]]
def zf3 (a0:Group) (a1:ByteArray) (a2:List EqualLog) (a3:List Int):Option Int:=
 ((zap (σ:=(List Int)) (fun i5 s4=>
 (ix a2 i5).bind fun x11=>
 gd ((s4.length+4)*8≤140737488355328∧s4.length+4≤4611686018427387904)<|
 some (.go (s4++[x11.G1,x11.Y1,x11.G2,x11.Y2]))) (fun s4=>s4) (a2.length) 0 []:Option ((List Int))).bind fun x3=>
 gd ((x3.length+a3.length)*8≤140737488355328∧x3.length+a3.length≤4611686018427387904)<|
 (zbR a0 a1 (x3++a3)).bind fun z16=>
 some z16)
theorem zpU:∀{a0}{a1}{a2}{a3}{r},zf3 a0 a1 a2 a3=some r→PCalls Tryz.prog 206 [(.sh,vE a0),(.sh,.str a1),(.sh,vL a2),(.sh,vC a3)] (Eo (.int .i64 r) [.junk,.junk,.junk,.junk]):=by
 intro a0 a1 a2 a3 r hr
 apply pF 36 [] [] [] [.tmp 8] hr zB8 Tryz.func206
 intro Φ hΦ hF g
 unfold zf3 at hF
 iterate 3 (try simp[go_sem,g];try intros;refine zat ?_)
 refine wJ hF (fun x3=>[(1,.v (.str a1)),(3,.v (vC a3)),(4,.bl [.int .i64 a0.P,.int .i64 a0.Q,.int .i64 a0.G]),(9,.v (vD x3))]) (fun x3 hF=>?_) fun _ hj1 hF=>?_
 ·refine wX zAR follows ?_
  obtain⟨g,hF⟩:=Rg g hF
  refine wC hF [.sh,.sh,.sh] ziV (fun z16 hF=>?_)
  refine wK [8] ?_
  exact wm hΦ hF
 refine wB ?_
 obtain⟨b12,hb13,hψ8⟩:=hF
 refine pR hb13 (fun i5 s4=>[(1,.v (.str a1)),(3,.v (vC a3)),(4,.bl [.int .i64 a0.P,.int .i64 a0.Q,.int .i64 a0.G]),(9,.v (vD s4)),(12,.v (vL a2)),(13,.v (.int .i64 (a2.length:Int))),(14,.v (.int .i64 i5))]) (fun s4 _ hN14=>?_) (fun i5 s4 _ _ hi9 hi10 ho6 hg7 hF=>?_)
 ·exact wn hN14 (hj1 _) hψ8
 refine wW ?_
 refine wu hi9 hi10 ?_
 refine wW ?_
 refine wB ?_
 obtain⟨x11,g,hF⟩:=Rx g hF
 refine wK [1,3,4,9,11,12,13,14] ?_
 obtain⟨g,hF⟩:=Rg g hF
 refine wK [1,3,4,9,12,13,14] ?_
 exact wi hi9 hi10 (hg7 _) (zaa hF)
@[go_sem] def zyA:List DE:=[d0 0 [5],d0 1 [62],d0 2 [63],d0 3 [5],d0 4 [65],d0 5 [66],d0 6 [64],d0 7 [67]]
@[go_sem] def zyX:List DE:=[d1 0 [13] 13,d2 1 [70] 13 70,d2 2 [6] 6 6,d2 3 [6] 6 6,d1 4 [17] 17,d2 5 [74] 17 74,d0 6 [19],d2 8 [6] 6 6,d1 9 [17] 17,d2 10 [79] 17 79,d0 11 [18],d0 12 [81],d2 16 [6] 6 6,d2 17 [6] 6 6,d1 18 [17] 17,d2 19 [88] 17 88,d0 20 [19],d2 22 [6] 6 6,d1 23 [17] 17,d2 24 [93] 17 93,d0 25 [18],d0 26 [95],d3 7 [73,75,76],d3 13 [78,80,82],d0 14 [77,83],⟨15,[72,84],[],none,true,true,true⟩,d3 21 [87,89,90],d3 27 [92,94,96],d0 28 [91,97],⟨29,[86,98],[],none,true,true,true⟩,d0 30 [85,99],⟨31,[71,100],[],none,true,false,false⟩,d1 32 [13] 13,d2 33 [102,101] 13 102]
@[go_sem] def zyt:List DE:=[d2 0 [6] 6 6,d0 1 [1],d0 2 [2],d1 3 [13] 13,d2 4 [125] 13 125,d0 6 [15],d1 8 [6] 6,d2 9 [130] 6 130,d3 5 [122,123,124,126],d0 7 [127,128],d3 10 [129,131],d0 11 [132]]
@[go_sem] def zy0:List DE:=[d1 0 [13] 13,d2 1 [138] 13 138,d0 2 [3],d0 3 [14],d0 4 [20],d0 5 [4],d0 6 [142,143],d0 7 [141,144],d1 8 [6] 6,d2 9 [146] 6 146,d0 10 [145,147],d0 11 [139,140],d0 12 [149,148]]
@[go_sem] def zAC:List DE:=[d1 0 [13] 13,d2 1 [37] 13 37,d2 2 [6] 6 6,d1 3 [17] 17,d2 4 [40] 17 40,d0 5 [14],d2 7 [6] 6 6,d1 8 [17] 17,d2 9 [45] 17 45,d0 10 [14],d3 6 [39,41,42],d3 11 [44,46,47],d0 12 [43,48],⟨13,[38,49],[],none,true,false,false⟩,d1 14 [13] 13,d2 15 [51,50] 13 51]
def zes (a0:Group) (a1:ByteArray) (a2:List EqualLog) (a3:Int) (a4:Int) (a5:List Int):Option Proof:=
 (ix a5 (i64.wrap ((a5.length:Int)-1))).bind fun x1=>
 ((zap (σ:=(List Int)×List Int×List Int×List Int×Int) (fun i28 s27=>
 (((ix a2 i28).bind fun x37=>
 if(i28==a3)=true then(
 (zaA a0 x37.G1 x1).bind fun z39=>
 (zaA a0 x37.G2 x1).bind fun z40=>
 gd ((s27.2.1.length+2)*8≤140737488355328∧s27.2.1.length+2≤4611686018427387904)<|
 gd ((s27.2.2.1.length+1)*8≤140737488355328∧s27.2.2.1.length+1≤4611686018427387904)<|
 gd ((s27.2.2.2.1.length+1)*8≤140737488355328∧s27.2.2.2.1.length+1≤4611686018427387904)<|
 some (s27.1,s27.2.1++[z39,z40],s27.2.2.1++[0],s27.2.2.2.1++[0],s27.2.2.2.2))else(
 (ix s27.1 0).bind fun x41=>
 (ix s27.1 1).bind fun x42=>
 gd (2≤s27.1.length∧s27.1.length≤s27.1.length)<|
 (zaA a0 x37.G1 x42).bind fun z43=>
 (zaA a0 x37.Y1 (i64.wrap (0-x41))).bind fun z44=>
 (zbL a0 [z43,z44]).bind fun z45=>
 (zaA a0 x37.G2 x42).bind fun z46=>
 (zaA a0 x37.Y2 (i64.wrap (0-x41))).bind fun z47=>
 (zbL a0 [z46,z47]).bind fun z48=>
 gd ((s27.2.1.length+2)*8≤140737488355328∧s27.2.1.length+2≤4611686018427387904)<|
 gd ((s27.2.2.1.length+1)*8≤140737488355328∧s27.2.2.1.length+1≤4611686018427387904)<|
 gd ((s27.2.2.2.1.length+1)*8≤140737488355328∧s27.2.2.2.1.length+1≤4611686018427387904)<|
 gd (a0.Q≠0)<|
 some ((s27.1.take s27.1.length).drop 2,s27.2.1++[z45,z48],s27.2.2.1++[x41],s27.2.2.2.1++[x42],(i64.wrap (s27.2.2.2.2+x41)).tmod a0.Q)):Option ((List Int×List Int×List Int×List Int×Int))).bind fun x36=>
 some (.go (x36.1,x36.2.1,x36.2.2.1,x36.2.2.2.1,x36.2.2.2.2)))) (fun s27=>(s27.2.1,s27.2.2.1,s27.2.2.2.1,s27.2.2.2.2)) (a2.length) 0 (a5,[],[],[],0):Option ((List Int×List Int×List Int×Int))).bind fun x4=>
 (zf3 a0 a1 a2 x4.1).bind fun z53=>
 (zea (i64.wrap (z53-x4.2.2.2)) a0.Q).bind fun z54=>
 (ix x4.2.1 a3).bind fun x55=>
 gd (a0.Q≠0)<|
 (ix x4.2.2.1 a3).bind fun x56=>
 some (Proof.mk x4.1 (x4.2.1.set a3.toNat z54) (x4.2.2.1.set a3.toNat ((i64.wrap (x1+(i64.wrap (z54*a4)))).tmod a0.Q))))
theorem zlq:∀{a0}{a1}{a2}{a3}{a4}{a5}{r},zes a0 a1 a2 a3 a4 a5=some r→PCalls Tryz.prog 146 [(.sh,vE a0),(.sh,.str a1),(.sh,vL a2),(.sh,.int .i64 a3),(.sh,.int .i64 a4),(.sh,vC a5)] (Eo (vJ r) [.junk,.junk,.junk,.junk,.junk,.junk]):=by
 intro a0 a1 a2 a3 a4 a5 r hr
 apply pF 151 [] [] [] [.cell 12 49] hr zDB Tryz.func146
 intro Φ hΦ hF g
 unfold zes at hF
 obtain⟨x1,g,hF⟩:=Rx g hF
 iterate 2 (try simp[go_sem,g];try intros;refine zat ?_)
 try simp[go_sem,g]
 try intros
 refine wK [1,2,3,4,5,6,12,13,14] ?_
 iterate 2 (try simp[go_sem,g];try intros;refine zat ?_)
 refine wJ hF (fun x4=>[(1,.v (.str a1)),(2,.v (vL a2)),(3,.v (.int .i64 a3)),(4,.v (.int .i64 a4)),(6,.bl [.int .i64 a0.P,.int .i64 a0.Q,.int .i64 a0.G]),(12,.bl [.sl true 1 [],.sl true 1 [],.sl true 1 []]),(13,.bl [vD x4.1,vD x4.2.1,vD x4.2.2.1]),(14,.v (.int .i64 x1)),(15,.v (.int .i64 x4.2.2.2))]) (fun x4 hF=>?_) fun _ hj2 hF=>?_
 ·refine wX zyt follows ?_
  refine wC hF [.sh,.sh,.sh,.sh] zpU (fun z53 hF=>?_)
  refine wC hF [.sh,.sh] zkj (fun z54 hF=>?_)
  refine wK [3,4,6,12,13,14,20] ?_
  obtain⟨x55,g,hF⟩:=Rx g hF
  refine wW ?_
  refine wX zy0 follows ?_
  obtain⟨g,hF⟩:=Rz g hF
  obtain⟨x56,g,hF⟩:=Rx g hF
  refine wK [12,13] ?_
  exact wl hΦ hF
 refine wB ?_
 obtain⟨b49,hb50,hψ31⟩:=hF
 refine pR hb50 (fun i28 s27=>[(1,.v (.str a1)),(2,.v (vL a2)),(3,.v (.int .i64 a3)),(4,.v (.int .i64 a4)),(5,.v (vC s27.1)),(6,.bl [.int .i64 a0.P,.int .i64 a0.Q,.int .i64 a0.G]),(12,.bl [.sl true 1 [],.sl true 1 [],.sl true 1 []]),(13,.bl [vD s27.2.1,vD s27.2.2.1,vD s27.2.2.2.1]),(14,.v (.int .i64 x1)),(15,.v (.int .i64 s27.2.2.2.2)),(27,.v (vL a2)),(28,.v (.int .i64 (a2.length:Int))),(29,.v (.int .i64 i28))]) (fun s27 _ hN51=>?_) (fun i28 s27 _ _ hi32 hi33 ho29 hg30 hF=>?_)
 ·exact wn hN51 (hj2 _) hψ31
 refine wW ?_
 refine wu hi32 hi33 ?_
 refine wW ?_
 refine wJ hF (fun x36=>[(1,.v (.str a1)),(2,.v (vL a2)),(3,.v (.int .i64 a3)),(4,.v (.int .i64 a4)),(5,.v (vC x36.1)),(6,.bl [.int .i64 a0.P,.int .i64 a0.Q,.int .i64 a0.G]),(12,.bl [.sl true 1 [],.sl true 1 [],.sl true 1 []]),(13,.bl [vD x36.2.1,vD x36.2.2.1,vD x36.2.2.2.1]),(14,.v (.int .i64 x1)),(15,.v (.int .i64 x36.2.2.2.2)),(27,.v (vL a2)),(28,.v (.int .i64 (a2.length:Int))),(29,.v (.int .i64 i28))]) (fun x36 hF=>?_) fun _ hj34 hF=>?_
 ·exact wi hi32 hi33 (hg30 _) (zaa hF)
 refine wB ?_
 obtain⟨x37,g,hF⟩:=Rx g hF
 refine wK [1,2,3,4,5,6,12,13,14,15,16,17,27,28,29] ?_
 refine wW ?_
 refine wI hF (fun h38 hF=>?_) (fun h38 hF=>?_)
 ·refine wX zAC follows ?_
  refine wC hF [.sh,.sh,.sh] zcm (fun z39 hF=>?_)
  refine wC hF [.sh,.sh,.sh] zcm (fun z40 hF=>?_)
  obtain⟨g,hF⟩:=Rg g hF
  refine wK [1,2,3,4,5,6,12,13,14,15,27,28,29] ?_
  obtain⟨g,hF⟩:=Rg g hF
  obtain⟨g,hF⟩:=Rg g hF
  refine wW ?_
  refine wK [1,2,3,4,5,6,12,13,14,15,27,28,29] ?_
  exact wT (hj34 _) (zaa hF)
 refine wW ?_
 refine wX zyA follows ?_
 obtain⟨x41,g,hF⟩:=Rxn g 0 hF
 obtain⟨x42,g,hF⟩:=Rxn g 1 hF
 refine wK [1,2,3,4,5,6,12,13,14,15,17,18,19,27,28,29] ?_
 obtain⟨g,hF⟩:=Rg g hF
 refine wW ?_
 refine wX zyX follows ?_
 refine wC hF [.sh,.sh,.sh] zcm (fun z43 hF=>?_)
 refine wC hF [.sh,.sh,.sh] zcm (fun z44 hF=>?_)
 refine wC hF [.sh,.sh] zge (fun z45 hF=>?_)
 refine wC hF [.sh,.sh,.sh] zcm (fun z46 hF=>?_)
 refine wC hF [.sh,.sh,.sh] zcm (fun z47 hF=>?_)
 refine wC hF [.sh,.sh] zge (fun z48 hF=>?_)
 obtain⟨g,hF⟩:=Rg g hF
 refine wK [1,2,3,4,5,6,12,13,14,15,18,19,27,28,29] ?_
 obtain⟨g,hF⟩:=Rg g hF
 obtain⟨g,hF⟩:=Rg g hF
 refine wW ?_
 refine wK [1,2,3,4,5,6,12,13,14,15,18,27,28,29] ?_
 obtain⟨g,hF⟩:=Rz g hF
 exact wT (hj34 _) (zaa hF)
@[go_sem] def zzT:List DE:=[d2 0 [2] 2 2,d1 1 [5] 5,d2 2 [16] 5 16,d1 3 [7] 7,d2 4 [18] 7 18,d0 5 [17,19],d2 7 [2] 2 2,d1 8 [5] 5,d2 9 [23] 5 23,d1 10 [7] 7,d2 11 [25] 7 25,d0 12 [24,26],⟨6,[15,20],[],none,true,true,true⟩,⟨13,[22,27],[],none,true,true,true⟩,d0 14 [21,28],d2 15 [5,29] 5 5]
def zgX (a0:Group) (a1:List Cipher):Option Cipher:=
 ((zap (σ:=Int×Int) (fun i15 s14=>
 (ix a1 i15).bind fun x21=>
 (zbL a0 [s14.1,x21.A]).bind fun z22=>
 (zbL a0 [s14.2,x21.B]).bind fun z23=>
 some (.go (z22,z23))) (fun s14=>(s14.1,s14.2)) (a1.length) 0 (1,1):Option ((Int×Int))).bind fun x3=>
 some (Cipher.mk x3.1 x3.2))
theorem zsr:∀{a0}{a1}{r},zgX a0 a1=some r→PCalls Tryz.prog 148 [(.sh,vE a0),(.sh,vO a1)] (Eo (vG r) [.junk,.junk]):=by
 intro a0 a1 r hr
 apply pF 32 [] [] [] [.cell 4 88] hr zCJ Tryz.func148
 intro Φ hΦ hF g
 unfold zgX at hF
 iterate 3 (try simp[go_sem,g];try intros;refine zat ?_)
 refine wJ hF (fun x3=>[(4,.bl [.int .i64 0,.int .i64 0]),(5,.bl [.int .i64 x3.1,.int .i64 x3.2])]) (fun x3 hF=>?_) fun _ hj1 hF=>?_
 ·refine wK [4] ?_
  exact wm hΦ hF
 refine wB ?_
 obtain⟨b24,hb25,hψ18⟩:=hF
 refine pR hb25 (fun i15 s14=>[(2,.bl [.int .i64 a0.P,.int .i64 a0.Q,.int .i64 a0.G]),(4,.bl [.int .i64 0,.int .i64 0]),(5,.bl [.int .i64 s14.1,.int .i64 s14.2]),(9,.v (vO a1)),(10,.v (.int .i64 (a1.length:Int))),(11,.v (.int .i64 i15))]) (fun s14 _ hN26=>?_) (fun i15 s14 _ _ hi19 hi20 ho16 hg17 hF=>?_)
 ·exact wn hN26 (hj1 _) hψ18
 refine wW ?_
 refine wu hi19 hi20 ?_
 refine wW ?_
 refine wB ?_
 obtain⟨x21,g,hF⟩:=Rx g hF
 refine wK [2,4,5,7,9,10,11] ?_
 refine wX zzT follows ?_
 refine wC hF [.sh,.sh] zge (fun z22 hF=>?_)
 refine wC hF [.sh,.sh] zge (fun z23 hF=>?_)
 refine wK [2,4,5,9,10,11] ?_
 exact wi hi19 hi20 (hg17 _) (zaa hF)
@[go_sem] def zAz:List DE:=[d2 0 [6] 6 6,d0 1 [1],d0 2 [19],d0 3 [5],d0 4 [72],d0 5 [73],d0 7 [],d3 6 [69,70,71,74],d2 8 [20,75] 20 20]
@[go_sem] def zAn:List DE:=[d1 0 [13] 13,d2 1 [82] 13 82,d2 2 [6] 6 6,d0 3 [14],d2 4 [6] 6 6,d0 5 [1],d2 6 [20] 20 20,d0 7 [15],d0 9 [19],d0 10 [5],d0 11 [92],d0 12 [93],d0 13 [5],d0 14 [15],d0 15 [96],d0 16 [97],d0 17 [95,98],⟨8,[86,87,88,89],[],none,false,true,false⟩,d3 18 [84,85,90,91,94,99],d0 19 [100],⟨20,[83,101],[],none,true,false,false⟩,d1 21 [13] 13,d2 22 [103,102] 13 103]
@[go_sem] def zA3:List DE:=[d0 0 [17],d0 1 [5],d0 2 [108],d0 3 [109],d0 4 [107,110],d1 5 [6] 6,d2 6 [112] 6 112,d0 7 [111,113],d0 8 [114]]
@[go_sem] def zAy:List DE:=[d2 0 [6] 6 6,d0 1 [14],d2 2 [6] 6 6,d0 3 [1],d2 4 [6] 6 6,d1 5 [13] 13,d2 6 [126] 13 126,d1 8 [8] 8,d2 9 [129] 8 129,d1 10 [8] 8,d2 11 [131] 8 131,d0 13 [16],d1 14 [8] 8,d2 15 [135] 8 135,d0 16 [134,136],d0 17 [17],d0 18 [5],d3 7 [125,127],d3 12 [123,124,128,130,132],d3 19 [121,122,133,137,138,139],d1 20 [13] 13,d2 21 [141,140] 13 141]
@[go_sem] def zCI:List DE:=[d1 0 [13] 13,d2 1 [28] 13 28,d2 2 [6] 6 6,d0 3 [1],d2 4 [8] 8 8,d0 5 [4],d0 7 [5],d0 8 [35],d0 9 [36],⟨6,[32,33],[],none,false,true,false⟩,d3 10 [30,31,34,37],d0 11 [38],⟨12,[29,39],[],none,true,false,false⟩,d1 13 [13] 13,d2 14 [41,40] 13 41]
@[go_sem] def zCx:List DE:=[d1 0 [13] 13,d2 1 [42] 13 42,d2 2 [6] 6 6,d0 3 [14],d1 4 [6] 6,d2 5 [46] 6 46,d0 6 [47],d0 8 [5],d0 9 [50],d0 10 [5],d0 11 [52],⟨7,[48],[],none,true,true,false⟩,⟨12,[44,45,49,51,53],[],none,true,true,true⟩,d0 13 [54],⟨14,[43,55],[],none,true,false,false⟩,d1 15 [13] 13,d2 16 [57,56] 13 57]
def zgv (a0:Group) (a1:Int) (a2:Contest) (a3:Int) (a4:List Int) (a5:List Int):Option Sealed:=
 (zf9 a3).bind fun z1=>
 (zeT a2).bind fun z2=>
 if(!z2)=true then(
 (ix a5 0).bind fun x4=>
 (zcI a2 a4).bind fun z5=>
 (zfs a0 a1 z5 x4).bind fun z6=>
 gd (1*16≤140737488355328∧1≤4611686018427387904)<|
 gd (0≤1∧1≤a5.length)<|
 gd (1≤2∧2≤a5.length)<|
 (zf6 a0 z1 [[a0.G]] ((a5.take 1).drop 0) ((a5.take 2).drop 1)).bind fun z7=>
 gd (1*72≤140737488355328∧1≤4611686018427387904)<|
 some (Sealed.mk a3 [z6] [z7] (Proof.mk [] [] [])))else(
 (zga a2).bind fun z8=>
 (zfN a2 a4).bind fun z9=>
 ((zap (σ:=(List Int)×Int×List Cipher×List Proof×List Int×List Int×List Int×Int×Int) (fun i38 s37=>
 (ix z9 i38).bind fun x44=>
 (ix s37.1 0).bind fun x45=>
 (zfs a0 a1 x44 x45).bind fun z46=>
 gd ((s37.2.2.1.length+1)*16≤140737488355328∧s37.2.2.1.length+1≤4611686018427387904)<|
 gd (0≤(i64.wrap ((i64.wrap (2*z8))+2)))<|
 gd (1≤(i64.wrap ((i64.wrap (2*z8))+2)).toNat∧(i64.wrap ((i64.wrap (2*z8))+2)).toNat≤s37.1.length)<|
 (zcF a0 a1 z46 0 z8).bind fun z47=>
 (zes a0 z1 z47 x44 x45 ((s37.1.take ((i64.wrap ((i64.wrap (2*z8))+2)).toNat)).drop 1)).bind fun z48=>
 gd ((s37.2.2.2.1.length+1)*72≤140737488355328∧s37.2.2.2.1.length+1≤4611686018427387904)<|
 gd (a0.Q≠0)<|
 gd (0≤(i64.wrap ((i64.wrap (2*z8))+2)))<|
 gd ((i64.wrap ((i64.wrap (2*z8))+2)).toNat≤s37.1.length∧s37.1.length≤s37.1.length)<|
 some (.go ((s37.1.take s37.1.length).drop ((i64.wrap ((i64.wrap (2*z8))+2)).toNat),s37.2.1,s37.2.2.1++[z46],s37.2.2.2.1++[z48],s37.2.2.2.2.1,s37.2.2.2.2.2.1,s37.2.2.2.2.2.2.1,i64.wrap (s37.2.2.2.2.2.2.2.1+x44),(i64.wrap (s37.2.2.2.2.2.2.2.2+x45)).tmod a0.Q))) (fun s37=>(s37.1,s37.2.1,s37.2.2.1,s37.2.2.2.1,s37.2.2.2.2.1,s37.2.2.2.2.2.1,s37.2.2.2.2.2.2.1,s37.2.2.2.2.2.2.2.1,s37.2.2.2.2.2.2.2.2)) (z9.length) 0 (a5,a3,[],[],[],[],[],0,0):Option ((List Int×Int×List Cipher×List Proof×List Int×List Int×List Int×Int×Int))).bind fun x12=>
 (zgX a0 x12.2.2.1).bind fun z53=>
 (zcF a0 a1 z53 a2.Least a2.Most).bind fun z54=>
 (zes a0 z1 z54 (i64.wrap (x12.2.2.2.2.2.2.2.1-a2.Least)) x12.2.2.2.2.2.2.2.2 x12.1).bind fun z55=>
 some (Sealed.mk x12.2.1 x12.2.2.1 x12.2.2.2.1 z55)))
theorem zrA:∀{a0}{a1}{a2}{a3}{a4}{a5}{r},zgv a0 a1 a2 a3 a4 a5=some r→PCalls Tryz.prog 68 [(.sh,vE a0),(.sh,.int .i64 a1),(.sh,vF a2),(.sh,.int .i64 a3),(.sh,vC a4),(.sh,vC a5)] (Eo (vP r) [.junk,.junk,.junk,.junk,.junk,.junk]):=by
 intro a0 a1 a2 a3 a4 a5 r hr
 apply pF 143 [] [] [] [.cell 12 51] hr zH6 Tryz.func68
 intro Φ hΦ hF g
 unfold zgv at hF
 iterate 2 refine wW ?_
 refine wC hF [.sh] zpO (fun z1 hF=>?_)
 refine wK [1,4,5,6,8,12,13,14] ?_
 refine wC hF [.sh] zjt (fun z2 hF=>?_)
 refine wW ?_
 refine wI hF (fun h3 hF=>?_) (fun h3 hF=>?_)
 ·refine wX zCI follows ?_
  obtain⟨x4,g,hF⟩:=Rxn g 0 hF
  refine wD hF zjC (fun z5 hF=>?_)
  refine wC hF [.sh,.sh,.sh,.sh] znb (fun z6 hF=>?_)
  obtain⟨g,hF⟩:=Rg g hF
  refine wK [5,6,12,13,14] ?_
  refine wX zCx follows ?_
  obtain⟨g,hF⟩:=Rg g hF
  obtain⟨g,hF⟩:=Rg g hF
  refine wC hF [.sh,.sh,.sh,.sh,.sh] zpM (fun z7 hF=>?_)
  obtain⟨g,hF⟩:=Rg g hF
  refine wK [12,13] ?_
  exact wl hΦ hF
 refine wW ?_
 refine wC hF [.sh] zm4 (fun z8 hF=>?_)
 iterate 2 refine wW ?_
 refine wC hF [.sh,.sh] zqm (fun z9 hF=>?_)
 try simp[go_sem,g]
 try intros
 refine wK [1,5,6,8,12,13,14,15,16,17,63,64,65] ?_
 refine wJ hF (fun x12=>[(1,.v (.int .i64 a1)),(5,.v (vC x12.1)),(6,.bl [.int .i64 a0.P,.int .i64 a0.Q,.int .i64 a0.G]),(8,.bl [.int .i64 a2.Kind,.int .i64 a2.Options,.int .i64 a2.Least,.int .i64 a2.Most,.int .i64 a2.Points]),(12,.bl [.int .i64 0,.sl true 2 [],.sl true 3 [],.sl true 1 [],.sl true 1 [],.sl true 1 []]),(13,.bl [.int .i64 x12.2.1,vM x12.2.2.1,vN x12.2.2.2.1,vD x12.2.2.2.2.1,vD x12.2.2.2.2.2.1,vD x12.2.2.2.2.2.2.1]),(14,.v (.str z1)),(16,.v (.int .i64 x12.2.2.2.2.2.2.2.1)),(17,.v (.int .i64 x12.2.2.2.2.2.2.2.2))]) (fun x12 hF=>?_) fun _ hj10 hF=>?_
 ·refine wX zAy follows ?_
  refine wC hF [.sh,.sh] zsr (fun z53 hF=>?_)
  refine wC hF [.sh,.sh,.sh,.sh,.sh] zit (fun z54 hF=>?_)
  refine wC hF [.sh,.sh,.sh,.sh,.sh,.sh] zlq (fun z55 hF=>?_)
  refine wK [12,13] ?_
  exact wl hΦ hF
 refine wB ?_
 obtain⟨b49,hb50,hψ41⟩:=hF
 refine pR hb50 (fun i38 s37=>[(1,.v (.int .i64 a1)),(5,.v (vC s37.1)),(6,.bl [.int .i64 a0.P,.int .i64 a0.Q,.int .i64 a0.G]),(8,.bl [.int .i64 a2.Kind,.int .i64 a2.Options,.int .i64 a2.Least,.int .i64 a2.Most,.int .i64 a2.Points]),(12,.bl [.int .i64 0,.sl true 2 [],.sl true 3 [],.sl true 1 [],.sl true 1 [],.sl true 1 []]),(13,.bl [.int .i64 s37.2.1,vM s37.2.2.1,vN s37.2.2.2.1,vD s37.2.2.2.2.1,vD s37.2.2.2.2.2.1,vD s37.2.2.2.2.2.2.1]),(14,.v (.str z1)),(15,.v (.int .i64 z8)),(16,.v (.int .i64 s37.2.2.2.2.2.2.2.1)),(17,.v (.int .i64 s37.2.2.2.2.2.2.2.2)),(63,.v (vD z9)),(64,.v (.int .i64 (z9.length:Int))),(65,.v (.int .i64 i38))]) (fun s37 _ hN51=>?_) (fun i38 s37 _ _ hi42 hi43 ho39 hg40 hF=>?_)
 ·exact wn hN51 (hj10 _) hψ41
 refine wW ?_
 refine wu hi42 hi43 ?_
 refine wW ?_
 refine wB ?_
 obtain⟨x44,g,hF⟩:=Rx g hF
 refine wW ?_
 refine wX zAz follows ?_
 obtain⟨x45,g,hF⟩:=Rxn g 0 hF
 refine wC hF [.sh,.sh,.sh,.sh] znb (fun z46 hF=>?_)
 refine wK [1,5,6,8,12,13,14,15,16,17,19,20,63,64,65] ?_
 obtain⟨g,hF⟩:=Rg g hF
 refine wW ?_
 refine wX zAn follows ?_
 obtain⟨g,hF⟩:=Rg g hF
 obtain⟨g,hF⟩:=Rg g hF
 refine wD hF zit (fun z47 hF=>?_)
 refine wC hF [.sh,.sh,.sh,.sh,.sh,.sh] zlq (fun z48 hF=>?_)
 obtain⟨g,hF⟩:=Rg g hF
 refine wK [1,5,6,8,12,13,14,15,16,17,19,63,64,65] ?_
 refine wW ?_
 refine wX zA3 follows ?_
 obtain⟨g,hF⟩:=Rz g hF
 refine wK [1,5,6,8,12,13,14,15,16,17,63,64,65] ?_
 obtain⟨g,hF⟩:=Rg g hF
 obtain⟨g,hF⟩:=Rg g hF
 refine wW ?_
 exact wi hi42 hi43 (hg40 _) (zaa hF)
def zfn (a0:Group) (a1:Int) (a2:Contest) (a3:Int) (a4:List Int) (a5:List Int):Option (Sealed×Bool):=
 (((zc7 a0 a2).bind fun z4=>
 if(!z4)=true then(
 some true)else(
 (zgM a0 [a1]).bind fun z6=>
 if(!z6)=true then(
 some true)else(
 (zaX a3 0 999999).bind fun z8=>
 if(!z8)=true then(
 some true)else(
 (zgs a2 a4).bind fun z10=>
 if(!z10)=true then(
 some true)else(
 (zeo a2).bind fun z12=>
 if((a5.length:Int) !=z12)=true then(
 some true)else(
 (zgC a0 a5).bind fun z14=>
 some (!z14)))))):Option Bool).bind fun x3=>
 if x3=true then(
 some ((Sealed.mk 0 [] [] (Proof.mk [] [] [])),false))else(
 (zgv a0 a1 a2 a3 a4 a5).bind fun z16=>
 some (z16,true)))
theorem zoi:∀{a0}{a1}{a2}{a3}{a4}{a5}{r},zfn a0 a1 a2 a3 a4 a5=some r→PCalls Tryz.prog 18 [(.sh,vE a0),(.sh,.int .i64 a1),(.sh,vF a2),(.sh,.int .i64 a3),(.sh,vC a4),(.sh,vC a5)] (Eo (.tup [vP r.1,.bool r.2]) [.junk,.junk,.junk,.junk,.junk,.junk]):=by
 intro a0 a1 a2 a3 a4 a5 r hr
 apply pF 57 [] [] [] [.cell 12 51,.tmp 13] hr zKD Tryz.func18
 intro Φ hΦ hF g
 unfold zfn at hF
 refine wW ?_
 refine wJ hF (fun x3=>[(1,.v (.int .i64 a1)),(3,.v (.int .i64 a3)),(4,.v (vC a4)),(5,.v (vC a5)),(6,.bl [.int .i64 a0.P,.int .i64 a0.Q,.int .i64 a0.G]),(8,.bl [.int .i64 a2.Kind,.int .i64 a2.Options,.int .i64 a2.Least,.int .i64 a2.Most,.int .i64 a2.Points]),(12,.bl [.int .i64 0,.sl true 2 [],.sl true 3 [],.sl true 1 [],.sl true 1 [],.sl true 1 []]),(48,.v (.bool x3))]) (fun x3 hF=>?_) fun _ hj1 hF=>?_
 ·refine wI hF (fun h15 hF=>?_) (fun h15 hF=>?_)
  ·exact wl hΦ hF
  refine wW ?_
  refine wC hF [.sh,.sh,.sh,.sh,.sh,.sh] zrA (fun z16 hF=>?_)
  refine wK [12,13] ?_
  exact wm hΦ hF
 refine wC hF [.sh,.sh] zjo (fun z4 hF=>?_)
 refine wG hF (fun h5 hF=>?_) fun h5 hF=>?_
 ·exact wV h5 (hj1 _) (zaa hF)
 try simp[go_sem,g,h5]
 refine wC hF [.sh,.sh] zt8 (fun z6 hF=>?_)
 try simp[go_sem,g,h5]
 refine wG hF (fun h7 hF=>?_) fun h7 hF=>?_
 ·exact wV h7 (hj1 _) (zaa hF)
 try simp[go_sem,g,h7]
 refine wC hF [.sh,.sh,.sh] zbv (fun z8 hF=>?_)
 try simp[go_sem,g,h7]
 refine wG hF (fun h9 hF=>?_) fun h9 hF=>?_
 ·exact wV h9 (hj1 _) (zaa hF)
 try simp[go_sem,g,h9]
 refine wC hF [.sh,.sh] zqQ (fun z10 hF=>?_)
 try simp[go_sem,g,h9]
 refine wG hF (fun h11 hF=>?_) fun h11 hF=>?_
 ·exact wV h11 (hj1 _) (zaa hF)
 try simp[go_sem,g,h11]
 try intros
 refine wC hF [.sh] ziG (fun z12 hF=>?_)
 try simp[go_sem,g,h11]
 refine wG hF (fun h13 hF=>?_) fun h13 hF=>?_
 ·exact wV h13 (hj1 _) (zaa hF)
 try simp[go_sem,g,h13]
 refine wC hF [.sh,.sh] zrk (fun z14 hF=>?_)
 exact wV h13 (hj1 _) (zaa hF)
def zfe (a0:List Cipher):Option ((List Int)):=
 ((zap (σ:=(List Int)) (fun i5 s4=>
 (ix a0 i5).bind fun x11=>
 gd ((s4.length+2)*8≤140737488355328∧s4.length+2≤4611686018427387904)<|
 some (.go (s4++[x11.A,x11.B]))) (fun s4=>s4) (a0.length) 0 [(a0.length:Int)]:Option ((List Int))).bind fun x3=>
 some x3)
theorem zoG:∀{a0}{r},zfe a0=some r→PCalls Tryz.prog 229 [(.sh,vO a0)] (Eo (vD r) [.junk]):=by
 intro a0 r hr
 apply pF 24 [] [] [] [.tmp 2] hr zD5 Tryz.func229
 intro Φ hΦ hF g
 unfold zfe at hF
 iterate 3 (try simp[go_sem,g];try intros;refine zat ?_)
 refine wJ hF (fun x3=>[(3,.v (vD x3))]) (fun x3 hF=>?_) fun _ hj1 hF=>?_
 ·refine wK [2] ?_
  exact wm hΦ hF
 refine wB ?_
 obtain⟨b12,hb13,hψ8⟩:=hF
 refine pR hb13 (fun i5 s4=>[(3,.v (vD s4)),(9,.v (vO a0)),(10,.v (.int .i64 (a0.length:Int))),(11,.v (.int .i64 i5))]) (fun s4 _ hN14=>?_) (fun i5 s4 _ _ hi9 hi10 ho6 hg7 hF=>?_)
 ·exact wn hN14 (hj1 _) hψ8
 refine wW ?_
 refine wu hi9 hi10 ?_
 refine wW ?_
 refine wB ?_
 obtain⟨x11,g,hF⟩:=Rx g hF
 refine wK [3,5,9,10,11] ?_
 obtain⟨g,hF⟩:=Rg g hF
 refine wW ?_
 exact wi hi9 hi10 (hg7 _) (zaa hF)
def zbS (a0:List Int) (a1:List Int):Option ((List Int)):=
 gd ((a0.length+1)*8≤140737488355328∧a0.length+1≤4611686018427387904)<|
 gd (((a0++[(a1.length:Int)]).length+a1.length)*8≤140737488355328∧(a0++[(a1.length:Int)]).length+a1.length≤4611686018427387904)<|
 some (a0++[(a1.length:Int)]++a1)
theorem zfy:∀{a0}{a1}{r},zbS a0 a1=some r→PCalls Tryz.prog 237 [(.mv,vD a0),(.sh,vC a1)] (Eo (vD r) [.junk,.junk]):=by
 intro a0 a1 r hr
 apply pF 12 [] [] [] [.tmp 4] hr zE5 Tryz.func237
 intro Φ hΦ hF g
 unfold zbS at hF
 obtain⟨g,hF⟩:=Rg g hF
 obtain⟨g,hF⟩:=Rg g hF
 cases hΦ _ (zaa hF)
 iterate 2 (try simp[go_sem,g];try intros;refine zat ?_)
 try simp[go_sem,g]
 try intros
 try simp[go_sem,g]
@[go_sem] def zAk:List DE:=[d0 0 [],d1 1 [1] 1,d2 2 [4] 1 4,d1 4 [1] 1,d2 5 [7] 1 7,d1 7 [1] 1,d2 8 [10] 1 10,⟨3,[3,5],[],none,true,true,true⟩,d3 6 [6,8],d3 9 [9,11],d0 10 [12]]
def zev (a0:Proof):Option ((List Int)):=
 (zbS [] a0.Commits).bind fun z1=>
 (zbS z1 a0.Challenges).bind fun z2=>
 (zbS z2 a0.Responses).bind fun z3=>
 some z3
theorem zlu:∀{a0}{r},zev a0=some r→PCalls Tryz.prog 230 [(.sh,vQ a0)] (Eo (vD r) [.junk]):=by
 intro a0 r hr
 apply pF 13 [] [] [] [.tmp 2] hr zEY Tryz.func230
 intro Φ hΦ hF g
 unfold zev at hF
 refine wW ?_
 refine wX zAk follows ?_
 refine wC hF [.mv,.sh] zfy (fun z1 hF=>?_)
 refine wC hF [.mv,.sh] zfy (fun z2 hF=>?_)
 refine wC hF [.mv,.sh] zfy (fun z3 hF=>?_)
 refine wK [2] ?_
 exact wm hΦ hF
def zgD (a0:(List (List Int))):Option ((List Int)):=
 ((zap (σ:=(List Int)) (fun i5 s4=>
 (ix a0 i5).bind fun x11=>
 (zbS s4 x11).bind fun z12=>
 some (.go z12)) (fun s4=>s4) (a0.length) 0 [(a0.length:Int)]:Option ((List Int))).bind fun x3=>
 some x3)
theorem zrB:∀{a0}{r},zgD a0=some r→PCalls Tryz.prog 231 [(.sh,vH a0)] (Eo (vD r) [.junk]):=by
 intro a0 r hr
 apply pF 20 [] [] [] [.tmp 2] hr zEk Tryz.func231
 intro Φ hΦ hF g
 unfold zgD at hF
 iterate 3 (try simp[go_sem,g];try intros;refine zat ?_)
 refine wJ hF (fun x3=>[(3,.v (vD x3))]) (fun x3 hF=>?_) fun _ hj1 hF=>?_
 ·refine wK [2] ?_
  exact wm hΦ hF
 refine wB ?_
 obtain⟨b13,hb14,hψ8⟩:=hF
 refine pR hb14 (fun i5 s4=>[(3,.v (vD s4)),(9,.v (vH a0)),(10,.v (.int .i64 (a0.length:Int))),(11,.v (.int .i64 i5))]) (fun s4 _ hN15=>?_) (fun i5 s4 _ _ hi9 hi10 ho6 hg7 hF=>?_)
 ·exact wn hN15 (hj1 _) hψ8
 refine wW ?_
 refine wu hi9 hi10 ?_
 refine wW ?_
 refine wB ?_
 obtain⟨x11,g,hF⟩:=Rx g hF
 refine wK [3,5,9,10,11] ?_
 refine wC hF [.mv,.sh] zfy (fun z12 hF=>?_)
 refine wW ?_
 exact wi hi9 hi10 (hg7 _) (zaa hF)
@[go_sem] def zAQ:List DE:=[d1 0 [1] 1,d2 1 [6] 1 6,d0 2 [7],d1 3 [1] 1,d2 4 [9] 1 9,d3 5 [10],⟨6,[8,11],[],none,true,true,false⟩,⟨7,[12],[],none,true,true,false⟩]
def zgO (a0:Sealed):Option ((List Int)):=
 (zfe a0.Ciphers).bind fun z1=>
 ((zap (σ:=(List (List Int))) (fun i6 s5=>
 (ix a0.Proofs i6).bind fun x12=>
 (zev x12).bind fun z13=>
 gd ((s5.length+1)*24≤140737488355328∧s5.length+1≤4611686018427387904)<|
 some (.go (s5++[z13]))) (fun s5=>s5) (a0.Proofs.length) 0 [[a0.Voter],z1]:Option ((List (List Int)))).bind fun x4=>
 (zev a0.Sum).bind fun z18=>
 gd ((x4.length+1)*24≤140737488355328∧x4.length+1≤4611686018427387904)<|
 (zgD (x4++[z18])).bind fun z19=>
 some z19)
theorem zoQ:∀{a0}{r},zgO a0=some r→PCalls Tryz.prog 217 [(.sh,vT a0)] (Eo (vD r) [.junk]):=by
 intro a0 r hr
 apply pF 33 [] [] [] [.tmp 2] hr zEb Tryz.func217
 intro Φ hΦ hF g
 unfold zgO at hF
 refine wW ?_
 refine wX zAQ follows ?_
 refine wC hF [.sh] zoG (fun z1 hF=>?_)
 refine wK [1,3] ?_
 try simp[go_sem,g]
 try intros
 refine zat ?_
 refine wJ hF (fun x4=>[(1,.bl [.int .i64 a0.Voter,vO a0.Ciphers,vR a0.Proofs,vC a0.Sum.Commits,vC a0.Sum.Challenges,vC a0.Sum.Responses]),(3,.v (vS x4))]) (fun x4 hF=>?_) fun _ hj2 hF=>?_
 ·refine wC hF [.sh] zlu (fun z18 hF=>?_)
  obtain⟨g,hF⟩:=Rg g hF
  refine wC hF [.sh] zrB (fun z19 hF=>?_)
  refine wK [2] ?_
  exact wm hΦ hF
 refine wB ?_
 obtain⟨b14,hb15,hψ9⟩:=hF
 refine pR hb15 (fun i6 s5=>[(1,.bl [.int .i64 a0.Voter,vO a0.Ciphers,vR a0.Proofs,vC a0.Sum.Commits,vC a0.Sum.Challenges,vC a0.Sum.Responses]),(3,.v (vS s5)),(14,.v (vR a0.Proofs)),(15,.v (.int .i64 (a0.Proofs.length:Int))),(16,.v (.int .i64 i6))]) (fun s5 _ hN16=>?_) (fun i6 s5 _ _ hi10 hi11 ho7 hg8 hF=>?_)
 ·exact wn hN16 (hj2 _) hψ9
 refine wW ?_
 refine wu hi10 hi11 ?_
 refine wW ?_
 refine wB ?_
 obtain⟨x12,g,hF⟩:=Rx g hF
 refine wW ?_
 refine wC hF [.sh] zlu (fun z13 hF=>?_)
 obtain⟨g,hF⟩:=Rg g hF
 refine wK [1,3,14,15,16] ?_
 exact wi hi10 hi11 (hg8 _) (zaa hF)
def zgo (a0:List Int):Option Bool:=
 ((if decide ((a0.length:Int)≤400)=true then(
 (zb9 a0 0 4611686018427387903).bind fun z5=>
 some z5)else(
 some false):Option Bool).bind fun x3=>
 some x3)
theorem zoy:∀{a0}{r},zgo a0=some r→PCalls Tryz.prog 228 [(.sh,vC a0)] (Eo (.bool r) [.junk]):=by
 intro a0 r hr
 apply pF 10 [] [] [] [.tmp 2] hr zEf Tryz.func228
 intro Φ hΦ hF g
 unfold zgo at hF
 refine wW ?_
 refine wJ hF (fun x3=>[(2,.v (.bool x3))]) (fun x3 hF=>?_) fun _ hj1 hF=>?_
 ·exact wm hΦ hF
 try simp[go_sem,g]
 try intros
 refine wG hF (fun h4 hF=>?_) fun h4 hF=>?_
 ·try simp[go_sem,g,h4]
  refine wC hF [.sh,.sh,.sh] zeZ (fun z5 hF=>?_)
  exact wV h4 (hj1 _) (zaa hF)
 exact wV h4 (hj1 _) (zaa hF)
def zgW (a0:List Int):Option (List Int×Bool):=
 (zgo a0).bind fun z1=>
 if(!z1)=true then(
 some ([],false))else(
 some (a0,true))
theorem zso:∀{a0}{r},zgW a0=some r→PCalls Tryz.prog 216 [(.sh,vC a0)] (Eo (.tup [vC r.1,.bool r.2]) [.junk]):=by
 intro a0 r hr
 apply pF 8 [] [2] [] [.tmp 2,.tmp 3] hr zED Tryz.func216
 intro Φ hΦ hF g
 unfold zgW at hF
 refine wW ?_
 refine wC hF [.sh] zoy (fun z1 hF=>?_)
 refine wW ?_
 refine wI hF (fun h2 hF=>?_) (fun h2 hF=>?_)
 ·exact wl hΦ hF
 cases hΦ _ (zaa hF)
 iterate 2 refine wW ?_
 try simp[go_sem,g]
def zc1 (a0:Sealed):Option (List Int×Bool):=
 (zaX a0.Voter 0 999999).bind fun z1=>
 if(!z1)=true then(
 some ([],false))else(
 (zgO a0).bind fun z3=>
 (zgW z3).bind fun z4=>
 some (z4.1,z4.2))
theorem zlF:∀{a0}{r},zc1 a0=some r→PCalls Tryz.prog 178 [(.sh,vT a0)] (Eo (.tup [vC r.1,.bool r.2]) [.junk]):=by
 intro a0 r hr
 apply pF 13 [] [2,9] [] [.tmp 2,.tmp 3] hr zEs Tryz.func178
 intro Φ hΦ hF g
 unfold zc1 at hF
 refine wW ?_
 refine wC hF [.sh,.sh,.sh] zbv (fun z1 hF=>?_)
 refine wW ?_
 refine wI hF (fun h2 hF=>?_) (fun h2 hF=>?_)
 ·exact wl hΦ hF
 refine wW ?_
 refine wC hF [.sh] zoQ (fun z3 hF=>?_)
 refine wC hF [.sh] zso (fun z4 hF=>?_)
 refine wK [2,3] ?_
 exact wm hΦ hF
def zfD (a0:ByteArray) (a1:List Int) (a2:Int):Option Bool:=
 ((if decide ((a0.size:Int)≤40)=true then(
 (zb9 a1 0 4611686018427387903).bind fun z5=>
 if z5=true then(
 some (decide ((i64.wrap ((i64.wrap ((i64.wrap (1+(a0.size:Int)))+(a1.length:Int)))+a2))≤400)))else(
 some false))else(
 some false):Option Bool).bind fun x3=>
 some x3)
theorem zo6:∀{a0}{a1}{a2}{r},zfD a0 a1 a2=some r→PCalls Tryz.prog 218 [(.sh,.str a0),(.sh,vC a1),(.sh,.int .i64 a2)] (Eo (.bool r) [.junk,.junk,.junk]):=by
 intro a0 a1 a2 r hr
 apply pF 25 [] [] [] [.tmp 6] hr zC8 Tryz.func218
 intro Φ hΦ hF g
 unfold zfD at hF
 refine wW ?_
 refine wJ hF (fun x3=>[(6,.v (.bool x3))]) (fun x3 hF=>?_) fun _ hj1 hF=>?_
 ·exact wm hΦ hF
 refine wG hF (fun h4 hF=>?_) fun h4 hF=>?_
 ·try simp[go_sem,g,h4]
  refine wC hF [.sh,.sh,.sh] zeZ (fun z5 hF=>?_)
  try simp[go_sem,g,h4]
  refine wG hF (fun h6 hF=>?_) fun h6 hF=>?_
  ·try simp[go_sem,g,h6]
   try intros
   exact wT (hj1 _) (zaa hF)
  exact wV h6 (hj1 _) (zaa hF)
 exact wV h4 (hj1 _) (zaa hF)
def ze2 (a0:ByteArray) (a1:List Int):Option (Int×Bool):=
 (zfD a0 a1 0).bind fun z1=>
 if(!z1)=true then(
 some (0,false))else(
 (zdf a0 a1).bind fun z3=>
 some (z3,true))
theorem zlw:∀{a0}{a1}{r},ze2 a0 a1=some r→PCalls Tryz.prog 179 [(.sh,.str a0),(.sh,vC a1)] (Eo (.tup [.int .i64 r.1,.bool r.2]) [.junk,.junk]):=by
 intro a0 a1 r hr
 apply pF 13 [] [] [] [.tmp 4,.tmp 5] hr zDi Tryz.func179
 intro Φ hΦ hF g
 unfold ze2 at hF
 refine wW ?_
 refine wC hF [.sh,.sh,.sh] zo6 (fun z1 hF=>?_)
 refine wW ?_
 refine wI hF (fun h2 hF=>?_) (fun h2 hF=>?_)
 ·exact wl hΦ hF
 refine wW ?_
 refine wC hF [.sh,.sh] zhl (fun z3 hF=>?_)
 refine wK [4,5] ?_
 exact wm hΦ hF
def zdW (a0:Sealed):Option (Int×Bool):=
 (zc1 a0).bind fun z1=>
 if(!z1.2)=true then(
 some (0,false))else(
 (ze2 (⟨#[115,101,97,108,101,100]⟩:ByteArray) z1.1).bind fun z3=>
 some (z3.1,z3.2))
theorem zlz:∀{a0}{r},zdW a0=some r→PCalls Tryz.prog 101 [(.sh,vT a0)] (Eo (.tup [.int .i64 r.1,.bool r.2]) [.junk]):=by
 intro a0 r hr
 apply pF 17 [] [] [] [.tmp 2,.tmp 3] hr zB3 Tryz.func101
 intro Φ hΦ hF g
 unfold zdW at hF
 refine wW ?_
 refine wC hF [.sh] zlF (fun z1 hF=>?_)
 refine wK [4,5] ?_
 refine wW ?_
 refine wI hF (fun h2 hF=>?_) (fun h2 hF=>?_)
 ·exact wl hΦ hF
 refine wW ?_
 refine wC hF [.sh,.sh] zlw (fun z3 hF=>?_)
 exact wl hΦ hF
def zdJ (a0:Group) (a1:Int) (a2:Contest) (a3:Int) (a4:List Int) (a5:List Int):Option (Int×Bool):=
 (zfn a0 a1 a2 a3 a4 a5).bind fun z1=>
 if(!z1.2)=true then(
 some (0,false))else(
 (zdW z1.1).bind fun z3=>
 some (z3.1,z3.2))
theorem ziR:∀{a0}{a1}{a2}{a3}{a4}{a5}{r},zdJ a0 a1 a2 a3 a4 a5=some r→PCalls Tryz.prog 33 [(.sh,vE a0),(.sh,.int .i64 a1),(.sh,vF a2),(.sh,.int .i64 a3),(.sh,vC a4),(.sh,vC a5)] (Eo (.tup [.int .i64 r.1,.bool r.2]) [.junk,.junk,.junk,.junk,.junk,.junk]):=by
 intro a0 a1 a2 a3 a4 a5 r hr
 apply pF 32 [] [] [] [.tmp 12,.tmp 13] hr zJ5 Tryz.func33
 intro Φ hΦ hF g
 unfold zdJ at hF
 refine wW ?_
 refine wC hF [.sh,.sh,.sh,.sh,.sh,.sh] zoi (fun z1 hF=>?_)
 refine wK [14,15] ?_
 refine wW ?_
 refine wI hF (fun h2 hF=>?_) (fun h2 hF=>?_)
 ·exact wl hΦ hF
 refine wW ?_
 refine wC hF [.sh] zlz (fun z3 hF=>?_)
 exact wl hΦ hF
def zbz (a0c0:List Int) (a0c1:Int) (a0c2:Int):Option (Int×(List Int×Int×Int)):=
 (zag a0c0 a0c1 a0c2 16).bind fun z1=>
 if(z1.1==0)=true then(
 (zaq z1.2.1 z1.2.2.1 z1.2.2.2 [(-1),4611686018427387903,4611686018427387904,2147483648,2147483647,2147483647]).bind fun z3=>
 some (z3.1,(z3.2.1,z3.2.2.1,z3.2.2.2)))else(
 ((if(z1.1==1)=true then(
 some (z1.1==1))else(
 if(z1.1==2)=true then(
 some (z1.1==2))else(
 some (z1.1==3))):Option Bool).bind fun x6=>
 if x6=true then(
 (zag z1.2.1 z1.2.2.1 z1.2.2.2 60000).bind fun z10=>
 (zfC [z10.1]).bind fun z11=>
 some (z11,(z10.2.1,z10.2.2.1,z10.2.2.2)))else(
 (zag z1.2.1 z1.2.2.1 z1.2.2.2 200).bind fun z12=>
 some (z12.1,(z12.2.1,z12.2.2.1,z12.2.2.2)))))
theorem zeY:∀{a0c0}{a0c1}{a0c2}{r},zbz a0c0 a0c1 a0c2=some r→PCalls Tryz.prog 97 [(.io,vB a0c0 a0c1 a0c2)] (Eo (.int .i64 r.1) [vB r.2.1 r.2.2.1 r.2.2.2]):=by
 intro a0c0 a0c1 a0c2 r hr
 apply pF 20 [0] [] [] [.tmp 2] hr zKG Tryz.func97
 intro Φ hΦ hF g
 unfold zbz at hF
 refine wW ?_
 refine wC hF [.io,.sh] zah (fun z1 hF=>?_)
 refine wW ?_
 refine wB ?_
 refine wW ?_
 refine wI hF (fun h2 hF=>?_) (fun h2 hF=>?_)
 ·refine wC hF [.io,.mv] zaG (fun z3 hF=>?_)
  exact wl hΦ hF
 refine wW ?_
 refine wJ hF (fun x6=>[(0,.v (vB z1.2.1 z1.2.2.1 z1.2.2.2)),(10,.v (.bool x6))]) (fun x6 hF=>?_) fun _ hj4 hF=>?_
 ·refine wI hF (fun h9 hF=>?_) (fun h9 hF=>?_)
  ·refine wC hF [.io,.sh] zah (fun z10 hF=>?_)
   refine wC hF [.sh] zmi (fun z11 hF=>?_)
   refine wK [0,2] ?_
   exact wm hΦ hF
  refine wW ?_
  refine wC hF [.io,.sh] zah (fun z12 hF=>?_)
  refine wK [0,2] ?_
  exact wm hΦ hF
 refine wI hF (fun h7 hF=>?_) (fun h7 hF=>?_)
 ·exact wT (hj4 _) (zaa hF)
 refine wW ?_
 refine wI hF (fun h8 hF=>?_) (fun h8 hF=>?_)
 ·exact wT (hj4 _) (zaa hF)
 exact wT (hj4 _) (zaa hF)
@[go_sem] def zz4:List DE:=[d0 0 [7],d0 1 [0],d0 2 [2],d0 4 [0],d1 5 [4] 4,d2 6 [34] 4 34,d0 7 [35],d3 3 [30,31],⟨8,[33,36],[],none,true,true,true⟩,d0 9 [29,32],d0 10 [38,37]]
def zcb (a0c0:List Int) (a0c1:Int) (a0c2:Int) (a1:Group) (a2:Int):Option (List Int×(List Int×Int×Int)):=
 (zb7 a0c0 a0c1 a0c2 a1 a2).bind fun z1=>
 (zag z1.2.1 z1.2.2.1 z1.2.2.2 30).bind fun z2=>
 ((if(z2.1==0)=true then(
 gd ((z1.1.length+1)*8≤140737488355328∧z1.1.length+1≤4611686018427387904)<|
 some (.inr (z1.1++[0],(z2.2.1,z2.2.2.1,z2.2.2.2))))else(
 if(z2.1==1)=true then(
 if decide (0<a2)=true then(
 gd (1≤z1.1.length∧z1.1.length≤z1.1.length)<|
 some (.inr ((z1.1.take z1.1.length).drop 1,(z2.2.1,z2.2.2.1,z2.2.2.2))))else(
 some (.inl ((z2.2.1,z2.2.2.1,z2.2.2.2),z1.1))))else(
 if(z2.1==2)=true then(
 if decide (0<a2)=true then(
 (zag z2.2.1 z2.2.2.1 z2.2.2.2 a2).bind fun z11=>
 (zaq z11.2.1 z11.2.2.1 z11.2.2.2 [(-1),a1.Q]).bind fun z12=>
 (ix z1.1 z11.1).bind fun x13=>
 some (.inl ((z12.2.1,z12.2.2.1,z12.2.2.2),z1.1.set z11.1.toNat z12.1)))else(
 some (.inl ((z2.2.1,z2.2.2.1,z2.2.2.2),z1.1))))else(
 some (.inl ((z2.2.1,z2.2.2.1,z2.2.2.2),z1.1))))):Option (((List Int×Int×Int)×List Int) ⊕ (List Int×(List Int×Int×Int)))).bind (Sum.elim (fun x5=>
 some (x5.2,(x5.1.1,x5.1.2.1,x5.1.2.2))) some))
theorem ziN:∀{a0c0}{a0c1}{a0c2}{a1}{a2}{r},zcb a0c0 a0c1 a0c2 a1 a2=some r→PCalls Tryz.prog 98 [(.io,vB a0c0 a0c1 a0c2),(.sh,vE a1),(.sh,.int .i64 a2)] (Eo (vC r.1) [vB r.2.1 r.2.2.1 r.2.2.2,.junk,.junk]):=by
 intro a0c0 a0c1 a0c2 a1 a2 r hr
 apply pF 40 [0] [6] [] [.tmp 6] hr zIM Tryz.func98
 intro Φ hΦ hF g
 unfold zcb at hF
 refine wW ?_
 refine wC hF [.io,.sh,.sh] zgQ (fun z1 hF=>?_)
 refine wW ?_
 refine wC hF [.io,.sh] zah (fun z2 hF=>?_)
 refine wW ?_
 refine wS hF (fun x5=>[(0,.v (vB x5.1.1 x5.1.2.1 x5.1.2.2)),(7,.v (vD x5.2))]) (fun x5 hF=>?_) fun _ hj3 hr4 hF=>?_
 ·refine wK [0,6] ?_
  exact wm hΦ hF
 refine wB ?_
 refine wK [0,2,4,7,13,14] ?_
 refine wI hF (fun h6 hF=>?_) (fun h6 hF=>?_)
 ·obtain⟨g,hF⟩:=Rg g hF
  cases hΦ _ (hr4 _ (zaa hF))
  refine wW ?_
  try simp[go_sem,g]
 refine wW ?_
 refine wI hF (fun h7 hF=>?_) (fun h7 hF=>?_)
 ·refine wW ?_
  refine wI hF (fun h8 hF=>?_) (fun h8 hF=>?_)
  ·obtain⟨g,hF⟩:=Rg g hF
   cases hΦ _ (hr4 _ (zaa hF))
   refine wW ?_
   try simp[go_sem,g]
  exact wT (hj3 _) (zaa hF)
 refine wW ?_
 refine wI hF (fun h9 hF=>?_) (fun h9 hF=>?_)
 ·refine wW ?_
  refine wI hF (fun h10 hF=>?_) (fun h10 hF=>?_)
  ·refine wX zz4 follows ?_
   refine wC hF [.io,.sh] zah (fun z11 hF=>?_)
   refine wC hF [.io,.mv] zaG (fun z12 hF=>?_)
   obtain⟨x13,g,hF⟩:=Rx g hF
   exact wT (hj3 _) (zaa hF)
  exact wT (hj3 _) (zaa hF)
 exact wT (hj3 _) (zaa hF)
@[go_sem] def zDv:List DE:=[d0 0 [0],d0 2 [0],d2 3 [7] 7 7,d0 5 [0],d2 6 [5] 5 5,d2 7 [7] 7 7,d0 10 [0],d0 13 [],d3 1 [12],d3 4 [14,15],d3 8 [19],d3 9 [17,18,20],d3 11 [22],d0 12 [13,16,21,23],d2 14 [9,24] 9 9]
@[go_sem] def zz9:List DE:=[d0 0 [0],d2 1 [5] 5 5,d2 2 [7] 7 7,d3 3 [58],d3 4 [56,57,59],d1 5 [9] 9,d2 6 [61,60] 9 61]
def zcw (a0c0:List Int) (a0c1:Int) (a0c2:Int) (a1:Group) (a2:Int) (a3:Contest):Option (Session×(List Int×Int×Int)):=
 (zag a0c0 a0c1 a0c2 50).bind fun z1=>
 (zci z1.2.1 z1.2.2.1 z1.2.2.2 a3).bind fun z2=>
 (zeo a3).bind fun z3=>
 (zb7 z2.2.1 z2.2.2.1 z2.2.2.2 a1 z3).bind fun z4=>
 (zbp z4.2.1 z4.2.2.1 z4.2.2.2 3).bind fun z5=>
 (zdJ a1 a2 a3 z1.1 z2.1 z4.1).bind fun z6=>
 ((if z6.2=true then(
 some (z1.1,z2.1,z4.1,z6.1,z5.1))else(
 some (z1.1,z2.1,z4.1,0,z5.1)):Option ((Int×List Int×List Int×Int×Bool))).bind fun x9=>
 (zag z5.2.1 z5.2.2.1 z5.2.2.2 10).bind fun z11=>
 ((if(z11.1==0)=true then(
 (zbz z11.2.1 z11.2.2.1 z11.2.2.2).bind fun z16=>
 some ((z16.2.1,z16.2.2.1,z16.2.2.2),x9.1,x9.2.1,x9.2.2.1,z16.1,x9.2.2.2.2))else(
 if(z11.1==1)=true then(
 (zci z11.2.1 z11.2.2.1 z11.2.2.2 a3).bind fun z18=>
 some ((z18.2.1,z18.2.2.1,z18.2.2.2),x9.1,z18.1,x9.2.2.1,x9.2.2.2.1,x9.2.2.2.2))else(
 if(z11.1==2)=true then(
 (zeo a3).bind fun z20=>
 (zcb z11.2.1 z11.2.2.1 z11.2.2.2 a1 z20).bind fun z21=>
 some ((z21.2.1,z21.2.2.1,z21.2.2.2),x9.1,x9.2.1,z21.1,x9.2.2.2.1,x9.2.2.2.2))else(
 if(z11.1==3)=true then(
 (zaq z11.2.1 z11.2.2.1 z11.2.2.2 [(-1),7,1000000]).bind fun z23=>
 some ((z23.2.1,z23.2.2.1,z23.2.2.2),z23.1,x9.2.1,x9.2.2.1,x9.2.2.2.1,x9.2.2.2.2))else(
 some ((z11.2.1,z11.2.2.1,z11.2.2.2),x9.1,x9.2.1,x9.2.2.1,x9.2.2.2.1,x9.2.2.2.2))))):Option (((List Int×Int×Int)×Int×List Int×List Int×Int×Bool))).bind fun x14=>
 some ((Session.mk x14.2.1 x14.2.2.1 x14.2.2.2.1 x14.2.2.2.2.1 x14.2.2.2.2.2),(x14.1.1,x14.1.2.1,x14.1.2.2))))
theorem zi4:∀{a0c0}{a0c1}{a0c2}{a1}{a2}{a3}{r},zcw a0c0 a0c1 a0c2 a1 a2 a3=some r→PCalls Tryz.prog 28 [(.io,vB a0c0 a0c1 a0c2),(.sh,vE a1),(.sh,.int .i64 a2),(.sh,vF a3)] (Eo (vU r.1) [vB r.2.1 r.2.2.1 r.2.2.2,.junk,.junk,.junk]):=by
 intro a0c0 a0c1 a0c2 a1 a2 a3 r hr
 apply pF 69 [0] [] [] [.cell 8 30] hr zIG Tryz.func28
 intro Φ hΦ hF g
 unfold zcw at hF
 refine wW ?_
 refine wX zDv follows ?_
 refine wC hF [.io,.sh] zah (fun z1 hF=>?_)
 refine wC hF [.io,.sh] zg7 (fun z2 hF=>?_)
 refine wC hF [.sh] ziG (fun z3 hF=>?_)
 refine wC hF [.io,.sh,.sh] zgQ (fun z4 hF=>?_)
 refine wC hF [.io,.sh] zdj (fun z5 hF=>?_)
 refine wK [0,2,5,7,8,9] ?_
 refine wC hF [.sh,.sh,.sh,.sh,.sh,.sh] ziR (fun z6 hF=>?_)
 refine wK [0,5,7,8,9,10,11] ?_
 refine wW ?_
 refine wJ hF (fun x9=>[(0,.v (vB z5.2.1 z5.2.2.1 z5.2.2.2)),(5,.bl [.int .i64 a1.P,.int .i64 a1.Q,.int .i64 a1.G]),(7,.bl [.int .i64 a3.Kind,.int .i64 a3.Options,.int .i64 a3.Least,.int .i64 a3.Most,.int .i64 a3.Points]),(8,.bl [.int .i64 0,.sl true 1 [],.sl true 1 [],.int .i64 0,.bool false]),(9,.bl [.int .i64 x9.1,vD x9.2.1,vD x9.2.2.1,.int .i64 x9.2.2.2.1,.bool x9.2.2.2.2])]) (fun x9 hF=>?_) fun _ hj7 hF=>?_
 ·refine wC hF [.io,.sh] zah (fun z11 hF=>?_)
  refine wW ?_
  refine wJ hF (fun x14=>[(0,.v (vB x14.1.1 x14.1.2.1 x14.1.2.2)),(8,.bl [.int .i64 0,.sl true 1 [],.sl true 1 [],.int .i64 0,.bool false]),(9,.bl [.int .i64 x14.2.1,vD x14.2.2.1,vC x14.2.2.2.1,.int .i64 x14.2.2.2.2.1,.bool x14.2.2.2.2.2])]) (fun x14 hF=>?_) fun _ hj12 hF=>?_
  ·exact wl hΦ hF
  refine wB ?_
  refine wW ?_
  refine wI hF (fun h15 hF=>?_) (fun h15 hF=>?_)
  ·refine wC hF [.io] zeY (fun z16 hF=>?_)
   try simp[go_sem,g]
   refine zmL 9 2 (by simp[go_sem,g];rfl) rfl (by simp[go_sem]) ?_
   exact wT (hj12 _) (zaa hF)
  refine wW ?_
  refine wI hF (fun h17 hF=>?_) (fun h17 hF=>?_)
  ·refine wC hF [.io,.sh] zg7 (fun z18 hF=>?_)
   try simp[go_sem,g]
   refine zmL 9 2 (by simp[go_sem,g];rfl) rfl (by simp[go_sem]) ?_
   exact wT (hj12 _) (zaa hF)
  refine wW ?_
  refine wI hF (fun h19 hF=>?_) (fun h19 hF=>?_)
  ·refine wX zz9 follows ?_
   refine wC hF [.sh] ziG (fun z20 hF=>?_)
   refine wC hF [.io,.sh,.sh] ziN (fun z21 hF=>?_)
   exact wT (hj12 _) (zaa hF)
  refine wK [0,8,9,62] ?_
  refine wI hF (fun h22 hF=>?_) (fun h22 hF=>?_)
  ·refine wC hF [.io,.mv] zaG (fun z23 hF=>?_)
   try simp[go_sem,g]
   refine zmL 9 2 (by simp[go_sem,g];rfl) rfl (by simp[go_sem]) ?_
   exact wT (hj12 _) (zaa hF)
  try simp[go_sem,g]
  refine zmL 9 2 (by simp[go_sem,g];rfl) rfl (by simp[go_sem]) ?_
  exact wT (hj12 _) (zaa hF)
 refine wI hF (fun h10 hF=>?_) (fun h10 hF=>?_)
 ·exact wT (hj7 _) (zaa hF)
 exact wT (hj7 _) (zaa hF)
def zb0 (a0c0:List Int) (a0c1:Int) (a0c2:Int):Option (Contest×(List Int×Int×Int)):=
 (zbt a0c0 a0c1 a0c2).bind fun z1=>
 (zag z1.2.1 z1.2.2.1 z1.2.2.2 20).bind fun z2=>
 ((if(z2.1==0)=true then(
 (zaq z2.2.1 z2.2.2.1 z2.2.2.2 [0,5,4,1]).bind fun z7=>
 some ((z7.2.1,z7.2.2.1,z7.2.2.2),z7.1,z1.1.Options,z1.1.Least,z1.1.Most,z1.1.Points))else(
 if(z2.1==1)=true then(
 (zaq z2.2.1 z2.2.2.1 z2.2.2.2 [0,9,(-1),8]).bind fun z9=>
 some ((z9.2.1,z9.2.2.1,z9.2.2.2),z1.1.Kind,z9.1,z1.1.Least,z1.1.Most,z1.1.Points))else(
 if(z2.1==2)=true then(
 (zaq z2.2.1 z2.2.2.1 z2.2.2.2 [(-1),z1.1.Most,i64.wrap (z1.1.Most+1)]).bind fun z11=>
 some ((z11.2.1,z11.2.2.1,z11.2.2.2),z1.1.Kind,z1.1.Options,z11.1,z1.1.Most,z1.1.Points))else(
 if(z2.1==3)=true then(
 (zaq z2.2.1 z2.2.2.1 z2.2.2.2 [0,5,6,40,41,8,9]).bind fun z13=>
 some ((z13.2.1,z13.2.2.1,z13.2.2.2),z1.1.Kind,z1.1.Options,z1.1.Least,z13.1,z1.1.Points))else(
 if(z2.1==4)=true then(
 (zaq z2.2.1 z2.2.2.1 z2.2.2.2 [0,5,6,(-1)]).bind fun z15=>
 some ((z15.2.1,z15.2.2.1,z15.2.2.2),z1.1.Kind,z1.1.Options,z1.1.Least,z1.1.Most,z15.1))else(
 some ((z2.2.1,z2.2.2.1,z2.2.2.2),z1.1.Kind,z1.1.Options,z1.1.Least,z1.1.Most,z1.1.Points)))))):Option (((List Int×Int×Int)×Int×Int×Int×Int×Int))).bind fun x5=>
 some ((Contest.mk x5.2.1 x5.2.2.1 x5.2.2.2.1 x5.2.2.2.2.1 x5.2.2.2.2.2),(x5.1.1,x5.1.2.1,x5.1.2.2)))
theorem zia:∀{a0c0}{a0c1}{a0c2}{r},zb0 a0c0 a0c1 a0c2=some r→PCalls Tryz.prog 30 [(.io,vB a0c0 a0c1 a0c2)] (Eo (vF r.1) [vB r.2.1 r.2.2.1 r.2.2.2]):=by
 intro a0c0 a0c1 a0c2 r hr
 apply pF 44 [0] [] [] [.cell 2 27] hr zHi Tryz.func30
 intro Φ hΦ hF g
 unfold zb0 at hF
 refine wW ?_
 refine wC hF [.io] zeJ (fun z1 hF=>?_)
 refine wW ?_
 refine wC hF [.io,.sh] zah (fun z2 hF=>?_)
 refine wW ?_
 refine wJ hF (fun x5=>[(0,.v (vB x5.1.1 x5.1.2.1 x5.1.2.2)),(2,.bl [.int .i64 0,.int .i64 0,.int .i64 0,.int .i64 0,.int .i64 0]),(3,.bl [.int .i64 x5.2.1,.int .i64 x5.2.2.1,.int .i64 x5.2.2.2.1,.int .i64 x5.2.2.2.2.1,.int .i64 x5.2.2.2.2.2])]) (fun x5 hF=>?_) fun _ hj3 hF=>?_
 ·exact wl hΦ hF
 refine wB ?_
 refine wW ?_
 refine wI hF (fun h6 hF=>?_) (fun h6 hF=>?_)
 ·refine wC hF [.io,.mv] zaG (fun z7 hF=>?_)
  exact wT (hj3 _) (zaa hF)
 refine wK [0,2,3,7,14] ?_
 refine wI hF (fun h8 hF=>?_) (fun h8 hF=>?_)
 ·refine wC hF [.io,.mv] zaG (fun z9 hF=>?_)
  exact wT (hj3 _) (zaa hF)
 refine wW ?_
 refine wI hF (fun h10 hF=>?_) (fun h10 hF=>?_)
 ·refine wC hF [.io,.mv] zaG (fun z11 hF=>?_)
  exact wT (hj3 _) (zaa hF)
 refine wW ?_
 refine wI hF (fun h12 hF=>?_) (fun h12 hF=>?_)
 ·refine wC hF [.io,.mv] zaG (fun z13 hF=>?_)
  exact wT (hj3 _) (zaa hF)
 refine wW ?_
 refine wI hF (fun h14 hF=>?_) (fun h14 hF=>?_)
 ·refine wC hF [.io,.mv] zaG (fun z15 hF=>?_)
  exact wT (hj3 _) (zaa hF)
 exact wT (hj3 _) (zaa hF)
@[go_sem] def zHm:List DE:=[d2 0 [7] 7 7,d0 1 [8],d2 2 [9] 9 9,d2 3 [10] 10 10,d2 4 [2,32] 2 2,d0 5 [33],d2 6 [4,34] 4 4,d2 7 [5,35] 5 5]
def zcU (a0:List Int):Option (Group×Int×Contest×Session):=
 (zcP a0 0 0).bind fun z1=>
 (zcw z1.2.2.2.1 z1.2.2.2.2.1 z1.2.2.2.2.2 z1.1 z1.2.1 z1.2.2.1).bind fun z2=>
 (zbp z2.2.1 z2.2.2.1 z2.2.2.2 12).bind fun z3=>
 (zbp z3.2.1 z3.2.2.1 z3.2.2.2 16).bind fun z4=>
 ((if z4.1=true then(
 (zb0 z4.2.1 z4.2.2.1 z4.2.2.2).bind fun z9=>
 some (z9.1.Kind,z9.1.Options,z9.1.Least,z9.1.Most,z9.1.Points))else(
 some (z1.2.2.1.Kind,z1.2.2.1.Options,z1.2.2.1.Least,z1.2.2.1.Most,z1.2.2.1.Points)):Option ((Int×Int×Int×Int×Int))).bind fun x7=>
 some (z1.1,z1.2.1,(Contest.mk x7.1 x7.2.1 x7.2.2.1 x7.2.2.2.1 x7.2.2.2.2),(Session.mk z2.1.Voter z2.1.Vote z2.1.Coins z2.1.Receipt z3.1)))
theorem zjR:∀{a0}{r},zcU a0=some r→PCalls Tryz.prog 6 [(.sh,vA a0)] (Eo (.tup [vE r.1,.int .i64 r.2.1,vF r.2.2.1,vU r.2.2.2]) [.junk]):=by
 intro a0 r hr
 apply pF 36 [] [] [13] [.cell 2 25,.tmp 3,.cell 4 27,.cell 5 30] hr cl6 Tryz.func6
 intro Φ hΦ hF g
 unfold zcU at hF
 iterate 2 refine wW ?_
 refine wC hF [.io] zjP (fun z1 hF=>?_)
 refine wK [2,4,5,6,7,8,9] ?_
 refine wC hF [.io,.sh,.sh,.sh] zi4 (fun z2 hF=>?_)
 refine wW ?_
 refine wC hF [.io,.sh] zdj (fun z3 hF=>?_)
 refine wK [2,4,5,6,7,8,9,10] ?_
 refine wC hF [.io,.sh] zdj (fun z4 hF=>?_)
 refine wW ?_
 refine wJ hF (fun x7=>[(2,.bl [.int .i64 0,.int .i64 0,.int .i64 0]),(4,.bl [.int .i64 0,.int .i64 0,.int .i64 0,.int .i64 0,.int .i64 0]),(5,.bl [.int .i64 0,.sl true 1 [],.sl true 1 [],.int .i64 0,.bool false]),(7,.bl [.int .i64 z1.1.P,.int .i64 z1.1.Q,.int .i64 z1.1.G]),(8,.v (.int .i64 z1.2.1)),(9,.bl [.int .i64 x7.1,.int .i64 x7.2.1,.int .i64 x7.2.2.1,.int .i64 x7.2.2.2.1,.int .i64 x7.2.2.2.2]),(10,.bl [.int .i64 z2.1.Voter,vD z2.1.Vote,vC z2.1.Coins,.int .i64 z2.1.Receipt,.bool z3.1])]) (fun x7 hF=>?_) fun _ hj5 hF=>?_
 ·refine wX zHm follows ?_
  refine wK [2,3,4,5] ?_
  exact wm hΦ hF
 refine wI hF (fun h8 hF=>?_) (fun h8 hF=>?_)
 ·refine wC hF [.io] zia (fun z9 hF=>?_)
  exact wT (hj5 _) (zaa hF)
 exact wT (hj5 _) (zaa hF)
def zaB (a0:Int) (a1:Int) (a2:Int):Option Bool:=
 ((if decide (a1≤a0)=true then(
 some (decide (a0≤a2)))else(
 some false):Option Bool).bind fun x3=>
 some x3)
theorem za2:∀{a0}{a1}{a2}{r},zaB a0 a1 a2=some r→PCalls Tryz.prog 100 [(.sh,.int .i64 a0),(.sh,.int .i64 a1),(.sh,.int .i64 a2)] (Eo (.bool r) [.junk,.junk,.junk]):=by
 intro a0 a1 a2 r hr
 apply pF 15 [] [] [] [.tmp 6] hr zEG Tryz.func100
 intro Φ hΦ hF g
 unfold zaB at hF
 refine wW ?_
 refine wJ hF (fun x3=>[(6,.v (.bool x3))]) (fun x3 hF=>?_) fun _ hj1 hF=>?_
 ·exact wm hΦ hF
 refine wG hF (fun h4 hF=>?_) fun h4 hF=>?_
 ·exact wV h4 (hj1 _) (zaa hF)
 exact wV h4 (hj1 _) (zaa hF)
def ze0 (a0:Int):Option Bool:=
 (zaB a0 2 2000000000).bind fun z1=>
 some z1
theorem zns:∀{a0}{r},ze0 a0=some r→PCalls Tryz.prog 220 [(.sh,.int .i64 a0)] (Eo (.bool r) [.junk]):=by
 intro a0 r hr
 apply pF 5 [] [] [] [.tmp 2] hr zCO Tryz.func220
 intro Φ hΦ hF g
 unfold ze0 at hF
 refine wW ?_
 refine wC hF [.sh,.sh,.sh] za2 (fun z1 hF=>?_)
 exact wl hΦ hF
def zeN (a0:Int):Option Bool:=
 (((ze0 a0).bind fun z4=>
 if(!z4)=true then(
 some true)else(
 if((a0.tmod 2)==0)=true then(
 some (a0 !=2))else(
 some false)):Option Bool).bind fun x3=>
 if x3=true then(
 some false)else(
 ((zaQ (σ:=Int) (fun s11=>
 if decide ((i64.wrap (s11*s11))≤a0)=true then(
 gd (s11≠0)<|
 if((a0.tmod s11)==0)=true then(
 some (.out (.inr false)))else(
 some (.go (i64.wrap (s11+2)))))else(
 some (.out (.inl ())))) 3:Option (Unit ⊕ Bool)).bind (Sum.elim (fun x10=>
 some true) some))))
theorem zkB:∀{a0}{r},zeN a0=some r→PCalls Tryz.prog 185 [(.sh,.int .i64 a0)] (Eo (.bool r) [.junk]):=by
 intro a0 r hr
 apply pF 27 [] [] [] [.tmp 2] hr zCs Tryz.func185
 intro Φ hΦ hF g
 unfold zeN at hF
 refine wW ?_
 refine wJ hF (fun x3=>[(0,.v (.int .i64 a0)),(15,.v (.bool x3))]) (fun x3 hF=>?_) fun _ hj1 hF=>?_
 ·refine wI hF (fun h7 hF=>?_) (fun h7 hF=>?_)
  ·exact wl hΦ hF
  iterate 2 refine wW ?_
  refine wS hF (fun x10=>[]) (fun x10 hF=>?_) fun _ hj8 hr9 hF=>?_
  ·exact wl hΦ hF
  refine wB ?_
  obtain⟨b18,hb19,hψ15⟩:=hF
  refine pL hb19 (fun s11=>[(0,.v (.int .i64 a0)),(3,.v (.int .i64 s11))]) (fun s11 _ _ ho13 hg14 hF=>?_)
  refine wW ?_
  refine wI hF (fun h16 hF=>?_) (fun h16 hF=>?_)
  ·refine wW ?_
   refine wB ?_
   obtain⟨g,hF⟩:=Rz g hF
   refine wK [0,3,26] ?_
   refine wI hF (fun h17 hF=>?_) (fun h17 hF=>?_)
   ·cases ho13 _ (zaa hF)
    cases hΦ _ (hr9 _ hψ15)
    refine wW ?_
    try simp[go_sem,g]
   refine wW ?_
   exact wT (hg14 _) (zaa hF)
  cases ho13 _ (zaa hF)
  exact wT (hj8 _) hψ15
 refine wC hF [.sh] zns (fun z4 hF=>?_)
 refine wG hF (fun h5 hF=>?_) fun h5 hF=>?_
 ·exact wV h5 (hj1 _) (zaa hF)
 have g:=Ld g 2
 try simp[go_sem,g,h5]
 refine wG hF (fun h6 hF=>?_) fun h6 hF=>?_
 ·try simp[go_sem,g,h6,h5]
  exact wT (hj1 _) (zaa hF)
 try simp[go_sem,g,h6,h5]
 exact wT (hj1 _) (zaa hF)
def zeh (a0:Int) (a1:Int) (a2:Int):Option Int:=
 gd (a2≠0)<|
 ((zaQ (σ:=Int×Int×Int) (fun s4=>
 if decide (0<s4.2.1)=true then(
 ((if((i64.wrap ((BitVec.ofInt i64.bits s4.2.1&&&BitVec.ofInt i64.bits 1).toNat))==1)=true then(
 gd (a2≠0)<|
 some ((i64.wrap (s4.2.2*s4.1)).tmod a2))else(
 some s4.2.2):Option Int).bind fun x12=>
 gd (a2≠0)<|
 some (.go ((i64.wrap (s4.1*s4.1)).tmod a2,s4.2.1.fdiv 2,x12))))else(
 some (.out s4.2.2))) (a0,a1,(1:Int).tmod a2):Option Int).bind fun x3=>
 some x3)
theorem zju:∀{a0}{a1}{a2}{r},zeh a0 a1 a2=some r→PCalls Tryz.prog 117 [(.sh,.int .i64 a0),(.sh,.int .i64 a1),(.sh,.int .i64 a2)] (Eo (.int .i64 r) [.junk,.junk,.junk]):=by
 intro a0 a1 a2 r hr
 apply pF 28 [] [] [] [.tmp 6] hr zCF Tryz.func117
 intro Φ hΦ hF g
 unfold zeh at hF
 obtain⟨g,hF⟩:=Rz g hF
 iterate 2 refine wW ?_
 refine wJ hF (fun x3=>[(7,.v (.int .i64 x3))]) (fun x3 hF=>?_) fun _ hj1 hF=>?_
 ·exact wl hΦ hF
 refine wB ?_
 obtain⟨b14,hb15,hψ8⟩:=hF
 refine pL hb15 (fun s4=>[(0,.v (.int .i64 s4.1)),(1,.v (.int .i64 s4.2.1)),(2,.v (.int .i64 a2)),(7,.v (.int .i64 s4.2.2))]) (fun s4 _ _ ho6 hg7 hF=>?_)
 refine wW ?_
 refine wI hF (fun h9 hF=>?_) (fun h9 hF=>?_)
 ·refine wW ?_
  refine wB ?_
  refine wW ?_
  refine wJ hF (fun x12=>[(0,.v (.int .i64 s4.1)),(1,.v (.int .i64 s4.2.1)),(2,.v (.int .i64 a2)),(7,.v (.int .i64 x12))]) (fun x12 hF=>?_) fun _ hj10 hF=>?_
  ·obtain⟨g,hF⟩:=Rz g hF
   refine wK [0,1,2,7] ?_
   have g:=Ls g 1
   exact wT (hg7 _) (zaa hF)
  refine wI hF (fun h13 hF=>?_) (fun h13 hF=>?_)
  ·obtain⟨g,hF⟩:=Rz g hF
   exact wT (hj10 _) (zaa hF)
  exact wT (hj10 _) (zaa hF)
 cases ho6 _ (zaa hF)
 exact wT (hj1 _) hψ8
def zbO (a0:Group):Option Bool:=
 (((zaB a0.P 3 2000000000).bind fun z4=>
 if z4=true then(
 (zaB a0.Q 2 (i64.wrap (a0.P-1))).bind fun z6=>
 if z6=true then(
 gd (a0.Q≠0)<|
 if(((i64.wrap (a0.P-1)).tmod a0.Q)==0)=true then(
 (zaB a0.G 2 (i64.wrap (a0.P-1))).bind fun z9=>
 if z9=true then(
 (zeN a0.P).bind fun z11=>
 if z11=true then(
 (zeN a0.Q).bind fun z13=>
 if z13=true then(
 (zeh a0.G a0.Q a0.P).bind fun z15=>
 some (z15==1))else(
 some false))else(
 some false))else(
 some false))else(
 some false))else(
 some false))else(
 some false):Option Bool).bind fun x3=>
 some x3)
theorem ze3:∀{a0}{r},zbO a0=some r→PCalls Tryz.prog 114 [(.sh,vE a0)] (Eo (.bool r) [.junk]):=by
 intro a0 r hr
 apply pF 51 [] [] [] [.tmp 2] hr zDP Tryz.func114
 intro Φ hΦ hF g
 unfold zbO at hF
 refine wW ?_
 refine wJ hF (fun x3=>[(2,.v (.bool x3))]) (fun x3 hF=>?_) fun _ hj1 hF=>?_
 ·exact wm hΦ hF
 refine wC hF [.sh,.sh,.sh] za2 (fun z4 hF=>?_)
 refine wG hF (fun h5 hF=>?_) fun h5 hF=>?_
 ·try simp[go_sem,g,h5]
  refine wC hF [.sh,.sh,.sh] za2 (fun z6 hF=>?_)
  try simp[go_sem,g,h5]
  refine wG hF (fun h7 hF=>?_) fun h7 hF=>?_
  ·obtain⟨g,hF⟩:=Rz g hF
   try simp[go_sem,g,h7]
   refine wG hF (fun h8 hF=>?_) fun h8 hF=>?_
   ·try simp[go_sem,g,h8]
    refine wC hF [.sh,.sh,.sh] za2 (fun z9 hF=>?_)
    try simp[go_sem,g,h8]
    refine wG hF (fun h10 hF=>?_) fun h10 hF=>?_
    ·try simp[go_sem,g,h10]
     refine wC hF [.sh] zkB (fun z11 hF=>?_)
     try simp[go_sem,g,h10]
     refine wG hF (fun h12 hF=>?_) fun h12 hF=>?_
     ·try simp[go_sem,g,h12]
      refine wC hF [.sh] zkB (fun z13 hF=>?_)
      try simp[go_sem,g,h12]
      refine wG hF (fun h14 hF=>?_) fun h14 hF=>?_
      ·try simp[go_sem,g,h14]
       refine wC hF [.sh,.sh,.sh] zju (fun z15 hF=>?_)
       exact wV h14 (hj1 _) (zaa hF)
      exact wV h14 (hj1 _) (zaa hF)
     exact wV h12 (hj1 _) (zaa hF)
    exact wV h10 (hj1 _) (zaa hF)
   exact wV h8 (hj1 _) (zaa hF)
  exact wV h7 (hj1 _) (zaa hF)
 exact wV h5 (hj1 _) (zaa hF)
def zcA (a0:Contest):Option Bool:=
 ((if decide (a0.Least<0)=true then(
 some true)else(
 some (decide (a0.Most<a0.Least))):Option Bool).bind fun x3=>
 if x3=true then(
 some false)else(
 ((if(a0.Kind==1)=true then(
 some (a0.Kind==1))else(
 some (a0.Kind==3)):Option Bool).bind fun x8=>
 if x8=true then(
 (((zaB a0.Options 1 8).bind fun z14=>
 if z14=true then(
 if decide (a0.Most≤a0.Options)=true then(
 some (a0.Points==0))else(
 some false))else(
 some false):Option Bool).bind fun x13=>
 some x13))else(
 if(a0.Kind==2)=true then(
 (((zaB a0.Options 1 8).bind fun z21=>
 if z21=true then(
 (zaB a0.Points 1 5).bind fun z23=>
 if z23=true then(
 some (decide (a0.Most≤(i64.wrap (a0.Options*a0.Points)))))else(
 some false))else(
 some false):Option Bool).bind fun x20=>
 some x20))else(
 if(a0.Kind==4)=true then(
 ((if(a0.Options==0)=true then(
 if decide (a0.Most≤5)=true then(
 some (a0.Points==0))else(
 some false))else(
 some false):Option Bool).bind fun x28=>
 some x28))else(
 some false))))))
theorem zkG:∀{a0}{r},zcA a0=some r→PCalls Tryz.prog 115 [(.sh,vF a0)] (Eo (.bool r) [.junk]):=by
 intro a0 r hr
 apply pF 68 [] [] [] [.tmp 2] hr zDn Tryz.func115
 intro Φ hΦ hF g
 unfold zcA at hF
 refine wW ?_
 refine wJ hF (fun x3=>[(1,.bl [.int .i64 a0.Kind,.int .i64 a0.Options,.int .i64 a0.Least,.int .i64 a0.Most,.int .i64 a0.Points]),(12,.v (.bool x3))]) (fun x3 hF=>?_) fun _ hj1 hF=>?_
 ·refine wI hF (fun h5 hF=>?_) (fun h5 hF=>?_)
  ·exact wl hΦ hF
  iterate 2 refine wW ?_
  refine wB ?_
  refine wW ?_
  refine wJ hF (fun x8=>[(1,.bl [.int .i64 a0.Kind,.int .i64 a0.Options,.int .i64 a0.Least,.int .i64 a0.Most,.int .i64 a0.Points]),(14,.v (.int .i64 a0.Kind)),(15,.v (.bool x8))]) (fun x8 hF=>?_) fun _ hj6 hF=>?_
  ·refine wI hF (fun h10 hF=>?_) (fun h10 hF=>?_)
   ·refine wJ hF (fun x13=>[(2,.v (.bool x13))]) (fun x13 hF=>?_) fun _ hj11 hF=>?_
    ·exact wm hΦ hF
    refine wC hF [.sh,.sh,.sh] za2 (fun z14 hF=>?_)
    refine wG hF (fun h15 hF=>?_) fun h15 hF=>?_
    ·try simp[go_sem,g,h15]
     refine wG hF (fun h16 hF=>?_) fun h16 hF=>?_
     ·exact wV h16 (hj11 _) (zaa hF)
     exact wV h16 (hj11 _) (zaa hF)
    exact wV h15 (hj11 _) (zaa hF)
   refine wW ?_
   refine wI hF (fun h17 hF=>?_) (fun h17 hF=>?_)
   ·refine wJ hF (fun x20=>[(2,.v (.bool x20))]) (fun x20 hF=>?_) fun _ hj18 hF=>?_
    ·exact wm hΦ hF
    refine wC hF [.sh,.sh,.sh] za2 (fun z21 hF=>?_)
    refine wG hF (fun h22 hF=>?_) fun h22 hF=>?_
    ·try simp[go_sem,g,h22]
     refine wC hF [.sh,.sh,.sh] za2 (fun z23 hF=>?_)
     try simp[go_sem,g,h22]
     refine wG hF (fun h24 hF=>?_) fun h24 hF=>?_
     ·exact wV h24 (hj18 _) (zaa hF)
     exact wV h24 (hj18 _) (zaa hF)
    exact wV h22 (hj18 _) (zaa hF)
   refine wK [1,53] ?_
   refine wI hF (fun h25 hF=>?_) (fun h25 hF=>?_)
   ·refine wJ hF (fun x28=>[(2,.v (.bool x28))]) (fun x28 hF=>?_) fun _ hj26 hF=>?_
    ·exact wm hΦ hF
    refine wG hF (fun h29 hF=>?_) fun h29 hF=>?_
    ·try simp[go_sem,g,h29]
     refine wG hF (fun h30 hF=>?_) fun h30 hF=>?_
     ·exact wV h30 (hj26 _) (zaa hF)
     exact wV h30 (hj26 _) (zaa hF)
    exact wV h29 (hj26 _) (zaa hF)
   cases hΦ _ (zaa hF)
   iterate 2 refine wW ?_
   try simp[go_sem,g]
  refine wI hF (fun h9 hF=>?_) (fun h9 hF=>?_)
  ·exact wT (hj6 _) (zaa hF)
  exact wT (hj6 _) (zaa hF)
 refine wG hF (fun h4 hF=>?_) fun h4 hF=>?_
 ·exact wV h4 (hj1 _) (zaa hF)
 exact wV h4 (hj1 _) (zaa hF)
def zaK (a0:Contest):Option Int:=
 if(a0.Kind==2)=true then(
 some (i64.wrap (a0.Points+1)))else(
 if(a0.Kind==3)=true then(
 some (i64.wrap (a0.Options+1)))else(
 if(a0.Kind==4)=true then(
 some 27)else(
 some 2)))
theorem zh1:∀{a0}{r},zaK a0=some r→PCalls Tryz.prog 156 [(.sh,vF a0)] (Eo (.int .i64 r) [.junk]):=by
 intro a0 r hr
 apply pF 17 [] [] [] [.tmp 2] hr zE9 Tryz.func156
 intro Φ hΦ hF g
 unfold zaK at hF
 iterate 2 refine wW ?_
 refine wB ?_
 refine wW ?_
 refine wI hF (fun h1 hF=>?_) (fun h1 hF=>?_)
 ·refine wK [2] ?_
  exact wm hΦ hF
 refine wW ?_
 refine wI hF (fun h2 hF=>?_) (fun h2 hF=>?_)
 ·refine wK [2] ?_
  exact wm hΦ hF
 refine wK [15] ?_
 refine wI hF (fun h3 hF=>?_) (fun h3 hF=>?_)
 ·exact wl hΦ hF
 cases hΦ _ (zaa hF)
 iterate 2 refine wW ?_
 try simp[go_sem,g]
def ze9 (a0:List Int) (a1:Int):Option Int:=
 ((zaQ (σ:=Int×Int) (fun s4=>
 if decide (0≤s4.2)=true then(
 (ix a0 s4.2).bind fun x10=>
 some (.go (i64.wrap ((i64.wrap (s4.1*a1))+x10),i64.wrap (s4.2-1))))else(
 some (.out s4.1))) (0,i64.wrap ((a0.length:Int)-1)):Option Int).bind fun x3=>
 some x3)
theorem zlt:∀{a0}{a1}{r},ze9 a0 a1=some r→PCalls Tryz.prog 186 [(.sh,vC a0),(.sh,.int .i64 a1)] (Eo (.int .i64 r) [.junk,.junk]):=by
 intro a0 a1 r hr
 apply pF 23 [] [] [] [.tmp 4] hr zDo Tryz.func186
 intro Φ hΦ hF g
 unfold ze9 at hF
 iterate 3 (try simp[go_sem,g];try intros;refine zat ?_)
 refine wJ hF (fun x3=>[(5,.v (.int .i64 x3))]) (fun x3 hF=>?_) fun _ hj1 hF=>?_
 ·exact wl hΦ hF
 refine wB ?_
 obtain⟨b11,hb12,hψ8⟩:=hF
 refine pL hb12 (fun s4=>[(0,.v (vC a0)),(1,.v (.int .i64 a1)),(5,.v (.int .i64 s4.1)),(6,.v (.int .i64 s4.2))]) (fun s4 _ _ ho6 hg7 hF=>?_)
 refine wW ?_
 refine wI hF (fun h9 hF=>?_) (fun h9 hF=>?_)
 ·refine wW ?_
  refine wB ?_
  obtain⟨x10,g,hF⟩:=Rx g hF
  refine wK [0,1,5,6] ?_
  exact wT (hg7 _) (zaa hF)
 cases ho6 _ (zaa hF)
 exact wT (hj1 _) hψ8
def zb5 (a0:Contest):Option Int:=
 ((if(a0.Kind==1)=true then(
 zaQ (σ:=(List Int)×Int) (fun s5=>
 if decide (s5.2<a0.Options)=true then(
 ((if decide ((i64.wrap (a0.Options-a0.Most))≤s5.2)=true then(
 some 1)else(
 some 0):Option Int).bind fun x13=>
 gd ((s5.1.length+1)*8≤140737488355328∧s5.1.length+1≤4611686018427387904)<|
 some (.go (s5.1++[x13],i64.wrap (s5.2+1)))))else(
 some (.out s5.1))) ([],0))else(
 if(a0.Kind==2)=true then(
 gd (0≤a0.Options∧a0.Options≤a0.Options∧8*a0.Options≤140737488355328∧a0.Options≤4611686018427387904)<|
 (some (List.replicate a0.Options.toNat 0)).bind fun x18=>
 zaQ (σ:=(List Int)×Int×Int) (fun s29=>
 if decide (0≤s29.2.2)=true then(
 (ix s29.1 s29.2.2).bind fun x35=>
 (ix (s29.1.set s29.2.2.toNat (if a0.Points<s29.2.1 then a0.Points else s29.2.1)) s29.2.2).bind fun x36=>
 some (.go (s29.1.set s29.2.2.toNat (if a0.Points<s29.2.1 then a0.Points else s29.2.1),i64.wrap (s29.2.1-x36),i64.wrap (s29.2.2-1))))else(
 some (.out s29.1))) (x18,a0.Most,i64.wrap (a0.Options-1)))else(
 if(a0.Kind==3)=true then(
 zaQ (σ:=(List Int)×Int) (fun s40=>
 if decide (s40.2<a0.Most)=true then(
 gd ((s40.1.length+1)*8≤140737488355328∧s40.1.length+1≤4611686018427387904)<|
 some (.go (s40.1++[i64.wrap ((i64.wrap ((i64.wrap (a0.Options-a0.Most))+1))+s40.2)],i64.wrap (s40.2+1))))else(
 some (.out s40.1))) ([],0))else(
 zaQ (σ:=(List Int)×Int) (fun s48=>
 if decide (s48.2<a0.Most)=true then(
 gd ((s48.1.length+1)*8≤140737488355328∧s48.1.length+1≤4611686018427387904)<|
 some (.go (s48.1++[26],i64.wrap (s48.2+1))))else(
 some (.out s48.1))) ([],0)))):Option ((List Int))).bind fun x3=>
 (zaK a0).bind fun z56=>
 (ze9 x3 z56).bind fun z57=>
 some z57)
theorem zgP:∀{a0}{r},zb5 a0=some r→PCalls Tryz.prog 116 [(.sh,vF a0)] (Eo (.int .i64 r) [.junk]):=by
 intro a0 r hr
 apply pF 89 [] [] [] [.tmp 2] hr zE1 Tryz.func116
 intro Φ hΦ hF g
 unfold zb5 at hF
 iterate 3 refine wW ?_
 refine wJ hF (fun x3=>[(1,.bl [.int .i64 a0.Kind,.int .i64 a0.Options,.int .i64 a0.Least,.int .i64 a0.Most,.int .i64 a0.Points]),(3,.v (vD x3))]) (fun x3 hF=>?_) fun _ hj1 hF=>?_
 ·refine wC hF [.sh] zh1 (fun z56 hF=>?_)
  refine wC hF [.sh,.sh] zlt (fun z57 hF=>?_)
  refine wK [2] ?_
  exact wm hΦ hF
 refine wB ?_
 refine wW ?_
 refine wI hF (fun h4 hF=>?_) (fun h4 hF=>?_)
 ·refine wK [1,3,23,24] ?_
  refine wB ?_
  obtain⟨b15,hb16,hψ9⟩:=hF
  refine pL hb16 (fun s5=>[(1,.bl [.int .i64 a0.Kind,.int .i64 a0.Options,.int .i64 a0.Least,.int .i64 a0.Most,.int .i64 a0.Points]),(3,.v (vD s5.1)),(23,.v (.int .i64 a0.Options)),(24,.v (.int .i64 s5.2))]) (fun s5 _ _ ho7 hg8 hF=>?_)
  refine wW ?_
  refine wI hF (fun h10 hF=>?_) (fun h10 hF=>?_)
  ·refine wW ?_
   refine wB ?_
   iterate 2 refine wW ?_
   refine wK [1,3,5,23,24,33] ?_
   refine wJ hF (fun x13=>[(1,.bl [.int .i64 a0.Kind,.int .i64 a0.Options,.int .i64 a0.Least,.int .i64 a0.Most,.int .i64 a0.Points]),(3,.v (vD s5.1)),(5,.v (.int .i64 x13)),(23,.v (.int .i64 a0.Options)),(24,.v (.int .i64 s5.2))]) (fun x13 hF=>?_) fun _ hj11 hF=>?_
   ·obtain⟨g,hF⟩:=Rg g hF
    refine wW ?_
    exact wT (hg8 _) (zaa hF)
   refine wI hF (fun h14 hF=>?_) (fun h14 hF=>?_)
   ·exact wT (hj11 _) (zaa hF)
   exact wT (hj11 _) (zaa hF)
  cases ho7 _ (zaa hF)
  exact wT (hj1 _) hψ9
 refine wK [1,3,11,39] ?_
 refine wI hF (fun h17 hF=>?_) (fun h17 hF=>?_)
 ·obtain⟨g,hF⟩:=Rg g hF
  obtain⟨x18,e19,hF⟩:=zen hF
  have g20:List.replicate a0.Options.toNat ([.int .i64 0]:List PV)=x18.map zaj:=by injection e19 with e19;rw[←e19];simp[go_sem]
  iterate 2 (try simp[go_sem,g,g20];refine zat ?_)
  try simp[go_sem,g,g20]
  refine wK [1,3,6,7] ?_
  refine wB ?_
  obtain⟨b37,hb38,hψ33⟩:=hF
  refine pL hb38 (fun s29=>[(1,.bl [.int .i64 a0.Kind,.int .i64 a0.Options,.int .i64 a0.Least,.int .i64 a0.Most,.int .i64 a0.Points]),(3,.v (vD s29.1)),(6,.v (.int .i64 s29.2.1)),(7,.v (.int .i64 s29.2.2))]) (fun s29 _ _ ho31 hg32 hF=>?_)
  refine wW ?_
  refine wI hF (fun h34 hF=>?_) (fun h34 hF=>?_)
  ·refine wW ?_
   refine wB ?_
   obtain⟨x35,g,hF⟩:=Rx g hF
   refine wK [1,3,6,7] ?_
   obtain⟨x36,g,hF⟩:=Rx g hF
   try simp only[List.length_set]at g
   refine wW ?_
   exact wT (hg32 _) (zaa hF)
  cases ho31 _ (zaa hF)
  exact wT (hj1 _) hψ33
 refine wW ?_
 refine wI hF (fun h39 hF=>?_) (fun h39 hF=>?_)
 ·refine wW ?_
  refine wB ?_
  obtain⟨b46,hb47,hψ44⟩:=hF
  refine pL hb47 (fun s40=>[(1,.bl [.int .i64 a0.Kind,.int .i64 a0.Options,.int .i64 a0.Least,.int .i64 a0.Most,.int .i64 a0.Points]),(3,.v (vD s40.1)),(69,.v (.int .i64 a0.Most)),(70,.v (.int .i64 s40.2))]) (fun s40 _ _ ho42 hg43 hF=>?_)
  refine wW ?_
  refine wI hF (fun h45 hF=>?_) (fun h45 hF=>?_)
  ·refine wW ?_
   refine wB ?_
   obtain⟨g,hF⟩:=Rg g hF
   refine wW ?_
   refine wK [1,3,69,70] ?_
   exact wT (hg43 _) (zaa hF)
  cases ho42 _ (zaa hF)
  exact wT (hj1 _) hψ44
 refine wW ?_
 refine wB ?_
 obtain⟨b54,hb55,hψ52⟩:=hF
 refine pL hb55 (fun s48=>[(1,.bl [.int .i64 a0.Kind,.int .i64 a0.Options,.int .i64 a0.Least,.int .i64 a0.Most,.int .i64 a0.Points]),(3,.v (vD s48.1)),(13,.v (.int .i64 a0.Most)),(14,.v (.int .i64 s48.2))]) (fun s48 _ _ ho50 hg51 hF=>?_)
 refine wW ?_
 refine wI hF (fun h53 hF=>?_) (fun h53 hF=>?_)
 ·refine wW ?_
  refine wB ?_
  obtain⟨g,hF⟩:=Rg g hF
  refine wK [1,3,13,14] ?_
  exact wT (hg51 _) (zaa hF)
 cases ho50 _ (zaa hF)
 exact wT (hj1 _) hψ52
def zbX (a0:Contest):Option Bool:=
 ((if(a0.Kind==1)=true then(
 some true)else(
 some (a0.Kind==2)):Option Bool).bind fun x3=>
 some x3)
theorem zfB:∀{a0}{r},zbX a0=some r→PCalls Tryz.prog 54 [(.sh,vF a0)] (Eo (.bool r) [.junk]):=by
 intro a0 r hr
 apply pF 11 [] [] [] [.tmp 2] hr zHa Tryz.func54
 intro Φ hΦ hF g
 unfold zbX at hF
 refine wW ?_
 refine wJ hF (fun x3=>[(2,.v (.bool x3))]) (fun x3 hF=>?_) fun _ hj1 hF=>?_
 ·exact wm hΦ hF
 refine wG hF (fun h4 hF=>?_) fun h4 hF=>?_
 ·exact wV h4 (hj1 _) (zaa hF)
 exact wV h4 (hj1 _) (zaa hF)
@[go_sem] def zFa:List DE:=[d2 0 [2] 2 2,d3 1 [5],d0 2 [6],d0 3 [7],d2 4 [3,8] 3 3,d3 5 [9,8],d0 6 [10,8],d0 7 [8,11],d0 8 [12],d2 9 [3,13] 3 3,d3 10 [14,13],d0 11 [15,13],d0 12 [13,16],d0 13 [17],d2 14 [3,18] 3 3,d1 16 [2,18] 2,d2 17 [21,18] 2 21,d3 15 [19,18],d0 18 [20,22,18],d0 19 [18,23]]
def zeC (a0:Group) (a1:Contest):Option Bool:=
 (((zbO a0).bind fun z4=>
 if(!z4)=true then(
 some true)else(
 (zcA a1).bind fun z6=>
 if(!z6)=true then(
 some true)else(
 (zb5 a1).bind fun z8=>
 if decide (100000<z8)=true then(
 some true)else(
 (zb5 a1).bind fun z10=>
 some (decide (a0.Q≤z10))))):Option Bool).bind fun x3=>
 if x3=true then(
 some false)else(
 (((zbX a1).bind fun z15=>
 if(!z15)=true then(
 some true)else(
 if decide ((i64.wrap (a1.Most-a1.Least))<8)=true then(
 some (decide (a1.Most<a0.Q)))else(
 some false)):Option Bool).bind fun x14=>
 some x14)))
theorem zmU:∀{a0}{a1}{r},zeC a0 a1=some r→PCalls Tryz.prog 46 [(.sh,vE a0),(.sh,vF a1)] (Eo (.bool r) [.junk,.junk]):=by
 intro a0 a1 r hr
 apply pF 43 [] [] [] [.tmp 4] hr zKk Tryz.func46
 intro Φ hΦ hF g
 unfold zeC at hF
 refine wW ?_
 refine wJ hF (fun x3=>[(2,.bl [.int .i64 a0.P,.int .i64 a0.Q,.int .i64 a0.G]),(3,.bl [.int .i64 a1.Kind,.int .i64 a1.Options,.int .i64 a1.Least,.int .i64 a1.Most,.int .i64 a1.Points]),(24,.v (.bool x3))]) (fun x3 hF=>?_) fun _ hj1 hF=>?_
 ·refine wI hF (fun h11 hF=>?_) (fun h11 hF=>?_)
  ·exact wl hΦ hF
  refine wW ?_
  refine wJ hF (fun x14=>[(4,.v (.bool x14))]) (fun x14 hF=>?_) fun _ hj12 hF=>?_
  ·exact wm hΦ hF
  refine wC hF [.sh] zfB (fun z15 hF=>?_)
  refine wG hF (fun h16 hF=>?_) fun h16 hF=>?_
  ·exact wV h16 (hj12 _) (zaa hF)
  try simp[go_sem,g,h16]
  refine wG hF (fun h17 hF=>?_) fun h17 hF=>?_
  ·try simp[go_sem,g,h17,h16]
   exact wT (hj12 _) (zaa hF)
  try simp[go_sem,g,h17,h16]
  exact wT (hj12 _) (zaa hF)
 refine wX zFa follows ?_
 refine wC hF [.sh] ze3 (fun z4 hF=>?_)
 refine wH hF (fun h5 hF=>?_) fun h5 hF=>?_
 ·exact wV h5 (hj1 _) (zaa hF)
 try simp[go_sem,g,h5]
 refine wC hF [.sh] zkG (fun z6 hF=>?_)
 try simp[go_sem,g,h5]
 refine wH hF (fun h7 hF=>?_) fun h7 hF=>?_
 ·exact wV h7 (hj1 _) (zaa hF)
 try simp[go_sem,g,h7]
 refine wC hF [.sh] zgP (fun z8 hF=>?_)
 try simp[go_sem,g,h7]
 refine wH hF (fun h9 hF=>?_) fun h9 hF=>?_
 ·exact wV h9 (hj1 _) (zaa hF)
 try simp[go_sem,g,h9]
 refine wC hF [.sh] zgP (fun z10 hF=>?_)
 exact wV h9 (hj1 _) (zaa hF)
def zd4 (a0:Group) (a1:Int):Option Bool:=
 (((zaB a1 1 (i64.wrap (a0.P-1))).bind fun z4=>
 if z4=true then(
 (zeh a1 a0.Q a0.P).bind fun z6=>
 some (z6==1))else(
 some false):Option Bool).bind fun x3=>
 some x3)
theorem zjK:∀{a0}{a1}{r},zd4 a0 a1=some r→PCalls Tryz.prog 47 [(.sh,vE a0),(.sh,.int .i64 a1)] (Eo (.bool r) [.junk,.junk]):=by
 intro a0 a1 r hr
 apply pF 19 [] [] [] [.tmp 4] hr zIw Tryz.func47
 intro Φ hΦ hF g
 unfold zd4 at hF
 refine wW ?_
 refine wJ hF (fun x3=>[(4,.v (.bool x3))]) (fun x3 hF=>?_) fun _ hj1 hF=>?_
 ·exact wm hΦ hF
 refine wC hF [.sh,.sh,.sh] za2 (fun z4 hF=>?_)
 refine wG hF (fun h5 hF=>?_) fun h5 hF=>?_
 ·try simp[go_sem,g,h5]
  refine wC hF [.sh,.sh,.sh] zju (fun z6 hF=>?_)
  exact wV h5 (hj1 _) (zaa hF)
 exact wV h5 (hj1 _) (zaa hF)
def zeO (a0:Int):Option Bool:=
 (zaB a0 0 999999).bind fun z1=>
 some z1
theorem zkD:∀{a0}{r},zeO a0=some r→PCalls Tryz.prog 48 [(.sh,.int .i64 a0)] (Eo (.bool r) [.junk]):=by
 intro a0 r hr
 apply pF 5 [] [] [] [.tmp 2] hr zHX Tryz.func48
 intro Φ hΦ hF g
 unfold zeO at hF
 refine wW ?_
 refine wC hF [.sh,.sh,.sh] za2 (fun z1 hF=>?_)
 exact wl hΦ hF
def zdF (a0:Int) (a1c0:Int) (a1c1:Int) (a1c2:Int) (a1c3:Int) (a1c4:Int):Option Bool:=
 (zaB a0 0 a1c4).bind fun z1=>
 some z1
theorem zjv:∀{a0}{a1c0}{a1c1}{a1c2}{a1c3}{a1c4}{r},zdF a0 a1c0 a1c1 a1c2 a1c3 a1c4=some r→PCalls Tryz.prog 118 [(.sh,.int .i64 a0),(.sh,.fp [.int .i64 a1c0,.int .i64 a1c1,.int .i64 a1c2,.int .i64 a1c3,.int .i64 a1c4])] (Eo (.bool r) [.junk,.junk]):=by
 intro a0 a1c0 a1c1 a1c2 a1c3 a1c4 r hr
 apply pF 8 [] [] [] [.tmp 3] hr zEu Tryz.func118
 intro Φ hΦ hF g
 unfold zdF at hF
 refine wW ?_
 refine wC hF [.sh,.sh,.sh] za2 (fun z1 hF=>?_)
 exact wl hΦ hF
def zbf (a0:Int) (a1c0u0c0:Int) (a1c0u0c1:Int) (a1c0u0c2:Int) (a1c0u0c3:Int) (a1c0u0c4:Int):Option Bool:=
 (zdF a0 a1c0u0c0 a1c0u0c1 a1c0u0c2 a1c0u0c3 a1c0u0c4).bind fun z1=>
 some (!z1)
theorem zgj:∀{a0}{a1c0u0c0}{a1c0u0c1}{a1c0u0c2}{a1c0u0c3}{a1c0u0c4}{r},zbf a0 a1c0u0c0 a1c0u0c1 a1c0u0c2 a1c0u0c3 a1c0u0c4=some r→PCalls Tryz.prog 181 [(.sh,.int .i64 a0),(.sh,.fp [.func (.func 118) [] [.fp [.int .i64 a1c0u0c0,.int .i64 a1c0u0c1,.int .i64 a1c0u0c2,.int .i64 a1c0u0c3,.int .i64 a1c0u0c4]]])] (Eo (.bool r) [.junk,.junk]):=by
 intro a0 a1c0u0c0 a1c0u0c1 a1c0u0c2 a1c0u0c3 a1c0u0c4 r hr
 apply pF 8 [] [] [] [.tmp 3] hr znY Tryz.func181
 intro Φ hΦ hF g
 unfold zbf at hF
 refine wW ?_
 refine wC hF [.sh] zjv (fun z1 hF=>?_)
 exact wl hΦ hF
def zaY (a0:List Int) (a1u0c0u0c0:Int) (a1u0c0u0c1:Int) (a1u0c0u0c2:Int) (a1u0c0u0c3:Int) (a1u0c0u0c4:Int):Option Int:=
 ((zap (σ:=Unit) (fun i5 s4=>
 (ix a0 i5).bind fun x11=>
 (zbf x11 a1u0c0u0c0 a1u0c0u0c1 a1u0c0u0c2 a1u0c0u0c3 a1u0c0u0c4).bind fun z12=>
 if z12=true then(
 some (.out (.inr i5)))else(
 some (.go ()))) (fun s4=>.inl ()) (a0.length) 0 ():Option (Unit ⊕ Int)).bind (Sum.elim (fun x3=>
 some (-1)) some))
theorem zdo:∀{a0}{a1u0c0u0c0}{a1u0c0u0c1}{a1u0c0u0c2}{a1u0c0u0c3}{a1u0c0u0c4}{r},zaY a0 a1u0c0u0c0 a1u0c0u0c1 a1u0c0u0c2 a1u0c0u0c3 a1u0c0u0c4=some r→PCalls Tryz.prog 219 [(.sh,vC a0),(.sh,.func (.func 181) [] [.fp [.func (.func 118) [] [.fp [.int .i64 a1u0c0u0c0,.int .i64 a1u0c0u0c1,.int .i64 a1u0c0u0c2,.int .i64 a1u0c0u0c3,.int .i64 a1u0c0u0c4]]]])] (Eo (.int .i64 r) [.junk,.junk]):=by
 intro a0 a1u0c0u0c0 a1u0c0u0c1 a1u0c0u0c2 a1u0c0u0c3 a1u0c0u0c4 r hr
 apply pF 19 [] [] [] [.tmp 4] hr znX Tryz.func219
 intro Φ hΦ hF g
 unfold zaY at hF
 iterate 2 (try simp[go_sem,g];try intros;refine zat ?_)
 refine wS hF (fun x3=>[]) (fun x3 hF=>?_) fun _ hj1 hr2 hF=>?_
 ·exact wl hΦ hF
 refine wB ?_
 obtain⟨b14,hb15,hψ8⟩:=hF
 refine pR hb15 (fun i5 s4=>[(0,.v (vC a0)),(1,.v (.func (.func 181) [] [.fp [.func (.func 118) [] [.fp [.int .i64 a1u0c0u0c0,.int .i64 a1u0c0u0c1,.int .i64 a1u0c0u0c2,.int .i64 a1u0c0u0c3,.int .i64 a1u0c0u0c4]]]])),(7,.v (.int .i64 (a0.length:Int))),(8,.v (.int .i64 i5))]) (fun s4 _ hN16=>?_) (fun i5 s4 _ _ hi9 hi10 ho6 hg7 hF=>?_)
 ·exact wn hN16 (hj1 _) hψ8
 refine wW ?_
 refine wu hi9 hi10 ?_
 refine wW ?_
 refine wB ?_
 obtain⟨x11,g,hF⟩:=Rx g hF
 refine wW ?_
 refine wC hF [.sh] zgj (fun z12 hF=>?_)
 refine wK [0,1,5,7,8,16] ?_
 refine wI hF (fun h13 hF=>?_) (fun h13 hF=>?_)
 ·cases ho6 _ (zaa hF)
  cases hΦ _ (hr2 _ hψ8)
  refine wW ?_
  try simp[go_sem,g]
 refine wW ?_
 exact wi hi9 hi10 (hg7 _) (zaa hF)
def zaR (a0:List Int) (a1u0c0u0c0:Int) (a1u0c0u0c1:Int) (a1u0c0u0c2:Int) (a1u0c0u0c3:Int) (a1u0c0u0c4:Int):Option Bool:=
 (zaY a0 a1u0c0u0c0 a1u0c0u0c1 a1u0c0u0c2 a1u0c0u0c3 a1u0c0u0c4).bind fun z1=>
 some (decide (0≤z1))
theorem zc6:∀{a0}{a1u0c0u0c0}{a1u0c0u0c1}{a1u0c0u0c2}{a1u0c0u0c3}{a1u0c0u0c4}{r},zaR a0 a1u0c0u0c0 a1u0c0u0c1 a1u0c0u0c2 a1u0c0u0c3 a1u0c0u0c4=some r→PCalls Tryz.prog 180 [(.sh,vC a0),(.sh,.func (.func 181) [] [.fp [.func (.func 118) [] [.fp [.int .i64 a1u0c0u0c0,.int .i64 a1u0c0u0c1,.int .i64 a1u0c0u0c2,.int .i64 a1u0c0u0c3,.int .i64 a1u0c0u0c4]]]])] (Eo (.bool r) [.junk,.junk]):=by
 intro a0 a1u0c0u0c0 a1u0c0u0c1 a1u0c0u0c2 a1u0c0u0c3 a1u0c0u0c4 r hr
 apply pF 9 [] [] [] [.tmp 4] hr zoA Tryz.func180
 intro Φ hΦ hF g
 unfold zaR at hF
 refine wW ?_
 refine wC hF [.sh,.sh] zdo (fun z1 hF=>?_)
 exact wl hΦ hF
def zbI (a0:List Int) (a1u0c0:Int) (a1u0c1:Int) (a1u0c2:Int) (a1u0c3:Int) (a1u0c4:Int):Option Bool:=
 (zaR a0 a1u0c0 a1u0c1 a1u0c2 a1u0c3 a1u0c4).bind fun z1=>
 some (!z1)
theorem zgr:∀{a0}{a1u0c0}{a1u0c1}{a1u0c2}{a1u0c3}{a1u0c4}{r},zbI a0 a1u0c0 a1u0c1 a1u0c2 a1u0c3 a1u0c4=some r→PCalls Tryz.prog 103 [(.sh,vC a0),(.sh,.func (.func 118) [] [.fp [.int .i64 a1u0c0,.int .i64 a1u0c1,.int .i64 a1u0c2,.int .i64 a1u0c3,.int .i64 a1u0c4]])] (Eo (.bool r) [.junk,.junk]):=by
 intro a0 a1u0c0 a1u0c1 a1u0c2 a1u0c3 a1u0c4 r hr
 apply pF 9 [] [] [1000000] [.tmp 4] hr znS Tryz.func103
 intro Φ hΦ hF g
 unfold zbI at hF
 refine wW ?_
 refine wC hF [.sh,.sh] zc6 (fun z1 hF=>?_)
 exact wl hΦ hF
def zdB (a0:Int) (a1c0:Int) (a2c0:Int):Option Bool:=
 (zaB a0 a1c0 a2c0).bind fun z1=>
 some z1
theorem zjq:∀{a0}{a1c0}{a2c0}{r},zdB a0 a1c0 a2c0=some r→PCalls Tryz.prog 119 [(.sh,.int .i64 a0),(.sh,.fp [.int .i64 a1c0]),(.sh,.fp [.int .i64 a2c0])] (Eo (.bool r) [.junk,.junk,.junk]):=by
 intro a0 a1c0 a2c0 r hr
 apply pF 9 [] [] [] [.tmp 4] hr zDW Tryz.func119
 intro Φ hΦ hF g
 unfold zdB at hF
 refine wW ?_
 refine wC hF [.sh,.sh,.sh] za2 (fun z1 hF=>?_)
 exact wl hΦ hF
def zbg (a0:Int) (a1c0u0c0:Int) (a1c0u1c0:Int):Option Bool:=
 (zdB a0 a1c0u0c0 a1c0u1c0).bind fun z1=>
 some (!z1)
theorem zgi:∀{a0}{a1c0u0c0}{a1c0u1c0}{r},zbg a0 a1c0u0c0 a1c0u1c0=some r→PCalls Tryz.prog 181 [(.sh,.int .i64 a0),(.sh,.fp [.func (.func 119) [] [.fp [.int .i64 a1c0u0c0],.fp [.int .i64 a1c0u1c0]]])] (Eo (.bool r) [.junk,.junk]):=by
 intro a0 a1c0u0c0 a1c0u1c0 r hr
 apply pF 8 [] [] [] [.tmp 3] hr znY Tryz.func181
 intro Φ hΦ hF g
 unfold zbg at hF
 refine wW ?_
 refine wC hF [.sh] zjq (fun z1 hF=>?_)
 exact wl hΦ hF
def zaZ (a0:List Int) (a1u0c0u0c0:Int) (a1u0c0u1c0:Int):Option Int:=
 ((zap (σ:=Unit) (fun i5 s4=>
 (ix a0 i5).bind fun x11=>
 (zbg x11 a1u0c0u0c0 a1u0c0u1c0).bind fun z12=>
 if z12=true then(
 some (.out (.inr i5)))else(
 some (.go ()))) (fun s4=>.inl ()) (a0.length) 0 ():Option (Unit ⊕ Int)).bind (Sum.elim (fun x3=>
 some (-1)) some))
theorem zdq:∀{a0}{a1u0c0u0c0}{a1u0c0u1c0}{r},zaZ a0 a1u0c0u0c0 a1u0c0u1c0=some r→PCalls Tryz.prog 219 [(.sh,vC a0),(.sh,.func (.func 181) [] [.fp [.func (.func 119) [] [.fp [.int .i64 a1u0c0u0c0],.fp [.int .i64 a1u0c0u1c0]]]])] (Eo (.int .i64 r) [.junk,.junk]):=by
 intro a0 a1u0c0u0c0 a1u0c0u1c0 r hr
 apply pF 19 [] [] [] [.tmp 4] hr znX Tryz.func219
 intro Φ hΦ hF g
 unfold zaZ at hF
 iterate 2 (try simp[go_sem,g];try intros;refine zat ?_)
 refine wS hF (fun x3=>[]) (fun x3 hF=>?_) fun _ hj1 hr2 hF=>?_
 ·exact wl hΦ hF
 refine wB ?_
 obtain⟨b14,hb15,hψ8⟩:=hF
 refine pR hb15 (fun i5 s4=>[(0,.v (vC a0)),(1,.v (.func (.func 181) [] [.fp [.func (.func 119) [] [.fp [.int .i64 a1u0c0u0c0],.fp [.int .i64 a1u0c0u1c0]]]])),(7,.v (.int .i64 (a0.length:Int))),(8,.v (.int .i64 i5))]) (fun s4 _ hN16=>?_) (fun i5 s4 _ _ hi9 hi10 ho6 hg7 hF=>?_)
 ·exact wn hN16 (hj1 _) hψ8
 refine wW ?_
 refine wu hi9 hi10 ?_
 refine wW ?_
 refine wB ?_
 obtain⟨x11,g,hF⟩:=Rx g hF
 refine wW ?_
 refine wC hF [.sh] zgi (fun z12 hF=>?_)
 refine wK [0,1,5,7,8,16] ?_
 refine wI hF (fun h13 hF=>?_) (fun h13 hF=>?_)
 ·cases ho6 _ (zaa hF)
  cases hΦ _ (hr2 _ hψ8)
  refine wW ?_
  try simp[go_sem,g]
 refine wW ?_
 exact wi hi9 hi10 (hg7 _) (zaa hF)
def zaS (a0:List Int) (a1u0c0u0c0:Int) (a1u0c0u1c0:Int):Option Bool:=
 (zaZ a0 a1u0c0u0c0 a1u0c0u1c0).bind fun z1=>
 some (decide (0≤z1))
theorem zc9:∀{a0}{a1u0c0u0c0}{a1u0c0u1c0}{r},zaS a0 a1u0c0u0c0 a1u0c0u1c0=some r→PCalls Tryz.prog 180 [(.sh,vC a0),(.sh,.func (.func 181) [] [.fp [.func (.func 119) [] [.fp [.int .i64 a1u0c0u0c0],.fp [.int .i64 a1u0c0u1c0]]]])] (Eo (.bool r) [.junk,.junk]):=by
 intro a0 a1u0c0u0c0 a1u0c0u1c0 r hr
 apply pF 9 [] [] [] [.tmp 4] hr zoA Tryz.func180
 intro Φ hΦ hF g
 unfold zaS at hF
 refine wW ?_
 refine wC hF [.sh,.sh] zdq (fun z1 hF=>?_)
 exact wl hΦ hF
def zbJ (a0:List Int) (a1u0c0:Int) (a1u1c0:Int):Option Bool:=
 (zaS a0 a1u0c0 a1u1c0).bind fun z1=>
 some (!z1)
theorem zgx:∀{a0}{a1u0c0}{a1u1c0}{r},zbJ a0 a1u0c0 a1u1c0=some r→PCalls Tryz.prog 103 [(.sh,vC a0),(.sh,.func (.func 119) [] [.fp [.int .i64 a1u0c0],.fp [.int .i64 a1u1c0]])] (Eo (.bool r) [.junk,.junk]):=by
 intro a0 a1u0c0 a1u1c0 r hr
 apply pF 9 [] [] [1000000] [.tmp 4] hr znS Tryz.func103
 intro Φ hΦ hF g
 unfold zbJ at hF
 refine wW ?_
 refine wC hF [.sh,.sh] zc9 (fun z1 hF=>?_)
 exact wl hΦ hF
def zfg (a0:Int):Option Bool:=
 some (a0 !=a0)
theorem zjZ:∀{a0}{r},zfg a0=some r→PCalls Tryz.prog 221 [(.sh,.int .i64 a0)] (Eo (.bool r) [.junk]):=by
 intro a0 r hr
 apply pF 6 [] [] [] [.tmp 2] hr zEa Tryz.func221
 intro Φ hΦ hF g
 unfold zfg at hF
 cases hΦ _ (zaa hF)
 iterate 2 refine wW ?_
 try simp[go_sem,g]
def zfA (a0:Int) (a1:Int):Option Bool:=
 (((zfg a0).bind fun z4=>
 if z4=true then(
 (zfg a1).bind fun z6=>
 if(!z6)=true then(
 some true)else(
 some (decide (a0<a1))))else(
 some (decide (a0<a1))):Option Bool).bind fun x3=>
 some x3)
theorem zpl:∀{a0}{a1}{r},zfA a0 a1=some r→PCalls Tryz.prog 187 [(.sh,.int .i64 a0),(.sh,.int .i64 a1)] (Eo (.bool r) [.junk,.junk]):=by
 intro a0 a1 r hr
 apply pF 17 [] [] [] [.tmp 4] hr zB4 Tryz.func187
 intro Φ hΦ hF g
 unfold zfA at hF
 refine wW ?_
 refine wJ hF (fun x3=>[(4,.v (.bool x3))]) (fun x3 hF=>?_) fun _ hj1 hF=>?_
 ·exact wm hΦ hF
 refine wC hF [.sh] zjZ (fun z4 hF=>?_)
 refine wG hF (fun h5 hF=>?_) fun h5 hF=>?_
 ·try simp[go_sem,g,h5]
  refine wC hF [.sh] zjZ (fun z6 hF=>?_)
  try simp[go_sem,g,h5]
  refine wG hF (fun h7 hF=>?_) fun h7 hF=>?_
  ·exact wV h7 (hj1 _) (zaa hF)
  exact wV h7 (hj1 _) (zaa hF)
 exact wV h5 (hj1 _) (zaa hF)
@[go_sem] def zzQ:List DE:=[d0 0 [0],d0 1 [3],d0 2 [11,12],d0 3 [13],d0 4 [0],d0 5 [3],d0 6 [16],d0 7 [15,17],d0 8 [18],d3 9 [14,19]]
def zcv (a0:List Int):Option Bool:=
 ((zaQ (σ:=Int) (fun s4=>
 if decide (0<s4)=true then(
 (ix a0 s4).bind fun x10=>
 (ix a0 (i64.wrap (s4-1))).bind fun x11=>
 (zfA x10 x11).bind fun z12=>
 if z12=true then(
 some (.out (.inr false)))else(
 some (.go (i64.wrap (s4-1)))))else(
 some (.out (.inl ())))) (i64.wrap ((a0.length:Int)-1)):Option (Unit ⊕ Bool)).bind (Sum.elim (fun x3=>
 some true) some))
theorem ziY:∀{a0}{r},zcv a0=some r→PCalls Tryz.prog 120 [(.sh,vC a0)] (Eo (.bool r) [.junk]):=by
 intro a0 r hr
 apply pF 21 [] [] [] [.tmp 2] hr zFh Tryz.func120
 intro Φ hΦ hF g
 unfold zcv at hF
 iterate 2 (try simp[go_sem,g];try intros;refine zat ?_)
 refine wS hF (fun x3=>[]) (fun x3 hF=>?_) fun _ hj1 hr2 hF=>?_
 ·exact wl hΦ hF
 refine wB ?_
 obtain⟨b14,hb15,hψ8⟩:=hF
 refine pL hb15 (fun s4=>[(0,.v (vC a0)),(3,.v (.int .i64 s4))]) (fun s4 _ _ ho6 hg7 hF=>?_)
 refine wW ?_
 refine wI hF (fun h9 hF=>?_) (fun h9 hF=>?_)
 ·refine wW ?_
  refine wB ?_
  refine wX zzQ follows ?_
  obtain⟨x10,g,hF⟩:=Rx g hF
  obtain⟨x11,g,hF⟩:=Rx g hF
  refine wC hF [.sh,.sh] zpl (fun z12 hF=>?_)
  refine wK [0,3,20] ?_
  refine wI hF (fun h13 hF=>?_) (fun h13 hF=>?_)
  ·cases ho6 _ (zaa hF)
   cases hΦ _ (hr2 _ hψ8)
   refine wW ?_
   try simp[go_sem,g]
  refine wW ?_
  exact wT (hg7 _) (zaa hF)
 cases ho6 _ (zaa hF)
 exact wT (hj1 _) hψ8
def zcj (a0:List Int) (a1:Int):Option Int:=
 ((zap (σ:=Unit) (fun i5 s4=>
 (ix a0 i5).bind fun x11=>
 if(a1==x11)=true then(
 some (.out (.inr i5)))else(
 some (.go ()))) (fun s4=>.inl ()) (a0.length) 0 ():Option (Unit ⊕ Int)).bind (Sum.elim (fun x3=>
 some (-1)) some))
theorem zke:∀{a0}{a1}{r},zcj a0 a1=some r→PCalls Tryz.prog 222 [(.sh,vC a0),(.sh,.int .i64 a1)] (Eo (.int .i64 r) [.junk,.junk]):=by
 intro a0 a1 r hr
 apply pF 19 [] [] [] [.tmp 4] hr zFg Tryz.func222
 intro Φ hΦ hF g
 unfold zcj at hF
 iterate 2 (try simp[go_sem,g];try intros;refine zat ?_)
 refine wS hF (fun x3=>[]) (fun x3 hF=>?_) fun _ hj1 hr2 hF=>?_
 ·exact wl hΦ hF
 refine wB ?_
 obtain⟨b13,hb14,hψ8⟩:=hF
 refine pR hb14 (fun i5 s4=>[(0,.v (vC a0)),(1,.v (.int .i64 a1)),(7,.v (.int .i64 (a0.length:Int))),(8,.v (.int .i64 i5))]) (fun s4 _ hN15=>?_) (fun i5 s4 _ _ hi9 hi10 ho6 hg7 hF=>?_)
 ·exact wn hN15 (hj1 _) hψ8
 refine wW ?_
 refine wu hi9 hi10 ?_
 refine wW ?_
 refine wB ?_
 obtain⟨x11,g,hF⟩:=Rx g hF
 refine wW ?_
 refine wK [0,1,5,7,8,16] ?_
 refine wI hF (fun h12 hF=>?_) (fun h12 hF=>?_)
 ·cases ho6 _ (zaa hF)
  cases hΦ _ (hr2 _ hψ8)
  refine wW ?_
  try simp[go_sem,g]
 refine wW ?_
 exact wi hi9 hi10 (hg7 _) (zaa hF)
def zcu (a0:List Int) (a1:Int):Option Bool:=
 (zcj a0 a1).bind fun z1=>
 some (decide (0≤z1))
theorem ziX:∀{a0}{a1}{r},zcu a0 a1=some r→PCalls Tryz.prog 188 [(.sh,vC a0),(.sh,.int .i64 a1)] (Eo (.bool r) [.junk,.junk]):=by
 intro a0 a1 r hr
 apply pF 9 [] [] [] [.tmp 4] hr zEH Tryz.func188
 intro Φ hΦ hF g
 unfold zcu at hF
 refine wW ?_
 refine wC hF [.sh,.sh] zke (fun z1 hF=>?_)
 exact wl hΦ hF
def zdS (a0:List Int):Option Bool:=
 ((zap (σ:=Unit) (fun i5 s4=>
 (ix a0 i5).bind fun x11=>
 gd (0≤i5)<|
 gd (0≤i5.toNat∧i5.toNat≤a0.length)<|
 (zcu ((a0.take i5.toNat).drop 0) x11).bind fun z12=>
 if z12=true then(
 some (.out (.inr false)))else(
 some (.go ()))) (fun s4=>.inl ()) (a0.length) 0 ():Option (Unit ⊕ Bool)).bind (Sum.elim (fun x3=>
 some true) some))
theorem zh0:∀{a0}{r},zdS a0=some r→PCalls Tryz.prog 121 [(.sh,vC a0)] (Eo (.bool r) [.junk]):=by
 intro a0 r hr
 apply pF 18 [] [] [] [.tmp 2] hr zD2 Tryz.func121
 intro Φ hΦ hF g
 unfold zdS at hF
 iterate 2 (try simp[go_sem,g];try intros;refine zat ?_)
 refine wS hF (fun x3=>[]) (fun x3 hF=>?_) fun _ hj1 hr2 hF=>?_
 ·exact wl hΦ hF
 refine wB ?_
 obtain⟨b14,hb15,hψ8⟩:=hF
 refine pR hb15 (fun i5 s4=>[(0,.v (vC a0)),(5,.v (vC a0)),(6,.v (.int .i64 (a0.length:Int))),(7,.v (.int .i64 i5))]) (fun s4 _ hN16=>?_) (fun i5 s4 _ _ hi9 hi10 ho6 hg7 hF=>?_)
 ·exact wn hN16 (hj1 _) hψ8
 refine wW ?_
 refine wu hi9 hi10 ?_
 refine wW ?_
 refine wB ?_
 obtain⟨x11,g,hF⟩:=Rx g hF
 refine wK [0,3,4,5,6,7] ?_
 obtain⟨g,hF⟩:=Rg g hF
 obtain⟨g,hF⟩:=Rg g hF
 refine wC hF [.sh,.sh] ziX (fun z12 hF=>?_)
 refine wW ?_
 refine wI hF (fun h13 hF=>?_) (fun h13 hF=>?_)
 ·cases ho6 _ (zaa hF)
  cases hΦ _ (hr2 _ hψ8)
  refine wW ?_
  try simp[go_sem,g]
 refine wW ?_
 exact wi hi9 hi10 (hg7 _) (zaa hF)
@[go_sem] def zzj:List DE:=[d0 0 [1],d0 1 [10],d0 2 [2],d0 3 [12],d0 4 [13],d0 5 [],d0 6 [],d0 7 [11],d2 8 [6] 6 6,d2 9 [7,14] 7 7]
@[go_sem] def zB9:List DE:=[d0 0 [2],d0 1 [30],d0 2 [],d2 3 [6] 6 6,d2 4 [7,31] 7 7]
def zdm (a0:Contest) (a1:List Int):Option Bool:=
 ((if(a0.Kind==2)=true then(
 ((if((a1.length:Int) !=a0.Options)=true then(
 some true)else(
 (zbI a1 a0.Kind a0.Options a0.Least a0.Most a0.Points).bind fun z9=>
 some (!z9)):Option Bool).bind fun x7=>
 if x7=true then(
 some (.inr false))else(
 zap (σ:=Int) (fun i12 s11=>
 (ix a1 i12).bind fun x18=>
 some (.go (i64.wrap (s11+x18)))) (fun s11=>.inl (s11,0,a0.Points)) (a1.length) 0 0)))else(
 if(a0.Kind==4)=true then(
 some (.inl ((a1.length:Int),1,26)))else(
 some (.inl ((a1.length:Int),0,i64.wrap (a0.Options-1))))):Option ((Int×Int×Int) ⊕ Bool)).bind (Sum.elim (fun x3=>
 (((zaB x3.1 a0.Least a0.Most).bind fun z27=>
 if(!z27)=true then(
 some true)else(
 (zbJ a1 x3.2.1 x3.2.2).bind fun z29=>
 some (!z29)):Option Bool).bind fun x26=>
 if x26=true then(
 some false)else(
 if(a0.Kind==1)=true then(
 (((zcv a1).bind fun z35=>
 if z35=true then(
 (zdS a1).bind fun z37=>
 some z37)else(
 some false):Option Bool).bind fun x34=>
 some x34))else(
 if(a0.Kind==3)=true then(
 (zdS a1).bind fun z39=>
 some z39)else(
 some true))))) some))
theorem zkz:∀{a0}{a1}{r},zdm a0 a1=some r→PCalls Tryz.prog 49 [(.sh,vF a0),(.sh,vC a1)] (Eo (.bool r) [.junk,.junk]):=by
 intro a0 a1 r hr
 apply pF 71 [] [2] [2,1000000] [.tmp 4] hr zIT Tryz.func49
 intro Φ hΦ hF g
 unfold zdm at hF
 refine wW ?_
 refine wX zzj follows ?_
 try simp[go_sem,g]
 try intros
 refine wK [1,2,5,6,7] ?_
 refine wW ?_
 refine wS hF (fun x3=>[(1,.v (vC a1)),(2,.v (.fp [.int .i64 a0.Kind,.int .i64 a0.Options,.int .i64 a0.Least,.int .i64 a0.Most,.int .i64 a0.Points])),(5,.v (.int .i64 x3.1)),(6,.bl [.int .i64 x3.2.1]),(7,.bl [.int .i64 x3.2.2])]) (fun x3 hF=>?_) fun _ hj1 hr2 hF=>?_
 ·refine wJ hF (fun x26=>[(1,.v (vC a1)),(2,.v (.fp [.int .i64 a0.Kind,.int .i64 a0.Options,.int .i64 a0.Least,.int .i64 a0.Most,.int .i64 a0.Points])),(56,.v (.bool x26))]) (fun x26 hF=>?_) fun _ hj24 hF=>?_
  ·refine wI hF (fun h30 hF=>?_) (fun h30 hF=>?_)
   ·exact wl hΦ hF
   iterate 2 refine wW ?_
   refine wB ?_
   refine wW ?_
   refine wI hF (fun h31 hF=>?_) (fun h31 hF=>?_)
   ·refine wJ hF (fun x34=>[(4,.v (.bool x34))]) (fun x34 hF=>?_) fun _ hj32 hF=>?_
    ·exact wm hΦ hF
    refine wC hF [.sh] ziY (fun z35 hF=>?_)
    refine wG hF (fun h36 hF=>?_) fun h36 hF=>?_
    ·try simp[go_sem,g,h36]
     refine wC hF [.sh] zh0 (fun z37 hF=>?_)
     exact wV h36 (hj32 _) (zaa hF)
    exact wV h36 (hj32 _) (zaa hF)
   refine wW ?_
   refine wI hF (fun h38 hF=>?_) (fun h38 hF=>?_)
   ·refine wC hF [.sh] zh0 (fun z39 hF=>?_)
    refine wK [4] ?_
    exact wm hΦ hF
   cases hΦ _ (zaa hF)
   iterate 2 refine wW ?_
   try simp[go_sem,g]
  refine wC hF [.sh,.sh,.sh] za2 (fun z27 hF=>?_)
  refine wG hF (fun h28 hF=>?_) fun h28 hF=>?_
  ·exact wV h28 (hj24 _) (zaa hF)
  try simp[go_sem,g,h28]
  refine wC hF [.sh,.sh] zgx (fun z29 hF=>?_)
  exact wV h28 (hj24 _) (zaa hF)
 refine wB ?_
 refine wW ?_
 refine wI hF (fun h4 hF=>?_) (fun h4 hF=>?_)
 ·refine wJ hF (fun x7=>[(1,.v (vC a1)),(2,.v (.fp [.int .i64 a0.Kind,.int .i64 a0.Options,.int .i64 a0.Least,.int .i64 a0.Most,.int .i64 a0.Points])),(6,.bl [.int .i64 0]),(7,.bl [.int .i64 (i64.wrap (a0.Options-1))]),(29,.v (.bool x7))]) (fun x7 hF=>?_) fun _ hj5 hF=>?_
  ·refine wI hF (fun h10 hF=>?_) (fun h10 hF=>?_)
   ·cases hΦ _ (hr2 _ (zaa hF))
    refine wW ?_
    try simp[go_sem,g]
   refine wW ?_
   refine wX zB9 follows ?_
   try simp[go_sem,g]
   try intros
   refine zat ?_
   try simp[go_sem,g]
   try intros
   refine wK [1,2,5,6,7,32,33,34] ?_
   refine wB ?_
   obtain⟨b19,hb20,hψ15⟩:=hF
   refine pR hb20 (fun i12 s11=>[(1,.v (vC a1)),(2,.v (.fp [.int .i64 a0.Kind,.int .i64 a0.Options,.int .i64 a0.Least,.int .i64 a0.Most,.int .i64 a0.Points])),(5,.v (.int .i64 s11)),(6,.bl [.int .i64 0]),(7,.bl [.int .i64 a0.Points]),(32,.v (vC a1)),(33,.v (.int .i64 (a1.length:Int))),(34,.v (.int .i64 i12))]) (fun s11 _ hN21=>?_) (fun i12 s11 _ _ hi16 hi17 ho13 hg14 hF=>?_)
   ·exact wn hN21 (hj1 _) hψ15
   refine wW ?_
   refine wu hi16 hi17 ?_
   refine wW ?_
   refine wB ?_
   obtain⟨x18,g,hF⟩:=Rx g hF
   iterate 2 refine wW ?_
   exact wi hi16 hi17 (hg14 _) (zaa hF)
  try simp[go_sem,g]
  try intros
  refine wG hF (fun h8 hF=>?_) fun h8 hF=>?_
  ·exact wV h8 (hj5 _) (zaa hF)
  try simp[go_sem,g,h8]
  refine wC hF [.sh,.sh] zgr (fun z9 hF=>?_)
  exact wV h8 (hj5 _) (zaa hF)
 refine wW ?_
 refine wI hF (fun h23 hF=>?_) (fun h23 hF=>?_)
 ·exact wT (hj1 _) (zaa hF)
 exact wT (hj1 _) (zaa hF)
def zbB (a0:Contest):Option Int:=
 if(a0.Kind==2)=true then(
 some a0.Points)else(
 some 1)
theorem zgh:∀{a0}{r},zbB a0=some r→PCalls Tryz.prog 58 [(.sh,vF a0)] (Eo (.int .i64 r) [.junk]):=by
 intro a0 r hr
 apply pF 8 [] [] [] [.tmp 2] hr zJd Tryz.func58
 intro Φ hΦ hF g
 unfold zbB at hF
 iterate 2 refine wW ?_
 refine wI hF (fun h1 hF=>?_) (fun h1 hF=>?_)
 ·exact wl hΦ hF
 cases hΦ _ (zaa hF)
 iterate 2 refine wW ?_
 try simp[go_sem,g]
@[go_sem] def zCH:List DE:=[d2 0 [1] 1 1,d1 4 [1] 1,d2 5 [10] 1 10,d1 7 [1] 1,d2 8 [13] 1 13,d1 9 [1] 1,d2 10 [15] 1 15,d0 11 [14,16],d0 12 [17],d3 1 [6],d0 2 [7],d0 3 [8],d0 6 [9,11],d0 13 [12,18],d0 14 [19],d0 15 [20]]
def zdD (a0:Contest):Option Int:=
 (zbX a0).bind fun z1=>
 if(!z1)=true then(
 some 2)else(
 (zbB a0).bind fun z3=>
 some (i64.wrap ((i64.wrap ((i64.wrap ((i64.wrap ((i64.wrap (2*z3))+2))*a0.Options))+(i64.wrap (2*(i64.wrap (a0.Most-a0.Least))))))+1)))
theorem zk7:∀{a0}{r},zdD a0=some r→PCalls Tryz.prog 50 [(.sh,vF a0)] (Eo (.int .i64 r) [.junk]):=by
 intro a0 r hr
 apply pF 21 [] [] [] [.tmp 2] hr zG2 Tryz.func50
 intro Φ hΦ hF g
 unfold zdD at hF
 refine wW ?_
 refine wC hF [.sh] zfB (fun z1 hF=>?_)
 refine wW ?_
 refine wI hF (fun h2 hF=>?_) (fun h2 hF=>?_)
 ·exact wl hΦ hF
 refine wW ?_
 refine wX zCH follows ?_
 refine wC hF [.sh] zgh (fun z3 hF=>?_)
 refine wK [2] ?_
 exact wm hΦ hF
def zdk (a0:Group) (a1:Int):Option Bool:=
 (zaB a1 0 (i64.wrap (a0.Q-1))).bind fun z1=>
 some z1
theorem ziz:∀{a0}{a1}{r},zdk a0 a1=some r→PCalls Tryz.prog 72 [(.sh,vE a0),(.sh,.int .i64 a1)] (Eo (.bool r) [.junk,.junk]):=by
 intro a0 a1 r hr
 apply pF 10 [] [] [] [.tmp 4] hr zKq Tryz.func72
 intro Φ hΦ hF g
 unfold zdk at hF
 refine wW ?_
 refine wC hF [.sh,.sh,.sh] za2 (fun z1 hF=>?_)
 exact wl hΦ hF
def zbu (a0:Int) (a1c0x0:Group):Option Bool:=
 (zdk a1c0x0 a0).bind fun z1=>
 some (!z1)
theorem zg3:∀{a0}{a1c0x0}{r},zbu a0 a1c0x0=some r→PCalls Tryz.prog 181 [(.sh,.int .i64 a0),(.sh,.fp [.func (.func 72) [vE a1c0x0] []])] (Eo (.bool r) [.junk,.junk]):=by
 intro a0 a1c0x0 r hr
 apply pF 8 [] [] [] [.tmp 3] hr znY Tryz.func181
 intro Φ hΦ hF g
 unfold zbu at hF
 refine wW ?_
 refine wC hF [.sh] ziz (fun z1 hF=>?_)
 exact wl hΦ hF
def zba (a0:List Int) (a1u0c0x0:Group):Option Int:=
 ((zap (σ:=Unit) (fun i5 s4=>
 (ix a0 i5).bind fun x11=>
 (zbu x11 a1u0c0x0).bind fun z12=>
 if z12=true then(
 some (.out (.inr i5)))else(
 some (.go ()))) (fun s4=>.inl ()) (a0.length) 0 ():Option (Unit ⊕ Int)).bind (Sum.elim (fun x3=>
 some (-1)) some))
theorem zdP:∀{a0}{a1u0c0x0}{r},zba a0 a1u0c0x0=some r→PCalls Tryz.prog 219 [(.sh,vC a0),(.sh,.func (.func 181) [] [.fp [.func (.func 72) [vE a1u0c0x0] []]])] (Eo (.int .i64 r) [.junk,.junk]):=by
 intro a0 a1u0c0x0 r hr
 apply pF 19 [] [] [] [.tmp 4] hr znX Tryz.func219
 intro Φ hΦ hF g
 unfold zba at hF
 iterate 2 (try simp[go_sem,g];try intros;refine zat ?_)
 refine wS hF (fun x3=>[]) (fun x3 hF=>?_) fun _ hj1 hr2 hF=>?_
 ·exact wl hΦ hF
 refine wB ?_
 obtain⟨b14,hb15,hψ8⟩:=hF
 refine pR hb15 (fun i5 s4=>[(0,.v (vC a0)),(1,.v (.func (.func 181) [] [.fp [.func (.func 72) [vE a1u0c0x0] []]])),(7,.v (.int .i64 (a0.length:Int))),(8,.v (.int .i64 i5))]) (fun s4 _ hN16=>?_) (fun i5 s4 _ _ hi9 hi10 ho6 hg7 hF=>?_)
 ·exact wn hN16 (hj1 _) hψ8
 refine wW ?_
 refine wu hi9 hi10 ?_
 refine wW ?_
 refine wB ?_
 obtain⟨x11,g,hF⟩:=Rx g hF
 refine wW ?_
 refine wC hF [.sh] zg3 (fun z12 hF=>?_)
 refine wK [0,1,5,7,8,16] ?_
 refine wI hF (fun h13 hF=>?_) (fun h13 hF=>?_)
 ·cases ho6 _ (zaa hF)
  cases hΦ _ (hr2 _ hψ8)
  refine wW ?_
  try simp[go_sem,g]
 refine wW ?_
 exact wi hi9 hi10 (hg7 _) (zaa hF)
def za3 (a0:List Int) (a1u0c0x0:Group):Option Bool:=
 (zba a0 a1u0c0x0).bind fun z1=>
 some (decide (0≤z1))
theorem zdx:∀{a0}{a1u0c0x0}{r},za3 a0 a1u0c0x0=some r→PCalls Tryz.prog 180 [(.sh,vC a0),(.sh,.func (.func 181) [] [.fp [.func (.func 72) [vE a1u0c0x0] []]])] (Eo (.bool r) [.junk,.junk]):=by
 intro a0 a1u0c0x0 r hr
 apply pF 9 [] [] [] [.tmp 4] hr zoA Tryz.func180
 intro Φ hΦ hF g
 unfold za3 at hF
 refine wW ?_
 refine wC hF [.sh,.sh] zdP (fun z1 hF=>?_)
 exact wl hΦ hF
def zcg (a0:List Int) (a1x0:Group):Option Bool:=
 (za3 a0 a1x0).bind fun z1=>
 some (!z1)
theorem zhz:∀{a0}{a1x0}{r},zcg a0 a1x0=some r→PCalls Tryz.prog 103 [(.sh,vC a0),(.sh,.func (.func 72) [vE a1x0] [])] (Eo (.bool r) [.junk,.junk]):=by
 intro a0 a1x0 r hr
 apply pF 9 [] [] [1000000] [.tmp 4] hr znS Tryz.func103
 intro Φ hΦ hF g
 unfold zcg at hF
 refine wW ?_
 refine wC hF [.sh,.sh] zdx (fun z1 hF=>?_)
 exact wl hΦ hF
def za5 (a0:Group) (a1:List Int):Option Bool:=
 (zcg a1 a0).bind fun z1=>
 some z1
theorem zcO:∀{a0}{a1}{r},za5 a0 a1=some r→PCalls Tryz.prog 51 [(.sh,vE a0),(.sh,vC a1)] (Eo (.bool r) [.junk,.junk]):=by
 intro a0 a1 r hr
 apply pF 9 [] [] [] [.tmp 4] hr zIX Tryz.func51
 intro Φ hΦ hF g
 unfold za5 at hF
 refine wW ?_
 refine wC hF [.sh,.sh] zhz (fun z1 hF=>?_)
 exact wl hΦ hF
def zfE (a0:Int):Option ByteArray:=
 gd (-9223372036854775808≤a0∧a0≤9223372036854775807)<|
 some ⟨(Lib.itoa a0).toArray⟩
theorem zpj:∀{a0}{r},zfE a0=some r→PCalls Tryz.prog 122 [(.sh,.int .i64 a0)] (Eo (.str r) [.junk]):=by
 intro a0 r hr
 have hF:Rn _ (fun x=>x=r):=⟨r,hr,rfl⟩
 unfold zfE at hF
 obtain⟨⟨g0,g1⟩,hF⟩:=zgK hF
 have h1:=zaa hF
 subst h1
 exact Go.Pm.itoa_calls zEe g0 g1
def zef (a0:Int):Option ByteArray:=
 (zfE a0).bind fun z1=>
 gd ((⟨#[98,97,108,108,111,116,32]⟩:ByteArray).size+z1.size≤9223372036854775807)<|
 some ((⟨#[98,97,108,108,111,116,32]⟩:ByteArray)++z1)
theorem zmf:∀{a0}{r},zef a0=some r→PCalls Tryz.prog 52 [(.sh,.int .i64 a0)] (Eo (.str r) [.junk]):=by
 intro a0 r hr
 apply pF 6 [] [] [] [.tmp 2] hr zJs Tryz.func52
 intro Φ hΦ hF g
 unfold zef at hF
 refine wW ?_
 refine wC hF [.sh] zpj (fun z1 hF=>?_)
 obtain⟨g,hF⟩:=Rsa g hF
 exact wl hΦ hF
def zed (a0:Contest) (a1:List Int):Option ((List Int)):=
 gd (0≤a0.Options∧a0.Options≤a0.Options∧8*a0.Options≤140737488355328∧a0.Options≤4611686018427387904)<|
 (some (List.replicate a0.Options.toNat 0)).bind fun x1=>
 ((zap (σ:=(List Int)) (fun i17 s16=>
 (ix a1 i17).bind fun x23=>
 (ix s16 x23).bind fun x24=>
 some (.go (s16.set x23.toNat 1))) (fun s16=>s16) (a1.length) 0 x1:Option ((List Int))).bind fun x6=>
 some x6)
end
end Go.Pm
