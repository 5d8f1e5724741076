/-
  Plain functions and their walks. Written by wip/tools/lift.py.
-/
import Derived.Test.YtnbbkiilkaebaaaGreatDoorIt
namespace Go.Pm
open Go.Am IntKind
open Go.Proofs
set_option maxRecDepth 100000
attribute [local irreducible] pw pwx pw1 pwg qv qz qf
attribute [-simp] List.map_set
set_option linter.unusedSimpArgs false
set_option linter.unusedVariables false
noncomputable section
structure Group where
 P:Int
 Q:Int
 G:Int
structure Contest where
 Kind:Int
 Options:Int
 Least:Int
 Most:Int
 Points:Int
structure Session where
 Voter:Int
 Vote:(List Int)
 Coins:(List Int)
 Receipt:Int
 Cast:Bool
structure Cipher where
 A:Int
 B:Int
structure Proof where
 Commits:(List Int)
 Challenges:(List Int)
 Responses:(List Int)
structure Sealed where
 Voter:Int
 Ciphers:(List Cipher)
 Proofs:(List Proof)
 Sum:Proof
structure l3State where
 s:Int
 t:Int
structure EqualLog where
 G1:Int
 Y1:Int
 G2:Int
 Y2:Int
def zaf (x:Int):List PV:=[.int .i64 x]
@[go_sem] theorem zBc {x:Int}:zaf x=[.int .i64 x]:=(rfl)
@[go_sem] theorem zpJ {l:List Int}:List.map (List.map drop∘zaf) l=l.map zaf:=by refine List.map_congr_left fun x _=>?_;simp[go_sem]
@[go_sem] theorem zyO {l:List Int}:List.map (List.map drop) (l.map zaf)=l.map zaf:=by rw[List.map_map];exact zpJ
@[go_sem] theorem zAU {l:List Int}{i:Nat}{a:Int}:(l.map zaf).set i [.int .i64 a]=(l.set i a).map zaf:=by rw[List.map_set];rfl
def zbB (x:Session):List PV:=[.int .i64 x.Voter,.sl false 1 (x.Vote.map zaf),.sl false 1 (x.Coins.map zaf),.int .i64 x.Receipt,.bool x.Cast]
@[go_sem] theorem zvL {x:Session}:zbB x=[.int .i64 x.Voter,.sl false 1 (x.Vote.map zaf),.sl false 1 (x.Coins.map zaf),.int .i64 x.Receipt,.bool x.Cast]:=(rfl)
@[go_sem] theorem zkT {l:List Session}:List.map (List.map drop∘zbB) l=l.map zbB:=by refine List.map_congr_left fun x _=>?_;simp[go_sem]
@[go_sem] theorem ztz {l:List Session}:List.map (List.map drop) (l.map zbB)=l.map zbB:=by rw[List.map_map];exact zkT
@[go_sem] theorem zt9 {l:List Session}{i:Nat}{Voter:Int}{Vote:(List Int)}{Coins:(List Int)}{Receipt:Int}{Cast:Bool}:(l.map zbB).set i [.int .i64 Voter,.sl false 1 (Vote.map zaf),.sl false 1 (Coins.map zaf),.int .i64 Receipt,.bool Cast]=(l.set i (Session.mk Voter Vote Coins Receipt Cast)).map zbB:=by rw[List.map_set];rfl
def zc4 (x:Session):List PV:=[.int .i64 x.Voter,.sl true 1 (x.Vote.map zaf),.sl true 1 (x.Coins.map zaf),.int .i64 x.Receipt,.bool x.Cast]
@[go_sem] theorem zvM {x:Session}:zc4 x=[.int .i64 x.Voter,.sl true 1 (x.Vote.map zaf),.sl true 1 (x.Coins.map zaf),.int .i64 x.Receipt,.bool x.Cast]:=(rfl)
@[go_sem] theorem zkS {l:List Session}:List.map (List.map drop∘zc4) l=l.map zbB:=by refine List.map_congr_left fun x _=>?_;simp[go_sem]
@[go_sem] theorem zs7 {l:List Session}:List.map (List.map drop) (l.map zc4)=l.map zbB:=by rw[List.map_map];exact zkS
@[go_sem] theorem zuW {l:List Session}{i:Nat}{Voter:Int}{Vote:(List Int)}{Coins:(List Int)}{Receipt:Int}{Cast:Bool}:(l.map zc4).set i [.int .i64 Voter,.sl true 1 (Vote.map zaf),.sl true 1 (Coins.map zaf),.int .i64 Receipt,.bool Cast]=(l.set i (Session.mk Voter Vote Coins Receipt Cast)).map zc4:=by rw[List.map_set];rfl
def zdE (x:List Int):List PV:=[.sl false 1 (x.map zaf)]
@[go_sem] theorem zAO {x:(List Int)}:zdE x=[.sl false 1 (x.map zaf)]:=(rfl)
@[go_sem] theorem zpf {l:List (List Int)}:List.map (List.map drop∘zdE) l=l.map zdE:=by refine List.map_congr_left fun x _=>?_;simp[go_sem]
@[go_sem] theorem zys {l:List (List Int)}:List.map (List.map drop) (l.map zdE)=l.map zdE:=by rw[List.map_map];exact zpf
@[go_sem] theorem zz2 {l:List (List Int)}{i:Nat}{a:(List Int)}:(l.map zdE).set i [.sl false 1 (a.map zaf)]=(l.set i a).map zdE:=by rw[List.map_set];rfl
def zcp (x:EqualLog):List PV:=[.int .i64 x.G1,.int .i64 x.Y1,.int .i64 x.G2,.int .i64 x.Y2]
@[go_sem] theorem zxq {x:EqualLog}:zcp x=[.int .i64 x.G1,.int .i64 x.Y1,.int .i64 x.G2,.int .i64 x.Y2]:=(rfl)
@[go_sem] theorem zmk {l:List EqualLog}:List.map (List.map drop∘zcp) l=l.map zcp:=by refine List.map_congr_left fun x _=>?_;simp[go_sem]
@[go_sem] theorem zus {l:List EqualLog}:List.map (List.map drop) (l.map zcp)=l.map zcp:=by rw[List.map_map];exact zmk
@[go_sem] theorem zvQ {l:List EqualLog}{i:Nat}{G1:Int}{Y1:Int}{G2:Int}{Y2:Int}:(l.map zcp).set i [.int .i64 G1,.int .i64 Y1,.int .i64 G2,.int .i64 Y2]=(l.set i (EqualLog.mk G1 Y1 G2 Y2)).map zcp:=by rw[List.map_set];rfl
def zbV (x:Cipher):List PV:=[.int .i64 x.A,.int .i64 x.B]
@[go_sem] theorem zyI {x:Cipher}:zbV x=[.int .i64 x.A,.int .i64 x.B]:=(rfl)
@[go_sem] theorem znr {l:List Cipher}:List.map (List.map drop∘zbV) l=l.map zbV:=by refine List.map_congr_left fun x _=>?_;simp[go_sem]
@[go_sem] theorem zwh {l:List Cipher}:List.map (List.map drop) (l.map zbV)=l.map zbV:=by rw[List.map_map];exact znr
@[go_sem] theorem zyd {l:List Cipher}{i:Nat}{A:Int}{B:Int}:(l.map zbV).set i [.int .i64 A,.int .i64 B]=(l.set i (Cipher.mk A B)).map zbV:=by rw[List.map_set];rfl
def zaU (x:Proof):List PV:=[.sl false 1 (x.Commits.map zaf),.sl false 1 (x.Challenges.map zaf),.sl false 1 (x.Responses.map zaf)]
@[go_sem] theorem zvZ {x:Proof}:zaU x=[.sl false 1 (x.Commits.map zaf),.sl false 1 (x.Challenges.map zaf),.sl false 1 (x.Responses.map zaf)]:=(rfl)
@[go_sem] theorem zlh {l:List Proof}:List.map (List.map drop∘zaU) l=l.map zaU:=by refine List.map_congr_left fun x _=>?_;simp[go_sem]
@[go_sem] theorem zt7 {l:List Proof}:List.map (List.map drop) (l.map zaU)=l.map zaU:=by rw[List.map_map];exact zlh
@[go_sem] theorem zvN {l:List Proof}{i:Nat}{Commits:(List Int)}{Challenges:(List Int)}{Responses:(List Int)}:(l.map zaU).set i [.sl false 1 (Commits.map zaf),.sl false 1 (Challenges.map zaf),.sl false 1 (Responses.map zaf)]=(l.set i (Proof.mk Commits Challenges Responses)).map zaU:=by rw[List.map_set];rfl
def zcQ (x:Proof):List PV:=[.sl true 1 (x.Commits.map zaf),.sl true 1 (x.Challenges.map zaf),.sl true 1 (x.Responses.map zaf)]
@[go_sem] theorem zwd {x:Proof}:zcQ x=[.sl true 1 (x.Commits.map zaf),.sl true 1 (x.Challenges.map zaf),.sl true 1 (x.Responses.map zaf)]:=(rfl)
@[go_sem] theorem zlD {l:List Proof}:List.map (List.map drop∘zcQ) l=l.map zaU:=by refine List.map_congr_left fun x _=>?_;simp[go_sem]
@[go_sem] theorem zt6 {l:List Proof}:List.map (List.map drop) (l.map zcQ)=l.map zaU:=by rw[List.map_map];exact zlD
@[go_sem] theorem zvO {l:List Proof}{i:Nat}{Commits:(List Int)}{Challenges:(List Int)}{Responses:(List Int)}:(l.map zcQ).set i [.sl true 1 (Commits.map zaf),.sl true 1 (Challenges.map zaf),.sl true 1 (Responses.map zaf)]=(l.set i (Proof.mk Commits Challenges Responses)).map zcQ:=by rw[List.map_set];rfl
def zgM (x:List Int):List PV:=[.sl true 1 (x.map zaf)]
@[go_sem] theorem zAD {x:(List Int)}:zgM x=[.sl true 1 (x.map zaf)]:=(rfl)
@[go_sem] theorem zph {l:List (List Int)}:List.map (List.map drop∘zgM) l=l.map zdE:=by refine List.map_congr_left fun x _=>?_;simp[go_sem]
@[go_sem] theorem zx8 {l:List (List Int)}:List.map (List.map drop) (l.map zgM)=l.map zdE:=by rw[List.map_map];exact zph
@[go_sem] theorem zzg {l:List (List Int)}{i:Nat}{a:(List Int)}:(l.map zgM).set i [.sl true 1 (a.map zaf)]=(l.set i a).map zgM:=by rw[List.map_set];rfl
def vA (x:List Int):PV:=.sl false 1 (x.map zaf)
@[go_sem] theorem zQw {x:(List Int)}:vA x=.sl false 1 (x.map zaf):=(rfl)
def vB (x:Session):PV:=.agg [.int .i64 x.Voter,.sl false 1 (x.Vote.map zaf),.sl false 1 (x.Coins.map zaf),.int .i64 x.Receipt,.bool x.Cast]
@[go_sem] theorem zRf {x:Session}:vB x=.agg [.int .i64 x.Voter,.sl false 1 (x.Vote.map zaf),.sl false 1 (x.Coins.map zaf),.int .i64 x.Receipt,.bool x.Cast]:=(rfl)
def vC (x:List Session):PV:=.sl false 5 (x.map zbB)
@[go_sem] theorem zRe {x:(List Session)}:vC x=.sl false 5 (x.map zbB):=(rfl)
def vD (x:Group):PV:=.agg [.int .i64 x.P,.int .i64 x.Q,.int .i64 x.G]
@[go_sem] theorem zPI {x:Group}:vD x=.agg [.int .i64 x.P,.int .i64 x.Q,.int .i64 x.G]:=(rfl)
def vE (x:Contest):PV:=.agg [.int .i64 x.Kind,.int .i64 x.Options,.int .i64 x.Least,.int .i64 x.Most,.int .i64 x.Points]
@[go_sem] theorem zRD {x:Contest}:vE x=.agg [.int .i64 x.Kind,.int .i64 x.Options,.int .i64 x.Least,.int .i64 x.Most,.int .i64 x.Points]:=(rfl)
def vF (x:List Int):PV:=.sl true 1 (x.map zaf)
@[go_sem] theorem zPC {x:(List Int)}:vF x=.sl true 1 (x.map zaf):=(rfl)
def vG (x:Session):PV:=.agg [.int .i64 x.Voter,.sl true 1 (x.Vote.map zaf),.sl true 1 (x.Coins.map zaf),.int .i64 x.Receipt,.bool x.Cast]
@[go_sem] theorem zQW {x:Session}:vG x=.agg [.int .i64 x.Voter,.sl true 1 (x.Vote.map zaf),.sl true 1 (x.Coins.map zaf),.int .i64 x.Receipt,.bool x.Cast]:=(rfl)
def vH (x:List Session):PV:=.sl true 5 (x.map zc4)
@[go_sem] theorem zPO {x:(List Session)}:vH x=.sl true 5 (x.map zc4):=(rfl)
def vI (x:Cipher):PV:=.agg [.int .i64 x.A,.int .i64 x.B]
@[go_sem] theorem zQl {x:Cipher}:vI x=.agg [.int .i64 x.A,.int .i64 x.B]:=(rfl)
def vJ (x:(List (List Int))):PV:=.sl false 1 (x.map zdE)
@[go_sem] theorem zQP {x:(List (List Int))}:vJ x=.sl false 1 (x.map zdE):=(rfl)
def vK (x0:Int) (x1:Int):PV:=.bx [.int .i64 x0,.int .i64 x1]
@[go_sem] theorem zRp {x0:Int}{x1:Int}:vK x0 x1=.bx [.int .i64 x0,.int .i64 x1]:=(rfl)
def vL (x:Proof):PV:=.agg [.sl true 1 (x.Commits.map zaf),.sl true 1 (x.Challenges.map zaf),.sl true 1 (x.Responses.map zaf)]
@[go_sem] theorem zQt {x:Proof}:vL x=.agg [.sl true 1 (x.Commits.map zaf),.sl true 1 (x.Challenges.map zaf),.sl true 1 (x.Responses.map zaf)]:=(rfl)
def vM (x:List EqualLog):PV:=.sl true 4 (x.map zcp)
@[go_sem] theorem zRo {x:(List EqualLog)}:vM x=.sl true 4 (x.map zcp):=(rfl)
def vN (x:List EqualLog):PV:=.sl false 4 (x.map zcp)
@[go_sem] theorem zQJ {x:(List EqualLog)}:vN x=.sl false 4 (x.map zcp):=(rfl)
def vO (x:List Cipher):PV:=.sl true 2 (x.map zbV)
@[go_sem] theorem zRt {x:(List Cipher)}:vO x=.sl true 2 (x.map zbV):=(rfl)
def vP (x:List Proof):PV:=.sl true 3 (x.map zcQ)
@[go_sem] theorem zQZ {x:(List Proof)}:vP x=.sl true 3 (x.map zcQ):=(rfl)
def vQ (x:List Cipher):PV:=.sl false 2 (x.map zbV)
@[go_sem] theorem zRO {x:(List Cipher)}:vQ x=.sl false 2 (x.map zbV):=(rfl)
def vR (x:Sealed):PV:=.agg [.int .i64 x.Voter,.sl true 2 (x.Ciphers.map zbV),.sl true 3 (x.Proofs.map zcQ),.sl true 1 (x.Sum.Commits.map zaf),.sl true 1 (x.Sum.Challenges.map zaf),.sl true 1 (x.Sum.Responses.map zaf)]
@[go_sem] theorem zP0 {x:Sealed}:vR x=.agg [.int .i64 x.Voter,.sl true 2 (x.Ciphers.map zbV),.sl true 3 (x.Proofs.map zcQ),.sl true 1 (x.Sum.Commits.map zaf),.sl true 1 (x.Sum.Challenges.map zaf),.sl true 1 (x.Sum.Responses.map zaf)]:=(rfl)
def vS (x:Proof):PV:=.agg [.sl false 1 (x.Commits.map zaf),.sl false 1 (x.Challenges.map zaf),.sl false 1 (x.Responses.map zaf)]
@[go_sem] theorem zRK {x:Proof}:vS x=.agg [.sl false 1 (x.Commits.map zaf),.sl false 1 (x.Challenges.map zaf),.sl false 1 (x.Responses.map zaf)]:=(rfl)
def vT (x:List Proof):PV:=.sl false 3 (x.map zaU)
@[go_sem] theorem zRH {x:(List Proof)}:vT x=.sl false 3 (x.map zaU):=(rfl)
def vU (x:(List (List Int))):PV:=.sl true 1 (x.map zgM)
@[go_sem] theorem zRx {x:(List (List Int))}:vU x=.sl true 1 (x.map zgM):=(rfl)
def vV (x:Sealed):PV:=.agg [.int .i64 x.Voter,.sl false 2 (x.Ciphers.map zbV),.sl false 3 (x.Proofs.map zaU),.sl false 1 (x.Sum.Commits.map zaf),.sl false 1 (x.Sum.Challenges.map zaf),.sl false 1 (x.Sum.Responses.map zaf)]
@[go_sem] theorem zRB {x:Sealed}:vV x=.agg [.int .i64 x.Voter,.sl false 2 (x.Ciphers.map zbV),.sl false 3 (x.Proofs.map zaU),.sl false 1 (x.Sum.Commits.map zaf),.sl false 1 (x.Sum.Challenges.map zaf),.sl false 1 (x.Sum.Responses.map zaf)]:=(rfl)
def vW (x:EqualLog):PV:=.agg [.int .i64 x.G1,.int .i64 x.Y1,.int .i64 x.G2,.int .i64 x.Y2]
@[go_sem] theorem zP1 {x:EqualLog}:vW x=.agg [.int .i64 x.G1,.int .i64 x.Y1,.int .i64 x.G2,.int .i64 x.Y2]:=(rfl)
def vX (x:List Proof):PV:=.sl true 3 (x.map zaU)
@[go_sem] theorem zQX {x:(List Proof)}:vX x=.sl true 3 (x.map zaU):=(rfl)
def vY (x:(List (List Int))):PV:=.sl true 1 (x.map zdE)
@[go_sem] theorem zPL {x:(List (List Int))}:vY x=.sl true 1 (x.map zdE):=(rfl)
def zeO (a0:List Int) (a1:Int):Option Int:=
 if decide ((i64.wrap (a1-(a0.length:Int)))<0)=true then(
 some (-1))else(
 some (i64.wrap (a1-(a0.length:Int))))
theorem zkI:∀{a0}{a1}{r},zeO a0 a1=some r→PCalls Tryz.prog 66 [(.sh,vA a0),(.sh,.int .i64 a1)] (Eo (.int .i64 r) [.junk,.junk]):=by
 intro a0 a1 r hr
 apply pF 12 [] [] [] [.tmp 4] hr zHQ Tryz.func66
 intro Φ hΦ hF g
 unfold zeO at hF
 iterate 3 (try simp[go_sem,g];try intros;refine zal ?_)
 refine wI hF (fun h1 hF=>?_) (fun h1 hF=>?_)
 ·exact wl hΦ hF
 refine wW ?_
 refine wK [4] ?_
 exact wm hΦ hF
def zeC (a0:Session) (a1:Int):Option Int:=
 (zeO a0.Vote a1).bind fun z1=>
 if decide (z1<0)=true then(
 some (-1))else(
 (zeO a0.Coins z1).bind fun z3=>
 if decide (z3<0)=true then(
 some (-1))else(
 some z3))
theorem zmX:∀{a0}{a1}{r},zeC a0 a1=some r→PCalls Tryz.prog 19 [(.sh,vB a0),(.sh,.int .i64 a1)] (Eo (.int .i64 r) [.junk,.junk]):=by
 intro a0 a1 r hr
 apply pF 18 [] [] [] [.tmp 4] hr zIe Tryz.func19
 intro Φ hΦ hF g
 unfold zeC at hF
 refine wW ?_
 refine wC hF [.sh,.sh] zkI (fun z1 hF=>?_)
 iterate 2 refine wW ?_
 refine wI hF (fun h2 hF=>?_) (fun h2 hF=>?_)
 ·refine wK [4] ?_
  exact wm hΦ hF
 refine wW ?_
 refine wC hF [.sh,.sh] zkI (fun z3 hF=>?_)
 refine wK [1] ?_
 refine wW ?_
 refine wI hF (fun h4 hF=>?_) (fun h4 hF=>?_)
 ·exact wl hΦ hF
 cases hΦ _ (zaa hF)
 iterate 2 refine wW ?_
 try simp[go_sem,g]
def zea (a0:List Session) (a1:Int):Option Int:=
 if decide ((i64.wrap (a1-(a0.length:Int)))<0)=true then(
 some (-1))else(
 ((zaN (σ:=Int×Int) (fun s5=>
 if decide (s5.2<(a0.length:Int))=true then(
 (ix a0 s5.2).bind fun x11=>
 (zeC x11 s5.1).bind fun z12=>
 if decide (z12<0)=true then(
 some (.out (.inr (-1))))else(
 some (.go (z12,i64.wrap (s5.2+1)))))else(
 some (.out (.inl s5.1)))) (i64.wrap (a1-(a0.length:Int)),0):Option (Int ⊕ Int)).bind (Sum.elim (fun x4=>
 some x4) some)))
theorem zmf:∀{a0}{a1}{r},zea a0 a1=some r→PCalls Tryz.prog 24 [(.sh,vC a0),(.sh,.int .i64 a1)] (Eo (.int .i64 r) [.junk,.junk]):=by
 intro a0 a1 r hr
 apply pF 27 [] [] [] [.tmp 4] hr zFl Tryz.func24
 intro Φ hΦ hF g
 unfold zea at hF
 iterate 3 (try simp[go_sem,g];try intros;refine zal ?_)
 refine wI hF (fun h1 hF=>?_) (fun h1 hF=>?_)
 ·exact wl hΦ hF
 iterate 2 refine wW ?_
 refine wS hF (fun x4=>[(1,.v (.int .i64 x4))]) (fun x4 hF=>?_) fun _ hj2 hr3 hF=>?_
 ·refine wK [4] ?_
  exact wm hΦ hF
 refine wB ?_
 obtain⟨b14,hb15,hψ9⟩:=hF
 refine pL hb15 (fun s5=>[(0,.v (vC a0)),(1,.v (.int .i64 s5.1)),(5,.v (.int .i64 s5.2))]) (fun s5 _ _ ho7 hg8 hF=>?_)
 try simp[go_sem,g]
 try intros
 refine wK [0,1,5,15] ?_
 refine wI hF (fun h10 hF=>?_) (fun h10 hF=>?_)
 ·refine wW ?_
  refine wB ?_
  obtain⟨x11,g,hF⟩:=Rx g hF
  refine wC hF [.sh,.sh] zmX (fun z12 hF=>?_)
  iterate 2 refine wW ?_
  refine wI hF (fun h13 hF=>?_) (fun h13 hF=>?_)
  ·refine wK [4] ?_
   cases ho7 _ (zaa hF)
   cases hΦ _ (hr3 _ hψ9)
   try simp[go_sem,g]
  refine wW ?_
  exact wT (hg8 _) (zaa hF)
 cases ho7 _ (zaa hF)
 exact wT (hj2 _) hψ9
def zer (a0:Group):Option Group:=
 some a0
theorem zhH:∀{a0}{r},zer a0=some r→PCalls Tryz.prog 8 [(.sh,vD a0)] (Eo (vD r) [.junk]):=by
 intro a0 r hr
 apply pF 14 [] [] [] [.cell 2 29] hr cl8 Tryz.func8
 intro Φ hΦ hF g
 unfold zer at hF
 iterate 3 refine wW ?_
 refine wK [1,2,3] ?_
 cases hΦ _ (zaa hF)
 iterate 2 refine wW ?_
 try simp[go_sem,g]
def zdG (a0:Contest):Option Contest:=
 some a0
theorem zgN:∀{a0}{r},zdG a0=some r→PCalls Tryz.prog 9 [(.sh,vE a0)] (Eo (vE r) [.junk]):=by
 intro a0 r hr
 apply pF 20 [] [] [] [.cell 2 31] hr cl9 Tryz.func9
 intro Φ hΦ hF g
 unfold zdG at hF
 iterate 3 refine wW ?_
 refine wK [1,2,3] ?_
 iterate 2 refine wW ?_
 refine wK [2,3] ?_
 exact wl hΦ hF
def zeN (a0:List Int):Option ((List Int)):=
 gd (0≤(a0.length:Int)∧(a0.length:Int)≤(a0.length:Int)∧8*(a0.length:Int)≤140737488355328∧(a0.length:Int)≤4611686018427387904)<|
 (some (List.replicate a0.length 0)).bind fun x1=>
 ((zaN (σ:=(List Int)×Int) (fun s15=>
 if decide (s15.2<(a0.length:Int))=true then(
 (ix a0 s15.2).bind fun x21=>
 (ix s15.1 s15.2).bind fun x22=>
 some (.go (s15.1.set s15.2.toNat x21,i64.wrap (s15.2+1))))else(
 some (.out s15.1))) (x1,0):Option ((List Int))).bind fun x6=>
 some x6)
theorem zkK:∀{a0}{r},zeN a0=some r→PCalls Tryz.prog 10 [(.sh,vA a0)] (Eo (vF r) [.junk]):=by
 intro a0 r hr
 apply pF 22 [] [] [] [.tmp 2] hr zJj Tryz.func10
 intro Φ hΦ hF g
 unfold zeN at hF
 obtain⟨g,hF⟩:=Rg g hF
 obtain⟨x1,e2,hF⟩:=zdY hF
 have g3:List.replicate a0.length ([.int .i64 0]:List PV)=x1.map zaf:=by injection e2 with e2;rw[←e2];simp[go_sem]
 iterate 3 (try simp[go_sem,g,g3];try intros;refine zal ?_)
 refine wJ hF (fun x6=>[(3,.v (vF x6))]) (fun x6 hF=>?_) fun _ hj4 hF=>?_
 ·exact wl hΦ hF
 refine wB ?_
 obtain⟨b23,hb24,hψ19⟩:=hF
 refine pL hb24 (fun s15=>[(0,.v (vA a0)),(3,.v (vF s15.1)),(4,.v (.int .i64 s15.2))]) (fun s15 _ _ ho17 hg18 hF=>?_)
 try simp[go_sem,g]
 try intros
 refine wK [0,3,4,11] ?_
 refine wI hF (fun h20 hF=>?_) (fun h20 hF=>?_)
 ·refine wW ?_
  refine wB ?_
  obtain⟨x21,g,hF⟩:=Rx g hF
  obtain⟨x22,g,hF⟩:=Rx g hF
  refine wW ?_
  exact wT (hg18 _) (zaa hF)
 cases ho17 _ (zaa hF)
 exact wT (hj4 _) hψ19
def zeu (a0:Session):Option Session:=
 (zeN a0.Vote).bind fun z1=>
 (zeN a0.Coins).bind fun z2=>
 some (Session.mk a0.Voter z1 z2 a0.Receipt a0.Cast)
theorem zmR:∀{a0}{r},zeu a0=some r→PCalls Tryz.prog 21 [(.sh,vB a0)] (Eo (vG r) [.junk]):=by
 intro a0 r hr
 apply pF 22 [] [] [] [.cell 2 52] hr zID Tryz.func21
 intro Φ hΦ hF g
 unfold zeu at hF
 iterate 3 refine wW ?_
 refine wC hF [.sh] zkK (fun z1 hF=>?_)
 refine wK [1,2,3] ?_
 refine wC hF [.sh] zkK (fun z2 hF=>?_)
 iterate 2 refine wW ?_
 refine wK [2,3] ?_
 exact wl hΦ hF
def zb6 (a0:List Session):Option ((List Session)):=
 gd (0≤(a0.length:Int)∧(a0.length:Int)≤(a0.length:Int)∧72*(a0.length:Int)≤140737488355328∧(a0.length:Int)≤4611686018427387904)<|
 (some (List.replicate a0.length (Session.mk 0 [] [] 0 false))).bind fun x1=>
 ((zaN (σ:=(List Session)×Int) (fun s16=>
 if decide (s16.2<(a0.length:Int))=true then(
 (ix a0 s16.2).bind fun x22=>
 (zeu x22).bind fun z23=>
 (ix s16.1 s16.2).bind fun x24=>
 some (.go (s16.1.set s16.2.toNat z23,i64.wrap (s16.2+1))))else(
 some (.out s16.1))) (x1,0):Option ((List Session))).bind fun x6=>
 some x6)
theorem zfc:∀{a0}{r},zb6 a0=some r→PCalls Tryz.prog 26 [(.sh,vC a0)] (Eo (vH r) [.junk]):=by
 intro a0 r hr
 apply pF 23 [] [30] [] [.tmp 2] hr zGD Tryz.func26
 intro Φ hΦ hF g
 unfold zb6 at hF
 obtain⟨g,hF⟩:=Rg g hF
 obtain⟨x1,e2,hF⟩:=zdY hF
 have g3:List.replicate a0.length ([.int .i64 0,.sl true 1 [],.sl true 1 [],.int .i64 0,.bool false]:List PV)=x1.map zc4:=by injection e2 with e2;rw[←e2];simp[go_sem]
 iterate 3 (try simp[go_sem,g,g3];try intros;refine zal ?_)
 refine wJ hF (fun x6=>[(3,.v (vH x6))]) (fun x6 hF=>?_) fun _ hj4 hF=>?_
 ·exact wl hΦ hF
 refine wB ?_
 obtain⟨b25,hb26,hψ20⟩:=hF
 refine pL hb26 (fun s16=>[(0,.v (vC a0)),(3,.v (vH s16.1)),(4,.v (.int .i64 s16.2))]) (fun s16 _ _ ho18 hg19 hF=>?_)
 try simp[go_sem,g]
 try intros
 refine wK [0,3,4,11] ?_
 refine wI hF (fun h21 hF=>?_) (fun h21 hF=>?_)
 ·refine wW ?_
  refine wB ?_
  obtain⟨x22,g,hF⟩:=Rx g hF
  refine wC hF [.sh] zmR (fun z23 hF=>?_)
  obtain⟨x24,g,hF⟩:=Rx g hF
  refine wW ?_
  exact wT (hg19 _) (zaa hF)
 cases ho18 _ (zaa hF)
 exact wT (hj4 _) hψ20
def zaX (a0:Int) (a1:Int) (a2:Int):Option Bool:=
 ((if decide (a1≤a0)=true then(
 some (decide (a0≤a2)))else(
 some false):Option Bool).bind fun x3=>
 some x3)
theorem zbv:∀{a0}{a1}{a2}{r},zaX a0 a1 a2=some r→PCalls Tryz.prog 35 [(.sh,.int .i64 a0),(.sh,.int .i64 a1),(.sh,.int .i64 a2)] (Eo (.bool r) [.junk,.junk,.junk]):=by
 intro a0 a1 a2 r hr
 apply pF 15 [] [] [] [.tmp 6] hr zHb Tryz.func35
 intro Φ hΦ hF g
 unfold zaX at hF
 refine wW ?_
 refine wJ hF (fun x3=>[(6,.v (.bool x3))]) (fun x3 hF=>?_) fun _ hj1 hF=>?_
 ·exact wm hΦ hF
 refine wG hF (fun h4 hF=>?_) fun h4 hF=>?_
 ·exact wV h4 (hj1 _) (zaa hF)
 exact wV h4 (hj1 _) (zaa hF)
def zdp (a0:Int) (a1:Int) (a2:Int):Option Int:=
 gd (a2≠0)<|
 ((zaN (σ:=Int×Int×Int) (fun s4=>
 if decide (0<s4.2.1)=true then(
 ((if((s4.2.1.tmod 2)==1)=true then(
 gd (a2≠0)<|
 some ((i64.wrap (s4.2.2*s4.1)).tmod a2))else(
 some s4.2.2):Option Int).bind fun x12=>
 gd (a2≠0)<|
 some (.go ((i64.wrap (s4.1*s4.1)).tmod a2,i64.wrap (s4.2.1.tdiv 2),x12))))else(
 some (.out s4.2.2))) (a0,a1,(1:Int).tmod a2):Option Int).bind fun x3=>
 some x3)
theorem zic:∀{a0}{a1}{a2}{r},zdp a0 a1 a2=some r→PCalls Tryz.prog 77 [(.sh,.int .i64 a0),(.sh,.int .i64 a1),(.sh,.int .i64 a2)] (Eo (.int .i64 r) [.junk,.junk,.junk]):=by
 intro a0 a1 a2 r hr
 apply pF 28 [] [] [] [.tmp 6] hr zFJ Tryz.func77
 intro Φ hΦ hF g
 unfold zdp at hF
 obtain⟨g,hF⟩:=Rz g hF
 iterate 2 refine wW ?_
 refine wJ hF (fun x3=>[(7,.v (.int .i64 x3))]) (fun x3 hF=>?_) fun _ hj1 hF=>?_
 ·exact wl hΦ hF
 refine wB ?_
 obtain⟨b14,hb15,hψ8⟩:=hF
 refine pL hb15 (fun s4=>[(0,.v (.int .i64 s4.1)),(1,.v (.int .i64 s4.2.1)),(2,.v (.int .i64 a2)),(7,.v (.int .i64 s4.2.2))]) (fun s4 _ _ ho6 hg7 hF=>?_)
 refine wW ?_
 refine wI hF (fun h9 hF=>?_) (fun h9 hF=>?_)
 ·refine wW ?_
  refine wB ?_
  have g:=Ld g 2
  refine wW ?_
  refine wJ hF (fun x12=>[(0,.v (.int .i64 s4.1)),(1,.v (.int .i64 s4.2.1)),(2,.v (.int .i64 a2)),(7,.v (.int .i64 x12))]) (fun x12 hF=>?_) fun _ hj10 hF=>?_
  ·obtain⟨g,hF⟩:=Rz g hF
   refine wK [0,1,2,7] ?_
   exact wT (hg7 _) (zaa hF)
  refine wI hF (fun h13 hF=>?_) (fun h13 hF=>?_)
  ·obtain⟨g,hF⟩:=Rz g hF
   exact wT (hj10 _) (zaa hF)
  exact wT (hj10 _) (zaa hF)
 cases ho6 _ (zaa hF)
 exact wT (hj1 _) hψ8
def zeK (a0:Int):Option Bool:=
 if decide (a0<2)=true then(
 some false)else(
 ((zaN (σ:=Int) (fun s5=>
 if decide ((i64.wrap (s5*s5))≤a0)=true then(
 gd (s5≠0)<|
 if((a0.tmod s5)==0)=true then(
 some (.out (.inr false)))else(
 some (.go (i64.wrap (s5+1)))))else(
 some (.out (.inl ())))) 2:Option (Unit ⊕ Bool)).bind (Sum.elim (fun x4=>
 some true) some)))
theorem zkL:∀{a0}{r},zeK a0=some r→PCalls Tryz.prog 126 [(.sh,.int .i64 a0)] (Eo (.bool r) [.junk]):=by
 intro a0 r hr
 apply pF 17 [] [] [] [.tmp 2] hr zBl Tryz.func126
 intro Φ hΦ hF g
 unfold zeK at hF
 iterate 2 refine wW ?_
 refine wI hF (fun h1 hF=>?_) (fun h1 hF=>?_)
 ·exact wl hΦ hF
 iterate 2 refine wW ?_
 refine wS hF (fun x4=>[]) (fun x4 hF=>?_) fun _ hj2 hr3 hF=>?_
 ·exact wl hΦ hF
 refine wB ?_
 obtain⟨b12,hb13,hψ9⟩:=hF
 refine pL hb13 (fun s5=>[(0,.v (.int .i64 a0)),(3,.v (.int .i64 s5))]) (fun s5 _ _ ho7 hg8 hF=>?_)
 refine wW ?_
 refine wI hF (fun h10 hF=>?_) (fun h10 hF=>?_)
 ·refine wW ?_
  refine wB ?_
  obtain⟨g,hF⟩:=Rz g hF
  refine wK [0,3,16] ?_
  refine wI hF (fun h11 hF=>?_) (fun h11 hF=>?_)
  ·cases ho7 _ (zaa hF)
   cases hΦ _ (hr3 _ hψ9)
   refine wW ?_
   try simp[go_sem,g]
  refine wW ?_
  exact wT (hg8 _) (zaa hF)
 cases ho7 _ (zaa hF)
 exact wT (hj2 _) hψ9
def zfP (a0:Group):Option Bool:=
 (((zaX a0.P 3 2000000000).bind fun z4=>
 if z4=true then(
 (zaX a0.Q 2 (i64.wrap (a0.P-1))).bind fun z6=>
 if z6=true then(
 gd (a0.Q≠0)<|
 if(((i64.wrap (a0.P-1)).tmod a0.Q)==0)=true then(
 (zaX a0.G 2 (i64.wrap (a0.P-1))).bind fun z9=>
 if z9=true then(
 (zdp a0.G a0.Q a0.P).bind fun z11=>
 if(z11==1)=true then(
 (zeK a0.Q).bind fun z13=>
 if z13=true then(
 (zeK a0.P).bind fun z15=>
 some z15)else(
 some false))else(
 some false))else(
 some false))else(
 some false))else(
 some false))else(
 some false):Option Bool).bind fun x3=>
 some x3)
theorem zpd:∀{a0}{r},zfP a0=some r→PCalls Tryz.prog 73 [(.sh,vD a0)] (Eo (.bool r) [.junk]):=by
 intro a0 r hr
 apply pF 51 [] [] [] [.tmp 2] hr zIo Tryz.func73
 intro Φ hΦ hF g
 unfold zfP at hF
 refine wW ?_
 refine wJ hF (fun x3=>[(2,.v (.bool x3))]) (fun x3 hF=>?_) fun _ hj1 hF=>?_
 ·exact wm hΦ hF
 refine wC hF [.sh,.sh,.sh] zbv (fun z4 hF=>?_)
 refine wG hF (fun h5 hF=>?_) fun h5 hF=>?_
 ·try simp[go_sem,g,h5]
  refine wC hF [.sh,.sh,.sh] zbv (fun z6 hF=>?_)
  try simp[go_sem,g,h5]
  refine wG hF (fun h7 hF=>?_) fun h7 hF=>?_
  ·obtain⟨g,hF⟩:=Rz g hF
   try simp[go_sem,g,h7]
   refine wG hF (fun h8 hF=>?_) fun h8 hF=>?_
   ·try simp[go_sem,g,h8]
    refine wC hF [.sh,.sh,.sh] zbv (fun z9 hF=>?_)
    try simp[go_sem,g,h8]
    refine wG hF (fun h10 hF=>?_) fun h10 hF=>?_
    ·try simp[go_sem,g,h10]
     refine wC hF [.sh,.sh,.sh] zic (fun z11 hF=>?_)
     try simp[go_sem,g,h10]
     refine wG hF (fun h12 hF=>?_) fun h12 hF=>?_
     ·try simp[go_sem,g,h12]
      refine wC hF [.sh] zkL (fun z13 hF=>?_)
      try simp[go_sem,g,h12]
      refine wG hF (fun h14 hF=>?_) fun h14 hF=>?_
      ·try simp[go_sem,g,h14]
       refine wC hF [.sh] zkL (fun z15 hF=>?_)
       exact wV h14 (hj1 _) (zaa hF)
      exact wV h14 (hj1 _) (zaa hF)
     exact wV h12 (hj1 _) (zaa hF)
    exact wV h10 (hj1 _) (zaa hF)
   exact wV h8 (hj1 _) (zaa hF)
  exact wV h7 (hj1 _) (zaa hF)
 exact wV h5 (hj1 _) (zaa hF)
def zeT (a0:Contest):Option Bool:=
 ((if decide (a0.Least<0)=true then(
 some true)else(
 some (decide (a0.Most<a0.Least))):Option Bool).bind fun x3=>
 if x3=true then(
 some false)else(
 ((if(a0.Kind==1)=true then(
 some (a0.Kind==1))else(
 some (a0.Kind==3)):Option Bool).bind fun x8=>
 if x8=true then(
 (((zaX a0.Options 1 8).bind fun z14=>
 if z14=true then(
 if decide (a0.Most≤a0.Options)=true then(
 some (a0.Points==0))else(
 some false))else(
 some false):Option Bool).bind fun x13=>
 some x13))else(
 if(a0.Kind==2)=true then(
 (((zaX a0.Options 1 8).bind fun z21=>
 if z21=true then(
 (zaX a0.Points 1 5).bind fun z23=>
 if z23=true then(
 some (decide (a0.Most≤(i64.wrap (a0.Options*a0.Points)))))else(
 some false))else(
 some false):Option Bool).bind fun x20=>
 some x20))else(
 ((if(a0.Kind==4)=true then(
 if(a0.Options==0)=true then(
 if decide (a0.Most≤5)=true then(
 some (a0.Points==0))else(
 some false))else(
 some false))else(
 some false):Option Bool).bind fun x27=>
 some x27))))))
theorem znW:∀{a0}{r},zeT a0=some r→PCalls Tryz.prog 74 [(.sh,vE a0)] (Eo (.bool r) [.junk]):=by
 intro a0 r hr
 apply pF 71 [] [] [] [.tmp 2] hr zH2 Tryz.func74
 intro Φ hΦ hF g
 unfold zeT at hF
 refine wW ?_
 refine wJ hF (fun x3=>[(1,.bl [.int .i64 a0.Kind,.int .i64 a0.Options,.int .i64 a0.Least,.int .i64 a0.Most,.int .i64 a0.Points]),(12,.v (.bool x3))]) (fun x3 hF=>?_) fun _ hj1 hF=>?_
 ·refine wI hF (fun h5 hF=>?_) (fun h5 hF=>?_)
  ·exact wl hΦ hF
  iterate 2 refine wW ?_
  refine wB ?_
  refine wW ?_
  refine wJ hF (fun x8=>[(1,.bl [.int .i64 a0.Kind,.int .i64 a0.Options,.int .i64 a0.Least,.int .i64 a0.Most,.int .i64 a0.Points]),(14,.v (.int .i64 a0.Kind)),(15,.v (.bool x8))]) (fun x8 hF=>?_) fun _ hj6 hF=>?_
  ·refine wI hF (fun h10 hF=>?_) (fun h10 hF=>?_)
   ·refine wJ hF (fun x13=>[(2,.v (.bool x13))]) (fun x13 hF=>?_) fun _ hj11 hF=>?_
    ·exact wm hΦ hF
    refine wC hF [.sh,.sh,.sh] zbv (fun z14 hF=>?_)
    refine wG hF (fun h15 hF=>?_) fun h15 hF=>?_
    ·try simp[go_sem,g,h15]
     refine wG hF (fun h16 hF=>?_) fun h16 hF=>?_
     ·exact wV h16 (hj11 _) (zaa hF)
     exact wV h16 (hj11 _) (zaa hF)
    exact wV h15 (hj11 _) (zaa hF)
   refine wW ?_
   refine wI hF (fun h17 hF=>?_) (fun h17 hF=>?_)
   ·refine wJ hF (fun x20=>[(2,.v (.bool x20))]) (fun x20 hF=>?_) fun _ hj18 hF=>?_
    ·exact wm hΦ hF
    refine wC hF [.sh,.sh,.sh] zbv (fun z21 hF=>?_)
    refine wG hF (fun h22 hF=>?_) fun h22 hF=>?_
    ·try simp[go_sem,g,h22]
     refine wC hF [.sh,.sh,.sh] zbv (fun z23 hF=>?_)
     try simp[go_sem,g,h22]
     refine wG hF (fun h24 hF=>?_) fun h24 hF=>?_
     ·exact wV h24 (hj18 _) (zaa hF)
     exact wV h24 (hj18 _) (zaa hF)
    exact wV h22 (hj18 _) (zaa hF)
   refine wW ?_
   refine wJ hF (fun x27=>[(2,.v (.bool x27))]) (fun x27 hF=>?_) fun _ hj25 hF=>?_
   ·exact wm hΦ hF
   refine wG hF (fun h28 hF=>?_) fun h28 hF=>?_
   ·try simp[go_sem,g,h28]
    refine wG hF (fun h29 hF=>?_) fun h29 hF=>?_
    ·try simp[go_sem,g,h29]
     refine wG hF (fun h30 hF=>?_) fun h30 hF=>?_
     ·exact wV h30 (hj25 _) (zaa hF)
     exact wV h30 (hj25 _) (zaa hF)
    exact wV h29 (hj25 _) (zaa hF)
   exact wV h28 (hj25 _) (zaa hF)
  refine wI hF (fun h9 hF=>?_) (fun h9 hF=>?_)
  ·exact wT (hj6 _) (zaa hF)
  exact wT (hj6 _) (zaa hF)
 refine wG hF (fun h4 hF=>?_) fun h4 hF=>?_
 ·exact wV h4 (hj1 _) (zaa hF)
 exact wV h4 (hj1 _) (zaa hF)
def zdI (a0:Int) (a1:Int):Option Int:=
 if decide (a0<a1)=true then(
 some a0)else(
 some a1)
theorem zow:∀{a0}{a1}{r},zdI a0 a1=some r→PCalls Tryz.prog 127 [(.sh,.int .i64 a0),(.sh,.int .i64 a1)] (Eo (.int .i64 r) [.junk,.junk]):=by
 intro a0 a1 r hr
 apply pF 10 [] [] [] [.tmp 4] hr zCP Tryz.func127
 intro Φ hΦ hF g
 unfold zdI at hF
 iterate 2 refine wW ?_
 refine wI hF (fun h1 hF=>?_) (fun h1 hF=>?_)
 ·exact wl hΦ hF
 cases hΦ _ (zaa hF)
 iterate 2 refine wW ?_
 try simp[go_sem,g]
def zd7 (a0:Contest) (a1:List Int):Option ((List Int)):=
 gd (0≤a0.Options∧a0.Options≤a0.Options∧8*a0.Options≤140737488355328∧a0.Options≤4611686018427387904)<|
 (some (List.replicate a0.Options.toNat 0)).bind fun x1=>
 ((zak (σ:=(List Int)) (fun i17 s16=>
 (ix a1 i17).bind fun x23=>
 (ix s16 x23).bind fun x24=>
 some (.go (s16.set x23.toNat 1))) (fun s16=>s16) (a1.length) 0 x1:Option ((List Int))).bind fun x6=>
 some x6)
theorem zkO:∀{a0}{a1}{r},zd7 a0 a1=some r→PCalls Tryz.prog 133 [(.sh,vE a0),(.sh,vA a1)] (Eo (vF r) [.junk,.junk]):=by
 intro a0 a1 r hr
 apply pF 22 [] [] [] [.tmp 4] hr zDd Tryz.func133
 intro Φ hΦ hF g
 unfold zd7 at hF
 obtain⟨g,hF⟩:=Rg g hF
 obtain⟨x1,e2,hF⟩:=zdY hF
 have g3:List.replicate a0.Options.toNat ([.int .i64 0]:List PV)=x1.map zaf:=by injection e2 with e2;rw[←e2];simp[go_sem]
 iterate 3 (try simp[go_sem,g,g3];try intros;refine zal ?_)
 refine wJ hF (fun x6=>[(5,.v (vF x6))]) (fun x6 hF=>?_) fun _ hj4 hF=>?_
 ·refine wK [4] ?_
  exact wm hΦ hF
 refine wB ?_
 obtain⟨b25,hb26,hψ20⟩:=hF
 refine pR hb26 (fun i17 s16=>[(5,.v (vF s16)),(11,.v (vA a1)),(12,.v (.int .i64 (a1.length:Int))),(13,.v (.int .i64 i17))]) (fun s16 _ hN27=>?_) (fun i17 s16 _ _ hi21 hi22 ho18 hg19 hF=>?_)
 ·exact wn hN27 (hj4 _) hψ20
 refine wK [5,11,12,13,14] ?_
 refine wu hi21 hi22 ?_
 refine wW ?_
 refine wB ?_
 obtain⟨x23,g,hF⟩:=Rx g hF
 obtain⟨x24,g,hF⟩:=Rx g hF
 iterate 2 refine wW ?_
 exact wi hi21 hi22 (hg19 _) (zaa hF)
def zcW (a0:List Int) (a1:Int) (a2:Int):Option Int:=
 ((zaN (σ:=Int×Int) (fun s4=>
 if decide (0≤s4.2)=true then(
 (ix a0 s4.2).bind fun x10=>
 some (.go (i64.wrap ((i64.wrap ((i64.wrap (s4.1*a1))+x10))+a2),i64.wrap (s4.2-1))))else(
 some (.out s4.1))) (0,i64.wrap ((a0.length:Int)-1)):Option Int).bind fun x3=>
 some x3)
theorem zgn:∀{a0}{a1}{a2}{r},zcW a0 a1 a2=some r→PCalls Tryz.prog 132 [(.sh,vA a0),(.sh,.int .i64 a1),(.sh,.int .i64 a2)] (Eo (.int .i64 r) [.junk,.junk,.junk]):=by
 intro a0 a1 a2 r hr
 apply pF 27 [] [] [] [.tmp 6] hr zBy Tryz.func132
 intro Φ hΦ hF g
 unfold zcW at hF
 iterate 3 (try simp[go_sem,g];try intros;refine zal ?_)
 refine wJ hF (fun x3=>[(7,.v (.int .i64 x3))]) (fun x3 hF=>?_) fun _ hj1 hF=>?_
 ·exact wl hΦ hF
 refine wB ?_
 obtain⟨b11,hb12,hψ8⟩:=hF
 refine pL hb12 (fun s4=>[(0,.v (vA a0)),(1,.v (.int .i64 a1)),(2,.v (.int .i64 a2)),(7,.v (.int .i64 s4.1)),(8,.v (.int .i64 s4.2))]) (fun s4 _ _ ho6 hg7 hF=>?_)
 refine wW ?_
 refine wI hF (fun h9 hF=>?_) (fun h9 hF=>?_)
 ·refine wW ?_
  refine wB ?_
  obtain⟨x10,g,hF⟩:=Rx g hF
  refine wK [0,1,2,7,8] ?_
  exact wT (hg7 _) (zaa hF)
 cases ho6 _ (zaa hF)
 exact wT (hj1 _) hψ8
def zck (a0:Contest) (a1:List Int):Option Int:=
 if(a0.Kind==1)=true then(
 (zd7 a0 a1).bind fun z2=>
 (zcW z2 2 0).bind fun z3=>
 some z3)else(
 if(a0.Kind==2)=true then(
 (zcW a1 (i64.wrap (a0.Points+1)) 0).bind fun z5=>
 some z5)else(
 if(a0.Kind==3)=true then(
 (zcW a1 (i64.wrap (a0.Options+1)) 1).bind fun z7=>
 some z7)else(
 (zcW a1 27 0).bind fun z8=>
 some z8)))
theorem ziM:∀{a0}{a1}{r},zck a0 a1=some r→PCalls Tryz.prog 85 [(.sh,vE a0),(.sh,vA a1)] (Eo (.int .i64 r) [.junk,.junk]):=by
 intro a0 a1 r hr
 apply pF 29 [] [] [] [.tmp 4] hr zG4 Tryz.func85
 intro Φ hΦ hF g
 unfold zck at hF
 iterate 2 refine wW ?_
 refine wB ?_
 refine wW ?_
 refine wI hF (fun h1 hF=>?_) (fun h1 hF=>?_)
 ·refine wC hF [.sh,.sh] zkO (fun z2 hF=>?_)
  refine wC hF [.sh,.sh,.sh] zgn (fun z3 hF=>?_)
  refine wK [4] ?_
  exact wm hΦ hF
 refine wW ?_
 refine wI hF (fun h4 hF=>?_) (fun h4 hF=>?_)
 ·refine wC hF [.sh,.sh,.sh] zgn (fun z5 hF=>?_)
  refine wK [4] ?_
  exact wm hΦ hF
 refine wK [1,2,20] ?_
 refine wI hF (fun h6 hF=>?_) (fun h6 hF=>?_)
 ·refine wC hF [.sh,.sh,.sh] zgn (fun z7 hF=>?_)
  exact wl hΦ hF
 refine wW ?_
 refine wC hF [.sh,.sh,.sh] zgn (fun z8 hF=>?_)
 exact wl hΦ hF
def zdD (a0:Contest):Option Int:=
 ((if(a0.Kind==1)=true then(
 zaN (σ:=(List Int)×Int) (fun s5=>
 if decide (s5.2<a0.Options)=true then(
 gd ((s5.1.length+1)*8≤140737488355328∧s5.1.length+1≤4611686018427387904)<|
 some (.go (s5.1++[s5.2],i64.wrap (s5.2+1))))else(
 some (.out s5.1))) ([],i64.wrap (a0.Options-a0.Most)))else(
 if(a0.Kind==2)=true then(
 gd (0≤a0.Options∧a0.Options≤a0.Options∧8*a0.Options≤140737488355328∧a0.Options≤4611686018427387904)<|
 (some (List.replicate a0.Options.toNat 0)).bind fun x14=>
 zaN (σ:=(List Int)×Int×Int) (fun s26=>
 if decide (0≤s26.2.2)=true then(
 (zdI s26.2.1 a0.Points).bind fun z32=>
 (ix s26.1 s26.2.2).bind fun x33=>
 (ix (s26.1.set s26.2.2.toNat z32) s26.2.2).bind fun x34=>
 some (.go (s26.1.set s26.2.2.toNat z32,i64.wrap (s26.2.1-x34),i64.wrap (s26.2.2-1))))else(
 some (.out s26.1))) (x14,a0.Most,i64.wrap (a0.Options-1)))else(
 if(a0.Kind==3)=true then(
 zaN (σ:=(List Int)×Int) (fun s38=>
 if decide (s38.2<a0.Options)=true then(
 gd ((s38.1.length+1)*8≤140737488355328∧s38.1.length+1≤4611686018427387904)<|
 some (.go (s38.1++[s38.2],i64.wrap (s38.2+1))))else(
 some (.out s38.1))) ([],i64.wrap (a0.Options-a0.Most)))else(
 zaN (σ:=(List Int)×Int) (fun s46=>
 if decide (s46.2<a0.Most)=true then(
 gd ((s46.1.length+1)*8≤140737488355328∧s46.1.length+1≤4611686018427387904)<|
 some (.go (s46.1++[26],i64.wrap (s46.2+1))))else(
 some (.out s46.1))) ([],0)))):Option ((List Int))).bind fun x3=>
 (zck a0 x3).bind fun z54=>
 some z54)
theorem ziX:∀{a0}{r},zdD a0=some r→PCalls Tryz.prog 75 [(.sh,vE a0)] (Eo (.int .i64 r) [.junk]):=by
 intro a0 r hr
 apply pF 84 [] [] [] [.tmp 2] hr zFA Tryz.func75
 intro Φ hΦ hF g
 unfold zdD at hF
 iterate 3 refine wW ?_
 refine wJ hF (fun x3=>[(1,.bl [.int .i64 a0.Kind,.int .i64 a0.Options,.int .i64 a0.Least,.int .i64 a0.Most,.int .i64 a0.Points]),(3,.v (vF x3))]) (fun x3 hF=>?_) fun _ hj1 hF=>?_
 ·refine wC hF [.sh,.sh] ziM (fun z54 hF=>?_)
  exact wl hΦ hF
 refine wB ?_
 refine wW ?_
 refine wI hF (fun h4 hF=>?_) (fun h4 hF=>?_)
 ·refine wK [1,3,4] ?_
  refine wB ?_
  obtain⟨b11,hb12,hψ9⟩:=hF
  refine pL hb12 (fun s5=>[(1,.bl [.int .i64 a0.Kind,.int .i64 a0.Options,.int .i64 a0.Least,.int .i64 a0.Most,.int .i64 a0.Points]),(3,.v (vF s5.1)),(4,.v (.int .i64 s5.2))]) (fun s5 _ _ ho7 hg8 hF=>?_)
  refine wW ?_
  refine wI hF (fun h10 hF=>?_) (fun h10 hF=>?_)
  ·refine wW ?_
   refine wB ?_
   obtain⟨g,hF⟩:=Rg g hF
   refine wW ?_
   exact wT (hg8 _) (zaa hF)
  cases ho7 _ (zaa hF)
  exact wT (hj1 _) hψ9
 refine wW ?_
 refine wI hF (fun h13 hF=>?_) (fun h13 hF=>?_)
 ·obtain⟨g,hF⟩:=Rg g hF
  obtain⟨x14,e15,hF⟩:=zdY hF
  have g16:List.replicate a0.Options.toNat ([.int .i64 0]:List PV)=x14.map zaf:=by injection e15 with e15;rw[←e15];simp[go_sem]
  try simp[go_sem,g,g16]
  refine wK [1,3] ?_
  iterate 2 refine wW ?_
  refine wB ?_
  obtain⟨b35,hb36,hψ30⟩:=hF
  refine pL hb36 (fun s26=>[(1,.bl [.int .i64 a0.Kind,.int .i64 a0.Options,.int .i64 a0.Least,.int .i64 a0.Most,.int .i64 a0.Points]),(3,.v (vF s26.1)),(5,.v (.int .i64 s26.2.1)),(6,.v (.int .i64 s26.2.2))]) (fun s26 _ _ ho28 hg29 hF=>?_)
  refine wW ?_
  refine wI hF (fun h31 hF=>?_) (fun h31 hF=>?_)
  ·refine wW ?_
   refine wB ?_
   refine wC hF [.sh,.sh] zow (fun z32 hF=>?_)
   obtain⟨x33,g,hF⟩:=Rx g hF
   refine wK [1,3,5,6] ?_
   obtain⟨x34,g,hF⟩:=Rx g hF
   try simp only[List.length_set]at g
   refine wW ?_
   exact wT (hg29 _) (zaa hF)
  cases ho28 _ (zaa hF)
  exact wT (hj1 _) hψ30
 refine wK [1,3,64] ?_
 refine wI hF (fun h37 hF=>?_) (fun h37 hF=>?_)
 ·refine wW ?_
  refine wB ?_
  obtain⟨b44,hb45,hψ42⟩:=hF
  refine pL hb45 (fun s38=>[(1,.bl [.int .i64 a0.Kind,.int .i64 a0.Options,.int .i64 a0.Least,.int .i64 a0.Most,.int .i64 a0.Points]),(3,.v (vF s38.1)),(7,.v (.int .i64 s38.2))]) (fun s38 _ _ ho40 hg41 hF=>?_)
  refine wK [1,3,7,74] ?_
  refine wI hF (fun h43 hF=>?_) (fun h43 hF=>?_)
  ·refine wW ?_
   refine wB ?_
   obtain⟨g,hF⟩:=Rg g hF
   refine wW ?_
   exact wT (hg41 _) (zaa hF)
  cases ho40 _ (zaa hF)
  exact wT (hj1 _) hψ42
 refine wW ?_
 refine wB ?_
 obtain⟨b52,hb53,hψ50⟩:=hF
 refine pL hb53 (fun s46=>[(1,.bl [.int .i64 a0.Kind,.int .i64 a0.Options,.int .i64 a0.Least,.int .i64 a0.Most,.int .i64 a0.Points]),(3,.v (vF s46.1)),(8,.v (.int .i64 s46.2))]) (fun s46 _ _ ho48 hg49 hF=>?_)
 refine wW ?_
 refine wI hF (fun h51 hF=>?_) (fun h51 hF=>?_)
 ·refine wW ?_
  refine wB ?_
  obtain⟨g,hF⟩:=Rg g hF
  refine wW ?_
  exact wT (hg49 _) (zaa hF)
 cases ho48 _ (zaa hF)
 exact wT (hj1 _) hψ50
def zeA (a0:Contest):Option Bool:=
 ((if(a0.Kind==1)=true then(
 some true)else(
 some (a0.Kind==2)):Option Bool).bind fun x3=>
 some x3)
theorem ziW:∀{a0}{r},zeA a0=some r→PCalls Tryz.prog 76 [(.sh,vE a0)] (Eo (.bool r) [.junk]):=by
 intro a0 r hr
 apply pF 11 [] [] [] [.tmp 2] hr zHN Tryz.func76
 intro Φ hΦ hF g
 unfold zeA at hF
 refine wW ?_
 refine wJ hF (fun x3=>[(2,.v (.bool x3))]) (fun x3 hF=>?_) fun _ hj1 hF=>?_
 ·exact wm hΦ hF
 refine wG hF (fun h4 hF=>?_) fun h4 hF=>?_
 ·exact wV h4 (hj1 _) (zaa hF)
 exact wV h4 (hj1 _) (zaa hF)
@[go_sem] def zA5:List DE:=[d2 0 [2] 2 2,d3 1 [5],d0 2 [6],d0 3 [7],d2 4 [3,8] 3 3,d3 5 [9,8],d0 6 [10,8],d0 7 [8,11],d0 8 [12],d2 9 [3,13] 3 3,d3 10 [14,13],d0 11 [15,13],d0 12 [13,16],d0 13 [17],d2 14 [3,18] 3 3,d1 16 [2,18] 2,d2 17 [21,18] 2 21,d3 15 [19,18],d0 18 [20,22,18],d0 19 [18,23]]
def zdj (a0:Group) (a1:Contest):Option Bool:=
 (((zfP a0).bind fun z4=>
 if(!z4)=true then(
 some true)else(
 (zeT a1).bind fun z6=>
 if(!z6)=true then(
 some true)else(
 (zdD a1).bind fun z8=>
 if decide (100000<z8)=true then(
 some true)else(
 (zdD a1).bind fun z10=>
 some (decide (a0.Q≤z10))))):Option Bool).bind fun x3=>
 if x3=true then(
 some false)else(
 (((zeA a1).bind fun z15=>
 if(!z15)=true then(
 some true)else(
 if decide ((i64.wrap (a1.Most-a1.Least))<8)=true then(
 some (decide (a1.Most<a0.Q)))else(
 some false)):Option Bool).bind fun x14=>
 some x14)))
theorem zli:∀{a0}{a1}{r},zdj a0 a1=some r→PCalls Tryz.prog 33 [(.sh,vD a0),(.sh,vE a1)] (Eo (.bool r) [.junk,.junk]):=by
 intro a0 a1 r hr
 apply pF 43 [] [] [] [.tmp 4] hr zHs Tryz.func33
 intro Φ hΦ hF g
 unfold zdj at hF
 refine wW ?_
 refine wJ hF (fun x3=>[(2,.bl [.int .i64 a0.P,.int .i64 a0.Q,.int .i64 a0.G]),(3,.bl [.int .i64 a1.Kind,.int .i64 a1.Options,.int .i64 a1.Least,.int .i64 a1.Most,.int .i64 a1.Points]),(24,.v (.bool x3))]) (fun x3 hF=>?_) fun _ hj1 hF=>?_
 ·refine wI hF (fun h11 hF=>?_) (fun h11 hF=>?_)
  ·exact wl hΦ hF
  refine wW ?_
  refine wJ hF (fun x14=>[(4,.v (.bool x14))]) (fun x14 hF=>?_) fun _ hj12 hF=>?_
  ·exact wm hΦ hF
  refine wC hF [.sh] ziW (fun z15 hF=>?_)
  refine wG hF (fun h16 hF=>?_) fun h16 hF=>?_
  ·exact wV h16 (hj12 _) (zaa hF)
  try simp[go_sem,g,h16]
  refine wG hF (fun h17 hF=>?_) fun h17 hF=>?_
  ·try simp[go_sem,g,h17,h16]
   exact wT (hj12 _) (zaa hF)
  try simp[go_sem,g,h17,h16]
  exact wT (hj12 _) (zaa hF)
 refine wX zA5 follows ?_
 refine wC hF [.sh] zpd (fun z4 hF=>?_)
 refine wH hF (fun h5 hF=>?_) fun h5 hF=>?_
 ·exact wV h5 (hj1 _) (zaa hF)
 try simp[go_sem,g,h5]
 refine wC hF [.sh] znW (fun z6 hF=>?_)
 try simp[go_sem,g,h5]
 refine wH hF (fun h7 hF=>?_) fun h7 hF=>?_
 ·exact wV h7 (hj1 _) (zaa hF)
 try simp[go_sem,g,h7]
 refine wC hF [.sh] ziX (fun z8 hF=>?_)
 try simp[go_sem,g,h7]
 refine wH hF (fun h9 hF=>?_) fun h9 hF=>?_
 ·exact wV h9 (hj1 _) (zaa hF)
 try simp[go_sem,g,h9]
 refine wC hF [.sh] ziX (fun z10 hF=>?_)
 exact wV h9 (hj1 _) (zaa hF)
def zfD (a0:Group) (a1:List Int):Option Bool:=
 ((zak (σ:=Unit) (fun i5 s4=>
 (ix a1 i5).bind fun x11=>
 (((zaX x11 1 (i64.wrap (a0.P-1))).bind fun z15=>
 if(!z15)=true then(
 some true)else(
 (zdp x11 a0.Q a0.P).bind fun z17=>
 some (z17 !=1)):Option Bool).bind fun x14=>
 if x14=true then(
 some (.out (.inr false)))else(
 some (.go ())))) (fun s4=>.inl ()) (a1.length) 0 ():Option (Unit ⊕ Bool)).bind (Sum.elim (fun x3=>
 some true) some))
theorem znB:∀{a0}{a1}{r},zfD a0 a1=some r→PCalls Tryz.prog 34 [(.sh,vD a0),(.sh,vA a1)] (Eo (.bool r) [.junk,.junk]):=by
 intro a0 a1 r hr
 apply pF 29 [] [] [] [.tmp 4] hr zI5 Tryz.func34
 intro Φ hΦ hF g
 unfold zfD at hF
 iterate 2 (try simp[go_sem,g];try intros;refine zal ?_)
 refine wS hF (fun x3=>[]) (fun x3 hF=>?_) fun _ hj1 hr2 hF=>?_
 ·exact wl hΦ hF
 refine wB ?_
 obtain⟨b19,hb20,hψ8⟩:=hF
 refine pR hb20 (fun i5 s4=>[(2,.bl [.int .i64 a0.P,.int .i64 a0.Q,.int .i64 a0.G]),(7,.v (vA a1)),(8,.v (.int .i64 (a1.length:Int))),(9,.v (.int .i64 i5))]) (fun s4 _ hN21=>?_) (fun i5 s4 _ _ hi9 hi10 ho6 hg7 hF=>?_)
 ·exact wn hN21 (hj1 _) hψ8
 refine wW ?_
 refine wu hi9 hi10 ?_
 refine wW ?_
 refine wB ?_
 obtain⟨x11,g,hF⟩:=Rx g hF
 refine wW ?_
 refine wJ hF (fun x14=>[(2,.bl [.int .i64 a0.P,.int .i64 a0.Q,.int .i64 a0.G]),(7,.v (vA a1)),(8,.v (.int .i64 (a1.length:Int))),(9,.v (.int .i64 i5)),(27,.v (.bool x14))]) (fun x14 hF=>?_) fun _ hj12 hF=>?_
 ·refine wI hF (fun h18 hF=>?_) (fun h18 hF=>?_)
  ·refine wK [4] ?_
   cases ho6 _ (zaa hF)
   cases hΦ _ (hr2 _ hψ8)
   try simp[go_sem,g]
  refine wW ?_
  exact wi hi9 hi10 (hg7 _) (zaa hF)
 refine wC hF [.sh,.sh,.sh] zbv (fun z15 hF=>?_)
 refine wG hF (fun h16 hF=>?_) fun h16 hF=>?_
 ·exact wV h16 (hj12 _) (zaa hF)
 try simp[go_sem,g,h16]
 refine wC hF [.sh,.sh,.sh] zic (fun z17 hF=>?_)
 exact wV h16 (hj12 _) (zaa hF)
def ze2 (a0:Int):Option Bool:=
 (zaX a0 0 4611686018427387903).bind fun z1=>
 some z1
theorem znQ:∀{a0}{r},ze2 a0=some r→PCalls Tryz.prog 67 [(.sh,.int .i64 a0)] (Eo (.bool r) [.junk]):=by
 intro a0 r hr
 apply pF 5 [] [] [] [.tmp 2] hr zGo Tryz.func67
 intro Φ hΦ hF g
 unfold ze2 at hF
 refine wW ?_
 refine wC hF [.sh,.sh,.sh] zbv (fun z1 hF=>?_)
 exact wl hΦ hF
def ze3 (a0:List Int) (a1:Int) (a2:Int):Option Bool:=
 ((zak (σ:=Unit) (fun i5 s4=>
 (ix a0 i5).bind fun x11=>
 (((zaX x11 a1 a2).bind fun z15=>
 if(!z15)=true then(
 some true)else(
 if decide (0<i5)=true then(
 (ix a0 (i64.wrap (i5-1))).bind fun x18=>
 some (decide (x11≤x18)))else(
 some false)):Option Bool).bind fun x14=>
 if x14=true then(
 some (.out (.inr false)))else(
 some (.go ())))) (fun s4=>.inl ()) (a0.length) 0 ():Option (Unit ⊕ Bool)).bind (Sum.elim (fun x3=>
 some true) some))
theorem zn3:∀{a0}{a1}{a2}{r},ze3 a0 a1 a2=some r→PCalls Tryz.prog 78 [(.sh,vA a0),(.sh,.int .i64 a1),(.sh,.int .i64 a2)] (Eo (.bool r) [.junk,.junk,.junk]):=by
 intro a0 a1 a2 r hr
 apply pF 35 [] [] [] [.tmp 6] hr zHx Tryz.func78
 intro Φ hΦ hF g
 unfold ze3 at hF
 iterate 2 (try simp[go_sem,g];try intros;refine zal ?_)
 refine wS hF (fun x3=>[]) (fun x3 hF=>?_) fun _ hj1 hr2 hF=>?_
 ·exact wl hΦ hF
 refine wB ?_
 obtain⟨b20,hb21,hψ8⟩:=hF
 refine pR hb21 (fun i5 s4=>[(0,.v (vA a0)),(1,.v (.int .i64 a1)),(2,.v (.int .i64 a2)),(9,.v (vA a0)),(10,.v (.int .i64 (a0.length:Int))),(11,.v (.int .i64 i5))]) (fun s4 _ hN22=>?_) (fun i5 s4 _ _ hi9 hi10 ho6 hg7 hF=>?_)
 ·exact wn hN22 (hj1 _) hψ8
 refine wW ?_
 refine wu hi9 hi10 ?_
 refine wW ?_
 refine wB ?_
 obtain⟨x11,g,hF⟩:=Rx g hF
 refine wK [0,1,2,7,8,9,10,11] ?_
 refine wJ hF (fun x14=>[(0,.v (vA a0)),(1,.v (.int .i64 a1)),(2,.v (.int .i64 a2)),(9,.v (vA a0)),(10,.v (.int .i64 (a0.length:Int))),(11,.v (.int .i64 i5)),(33,.v (.bool x14))]) (fun x14 hF=>?_) fun _ hj12 hF=>?_
 ·refine wI hF (fun h19 hF=>?_) (fun h19 hF=>?_)
  ·cases ho6 _ (zaa hF)
   cases hΦ _ (hr2 _ hψ8)
   refine wW ?_
   try simp[go_sem,g]
  refine wW ?_
  exact wi hi9 hi10 (hg7 _) (zaa hF)
 refine wC hF [.sh,.sh,.sh] zbv (fun z15 hF=>?_)
 refine wG hF (fun h16 hF=>?_) fun h16 hF=>?_
 ·exact wV h16 (hj12 _) (zaa hF)
 try simp[go_sem,g,h16]
 refine wG hF (fun h17 hF=>?_) fun h17 hF=>?_
 ·obtain⟨x18,g,hF⟩:=Rx g hF
  try simp[go_sem,g,h17,h16]
  exact wT (hj12 _) (zaa hF)
 try simp[go_sem,g,h17,h16]
 exact wT (hj12 _) (zaa hF)
def zcm (a0:List Int) (a1:Int) (a2:Int):Option Bool:=
 ((zak (σ:=Unit) (fun i5 s4=>
 (ix a0 i5).bind fun x11=>
 (zaX x11 a1 a2).bind fun z12=>
 if(!z12)=true then(
 some (.out (.inr false)))else(
 some (.go ()))) (fun s4=>.inl ()) (a0.length) 0 ():Option (Unit ⊕ Bool)).bind (Sum.elim (fun x3=>
 some true) some))
theorem zfg:∀{a0}{a1}{a2}{r},zcm a0 a1 a2=some r→PCalls Tryz.prog 79 [(.sh,vA a0),(.sh,.int .i64 a1),(.sh,.int .i64 a2)] (Eo (.bool r) [.junk,.junk,.junk]):=by
 intro a0 a1 a2 r hr
 apply pF 21 [] [] [] [.tmp 6] hr zIR Tryz.func79
 intro Φ hΦ hF g
 unfold zcm at hF
 iterate 2 (try simp[go_sem,g];try intros;refine zal ?_)
 refine wS hF (fun x3=>[]) (fun x3 hF=>?_) fun _ hj1 hr2 hF=>?_
 ·exact wl hΦ hF
 refine wB ?_
 obtain⟨b14,hb15,hψ8⟩:=hF
 refine pR hb15 (fun i5 s4=>[(1,.v (.int .i64 a1)),(2,.v (.int .i64 a2)),(9,.v (vA a0)),(10,.v (.int .i64 (a0.length:Int))),(11,.v (.int .i64 i5))]) (fun s4 _ hN16=>?_) (fun i5 s4 _ _ hi9 hi10 ho6 hg7 hF=>?_)
 ·exact wn hN16 (hj1 _) hψ8
 refine wW ?_
 refine wu hi9 hi10 ?_
 refine wW ?_
 refine wB ?_
 obtain⟨x11,g,hF⟩:=Rx g hF
 refine wW ?_
 refine wC hF [.sh,.sh,.sh] zbv (fun z12 hF=>?_)
 refine wK [1,2,9,10,11,19] ?_
 refine wI hF (fun h13 hF=>?_) (fun h13 hF=>?_)
 ·cases ho6 _ (zaa hF)
  cases hΦ _ (hr2 _ hψ8)
  refine wW ?_
  try simp[go_sem,g]
 refine wW ?_
 exact wi hi9 hi10 (hg7 _) (zaa hF)
def zfH (a0:List Int):Option Int:=
 ((zak (σ:=Int) (fun i5 s4=>
 (ix a0 i5).bind fun x11=>
 some (.go (i64.wrap (s4+x11)))) (fun s4=>s4) (a0.length) 0 0:Option Int).bind fun x3=>
 some x3)
theorem zo9:∀{a0}{r},zfH a0=some r→PCalls Tryz.prog 80 [(.sh,vA a0)] (Eo (.int .i64 r) [.junk]):=by
 intro a0 r hr
 apply pF 17 [] [] [] [.tmp 2] hr zJc Tryz.func80
 intro Φ hΦ hF g
 unfold zfH at hF
 iterate 3 (try simp[go_sem,g];try intros;refine zal ?_)
 refine wJ hF (fun x3=>[(3,.v (.int .i64 x3))]) (fun x3 hF=>?_) fun _ hj1 hF=>?_
 ·exact wl hΦ hF
 refine wB ?_
 obtain⟨b12,hb13,hψ8⟩:=hF
 refine pR hb13 (fun i5 s4=>[(3,.v (.int .i64 s4)),(6,.v (vA a0)),(7,.v (.int .i64 (a0.length:Int))),(8,.v (.int .i64 i5))]) (fun s4 _ hN14=>?_) (fun i5 s4 _ _ hi9 hi10 ho6 hg7 hF=>?_)
 ·exact wn hN14 (hj1 _) hψ8
 refine wW ?_
 refine wu hi9 hi10 ?_
 refine wW ?_
 refine wB ?_
 obtain⟨x11,g,hF⟩:=Rx g hF
 refine wW ?_
 refine wK [3,6,7,8] ?_
 exact wi hi9 hi10 (hg7 _) (zaa hF)
def zf8 (a0:List Int) (a1:Int):Option Bool:=
 ((zak (σ:=Unit) (fun i5 s4=>
 (ix a0 i5).bind fun x11=>
 if(x11==a1)=true then(
 some (.out (.inr true)))else(
 some (.go ()))) (fun s4=>.inl ()) (a0.length) 0 ():Option (Unit ⊕ Bool)).bind (Sum.elim (fun x3=>
 some false) some))
theorem zqX:∀{a0}{a1}{r},zf8 a0 a1=some r→PCalls Tryz.prog 128 [(.sh,vA a0),(.sh,.int .i64 a1)] (Eo (.bool r) [.junk,.junk]):=by
 intro a0 a1 r hr
 apply pF 17 [] [] [] [.tmp 4] hr zBG Tryz.func128
 intro Φ hΦ hF g
 unfold zf8 at hF
 iterate 2 (try simp[go_sem,g];try intros;refine zal ?_)
 refine wS hF (fun x3=>[]) (fun x3 hF=>?_) fun _ hj1 hr2 hF=>?_
 ·exact wl hΦ hF
 refine wB ?_
 obtain⟨b13,hb14,hψ8⟩:=hF
 refine pR hb14 (fun i5 s4=>[(1,.v (.int .i64 a1)),(7,.v (vA a0)),(8,.v (.int .i64 (a0.length:Int))),(9,.v (.int .i64 i5))]) (fun s4 _ hN15=>?_) (fun i5 s4 _ _ hi9 hi10 ho6 hg7 hF=>?_)
 ·exact wn hN15 (hj1 _) hψ8
 refine wW ?_
 refine wu hi9 hi10 ?_
 refine wW ?_
 refine wB ?_
 obtain⟨x11,g,hF⟩:=Rx g hF
 refine wW ?_
 refine wK [1,7,8,9,15] ?_
 refine wI hF (fun h12 hF=>?_) (fun h12 hF=>?_)
 ·cases ho6 _ (zaa hF)
  cases hΦ _ (hr2 _ hψ8)
  refine wW ?_
  try simp[go_sem,g]
 refine wW ?_
 exact wi hi9 hi10 (hg7 _) (zaa hF)
def zfd (a0:List Int):Option Bool:=
 ((zak (σ:=Unit) (fun i5 s4=>
 (ix a0 i5).bind fun x11=>
 gd (0≤i5)<|
 gd (0≤i5.toNat∧i5.toNat≤a0.length)<|
 (zf8 ((a0.take i5.toNat).drop 0) x11).bind fun z12=>
 if z12=true then(
 some (.out (.inr false)))else(
 some (.go ()))) (fun s4=>.inl ()) (a0.length) 0 ():Option (Unit ⊕ Bool)).bind (Sum.elim (fun x3=>
 some true) some))
theorem zmd:∀{a0}{r},zfd a0=some r→PCalls Tryz.prog 81 [(.sh,vA a0)] (Eo (.bool r) [.junk]):=by
 intro a0 r hr
 apply pF 18 [] [] [] [.tmp 2] hr zIJ Tryz.func81
 intro Φ hΦ hF g
 unfold zfd at hF
 iterate 2 (try simp[go_sem,g];try intros;refine zal ?_)
 refine wS hF (fun x3=>[]) (fun x3 hF=>?_) fun _ hj1 hr2 hF=>?_
 ·exact wl hΦ hF
 refine wB ?_
 obtain⟨b14,hb15,hψ8⟩:=hF
 refine pR hb15 (fun i5 s4=>[(0,.v (vA a0)),(5,.v (vA a0)),(6,.v (.int .i64 (a0.length:Int))),(7,.v (.int .i64 i5))]) (fun s4 _ hN16=>?_) (fun i5 s4 _ _ hi9 hi10 ho6 hg7 hF=>?_)
 ·exact wn hN16 (hj1 _) hψ8
 refine wW ?_
 refine wu hi9 hi10 ?_
 refine wW ?_
 refine wB ?_
 obtain⟨x11,g,hF⟩:=Rx g hF
 refine wK [0,3,4,5,6,7] ?_
 obtain⟨g,hF⟩:=Rg g hF
 obtain⟨g,hF⟩:=Rg g hF
 refine wC hF [.sh,.sh] zqX (fun z12 hF=>?_)
 refine wW ?_
 refine wI hF (fun h13 hF=>?_) (fun h13 hF=>?_)
 ·cases ho6 _ (zaa hF)
  cases hΦ _ (hr2 _ hψ8)
  refine wW ?_
  try simp[go_sem,g]
 refine wW ?_
 exact wi hi9 hi10 (hg7 _) (zaa hF)
@[go_sem] def zBN:List DE:=[d0 0 [1],d0 1 [25],d1 2 [2] 2,d2 3 [27] 2 27,d0 4 [26,28],d0 5 [29],d0 6 [1,30],d1 7 [2,30] 2,d2 8 [32,30] 2 32,d3 9 [31,33,30],d0 10 [30,34],d0 11 [35],d0 12 [1,36],d1 14 [2,36] 2,d2 15 [39,36] 2 39,d1 16 [2,36] 2,d2 17 [41,36] 2 41,d3 13 [37,36],d3 18 [38,40,42,36],d0 19 [36,43],d0 20 [44]]
def zgl (a0:Contest) (a1:List Int):Option Bool:=
 if(a0.Kind==1)=true then(
 (((ze3 a1 0 (i64.wrap (a0.Options-1))).bind fun z5=>
 if z5=true then(
 (zaX (a1.length:Int) a0.Least a0.Most).bind fun z7=>
 some z7)else(
 some false):Option Bool).bind fun x4=>
 some x4))else(
 if(a0.Kind==2)=true then(
 ((if((a1.length:Int)==a0.Options)=true then(
 (zcm a1 0 a0.Points).bind fun z13=>
 if z13=true then(
 (zfH a1).bind fun z15=>
 (zaX z15 a0.Least a0.Most).bind fun z16=>
 some z16)else(
 some false))else(
 some false):Option Bool).bind fun x11=>
 some x11))else(
 if(a0.Kind==3)=true then(
 (((zcm a1 0 (i64.wrap (a0.Options-1))).bind fun z21=>
 if z21=true then(
 (zfd a1).bind fun z23=>
 if z23=true then(
 (zaX (a1.length:Int) a0.Least a0.Most).bind fun z25=>
 some z25)else(
 some false))else(
 some false):Option Bool).bind fun x20=>
 some x20))else(
 (((zcm a1 1 26).bind fun z29=>
 if z29=true then(
 (zaX (a1.length:Int) a0.Least a0.Most).bind fun z31=>
 some z31)else(
 some false):Option Bool).bind fun x28=>
 some x28))))
theorem zrb:∀{a0}{a1}{r},zgl a0 a1=some r→PCalls Tryz.prog 36 [(.sh,vE a0),(.sh,vA a1)] (Eo (.bool r) [.junk,.junk]):=by
 intro a0 a1 r hr
 apply pF 76 [] [] [] [.tmp 4] hr zG3 Tryz.func36
 intro Φ hΦ hF g
 unfold zgl at hF
 iterate 2 refine wW ?_
 refine wB ?_
 refine wW ?_
 refine wI hF (fun h1 hF=>?_) (fun h1 hF=>?_)
 ·refine wJ hF (fun x4=>[(4,.v (.bool x4))]) (fun x4 hF=>?_) fun _ hj2 hF=>?_
  ·exact wm hΦ hF
  refine wC hF [.sh,.sh,.sh] zn3 (fun z5 hF=>?_)
  refine wG hF (fun h6 hF=>?_) fun h6 hF=>?_
  ·try simp[go_sem,g,h6]
   try intros
   refine wC hF [.sh,.sh,.sh] zbv (fun z7 hF=>?_)
   exact wV h6 (hj2 _) (zaa hF)
  exact wV h6 (hj2 _) (zaa hF)
 refine wW ?_
 refine wI hF (fun h8 hF=>?_) (fun h8 hF=>?_)
 ·refine wJ hF (fun x11=>[(4,.v (.bool x11))]) (fun x11 hF=>?_) fun _ hj9 hF=>?_
  ·exact wm hΦ hF
  refine wX zBN follows ?_
  try simp[go_sem,g]
  try intros
  refine wH hF (fun h12 hF=>?_) fun h12 hF=>?_
  ·try simp[go_sem,g,h12]
   refine wC hF [.sh,.sh,.sh] zfg (fun z13 hF=>?_)
   try simp[go_sem,g,h12]
   refine wH hF (fun h14 hF=>?_) fun h14 hF=>?_
   ·try simp[go_sem,g,h14]
    refine wC hF [.sh] zo9 (fun z15 hF=>?_)
    try simp[go_sem,g,h14]
    refine wC hF [.sh,.sh,.sh] zbv (fun z16 hF=>?_)
    exact wV h14 (hj9 _) (zaa hF)
   exact wV h14 (hj9 _) (zaa hF)
  exact wV h12 (hj9 _) (zaa hF)
 refine wK [1,2,45] ?_
 refine wI hF (fun h17 hF=>?_) (fun h17 hF=>?_)
 ·refine wJ hF (fun x20=>[(4,.v (.bool x20))]) (fun x20 hF=>?_) fun _ hj18 hF=>?_
  ·exact wm hΦ hF
  refine wC hF [.sh,.sh,.sh] zfg (fun z21 hF=>?_)
  refine wG hF (fun h22 hF=>?_) fun h22 hF=>?_
  ·try simp[go_sem,g,h22]
   refine wC hF [.sh] zmd (fun z23 hF=>?_)
   try simp[go_sem,g,h22]
   refine wG hF (fun h24 hF=>?_) fun h24 hF=>?_
   ·try simp[go_sem,g,h24]
    try intros
    refine wC hF [.sh,.sh,.sh] zbv (fun z25 hF=>?_)
    exact wV h24 (hj18 _) (zaa hF)
   exact wV h24 (hj18 _) (zaa hF)
  exact wV h22 (hj18 _) (zaa hF)
 refine wW ?_
 refine wJ hF (fun x28=>[(4,.v (.bool x28))]) (fun x28 hF=>?_) fun _ hj26 hF=>?_
 ·exact wm hΦ hF
 refine wC hF [.sh,.sh,.sh] zfg (fun z29 hF=>?_)
 refine wG hF (fun h30 hF=>?_) fun h30 hF=>?_
 ·try simp[go_sem,g,h30]
  try intros
  refine wC hF [.sh,.sh,.sh] zbv (fun z31 hF=>?_)
  exact wV h30 (hj26 _) (zaa hF)
 exact wV h30 (hj26 _) (zaa hF)
def zfX (a0:Contest):Option Int:=
 if(a0.Kind==1)=true then(
 some 1)else(
 some a0.Points)
theorem zmq:∀{a0}{r},zfX a0=some r→PCalls Tryz.prog 82 [(.sh,vE a0)] (Eo (.int .i64 r) [.junk]):=by
 intro a0 r hr
 apply pF 8 [] [] [] [.tmp 2] hr zF7 Tryz.func82
 intro Φ hΦ hF g
 unfold zfX at hF
 iterate 2 refine wW ?_
 refine wI hF (fun h1 hF=>?_) (fun h1 hF=>?_)
 ·exact wl hΦ hF
 cases hΦ _ (zaa hF)
 iterate 2 refine wW ?_
 try simp[go_sem,g]
@[go_sem] def zCJ:List DE:=[d1 0 [1] 1,d2 1 [6] 1 6,d2 2 [1] 1 1,d1 7 [1] 1,d2 8 [13] 1 13,d1 9 [1] 1,d2 10 [15] 1 15,d0 11 [14,16],d0 12 [17],d3 3 [8],d0 4 [9],d0 5 [10],d0 6 [7,11],d0 13 [12,18],d0 14 [19],d0 15 [20]]
def zfL (a0:Contest):Option Int:=
 (zeA a0).bind fun z1=>
 if(!z1)=true then(
 some 2)else(
 (zfX a0).bind fun z3=>
 some (i64.wrap ((i64.wrap ((i64.wrap (a0.Options*(i64.wrap ((i64.wrap (2*z3))+2))))+(i64.wrap (2*(i64.wrap (a0.Most-a0.Least))))))+1)))
theorem zpk:∀{a0}{r},zfL a0=some r→PCalls Tryz.prog 37 [(.sh,vE a0)] (Eo (.int .i64 r) [.junk]):=by
 intro a0 r hr
 apply pF 21 [] [] [] [.tmp 2] hr zF2 Tryz.func37
 intro Φ hΦ hF g
 unfold zfL at hF
 refine wW ?_
 refine wC hF [.sh] ziW (fun z1 hF=>?_)
 refine wW ?_
 refine wI hF (fun h2 hF=>?_) (fun h2 hF=>?_)
 ·exact wl hΦ hF
 refine wW ?_
 refine wX zCJ follows ?_
 refine wC hF [.sh] zmq (fun z3 hF=>?_)
 refine wK [2] ?_
 exact wm hΦ hF
def zge (a0:Group) (a1:List Int):Option Bool:=
 (zcm a1 0 (i64.wrap (a0.Q-1))).bind fun z1=>
 some z1
theorem zpI:∀{a0}{a1}{r},zge a0 a1=some r→PCalls Tryz.prog 38 [(.sh,vD a0),(.sh,vA a1)] (Eo (.bool r) [.junk,.junk]):=by
 intro a0 a1 r hr
 apply pF 10 [] [] [] [.tmp 4] hr zGl Tryz.func38
 intro Φ hΦ hF g
 unfold zge at hF
 refine wW ?_
 refine wC hF [.sh,.sh,.sh] zfg (fun z1 hF=>?_)
 exact wl hΦ hF
@[go_sem] def zzy:List DE:=[d0 0 [0],d0 1 [10],d0 3 [0],d0 4 [13],d0 5 [14],d0 6 [15],d0 7 [16],d3 2 [11],⟨8,[17],[],none,true,true,false⟩,d0 9 [12,18],d0 10 [19]]
@[go_sem] def zwG:List DE:=[d0 0 [0],d0 1 [10],d0 3 [0],d0 4 [13],d0 5 [14],d0 6 [15],d0 7 [16],⟨8,[17],[],none,true,true,false⟩,d3 2 [11],d0 9 [12,18],d0 10 [19]]
def zbn:Nat→Int→Option ByteArray
 |0,_=>none
 |n_+1,a0=>
 if decide (a0<10)=true then(
 some (zdW [u8.wrap (i64.wrap (48+a0))]))else(
 (zbn n_ (i64.wrap (a0.tdiv 10))).bind fun z2=>
 gd (z2.size+(zdW [u8.wrap (i64.wrap (48+(a0.tmod 10)))]).size≤9223372036854775807)<|
 some (z2++(zdW [u8.wrap (i64.wrap (48+(a0.tmod 10)))])))
def ziK (a0:Int):Option ByteArray:=zoF fun n_=>zbn n_ a0
theorem zox:∀{n_:Nat}{a0:Int}{r:ByteArray}(hr:zbn n_ a0=some r),PCalls Tryz.prog 129 [(.sh,.int .i64 a0)] (Eo (.str r) [.junk]):=by
 intro n_
 induction n_ with
 |zero=>intro a0 r hr;cases hr
 |succ n_ ih=>
  intro a0 r hr
  apply pF 20 [] [] [1000000] [.tmp 2] hr zDI Tryz.func129
  intro Φ hΦ hF g
  simp only[zbn]at hF
  iterate 2 refine wW ?_
  refine wI hF (fun h1 hF=>?_) (fun h1 hF=>?_)
  ·exact wl hΦ hF
  ·refine wW ?_
   repeat rw[sq]
   refine zwO 2 8 zzy zwG follows (by decide) (by kernel_rfl) (by kernel_rfl) rfl rfl ?_ ?_
   ·have g:=Ld g 10
    refine wC hF [.sh] ih (fun z2 hF=>?_)
    obtain⟨g,hF⟩:=Rsa g hF
    refine wK [2] ?_
    exact wm hΦ hF
   ·have g:=Ld g 10
    refine wC hF [.sh] ih (fun z2 hF=>?_)
    obtain⟨g,hF⟩:=Rsa g hF
    refine wK [2] ?_
    exact wm hΦ hF
theorem zqd {a0:Int}{r:ByteArray}(hr:ziK a0=some r):PCalls Tryz.prog 129 [(.sh,.int .i64 a0)] (Eo (.str r) [.junk]):=by
 obtain⟨n_,hn⟩:=zuM hr
 exact zox hn
def zfJ (a0:Int):Option ByteArray:=
 (ziK a0).bind fun z1=>
 gd ((⟨#[98,97,108,108,111,116,32]⟩:ByteArray).size+z1.size≤9223372036854775807)<|
 some ((⟨#[98,97,108,108,111,116,32]⟩:ByteArray)++z1)
theorem zpm:∀{a0}{r},zfJ a0=some r→PCalls Tryz.prog 83 [(.sh,.int .i64 a0)] (Eo (.str r) [.junk]):=by
 intro a0 r hr
 apply pF 6 [] [] [] [.tmp 2] hr zG2 Tryz.func83
 intro Φ hΦ hF g
 unfold zfJ at hF
 refine wW ?_
 refine wC hF [.sh] zqd (fun z1 hF=>?_)
 obtain⟨g,hF⟩:=Rsa g hF
 exact wl hΦ hF
def zfU (a0:Int) (a1:Int):Option Int:=
 gd (a1≠0)<|
 gd (a1≠0)<|
 some ((i64.wrap ((a0.tmod a1)+a1)).tmod a1)
theorem zmm:∀{a0}{a1}{r},zfU a0 a1=some r→PCalls Tryz.prog 139 [(.sh,.int .i64 a0),(.sh,.int .i64 a1)] (Eo (.int .i64 r) [.junk,.junk]):=by
 intro a0 a1 r hr
 apply pF 12 [] [] [] [.tmp 4] hr zCz Tryz.func139
 intro Φ hΦ hF g
 unfold zfU at hF
 obtain⟨g,hF⟩:=Rz g hF
 obtain⟨g,hF⟩:=Rz g hF
 cases hΦ _ (zaa hF)
 iterate 2 refine wW ?_
 try simp[go_sem,g]
@[go_sem] def zAq:List DE:=[d0 0 [1],d0 1 [2],d1 2 [3] 3,d2 3 [9] 3 9,d1 5 [3] 3,d2 6 [12] 3 12,d3 4 [8,10],d3 7 [7,11,13],d0 8 [14]]
def zaJ (a0:Group) (a1:Int) (a2:Int):Option Int:=
 (zfU a2 a0.Q).bind fun z1=>
 (zdp a1 z1 a0.P).bind fun z2=>
 some z2
theorem zcN:∀{a0}{a1}{a2}{r},zaJ a0 a1 a2=some r→PCalls Tryz.prog 131 [(.sh,vD a0),(.sh,.int .i64 a1),(.sh,.int .i64 a2)] (Eo (.int .i64 r) [.junk,.junk,.junk]):=by
 intro a0 a1 a2 r hr
 apply pF 15 [] [] [] [.tmp 6] hr zBX Tryz.func131
 intro Φ hΦ hF g
 unfold zaJ at hF
 refine wW ?_
 refine wX zAq follows ?_
 refine wC hF [.sh,.sh] zmm (fun z1 hF=>?_)
 refine wC hF [.sh,.sh,.sh] zic (fun z2 hF=>?_)
 refine wK [6] ?_
 exact wm hΦ hF
def zbF (a0:Group) (a1:List Int):Option Int:=
 ((zak (σ:=Int) (fun i5 s4=>
 (ix a1 i5).bind fun x11=>
 gd (a0.P≠0)<|
 some (.go ((i64.wrap (s4*x11)).tmod a0.P))) (fun s4=>s4) (a1.length) 0 1:Option Int).bind fun x3=>
 some x3)
theorem zfW:∀{a0}{a1}{r},zbF a0 a1=some r→PCalls Tryz.prog 138 [(.sh,vD a0),(.sh,vA a1)] (Eo (.int .i64 r) [.junk,.junk]):=by
 intro a0 a1 r hr
 apply pF 22 [] [] [] [.tmp 4] hr zCg Tryz.func138
 intro Φ hΦ hF g
 unfold zbF at hF
 iterate 3 (try simp[go_sem,g];try intros;refine zal ?_)
 refine wJ hF (fun x3=>[(5,.v (.int .i64 x3))]) (fun x3 hF=>?_) fun _ hj1 hF=>?_
 ·exact wl hΦ hF
 refine wB ?_
 obtain⟨b12,hb13,hψ8⟩:=hF
 refine pR hb13 (fun i5 s4=>[(2,.bl [.int .i64 a0.P,.int .i64 a0.Q,.int .i64 a0.G]),(5,.v (.int .i64 s4)),(8,.v (vA a1)),(9,.v (.int .i64 (a1.length:Int))),(10,.v (.int .i64 i5))]) (fun s4 _ hN14=>?_) (fun i5 s4 _ _ hi9 hi10 ho6 hg7 hF=>?_)
 ·exact wn hN14 (hj1 _) hψ8
 refine wW ?_
 refine wu hi9 hi10 ?_
 refine wW ?_
 refine wB ?_
 obtain⟨x11,g,hF⟩:=Rx g hF
 refine wK [2,5,7,8,9,10] ?_
 obtain⟨g,hF⟩:=Rz g hF
 refine wW ?_
 exact wi hi9 hi10 (hg7 _) (zaa hF)
@[go_sem] def zAa:List DE:=[d2 0 [4] 4 4,d1 1 [4] 4,d2 2 [10] 4 10,d0 3 [3],d2 5 [4] 4 4,d0 6 [2],d2 7 [4] 4 4,d0 8 [1],d0 9 [3],d3 4 [9,11,12],d3 10 [16,17,18],d0 11 [15,19],⟨12,[14,20],[],none,true,true,true⟩,d0 13 [13,21],d2 14 [8,22] 8 8]
def zgG (a0:Group) (a1:Int) (a2:Int) (a3:Int):Option Cipher:=
 (zaJ a0 a0.G a3).bind fun z1=>
 (zaJ a0 a1 a3).bind fun z2=>
 (zbF a0 [a2,z2]).bind fun z3=>
 some (Cipher.mk z1 z3)
theorem zrN:∀{a0}{a1}{a2}{a3}{r},zgG a0 a1 a2 a3=some r→PCalls Tryz.prog 130 [(.sh,vD a0),(.sh,.int .i64 a1),(.sh,.int .i64 a2),(.sh,.int .i64 a3)] (Eo (vI r) [.junk,.junk,.junk,.junk]):=by
 intro a0 a1 a2 a3 r hr
 apply pF 23 [] [] [] [.cell 8 81] hr zCO Tryz.func130
 intro Φ hΦ hF g
 unfold zgG at hF
 refine wW ?_
 refine wX zAa follows ?_
 refine wC hF [.sh,.sh,.sh] zcN (fun z1 hF=>?_)
 refine wC hF [.sh,.sh,.sh] zcN (fun z2 hF=>?_)
 refine wC hF [.sh,.sh] zfW (fun z3 hF=>?_)
 refine wK [8] ?_
 exact wm hΦ hF
@[go_sem] def zDM:List DE:=[d2 0 [4] 4 4,d0 1 [1],d2 2 [4] 4 4,d1 3 [4] 4,d2 4 [12] 4 12,d0 5 [2],d0 7 [3],d3 6 [11,13,14],d3 8 [9,10,15,16],d2 9 [8,17] 8 8]
def ze9 (a0:Group) (a1:Int) (a2:Int) (a3:Int):Option Cipher:=
 (zaJ a0 a0.G a2).bind fun z1=>
 (zgG a0 a1 z1 a3).bind fun z2=>
 some z2
theorem zmz:∀{a0}{a1}{a2}{a3}{r},ze9 a0 a1 a2 a3=some r→PCalls Tryz.prog 84 [(.sh,vD a0),(.sh,.int .i64 a1),(.sh,.int .i64 a2),(.sh,.int .i64 a3)] (Eo (vI r) [.junk,.junk,.junk,.junk]):=by
 intro a0 a1 a2 a3 r hr
 apply pF 18 [] [] [] [.cell 8 81] hr zF5 Tryz.func84
 intro Φ hΦ hF g
 unfold ze9 at hF
 refine wW ?_
 refine wX zDM follows ?_
 refine wC hF [.sh,.sh,.sh] zcN (fun z1 hF=>?_)
 refine wC hF [.sh,.sh,.sh,.sh] zrN (fun z2 hF=>?_)
 refine wK [8] ?_
 exact wm hΦ hF
@[go_sem] def zzY:List DE:=[d0 0 [7],d2 1 [3] 3 3,d0 2 [9],d0 3 [2],d0 4 [8],d0 5 [20,21],d0 6 [22],d1 9 [3] 3,d2 10 [26] 3 26,d3 7 [18,19,23],d0 8 [17,24],d0 11 [25,27],d0 12 [28]]
def zfq (a0:Group) (a1:List Int) (a2:List Int):Option Int:=
 ((zak (σ:=Int) (fun i5 s4=>
 (ix a1 i5).bind fun x11=>
 (ix a2 i5).bind fun x12=>
 (zaJ a0 x11 x12).bind fun z13=>
 gd (a0.P≠0)<|
 some (.go ((i64.wrap (s4*z13)).tmod a0.P))) (fun s4=>s4) (a1.length) 0 1:Option Int).bind fun x3=>
 some x3)
theorem zqG:∀{a0}{a1}{a2}{r},zfq a0 a1 a2=some r→PCalls Tryz.prog 168 [(.sh,vD a0),(.sh,vA a1),(.sh,vA a2)] (Eo (.int .i64 r) [.junk,.junk,.junk]):=by
 intro a0 a1 a2 r hr
 apply pF 31 [] [] [] [.tmp 6] hr zCt Tryz.func168
 intro Φ hΦ hF g
 unfold zfq at hF
 iterate 3 (try simp[go_sem,g];try intros;refine zal ?_)
 refine wJ hF (fun x3=>[(7,.v (.int .i64 x3))]) (fun x3 hF=>?_) fun _ hj1 hF=>?_
 ·exact wl hΦ hF
 refine wB ?_
 obtain⟨b14,hb15,hψ8⟩:=hF
 refine pR hb15 (fun i5 s4=>[(2,.v (vA a2)),(3,.bl [.int .i64 a0.P,.int .i64 a0.Q,.int .i64 a0.G]),(7,.v (.int .i64 s4)),(10,.v (vA a1)),(11,.v (.int .i64 (a1.length:Int))),(12,.v (.int .i64 i5))]) (fun s4 _ hN16=>?_) (fun i5 s4 _ _ hi9 hi10 ho6 hg7 hF=>?_)
 ·exact wn hN16 (hj1 _) hψ8
 refine wW ?_
 refine wu hi9 hi10 ?_
 refine wW ?_
 refine wB ?_
 obtain⟨x11,g,hF⟩:=Rx g hF
 refine wK [2,3,7,8,9,10,11,12] ?_
 refine wX zzY follows ?_
 obtain⟨x12,g,hF⟩:=Rx g hF
 refine wC hF [.sh,.sh,.sh] zcN (fun z13 hF=>?_)
 obtain⟨g,hF⟩:=Rz g hF
 refine wK [2,3,7,10,11,12] ?_
 exact wi hi9 hi10 (hg7 _) (zaa hF)
def zeo (a0:Group) (a1:(List (List Int))) (a2:List Int):Option ((List Int)):=
 ((zak (σ:=(List Int)) (fun i5 s4=>
 (ix a1 i5).bind fun x11=>
 (zfq a0 x11 a2).bind fun z12=>
 gd ((s4.length+1)*8≤140737488355328∧s4.length+1≤4611686018427387904)<|
 some (.go (s4++[z12]))) (fun s4=>s4) (a1.length) 0 []:Option ((List Int))).bind fun x3=>
 some x3)
theorem zjU:∀{a0}{a1}{a2}{r},zeo a0 a1 a2=some r→PCalls Tryz.prog 134 [(.sh,vD a0),(.sh,vJ a1),(.sh,vA a2)] (Eo (vF r) [.junk,.junk,.junk]):=by
 intro a0 a1 a2 r hr
 apply pF 25 [] [] [] [.tmp 6] hr zBC Tryz.func134
 intro Φ hΦ hF g
 unfold zeo at hF
 iterate 3 (try simp[go_sem,g];try intros;refine zal ?_)
 refine wJ hF (fun x3=>[(7,.v (vF x3))]) (fun x3 hF=>?_) fun _ hj1 hF=>?_
 ·exact wl hΦ hF
 refine wB ?_
 obtain⟨b13,hb14,hψ8⟩:=hF
 refine pR hb14 (fun i5 s4=>[(2,.v (vA a2)),(3,.bl [.int .i64 a0.P,.int .i64 a0.Q,.int .i64 a0.G]),(7,.v (vF s4)),(10,.v (vJ a1)),(11,.v (.int .i64 (a1.length:Int))),(12,.v (.int .i64 i5))]) (fun s4 _ hN15=>?_) (fun i5 s4 _ _ hi9 hi10 ho6 hg7 hF=>?_)
 ·exact wn hN15 (hj1 _) hψ8
 refine wW ?_
 refine wu hi9 hi10 ?_
 refine wW ?_
 refine wB ?_
 obtain⟨x11,g,hF⟩:=Rx g hF
 refine wK [2,3,7,9,10,11,12] ?_
 refine wC hF [.sh,.sh,.sh] zqG (fun z12 hF=>?_)
 obtain⟨g,hF⟩:=Rg g hF
 refine wW ?_
 exact wi hi9 hi10 (hg7 _) (zaa hF)
def zeg (a0:(List (List Int))) (a1:List Int) (a2:List Int):Option ((List Int)):=
 ((zak (σ:=(List Int)) (fun i5 s4=>
 (ix a0 i5).bind fun x11=>
 gd ((s4.length+x11.length)*8≤140737488355328∧s4.length+x11.length≤4611686018427387904)<|
 some (.go (s4++x11))) (fun s4=>s4) (a0.length) 0 []:Option ((List Int))).bind fun x3=>
 gd ((x3.length+a1.length)*8≤140737488355328∧x3.length+a1.length≤4611686018427387904)<|
 gd (((x3++a1).length+a2.length)*8≤140737488355328∧(x3++a1).length+a2.length≤4611686018427387904)<|
 some (x3++a1++a2))
theorem zme:∀{a0}{a1}{a2}{r},zeg a0 a1 a2=some r→PCalls Tryz.prog 136 [(.sh,vJ a0),(.sh,vA a1),(.sh,vA a2)] (Eo (vF r) [.junk,.junk,.junk]):=by
 intro a0 a1 a2 r hr
 apply pF 25 [] [] [] [.tmp 6] hr zBU Tryz.func136
 intro Φ hΦ hF g
 unfold zeg at hF
 iterate 3 (try simp[go_sem,g];try intros;refine zal ?_)
 refine wJ hF (fun x3=>[(1,.v (vA a1)),(2,.v (vA a2)),(7,.v (vF x3))]) (fun x3 hF=>?_) fun _ hj1 hF=>?_
 ·obtain⟨g,hF⟩:=Rg g hF
  obtain⟨g,hF⟩:=Rg g hF
  refine wK [6] ?_
  exact wm hΦ hF
 refine wB ?_
 obtain⟨b12,hb13,hψ8⟩:=hF
 refine pR hb13 (fun i5 s4=>[(1,.v (vA a1)),(2,.v (vA a2)),(7,.v (vF s4)),(10,.v (vJ a0)),(11,.v (.int .i64 (a0.length:Int))),(12,.v (.int .i64 i5))]) (fun s4 _ hN14=>?_) (fun i5 s4 _ _ hi9 hi10 ho6 hg7 hF=>?_)
 ·exact wn hN14 (hj1 _) hψ8
 refine wW ?_
 refine wu hi9 hi10 ?_
 refine wW ?_
 refine wB ?_
 obtain⟨x11,g,hF⟩:=Rx g hF
 obtain⟨g,hF⟩:=Rg g hF
 refine wW ?_
 refine wK [1,2,7,10,11,12] ?_
 exact wi hi9 hi10 (hg7 _) (zaa hF)
def zfN (a0:ByteArray) (a1:List Int):Option ((List Int)):=
 ((zaN (σ:=(List Int)×Int) (fun s4=>
 if decide (s4.2<(a0.size:Int))=true then(
 (ixs a0 s4.2).bind fun x10=>
 gd ((s4.1.length+1)*8≤140737488355328∧s4.1.length+1≤4611686018427387904)<|
 some (.go (s4.1++[i64.wrap x10],i64.wrap (s4.2+1))))else(
 some (.out s4.1))) ([(a0.size:Int)],0):Option ((List Int))).bind fun x3=>
 gd ((x3.length+a1.length)*8≤140737488355328∧x3.length+a1.length≤4611686018427387904)<|
 some (x3++a1))
theorem zpi:∀{a0}{a1}{r},zfN a0 a1=some r→PCalls Tryz.prog 162 [(.sh,.str a0),(.sh,vA a1)] (Eo (vF r) [.junk,.junk]):=by
 intro a0 a1 r hr
 apply pF 26 [] [] [] [.tmp 4] hr zCU Tryz.func162
 intro Φ hΦ hF g
 unfold zfN at hF
 iterate 3 refine wW ?_
 refine wJ hF (fun x3=>[(1,.v (vA a1)),(5,.v (vF x3))]) (fun x3 hF=>?_) fun _ hj1 hF=>?_
 ·obtain⟨g,hF⟩:=Rg g hF
  refine wK [4] ?_
  exact wm hΦ hF
 refine wB ?_
 obtain⟨b11,hb12,hψ8⟩:=hF
 refine pL hb12 (fun s4=>[(0,.v (.str a0)),(1,.v (vA a1)),(5,.v (vF s4.1)),(6,.v (.int .i64 s4.2))]) (fun s4 _ _ ho6 hg7 hF=>?_)
 refine wK [0,1,5,6,13] ?_
 refine wI hF (fun h9 hF=>?_) (fun h9 hF=>?_)
 ·refine wW ?_
  refine wB ?_
  obtain⟨x10,g,hF⟩:=Rxs g hF
  obtain⟨g,hF⟩:=Rg g hF
  refine wW ?_
  exact wT (hg7 _) (zaa hF)
 cases ho6 _ (zaa hF)
 exact wT (hj1 _) hψ8
def zbA (a0c0:Int) (a0c1:Int) (a1:Int):Option ((Int×Int)):=
 (some [a1.tmod 2147483648,i64.wrap (a1.tdiv 2147483648)]).bind fun x1=>
 zaN (σ:=(Int×Int)×Int) (fun s10=>
 if decide (s10.2<(x1.length:Int))=true then(
 (ix x1 s10.2).bind fun x16=>
 some (.go (((i64.wrap ((i64.wrap ((i64.wrap (48271*s10.1.1))+x16))+1)).tmod 2147483647,(i64.wrap ((i64.wrap ((i64.wrap (69621*s10.1.2))+x16))+1)).tmod 2147483647),i64.wrap (s10.2+1))))else(
 some (.out (s10.1.1,s10.1.2)))) ((a0c0,a0c1),0)
theorem zfR:∀{a0c0}{a0c1}{a1}{r},zbA a0c0 a0c1 a1=some r→PCalls Tryz.prog 180 [(.io,vK a0c0 a0c1),(.sh,.int .i64 a1)] (Eo (.junk) [vK r.1 r.2,.junk]):=by
 intro a0c0 a0c1 a1 r hr
 apply pF 41 [0] [] [] [] hr zBV Tryz.func180
 intro Φ hΦ hF g
 unfold zbA at hF
 have g:=Ld g 2147483648
 obtain⟨x1,e2,hF⟩:=zdY hF
 have g:=And.intro g (show[[.int .i64 (a1.tmod 2147483648)],[.int .i64 (i64.wrap (a1.tdiv 2147483648))]]=x1.map zaf by injection e2 with e2;rw[←e2];simp[go_sem])
 try simp[go_sem,g]
 try intros
 refine zal ?_
 refine wB ?_
 obtain⟨b17,hb18,hψ14⟩:=hF
 refine pL hb18 (fun s10=>[(0,.v (vK s10.1.1 s10.1.2)),(10,.v (vF x1)),(11,.v (.int .i64 (x1.length:Int))),(12,.v (.int .i64 s10.2))]) (fun s10 _ _ ho12 hg13 hF=>?_)
 refine wW ?_
 refine wI hF (fun h15 hF=>?_) (fun h15 hF=>?_)
 ·refine wW ?_
  refine wB ?_
  obtain⟨x16,g,hF⟩:=Rx g hF
  refine wK [0,5,10,11,12] ?_
  have g:=Ld g 2147483647
  refine wK [0,5,10,11,12] ?_
  refine wK [0,10,11,12] ?_
  exact wT (hg13 _) (zaa hF)
 cases ho12 _ (zaa hF)
 cases hΦ _ hψ14
 try simp[go_sem,g]
@[go_sem] def zy0:List DE:=[d0 0 [3],d0 1 [22],d0 2 [23],d0 3 [24],d0 4 [25],d0 5 [3],d0 6 [27],d0 7 [28],d0 8 [29],d0 9 [26,30],d0 10 [31]]
def zf9 (a0:List Int):Option Int:=
 (zbA 1 2 (a0.length:Int)).bind fun z1=>
 ((zak (σ:=(Int×Int)) (fun i15 s14=>
 (ix a0 i15).bind fun x21=>
 (zbA s14.1 s14.2 x21).bind fun z22=>
 some (.go (z22.1,z22.2))) (fun s14=>(s14.1,s14.2)) (a0.length) 0 (z1.1,z1.2):Option ((Int×Int))).bind fun x4=>
 some (i64.wrap ((i64.wrap (x4.1*2147483648))+x4.2)))
theorem zqI:∀{a0}{r},zf9 a0=some r→PCalls Tryz.prog 161 [(.sh,vA a0)] (Eo (.int .i64 r) [.junk]):=by
 intro a0 r hr
 apply pF 32 [] [] [7] [.tmp 2] hr zA9 Tryz.func161
 intro Φ hΦ hF g
 unfold zf9 at hF
 iterate 2 (try simp[go_sem,g];try intros;refine zal ?_)
 try simp[go_sem,g]
 try intros
 refine wC hF [.io,.sh] zfR (fun z1 hF=>?_)
 try simp[go_sem,g]
 try intros
 refine zal ?_
 try simp[go_sem,g]
 try intros
 refine wK [3,12,13,14] ?_
 refine wJ hF (fun x4=>[(3,.v (vK x4.1 x4.2))]) (fun x4 hF=>?_) fun _ hj2 hF=>?_
 ·refine wX zy0 follows ?_
  refine wK [2] ?_
  exact wm hΦ hF
 refine wB ?_
 obtain⟨b23,hb24,hψ18⟩:=hF
 refine pR hb24 (fun i15 s14=>[(3,.v (vK s14.1 s14.2)),(12,.v (vA a0)),(13,.v (.int .i64 (a0.length:Int))),(14,.v (.int .i64 i15))]) (fun s14 _ hN25=>?_) (fun i15 s14 _ _ hi19 hi20 ho16 hg17 hF=>?_)
 ·exact wn hN25 (hj2 _) hψ18
 refine wW ?_
 refine wu hi19 hi20 ?_
 refine wW ?_
 refine wB ?_
 obtain⟨x21,g,hF⟩:=Rx g hF
 refine wW ?_
 refine wC hF [.io,.sh] zfR (fun z22 hF=>?_)
 refine wW ?_
 exact wi hi19 hi20 (hg17 _) (zaa hF)
def zdH (a0:ByteArray) (a1:List Int):Option Int:=
 (zfN a0 a1).bind fun z1=>
 (zf9 z1).bind fun z2=>
 some z2
theorem ziR:∀{a0}{a1}{r},zdH a0 a1=some r→PCalls Tryz.prog 119 [(.sh,.str a0),(.sh,vA a1)] (Eo (.int .i64 r) [.junk,.junk]):=by
 intro a0 a1 r hr
 apply pF 9 [] [] [] [.tmp 4] hr zCY Tryz.func119
 intro Φ hΦ hF g
 unfold zdH at hF
 refine wW ?_
 refine wC hF [.sh,.sh] zpi (fun z1 hF=>?_)
 refine wC hF [.sh] zqI (fun z2 hF=>?_)
 exact wl hΦ hF
@[go_sem] def zyS:List DE:=[d0 0 [1],d1 1 [3] 3,d2 2 [8] 3 8,d1 3 [3] 3,d2 4 [10] 3 10,d1 5 [3] 3,d2 6 [12] 3 12,d0 7 [9,11,13],d0 8 [2],d1 11 [3] 3,d2 12 [18] 3 18,⟨9,[14,15],[],none,true,false,false⟩,d3 10 [7,16],d0 13 [17,19],d0 14 [20]]
def zbM (a0:Group) (a1:ByteArray) (a2:List Int):Option Int:=
 gd (([a0.P,a0.Q,a0.G].length+a2.length)*8≤140737488355328∧[a0.P,a0.Q,a0.G].length+a2.length≤4611686018427387904)<|
 (zdH a1 ([a0.P,a0.Q,a0.G]++a2)).bind fun z1=>
 gd (a0.Q≠0)<|
 some (z1.tmod a0.Q)
theorem zil:∀{a0}{a1}{a2}{r},zbM a0 a1 a2=some r→PCalls Tryz.prog 135 [(.sh,vD a0),(.sh,.str a1),(.sh,vA a2)] (Eo (.int .i64 r) [.junk,.junk,.junk]):=by
 intro a0 a1 a2 r hr
 apply pF 21 [] [] [] [.tmp 6] hr zDL Tryz.func135
 intro Φ hΦ hF g
 unfold zbM at hF
 refine wW ?_
 refine wX zyS follows ?_
 obtain⟨g,hF⟩:=Rg g hF
 refine wC hF [.sh,.sh] ziR (fun z1 hF=>?_)
 obtain⟨g,hF⟩:=Rz g hF
 refine wK [6] ?_
 exact wm hΦ hF
@[go_sem] def zBP:List DE:=[d2 0 [5] 5 5,d0 1 [1],d0 2 [2],d2 3 [5] 5 5,d0 4 [2],d0 5 [3],d1 7 [11] 11,d2 8 [27] 11 27,d3 6 [23,24,25],d3 9 [22,26,28],d3 10 [20,21,29],d0 11 [30]]
@[go_sem] def zC6:List DE:=[d1 0 [11] 11,d2 1 [41] 11 41,d0 2 [4],d0 3 [13],d0 4 [43,44],d0 5 [45],d0 6 [12],d0 7 [14],d0 8 [47,48],d0 9 [46,49],d1 10 [5] 5,d2 11 [51] 5 51,d0 12 [50,52],d0 13 [53],⟨14,[42,54],[],none,true,false,false⟩,d1 15 [11] 11,d2 16 [56,55] 11 56]
def zfO (a0:Group) (a1:ByteArray) (a2:(List (List Int))) (a3:List Int) (a4:List Int):Option Proof:=
 (zeo a0 a2 a4).bind fun z1=>
 (zeo a0 a2 a3).bind fun z2=>
 (zeg a2 z2 z1).bind fun z3=>
 (zbM a0 a1 z3).bind fun z4=>
 ((zak (σ:=(List Int)×List Int×List Int) (fun i18 s17=>
 (ix a3 i18).bind fun x24=>
 (ix a4 i18).bind fun x25=>
 gd (a0.Q≠0)<|
 gd ((s17.2.2.length+1)*8≤140737488355328∧s17.2.2.length+1≤4611686018427387904)<|
 some (.go (s17.1,s17.2.1,s17.2.2++[(i64.wrap (x25+(i64.wrap (z4*x24)))).tmod a0.Q]))) (fun s17=>(s17.1,s17.2.1,s17.2.2)) (a3.length) 0 (z1,[z4],[]):Option ((List Int×List Int×List Int))).bind fun x7=>
 some (Proof.mk x7.1 x7.2.1 x7.2.2))
theorem zpn:∀{a0}{a1}{a2}{a3}{a4}{r},zfO a0 a1 a2 a3 a4=some r→PCalls Tryz.prog 86 [(.sh,vD a0),(.sh,.str a1),(.sh,vJ a2),(.sh,vA a3),(.sh,vA a4)] (Eo (vL r) [.junk,.junk,.junk,.junk,.junk]):=by
 intro a0 a1 a2 a3 a4 r hr
 apply pF 59 [] [] [] [.cell 10 39] hr zI8 Tryz.func86
 intro Φ hΦ hF g
 unfold zfO at hF
 refine wW ?_
 refine wC hF [.sh,.sh,.sh] zjU (fun z1 hF=>?_)
 refine wW ?_
 refine wX zBP follows ?_
 refine wC hF [.sh,.sh,.sh] zjU (fun z2 hF=>?_)
 refine wC hF [.sh,.sh,.sh] zme (fun z3 hF=>?_)
 refine wC hF [.sh,.sh,.sh] zil (fun z4 hF=>?_)
 refine wK [3,4,5,10,11,12] ?_
 iterate 2 (try simp[go_sem,g];try intros;refine zal ?_)
 refine wJ hF (fun x7=>[(10,.bl [.sl true 1 [],.sl true 1 [],.sl true 1 []]),(11,.bl [vF x7.1,vF x7.2.1,vF x7.2.2])]) (fun x7 hF=>?_) fun _ hj5 hF=>?_
 ·exact wl hΦ hF
 refine wB ?_
 obtain⟨b26,hb27,hψ21⟩:=hF
 refine pR hb27 (fun i18 s17=>[(4,.v (vA a4)),(5,.bl [.int .i64 a0.P,.int .i64 a0.Q,.int .i64 a0.G]),(10,.bl [.sl true 1 [],.sl true 1 [],.sl true 1 []]),(11,.bl [vF s17.1,vF s17.2.1,vF s17.2.2]),(12,.v (.int .i64 z4)),(34,.v (vA a3)),(35,.v (.int .i64 (a3.length:Int))),(36,.v (.int .i64 i18))]) (fun s17 _ hN28=>?_) (fun i18 s17 _ _ hi22 hi23 ho19 hg20 hF=>?_)
 ·exact wn hN28 (hj5 _) hψ21
 refine wW ?_
 refine wu hi22 hi23 ?_
 refine wW ?_
 refine wB ?_
 obtain⟨x24,g,hF⟩:=Rx g hF
 refine wK [4,5,10,11,12,13,14,34,35,36] ?_
 refine wX zC6 follows ?_
 obtain⟨x25,g,hF⟩:=Rx g hF
 obtain⟨g,hF⟩:=Rz g hF
 obtain⟨g,hF⟩:=Rg g hF
 refine wK [4,5,10,11,12,34,35,36] ?_
 exact wi hi22 hi23 (hg20 _) (zaa hF)
def zhf (a0:List Int):Option ((List Int)):=
 gd (a0.length*8≤140737488355328∧a0.length≤4611686018427387904)<|
 some a0
theorem zq4:∀{a0}{r},zhf a0=some r→PCalls Tryz.prog 137 [(.sh,vA a0)] (Eo (vF r) [.junk]):=by
 intro a0 r hr
 apply pF 6 [] [] [] [.tmp 2] hr zCv Tryz.func137
 intro Φ hΦ hF g
 unfold zhf at hF
 obtain⟨g,hF⟩:=Rg g hF
 cases hΦ _ (zaa hF)
 iterate 2 refine wW ?_
 try simp[go_sem,g]
def zfj (a0:Contest) (a1:List Int):Option ((List Int)):=
 if(a0.Kind==1)=true then(
 (zd7 a0 a1).bind fun z2=>
 some z2)else(
 if(a0.Kind==2)=true then(
 (zhf a1).bind fun z4=>
 some z4)else(
 (zck a0 a1).bind fun z5=>
 some [z5]))
theorem zqM:∀{a0}{a1}{r},zfj a0 a1=some r→PCalls Tryz.prog 87 [(.sh,vE a0),(.sh,vA a1)] (Eo (vF r) [.junk,.junk]):=by
 intro a0 a1 r hr
 apply pF 20 [] [] [] [.tmp 4] hr zIx Tryz.func87
 intro Φ hΦ hF g
 unfold zfj at hF
 iterate 2 refine wW ?_
 refine wB ?_
 refine wW ?_
 refine wI hF (fun h1 hF=>?_) (fun h1 hF=>?_)
 ·refine wC hF [.sh,.sh] zkO (fun z2 hF=>?_)
  refine wK [4] ?_
  exact wm hΦ hF
 refine wW ?_
 refine wI hF (fun h3 hF=>?_) (fun h3 hF=>?_)
 ·refine wC hF [.sh] zq4 (fun z4 hF=>?_)
  refine wK [4] ?_
  exact wm hΦ hF
 refine wW ?_
 refine wC hF [.sh,.sh] ziM (fun z5 hF=>?_)
 refine wK [4] ?_
 exact wm hΦ hF
@[go_sem] def zBA:List DE:=[d0 0 [11],d1 1 [5] 5,d2 2 [20] 5 20,d1 3 [7] 7,d2 4 [22] 7 22,d0 5 [1],d2 6 [5] 5 5,d1 7 [7] 7,d2 8 [26] 7 26,d2 9 [5] 5 5,d1 10 [5] 5,d2 11 [29] 5 29,d0 12 [12],d0 13 [31],d3 14 [28,30,32],d0 15 [27,33],⟨16,[25,34],[],none,true,true,true⟩,d0 17 [21,23,24,35],d0 18 [36],⟨19,[19,37],[],none,true,false,false⟩,d0 20 [38]]
def zcn (a0:Group) (a1:Int) (a2:Cipher) (a3:Int) (a4:Int):Option ((List EqualLog)):=
 ((zaN (σ:=(List EqualLog)×Int) (fun s4=>
 if decide (s4.2≤a4)=true then(
 (zaJ a0 a0.G (i64.wrap (0-s4.2))).bind fun z10=>
 (zbF a0 [a2.B,z10]).bind fun z11=>
 gd ((s4.1.length+1)*32≤140737488355328∧s4.1.length+1≤4611686018427387904)<|
 some (.go (s4.1++[(EqualLog.mk a0.G a2.A a1 z11)],i64.wrap (s4.2+1))))else(
 some (.out s4.1))) ([],a3):Option ((List EqualLog))).bind fun x3=>
 some x3)
theorem zh3:∀{a0}{a1}{a2}{a3}{a4}{r},zcn a0 a1 a2 a3 a4=some r→PCalls Tryz.prog 89 [(.sh,vD a0),(.sh,.int .i64 a1),(.sh,vI a2),(.sh,.int .i64 a3),(.sh,.int .i64 a4)] (Eo (vM r) [.junk,.junk,.junk,.junk,.junk]):=by
 intro a0 a1 a2 a3 a4 r hr
 apply pF 40 [] [] [] [.tmp 10] hr zGX Tryz.func89
 intro Φ hΦ hF g
 unfold zcn at hF
 iterate 3 refine wW ?_
 refine wJ hF (fun x3=>[(11,.v (vM x3))]) (fun x3 hF=>?_) fun _ hj1 hF=>?_
 ·exact wl hΦ hF
 refine wB ?_
 obtain⟨b12,hb13,hψ8⟩:=hF
 refine pL hb13 (fun s4=>[(1,.v (.int .i64 a1)),(4,.v (.int .i64 a4)),(5,.bl [.int .i64 a0.P,.int .i64 a0.Q,.int .i64 a0.G]),(7,.bl [.int .i64 a2.A,.int .i64 a2.B]),(11,.v (vM s4.1)),(12,.v (.int .i64 s4.2))]) (fun s4 _ _ ho6 hg7 hF=>?_)
 refine wW ?_
 refine wI hF (fun h9 hF=>?_) (fun h9 hF=>?_)
 ·refine wW ?_
  refine wB ?_
  refine wX zBA follows ?_
  refine wC hF [.sh,.sh,.sh] zcN (fun z10 hF=>?_)
  refine wC hF [.sh,.sh] zfW (fun z11 hF=>?_)
  obtain⟨g,hF⟩:=Rg g hF
  refine wK [1,4,5,7,11,12] ?_
  exact wT (hg7 _) (zaa hF)
 cases ho6 _ (zaa hF)
 exact wT (hj1 _) hψ8
@[go_sem] def zzl:List DE:=[d2 0 [4] 4 4,d0 1 [1],d0 2 [9],d0 3 [3],d0 4 [32,33],d3 5 [30,31,34],d0 6 [35]]
def zfM (a0:Group) (a1:ByteArray) (a2:List EqualLog) (a3:List Int):Option Int:=
 ((zak (σ:=(List Int)) (fun i5 s4=>
 (ix a2 i5).bind fun x11=>
 gd ((s4.length+4)*8≤140737488355328∧s4.length+4≤4611686018427387904)<|
 some (.go (s4++[x11.G1,x11.Y1,x11.G2,x11.Y2]))) (fun s4=>s4) (a2.length) 0 []:Option ((List Int))).bind fun x3=>
 gd ((x3.length+a3.length)*8≤140737488355328∧x3.length+a3.length≤4611686018427387904)<|
 (zbM a0 a1 (x3++a3)).bind fun z16=>
 some z16)
theorem zpl:∀{a0}{a1}{a2}{a3}{r},zfM a0 a1 a2 a3=some r→PCalls Tryz.prog 140 [(.sh,vD a0),(.sh,.str a1),(.sh,vN a2),(.sh,vA a3)] (Eo (.int .i64 r) [.junk,.junk,.junk,.junk]):=by
 intro a0 a1 a2 a3 r hr
 apply pF 36 [] [] [] [.tmp 8] hr zDc Tryz.func140
 intro Φ hΦ hF g
 unfold zfM at hF
 iterate 3 (try simp[go_sem,g];try intros;refine zal ?_)
 refine wJ hF (fun x3=>[(1,.v (.str a1)),(3,.v (vA a3)),(4,.bl [.int .i64 a0.P,.int .i64 a0.Q,.int .i64 a0.G]),(9,.v (vF x3))]) (fun x3 hF=>?_) fun _ hj1 hF=>?_
 ·refine wX zzl follows ?_
  obtain⟨g,hF⟩:=Rg g hF
  refine wC hF [.sh,.sh,.sh] zil (fun z16 hF=>?_)
  refine wK [8] ?_
  exact wm hΦ hF
 refine wB ?_
 obtain⟨b12,hb13,hψ8⟩:=hF
 refine pR hb13 (fun i5 s4=>[(1,.v (.str a1)),(3,.v (vA a3)),(4,.bl [.int .i64 a0.P,.int .i64 a0.Q,.int .i64 a0.G]),(9,.v (vF s4)),(12,.v (vN a2)),(13,.v (.int .i64 (a2.length:Int))),(14,.v (.int .i64 i5))]) (fun s4 _ hN14=>?_) (fun i5 s4 _ _ hi9 hi10 ho6 hg7 hF=>?_)
 ·exact wn hN14 (hj1 _) hψ8
 refine wW ?_
 refine wu hi9 hi10 ?_
 refine wW ?_
 refine wB ?_
 obtain⟨x11,g,hF⟩:=Rx g hF
 refine wK [1,3,4,9,11,12,13,14] ?_
 obtain⟨g,hF⟩:=Rg g hF
 refine wK [1,3,4,9,12,13,14] ?_
 exact wi hi9 hi10 (hg7 _) (zaa hF)
@[go_sem] def zAm:List DE:=[d0 0 [5],d0 1 [62],d0 2 [63],d0 3 [5],d0 4 [65],d0 5 [66],d0 6 [64],d0 7 [67]]
@[go_sem] def zzU:List DE:=[d1 0 [13] 13,d2 1 [70] 13 70,d2 2 [6] 6 6,d2 3 [6] 6 6,d1 4 [17] 17,d2 5 [74] 17 74,d0 6 [19],d2 8 [6] 6 6,d1 9 [17] 17,d2 10 [79] 17 79,d0 11 [18],d0 12 [81],d2 16 [6] 6 6,d2 17 [6] 6 6,d1 18 [17] 17,d2 19 [88] 17 88,d0 20 [19],d2 22 [6] 6 6,d1 23 [17] 17,d2 24 [93] 17 93,d0 25 [18],d0 26 [95],d3 7 [73,75,76],d3 13 [78,80,82],d0 14 [77,83],⟨15,[72,84],[],none,true,true,true⟩,d3 21 [87,89,90],d3 27 [92,94,96],d0 28 [91,97],⟨29,[86,98],[],none,true,true,true⟩,d0 30 [85,99],⟨31,[71,100],[],none,true,false,false⟩,d1 32 [13] 13,d2 33 [102,101] 13 102]
@[go_sem] def zzT:List DE:=[d2 0 [6] 6 6,d0 1 [1],d0 2 [2],d1 3 [13] 13,d2 4 [125] 13 125,d0 6 [15],d1 8 [6] 6,d2 9 [130] 6 130,d3 5 [122,123,124,126],d0 7 [127,128],d3 10 [129,131],d0 11 [132]]
@[go_sem] def zyV:List DE:=[d1 0 [13] 13,d2 1 [138] 13 138,d0 2 [3],d0 3 [14],d0 4 [20],d0 5 [4],d0 6 [142,143],d0 7 [141,144],d1 8 [6] 6,d2 9 [146] 6 146,d0 10 [145,147],d0 11 [139,140],d0 12 [149,148]]
@[go_sem] def zAV:List DE:=[d1 0 [13] 13,d2 1 [37] 13 37,d2 2 [6] 6 6,d1 3 [17] 17,d2 4 [40] 17 40,d0 5 [14],d2 7 [6] 6 6,d1 8 [17] 17,d2 9 [45] 17 45,d0 10 [14],d3 6 [39,41,42],d3 11 [44,46,47],d0 12 [43,48],⟨13,[38,49],[],none,true,false,false⟩,d1 14 [13] 13,d2 15 [51,50] 13 51]
def zd5 (a0:Group) (a1:ByteArray) (a2:List EqualLog) (a3:Int) (a4:Int) (a5:List Int):Option Proof:=
 (ix a5 (i64.wrap ((a5.length:Int)-1))).bind fun x1=>
 ((zak (σ:=(List Int)×List Int×List Int×List Int×Int) (fun i28 s27=>
 (((ix a2 i28).bind fun x37=>
 if(i28==a3)=true then(
 (zaJ a0 x37.G1 x1).bind fun z39=>
 (zaJ a0 x37.G2 x1).bind fun z40=>
 gd ((s27.2.1.length+2)*8≤140737488355328∧s27.2.1.length+2≤4611686018427387904)<|
 gd ((s27.2.2.1.length+1)*8≤140737488355328∧s27.2.2.1.length+1≤4611686018427387904)<|
 gd ((s27.2.2.2.1.length+1)*8≤140737488355328∧s27.2.2.2.1.length+1≤4611686018427387904)<|
 some (s27.1,s27.2.1++[z39,z40],s27.2.2.1++[0],s27.2.2.2.1++[0],s27.2.2.2.2))else(
 (ix s27.1 0).bind fun x41=>
 (ix s27.1 1).bind fun x42=>
 gd (2≤s27.1.length∧s27.1.length≤s27.1.length)<|
 (zaJ a0 x37.G1 x42).bind fun z43=>
 (zaJ a0 x37.Y1 (i64.wrap (0-x41))).bind fun z44=>
 (zbF a0 [z43,z44]).bind fun z45=>
 (zaJ a0 x37.G2 x42).bind fun z46=>
 (zaJ a0 x37.Y2 (i64.wrap (0-x41))).bind fun z47=>
 (zbF a0 [z46,z47]).bind fun z48=>
 gd ((s27.2.1.length+2)*8≤140737488355328∧s27.2.1.length+2≤4611686018427387904)<|
 gd ((s27.2.2.1.length+1)*8≤140737488355328∧s27.2.2.1.length+1≤4611686018427387904)<|
 gd ((s27.2.2.2.1.length+1)*8≤140737488355328∧s27.2.2.2.1.length+1≤4611686018427387904)<|
 gd (a0.Q≠0)<|
 some ((s27.1.take s27.1.length).drop 2,s27.2.1++[z45,z48],s27.2.2.1++[x41],s27.2.2.2.1++[x42],(i64.wrap (s27.2.2.2.2+x41)).tmod a0.Q)):Option ((List Int×List Int×List Int×List Int×Int))).bind fun x36=>
 some (.go (x36.1,x36.2.1,x36.2.2.1,x36.2.2.2.1,x36.2.2.2.2)))) (fun s27=>(s27.2.1,s27.2.2.1,s27.2.2.2.1,s27.2.2.2.2)) (a2.length) 0 (a5,[],[],[],0):Option ((List Int×List Int×List Int×Int))).bind fun x4=>
 (zfM a0 a1 a2 x4.1).bind fun z53=>
 (zfU (i64.wrap (z53-x4.2.2.2)) a0.Q).bind fun z54=>
 (ix x4.2.1 a3).bind fun x55=>
 gd (a0.Q≠0)<|
 (ix x4.2.2.1 a3).bind fun x56=>
 some (Proof.mk x4.1 (x4.2.1.set a3.toNat z54) (x4.2.2.1.set a3.toNat ((i64.wrap (x1+(i64.wrap (z54*a4)))).tmod a0.Q))))
theorem zkN:∀{a0}{a1}{a2}{a3}{a4}{a5}{r},zd5 a0 a1 a2 a3 a4 a5=some r→PCalls Tryz.prog 88 [(.sh,vD a0),(.sh,.str a1),(.sh,vN a2),(.sh,.int .i64 a3),(.sh,.int .i64 a4),(.sh,vA a5)] (Eo (vL r) [.junk,.junk,.junk,.junk,.junk,.junk]):=by
 intro a0 a1 a2 a3 a4 a5 r hr
 apply pF 151 [] [] [] [.cell 12 39] hr zGf Tryz.func88
 intro Φ hΦ hF g
 unfold zd5 at hF
 obtain⟨x1,g,hF⟩:=Rx g hF
 iterate 2 (try simp[go_sem,g];try intros;refine zal ?_)
 try simp[go_sem,g]
 try intros
 refine wK [1,2,3,4,5,6,12,13,14] ?_
 iterate 2 (try simp[go_sem,g];try intros;refine zal ?_)
 refine wJ hF (fun x4=>[(1,.v (.str a1)),(2,.v (vN a2)),(3,.v (.int .i64 a3)),(4,.v (.int .i64 a4)),(6,.bl [.int .i64 a0.P,.int .i64 a0.Q,.int .i64 a0.G]),(12,.bl [.sl true 1 [],.sl true 1 [],.sl true 1 []]),(13,.bl [vF x4.1,vF x4.2.1,vF x4.2.2.1]),(14,.v (.int .i64 x1)),(15,.v (.int .i64 x4.2.2.2))]) (fun x4 hF=>?_) fun _ hj2 hF=>?_
 ·refine wX zzT follows ?_
  refine wC hF [.sh,.sh,.sh,.sh] zpl (fun z53 hF=>?_)
  refine wC hF [.sh,.sh] zmm (fun z54 hF=>?_)
  refine wK [3,4,6,12,13,14,20] ?_
  obtain⟨x55,g,hF⟩:=Rx g hF
  refine wW ?_
  refine wX zyV follows ?_
  obtain⟨g,hF⟩:=Rz g hF
  obtain⟨x56,g,hF⟩:=Rx g hF
  refine wK [12,13] ?_
  exact wl hΦ hF
 refine wB ?_
 obtain⟨b49,hb50,hψ31⟩:=hF
 refine pR hb50 (fun i28 s27=>[(1,.v (.str a1)),(2,.v (vN a2)),(3,.v (.int .i64 a3)),(4,.v (.int .i64 a4)),(5,.v (vA s27.1)),(6,.bl [.int .i64 a0.P,.int .i64 a0.Q,.int .i64 a0.G]),(12,.bl [.sl true 1 [],.sl true 1 [],.sl true 1 []]),(13,.bl [vF s27.2.1,vF s27.2.2.1,vF s27.2.2.2.1]),(14,.v (.int .i64 x1)),(15,.v (.int .i64 s27.2.2.2.2)),(27,.v (vN a2)),(28,.v (.int .i64 (a2.length:Int))),(29,.v (.int .i64 i28))]) (fun s27 _ hN51=>?_) (fun i28 s27 _ _ hi32 hi33 ho29 hg30 hF=>?_)
 ·exact wn hN51 (hj2 _) hψ31
 refine wW ?_
 refine wu hi32 hi33 ?_
 refine wW ?_
 refine wJ hF (fun x36=>[(1,.v (.str a1)),(2,.v (vN a2)),(3,.v (.int .i64 a3)),(4,.v (.int .i64 a4)),(5,.v (vA x36.1)),(6,.bl [.int .i64 a0.P,.int .i64 a0.Q,.int .i64 a0.G]),(12,.bl [.sl true 1 [],.sl true 1 [],.sl true 1 []]),(13,.bl [vF x36.2.1,vF x36.2.2.1,vF x36.2.2.2.1]),(14,.v (.int .i64 x1)),(15,.v (.int .i64 x36.2.2.2.2)),(27,.v (vN a2)),(28,.v (.int .i64 (a2.length:Int))),(29,.v (.int .i64 i28))]) (fun x36 hF=>?_) fun _ hj34 hF=>?_
 ·exact wi hi32 hi33 (hg30 _) (zaa hF)
 refine wB ?_
 obtain⟨x37,g,hF⟩:=Rx g hF
 refine wK [1,2,3,4,5,6,12,13,14,15,16,17,27,28,29] ?_
 refine wW ?_
 refine wI hF (fun h38 hF=>?_) (fun h38 hF=>?_)
 ·refine wX zAV follows ?_
  refine wC hF [.sh,.sh,.sh] zcN (fun z39 hF=>?_)
  refine wC hF [.sh,.sh,.sh] zcN (fun z40 hF=>?_)
  obtain⟨g,hF⟩:=Rg g hF
  refine wK [1,2,3,4,5,6,12,13,14,15,27,28,29] ?_
  obtain⟨g,hF⟩:=Rg g hF
  obtain⟨g,hF⟩:=Rg g hF
  refine wW ?_
  refine wK [1,2,3,4,5,6,12,13,14,15,27,28,29] ?_
  exact wT (hj34 _) (zaa hF)
 refine wW ?_
 refine wX zAm follows ?_
 obtain⟨x41,g,hF⟩:=Rxn g 0 hF
 obtain⟨x42,g,hF⟩:=Rxn g 1 hF
 refine wK [1,2,3,4,5,6,12,13,14,15,17,18,19,27,28,29] ?_
 obtain⟨g,hF⟩:=Rg g hF
 refine wW ?_
 refine wX zzU follows ?_
 refine wC hF [.sh,.sh,.sh] zcN (fun z43 hF=>?_)
 refine wC hF [.sh,.sh,.sh] zcN (fun z44 hF=>?_)
 refine wC hF [.sh,.sh] zfW (fun z45 hF=>?_)
 refine wC hF [.sh,.sh,.sh] zcN (fun z46 hF=>?_)
 refine wC hF [.sh,.sh,.sh] zcN (fun z47 hF=>?_)
 refine wC hF [.sh,.sh] zfW (fun z48 hF=>?_)
 obtain⟨g,hF⟩:=Rg g hF
 refine wK [1,2,3,4,5,6,12,13,14,15,18,19,27,28,29] ?_
 obtain⟨g,hF⟩:=Rg g hF
 obtain⟨g,hF⟩:=Rg g hF
 refine wW ?_
 refine wK [1,2,3,4,5,6,12,13,14,15,18,27,28,29] ?_
 obtain⟨g,hF⟩:=Rz g hF
 exact wT (hj34 _) (zaa hF)
@[go_sem] def zDm:List DE:=[d2 0 [2] 2 2,d1 1 [5] 5,d2 2 [16] 5 16,d1 3 [7] 7,d2 4 [18] 7 18,d0 5 [17,19],d2 7 [2] 2 2,d1 8 [5] 5,d2 9 [23] 5 23,d1 10 [7] 7,d2 11 [25] 7 25,d0 12 [24,26],⟨6,[15,20],[],none,true,true,true⟩,⟨13,[22,27],[],none,true,true,true⟩,d0 14 [21,28],d2 15 [5,29] 5 5]
def zgE (a0:Group) (a1:List Cipher):Option Cipher:=
 ((zak (σ:=Int×Int) (fun i15 s14=>
 (ix a1 i15).bind fun x21=>
 (zbF a0 [s14.1,x21.A]).bind fun z22=>
 (zbF a0 [s14.2,x21.B]).bind fun z23=>
 some (.go (z22,z23))) (fun s14=>(s14.1,s14.2)) (a1.length) 0 (1,1):Option ((Int×Int))).bind fun x3=>
 some (Cipher.mk x3.1 x3.2))
theorem zrp:∀{a0}{a1}{r},zgE a0 a1=some r→PCalls Tryz.prog 90 [(.sh,vD a0),(.sh,vQ a1)] (Eo (vI r) [.junk,.junk]):=by
 intro a0 a1 r hr
 apply pF 32 [] [] [] [.cell 4 81] hr zFX Tryz.func90
 intro Φ hΦ hF g
 unfold zgE at hF
 iterate 3 (try simp[go_sem,g];try intros;refine zal ?_)
 refine wJ hF (fun x3=>[(4,.bl [.int .i64 0,.int .i64 0]),(5,.bl [.int .i64 x3.1,.int .i64 x3.2])]) (fun x3 hF=>?_) fun _ hj1 hF=>?_
 ·refine wK [4] ?_
  exact wm hΦ hF
 refine wB ?_
 obtain⟨b24,hb25,hψ18⟩:=hF
 refine pR hb25 (fun i15 s14=>[(2,.bl [.int .i64 a0.P,.int .i64 a0.Q,.int .i64 a0.G]),(4,.bl [.int .i64 0,.int .i64 0]),(5,.bl [.int .i64 s14.1,.int .i64 s14.2]),(9,.v (vQ a1)),(10,.v (.int .i64 (a1.length:Int))),(11,.v (.int .i64 i15))]) (fun s14 _ hN26=>?_) (fun i15 s14 _ _ hi19 hi20 ho16 hg17 hF=>?_)
 ·exact wn hN26 (hj1 _) hψ18
 refine wW ?_
 refine wu hi19 hi20 ?_
 refine wW ?_
 refine wB ?_
 obtain⟨x21,g,hF⟩:=Rx g hF
 refine wK [2,4,5,7,9,10,11] ?_
 refine wX zDm follows ?_
 refine wC hF [.sh,.sh] zfW (fun z22 hF=>?_)
 refine wC hF [.sh,.sh] zfW (fun z23 hF=>?_)
 refine wK [2,4,5,9,10,11] ?_
 exact wi hi19 hi20 (hg17 _) (zaa hF)
@[go_sem] def zyX:List DE:=[d2 0 [6] 6 6,d0 1 [1],d0 2 [19],d0 3 [5],d0 4 [72],d0 5 [73],d0 7 [],d3 6 [69,70,71,74],d2 8 [20,75] 20 20]
@[go_sem] def zz5:List DE:=[d1 0 [13] 13,d2 1 [82] 13 82,d2 2 [6] 6 6,d0 3 [14],d2 4 [6] 6 6,d0 5 [1],d2 6 [20] 20 20,d0 7 [15],d0 9 [19],d0 10 [5],d0 11 [92],d0 12 [93],d0 13 [5],d0 14 [15],d0 15 [96],d0 16 [97],d0 17 [95,98],⟨8,[86,87,88,89],[],none,false,true,false⟩,d3 18 [84,85,90,91,94,99],d0 19 [100],⟨20,[83,101],[],none,true,false,false⟩,d1 21 [13] 13,d2 22 [103,102] 13 103]
@[go_sem] def zzL:List DE:=[d0 0 [17],d0 1 [5],d0 2 [108],d0 3 [109],d0 4 [107,110],d1 5 [6] 6,d2 6 [112] 6 112,d0 7 [111,113],d0 8 [114]]
@[go_sem] def zzW:List DE:=[d2 0 [6] 6 6,d0 1 [14],d2 2 [6] 6 6,d0 3 [1],d2 4 [6] 6 6,d1 5 [13] 13,d2 6 [126] 13 126,d1 8 [8] 8,d2 9 [129] 8 129,d1 10 [8] 8,d2 11 [131] 8 131,d0 13 [16],d1 14 [8] 8,d2 15 [135] 8 135,d0 16 [134,136],d0 17 [17],d0 18 [5],d3 7 [125,127],d3 12 [123,124,128,130,132],d3 19 [121,122,133,137,138,139],d1 20 [13] 13,d2 21 [141,140] 13 141]
@[go_sem] def zB7:List DE:=[d1 0 [13] 13,d2 1 [28] 13 28,d2 2 [6] 6 6,d0 3 [1],d2 4 [8] 8 8,d0 5 [4],d0 7 [5],d0 8 [35],d0 9 [36],⟨6,[32,33],[],none,false,true,false⟩,d3 10 [30,31,34,37],d0 11 [38],⟨12,[29,39],[],none,true,false,false⟩,d1 13 [13] 13,d2 14 [41,40] 13 41]
@[go_sem] def zBh:List DE:=[d1 0 [13] 13,d2 1 [42] 13 42,d2 2 [6] 6 6,d0 3 [14],d1 4 [6] 6,d2 5 [46] 6 46,d0 6 [47],d0 8 [5],d0 9 [50],d0 10 [5],d0 11 [52],⟨7,[48],[],none,true,true,false⟩,⟨12,[44,45,49,51,53],[],none,true,true,true⟩,d0 13 [54],⟨14,[43,55],[],none,true,false,false⟩,d1 15 [13] 13,d2 16 [57,56] 13 57]
def zgk (a0:Group) (a1:Int) (a2:Contest) (a3:Int) (a4:List Int) (a5:List Int):Option Sealed:=
 (zfJ a3).bind fun z1=>
 (zeA a2).bind fun z2=>
 if(!z2)=true then(
 (ix a5 0).bind fun x4=>
 (zck a2 a4).bind fun z5=>
 (ze9 a0 a1 z5 x4).bind fun z6=>
 gd (1*16≤140737488355328∧1≤4611686018427387904)<|
 gd (0≤1∧1≤a5.length)<|
 gd (1≤2∧2≤a5.length)<|
 (zfO a0 z1 [[a0.G]] ((a5.take 1).drop 0) ((a5.take 2).drop 1)).bind fun z7=>
 gd (1*72≤140737488355328∧1≤4611686018427387904)<|
 some (Sealed.mk a3 [z6] [z7] (Proof.mk [] [] [])))else(
 (zfX a2).bind fun z8=>
 (zfj a2 a4).bind fun z9=>
 ((zak (σ:=(List Int)×Int×List Cipher×List Proof×List Int×List Int×List Int×Int×Int) (fun i38 s37=>
 (ix z9 i38).bind fun x44=>
 (ix s37.1 0).bind fun x45=>
 (ze9 a0 a1 x44 x45).bind fun z46=>
 gd ((s37.2.2.1.length+1)*16≤140737488355328∧s37.2.2.1.length+1≤4611686018427387904)<|
 gd (0≤(i64.wrap ((i64.wrap (2*z8))+2)))<|
 gd (1≤(i64.wrap ((i64.wrap (2*z8))+2)).toNat∧(i64.wrap ((i64.wrap (2*z8))+2)).toNat≤s37.1.length)<|
 (zcn a0 a1 z46 0 z8).bind fun z47=>
 (zd5 a0 z1 z47 x44 x45 ((s37.1.take ((i64.wrap ((i64.wrap (2*z8))+2)).toNat)).drop 1)).bind fun z48=>
 gd ((s37.2.2.2.1.length+1)*72≤140737488355328∧s37.2.2.2.1.length+1≤4611686018427387904)<|
 gd (a0.Q≠0)<|
 gd (0≤(i64.wrap ((i64.wrap (2*z8))+2)))<|
 gd ((i64.wrap ((i64.wrap (2*z8))+2)).toNat≤s37.1.length∧s37.1.length≤s37.1.length)<|
 some (.go ((s37.1.take s37.1.length).drop ((i64.wrap ((i64.wrap (2*z8))+2)).toNat),s37.2.1,s37.2.2.1++[z46],s37.2.2.2.1++[z48],s37.2.2.2.2.1,s37.2.2.2.2.2.1,s37.2.2.2.2.2.2.1,i64.wrap (s37.2.2.2.2.2.2.2.1+x44),(i64.wrap (s37.2.2.2.2.2.2.2.2+x45)).tmod a0.Q))) (fun s37=>(s37.1,s37.2.1,s37.2.2.1,s37.2.2.2.1,s37.2.2.2.2.1,s37.2.2.2.2.2.1,s37.2.2.2.2.2.2.1,s37.2.2.2.2.2.2.2.1,s37.2.2.2.2.2.2.2.2)) (z9.length) 0 (a5,a3,[],[],[],[],[],0,0):Option ((List Int×Int×List Cipher×List Proof×List Int×List Int×List Int×Int×Int))).bind fun x12=>
 (zgE a0 x12.2.2.1).bind fun z53=>
 (zcn a0 a1 z53 a2.Least a2.Most).bind fun z54=>
 (zd5 a0 z1 z54 (i64.wrap (x12.2.2.2.2.2.2.2.1-a2.Least)) x12.2.2.2.2.2.2.2.2 x12.1).bind fun z55=>
 some (Sealed.mk x12.2.1 x12.2.2.1 x12.2.2.2.1 z55)))
theorem zqa:∀{a0}{a1}{a2}{a3}{a4}{a5}{r},zgk a0 a1 a2 a3 a4 a5=some r→PCalls Tryz.prog 39 [(.sh,vD a0),(.sh,.int .i64 a1),(.sh,vE a2),(.sh,.int .i64 a3),(.sh,vA a4),(.sh,vA a5)] (Eo (vR r) [.junk,.junk,.junk,.junk,.junk,.junk]):=by
 intro a0 a1 a2 a3 a4 a5 r hr
 apply pF 143 [] [] [] [.cell 12 41] hr zFU Tryz.func39
 intro Φ hΦ hF g
 unfold zgk at hF
 iterate 2 refine wW ?_
 refine wC hF [.sh] zpm (fun z1 hF=>?_)
 refine wK [1,4,5,6,8,12,13,14] ?_
 refine wC hF [.sh] ziW (fun z2 hF=>?_)
 refine wW ?_
 refine wI hF (fun h3 hF=>?_) (fun h3 hF=>?_)
 ·refine wX zB7 follows ?_
  obtain⟨x4,g,hF⟩:=Rxn g 0 hF
  refine wD hF ziM (fun z5 hF=>?_)
  refine wC hF [.sh,.sh,.sh,.sh] zmz (fun z6 hF=>?_)
  obtain⟨g,hF⟩:=Rg g hF
  refine wK [5,6,12,13,14] ?_
  refine wX zBh follows ?_
  obtain⟨g,hF⟩:=Rg g hF
  obtain⟨g,hF⟩:=Rg g hF
  refine wC hF [.sh,.sh,.sh,.sh,.sh] zpn (fun z7 hF=>?_)
  obtain⟨g,hF⟩:=Rg g hF
  refine wK [12,13] ?_
  exact wl hΦ hF
 refine wW ?_
 refine wC hF [.sh] zmq (fun z8 hF=>?_)
 iterate 2 refine wW ?_
 refine wC hF [.sh,.sh] zqM (fun z9 hF=>?_)
 try simp[go_sem,g]
 try intros
 refine wK [1,5,6,8,12,13,14,15,16,17,63,64,65] ?_
 refine wJ hF (fun x12=>[(1,.v (.int .i64 a1)),(5,.v (vA x12.1)),(6,.bl [.int .i64 a0.P,.int .i64 a0.Q,.int .i64 a0.G]),(8,.bl [.int .i64 a2.Kind,.int .i64 a2.Options,.int .i64 a2.Least,.int .i64 a2.Most,.int .i64 a2.Points]),(12,.bl [.int .i64 0,.sl true 2 [],.sl true 3 [],.sl true 1 [],.sl true 1 [],.sl true 1 []]),(13,.bl [.int .i64 x12.2.1,vO x12.2.2.1,vP x12.2.2.2.1,vF x12.2.2.2.2.1,vF x12.2.2.2.2.2.1,vF x12.2.2.2.2.2.2.1]),(14,.v (.str z1)),(16,.v (.int .i64 x12.2.2.2.2.2.2.2.1)),(17,.v (.int .i64 x12.2.2.2.2.2.2.2.2))]) (fun x12 hF=>?_) fun _ hj10 hF=>?_
 ·refine wX zzW follows ?_
  refine wC hF [.sh,.sh] zrp (fun z53 hF=>?_)
  refine wC hF [.sh,.sh,.sh,.sh,.sh] zh3 (fun z54 hF=>?_)
  refine wC hF [.sh,.sh,.sh,.sh,.sh,.sh] zkN (fun z55 hF=>?_)
  refine wK [12,13] ?_
  exact wl hΦ hF
 refine wB ?_
 obtain⟨b49,hb50,hψ41⟩:=hF
 refine pR hb50 (fun i38 s37=>[(1,.v (.int .i64 a1)),(5,.v (vA s37.1)),(6,.bl [.int .i64 a0.P,.int .i64 a0.Q,.int .i64 a0.G]),(8,.bl [.int .i64 a2.Kind,.int .i64 a2.Options,.int .i64 a2.Least,.int .i64 a2.Most,.int .i64 a2.Points]),(12,.bl [.int .i64 0,.sl true 2 [],.sl true 3 [],.sl true 1 [],.sl true 1 [],.sl true 1 []]),(13,.bl [.int .i64 s37.2.1,vO s37.2.2.1,vP s37.2.2.2.1,vF s37.2.2.2.2.1,vF s37.2.2.2.2.2.1,vF s37.2.2.2.2.2.2.1]),(14,.v (.str z1)),(15,.v (.int .i64 z8)),(16,.v (.int .i64 s37.2.2.2.2.2.2.2.1)),(17,.v (.int .i64 s37.2.2.2.2.2.2.2.2)),(63,.v (vF z9)),(64,.v (.int .i64 (z9.length:Int))),(65,.v (.int .i64 i38))]) (fun s37 _ hN51=>?_) (fun i38 s37 _ _ hi42 hi43 ho39 hg40 hF=>?_)
 ·exact wn hN51 (hj10 _) hψ41
 refine wW ?_
 refine wu hi42 hi43 ?_
 refine wW ?_
 refine wB ?_
 obtain⟨x44,g,hF⟩:=Rx g hF
 refine wW ?_
 refine wX zyX follows ?_
 obtain⟨x45,g,hF⟩:=Rxn g 0 hF
 refine wC hF [.sh,.sh,.sh,.sh] zmz (fun z46 hF=>?_)
 refine wK [1,5,6,8,12,13,14,15,16,17,19,20,63,64,65] ?_
 obtain⟨g,hF⟩:=Rg g hF
 refine wW ?_
 refine wX zz5 follows ?_
 obtain⟨g,hF⟩:=Rg g hF
 obtain⟨g,hF⟩:=Rg g hF
 refine wD hF zh3 (fun z47 hF=>?_)
 refine wC hF [.sh,.sh,.sh,.sh,.sh,.sh] zkN (fun z48 hF=>?_)
 obtain⟨g,hF⟩:=Rg g hF
 refine wK [1,5,6,8,12,13,14,15,16,17,19,63,64,65] ?_
 refine wW ?_
 refine wX zzL follows ?_
 obtain⟨g,hF⟩:=Rz g hF
 refine wK [1,5,6,8,12,13,14,15,16,17,63,64,65] ?_
 obtain⟨g,hF⟩:=Rg g hF
 obtain⟨g,hF⟩:=Rg g hF
 refine wW ?_
 exact wi hi42 hi43 (hg40 _) (zaa hF)
def zeZ (a0:Group) (a1:Int) (a2:Contest) (a3:Int) (a4:List Int) (a5:List Int):Option (Sealed×Bool):=
 (((zdj a0 a2).bind fun z4=>
 if(!z4)=true then(
 some true)else(
 (zfD a0 [a1]).bind fun z6=>
 if(!z6)=true then(
 some true)else(
 (zaX a3 0 999999).bind fun z8=>
 if(!z8)=true then(
 some true)else(
 (zgl a2 a4).bind fun z10=>
 if(!z10)=true then(
 some true)else(
 (zfL a2).bind fun z12=>
 if((a5.length:Int) !=z12)=true then(
 some true)else(
 (zge a0 a5).bind fun z14=>
 some (!z14)))))):Option Bool).bind fun x3=>
 if x3=true then(
 some ((Sealed.mk 0 [] [] (Proof.mk [] [] [])),false))else(
 (zgk a0 a1 a2 a3 a4 a5).bind fun z16=>
 some (z16,true)))
theorem znV:∀{a0}{a1}{a2}{a3}{a4}{a5}{r},zeZ a0 a1 a2 a3 a4 a5=some r→PCalls Tryz.prog 13 [(.sh,vD a0),(.sh,.int .i64 a1),(.sh,vE a2),(.sh,.int .i64 a3),(.sh,vA a4),(.sh,vA a5)] (Eo (.tup [vR r.1,.bool r.2]) [.junk,.junk,.junk,.junk,.junk,.junk]):=by
 intro a0 a1 a2 a3 a4 a5 r hr
 apply pF 57 [] [] [] [.cell 12 41,.tmp 13] hr zHD Tryz.func13
 intro Φ hΦ hF g
 unfold zeZ at hF
 refine wW ?_
 refine wJ hF (fun x3=>[(1,.v (.int .i64 a1)),(3,.v (.int .i64 a3)),(4,.v (vA a4)),(5,.v (vA a5)),(6,.bl [.int .i64 a0.P,.int .i64 a0.Q,.int .i64 a0.G]),(8,.bl [.int .i64 a2.Kind,.int .i64 a2.Options,.int .i64 a2.Least,.int .i64 a2.Most,.int .i64 a2.Points]),(12,.bl [.int .i64 0,.sl true 2 [],.sl true 3 [],.sl true 1 [],.sl true 1 [],.sl true 1 []]),(48,.v (.bool x3))]) (fun x3 hF=>?_) fun _ hj1 hF=>?_
 ·refine wI hF (fun h15 hF=>?_) (fun h15 hF=>?_)
  ·exact wl hΦ hF
  refine wW ?_
  refine wC hF [.sh,.sh,.sh,.sh,.sh,.sh] zqa (fun z16 hF=>?_)
  refine wK [12,13] ?_
  exact wm hΦ hF
 refine wC hF [.sh,.sh] zli (fun z4 hF=>?_)
 refine wG hF (fun h5 hF=>?_) fun h5 hF=>?_
 ·exact wV h5 (hj1 _) (zaa hF)
 try simp[go_sem,g,h5]
 refine wC hF [.sh,.sh] znB (fun z6 hF=>?_)
 try simp[go_sem,g,h5]
 refine wG hF (fun h7 hF=>?_) fun h7 hF=>?_
 ·exact wV h7 (hj1 _) (zaa hF)
 try simp[go_sem,g,h7]
 refine wC hF [.sh,.sh,.sh] zbv (fun z8 hF=>?_)
 try simp[go_sem,g,h7]
 refine wG hF (fun h9 hF=>?_) fun h9 hF=>?_
 ·exact wV h9 (hj1 _) (zaa hF)
 try simp[go_sem,g,h9]
 refine wC hF [.sh,.sh] zrb (fun z10 hF=>?_)
 try simp[go_sem,g,h9]
 refine wG hF (fun h11 hF=>?_) fun h11 hF=>?_
 ·exact wV h11 (hj1 _) (zaa hF)
 try simp[go_sem,g,h11]
 try intros
 refine wC hF [.sh] zpk (fun z12 hF=>?_)
 try simp[go_sem,g,h11]
 refine wG hF (fun h13 hF=>?_) fun h13 hF=>?_
 ·exact wV h13 (hj1 _) (zaa hF)
 try simp[go_sem,g,h13]
 refine wC hF [.sh,.sh] zpI (fun z14 hF=>?_)
 exact wV h13 (hj1 _) (zaa hF)
def ze1 (a0:List Cipher):Option ((List Int)):=
 ((zak (σ:=(List Int)) (fun i5 s4=>
 (ix a0 i5).bind fun x11=>
 gd ((s4.length+2)*8≤140737488355328∧s4.length+2≤4611686018427387904)<|
 some (.go (s4++[x11.A,x11.B]))) (fun s4=>s4) (a0.length) 0 [(a0.length:Int)]:Option ((List Int))).bind fun x3=>
 some x3)
theorem zn5:∀{a0}{r},ze1 a0=some r→PCalls Tryz.prog 158 [(.sh,vQ a0)] (Eo (vF r) [.junk]):=by
 intro a0 r hr
 apply pF 24 [] [] [] [.tmp 2] hr zBR Tryz.func158
 intro Φ hΦ hF g
 unfold ze1 at hF
 iterate 3 (try simp[go_sem,g];try intros;refine zal ?_)
 refine wJ hF (fun x3=>[(3,.v (vF x3))]) (fun x3 hF=>?_) fun _ hj1 hF=>?_
 ·refine wK [2] ?_
  exact wm hΦ hF
 refine wB ?_
 obtain⟨b12,hb13,hψ8⟩:=hF
 refine pR hb13 (fun i5 s4=>[(3,.v (vF s4)),(9,.v (vQ a0)),(10,.v (.int .i64 (a0.length:Int))),(11,.v (.int .i64 i5))]) (fun s4 _ hN14=>?_) (fun i5 s4 _ _ hi9 hi10 ho6 hg7 hF=>?_)
 ·exact wn hN14 (hj1 _) hψ8
 refine wW ?_
 refine wu hi9 hi10 ?_
 refine wW ?_
 refine wB ?_
 obtain⟨x11,g,hF⟩:=Rx g hF
 refine wK [3,5,9,10,11] ?_
 obtain⟨g,hF⟩:=Rg g hF
 refine wW ?_
 exact wi hi9 hi10 (hg7 _) (zaa hF)
def zbK (a0:List Int) (a1:List Int):Option ((List Int)):=
 gd ((a0.length+1)*8≤140737488355328∧a0.length+1≤4611686018427387904)<|
 gd (((a0++[(a1.length:Int)]).length+a1.length)*8≤140737488355328∧(a0++[(a1.length:Int)]).length+a1.length≤4611686018427387904)<|
 some (a0++[(a1.length:Int)]++a1)
theorem zfe:∀{a0}{a1}{r},zbK a0 a1=some r→PCalls Tryz.prog 179 [(.mv,vF a0),(.sh,vA a1)] (Eo (vF r) [.junk,.junk]):=by
 intro a0 a1 r hr
 apply pF 12 [] [] [] [.tmp 4] hr zCj Tryz.func179
 intro Φ hΦ hF g
 unfold zbK at hF
 obtain⟨g,hF⟩:=Rg g hF
 obtain⟨g,hF⟩:=Rg g hF
 cases hΦ _ (zaa hF)
 iterate 2 (try simp[go_sem,g];try intros;refine zal ?_)
 try simp[go_sem,g]
 try intros
 try simp[go_sem,g]
@[go_sem] def zzK:List DE:=[d0 0 [],d1 1 [1] 1,d2 2 [4] 1 4,d1 4 [1] 1,d2 5 [7] 1 7,d1 7 [1] 1,d2 8 [10] 1 10,⟨3,[3,5],[],none,true,true,true⟩,d3 6 [6,8],d3 9 [9,11],d0 10 [12]]
def zd3 (a0:Proof):Option ((List Int)):=
 (zbK [] a0.Commits).bind fun z1=>
 (zbK z1 a0.Challenges).bind fun z2=>
 (zbK z2 a0.Responses).bind fun z3=>
 some z3
theorem zkH:∀{a0}{r},zd3 a0=some r→PCalls Tryz.prog 159 [(.sh,vS a0)] (Eo (vF r) [.junk]):=by
 intro a0 r hr
 apply pF 13 [] [] [] [.tmp 2] hr zDx Tryz.func159
 intro Φ hΦ hF g
 unfold zd3 at hF
 refine wW ?_
 refine wX zzK follows ?_
 refine wC hF [.mv,.sh] zfe (fun z1 hF=>?_)
 refine wC hF [.mv,.sh] zfe (fun z2 hF=>?_)
 refine wC hF [.mv,.sh] zfe (fun z3 hF=>?_)
 refine wK [2] ?_
 exact wm hΦ hF
def zgb (a0:(List (List Int))):Option ((List Int)):=
 ((zak (σ:=(List Int)) (fun i5 s4=>
 (ix a0 i5).bind fun x11=>
 (zbK s4 x11).bind fun z12=>
 some (.go z12)) (fun s4=>s4) (a0.length) 0 [(a0.length:Int)]:Option ((List Int))).bind fun x3=>
 some x3)
theorem zqT:∀{a0}{r},zgb a0=some r→PCalls Tryz.prog 160 [(.sh,vJ a0)] (Eo (vF r) [.junk]):=by
 intro a0 r hr
 apply pF 20 [] [] [] [.tmp 2] hr zDK Tryz.func160
 intro Φ hΦ hF g
 unfold zgb at hF
 iterate 3 (try simp[go_sem,g];try intros;refine zal ?_)
 refine wJ hF (fun x3=>[(3,.v (vF x3))]) (fun x3 hF=>?_) fun _ hj1 hF=>?_
 ·refine wK [2] ?_
  exact wm hΦ hF
 refine wB ?_
 obtain⟨b13,hb14,hψ8⟩:=hF
 refine pR hb14 (fun i5 s4=>[(3,.v (vF s4)),(9,.v (vJ a0)),(10,.v (.int .i64 (a0.length:Int))),(11,.v (.int .i64 i5))]) (fun s4 _ hN15=>?_) (fun i5 s4 _ _ hi9 hi10 ho6 hg7 hF=>?_)
 ·exact wn hN15 (hj1 _) hψ8
 refine wW ?_
 refine wu hi9 hi10 ?_
 refine wW ?_
 refine wB ?_
 obtain⟨x11,g,hF⟩:=Rx g hF
 refine wK [3,5,9,10,11] ?_
 refine wC hF [.mv,.sh] zfe (fun z12 hF=>?_)
 refine wW ?_
 exact wi hi9 hi10 (hg7 _) (zaa hF)
@[go_sem] def zyQ:List DE:=[d1 0 [1] 1,d2 1 [6] 1 6,d0 2 [7],d1 3 [1] 1,d2 4 [9] 1 9,d3 5 [10],⟨6,[8,11],[],none,true,true,false⟩,⟨7,[12],[],none,true,true,false⟩]
def zgq (a0:Sealed):Option ((List Int)):=
 (ze1 a0.Ciphers).bind fun z1=>
 ((zak (σ:=(List (List Int))) (fun i6 s5=>
 (ix a0.Proofs i6).bind fun x12=>
 (zd3 x12).bind fun z13=>
 gd ((s5.length+1)*24≤140737488355328∧s5.length+1≤4611686018427387904)<|
 some (.go (s5++[z13]))) (fun s5=>s5) (a0.Proofs.length) 0 [[a0.Voter],z1]:Option ((List (List Int)))).bind fun x4=>
 (zd3 a0.Sum).bind fun z18=>
 gd ((x4.length+1)*24≤140737488355328∧x4.length+1≤4611686018427387904)<|
 (zgb (x4++[z18])).bind fun z19=>
 some z19)
theorem zoH:∀{a0}{r},zgq a0=some r→PCalls Tryz.prog 117 [(.sh,vV a0)] (Eo (vF r) [.junk]):=by
 intro a0 r hr
 apply pF 33 [] [] [] [.tmp 2] hr zCT Tryz.func117
 intro Φ hΦ hF g
 unfold zgq at hF
 refine wW ?_
 refine wX zyQ follows ?_
 refine wC hF [.sh] zn5 (fun z1 hF=>?_)
 refine wK [1,3] ?_
 try simp[go_sem,g]
 try intros
 refine zal ?_
 refine wJ hF (fun x4=>[(1,.bl [.int .i64 a0.Voter,vQ a0.Ciphers,vT a0.Proofs,vA a0.Sum.Commits,vA a0.Sum.Challenges,vA a0.Sum.Responses]),(3,.v (vU x4))]) (fun x4 hF=>?_) fun _ hj2 hF=>?_
 ·refine wC hF [.sh] zkH (fun z18 hF=>?_)
  obtain⟨g,hF⟩:=Rg g hF
  refine wC hF [.sh] zqT (fun z19 hF=>?_)
  refine wK [2] ?_
  exact wm hΦ hF
 refine wB ?_
 obtain⟨b14,hb15,hψ9⟩:=hF
 refine pR hb15 (fun i6 s5=>[(1,.bl [.int .i64 a0.Voter,vQ a0.Ciphers,vT a0.Proofs,vA a0.Sum.Commits,vA a0.Sum.Challenges,vA a0.Sum.Responses]),(3,.v (vU s5)),(14,.v (vT a0.Proofs)),(15,.v (.int .i64 (a0.Proofs.length:Int))),(16,.v (.int .i64 i6))]) (fun s5 _ hN16=>?_) (fun i6 s5 _ _ hi10 hi11 ho7 hg8 hF=>?_)
 ·exact wn hN16 (hj2 _) hψ9
 refine wW ?_
 refine wu hi10 hi11 ?_
 refine wW ?_
 refine wB ?_
 obtain⟨x12,g,hF⟩:=Rx g hF
 refine wW ?_
 refine wC hF [.sh] zkH (fun z13 hF=>?_)
 obtain⟨g,hF⟩:=Rg g hF
 refine wK [1,3,14,15,16] ?_
 exact wi hi10 hi11 (hg8 _) (zaa hF)
def zf3 (a0:List Int):Option Bool:=
 ((if decide ((a0.length:Int)≤400)=true then(
 (zcm a0 0 4611686018427387903).bind fun z5=>
 some z5)else(
 some false):Option Bool).bind fun x3=>
 some x3)
theorem znw:∀{a0}{r},zf3 a0=some r→PCalls Tryz.prog 157 [(.sh,vA a0)] (Eo (.bool r) [.junk]):=by
 intro a0 r hr
 apply pF 10 [] [] [] [.tmp 2] hr zBa Tryz.func157
 intro Φ hΦ hF g
 unfold zf3 at hF
 refine wW ?_
 refine wJ hF (fun x3=>[(2,.v (.bool x3))]) (fun x3 hF=>?_) fun _ hj1 hF=>?_
 ·exact wm hΦ hF
 try simp[go_sem,g]
 try intros
 refine wG hF (fun h4 hF=>?_) fun h4 hF=>?_
 ·try simp[go_sem,g,h4]
  refine wC hF [.sh,.sh,.sh] zfg (fun z5 hF=>?_)
  exact wV h4 (hj1 _) (zaa hF)
 exact wV h4 (hj1 _) (zaa hF)
def zgA (a0:List Int):Option (List Int×Bool):=
 (zf3 a0).bind fun z1=>
 if(!z1)=true then(
 some ([],false))else(
 some (a0,true))
theorem zrx:∀{a0}{r},zgA a0=some r→PCalls Tryz.prog 116 [(.sh,vA a0)] (Eo (.tup [vA r.1,.bool r.2]) [.junk]):=by
 intro a0 r hr
 apply pF 8 [] [2] [] [.tmp 2,.tmp 3] hr zBk Tryz.func116
 intro Φ hΦ hF g
 unfold zgA at hF
 refine wW ?_
 refine wC hF [.sh] znw (fun z1 hF=>?_)
 refine wW ?_
 refine wI hF (fun h2 hF=>?_) (fun h2 hF=>?_)
 ·exact wl hΦ hF
 cases hΦ _ (zaa hF)
 iterate 2 refine wW ?_
 try simp[go_sem,g]
def zcD (a0:Sealed):Option (List Int×Bool):=
 (zaX a0.Voter 0 999999).bind fun z1=>
 if(!z1)=true then(
 some ([],false))else(
 (zgq a0).bind fun z3=>
 (zgA z3).bind fun z4=>
 some (z4.1,z4.2))
theorem zkV:∀{a0}{r},zcD a0=some r→PCalls Tryz.prog 69 [(.sh,vV a0)] (Eo (.tup [vA r.1,.bool r.2]) [.junk]):=by
 intro a0 r hr
 apply pF 13 [] [2,9] [] [.tmp 2,.tmp 3] hr zHI Tryz.func69
 intro Φ hΦ hF g
 unfold zcD at hF
 refine wW ?_
 refine wC hF [.sh,.sh,.sh] zbv (fun z1 hF=>?_)
 refine wW ?_
 refine wI hF (fun h2 hF=>?_) (fun h2 hF=>?_)
 ·exact wl hΦ hF
 refine wW ?_
 refine wC hF [.sh] zoH (fun z3 hF=>?_)
 refine wC hF [.sh] zrx (fun z4 hF=>?_)
 refine wK [2,3] ?_
 exact wm hΦ hF
def zfp (a0:ByteArray) (a1:List Int) (a2:Int):Option Bool:=
 ((if decide ((a0.size:Int)≤40)=true then(
 (zcm a1 0 4611686018427387903).bind fun z5=>
 if z5=true then(
 some (decide ((i64.wrap ((i64.wrap ((i64.wrap (1+(a0.size:Int)))+(a1.length:Int)))+a2))≤400)))else(
 some false))else(
 some false):Option Bool).bind fun x3=>
 some x3)
theorem zoD:∀{a0}{a1}{a2}{r},zfp a0 a1 a2=some r→PCalls Tryz.prog 118 [(.sh,.str a0),(.sh,vA a1),(.sh,.int .i64 a2)] (Eo (.bool r) [.junk,.junk,.junk]):=by
 intro a0 a1 a2 r hr
 apply pF 25 [] [] [] [.tmp 6] hr zDF Tryz.func118
 intro Φ hΦ hF g
 unfold zfp at hF
 refine wW ?_
 refine wJ hF (fun x3=>[(6,.v (.bool x3))]) (fun x3 hF=>?_) fun _ hj1 hF=>?_
 ·exact wm hΦ hF
 refine wG hF (fun h4 hF=>?_) fun h4 hF=>?_
 ·try simp[go_sem,g,h4]
  refine wC hF [.sh,.sh,.sh] zfg (fun z5 hF=>?_)
  try simp[go_sem,g,h4]
  refine wG hF (fun h6 hF=>?_) fun h6 hF=>?_
  ·try simp[go_sem,g,h6]
   try intros
   exact wT (hj1 _) (zaa hF)
  exact wV h6 (hj1 _) (zaa hF)
 exact wV h4 (hj1 _) (zaa hF)
def zeG (a0:ByteArray) (a1:List Int):Option (Int×Bool):=
 (zfp a0 a1 0).bind fun z1=>
 if(!z1)=true then(
 some (0,false))else(
 (zdH a0 a1).bind fun z3=>
 some (z3,true))
theorem zkZ:∀{a0}{a1}{r},zeG a0 a1=some r→PCalls Tryz.prog 70 [(.sh,.str a0),(.sh,vA a1)] (Eo (.tup [.int .i64 r.1,.bool r.2]) [.junk,.junk]):=by
 intro a0 a1 r hr
 apply pF 13 [] [] [] [.tmp 4,.tmp 5] hr zFc Tryz.func70
 intro Φ hΦ hF g
 unfold zeG at hF
 refine wW ?_
 refine wC hF [.sh,.sh,.sh] zoD (fun z1 hF=>?_)
 refine wW ?_
 refine wI hF (fun h2 hF=>?_) (fun h2 hF=>?_)
 ·exact wl hΦ hF
 refine wW ?_
 refine wC hF [.sh,.sh] ziR (fun z3 hF=>?_)
 refine wK [4,5] ?_
 exact wm hΦ hF
def zdw (a0:Sealed):Option (Int×Bool):=
 (zcD a0).bind fun z1=>
 if(!z1.2)=true then(
 some (0,false))else(
 (zeG (⟨#[115,101,97,108,101,100]⟩:ByteArray) z1.1).bind fun z3=>
 some (z3.1,z3.2))
theorem zkU:∀{a0}{r},zdw a0=some r→PCalls Tryz.prog 31 [(.sh,vV a0)] (Eo (.tup [.int .i64 r.1,.bool r.2]) [.junk]):=by
 intro a0 r hr
 apply pF 17 [] [] [] [.tmp 2,.tmp 3] hr zFg Tryz.func31
 intro Φ hΦ hF g
 unfold zdw at hF
 refine wW ?_
 refine wC hF [.sh] zkV (fun z1 hF=>?_)
 refine wK [4,5] ?_
 refine wW ?_
 refine wI hF (fun h2 hF=>?_) (fun h2 hF=>?_)
 ·exact wl hΦ hF
 refine wW ?_
 refine wC hF [.sh,.sh] zkZ (fun z3 hF=>?_)
 exact wl hΦ hF
def zed (a0:Group) (a1:Int) (a2:Contest) (a3:Int) (a4:List Int) (a5:List Int):Option (Int×Bool):=
 (zeZ a0 a1 a2 a3 a4 a5).bind fun z1=>
 if(!z1.2)=true then(
 some (0,false))else(
 (zdw z1.1).bind fun z3=>
 some (z3.1,z3.2))
theorem zmi:∀{a0}{a1}{a2}{a3}{a4}{a5}{r},zed a0 a1 a2 a3 a4 a5=some r→PCalls Tryz.prog 7 [(.sh,vD a0),(.sh,.int .i64 a1),(.sh,vE a2),(.sh,.int .i64 a3),(.sh,vA a4),(.sh,vA a5)] (Eo (.tup [.int .i64 r.1,.bool r.2]) [.junk,.junk,.junk,.junk,.junk,.junk]):=by
 intro a0 a1 a2 a3 a4 a5 r hr
 apply pF 32 [] [] [] [.tmp 12,.tmp 13] hr cl7 Tryz.func7
 intro Φ hΦ hF g
 unfold zed at hF
 refine wW ?_
 refine wC hF [.sh,.sh,.sh,.sh,.sh,.sh] znV (fun z1 hF=>?_)
 refine wK [14,15] ?_
 refine wW ?_
 refine wI hF (fun h2 hF=>?_) (fun h2 hF=>?_)
 ·exact wl hΦ hF
 refine wW ?_
 refine wC hF [.sh] zkU (fun z3 hF=>?_)
 exact wl hΦ hF
def zcI (a0:Group) (a1:Int) (a2:Contest) (a3:Session):Option (Bool×Bool):=
 ((if a3.Cast=true then(
 some true)else(
 (ze2 a3.Receipt).bind fun z5=>
 some (!z5)):Option Bool).bind fun x3=>
 if x3=true then(
 some (false,false))else(
 (zed a0 a1 a2 a3.Voter a3.Vote a3.Coins).bind fun z7=>
 if(!z7.2)=true then(
 some (false,false))else(
 some ((z7.1==a3.Receipt),true))))
theorem zkW:∀{a0}{a1}{a2}{a3}{r},zcI a0 a1 a2 a3=some r→PCalls Tryz.prog 20 [(.sh,vD a0),(.sh,.int .i64 a1),(.sh,vE a2),(.sh,vB a3)] (Eo (.tup [.bool r.1,.bool r.2]) [.junk,.junk,.junk,.junk]):=by
 intro a0 a1 a2 a3 r hr
 apply pF 39 [] [] [] [.tmp 8,.tmp 9] hr zH5 Tryz.func20
 intro Φ hΦ hF g
 unfold zcI at hF
 refine wW ?_
 refine wJ hF (fun x3=>[(1,.v (.int .i64 a1)),(4,.bl [.int .i64 a0.P,.int .i64 a0.Q,.int .i64 a0.G]),(6,.bl [.int .i64 a2.Kind,.int .i64 a2.Options,.int .i64 a2.Least,.int .i64 a2.Most,.int .i64 a2.Points]),(7,.bl [.int .i64 a3.Voter,vA a3.Vote,vA a3.Coins,.int .i64 a3.Receipt,.bool a3.Cast]),(19,.v (.bool x3))]) (fun x3 hF=>?_) fun _ hj1 hF=>?_
 ·refine wI hF (fun h6 hF=>?_) (fun h6 hF=>?_)
  ·exact wl hΦ hF
  refine wW ?_
  refine wC hF [.sh,.sh,.sh,.sh,.sh,.sh] zmi (fun z7 hF=>?_)
  refine wK [7,10,11] ?_
  refine wW ?_
  refine wI hF (fun h8 hF=>?_) (fun h8 hF=>?_)
  ·exact wl hΦ hF
  cases hΦ _ (zaa hF)
  iterate 2 refine wW ?_
  try simp[go_sem,g]
 refine wG hF (fun h4 hF=>?_) fun h4 hF=>?_
 ·try simp[go_sem,g,h4]
  exact wT (hj1 true) (zaa hF) (a:=by first|(simp[go_sem,g];done)|simp[go_sem,g,h4])
 try simp[go_sem,g,h4]
 refine wC hF [.sh] znQ (fun z5 hF=>?_)
 try simp[go_sem,g,h4]
 exact wT (hj1 (!z5)) (zaa hF) (a:=by first|(simp[go_sem,g];done)|simp[go_sem,g,h4])
def zeQ (a0:Group) (a1:Int) (a2:Contest) (a3:List Session):Option (List Int×Bool):=
 (((zdj a0 a2).bind fun z4=>
 if(!z4)=true then(
 some true)else(
 (zfD a0 [a1]).bind fun z6=>
 if(!z6)=true then(
 some true)else(
 some (decide (24<(a3.length:Int))))):Option Bool).bind fun x3=>
 if x3=true then(
 some ([],false))else(
 ((zak (σ:=(List Int)) (fun i13 s12=>
 (((ix a3 i13).bind fun x22=>
 if x22.Cast=true then(
 some s12)else(
 (zcI a0 a1 a2 x22).bind fun z24=>
 ((if(!z24.2)=true then(
 some true)else(
 some (!z24.1)):Option Bool).bind fun x27=>
 if x27=true then(
 gd ((s12.length+1)*8≤140737488355328∧s12.length+1≤4611686018427387904)<|
 some (s12++[i13]))else(
 some s12))):Option ((List Int))).bind fun x21=>
 some (.go x21))) (fun s12=>s12) (a3.length) 0 []:Option ((List Int))).bind fun x11=>
 some (x11,true))))
theorem zno:∀{a0}{a1}{a2}{a3}{r},zeQ a0 a1 a2 a3=some r→PCalls Tryz.prog 25 [(.sh,vD a0),(.sh,.int .i64 a1),(.sh,vE a2),(.sh,vC a3)] (Eo (.tup [vF r.1,.bool r.2]) [.junk,.junk,.junk,.junk]):=by
 intro a0 a1 a2 a3 r hr
 apply pF 60 [] [] [] [.tmp 8,.tmp 9] hr zIE Tryz.func25
 intro Φ hΦ hF g
 unfold zeQ at hF
 refine wW ?_
 refine wJ hF (fun x3=>[(1,.v (.int .i64 a1)),(3,.v (vC a3)),(4,.bl [.int .i64 a0.P,.int .i64 a0.Q,.int .i64 a0.G]),(6,.bl [.int .i64 a2.Kind,.int .i64 a2.Options,.int .i64 a2.Least,.int .i64 a2.Most,.int .i64 a2.Points]),(30,.v (.bool x3))]) (fun x3 hF=>?_) fun _ hj1 hF=>?_
 ·refine wI hF (fun h8 hF=>?_) (fun h8 hF=>?_)
  ·exact wl hΦ hF
  iterate 3 (try simp[go_sem,g];try intros;refine zal ?_)
  refine wJ hF (fun x11=>[(10,.v (vF x11))]) (fun x11 hF=>?_) fun _ hj9 hF=>?_
  ·refine wK [8,9] ?_
   exact wm hΦ hF
  refine wB ?_
  obtain⟨b30,hb31,hψ16⟩:=hF
  refine pR hb31 (fun i13 s12=>[(1,.v (.int .i64 a1)),(4,.bl [.int .i64 a0.P,.int .i64 a0.Q,.int .i64 a0.G]),(6,.bl [.int .i64 a2.Kind,.int .i64 a2.Options,.int .i64 a2.Least,.int .i64 a2.Most,.int .i64 a2.Points]),(10,.v (vF s12)),(31,.v (vC a3)),(32,.v (.int .i64 (a3.length:Int))),(33,.v (.int .i64 i13))]) (fun s12 _ hN32=>?_) (fun i13 s12 _ _ hi17 hi18 ho14 hg15 hF=>?_)
  ·exact wn hN32 (hj9 _) hψ16
  refine wW ?_
  refine wu hi17 hi18 ?_
  refine wW ?_
  refine wJ hF (fun x21=>[(1,.v (.int .i64 a1)),(4,.bl [.int .i64 a0.P,.int .i64 a0.Q,.int .i64 a0.G]),(6,.bl [.int .i64 a2.Kind,.int .i64 a2.Options,.int .i64 a2.Least,.int .i64 a2.Most,.int .i64 a2.Points]),(10,.v (vF x21)),(31,.v (vC a3)),(32,.v (.int .i64 (a3.length:Int))),(33,.v (.int .i64 i13))]) (fun x21 hF=>?_) fun _ hj19 hF=>?_
  ·exact wi hi17 hi18 (hg15 _) (zaa hF)
  refine wB ?_
  obtain⟨x22,g,hF⟩:=Rx g hF
  refine wK [1,4,6,10,11,12,31,32,33] ?_
  refine wW ?_
  refine wI hF (fun h23 hF=>?_) (fun h23 hF=>?_)
  ·exact wT (hj19 _) (zaa hF)
  refine wW ?_
  refine wC hF [.sh,.sh,.sh,.sh] zkW (fun z24 hF=>?_)
  refine wK [1,4,6,10,11,13,14,31,32,33] ?_
  refine wJ hF (fun x27=>[(1,.v (.int .i64 a1)),(4,.bl [.int .i64 a0.P,.int .i64 a0.Q,.int .i64 a0.G]),(6,.bl [.int .i64 a2.Kind,.int .i64 a2.Options,.int .i64 a2.Least,.int .i64 a2.Most,.int .i64 a2.Points]),(10,.v (vF s12)),(11,.v (.int .i64 i13)),(31,.v (vC a3)),(32,.v (.int .i64 (a3.length:Int))),(33,.v (.int .i64 i13)),(53,.v (.bool x27))]) (fun x27 hF=>?_) fun _ hj25 hF=>?_
  ·refine wI hF (fun h29 hF=>?_) (fun h29 hF=>?_)
   ·obtain⟨g,hF⟩:=Rg g hF
    exact wT (hj19 _) (zaa hF)
   exact wT (hj19 _) (zaa hF)
  refine wG hF (fun h28 hF=>?_) fun h28 hF=>?_
  ·exact wV h28 (hj25 _) (zaa hF)
  exact wV h28 (hj25 _) (zaa hF)
 refine wC hF [.sh,.sh] zli (fun z4 hF=>?_)
 refine wG hF (fun h5 hF=>?_) fun h5 hF=>?_
 ·exact wV h5 (hj1 _) (zaa hF)
 try simp[go_sem,g,h5]
 refine wC hF [.sh,.sh] znB (fun z6 hF=>?_)
 try simp[go_sem,g,h5]
 refine wG hF (fun h7 hF=>?_) fun h7 hF=>?_
 ·exact wV h7 (hj1 _) (zaa hF)
 try simp[go_sem,g,h7]
 try intros
 exact wT (hj1 _) (zaa hF)
def zax (a0:Int) (a1:Int) (a2:Int):Option Bool:=
 ((if decide (a1≤a0)=true then(
 some (decide (a0≤a2)))else(
 some false):Option Bool).bind fun x3=>
 some x3)
theorem zaT:∀{a0}{a1}{a2}{r},zax a0 a1 a2=some r→PCalls Tryz.prog 94 [(.sh,.int .i64 a0),(.sh,.int .i64 a1),(.sh,.int .i64 a2)] (Eo (.bool r) [.junk,.junk,.junk]):=by
 intro a0 a1 a2 r hr
 apply pF 15 [] [] [] [.tmp 6] hr zF3 Tryz.func94
 intro Φ hΦ hF g
 unfold zax at hF
 refine wW ?_
 refine wJ hF (fun x3=>[(6,.v (.bool x3))]) (fun x3 hF=>?_) fun _ hj1 hF=>?_
 ·exact wm hΦ hF
 refine wG hF (fun h4 hF=>?_) fun h4 hF=>?_
 ·exact wV h4 (hj1 _) (zaa hF)
 exact wV h4 (hj1 _) (zaa hF)
def zey (a0:Int):Option Bool:=
 (zax a0 2 2000000000).bind fun z1=>
 some z1
theorem zm1:∀{a0}{r},zey a0=some r→PCalls Tryz.prog 169 [(.sh,.int .i64 a0)] (Eo (.bool r) [.junk]):=by
 intro a0 r hr
 apply pF 5 [] [] [] [.tmp 2] hr zBs Tryz.func169
 intro Φ hΦ hF g
 unfold zey at hF
 refine wW ?_
 refine wC hF [.sh,.sh,.sh] zaT (fun z1 hF=>?_)
 exact wl hΦ hF
def zes (a0:Int):Option Bool:=
 (((zey a0).bind fun z4=>
 if(!z4)=true then(
 some true)else(
 if((a0.tmod 2)==0)=true then(
 some (a0 !=2))else(
 some false)):Option Bool).bind fun x3=>
 if x3=true then(
 some false)else(
 ((zaN (σ:=Int) (fun s11=>
 if decide ((i64.wrap (s11*s11))≤a0)=true then(
 gd (s11≠0)<|
 if((a0.tmod s11)==0)=true then(
 some (.out (.inr false)))else(
 some (.go (i64.wrap (s11+2)))))else(
 some (.out (.inl ())))) 3:Option (Unit ⊕ Bool)).bind (Sum.elim (fun x10=>
 some true) some))))
theorem zjJ:∀{a0}{r},zes a0=some r→PCalls Tryz.prog 141 [(.sh,.int .i64 a0)] (Eo (.bool r) [.junk]):=by
 intro a0 r hr
 apply pF 27 [] [] [] [.tmp 2] hr zA8 Tryz.func141
 intro Φ hΦ hF g
 unfold zes at hF
 refine wW ?_
 refine wJ hF (fun x3=>[(0,.v (.int .i64 a0)),(15,.v (.bool x3))]) (fun x3 hF=>?_) fun _ hj1 hF=>?_
 ·refine wI hF (fun h7 hF=>?_) (fun h7 hF=>?_)
  ·exact wl hΦ hF
  iterate 2 refine wW ?_
  refine wS hF (fun x10=>[]) (fun x10 hF=>?_) fun _ hj8 hr9 hF=>?_
  ·exact wl hΦ hF
  refine wB ?_
  obtain⟨b18,hb19,hψ15⟩:=hF
  refine pL hb19 (fun s11=>[(0,.v (.int .i64 a0)),(3,.v (.int .i64 s11))]) (fun s11 _ _ ho13 hg14 hF=>?_)
  refine wW ?_
  refine wI hF (fun h16 hF=>?_) (fun h16 hF=>?_)
  ·refine wW ?_
   refine wB ?_
   obtain⟨g,hF⟩:=Rz g hF
   refine wK [0,3,26] ?_
   refine wI hF (fun h17 hF=>?_) (fun h17 hF=>?_)
   ·cases ho13 _ (zaa hF)
    cases hΦ _ (hr9 _ hψ15)
    refine wW ?_
    try simp[go_sem,g]
   refine wW ?_
   exact wT (hg14 _) (zaa hF)
  cases ho13 _ (zaa hF)
  exact wT (hj8 _) hψ15
 refine wC hF [.sh] zm1 (fun z4 hF=>?_)
 refine wG hF (fun h5 hF=>?_) fun h5 hF=>?_
 ·exact wV h5 (hj1 _) (zaa hF)
 have g:=Ld g 2
 try simp[go_sem,g,h5]
 refine wG hF (fun h6 hF=>?_) fun h6 hF=>?_
 ·try simp[go_sem,g,h6,h5]
  exact wT (hj1 _) (zaa hF)
 try simp[go_sem,g,h6,h5]
 exact wT (hj1 _) (zaa hF)
def zdT (a0:Int) (a1:Int) (a2:Int):Option Int:=
 gd (a2≠0)<|
 ((zaN (σ:=Int×Int×Int) (fun s4=>
 if decide (0<s4.2.1)=true then(
 ((if((i64.wrap ((BitVec.ofInt i64.bits s4.2.1&&&BitVec.ofInt i64.bits 1).toNat))==1)=true then(
 gd (a2≠0)<|
 some ((i64.wrap (s4.2.2*s4.1)).tmod a2))else(
 some s4.2.2):Option Int).bind fun x12=>
 gd (a2≠0)<|
 some (.go ((i64.wrap (s4.1*s4.1)).tmod a2,s4.2.1.fdiv 2,x12))))else(
 some (.out s4.2.2))) (a0,a1,(1:Int).tmod a2):Option Int).bind fun x3=>
 some x3)
theorem ziO:∀{a0}{a1}{a2}{r},zdT a0 a1 a2=some r→PCalls Tryz.prog 95 [(.sh,.int .i64 a0),(.sh,.int .i64 a1),(.sh,.int .i64 a2)] (Eo (.int .i64 r) [.junk,.junk,.junk]):=by
 intro a0 a1 a2 r hr
 apply pF 28 [] [] [] [.tmp 6] hr zGQ Tryz.func95
 intro Φ hΦ hF g
 unfold zdT at hF
 obtain⟨g,hF⟩:=Rz g hF
 iterate 2 refine wW ?_
 refine wJ hF (fun x3=>[(7,.v (.int .i64 x3))]) (fun x3 hF=>?_) fun _ hj1 hF=>?_
 ·exact wl hΦ hF
 refine wB ?_
 obtain⟨b14,hb15,hψ8⟩:=hF
 refine pL hb15 (fun s4=>[(0,.v (.int .i64 s4.1)),(1,.v (.int .i64 s4.2.1)),(2,.v (.int .i64 a2)),(7,.v (.int .i64 s4.2.2))]) (fun s4 _ _ ho6 hg7 hF=>?_)
 refine wW ?_
 refine wI hF (fun h9 hF=>?_) (fun h9 hF=>?_)
 ·refine wW ?_
  refine wB ?_
  refine wW ?_
  refine wJ hF (fun x12=>[(0,.v (.int .i64 s4.1)),(1,.v (.int .i64 s4.2.1)),(2,.v (.int .i64 a2)),(7,.v (.int .i64 x12))]) (fun x12 hF=>?_) fun _ hj10 hF=>?_
  ·obtain⟨g,hF⟩:=Rz g hF
   refine wK [0,1,2,7] ?_
   have g:=Ls g 1
   exact wT (hg7 _) (zaa hF)
  refine wI hF (fun h13 hF=>?_) (fun h13 hF=>?_)
  ·obtain⟨g,hF⟩:=Rz g hF
   exact wT (hj10 _) (zaa hF)
  exact wT (hj10 _) (zaa hF)
 cases ho6 _ (zaa hF)
 exact wT (hj1 _) hψ8
def zbI (a0:Group):Option Bool:=
 (((zax a0.P 3 2000000000).bind fun z4=>
 if z4=true then(
 (zax a0.Q 2 (i64.wrap (a0.P-1))).bind fun z6=>
 if z6=true then(
 gd (a0.Q≠0)<|
 if(((i64.wrap (a0.P-1)).tmod a0.Q)==0)=true then(
 (zax a0.G 2 (i64.wrap (a0.P-1))).bind fun z9=>
 if z9=true then(
 (zes a0.P).bind fun z11=>
 if z11=true then(
 (zes a0.Q).bind fun z13=>
 if z13=true then(
 (zdT a0.G a0.Q a0.P).bind fun z15=>
 some (z15==1))else(
 some false))else(
 some false))else(
 some false))else(
 some false))else(
 some false))else(
 some false):Option Bool).bind fun x3=>
 some x3)
theorem zeD:∀{a0}{r},zbI a0=some r→PCalls Tryz.prog 91 [(.sh,vD a0)] (Eo (.bool r) [.junk]):=by
 intro a0 r hr
 apply pF 51 [] [] [] [.tmp 2] hr zH0 Tryz.func91
 intro Φ hΦ hF g
 unfold zbI at hF
 refine wW ?_
 refine wJ hF (fun x3=>[(2,.v (.bool x3))]) (fun x3 hF=>?_) fun _ hj1 hF=>?_
 ·exact wm hΦ hF
 refine wC hF [.sh,.sh,.sh] zaT (fun z4 hF=>?_)
 refine wG hF (fun h5 hF=>?_) fun h5 hF=>?_
 ·try simp[go_sem,g,h5]
  refine wC hF [.sh,.sh,.sh] zaT (fun z6 hF=>?_)
  try simp[go_sem,g,h5]
  refine wG hF (fun h7 hF=>?_) fun h7 hF=>?_
  ·obtain⟨g,hF⟩:=Rz g hF
   try simp[go_sem,g,h7]
   refine wG hF (fun h8 hF=>?_) fun h8 hF=>?_
   ·try simp[go_sem,g,h8]
    refine wC hF [.sh,.sh,.sh] zaT (fun z9 hF=>?_)
    try simp[go_sem,g,h8]
    refine wG hF (fun h10 hF=>?_) fun h10 hF=>?_
    ·try simp[go_sem,g,h10]
     refine wC hF [.sh] zjJ (fun z11 hF=>?_)
     try simp[go_sem,g,h10]
     refine wG hF (fun h12 hF=>?_) fun h12 hF=>?_
     ·try simp[go_sem,g,h12]
      refine wC hF [.sh] zjJ (fun z13 hF=>?_)
      try simp[go_sem,g,h12]
      refine wG hF (fun h14 hF=>?_) fun h14 hF=>?_
      ·try simp[go_sem,g,h14]
       refine wC hF [.sh,.sh,.sh] ziO (fun z15 hF=>?_)
       exact wV h14 (hj1 _) (zaa hF)
      exact wV h14 (hj1 _) (zaa hF)
     exact wV h12 (hj1 _) (zaa hF)
    exact wV h10 (hj1 _) (zaa hF)
   exact wV h8 (hj1 _) (zaa hF)
  exact wV h7 (hj1 _) (zaa hF)
 exact wV h5 (hj1 _) (zaa hF)
def zcd (a0:Contest):Option Bool:=
 ((if decide (a0.Least<0)=true then(
 some true)else(
 some (decide (a0.Most<a0.Least))):Option Bool).bind fun x3=>
 if x3=true then(
 some false)else(
 ((if(a0.Kind==1)=true then(
 some (a0.Kind==1))else(
 some (a0.Kind==3)):Option Bool).bind fun x8=>
 if x8=true then(
 (((zax a0.Options 1 8).bind fun z14=>
 if z14=true then(
 if decide (a0.Most≤a0.Options)=true then(
 some (a0.Points==0))else(
 some false))else(
 some false):Option Bool).bind fun x13=>
 some x13))else(
 if(a0.Kind==2)=true then(
 (((zax a0.Options 1 8).bind fun z21=>
 if z21=true then(
 (zax a0.Points 1 5).bind fun z23=>
 if z23=true then(
 some (decide (a0.Most≤(i64.wrap (a0.Options*a0.Points)))))else(
 some false))else(
 some false):Option Bool).bind fun x20=>
 some x20))else(
 if(a0.Kind==4)=true then(
 ((if(a0.Options==0)=true then(
 if decide (a0.Most≤5)=true then(
 some (a0.Points==0))else(
 some false))else(
 some false):Option Bool).bind fun x28=>
 some x28))else(
 some false))))))
theorem zj2:∀{a0}{r},zcd a0=some r→PCalls Tryz.prog 92 [(.sh,vE a0)] (Eo (.bool r) [.junk]):=by
 intro a0 r hr
 apply pF 68 [] [] [] [.tmp 2] hr zIG Tryz.func92
 intro Φ hΦ hF g
 unfold zcd at hF
 refine wW ?_
 refine wJ hF (fun x3=>[(1,.bl [.int .i64 a0.Kind,.int .i64 a0.Options,.int .i64 a0.Least,.int .i64 a0.Most,.int .i64 a0.Points]),(12,.v (.bool x3))]) (fun x3 hF=>?_) fun _ hj1 hF=>?_
 ·refine wI hF (fun h5 hF=>?_) (fun h5 hF=>?_)
  ·exact wl hΦ hF
  iterate 2 refine wW ?_
  refine wB ?_
  refine wW ?_
  refine wJ hF (fun x8=>[(1,.bl [.int .i64 a0.Kind,.int .i64 a0.Options,.int .i64 a0.Least,.int .i64 a0.Most,.int .i64 a0.Points]),(14,.v (.int .i64 a0.Kind)),(15,.v (.bool x8))]) (fun x8 hF=>?_) fun _ hj6 hF=>?_
  ·refine wI hF (fun h10 hF=>?_) (fun h10 hF=>?_)
   ·refine wJ hF (fun x13=>[(2,.v (.bool x13))]) (fun x13 hF=>?_) fun _ hj11 hF=>?_
    ·exact wm hΦ hF
    refine wC hF [.sh,.sh,.sh] zaT (fun z14 hF=>?_)
    refine wG hF (fun h15 hF=>?_) fun h15 hF=>?_
    ·try simp[go_sem,g,h15]
     refine wG hF (fun h16 hF=>?_) fun h16 hF=>?_
     ·exact wV h16 (hj11 _) (zaa hF)
     exact wV h16 (hj11 _) (zaa hF)
    exact wV h15 (hj11 _) (zaa hF)
   refine wW ?_
   refine wI hF (fun h17 hF=>?_) (fun h17 hF=>?_)
   ·refine wJ hF (fun x20=>[(2,.v (.bool x20))]) (fun x20 hF=>?_) fun _ hj18 hF=>?_
    ·exact wm hΦ hF
    refine wC hF [.sh,.sh,.sh] zaT (fun z21 hF=>?_)
    refine wG hF (fun h22 hF=>?_) fun h22 hF=>?_
    ·try simp[go_sem,g,h22]
     refine wC hF [.sh,.sh,.sh] zaT (fun z23 hF=>?_)
     try simp[go_sem,g,h22]
     refine wG hF (fun h24 hF=>?_) fun h24 hF=>?_
     ·exact wV h24 (hj18 _) (zaa hF)
     exact wV h24 (hj18 _) (zaa hF)
    exact wV h22 (hj18 _) (zaa hF)
   refine wK [1,53] ?_
   refine wI hF (fun h25 hF=>?_) (fun h25 hF=>?_)
   ·refine wJ hF (fun x28=>[(2,.v (.bool x28))]) (fun x28 hF=>?_) fun _ hj26 hF=>?_
    ·exact wm hΦ hF
    refine wG hF (fun h29 hF=>?_) fun h29 hF=>?_
    ·try simp[go_sem,g,h29]
     refine wG hF (fun h30 hF=>?_) fun h30 hF=>?_
     ·exact wV h30 (hj26 _) (zaa hF)
     exact wV h30 (hj26 _) (zaa hF)
    exact wV h29 (hj26 _) (zaa hF)
   cases hΦ _ (zaa hF)
   iterate 2 refine wW ?_
   try simp[go_sem,g]
  refine wI hF (fun h9 hF=>?_) (fun h9 hF=>?_)
  ·exact wT (hj6 _) (zaa hF)
  exact wT (hj6 _) (zaa hF)
 refine wG hF (fun h4 hF=>?_) fun h4 hF=>?_
 ·exact wV h4 (hj1 _) (zaa hF)
 exact wV h4 (hj1 _) (zaa hF)
def zaF (a0:Contest):Option Int:=
 if(a0.Kind==2)=true then(
 some (i64.wrap (a0.Points+1)))else(
 if(a0.Kind==3)=true then(
 some (i64.wrap (a0.Options+1)))else(
 if(a0.Kind==4)=true then(
 some 27)else(
 some 2)))
theorem zhB:∀{a0}{r},zaF a0=some r→PCalls Tryz.prog 143 [(.sh,vE a0)] (Eo (.int .i64 r) [.junk]):=by
 intro a0 r hr
 apply pF 17 [] [] [] [.tmp 2] hr zDy Tryz.func143
 intro Φ hΦ hF g
 unfold zaF at hF
 iterate 2 refine wW ?_
 refine wB ?_
 refine wW ?_
 refine wI hF (fun h1 hF=>?_) (fun h1 hF=>?_)
 ·refine wK [2] ?_
  exact wm hΦ hF
 refine wW ?_
 refine wI hF (fun h2 hF=>?_) (fun h2 hF=>?_)
 ·refine wK [2] ?_
  exact wm hΦ hF
 refine wK [15] ?_
 refine wI hF (fun h3 hF=>?_) (fun h3 hF=>?_)
 ·exact wl hΦ hF
 cases hΦ _ (zaa hF)
 iterate 2 refine wW ?_
 try simp[go_sem,g]
def zeM (a0:List Int) (a1:Int):Option Int:=
 ((zaN (σ:=Int×Int) (fun s4=>
 if decide (0≤s4.2)=true then(
 (ix a0 s4.2).bind fun x10=>
 some (.go (i64.wrap ((i64.wrap (s4.1*a1))+x10),i64.wrap (s4.2-1))))else(
 some (.out s4.1))) (0,i64.wrap ((a0.length:Int)-1)):Option Int).bind fun x3=>
 some x3)
theorem zkJ:∀{a0}{a1}{r},zeM a0 a1=some r→PCalls Tryz.prog 142 [(.sh,vA a0),(.sh,.int .i64 a1)] (Eo (.int .i64 r) [.junk,.junk]):=by
 intro a0 a1 r hr
 apply pF 23 [] [] [] [.tmp 4] hr zAY Tryz.func142
 intro Φ hΦ hF g
 unfold zeM at hF
 iterate 3 (try simp[go_sem,g];try intros;refine zal ?_)
 refine wJ hF (fun x3=>[(5,.v (.int .i64 x3))]) (fun x3 hF=>?_) fun _ hj1 hF=>?_
 ·exact wl hΦ hF
 refine wB ?_
 obtain⟨b11,hb12,hψ8⟩:=hF
 refine pL hb12 (fun s4=>[(0,.v (vA a0)),(1,.v (.int .i64 a1)),(5,.v (.int .i64 s4.1)),(6,.v (.int .i64 s4.2))]) (fun s4 _ _ ho6 hg7 hF=>?_)
 refine wW ?_
 refine wI hF (fun h9 hF=>?_) (fun h9 hF=>?_)
 ·refine wW ?_
  refine wB ?_
  obtain⟨x10,g,hF⟩:=Rx g hF
  refine wK [0,1,5,6] ?_
  exact wT (hg7 _) (zaa hF)
 cases ho6 _ (zaa hF)
 exact wT (hj1 _) hψ8
def zbU (a0:Contest):Option Int:=
 ((if(a0.Kind==1)=true then(
 zaN (σ:=(List Int)×Int) (fun s5=>
 if decide (s5.2<a0.Options)=true then(
 ((if decide ((i64.wrap (a0.Options-a0.Most))≤s5.2)=true then(
 some 1)else(
 some 0):Option Int).bind fun x13=>
 gd ((s5.1.length+1)*8≤140737488355328∧s5.1.length+1≤4611686018427387904)<|
 some (.go (s5.1++[x13],i64.wrap (s5.2+1)))))else(
 some (.out s5.1))) ([],0))else(
 if(a0.Kind==2)=true then(
 gd (0≤a0.Options∧a0.Options≤a0.Options∧8*a0.Options≤140737488355328∧a0.Options≤4611686018427387904)<|
 (some (List.replicate a0.Options.toNat 0)).bind fun x18=>
 zaN (σ:=(List Int)×Int×Int) (fun s29=>
 if decide (0≤s29.2.2)=true then(
 (ix s29.1 s29.2.2).bind fun x35=>
 (ix (s29.1.set s29.2.2.toNat (if a0.Points<s29.2.1 then a0.Points else s29.2.1)) s29.2.2).bind fun x36=>
 some (.go (s29.1.set s29.2.2.toNat (if a0.Points<s29.2.1 then a0.Points else s29.2.1),i64.wrap (s29.2.1-x36),i64.wrap (s29.2.2-1))))else(
 some (.out s29.1))) (x18,a0.Most,i64.wrap (a0.Options-1)))else(
 if(a0.Kind==3)=true then(
 zaN (σ:=(List Int)×Int) (fun s40=>
 if decide (s40.2<a0.Most)=true then(
 gd ((s40.1.length+1)*8≤140737488355328∧s40.1.length+1≤4611686018427387904)<|
 some (.go (s40.1++[i64.wrap ((i64.wrap ((i64.wrap (a0.Options-a0.Most))+1))+s40.2)],i64.wrap (s40.2+1))))else(
 some (.out s40.1))) ([],0))else(
 zaN (σ:=(List Int)×Int) (fun s48=>
 if decide (s48.2<a0.Most)=true then(
 gd ((s48.1.length+1)*8≤140737488355328∧s48.1.length+1≤4611686018427387904)<|
 some (.go (s48.1++[26],i64.wrap (s48.2+1))))else(
 some (.out s48.1))) ([],0)))):Option ((List Int))).bind fun x3=>
 (zaF a0).bind fun z56=>
 (zeM x3 z56).bind fun z57=>
 some z57)
theorem zgw:∀{a0}{r},zbU a0=some r→PCalls Tryz.prog 93 [(.sh,vE a0)] (Eo (.int .i64 r) [.junk]):=by
 intro a0 r hr
 apply pF 89 [] [] [] [.tmp 2] hr zHH Tryz.func93
 intro Φ hΦ hF g
 unfold zbU at hF
 iterate 3 refine wW ?_
 refine wJ hF (fun x3=>[(1,.bl [.int .i64 a0.Kind,.int .i64 a0.Options,.int .i64 a0.Least,.int .i64 a0.Most,.int .i64 a0.Points]),(3,.v (vF x3))]) (fun x3 hF=>?_) fun _ hj1 hF=>?_
 ·refine wC hF [.sh] zhB (fun z56 hF=>?_)
  refine wC hF [.sh,.sh] zkJ (fun z57 hF=>?_)
  refine wK [2] ?_
  exact wm hΦ hF
 refine wB ?_
 refine wW ?_
 refine wI hF (fun h4 hF=>?_) (fun h4 hF=>?_)
 ·refine wK [1,3,23,24] ?_
  refine wB ?_
  obtain⟨b15,hb16,hψ9⟩:=hF
  refine pL hb16 (fun s5=>[(1,.bl [.int .i64 a0.Kind,.int .i64 a0.Options,.int .i64 a0.Least,.int .i64 a0.Most,.int .i64 a0.Points]),(3,.v (vF s5.1)),(23,.v (.int .i64 a0.Options)),(24,.v (.int .i64 s5.2))]) (fun s5 _ _ ho7 hg8 hF=>?_)
  refine wW ?_
  refine wI hF (fun h10 hF=>?_) (fun h10 hF=>?_)
  ·refine wW ?_
   refine wB ?_
   iterate 2 refine wW ?_
   refine wK [1,3,5,23,24,33] ?_
   refine wJ hF (fun x13=>[(1,.bl [.int .i64 a0.Kind,.int .i64 a0.Options,.int .i64 a0.Least,.int .i64 a0.Most,.int .i64 a0.Points]),(3,.v (vF s5.1)),(5,.v (.int .i64 x13)),(23,.v (.int .i64 a0.Options)),(24,.v (.int .i64 s5.2))]) (fun x13 hF=>?_) fun _ hj11 hF=>?_
   ·obtain⟨g,hF⟩:=Rg g hF
    refine wW ?_
    exact wT (hg8 _) (zaa hF)
   refine wI hF (fun h14 hF=>?_) (fun h14 hF=>?_)
   ·exact wT (hj11 _) (zaa hF)
   exact wT (hj11 _) (zaa hF)
  cases ho7 _ (zaa hF)
  exact wT (hj1 _) hψ9
 refine wK [1,3,11,39] ?_
 refine wI hF (fun h17 hF=>?_) (fun h17 hF=>?_)
 ·obtain⟨g,hF⟩:=Rg g hF
  obtain⟨x18,e19,hF⟩:=zdY hF
  have g20:List.replicate a0.Options.toNat ([.int .i64 0]:List PV)=x18.map zaf:=by injection e19 with e19;rw[←e19];simp[go_sem]
  iterate 2 (try simp[go_sem,g,g20];refine zal ?_)
  try simp[go_sem,g,g20]
  refine wK [1,3,6,7] ?_
  refine wB ?_
  obtain⟨b37,hb38,hψ33⟩:=hF
  refine pL hb38 (fun s29=>[(1,.bl [.int .i64 a0.Kind,.int .i64 a0.Options,.int .i64 a0.Least,.int .i64 a0.Most,.int .i64 a0.Points]),(3,.v (vF s29.1)),(6,.v (.int .i64 s29.2.1)),(7,.v (.int .i64 s29.2.2))]) (fun s29 _ _ ho31 hg32 hF=>?_)
  refine wW ?_
  refine wI hF (fun h34 hF=>?_) (fun h34 hF=>?_)
  ·refine wW ?_
   refine wB ?_
   obtain⟨x35,g,hF⟩:=Rx g hF
   refine wK [1,3,6,7] ?_
   obtain⟨x36,g,hF⟩:=Rx g hF
   try simp only[List.length_set]at g
   refine wW ?_
   exact wT (hg32 _) (zaa hF)
  cases ho31 _ (zaa hF)
  exact wT (hj1 _) hψ33
 refine wW ?_
 refine wI hF (fun h39 hF=>?_) (fun h39 hF=>?_)
 ·refine wW ?_
  refine wB ?_
  obtain⟨b46,hb47,hψ44⟩:=hF
  refine pL hb47 (fun s40=>[(1,.bl [.int .i64 a0.Kind,.int .i64 a0.Options,.int .i64 a0.Least,.int .i64 a0.Most,.int .i64 a0.Points]),(3,.v (vF s40.1)),(69,.v (.int .i64 a0.Most)),(70,.v (.int .i64 s40.2))]) (fun s40 _ _ ho42 hg43 hF=>?_)
  refine wW ?_
  refine wI hF (fun h45 hF=>?_) (fun h45 hF=>?_)
  ·refine wW ?_
   refine wB ?_
   obtain⟨g,hF⟩:=Rg g hF
   refine wW ?_
   refine wK [1,3,69,70] ?_
   exact wT (hg43 _) (zaa hF)
  cases ho42 _ (zaa hF)
  exact wT (hj1 _) hψ44
 refine wW ?_
 refine wB ?_
 obtain⟨b54,hb55,hψ52⟩:=hF
 refine pL hb55 (fun s48=>[(1,.bl [.int .i64 a0.Kind,.int .i64 a0.Options,.int .i64 a0.Least,.int .i64 a0.Most,.int .i64 a0.Points]),(3,.v (vF s48.1)),(13,.v (.int .i64 a0.Most)),(14,.v (.int .i64 s48.2))]) (fun s48 _ _ ho50 hg51 hF=>?_)
 refine wW ?_
 refine wI hF (fun h53 hF=>?_) (fun h53 hF=>?_)
 ·refine wW ?_
  refine wB ?_
  obtain⟨g,hF⟩:=Rg g hF
  refine wK [1,3,13,14] ?_
  exact wT (hg51 _) (zaa hF)
 cases ho50 _ (zaa hF)
 exact wT (hj1 _) hψ52
def zbN (a0:Contest):Option Bool:=
 ((if(a0.Kind==1)=true then(
 some true)else(
 some (a0.Kind==2)):Option Bool).bind fun x3=>
 some x3)
theorem zfn:∀{a0}{r},zbN a0=some r→PCalls Tryz.prog 48 [(.sh,vE a0)] (Eo (.bool r) [.junk]):=by
 intro a0 r hr
 apply pF 11 [] [] [] [.tmp 2] hr zFo Tryz.func48
 intro Φ hΦ hF g
 unfold zbN at hF
 refine wW ?_
 refine wJ hF (fun x3=>[(2,.v (.bool x3))]) (fun x3 hF=>?_) fun _ hj1 hF=>?_
 ·exact wm hΦ hF
 refine wG hF (fun h4 hF=>?_) fun h4 hF=>?_
 ·exact wV h4 (hj1 _) (zaa hF)
 exact wV h4 (hj1 _) (zaa hF)
@[go_sem] def zDH:List DE:=[d2 0 [2] 2 2,d3 1 [5],d0 2 [6],d0 3 [7],d2 4 [3,8] 3 3,d3 5 [9,8],d0 6 [10,8],d0 7 [8,11],d0 8 [12],d2 9 [3,13] 3 3,d3 10 [14,13],d0 11 [15,13],d0 12 [13,16],d0 13 [17],d2 14 [3,18] 3 3,d1 16 [2,18] 2,d2 17 [21,18] 2 21,d3 15 [19,18],d0 18 [20,22,18],d0 19 [18,23]]
def zdm (a0:Group) (a1:Contest):Option Bool:=
 (((zbI a0).bind fun z4=>
 if(!z4)=true then(
 some true)else(
 (zcd a1).bind fun z6=>
 if(!z6)=true then(
 some true)else(
 (zbU a1).bind fun z8=>
 if decide (100000<z8)=true then(
 some true)else(
 (zbU a1).bind fun z10=>
 some (decide (a0.Q≤z10))))):Option Bool).bind fun x3=>
 if x3=true then(
 some false)else(
 (((zbN a1).bind fun z15=>
 if(!z15)=true then(
 some true)else(
 if decide ((i64.wrap (a1.Most-a1.Least))<8)=true then(
 some (decide (a1.Most<a0.Q)))else(
 some false)):Option Bool).bind fun x14=>
 some x14)))
theorem zij:∀{a0}{a1}{r},zdm a0 a1=some r→PCalls Tryz.prog 40 [(.sh,vD a0),(.sh,vE a1)] (Eo (.bool r) [.junk,.junk]):=by
 intro a0 a1 r hr
 apply pF 43 [] [] [] [.tmp 4] hr zHZ Tryz.func40
 intro Φ hΦ hF g
 unfold zdm at hF
 refine wW ?_
 refine wJ hF (fun x3=>[(2,.bl [.int .i64 a0.P,.int .i64 a0.Q,.int .i64 a0.G]),(3,.bl [.int .i64 a1.Kind,.int .i64 a1.Options,.int .i64 a1.Least,.int .i64 a1.Most,.int .i64 a1.Points]),(24,.v (.bool x3))]) (fun x3 hF=>?_) fun _ hj1 hF=>?_
 ·refine wI hF (fun h11 hF=>?_) (fun h11 hF=>?_)
  ·exact wl hΦ hF
  refine wW ?_
  refine wJ hF (fun x14=>[(4,.v (.bool x14))]) (fun x14 hF=>?_) fun _ hj12 hF=>?_
  ·exact wm hΦ hF
  refine wC hF [.sh] zfn (fun z15 hF=>?_)
  refine wG hF (fun h16 hF=>?_) fun h16 hF=>?_
  ·exact wV h16 (hj12 _) (zaa hF)
  try simp[go_sem,g,h16]
  refine wG hF (fun h17 hF=>?_) fun h17 hF=>?_
  ·try simp[go_sem,g,h17,h16]
   exact wT (hj12 _) (zaa hF)
  try simp[go_sem,g,h17,h16]
  exact wT (hj12 _) (zaa hF)
 refine wX zDH follows ?_
 refine wC hF [.sh] zeD (fun z4 hF=>?_)
 refine wH hF (fun h5 hF=>?_) fun h5 hF=>?_
 ·exact wV h5 (hj1 _) (zaa hF)
 try simp[go_sem,g,h5]
 refine wC hF [.sh] zj2 (fun z6 hF=>?_)
 try simp[go_sem,g,h5]
 refine wH hF (fun h7 hF=>?_) fun h7 hF=>?_
 ·exact wV h7 (hj1 _) (zaa hF)
 try simp[go_sem,g,h7]
 refine wC hF [.sh] zgw (fun z8 hF=>?_)
 try simp[go_sem,g,h7]
 refine wH hF (fun h9 hF=>?_) fun h9 hF=>?_
 ·exact wV h9 (hj1 _) (zaa hF)
 try simp[go_sem,g,h9]
 refine wC hF [.sh] zgw (fun z10 hF=>?_)
 exact wV h9 (hj1 _) (zaa hF)
def zcS (a0:Group) (a1:Int):Option Bool:=
 (((zax a1 1 (i64.wrap (a0.P-1))).bind fun z4=>
 if z4=true then(
 (zdT a1 a0.Q a0.P).bind fun z6=>
 some (z6==1))else(
 some false):Option Bool).bind fun x3=>
 some x3)
theorem zgS:∀{a0}{a1}{r},zcS a0 a1=some r→PCalls Tryz.prog 41 [(.sh,vD a0),(.sh,.int .i64 a1)] (Eo (.bool r) [.junk,.junk]):=by
 intro a0 a1 r hr
 apply pF 19 [] [] [] [.tmp 4] hr zIa Tryz.func41
 intro Φ hΦ hF g
 unfold zcS at hF
 refine wW ?_
 refine wJ hF (fun x3=>[(4,.v (.bool x3))]) (fun x3 hF=>?_) fun _ hj1 hF=>?_
 ·exact wm hΦ hF
 refine wC hF [.sh,.sh,.sh] zaT (fun z4 hF=>?_)
 refine wG hF (fun h5 hF=>?_) fun h5 hF=>?_
 ·try simp[go_sem,g,h5]
  refine wC hF [.sh,.sh,.sh] ziO (fun z6 hF=>?_)
  exact wV h5 (hj1 _) (zaa hF)
 exact wV h5 (hj1 _) (zaa hF)
def zeq (a0:Int):Option Bool:=
 (zax a0 0 999999).bind fun z1=>
 some z1
theorem zjN:∀{a0}{r},zeq a0=some r→PCalls Tryz.prog 42 [(.sh,.int .i64 a0)] (Eo (.bool r) [.junk]):=by
 intro a0 r hr
 apply pF 5 [] [] [] [.tmp 2] hr zG1 Tryz.func42
 intro Φ hΦ hF g
 unfold zeq at hF
 refine wW ?_
 refine wC hF [.sh,.sh,.sh] zaT (fun z1 hF=>?_)
 exact wl hΦ hF
def zdl (a0:Int) (a1c0:Int) (a1c1:Int) (a1c2:Int) (a1c3:Int) (a1c4:Int):Option Bool:=
 (zax a0 0 a1c4).bind fun z1=>
 some z1
theorem zi6:∀{a0}{a1c0}{a1c1}{a1c2}{a1c3}{a1c4}{r},zdl a0 a1c0 a1c1 a1c2 a1c3 a1c4=some r→PCalls Tryz.prog 97 [(.sh,.int .i64 a0),(.sh,.fp [.int .i64 a1c0,.int .i64 a1c1,.int .i64 a1c2,.int .i64 a1c3,.int .i64 a1c4])] (Eo (.bool r) [.junk,.junk]):=by
 intro a0 a1c0 a1c1 a1c2 a1c3 a1c4 r hr
 apply pF 8 [] [] [] [.tmp 3] hr zGe Tryz.func97
 intro Φ hΦ hF g
 unfold zdl at hF
 refine wW ?_
 refine wC hF [.sh,.sh,.sh] zaT (fun z1 hF=>?_)
 exact wl hΦ hF
def zba (a0:Int) (a1c0u0c0:Int) (a1c0u0c1:Int) (a1c0u0c2:Int) (a1c0u0c3:Int) (a1c0u0c4:Int):Option Bool:=
 (zdl a0 a1c0u0c0 a1c0u0c1 a1c0u0c2 a1c0u0c3 a1c0u0c4).bind fun z1=>
 some (!z1)
theorem zf1:∀{a0}{a1c0u0c0}{a1c0u0c1}{a1c0u0c2}{a1c0u0c3}{a1c0u0c4}{r},zba a0 a1c0u0c0 a1c0u0c1 a1c0u0c2 a1c0u0c3 a1c0u0c4=some r→PCalls Tryz.prog 145 [(.sh,.int .i64 a0),(.sh,.fp [.func (.func 97) [] [.fp [.int .i64 a1c0u0c0,.int .i64 a1c0u0c1,.int .i64 a1c0u0c2,.int .i64 a1c0u0c3,.int .i64 a1c0u0c4]]])] (Eo (.bool r) [.junk,.junk]):=by
 intro a0 a1c0u0c0 a1c0u0c1 a1c0u0c2 a1c0u0c3 a1c0u0c4 r hr
 apply pF 8 [] [] [] [.tmp 3] hr zns Tryz.func145
 intro Φ hΦ hF g
 unfold zba at hF
 refine wW ?_
 refine wC hF [.sh] zi6 (fun z1 hF=>?_)
 exact wl hΦ hF
def zaR (a0:List Int) (a1u0c0u0c0:Int) (a1u0c0u0c1:Int) (a1u0c0u0c2:Int) (a1u0c0u0c3:Int) (a1u0c0u0c4:Int):Option Int:=
 ((zak (σ:=Unit) (fun i5 s4=>
 (ix a0 i5).bind fun x11=>
 (zba x11 a1u0c0u0c0 a1u0c0u0c1 a1u0c0u0c2 a1u0c0u0c3 a1u0c0u0c4).bind fun z12=>
 if z12=true then(
 some (.out (.inr i5)))else(
 some (.go ()))) (fun s4=>.inl ()) (a0.length) 0 ():Option (Unit ⊕ Int)).bind (Sum.elim (fun x3=>
 some (-1)) some))
theorem zcZ:∀{a0}{a1u0c0u0c0}{a1u0c0u0c1}{a1u0c0u0c2}{a1u0c0u0c3}{a1u0c0u0c4}{r},zaR a0 a1u0c0u0c0 a1u0c0u0c1 a1u0c0u0c2 a1u0c0u0c3 a1u0c0u0c4=some r→PCalls Tryz.prog 170 [(.sh,vA a0),(.sh,.func (.func 145) [] [.fp [.func (.func 97) [] [.fp [.int .i64 a1u0c0u0c0,.int .i64 a1u0c0u0c1,.int .i64 a1u0c0u0c2,.int .i64 a1u0c0u0c3,.int .i64 a1u0c0u0c4]]]])] (Eo (.int .i64 r) [.junk,.junk]):=by
 intro a0 a1u0c0u0c0 a1u0c0u0c1 a1u0c0u0c2 a1u0c0u0c3 a1u0c0u0c4 r hr
 apply pF 19 [] [] [] [.tmp 4] hr znj Tryz.func170
 intro Φ hΦ hF g
 unfold zaR at hF
 iterate 2 (try simp[go_sem,g];try intros;refine zal ?_)
 refine wS hF (fun x3=>[]) (fun x3 hF=>?_) fun _ hj1 hr2 hF=>?_
 ·exact wl hΦ hF
 refine wB ?_
 obtain⟨b14,hb15,hψ8⟩:=hF
 refine pR hb15 (fun i5 s4=>[(0,.v (vA a0)),(1,.v (.func (.func 145) [] [.fp [.func (.func 97) [] [.fp [.int .i64 a1u0c0u0c0,.int .i64 a1u0c0u0c1,.int .i64 a1u0c0u0c2,.int .i64 a1u0c0u0c3,.int .i64 a1u0c0u0c4]]]])),(7,.v (.int .i64 (a0.length:Int))),(8,.v (.int .i64 i5))]) (fun s4 _ hN16=>?_) (fun i5 s4 _ _ hi9 hi10 ho6 hg7 hF=>?_)
 ·exact wn hN16 (hj1 _) hψ8
 refine wW ?_
 refine wu hi9 hi10 ?_
 refine wW ?_
 refine wB ?_
 obtain⟨x11,g,hF⟩:=Rx g hF
 refine wW ?_
 refine wC hF [.sh] zf1 (fun z12 hF=>?_)
 refine wK [0,1,5,7,8,16] ?_
 refine wI hF (fun h13 hF=>?_) (fun h13 hF=>?_)
 ·cases ho6 _ (zaa hF)
  cases hΦ _ (hr2 _ hψ8)
  refine wW ?_
  try simp[go_sem,g]
 refine wW ?_
 exact wi hi9 hi10 (hg7 _) (zaa hF)
def zaL (a0:List Int) (a1u0c0u0c0:Int) (a1u0c0u0c1:Int) (a1u0c0u0c2:Int) (a1u0c0u0c3:Int) (a1u0c0u0c4:Int):Option Bool:=
 (zaR a0 a1u0c0u0c0 a1u0c0u0c1 a1u0c0u0c2 a1u0c0u0c3 a1u0c0u0c4).bind fun z1=>
 some (decide (0≤z1))
theorem zcK:∀{a0}{a1u0c0u0c0}{a1u0c0u0c1}{a1u0c0u0c2}{a1u0c0u0c3}{a1u0c0u0c4}{r},zaL a0 a1u0c0u0c0 a1u0c0u0c1 a1u0c0u0c2 a1u0c0u0c3 a1u0c0u0c4=some r→PCalls Tryz.prog 144 [(.sh,vA a0),(.sh,.func (.func 145) [] [.fp [.func (.func 97) [] [.fp [.int .i64 a1u0c0u0c0,.int .i64 a1u0c0u0c1,.int .i64 a1u0c0u0c2,.int .i64 a1u0c0u0c3,.int .i64 a1u0c0u0c4]]]])] (Eo (.bool r) [.junk,.junk]):=by
 intro a0 a1u0c0u0c0 a1u0c0u0c1 a1u0c0u0c2 a1u0c0u0c3 a1u0c0u0c4 r hr
 apply pF 9 [] [] [] [.tmp 4] hr zni Tryz.func144
 intro Φ hΦ hF g
 unfold zaL at hF
 refine wW ?_
 refine wC hF [.sh,.sh] zcZ (fun z1 hF=>?_)
 exact wl hΦ hF
def zbE (a0:List Int) (a1u0c0:Int) (a1u0c1:Int) (a1u0c2:Int) (a1u0c3:Int) (a1u0c4:Int):Option Bool:=
 (zaL a0 a1u0c0 a1u0c1 a1u0c2 a1u0c3 a1u0c4).bind fun z1=>
 some (!z1)
theorem zgh:∀{a0}{a1u0c0}{a1u0c1}{a1u0c2}{a1u0c3}{a1u0c4}{r},zbE a0 a1u0c0 a1u0c1 a1u0c2 a1u0c3 a1u0c4=some r→PCalls Tryz.prog 96 [(.sh,vA a0),(.sh,.func (.func 97) [] [.fp [.int .i64 a1u0c0,.int .i64 a1u0c1,.int .i64 a1u0c2,.int .i64 a1u0c3,.int .i64 a1u0c4]])] (Eo (.bool r) [.junk,.junk]):=by
 intro a0 a1u0c0 a1u0c1 a1u0c2 a1u0c3 a1u0c4 r hr
 apply pF 9 [] [] [1000000] [.tmp 4] hr zqg Tryz.func96
 intro Φ hΦ hF g
 unfold zbE at hF
 refine wW ?_
 refine wC hF [.sh,.sh] zcK (fun z1 hF=>?_)
 exact wl hΦ hF
def zdb (a0:Int) (a1c0:Int) (a2c0:Int):Option Bool:=
 (zax a0 a1c0 a2c0).bind fun z1=>
 some z1
theorem ziN:∀{a0}{a1c0}{a2c0}{r},zdb a0 a1c0 a2c0=some r→PCalls Tryz.prog 98 [(.sh,.int .i64 a0),(.sh,.fp [.int .i64 a1c0]),(.sh,.fp [.int .i64 a2c0])] (Eo (.bool r) [.junk,.junk,.junk]):=by
 intro a0 a1c0 a2c0 r hr
 apply pF 9 [] [] [] [.tmp 4] hr zHp Tryz.func98
 intro Φ hΦ hF g
 unfold zdb at hF
 refine wW ?_
 refine wC hF [.sh,.sh,.sh] zaT (fun z1 hF=>?_)
 exact wl hΦ hF
def za9 (a0:Int) (a1c0u0c0:Int) (a1c0u1c0:Int):Option Bool:=
 (zdb a0 a1c0u0c0 a1c0u1c0).bind fun z1=>
 some (!z1)
theorem zf2:∀{a0}{a1c0u0c0}{a1c0u1c0}{r},za9 a0 a1c0u0c0 a1c0u1c0=some r→PCalls Tryz.prog 145 [(.sh,.int .i64 a0),(.sh,.fp [.func (.func 98) [] [.fp [.int .i64 a1c0u0c0],.fp [.int .i64 a1c0u1c0]]])] (Eo (.bool r) [.junk,.junk]):=by
 intro a0 a1c0u0c0 a1c0u1c0 r hr
 apply pF 8 [] [] [] [.tmp 3] hr zns Tryz.func145
 intro Φ hΦ hF g
 unfold za9 at hF
 refine wW ?_
 refine wC hF [.sh] ziN (fun z1 hF=>?_)
 exact wl hΦ hF
def zaS (a0:List Int) (a1u0c0u0c0:Int) (a1u0c0u1c0:Int):Option Int:=
 ((zak (σ:=Unit) (fun i5 s4=>
 (ix a0 i5).bind fun x11=>
 (za9 x11 a1u0c0u0c0 a1u0c0u1c0).bind fun z12=>
 if z12=true then(
 some (.out (.inr i5)))else(
 some (.go ()))) (fun s4=>.inl ()) (a0.length) 0 ():Option (Unit ⊕ Int)).bind (Sum.elim (fun x3=>
 some (-1)) some))
theorem zcY:∀{a0}{a1u0c0u0c0}{a1u0c0u1c0}{r},zaS a0 a1u0c0u0c0 a1u0c0u1c0=some r→PCalls Tryz.prog 170 [(.sh,vA a0),(.sh,.func (.func 145) [] [.fp [.func (.func 98) [] [.fp [.int .i64 a1u0c0u0c0],.fp [.int .i64 a1u0c0u1c0]]]])] (Eo (.int .i64 r) [.junk,.junk]):=by
 intro a0 a1u0c0u0c0 a1u0c0u1c0 r hr
 apply pF 19 [] [] [] [.tmp 4] hr znj Tryz.func170
 intro Φ hΦ hF g
 unfold zaS at hF
 iterate 2 (try simp[go_sem,g];try intros;refine zal ?_)
 refine wS hF (fun x3=>[]) (fun x3 hF=>?_) fun _ hj1 hr2 hF=>?_
 ·exact wl hΦ hF
 refine wB ?_
 obtain⟨b14,hb15,hψ8⟩:=hF
 refine pR hb15 (fun i5 s4=>[(0,.v (vA a0)),(1,.v (.func (.func 145) [] [.fp [.func (.func 98) [] [.fp [.int .i64 a1u0c0u0c0],.fp [.int .i64 a1u0c0u1c0]]]])),(7,.v (.int .i64 (a0.length:Int))),(8,.v (.int .i64 i5))]) (fun s4 _ hN16=>?_) (fun i5 s4 _ _ hi9 hi10 ho6 hg7 hF=>?_)
 ·exact wn hN16 (hj1 _) hψ8
 refine wW ?_
 refine wu hi9 hi10 ?_
 refine wW ?_
 refine wB ?_
 obtain⟨x11,g,hF⟩:=Rx g hF
 refine wW ?_
 refine wC hF [.sh] zf2 (fun z12 hF=>?_)
 refine wK [0,1,5,7,8,16] ?_
 refine wI hF (fun h13 hF=>?_) (fun h13 hF=>?_)
 ·cases ho6 _ (zaa hF)
  cases hΦ _ (hr2 _ hψ8)
  refine wW ?_
  try simp[go_sem,g]
 refine wW ?_
 exact wi hi9 hi10 (hg7 _) (zaa hF)
def zaM (a0:List Int) (a1u0c0u0c0:Int) (a1u0c0u1c0:Int):Option Bool:=
 (zaS a0 a1u0c0u0c0 a1u0c0u1c0).bind fun z1=>
 some (decide (0≤z1))
theorem zcM:∀{a0}{a1u0c0u0c0}{a1u0c0u1c0}{r},zaM a0 a1u0c0u0c0 a1u0c0u1c0=some r→PCalls Tryz.prog 144 [(.sh,vA a0),(.sh,.func (.func 145) [] [.fp [.func (.func 98) [] [.fp [.int .i64 a1u0c0u0c0],.fp [.int .i64 a1u0c0u1c0]]]])] (Eo (.bool r) [.junk,.junk]):=by
 intro a0 a1u0c0u0c0 a1u0c0u1c0 r hr
 apply pF 9 [] [] [] [.tmp 4] hr zni Tryz.func144
 intro Φ hΦ hF g
 unfold zaM at hF
 refine wW ?_
 refine wC hF [.sh,.sh] zcY (fun z1 hF=>?_)
 exact wl hΦ hF
def zbD (a0:List Int) (a1u0c0:Int) (a1u1c0:Int):Option Bool:=
 (zaM a0 a1u0c0 a1u1c0).bind fun z1=>
 some (!z1)
theorem zgj:∀{a0}{a1u0c0}{a1u1c0}{r},zbD a0 a1u0c0 a1u1c0=some r→PCalls Tryz.prog 96 [(.sh,vA a0),(.sh,.func (.func 98) [] [.fp [.int .i64 a1u0c0],.fp [.int .i64 a1u1c0]])] (Eo (.bool r) [.junk,.junk]):=by
 intro a0 a1u0c0 a1u1c0 r hr
 apply pF 9 [] [] [1000000] [.tmp 4] hr zqg Tryz.func96
 intro Φ hΦ hF g
 unfold zbD at hF
 refine wW ?_
 refine wC hF [.sh,.sh] zcM (fun z1 hF=>?_)
 exact wl hΦ hF
def zeX (a0:Int):Option Bool:=
 some (a0 !=a0)
theorem zjm:∀{a0}{r},zeX a0=some r→PCalls Tryz.prog 171 [(.sh,.int .i64 a0)] (Eo (.bool r) [.junk]):=by
 intro a0 r hr
 apply pF 6 [] [] [] [.tmp 2] hr zDp Tryz.func171
 intro Φ hΦ hF g
 unfold zeX at hF
 cases hΦ _ (zaa hF)
 iterate 2 refine wW ?_
 try simp[go_sem,g]
def zfl (a0:Int) (a1:Int):Option Bool:=
 (((zeX a0).bind fun z4=>
 if z4=true then(
 (zeX a1).bind fun z6=>
 if(!z6)=true then(
 some true)else(
 some (decide (a0<a1))))else(
 some (decide (a0<a1))):Option Bool).bind fun x3=>
 some x3)
theorem zoe:∀{a0}{a1}{r},zfl a0 a1=some r→PCalls Tryz.prog 146 [(.sh,.int .i64 a0),(.sh,.int .i64 a1)] (Eo (.bool r) [.junk,.junk]):=by
 intro a0 a1 r hr
 apply pF 17 [] [] [] [.tmp 4] hr zCN Tryz.func146
 intro Φ hΦ hF g
 unfold zfl at hF
 refine wW ?_
 refine wJ hF (fun x3=>[(4,.v (.bool x3))]) (fun x3 hF=>?_) fun _ hj1 hF=>?_
 ·exact wm hΦ hF
 refine wC hF [.sh] zjm (fun z4 hF=>?_)
 refine wG hF (fun h5 hF=>?_) fun h5 hF=>?_
 ·try simp[go_sem,g,h5]
  refine wC hF [.sh] zjm (fun z6 hF=>?_)
  try simp[go_sem,g,h5]
  refine wG hF (fun h7 hF=>?_) fun h7 hF=>?_
  ·exact wV h7 (hj1 _) (zaa hF)
  exact wV h7 (hj1 _) (zaa hF)
 exact wV h5 (hj1 _) (zaa hF)
@[go_sem] def zCr:List DE:=[d0 0 [0],d0 1 [3],d0 2 [11,12],d0 3 [13],d0 4 [0],d0 5 [3],d0 6 [16],d0 7 [15,17],d0 8 [18],d3 9 [14,19]]
def zcb (a0:List Int):Option Bool:=
 ((zaN (σ:=Int) (fun s4=>
 if decide (0<s4)=true then(
 (ix a0 s4).bind fun x10=>
 (ix a0 (i64.wrap (s4-1))).bind fun x11=>
 (zfl x10 x11).bind fun z12=>
 if z12=true then(
 some (.out (.inr false)))else(
 some (.go (i64.wrap (s4-1)))))else(
 some (.out (.inl ())))) (i64.wrap ((a0.length:Int)-1)):Option (Unit ⊕ Bool)).bind (Sum.elim (fun x3=>
 some true) some))
theorem zit:∀{a0}{r},zcb a0=some r→PCalls Tryz.prog 99 [(.sh,vA a0)] (Eo (.bool r) [.junk]):=by
 intro a0 r hr
 apply pF 21 [] [] [] [.tmp 2] hr zHn Tryz.func99
 intro Φ hΦ hF g
 unfold zcb at hF
 iterate 2 (try simp[go_sem,g];try intros;refine zal ?_)
 refine wS hF (fun x3=>[]) (fun x3 hF=>?_) fun _ hj1 hr2 hF=>?_
 ·exact wl hΦ hF
 refine wB ?_
 obtain⟨b14,hb15,hψ8⟩:=hF
 refine pL hb15 (fun s4=>[(0,.v (vA a0)),(3,.v (.int .i64 s4))]) (fun s4 _ _ ho6 hg7 hF=>?_)
 refine wW ?_
 refine wI hF (fun h9 hF=>?_) (fun h9 hF=>?_)
 ·refine wW ?_
  refine wB ?_
  refine wX zCr follows ?_
  obtain⟨x10,g,hF⟩:=Rx g hF
  obtain⟨x11,g,hF⟩:=Rx g hF
  refine wC hF [.sh,.sh] zoe (fun z12 hF=>?_)
  refine wK [0,3,20] ?_
  refine wI hF (fun h13 hF=>?_) (fun h13 hF=>?_)
  ·cases ho6 _ (zaa hF)
   cases hΦ _ (hr2 _ hψ8)
   refine wW ?_
   try simp[go_sem,g]
  refine wW ?_
  exact wT (hg7 _) (zaa hF)
 cases ho6 _ (zaa hF)
 exact wT (hj1 _) hψ8
def zb3 (a0:List Int) (a1:Int):Option Int:=
 ((zak (σ:=Unit) (fun i5 s4=>
 (ix a0 i5).bind fun x11=>
 if(a1==x11)=true then(
 some (.out (.inr i5)))else(
 some (.go ()))) (fun s4=>.inl ()) (a0.length) 0 ():Option (Unit ⊕ Int)).bind (Sum.elim (fun x3=>
 some (-1)) some))
theorem zjz:∀{a0}{a1}{r},zb3 a0 a1=some r→PCalls Tryz.prog 172 [(.sh,vA a0),(.sh,.int .i64 a1)] (Eo (.int .i64 r) [.junk,.junk]):=by
 intro a0 a1 r hr
 apply pF 19 [] [] [] [.tmp 4] hr zDs Tryz.func172
 intro Φ hΦ hF g
 unfold zb3 at hF
 iterate 2 (try simp[go_sem,g];try intros;refine zal ?_)
 refine wS hF (fun x3=>[]) (fun x3 hF=>?_) fun _ hj1 hr2 hF=>?_
 ·exact wl hΦ hF
 refine wB ?_
 obtain⟨b13,hb14,hψ8⟩:=hF
 refine pR hb14 (fun i5 s4=>[(0,.v (vA a0)),(1,.v (.int .i64 a1)),(7,.v (.int .i64 (a0.length:Int))),(8,.v (.int .i64 i5))]) (fun s4 _ hN15=>?_) (fun i5 s4 _ _ hi9 hi10 ho6 hg7 hF=>?_)
 ·exact wn hN15 (hj1 _) hψ8
 refine wW ?_
 refine wu hi9 hi10 ?_
 refine wW ?_
 refine wB ?_
 obtain⟨x11,g,hF⟩:=Rx g hF
 refine wW ?_
 refine wK [0,1,5,7,8,16] ?_
 refine wI hF (fun h12 hF=>?_) (fun h12 hF=>?_)
 ·cases ho6 _ (zaa hF)
  cases hΦ _ (hr2 _ hψ8)
  refine wW ?_
  try simp[go_sem,g]
 refine wW ?_
 exact wi hi9 hi10 (hg7 _) (zaa hF)
def zca (a0:List Int) (a1:Int):Option Bool:=
 (zb3 a0 a1).bind fun z1=>
 some (decide (0≤z1))
theorem ziu:∀{a0}{a1}{r},zca a0 a1=some r→PCalls Tryz.prog 147 [(.sh,vA a0),(.sh,.int .i64 a1)] (Eo (.bool r) [.junk,.junk]):=by
 intro a0 a1 r hr
 apply pF 9 [] [] [] [.tmp 4] hr zBo Tryz.func147
 intro Φ hΦ hF g
 unfold zca at hF
 refine wW ?_
 refine wC hF [.sh,.sh] zjz (fun z1 hF=>?_)
 exact wl hΦ hF
def zdu (a0:List Int):Option Bool:=
 ((zak (σ:=Unit) (fun i5 s4=>
 (ix a0 i5).bind fun x11=>
 gd (0≤i5)<|
 gd (0≤i5.toNat∧i5.toNat≤a0.length)<|
 (zca ((a0.take i5.toNat).drop 0) x11).bind fun z12=>
 if z12=true then(
 some (.out (.inr false)))else(
 some (.go ()))) (fun s4=>.inl ()) (a0.length) 0 ():Option (Unit ⊕ Bool)).bind (Sum.elim (fun x3=>
 some true) some))
theorem zhx:∀{a0}{r},zdu a0=some r→PCalls Tryz.prog 100 [(.sh,vA a0)] (Eo (.bool r) [.junk]):=by
 intro a0 r hr
 apply pF 18 [] [] [] [.tmp 2] hr zDt Tryz.func100
 intro Φ hΦ hF g
 unfold zdu at hF
 iterate 2 (try simp[go_sem,g];try intros;refine zal ?_)
 refine wS hF (fun x3=>[]) (fun x3 hF=>?_) fun _ hj1 hr2 hF=>?_
 ·exact wl hΦ hF
 refine wB ?_
 obtain⟨b14,hb15,hψ8⟩:=hF
 refine pR hb15 (fun i5 s4=>[(0,.v (vA a0)),(5,.v (vA a0)),(6,.v (.int .i64 (a0.length:Int))),(7,.v (.int .i64 i5))]) (fun s4 _ hN16=>?_) (fun i5 s4 _ _ hi9 hi10 ho6 hg7 hF=>?_)
 ·exact wn hN16 (hj1 _) hψ8
 refine wW ?_
 refine wu hi9 hi10 ?_
 refine wW ?_
 refine wB ?_
 obtain⟨x11,g,hF⟩:=Rx g hF
 refine wK [0,3,4,5,6,7] ?_
 obtain⟨g,hF⟩:=Rg g hF
 obtain⟨g,hF⟩:=Rg g hF
 refine wC hF [.sh,.sh] ziu (fun z12 hF=>?_)
 refine wW ?_
 refine wI hF (fun h13 hF=>?_) (fun h13 hF=>?_)
 ·cases ho6 _ (zaa hF)
  cases hΦ _ (hr2 _ hψ8)
  refine wW ?_
  try simp[go_sem,g]
 refine wW ?_
 exact wi hi9 hi10 (hg7 _) (zaa hF)
@[go_sem] def zxO:List DE:=[d0 0 [1],d0 1 [10],d0 2 [2],d0 3 [12],d0 4 [13],d0 5 [],d0 6 [],d0 7 [11],d2 8 [6] 6 6,d2 9 [7,14] 7 7]
@[go_sem] def zCa:List DE:=[d0 0 [2],d0 1 [30],d0 2 [],d2 3 [6] 6 6,d2 4 [7,31] 7 7]
def zcX (a0:Contest) (a1:List Int):Option Bool:=
 ((if(a0.Kind==2)=true then(
 ((if((a1.length:Int) !=a0.Options)=true then(
 some true)else(
 (zbE a1 a0.Kind a0.Options a0.Least a0.Most a0.Points).bind fun z9=>
 some (!z9)):Option Bool).bind fun x7=>
 if x7=true then(
 some (.inr false))else(
 zak (σ:=Int) (fun i12 s11=>
 (ix a1 i12).bind fun x18=>
 some (.go (i64.wrap (s11+x18)))) (fun s11=>.inl (s11,0,a0.Points)) (a1.length) 0 0)))else(
 if(a0.Kind==4)=true then(
 some (.inl ((a1.length:Int),1,26)))else(
 some (.inl ((a1.length:Int),0,i64.wrap (a0.Options-1))))):Option ((Int×Int×Int) ⊕ Bool)).bind (Sum.elim (fun x3=>
 (((zax x3.1 a0.Least a0.Most).bind fun z27=>
 if(!z27)=true then(
 some true)else(
 (zbD a1 x3.2.1 x3.2.2).bind fun z29=>
 some (!z29)):Option Bool).bind fun x26=>
 if x26=true then(
 some false)else(
 if(a0.Kind==1)=true then(
 (((zcb a1).bind fun z35=>
 if z35=true then(
 (zdu a1).bind fun z37=>
 some z37)else(
 some false):Option Bool).bind fun x34=>
 some x34))else(
 if(a0.Kind==3)=true then(
 (zdu a1).bind fun z39=>
 some z39)else(
 some true))))) some))
theorem zjT:∀{a0}{a1}{r},zcX a0 a1=some r→PCalls Tryz.prog 43 [(.sh,vE a0),(.sh,vA a1)] (Eo (.bool r) [.junk,.junk]):=by
 intro a0 a1 r hr
 apply pF 71 [] [2] [2,1000000] [.tmp 4] hr zGE Tryz.func43
 intro Φ hΦ hF g
 unfold zcX at hF
 refine wW ?_
 refine wX zxO follows ?_
 try simp[go_sem,g]
 try intros
 refine wK [1,2,5,6,7] ?_
 refine wW ?_
 refine wS hF (fun x3=>[(1,.v (vA a1)),(2,.v (.fp [.int .i64 a0.Kind,.int .i64 a0.Options,.int .i64 a0.Least,.int .i64 a0.Most,.int .i64 a0.Points])),(5,.v (.int .i64 x3.1)),(6,.bl [.int .i64 x3.2.1]),(7,.bl [.int .i64 x3.2.2])]) (fun x3 hF=>?_) fun _ hj1 hr2 hF=>?_
 ·refine wJ hF (fun x26=>[(1,.v (vA a1)),(2,.v (.fp [.int .i64 a0.Kind,.int .i64 a0.Options,.int .i64 a0.Least,.int .i64 a0.Most,.int .i64 a0.Points])),(56,.v (.bool x26))]) (fun x26 hF=>?_) fun _ hj24 hF=>?_
  ·refine wI hF (fun h30 hF=>?_) (fun h30 hF=>?_)
   ·exact wl hΦ hF
   iterate 2 refine wW ?_
   refine wB ?_
   refine wW ?_
   refine wI hF (fun h31 hF=>?_) (fun h31 hF=>?_)
   ·refine wJ hF (fun x34=>[(4,.v (.bool x34))]) (fun x34 hF=>?_) fun _ hj32 hF=>?_
    ·exact wm hΦ hF
    refine wC hF [.sh] zit (fun z35 hF=>?_)
    refine wG hF (fun h36 hF=>?_) fun h36 hF=>?_
    ·try simp[go_sem,g,h36]
     refine wC hF [.sh] zhx (fun z37 hF=>?_)
     exact wV h36 (hj32 _) (zaa hF)
    exact wV h36 (hj32 _) (zaa hF)
   refine wW ?_
   refine wI hF (fun h38 hF=>?_) (fun h38 hF=>?_)
   ·refine wC hF [.sh] zhx (fun z39 hF=>?_)
    refine wK [4] ?_
    exact wm hΦ hF
   cases hΦ _ (zaa hF)
   iterate 2 refine wW ?_
   try simp[go_sem,g]
  refine wC hF [.sh,.sh,.sh] zaT (fun z27 hF=>?_)
  refine wG hF (fun h28 hF=>?_) fun h28 hF=>?_
  ·exact wV h28 (hj24 _) (zaa hF)
  try simp[go_sem,g,h28]
  refine wC hF [.sh,.sh] zgj (fun z29 hF=>?_)
  exact wV h28 (hj24 _) (zaa hF)
 refine wB ?_
 refine wW ?_
 refine wI hF (fun h4 hF=>?_) (fun h4 hF=>?_)
 ·refine wJ hF (fun x7=>[(1,.v (vA a1)),(2,.v (.fp [.int .i64 a0.Kind,.int .i64 a0.Options,.int .i64 a0.Least,.int .i64 a0.Most,.int .i64 a0.Points])),(6,.bl [.int .i64 0]),(7,.bl [.int .i64 (i64.wrap (a0.Options-1))]),(29,.v (.bool x7))]) (fun x7 hF=>?_) fun _ hj5 hF=>?_
  ·refine wI hF (fun h10 hF=>?_) (fun h10 hF=>?_)
   ·cases hΦ _ (hr2 _ (zaa hF))
    refine wW ?_
    try simp[go_sem,g]
   refine wW ?_
   refine wX zCa follows ?_
   try simp[go_sem,g]
   try intros
   refine zal ?_
   try simp[go_sem,g]
   try intros
   refine wK [1,2,5,6,7,32,33,34] ?_
   refine wB ?_
   obtain⟨b19,hb20,hψ15⟩:=hF
   refine pR hb20 (fun i12 s11=>[(1,.v (vA a1)),(2,.v (.fp [.int .i64 a0.Kind,.int .i64 a0.Options,.int .i64 a0.Least,.int .i64 a0.Most,.int .i64 a0.Points])),(5,.v (.int .i64 s11)),(6,.bl [.int .i64 0]),(7,.bl [.int .i64 a0.Points]),(32,.v (vA a1)),(33,.v (.int .i64 (a1.length:Int))),(34,.v (.int .i64 i12))]) (fun s11 _ hN21=>?_) (fun i12 s11 _ _ hi16 hi17 ho13 hg14 hF=>?_)
   ·exact wn hN21 (hj1 _) hψ15
   refine wW ?_
   refine wu hi16 hi17 ?_
   refine wW ?_
   refine wB ?_
   obtain⟨x18,g,hF⟩:=Rx g hF
   iterate 2 refine wW ?_
   exact wi hi16 hi17 (hg14 _) (zaa hF)
  try simp[go_sem,g]
  try intros
  refine wG hF (fun h8 hF=>?_) fun h8 hF=>?_
  ·exact wV h8 (hj5 _) (zaa hF)
  try simp[go_sem,g,h8]
  refine wC hF [.sh,.sh] zgh (fun z9 hF=>?_)
  exact wV h8 (hj5 _) (zaa hF)
 refine wW ?_
 refine wI hF (fun h23 hF=>?_) (fun h23 hF=>?_)
 ·exact wT (hj1 _) (zaa hF)
 exact wT (hj1 _) (zaa hF)
def zbt (a0:Contest):Option Int:=
 if(a0.Kind==2)=true then(
 some a0.Points)else(
 some 1)
theorem zfZ:∀{a0}{r},zbt a0=some r→PCalls Tryz.prog 52 [(.sh,vE a0)] (Eo (.int .i64 r) [.junk]):=by
 intro a0 r hr
 apply pF 8 [] [] [] [.tmp 2] hr zFH Tryz.func52
 intro Φ hΦ hF g
 unfold zbt at hF
 iterate 2 refine wW ?_
 refine wI hF (fun h1 hF=>?_) (fun h1 hF=>?_)
 ·exact wl hΦ hF
 cases hΦ _ (zaa hF)
 iterate 2 refine wW ?_
 try simp[go_sem,g]
@[go_sem] def zDe:List DE:=[d2 0 [1] 1 1,d1 4 [1] 1,d2 5 [10] 1 10,d1 7 [1] 1,d2 8 [13] 1 13,d1 9 [1] 1,d2 10 [15] 1 15,d0 11 [14,16],d0 12 [17],d3 1 [6],d0 2 [7],d0 3 [8],d0 6 [9,11],d0 13 [12,18],d0 14 [19],d0 15 [20]]
def zdk (a0:Contest):Option Int:=
 (zbN a0).bind fun z1=>
 if(!z1)=true then(
 some 2)else(
 (zbt a0).bind fun z3=>
 some (i64.wrap ((i64.wrap ((i64.wrap ((i64.wrap ((i64.wrap (2*z3))+2))*a0.Options))+(i64.wrap (2*(i64.wrap (a0.Most-a0.Least))))))+1)))
theorem zkg:∀{a0}{r},zdk a0=some r→PCalls Tryz.prog 44 [(.sh,vE a0)] (Eo (.int .i64 r) [.junk]):=by
 intro a0 r hr
 apply pF 21 [] [] [] [.tmp 2] hr zHT Tryz.func44
 intro Φ hΦ hF g
 unfold zdk at hF
 refine wW ?_
 refine wC hF [.sh] zfn (fun z1 hF=>?_)
 refine wW ?_
 refine wI hF (fun h2 hF=>?_) (fun h2 hF=>?_)
 ·exact wl hΦ hF
 refine wW ?_
 refine wX zDe follows ?_
 refine wC hF [.sh] zfZ (fun z3 hF=>?_)
 refine wK [2] ?_
 exact wm hΦ hF
def zc2 (a0:Group) (a1:Int):Option Bool:=
 (zax a1 0 (i64.wrap (a0.Q-1))).bind fun z1=>
 some z1
theorem zh4:∀{a0}{a1}{r},zc2 a0 a1=some r→PCalls Tryz.prog 101 [(.sh,vD a0),(.sh,.int .i64 a1)] (Eo (.bool r) [.junk,.junk]):=by
 intro a0 a1 r hr
 apply pF 10 [] [] [] [.tmp 4] hr zCH Tryz.func101
 intro Φ hΦ hF g
 unfold zc2 at hF
 refine wW ?_
 refine wC hF [.sh,.sh,.sh] zaT (fun z1 hF=>?_)
 exact wl hΦ hF
def zbk (a0:Int) (a1c0x0:Group):Option Bool:=
 (zc2 a1c0x0 a0).bind fun z1=>
 some (!z1)
theorem zgF:∀{a0}{a1c0x0}{r},zbk a0 a1c0x0=some r→PCalls Tryz.prog 145 [(.sh,.int .i64 a0),(.sh,.fp [.func (.func 101) [vD a1c0x0] []])] (Eo (.bool r) [.junk,.junk]):=by
 intro a0 a1c0x0 r hr
 apply pF 8 [] [] [] [.tmp 3] hr zns Tryz.func145
 intro Φ hΦ hF g
 unfold zbk at hF
 refine wW ?_
 refine wC hF [.sh] zh4 (fun z1 hF=>?_)
 exact wl hΦ hF
def za3 (a0:List Int) (a1u0c0x0:Group):Option Int:=
 ((zak (σ:=Unit) (fun i5 s4=>
 (ix a0 i5).bind fun x11=>
 (zbk x11 a1u0c0x0).bind fun z12=>
 if z12=true then(
 some (.out (.inr i5)))else(
 some (.go ()))) (fun s4=>.inl ()) (a0.length) 0 ():Option (Unit ⊕ Int)).bind (Sum.elim (fun x3=>
 some (-1)) some))
theorem zds:∀{a0}{a1u0c0x0}{r},za3 a0 a1u0c0x0=some r→PCalls Tryz.prog 170 [(.sh,vA a0),(.sh,.func (.func 145) [] [.fp [.func (.func 101) [vD a1u0c0x0] []]])] (Eo (.int .i64 r) [.junk,.junk]):=by
 intro a0 a1u0c0x0 r hr
 apply pF 19 [] [] [] [.tmp 4] hr znj Tryz.func170
 intro Φ hΦ hF g
 unfold za3 at hF
 iterate 2 (try simp[go_sem,g];try intros;refine zal ?_)
 refine wS hF (fun x3=>[]) (fun x3 hF=>?_) fun _ hj1 hr2 hF=>?_
 ·exact wl hΦ hF
 refine wB ?_
 obtain⟨b14,hb15,hψ8⟩:=hF
 refine pR hb15 (fun i5 s4=>[(0,.v (vA a0)),(1,.v (.func (.func 145) [] [.fp [.func (.func 101) [vD a1u0c0x0] []]])),(7,.v (.int .i64 (a0.length:Int))),(8,.v (.int .i64 i5))]) (fun s4 _ hN16=>?_) (fun i5 s4 _ _ hi9 hi10 ho6 hg7 hF=>?_)
 ·exact wn hN16 (hj1 _) hψ8
 refine wW ?_
 refine wu hi9 hi10 ?_
 refine wW ?_
 refine wB ?_
 obtain⟨x11,g,hF⟩:=Rx g hF
 refine wW ?_
 refine wC hF [.sh] zgF (fun z12 hF=>?_)
 refine wK [0,1,5,7,8,16] ?_
 refine wI hF (fun h13 hF=>?_) (fun h13 hF=>?_)
 ·cases ho6 _ (zaa hF)
  cases hΦ _ (hr2 _ hψ8)
  refine wW ?_
  try simp[go_sem,g]
 refine wW ?_
 exact wi hi9 hi10 (hg7 _) (zaa hF)
def zaV (a0:List Int) (a1u0c0x0:Group):Option Bool:=
 (za3 a0 a1u0c0x0).bind fun z1=>
 some (decide (0≤z1))
theorem zc7:∀{a0}{a1u0c0x0}{r},zaV a0 a1u0c0x0=some r→PCalls Tryz.prog 144 [(.sh,vA a0),(.sh,.func (.func 145) [] [.fp [.func (.func 101) [vD a1u0c0x0] []]])] (Eo (.bool r) [.junk,.junk]):=by
 intro a0 a1u0c0x0 r hr
 apply pF 9 [] [] [] [.tmp 4] hr zni Tryz.func144
 intro Φ hΦ hF g
 unfold zaV at hF
 refine wW ?_
 refine wC hF [.sh,.sh] zds (fun z1 hF=>?_)
 exact wl hΦ hF
def zb2 (a0:List Int) (a1x0:Group):Option Bool:=
 (zaV a0 a1x0).bind fun z1=>
 some (!z1)
theorem zg7:∀{a0}{a1x0}{r},zb2 a0 a1x0=some r→PCalls Tryz.prog 96 [(.sh,vA a0),(.sh,.func (.func 101) [vD a1x0] [])] (Eo (.bool r) [.junk,.junk]):=by
 intro a0 a1x0 r hr
 apply pF 9 [] [] [1000000] [.tmp 4] hr zqg Tryz.func96
 intro Φ hΦ hF g
 unfold zb2 at hF
 refine wW ?_
 refine wC hF [.sh,.sh] zc7 (fun z1 hF=>?_)
 exact wl hΦ hF
def za0 (a0:Group) (a1:List Int):Option Bool:=
 (zb2 a1 a0).bind fun z1=>
 some z1
theorem zcq:∀{a0}{a1}{r},za0 a0 a1=some r→PCalls Tryz.prog 45 [(.sh,vD a0),(.sh,vA a1)] (Eo (.bool r) [.junk,.junk]):=by
 intro a0 a1 r hr
 apply pF 9 [] [] [] [.tmp 4] hr zIL Tryz.func45
 intro Φ hΦ hF g
 unfold za0 at hF
 refine wW ?_
 refine wC hF [.sh,.sh] zg7 (fun z1 hF=>?_)
 exact wl hΦ hF
def zff (a0:Int):Option ByteArray:=
 gd (-9223372036854775808≤a0∧a0≤9223372036854775807)<|
 some ⟨(Lib.itoa a0).toArray⟩
theorem zoq:∀{a0}{r},zff a0=some r→PCalls Tryz.prog 102 [(.sh,.int .i64 a0)] (Eo (.str r) [.junk]):=by
 intro a0 r hr
 have hF:Rn _ (fun x=>x=r):=⟨r,hr,rfl⟩
 unfold zff at hF
 obtain⟨⟨g0,g1⟩,hF⟩:=zgo hF
 have h1:=zaa hF
 subst h1
 exact Go.Pm.itoa_calls zCS g0 g1
def zdR (a0:Int):Option ByteArray:=
 (zff a0).bind fun z1=>
 gd ((⟨#[98,97,108,108,111,116,32]⟩:ByteArray).size+z1.size≤9223372036854775807)<|
 some ((⟨#[98,97,108,108,111,116,32]⟩:ByteArray)++z1)
theorem zll:∀{a0}{r},zdR a0=some r→PCalls Tryz.prog 46 [(.sh,.int .i64 a0)] (Eo (.str r) [.junk]):=by
 intro a0 r hr
 apply pF 6 [] [] [] [.tmp 2] hr zHW Tryz.func46
 intro Φ hΦ hF g
 unfold zdR at hF
 refine wW ?_
 refine wC hF [.sh] zoq (fun z1 hF=>?_)
 obtain⟨g,hF⟩:=Rsa g hF
 exact wl hΦ hF
def zdM (a0:Contest) (a1:List Int):Option ((List Int)):=
 gd (0≤a0.Options∧a0.Options≤a0.Options∧8*a0.Options≤140737488355328∧a0.Options≤4611686018427387904)<|
 (some (List.replicate a0.Options.toNat 0)).bind fun x1=>
 ((zak (σ:=(List Int)) (fun i17 s16=>
 (ix a1 i17).bind fun x23=>
 (ix s16 x23).bind fun x24=>
 some (.go (s16.set x23.toNat 1))) (fun s16=>s16) (a1.length) 0 x1:Option ((List Int))).bind fun x6=>
 some x6)
theorem zjA:∀{a0}{a1}{r},zdM a0 a1=some r→PCalls Tryz.prog 149 [(.sh,vE a0),(.sh,vA a1)] (Eo (vF r) [.junk,.junk]):=by
 intro a0 a1 r hr
 apply pF 22 [] [] [] [.tmp 4] hr zDC Tryz.func149
 intro Φ hΦ hF g
 unfold zdM at hF
 obtain⟨g,hF⟩:=Rg g hF
 obtain⟨x1,e2,hF⟩:=zdY hF
 have g3:List.replicate a0.Options.toNat ([.int .i64 0]:List PV)=x1.map zaf:=by injection e2 with e2;rw[←e2];simp[go_sem]
 iterate 3 (try simp[go_sem,g,g3];try intros;refine zal ?_)
 refine wJ hF (fun x6=>[(5,.v (vF x6))]) (fun x6 hF=>?_) fun _ hj4 hF=>?_
 ·refine wK [4] ?_
  exact wm hΦ hF
 refine wB ?_
 obtain⟨b25,hb26,hψ20⟩:=hF
 refine pR hb26 (fun i17 s16=>[(5,.v (vF s16)),(11,.v (vA a1)),(12,.v (.int .i64 (a1.length:Int))),(13,.v (.int .i64 i17))]) (fun s16 _ hN27=>?_) (fun i17 s16 _ _ hi21 hi22 ho18 hg19 hF=>?_)
 ·exact wn hN27 (hj4 _) hψ20
 refine wK [5,11,12,13,14] ?_
 refine wu hi21 hi22 ?_
 refine wW ?_
 refine wB ?_
 obtain⟨x23,g,hF⟩:=Rx g hF
 obtain⟨x24,g,hF⟩:=Rx g hF
 iterate 2 refine wW ?_
 exact wi hi21 hi22 (hg19 _) (zaa hF)
def zcL (a0:List Int):Option (List Int):=
 gd (a0.length*8≤140737488355328∧a0.length≤4611686018427387904)<|
 some a0
theorem zjD {a0:(List Int)}{r:(List Int)}(hr:zcL a0=some r):PCalls Tryz.prog 150 [(.sh,.sl false 1 (a0.map zaf))] (Eo (.sl true 1 (r.map zaf)) [.junk]):=by
 apply zk3 8 [] [] [1000000] [.tmp 2] hr zBE Tryz.func150 rfl rfl rfl
 ·exact⟨by simp,rfl⟩
 intro Φ hΦ hF
 unfold zcL at hF
 obtain⟨g,hF⟩:=zgo hF
 have h1:=hΦ _ (zaa hF)
 subst h1
 try simp[go_sem]
 refine zlF [(0,.v (.sl false 1 (a0.map zaf)))] (by simp[go_sem]) ?_
 try simp[go_sem]
 refine zsq rfl rfl (by simp[go_sem]) rfl (by rfl) fun b hb=>?_
 try simp[go_sem]
 refine zal ?_
 repeat rw[zp5]
 cases b
 ·refine zlI (by simp[go_sem]) ?_
  try simp[go_sem]
  refine zal ?_
  try simp[go_sem,g]
  refine zal ?_
  try simp[go_sem,g]
 have hb0:a0=[]:=by
  cases a0 with
  |nil=>rfl
  |cons x l=>exact absurd (hb (by simp)) (by simp)
 subst hb0
 refine zlo (by simp[go_sem]) ?_
 try simp[go_sem]
 refine zal ?_
 try simp[go_sem]
def zcf (a0:Contest) (a1:List Int):Option ((List Int)):=
 if(a0.Kind==1)=true then(
 (zdM a0 a1).bind fun z2=>
 some z2)else(
 if(a0.Kind==3)=true then(
 ((zak (σ:=(List Int)) (fun i8 s7=>
 (ix a1 i8).bind fun x14=>
 gd ((s7.length+1)*8≤140737488355328∧s7.length+1≤4611686018427387904)<|
 some (.go (s7++[i64.wrap (x14+1)]))) (fun s7=>s7) (a1.length) 0 []:Option ((List Int))).bind fun x6=>
 some x6))else(
 (zcL a1).bind fun z19=>
 some z19))
theorem zg6:∀{a0}{a1}{r},zcf a0 a1=some r→PCalls Tryz.prog 103 [(.sh,vE a0),(.sh,vA a1)] (Eo (vF r) [.junk,.junk]):=by
 intro a0 a1 r hr
 apply pF 33 [] [] [] [.tmp 4] hr zB0 Tryz.func103
 intro Φ hΦ hF g
 unfold zcf at hF
 iterate 2 refine wW ?_
 refine wB ?_
 refine wW ?_
 refine wI hF (fun h1 hF=>?_) (fun h1 hF=>?_)
 ·refine wC hF [.sh,.sh] zjA (fun z2 hF=>?_)
  refine wK [4] ?_
  exact wm hΦ hF
 refine wW ?_
 refine wI hF (fun h3 hF=>?_) (fun h3 hF=>?_)
 ·refine wK [1,5] ?_
  try simp[go_sem,g]
  try intros
  refine zal ?_
  refine wJ hF (fun x6=>[(5,.v (vF x6))]) (fun x6 hF=>?_) fun _ hj4 hF=>?_
  ·exact wl hΦ hF
  refine wB ?_
  obtain⟨b15,hb16,hψ11⟩:=hF
  refine pR hb16 (fun i8 s7=>[(5,.v (vF s7)),(18,.v (vA a1)),(19,.v (.int .i64 (a1.length:Int))),(20,.v (.int .i64 i8))]) (fun s7 _ hN17=>?_) (fun i8 s7 _ _ hi12 hi13 ho9 hg10 hF=>?_)
  ·exact wn hN17 (hj4 _) hψ11
  refine wW ?_
  refine wu hi12 hi13 ?_
  refine wW ?_
  refine wB ?_
  obtain⟨x14,g,hF⟩:=Rx g hF
  obtain⟨g,hF⟩:=Rg g hF
  refine wW ?_
  refine wK [5,18,19,20] ?_
  exact wi hi12 hi13 (hg10 _) (zaa hF)
 refine wW ?_
 refine wC hF [.sh] zjD (fun z19 hF=>?_)
 refine wK [4] ?_
 exact wm hΦ hF
@[go_sem] def zAu:List DE:=[d2 0 [2] 2 2,d0 1 [1],d2 3 [2] 2 2,d3 2 [5,6],d3 4 [8],d3 5 [7,9],d0 6 [10]]
def zdz (a0:Contest) (a1:List Int):Option Int:=
 (zcf a0 a1).bind fun z1=>
 (zaF a0).bind fun z2=>
 (zeM z1 z2).bind fun z3=>
 some z3
theorem zkQ:∀{a0}{a1}{r},zdz a0 a1=some r→PCalls Tryz.prog 104 [(.sh,vE a0),(.sh,vA a1)] (Eo (.int .i64 r) [.junk,.junk]):=by
 intro a0 a1 r hr
 apply pF 11 [] [] [] [.tmp 4] hr zCM Tryz.func104
 intro Φ hΦ hF g
 unfold zdz at hF
 refine wW ?_
 refine wX zAu follows ?_
 refine wC hF [.sh,.sh] zg6 (fun z1 hF=>?_)
 refine wC hF [.sh] zhB (fun z2 hF=>?_)
 refine wC hF [.sh,.sh] zkJ (fun z3 hF=>?_)
 exact wl hΦ hF
def zbP (a0:Contest) (a1:List Int):Option ((List Int)):=
 ((if(a0.Kind==1)=true then(
 some true)else(
 some (a0.Kind==2)):Option Bool).bind fun x3=>
 if x3=true then(
 (zcf a0 a1).bind fun z6=>
 some z6)else(
 (zdz a0 a1).bind fun z7=>
 some [z7]))
theorem ziV:∀{a0}{a1}{r},zbP a0 a1=some r→PCalls Tryz.prog 47 [(.sh,vE a0),(.sh,vA a1)] (Eo (vF r) [.junk,.junk]):=by
 intro a0 a1 r hr
 apply pF 20 [] [] [] [.tmp 4] hr zHt Tryz.func47
 intro Φ hΦ hF g
 unfold zbP at hF
 refine wW ?_
 refine wJ hF (fun x3=>[(1,.v (vA a1)),(2,.bl [.int .i64 a0.Kind,.int .i64 a0.Options,.int .i64 a0.Least,.int .i64 a0.Most,.int .i64 a0.Points]),(12,.v (.bool x3))]) (fun x3 hF=>?_) fun _ hj1 hF=>?_
 ·refine wI hF (fun h5 hF=>?_) (fun h5 hF=>?_)
  ·refine wC hF [.sh,.sh] zg6 (fun z6 hF=>?_)
   exact wl hΦ hF
  refine wW ?_
  refine wC hF [.sh,.sh] zkQ (fun z7 hF=>?_)
  exact wl hΦ hF
 refine wG hF (fun h4 hF=>?_) fun h4 hF=>?_
 ·exact wV h4 (hj1 _) (zaa hF)
 exact wV h4 (hj1 _) (zaa hF)
def zc0 (a0:ByteArray):Option Bool:=
 some (decide ((a0.size:Int)≤40))
theorem zhO:∀{a0}{r},zc0 a0=some r→PCalls Tryz.prog 108 [(.sh,.str a0)] (Eo (.bool r) [.junk]):=by
 intro a0 r hr
 apply pF 6 [] [] [] [.tmp 2] hr zBp Tryz.func108
 intro Φ hΦ hF g
 unfold zc0 at hF
 cases hΦ _ (zaa hF)
 iterate 2 refine wW ?_
 try simp[go_sem,g]
def zbw (a0:Int) (a1c0x0:Group):Option Bool:=
 (zcS a1c0x0 a0).bind fun z1=>
 some (!z1)
theorem zg8:∀{a0}{a1c0x0}{r},zbw a0 a1c0x0=some r→PCalls Tryz.prog 145 [(.sh,.int .i64 a0),(.sh,.fp [.func (.func 41) [vD a1c0x0] []])] (Eo (.bool r) [.junk,.junk]):=by
 intro a0 a1c0x0 r hr
 apply pF 8 [] [] [] [.tmp 3] hr zns Tryz.func145
 intro Φ hΦ hF g
 unfold zbw at hF
 refine wW ?_
 refine wC hF [.sh] zgS (fun z1 hF=>?_)
 exact wl hΦ hF
def zaH (a0:List Int) (a1u0c0x0:Group):Option Int:=
 ((zak (σ:=Unit) (fun i5 s4=>
 (ix a0 i5).bind fun x11=>
 (zbw x11 a1u0c0x0).bind fun z12=>
 if z12=true then(
 some (.out (.inr i5)))else(
 some (.go ()))) (fun s4=>.inl ()) (a0.length) 0 ():Option (Unit ⊕ Int)).bind (Sum.elim (fun x3=>
 some (-1)) some))
theorem zdJ:∀{a0}{a1u0c0x0}{r},zaH a0 a1u0c0x0=some r→PCalls Tryz.prog 170 [(.sh,vA a0),(.sh,.func (.func 145) [] [.fp [.func (.func 41) [vD a1u0c0x0] []]])] (Eo (.int .i64 r) [.junk,.junk]):=by
 intro a0 a1u0c0x0 r hr
 apply pF 19 [] [] [] [.tmp 4] hr znj Tryz.func170
 intro Φ hΦ hF g
 unfold zaH at hF
 iterate 2 (try simp[go_sem,g];try intros;refine zal ?_)
 refine wS hF (fun x3=>[]) (fun x3 hF=>?_) fun _ hj1 hr2 hF=>?_
 ·exact wl hΦ hF
 refine wB ?_
 obtain⟨b14,hb15,hψ8⟩:=hF
 refine pR hb15 (fun i5 s4=>[(0,.v (vA a0)),(1,.v (.func (.func 145) [] [.fp [.func (.func 41) [vD a1u0c0x0] []]])),(7,.v (.int .i64 (a0.length:Int))),(8,.v (.int .i64 i5))]) (fun s4 _ hN16=>?_) (fun i5 s4 _ _ hi9 hi10 ho6 hg7 hF=>?_)
 ·exact wn hN16 (hj1 _) hψ8
 refine wW ?_
 refine wu hi9 hi10 ?_
 refine wW ?_
 refine wB ?_
 obtain⟨x11,g,hF⟩:=Rx g hF
 refine wW ?_
 refine wC hF [.sh] zg8 (fun z12 hF=>?_)
 refine wK [0,1,5,7,8,16] ?_
 refine wI hF (fun h13 hF=>?_) (fun h13 hF=>?_)
 ·cases ho6 _ (zaa hF)
  cases hΦ _ (hr2 _ hψ8)
  refine wW ?_
  try simp[go_sem,g]
 refine wW ?_
 exact wi hi9 hi10 (hg7 _) (zaa hF)
def zaC (a0:List Int) (a1u0c0x0:Group):Option Bool:=
 (zaH a0 a1u0c0x0).bind fun z1=>
 some (decide (0≤z1))
theorem zdn:∀{a0}{a1u0c0x0}{r},zaC a0 a1u0c0x0=some r→PCalls Tryz.prog 144 [(.sh,vA a0),(.sh,.func (.func 145) [] [.fp [.func (.func 41) [vD a1u0c0x0] []]])] (Eo (.bool r) [.junk,.junk]):=by
 intro a0 a1u0c0x0 r hr
 apply pF 9 [] [] [] [.tmp 4] hr zni Tryz.func144
 intro Φ hΦ hF g
 unfold zaC at hF
 refine wW ?_
 refine wC hF [.sh,.sh] zdJ (fun z1 hF=>?_)
 exact wl hΦ hF
def zci (a0:List Int) (a1x0:Group):Option Bool:=
 (zaC a0 a1x0).bind fun z1=>
 some (!z1)
theorem zhw:∀{a0}{a1x0}{r},zci a0 a1x0=some r→PCalls Tryz.prog 96 [(.sh,vA a0),(.sh,.func (.func 41) [vD a1x0] [])] (Eo (.bool r) [.junk,.junk]):=by
 intro a0 a1x0 r hr
 apply pF 9 [] [] [1000000] [.tmp 4] hr zqg Tryz.func96
 intro Φ hΦ hF g
 unfold zci at hF
 refine wW ?_
 refine wC hF [.sh,.sh] zdn (fun z1 hF=>?_)
 exact wl hΦ hF
def zb8 (a0:Group) (a1:List Int):Option Bool:=
 (zci a1 a0).bind fun z1=>
 some z1
theorem zhy:∀{a0}{a1}{r},zb8 a0 a1=some r→PCalls Tryz.prog 176 [(.sh,vD a0),(.sh,vA a1)] (Eo (.bool r) [.junk,.junk]):=by
 intro a0 a1 r hr
 apply pF 9 [] [] [] [.tmp 4] hr zA0 Tryz.func176
 intro Φ hΦ hF g
 unfold zb8 at hF
 refine wW ?_
 refine wC hF [.sh,.sh] zhw (fun z1 hF=>?_)
 exact wl hΦ hF
def zcx (a0:List Int) (a1c0:(List (List Int))) (a2c0:Int) (a2c1:Int) (a2c2:Int):Option Bool:=
 (((ix a1c0 0).bind fun x4=>
 if((a0.length:Int) !=(x4.length:Int))=true then(
 some true)else(
 (zb8 (Group.mk a2c0 a2c1 a2c2) a0).bind fun z6=>
 some (!z6)):Option Bool).bind fun x3=>
 some x3)
theorem zjb:∀{a0}{a1c0}{a2c0}{a2c1}{a2c2}{r},zcx a0 a1c0 a2c0 a2c1 a2c2=some r→PCalls Tryz.prog 175 [(.sh,vA a0),(.sh,.fp [vJ a1c0]),(.sh,.fp [.int .i64 a2c0,.int .i64 a2c1,.int .i64 a2c2])] (Eo (.bool r) [.junk,.junk,.junk]):=by
 intro a0 a1c0 a2c0 a2c1 a2c2 r hr
 apply pF 18 [] [] [] [.tmp 4] hr zCV Tryz.func175
 intro Φ hΦ hF g
 unfold zcx at hF
 refine wW ?_
 refine wJ hF (fun x3=>[(4,.v (.bool x3))]) (fun x3 hF=>?_) fun _ hj1 hF=>?_
 ·exact wm hΦ hF
 obtain⟨x4,g,hF⟩:=Rxn g 0 hF
 try simp[go_sem,g]
 try intros
 refine wG hF (fun h5 hF=>?_) fun h5 hF=>?_
 ·exact wV h5 (hj1 _) (zaa hF)
 try simp[go_sem,g,h5]
 refine wC hF [.sh,.sh] zhy (fun z6 hF=>?_)
 exact wV h5 (hj1 _) (zaa hF)
def zaE (a0:(List (List Int))) (a1u0c0:(List (List Int))) (a1u1c0:Int) (a1u1c1:Int) (a1u1c2:Int):Option Int:=
 ((zak (σ:=Unit) (fun i5 s4=>
 (ix a0 i5).bind fun x11=>
 (zcx x11 a1u0c0 a1u1c0 a1u1c1 a1u1c2).bind fun z12=>
 if z12=true then(
 some (.out (.inr i5)))else(
 some (.go ()))) (fun s4=>.inl ()) (a0.length) 0 ():Option (Unit ⊕ Int)).bind (Sum.elim (fun x3=>
 some (-1)) some))
theorem zev:∀{a0}{a1u0c0}{a1u1c0}{a1u1c1}{a1u1c2}{r},zaE a0 a1u0c0 a1u1c0 a1u1c1 a1u1c2=some r→PCalls Tryz.prog 187 [(.sh,vJ a0),(.sh,.func (.func 175) [] [.fp [vJ a1u0c0],.fp [.int .i64 a1u1c0,.int .i64 a1u1c1,.int .i64 a1u1c2]])] (Eo (.int .i64 r) [.junk,.junk]):=by
 intro a0 a1u0c0 a1u1c0 a1u1c1 a1u1c2 r hr
 apply pF 19 [] [] [] [.tmp 4] hr zDA Tryz.func187
 intro Φ hΦ hF g
 unfold zaE at hF
 iterate 2 (try simp[go_sem,g];try intros;refine zal ?_)
 refine wS hF (fun x3=>[]) (fun x3 hF=>?_) fun _ hj1 hr2 hF=>?_
 ·exact wl hΦ hF
 refine wB ?_
 obtain⟨b14,hb15,hψ8⟩:=hF
 refine pR hb15 (fun i5 s4=>[(0,.v (vJ a0)),(1,.v (.func (.func 175) [] [.fp [vJ a1u0c0],.fp [.int .i64 a1u1c0,.int .i64 a1u1c1,.int .i64 a1u1c2]])),(7,.v (.int .i64 (a0.length:Int))),(8,.v (.int .i64 i5))]) (fun s4 _ hN16=>?_) (fun i5 s4 _ _ hi9 hi10 ho6 hg7 hF=>?_)
 ·exact wn hN16 (hj1 _) hψ8
 refine wW ?_
 refine wu hi9 hi10 ?_
 refine wW ?_
 refine wB ?_
 obtain⟨x11,g,hF⟩:=Rx g hF
 refine wW ?_
 refine wC hF [.sh] zjb (fun z12 hF=>?_)
 refine wK [0,1,5,7,8,16] ?_
 refine wI hF (fun h13 hF=>?_) (fun h13 hF=>?_)
 ·cases ho6 _ (zaa hF)
  cases hΦ _ (hr2 _ hψ8)
  refine wW ?_
  try simp[go_sem,g]
 refine wW ?_
 exact wi hi9 hi10 (hg7 _) (zaa hF)
def zaQ (a0:(List (List Int))) (a1u0c0:(List (List Int))) (a1u1c0:Int) (a1u1c1:Int) (a1u1c2:Int):Option Bool:=
 (zaE a0 a1u0c0 a1u1c0 a1u1c1 a1u1c2).bind fun z1=>
 some (decide (0≤z1))
theorem zef:∀{a0}{a1u0c0}{a1u1c0}{a1u1c1}{a1u1c2}{r},zaQ a0 a1u0c0 a1u1c0 a1u1c1 a1u1c2=some r→PCalls Tryz.prog 174 [(.sh,vJ a0),(.sh,.func (.func 175) [] [.fp [vJ a1u0c0],.fp [.int .i64 a1u1c0,.int .i64 a1u1c1,.int .i64 a1u1c2]])] (Eo (.bool r) [.junk,.junk]):=by
 intro a0 a1u0c0 a1u1c0 a1u1c1 a1u1c2 r hr
 apply pF 9 [] [] [] [.tmp 4] hr zDh Tryz.func174
 intro Φ hΦ hF g
 unfold zaQ at hF
 refine wW ?_
 refine wC hF [.sh,.sh] zev (fun z1 hF=>?_)
 exact wl hΦ hF
def zct (a0:Group) (a1:(List (List Int))):Option Bool:=
 (((zax (a1.length:Int) 1 8).bind fun z4=>
 if(!z4)=true then(
 some true)else(
 (ix a1 0).bind fun x6=>
 (zax (x6.length:Int) 1 8).bind fun z7=>
 some (!z7)):Option Bool).bind fun x3=>
 if x3=true then(
 some false)else(
 (zaQ a1 a1 a0.P a0.Q a0.G).bind fun z9=>
 some (!z9)))
theorem zhj:∀{a0}{a1}{r},zct a0 a1=some r→PCalls Tryz.prog 151 [(.sh,vD a0),(.sh,vJ a1)] (Eo (.bool r) [.junk,.junk]):=by
 intro a0 a1 r hr
 apply pF 21 [] [] [1000000] [.tmp 4] hr zCo Tryz.func151
 intro Φ hΦ hF g
 unfold zct at hF
 refine wW ?_
 refine wJ hF (fun x3=>[(2,.bl [.int .i64 a0.P,.int .i64 a0.Q,.int .i64 a0.G]),(3,.bl [vJ a1]),(16,.v (.bool x3))]) (fun x3 hF=>?_) fun _ hj1 hF=>?_
 ·refine wI hF (fun h8 hF=>?_) (fun h8 hF=>?_)
  ·exact wl hΦ hF
  refine wW ?_
  refine wC hF [.sh,.sh] zef (fun z9 hF=>?_)
  exact wl hΦ hF
 try simp[go_sem,g]
 try intros
 refine wC hF [.sh,.sh,.sh] zaT (fun z4 hF=>?_)
 refine wG hF (fun h5 hF=>?_) fun h5 hF=>?_
 ·exact wV h5 (hj1 _) (zaa hF)
 obtain⟨x6,g,hF⟩:=Rxn g 0 hF
 try simp[go_sem,g,h5]
 try intros
 refine wC hF [.sh,.sh,.sh] zaT (fun z7 hF=>?_)
 exact wV h5 (hj1 _) (zaa hF)
def zgp (a0:Int) (a1:Int):Option Int:=
 gd (a1≠0)<|
 gd (a1≠0)<|
 some ((i64.wrap ((a0.tmod a1)+a1)).tmod a1)
theorem zn0:∀{a0}{a1}{r},zgp a0 a1=some r→PCalls Tryz.prog 107 [(.sh,.int .i64 a0),(.sh,.int .i64 a1)] (Eo (.int .i64 r) [.junk,.junk]):=by
 intro a0 a1 r hr
 apply pF 12 [] [] [] [.tmp 4] hr zDw Tryz.func107
 intro Φ hΦ hF g
 unfold zgp at hF
 obtain⟨g,hF⟩:=Rz g hF
 obtain⟨g,hF⟩:=Rz g hF
 cases hΦ _ (zaa hF)
 iterate 2 refine wW ?_
 try simp[go_sem,g]
@[go_sem] def zC5:List DE:=[d0 0 [1],d0 1 [2],d1 2 [3] 3,d2 3 [9] 3 9,d1 5 [3] 3,d2 6 [12] 3 12,d3 4 [8,10],d3 7 [7,11,13],d0 8 [14]]
def zaq (a0:Group) (a1:Int) (a2:Int):Option Int:=
 (zgp a2 a0.Q).bind fun z1=>
 (zdT a1 z1 a0.P).bind fun z2=>
 some z2
theorem zaY:∀{a0}{a1}{a2}{r},zaq a0 a1 a2=some r→PCalls Tryz.prog 51 [(.sh,vD a0),(.sh,.int .i64 a1),(.sh,.int .i64 a2)] (Eo (.int .i64 r) [.junk,.junk,.junk]):=by
 intro a0 a1 a2 r hr
 apply pF 15 [] [] [] [.tmp 6] hr zGT Tryz.func51
 intro Φ hΦ hF g
 unfold zaq at hF
 refine wW ?_
 refine wX zC5 follows ?_
 refine wC hF [.sh,.sh] zn0 (fun z1 hF=>?_)
 refine wC hF [.sh,.sh,.sh] ziO (fun z2 hF=>?_)
 refine wK [6] ?_
 exact wm hΦ hF
def zbd (a0:Group) (a1:List Int):Option Int:=
 ((zak (σ:=Int) (fun i5 s4=>
 (ix a1 i5).bind fun x11=>
 gd (a0.P≠0)<|
 some (.go ((i64.wrap (s4*x11)).tmod a0.P))) (fun s4=>s4) (a1.length) 0 1:Option Int).bind fun x3=>
 some x3)
theorem zcR:∀{a0}{a1}{r},zbd a0 a1=some r→PCalls Tryz.prog 106 [(.sh,vD a0),(.sh,vA a1)] (Eo (.int .i64 r) [.junk,.junk]):=by
 intro a0 a1 r hr
 apply pF 22 [] [] [] [.tmp 4] hr zCl Tryz.func106
 intro Φ hΦ hF g
 unfold zbd at hF
 iterate 3 (try simp[go_sem,g];try intros;refine zal ?_)
 refine wJ hF (fun x3=>[(5,.v (.int .i64 x3))]) (fun x3 hF=>?_) fun _ hj1 hF=>?_
 ·exact wl hΦ hF
 refine wB ?_
 obtain⟨b12,hb13,hψ8⟩:=hF
 refine pR hb13 (fun i5 s4=>[(2,.bl [.int .i64 a0.P,.int .i64 a0.Q,.int .i64 a0.G]),(5,.v (.int .i64 s4)),(8,.v (vA a1)),(9,.v (.int .i64 (a1.length:Int))),(10,.v (.int .i64 i5))]) (fun s4 _ hN14=>?_) (fun i5 s4 _ _ hi9 hi10 ho6 hg7 hF=>?_)
 ·exact wn hN14 (hj1 _) hψ8
 refine wW ?_
 refine wu hi9 hi10 ?_
 refine wW ?_
 refine wB ?_
 obtain⟨x11,g,hF⟩:=Rx g hF
 refine wK [2,5,7,8,9,10] ?_
 obtain⟨g,hF⟩:=Rz g hF
 refine wW ?_
 exact wi hi9 hi10 (hg7 _) (zaa hF)
@[go_sem] def zzr:List DE:=[d2 0 [3] 3 3,d0 1 [7],d2 2 [3] 3 3,d0 3 [9],d0 4 [2],d0 5 [8],d0 6 [21,22],d0 7 [23],d3 8 [19,20,24],d0 9 [18,25],⟨10,[17,26],[],none,true,true,true⟩,d0 11 [27]]
def zdv (a0:Group) (a1:List Int) (a2:List Int):Option Int:=
 ((zak (σ:=Int) (fun i5 s4=>
 (ix a1 i5).bind fun x11=>
 (ix a2 i5).bind fun x12=>
 (zaq a0 x11 x12).bind fun z13=>
 (zbd a0 [s4,z13]).bind fun z14=>
 some (.go z14)) (fun s4=>s4) (a1.length) 0 1:Option Int).bind fun x3=>
 some x3)
theorem zkY:∀{a0}{a1}{a2}{r},zdv a0 a1 a2=some r→PCalls Tryz.prog 188 [(.sh,vD a0),(.sh,vA a1),(.sh,vA a2)] (Eo (.int .i64 r) [.junk,.junk,.junk]):=by
 intro a0 a1 a2 r hr
 apply pF 30 [] [] [] [.tmp 6] hr zDr Tryz.func188
 intro Φ hΦ hF g
 unfold zdv at hF
 iterate 3 (try simp[go_sem,g];try intros;refine zal ?_)
 refine wJ hF (fun x3=>[(7,.v (.int .i64 x3))]) (fun x3 hF=>?_) fun _ hj1 hF=>?_
 ·exact wl hΦ hF
 refine wB ?_
 obtain⟨b15,hb16,hψ8⟩:=hF
 refine pR hb16 (fun i5 s4=>[(2,.v (vA a2)),(3,.bl [.int .i64 a0.P,.int .i64 a0.Q,.int .i64 a0.G]),(7,.v (.int .i64 s4)),(10,.v (vA a1)),(11,.v (.int .i64 (a1.length:Int))),(12,.v (.int .i64 i5))]) (fun s4 _ hN17=>?_) (fun i5 s4 _ _ hi9 hi10 ho6 hg7 hF=>?_)
 ·exact wn hN17 (hj1 _) hψ8
 refine wW ?_
 refine wu hi9 hi10 ?_
 refine wW ?_
 refine wB ?_
 obtain⟨x11,g,hF⟩:=Rx g hF
 refine wK [2,3,7,8,9,10,11,12] ?_
 refine wX zzr follows ?_
 obtain⟨x12,g,hF⟩:=Rx g hF
 refine wC hF [.sh,.sh,.sh] zaY (fun z13 hF=>?_)
 refine wC hF [.sh,.sh] zcR (fun z14 hF=>?_)
 refine wK [2,3,7,10,11,12] ?_
 exact wi hi9 hi10 (hg7 _) (zaa hF)
def zcE (a0:Group) (a1:(List (List Int))) (a2:List Int):Option ((List Int)):=
 ((zak (σ:=(List Int)) (fun i5 s4=>
 (ix a1 i5).bind fun x11=>
 (zdv a0 x11 a2).bind fun z12=>
 gd ((s4.length+1)*8≤140737488355328∧s4.length+1≤4611686018427387904)<|
 some (.go (s4++[z12]))) (fun s4=>s4) (a1.length) 0 []:Option ((List Int))).bind fun x3=>
 some x3)
theorem zhz:∀{a0}{a1}{a2}{r},zcE a0 a1 a2=some r→PCalls Tryz.prog 177 [(.sh,vD a0),(.sh,vJ a1),(.sh,vA a2)] (Eo (vF r) [.junk,.junk,.junk]):=by
 intro a0 a1 a2 r hr
 apply pF 26 [] [] [] [.tmp 6] hr zDi Tryz.func177
 intro Φ hΦ hF g
 unfold zcE at hF
 iterate 3 (try simp[go_sem,g];try intros;refine zal ?_)
 refine wJ hF (fun x3=>[(7,.v (vF x3))]) (fun x3 hF=>?_) fun _ hj1 hF=>?_
 ·exact wl hΦ hF
 refine wB ?_
 obtain⟨b13,hb14,hψ8⟩:=hF
 refine pR hb14 (fun i5 s4=>[(2,.v (vA a2)),(3,.bl [.int .i64 a0.P,.int .i64 a0.Q,.int .i64 a0.G]),(7,.v (vF s4)),(11,.v (vJ a1)),(12,.v (.int .i64 (a1.length:Int))),(13,.v (.int .i64 i5))]) (fun s4 _ hN15=>?_) (fun i5 s4 _ _ hi9 hi10 ho6 hg7 hF=>?_)
 ·exact wn hN15 (hj1 _) hψ8
 refine wW ?_
 refine wu hi9 hi10 ?_
 refine wW ?_
 refine wB ?_
 obtain⟨x11,g,hF⟩:=Rx g hF
 refine wK [2,3,7,9,11,12,13] ?_
 refine wC hF [.sh,.sh,.sh] zkY (fun z12 hF=>?_)
 obtain⟨g,hF⟩:=Rg g hF
 refine wW ?_
 exact wi hi9 hi10 (hg7 _) (zaa hF)
theorem zCC:ztd Tryz.prog 182 26:=by
 intro n H e b es by_ z e1 e2 h0 h1 h2 h3 h4 h5
 refine zk5 zBg Tryz.func182 rfl rfl (by simp[Tryz.f182]) fun hw=>?_
 have hn:¬n<0:=by omega
 have hw1:i64.wrap n=n:=wrI (by omega)
 have hw0:i64.wrap 0=0:=wrI (by omega)
 have ei:(zde Tryz.prog 3).isSome=true:=by kernel_rfl
 by_cases hp:0<n
 ·have hne:n≠0:=by omega
  have h5':=h5
  simp[zaj]at h5'
  simp[Tryz.f182,awp,zgV,aop,ahp,zaG,zbc,zaK,mat,za7,zan,zpB,FR.put,FR.init,rdv,rda,zbh,zc3,zaj,Am.lenV,zeS,zc5,bnd,zmI,ztr,zh9,zjx,zm5,hn,e1,e2,ei,hw1,hw0,hp,h1,h2,h3,h4,hne]
  first|exact h5'|exact .inl h5'
 have hz:n=0:=by omega
 subst hz
 simp[Tryz.f182,awp,zgV,aop,ahp,zaG,zbc,zaK,mat,za7,zan,zpB,FR.put,FR.init,rdv,rda,zbh,zc3,zaj,Am.lenV,zeS,zc5,bnd,zmI,ztr,zh9,zjx,zm5,hn,e1,e2,hw1,hw0,hp]
def zbx (a0:(List (List Int))):Option ((List Int)):=
 ((zak (σ:=Int) (fun i5 s4=>
 (ix a0 i5).bind fun x11=>
 if decide ((i64.wrap (s4+(x11.length:Int)))<0)=true then(
 none)else(
 some (.go (i64.wrap (s4+(x11.length:Int)))))) (fun s4=>s4) (a0.length) 0 0:Option Int).bind fun x3=>
 gd (0≤x3∧8*x3≤140737488355328∧x3≤4611686018427387904)<|
 ((zak (σ:=(List Int)) (fun i22 s21=>
 (ix a0 i22).bind fun x28=>
 gd ((s21.length+x28.length)*8≤140737488355328∧s21.length+x28.length≤4611686018427387904)<|
 some (.go (s21++x28))) (fun s21=>s21) (a0.length) 0 []:Option ((List Int))).bind fun x20=>
 some x20))
theorem zeI:∀{a0}{r},zbx a0=some r→PCalls Tryz.prog 164 [(.sh,vJ a0)] (Eo (vF r) [.junk]):=by
 intro a0 r hr
 apply pF 36 [] [] [] [.tmp 2] hr zA6 Tryz.func164
 intro Φ hΦ hF g
 unfold zbx at hF
 iterate 3 (try simp[go_sem,g];try intros;refine zal ?_)
 refine wJ hF (fun x3=>[(0,.v (vJ a0)),(3,.v (.int .i64 x3))]) (fun x3 hF=>?_) fun _ hj1 hF=>?_
 ·obtain⟨g17,hF⟩:=zgo hF
  try simp[go_sem,g]
  refine zyu zCC zGk (by simp[go_sem,g]) g17 ?_
  try simp[go_sem,g]
  try intros
  refine zal ?_
  try simp[go_sem,g]
  try intros
  refine wK [6,25,26,27] ?_
  refine wJ hF (fun x20=>[(6,.v (vF x20))]) (fun x20 hF=>?_) fun _ hj18 hF=>?_
  ·exact wl hΦ hF
  refine wB ?_
  obtain⟨b29,hb30,hψ25⟩:=hF
  refine pR hb30 (fun i22 s21=>[(6,.v (vF s21)),(25,.v (vJ a0)),(26,.v (.int .i64 (a0.length:Int))),(27,.v (.int .i64 i22))]) (fun s21 _ hN31=>?_) (fun i22 s21 _ _ hi26 hi27 ho23 hg24 hF=>?_)
  ·exact wn hN31 (hj18 _) hψ25
  refine wW ?_
  refine wu hi26 hi27 ?_
  refine wW ?_
  refine wB ?_
  obtain⟨x28,g,hF⟩:=Rx g hF
  obtain⟨g,hF⟩:=Rg g hF
  iterate 2 refine wW ?_
  exact wi hi26 hi27 (hg24 _) (zaa hF)
 refine wB ?_
 obtain⟨b13,hb14,hψ8⟩:=hF
 refine pR hb14 (fun i5 s4=>[(0,.v (vJ a0)),(3,.v (.int .i64 s4)),(9,.v (vJ a0)),(10,.v (.int .i64 (a0.length:Int))),(11,.v (.int .i64 i5))]) (fun s4 _ hN15=>?_) (fun i5 s4 _ _ hi9 hi10 ho6 hg7 hF=>?_)
 ·exact wn hN15 (hj1 _) hψ8
 refine wW ?_
 refine wu hi9 hi10 ?_
 refine wW ?_
 refine wB ?_
 obtain⟨x11,g,hF⟩:=Rx g hF
 try simp[go_sem,g]
 try intros
 refine zal ?_
 try simp[go_sem,g]
 try intros
 refine wK [0,3,9,10,11] ?_
 refine wW ?_
 refine wI hF (fun h12 hF=>?_) (fun h12 hF=>?_)
 ·exact(zsG hF).elim
 refine wW ?_
 exact wi hi9 hi10 (hg7 _) (zaa hF)
def zf5 (a0:ByteArray) (a1:List Int):Option ((List Int)):=
 ((zaN (σ:=(List Int)×Int) (fun s4=>
 if decide (s4.2<(a0.size:Int))=true then(
 (ixs a0 s4.2).bind fun x10=>
 gd ((s4.1.length+1)*8≤140737488355328∧s4.1.length+1≤4611686018427387904)<|
 some (.go (s4.1++[i64.wrap x10],i64.wrap (s4.2+1))))else(
 some (.out s4.1))) ([(a0.size:Int)],0):Option ((List Int))).bind fun x3=>
 gd ((x3.length+a1.length)*8≤140737488355328∧x3.length+a1.length≤4611686018427387904)<|
 some (x3++a1))
theorem znI:∀{a0}{a1}{r},zf5 a0 a1=some r→PCalls Tryz.prog 125 [(.sh,.str a0),(.sh,vA a1)] (Eo (vF r) [.junk,.junk]):=by
 intro a0 a1 r hr
 apply pF 26 [] [] [] [.tmp 4] hr zCk Tryz.func125
 intro Φ hΦ hF g
 unfold zf5 at hF
 iterate 3 refine wW ?_
 refine wJ hF (fun x3=>[(1,.v (vA a1)),(5,.v (vF x3))]) (fun x3 hF=>?_) fun _ hj1 hF=>?_
 ·obtain⟨g,hF⟩:=Rg g hF
  refine wK [4] ?_
  exact wm hΦ hF
 refine wB ?_
 obtain⟨b11,hb12,hψ8⟩:=hF
 refine pL hb12 (fun s4=>[(0,.v (.str a0)),(1,.v (vA a1)),(5,.v (vF s4.1)),(11,.v (.int .i64 (a0.size:Int))),(12,.v (.int .i64 s4.2))]) (fun s4 _ _ ho6 hg7 hF=>?_)
 refine wW ?_
 refine wI hF (fun h9 hF=>?_) (fun h9 hF=>?_)
 ·refine wW ?_
  refine wB ?_
  refine wK [0,1,5,6,11,12] ?_
  obtain⟨x10,g,hF⟩:=Rxs g hF
  obtain⟨g,hF⟩:=Rg g hF
  refine wW ?_
  exact wT (hg7 _) (zaa hF)
 cases ho6 _ (zaa hF)
 exact wT (hj1 _) hψ8
def zdV (a0:Int):Option Bool:=
 (zax a0 0 4611686018427387903).bind fun z1=>
 some z1
theorem zjj:∀{a0}{r},zdV a0=some r→PCalls Tryz.prog 68 [(.sh,.int .i64 a0)] (Eo (.bool r) [.junk]):=by
 intro a0 r hr
 apply pF 5 [] [] [] [.tmp 2] hr zIy Tryz.func68
 intro Φ hΦ hF g
 unfold zdV at hF
 refine wW ?_
 refine wC hF [.sh,.sh,.sh] zaT (fun z1 hF=>?_)
 exact wl hΦ hF
def zaZ (a0:Int):Option Bool:=
 (zdV a0).bind fun z1=>
 some (!z1)
theorem zhr:∀{a0}{r},zaZ a0=some r→PCalls Tryz.prog 145 [(.sh,.int .i64 a0),(.sh,.fp [.func (.func 68) [] []])] (Eo (.bool r) [.junk,.junk]):=by
 intro a0 r hr
 apply pF 8 [] [] [] [.tmp 3] hr zns Tryz.func145
 intro Φ hΦ hF g
 unfold zaZ at hF
 refine wW ?_
 refine wC hF [.sh] zjj (fun z1 hF=>?_)
 exact wl hΦ hF
def zbe (a0:List Int):Option Int:=
 ((zak (σ:=Unit) (fun i5 s4=>
 (ix a0 i5).bind fun x11=>
 (zaZ x11).bind fun z12=>
 if z12=true then(
 some (.out (.inr i5)))else(
 some (.go ()))) (fun s4=>.inl ()) (a0.length) 0 ():Option (Unit ⊕ Int)).bind (Sum.elim (fun x3=>
 some (-1)) some))
theorem zdN:∀{a0}{r},zbe a0=some r→PCalls Tryz.prog 170 [(.sh,vA a0),(.sh,.func (.func 145) [] [.fp [.func (.func 68) [] []]])] (Eo (.int .i64 r) [.junk,.junk]):=by
 intro a0 r hr
 apply pF 19 [] [] [] [.tmp 4] hr znj Tryz.func170
 intro Φ hΦ hF g
 unfold zbe at hF
 iterate 2 (try simp[go_sem,g];try intros;refine zal ?_)
 refine wS hF (fun x3=>[]) (fun x3 hF=>?_) fun _ hj1 hr2 hF=>?_
 ·exact wl hΦ hF
 refine wB ?_
 obtain⟨b14,hb15,hψ8⟩:=hF
 refine pR hb15 (fun i5 s4=>[(0,.v (vA a0)),(1,.v (.func (.func 145) [] [.fp [.func (.func 68) [] []]])),(7,.v (.int .i64 (a0.length:Int))),(8,.v (.int .i64 i5))]) (fun s4 _ hN16=>?_) (fun i5 s4 _ _ hi9 hi10 ho6 hg7 hF=>?_)
 ·exact wn hN16 (hj1 _) hψ8
 refine wW ?_
 refine wu hi9 hi10 ?_
 refine wW ?_
 refine wB ?_
 obtain⟨x11,g,hF⟩:=Rx g hF
 refine wW ?_
 refine wC hF [.sh] zhr (fun z12 hF=>?_)
 refine wK [0,1,5,7,8,16] ?_
 refine wI hF (fun h13 hF=>?_) (fun h13 hF=>?_)
 ·cases ho6 _ (zaa hF)
  cases hΦ _ (hr2 _ hψ8)
  refine wW ?_
  try simp[go_sem,g]
 refine wW ?_
 exact wi hi9 hi10 (hg7 _) (zaa hF)
def za1 (a0:List Int):Option Bool:=
 (zbe a0).bind fun z1=>
 some (decide (0≤z1))
theorem zdr:∀{a0}{r},za1 a0=some r→PCalls Tryz.prog 144 [(.sh,vA a0),(.sh,.func (.func 145) [] [.fp [.func (.func 68) [] []]])] (Eo (.bool r) [.junk,.junk]):=by
 intro a0 r hr
 apply pF 9 [] [] [] [.tmp 4] hr zni Tryz.func144
 intro Φ hΦ hF g
 unfold za1 at hF
 refine wW ?_
 refine wC hF [.sh,.sh] zdN (fun z1 hF=>?_)
 exact wl hΦ hF
def zbm (a0:List Int):Option Bool:=
 (za1 a0).bind fun z1=>
 some (!z1)
theorem zfm:∀{a0}{r},zbm a0=some r→PCalls Tryz.prog 96 [(.sh,vA a0),(.sh,.func (.func 68) [] [])] (Eo (.bool r) [.junk,.junk]):=by
 intro a0 r hr
 apply pF 9 [] [] [1000000] [.tmp 4] hr zqg Tryz.func96
 intro Φ hΦ hF g
 unfold zbm at hF
 refine wW ?_
 refine wC hF [.sh,.sh] zdr (fun z1 hF=>?_)
 exact wl hΦ hF
def zec (a0:List Int):Option Bool:=
 ((if decide ((a0.length:Int)≤400)=true then(
 (zbm a0).bind fun z5=>
 some z5)else(
 some false):Option Bool).bind fun x3=>
 some x3)
theorem zmj:∀{a0}{r},zec a0=some r→PCalls Tryz.prog 166 [(.sh,vA a0)] (Eo (.bool r) [.junk]):=by
 intro a0 r hr
 apply pF 10 [] [] [] [.tmp 2] hr zCW Tryz.func166
 intro Φ hΦ hF g
 unfold zec at hF
 refine wW ?_
 refine wJ hF (fun x3=>[(2,.v (.bool x3))]) (fun x3 hF=>?_) fun _ hj1 hF=>?_
 ·exact wm hΦ hF
 try simp[go_sem,g]
 try intros
 refine wG hF (fun h4 hF=>?_) fun h4 hF=>?_
 ·try simp[go_sem,g,h4]
  refine wC hF [.sh,.sh] zfm (fun z5 hF=>?_)
  exact wV h4 (hj1 _) (zaa hF)
 exact wV h4 (hj1 _) (zaa hF)
def zgD (a0:List Int):Option Int:=
 gd (([(a0.length:Int)].length+a0.length)*8≤140737488355328∧[(a0.length:Int)].length+a0.length≤4611686018427387904)<|
 (some ([(a0.length:Int)]++a0)).bind fun x1=>
 ((zak (σ:=Int×Int) (fun i7 s6=>
 (ix x1 i7).bind fun x13=>
 some (.go ((i64.wrap ((i64.wrap ((i64.wrap (48271*((i64.wrap ((i64.wrap ((i64.wrap (48271*s6.1))+(i64.wrap ((BitVec.ofInt i64.bits x13&&&BitVec.ofInt i64.bits 2147483647).toNat))))+1)).tmod 2147483647)))+(x13.fdiv 2147483648)))+1)).tmod 2147483647,(i64.wrap ((i64.wrap ((i64.wrap (69621*((i64.wrap ((i64.wrap ((i64.wrap (69621*s6.2))+(i64.wrap ((BitVec.ofInt i64.bits x13&&&BitVec.ofInt i64.bits 2147483647).toNat))))+1)).tmod 2147483647)))+(x13.fdiv 2147483648)))+1)).tmod 2147483647))) (fun s6=>(s6.1,s6.2)) (x1.length) 0 (1,2):Option ((Int×Int))).bind fun x5=>
 some (i64.wrap ((i64.wrap (x5.1*2147483648))+x5.2)))
theorem zrQ:∀{a0}{r},zgD a0=some r→PCalls Tryz.prog 167 [(.sh,vA a0)] (Eo (.int .i64 r) [.junk]):=by
 intro a0 r hr
 apply pF 52 [] [] [] [.tmp 2] hr zBM Tryz.func167
 intro Φ hΦ hF g
 unfold zgD at hF
 obtain⟨g,hF⟩:=Rg g hF
 obtain⟨x1,e2,hF⟩:=zdY hF
 have g:=And.intro g (show[.int .i64 (a0.length:Int)]::(List.map zaf a0)=x1.map zaf by injection e2 with e2;rw[←e2];simp[go_sem])
 iterate 2 (try simp[go_sem,g];try intros;refine zal ?_)
 try simp[go_sem,g]
 try intros
 refine wK [3,4,13,14,15] ?_
 refine wJ hF (fun x5=>[(3,.v (.int .i64 x5.1)),(4,.v (.int .i64 x5.2))]) (fun x5 hF=>?_) fun _ hj3 hF=>?_
 ·have g:=Ls g 31
  exact wl hΦ hF
 refine wB ?_
 obtain⟨b14,hb15,hψ10⟩:=hF
 refine pR hb15 (fun i7 s6=>[(3,.v (.int .i64 s6.1)),(4,.v (.int .i64 s6.2)),(13,.v (vF x1)),(14,.v (.int .i64 (x1.length:Int))),(15,.v (.int .i64 i7))]) (fun s6 _ hN16=>?_) (fun i7 s6 _ _ hi11 hi12 ho8 hg9 hF=>?_)
 ·exact wn hN16 (hj3 _) hψ10
 refine wW ?_
 refine wu hi11 hi12 ?_
 refine wW ?_
 refine wB ?_
 obtain⟨x13,g,hF⟩:=Rx g hF
 have g:=Ls g 31
 refine wW ?_
 refine wK [3,4,7,8,13,14,15] ?_
 have g:=Ld g 2147483647
 refine wW ?_
 refine wK [3,4,7,8,13,14,15] ?_
 refine wW ?_
 refine wK [3,4,13,14,15] ?_
 exact wi hi11 hi12 (hg9 _) (zaa hF)
def zeY (a0:List Int):Option (Int×Bool):=
 (zec a0).bind fun z1=>
 if(!z1)=true then(
 some (0,false))else(
 (zgD a0).bind fun z3=>
 some (z3,true))
theorem znL:∀{a0}{r},zeY a0=some r→PCalls Tryz.prog 124 [(.sh,vA a0)] (Eo (.tup [.int .i64 r.1,.bool r.2]) [.junk]):=by
 intro a0 r hr
 apply pF 9 [] [] [] [.tmp 2,.tmp 3] hr zDJ Tryz.func124
 intro Φ hΦ hF g
 unfold zeY at hF
 refine wW ?_
 refine wC hF [.sh] zmj (fun z1 hF=>?_)
 refine wW ?_
 refine wI hF (fun h2 hF=>?_) (fun h2 hF=>?_)
 ·exact wl hΦ hF
 refine wW ?_
 refine wC hF [.sh] zrQ (fun z3 hF=>?_)
 exact wl hΦ hF
def zcF (a0:ByteArray) (a1:List Int):Option (Int×Bool):=
 ((if decide (40<(a0.size:Int))=true then(
 some true)else(
 some (decide (400<(a1.length:Int)))):Option Bool).bind fun x3=>
 if x3=true then(
 some (0,false))else(
 (zf5 a0 a1).bind fun z6=>
 (zeY z6).bind fun z7=>
 some (z7.1,z7.2)))
theorem zhA:∀{a0}{a1}{r},zcF a0 a1=some r→PCalls Tryz.prog 72 [(.sh,.str a0),(.sh,vA a1)] (Eo (.tup [.int .i64 r.1,.bool r.2]) [.junk,.junk]):=by
 intro a0 a1 r hr
 apply pF 20 [] [] [] [.tmp 4,.tmp 5] hr zIj Tryz.func72
 intro Φ hΦ hF g
 unfold zcF at hF
 refine wW ?_
 refine wJ hF (fun x3=>[(0,.v (.str a0)),(1,.v (vA a1)),(13,.v (.bool x3))]) (fun x3 hF=>?_) fun _ hj1 hF=>?_
 ·refine wI hF (fun h5 hF=>?_) (fun h5 hF=>?_)
  ·exact wl hΦ hF
  refine wW ?_
  refine wC hF [.sh,.sh] znI (fun z6 hF=>?_)
  refine wC hF [.sh] znL (fun z7 hF=>?_)
  refine wK [4,5] ?_
  exact wm hΦ hF
 refine wG hF (fun h4 hF=>?_) fun h4 hF=>?_
 ·exact wV h4 (hj1 _) (zaa hF)
 try simp[go_sem,g,h4]
 try intros
 exact wT (hj1 _) (zaa hF)
def zbl (a0:Group) (a1:ByteArray) (a2:List Int):Option (Int×Bool):=
 gd (([a0.P,a0.Q,a0.G].length+a2.length)*8≤140737488355328∧[a0.P,a0.Q,a0.G].length+a2.length≤4611686018427387904)<|
 (zcF a1 ([a0.P,a0.Q,a0.G]++a2)).bind fun z1=>
 if(!z1.2)=true then(
 some (0,false))else(
 gd (a0.Q≠0)<|
 some (z1.1.tmod a0.Q,true))
theorem zgC:∀{a0}{a1}{a2}{r},zbl a0 a1 a2=some r→PCalls Tryz.prog 156 [(.sh,vD a0),(.sh,.str a1),(.sh,vA a2)] (Eo (.tup [.int .i64 r.1,.bool r.2]) [.junk,.junk,.junk]):=by
 intro a0 a1 a2 r hr
 apply pF 30 [] [] [] [.tmp 6,.tmp 7] hr zBf Tryz.func156
 intro Φ hΦ hF g
 unfold zbl at hF
 obtain⟨g,hF⟩:=Rg g hF
 refine wW ?_
 refine wC hF [.sh,.sh] zhA (fun z1 hF=>?_)
 refine wK [3,8,9] ?_
 refine wW ?_
 refine wI hF (fun h2 hF=>?_) (fun h2 hF=>?_)
 ·exact wl hΦ hF
 obtain⟨g,hF⟩:=Rz g hF
 cases hΦ _ (zaa hF)
 iterate 2 refine wW ?_
 try simp[go_sem,g]
def zbj (a0:Group) (a1:Int):Option Int:=
 (zgp a1 a0.Q).bind fun z1=>
 some z1
theorem zfz:∀{a0}{a1}{r},zbj a0 a1=some r→PCalls Tryz.prog 55 [(.sh,vD a0),(.sh,.int .i64 a1)] (Eo (.int .i64 r) [.junk,.junk]):=by
 intro a0 a1 r hr
 apply pF 9 [] [] [] [.tmp 4] hr zII Tryz.func55
 intro Φ hΦ hF g
 unfold zbj at hF
 refine wW ?_
 refine wC hF [.sh,.sh] zn0 (fun z1 hF=>?_)
 exact wl hΦ hF
@[go_sem] def zyZ:List DE:=[d2 0 [5] 5 5,d0 1 [1],d0 2 [2],d2 4 [5] 5 5,d0 5 [2],d0 6 [3],d1 8 [12] 12,d2 9 [31] 12 31,d3 3 [25],d3 7 [27,28,29],d0 10 [26,30,32],⟨11,[33],[],none,true,true,true⟩,d3 12 [23,24,34],d0 13 [35],d0 14 [22],d0 15 [22],d0 16 [36],d0 17 [37]]
@[go_sem] def zy7:List DE:=[d1 0 [12] 12,d2 1 [51] 12 51,d2 2 [5] 5 5,d0 3 [16],d0 4 [13],d0 5 [3],d0 6 [15],d0 7 [56,57],d0 8 [58],d0 9 [55,59],d0 10 [54,60],d3 11 [53,61],d0 12 [62],⟨13,[52,63],[],none,true,false,false⟩,d1 14 [12] 12,d2 15 [65,64] 12 65]
end
end Go.Pm
