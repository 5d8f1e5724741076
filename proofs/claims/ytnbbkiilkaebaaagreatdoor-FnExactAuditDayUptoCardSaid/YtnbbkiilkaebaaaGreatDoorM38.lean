/-
  Plain functions and their walks. Written by wip/tools/lift.py.
-/
import Derived.Test.YtnbbkiilkaebaaaGreatDoorIt
namespace Go.Pm
open Go.Am IntKind
open Go.Proofs
set_option maxRecDepth 100000
attribute [local irreducible] pw pwx pw1 pwg qv qz qf
attribute [-simp] List.map_set
set_option linter.unusedSimpArgs false
set_option linter.unusedVariables false
noncomputable section
structure Group where
 P:Int
 Q:Int
 G:Int
structure Contest where
 Kind:Int
 Options:Int
 Least:Int
 Most:Int
 Points:Int
structure Session where
 Voter:Int
 Vote:(List Int)
 Coins:(List Int)
 Receipt:Int
 Cast:Bool
structure Cipher where
 A:Int
 B:Int
structure Proof where
 Commits:(List Int)
 Challenges:(List Int)
 Responses:(List Int)
structure Sealed where
 Voter:Int
 Ciphers:(List Cipher)
 Proofs:(List Proof)
 Sum:Proof
structure l3State where
 s:Int
 t:Int
structure EqualLog where
 G1:Int
 Y1:Int
 G2:Int
 Y2:Int
def zaf (x:Int):List PV:=[.int .i64 x]
@[go_sem] theorem zBU {x:Int}:zaf x=[.int .i64 x]:=(rfl)
@[go_sem] theorem zp6 {l:List Int}:List.map (List.map drop∘zaf) l=l.map zaf:=by refine List.map_congr_left fun x _=>?_;simp[go_sem]
@[go_sem] theorem zyE {l:List Int}:List.map (List.map drop) (l.map zaf)=l.map zaf:=by rw[List.map_map];exact zp6
@[go_sem] theorem zAA {l:List Int}{i:Nat}{a:Int}:(l.map zaf).set i [.int .i64 a]=(l.set i a).map zaf:=by rw[List.map_set];rfl
def zbB (x:Session):List PV:=[.int .i64 x.Voter,.sl false 1 (x.Vote.map zaf),.sl false 1 (x.Coins.map zaf),.int .i64 x.Receipt,.bool x.Cast]
@[go_sem] theorem zvM {x:Session}:zbB x=[.int .i64 x.Voter,.sl false 1 (x.Vote.map zaf),.sl false 1 (x.Coins.map zaf),.int .i64 x.Receipt,.bool x.Cast]:=(rfl)
@[go_sem] theorem zkQ {l:List Session}:List.map (List.map drop∘zbB) l=l.map zbB:=by refine List.map_congr_left fun x _=>?_;simp[go_sem]
@[go_sem] theorem ztP {l:List Session}:List.map (List.map drop) (l.map zbB)=l.map zbB:=by rw[List.map_map];exact zkQ
@[go_sem] theorem zud {l:List Session}{i:Nat}{Voter:Int}{Vote:(List Int)}{Coins:(List Int)}{Receipt:Int}{Cast:Bool}:(l.map zbB).set i [.int .i64 Voter,.sl false 1 (Vote.map zaf),.sl false 1 (Coins.map zaf),.int .i64 Receipt,.bool Cast]=(l.set i (Session.mk Voter Vote Coins Receipt Cast)).map zbB:=by rw[List.map_set];rfl
def zc2 (x:Session):List PV:=[.int .i64 x.Voter,.sl true 1 (x.Vote.map zaf),.sl true 1 (x.Coins.map zaf),.int .i64 x.Receipt,.bool x.Cast]
@[go_sem] theorem zvL {x:Session}:zc2 x=[.int .i64 x.Voter,.sl true 1 (x.Vote.map zaf),.sl true 1 (x.Coins.map zaf),.int .i64 x.Receipt,.bool x.Cast]:=(rfl)
@[go_sem] theorem zkT {l:List Session}:List.map (List.map drop∘zc2) l=l.map zbB:=by refine List.map_congr_left fun x _=>?_;simp[go_sem]
@[go_sem] theorem ztd {l:List Session}:List.map (List.map drop) (l.map zc2)=l.map zbB:=by rw[List.map_map];exact zkT
@[go_sem] theorem zvm {l:List Session}{i:Nat}{Voter:Int}{Vote:(List Int)}{Coins:(List Int)}{Receipt:Int}{Cast:Bool}:(l.map zc2).set i [.int .i64 Voter,.sl true 1 (Vote.map zaf),.sl true 1 (Coins.map zaf),.int .i64 Receipt,.bool Cast]=(l.set i (Session.mk Voter Vote Coins Receipt Cast)).map zc2:=by rw[List.map_set];rfl
def zdI (x:List Int):List PV:=[.sl false 1 (x.map zaf)]
@[go_sem] theorem zAO {x:(List Int)}:zdI x=[.sl false 1 (x.map zaf)]:=(rfl)
@[go_sem] theorem zpb {l:List (List Int)}:List.map (List.map drop∘zdI) l=l.map zdI:=by refine List.map_congr_left fun x _=>?_;simp[go_sem]
@[go_sem] theorem zyj {l:List (List Int)}:List.map (List.map drop) (l.map zdI)=l.map zdI:=by rw[List.map_map];exact zpb
@[go_sem] theorem zyP {l:List (List Int)}{i:Nat}{a:(List Int)}:(l.map zdI).set i [.sl false 1 (a.map zaf)]=(l.set i a).map zdI:=by rw[List.map_set];rfl
def zcn (x:EqualLog):List PV:=[.int .i64 x.G1,.int .i64 x.Y1,.int .i64 x.G2,.int .i64 x.Y2]
@[go_sem] theorem zw6 {x:EqualLog}:zcn x=[.int .i64 x.G1,.int .i64 x.Y1,.int .i64 x.G2,.int .i64 x.Y2]:=(rfl)
@[go_sem] theorem zmi {l:List EqualLog}:List.map (List.map drop∘zcn) l=l.map zcn:=by refine List.map_congr_left fun x _=>?_;simp[go_sem]
@[go_sem] theorem zvG {l:List EqualLog}:List.map (List.map drop) (l.map zcn)=l.map zcn:=by rw[List.map_map];exact zmi
@[go_sem] theorem zwk {l:List EqualLog}{i:Nat}{G1:Int}{Y1:Int}{G2:Int}{Y2:Int}:(l.map zcn).set i [.int .i64 G1,.int .i64 Y1,.int .i64 G2,.int .i64 Y2]=(l.set i (EqualLog.mk G1 Y1 G2 Y2)).map zcn:=by rw[List.map_set];rfl
def zbV (x:Cipher):List PV:=[.int .i64 x.A,.int .i64 x.B]
@[go_sem] theorem zyK {x:Cipher}:zbV x=[.int .i64 x.A,.int .i64 x.B]:=(rfl)
@[go_sem] theorem znw {l:List Cipher}:List.map (List.map drop∘zbV) l=l.map zbV:=by refine List.map_congr_left fun x _=>?_;simp[go_sem]
@[go_sem] theorem zwM {l:List Cipher}:List.map (List.map drop) (l.map zbV)=l.map zbV:=by rw[List.map_map];exact znw
@[go_sem] theorem zxT {l:List Cipher}{i:Nat}{A:Int}{B:Int}:(l.map zbV).set i [.int .i64 A,.int .i64 B]=(l.set i (Cipher.mk A B)).map zbV:=by rw[List.map_set];rfl
def zaT (x:Proof):List PV:=[.sl false 1 (x.Commits.map zaf),.sl false 1 (x.Challenges.map zaf),.sl false 1 (x.Responses.map zaf)]
@[go_sem] theorem zwD {x:Proof}:zaT x=[.sl false 1 (x.Commits.map zaf),.sl false 1 (x.Challenges.map zaf),.sl false 1 (x.Responses.map zaf)]:=(rfl)
@[go_sem] theorem zk5 {l:List Proof}:List.map (List.map drop∘zaT) l=l.map zaT:=by refine List.map_congr_left fun x _=>?_;simp[go_sem]
@[go_sem] theorem zt6 {l:List Proof}:List.map (List.map drop) (l.map zaT)=l.map zaT:=by rw[List.map_map];exact zk5
@[go_sem] theorem zvO {l:List Proof}{i:Nat}{Commits:(List Int)}{Challenges:(List Int)}{Responses:(List Int)}:(l.map zaT).set i [.sl false 1 (Commits.map zaf),.sl false 1 (Challenges.map zaf),.sl false 1 (Responses.map zaf)]=(l.set i (Proof.mk Commits Challenges Responses)).map zaT:=by rw[List.map_set];rfl
def zcM (x:Proof):List PV:=[.sl true 1 (x.Commits.map zaf),.sl true 1 (x.Challenges.map zaf),.sl true 1 (x.Responses.map zaf)]
@[go_sem] theorem zwy {x:Proof}:zcM x=[.sl true 1 (x.Commits.map zaf),.sl true 1 (x.Challenges.map zaf),.sl true 1 (x.Responses.map zaf)]:=(rfl)
@[go_sem] theorem zlz {l:List Proof}:List.map (List.map drop∘zcM) l=l.map zaT:=by refine List.map_congr_left fun x _=>?_;simp[go_sem]
@[go_sem] theorem zt7 {l:List Proof}:List.map (List.map drop) (l.map zcM)=l.map zaT:=by rw[List.map_map];exact zlz
@[go_sem] theorem zvN {l:List Proof}{i:Nat}{Commits:(List Int)}{Challenges:(List Int)}{Responses:(List Int)}:(l.map zcM).set i [.sl true 1 (Commits.map zaf),.sl true 1 (Challenges.map zaf),.sl true 1 (Responses.map zaf)]=(l.set i (Proof.mk Commits Challenges Responses)).map zcM:=by rw[List.map_set];rfl
def zgL (x:List Int):List PV:=[.sl true 1 (x.map zaf)]
@[go_sem] theorem zAP {x:(List Int)}:zgL x=[.sl true 1 (x.map zaf)]:=(rfl)
@[go_sem] theorem zph {l:List (List Int)}:List.map (List.map drop∘zgL) l=l.map zdI:=by refine List.map_congr_left fun x _=>?_;simp[go_sem]
@[go_sem] theorem zxx {l:List (List Int)}:List.map (List.map drop) (l.map zgL)=l.map zdI:=by rw[List.map_map];exact zph
@[go_sem] theorem zy2 {l:List (List Int)}{i:Nat}{a:(List Int)}:(l.map zgL).set i [.sl true 1 (a.map zaf)]=(l.set i a).map zgL:=by rw[List.map_set];rfl
def vA (x:List Int):PV:=.sl false 1 (x.map zaf)
@[go_sem] theorem zRG {x:(List Int)}:vA x=.sl false 1 (x.map zaf):=(rfl)
def vB (x:Session):PV:=.agg [.int .i64 x.Voter,.sl false 1 (x.Vote.map zaf),.sl false 1 (x.Coins.map zaf),.int .i64 x.Receipt,.bool x.Cast]
@[go_sem] theorem zPW {x:Session}:vB x=.agg [.int .i64 x.Voter,.sl false 1 (x.Vote.map zaf),.sl false 1 (x.Coins.map zaf),.int .i64 x.Receipt,.bool x.Cast]:=(rfl)
def vC (x:List Session):PV:=.sl false 5 (x.map zbB)
@[go_sem] theorem zQc {x:(List Session)}:vC x=.sl false 5 (x.map zbB):=(rfl)
def vD (x:Group):PV:=.agg [.int .i64 x.P,.int .i64 x.Q,.int .i64 x.G]
@[go_sem] theorem zPK {x:Group}:vD x=.agg [.int .i64 x.P,.int .i64 x.Q,.int .i64 x.G]:=(rfl)
def vE (x:Contest):PV:=.agg [.int .i64 x.Kind,.int .i64 x.Options,.int .i64 x.Least,.int .i64 x.Most,.int .i64 x.Points]
@[go_sem] theorem zPw {x:Contest}:vE x=.agg [.int .i64 x.Kind,.int .i64 x.Options,.int .i64 x.Least,.int .i64 x.Most,.int .i64 x.Points]:=(rfl)
def vF (x:List Int):PV:=.sl true 1 (x.map zaf)
@[go_sem] theorem zRQ {x:(List Int)}:vF x=.sl true 1 (x.map zaf):=(rfl)
def vG (x:Session):PV:=.agg [.int .i64 x.Voter,.sl true 1 (x.Vote.map zaf),.sl true 1 (x.Coins.map zaf),.int .i64 x.Receipt,.bool x.Cast]
@[go_sem] theorem zRe {x:Session}:vG x=.agg [.int .i64 x.Voter,.sl true 1 (x.Vote.map zaf),.sl true 1 (x.Coins.map zaf),.int .i64 x.Receipt,.bool x.Cast]:=(rfl)
def vH (x:List Session):PV:=.sl true 5 (x.map zc2)
@[go_sem] theorem zRk {x:(List Session)}:vH x=.sl true 5 (x.map zc2):=(rfl)
def vI (x:Cipher):PV:=.agg [.int .i64 x.A,.int .i64 x.B]
@[go_sem] theorem zP2 {x:Cipher}:vI x=.agg [.int .i64 x.A,.int .i64 x.B]:=(rfl)
def vJ (x:(List (List Int))):PV:=.sl false 1 (x.map zdI)
@[go_sem] theorem zRp {x:(List (List Int))}:vJ x=.sl false 1 (x.map zdI):=(rfl)
def vK (x0:Int) (x1:Int):PV:=.bx [.int .i64 x0,.int .i64 x1]
@[go_sem] theorem zQF {x0:Int}{x1:Int}:vK x0 x1=.bx [.int .i64 x0,.int .i64 x1]:=(rfl)
def vL (x:Proof):PV:=.agg [.sl true 1 (x.Commits.map zaf),.sl true 1 (x.Challenges.map zaf),.sl true 1 (x.Responses.map zaf)]
@[go_sem] theorem zQs {x:Proof}:vL x=.agg [.sl true 1 (x.Commits.map zaf),.sl true 1 (x.Challenges.map zaf),.sl true 1 (x.Responses.map zaf)]:=(rfl)
def vM (x:List EqualLog):PV:=.sl true 4 (x.map zcn)
@[go_sem] theorem zPD {x:(List EqualLog)}:vM x=.sl true 4 (x.map zcn):=(rfl)
def vN (x:List EqualLog):PV:=.sl false 4 (x.map zcn)
@[go_sem] theorem zRa {x:(List EqualLog)}:vN x=.sl false 4 (x.map zcn):=(rfl)
def vO (x:List Cipher):PV:=.sl true 2 (x.map zbV)
@[go_sem] theorem zRq {x:(List Cipher)}:vO x=.sl true 2 (x.map zbV):=(rfl)
def vP (x:List Proof):PV:=.sl true 3 (x.map zcM)
@[go_sem] theorem zPY {x:(List Proof)}:vP x=.sl true 3 (x.map zcM):=(rfl)
def vQ (x:List Cipher):PV:=.sl false 2 (x.map zbV)
@[go_sem] theorem zQR {x:(List Cipher)}:vQ x=.sl false 2 (x.map zbV):=(rfl)
def vR (x:Sealed):PV:=.agg [.int .i64 x.Voter,.sl true 2 (x.Ciphers.map zbV),.sl true 3 (x.Proofs.map zcM),.sl true 1 (x.Sum.Commits.map zaf),.sl true 1 (x.Sum.Challenges.map zaf),.sl true 1 (x.Sum.Responses.map zaf)]
@[go_sem] theorem zQH {x:Sealed}:vR x=.agg [.int .i64 x.Voter,.sl true 2 (x.Ciphers.map zbV),.sl true 3 (x.Proofs.map zcM),.sl true 1 (x.Sum.Commits.map zaf),.sl true 1 (x.Sum.Challenges.map zaf),.sl true 1 (x.Sum.Responses.map zaf)]:=(rfl)
def vS (x:Proof):PV:=.agg [.sl false 1 (x.Commits.map zaf),.sl false 1 (x.Challenges.map zaf),.sl false 1 (x.Responses.map zaf)]
@[go_sem] theorem zP9 {x:Proof}:vS x=.agg [.sl false 1 (x.Commits.map zaf),.sl false 1 (x.Challenges.map zaf),.sl false 1 (x.Responses.map zaf)]:=(rfl)
def vT (x:List Proof):PV:=.sl false 3 (x.map zaT)
@[go_sem] theorem zQ0 {x:(List Proof)}:vT x=.sl false 3 (x.map zaT):=(rfl)
def vU (x:(List (List Int))):PV:=.sl true 1 (x.map zgL)
@[go_sem] theorem zQx {x:(List (List Int))}:vU x=.sl true 1 (x.map zgL):=(rfl)
def vV (x:Sealed):PV:=.agg [.int .i64 x.Voter,.sl false 2 (x.Ciphers.map zbV),.sl false 3 (x.Proofs.map zaT),.sl false 1 (x.Sum.Commits.map zaf),.sl false 1 (x.Sum.Challenges.map zaf),.sl false 1 (x.Sum.Responses.map zaf)]
@[go_sem] theorem zRl {x:Sealed}:vV x=.agg [.int .i64 x.Voter,.sl false 2 (x.Ciphers.map zbV),.sl false 3 (x.Proofs.map zaT),.sl false 1 (x.Sum.Commits.map zaf),.sl false 1 (x.Sum.Challenges.map zaf),.sl false 1 (x.Sum.Responses.map zaf)]:=(rfl)
def vW (x:EqualLog):PV:=.agg [.int .i64 x.G1,.int .i64 x.Y1,.int .i64 x.G2,.int .i64 x.Y2]
@[go_sem] theorem zPx {x:EqualLog}:vW x=.agg [.int .i64 x.G1,.int .i64 x.Y1,.int .i64 x.G2,.int .i64 x.Y2]:=(rfl)
def vX (x:List Proof):PV:=.sl true 3 (x.map zaT)
@[go_sem] theorem zQQ {x:(List Proof)}:vX x=.sl true 3 (x.map zaT):=(rfl)
def vY (x:(List (List Int))):PV:=.sl true 1 (x.map zdI)
@[go_sem] theorem zPI {x:(List (List Int))}:vY x=.sl true 1 (x.map zdI):=(rfl)
def zeN (a0:List Int) (a1:Int):Option Int:=
 if decide ((i64.wrap (a1-(a0.length:Int)))<0)=true then(
 some (-1))else(
 some (i64.wrap (a1-(a0.length:Int))))
theorem zkN:∀{a0}{a1}{r},zeN a0 a1=some r→PCalls Tryz.prog 66 [(.sh,vA a0),(.sh,.int .i64 a1)] (Eo (.int .i64 r) [.junk,.junk]):=by
 intro a0 a1 r hr
 apply pF 12 [] [] [] [.tmp 4] hr zI5 Tryz.func66
 intro Φ hΦ hF g
 unfold zeN at hF
 iterate 3 (try simp[go_sem,g];try intros;refine zal ?_)
 refine wI hF (fun h1 hF=>?_) (fun h1 hF=>?_)
 ·exact wl hΦ hF
 refine wW ?_
 refine wK [4] ?_
 exact wm hΦ hF
def zes (a0:Session) (a1:Int):Option Int:=
 (zeN a0.Vote a1).bind fun z1=>
 if decide (z1<0)=true then(
 some (-1))else(
 (zeN a0.Coins z1).bind fun z3=>
 if decide (z3<0)=true then(
 some (-1))else(
 some z3))
theorem zmX:∀{a0}{a1}{r},zes a0 a1=some r→PCalls Tryz.prog 19 [(.sh,vB a0),(.sh,.int .i64 a1)] (Eo (.int .i64 r) [.junk,.junk]):=by
 intro a0 a1 r hr
 apply pF 18 [] [] [] [.tmp 4] hr zIq Tryz.func19
 intro Φ hΦ hF g
 unfold zes at hF
 refine wW ?_
 refine wC hF [.sh,.sh] zkN (fun z1 hF=>?_)
 iterate 2 refine wW ?_
 refine wI hF (fun h2 hF=>?_) (fun h2 hF=>?_)
 ·refine wK [4] ?_
  exact wm hΦ hF
 refine wW ?_
 refine wC hF [.sh,.sh] zkN (fun z3 hF=>?_)
 refine wK [1] ?_
 refine wW ?_
 refine wI hF (fun h4 hF=>?_) (fun h4 hF=>?_)
 ·exact wl hΦ hF
 cases hΦ _ (zaa hF)
 iterate 2 refine wW ?_
 try simp[go_sem,g]
def zd6 (a0:List Session) (a1:Int):Option Int:=
 if decide ((i64.wrap (a1-(a0.length:Int)))<0)=true then(
 some (-1))else(
 ((zaL (σ:=Int×Int) (fun s5=>
 if decide (s5.2<(a0.length:Int))=true then(
 (ix a0 s5.2).bind fun x11=>
 (zes x11 s5.1).bind fun z12=>
 if decide (z12<0)=true then(
 some (.out (.inr (-1))))else(
 some (.go (z12,i64.wrap (s5.2+1)))))else(
 some (.out (.inl s5.1)))) (i64.wrap (a1-(a0.length:Int)),0):Option (Int ⊕ Int)).bind (Sum.elim (fun x4=>
 some x4) some)))
theorem zmf:∀{a0}{a1}{r},zd6 a0 a1=some r→PCalls Tryz.prog 24 [(.sh,vC a0),(.sh,.int .i64 a1)] (Eo (.int .i64 r) [.junk,.junk]):=by
 intro a0 a1 r hr
 apply pF 27 [] [] [] [.tmp 4] hr zGE Tryz.func24
 intro Φ hΦ hF g
 unfold zd6 at hF
 iterate 3 (try simp[go_sem,g];try intros;refine zal ?_)
 refine wI hF (fun h1 hF=>?_) (fun h1 hF=>?_)
 ·exact wl hΦ hF
 iterate 2 refine wW ?_
 refine wS hF (fun x4=>[(1,.v (.int .i64 x4))]) (fun x4 hF=>?_) fun _ hj2 hr3 hF=>?_
 ·refine wK [4] ?_
  exact wm hΦ hF
 refine wB ?_
 obtain⟨b14,hb15,hψ9⟩:=hF
 refine pL hb15 (fun s5=>[(0,.v (vC a0)),(1,.v (.int .i64 s5.1)),(5,.v (.int .i64 s5.2))]) (fun s5 _ _ ho7 hg8 hF=>?_)
 try simp[go_sem,g]
 try intros
 refine wK [0,1,5,15] ?_
 refine wI hF (fun h10 hF=>?_) (fun h10 hF=>?_)
 ·refine wW ?_
  refine wB ?_
  obtain⟨x11,g,hF⟩:=Rx g hF
  refine wC hF [.sh,.sh] zmX (fun z12 hF=>?_)
  iterate 2 refine wW ?_
  refine wI hF (fun h13 hF=>?_) (fun h13 hF=>?_)
  ·refine wK [4] ?_
   cases ho7 _ (zaa hF)
   cases hΦ _ (hr3 _ hψ9)
   try simp[go_sem,g]
  refine wW ?_
  exact wT (hg8 _) (zaa hF)
 cases ho7 _ (zaa hF)
 exact wT (hj2 _) hψ9
def zen (a0:Group):Option Group:=
 some a0
theorem zhE:∀{a0}{r},zen a0=some r→PCalls Tryz.prog 8 [(.sh,vD a0)] (Eo (vD r) [.junk]):=by
 intro a0 r hr
 apply pF 14 [] [] [] [.cell 2 29] hr cl8 Tryz.func8
 intro Φ hΦ hF g
 unfold zen at hF
 iterate 3 refine wW ?_
 refine wK [1,2,3] ?_
 cases hΦ _ (zaa hF)
 iterate 2 refine wW ?_
 try simp[go_sem,g]
def zdC (a0:Contest):Option Contest:=
 some a0
theorem zgM:∀{a0}{r},zdC a0=some r→PCalls Tryz.prog 9 [(.sh,vE a0)] (Eo (vE r) [.junk]):=by
 intro a0 r hr
 apply pF 20 [] [] [] [.cell 2 31] hr cl9 Tryz.func9
 intro Φ hΦ hF g
 unfold zdC at hF
 iterate 3 refine wW ?_
 refine wK [1,2,3] ?_
 iterate 2 refine wW ?_
 refine wK [2,3] ?_
 exact wl hΦ hF
def zeI (a0:List Int):Option ((List Int)):=
 gd (0≤(a0.length:Int)∧(a0.length:Int)≤(a0.length:Int)∧8*(a0.length:Int)≤140737488355328∧(a0.length:Int)≤4611686018427387904)<|
 (some (List.replicate a0.length 0)).bind fun x1=>
 ((zaL (σ:=(List Int)×Int) (fun s15=>
 if decide (s15.2<(a0.length:Int))=true then(
 (ix a0 s15.2).bind fun x21=>
 (ix s15.1 s15.2).bind fun x22=>
 some (.go (s15.1.set s15.2.toNat x21,i64.wrap (s15.2+1))))else(
 some (.out s15.1))) (x1,0):Option ((List Int))).bind fun x6=>
 some x6)
theorem zkM:∀{a0}{r},zeI a0=some r→PCalls Tryz.prog 10 [(.sh,vA a0)] (Eo (vF r) [.junk]):=by
 intro a0 r hr
 apply pF 22 [] [] [] [.tmp 2] hr zGA Tryz.func10
 intro Φ hΦ hF g
 unfold zeI at hF
 obtain⟨g,hF⟩:=Rg g hF
 obtain⟨x1,e2,hF⟩:=zdV hF
 have g3:List.replicate a0.length ([.int .i64 0]:List PV)=x1.map zaf:=by injection e2 with e2;rw[←e2];simp[go_sem]
 iterate 3 (try simp[go_sem,g,g3];try intros;refine zal ?_)
 refine wJ hF (fun x6=>[(3,.v (vF x6))]) (fun x6 hF=>?_) fun _ hj4 hF=>?_
 ·exact wl hΦ hF
 refine wB ?_
 obtain⟨b23,hb24,hψ19⟩:=hF
 refine pL hb24 (fun s15=>[(0,.v (vA a0)),(3,.v (vF s15.1)),(4,.v (.int .i64 s15.2))]) (fun s15 _ _ ho17 hg18 hF=>?_)
 try simp[go_sem,g]
 try intros
 refine wK [0,3,4,11] ?_
 refine wI hF (fun h20 hF=>?_) (fun h20 hF=>?_)
 ·refine wW ?_
  refine wB ?_
  obtain⟨x21,g,hF⟩:=Rx g hF
  obtain⟨x22,g,hF⟩:=Rx g hF
  refine wW ?_
  exact wT (hg18 _) (zaa hF)
 cases ho17 _ (zaa hF)
 exact wT (hj4 _) hψ19
def zey (a0:Session):Option Session:=
 (zeI a0.Vote).bind fun z1=>
 (zeI a0.Coins).bind fun z2=>
 some (Session.mk a0.Voter z1 z2 a0.Receipt a0.Cast)
theorem zmL:∀{a0}{r},zey a0=some r→PCalls Tryz.prog 21 [(.sh,vB a0)] (Eo (vG r) [.junk]):=by
 intro a0 r hr
 apply pF 22 [] [] [] [.cell 2 52] hr zG8 Tryz.func21
 intro Φ hΦ hF g
 unfold zey at hF
 iterate 3 refine wW ?_
 refine wC hF [.sh] zkM (fun z1 hF=>?_)
 refine wK [1,2,3] ?_
 refine wC hF [.sh] zkM (fun z2 hF=>?_)
 iterate 2 refine wW ?_
 refine wK [2,3] ?_
 exact wl hΦ hF
def zb6 (a0:List Session):Option ((List Session)):=
 gd (0≤(a0.length:Int)∧(a0.length:Int)≤(a0.length:Int)∧72*(a0.length:Int)≤140737488355328∧(a0.length:Int)≤4611686018427387904)<|
 (some (List.replicate a0.length (Session.mk 0 [] [] 0 false))).bind fun x1=>
 ((zaL (σ:=(List Session)×Int) (fun s16=>
 if decide (s16.2<(a0.length:Int))=true then(
 (ix a0 s16.2).bind fun x22=>
 (zey x22).bind fun z23=>
 (ix s16.1 s16.2).bind fun x24=>
 some (.go (s16.1.set s16.2.toNat z23,i64.wrap (s16.2+1))))else(
 some (.out s16.1))) (x1,0):Option ((List Session))).bind fun x6=>
 some x6)
theorem zfc:∀{a0}{r},zb6 a0=some r→PCalls Tryz.prog 26 [(.sh,vC a0)] (Eo (vH r) [.junk]):=by
 intro a0 r hr
 apply pF 23 [] [30] [] [.tmp 2] hr zJj Tryz.func26
 intro Φ hΦ hF g
 unfold zb6 at hF
 obtain⟨g,hF⟩:=Rg g hF
 obtain⟨x1,e2,hF⟩:=zdV hF
 have g3:List.replicate a0.length ([.int .i64 0,.sl true 1 [],.sl true 1 [],.int .i64 0,.bool false]:List PV)=x1.map zc2:=by injection e2 with e2;rw[←e2];simp[go_sem]
 iterate 3 (try simp[go_sem,g,g3];try intros;refine zal ?_)
 refine wJ hF (fun x6=>[(3,.v (vH x6))]) (fun x6 hF=>?_) fun _ hj4 hF=>?_
 ·exact wl hΦ hF
 refine wB ?_
 obtain⟨b25,hb26,hψ20⟩:=hF
 refine pL hb26 (fun s16=>[(0,.v (vC a0)),(3,.v (vH s16.1)),(4,.v (.int .i64 s16.2))]) (fun s16 _ _ ho18 hg19 hF=>?_)
 try simp[go_sem,g]
 try intros
 refine wK [0,3,4,11] ?_
 refine wI hF (fun h21 hF=>?_) (fun h21 hF=>?_)
 ·refine wW ?_
  refine wB ?_
  obtain⟨x22,g,hF⟩:=Rx g hF
  refine wC hF [.sh] zmL (fun z23 hF=>?_)
  obtain⟨x24,g,hF⟩:=Rx g hF
  refine wW ?_
  exact wT (hg19 _) (zaa hF)
 cases ho18 _ (zaa hF)
 exact wT (hj4 _) hψ20
def zaX (a0:Int) (a1:Int) (a2:Int):Option Bool:=
 ((if decide (a1≤a0)=true then(
 some (decide (a0≤a2)))else(
 some false):Option Bool).bind fun x3=>
 some x3)
theorem zbv:∀{a0}{a1}{a2}{r},zaX a0 a1 a2=some r→PCalls Tryz.prog 35 [(.sh,.int .i64 a0),(.sh,.int .i64 a1),(.sh,.int .i64 a2)] (Eo (.bool r) [.junk,.junk,.junk]):=by
 intro a0 a1 a2 r hr
 apply pF 15 [] [] [] [.tmp 6] hr zI8 Tryz.func35
 intro Φ hΦ hF g
 unfold zaX at hF
 refine wW ?_
 refine wJ hF (fun x3=>[(6,.v (.bool x3))]) (fun x3 hF=>?_) fun _ hj1 hF=>?_
 ·exact wm hΦ hF
 refine wG hF (fun h4 hF=>?_) fun h4 hF=>?_
 ·exact wV h4 (hj1 _) (zaa hF)
 exact wV h4 (hj1 _) (zaa hF)
def zdl (a0:Int) (a1:Int) (a2:Int):Option Int:=
 gd (a2≠0)<|
 ((zaL (σ:=Int×Int×Int) (fun s4=>
 if decide (0<s4.2.1)=true then(
 ((if((s4.2.1.tmod 2)==1)=true then(
 gd (a2≠0)<|
 some ((i64.wrap (s4.2.2*s4.1)).tmod a2))else(
 some s4.2.2):Option Int).bind fun x12=>
 gd (a2≠0)<|
 some (.go ((i64.wrap (s4.1*s4.1)).tmod a2,i64.wrap (s4.2.1.tdiv 2),x12))))else(
 some (.out s4.2.2))) (a0,a1,(1:Int).tmod a2):Option Int).bind fun x3=>
 some x3)
theorem zia:∀{a0}{a1}{a2}{r},zdl a0 a1 a2=some r→PCalls Tryz.prog 77 [(.sh,.int .i64 a0),(.sh,.int .i64 a1),(.sh,.int .i64 a2)] (Eo (.int .i64 r) [.junk,.junk,.junk]):=by
 intro a0 a1 a2 r hr
 apply pF 28 [] [] [] [.tmp 6] hr zHP Tryz.func77
 intro Φ hΦ hF g
 unfold zdl at hF
 obtain⟨g,hF⟩:=Rz g hF
 iterate 2 refine wW ?_
 refine wJ hF (fun x3=>[(7,.v (.int .i64 x3))]) (fun x3 hF=>?_) fun _ hj1 hF=>?_
 ·exact wl hΦ hF
 refine wB ?_
 obtain⟨b14,hb15,hψ8⟩:=hF
 refine pL hb15 (fun s4=>[(0,.v (.int .i64 s4.1)),(1,.v (.int .i64 s4.2.1)),(2,.v (.int .i64 a2)),(7,.v (.int .i64 s4.2.2))]) (fun s4 _ _ ho6 hg7 hF=>?_)
 refine wW ?_
 refine wI hF (fun h9 hF=>?_) (fun h9 hF=>?_)
 ·refine wW ?_
  refine wB ?_
  have g:=Ld g 2
  refine wW ?_
  refine wJ hF (fun x12=>[(0,.v (.int .i64 s4.1)),(1,.v (.int .i64 s4.2.1)),(2,.v (.int .i64 a2)),(7,.v (.int .i64 x12))]) (fun x12 hF=>?_) fun _ hj10 hF=>?_
  ·obtain⟨g,hF⟩:=Rz g hF
   refine wK [0,1,2,7] ?_
   exact wT (hg7 _) (zaa hF)
  refine wI hF (fun h13 hF=>?_) (fun h13 hF=>?_)
  ·obtain⟨g,hF⟩:=Rz g hF
   exact wT (hj10 _) (zaa hF)
  exact wT (hj10 _) (zaa hF)
 cases ho6 _ (zaa hF)
 exact wT (hj1 _) hψ8
def zeM (a0:Int):Option Bool:=
 if decide (a0<2)=true then(
 some false)else(
 ((zaL (σ:=Int) (fun s5=>
 if decide ((i64.wrap (s5*s5))≤a0)=true then(
 gd (s5≠0)<|
 if((a0.tmod s5)==0)=true then(
 some (.out (.inr false)))else(
 some (.go (i64.wrap (s5+1)))))else(
 some (.out (.inl ())))) 2:Option (Unit ⊕ Bool)).bind (Sum.elim (fun x4=>
 some true) some)))
theorem zkJ:∀{a0}{r},zeM a0=some r→PCalls Tryz.prog 126 [(.sh,.int .i64 a0)] (Eo (.bool r) [.junk]):=by
 intro a0 r hr
 apply pF 17 [] [] [] [.tmp 2] hr zBr Tryz.func126
 intro Φ hΦ hF g
 unfold zeM at hF
 iterate 2 refine wW ?_
 refine wI hF (fun h1 hF=>?_) (fun h1 hF=>?_)
 ·exact wl hΦ hF
 iterate 2 refine wW ?_
 refine wS hF (fun x4=>[]) (fun x4 hF=>?_) fun _ hj2 hr3 hF=>?_
 ·exact wl hΦ hF
 refine wB ?_
 obtain⟨b12,hb13,hψ9⟩:=hF
 refine pL hb13 (fun s5=>[(0,.v (.int .i64 a0)),(3,.v (.int .i64 s5))]) (fun s5 _ _ ho7 hg8 hF=>?_)
 refine wW ?_
 refine wI hF (fun h10 hF=>?_) (fun h10 hF=>?_)
 ·refine wW ?_
  refine wB ?_
  obtain⟨g,hF⟩:=Rz g hF
  refine wK [0,3,16] ?_
  refine wI hF (fun h11 hF=>?_) (fun h11 hF=>?_)
  ·cases ho7 _ (zaa hF)
   cases hΦ _ (hr3 _ hψ9)
   refine wW ?_
   try simp[go_sem,g]
  refine wW ?_
  exact wT (hg8 _) (zaa hF)
 cases ho7 _ (zaa hF)
 exact wT (hj2 _) hψ9
def zfI (a0:Group):Option Bool:=
 (((zaX a0.P 3 2000000000).bind fun z4=>
 if z4=true then(
 (zaX a0.Q 2 (i64.wrap (a0.P-1))).bind fun z6=>
 if z6=true then(
 gd (a0.Q≠0)<|
 if(((i64.wrap (a0.P-1)).tmod a0.Q)==0)=true then(
 (zaX a0.G 2 (i64.wrap (a0.P-1))).bind fun z9=>
 if z9=true then(
 (zdl a0.G a0.Q a0.P).bind fun z11=>
 if(z11==1)=true then(
 (zeM a0.Q).bind fun z13=>
 if z13=true then(
 (zeM a0.P).bind fun z15=>
 some z15)else(
 some false))else(
 some false))else(
 some false))else(
 some false))else(
 some false))else(
 some false):Option Bool).bind fun x3=>
 some x3)
theorem zpe:∀{a0}{r},zfI a0=some r→PCalls Tryz.prog 73 [(.sh,vD a0)] (Eo (.bool r) [.junk]):=by
 intro a0 r hr
 apply pF 51 [] [] [] [.tmp 2] hr zFv Tryz.func73
 intro Φ hΦ hF g
 unfold zfI at hF
 refine wW ?_
 refine wJ hF (fun x3=>[(2,.v (.bool x3))]) (fun x3 hF=>?_) fun _ hj1 hF=>?_
 ·exact wm hΦ hF
 refine wC hF [.sh,.sh,.sh] zbv (fun z4 hF=>?_)
 refine wG hF (fun h5 hF=>?_) fun h5 hF=>?_
 ·try simp[go_sem,g,h5]
  refine wC hF [.sh,.sh,.sh] zbv (fun z6 hF=>?_)
  try simp[go_sem,g,h5]
  refine wG hF (fun h7 hF=>?_) fun h7 hF=>?_
  ·obtain⟨g,hF⟩:=Rz g hF
   try simp[go_sem,g,h7]
   refine wG hF (fun h8 hF=>?_) fun h8 hF=>?_
   ·try simp[go_sem,g,h8]
    refine wC hF [.sh,.sh,.sh] zbv (fun z9 hF=>?_)
    try simp[go_sem,g,h8]
    refine wG hF (fun h10 hF=>?_) fun h10 hF=>?_
    ·try simp[go_sem,g,h10]
     refine wC hF [.sh,.sh,.sh] zia (fun z11 hF=>?_)
     try simp[go_sem,g,h10]
     refine wG hF (fun h12 hF=>?_) fun h12 hF=>?_
     ·try simp[go_sem,g,h12]
      refine wC hF [.sh] zkJ (fun z13 hF=>?_)
      try simp[go_sem,g,h12]
      refine wG hF (fun h14 hF=>?_) fun h14 hF=>?_
      ·try simp[go_sem,g,h14]
       refine wC hF [.sh] zkJ (fun z15 hF=>?_)
       exact wV h14 (hj1 _) (zaa hF)
      exact wV h14 (hj1 _) (zaa hF)
     exact wV h12 (hj1 _) (zaa hF)
    exact wV h10 (hj1 _) (zaa hF)
   exact wV h8 (hj1 _) (zaa hF)
  exact wV h7 (hj1 _) (zaa hF)
 exact wV h5 (hj1 _) (zaa hF)
def zeU (a0:Contest):Option Bool:=
 ((if decide (a0.Least<0)=true then(
 some true)else(
 some (decide (a0.Most<a0.Least))):Option Bool).bind fun x3=>
 if x3=true then(
 some false)else(
 ((if(a0.Kind==1)=true then(
 some (a0.Kind==1))else(
 some (a0.Kind==3)):Option Bool).bind fun x8=>
 if x8=true then(
 (((zaX a0.Options 1 8).bind fun z14=>
 if z14=true then(
 if decide (a0.Most≤a0.Options)=true then(
 some (a0.Points==0))else(
 some false))else(
 some false):Option Bool).bind fun x13=>
 some x13))else(
 if(a0.Kind==2)=true then(
 (((zaX a0.Options 1 8).bind fun z21=>
 if z21=true then(
 (zaX a0.Points 1 5).bind fun z23=>
 if z23=true then(
 some (decide (a0.Most≤(i64.wrap (a0.Options*a0.Points)))))else(
 some false))else(
 some false):Option Bool).bind fun x20=>
 some x20))else(
 ((if(a0.Kind==4)=true then(
 if(a0.Options==0)=true then(
 if decide (a0.Most≤5)=true then(
 some (a0.Points==0))else(
 some false))else(
 some false))else(
 some false):Option Bool).bind fun x27=>
 some x27))))))
theorem znK:∀{a0}{r},zeU a0=some r→PCalls Tryz.prog 74 [(.sh,vE a0)] (Eo (.bool r) [.junk]):=by
 intro a0 r hr
 apply pF 71 [] [] [] [.tmp 2] hr zJh Tryz.func74
 intro Φ hΦ hF g
 unfold zeU at hF
 refine wW ?_
 refine wJ hF (fun x3=>[(1,.bl [.int .i64 a0.Kind,.int .i64 a0.Options,.int .i64 a0.Least,.int .i64 a0.Most,.int .i64 a0.Points]),(12,.v (.bool x3))]) (fun x3 hF=>?_) fun _ hj1 hF=>?_
 ·refine wI hF (fun h5 hF=>?_) (fun h5 hF=>?_)
  ·exact wl hΦ hF
  iterate 2 refine wW ?_
  refine wB ?_
  refine wW ?_
  refine wJ hF (fun x8=>[(1,.bl [.int .i64 a0.Kind,.int .i64 a0.Options,.int .i64 a0.Least,.int .i64 a0.Most,.int .i64 a0.Points]),(14,.v (.int .i64 a0.Kind)),(15,.v (.bool x8))]) (fun x8 hF=>?_) fun _ hj6 hF=>?_
  ·refine wI hF (fun h10 hF=>?_) (fun h10 hF=>?_)
   ·refine wJ hF (fun x13=>[(2,.v (.bool x13))]) (fun x13 hF=>?_) fun _ hj11 hF=>?_
    ·exact wm hΦ hF
    refine wC hF [.sh,.sh,.sh] zbv (fun z14 hF=>?_)
    refine wG hF (fun h15 hF=>?_) fun h15 hF=>?_
    ·try simp[go_sem,g,h15]
     refine wG hF (fun h16 hF=>?_) fun h16 hF=>?_
     ·exact wV h16 (hj11 _) (zaa hF)
     exact wV h16 (hj11 _) (zaa hF)
    exact wV h15 (hj11 _) (zaa hF)
   refine wW ?_
   refine wI hF (fun h17 hF=>?_) (fun h17 hF=>?_)
   ·refine wJ hF (fun x20=>[(2,.v (.bool x20))]) (fun x20 hF=>?_) fun _ hj18 hF=>?_
    ·exact wm hΦ hF
    refine wC hF [.sh,.sh,.sh] zbv (fun z21 hF=>?_)
    refine wG hF (fun h22 hF=>?_) fun h22 hF=>?_
    ·try simp[go_sem,g,h22]
     refine wC hF [.sh,.sh,.sh] zbv (fun z23 hF=>?_)
     try simp[go_sem,g,h22]
     refine wG hF (fun h24 hF=>?_) fun h24 hF=>?_
     ·exact wV h24 (hj18 _) (zaa hF)
     exact wV h24 (hj18 _) (zaa hF)
    exact wV h22 (hj18 _) (zaa hF)
   refine wW ?_
   refine wJ hF (fun x27=>[(2,.v (.bool x27))]) (fun x27 hF=>?_) fun _ hj25 hF=>?_
   ·exact wm hΦ hF
   refine wG hF (fun h28 hF=>?_) fun h28 hF=>?_
   ·try simp[go_sem,g,h28]
    refine wG hF (fun h29 hF=>?_) fun h29 hF=>?_
    ·try simp[go_sem,g,h29]
     refine wG hF (fun h30 hF=>?_) fun h30 hF=>?_
     ·exact wV h30 (hj25 _) (zaa hF)
     exact wV h30 (hj25 _) (zaa hF)
    exact wV h29 (hj25 _) (zaa hF)
   exact wV h28 (hj25 _) (zaa hF)
  refine wI hF (fun h9 hF=>?_) (fun h9 hF=>?_)
  ·exact wT (hj6 _) (zaa hF)
  exact wT (hj6 _) (zaa hF)
 refine wG hF (fun h4 hF=>?_) fun h4 hF=>?_
 ·exact wV h4 (hj1 _) (zaa hF)
 exact wV h4 (hj1 _) (zaa hF)
def zdA (a0:Int) (a1:Int):Option Int:=
 if decide (a0<a1)=true then(
 some a0)else(
 some a1)
theorem zot:∀{a0}{a1}{r},zdA a0 a1=some r→PCalls Tryz.prog 127 [(.sh,.int .i64 a0),(.sh,.int .i64 a1)] (Eo (.int .i64 r) [.junk,.junk]):=by
 intro a0 a1 r hr
 apply pF 10 [] [] [] [.tmp 4] hr zDJ Tryz.func127
 intro Φ hΦ hF g
 unfold zdA at hF
 iterate 2 refine wW ?_
 refine wI hF (fun h1 hF=>?_) (fun h1 hF=>?_)
 ·exact wl hΦ hF
 cases hΦ _ (zaa hF)
 iterate 2 refine wW ?_
 try simp[go_sem,g]
def zd2 (a0:Contest) (a1:List Int):Option ((List Int)):=
 gd (0≤a0.Options∧a0.Options≤a0.Options∧8*a0.Options≤140737488355328∧a0.Options≤4611686018427387904)<|
 (some (List.replicate a0.Options.toNat 0)).bind fun x1=>
 ((zak (σ:=(List Int)) (fun i17 s16=>
 (ix a1 i17).bind fun x23=>
 (ix s16 x23).bind fun x24=>
 some (.go (s16.set x23.toNat 1))) (fun s16=>s16) (a1.length) 0 x1:Option ((List Int))).bind fun x6=>
 some x6)
theorem zkL:∀{a0}{a1}{r},zd2 a0 a1=some r→PCalls Tryz.prog 133 [(.sh,vE a0),(.sh,vA a1)] (Eo (vF r) [.junk,.junk]):=by
 intro a0 a1 r hr
 apply pF 22 [] [] [] [.tmp 4] hr zCf Tryz.func133
 intro Φ hΦ hF g
 unfold zd2 at hF
 obtain⟨g,hF⟩:=Rg g hF
 obtain⟨x1,e2,hF⟩:=zdV hF
 have g3:List.replicate a0.Options.toNat ([.int .i64 0]:List PV)=x1.map zaf:=by injection e2 with e2;rw[←e2];simp[go_sem]
 iterate 3 (try simp[go_sem,g,g3];try intros;refine zal ?_)
 refine wJ hF (fun x6=>[(5,.v (vF x6))]) (fun x6 hF=>?_) fun _ hj4 hF=>?_
 ·refine wK [4] ?_
  exact wm hΦ hF
 refine wB ?_
 obtain⟨b25,hb26,hψ20⟩:=hF
 refine pR hb26 (fun i17 s16=>[(5,.v (vF s16)),(11,.v (vA a1)),(12,.v (.int .i64 (a1.length:Int))),(13,.v (.int .i64 i17))]) (fun s16 _ hN27=>?_) (fun i17 s16 _ _ hi21 hi22 ho18 hg19 hF=>?_)
 ·exact wn hN27 (hj4 _) hψ20
 refine wK [5,11,12,13,14] ?_
 refine wu hi21 hi22 ?_
 refine wW ?_
 refine wB ?_
 obtain⟨x23,g,hF⟩:=Rx g hF
 obtain⟨x24,g,hF⟩:=Rx g hF
 iterate 2 refine wW ?_
 exact wi hi21 hi22 (hg19 _) (zaa hF)
def zcU (a0:List Int) (a1:Int) (a2:Int):Option Int:=
 ((zaL (σ:=Int×Int) (fun s4=>
 if decide (0≤s4.2)=true then(
 (ix a0 s4.2).bind fun x10=>
 some (.go (i64.wrap ((i64.wrap ((i64.wrap (s4.1*a1))+x10))+a2),i64.wrap (s4.2-1))))else(
 some (.out s4.1))) (0,i64.wrap ((a0.length:Int)-1)):Option Int).bind fun x3=>
 some x3)
theorem zgo:∀{a0}{a1}{a2}{r},zcU a0 a1 a2=some r→PCalls Tryz.prog 132 [(.sh,vA a0),(.sh,.int .i64 a1),(.sh,.int .i64 a2)] (Eo (.int .i64 r) [.junk,.junk,.junk]):=by
 intro a0 a1 a2 r hr
 apply pF 27 [] [] [] [.tmp 6] hr zBX Tryz.func132
 intro Φ hΦ hF g
 unfold zcU at hF
 iterate 3 (try simp[go_sem,g];try intros;refine zal ?_)
 refine wJ hF (fun x3=>[(7,.v (.int .i64 x3))]) (fun x3 hF=>?_) fun _ hj1 hF=>?_
 ·exact wl hΦ hF
 refine wB ?_
 obtain⟨b11,hb12,hψ8⟩:=hF
 refine pL hb12 (fun s4=>[(0,.v (vA a0)),(1,.v (.int .i64 a1)),(2,.v (.int .i64 a2)),(7,.v (.int .i64 s4.1)),(8,.v (.int .i64 s4.2))]) (fun s4 _ _ ho6 hg7 hF=>?_)
 refine wW ?_
 refine wI hF (fun h9 hF=>?_) (fun h9 hF=>?_)
 ·refine wW ?_
  refine wB ?_
  obtain⟨x10,g,hF⟩:=Rx g hF
  refine wK [0,1,2,7,8] ?_
  exact wT (hg7 _) (zaa hF)
 cases ho6 _ (zaa hF)
 exact wT (hj1 _) hψ8
def zco (a0:Contest) (a1:List Int):Option Int:=
 if(a0.Kind==1)=true then(
 (zd2 a0 a1).bind fun z2=>
 (zcU z2 2 0).bind fun z3=>
 some z3)else(
 if(a0.Kind==2)=true then(
 (zcU a1 (i64.wrap (a0.Points+1)) 0).bind fun z5=>
 some z5)else(
 if(a0.Kind==3)=true then(
 (zcU a1 (i64.wrap (a0.Options+1)) 1).bind fun z7=>
 some z7)else(
 (zcU a1 27 0).bind fun z8=>
 some z8)))
theorem ziI:∀{a0}{a1}{r},zco a0 a1=some r→PCalls Tryz.prog 85 [(.sh,vE a0),(.sh,vA a1)] (Eo (.int .i64 r) [.junk,.junk]):=by
 intro a0 a1 r hr
 apply pF 29 [] [] [] [.tmp 4] hr zGU Tryz.func85
 intro Φ hΦ hF g
 unfold zco at hF
 iterate 2 refine wW ?_
 refine wB ?_
 refine wW ?_
 refine wI hF (fun h1 hF=>?_) (fun h1 hF=>?_)
 ·refine wC hF [.sh,.sh] zkL (fun z2 hF=>?_)
  refine wC hF [.sh,.sh,.sh] zgo (fun z3 hF=>?_)
  refine wK [4] ?_
  exact wm hΦ hF
 refine wW ?_
 refine wI hF (fun h4 hF=>?_) (fun h4 hF=>?_)
 ·refine wC hF [.sh,.sh,.sh] zgo (fun z5 hF=>?_)
  refine wK [4] ?_
  exact wm hΦ hF
 refine wK [1,2,20] ?_
 refine wI hF (fun h6 hF=>?_) (fun h6 hF=>?_)
 ·refine wC hF [.sh,.sh,.sh] zgo (fun z7 hF=>?_)
  exact wl hΦ hF
 refine wW ?_
 refine wC hF [.sh,.sh,.sh] zgo (fun z8 hF=>?_)
 exact wl hΦ hF
def zdH (a0:Contest):Option Int:=
 ((if(a0.Kind==1)=true then(
 zaL (σ:=(List Int)×Int) (fun s5=>
 if decide (s5.2<a0.Options)=true then(
 gd ((s5.1.length+1)*8≤140737488355328∧s5.1.length+1≤4611686018427387904)<|
 some (.go (s5.1++[s5.2],i64.wrap (s5.2+1))))else(
 some (.out s5.1))) ([],i64.wrap (a0.Options-a0.Most)))else(
 if(a0.Kind==2)=true then(
 gd (0≤a0.Options∧a0.Options≤a0.Options∧8*a0.Options≤140737488355328∧a0.Options≤4611686018427387904)<|
 (some (List.replicate a0.Options.toNat 0)).bind fun x14=>
 zaL (σ:=(List Int)×Int×Int) (fun s26=>
 if decide (0≤s26.2.2)=true then(
 (zdA s26.2.1 a0.Points).bind fun z32=>
 (ix s26.1 s26.2.2).bind fun x33=>
 (ix (s26.1.set s26.2.2.toNat z32) s26.2.2).bind fun x34=>
 some (.go (s26.1.set s26.2.2.toNat z32,i64.wrap (s26.2.1-x34),i64.wrap (s26.2.2-1))))else(
 some (.out s26.1))) (x14,a0.Most,i64.wrap (a0.Options-1)))else(
 if(a0.Kind==3)=true then(
 zaL (σ:=(List Int)×Int) (fun s38=>
 if decide (s38.2<a0.Options)=true then(
 gd ((s38.1.length+1)*8≤140737488355328∧s38.1.length+1≤4611686018427387904)<|
 some (.go (s38.1++[s38.2],i64.wrap (s38.2+1))))else(
 some (.out s38.1))) ([],i64.wrap (a0.Options-a0.Most)))else(
 zaL (σ:=(List Int)×Int) (fun s46=>
 if decide (s46.2<a0.Most)=true then(
 gd ((s46.1.length+1)*8≤140737488355328∧s46.1.length+1≤4611686018427387904)<|
 some (.go (s46.1++[26],i64.wrap (s46.2+1))))else(
 some (.out s46.1))) ([],0)))):Option ((List Int))).bind fun x3=>
 (zco a0 x3).bind fun z54=>
 some z54)
theorem zi1:∀{a0}{r},zdH a0=some r→PCalls Tryz.prog 75 [(.sh,vE a0)] (Eo (.int .i64 r) [.junk]):=by
 intro a0 r hr
 apply pF 84 [] [] [] [.tmp 2] hr zIo Tryz.func75
 intro Φ hΦ hF g
 unfold zdH at hF
 iterate 3 refine wW ?_
 refine wJ hF (fun x3=>[(1,.bl [.int .i64 a0.Kind,.int .i64 a0.Options,.int .i64 a0.Least,.int .i64 a0.Most,.int .i64 a0.Points]),(3,.v (vF x3))]) (fun x3 hF=>?_) fun _ hj1 hF=>?_
 ·refine wC hF [.sh,.sh] ziI (fun z54 hF=>?_)
  exact wl hΦ hF
 refine wB ?_
 refine wW ?_
 refine wI hF (fun h4 hF=>?_) (fun h4 hF=>?_)
 ·refine wK [1,3,4] ?_
  refine wB ?_
  obtain⟨b11,hb12,hψ9⟩:=hF
  refine pL hb12 (fun s5=>[(1,.bl [.int .i64 a0.Kind,.int .i64 a0.Options,.int .i64 a0.Least,.int .i64 a0.Most,.int .i64 a0.Points]),(3,.v (vF s5.1)),(4,.v (.int .i64 s5.2))]) (fun s5 _ _ ho7 hg8 hF=>?_)
  refine wW ?_
  refine wI hF (fun h10 hF=>?_) (fun h10 hF=>?_)
  ·refine wW ?_
   refine wB ?_
   obtain⟨g,hF⟩:=Rg g hF
   refine wW ?_
   exact wT (hg8 _) (zaa hF)
  cases ho7 _ (zaa hF)
  exact wT (hj1 _) hψ9
 refine wW ?_
 refine wI hF (fun h13 hF=>?_) (fun h13 hF=>?_)
 ·obtain⟨g,hF⟩:=Rg g hF
  obtain⟨x14,e15,hF⟩:=zdV hF
  have g16:List.replicate a0.Options.toNat ([.int .i64 0]:List PV)=x14.map zaf:=by injection e15 with e15;rw[←e15];simp[go_sem]
  try simp[go_sem,g,g16]
  refine wK [1,3] ?_
  iterate 2 refine wW ?_
  refine wB ?_
  obtain⟨b35,hb36,hψ30⟩:=hF
  refine pL hb36 (fun s26=>[(1,.bl [.int .i64 a0.Kind,.int .i64 a0.Options,.int .i64 a0.Least,.int .i64 a0.Most,.int .i64 a0.Points]),(3,.v (vF s26.1)),(5,.v (.int .i64 s26.2.1)),(6,.v (.int .i64 s26.2.2))]) (fun s26 _ _ ho28 hg29 hF=>?_)
  refine wW ?_
  refine wI hF (fun h31 hF=>?_) (fun h31 hF=>?_)
  ·refine wW ?_
   refine wB ?_
   refine wC hF [.sh,.sh] zot (fun z32 hF=>?_)
   obtain⟨x33,g,hF⟩:=Rx g hF
   refine wK [1,3,5,6] ?_
   obtain⟨x34,g,hF⟩:=Rx g hF
   try simp only[List.length_set]at g
   refine wW ?_
   exact wT (hg29 _) (zaa hF)
  cases ho28 _ (zaa hF)
  exact wT (hj1 _) hψ30
 refine wK [1,3,64] ?_
 refine wI hF (fun h37 hF=>?_) (fun h37 hF=>?_)
 ·refine wW ?_
  refine wB ?_
  obtain⟨b44,hb45,hψ42⟩:=hF
  refine pL hb45 (fun s38=>[(1,.bl [.int .i64 a0.Kind,.int .i64 a0.Options,.int .i64 a0.Least,.int .i64 a0.Most,.int .i64 a0.Points]),(3,.v (vF s38.1)),(7,.v (.int .i64 s38.2))]) (fun s38 _ _ ho40 hg41 hF=>?_)
  refine wK [1,3,7,74] ?_
  refine wI hF (fun h43 hF=>?_) (fun h43 hF=>?_)
  ·refine wW ?_
   refine wB ?_
   obtain⟨g,hF⟩:=Rg g hF
   refine wW ?_
   exact wT (hg41 _) (zaa hF)
  cases ho40 _ (zaa hF)
  exact wT (hj1 _) hψ42
 refine wW ?_
 refine wB ?_
 obtain⟨b52,hb53,hψ50⟩:=hF
 refine pL hb53 (fun s46=>[(1,.bl [.int .i64 a0.Kind,.int .i64 a0.Options,.int .i64 a0.Least,.int .i64 a0.Most,.int .i64 a0.Points]),(3,.v (vF s46.1)),(8,.v (.int .i64 s46.2))]) (fun s46 _ _ ho48 hg49 hF=>?_)
 refine wW ?_
 refine wI hF (fun h51 hF=>?_) (fun h51 hF=>?_)
 ·refine wW ?_
  refine wB ?_
  obtain⟨g,hF⟩:=Rg g hF
  refine wW ?_
  exact wT (hg49 _) (zaa hF)
 cases ho48 _ (zaa hF)
 exact wT (hj1 _) hψ50
def zeA (a0:Contest):Option Bool:=
 ((if(a0.Kind==1)=true then(
 some true)else(
 some (a0.Kind==2)):Option Bool).bind fun x3=>
 some x3)
theorem zi5:∀{a0}{r},zeA a0=some r→PCalls Tryz.prog 76 [(.sh,vE a0)] (Eo (.bool r) [.junk]):=by
 intro a0 r hr
 apply pF 11 [] [] [] [.tmp 2] hr zGY Tryz.func76
 intro Φ hΦ hF g
 unfold zeA at hF
 refine wW ?_
 refine wJ hF (fun x3=>[(2,.v (.bool x3))]) (fun x3 hF=>?_) fun _ hj1 hF=>?_
 ·exact wm hΦ hF
 refine wG hF (fun h4 hF=>?_) fun h4 hF=>?_
 ·exact wV h4 (hj1 _) (zaa hF)
 exact wV h4 (hj1 _) (zaa hF)
@[go_sem] def zDn:List DE:=[d2 0 [2] 2 2,d3 1 [5],d0 2 [6],d0 3 [7],d2 4 [3,8] 3 3,d3 5 [9,8],d0 6 [10,8],d0 7 [8,11],d0 8 [12],d2 9 [3,13] 3 3,d3 10 [14,13],d0 11 [15,13],d0 12 [13,16],d0 13 [17],d2 14 [3,18] 3 3,d1 16 [2,18] 2,d2 17 [21,18] 2 21,d3 15 [19,18],d0 18 [20,22,18],d0 19 [18,23]]
def zdP (a0:Group) (a1:Contest):Option Bool:=
 (((zfI a0).bind fun z4=>
 if(!z4)=true then(
 some true)else(
 (zeU a1).bind fun z6=>
 if(!z6)=true then(
 some true)else(
 (zdH a1).bind fun z8=>
 if decide (100000<z8)=true then(
 some true)else(
 (zdH a1).bind fun z10=>
 some (decide (a0.Q≤z10))))):Option Bool).bind fun x3=>
 if x3=true then(
 some false)else(
 (((zeA a1).bind fun z15=>
 if(!z15)=true then(
 some true)else(
 if decide ((i64.wrap (a1.Most-a1.Least))<8)=true then(
 some (decide (a1.Most<a0.Q)))else(
 some false)):Option Bool).bind fun x14=>
 some x14)))
theorem zlw:∀{a0}{a1}{r},zdP a0 a1=some r→PCalls Tryz.prog 33 [(.sh,vD a0),(.sh,vE a1)] (Eo (.bool r) [.junk,.junk]):=by
 intro a0 a1 r hr
 apply pF 43 [] [] [] [.tmp 4] hr zJg Tryz.func33
 intro Φ hΦ hF g
 unfold zdP at hF
 refine wW ?_
 refine wJ hF (fun x3=>[(2,.bl [.int .i64 a0.P,.int .i64 a0.Q,.int .i64 a0.G]),(3,.bl [.int .i64 a1.Kind,.int .i64 a1.Options,.int .i64 a1.Least,.int .i64 a1.Most,.int .i64 a1.Points]),(24,.v (.bool x3))]) (fun x3 hF=>?_) fun _ hj1 hF=>?_
 ·refine wI hF (fun h11 hF=>?_) (fun h11 hF=>?_)
  ·exact wl hΦ hF
  refine wW ?_
  refine wJ hF (fun x14=>[(4,.v (.bool x14))]) (fun x14 hF=>?_) fun _ hj12 hF=>?_
  ·exact wm hΦ hF
  refine wC hF [.sh] zi5 (fun z15 hF=>?_)
  refine wG hF (fun h16 hF=>?_) fun h16 hF=>?_
  ·exact wV h16 (hj12 _) (zaa hF)
  try simp[go_sem,g,h16]
  refine wG hF (fun h17 hF=>?_) fun h17 hF=>?_
  ·try simp[go_sem,g,h17,h16]
   exact wT (hj12 _) (zaa hF)
  try simp[go_sem,g,h17,h16]
  exact wT (hj12 _) (zaa hF)
 refine wX zDn follows ?_
 refine wC hF [.sh] zpe (fun z4 hF=>?_)
 refine wH hF (fun h5 hF=>?_) fun h5 hF=>?_
 ·exact wV h5 (hj1 _) (zaa hF)
 try simp[go_sem,g,h5]
 refine wC hF [.sh] znK (fun z6 hF=>?_)
 try simp[go_sem,g,h5]
 refine wH hF (fun h7 hF=>?_) fun h7 hF=>?_
 ·exact wV h7 (hj1 _) (zaa hF)
 try simp[go_sem,g,h7]
 refine wC hF [.sh] zi1 (fun z8 hF=>?_)
 try simp[go_sem,g,h7]
 refine wH hF (fun h9 hF=>?_) fun h9 hF=>?_
 ·exact wV h9 (hj1 _) (zaa hF)
 try simp[go_sem,g,h9]
 refine wC hF [.sh] zi1 (fun z10 hF=>?_)
 exact wV h9 (hj1 _) (zaa hF)
def zfx (a0:Group) (a1:List Int):Option Bool:=
 ((zak (σ:=Unit) (fun i5 s4=>
 (ix a1 i5).bind fun x11=>
 (((zaX x11 1 (i64.wrap (a0.P-1))).bind fun z15=>
 if(!z15)=true then(
 some true)else(
 (zdl x11 a0.Q a0.P).bind fun z17=>
 some (z17 !=1)):Option Bool).bind fun x14=>
 if x14=true then(
 some (.out (.inr false)))else(
 some (.go ())))) (fun s4=>.inl ()) (a1.length) 0 ():Option (Unit ⊕ Bool)).bind (Sum.elim (fun x3=>
 some true) some))
theorem znj:∀{a0}{a1}{r},zfx a0 a1=some r→PCalls Tryz.prog 34 [(.sh,vD a0),(.sh,vA a1)] (Eo (.bool r) [.junk,.junk]):=by
 intro a0 a1 r hr
 apply pF 29 [] [] [] [.tmp 4] hr zGK Tryz.func34
 intro Φ hΦ hF g
 unfold zfx at hF
 iterate 2 (try simp[go_sem,g];try intros;refine zal ?_)
 refine wS hF (fun x3=>[]) (fun x3 hF=>?_) fun _ hj1 hr2 hF=>?_
 ·exact wl hΦ hF
 refine wB ?_
 obtain⟨b19,hb20,hψ8⟩:=hF
 refine pR hb20 (fun i5 s4=>[(2,.bl [.int .i64 a0.P,.int .i64 a0.Q,.int .i64 a0.G]),(7,.v (vA a1)),(8,.v (.int .i64 (a1.length:Int))),(9,.v (.int .i64 i5))]) (fun s4 _ hN21=>?_) (fun i5 s4 _ _ hi9 hi10 ho6 hg7 hF=>?_)
 ·exact wn hN21 (hj1 _) hψ8
 refine wW ?_
 refine wu hi9 hi10 ?_
 refine wW ?_
 refine wB ?_
 obtain⟨x11,g,hF⟩:=Rx g hF
 refine wW ?_
 refine wJ hF (fun x14=>[(2,.bl [.int .i64 a0.P,.int .i64 a0.Q,.int .i64 a0.G]),(7,.v (vA a1)),(8,.v (.int .i64 (a1.length:Int))),(9,.v (.int .i64 i5)),(27,.v (.bool x14))]) (fun x14 hF=>?_) fun _ hj12 hF=>?_
 ·refine wI hF (fun h18 hF=>?_) (fun h18 hF=>?_)
  ·refine wK [4] ?_
   cases ho6 _ (zaa hF)
   cases hΦ _ (hr2 _ hψ8)
   try simp[go_sem,g]
  refine wW ?_
  exact wi hi9 hi10 (hg7 _) (zaa hF)
 refine wC hF [.sh,.sh,.sh] zbv (fun z15 hF=>?_)
 refine wG hF (fun h16 hF=>?_) fun h16 hF=>?_
 ·exact wV h16 (hj12 _) (zaa hF)
 try simp[go_sem,g,h16]
 refine wC hF [.sh,.sh,.sh] zia (fun z17 hF=>?_)
 exact wV h16 (hj12 _) (zaa hF)
def zeT (a0:Int):Option Bool:=
 (zaX a0 0 4611686018427387903).bind fun z1=>
 some z1
theorem znW:∀{a0}{r},zeT a0=some r→PCalls Tryz.prog 67 [(.sh,.int .i64 a0)] (Eo (.bool r) [.junk]):=by
 intro a0 r hr
 apply pF 5 [] [] [] [.tmp 2] hr zHS Tryz.func67
 intro Φ hΦ hF g
 unfold zeT at hF
 refine wW ?_
 refine wC hF [.sh,.sh,.sh] zbv (fun z1 hF=>?_)
 exact wl hΦ hF
def zeY (a0:List Int) (a1:Int) (a2:Int):Option Bool:=
 ((zak (σ:=Unit) (fun i5 s4=>
 (ix a0 i5).bind fun x11=>
 (((zaX x11 a1 a2).bind fun z15=>
 if(!z15)=true then(
 some true)else(
 if decide (0<i5)=true then(
 (ix a0 (i64.wrap (i5-1))).bind fun x18=>
 some (decide (x11≤x18)))else(
 some false)):Option Bool).bind fun x14=>
 if x14=true then(
 some (.out (.inr false)))else(
 some (.go ())))) (fun s4=>.inl ()) (a0.length) 0 ():Option (Unit ⊕ Bool)).bind (Sum.elim (fun x3=>
 some true) some))
theorem znV:∀{a0}{a1}{a2}{r},zeY a0 a1 a2=some r→PCalls Tryz.prog 78 [(.sh,vA a0),(.sh,.int .i64 a1),(.sh,.int .i64 a2)] (Eo (.bool r) [.junk,.junk,.junk]):=by
 intro a0 a1 a2 r hr
 apply pF 35 [] [] [] [.tmp 6] hr zI0 Tryz.func78
 intro Φ hΦ hF g
 unfold zeY at hF
 iterate 2 (try simp[go_sem,g];try intros;refine zal ?_)
 refine wS hF (fun x3=>[]) (fun x3 hF=>?_) fun _ hj1 hr2 hF=>?_
 ·exact wl hΦ hF
 refine wB ?_
 obtain⟨b20,hb21,hψ8⟩:=hF
 refine pR hb21 (fun i5 s4=>[(0,.v (vA a0)),(1,.v (.int .i64 a1)),(2,.v (.int .i64 a2)),(9,.v (vA a0)),(10,.v (.int .i64 (a0.length:Int))),(11,.v (.int .i64 i5))]) (fun s4 _ hN22=>?_) (fun i5 s4 _ _ hi9 hi10 ho6 hg7 hF=>?_)
 ·exact wn hN22 (hj1 _) hψ8
 refine wW ?_
 refine wu hi9 hi10 ?_
 refine wW ?_
 refine wB ?_
 obtain⟨x11,g,hF⟩:=Rx g hF
 refine wK [0,1,2,7,8,9,10,11] ?_
 refine wJ hF (fun x14=>[(0,.v (vA a0)),(1,.v (.int .i64 a1)),(2,.v (.int .i64 a2)),(9,.v (vA a0)),(10,.v (.int .i64 (a0.length:Int))),(11,.v (.int .i64 i5)),(33,.v (.bool x14))]) (fun x14 hF=>?_) fun _ hj12 hF=>?_
 ·refine wI hF (fun h19 hF=>?_) (fun h19 hF=>?_)
  ·cases ho6 _ (zaa hF)
   cases hΦ _ (hr2 _ hψ8)
   refine wW ?_
   try simp[go_sem,g]
  refine wW ?_
  exact wi hi9 hi10 (hg7 _) (zaa hF)
 refine wC hF [.sh,.sh,.sh] zbv (fun z15 hF=>?_)
 refine wG hF (fun h16 hF=>?_) fun h16 hF=>?_
 ·exact wV h16 (hj12 _) (zaa hF)
 try simp[go_sem,g,h16]
 refine wG hF (fun h17 hF=>?_) fun h17 hF=>?_
 ·obtain⟨x18,g,hF⟩:=Rx g hF
  try simp[go_sem,g,h17,h16]
  exact wT (hj12 _) (zaa hF)
 try simp[go_sem,g,h17,h16]
 exact wT (hj12 _) (zaa hF)
def zck (a0:List Int) (a1:Int) (a2:Int):Option Bool:=
 ((zak (σ:=Unit) (fun i5 s4=>
 (ix a0 i5).bind fun x11=>
 (zaX x11 a1 a2).bind fun z12=>
 if(!z12)=true then(
 some (.out (.inr false)))else(
 some (.go ()))) (fun s4=>.inl ()) (a0.length) 0 ():Option (Unit ⊕ Bool)).bind (Sum.elim (fun x3=>
 some true) some))
theorem zfm:∀{a0}{a1}{a2}{r},zck a0 a1 a2=some r→PCalls Tryz.prog 79 [(.sh,vA a0),(.sh,.int .i64 a1),(.sh,.int .i64 a2)] (Eo (.bool r) [.junk,.junk,.junk]):=by
 intro a0 a1 a2 r hr
 apply pF 21 [] [] [] [.tmp 6] hr zGw Tryz.func79
 intro Φ hΦ hF g
 unfold zck at hF
 iterate 2 (try simp[go_sem,g];try intros;refine zal ?_)
 refine wS hF (fun x3=>[]) (fun x3 hF=>?_) fun _ hj1 hr2 hF=>?_
 ·exact wl hΦ hF
 refine wB ?_
 obtain⟨b14,hb15,hψ8⟩:=hF
 refine pR hb15 (fun i5 s4=>[(1,.v (.int .i64 a1)),(2,.v (.int .i64 a2)),(9,.v (vA a0)),(10,.v (.int .i64 (a0.length:Int))),(11,.v (.int .i64 i5))]) (fun s4 _ hN16=>?_) (fun i5 s4 _ _ hi9 hi10 ho6 hg7 hF=>?_)
 ·exact wn hN16 (hj1 _) hψ8
 refine wW ?_
 refine wu hi9 hi10 ?_
 refine wW ?_
 refine wB ?_
 obtain⟨x11,g,hF⟩:=Rx g hF
 refine wW ?_
 refine wC hF [.sh,.sh,.sh] zbv (fun z12 hF=>?_)
 refine wK [1,2,9,10,11,19] ?_
 refine wI hF (fun h13 hF=>?_) (fun h13 hF=>?_)
 ·cases ho6 _ (zaa hF)
  cases hΦ _ (hr2 _ hψ8)
  refine wW ?_
  try simp[go_sem,g]
 refine wW ?_
 exact wi hi9 hi10 (hg7 _) (zaa hF)
def zfG (a0:List Int):Option Int:=
 ((zak (σ:=Int) (fun i5 s4=>
 (ix a0 i5).bind fun x11=>
 some (.go (i64.wrap (s4+x11)))) (fun s4=>s4) (a0.length) 0 0:Option Int).bind fun x3=>
 some x3)
theorem zpk:∀{a0}{r},zfG a0=some r→PCalls Tryz.prog 80 [(.sh,vA a0)] (Eo (.int .i64 r) [.junk]):=by
 intro a0 r hr
 apply pF 17 [] [] [] [.tmp 2] hr zF3 Tryz.func80
 intro Φ hΦ hF g
 unfold zfG at hF
 iterate 3 (try simp[go_sem,g];try intros;refine zal ?_)
 refine wJ hF (fun x3=>[(3,.v (.int .i64 x3))]) (fun x3 hF=>?_) fun _ hj1 hF=>?_
 ·exact wl hΦ hF
 refine wB ?_
 obtain⟨b12,hb13,hψ8⟩:=hF
 refine pR hb13 (fun i5 s4=>[(3,.v (.int .i64 s4)),(6,.v (vA a0)),(7,.v (.int .i64 (a0.length:Int))),(8,.v (.int .i64 i5))]) (fun s4 _ hN14=>?_) (fun i5 s4 _ _ hi9 hi10 ho6 hg7 hF=>?_)
 ·exact wn hN14 (hj1 _) hψ8
 refine wW ?_
 refine wu hi9 hi10 ?_
 refine wW ?_
 refine wB ?_
 obtain⟨x11,g,hF⟩:=Rx g hF
 refine wW ?_
 refine wK [3,6,7,8] ?_
 exact wi hi9 hi10 (hg7 _) (zaa hF)
def zgi (a0:List Int) (a1:Int):Option Bool:=
 ((zak (σ:=Unit) (fun i5 s4=>
 (ix a0 i5).bind fun x11=>
 if(x11==a1)=true then(
 some (.out (.inr true)))else(
 some (.go ()))) (fun s4=>.inl ()) (a0.length) 0 ():Option (Unit ⊕ Bool)).bind (Sum.elim (fun x3=>
 some false) some))
theorem zpI:∀{a0}{a1}{r},zgi a0 a1=some r→PCalls Tryz.prog 128 [(.sh,vA a0),(.sh,.int .i64 a1)] (Eo (.bool r) [.junk,.junk]):=by
 intro a0 a1 r hr
 apply pF 17 [] [] [] [.tmp 4] hr zC4 Tryz.func128
 intro Φ hΦ hF g
 unfold zgi at hF
 iterate 2 (try simp[go_sem,g];try intros;refine zal ?_)
 refine wS hF (fun x3=>[]) (fun x3 hF=>?_) fun _ hj1 hr2 hF=>?_
 ·exact wl hΦ hF
 refine wB ?_
 obtain⟨b13,hb14,hψ8⟩:=hF
 refine pR hb14 (fun i5 s4=>[(1,.v (.int .i64 a1)),(7,.v (vA a0)),(8,.v (.int .i64 (a0.length:Int))),(9,.v (.int .i64 i5))]) (fun s4 _ hN15=>?_) (fun i5 s4 _ _ hi9 hi10 ho6 hg7 hF=>?_)
 ·exact wn hN15 (hj1 _) hψ8
 refine wW ?_
 refine wu hi9 hi10 ?_
 refine wW ?_
 refine wB ?_
 obtain⟨x11,g,hF⟩:=Rx g hF
 refine wW ?_
 refine wK [1,7,8,9,15] ?_
 refine wI hF (fun h12 hF=>?_) (fun h12 hF=>?_)
 ·cases ho6 _ (zaa hF)
  cases hΦ _ (hr2 _ hψ8)
  refine wW ?_
  try simp[go_sem,g]
 refine wW ?_
 exact wi hi9 hi10 (hg7 _) (zaa hF)
def zfb (a0:List Int):Option Bool:=
 ((zak (σ:=Unit) (fun i5 s4=>
 (ix a0 i5).bind fun x11=>
 gd (0≤i5)<|
 gd (0≤i5.toNat∧i5.toNat≤a0.length)<|
 (zgi ((a0.take i5.toNat).drop 0) x11).bind fun z12=>
 if z12=true then(
 some (.out (.inr false)))else(
 some (.go ()))) (fun s4=>.inl ()) (a0.length) 0 ():Option (Unit ⊕ Bool)).bind (Sum.elim (fun x3=>
 some true) some))
theorem zmb:∀{a0}{r},zfb a0=some r→PCalls Tryz.prog 81 [(.sh,vA a0)] (Eo (.bool r) [.junk]):=by
 intro a0 r hr
 apply pF 18 [] [] [] [.tmp 2] hr zF7 Tryz.func81
 intro Φ hΦ hF g
 unfold zfb at hF
 iterate 2 (try simp[go_sem,g];try intros;refine zal ?_)
 refine wS hF (fun x3=>[]) (fun x3 hF=>?_) fun _ hj1 hr2 hF=>?_
 ·exact wl hΦ hF
 refine wB ?_
 obtain⟨b14,hb15,hψ8⟩:=hF
 refine pR hb15 (fun i5 s4=>[(0,.v (vA a0)),(5,.v (vA a0)),(6,.v (.int .i64 (a0.length:Int))),(7,.v (.int .i64 i5))]) (fun s4 _ hN16=>?_) (fun i5 s4 _ _ hi9 hi10 ho6 hg7 hF=>?_)
 ·exact wn hN16 (hj1 _) hψ8
 refine wW ?_
 refine wu hi9 hi10 ?_
 refine wW ?_
 refine wB ?_
 obtain⟨x11,g,hF⟩:=Rx g hF
 refine wK [0,3,4,5,6,7] ?_
 obtain⟨g,hF⟩:=Rg g hF
 obtain⟨g,hF⟩:=Rg g hF
 refine wC hF [.sh,.sh] zpI (fun z12 hF=>?_)
 refine wW ?_
 refine wI hF (fun h13 hF=>?_) (fun h13 hF=>?_)
 ·cases ho6 _ (zaa hF)
  cases hΦ _ (hr2 _ hψ8)
  refine wW ?_
  try simp[go_sem,g]
 refine wW ?_
 exact wi hi9 hi10 (hg7 _) (zaa hF)
@[go_sem] def zCC:List DE:=[d0 0 [1],d0 1 [25],d1 2 [2] 2,d2 3 [27] 2 27,d0 4 [26,28],d0 5 [29],d0 6 [1,30],d1 7 [2,30] 2,d2 8 [32,30] 2 32,d3 9 [31,33,30],d0 10 [30,34],d0 11 [35],d0 12 [1,36],d1 14 [2,36] 2,d2 15 [39,36] 2 39,d1 16 [2,36] 2,d2 17 [41,36] 2 41,d3 13 [37,36],d3 18 [38,40,42,36],d0 19 [36,43],d0 20 [44]]
def zgc (a0:Contest) (a1:List Int):Option Bool:=
 if(a0.Kind==1)=true then(
 (((zeY a1 0 (i64.wrap (a0.Options-1))).bind fun z5=>
 if z5=true then(
 (zaX (a1.length:Int) a0.Least a0.Most).bind fun z7=>
 some z7)else(
 some false):Option Bool).bind fun x4=>
 some x4))else(
 if(a0.Kind==2)=true then(
 ((if((a1.length:Int)==a0.Options)=true then(
 (zck a1 0 a0.Points).bind fun z13=>
 if z13=true then(
 (zfG a1).bind fun z15=>
 (zaX z15 a0.Least a0.Most).bind fun z16=>
 some z16)else(
 some false))else(
 some false):Option Bool).bind fun x11=>
 some x11))else(
 if(a0.Kind==3)=true then(
 (((zck a1 0 (i64.wrap (a0.Options-1))).bind fun z21=>
 if z21=true then(
 (zfb a1).bind fun z23=>
 if z23=true then(
 (zaX (a1.length:Int) a0.Least a0.Most).bind fun z25=>
 some z25)else(
 some false))else(
 some false):Option Bool).bind fun x20=>
 some x20))else(
 (((zck a1 1 26).bind fun z29=>
 if z29=true then(
 (zaX (a1.length:Int) a0.Least a0.Most).bind fun z31=>
 some z31)else(
 some false):Option Bool).bind fun x28=>
 some x28))))
theorem zq0:∀{a0}{a1}{r},zgc a0 a1=some r→PCalls Tryz.prog 36 [(.sh,vE a0),(.sh,vA a1)] (Eo (.bool r) [.junk,.junk]):=by
 intro a0 a1 r hr
 apply pF 76 [] [] [] [.tmp 4] hr zHA Tryz.func36
 intro Φ hΦ hF g
 unfold zgc at hF
 iterate 2 refine wW ?_
 refine wB ?_
 refine wW ?_
 refine wI hF (fun h1 hF=>?_) (fun h1 hF=>?_)
 ·refine wJ hF (fun x4=>[(4,.v (.bool x4))]) (fun x4 hF=>?_) fun _ hj2 hF=>?_
  ·exact wm hΦ hF
  refine wC hF [.sh,.sh,.sh] znV (fun z5 hF=>?_)
  refine wG hF (fun h6 hF=>?_) fun h6 hF=>?_
  ·try simp[go_sem,g,h6]
   try intros
   refine wC hF [.sh,.sh,.sh] zbv (fun z7 hF=>?_)
   exact wV h6 (hj2 _) (zaa hF)
  exact wV h6 (hj2 _) (zaa hF)
 refine wW ?_
 refine wI hF (fun h8 hF=>?_) (fun h8 hF=>?_)
 ·refine wJ hF (fun x11=>[(4,.v (.bool x11))]) (fun x11 hF=>?_) fun _ hj9 hF=>?_
  ·exact wm hΦ hF
  refine wX zCC follows ?_
  try simp[go_sem,g]
  try intros
  refine wH hF (fun h12 hF=>?_) fun h12 hF=>?_
  ·try simp[go_sem,g,h12]
   refine wC hF [.sh,.sh,.sh] zfm (fun z13 hF=>?_)
   try simp[go_sem,g,h12]
   refine wH hF (fun h14 hF=>?_) fun h14 hF=>?_
   ·try simp[go_sem,g,h14]
    refine wC hF [.sh] zpk (fun z15 hF=>?_)
    try simp[go_sem,g,h14]
    refine wC hF [.sh,.sh,.sh] zbv (fun z16 hF=>?_)
    exact wV h14 (hj9 _) (zaa hF)
   exact wV h14 (hj9 _) (zaa hF)
  exact wV h12 (hj9 _) (zaa hF)
 refine wK [1,2,45] ?_
 refine wI hF (fun h17 hF=>?_) (fun h17 hF=>?_)
 ·refine wJ hF (fun x20=>[(4,.v (.bool x20))]) (fun x20 hF=>?_) fun _ hj18 hF=>?_
  ·exact wm hΦ hF
  refine wC hF [.sh,.sh,.sh] zfm (fun z21 hF=>?_)
  refine wG hF (fun h22 hF=>?_) fun h22 hF=>?_
  ·try simp[go_sem,g,h22]
   refine wC hF [.sh] zmb (fun z23 hF=>?_)
   try simp[go_sem,g,h22]
   refine wG hF (fun h24 hF=>?_) fun h24 hF=>?_
   ·try simp[go_sem,g,h24]
    try intros
    refine wC hF [.sh,.sh,.sh] zbv (fun z25 hF=>?_)
    exact wV h24 (hj18 _) (zaa hF)
   exact wV h24 (hj18 _) (zaa hF)
  exact wV h22 (hj18 _) (zaa hF)
 refine wW ?_
 refine wJ hF (fun x28=>[(4,.v (.bool x28))]) (fun x28 hF=>?_) fun _ hj26 hF=>?_
 ·exact wm hΦ hF
 refine wC hF [.sh,.sh,.sh] zfm (fun z29 hF=>?_)
 refine wG hF (fun h30 hF=>?_) fun h30 hF=>?_
 ·try simp[go_sem,g,h30]
  try intros
  refine wC hF [.sh,.sh,.sh] zbv (fun z31 hF=>?_)
  exact wV h30 (hj26 _) (zaa hF)
 exact wV h30 (hj26 _) (zaa hF)
def zfV (a0:Contest):Option Int:=
 if(a0.Kind==1)=true then(
 some 1)else(
 some a0.Points)
theorem zmm:∀{a0}{r},zfV a0=some r→PCalls Tryz.prog 82 [(.sh,vE a0)] (Eo (.int .i64 r) [.junk]):=by
 intro a0 r hr
 apply pF 8 [] [] [] [.tmp 2] hr zG6 Tryz.func82
 intro Φ hΦ hF g
 unfold zfV at hF
 iterate 2 refine wW ?_
 refine wI hF (fun h1 hF=>?_) (fun h1 hF=>?_)
 ·exact wl hΦ hF
 cases hΦ _ (zaa hF)
 iterate 2 refine wW ?_
 try simp[go_sem,g]
@[go_sem] def zBl:List DE:=[d1 0 [1] 1,d2 1 [6] 1 6,d2 2 [1] 1 1,d1 7 [1] 1,d2 8 [13] 1 13,d1 9 [1] 1,d2 10 [15] 1 15,d0 11 [14,16],d0 12 [17],d3 3 [8],d0 4 [9],d0 5 [10],d0 6 [7,11],d0 13 [12,18],d0 14 [19],d0 15 [20]]
def zfM (a0:Contest):Option Int:=
 (zeA a0).bind fun z1=>
 if(!z1)=true then(
 some 2)else(
 (zfV a0).bind fun z3=>
 some (i64.wrap ((i64.wrap ((i64.wrap (a0.Options*(i64.wrap ((i64.wrap (2*z3))+2))))+(i64.wrap (2*(i64.wrap (a0.Most-a0.Least))))))+1)))
theorem zpf:∀{a0}{r},zfM a0=some r→PCalls Tryz.prog 37 [(.sh,vE a0)] (Eo (.int .i64 r) [.junk]):=by
 intro a0 r hr
 apply pF 21 [] [] [] [.tmp 2] hr zGo Tryz.func37
 intro Φ hΦ hF g
 unfold zfM at hF
 refine wW ?_
 refine wC hF [.sh] zi5 (fun z1 hF=>?_)
 refine wW ?_
 refine wI hF (fun h2 hF=>?_) (fun h2 hF=>?_)
 ·exact wl hΦ hF
 refine wW ?_
 refine wX zBl follows ?_
 refine wC hF [.sh] zmm (fun z3 hF=>?_)
 refine wK [2] ?_
 exact wm hΦ hF
def zgj (a0:Group) (a1:List Int):Option Bool:=
 (zck a1 0 (i64.wrap (a0.Q-1))).bind fun z1=>
 some z1
theorem zqb:∀{a0}{a1}{r},zgj a0 a1=some r→PCalls Tryz.prog 38 [(.sh,vD a0),(.sh,vA a1)] (Eo (.bool r) [.junk,.junk]):=by
 intro a0 a1 r hr
 apply pF 10 [] [] [] [.tmp 4] hr zG3 Tryz.func38
 intro Φ hΦ hF g
 unfold zgj at hF
 refine wW ?_
 refine wC hF [.sh,.sh,.sh] zfm (fun z1 hF=>?_)
 exact wl hΦ hF
@[go_sem] def zzl:List DE:=[d0 0 [0],d0 1 [10],d0 3 [0],d0 4 [13],d0 5 [14],d0 6 [15],d0 7 [16],d3 2 [11],⟨8,[17],[],none,true,true,false⟩,d0 9 [12,18],d0 10 [19]]
@[go_sem] def zvS:List DE:=[d0 0 [0],d0 1 [10],d0 3 [0],d0 4 [13],d0 5 [14],d0 6 [15],d0 7 [16],⟨8,[17],[],none,true,true,false⟩,d3 2 [11],d0 9 [12,18],d0 10 [19]]
def zbm:Nat→Int→Option ByteArray
 |0,_=>none
 |n_+1,a0=>
 if decide (a0<10)=true then(
 some (zdW [u8.wrap (i64.wrap (48+a0))]))else(
 (zbm n_ (i64.wrap (a0.tdiv 10))).bind fun z2=>
 gd (z2.size+(zdW [u8.wrap (i64.wrap (48+(a0.tmod 10)))]).size≤9223372036854775807)<|
 some (z2++(zdW [u8.wrap (i64.wrap (48+(a0.tmod 10)))])))
def zi4 (a0:Int):Option ByteArray:=zn8 fun n_=>zbm n_ a0
theorem zoH:∀{n_:Nat}{a0:Int}{r:ByteArray}(hr:zbm n_ a0=some r),PCalls Tryz.prog 129 [(.sh,.int .i64 a0)] (Eo (.str r) [.junk]):=by
 intro n_
 induction n_ with
 |zero=>intro a0 r hr;cases hr
 |succ n_ ih=>
  intro a0 r hr
  apply pF 20 [] [] [1000000] [.tmp 2] hr zDb Tryz.func129
  intro Φ hΦ hF g
  simp only[zbm]at hF
  iterate 2 refine wW ?_
  refine wI hF (fun h1 hF=>?_) (fun h1 hF=>?_)
  ·exact wl hΦ hF
  ·refine wW ?_
   repeat rw[sq]
   refine zvQ 2 8 zzl zvS follows (by decide) (by kernel_rfl) (by kernel_rfl) rfl rfl ?_ ?_
   ·have g:=Ld g 10
    refine wC hF [.sh] ih (fun z2 hF=>?_)
    obtain⟨g,hF⟩:=Rsa g hF
    refine wK [2] ?_
    exact wm hΦ hF
   ·have g:=Ld g 10
    refine wC hF [.sh] ih (fun z2 hF=>?_)
    obtain⟨g,hF⟩:=Rsa g hF
    refine wK [2] ?_
    exact wm hΦ hF
theorem zqJ {a0:Int}{r:ByteArray}(hr:zi4 a0=some r):PCalls Tryz.prog 129 [(.sh,.int .i64 a0)] (Eo (.str r) [.junk]):=by
 obtain⟨n_,hn⟩:=zuo hr
 exact zoH hn
def zfH (a0:Int):Option ByteArray:=
 (zi4 a0).bind fun z1=>
 gd ((⟨#[98,97,108,108,111,116,32]⟩:ByteArray).size+z1.size≤9223372036854775807)<|
 some ((⟨#[98,97,108,108,111,116,32]⟩:ByteArray)++z1)
theorem zpi:∀{a0}{r},zfH a0=some r→PCalls Tryz.prog 83 [(.sh,.int .i64 a0)] (Eo (.str r) [.junk]):=by
 intro a0 r hr
 apply pF 6 [] [] [] [.tmp 2] hr zIw Tryz.func83
 intro Φ hΦ hF g
 unfold zfH at hF
 refine wW ?_
 refine wC hF [.sh] zqJ (fun z1 hF=>?_)
 obtain⟨g,hF⟩:=Rsa g hF
 exact wl hΦ hF
def zfW (a0:Int) (a1:Int):Option Int:=
 gd (a1≠0)<|
 gd (a1≠0)<|
 some ((i64.wrap ((a0.tmod a1)+a1)).tmod a1)
theorem zml:∀{a0}{a1}{r},zfW a0 a1=some r→PCalls Tryz.prog 139 [(.sh,.int .i64 a0),(.sh,.int .i64 a1)] (Eo (.int .i64 r) [.junk,.junk]):=by
 intro a0 a1 r hr
 apply pF 12 [] [] [] [.tmp 4] hr zA5 Tryz.func139
 intro Φ hΦ hF g
 unfold zfW at hF
 obtain⟨g,hF⟩:=Rz g hF
 obtain⟨g,hF⟩:=Rz g hF
 cases hΦ _ (zaa hF)
 iterate 2 refine wW ?_
 try simp[go_sem,g]
@[go_sem] def zzm:List DE:=[d0 0 [1],d0 1 [2],d1 2 [3] 3,d2 3 [9] 3 9,d1 5 [3] 3,d2 6 [12] 3 12,d3 4 [8,10],d3 7 [7,11,13],d0 8 [14]]
def zaJ (a0:Group) (a1:Int) (a2:Int):Option Int:=
 (zfW a2 a0.Q).bind fun z1=>
 (zdl a1 z1 a0.P).bind fun z2=>
 some z2
theorem zcH:∀{a0}{a1}{a2}{r},zaJ a0 a1 a2=some r→PCalls Tryz.prog 131 [(.sh,vD a0),(.sh,.int .i64 a1),(.sh,.int .i64 a2)] (Eo (.int .i64 r) [.junk,.junk,.junk]):=by
 intro a0 a1 a2 r hr
 apply pF 15 [] [] [] [.tmp 6] hr zBv Tryz.func131
 intro Φ hΦ hF g
 unfold zaJ at hF
 refine wW ?_
 refine wX zzm follows ?_
 refine wC hF [.sh,.sh] zml (fun z1 hF=>?_)
 refine wC hF [.sh,.sh,.sh] zia (fun z2 hF=>?_)
 refine wK [6] ?_
 exact wm hΦ hF
def zbF (a0:Group) (a1:List Int):Option Int:=
 ((zak (σ:=Int) (fun i5 s4=>
 (ix a1 i5).bind fun x11=>
 gd (a0.P≠0)<|
 some (.go ((i64.wrap (s4*x11)).tmod a0.P))) (fun s4=>s4) (a1.length) 0 1:Option Int).bind fun x3=>
 some x3)
theorem zfS:∀{a0}{a1}{r},zbF a0 a1=some r→PCalls Tryz.prog 138 [(.sh,vD a0),(.sh,vA a1)] (Eo (.int .i64 r) [.junk,.junk]):=by
 intro a0 a1 r hr
 apply pF 22 [] [] [] [.tmp 4] hr zDc Tryz.func138
 intro Φ hΦ hF g
 unfold zbF at hF
 iterate 3 (try simp[go_sem,g];try intros;refine zal ?_)
 refine wJ hF (fun x3=>[(5,.v (.int .i64 x3))]) (fun x3 hF=>?_) fun _ hj1 hF=>?_
 ·exact wl hΦ hF
 refine wB ?_
 obtain⟨b12,hb13,hψ8⟩:=hF
 refine pR hb13 (fun i5 s4=>[(2,.bl [.int .i64 a0.P,.int .i64 a0.Q,.int .i64 a0.G]),(5,.v (.int .i64 s4)),(8,.v (vA a1)),(9,.v (.int .i64 (a1.length:Int))),(10,.v (.int .i64 i5))]) (fun s4 _ hN14=>?_) (fun i5 s4 _ _ hi9 hi10 ho6 hg7 hF=>?_)
 ·exact wn hN14 (hj1 _) hψ8
 refine wW ?_
 refine wu hi9 hi10 ?_
 refine wW ?_
 refine wB ?_
 obtain⟨x11,g,hF⟩:=Rx g hF
 refine wK [2,5,7,8,9,10] ?_
 obtain⟨g,hF⟩:=Rz g hF
 refine wW ?_
 exact wi hi9 hi10 (hg7 _) (zaa hF)
@[go_sem] def zAa:List DE:=[d2 0 [4] 4 4,d1 1 [4] 4,d2 2 [10] 4 10,d0 3 [3],d2 5 [4] 4 4,d0 6 [2],d2 7 [4] 4 4,d0 8 [1],d0 9 [3],d3 4 [9,11,12],d3 10 [16,17,18],d0 11 [15,19],⟨12,[14,20],[],none,true,true,true⟩,d0 13 [13,21],d2 14 [8,22] 8 8]
def zgC (a0:Group) (a1:Int) (a2:Int) (a3:Int):Option Cipher:=
 (zaJ a0 a0.G a3).bind fun z1=>
 (zaJ a0 a1 a3).bind fun z2=>
 (zbF a0 [a2,z2]).bind fun z3=>
 some (Cipher.mk z1 z3)
theorem zrI:∀{a0}{a1}{a2}{a3}{r},zgC a0 a1 a2 a3=some r→PCalls Tryz.prog 130 [(.sh,vD a0),(.sh,.int .i64 a1),(.sh,.int .i64 a2),(.sh,.int .i64 a3)] (Eo (vI r) [.junk,.junk,.junk,.junk]):=by
 intro a0 a1 a2 a3 r hr
 apply pF 23 [] [] [] [.cell 8 81] hr zCi Tryz.func130
 intro Φ hΦ hF g
 unfold zgC at hF
 refine wW ?_
 refine wX zAa follows ?_
 refine wC hF [.sh,.sh,.sh] zcH (fun z1 hF=>?_)
 refine wC hF [.sh,.sh,.sh] zcH (fun z2 hF=>?_)
 refine wC hF [.sh,.sh] zfS (fun z3 hF=>?_)
 refine wK [8] ?_
 exact wm hΦ hF
@[go_sem] def zBO:List DE:=[d2 0 [4] 4 4,d0 1 [1],d2 2 [4] 4 4,d1 3 [4] 4,d2 4 [12] 4 12,d0 5 [2],d0 7 [3],d3 6 [11,13,14],d3 8 [9,10,15,16],d2 9 [8,17] 8 8]
def ze6 (a0:Group) (a1:Int) (a2:Int) (a3:Int):Option Cipher:=
 (zaJ a0 a0.G a2).bind fun z1=>
 (zgC a0 a1 z1 a3).bind fun z2=>
 some z2
theorem zmn:∀{a0}{a1}{a2}{a3}{r},ze6 a0 a1 a2 a3=some r→PCalls Tryz.prog 84 [(.sh,vD a0),(.sh,.int .i64 a1),(.sh,.int .i64 a2),(.sh,.int .i64 a3)] (Eo (vI r) [.junk,.junk,.junk,.junk]):=by
 intro a0 a1 a2 a3 r hr
 apply pF 18 [] [] [] [.cell 8 81] hr zHQ Tryz.func84
 intro Φ hΦ hF g
 unfold ze6 at hF
 refine wW ?_
 refine wX zBO follows ?_
 refine wC hF [.sh,.sh,.sh] zcH (fun z1 hF=>?_)
 refine wC hF [.sh,.sh,.sh,.sh] zrI (fun z2 hF=>?_)
 refine wK [8] ?_
 exact wm hΦ hF
@[go_sem] def zAo:List DE:=[d0 0 [7],d2 1 [3] 3 3,d0 2 [9],d0 3 [2],d0 4 [8],d0 5 [20,21],d0 6 [22],d1 9 [3] 3,d2 10 [26] 3 26,d3 7 [18,19,23],d0 8 [17,24],d0 11 [25,27],d0 12 [28]]
def zfh (a0:Group) (a1:List Int) (a2:List Int):Option Int:=
 ((zak (σ:=Int) (fun i5 s4=>
 (ix a1 i5).bind fun x11=>
 (ix a2 i5).bind fun x12=>
 (zaJ a0 x11 x12).bind fun z13=>
 gd (a0.P≠0)<|
 some (.go ((i64.wrap (s4*z13)).tmod a0.P))) (fun s4=>s4) (a1.length) 0 1:Option Int).bind fun x3=>
 some x3)
theorem zq3:∀{a0}{a1}{a2}{r},zfh a0 a1 a2=some r→PCalls Tryz.prog 168 [(.sh,vD a0),(.sh,vA a1),(.sh,vA a2)] (Eo (.int .i64 r) [.junk,.junk,.junk]):=by
 intro a0 a1 a2 r hr
 apply pF 31 [] [] [] [.tmp 6] hr zDd Tryz.func168
 intro Φ hΦ hF g
 unfold zfh at hF
 iterate 3 (try simp[go_sem,g];try intros;refine zal ?_)
 refine wJ hF (fun x3=>[(7,.v (.int .i64 x3))]) (fun x3 hF=>?_) fun _ hj1 hF=>?_
 ·exact wl hΦ hF
 refine wB ?_
 obtain⟨b14,hb15,hψ8⟩:=hF
 refine pR hb15 (fun i5 s4=>[(2,.v (vA a2)),(3,.bl [.int .i64 a0.P,.int .i64 a0.Q,.int .i64 a0.G]),(7,.v (.int .i64 s4)),(10,.v (vA a1)),(11,.v (.int .i64 (a1.length:Int))),(12,.v (.int .i64 i5))]) (fun s4 _ hN16=>?_) (fun i5 s4 _ _ hi9 hi10 ho6 hg7 hF=>?_)
 ·exact wn hN16 (hj1 _) hψ8
 refine wW ?_
 refine wu hi9 hi10 ?_
 refine wW ?_
 refine wB ?_
 obtain⟨x11,g,hF⟩:=Rx g hF
 refine wK [2,3,7,8,9,10,11,12] ?_
 refine wX zAo follows ?_
 obtain⟨x12,g,hF⟩:=Rx g hF
 refine wC hF [.sh,.sh,.sh] zcH (fun z13 hF=>?_)
 obtain⟨g,hF⟩:=Rz g hF
 refine wK [2,3,7,10,11,12] ?_
 exact wi hi9 hi10 (hg7 _) (zaa hF)
def zeo (a0:Group) (a1:(List (List Int))) (a2:List Int):Option ((List Int)):=
 ((zak (σ:=(List Int)) (fun i5 s4=>
 (ix a1 i5).bind fun x11=>
 (zfh a0 x11 a2).bind fun z12=>
 gd ((s4.length+1)*8≤140737488355328∧s4.length+1≤4611686018427387904)<|
 some (.go (s4++[z12]))) (fun s4=>s4) (a1.length) 0 []:Option ((List Int))).bind fun x3=>
 some x3)
theorem zjR:∀{a0}{a1}{a2}{r},zeo a0 a1 a2=some r→PCalls Tryz.prog 134 [(.sh,vD a0),(.sh,vJ a1),(.sh,vA a2)] (Eo (vF r) [.junk,.junk,.junk]):=by
 intro a0 a1 a2 r hr
 apply pF 25 [] [] [] [.tmp 6] hr zBN Tryz.func134
 intro Φ hΦ hF g
 unfold zeo at hF
 iterate 3 (try simp[go_sem,g];try intros;refine zal ?_)
 refine wJ hF (fun x3=>[(7,.v (vF x3))]) (fun x3 hF=>?_) fun _ hj1 hF=>?_
 ·exact wl hΦ hF
 refine wB ?_
 obtain⟨b13,hb14,hψ8⟩:=hF
 refine pR hb14 (fun i5 s4=>[(2,.v (vA a2)),(3,.bl [.int .i64 a0.P,.int .i64 a0.Q,.int .i64 a0.G]),(7,.v (vF s4)),(10,.v (vJ a1)),(11,.v (.int .i64 (a1.length:Int))),(12,.v (.int .i64 i5))]) (fun s4 _ hN15=>?_) (fun i5 s4 _ _ hi9 hi10 ho6 hg7 hF=>?_)
 ·exact wn hN15 (hj1 _) hψ8
 refine wW ?_
 refine wu hi9 hi10 ?_
 refine wW ?_
 refine wB ?_
 obtain⟨x11,g,hF⟩:=Rx g hF
 refine wK [2,3,7,9,10,11,12] ?_
 refine wC hF [.sh,.sh,.sh] zq3 (fun z12 hF=>?_)
 obtain⟨g,hF⟩:=Rg g hF
 refine wW ?_
 exact wi hi9 hi10 (hg7 _) (zaa hF)
def zee (a0:(List (List Int))) (a1:List Int) (a2:List Int):Option ((List Int)):=
 ((zak (σ:=(List Int)) (fun i5 s4=>
 (ix a0 i5).bind fun x11=>
 gd ((s4.length+x11.length)*8≤140737488355328∧s4.length+x11.length≤4611686018427387904)<|
 some (.go (s4++x11))) (fun s4=>s4) (a0.length) 0 []:Option ((List Int))).bind fun x3=>
 gd ((x3.length+a1.length)*8≤140737488355328∧x3.length+a1.length≤4611686018427387904)<|
 gd (((x3++a1).length+a2.length)*8≤140737488355328∧(x3++a1).length+a2.length≤4611686018427387904)<|
 some (x3++a1++a2))
theorem zmg:∀{a0}{a1}{a2}{r},zee a0 a1 a2=some r→PCalls Tryz.prog 136 [(.sh,vJ a0),(.sh,vA a1),(.sh,vA a2)] (Eo (vF r) [.junk,.junk,.junk]):=by
 intro a0 a1 a2 r hr
 apply pF 25 [] [] [] [.tmp 6] hr zBA Tryz.func136
 intro Φ hΦ hF g
 unfold zee at hF
 iterate 3 (try simp[go_sem,g];try intros;refine zal ?_)
 refine wJ hF (fun x3=>[(1,.v (vA a1)),(2,.v (vA a2)),(7,.v (vF x3))]) (fun x3 hF=>?_) fun _ hj1 hF=>?_
 ·obtain⟨g,hF⟩:=Rg g hF
  obtain⟨g,hF⟩:=Rg g hF
  refine wK [6] ?_
  exact wm hΦ hF
 refine wB ?_
 obtain⟨b12,hb13,hψ8⟩:=hF
 refine pR hb13 (fun i5 s4=>[(1,.v (vA a1)),(2,.v (vA a2)),(7,.v (vF s4)),(10,.v (vJ a0)),(11,.v (.int .i64 (a0.length:Int))),(12,.v (.int .i64 i5))]) (fun s4 _ hN14=>?_) (fun i5 s4 _ _ hi9 hi10 ho6 hg7 hF=>?_)
 ·exact wn hN14 (hj1 _) hψ8
 refine wW ?_
 refine wu hi9 hi10 ?_
 refine wW ?_
 refine wB ?_
 obtain⟨x11,g,hF⟩:=Rx g hF
 obtain⟨g,hF⟩:=Rg g hF
 refine wW ?_
 refine wK [1,2,7,10,11,12] ?_
 exact wi hi9 hi10 (hg7 _) (zaa hF)
def zfP (a0:ByteArray) (a1:List Int):Option ((List Int)):=
 ((zaL (σ:=(List Int)×Int) (fun s4=>
 if decide (s4.2<(a0.size:Int))=true then(
 (ixs a0 s4.2).bind fun x10=>
 gd ((s4.1.length+1)*8≤140737488355328∧s4.1.length+1≤4611686018427387904)<|
 some (.go (s4.1++[i64.wrap x10],i64.wrap (s4.2+1))))else(
 some (.out s4.1))) ([(a0.size:Int)],0):Option ((List Int))).bind fun x3=>
 gd ((x3.length+a1.length)*8≤140737488355328∧x3.length+a1.length≤4611686018427387904)<|
 some (x3++a1))
theorem zo9:∀{a0}{a1}{r},zfP a0 a1=some r→PCalls Tryz.prog 162 [(.sh,.str a0),(.sh,vA a1)] (Eo (vF r) [.junk,.junk]):=by
 intro a0 a1 r hr
 apply pF 26 [] [] [] [.tmp 4] hr zCT Tryz.func162
 intro Φ hΦ hF g
 unfold zfP at hF
 iterate 3 refine wW ?_
 refine wJ hF (fun x3=>[(1,.v (vA a1)),(5,.v (vF x3))]) (fun x3 hF=>?_) fun _ hj1 hF=>?_
 ·obtain⟨g,hF⟩:=Rg g hF
  refine wK [4] ?_
  exact wm hΦ hF
 refine wB ?_
 obtain⟨b11,hb12,hψ8⟩:=hF
 refine pL hb12 (fun s4=>[(0,.v (.str a0)),(1,.v (vA a1)),(5,.v (vF s4.1)),(6,.v (.int .i64 s4.2))]) (fun s4 _ _ ho6 hg7 hF=>?_)
 refine wK [0,1,5,6,13] ?_
 refine wI hF (fun h9 hF=>?_) (fun h9 hF=>?_)
 ·refine wW ?_
  refine wB ?_
  obtain⟨x10,g,hF⟩:=Rxs g hF
  obtain⟨g,hF⟩:=Rg g hF
  refine wW ?_
  exact wT (hg7 _) (zaa hF)
 cases ho6 _ (zaa hF)
 exact wT (hj1 _) hψ8
def zbA (a0c0:Int) (a0c1:Int) (a1:Int):Option ((Int×Int)):=
 (some [a1.tmod 2147483648,i64.wrap (a1.tdiv 2147483648)]).bind fun x1=>
 zaL (σ:=(Int×Int)×Int) (fun s10=>
 if decide (s10.2<(x1.length:Int))=true then(
 (ix x1 s10.2).bind fun x16=>
 some (.go (((i64.wrap ((i64.wrap ((i64.wrap (48271*s10.1.1))+x16))+1)).tmod 2147483647,(i64.wrap ((i64.wrap ((i64.wrap (69621*s10.1.2))+x16))+1)).tmod 2147483647),i64.wrap (s10.2+1))))else(
 some (.out (s10.1.1,s10.1.2)))) ((a0c0,a0c1),0)
theorem zfK:∀{a0c0}{a0c1}{a1}{r},zbA a0c0 a0c1 a1=some r→PCalls Tryz.prog 180 [(.io,vK a0c0 a0c1),(.sh,.int .i64 a1)] (Eo (.junk) [vK r.1 r.2,.junk]):=by
 intro a0c0 a0c1 a1 r hr
 apply pF 41 [0] [] [] [] hr zDp Tryz.func180
 intro Φ hΦ hF g
 unfold zbA at hF
 have g:=Ld g 2147483648
 obtain⟨x1,e2,hF⟩:=zdV hF
 have g:=And.intro g (show[[.int .i64 (a1.tmod 2147483648)],[.int .i64 (i64.wrap (a1.tdiv 2147483648))]]=x1.map zaf by injection e2 with e2;rw[←e2];simp[go_sem])
 try simp[go_sem,g]
 try intros
 refine zal ?_
 refine wB ?_
 obtain⟨b17,hb18,hψ14⟩:=hF
 refine pL hb18 (fun s10=>[(0,.v (vK s10.1.1 s10.1.2)),(10,.v (vF x1)),(11,.v (.int .i64 (x1.length:Int))),(12,.v (.int .i64 s10.2))]) (fun s10 _ _ ho12 hg13 hF=>?_)
 refine wW ?_
 refine wI hF (fun h15 hF=>?_) (fun h15 hF=>?_)
 ·refine wW ?_
  refine wB ?_
  obtain⟨x16,g,hF⟩:=Rx g hF
  refine wK [0,5,10,11,12] ?_
  have g:=Ld g 2147483647
  refine wK [0,5,10,11,12] ?_
  refine wK [0,10,11,12] ?_
  exact wT (hg13 _) (zaa hF)
 cases ho12 _ (zaa hF)
 cases hΦ _ hψ14
 try simp[go_sem,g]
@[go_sem] def zyW:List DE:=[d0 0 [3],d0 1 [22],d0 2 [23],d0 3 [24],d0 4 [25],d0 5 [3],d0 6 [27],d0 7 [28],d0 8 [29],d0 9 [26,30],d0 10 [31]]
def zf8 (a0:List Int):Option Int:=
 (zbA 1 2 (a0.length:Int)).bind fun z1=>
 ((zak (σ:=(Int×Int)) (fun i15 s14=>
 (ix a0 i15).bind fun x21=>
 (zbA s14.1 s14.2 x21).bind fun z22=>
 some (.go (z22.1,z22.2))) (fun s14=>(s14.1,s14.2)) (a0.length) 0 (z1.1,z1.2):Option ((Int×Int))).bind fun x4=>
 some (i64.wrap ((i64.wrap (x4.1*2147483648))+x4.2)))
theorem zqY:∀{a0}{r},zf8 a0=some r→PCalls Tryz.prog 161 [(.sh,vA a0)] (Eo (.int .i64 r) [.junk]):=by
 intro a0 r hr
 apply pF 32 [] [] [7] [.tmp 2] hr zC7 Tryz.func161
 intro Φ hΦ hF g
 unfold zf8 at hF
 iterate 2 (try simp[go_sem,g];try intros;refine zal ?_)
 try simp[go_sem,g]
 try intros
 refine wC hF [.io,.sh] zfK (fun z1 hF=>?_)
 try simp[go_sem,g]
 try intros
 refine zal ?_
 try simp[go_sem,g]
 try intros
 refine wK [3,12,13,14] ?_
 refine wJ hF (fun x4=>[(3,.v (vK x4.1 x4.2))]) (fun x4 hF=>?_) fun _ hj2 hF=>?_
 ·refine wX zyW follows ?_
  refine wK [2] ?_
  exact wm hΦ hF
 refine wB ?_
 obtain⟨b23,hb24,hψ18⟩:=hF
 refine pR hb24 (fun i15 s14=>[(3,.v (vK s14.1 s14.2)),(12,.v (vA a0)),(13,.v (.int .i64 (a0.length:Int))),(14,.v (.int .i64 i15))]) (fun s14 _ hN25=>?_) (fun i15 s14 _ _ hi19 hi20 ho16 hg17 hF=>?_)
 ·exact wn hN25 (hj2 _) hψ18
 refine wW ?_
 refine wu hi19 hi20 ?_
 refine wW ?_
 refine wB ?_
 obtain⟨x21,g,hF⟩:=Rx g hF
 refine wW ?_
 refine wC hF [.io,.sh] zfK (fun z22 hF=>?_)
 refine wW ?_
 exact wi hi19 hi20 (hg17 _) (zaa hF)
def zdE (a0:ByteArray) (a1:List Int):Option Int:=
 (zfP a0 a1).bind fun z1=>
 (zf8 z1).bind fun z2=>
 some z2
theorem ziV:∀{a0}{a1}{r},zdE a0 a1=some r→PCalls Tryz.prog 119 [(.sh,.str a0),(.sh,vA a1)] (Eo (.int .i64 r) [.junk,.junk]):=by
 intro a0 a1 r hr
 apply pF 9 [] [] [] [.tmp 4] hr zBL Tryz.func119
 intro Φ hΦ hF g
 unfold zdE at hF
 refine wW ?_
 refine wC hF [.sh,.sh] zo9 (fun z1 hF=>?_)
 refine wC hF [.sh] zqY (fun z2 hF=>?_)
 exact wl hΦ hF
@[go_sem] def zz4:List DE:=[d0 0 [1],d1 1 [3] 3,d2 2 [8] 3 8,d1 3 [3] 3,d2 4 [10] 3 10,d1 5 [3] 3,d2 6 [12] 3 12,d0 7 [9,11,13],d0 8 [2],d1 11 [3] 3,d2 12 [18] 3 18,⟨9,[14,15],[],none,true,false,false⟩,d3 10 [7,16],d0 13 [17,19],d0 14 [20]]
def zbM (a0:Group) (a1:ByteArray) (a2:List Int):Option Int:=
 gd (([a0.P,a0.Q,a0.G].length+a2.length)*8≤140737488355328∧[a0.P,a0.Q,a0.G].length+a2.length≤4611686018427387904)<|
 (zdE a1 ([a0.P,a0.Q,a0.G]++a2)).bind fun z1=>
 gd (a0.Q≠0)<|
 some (z1.tmod a0.Q)
theorem zij:∀{a0}{a1}{a2}{r},zbM a0 a1 a2=some r→PCalls Tryz.prog 135 [(.sh,vD a0),(.sh,.str a1),(.sh,vA a2)] (Eo (.int .i64 r) [.junk,.junk,.junk]):=by
 intro a0 a1 a2 r hr
 apply pF 21 [] [] [] [.tmp 6] hr zBo Tryz.func135
 intro Φ hΦ hF g
 unfold zbM at hF
 refine wW ?_
 refine wX zz4 follows ?_
 obtain⟨g,hF⟩:=Rg g hF
 refine wC hF [.sh,.sh] ziV (fun z1 hF=>?_)
 obtain⟨g,hF⟩:=Rz g hF
 refine wK [6] ?_
 exact wm hΦ hF
@[go_sem] def zBK:List DE:=[d2 0 [5] 5 5,d0 1 [1],d0 2 [2],d2 3 [5] 5 5,d0 4 [2],d0 5 [3],d1 7 [11] 11,d2 8 [27] 11 27,d3 6 [23,24,25],d3 9 [22,26,28],d3 10 [20,21,29],d0 11 [30]]
@[go_sem] def zCz:List DE:=[d1 0 [11] 11,d2 1 [41] 11 41,d0 2 [4],d0 3 [13],d0 4 [43,44],d0 5 [45],d0 6 [12],d0 7 [14],d0 8 [47,48],d0 9 [46,49],d1 10 [5] 5,d2 11 [51] 5 51,d0 12 [50,52],d0 13 [53],⟨14,[42,54],[],none,true,false,false⟩,d1 15 [11] 11,d2 16 [56,55] 11 56]
def zfJ (a0:Group) (a1:ByteArray) (a2:(List (List Int))) (a3:List Int) (a4:List Int):Option Proof:=
 (zeo a0 a2 a4).bind fun z1=>
 (zeo a0 a2 a3).bind fun z2=>
 (zee a2 z2 z1).bind fun z3=>
 (zbM a0 a1 z3).bind fun z4=>
 ((zak (σ:=(List Int)×List Int×List Int) (fun i18 s17=>
 (ix a3 i18).bind fun x24=>
 (ix a4 i18).bind fun x25=>
 gd (a0.Q≠0)<|
 gd ((s17.2.2.length+1)*8≤140737488355328∧s17.2.2.length+1≤4611686018427387904)<|
 some (.go (s17.1,s17.2.1,s17.2.2++[(i64.wrap (x25+(i64.wrap (z4*x24)))).tmod a0.Q]))) (fun s17=>(s17.1,s17.2.1,s17.2.2)) (a3.length) 0 (z1,[z4],[]):Option ((List Int×List Int×List Int))).bind fun x7=>
 some (Proof.mk x7.1 x7.2.1 x7.2.2))
theorem zpl:∀{a0}{a1}{a2}{a3}{a4}{r},zfJ a0 a1 a2 a3 a4=some r→PCalls Tryz.prog 86 [(.sh,vD a0),(.sh,.str a1),(.sh,vJ a2),(.sh,vA a3),(.sh,vA a4)] (Eo (vL r) [.junk,.junk,.junk,.junk,.junk]):=by
 intro a0 a1 a2 a3 a4 r hr
 apply pF 59 [] [] [] [.cell 10 39] hr zIS Tryz.func86
 intro Φ hΦ hF g
 unfold zfJ at hF
 refine wW ?_
 refine wC hF [.sh,.sh,.sh] zjR (fun z1 hF=>?_)
 refine wW ?_
 refine wX zBK follows ?_
 refine wC hF [.sh,.sh,.sh] zjR (fun z2 hF=>?_)
 refine wC hF [.sh,.sh,.sh] zmg (fun z3 hF=>?_)
 refine wC hF [.sh,.sh,.sh] zij (fun z4 hF=>?_)
 refine wK [3,4,5,10,11,12] ?_
 iterate 2 (try simp[go_sem,g];try intros;refine zal ?_)
 refine wJ hF (fun x7=>[(10,.bl [.sl true 1 [],.sl true 1 [],.sl true 1 []]),(11,.bl [vF x7.1,vF x7.2.1,vF x7.2.2])]) (fun x7 hF=>?_) fun _ hj5 hF=>?_
 ·exact wl hΦ hF
 refine wB ?_
 obtain⟨b26,hb27,hψ21⟩:=hF
 refine pR hb27 (fun i18 s17=>[(4,.v (vA a4)),(5,.bl [.int .i64 a0.P,.int .i64 a0.Q,.int .i64 a0.G]),(10,.bl [.sl true 1 [],.sl true 1 [],.sl true 1 []]),(11,.bl [vF s17.1,vF s17.2.1,vF s17.2.2]),(12,.v (.int .i64 z4)),(34,.v (vA a3)),(35,.v (.int .i64 (a3.length:Int))),(36,.v (.int .i64 i18))]) (fun s17 _ hN28=>?_) (fun i18 s17 _ _ hi22 hi23 ho19 hg20 hF=>?_)
 ·exact wn hN28 (hj5 _) hψ21
 refine wW ?_
 refine wu hi22 hi23 ?_
 refine wW ?_
 refine wB ?_
 obtain⟨x24,g,hF⟩:=Rx g hF
 refine wK [4,5,10,11,12,13,14,34,35,36] ?_
 refine wX zCz follows ?_
 obtain⟨x25,g,hF⟩:=Rx g hF
 obtain⟨g,hF⟩:=Rz g hF
 obtain⟨g,hF⟩:=Rg g hF
 refine wK [4,5,10,11,12,34,35,36] ?_
 exact wi hi22 hi23 (hg20 _) (zaa hF)
def zhu (a0:List Int):Option ((List Int)):=
 gd (a0.length*8≤140737488355328∧a0.length≤4611686018427387904)<|
 some a0
theorem zq4:∀{a0}{r},zhu a0=some r→PCalls Tryz.prog 137 [(.sh,vA a0)] (Eo (vF r) [.junk]):=by
 intro a0 r hr
 apply pF 6 [] [] [] [.tmp 2] hr zCF Tryz.func137
 intro Φ hΦ hF g
 unfold zhu at hF
 obtain⟨g,hF⟩:=Rg g hF
 cases hΦ _ (zaa hF)
 iterate 2 refine wW ?_
 try simp[go_sem,g]
def zfd (a0:Contest) (a1:List Int):Option ((List Int)):=
 if(a0.Kind==1)=true then(
 (zd2 a0 a1).bind fun z2=>
 some z2)else(
 if(a0.Kind==2)=true then(
 (zhu a1).bind fun z4=>
 some z4)else(
 (zco a0 a1).bind fun z5=>
 some [z5]))
theorem zqV:∀{a0}{a1}{r},zfd a0 a1=some r→PCalls Tryz.prog 87 [(.sh,vE a0),(.sh,vA a1)] (Eo (vF r) [.junk,.junk]):=by
 intro a0 a1 r hr
 apply pF 20 [] [] [] [.tmp 4] hr zGn Tryz.func87
 intro Φ hΦ hF g
 unfold zfd at hF
 iterate 2 refine wW ?_
 refine wB ?_
 refine wW ?_
 refine wI hF (fun h1 hF=>?_) (fun h1 hF=>?_)
 ·refine wC hF [.sh,.sh] zkL (fun z2 hF=>?_)
  refine wK [4] ?_
  exact wm hΦ hF
 refine wW ?_
 refine wI hF (fun h3 hF=>?_) (fun h3 hF=>?_)
 ·refine wC hF [.sh] zq4 (fun z4 hF=>?_)
  refine wK [4] ?_
  exact wm hΦ hF
 refine wW ?_
 refine wC hF [.sh,.sh] ziI (fun z5 hF=>?_)
 refine wK [4] ?_
 exact wm hΦ hF
@[go_sem] def zCB:List DE:=[d0 0 [11],d1 1 [5] 5,d2 2 [20] 5 20,d1 3 [7] 7,d2 4 [22] 7 22,d0 5 [1],d2 6 [5] 5 5,d1 7 [7] 7,d2 8 [26] 7 26,d2 9 [5] 5 5,d1 10 [5] 5,d2 11 [29] 5 29,d0 12 [12],d0 13 [31],d3 14 [28,30,32],d0 15 [27,33],⟨16,[25,34],[],none,true,true,true⟩,d0 17 [21,23,24,35],d0 18 [36],⟨19,[19,37],[],none,true,false,false⟩,d0 20 [38]]
def zcm (a0:Group) (a1:Int) (a2:Cipher) (a3:Int) (a4:Int):Option ((List EqualLog)):=
 ((zaL (σ:=(List EqualLog)×Int) (fun s4=>
 if decide (s4.2≤a4)=true then(
 (zaJ a0 a0.G (i64.wrap (0-s4.2))).bind fun z10=>
 (zbF a0 [a2.B,z10]).bind fun z11=>
 gd ((s4.1.length+1)*32≤140737488355328∧s4.1.length+1≤4611686018427387904)<|
 some (.go (s4.1++[(EqualLog.mk a0.G a2.A a1 z11)],i64.wrap (s4.2+1))))else(
 some (.out s4.1))) ([],a3):Option ((List EqualLog))).bind fun x3=>
 some x3)
theorem zhW:∀{a0}{a1}{a2}{a3}{a4}{r},zcm a0 a1 a2 a3 a4=some r→PCalls Tryz.prog 89 [(.sh,vD a0),(.sh,.int .i64 a1),(.sh,vI a2),(.sh,.int .i64 a3),(.sh,.int .i64 a4)] (Eo (vM r) [.junk,.junk,.junk,.junk,.junk]):=by
 intro a0 a1 a2 a3 a4 r hr
 apply pF 40 [] [] [] [.tmp 10] hr zIr Tryz.func89
 intro Φ hΦ hF g
 unfold zcm at hF
 iterate 3 refine wW ?_
 refine wJ hF (fun x3=>[(11,.v (vM x3))]) (fun x3 hF=>?_) fun _ hj1 hF=>?_
 ·exact wl hΦ hF
 refine wB ?_
 obtain⟨b12,hb13,hψ8⟩:=hF
 refine pL hb13 (fun s4=>[(1,.v (.int .i64 a1)),(4,.v (.int .i64 a4)),(5,.bl [.int .i64 a0.P,.int .i64 a0.Q,.int .i64 a0.G]),(7,.bl [.int .i64 a2.A,.int .i64 a2.B]),(11,.v (vM s4.1)),(12,.v (.int .i64 s4.2))]) (fun s4 _ _ ho6 hg7 hF=>?_)
 refine wW ?_
 refine wI hF (fun h9 hF=>?_) (fun h9 hF=>?_)
 ·refine wW ?_
  refine wB ?_
  refine wX zCB follows ?_
  refine wC hF [.sh,.sh,.sh] zcH (fun z10 hF=>?_)
  refine wC hF [.sh,.sh] zfS (fun z11 hF=>?_)
  obtain⟨g,hF⟩:=Rg g hF
  refine wK [1,4,5,7,11,12] ?_
  exact wT (hg7 _) (zaa hF)
 cases ho6 _ (zaa hF)
 exact wT (hj1 _) hψ8
@[go_sem] def zzt:List DE:=[d2 0 [4] 4 4,d0 1 [1],d0 2 [9],d0 3 [3],d0 4 [32,33],d3 5 [30,31,34],d0 6 [35]]
def zfN (a0:Group) (a1:ByteArray) (a2:List EqualLog) (a3:List Int):Option Int:=
 ((zak (σ:=(List Int)) (fun i5 s4=>
 (ix a2 i5).bind fun x11=>
 gd ((s4.length+4)*8≤140737488355328∧s4.length+4≤4611686018427387904)<|
 some (.go (s4++[x11.G1,x11.Y1,x11.G2,x11.Y2]))) (fun s4=>s4) (a2.length) 0 []:Option ((List Int))).bind fun x3=>
 gd ((x3.length+a3.length)*8≤140737488355328∧x3.length+a3.length≤4611686018427387904)<|
 (zbM a0 a1 (x3++a3)).bind fun z16=>
 some z16)
theorem zpa:∀{a0}{a1}{a2}{a3}{r},zfN a0 a1 a2 a3=some r→PCalls Tryz.prog 140 [(.sh,vD a0),(.sh,.str a1),(.sh,vN a2),(.sh,vA a3)] (Eo (.int .i64 r) [.junk,.junk,.junk,.junk]):=by
 intro a0 a1 a2 a3 r hr
 apply pF 36 [] [] [] [.tmp 8] hr zAT Tryz.func140
 intro Φ hΦ hF g
 unfold zfN at hF
 iterate 3 (try simp[go_sem,g];try intros;refine zal ?_)
 refine wJ hF (fun x3=>[(1,.v (.str a1)),(3,.v (vA a3)),(4,.bl [.int .i64 a0.P,.int .i64 a0.Q,.int .i64 a0.G]),(9,.v (vF x3))]) (fun x3 hF=>?_) fun _ hj1 hF=>?_
 ·refine wX zzt follows ?_
  obtain⟨g,hF⟩:=Rg g hF
  refine wC hF [.sh,.sh,.sh] zij (fun z16 hF=>?_)
  refine wK [8] ?_
  exact wm hΦ hF
 refine wB ?_
 obtain⟨b12,hb13,hψ8⟩:=hF
 refine pR hb13 (fun i5 s4=>[(1,.v (.str a1)),(3,.v (vA a3)),(4,.bl [.int .i64 a0.P,.int .i64 a0.Q,.int .i64 a0.G]),(9,.v (vF s4)),(12,.v (vN a2)),(13,.v (.int .i64 (a2.length:Int))),(14,.v (.int .i64 i5))]) (fun s4 _ hN14=>?_) (fun i5 s4 _ _ hi9 hi10 ho6 hg7 hF=>?_)
 ·exact wn hN14 (hj1 _) hψ8
 refine wW ?_
 refine wu hi9 hi10 ?_
 refine wW ?_
 refine wB ?_
 obtain⟨x11,g,hF⟩:=Rx g hF
 refine wK [1,3,4,9,11,12,13,14] ?_
 obtain⟨g,hF⟩:=Rg g hF
 refine wK [1,3,4,9,12,13,14] ?_
 exact wi hi9 hi10 (hg7 _) (zaa hF)
@[go_sem] def zz9:List DE:=[d0 0 [5],d0 1 [62],d0 2 [63],d0 3 [5],d0 4 [65],d0 5 [66],d0 6 [64],d0 7 [67]]
@[go_sem] def zzj:List DE:=[d1 0 [13] 13,d2 1 [70] 13 70,d2 2 [6] 6 6,d2 3 [6] 6 6,d1 4 [17] 17,d2 5 [74] 17 74,d0 6 [19],d2 8 [6] 6 6,d1 9 [17] 17,d2 10 [79] 17 79,d0 11 [18],d0 12 [81],d2 16 [6] 6 6,d2 17 [6] 6 6,d1 18 [17] 17,d2 19 [88] 17 88,d0 20 [19],d2 22 [6] 6 6,d1 23 [17] 17,d2 24 [93] 17 93,d0 25 [18],d0 26 [95],d3 7 [73,75,76],d3 13 [78,80,82],d0 14 [77,83],⟨15,[72,84],[],none,true,true,true⟩,d3 21 [87,89,90],d3 27 [92,94,96],d0 28 [91,97],⟨29,[86,98],[],none,true,true,true⟩,d0 30 [85,99],⟨31,[71,100],[],none,true,false,false⟩,d1 32 [13] 13,d2 33 [102,101] 13 102]
@[go_sem] def zyR:List DE:=[d2 0 [6] 6 6,d0 1 [1],d0 2 [2],d1 3 [13] 13,d2 4 [125] 13 125,d0 6 [15],d1 8 [6] 6,d2 9 [130] 6 130,d3 5 [122,123,124,126],d0 7 [127,128],d3 10 [129,131],d0 11 [132]]
@[go_sem] def zz6:List DE:=[d1 0 [13] 13,d2 1 [138] 13 138,d0 2 [3],d0 3 [14],d0 4 [20],d0 5 [4],d0 6 [142,143],d0 7 [141,144],d1 8 [6] 6,d2 9 [146] 6 146,d0 10 [145,147],d0 11 [139,140],d0 12 [149,148]]
@[go_sem] def zCS:List DE:=[d1 0 [13] 13,d2 1 [37] 13 37,d2 2 [6] 6 6,d1 3 [17] 17,d2 4 [40] 17 40,d0 5 [14],d2 7 [6] 6 6,d1 8 [17] 17,d2 9 [45] 17 45,d0 10 [14],d3 6 [39,41,42],d3 11 [44,46,47],d0 12 [43,48],⟨13,[38,49],[],none,true,false,false⟩,d1 14 [13] 13,d2 15 [51,50] 13 51]
def zd4 (a0:Group) (a1:ByteArray) (a2:List EqualLog) (a3:Int) (a4:Int) (a5:List Int):Option Proof:=
 (ix a5 (i64.wrap ((a5.length:Int)-1))).bind fun x1=>
 ((zak (σ:=(List Int)×List Int×List Int×List Int×Int) (fun i28 s27=>
 (((ix a2 i28).bind fun x37=>
 if(i28==a3)=true then(
 (zaJ a0 x37.G1 x1).bind fun z39=>
 (zaJ a0 x37.G2 x1).bind fun z40=>
 gd ((s27.2.1.length+2)*8≤140737488355328∧s27.2.1.length+2≤4611686018427387904)<|
 gd ((s27.2.2.1.length+1)*8≤140737488355328∧s27.2.2.1.length+1≤4611686018427387904)<|
 gd ((s27.2.2.2.1.length+1)*8≤140737488355328∧s27.2.2.2.1.length+1≤4611686018427387904)<|
 some (s27.1,s27.2.1++[z39,z40],s27.2.2.1++[0],s27.2.2.2.1++[0],s27.2.2.2.2))else(
 (ix s27.1 0).bind fun x41=>
 (ix s27.1 1).bind fun x42=>
 gd (2≤s27.1.length∧s27.1.length≤s27.1.length)<|
 (zaJ a0 x37.G1 x42).bind fun z43=>
 (zaJ a0 x37.Y1 (i64.wrap (0-x41))).bind fun z44=>
 (zbF a0 [z43,z44]).bind fun z45=>
 (zaJ a0 x37.G2 x42).bind fun z46=>
 (zaJ a0 x37.Y2 (i64.wrap (0-x41))).bind fun z47=>
 (zbF a0 [z46,z47]).bind fun z48=>
 gd ((s27.2.1.length+2)*8≤140737488355328∧s27.2.1.length+2≤4611686018427387904)<|
 gd ((s27.2.2.1.length+1)*8≤140737488355328∧s27.2.2.1.length+1≤4611686018427387904)<|
 gd ((s27.2.2.2.1.length+1)*8≤140737488355328∧s27.2.2.2.1.length+1≤4611686018427387904)<|
 gd (a0.Q≠0)<|
 some ((s27.1.take s27.1.length).drop 2,s27.2.1++[z45,z48],s27.2.2.1++[x41],s27.2.2.2.1++[x42],(i64.wrap (s27.2.2.2.2+x41)).tmod a0.Q)):Option ((List Int×List Int×List Int×List Int×Int))).bind fun x36=>
 some (.go (x36.1,x36.2.1,x36.2.2.1,x36.2.2.2.1,x36.2.2.2.2)))) (fun s27=>(s27.2.1,s27.2.2.1,s27.2.2.2.1,s27.2.2.2.2)) (a2.length) 0 (a5,[],[],[],0):Option ((List Int×List Int×List Int×Int))).bind fun x4=>
 (zfN a0 a1 a2 x4.1).bind fun z53=>
 (zfW (i64.wrap (z53-x4.2.2.2)) a0.Q).bind fun z54=>
 (ix x4.2.1 a3).bind fun x55=>
 gd (a0.Q≠0)<|
 (ix x4.2.2.1 a3).bind fun x56=>
 some (Proof.mk x4.1 (x4.2.1.set a3.toNat z54) (x4.2.2.1.set a3.toNat ((i64.wrap (x1+(i64.wrap (z54*a4)))).tmod a0.Q))))
theorem zkG:∀{a0}{a1}{a2}{a3}{a4}{a5}{r},zd4 a0 a1 a2 a3 a4 a5=some r→PCalls Tryz.prog 88 [(.sh,vD a0),(.sh,.str a1),(.sh,vN a2),(.sh,.int .i64 a3),(.sh,.int .i64 a4),(.sh,vA a5)] (Eo (vL r) [.junk,.junk,.junk,.junk,.junk,.junk]):=by
 intro a0 a1 a2 a3 a4 a5 r hr
 apply pF 151 [] [] [] [.cell 12 39] hr zIX Tryz.func88
 intro Φ hΦ hF g
 unfold zd4 at hF
 obtain⟨x1,g,hF⟩:=Rx g hF
 iterate 2 (try simp[go_sem,g];try intros;refine zal ?_)
 try simp[go_sem,g]
 try intros
 refine wK [1,2,3,4,5,6,12,13,14] ?_
 iterate 2 (try simp[go_sem,g];try intros;refine zal ?_)
 refine wJ hF (fun x4=>[(1,.v (.str a1)),(2,.v (vN a2)),(3,.v (.int .i64 a3)),(4,.v (.int .i64 a4)),(6,.bl [.int .i64 a0.P,.int .i64 a0.Q,.int .i64 a0.G]),(12,.bl [.sl true 1 [],.sl true 1 [],.sl true 1 []]),(13,.bl [vF x4.1,vF x4.2.1,vF x4.2.2.1]),(14,.v (.int .i64 x1)),(15,.v (.int .i64 x4.2.2.2))]) (fun x4 hF=>?_) fun _ hj2 hF=>?_
 ·refine wX zyR follows ?_
  refine wC hF [.sh,.sh,.sh,.sh] zpa (fun z53 hF=>?_)
  refine wC hF [.sh,.sh] zml (fun z54 hF=>?_)
  refine wK [3,4,6,12,13,14,20] ?_
  obtain⟨x55,g,hF⟩:=Rx g hF
  refine wW ?_
  refine wX zz6 follows ?_
  obtain⟨g,hF⟩:=Rz g hF
  obtain⟨x56,g,hF⟩:=Rx g hF
  refine wK [12,13] ?_
  exact wl hΦ hF
 refine wB ?_
 obtain⟨b49,hb50,hψ31⟩:=hF
 refine pR hb50 (fun i28 s27=>[(1,.v (.str a1)),(2,.v (vN a2)),(3,.v (.int .i64 a3)),(4,.v (.int .i64 a4)),(5,.v (vA s27.1)),(6,.bl [.int .i64 a0.P,.int .i64 a0.Q,.int .i64 a0.G]),(12,.bl [.sl true 1 [],.sl true 1 [],.sl true 1 []]),(13,.bl [vF s27.2.1,vF s27.2.2.1,vF s27.2.2.2.1]),(14,.v (.int .i64 x1)),(15,.v (.int .i64 s27.2.2.2.2)),(27,.v (vN a2)),(28,.v (.int .i64 (a2.length:Int))),(29,.v (.int .i64 i28))]) (fun s27 _ hN51=>?_) (fun i28 s27 _ _ hi32 hi33 ho29 hg30 hF=>?_)
 ·exact wn hN51 (hj2 _) hψ31
 refine wW ?_
 refine wu hi32 hi33 ?_
 refine wW ?_
 refine wJ hF (fun x36=>[(1,.v (.str a1)),(2,.v (vN a2)),(3,.v (.int .i64 a3)),(4,.v (.int .i64 a4)),(5,.v (vA x36.1)),(6,.bl [.int .i64 a0.P,.int .i64 a0.Q,.int .i64 a0.G]),(12,.bl [.sl true 1 [],.sl true 1 [],.sl true 1 []]),(13,.bl [vF x36.2.1,vF x36.2.2.1,vF x36.2.2.2.1]),(14,.v (.int .i64 x1)),(15,.v (.int .i64 x36.2.2.2.2)),(27,.v (vN a2)),(28,.v (.int .i64 (a2.length:Int))),(29,.v (.int .i64 i28))]) (fun x36 hF=>?_) fun _ hj34 hF=>?_
 ·exact wi hi32 hi33 (hg30 _) (zaa hF)
 refine wB ?_
 obtain⟨x37,g,hF⟩:=Rx g hF
 refine wK [1,2,3,4,5,6,12,13,14,15,16,17,27,28,29] ?_
 refine wW ?_
 refine wI hF (fun h38 hF=>?_) (fun h38 hF=>?_)
 ·refine wX zCS follows ?_
  refine wC hF [.sh,.sh,.sh] zcH (fun z39 hF=>?_)
  refine wC hF [.sh,.sh,.sh] zcH (fun z40 hF=>?_)
  obtain⟨g,hF⟩:=Rg g hF
  refine wK [1,2,3,4,5,6,12,13,14,15,27,28,29] ?_
  obtain⟨g,hF⟩:=Rg g hF
  obtain⟨g,hF⟩:=Rg g hF
  refine wW ?_
  refine wK [1,2,3,4,5,6,12,13,14,15,27,28,29] ?_
  exact wT (hj34 _) (zaa hF)
 refine wW ?_
 refine wX zz9 follows ?_
 obtain⟨x41,g,hF⟩:=Rxn g 0 hF
 obtain⟨x42,g,hF⟩:=Rxn g 1 hF
 refine wK [1,2,3,4,5,6,12,13,14,15,17,18,19,27,28,29] ?_
 obtain⟨g,hF⟩:=Rg g hF
 refine wW ?_
 refine wX zzj follows ?_
 refine wC hF [.sh,.sh,.sh] zcH (fun z43 hF=>?_)
 refine wC hF [.sh,.sh,.sh] zcH (fun z44 hF=>?_)
 refine wC hF [.sh,.sh] zfS (fun z45 hF=>?_)
 refine wC hF [.sh,.sh,.sh] zcH (fun z46 hF=>?_)
 refine wC hF [.sh,.sh,.sh] zcH (fun z47 hF=>?_)
 refine wC hF [.sh,.sh] zfS (fun z48 hF=>?_)
 obtain⟨g,hF⟩:=Rg g hF
 refine wK [1,2,3,4,5,6,12,13,14,15,18,19,27,28,29] ?_
 obtain⟨g,hF⟩:=Rg g hF
 obtain⟨g,hF⟩:=Rg g hF
 refine wW ?_
 refine wK [1,2,3,4,5,6,12,13,14,15,18,27,28,29] ?_
 obtain⟨g,hF⟩:=Rz g hF
 exact wT (hj34 _) (zaa hF)
@[go_sem] def zDh:List DE:=[d2 0 [2] 2 2,d1 1 [5] 5,d2 2 [16] 5 16,d1 3 [7] 7,d2 4 [18] 7 18,d0 5 [17,19],d2 7 [2] 2 2,d1 8 [5] 5,d2 9 [23] 5 23,d1 10 [7] 7,d2 11 [25] 7 25,d0 12 [24,26],⟨6,[15,20],[],none,true,true,true⟩,⟨13,[22,27],[],none,true,true,true⟩,d0 14 [21,28],d2 15 [5,29] 5 5]
def zgE (a0:Group) (a1:List Cipher):Option Cipher:=
 ((zak (σ:=Int×Int) (fun i15 s14=>
 (ix a1 i15).bind fun x21=>
 (zbF a0 [s14.1,x21.A]).bind fun z22=>
 (zbF a0 [s14.2,x21.B]).bind fun z23=>
 some (.go (z22,z23))) (fun s14=>(s14.1,s14.2)) (a1.length) 0 (1,1):Option ((Int×Int))).bind fun x3=>
 some (Cipher.mk x3.1 x3.2))
theorem zrB:∀{a0}{a1}{r},zgE a0 a1=some r→PCalls Tryz.prog 90 [(.sh,vD a0),(.sh,vQ a1)] (Eo (vI r) [.junk,.junk]):=by
 intro a0 a1 r hr
 apply pF 32 [] [] [] [.cell 4 81] hr zHM Tryz.func90
 intro Φ hΦ hF g
 unfold zgE at hF
 iterate 3 (try simp[go_sem,g];try intros;refine zal ?_)
 refine wJ hF (fun x3=>[(4,.bl [.int .i64 0,.int .i64 0]),(5,.bl [.int .i64 x3.1,.int .i64 x3.2])]) (fun x3 hF=>?_) fun _ hj1 hF=>?_
 ·refine wK [4] ?_
  exact wm hΦ hF
 refine wB ?_
 obtain⟨b24,hb25,hψ18⟩:=hF
 refine pR hb25 (fun i15 s14=>[(2,.bl [.int .i64 a0.P,.int .i64 a0.Q,.int .i64 a0.G]),(4,.bl [.int .i64 0,.int .i64 0]),(5,.bl [.int .i64 s14.1,.int .i64 s14.2]),(9,.v (vQ a1)),(10,.v (.int .i64 (a1.length:Int))),(11,.v (.int .i64 i15))]) (fun s14 _ hN26=>?_) (fun i15 s14 _ _ hi19 hi20 ho16 hg17 hF=>?_)
 ·exact wn hN26 (hj1 _) hψ18
 refine wW ?_
 refine wu hi19 hi20 ?_
 refine wW ?_
 refine wB ?_
 obtain⟨x21,g,hF⟩:=Rx g hF
 refine wK [2,4,5,7,9,10,11] ?_
 refine wX zDh follows ?_
 refine wC hF [.sh,.sh] zfS (fun z22 hF=>?_)
 refine wC hF [.sh,.sh] zfS (fun z23 hF=>?_)
 refine wK [2,4,5,9,10,11] ?_
 exact wi hi19 hi20 (hg17 _) (zaa hF)
@[go_sem] def zzR:List DE:=[d2 0 [6] 6 6,d0 1 [1],d0 2 [19],d0 3 [5],d0 4 [72],d0 5 [73],d0 7 [],d3 6 [69,70,71,74],d2 8 [20,75] 20 20]
@[go_sem] def zzK:List DE:=[d1 0 [13] 13,d2 1 [82] 13 82,d2 2 [6] 6 6,d0 3 [14],d2 4 [6] 6 6,d0 5 [1],d2 6 [20] 20 20,d0 7 [15],d0 9 [19],d0 10 [5],d0 11 [92],d0 12 [93],d0 13 [5],d0 14 [15],d0 15 [96],d0 16 [97],d0 17 [95,98],⟨8,[86,87,88,89],[],none,false,true,false⟩,d3 18 [84,85,90,91,94,99],d0 19 [100],⟨20,[83,101],[],none,true,false,false⟩,d1 21 [13] 13,d2 22 [103,102] 13 103]
@[go_sem] def zyS:List DE:=[d0 0 [17],d0 1 [5],d0 2 [108],d0 3 [109],d0 4 [107,110],d1 5 [6] 6,d2 6 [112] 6 112,d0 7 [111,113],d0 8 [114]]
@[go_sem] def zyY:List DE:=[d2 0 [6] 6 6,d0 1 [14],d2 2 [6] 6 6,d0 3 [1],d2 4 [6] 6 6,d1 5 [13] 13,d2 6 [126] 13 126,d1 8 [8] 8,d2 9 [129] 8 129,d1 10 [8] 8,d2 11 [131] 8 131,d0 13 [16],d1 14 [8] 8,d2 15 [135] 8 135,d0 16 [134,136],d0 17 [17],d0 18 [5],d3 7 [125,127],d3 12 [123,124,128,130,132],d3 19 [121,122,133,137,138,139],d1 20 [13] 13,d2 21 [141,140] 13 141]
@[go_sem] def zCN:List DE:=[d1 0 [13] 13,d2 1 [28] 13 28,d2 2 [6] 6 6,d0 3 [1],d2 4 [8] 8 8,d0 5 [4],d0 7 [5],d0 8 [35],d0 9 [36],⟨6,[32,33],[],none,false,true,false⟩,d3 10 [30,31,34,37],d0 11 [38],⟨12,[29,39],[],none,true,false,false⟩,d1 13 [13] 13,d2 14 [41,40] 13 41]
@[go_sem] def zBu:List DE:=[d1 0 [13] 13,d2 1 [42] 13 42,d2 2 [6] 6 6,d0 3 [14],d1 4 [6] 6,d2 5 [46] 6 46,d0 6 [47],d0 8 [5],d0 9 [50],d0 10 [5],d0 11 [52],⟨7,[48],[],none,true,true,false⟩,⟨12,[44,45,49,51,53],[],none,true,true,true⟩,d0 13 [54],⟨14,[43,55],[],none,true,false,false⟩,d1 15 [13] 13,d2 16 [57,56] 13 57]
def zga (a0:Group) (a1:Int) (a2:Contest) (a3:Int) (a4:List Int) (a5:List Int):Option Sealed:=
 (zfH a3).bind fun z1=>
 (zeA a2).bind fun z2=>
 if(!z2)=true then(
 (ix a5 0).bind fun x4=>
 (zco a2 a4).bind fun z5=>
 (ze6 a0 a1 z5 x4).bind fun z6=>
 gd (1*16≤140737488355328∧1≤4611686018427387904)<|
 gd (0≤1∧1≤a5.length)<|
 gd (1≤2∧2≤a5.length)<|
 (zfJ a0 z1 [[a0.G]] ((a5.take 1).drop 0) ((a5.take 2).drop 1)).bind fun z7=>
 gd (1*72≤140737488355328∧1≤4611686018427387904)<|
 some (Sealed.mk a3 [z6] [z7] (Proof.mk [] [] [])))else(
 (zfV a2).bind fun z8=>
 (zfd a2 a4).bind fun z9=>
 ((zak (σ:=(List Int)×Int×List Cipher×List Proof×List Int×List Int×List Int×Int×Int) (fun i38 s37=>
 (ix z9 i38).bind fun x44=>
 (ix s37.1 0).bind fun x45=>
 (ze6 a0 a1 x44 x45).bind fun z46=>
 gd ((s37.2.2.1.length+1)*16≤140737488355328∧s37.2.2.1.length+1≤4611686018427387904)<|
 gd (0≤(i64.wrap ((i64.wrap (2*z8))+2)))<|
 gd (1≤(i64.wrap ((i64.wrap (2*z8))+2)).toNat∧(i64.wrap ((i64.wrap (2*z8))+2)).toNat≤s37.1.length)<|
 (zcm a0 a1 z46 0 z8).bind fun z47=>
 (zd4 a0 z1 z47 x44 x45 ((s37.1.take ((i64.wrap ((i64.wrap (2*z8))+2)).toNat)).drop 1)).bind fun z48=>
 gd ((s37.2.2.2.1.length+1)*72≤140737488355328∧s37.2.2.2.1.length+1≤4611686018427387904)<|
 gd (a0.Q≠0)<|
 gd (0≤(i64.wrap ((i64.wrap (2*z8))+2)))<|
 gd ((i64.wrap ((i64.wrap (2*z8))+2)).toNat≤s37.1.length∧s37.1.length≤s37.1.length)<|
 some (.go ((s37.1.take s37.1.length).drop ((i64.wrap ((i64.wrap (2*z8))+2)).toNat),s37.2.1,s37.2.2.1++[z46],s37.2.2.2.1++[z48],s37.2.2.2.2.1,s37.2.2.2.2.2.1,s37.2.2.2.2.2.2.1,i64.wrap (s37.2.2.2.2.2.2.2.1+x44),(i64.wrap (s37.2.2.2.2.2.2.2.2+x45)).tmod a0.Q))) (fun s37=>(s37.1,s37.2.1,s37.2.2.1,s37.2.2.2.1,s37.2.2.2.2.1,s37.2.2.2.2.2.1,s37.2.2.2.2.2.2.1,s37.2.2.2.2.2.2.2.1,s37.2.2.2.2.2.2.2.2)) (z9.length) 0 (a5,a3,[],[],[],[],[],0,0):Option ((List Int×Int×List Cipher×List Proof×List Int×List Int×List Int×Int×Int))).bind fun x12=>
 (zgE a0 x12.2.2.1).bind fun z53=>
 (zcm a0 a1 z53 a2.Least a2.Most).bind fun z54=>
 (zd4 a0 z1 z54 (i64.wrap (x12.2.2.2.2.2.2.2.1-a2.Least)) x12.2.2.2.2.2.2.2.2 x12.1).bind fun z55=>
 some (Sealed.mk x12.2.1 x12.2.2.1 x12.2.2.2.1 z55)))
theorem zq7:∀{a0}{a1}{a2}{a3}{a4}{a5}{r},zga a0 a1 a2 a3 a4 a5=some r→PCalls Tryz.prog 39 [(.sh,vD a0),(.sh,.int .i64 a1),(.sh,vE a2),(.sh,.int .i64 a3),(.sh,vA a4),(.sh,vA a5)] (Eo (vR r) [.junk,.junk,.junk,.junk,.junk,.junk]):=by
 intro a0 a1 a2 a3 a4 a5 r hr
 apply pF 143 [] [] [] [.cell 12 41] hr zGX Tryz.func39
 intro Φ hΦ hF g
 unfold zga at hF
 iterate 2 refine wW ?_
 refine wC hF [.sh] zpi (fun z1 hF=>?_)
 refine wK [1,4,5,6,8,12,13,14] ?_
 refine wC hF [.sh] zi5 (fun z2 hF=>?_)
 refine wW ?_
 refine wI hF (fun h3 hF=>?_) (fun h3 hF=>?_)
 ·refine wX zCN follows ?_
  obtain⟨x4,g,hF⟩:=Rxn g 0 hF
  refine wD hF ziI (fun z5 hF=>?_)
  refine wC hF [.sh,.sh,.sh,.sh] zmn (fun z6 hF=>?_)
  obtain⟨g,hF⟩:=Rg g hF
  refine wK [5,6,12,13,14] ?_
  refine wX zBu follows ?_
  obtain⟨g,hF⟩:=Rg g hF
  obtain⟨g,hF⟩:=Rg g hF
  refine wC hF [.sh,.sh,.sh,.sh,.sh] zpl (fun z7 hF=>?_)
  obtain⟨g,hF⟩:=Rg g hF
  refine wK [12,13] ?_
  exact wl hΦ hF
 refine wW ?_
 refine wC hF [.sh] zmm (fun z8 hF=>?_)
 iterate 2 refine wW ?_
 refine wC hF [.sh,.sh] zqV (fun z9 hF=>?_)
 try simp[go_sem,g]
 try intros
 refine wK [1,5,6,8,12,13,14,15,16,17,63,64,65] ?_
 refine wJ hF (fun x12=>[(1,.v (.int .i64 a1)),(5,.v (vA x12.1)),(6,.bl [.int .i64 a0.P,.int .i64 a0.Q,.int .i64 a0.G]),(8,.bl [.int .i64 a2.Kind,.int .i64 a2.Options,.int .i64 a2.Least,.int .i64 a2.Most,.int .i64 a2.Points]),(12,.bl [.int .i64 0,.sl true 2 [],.sl true 3 [],.sl true 1 [],.sl true 1 [],.sl true 1 []]),(13,.bl [.int .i64 x12.2.1,vO x12.2.2.1,vP x12.2.2.2.1,vF x12.2.2.2.2.1,vF x12.2.2.2.2.2.1,vF x12.2.2.2.2.2.2.1]),(14,.v (.str z1)),(16,.v (.int .i64 x12.2.2.2.2.2.2.2.1)),(17,.v (.int .i64 x12.2.2.2.2.2.2.2.2))]) (fun x12 hF=>?_) fun _ hj10 hF=>?_
 ·refine wX zyY follows ?_
  refine wC hF [.sh,.sh] zrB (fun z53 hF=>?_)
  refine wC hF [.sh,.sh,.sh,.sh,.sh] zhW (fun z54 hF=>?_)
  refine wC hF [.sh,.sh,.sh,.sh,.sh,.sh] zkG (fun z55 hF=>?_)
  refine wK [12,13] ?_
  exact wl hΦ hF
 refine wB ?_
 obtain⟨b49,hb50,hψ41⟩:=hF
 refine pR hb50 (fun i38 s37=>[(1,.v (.int .i64 a1)),(5,.v (vA s37.1)),(6,.bl [.int .i64 a0.P,.int .i64 a0.Q,.int .i64 a0.G]),(8,.bl [.int .i64 a2.Kind,.int .i64 a2.Options,.int .i64 a2.Least,.int .i64 a2.Most,.int .i64 a2.Points]),(12,.bl [.int .i64 0,.sl true 2 [],.sl true 3 [],.sl true 1 [],.sl true 1 [],.sl true 1 []]),(13,.bl [.int .i64 s37.2.1,vO s37.2.2.1,vP s37.2.2.2.1,vF s37.2.2.2.2.1,vF s37.2.2.2.2.2.1,vF s37.2.2.2.2.2.2.1]),(14,.v (.str z1)),(15,.v (.int .i64 z8)),(16,.v (.int .i64 s37.2.2.2.2.2.2.2.1)),(17,.v (.int .i64 s37.2.2.2.2.2.2.2.2)),(63,.v (vF z9)),(64,.v (.int .i64 (z9.length:Int))),(65,.v (.int .i64 i38))]) (fun s37 _ hN51=>?_) (fun i38 s37 _ _ hi42 hi43 ho39 hg40 hF=>?_)
 ·exact wn hN51 (hj10 _) hψ41
 refine wW ?_
 refine wu hi42 hi43 ?_
 refine wW ?_
 refine wB ?_
 obtain⟨x44,g,hF⟩:=Rx g hF
 refine wW ?_
 refine wX zzR follows ?_
 obtain⟨x45,g,hF⟩:=Rxn g 0 hF
 refine wC hF [.sh,.sh,.sh,.sh] zmn (fun z46 hF=>?_)
 refine wK [1,5,6,8,12,13,14,15,16,17,19,20,63,64,65] ?_
 obtain⟨g,hF⟩:=Rg g hF
 refine wW ?_
 refine wX zzK follows ?_
 obtain⟨g,hF⟩:=Rg g hF
 obtain⟨g,hF⟩:=Rg g hF
 refine wD hF zhW (fun z47 hF=>?_)
 refine wC hF [.sh,.sh,.sh,.sh,.sh,.sh] zkG (fun z48 hF=>?_)
 obtain⟨g,hF⟩:=Rg g hF
 refine wK [1,5,6,8,12,13,14,15,16,17,19,63,64,65] ?_
 refine wW ?_
 refine wX zyS follows ?_
 obtain⟨g,hF⟩:=Rz g hF
 refine wK [1,5,6,8,12,13,14,15,16,17,63,64,65] ?_
 obtain⟨g,hF⟩:=Rg g hF
 obtain⟨g,hF⟩:=Rg g hF
 refine wW ?_
 exact wi hi42 hi43 (hg40 _) (zaa hF)
def ze0 (a0:Group) (a1:Int) (a2:Contest) (a3:Int) (a4:List Int) (a5:List Int):Option (Sealed×Bool):=
 (((zdP a0 a2).bind fun z4=>
 if(!z4)=true then(
 some true)else(
 (zfx a0 [a1]).bind fun z6=>
 if(!z6)=true then(
 some true)else(
 (zaX a3 0 999999).bind fun z8=>
 if(!z8)=true then(
 some true)else(
 (zgc a2 a4).bind fun z10=>
 if(!z10)=true then(
 some true)else(
 (zfM a2).bind fun z12=>
 if((a5.length:Int) !=z12)=true then(
 some true)else(
 (zgj a0 a5).bind fun z14=>
 some (!z14)))))):Option Bool).bind fun x3=>
 if x3=true then(
 some ((Sealed.mk 0 [] [] (Proof.mk [] [] [])),false))else(
 (zga a0 a1 a2 a3 a4 a5).bind fun z16=>
 some (z16,true)))
theorem znd:∀{a0}{a1}{a2}{a3}{a4}{a5}{r},ze0 a0 a1 a2 a3 a4 a5=some r→PCalls Tryz.prog 13 [(.sh,vD a0),(.sh,.int .i64 a1),(.sh,vE a2),(.sh,.int .i64 a3),(.sh,vA a4),(.sh,vA a5)] (Eo (.tup [vR r.1,.bool r.2]) [.junk,.junk,.junk,.junk,.junk,.junk]):=by
 intro a0 a1 a2 a3 a4 a5 r hr
 apply pF 57 [] [] [] [.cell 12 41,.tmp 13] hr zG4 Tryz.func13
 intro Φ hΦ hF g
 unfold ze0 at hF
 refine wW ?_
 refine wJ hF (fun x3=>[(1,.v (.int .i64 a1)),(3,.v (.int .i64 a3)),(4,.v (vA a4)),(5,.v (vA a5)),(6,.bl [.int .i64 a0.P,.int .i64 a0.Q,.int .i64 a0.G]),(8,.bl [.int .i64 a2.Kind,.int .i64 a2.Options,.int .i64 a2.Least,.int .i64 a2.Most,.int .i64 a2.Points]),(12,.bl [.int .i64 0,.sl true 2 [],.sl true 3 [],.sl true 1 [],.sl true 1 [],.sl true 1 []]),(48,.v (.bool x3))]) (fun x3 hF=>?_) fun _ hj1 hF=>?_
 ·refine wI hF (fun h15 hF=>?_) (fun h15 hF=>?_)
  ·exact wl hΦ hF
  refine wW ?_
  refine wC hF [.sh,.sh,.sh,.sh,.sh,.sh] zq7 (fun z16 hF=>?_)
  refine wK [12,13] ?_
  exact wm hΦ hF
 refine wC hF [.sh,.sh] zlw (fun z4 hF=>?_)
 refine wG hF (fun h5 hF=>?_) fun h5 hF=>?_
 ·exact wV h5 (hj1 _) (zaa hF)
 try simp[go_sem,g,h5]
 refine wC hF [.sh,.sh] znj (fun z6 hF=>?_)
 try simp[go_sem,g,h5]
 refine wG hF (fun h7 hF=>?_) fun h7 hF=>?_
 ·exact wV h7 (hj1 _) (zaa hF)
 try simp[go_sem,g,h7]
 refine wC hF [.sh,.sh,.sh] zbv (fun z8 hF=>?_)
 try simp[go_sem,g,h7]
 refine wG hF (fun h9 hF=>?_) fun h9 hF=>?_
 ·exact wV h9 (hj1 _) (zaa hF)
 try simp[go_sem,g,h9]
 refine wC hF [.sh,.sh] zq0 (fun z10 hF=>?_)
 try simp[go_sem,g,h9]
 refine wG hF (fun h11 hF=>?_) fun h11 hF=>?_
 ·exact wV h11 (hj1 _) (zaa hF)
 try simp[go_sem,g,h11]
 try intros
 refine wC hF [.sh] zpf (fun z12 hF=>?_)
 try simp[go_sem,g,h11]
 refine wG hF (fun h13 hF=>?_) fun h13 hF=>?_
 ·exact wV h13 (hj1 _) (zaa hF)
 try simp[go_sem,g,h13]
 refine wC hF [.sh,.sh] zqb (fun z14 hF=>?_)
 exact wV h13 (hj1 _) (zaa hF)
def zeX (a0:List Cipher):Option ((List Int)):=
 ((zak (σ:=(List Int)) (fun i5 s4=>
 (ix a0 i5).bind fun x11=>
 gd ((s4.length+2)*8≤140737488355328∧s4.length+2≤4611686018427387904)<|
 some (.go (s4++[x11.A,x11.B]))) (fun s4=>s4) (a0.length) 0 [(a0.length:Int)]:Option ((List Int))).bind fun x3=>
 some x3)
theorem zn6:∀{a0}{r},zeX a0=some r→PCalls Tryz.prog 158 [(.sh,vQ a0)] (Eo (vF r) [.junk]):=by
 intro a0 r hr
 apply pF 24 [] [] [] [.tmp 2] hr zCs Tryz.func158
 intro Φ hΦ hF g
 unfold zeX at hF
 iterate 3 (try simp[go_sem,g];try intros;refine zal ?_)
 refine wJ hF (fun x3=>[(3,.v (vF x3))]) (fun x3 hF=>?_) fun _ hj1 hF=>?_
 ·refine wK [2] ?_
  exact wm hΦ hF
 refine wB ?_
 obtain⟨b12,hb13,hψ8⟩:=hF
 refine pR hb13 (fun i5 s4=>[(3,.v (vF s4)),(9,.v (vQ a0)),(10,.v (.int .i64 (a0.length:Int))),(11,.v (.int .i64 i5))]) (fun s4 _ hN14=>?_) (fun i5 s4 _ _ hi9 hi10 ho6 hg7 hF=>?_)
 ·exact wn hN14 (hj1 _) hψ8
 refine wW ?_
 refine wu hi9 hi10 ?_
 refine wW ?_
 refine wB ?_
 obtain⟨x11,g,hF⟩:=Rx g hF
 refine wK [3,5,9,10,11] ?_
 obtain⟨g,hF⟩:=Rg g hF
 refine wW ?_
 exact wi hi9 hi10 (hg7 _) (zaa hF)
def zbJ (a0:List Int) (a1:List Int):Option ((List Int)):=
 gd ((a0.length+1)*8≤140737488355328∧a0.length+1≤4611686018427387904)<|
 gd (((a0++[(a1.length:Int)]).length+a1.length)*8≤140737488355328∧(a0++[(a1.length:Int)]).length+a1.length≤4611686018427387904)<|
 some (a0++[(a1.length:Int)]++a1)
theorem zfa:∀{a0}{a1}{r},zbJ a0 a1=some r→PCalls Tryz.prog 179 [(.mv,vF a0),(.sh,vA a1)] (Eo (vF r) [.junk,.junk]):=by
 intro a0 a1 r hr
 apply pF 12 [] [] [] [.tmp 4] hr zC8 Tryz.func179
 intro Φ hΦ hF g
 unfold zbJ at hF
 obtain⟨g,hF⟩:=Rg g hF
 obtain⟨g,hF⟩:=Rg g hF
 cases hΦ _ (zaa hF)
 iterate 2 (try simp[go_sem,g];try intros;refine zal ?_)
 try simp[go_sem,g]
 try intros
 try simp[go_sem,g]
@[go_sem] def zzM:List DE:=[d0 0 [],d1 1 [1] 1,d2 2 [4] 1 4,d1 4 [1] 1,d2 5 [7] 1 7,d1 7 [1] 1,d2 8 [10] 1 10,⟨3,[3,5],[],none,true,true,true⟩,d3 6 [6,8],d3 9 [9,11],d0 10 [12]]
def zd1 (a0:Proof):Option ((List Int)):=
 (zbJ [] a0.Commits).bind fun z1=>
 (zbJ z1 a0.Challenges).bind fun z2=>
 (zbJ z2 a0.Responses).bind fun z3=>
 some z3
theorem zkK:∀{a0}{r},zd1 a0=some r→PCalls Tryz.prog 159 [(.sh,vS a0)] (Eo (vF r) [.junk]):=by
 intro a0 r hr
 apply pF 13 [] [] [] [.tmp 2] hr zBc Tryz.func159
 intro Φ hΦ hF g
 unfold zd1 at hF
 refine wW ?_
 refine wX zzM follows ?_
 refine wC hF [.mv,.sh] zfa (fun z1 hF=>?_)
 refine wC hF [.mv,.sh] zfa (fun z2 hF=>?_)
 refine wC hF [.mv,.sh] zfa (fun z3 hF=>?_)
 refine wK [2] ?_
 exact wm hΦ hF
def zgb (a0:(List (List Int))):Option ((List Int)):=
 ((zak (σ:=(List Int)) (fun i5 s4=>
 (ix a0 i5).bind fun x11=>
 (zbJ s4 x11).bind fun z12=>
 some (.go z12)) (fun s4=>s4) (a0.length) 0 [(a0.length:Int)]:Option ((List Int))).bind fun x3=>
 some x3)
theorem zqz:∀{a0}{r},zgb a0=some r→PCalls Tryz.prog 160 [(.sh,vJ a0)] (Eo (vF r) [.junk]):=by
 intro a0 r hr
 apply pF 20 [] [] [] [.tmp 2] hr zDl Tryz.func160
 intro Φ hΦ hF g
 unfold zgb at hF
 iterate 3 (try simp[go_sem,g];try intros;refine zal ?_)
 refine wJ hF (fun x3=>[(3,.v (vF x3))]) (fun x3 hF=>?_) fun _ hj1 hF=>?_
 ·refine wK [2] ?_
  exact wm hΦ hF
 refine wB ?_
 obtain⟨b13,hb14,hψ8⟩:=hF
 refine pR hb14 (fun i5 s4=>[(3,.v (vF s4)),(9,.v (vJ a0)),(10,.v (.int .i64 (a0.length:Int))),(11,.v (.int .i64 i5))]) (fun s4 _ hN15=>?_) (fun i5 s4 _ _ hi9 hi10 ho6 hg7 hF=>?_)
 ·exact wn hN15 (hj1 _) hψ8
 refine wW ?_
 refine wu hi9 hi10 ?_
 refine wW ?_
 refine wB ?_
 obtain⟨x11,g,hF⟩:=Rx g hF
 refine wK [3,5,9,10,11] ?_
 refine wC hF [.mv,.sh] zfa (fun z12 hF=>?_)
 refine wW ?_
 exact wi hi9 hi10 (hg7 _) (zaa hF)
@[go_sem] def zz5:List DE:=[d1 0 [1] 1,d2 1 [6] 1 6,d0 2 [7],d1 3 [1] 1,d2 4 [9] 1 9,d3 5 [10],⟨6,[8,11],[],none,true,true,false⟩,⟨7,[12],[],none,true,true,false⟩]
def zgp (a0:Sealed):Option ((List Int)):=
 (zeX a0.Ciphers).bind fun z1=>
 ((zak (σ:=(List (List Int))) (fun i6 s5=>
 (ix a0.Proofs i6).bind fun x12=>
 (zd1 x12).bind fun z13=>
 gd ((s5.length+1)*24≤140737488355328∧s5.length+1≤4611686018427387904)<|
 some (.go (s5++[z13]))) (fun s5=>s5) (a0.Proofs.length) 0 [[a0.Voter],z1]:Option ((List (List Int)))).bind fun x4=>
 (zd1 a0.Sum).bind fun z18=>
 gd ((x4.length+1)*24≤140737488355328∧x4.length+1≤4611686018427387904)<|
 (zgb (x4++[z18])).bind fun z19=>
 some z19)
theorem zn7:∀{a0}{r},zgp a0=some r→PCalls Tryz.prog 117 [(.sh,vV a0)] (Eo (vF r) [.junk]):=by
 intro a0 r hr
 apply pF 33 [] [] [] [.tmp 2] hr zCK Tryz.func117
 intro Φ hΦ hF g
 unfold zgp at hF
 refine wW ?_
 refine wX zz5 follows ?_
 refine wC hF [.sh] zn6 (fun z1 hF=>?_)
 refine wK [1,3] ?_
 try simp[go_sem,g]
 try intros
 refine zal ?_
 refine wJ hF (fun x4=>[(1,.bl [.int .i64 a0.Voter,vQ a0.Ciphers,vT a0.Proofs,vA a0.Sum.Commits,vA a0.Sum.Challenges,vA a0.Sum.Responses]),(3,.v (vU x4))]) (fun x4 hF=>?_) fun _ hj2 hF=>?_
 ·refine wC hF [.sh] zkK (fun z18 hF=>?_)
  obtain⟨g,hF⟩:=Rg g hF
  refine wC hF [.sh] zqz (fun z19 hF=>?_)
  refine wK [2] ?_
  exact wm hΦ hF
 refine wB ?_
 obtain⟨b14,hb15,hψ9⟩:=hF
 refine pR hb15 (fun i6 s5=>[(1,.bl [.int .i64 a0.Voter,vQ a0.Ciphers,vT a0.Proofs,vA a0.Sum.Commits,vA a0.Sum.Challenges,vA a0.Sum.Responses]),(3,.v (vU s5)),(14,.v (vT a0.Proofs)),(15,.v (.int .i64 (a0.Proofs.length:Int))),(16,.v (.int .i64 i6))]) (fun s5 _ hN16=>?_) (fun i6 s5 _ _ hi10 hi11 ho7 hg8 hF=>?_)
 ·exact wn hN16 (hj2 _) hψ9
 refine wW ?_
 refine wu hi10 hi11 ?_
 refine wW ?_
 refine wB ?_
 obtain⟨x12,g,hF⟩:=Rx g hF
 refine wW ?_
 refine wC hF [.sh] zkK (fun z13 hF=>?_)
 obtain⟨g,hF⟩:=Rg g hF
 refine wK [1,3,14,15,16] ?_
 exact wi hi10 hi11 (hg8 _) (zaa hF)
def zf2 (a0:List Int):Option Bool:=
 ((if decide ((a0.length:Int)≤400)=true then(
 (zck a0 0 4611686018427387903).bind fun z5=>
 some z5)else(
 some false):Option Bool).bind fun x3=>
 some x3)
theorem znu:∀{a0}{r},zf2 a0=some r→PCalls Tryz.prog 157 [(.sh,vA a0)] (Eo (.bool r) [.junk]):=by
 intro a0 r hr
 apply pF 10 [] [] [] [.tmp 2] hr zDL Tryz.func157
 intro Φ hΦ hF g
 unfold zf2 at hF
 refine wW ?_
 refine wJ hF (fun x3=>[(2,.v (.bool x3))]) (fun x3 hF=>?_) fun _ hj1 hF=>?_
 ·exact wm hΦ hF
 try simp[go_sem,g]
 try intros
 refine wG hF (fun h4 hF=>?_) fun h4 hF=>?_
 ·try simp[go_sem,g,h4]
  refine wC hF [.sh,.sh,.sh] zfm (fun z5 hF=>?_)
  exact wV h4 (hj1 _) (zaa hF)
 exact wV h4 (hj1 _) (zaa hF)
def zgz (a0:List Int):Option (List Int×Bool):=
 (zf2 a0).bind fun z1=>
 if(!z1)=true then(
 some ([],false))else(
 some (a0,true))
theorem zrH:∀{a0}{r},zgz a0=some r→PCalls Tryz.prog 116 [(.sh,vA a0)] (Eo (.tup [vA r.1,.bool r.2]) [.junk]):=by
 intro a0 r hr
 apply pF 8 [] [2] [] [.tmp 2,.tmp 3] hr zCV Tryz.func116
 intro Φ hΦ hF g
 unfold zgz at hF
 refine wW ?_
 refine wC hF [.sh] znu (fun z1 hF=>?_)
 refine wW ?_
 refine wI hF (fun h2 hF=>?_) (fun h2 hF=>?_)
 ·exact wl hΦ hF
 cases hΦ _ (zaa hF)
 iterate 2 refine wW ?_
 try simp[go_sem,g]
def zdw (a0:Sealed):Option (List Int×Bool):=
 (zaX a0.Voter 0 999999).bind fun z1=>
 if(!z1)=true then(
 some ([],false))else(
 (zgp a0).bind fun z3=>
 (zgz z3).bind fun z4=>
 some (z4.1,z4.2))
theorem zkO:∀{a0}{r},zdw a0=some r→PCalls Tryz.prog 69 [(.sh,vV a0)] (Eo (.tup [vA r.1,.bool r.2]) [.junk]):=by
 intro a0 r hr
 apply pF 13 [] [2,9] [] [.tmp 2,.tmp 3] hr zGk Tryz.func69
 intro Φ hΦ hF g
 unfold zdw at hF
 refine wW ?_
 refine wC hF [.sh,.sh,.sh] zbv (fun z1 hF=>?_)
 refine wW ?_
 refine wI hF (fun h2 hF=>?_) (fun h2 hF=>?_)
 ·exact wl hΦ hF
 refine wW ?_
 refine wC hF [.sh] zn7 (fun z3 hF=>?_)
 refine wC hF [.sh] zrH (fun z4 hF=>?_)
 refine wK [2,3] ?_
 exact wm hΦ hF
def zfp (a0:ByteArray) (a1:List Int) (a2:Int):Option Bool:=
 ((if decide ((a0.size:Int)≤40)=true then(
 (zck a1 0 4611686018427387903).bind fun z5=>
 if z5=true then(
 some (decide ((i64.wrap ((i64.wrap ((i64.wrap (1+(a0.size:Int)))+(a1.length:Int)))+a2))≤400)))else(
 some false))else(
 some false):Option Bool).bind fun x3=>
 some x3)
theorem zou:∀{a0}{a1}{a2}{r},zfp a0 a1 a2=some r→PCalls Tryz.prog 118 [(.sh,.str a0),(.sh,vA a1),(.sh,.int .i64 a2)] (Eo (.bool r) [.junk,.junk,.junk]):=by
 intro a0 a1 a2 r hr
 apply pF 25 [] [] [] [.tmp 6] hr zAW Tryz.func118
 intro Φ hΦ hF g
 unfold zfp at hF
 refine wW ?_
 refine wJ hF (fun x3=>[(6,.v (.bool x3))]) (fun x3 hF=>?_) fun _ hj1 hF=>?_
 ·exact wm hΦ hF
 refine wG hF (fun h4 hF=>?_) fun h4 hF=>?_
 ·try simp[go_sem,g,h4]
  refine wC hF [.sh,.sh,.sh] zfm (fun z5 hF=>?_)
  try simp[go_sem,g,h4]
  refine wG hF (fun h6 hF=>?_) fun h6 hF=>?_
  ·try simp[go_sem,g,h6]
   try intros
   exact wT (hj1 _) (zaa hF)
  exact wV h6 (hj1 _) (zaa hF)
 exact wV h4 (hj1 _) (zaa hF)
def zeE (a0:ByteArray) (a1:List Int):Option (Int×Bool):=
 (zfp a0 a1 0).bind fun z1=>
 if(!z1)=true then(
 some (0,false))else(
 (zdE a0 a1).bind fun z3=>
 some (z3,true))
theorem zkS:∀{a0}{a1}{r},zeE a0 a1=some r→PCalls Tryz.prog 70 [(.sh,.str a0),(.sh,vA a1)] (Eo (.tup [.int .i64 r.1,.bool r.2]) [.junk,.junk]):=by
 intro a0 a1 r hr
 apply pF 13 [] [] [] [.tmp 4,.tmp 5] hr zGQ Tryz.func70
 intro Φ hΦ hF g
 unfold zeE at hF
 refine wW ?_
 refine wC hF [.sh,.sh,.sh] zou (fun z1 hF=>?_)
 refine wW ?_
 refine wI hF (fun h2 hF=>?_) (fun h2 hF=>?_)
 ·exact wl hΦ hF
 refine wW ?_
 refine wC hF [.sh,.sh] ziV (fun z3 hF=>?_)
 refine wK [4,5] ?_
 exact wm hΦ hF
def zdt (a0:Sealed):Option (Int×Bool):=
 (zdw a0).bind fun z1=>
 if(!z1.2)=true then(
 some (0,false))else(
 (zeE (⟨#[115,101,97,108,101,100]⟩:ByteArray) z1.1).bind fun z3=>
 some (z3.1,z3.2))
theorem zkR:∀{a0}{r},zdt a0=some r→PCalls Tryz.prog 31 [(.sh,vV a0)] (Eo (.tup [.int .i64 r.1,.bool r.2]) [.junk]):=by
 intro a0 r hr
 apply pF 17 [] [] [] [.tmp 2,.tmp 3] hr zFx Tryz.func31
 intro Φ hΦ hF g
 unfold zdt at hF
 refine wW ?_
 refine wC hF [.sh] zkO (fun z1 hF=>?_)
 refine wK [4,5] ?_
 refine wW ?_
 refine wI hF (fun h2 hF=>?_) (fun h2 hF=>?_)
 ·exact wl hΦ hF
 refine wW ?_
 refine wC hF [.sh,.sh] zkS (fun z3 hF=>?_)
 exact wl hΦ hF
def zd9 (a0:Group) (a1:Int) (a2:Contest) (a3:Int) (a4:List Int) (a5:List Int):Option (Int×Bool):=
 (ze0 a0 a1 a2 a3 a4 a5).bind fun z1=>
 if(!z1.2)=true then(
 some (0,false))else(
 (zdt z1.1).bind fun z3=>
 some (z3.1,z3.2))
theorem zmh:∀{a0}{a1}{a2}{a3}{a4}{a5}{r},zd9 a0 a1 a2 a3 a4 a5=some r→PCalls Tryz.prog 7 [(.sh,vD a0),(.sh,.int .i64 a1),(.sh,vE a2),(.sh,.int .i64 a3),(.sh,vA a4),(.sh,vA a5)] (Eo (.tup [.int .i64 r.1,.bool r.2]) [.junk,.junk,.junk,.junk,.junk,.junk]):=by
 intro a0 a1 a2 a3 a4 a5 r hr
 apply pF 32 [] [] [] [.tmp 12,.tmp 13] hr cl7 Tryz.func7
 intro Φ hΦ hF g
 unfold zd9 at hF
 refine wW ?_
 refine wC hF [.sh,.sh,.sh,.sh,.sh,.sh] znd (fun z1 hF=>?_)
 refine wK [14,15] ?_
 refine wW ?_
 refine wI hF (fun h2 hF=>?_) (fun h2 hF=>?_)
 ·exact wl hΦ hF
 refine wW ?_
 refine wC hF [.sh] zkR (fun z3 hF=>?_)
 exact wl hΦ hF
def zcG (a0:Group) (a1:Int) (a2:Contest) (a3:Session):Option (Bool×Bool):=
 ((if a3.Cast=true then(
 some true)else(
 (zeT a3.Receipt).bind fun z5=>
 some (!z5)):Option Bool).bind fun x3=>
 if x3=true then(
 some (false,false))else(
 (zd9 a0 a1 a2 a3.Voter a3.Vote a3.Coins).bind fun z7=>
 if(!z7.2)=true then(
 some (false,false))else(
 some ((z7.1==a3.Receipt),true))))
theorem zkW:∀{a0}{a1}{a2}{a3}{r},zcG a0 a1 a2 a3=some r→PCalls Tryz.prog 20 [(.sh,vD a0),(.sh,.int .i64 a1),(.sh,vE a2),(.sh,vB a3)] (Eo (.tup [.bool r.1,.bool r.2]) [.junk,.junk,.junk,.junk]):=by
 intro a0 a1 a2 a3 r hr
 apply pF 39 [] [] [] [.tmp 8,.tmp 9] hr zIH Tryz.func20
 intro Φ hΦ hF g
 unfold zcG at hF
 refine wW ?_
 refine wJ hF (fun x3=>[(1,.v (.int .i64 a1)),(4,.bl [.int .i64 a0.P,.int .i64 a0.Q,.int .i64 a0.G]),(6,.bl [.int .i64 a2.Kind,.int .i64 a2.Options,.int .i64 a2.Least,.int .i64 a2.Most,.int .i64 a2.Points]),(7,.bl [.int .i64 a3.Voter,vA a3.Vote,vA a3.Coins,.int .i64 a3.Receipt,.bool a3.Cast]),(19,.v (.bool x3))]) (fun x3 hF=>?_) fun _ hj1 hF=>?_
 ·refine wI hF (fun h6 hF=>?_) (fun h6 hF=>?_)
  ·exact wl hΦ hF
  refine wW ?_
  refine wC hF [.sh,.sh,.sh,.sh,.sh,.sh] zmh (fun z7 hF=>?_)
  refine wK [7,10,11] ?_
  refine wW ?_
  refine wI hF (fun h8 hF=>?_) (fun h8 hF=>?_)
  ·exact wl hΦ hF
  cases hΦ _ (zaa hF)
  iterate 2 refine wW ?_
  try simp[go_sem,g]
 refine wG hF (fun h4 hF=>?_) fun h4 hF=>?_
 ·try simp[go_sem,g,h4]
  exact wT (hj1 true) (zaa hF) (a:=by first|(simp[go_sem,g];done)|simp[go_sem,g,h4])
 try simp[go_sem,g,h4]
 refine wC hF [.sh] znW (fun z5 hF=>?_)
 try simp[go_sem,g,h4]
 exact wT (hj1 (!z5)) (zaa hF) (a:=by first|(simp[go_sem,g];done)|simp[go_sem,g,h4])
def zeZ (a0:Group) (a1:Int) (a2:Contest) (a3:List Session):Option (List Int×Bool):=
 (((zdP a0 a2).bind fun z4=>
 if(!z4)=true then(
 some true)else(
 (zfx a0 [a1]).bind fun z6=>
 if(!z6)=true then(
 some true)else(
 some (decide (24<(a3.length:Int))))):Option Bool).bind fun x3=>
 if x3=true then(
 some ([],false))else(
 ((zak (σ:=(List Int)) (fun i13 s12=>
 (((ix a3 i13).bind fun x22=>
 if x22.Cast=true then(
 some s12)else(
 (zcG a0 a1 a2 x22).bind fun z24=>
 ((if(!z24.2)=true then(
 some true)else(
 some (!z24.1)):Option Bool).bind fun x27=>
 if x27=true then(
 gd ((s12.length+1)*8≤140737488355328∧s12.length+1≤4611686018427387904)<|
 some (s12++[i13]))else(
 some s12))):Option ((List Int))).bind fun x21=>
 some (.go x21))) (fun s12=>s12) (a3.length) 0 []:Option ((List Int))).bind fun x11=>
 some (x11,true))))
theorem znf:∀{a0}{a1}{a2}{a3}{r},zeZ a0 a1 a2 a3=some r→PCalls Tryz.prog 25 [(.sh,vD a0),(.sh,.int .i64 a1),(.sh,vE a2),(.sh,vC a3)] (Eo (.tup [vF r.1,.bool r.2]) [.junk,.junk,.junk,.junk]):=by
 intro a0 a1 a2 a3 r hr
 apply pF 60 [] [] [] [.tmp 8,.tmp 9] hr zFe Tryz.func25
 intro Φ hΦ hF g
 unfold zeZ at hF
 refine wW ?_
 refine wJ hF (fun x3=>[(1,.v (.int .i64 a1)),(3,.v (vC a3)),(4,.bl [.int .i64 a0.P,.int .i64 a0.Q,.int .i64 a0.G]),(6,.bl [.int .i64 a2.Kind,.int .i64 a2.Options,.int .i64 a2.Least,.int .i64 a2.Most,.int .i64 a2.Points]),(30,.v (.bool x3))]) (fun x3 hF=>?_) fun _ hj1 hF=>?_
 ·refine wI hF (fun h8 hF=>?_) (fun h8 hF=>?_)
  ·exact wl hΦ hF
  iterate 3 (try simp[go_sem,g];try intros;refine zal ?_)
  refine wJ hF (fun x11=>[(10,.v (vF x11))]) (fun x11 hF=>?_) fun _ hj9 hF=>?_
  ·refine wK [8,9] ?_
   exact wm hΦ hF
  refine wB ?_
  obtain⟨b30,hb31,hψ16⟩:=hF
  refine pR hb31 (fun i13 s12=>[(1,.v (.int .i64 a1)),(4,.bl [.int .i64 a0.P,.int .i64 a0.Q,.int .i64 a0.G]),(6,.bl [.int .i64 a2.Kind,.int .i64 a2.Options,.int .i64 a2.Least,.int .i64 a2.Most,.int .i64 a2.Points]),(10,.v (vF s12)),(31,.v (vC a3)),(32,.v (.int .i64 (a3.length:Int))),(33,.v (.int .i64 i13))]) (fun s12 _ hN32=>?_) (fun i13 s12 _ _ hi17 hi18 ho14 hg15 hF=>?_)
  ·exact wn hN32 (hj9 _) hψ16
  refine wW ?_
  refine wu hi17 hi18 ?_
  refine wW ?_
  refine wJ hF (fun x21=>[(1,.v (.int .i64 a1)),(4,.bl [.int .i64 a0.P,.int .i64 a0.Q,.int .i64 a0.G]),(6,.bl [.int .i64 a2.Kind,.int .i64 a2.Options,.int .i64 a2.Least,.int .i64 a2.Most,.int .i64 a2.Points]),(10,.v (vF x21)),(31,.v (vC a3)),(32,.v (.int .i64 (a3.length:Int))),(33,.v (.int .i64 i13))]) (fun x21 hF=>?_) fun _ hj19 hF=>?_
  ·exact wi hi17 hi18 (hg15 _) (zaa hF)
  refine wB ?_
  obtain⟨x22,g,hF⟩:=Rx g hF
  refine wK [1,4,6,10,11,12,31,32,33] ?_
  refine wW ?_
  refine wI hF (fun h23 hF=>?_) (fun h23 hF=>?_)
  ·exact wT (hj19 _) (zaa hF)
  refine wW ?_
  refine wC hF [.sh,.sh,.sh,.sh] zkW (fun z24 hF=>?_)
  refine wK [1,4,6,10,11,13,14,31,32,33] ?_
  refine wJ hF (fun x27=>[(1,.v (.int .i64 a1)),(4,.bl [.int .i64 a0.P,.int .i64 a0.Q,.int .i64 a0.G]),(6,.bl [.int .i64 a2.Kind,.int .i64 a2.Options,.int .i64 a2.Least,.int .i64 a2.Most,.int .i64 a2.Points]),(10,.v (vF s12)),(11,.v (.int .i64 i13)),(31,.v (vC a3)),(32,.v (.int .i64 (a3.length:Int))),(33,.v (.int .i64 i13)),(53,.v (.bool x27))]) (fun x27 hF=>?_) fun _ hj25 hF=>?_
  ·refine wI hF (fun h29 hF=>?_) (fun h29 hF=>?_)
   ·obtain⟨g,hF⟩:=Rg g hF
    exact wT (hj19 _) (zaa hF)
   exact wT (hj19 _) (zaa hF)
  refine wG hF (fun h28 hF=>?_) fun h28 hF=>?_
  ·exact wV h28 (hj25 _) (zaa hF)
  exact wV h28 (hj25 _) (zaa hF)
 refine wC hF [.sh,.sh] zlw (fun z4 hF=>?_)
 refine wG hF (fun h5 hF=>?_) fun h5 hF=>?_
 ·exact wV h5 (hj1 _) (zaa hF)
 try simp[go_sem,g,h5]
 refine wC hF [.sh,.sh] znj (fun z6 hF=>?_)
 try simp[go_sem,g,h5]
 refine wG hF (fun h7 hF=>?_) fun h7 hF=>?_
 ·exact wV h7 (hj1 _) (zaa hF)
 try simp[go_sem,g,h7]
 try intros
 exact wT (hj1 _) (zaa hF)
def zax (a0:Int) (a1:Int) (a2:Int):Option Bool:=
 ((if decide (a1≤a0)=true then(
 some (decide (a0≤a2)))else(
 some false):Option Bool).bind fun x3=>
 some x3)
theorem zaU:∀{a0}{a1}{a2}{r},zax a0 a1 a2=some r→PCalls Tryz.prog 94 [(.sh,.int .i64 a0),(.sh,.int .i64 a1),(.sh,.int .i64 a2)] (Eo (.bool r) [.junk,.junk,.junk]):=by
 intro a0 a1 a2 r hr
 apply pF 15 [] [] [] [.tmp 6] hr zFO Tryz.func94
 intro Φ hΦ hF g
 unfold zax at hF
 refine wW ?_
 refine wJ hF (fun x3=>[(6,.v (.bool x3))]) (fun x3 hF=>?_) fun _ hj1 hF=>?_
 ·exact wm hΦ hF
 refine wG hF (fun h4 hF=>?_) fun h4 hF=>?_
 ·exact wV h4 (hj1 _) (zaa hF)
 exact wV h4 (hj1 _) (zaa hF)
def zeB (a0:Int):Option Bool:=
 (zax a0 2 2000000000).bind fun z1=>
 some z1
theorem zmB:∀{a0}{r},zeB a0=some r→PCalls Tryz.prog 169 [(.sh,.int .i64 a0)] (Eo (.bool r) [.junk]):=by
 intro a0 r hr
 apply pF 5 [] [] [] [.tmp 2] hr zBD Tryz.func169
 intro Φ hΦ hF g
 unfold zeB at hF
 refine wW ?_
 refine wC hF [.sh,.sh,.sh] zaU (fun z1 hF=>?_)
 exact wl hΦ hF
def zem (a0:Int):Option Bool:=
 (((zeB a0).bind fun z4=>
 if(!z4)=true then(
 some true)else(
 if((a0.tmod 2)==0)=true then(
 some (a0 !=2))else(
 some false)):Option Bool).bind fun x3=>
 if x3=true then(
 some false)else(
 ((zaL (σ:=Int) (fun s11=>
 if decide ((i64.wrap (s11*s11))≤a0)=true then(
 gd (s11≠0)<|
 if((a0.tmod s11)==0)=true then(
 some (.out (.inr false)))else(
 some (.go (i64.wrap (s11+2)))))else(
 some (.out (.inl ())))) 3:Option (Unit ⊕ Bool)).bind (Sum.elim (fun x10=>
 some true) some))))
theorem zjM:∀{a0}{r},zem a0=some r→PCalls Tryz.prog 141 [(.sh,.int .i64 a0)] (Eo (.bool r) [.junk]):=by
 intro a0 r hr
 apply pF 27 [] [] [] [.tmp 2] hr zCt Tryz.func141
 intro Φ hΦ hF g
 unfold zem at hF
 refine wW ?_
 refine wJ hF (fun x3=>[(0,.v (.int .i64 a0)),(15,.v (.bool x3))]) (fun x3 hF=>?_) fun _ hj1 hF=>?_
 ·refine wI hF (fun h7 hF=>?_) (fun h7 hF=>?_)
  ·exact wl hΦ hF
  iterate 2 refine wW ?_
  refine wS hF (fun x10=>[]) (fun x10 hF=>?_) fun _ hj8 hr9 hF=>?_
  ·exact wl hΦ hF
  refine wB ?_
  obtain⟨b18,hb19,hψ15⟩:=hF
  refine pL hb19 (fun s11=>[(0,.v (.int .i64 a0)),(3,.v (.int .i64 s11))]) (fun s11 _ _ ho13 hg14 hF=>?_)
  refine wW ?_
  refine wI hF (fun h16 hF=>?_) (fun h16 hF=>?_)
  ·refine wW ?_
   refine wB ?_
   obtain⟨g,hF⟩:=Rz g hF
   refine wK [0,3,26] ?_
   refine wI hF (fun h17 hF=>?_) (fun h17 hF=>?_)
   ·cases ho13 _ (zaa hF)
    cases hΦ _ (hr9 _ hψ15)
    refine wW ?_
    try simp[go_sem,g]
   refine wW ?_
   exact wT (hg14 _) (zaa hF)
  cases ho13 _ (zaa hF)
  exact wT (hj8 _) hψ15
 refine wC hF [.sh] zmB (fun z4 hF=>?_)
 refine wG hF (fun h5 hF=>?_) fun h5 hF=>?_
 ·exact wV h5 (hj1 _) (zaa hF)
 have g:=Ld g 2
 try simp[go_sem,g,h5]
 refine wG hF (fun h6 hF=>?_) fun h6 hF=>?_
 ·try simp[go_sem,g,h6,h5]
  exact wT (hj1 _) (zaa hF)
 try simp[go_sem,g,h6,h5]
 exact wT (hj1 _) (zaa hF)
def zdS (a0:Int) (a1:Int) (a2:Int):Option Int:=
 gd (a2≠0)<|
 ((zaL (σ:=Int×Int×Int) (fun s4=>
 if decide (0<s4.2.1)=true then(
 ((if((i64.wrap ((BitVec.ofInt i64.bits s4.2.1&&&BitVec.ofInt i64.bits 1).toNat))==1)=true then(
 gd (a2≠0)<|
 some ((i64.wrap (s4.2.2*s4.1)).tmod a2))else(
 some s4.2.2):Option Int).bind fun x12=>
 gd (a2≠0)<|
 some (.go ((i64.wrap (s4.1*s4.1)).tmod a2,s4.2.1.fdiv 2,x12))))else(
 some (.out s4.2.2))) (a0,a1,(1:Int).tmod a2):Option Int).bind fun x3=>
 some x3)
theorem ziP:∀{a0}{a1}{a2}{r},zdS a0 a1 a2=some r→PCalls Tryz.prog 95 [(.sh,.int .i64 a0),(.sh,.int .i64 a1),(.sh,.int .i64 a2)] (Eo (.int .i64 r) [.junk,.junk,.junk]):=by
 intro a0 a1 a2 r hr
 apply pF 28 [] [] [] [.tmp 6] hr zIt Tryz.func95
 intro Φ hΦ hF g
 unfold zdS at hF
 obtain⟨g,hF⟩:=Rz g hF
 iterate 2 refine wW ?_
 refine wJ hF (fun x3=>[(7,.v (.int .i64 x3))]) (fun x3 hF=>?_) fun _ hj1 hF=>?_
 ·exact wl hΦ hF
 refine wB ?_
 obtain⟨b14,hb15,hψ8⟩:=hF
 refine pL hb15 (fun s4=>[(0,.v (.int .i64 s4.1)),(1,.v (.int .i64 s4.2.1)),(2,.v (.int .i64 a2)),(7,.v (.int .i64 s4.2.2))]) (fun s4 _ _ ho6 hg7 hF=>?_)
 refine wW ?_
 refine wI hF (fun h9 hF=>?_) (fun h9 hF=>?_)
 ·refine wW ?_
  refine wB ?_
  refine wW ?_
  refine wJ hF (fun x12=>[(0,.v (.int .i64 s4.1)),(1,.v (.int .i64 s4.2.1)),(2,.v (.int .i64 a2)),(7,.v (.int .i64 x12))]) (fun x12 hF=>?_) fun _ hj10 hF=>?_
  ·obtain⟨g,hF⟩:=Rz g hF
   refine wK [0,1,2,7] ?_
   have g:=Ls g 1
   exact wT (hg7 _) (zaa hF)
  refine wI hF (fun h13 hF=>?_) (fun h13 hF=>?_)
  ·obtain⟨g,hF⟩:=Rz g hF
   exact wT (hj10 _) (zaa hF)
  exact wT (hj10 _) (zaa hF)
 cases ho6 _ (zaa hF)
 exact wT (hj1 _) hψ8
def zbI (a0:Group):Option Bool:=
 (((zax a0.P 3 2000000000).bind fun z4=>
 if z4=true then(
 (zax a0.Q 2 (i64.wrap (a0.P-1))).bind fun z6=>
 if z6=true then(
 gd (a0.Q≠0)<|
 if(((i64.wrap (a0.P-1)).tmod a0.Q)==0)=true then(
 (zax a0.G 2 (i64.wrap (a0.P-1))).bind fun z9=>
 if z9=true then(
 (zem a0.P).bind fun z11=>
 if z11=true then(
 (zem a0.Q).bind fun z13=>
 if z13=true then(
 (zdS a0.G a0.Q a0.P).bind fun z15=>
 some (z15==1))else(
 some false))else(
 some false))else(
 some false))else(
 some false))else(
 some false))else(
 some false):Option Bool).bind fun x3=>
 some x3)
theorem zeF:∀{a0}{r},zbI a0=some r→PCalls Tryz.prog 91 [(.sh,vD a0)] (Eo (.bool r) [.junk]):=by
 intro a0 r hr
 apply pF 51 [] [] [] [.tmp 2] hr zFw Tryz.func91
 intro Φ hΦ hF g
 unfold zbI at hF
 refine wW ?_
 refine wJ hF (fun x3=>[(2,.v (.bool x3))]) (fun x3 hF=>?_) fun _ hj1 hF=>?_
 ·exact wm hΦ hF
 refine wC hF [.sh,.sh,.sh] zaU (fun z4 hF=>?_)
 refine wG hF (fun h5 hF=>?_) fun h5 hF=>?_
 ·try simp[go_sem,g,h5]
  refine wC hF [.sh,.sh,.sh] zaU (fun z6 hF=>?_)
  try simp[go_sem,g,h5]
  refine wG hF (fun h7 hF=>?_) fun h7 hF=>?_
  ·obtain⟨g,hF⟩:=Rz g hF
   try simp[go_sem,g,h7]
   refine wG hF (fun h8 hF=>?_) fun h8 hF=>?_
   ·try simp[go_sem,g,h8]
    refine wC hF [.sh,.sh,.sh] zaU (fun z9 hF=>?_)
    try simp[go_sem,g,h8]
    refine wG hF (fun h10 hF=>?_) fun h10 hF=>?_
    ·try simp[go_sem,g,h10]
     refine wC hF [.sh] zjM (fun z11 hF=>?_)
     try simp[go_sem,g,h10]
     refine wG hF (fun h12 hF=>?_) fun h12 hF=>?_
     ·try simp[go_sem,g,h12]
      refine wC hF [.sh] zjM (fun z13 hF=>?_)
      try simp[go_sem,g,h12]
      refine wG hF (fun h14 hF=>?_) fun h14 hF=>?_
      ·try simp[go_sem,g,h14]
       refine wC hF [.sh,.sh,.sh] ziP (fun z15 hF=>?_)
       exact wV h14 (hj1 _) (zaa hF)
      exact wV h14 (hj1 _) (zaa hF)
     exact wV h12 (hj1 _) (zaa hF)
    exact wV h10 (hj1 _) (zaa hF)
   exact wV h8 (hj1 _) (zaa hF)
  exact wV h7 (hj1 _) (zaa hF)
 exact wV h5 (hj1 _) (zaa hF)
def zcd (a0:Contest):Option Bool:=
 ((if decide (a0.Least<0)=true then(
 some true)else(
 some (decide (a0.Most<a0.Least))):Option Bool).bind fun x3=>
 if x3=true then(
 some false)else(
 ((if(a0.Kind==1)=true then(
 some (a0.Kind==1))else(
 some (a0.Kind==3)):Option Bool).bind fun x8=>
 if x8=true then(
 (((zax a0.Options 1 8).bind fun z14=>
 if z14=true then(
 if decide (a0.Most≤a0.Options)=true then(
 some (a0.Points==0))else(
 some false))else(
 some false):Option Bool).bind fun x13=>
 some x13))else(
 if(a0.Kind==2)=true then(
 (((zax a0.Options 1 8).bind fun z21=>
 if z21=true then(
 (zax a0.Points 1 5).bind fun z23=>
 if z23=true then(
 some (decide (a0.Most≤(i64.wrap (a0.Options*a0.Points)))))else(
 some false))else(
 some false):Option Bool).bind fun x20=>
 some x20))else(
 if(a0.Kind==4)=true then(
 ((if(a0.Options==0)=true then(
 if decide (a0.Most≤5)=true then(
 some (a0.Points==0))else(
 some false))else(
 some false):Option Bool).bind fun x28=>
 some x28))else(
 some false))))))
theorem zj2:∀{a0}{r},zcd a0=some r→PCalls Tryz.prog 92 [(.sh,vE a0)] (Eo (.bool r) [.junk]):=by
 intro a0 r hr
 apply pF 68 [] [] [] [.tmp 2] hr zHF Tryz.func92
 intro Φ hΦ hF g
 unfold zcd at hF
 refine wW ?_
 refine wJ hF (fun x3=>[(1,.bl [.int .i64 a0.Kind,.int .i64 a0.Options,.int .i64 a0.Least,.int .i64 a0.Most,.int .i64 a0.Points]),(12,.v (.bool x3))]) (fun x3 hF=>?_) fun _ hj1 hF=>?_
 ·refine wI hF (fun h5 hF=>?_) (fun h5 hF=>?_)
  ·exact wl hΦ hF
  iterate 2 refine wW ?_
  refine wB ?_
  refine wW ?_
  refine wJ hF (fun x8=>[(1,.bl [.int .i64 a0.Kind,.int .i64 a0.Options,.int .i64 a0.Least,.int .i64 a0.Most,.int .i64 a0.Points]),(14,.v (.int .i64 a0.Kind)),(15,.v (.bool x8))]) (fun x8 hF=>?_) fun _ hj6 hF=>?_
  ·refine wI hF (fun h10 hF=>?_) (fun h10 hF=>?_)
   ·refine wJ hF (fun x13=>[(2,.v (.bool x13))]) (fun x13 hF=>?_) fun _ hj11 hF=>?_
    ·exact wm hΦ hF
    refine wC hF [.sh,.sh,.sh] zaU (fun z14 hF=>?_)
    refine wG hF (fun h15 hF=>?_) fun h15 hF=>?_
    ·try simp[go_sem,g,h15]
     refine wG hF (fun h16 hF=>?_) fun h16 hF=>?_
     ·exact wV h16 (hj11 _) (zaa hF)
     exact wV h16 (hj11 _) (zaa hF)
    exact wV h15 (hj11 _) (zaa hF)
   refine wW ?_
   refine wI hF (fun h17 hF=>?_) (fun h17 hF=>?_)
   ·refine wJ hF (fun x20=>[(2,.v (.bool x20))]) (fun x20 hF=>?_) fun _ hj18 hF=>?_
    ·exact wm hΦ hF
    refine wC hF [.sh,.sh,.sh] zaU (fun z21 hF=>?_)
    refine wG hF (fun h22 hF=>?_) fun h22 hF=>?_
    ·try simp[go_sem,g,h22]
     refine wC hF [.sh,.sh,.sh] zaU (fun z23 hF=>?_)
     try simp[go_sem,g,h22]
     refine wG hF (fun h24 hF=>?_) fun h24 hF=>?_
     ·exact wV h24 (hj18 _) (zaa hF)
     exact wV h24 (hj18 _) (zaa hF)
    exact wV h22 (hj18 _) (zaa hF)
   refine wK [1,53] ?_
   refine wI hF (fun h25 hF=>?_) (fun h25 hF=>?_)
   ·refine wJ hF (fun x28=>[(2,.v (.bool x28))]) (fun x28 hF=>?_) fun _ hj26 hF=>?_
    ·exact wm hΦ hF
    refine wG hF (fun h29 hF=>?_) fun h29 hF=>?_
    ·try simp[go_sem,g,h29]
     refine wG hF (fun h30 hF=>?_) fun h30 hF=>?_
     ·exact wV h30 (hj26 _) (zaa hF)
     exact wV h30 (hj26 _) (zaa hF)
    exact wV h29 (hj26 _) (zaa hF)
   cases hΦ _ (zaa hF)
   iterate 2 refine wW ?_
   try simp[go_sem,g]
  refine wI hF (fun h9 hF=>?_) (fun h9 hF=>?_)
  ·exact wT (hj6 _) (zaa hF)
  exact wT (hj6 _) (zaa hF)
 refine wG hF (fun h4 hF=>?_) fun h4 hF=>?_
 ·exact wV h4 (hj1 _) (zaa hF)
 exact wV h4 (hj1 _) (zaa hF)
def zaE (a0:Contest):Option Int:=
 if(a0.Kind==2)=true then(
 some (i64.wrap (a0.Points+1)))else(
 if(a0.Kind==3)=true then(
 some (i64.wrap (a0.Options+1)))else(
 if(a0.Kind==4)=true then(
 some 27)else(
 some 2)))
theorem zhx:∀{a0}{r},zaE a0=some r→PCalls Tryz.prog 143 [(.sh,vE a0)] (Eo (.int .i64 r) [.junk]):=by
 intro a0 r hr
 apply pF 17 [] [] [] [.tmp 2] hr zA7 Tryz.func143
 intro Φ hΦ hF g
 unfold zaE at hF
 iterate 2 refine wW ?_
 refine wB ?_
 refine wW ?_
 refine wI hF (fun h1 hF=>?_) (fun h1 hF=>?_)
 ·refine wK [2] ?_
  exact wm hΦ hF
 refine wW ?_
 refine wI hF (fun h2 hF=>?_) (fun h2 hF=>?_)
 ·refine wK [2] ?_
  exact wm hΦ hF
 refine wK [15] ?_
 refine wI hF (fun h3 hF=>?_) (fun h3 hF=>?_)
 ·exact wl hΦ hF
 cases hΦ _ (zaa hF)
 iterate 2 refine wW ?_
 try simp[go_sem,g]
def zeK (a0:List Int) (a1:Int):Option Int:=
 ((zaL (σ:=Int×Int) (fun s4=>
 if decide (0≤s4.2)=true then(
 (ix a0 s4.2).bind fun x10=>
 some (.go (i64.wrap ((i64.wrap (s4.1*a1))+x10),i64.wrap (s4.2-1))))else(
 some (.out s4.1))) (0,i64.wrap ((a0.length:Int)-1)):Option Int).bind fun x3=>
 some x3)
theorem zkH:∀{a0}{a1}{r},zeK a0 a1=some r→PCalls Tryz.prog 142 [(.sh,vA a0),(.sh,.int .i64 a1)] (Eo (.int .i64 r) [.junk,.junk]):=by
 intro a0 a1 r hr
 apply pF 23 [] [] [] [.tmp 4] hr zCw Tryz.func142
 intro Φ hΦ hF g
 unfold zeK at hF
 iterate 3 (try simp[go_sem,g];try intros;refine zal ?_)
 refine wJ hF (fun x3=>[(5,.v (.int .i64 x3))]) (fun x3 hF=>?_) fun _ hj1 hF=>?_
 ·exact wl hΦ hF
 refine wB ?_
 obtain⟨b11,hb12,hψ8⟩:=hF
 refine pL hb12 (fun s4=>[(0,.v (vA a0)),(1,.v (.int .i64 a1)),(5,.v (.int .i64 s4.1)),(6,.v (.int .i64 s4.2))]) (fun s4 _ _ ho6 hg7 hF=>?_)
 refine wW ?_
 refine wI hF (fun h9 hF=>?_) (fun h9 hF=>?_)
 ·refine wW ?_
  refine wB ?_
  obtain⟨x10,g,hF⟩:=Rx g hF
  refine wK [0,1,5,6] ?_
  exact wT (hg7 _) (zaa hF)
 cases ho6 _ (zaa hF)
 exact wT (hj1 _) hψ8
def zbU (a0:Contest):Option Int:=
 ((if(a0.Kind==1)=true then(
 zaL (σ:=(List Int)×Int) (fun s5=>
 if decide (s5.2<a0.Options)=true then(
 ((if decide ((i64.wrap (a0.Options-a0.Most))≤s5.2)=true then(
 some 1)else(
 some 0):Option Int).bind fun x13=>
 gd ((s5.1.length+1)*8≤140737488355328∧s5.1.length+1≤4611686018427387904)<|
 some (.go (s5.1++[x13],i64.wrap (s5.2+1)))))else(
 some (.out s5.1))) ([],0))else(
 if(a0.Kind==2)=true then(
 gd (0≤a0.Options∧a0.Options≤a0.Options∧8*a0.Options≤140737488355328∧a0.Options≤4611686018427387904)<|
 (some (List.replicate a0.Options.toNat 0)).bind fun x18=>
 zaL (σ:=(List Int)×Int×Int) (fun s29=>
 if decide (0≤s29.2.2)=true then(
 (ix s29.1 s29.2.2).bind fun x35=>
 (ix (s29.1.set s29.2.2.toNat (if a0.Points<s29.2.1 then a0.Points else s29.2.1)) s29.2.2).bind fun x36=>
 some (.go (s29.1.set s29.2.2.toNat (if a0.Points<s29.2.1 then a0.Points else s29.2.1),i64.wrap (s29.2.1-x36),i64.wrap (s29.2.2-1))))else(
 some (.out s29.1))) (x18,a0.Most,i64.wrap (a0.Options-1)))else(
 if(a0.Kind==3)=true then(
 zaL (σ:=(List Int)×Int) (fun s40=>
 if decide (s40.2<a0.Most)=true then(
 gd ((s40.1.length+1)*8≤140737488355328∧s40.1.length+1≤4611686018427387904)<|
 some (.go (s40.1++[i64.wrap ((i64.wrap ((i64.wrap (a0.Options-a0.Most))+1))+s40.2)],i64.wrap (s40.2+1))))else(
 some (.out s40.1))) ([],0))else(
 zaL (σ:=(List Int)×Int) (fun s48=>
 if decide (s48.2<a0.Most)=true then(
 gd ((s48.1.length+1)*8≤140737488355328∧s48.1.length+1≤4611686018427387904)<|
 some (.go (s48.1++[26],i64.wrap (s48.2+1))))else(
 some (.out s48.1))) ([],0)))):Option ((List Int))).bind fun x3=>
 (zaE a0).bind fun z56=>
 (zeK x3 z56).bind fun z57=>
 some z57)
theorem zgv:∀{a0}{r},zbU a0=some r→PCalls Tryz.prog 93 [(.sh,vE a0)] (Eo (.int .i64 r) [.junk]):=by
 intro a0 r hr
 apply pF 89 [] [] [] [.tmp 2] hr zFB Tryz.func93
 intro Φ hΦ hF g
 unfold zbU at hF
 iterate 3 refine wW ?_
 refine wJ hF (fun x3=>[(1,.bl [.int .i64 a0.Kind,.int .i64 a0.Options,.int .i64 a0.Least,.int .i64 a0.Most,.int .i64 a0.Points]),(3,.v (vF x3))]) (fun x3 hF=>?_) fun _ hj1 hF=>?_
 ·refine wC hF [.sh] zhx (fun z56 hF=>?_)
  refine wC hF [.sh,.sh] zkH (fun z57 hF=>?_)
  refine wK [2] ?_
  exact wm hΦ hF
 refine wB ?_
 refine wW ?_
 refine wI hF (fun h4 hF=>?_) (fun h4 hF=>?_)
 ·refine wK [1,3,23,24] ?_
  refine wB ?_
  obtain⟨b15,hb16,hψ9⟩:=hF
  refine pL hb16 (fun s5=>[(1,.bl [.int .i64 a0.Kind,.int .i64 a0.Options,.int .i64 a0.Least,.int .i64 a0.Most,.int .i64 a0.Points]),(3,.v (vF s5.1)),(23,.v (.int .i64 a0.Options)),(24,.v (.int .i64 s5.2))]) (fun s5 _ _ ho7 hg8 hF=>?_)
  refine wW ?_
  refine wI hF (fun h10 hF=>?_) (fun h10 hF=>?_)
  ·refine wW ?_
   refine wB ?_
   iterate 2 refine wW ?_
   refine wK [1,3,5,23,24,33] ?_
   refine wJ hF (fun x13=>[(1,.bl [.int .i64 a0.Kind,.int .i64 a0.Options,.int .i64 a0.Least,.int .i64 a0.Most,.int .i64 a0.Points]),(3,.v (vF s5.1)),(5,.v (.int .i64 x13)),(23,.v (.int .i64 a0.Options)),(24,.v (.int .i64 s5.2))]) (fun x13 hF=>?_) fun _ hj11 hF=>?_
   ·obtain⟨g,hF⟩:=Rg g hF
    refine wW ?_
    exact wT (hg8 _) (zaa hF)
   refine wI hF (fun h14 hF=>?_) (fun h14 hF=>?_)
   ·exact wT (hj11 _) (zaa hF)
   exact wT (hj11 _) (zaa hF)
  cases ho7 _ (zaa hF)
  exact wT (hj1 _) hψ9
 refine wK [1,3,11,39] ?_
 refine wI hF (fun h17 hF=>?_) (fun h17 hF=>?_)
 ·obtain⟨g,hF⟩:=Rg g hF
  obtain⟨x18,e19,hF⟩:=zdV hF
  have g20:List.replicate a0.Options.toNat ([.int .i64 0]:List PV)=x18.map zaf:=by injection e19 with e19;rw[←e19];simp[go_sem]
  iterate 2 (try simp[go_sem,g,g20];refine zal ?_)
  try simp[go_sem,g,g20]
  refine wK [1,3,6,7] ?_
  refine wB ?_
  obtain⟨b37,hb38,hψ33⟩:=hF
  refine pL hb38 (fun s29=>[(1,.bl [.int .i64 a0.Kind,.int .i64 a0.Options,.int .i64 a0.Least,.int .i64 a0.Most,.int .i64 a0.Points]),(3,.v (vF s29.1)),(6,.v (.int .i64 s29.2.1)),(7,.v (.int .i64 s29.2.2))]) (fun s29 _ _ ho31 hg32 hF=>?_)
  refine wW ?_
  refine wI hF (fun h34 hF=>?_) (fun h34 hF=>?_)
  ·refine wW ?_
   refine wB ?_
   obtain⟨x35,g,hF⟩:=Rx g hF
   refine wK [1,3,6,7] ?_
   obtain⟨x36,g,hF⟩:=Rx g hF
   try simp only[List.length_set]at g
   refine wW ?_
   exact wT (hg32 _) (zaa hF)
  cases ho31 _ (zaa hF)
  exact wT (hj1 _) hψ33
 refine wW ?_
 refine wI hF (fun h39 hF=>?_) (fun h39 hF=>?_)
 ·refine wW ?_
  refine wB ?_
  obtain⟨b46,hb47,hψ44⟩:=hF
  refine pL hb47 (fun s40=>[(1,.bl [.int .i64 a0.Kind,.int .i64 a0.Options,.int .i64 a0.Least,.int .i64 a0.Most,.int .i64 a0.Points]),(3,.v (vF s40.1)),(69,.v (.int .i64 a0.Most)),(70,.v (.int .i64 s40.2))]) (fun s40 _ _ ho42 hg43 hF=>?_)
  refine wW ?_
  refine wI hF (fun h45 hF=>?_) (fun h45 hF=>?_)
  ·refine wW ?_
   refine wB ?_
   obtain⟨g,hF⟩:=Rg g hF
   refine wW ?_
   refine wK [1,3,69,70] ?_
   exact wT (hg43 _) (zaa hF)
  cases ho42 _ (zaa hF)
  exact wT (hj1 _) hψ44
 refine wW ?_
 refine wB ?_
 obtain⟨b54,hb55,hψ52⟩:=hF
 refine pL hb55 (fun s48=>[(1,.bl [.int .i64 a0.Kind,.int .i64 a0.Options,.int .i64 a0.Least,.int .i64 a0.Most,.int .i64 a0.Points]),(3,.v (vF s48.1)),(13,.v (.int .i64 a0.Most)),(14,.v (.int .i64 s48.2))]) (fun s48 _ _ ho50 hg51 hF=>?_)
 refine wW ?_
 refine wI hF (fun h53 hF=>?_) (fun h53 hF=>?_)
 ·refine wW ?_
  refine wB ?_
  obtain⟨g,hF⟩:=Rg g hF
  refine wK [1,3,13,14] ?_
  exact wT (hg51 _) (zaa hF)
 cases ho50 _ (zaa hF)
 exact wT (hj1 _) hψ52
def zbQ (a0:Contest):Option Bool:=
 ((if(a0.Kind==1)=true then(
 some true)else(
 some (a0.Kind==2)):Option Bool).bind fun x3=>
 some x3)
theorem zff:∀{a0}{r},zbQ a0=some r→PCalls Tryz.prog 48 [(.sh,vE a0)] (Eo (.bool r) [.junk]):=by
 intro a0 r hr
 apply pF 11 [] [] [] [.tmp 2] hr zId Tryz.func48
 intro Φ hΦ hF g
 unfold zbQ at hF
 refine wW ?_
 refine wJ hF (fun x3=>[(2,.v (.bool x3))]) (fun x3 hF=>?_) fun _ hj1 hF=>?_
 ·exact wm hΦ hF
 refine wG hF (fun h4 hF=>?_) fun h4 hF=>?_
 ·exact wV h4 (hj1 _) (zaa hF)
 exact wV h4 (hj1 _) (zaa hF)
@[go_sem] def zCO:List DE:=[d2 0 [2] 2 2,d3 1 [5],d0 2 [6],d0 3 [7],d2 4 [3,8] 3 3,d3 5 [9,8],d0 6 [10,8],d0 7 [8,11],d0 8 [12],d2 9 [3,13] 3 3,d3 10 [14,13],d0 11 [15,13],d0 12 [13,16],d0 13 [17],d2 14 [3,18] 3 3,d1 16 [2,18] 2,d2 17 [21,18] 2 21,d3 15 [19,18],d0 18 [20,22,18],d0 19 [18,23]]
def zdh (a0:Group) (a1:Contest):Option Bool:=
 (((zbI a0).bind fun z4=>
 if(!z4)=true then(
 some true)else(
 (zcd a1).bind fun z6=>
 if(!z6)=true then(
 some true)else(
 (zbU a1).bind fun z8=>
 if decide (100000<z8)=true then(
 some true)else(
 (zbU a1).bind fun z10=>
 some (decide (a0.Q≤z10))))):Option Bool).bind fun x3=>
 if x3=true then(
 some false)else(
 (((zbQ a1).bind fun z15=>
 if(!z15)=true then(
 some true)else(
 if decide ((i64.wrap (a1.Most-a1.Least))<8)=true then(
 some (decide (a1.Most<a0.Q)))else(
 some false)):Option Bool).bind fun x14=>
 some x14)))
theorem zii:∀{a0}{a1}{r},zdh a0 a1=some r→PCalls Tryz.prog 40 [(.sh,vD a0),(.sh,vE a1)] (Eo (.bool r) [.junk,.junk]):=by
 intro a0 a1 r hr
 apply pF 43 [] [] [] [.tmp 4] hr zGt Tryz.func40
 intro Φ hΦ hF g
 unfold zdh at hF
 refine wW ?_
 refine wJ hF (fun x3=>[(2,.bl [.int .i64 a0.P,.int .i64 a0.Q,.int .i64 a0.G]),(3,.bl [.int .i64 a1.Kind,.int .i64 a1.Options,.int .i64 a1.Least,.int .i64 a1.Most,.int .i64 a1.Points]),(24,.v (.bool x3))]) (fun x3 hF=>?_) fun _ hj1 hF=>?_
 ·refine wI hF (fun h11 hF=>?_) (fun h11 hF=>?_)
  ·exact wl hΦ hF
  refine wW ?_
  refine wJ hF (fun x14=>[(4,.v (.bool x14))]) (fun x14 hF=>?_) fun _ hj12 hF=>?_
  ·exact wm hΦ hF
  refine wC hF [.sh] zff (fun z15 hF=>?_)
  refine wG hF (fun h16 hF=>?_) fun h16 hF=>?_
  ·exact wV h16 (hj12 _) (zaa hF)
  try simp[go_sem,g,h16]
  refine wG hF (fun h17 hF=>?_) fun h17 hF=>?_
  ·try simp[go_sem,g,h17,h16]
   exact wT (hj12 _) (zaa hF)
  try simp[go_sem,g,h17,h16]
  exact wT (hj12 _) (zaa hF)
 refine wX zCO follows ?_
 refine wC hF [.sh] zeF (fun z4 hF=>?_)
 refine wH hF (fun h5 hF=>?_) fun h5 hF=>?_
 ·exact wV h5 (hj1 _) (zaa hF)
 try simp[go_sem,g,h5]
 refine wC hF [.sh] zj2 (fun z6 hF=>?_)
 try simp[go_sem,g,h5]
 refine wH hF (fun h7 hF=>?_) fun h7 hF=>?_
 ·exact wV h7 (hj1 _) (zaa hF)
 try simp[go_sem,g,h7]
 refine wC hF [.sh] zgv (fun z8 hF=>?_)
 try simp[go_sem,g,h7]
 refine wH hF (fun h9 hF=>?_) fun h9 hF=>?_
 ·exact wV h9 (hj1 _) (zaa hF)
 try simp[go_sem,g,h9]
 refine wC hF [.sh] zgv (fun z10 hF=>?_)
 exact wV h9 (hj1 _) (zaa hF)
def zcR (a0:Group) (a1:Int):Option Bool:=
 (((zax a1 1 (i64.wrap (a0.P-1))).bind fun z4=>
 if z4=true then(
 (zdS a1 a0.Q a0.P).bind fun z6=>
 some (z6==1))else(
 some false):Option Bool).bind fun x3=>
 some x3)
theorem zgR:∀{a0}{a1}{r},zcR a0 a1=some r→PCalls Tryz.prog 41 [(.sh,vD a0),(.sh,.int .i64 a1)] (Eo (.bool r) [.junk,.junk]):=by
 intro a0 a1 r hr
 apply pF 19 [] [] [] [.tmp 4] hr zGv Tryz.func41
 intro Φ hΦ hF g
 unfold zcR at hF
 refine wW ?_
 refine wJ hF (fun x3=>[(4,.v (.bool x3))]) (fun x3 hF=>?_) fun _ hj1 hF=>?_
 ·exact wm hΦ hF
 refine wC hF [.sh,.sh,.sh] zaU (fun z4 hF=>?_)
 refine wG hF (fun h5 hF=>?_) fun h5 hF=>?_
 ·try simp[go_sem,g,h5]
  refine wC hF [.sh,.sh,.sh] ziP (fun z6 hF=>?_)
  exact wV h5 (hj1 _) (zaa hF)
 exact wV h5 (hj1 _) (zaa hF)
def zer (a0:Int):Option Bool:=
 (zax a0 0 999999).bind fun z1=>
 some z1
theorem zjU:∀{a0}{r},zer a0=some r→PCalls Tryz.prog 42 [(.sh,.int .i64 a0)] (Eo (.bool r) [.junk]):=by
 intro a0 r hr
 apply pF 5 [] [] [] [.tmp 2] hr zIm Tryz.func42
 intro Φ hΦ hF g
 unfold zer at hF
 refine wW ?_
 refine wC hF [.sh,.sh,.sh] zaU (fun z1 hF=>?_)
 exact wl hΦ hF
def zde (a0:Int) (a1c0:Int) (a1c1:Int) (a1c2:Int) (a1c3:Int) (a1c4:Int):Option Bool:=
 (zax a0 0 a1c4).bind fun z1=>
 some z1
theorem zi6:∀{a0}{a1c0}{a1c1}{a1c2}{a1c3}{a1c4}{r},zde a0 a1c0 a1c1 a1c2 a1c3 a1c4=some r→PCalls Tryz.prog 97 [(.sh,.int .i64 a0),(.sh,.fp [.int .i64 a1c0,.int .i64 a1c1,.int .i64 a1c2,.int .i64 a1c3,.int .i64 a1c4])] (Eo (.bool r) [.junk,.junk]):=by
 intro a0 a1c0 a1c1 a1c2 a1c3 a1c4 r hr
 apply pF 8 [] [] [] [.tmp 3] hr zGL Tryz.func97
 intro Φ hΦ hF g
 unfold zde at hF
 refine wW ?_
 refine wC hF [.sh,.sh,.sh] zaU (fun z1 hF=>?_)
 exact wl hΦ hF
def za6 (a0:Int) (a1c0u0c0:Int) (a1c0u0c1:Int) (a1c0u0c2:Int) (a1c0u0c3:Int) (a1c0u0c4:Int):Option Bool:=
 (zde a0 a1c0u0c0 a1c0u0c1 a1c0u0c2 a1c0u0c3 a1c0u0c4).bind fun z1=>
 some (!z1)
theorem zf0:∀{a0}{a1c0u0c0}{a1c0u0c1}{a1c0u0c2}{a1c0u0c3}{a1c0u0c4}{r},za6 a0 a1c0u0c0 a1c0u0c1 a1c0u0c2 a1c0u0c3 a1c0u0c4=some r→PCalls Tryz.prog 145 [(.sh,.int .i64 a0),(.sh,.fp [.func (.func 97) [] [.fp [.int .i64 a1c0u0c0,.int .i64 a1c0u0c1,.int .i64 a1c0u0c2,.int .i64 a1c0u0c3,.int .i64 a1c0u0c4]]])] (Eo (.bool r) [.junk,.junk]):=by
 intro a0 a1c0u0c0 a1c0u0c1 a1c0u0c2 a1c0u0c3 a1c0u0c4 r hr
 apply pF 8 [] [] [] [.tmp 3] hr zny Tryz.func145
 intro Φ hΦ hF g
 unfold za6 at hF
 refine wW ?_
 refine wC hF [.sh] zi6 (fun z1 hF=>?_)
 exact wl hΦ hF
def zaR (a0:List Int) (a1u0c0u0c0:Int) (a1u0c0u0c1:Int) (a1u0c0u0c2:Int) (a1u0c0u0c3:Int) (a1u0c0u0c4:Int):Option Int:=
 ((zak (σ:=Unit) (fun i5 s4=>
 (ix a0 i5).bind fun x11=>
 (za6 x11 a1u0c0u0c0 a1u0c0u0c1 a1u0c0u0c2 a1u0c0u0c3 a1u0c0u0c4).bind fun z12=>
 if z12=true then(
 some (.out (.inr i5)))else(
 some (.go ()))) (fun s4=>.inl ()) (a0.length) 0 ():Option (Unit ⊕ Int)).bind (Sum.elim (fun x3=>
 some (-1)) some))
theorem zcW:∀{a0}{a1u0c0u0c0}{a1u0c0u0c1}{a1u0c0u0c2}{a1u0c0u0c3}{a1u0c0u0c4}{r},zaR a0 a1u0c0u0c0 a1u0c0u0c1 a1u0c0u0c2 a1u0c0u0c3 a1u0c0u0c4=some r→PCalls Tryz.prog 170 [(.sh,vA a0),(.sh,.func (.func 145) [] [.fp [.func (.func 97) [] [.fp [.int .i64 a1u0c0u0c0,.int .i64 a1u0c0u0c1,.int .i64 a1u0c0u0c2,.int .i64 a1u0c0u0c3,.int .i64 a1u0c0u0c4]]]])] (Eo (.int .i64 r) [.junk,.junk]):=by
 intro a0 a1u0c0u0c0 a1u0c0u0c1 a1u0c0u0c2 a1u0c0u0c3 a1u0c0u0c4 r hr
 apply pF 19 [] [] [] [.tmp 4] hr znG Tryz.func170
 intro Φ hΦ hF g
 unfold zaR at hF
 iterate 2 (try simp[go_sem,g];try intros;refine zal ?_)
 refine wS hF (fun x3=>[]) (fun x3 hF=>?_) fun _ hj1 hr2 hF=>?_
 ·exact wl hΦ hF
 refine wB ?_
 obtain⟨b14,hb15,hψ8⟩:=hF
 refine pR hb15 (fun i5 s4=>[(0,.v (vA a0)),(1,.v (.func (.func 145) [] [.fp [.func (.func 97) [] [.fp [.int .i64 a1u0c0u0c0,.int .i64 a1u0c0u0c1,.int .i64 a1u0c0u0c2,.int .i64 a1u0c0u0c3,.int .i64 a1u0c0u0c4]]]])),(7,.v (.int .i64 (a0.length:Int))),(8,.v (.int .i64 i5))]) (fun s4 _ hN16=>?_) (fun i5 s4 _ _ hi9 hi10 ho6 hg7 hF=>?_)
 ·exact wn hN16 (hj1 _) hψ8
 refine wW ?_
 refine wu hi9 hi10 ?_
 refine wW ?_
 refine wB ?_
 obtain⟨x11,g,hF⟩:=Rx g hF
 refine wW ?_
 refine wC hF [.sh] zf0 (fun z12 hF=>?_)
 refine wK [0,1,5,7,8,16] ?_
 refine wI hF (fun h13 hF=>?_) (fun h13 hF=>?_)
 ·cases ho6 _ (zaa hF)
  cases hΦ _ (hr2 _ hψ8)
  refine wW ?_
  try simp[go_sem,g]
 refine wW ?_
 exact wi hi9 hi10 (hg7 _) (zaa hF)
def zaM (a0:List Int) (a1u0c0u0c0:Int) (a1u0c0u0c1:Int) (a1u0c0u0c2:Int) (a1u0c0u0c3:Int) (a1u0c0u0c4:Int):Option Bool:=
 (zaR a0 a1u0c0u0c0 a1u0c0u0c1 a1u0c0u0c2 a1u0c0u0c3 a1u0c0u0c4).bind fun z1=>
 some (decide (0≤z1))
theorem zcK:∀{a0}{a1u0c0u0c0}{a1u0c0u0c1}{a1u0c0u0c2}{a1u0c0u0c3}{a1u0c0u0c4}{r},zaM a0 a1u0c0u0c0 a1u0c0u0c1 a1u0c0u0c2 a1u0c0u0c3 a1u0c0u0c4=some r→PCalls Tryz.prog 144 [(.sh,vA a0),(.sh,.func (.func 145) [] [.fp [.func (.func 97) [] [.fp [.int .i64 a1u0c0u0c0,.int .i64 a1u0c0u0c1,.int .i64 a1u0c0u0c2,.int .i64 a1u0c0u0c3,.int .i64 a1u0c0u0c4]]]])] (Eo (.bool r) [.junk,.junk]):=by
 intro a0 a1u0c0u0c0 a1u0c0u0c1 a1u0c0u0c2 a1u0c0u0c3 a1u0c0u0c4 r hr
 apply pF 9 [] [] [] [.tmp 4] hr zn5 Tryz.func144
 intro Φ hΦ hF g
 unfold zaM at hF
 refine wW ?_
 refine wC hF [.sh,.sh] zcW (fun z1 hF=>?_)
 exact wl hΦ hF
def zbC (a0:List Int) (a1u0c0:Int) (a1u0c1:Int) (a1u0c2:Int) (a1u0c3:Int) (a1u0c4:Int):Option Bool:=
 (zaM a0 a1u0c0 a1u0c1 a1u0c2 a1u0c3 a1u0c4).bind fun z1=>
 some (!z1)
theorem zgl:∀{a0}{a1u0c0}{a1u0c1}{a1u0c2}{a1u0c3}{a1u0c4}{r},zbC a0 a1u0c0 a1u0c1 a1u0c2 a1u0c3 a1u0c4=some r→PCalls Tryz.prog 96 [(.sh,vA a0),(.sh,.func (.func 97) [] [.fp [.int .i64 a1u0c0,.int .i64 a1u0c1,.int .i64 a1u0c2,.int .i64 a1u0c3,.int .i64 a1u0c4]])] (Eo (.bool r) [.junk,.junk]):=by
 intro a0 a1u0c0 a1u0c1 a1u0c2 a1u0c3 a1u0c4 r hr
 apply pF 9 [] [] [1000000] [.tmp 4] hr zpU Tryz.func96
 intro Φ hΦ hF g
 unfold zbC at hF
 refine wW ?_
 refine wC hF [.sh,.sh] zcK (fun z1 hF=>?_)
 exact wl hΦ hF
def zdd (a0:Int) (a1c0:Int) (a2c0:Int):Option Bool:=
 (zax a0 a1c0 a2c0).bind fun z1=>
 some z1
theorem zi2:∀{a0}{a1c0}{a2c0}{r},zdd a0 a1c0 a2c0=some r→PCalls Tryz.prog 98 [(.sh,.int .i64 a0),(.sh,.fp [.int .i64 a1c0]),(.sh,.fp [.int .i64 a2c0])] (Eo (.bool r) [.junk,.junk,.junk]):=by
 intro a0 a1c0 a2c0 r hr
 apply pF 9 [] [] [] [.tmp 4] hr zIF Tryz.func98
 intro Φ hΦ hF g
 unfold zdd at hF
 refine wW ?_
 refine wC hF [.sh,.sh,.sh] zaU (fun z1 hF=>?_)
 exact wl hΦ hF
def za7 (a0:Int) (a1c0u0c0:Int) (a1c0u1c0:Int):Option Bool:=
 (zdd a0 a1c0u0c0 a1c0u1c0).bind fun z1=>
 some (!z1)
theorem zfX:∀{a0}{a1c0u0c0}{a1c0u1c0}{r},za7 a0 a1c0u0c0 a1c0u1c0=some r→PCalls Tryz.prog 145 [(.sh,.int .i64 a0),(.sh,.fp [.func (.func 98) [] [.fp [.int .i64 a1c0u0c0],.fp [.int .i64 a1c0u1c0]]])] (Eo (.bool r) [.junk,.junk]):=by
 intro a0 a1c0u0c0 a1c0u1c0 r hr
 apply pF 8 [] [] [] [.tmp 3] hr zny Tryz.func145
 intro Φ hΦ hF g
 unfold za7 at hF
 refine wW ?_
 refine wC hF [.sh] zi2 (fun z1 hF=>?_)
 exact wl hΦ hF
def zaS (a0:List Int) (a1u0c0u0c0:Int) (a1u0c0u1c0:Int):Option Int:=
 ((zak (σ:=Unit) (fun i5 s4=>
 (ix a0 i5).bind fun x11=>
 (za7 x11 a1u0c0u0c0 a1u0c0u1c0).bind fun z12=>
 if z12=true then(
 some (.out (.inr i5)))else(
 some (.go ()))) (fun s4=>.inl ()) (a0.length) 0 ():Option (Unit ⊕ Int)).bind (Sum.elim (fun x3=>
 some (-1)) some))
theorem zcS:∀{a0}{a1u0c0u0c0}{a1u0c0u1c0}{r},zaS a0 a1u0c0u0c0 a1u0c0u1c0=some r→PCalls Tryz.prog 170 [(.sh,vA a0),(.sh,.func (.func 145) [] [.fp [.func (.func 98) [] [.fp [.int .i64 a1u0c0u0c0],.fp [.int .i64 a1u0c0u1c0]]]])] (Eo (.int .i64 r) [.junk,.junk]):=by
 intro a0 a1u0c0u0c0 a1u0c0u1c0 r hr
 apply pF 19 [] [] [] [.tmp 4] hr znG Tryz.func170
 intro Φ hΦ hF g
 unfold zaS at hF
 iterate 2 (try simp[go_sem,g];try intros;refine zal ?_)
 refine wS hF (fun x3=>[]) (fun x3 hF=>?_) fun _ hj1 hr2 hF=>?_
 ·exact wl hΦ hF
 refine wB ?_
 obtain⟨b14,hb15,hψ8⟩:=hF
 refine pR hb15 (fun i5 s4=>[(0,.v (vA a0)),(1,.v (.func (.func 145) [] [.fp [.func (.func 98) [] [.fp [.int .i64 a1u0c0u0c0],.fp [.int .i64 a1u0c0u1c0]]]])),(7,.v (.int .i64 (a0.length:Int))),(8,.v (.int .i64 i5))]) (fun s4 _ hN16=>?_) (fun i5 s4 _ _ hi9 hi10 ho6 hg7 hF=>?_)
 ·exact wn hN16 (hj1 _) hψ8
 refine wW ?_
 refine wu hi9 hi10 ?_
 refine wW ?_
 refine wB ?_
 obtain⟨x11,g,hF⟩:=Rx g hF
 refine wW ?_
 refine wC hF [.sh] zfX (fun z12 hF=>?_)
 refine wK [0,1,5,7,8,16] ?_
 refine wI hF (fun h13 hF=>?_) (fun h13 hF=>?_)
 ·cases ho6 _ (zaa hF)
  cases hΦ _ (hr2 _ hψ8)
  refine wW ?_
  try simp[go_sem,g]
 refine wW ?_
 exact wi hi9 hi10 (hg7 _) (zaa hF)
def zaN (a0:List Int) (a1u0c0u0c0:Int) (a1u0c0u1c0:Int):Option Bool:=
 (zaS a0 a1u0c0u0c0 a1u0c0u1c0).bind fun z1=>
 some (decide (0≤z1))
theorem zcI:∀{a0}{a1u0c0u0c0}{a1u0c0u1c0}{r},zaN a0 a1u0c0u0c0 a1u0c0u1c0=some r→PCalls Tryz.prog 144 [(.sh,vA a0),(.sh,.func (.func 145) [] [.fp [.func (.func 98) [] [.fp [.int .i64 a1u0c0u0c0],.fp [.int .i64 a1u0c0u1c0]]]])] (Eo (.bool r) [.junk,.junk]):=by
 intro a0 a1u0c0u0c0 a1u0c0u1c0 r hr
 apply pF 9 [] [] [] [.tmp 4] hr zn5 Tryz.func144
 intro Φ hΦ hF g
 unfold zaN at hF
 refine wW ?_
 refine wC hF [.sh,.sh] zcS (fun z1 hF=>?_)
 exact wl hΦ hF
def zbD (a0:List Int) (a1u0c0:Int) (a1u1c0:Int):Option Bool:=
 (zaN a0 a1u0c0 a1u1c0).bind fun z1=>
 some (!z1)
theorem zge:∀{a0}{a1u0c0}{a1u1c0}{r},zbD a0 a1u0c0 a1u1c0=some r→PCalls Tryz.prog 96 [(.sh,vA a0),(.sh,.func (.func 98) [] [.fp [.int .i64 a1u0c0],.fp [.int .i64 a1u1c0]])] (Eo (.bool r) [.junk,.junk]):=by
 intro a0 a1u0c0 a1u1c0 r hr
 apply pF 9 [] [] [1000000] [.tmp 4] hr zpU Tryz.func96
 intro Φ hΦ hF g
 unfold zbD at hF
 refine wW ?_
 refine wC hF [.sh,.sh] zcI (fun z1 hF=>?_)
 exact wl hΦ hF
def ze3 (a0:Int):Option Bool:=
 some (a0 !=a0)
theorem zje:∀{a0}{r},ze3 a0=some r→PCalls Tryz.prog 171 [(.sh,.int .i64 a0)] (Eo (.bool r) [.junk]):=by
 intro a0 r hr
 apply pF 6 [] [] [] [.tmp 2] hr zCG Tryz.func171
 intro Φ hΦ hF g
 unfold ze3 at hF
 cases hΦ _ (zaa hF)
 iterate 2 refine wW ?_
 try simp[go_sem,g]
def zfk (a0:Int) (a1:Int):Option Bool:=
 (((ze3 a0).bind fun z4=>
 if z4=true then(
 (ze3 a1).bind fun z6=>
 if(!z6)=true then(
 some true)else(
 some (decide (a0<a1))))else(
 some (decide (a0<a1))):Option Bool).bind fun x3=>
 some x3)
theorem zom:∀{a0}{a1}{r},zfk a0 a1=some r→PCalls Tryz.prog 146 [(.sh,.int .i64 a0),(.sh,.int .i64 a1)] (Eo (.bool r) [.junk,.junk]):=by
 intro a0 a1 r hr
 apply pF 17 [] [] [] [.tmp 4] hr zDi Tryz.func146
 intro Φ hΦ hF g
 unfold zfk at hF
 refine wW ?_
 refine wJ hF (fun x3=>[(4,.v (.bool x3))]) (fun x3 hF=>?_) fun _ hj1 hF=>?_
 ·exact wm hΦ hF
 refine wC hF [.sh] zje (fun z4 hF=>?_)
 refine wG hF (fun h5 hF=>?_) fun h5 hF=>?_
 ·try simp[go_sem,g,h5]
  refine wC hF [.sh] zje (fun z6 hF=>?_)
  try simp[go_sem,g,h5]
  refine wG hF (fun h7 hF=>?_) fun h7 hF=>?_
  ·exact wV h7 (hj1 _) (zaa hF)
  exact wV h7 (hj1 _) (zaa hF)
 exact wV h5 (hj1 _) (zaa hF)
@[go_sem] def zB6:List DE:=[d0 0 [0],d0 1 [3],d0 2 [11,12],d0 3 [13],d0 4 [0],d0 5 [3],d0 6 [16],d0 7 [15,17],d0 8 [18],d3 9 [14,19]]
def zca (a0:List Int):Option Bool:=
 ((zaL (σ:=Int) (fun s4=>
 if decide (0<s4)=true then(
 (ix a0 s4).bind fun x10=>
 (ix a0 (i64.wrap (s4-1))).bind fun x11=>
 (zfk x10 x11).bind fun z12=>
 if z12=true then(
 some (.out (.inr false)))else(
 some (.go (i64.wrap (s4-1)))))else(
 some (.out (.inl ())))) (i64.wrap ((a0.length:Int)-1)):Option (Unit ⊕ Bool)).bind (Sum.elim (fun x3=>
 some true) some))
theorem zil:∀{a0}{r},zca a0=some r→PCalls Tryz.prog 99 [(.sh,vA a0)] (Eo (.bool r) [.junk]):=by
 intro a0 r hr
 apply pF 21 [] [] [] [.tmp 2] hr zHl Tryz.func99
 intro Φ hΦ hF g
 unfold zca at hF
 iterate 2 (try simp[go_sem,g];try intros;refine zal ?_)
 refine wS hF (fun x3=>[]) (fun x3 hF=>?_) fun _ hj1 hr2 hF=>?_
 ·exact wl hΦ hF
 refine wB ?_
 obtain⟨b14,hb15,hψ8⟩:=hF
 refine pL hb15 (fun s4=>[(0,.v (vA a0)),(3,.v (.int .i64 s4))]) (fun s4 _ _ ho6 hg7 hF=>?_)
 refine wW ?_
 refine wI hF (fun h9 hF=>?_) (fun h9 hF=>?_)
 ·refine wW ?_
  refine wB ?_
  refine wX zB6 follows ?_
  obtain⟨x10,g,hF⟩:=Rx g hF
  obtain⟨x11,g,hF⟩:=Rx g hF
  refine wC hF [.sh,.sh] zom (fun z12 hF=>?_)
  refine wK [0,3,20] ?_
  refine wI hF (fun h13 hF=>?_) (fun h13 hF=>?_)
  ·cases ho6 _ (zaa hF)
   cases hΦ _ (hr2 _ hψ8)
   refine wW ?_
   try simp[go_sem,g]
  refine wW ?_
  exact wT (hg7 _) (zaa hF)
 cases ho6 _ (zaa hF)
 exact wT (hj1 _) hψ8
def zb5 (a0:List Int) (a1:Int):Option Int:=
 ((zak (σ:=Unit) (fun i5 s4=>
 (ix a0 i5).bind fun x11=>
 if(a1==x11)=true then(
 some (.out (.inr i5)))else(
 some (.go ()))) (fun s4=>.inl ()) (a0.length) 0 ():Option (Unit ⊕ Int)).bind (Sum.elim (fun x3=>
 some (-1)) some))
theorem zju:∀{a0}{a1}{r},zb5 a0 a1=some r→PCalls Tryz.prog 172 [(.sh,vA a0),(.sh,.int .i64 a1)] (Eo (.int .i64 r) [.junk,.junk]):=by
 intro a0 a1 r hr
 apply pF 19 [] [] [] [.tmp 4] hr zCE Tryz.func172
 intro Φ hΦ hF g
 unfold zb5 at hF
 iterate 2 (try simp[go_sem,g];try intros;refine zal ?_)
 refine wS hF (fun x3=>[]) (fun x3 hF=>?_) fun _ hj1 hr2 hF=>?_
 ·exact wl hΦ hF
 refine wB ?_
 obtain⟨b13,hb14,hψ8⟩:=hF
 refine pR hb14 (fun i5 s4=>[(0,.v (vA a0)),(1,.v (.int .i64 a1)),(7,.v (.int .i64 (a0.length:Int))),(8,.v (.int .i64 i5))]) (fun s4 _ hN15=>?_) (fun i5 s4 _ _ hi9 hi10 ho6 hg7 hF=>?_)
 ·exact wn hN15 (hj1 _) hψ8
 refine wW ?_
 refine wu hi9 hi10 ?_
 refine wW ?_
 refine wB ?_
 obtain⟨x11,g,hF⟩:=Rx g hF
 refine wW ?_
 refine wK [0,1,5,7,8,16] ?_
 refine wI hF (fun h12 hF=>?_) (fun h12 hF=>?_)
 ·cases ho6 _ (zaa hF)
  cases hΦ _ (hr2 _ hψ8)
  refine wW ?_
  try simp[go_sem,g]
 refine wW ?_
 exact wi hi9 hi10 (hg7 _) (zaa hF)
def zcb (a0:List Int) (a1:Int):Option Bool:=
 (zb5 a0 a1).bind fun z1=>
 some (decide (0≤z1))
theorem zis:∀{a0}{a1}{r},zcb a0 a1=some r→PCalls Tryz.prog 147 [(.sh,vA a0),(.sh,.int .i64 a1)] (Eo (.bool r) [.junk,.junk]):=by
 intro a0 a1 r hr
 apply pF 9 [] [] [] [.tmp 4] hr zBn Tryz.func147
 intro Φ hΦ hF g
 unfold zcb at hF
 refine wW ?_
 refine wC hF [.sh,.sh] zju (fun z1 hF=>?_)
 exact wl hΦ hF
def zdr (a0:List Int):Option Bool:=
 ((zak (σ:=Unit) (fun i5 s4=>
 (ix a0 i5).bind fun x11=>
 gd (0≤i5)<|
 gd (0≤i5.toNat∧i5.toNat≤a0.length)<|
 (zcb ((a0.take i5.toNat).drop 0) x11).bind fun z12=>
 if z12=true then(
 some (.out (.inr false)))else(
 some (.go ()))) (fun s4=>.inl ()) (a0.length) 0 ():Option (Unit ⊕ Bool)).bind (Sum.elim (fun x3=>
 some true) some))
theorem zhA:∀{a0}{r},zdr a0=some r→PCalls Tryz.prog 100 [(.sh,vA a0)] (Eo (.bool r) [.junk]):=by
 intro a0 r hr
 apply pF 18 [] [] [] [.tmp 2] hr zBx Tryz.func100
 intro Φ hΦ hF g
 unfold zdr at hF
 iterate 2 (try simp[go_sem,g];try intros;refine zal ?_)
 refine wS hF (fun x3=>[]) (fun x3 hF=>?_) fun _ hj1 hr2 hF=>?_
 ·exact wl hΦ hF
 refine wB ?_
 obtain⟨b14,hb15,hψ8⟩:=hF
 refine pR hb15 (fun i5 s4=>[(0,.v (vA a0)),(5,.v (vA a0)),(6,.v (.int .i64 (a0.length:Int))),(7,.v (.int .i64 i5))]) (fun s4 _ hN16=>?_) (fun i5 s4 _ _ hi9 hi10 ho6 hg7 hF=>?_)
 ·exact wn hN16 (hj1 _) hψ8
 refine wW ?_
 refine wu hi9 hi10 ?_
 refine wW ?_
 refine wB ?_
 obtain⟨x11,g,hF⟩:=Rx g hF
 refine wK [0,3,4,5,6,7] ?_
 obtain⟨g,hF⟩:=Rg g hF
 obtain⟨g,hF⟩:=Rg g hF
 refine wC hF [.sh,.sh] zis (fun z12 hF=>?_)
 refine wW ?_
 refine wI hF (fun h13 hF=>?_) (fun h13 hF=>?_)
 ·cases ho6 _ (zaa hF)
  cases hΦ _ (hr2 _ hψ8)
  refine wW ?_
  try simp[go_sem,g]
 refine wW ?_
 exact wi hi9 hi10 (hg7 _) (zaa hF)
@[go_sem] def zyn:List DE:=[d0 0 [1],d0 1 [10],d0 2 [2],d0 3 [12],d0 4 [13],d0 5 [],d0 6 [],d0 7 [11],d2 8 [6] 6 6,d2 9 [7,14] 7 7]
@[go_sem] def zCh:List DE:=[d0 0 [2],d0 1 [30],d0 2 [],d2 3 [6] 6 6,d2 4 [7,31] 7 7]
def zcZ (a0:Contest) (a1:List Int):Option Bool:=
 ((if(a0.Kind==2)=true then(
 ((if((a1.length:Int) !=a0.Options)=true then(
 some true)else(
 (zbC a1 a0.Kind a0.Options a0.Least a0.Most a0.Points).bind fun z9=>
 some (!z9)):Option Bool).bind fun x7=>
 if x7=true then(
 some (.inr false))else(
 zak (σ:=Int) (fun i12 s11=>
 (ix a1 i12).bind fun x18=>
 some (.go (i64.wrap (s11+x18)))) (fun s11=>.inl (s11,0,a0.Points)) (a1.length) 0 0)))else(
 if(a0.Kind==4)=true then(
 some (.inl ((a1.length:Int),1,26)))else(
 some (.inl ((a1.length:Int),0,i64.wrap (a0.Options-1))))):Option ((Int×Int×Int) ⊕ Bool)).bind (Sum.elim (fun x3=>
 (((zax x3.1 a0.Least a0.Most).bind fun z27=>
 if(!z27)=true then(
 some true)else(
 (zbD a1 x3.2.1 x3.2.2).bind fun z29=>
 some (!z29)):Option Bool).bind fun x26=>
 if x26=true then(
 some false)else(
 if(a0.Kind==1)=true then(
 (((zca a1).bind fun z35=>
 if z35=true then(
 (zdr a1).bind fun z37=>
 some z37)else(
 some false):Option Bool).bind fun x34=>
 some x34))else(
 if(a0.Kind==3)=true then(
 (zdr a1).bind fun z39=>
 some z39)else(
 some true))))) some))
theorem zjQ:∀{a0}{a1}{r},zcZ a0 a1=some r→PCalls Tryz.prog 43 [(.sh,vE a0),(.sh,vA a1)] (Eo (.bool r) [.junk,.junk]):=by
 intro a0 a1 r hr
 apply pF 71 [] [2] [2,1000000] [.tmp 4] hr zHV Tryz.func43
 intro Φ hΦ hF g
 unfold zcZ at hF
 refine wW ?_
 refine wX zyn follows ?_
 try simp[go_sem,g]
 try intros
 refine wK [1,2,5,6,7] ?_
 refine wW ?_
 refine wS hF (fun x3=>[(1,.v (vA a1)),(2,.v (.fp [.int .i64 a0.Kind,.int .i64 a0.Options,.int .i64 a0.Least,.int .i64 a0.Most,.int .i64 a0.Points])),(5,.v (.int .i64 x3.1)),(6,.bl [.int .i64 x3.2.1]),(7,.bl [.int .i64 x3.2.2])]) (fun x3 hF=>?_) fun _ hj1 hr2 hF=>?_
 ·refine wJ hF (fun x26=>[(1,.v (vA a1)),(2,.v (.fp [.int .i64 a0.Kind,.int .i64 a0.Options,.int .i64 a0.Least,.int .i64 a0.Most,.int .i64 a0.Points])),(56,.v (.bool x26))]) (fun x26 hF=>?_) fun _ hj24 hF=>?_
  ·refine wI hF (fun h30 hF=>?_) (fun h30 hF=>?_)
   ·exact wl hΦ hF
   iterate 2 refine wW ?_
   refine wB ?_
   refine wW ?_
   refine wI hF (fun h31 hF=>?_) (fun h31 hF=>?_)
   ·refine wJ hF (fun x34=>[(4,.v (.bool x34))]) (fun x34 hF=>?_) fun _ hj32 hF=>?_
    ·exact wm hΦ hF
    refine wC hF [.sh] zil (fun z35 hF=>?_)
    refine wG hF (fun h36 hF=>?_) fun h36 hF=>?_
    ·try simp[go_sem,g,h36]
     refine wC hF [.sh] zhA (fun z37 hF=>?_)
     exact wV h36 (hj32 _) (zaa hF)
    exact wV h36 (hj32 _) (zaa hF)
   refine wW ?_
   refine wI hF (fun h38 hF=>?_) (fun h38 hF=>?_)
   ·refine wC hF [.sh] zhA (fun z39 hF=>?_)
    refine wK [4] ?_
    exact wm hΦ hF
   cases hΦ _ (zaa hF)
   iterate 2 refine wW ?_
   try simp[go_sem,g]
  refine wC hF [.sh,.sh,.sh] zaU (fun z27 hF=>?_)
  refine wG hF (fun h28 hF=>?_) fun h28 hF=>?_
  ·exact wV h28 (hj24 _) (zaa hF)
  try simp[go_sem,g,h28]
  refine wC hF [.sh,.sh] zge (fun z29 hF=>?_)
  exact wV h28 (hj24 _) (zaa hF)
 refine wB ?_
 refine wW ?_
 refine wI hF (fun h4 hF=>?_) (fun h4 hF=>?_)
 ·refine wJ hF (fun x7=>[(1,.v (vA a1)),(2,.v (.fp [.int .i64 a0.Kind,.int .i64 a0.Options,.int .i64 a0.Least,.int .i64 a0.Most,.int .i64 a0.Points])),(6,.bl [.int .i64 0]),(7,.bl [.int .i64 (i64.wrap (a0.Options-1))]),(29,.v (.bool x7))]) (fun x7 hF=>?_) fun _ hj5 hF=>?_
  ·refine wI hF (fun h10 hF=>?_) (fun h10 hF=>?_)
   ·cases hΦ _ (hr2 _ (zaa hF))
    refine wW ?_
    try simp[go_sem,g]
   refine wW ?_
   refine wX zCh follows ?_
   try simp[go_sem,g]
   try intros
   refine zal ?_
   try simp[go_sem,g]
   try intros
   refine wK [1,2,5,6,7,32,33,34] ?_
   refine wB ?_
   obtain⟨b19,hb20,hψ15⟩:=hF
   refine pR hb20 (fun i12 s11=>[(1,.v (vA a1)),(2,.v (.fp [.int .i64 a0.Kind,.int .i64 a0.Options,.int .i64 a0.Least,.int .i64 a0.Most,.int .i64 a0.Points])),(5,.v (.int .i64 s11)),(6,.bl [.int .i64 0]),(7,.bl [.int .i64 a0.Points]),(32,.v (vA a1)),(33,.v (.int .i64 (a1.length:Int))),(34,.v (.int .i64 i12))]) (fun s11 _ hN21=>?_) (fun i12 s11 _ _ hi16 hi17 ho13 hg14 hF=>?_)
   ·exact wn hN21 (hj1 _) hψ15
   refine wW ?_
   refine wu hi16 hi17 ?_
   refine wW ?_
   refine wB ?_
   obtain⟨x18,g,hF⟩:=Rx g hF
   iterate 2 refine wW ?_
   exact wi hi16 hi17 (hg14 _) (zaa hF)
  try simp[go_sem,g]
  try intros
  refine wG hF (fun h8 hF=>?_) fun h8 hF=>?_
  ·exact wV h8 (hj5 _) (zaa hF)
  try simp[go_sem,g,h8]
  refine wC hF [.sh,.sh] zgl (fun z9 hF=>?_)
  exact wV h8 (hj5 _) (zaa hF)
 refine wW ?_
 refine wI hF (fun h23 hF=>?_) (fun h23 hF=>?_)
 ·exact wT (hj1 _) (zaa hF)
 exact wT (hj1 _) (zaa hF)
def zbt (a0:Contest):Option Int:=
 if(a0.Kind==2)=true then(
 some a0.Points)else(
 some 1)
theorem zfZ:∀{a0}{r},zbt a0=some r→PCalls Tryz.prog 52 [(.sh,vE a0)] (Eo (.int .i64 r) [.junk]):=by
 intro a0 r hr
 apply pF 8 [] [] [] [.tmp 2] hr zH4 Tryz.func52
 intro Φ hΦ hF g
 unfold zbt at hF
 iterate 2 refine wW ?_
 refine wI hF (fun h1 hF=>?_) (fun h1 hF=>?_)
 ·exact wl hΦ hF
 cases hΦ _ (zaa hF)
 iterate 2 refine wW ?_
 try simp[go_sem,g]
@[go_sem] def zCq:List DE:=[d2 0 [1] 1 1,d1 4 [1] 1,d2 5 [10] 1 10,d1 7 [1] 1,d2 8 [13] 1 13,d1 9 [1] 1,d2 10 [15] 1 15,d0 11 [14,16],d0 12 [17],d3 1 [6],d0 2 [7],d0 3 [8],d0 6 [9,11],d0 13 [12,18],d0 14 [19],d0 15 [20]]
def zc7 (a0:Contest):Option Int:=
 (zbQ a0).bind fun z1=>
 if(!z1)=true then(
 some 2)else(
 (zbt a0).bind fun z3=>
 some (i64.wrap ((i64.wrap ((i64.wrap ((i64.wrap ((i64.wrap (2*z3))+2))*a0.Options))+(i64.wrap (2*(i64.wrap (a0.Most-a0.Least))))))+1)))
theorem zka:∀{a0}{r},zc7 a0=some r→PCalls Tryz.prog 44 [(.sh,vE a0)] (Eo (.int .i64 r) [.junk]):=by
 intro a0 r hr
 apply pF 21 [] [] [] [.tmp 2] hr zGW Tryz.func44
 intro Φ hΦ hF g
 unfold zc7 at hF
 refine wW ?_
 refine wC hF [.sh] zff (fun z1 hF=>?_)
 refine wW ?_
 refine wI hF (fun h2 hF=>?_) (fun h2 hF=>?_)
 ·exact wl hΦ hF
 refine wW ?_
 refine wX zCq follows ?_
 refine wC hF [.sh] zfZ (fun z3 hF=>?_)
 refine wK [2] ?_
 exact wm hΦ hF
def zc1 (a0:Group) (a1:Int):Option Bool:=
 (zax a1 0 (i64.wrap (a0.Q-1))).bind fun z1=>
 some z1
theorem zh7:∀{a0}{a1}{r},zc1 a0 a1=some r→PCalls Tryz.prog 101 [(.sh,vD a0),(.sh,.int .i64 a1)] (Eo (.bool r) [.junk,.junk]):=by
 intro a0 a1 r hr
 apply pF 10 [] [] [] [.tmp 4] hr zCj Tryz.func101
 intro Φ hΦ hF g
 unfold zc1 at hF
 refine wW ?_
 refine wC hF [.sh,.sh,.sh] zaU (fun z1 hF=>?_)
 exact wl hΦ hF
def zbl (a0:Int) (a1c0x0:Group):Option Bool:=
 (zc1 a1c0x0 a0).bind fun z1=>
 some (!z1)
theorem zgA:∀{a0}{a1c0x0}{r},zbl a0 a1c0x0=some r→PCalls Tryz.prog 145 [(.sh,.int .i64 a0),(.sh,.fp [.func (.func 101) [vD a1c0x0] []])] (Eo (.bool r) [.junk,.junk]):=by
 intro a0 a1c0x0 r hr
 apply pF 8 [] [] [] [.tmp 3] hr zny Tryz.func145
 intro Φ hΦ hF g
 unfold zbl at hF
 refine wW ?_
 refine wC hF [.sh] zh7 (fun z1 hF=>?_)
 exact wl hΦ hF
def za1 (a0:List Int) (a1u0c0x0:Group):Option Int:=
 ((zak (σ:=Unit) (fun i5 s4=>
 (ix a0 i5).bind fun x11=>
 (zbl x11 a1u0c0x0).bind fun z12=>
 if z12=true then(
 some (.out (.inr i5)))else(
 some (.go ()))) (fun s4=>.inl ()) (a0.length) 0 ():Option (Unit ⊕ Int)).bind (Sum.elim (fun x3=>
 some (-1)) some))
theorem zdn:∀{a0}{a1u0c0x0}{r},za1 a0 a1u0c0x0=some r→PCalls Tryz.prog 170 [(.sh,vA a0),(.sh,.func (.func 145) [] [.fp [.func (.func 101) [vD a1u0c0x0] []]])] (Eo (.int .i64 r) [.junk,.junk]):=by
 intro a0 a1u0c0x0 r hr
 apply pF 19 [] [] [] [.tmp 4] hr znG Tryz.func170
 intro Φ hΦ hF g
 unfold za1 at hF
 iterate 2 (try simp[go_sem,g];try intros;refine zal ?_)
 refine wS hF (fun x3=>[]) (fun x3 hF=>?_) fun _ hj1 hr2 hF=>?_
 ·exact wl hΦ hF
 refine wB ?_
 obtain⟨b14,hb15,hψ8⟩:=hF
 refine pR hb15 (fun i5 s4=>[(0,.v (vA a0)),(1,.v (.func (.func 145) [] [.fp [.func (.func 101) [vD a1u0c0x0] []]])),(7,.v (.int .i64 (a0.length:Int))),(8,.v (.int .i64 i5))]) (fun s4 _ hN16=>?_) (fun i5 s4 _ _ hi9 hi10 ho6 hg7 hF=>?_)
 ·exact wn hN16 (hj1 _) hψ8
 refine wW ?_
 refine wu hi9 hi10 ?_
 refine wW ?_
 refine wB ?_
 obtain⟨x11,g,hF⟩:=Rx g hF
 refine wW ?_
 refine wC hF [.sh] zgA (fun z12 hF=>?_)
 refine wK [0,1,5,7,8,16] ?_
 refine wI hF (fun h13 hF=>?_) (fun h13 hF=>?_)
 ·cases ho6 _ (zaa hF)
  cases hΦ _ (hr2 _ hψ8)
  refine wW ?_
  try simp[go_sem,g]
 refine wW ?_
 exact wi hi9 hi10 (hg7 _) (zaa hF)
def zaV (a0:List Int) (a1u0c0x0:Group):Option Bool:=
 (za1 a0 a1u0c0x0).bind fun z1=>
 some (decide (0≤z1))
theorem zc4:∀{a0}{a1u0c0x0}{r},zaV a0 a1u0c0x0=some r→PCalls Tryz.prog 144 [(.sh,vA a0),(.sh,.func (.func 145) [] [.fp [.func (.func 101) [vD a1u0c0x0] []]])] (Eo (.bool r) [.junk,.junk]):=by
 intro a0 a1u0c0x0 r hr
 apply pF 9 [] [] [] [.tmp 4] hr zn5 Tryz.func144
 intro Φ hΦ hF g
 unfold zaV at hF
 refine wW ?_
 refine wC hF [.sh,.sh] zdn (fun z1 hF=>?_)
 exact wl hΦ hF
def zb2 (a0:List Int) (a1x0:Group):Option Bool:=
 (zaV a0 a1x0).bind fun z1=>
 some (!z1)
theorem zg8:∀{a0}{a1x0}{r},zb2 a0 a1x0=some r→PCalls Tryz.prog 96 [(.sh,vA a0),(.sh,.func (.func 101) [vD a1x0] [])] (Eo (.bool r) [.junk,.junk]):=by
 intro a0 a1x0 r hr
 apply pF 9 [] [] [1000000] [.tmp 4] hr zpU Tryz.func96
 intro Φ hΦ hF g
 unfold zb2 at hF
 refine wW ?_
 refine wC hF [.sh,.sh] zc4 (fun z1 hF=>?_)
 exact wl hΦ hF
def zaY (a0:Group) (a1:List Int):Option Bool:=
 (zb2 a1 a0).bind fun z1=>
 some z1
theorem zcs:∀{a0}{a1}{r},zaY a0 a1=some r→PCalls Tryz.prog 45 [(.sh,vD a0),(.sh,vA a1)] (Eo (.bool r) [.junk,.junk]):=by
 intro a0 a1 r hr
 apply pF 9 [] [] [] [.tmp 4] hr zFm Tryz.func45
 intro Φ hΦ hF g
 unfold zaY at hF
 refine wW ?_
 refine wC hF [.sh,.sh] zg8 (fun z1 hF=>?_)
 exact wl hΦ hF
def zfj (a0:Int):Option ByteArray:=
 gd (-9223372036854775808≤a0∧a0≤9223372036854775807)<|
 some ⟨(Lib.itoa a0).toArray⟩
theorem zok:∀{a0}{r},zfj a0=some r→PCalls Tryz.prog 102 [(.sh,.int .i64 a0)] (Eo (.str r) [.junk]):=by
 intro a0 r hr
 have hF:Rn _ (fun x=>x=r):=⟨r,hr,rfl⟩
 unfold zfj at hF
 obtain⟨⟨g0,g1⟩,hF⟩:=zgs hF
 have h1:=zaa hF
 subst h1
 exact Go.Pm.itoa_calls zBq g0 g1
def zdN (a0:Int):Option ByteArray:=
 (zfj a0).bind fun z1=>
 gd ((⟨#[98,97,108,108,111,116,32]⟩:ByteArray).size+z1.size≤9223372036854775807)<|
 some ((⟨#[98,97,108,108,111,116,32]⟩:ByteArray)++z1)
theorem zlk:∀{a0}{r},zdN a0=some r→PCalls Tryz.prog 46 [(.sh,.int .i64 a0)] (Eo (.str r) [.junk]):=by
 intro a0 r hr
 apply pF 6 [] [] [] [.tmp 2] hr zFQ Tryz.func46
 intro Φ hΦ hF g
 unfold zdN at hF
 refine wW ?_
 refine wC hF [.sh] zok (fun z1 hF=>?_)
 obtain⟨g,hF⟩:=Rsa g hF
 exact wl hΦ hF
def zdL (a0:Contest) (a1:List Int):Option ((List Int)):=
 gd (0≤a0.Options∧a0.Options≤a0.Options∧8*a0.Options≤140737488355328∧a0.Options≤4611686018427387904)<|
 (some (List.replicate a0.Options.toNat 0)).bind fun x1=>
 ((zak (σ:=(List Int)) (fun i17 s16=>
 (ix a1 i17).bind fun x23=>
 (ix s16 x23).bind fun x24=>
 some (.go (s16.set x23.toNat 1))) (fun s16=>s16) (a1.length) 0 x1:Option ((List Int))).bind fun x6=>
 some x6)
theorem zjv:∀{a0}{a1}{r},zdL a0 a1=some r→PCalls Tryz.prog 149 [(.sh,vE a0),(.sh,vA a1)] (Eo (vF r) [.junk,.junk]):=by
 intro a0 a1 r hr
 apply pF 22 [] [] [] [.tmp 4] hr zDC Tryz.func149
 intro Φ hΦ hF g
 unfold zdL at hF
 obtain⟨g,hF⟩:=Rg g hF
 obtain⟨x1,e2,hF⟩:=zdV hF
 have g3:List.replicate a0.Options.toNat ([.int .i64 0]:List PV)=x1.map zaf:=by injection e2 with e2;rw[←e2];simp[go_sem]
 iterate 3 (try simp[go_sem,g,g3];try intros;refine zal ?_)
 refine wJ hF (fun x6=>[(5,.v (vF x6))]) (fun x6 hF=>?_) fun _ hj4 hF=>?_
 ·refine wK [4] ?_
  exact wm hΦ hF
 refine wB ?_
 obtain⟨b25,hb26,hψ20⟩:=hF
 refine pR hb26 (fun i17 s16=>[(5,.v (vF s16)),(11,.v (vA a1)),(12,.v (.int .i64 (a1.length:Int))),(13,.v (.int .i64 i17))]) (fun s16 _ hN27=>?_) (fun i17 s16 _ _ hi21 hi22 ho18 hg19 hF=>?_)
 ·exact wn hN27 (hj4 _) hψ20
 refine wK [5,11,12,13,14] ?_
 refine wu hi21 hi22 ?_
 refine wW ?_
 refine wB ?_
 obtain⟨x23,g,hF⟩:=Rx g hF
 obtain⟨x24,g,hF⟩:=Rx g hF
 iterate 2 refine wW ?_
 exact wi hi21 hi22 (hg19 _) (zaa hF)
def zcL (a0:List Int):Option (List Int):=
 gd (a0.length*8≤140737488355328∧a0.length≤4611686018427387904)<|
 some a0
theorem zjD {a0:(List Int)}{r:(List Int)}(hr:zcL a0=some r):PCalls Tryz.prog 150 [(.sh,.sl false 1 (a0.map zaf))] (Eo (.sl true 1 (r.map zaf)) [.junk]):=by
 apply zlD 8 [] [] [1000000] [.tmp 2] hr zBQ Tryz.func150 rfl rfl rfl
 ·exact⟨by simp,rfl⟩
 intro Φ hΦ hF
 unfold zcL at hF
 obtain⟨g,hF⟩:=zgs hF
 have h1:=hΦ _ (zaa hF)
 subst h1
 try simp[go_sem]
 refine zk7 [(0,.v (.sl false 1 (a0.map zaf)))] (by simp[go_sem]) ?_
 try simp[go_sem]
 refine zr0 rfl rfl (by simp[go_sem]) rfl (by rfl) fun b hb=>?_
 try simp[go_sem]
 refine zal ?_
 repeat rw[zqi]
 cases b
 ·refine zla (by simp[go_sem]) ?_
  try simp[go_sem]
  refine zal ?_
  try simp[go_sem,g]
  refine zal ?_
  try simp[go_sem,g]
 have hb0:a0=[]:=by
  cases a0 with
  |nil=>rfl
  |cons x l=>exact absurd (hb (by simp)) (by simp)
 subst hb0
 refine zlt (by simp[go_sem]) ?_
 try simp[go_sem]
 refine zal ?_
 try simp[go_sem]
def zce (a0:Contest) (a1:List Int):Option ((List Int)):=
 if(a0.Kind==1)=true then(
 (zdL a0 a1).bind fun z2=>
 some z2)else(
 if(a0.Kind==3)=true then(
 ((zak (σ:=(List Int)) (fun i8 s7=>
 (ix a1 i8).bind fun x14=>
 gd ((s7.length+1)*8≤140737488355328∧s7.length+1≤4611686018427387904)<|
 some (.go (s7++[i64.wrap (x14+1)]))) (fun s7=>s7) (a1.length) 0 []:Option ((List Int))).bind fun x6=>
 some x6))else(
 (zcL a1).bind fun z19=>
 some z19))
theorem zgW:∀{a0}{a1}{r},zce a0 a1=some r→PCalls Tryz.prog 103 [(.sh,vE a0),(.sh,vA a1)] (Eo (vF r) [.junk,.junk]):=by
 intro a0 a1 r hr
 apply pF 33 [] [] [] [.tmp 4] hr zDv Tryz.func103
 intro Φ hΦ hF g
 unfold zce at hF
 iterate 2 refine wW ?_
 refine wB ?_
 refine wW ?_
 refine wI hF (fun h1 hF=>?_) (fun h1 hF=>?_)
 ·refine wC hF [.sh,.sh] zjv (fun z2 hF=>?_)
  refine wK [4] ?_
  exact wm hΦ hF
 refine wW ?_
 refine wI hF (fun h3 hF=>?_) (fun h3 hF=>?_)
 ·refine wK [1,5] ?_
  try simp[go_sem,g]
  try intros
  refine zal ?_
  refine wJ hF (fun x6=>[(5,.v (vF x6))]) (fun x6 hF=>?_) fun _ hj4 hF=>?_
  ·exact wl hΦ hF
  refine wB ?_
  obtain⟨b15,hb16,hψ11⟩:=hF
  refine pR hb16 (fun i8 s7=>[(5,.v (vF s7)),(18,.v (vA a1)),(19,.v (.int .i64 (a1.length:Int))),(20,.v (.int .i64 i8))]) (fun s7 _ hN17=>?_) (fun i8 s7 _ _ hi12 hi13 ho9 hg10 hF=>?_)
  ·exact wn hN17 (hj4 _) hψ11
  refine wW ?_
  refine wu hi12 hi13 ?_
  refine wW ?_
  refine wB ?_
  obtain⟨x14,g,hF⟩:=Rx g hF
  obtain⟨g,hF⟩:=Rg g hF
  refine wW ?_
  refine wK [5,18,19,20] ?_
  exact wi hi12 hi13 (hg10 _) (zaa hF)
 refine wW ?_
 refine wC hF [.sh] zjD (fun z19 hF=>?_)
 refine wK [4] ?_
 exact wm hΦ hF
@[go_sem] def zyT:List DE:=[d2 0 [2] 2 2,d0 1 [1],d2 3 [2] 2 2,d3 2 [5,6],d3 4 [8],d3 5 [7,9],d0 6 [10]]
def zdu (a0:Contest) (a1:List Int):Option Int:=
 (zce a0 a1).bind fun z1=>
 (zaE a0).bind fun z2=>
 (zeK z1 z2).bind fun z3=>
 some z3
theorem zkY:∀{a0}{a1}{r},zdu a0 a1=some r→PCalls Tryz.prog 104 [(.sh,vE a0),(.sh,vA a1)] (Eo (.int .i64 r) [.junk,.junk]):=by
 intro a0 a1 r hr
 apply pF 11 [] [] [] [.tmp 4] hr zDD Tryz.func104
 intro Φ hΦ hF g
 unfold zdu at hF
 refine wW ?_
 refine wX zyT follows ?_
 refine wC hF [.sh,.sh] zgW (fun z1 hF=>?_)
 refine wC hF [.sh] zhx (fun z2 hF=>?_)
 refine wC hF [.sh,.sh] zkH (fun z3 hF=>?_)
 exact wl hΦ hF
def zbO (a0:Contest) (a1:List Int):Option ((List Int)):=
 ((if(a0.Kind==1)=true then(
 some true)else(
 some (a0.Kind==2)):Option Bool).bind fun x3=>
 if x3=true then(
 (zce a0 a1).bind fun z6=>
 some z6)else(
 (zdu a0 a1).bind fun z7=>
 some [z7]))
theorem ziT:∀{a0}{a1}{r},zbO a0 a1=some r→PCalls Tryz.prog 47 [(.sh,vE a0),(.sh,vA a1)] (Eo (vF r) [.junk,.junk]):=by
 intro a0 a1 r hr
 apply pF 20 [] [] [] [.tmp 4] hr zF4 Tryz.func47
 intro Φ hΦ hF g
 unfold zbO at hF
 refine wW ?_
 refine wJ hF (fun x3=>[(1,.v (vA a1)),(2,.bl [.int .i64 a0.Kind,.int .i64 a0.Options,.int .i64 a0.Least,.int .i64 a0.Most,.int .i64 a0.Points]),(12,.v (.bool x3))]) (fun x3 hF=>?_) fun _ hj1 hF=>?_
 ·refine wI hF (fun h5 hF=>?_) (fun h5 hF=>?_)
  ·refine wC hF [.sh,.sh] zgW (fun z6 hF=>?_)
   exact wl hΦ hF
  refine wW ?_
  refine wC hF [.sh,.sh] zkY (fun z7 hF=>?_)
  exact wl hΦ hF
 refine wG hF (fun h4 hF=>?_) fun h4 hF=>?_
 ·exact wV h4 (hj1 _) (zaa hF)
 exact wV h4 (hj1 _) (zaa hF)
def zcV (a0:ByteArray):Option Bool:=
 some (decide ((a0.size:Int)≤40))
theorem zhK:∀{a0}{r},zcV a0=some r→PCalls Tryz.prog 108 [(.sh,.str a0)] (Eo (.bool r) [.junk]):=by
 intro a0 r hr
 apply pF 6 [] [] [] [.tmp 2] hr zCd Tryz.func108
 intro Φ hΦ hF g
 unfold zcV at hF
 cases hΦ _ (zaa hF)
 iterate 2 refine wW ?_
 try simp[go_sem,g]
def zbw (a0:Int) (a1c0x0:Group):Option Bool:=
 (zcR a1c0x0 a0).bind fun z1=>
 some (!z1)
theorem zg7:∀{a0}{a1c0x0}{r},zbw a0 a1c0x0=some r→PCalls Tryz.prog 145 [(.sh,.int .i64 a0),(.sh,.fp [.func (.func 41) [vD a1c0x0] []])] (Eo (.bool r) [.junk,.junk]):=by
 intro a0 a1c0x0 r hr
 apply pF 8 [] [] [] [.tmp 3] hr zny Tryz.func145
 intro Φ hΦ hF g
 unfold zbw at hF
 refine wW ?_
 refine wC hF [.sh] zgR (fun z1 hF=>?_)
 exact wl hΦ hF
def zaH (a0:List Int) (a1u0c0x0:Group):Option Int:=
 ((zak (σ:=Unit) (fun i5 s4=>
 (ix a0 i5).bind fun x11=>
 (zbw x11 a1u0c0x0).bind fun z12=>
 if z12=true then(
 some (.out (.inr i5)))else(
 some (.go ()))) (fun s4=>.inl ()) (a0.length) 0 ():Option (Unit ⊕ Int)).bind (Sum.elim (fun x3=>
 some (-1)) some))
theorem zdD:∀{a0}{a1u0c0x0}{r},zaH a0 a1u0c0x0=some r→PCalls Tryz.prog 170 [(.sh,vA a0),(.sh,.func (.func 145) [] [.fp [.func (.func 41) [vD a1u0c0x0] []]])] (Eo (.int .i64 r) [.junk,.junk]):=by
 intro a0 a1u0c0x0 r hr
 apply pF 19 [] [] [] [.tmp 4] hr znG Tryz.func170
 intro Φ hΦ hF g
 unfold zaH at hF
 iterate 2 (try simp[go_sem,g];try intros;refine zal ?_)
 refine wS hF (fun x3=>[]) (fun x3 hF=>?_) fun _ hj1 hr2 hF=>?_
 ·exact wl hΦ hF
 refine wB ?_
 obtain⟨b14,hb15,hψ8⟩:=hF
 refine pR hb15 (fun i5 s4=>[(0,.v (vA a0)),(1,.v (.func (.func 145) [] [.fp [.func (.func 41) [vD a1u0c0x0] []]])),(7,.v (.int .i64 (a0.length:Int))),(8,.v (.int .i64 i5))]) (fun s4 _ hN16=>?_) (fun i5 s4 _ _ hi9 hi10 ho6 hg7 hF=>?_)
 ·exact wn hN16 (hj1 _) hψ8
 refine wW ?_
 refine wu hi9 hi10 ?_
 refine wW ?_
 refine wB ?_
 obtain⟨x11,g,hF⟩:=Rx g hF
 refine wW ?_
 refine wC hF [.sh] zg7 (fun z12 hF=>?_)
 refine wK [0,1,5,7,8,16] ?_
 refine wI hF (fun h13 hF=>?_) (fun h13 hF=>?_)
 ·cases ho6 _ (zaa hF)
  cases hΦ _ (hr2 _ hψ8)
  refine wW ?_
  try simp[go_sem,g]
 refine wW ?_
 exact wi hi9 hi10 (hg7 _) (zaa hF)
def zaC (a0:List Int) (a1u0c0x0:Group):Option Bool:=
 (zaH a0 a1u0c0x0).bind fun z1=>
 some (decide (0≤z1))
theorem zdi:∀{a0}{a1u0c0x0}{r},zaC a0 a1u0c0x0=some r→PCalls Tryz.prog 144 [(.sh,vA a0),(.sh,.func (.func 145) [] [.fp [.func (.func 41) [vD a1u0c0x0] []]])] (Eo (.bool r) [.junk,.junk]):=by
 intro a0 a1u0c0x0 r hr
 apply pF 9 [] [] [] [.tmp 4] hr zn5 Tryz.func144
 intro Φ hΦ hF g
 unfold zaC at hF
 refine wW ?_
 refine wC hF [.sh,.sh] zdD (fun z1 hF=>?_)
 exact wl hΦ hF
def zch (a0:List Int) (a1x0:Group):Option Bool:=
 (zaC a0 a1x0).bind fun z1=>
 some (!z1)
theorem zhw:∀{a0}{a1x0}{r},zch a0 a1x0=some r→PCalls Tryz.prog 96 [(.sh,vA a0),(.sh,.func (.func 41) [vD a1x0] [])] (Eo (.bool r) [.junk,.junk]):=by
 intro a0 a1x0 r hr
 apply pF 9 [] [] [1000000] [.tmp 4] hr zpU Tryz.func96
 intro Φ hΦ hF g
 unfold zch at hF
 refine wW ?_
 refine wC hF [.sh,.sh] zdi (fun z1 hF=>?_)
 exact wl hΦ hF
def zb8 (a0:Group) (a1:List Int):Option Bool:=
 (zch a1 a0).bind fun z1=>
 some z1
theorem zhB:∀{a0}{a1}{r},zb8 a0 a1=some r→PCalls Tryz.prog 176 [(.sh,vD a0),(.sh,vA a1)] (Eo (.bool r) [.junk,.junk]):=by
 intro a0 a1 r hr
 apply pF 9 [] [] [] [.tmp 4] hr zA4 Tryz.func176
 intro Φ hΦ hF g
 unfold zb8 at hF
 refine wW ?_
 refine wC hF [.sh,.sh] zhw (fun z1 hF=>?_)
 exact wl hΦ hF
def zcv (a0:List Int) (a1c0:(List (List Int))) (a2c0:Int) (a2c1:Int) (a2c2:Int):Option Bool:=
 (((ix a1c0 0).bind fun x4=>
 if((a0.length:Int) !=(x4.length:Int))=true then(
 some true)else(
 (zb8 (Group.mk a2c0 a2c1 a2c2) a0).bind fun z6=>
 some (!z6)):Option Bool).bind fun x3=>
 some x3)
theorem zja:∀{a0}{a1c0}{a2c0}{a2c1}{a2c2}{r},zcv a0 a1c0 a2c0 a2c1 a2c2=some r→PCalls Tryz.prog 175 [(.sh,vA a0),(.sh,.fp [vJ a1c0]),(.sh,.fp [.int .i64 a2c0,.int .i64 a2c1,.int .i64 a2c2])] (Eo (.bool r) [.junk,.junk,.junk]):=by
 intro a0 a1c0 a2c0 a2c1 a2c2 r hr
 apply pF 18 [] [] [] [.tmp 4] hr zAX Tryz.func175
 intro Φ hΦ hF g
 unfold zcv at hF
 refine wW ?_
 refine wJ hF (fun x3=>[(4,.v (.bool x3))]) (fun x3 hF=>?_) fun _ hj1 hF=>?_
 ·exact wm hΦ hF
 obtain⟨x4,g,hF⟩:=Rxn g 0 hF
 try simp[go_sem,g]
 try intros
 refine wG hF (fun h5 hF=>?_) fun h5 hF=>?_
 ·exact wV h5 (hj1 _) (zaa hF)
 try simp[go_sem,g,h5]
 refine wC hF [.sh,.sh] zhB (fun z6 hF=>?_)
 exact wV h5 (hj1 _) (zaa hF)
def zaD (a0:(List (List Int))) (a1u0c0:(List (List Int))) (a1u1c0:Int) (a1u1c1:Int) (a1u1c2:Int):Option Int:=
 ((zak (σ:=Unit) (fun i5 s4=>
 (ix a0 i5).bind fun x11=>
 (zcv x11 a1u0c0 a1u1c0 a1u1c1 a1u1c2).bind fun z12=>
 if z12=true then(
 some (.out (.inr i5)))else(
 some (.go ()))) (fun s4=>.inl ()) (a0.length) 0 ():Option (Unit ⊕ Int)).bind (Sum.elim (fun x3=>
 some (-1)) some))
theorem zeu:∀{a0}{a1u0c0}{a1u1c0}{a1u1c1}{a1u1c2}{r},zaD a0 a1u0c0 a1u1c0 a1u1c1 a1u1c2=some r→PCalls Tryz.prog 187 [(.sh,vJ a0),(.sh,.func (.func 175) [] [.fp [vJ a1u0c0],.fp [.int .i64 a1u1c0,.int .i64 a1u1c1,.int .i64 a1u1c2]])] (Eo (.int .i64 r) [.junk,.junk]):=by
 intro a0 a1u0c0 a1u1c0 a1u1c1 a1u1c2 r hr
 apply pF 19 [] [] [] [.tmp 4] hr zBp Tryz.func187
 intro Φ hΦ hF g
 unfold zaD at hF
 iterate 2 (try simp[go_sem,g];try intros;refine zal ?_)
 refine wS hF (fun x3=>[]) (fun x3 hF=>?_) fun _ hj1 hr2 hF=>?_
 ·exact wl hΦ hF
 refine wB ?_
 obtain⟨b14,hb15,hψ8⟩:=hF
 refine pR hb15 (fun i5 s4=>[(0,.v (vJ a0)),(1,.v (.func (.func 175) [] [.fp [vJ a1u0c0],.fp [.int .i64 a1u1c0,.int .i64 a1u1c1,.int .i64 a1u1c2]])),(7,.v (.int .i64 (a0.length:Int))),(8,.v (.int .i64 i5))]) (fun s4 _ hN16=>?_) (fun i5 s4 _ _ hi9 hi10 ho6 hg7 hF=>?_)
 ·exact wn hN16 (hj1 _) hψ8
 refine wW ?_
 refine wu hi9 hi10 ?_
 refine wW ?_
 refine wB ?_
 obtain⟨x11,g,hF⟩:=Rx g hF
 refine wW ?_
 refine wC hF [.sh] zja (fun z12 hF=>?_)
 refine wK [0,1,5,7,8,16] ?_
 refine wI hF (fun h13 hF=>?_) (fun h13 hF=>?_)
 ·cases ho6 _ (zaa hF)
  cases hΦ _ (hr2 _ hψ8)
  refine wW ?_
  try simp[go_sem,g]
 refine wW ?_
 exact wi hi9 hi10 (hg7 _) (zaa hF)
def zaQ (a0:(List (List Int))) (a1u0c0:(List (List Int))) (a1u1c0:Int) (a1u1c1:Int) (a1u1c2:Int):Option Bool:=
 (zaD a0 a1u0c0 a1u1c0 a1u1c1 a1u1c2).bind fun z1=>
 some (decide (0≤z1))
theorem zec:∀{a0}{a1u0c0}{a1u1c0}{a1u1c1}{a1u1c2}{r},zaQ a0 a1u0c0 a1u1c0 a1u1c1 a1u1c2=some r→PCalls Tryz.prog 174 [(.sh,vJ a0),(.sh,.func (.func 175) [] [.fp [vJ a1u0c0],.fp [.int .i64 a1u1c0,.int .i64 a1u1c1,.int .i64 a1u1c2]])] (Eo (.bool r) [.junk,.junk]):=by
 intro a0 a1u0c0 a1u1c0 a1u1c1 a1u1c2 r hr
 apply pF 9 [] [] [] [.tmp 4] hr zDB Tryz.func174
 intro Φ hΦ hF g
 unfold zaQ at hF
 refine wW ?_
 refine wC hF [.sh,.sh] zeu (fun z1 hF=>?_)
 exact wl hΦ hF
def zct (a0:Group) (a1:(List (List Int))):Option Bool:=
 (((zax (a1.length:Int) 1 8).bind fun z4=>
 if(!z4)=true then(
 some true)else(
 (ix a1 0).bind fun x6=>
 (zax (x6.length:Int) 1 8).bind fun z7=>
 some (!z7)):Option Bool).bind fun x3=>
 if x3=true then(
 some false)else(
 (zaQ a1 a1 a0.P a0.Q a0.G).bind fun z9=>
 some (!z9)))
theorem zhr:∀{a0}{a1}{r},zct a0 a1=some r→PCalls Tryz.prog 151 [(.sh,vD a0),(.sh,vJ a1)] (Eo (.bool r) [.junk,.junk]):=by
 intro a0 a1 r hr
 apply pF 21 [] [] [1000000] [.tmp 4] hr zC5 Tryz.func151
 intro Φ hΦ hF g
 unfold zct at hF
 refine wW ?_
 refine wJ hF (fun x3=>[(2,.bl [.int .i64 a0.P,.int .i64 a0.Q,.int .i64 a0.G]),(3,.bl [vJ a1]),(16,.v (.bool x3))]) (fun x3 hF=>?_) fun _ hj1 hF=>?_
 ·refine wI hF (fun h8 hF=>?_) (fun h8 hF=>?_)
  ·exact wl hΦ hF
  refine wW ?_
  refine wC hF [.sh,.sh] zec (fun z9 hF=>?_)
  exact wl hΦ hF
 try simp[go_sem,g]
 try intros
 refine wC hF [.sh,.sh,.sh] zaU (fun z4 hF=>?_)
 refine wG hF (fun h5 hF=>?_) fun h5 hF=>?_
 ·exact wV h5 (hj1 _) (zaa hF)
 obtain⟨x6,g,hF⟩:=Rxn g 0 hF
 try simp[go_sem,g,h5]
 try intros
 refine wC hF [.sh,.sh,.sh] zaU (fun z7 hF=>?_)
 exact wV h5 (hj1 _) (zaa hF)
def zgq (a0:Int) (a1:Int):Option Int:=
 gd (a1≠0)<|
 gd (a1≠0)<|
 some ((i64.wrap ((a0.tmod a1)+a1)).tmod a1)
theorem znO:∀{a0}{a1}{r},zgq a0 a1=some r→PCalls Tryz.prog 107 [(.sh,.int .i64 a0),(.sh,.int .i64 a1)] (Eo (.int .i64 r) [.junk,.junk]):=by
 intro a0 a1 r hr
 apply pF 12 [] [] [] [.tmp 4] hr zBg Tryz.func107
 intro Φ hΦ hF g
 unfold zgq at hF
 obtain⟨g,hF⟩:=Rz g hF
 obtain⟨g,hF⟩:=Rz g hF
 cases hΦ _ (zaa hF)
 iterate 2 refine wW ?_
 try simp[go_sem,g]
@[go_sem] def zDI:List DE:=[d0 0 [1],d0 1 [2],d1 2 [3] 3,d2 3 [9] 3 9,d1 5 [3] 3,d2 6 [12] 3 12,d3 4 [8,10],d3 7 [7,11,13],d0 8 [14]]
def zaq (a0:Group) (a1:Int) (a2:Int):Option Int:=
 (zgq a2 a0.Q).bind fun z1=>
 (zdS a1 z1 a0.P).bind fun z2=>
 some z2
theorem za0:∀{a0}{a1}{a2}{r},zaq a0 a1 a2=some r→PCalls Tryz.prog 51 [(.sh,vD a0),(.sh,.int .i64 a1),(.sh,.int .i64 a2)] (Eo (.int .i64 r) [.junk,.junk,.junk]):=by
 intro a0 a1 a2 r hr
 apply pF 15 [] [] [] [.tmp 6] hr zI4 Tryz.func51
 intro Φ hΦ hF g
 unfold zaq at hF
 refine wW ?_
 refine wX zDI follows ?_
 refine wC hF [.sh,.sh] znO (fun z1 hF=>?_)
 refine wC hF [.sh,.sh,.sh] ziP (fun z2 hF=>?_)
 refine wK [6] ?_
 exact wm hΦ hF
def zbb (a0:Group) (a1:List Int):Option Int:=
 ((zak (σ:=Int) (fun i5 s4=>
 (ix a1 i5).bind fun x11=>
 gd (a0.P≠0)<|
 some (.go ((i64.wrap (s4*x11)).tmod a0.P))) (fun s4=>s4) (a1.length) 0 1:Option Int).bind fun x3=>
 some x3)
theorem zcQ:∀{a0}{a1}{r},zbb a0 a1=some r→PCalls Tryz.prog 106 [(.sh,vD a0),(.sh,vA a1)] (Eo (.int .i64 r) [.junk,.junk]):=by
 intro a0 a1 r hr
 apply pF 22 [] [] [] [.tmp 4] hr zDG Tryz.func106
 intro Φ hΦ hF g
 unfold zbb at hF
 iterate 3 (try simp[go_sem,g];try intros;refine zal ?_)
 refine wJ hF (fun x3=>[(5,.v (.int .i64 x3))]) (fun x3 hF=>?_) fun _ hj1 hF=>?_
 ·exact wl hΦ hF
 refine wB ?_
 obtain⟨b12,hb13,hψ8⟩:=hF
 refine pR hb13 (fun i5 s4=>[(2,.bl [.int .i64 a0.P,.int .i64 a0.Q,.int .i64 a0.G]),(5,.v (.int .i64 s4)),(8,.v (vA a1)),(9,.v (.int .i64 (a1.length:Int))),(10,.v (.int .i64 i5))]) (fun s4 _ hN14=>?_) (fun i5 s4 _ _ hi9 hi10 ho6 hg7 hF=>?_)
 ·exact wn hN14 (hj1 _) hψ8
 refine wW ?_
 refine wu hi9 hi10 ?_
 refine wW ?_
 refine wB ?_
 obtain⟨x11,g,hF⟩:=Rx g hF
 refine wK [2,5,7,8,9,10] ?_
 obtain⟨g,hF⟩:=Rz g hF
 refine wW ?_
 exact wi hi9 hi10 (hg7 _) (zaa hF)
@[go_sem] def zyQ:List DE:=[d2 0 [3] 3 3,d0 1 [7],d2 2 [3] 3 3,d0 3 [9],d0 4 [2],d0 5 [8],d0 6 [21,22],d0 7 [23],d3 8 [19,20,24],d0 9 [18,25],⟨10,[17,26],[],none,true,true,true⟩,d0 11 [27]]
def zdv (a0:Group) (a1:List Int) (a2:List Int):Option Int:=
 ((zak (σ:=Int) (fun i5 s4=>
 (ix a1 i5).bind fun x11=>
 (ix a2 i5).bind fun x12=>
 (zaq a0 x11 x12).bind fun z13=>
 (zbb a0 [s4,z13]).bind fun z14=>
 some (.go z14)) (fun s4=>s4) (a1.length) 0 1:Option Int).bind fun x3=>
 some x3)
theorem zkU:∀{a0}{a1}{a2}{r},zdv a0 a1 a2=some r→PCalls Tryz.prog 188 [(.sh,vD a0),(.sh,vA a1),(.sh,vA a2)] (Eo (.int .i64 r) [.junk,.junk,.junk]):=by
 intro a0 a1 a2 r hr
 apply pF 30 [] [] [] [.tmp 6] hr zCl Tryz.func188
 intro Φ hΦ hF g
 unfold zdv at hF
 iterate 3 (try simp[go_sem,g];try intros;refine zal ?_)
 refine wJ hF (fun x3=>[(7,.v (.int .i64 x3))]) (fun x3 hF=>?_) fun _ hj1 hF=>?_
 ·exact wl hΦ hF
 refine wB ?_
 obtain⟨b15,hb16,hψ8⟩:=hF
 refine pR hb16 (fun i5 s4=>[(2,.v (vA a2)),(3,.bl [.int .i64 a0.P,.int .i64 a0.Q,.int .i64 a0.G]),(7,.v (.int .i64 s4)),(10,.v (vA a1)),(11,.v (.int .i64 (a1.length:Int))),(12,.v (.int .i64 i5))]) (fun s4 _ hN17=>?_) (fun i5 s4 _ _ hi9 hi10 ho6 hg7 hF=>?_)
 ·exact wn hN17 (hj1 _) hψ8
 refine wW ?_
 refine wu hi9 hi10 ?_
 refine wW ?_
 refine wB ?_
 obtain⟨x11,g,hF⟩:=Rx g hF
 refine wK [2,3,7,8,9,10,11,12] ?_
 refine wX zyQ follows ?_
 obtain⟨x12,g,hF⟩:=Rx g hF
 refine wC hF [.sh,.sh,.sh] za0 (fun z13 hF=>?_)
 refine wC hF [.sh,.sh] zcQ (fun z14 hF=>?_)
 refine wK [2,3,7,10,11,12] ?_
 exact wi hi9 hi10 (hg7 _) (zaa hF)
def zcE (a0:Group) (a1:(List (List Int))) (a2:List Int):Option ((List Int)):=
 ((zak (σ:=(List Int)) (fun i5 s4=>
 (ix a1 i5).bind fun x11=>
 (zdv a0 x11 a2).bind fun z12=>
 gd ((s4.length+1)*8≤140737488355328∧s4.length+1≤4611686018427387904)<|
 some (.go (s4++[z12]))) (fun s4=>s4) (a1.length) 0 []:Option ((List Int))).bind fun x3=>
 some x3)
theorem zhy:∀{a0}{a1}{a2}{r},zcE a0 a1 a2=some r→PCalls Tryz.prog 177 [(.sh,vD a0),(.sh,vJ a1),(.sh,vA a2)] (Eo (vF r) [.junk,.junk,.junk]):=by
 intro a0 a1 a2 r hr
 apply pF 26 [] [] [] [.tmp 6] hr zCR Tryz.func177
 intro Φ hΦ hF g
 unfold zcE at hF
 iterate 3 (try simp[go_sem,g];try intros;refine zal ?_)
 refine wJ hF (fun x3=>[(7,.v (vF x3))]) (fun x3 hF=>?_) fun _ hj1 hF=>?_
 ·exact wl hΦ hF
 refine wB ?_
 obtain⟨b13,hb14,hψ8⟩:=hF
 refine pR hb14 (fun i5 s4=>[(2,.v (vA a2)),(3,.bl [.int .i64 a0.P,.int .i64 a0.Q,.int .i64 a0.G]),(7,.v (vF s4)),(11,.v (vJ a1)),(12,.v (.int .i64 (a1.length:Int))),(13,.v (.int .i64 i5))]) (fun s4 _ hN15=>?_) (fun i5 s4 _ _ hi9 hi10 ho6 hg7 hF=>?_)
 ·exact wn hN15 (hj1 _) hψ8
 refine wW ?_
 refine wu hi9 hi10 ?_
 refine wW ?_
 refine wB ?_
 obtain⟨x11,g,hF⟩:=Rx g hF
 refine wK [2,3,7,9,11,12,13] ?_
 refine wC hF [.sh,.sh,.sh] zkU (fun z12 hF=>?_)
 obtain⟨g,hF⟩:=Rg g hF
 refine wW ?_
 exact wi hi9 hi10 (hg7 _) (zaa hF)
theorem zB5:ztT Tryz.prog 182 26:=by
 intro n H e b es by_ z e1 e2 h0 h1 h2 h3 h4 h5
 refine zlI zDj Tryz.func182 rfl rfl (by simp[Tryz.f182]) fun hw=>?_
 have hn:¬n<0:=by omega
 have hw1:i64.wrap n=n:=wrI (by omega)
 have hw0:i64.wrap 0=0:=wrI (by omega)
 have ei:(zdb Tryz.prog 3).isSome=true:=by kernel_rfl
 by_cases hp:0<n
 ·have hne:n≠0:=by omega
  have h5':=h5
  simp[zaj]at h5'
  simp[Tryz.f182,awp,zgN,aop,ahp,zaG,zbc,zaK,mat,za8,zan,zpC,FR.put,FR.init,rdv,rda,zbh,zcY,zaj,Am.lenV,zeP,zcX,bnd,zm5,zsY,zig,zjB,zmG,hn,e1,e2,ei,hw1,hw0,hp,h1,h2,h3,h4,hne]
  first|exact h5'|exact .inl h5'
 have hz:n=0:=by omega
 subst hz
 simp[Tryz.f182,awp,zgN,aop,ahp,zaG,zbc,zaK,mat,za8,zan,zpC,FR.put,FR.init,rdv,rda,zbh,zcY,zaj,Am.lenV,zeP,zcX,bnd,zm5,zsY,zig,zjB,zmG,hn,e1,e2,hw1,hw0,hp]
def zby (a0:(List (List Int))):Option ((List Int)):=
 ((zak (σ:=Int) (fun i5 s4=>
 (ix a0 i5).bind fun x11=>
 if decide ((i64.wrap (s4+(x11.length:Int)))<0)=true then(
 none)else(
 some (.go (i64.wrap (s4+(x11.length:Int)))))) (fun s4=>s4) (a0.length) 0 0:Option Int).bind fun x3=>
 gd (0≤x3∧8*x3≤140737488355328∧x3≤4611686018427387904)<|
 ((zak (σ:=(List Int)) (fun i22 s21=>
 (ix a0 i22).bind fun x28=>
 gd ((s21.length+x28.length)*8≤140737488355328∧s21.length+x28.length≤4611686018427387904)<|
 some (.go (s21++x28))) (fun s21=>s21) (a0.length) 0 []:Option ((List Int))).bind fun x20=>
 some x20))
theorem zeH:∀{a0}{r},zby a0=some r→PCalls Tryz.prog 164 [(.sh,vJ a0)] (Eo (vF r) [.junk]):=by
 intro a0 r hr
 apply pF 36 [] [] [] [.tmp 2] hr zAU Tryz.func164
 intro Φ hΦ hF g
 unfold zby at hF
 iterate 3 (try simp[go_sem,g];try intros;refine zal ?_)
 refine wJ hF (fun x3=>[(0,.v (vJ a0)),(3,.v (.int .i64 x3))]) (fun x3 hF=>?_) fun _ hj1 hF=>?_
 ·obtain⟨g17,hF⟩:=zgs hF
  try simp[go_sem,g]
  refine zye zB5 zFR (by simp[go_sem,g]) g17 ?_
  try simp[go_sem,g]
  try intros
  refine zal ?_
  try simp[go_sem,g]
  try intros
  refine wK [6,25,26,27] ?_
  refine wJ hF (fun x20=>[(6,.v (vF x20))]) (fun x20 hF=>?_) fun _ hj18 hF=>?_
  ·exact wl hΦ hF
  refine wB ?_
  obtain⟨b29,hb30,hψ25⟩:=hF
  refine pR hb30 (fun i22 s21=>[(6,.v (vF s21)),(25,.v (vJ a0)),(26,.v (.int .i64 (a0.length:Int))),(27,.v (.int .i64 i22))]) (fun s21 _ hN31=>?_) (fun i22 s21 _ _ hi26 hi27 ho23 hg24 hF=>?_)
  ·exact wn hN31 (hj18 _) hψ25
  refine wW ?_
  refine wu hi26 hi27 ?_
  refine wW ?_
  refine wB ?_
  obtain⟨x28,g,hF⟩:=Rx g hF
  obtain⟨g,hF⟩:=Rg g hF
  iterate 2 refine wW ?_
  exact wi hi26 hi27 (hg24 _) (zaa hF)
 refine wB ?_
 obtain⟨b13,hb14,hψ8⟩:=hF
 refine pR hb14 (fun i5 s4=>[(0,.v (vJ a0)),(3,.v (.int .i64 s4)),(9,.v (vJ a0)),(10,.v (.int .i64 (a0.length:Int))),(11,.v (.int .i64 i5))]) (fun s4 _ hN15=>?_) (fun i5 s4 _ _ hi9 hi10 ho6 hg7 hF=>?_)
 ·exact wn hN15 (hj1 _) hψ8
 refine wW ?_
 refine wu hi9 hi10 ?_
 refine wW ?_
 refine wB ?_
 obtain⟨x11,g,hF⟩:=Rx g hF
 try simp[go_sem,g]
 try intros
 refine zal ?_
 try simp[go_sem,g]
 try intros
 refine wK [0,3,9,10,11] ?_
 refine wW ?_
 refine wI hF (fun h12 hF=>?_) (fun h12 hF=>?_)
 ·exact(zsv hF).elim
 refine wW ?_
 exact wi hi9 hi10 (hg7 _) (zaa hF)
def zf6 (a0:ByteArray) (a1:List Int):Option ((List Int)):=
 ((zaL (σ:=(List Int)×Int) (fun s4=>
 if decide (s4.2<(a0.size:Int))=true then(
 (ixs a0 s4.2).bind fun x10=>
 gd ((s4.1.length+1)*8≤140737488355328∧s4.1.length+1≤4611686018427387904)<|
 some (.go (s4.1++[i64.wrap x10],i64.wrap (s4.2+1))))else(
 some (.out s4.1))) ([(a0.size:Int)],0):Option ((List Int))).bind fun x3=>
 gd ((x3.length+a1.length)*8≤140737488355328∧x3.length+a1.length≤4611686018427387904)<|
 some (x3++a1))
theorem znQ:∀{a0}{a1}{r},zf6 a0 a1=some r→PCalls Tryz.prog 125 [(.sh,.str a0),(.sh,vA a1)] (Eo (vF r) [.junk,.junk]):=by
 intro a0 a1 r hr
 apply pF 26 [] [] [] [.tmp 4] hr zBj Tryz.func125
 intro Φ hΦ hF g
 unfold zf6 at hF
 iterate 3 refine wW ?_
 refine wJ hF (fun x3=>[(1,.v (vA a1)),(5,.v (vF x3))]) (fun x3 hF=>?_) fun _ hj1 hF=>?_
 ·obtain⟨g,hF⟩:=Rg g hF
  refine wK [4] ?_
  exact wm hΦ hF
 refine wB ?_
 obtain⟨b11,hb12,hψ8⟩:=hF
 refine pL hb12 (fun s4=>[(0,.v (.str a0)),(1,.v (vA a1)),(5,.v (vF s4.1)),(11,.v (.int .i64 (a0.size:Int))),(12,.v (.int .i64 s4.2))]) (fun s4 _ _ ho6 hg7 hF=>?_)
 refine wW ?_
 refine wI hF (fun h9 hF=>?_) (fun h9 hF=>?_)
 ·refine wW ?_
  refine wB ?_
  refine wK [0,1,5,6,11,12] ?_
  obtain⟨x10,g,hF⟩:=Rxs g hF
  obtain⟨g,hF⟩:=Rg g hF
  refine wW ?_
  exact wT (hg7 _) (zaa hF)
 cases ho6 _ (zaa hF)
 exact wT (hj1 _) hψ8
def zdZ (a0:Int):Option Bool:=
 (zax a0 0 4611686018427387903).bind fun z1=>
 some z1
theorem zjd:∀{a0}{r},zdZ a0=some r→PCalls Tryz.prog 68 [(.sh,.int .i64 a0)] (Eo (.bool r) [.junk]):=by
 intro a0 r hr
 apply pF 5 [] [] [] [.tmp 2] hr zIU Tryz.func68
 intro Φ hΦ hF g
 unfold zdZ at hF
 refine wW ?_
 refine wC hF [.sh,.sh,.sh] zaU (fun z1 hF=>?_)
 exact wl hΦ hF
def zaZ (a0:Int):Option Bool:=
 (zdZ a0).bind fun z1=>
 some (!z1)
theorem zg9:∀{a0}{r},zaZ a0=some r→PCalls Tryz.prog 145 [(.sh,.int .i64 a0),(.sh,.fp [.func (.func 68) [] []])] (Eo (.bool r) [.junk,.junk]):=by
 intro a0 r hr
 apply pF 8 [] [] [] [.tmp 3] hr zny Tryz.func145
 intro Φ hΦ hF g
 unfold zaZ at hF
 refine wW ?_
 refine wC hF [.sh] zjd (fun z1 hF=>?_)
 exact wl hΦ hF
def zbe (a0:List Int):Option Int:=
 ((zak (σ:=Unit) (fun i5 s4=>
 (ix a0 i5).bind fun x11=>
 (zaZ x11).bind fun z12=>
 if z12=true then(
 some (.out (.inr i5)))else(
 some (.go ()))) (fun s4=>.inl ()) (a0.length) 0 ():Option (Unit ⊕ Int)).bind (Sum.elim (fun x3=>
 some (-1)) some))
theorem zdM:∀{a0}{r},zbe a0=some r→PCalls Tryz.prog 170 [(.sh,vA a0),(.sh,.func (.func 145) [] [.fp [.func (.func 68) [] []]])] (Eo (.int .i64 r) [.junk,.junk]):=by
 intro a0 r hr
 apply pF 19 [] [] [] [.tmp 4] hr znG Tryz.func170
 intro Φ hΦ hF g
 unfold zbe at hF
 iterate 2 (try simp[go_sem,g];try intros;refine zal ?_)
 refine wS hF (fun x3=>[]) (fun x3 hF=>?_) fun _ hj1 hr2 hF=>?_
 ·exact wl hΦ hF
 refine wB ?_
 obtain⟨b14,hb15,hψ8⟩:=hF
 refine pR hb15 (fun i5 s4=>[(0,.v (vA a0)),(1,.v (.func (.func 145) [] [.fp [.func (.func 68) [] []]])),(7,.v (.int .i64 (a0.length:Int))),(8,.v (.int .i64 i5))]) (fun s4 _ hN16=>?_) (fun i5 s4 _ _ hi9 hi10 ho6 hg7 hF=>?_)
 ·exact wn hN16 (hj1 _) hψ8
 refine wW ?_
 refine wu hi9 hi10 ?_
 refine wW ?_
 refine wB ?_
 obtain⟨x11,g,hF⟩:=Rx g hF
 refine wW ?_
 refine wC hF [.sh] zg9 (fun z12 hF=>?_)
 refine wK [0,1,5,7,8,16] ?_
 refine wI hF (fun h13 hF=>?_) (fun h13 hF=>?_)
 ·cases ho6 _ (zaa hF)
  cases hΦ _ (hr2 _ hψ8)
  refine wW ?_
  try simp[go_sem,g]
 refine wW ?_
 exact wi hi9 hi10 (hg7 _) (zaa hF)
def za2 (a0:List Int):Option Bool:=
 (zbe a0).bind fun z1=>
 some (decide (0≤z1))
theorem zdm:∀{a0}{r},za2 a0=some r→PCalls Tryz.prog 144 [(.sh,vA a0),(.sh,.func (.func 145) [] [.fp [.func (.func 68) [] []]])] (Eo (.bool r) [.junk,.junk]):=by
 intro a0 r hr
 apply pF 9 [] [] [] [.tmp 4] hr zn5 Tryz.func144
 intro Φ hΦ hF g
 unfold za2 at hF
 refine wW ?_
 refine wC hF [.sh,.sh] zdM (fun z1 hF=>?_)
 exact wl hΦ hF
def zbn (a0:List Int):Option Bool:=
 (za2 a0).bind fun z1=>
 some (!z1)
theorem zfe:∀{a0}{r},zbn a0=some r→PCalls Tryz.prog 96 [(.sh,vA a0),(.sh,.func (.func 68) [] [])] (Eo (.bool r) [.junk,.junk]):=by
 intro a0 r hr
 apply pF 9 [] [] [1000000] [.tmp 4] hr zpU Tryz.func96
 intro Φ hΦ hF g
 unfold zbn at hF
 refine wW ?_
 refine wC hF [.sh,.sh] zdm (fun z1 hF=>?_)
 exact wl hΦ hF
def zd7 (a0:List Int):Option Bool:=
 ((if decide ((a0.length:Int)≤400)=true then(
 (zbn a0).bind fun z5=>
 some z5)else(
 some false):Option Bool).bind fun x3=>
 some x3)
theorem zmd:∀{a0}{r},zd7 a0=some r→PCalls Tryz.prog 166 [(.sh,vA a0)] (Eo (.bool r) [.junk]):=by
 intro a0 r hr
 apply pF 10 [] [] [] [.tmp 2] hr zC3 Tryz.func166
 intro Φ hΦ hF g
 unfold zd7 at hF
 refine wW ?_
 refine wJ hF (fun x3=>[(2,.v (.bool x3))]) (fun x3 hF=>?_) fun _ hj1 hF=>?_
 ·exact wm hΦ hF
 try simp[go_sem,g]
 try intros
 refine wG hF (fun h4 hF=>?_) fun h4 hF=>?_
 ·try simp[go_sem,g,h4]
  refine wC hF [.sh,.sh] zfe (fun z5 hF=>?_)
  exact wV h4 (hj1 _) (zaa hF)
 exact wV h4 (hj1 _) (zaa hF)
def zgB (a0:List Int):Option Int:=
 gd (([(a0.length:Int)].length+a0.length)*8≤140737488355328∧[(a0.length:Int)].length+a0.length≤4611686018427387904)<|
 (some ([(a0.length:Int)]++a0)).bind fun x1=>
 ((zak (σ:=Int×Int) (fun i7 s6=>
 (ix x1 i7).bind fun x13=>
 some (.go ((i64.wrap ((i64.wrap ((i64.wrap (48271*((i64.wrap ((i64.wrap ((i64.wrap (48271*s6.1))+(i64.wrap ((BitVec.ofInt i64.bits x13&&&BitVec.ofInt i64.bits 2147483647).toNat))))+1)).tmod 2147483647)))+(x13.fdiv 2147483648)))+1)).tmod 2147483647,(i64.wrap ((i64.wrap ((i64.wrap (69621*((i64.wrap ((i64.wrap ((i64.wrap (69621*s6.2))+(i64.wrap ((BitVec.ofInt i64.bits x13&&&BitVec.ofInt i64.bits 2147483647).toNat))))+1)).tmod 2147483647)))+(x13.fdiv 2147483648)))+1)).tmod 2147483647))) (fun s6=>(s6.1,s6.2)) (x1.length) 0 (1,2):Option ((Int×Int))).bind fun x5=>
 some (i64.wrap ((i64.wrap (x5.1*2147483648))+x5.2)))
theorem zri:∀{a0}{r},zgB a0=some r→PCalls Tryz.prog 167 [(.sh,vA a0)] (Eo (.int .i64 r) [.junk]):=by
 intro a0 r hr
 apply pF 52 [] [] [] [.tmp 2] hr zBH Tryz.func167
 intro Φ hΦ hF g
 unfold zgB at hF
 obtain⟨g,hF⟩:=Rg g hF
 obtain⟨x1,e2,hF⟩:=zdV hF
 have g:=And.intro g (show[.int .i64 (a0.length:Int)]::(List.map zaf a0)=x1.map zaf by injection e2 with e2;rw[←e2];simp[go_sem])
 iterate 2 (try simp[go_sem,g];try intros;refine zal ?_)
 try simp[go_sem,g]
 try intros
 refine wK [3,4,13,14,15] ?_
 refine wJ hF (fun x5=>[(3,.v (.int .i64 x5.1)),(4,.v (.int .i64 x5.2))]) (fun x5 hF=>?_) fun _ hj3 hF=>?_
 ·have g:=Ls g 31
  exact wl hΦ hF
 refine wB ?_
 obtain⟨b14,hb15,hψ10⟩:=hF
 refine pR hb15 (fun i7 s6=>[(3,.v (.int .i64 s6.1)),(4,.v (.int .i64 s6.2)),(13,.v (vF x1)),(14,.v (.int .i64 (x1.length:Int))),(15,.v (.int .i64 i7))]) (fun s6 _ hN16=>?_) (fun i7 s6 _ _ hi11 hi12 ho8 hg9 hF=>?_)
 ·exact wn hN16 (hj3 _) hψ10
 refine wW ?_
 refine wu hi11 hi12 ?_
 refine wW ?_
 refine wB ?_
 obtain⟨x13,g,hF⟩:=Rx g hF
 have g:=Ls g 31
 refine wW ?_
 refine wK [3,4,7,8,13,14,15] ?_
 have g:=Ld g 2147483647
 refine wW ?_
 refine wK [3,4,7,8,13,14,15] ?_
 refine wW ?_
 refine wK [3,4,13,14,15] ?_
 exact wi hi11 hi12 (hg9 _) (zaa hF)
def zeQ (a0:List Int):Option (Int×Bool):=
 (zd7 a0).bind fun z1=>
 if(!z1)=true then(
 some (0,false))else(
 (zgB a0).bind fun z3=>
 some (z3,true))
theorem znN:∀{a0}{r},zeQ a0=some r→PCalls Tryz.prog 124 [(.sh,vA a0)] (Eo (.tup [.int .i64 r.1,.bool r.2]) [.junk]):=by
 intro a0 r hr
 apply pF 9 [] [] [] [.tmp 2,.tmp 3] hr zCI Tryz.func124
 intro Φ hΦ hF g
 unfold zeQ at hF
 refine wW ?_
 refine wC hF [.sh] zmd (fun z1 hF=>?_)
 refine wW ?_
 refine wI hF (fun h2 hF=>?_) (fun h2 hF=>?_)
 ·exact wl hΦ hF
 refine wW ?_
 refine wC hF [.sh] zri (fun z3 hF=>?_)
 exact wl hΦ hF
def zcD (a0:ByteArray) (a1:List Int):Option (Int×Bool):=
 ((if decide (40<(a0.size:Int))=true then(
 some true)else(
 some (decide (400<(a1.length:Int)))):Option Bool).bind fun x3=>
 if x3=true then(
 some (0,false))else(
 (zf6 a0 a1).bind fun z6=>
 (zeQ z6).bind fun z7=>
 some (z7.1,z7.2)))
theorem zhz:∀{a0}{a1}{r},zcD a0 a1=some r→PCalls Tryz.prog 72 [(.sh,.str a0),(.sh,vA a1)] (Eo (.tup [.int .i64 r.1,.bool r.2]) [.junk,.junk]):=by
 intro a0 a1 r hr
 apply pF 20 [] [] [] [.tmp 4,.tmp 5] hr zHc Tryz.func72
 intro Φ hΦ hF g
 unfold zcD at hF
 refine wW ?_
 refine wJ hF (fun x3=>[(0,.v (.str a0)),(1,.v (vA a1)),(13,.v (.bool x3))]) (fun x3 hF=>?_) fun _ hj1 hF=>?_
 ·refine wI hF (fun h5 hF=>?_) (fun h5 hF=>?_)
  ·exact wl hΦ hF
  refine wW ?_
  refine wC hF [.sh,.sh] znQ (fun z6 hF=>?_)
  refine wC hF [.sh] znN (fun z7 hF=>?_)
  refine wK [4,5] ?_
  exact wm hΦ hF
 refine wG hF (fun h4 hF=>?_) fun h4 hF=>?_
 ·exact wV h4 (hj1 _) (zaa hF)
 try simp[go_sem,g,h4]
 try intros
 exact wT (hj1 _) (zaa hF)
def zbk (a0:Group) (a1:ByteArray) (a2:List Int):Option (Int×Bool):=
 gd (([a0.P,a0.Q,a0.G].length+a2.length)*8≤140737488355328∧[a0.P,a0.Q,a0.G].length+a2.length≤4611686018427387904)<|
 (zcD a1 ([a0.P,a0.Q,a0.G]++a2)).bind fun z1=>
 if(!z1.2)=true then(
 some (0,false))else(
 gd (a0.Q≠0)<|
 some (z1.1.tmod a0.Q,true))
theorem zgF:∀{a0}{a1}{a2}{r},zbk a0 a1 a2=some r→PCalls Tryz.prog 156 [(.sh,vD a0),(.sh,.str a1),(.sh,vA a2)] (Eo (.tup [.int .i64 r.1,.bool r.2]) [.junk,.junk,.junk]):=by
 intro a0 a1 a2 r hr
 apply pF 30 [] [] [] [.tmp 6,.tmp 7] hr zDf Tryz.func156
 intro Φ hΦ hF g
 unfold zbk at hF
 obtain⟨g,hF⟩:=Rg g hF
 refine wW ?_
 refine wC hF [.sh,.sh] zhz (fun z1 hF=>?_)
 refine wK [3,8,9] ?_
 refine wW ?_
 refine wI hF (fun h2 hF=>?_) (fun h2 hF=>?_)
 ·exact wl hΦ hF
 obtain⟨g,hF⟩:=Rz g hF
 cases hΦ _ (zaa hF)
 iterate 2 refine wW ?_
 try simp[go_sem,g]
def zbj (a0:Group) (a1:Int):Option Int:=
 (zgq a1 a0.Q).bind fun z1=>
 some z1
theorem zfy:∀{a0}{a1}{r},zbj a0 a1=some r→PCalls Tryz.prog 55 [(.sh,vD a0),(.sh,.int .i64 a1)] (Eo (.int .i64 r) [.junk,.junk]):=by
 intro a0 a1 r hr
 apply pF 9 [] [] [] [.tmp 4] hr zI1 Tryz.func55
 intro Φ hΦ hF g
 unfold zbj at hF
 refine wW ?_
 refine wC hF [.sh,.sh] znO (fun z1 hF=>?_)
 exact wl hΦ hF
@[go_sem] def zzi:List DE:=[d2 0 [5] 5 5,d0 1 [1],d0 2 [2],d2 4 [5] 5 5,d0 5 [2],d0 6 [3],d1 8 [12] 12,d2 9 [31] 12 31,d3 3 [25],d3 7 [27,28,29],d0 10 [26,30,32],⟨11,[33],[],none,true,true,true⟩,d3 12 [23,24,34],d0 13 [35],d0 14 [22],d0 15 [22],d0 16 [36],d0 17 [37]]
@[go_sem] def zzn:List DE:=[d1 0 [12] 12,d2 1 [51] 12 51,d2 2 [5] 5 5,d0 3 [16],d0 4 [13],d0 5 [3],d0 6 [15],d0 7 [56,57],d0 8 [58],d0 9 [55,59],d0 10 [54,60],d3 11 [53,61],d0 12 [62],⟨13,[52,63],[],none,true,false,false⟩,d1 14 [12] 12,d2 15 [65,64] 12 65]
end
end Go.Pm
