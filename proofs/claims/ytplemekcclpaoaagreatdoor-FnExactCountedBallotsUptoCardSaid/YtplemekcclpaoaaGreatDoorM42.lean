/-
  Plain functions and their walks. Written by wip/tools/lift.py.
-/
import Derived.Test.YtplemekcclpaoaaGreatDoorIt
namespace Go.Pm
open Go.Am IntKind
open Go.Proofs
set_option maxRecDepth 100000
attribute [local irreducible] pw pwx pw1 pwg qv qz qf
attribute [-simp] List.map_set
set_option linter.unusedSimpArgs false
set_option linter.unusedVariables false
noncomputable section
structure Group where
 P:Int
 Q:Int
 G:Int
structure Contest where
 Kind:Int
 Options:Int
 Least:Int
 Most:Int
 Points:Int
structure Plan where
 Gr:Group
 Ct:Contest
 Threshold:Int
 Trustees:Int
 Mixers:Int
 Voters:Int
 Seed:Int
structure Proof where
 Commits:(List Int)
 Challenges:(List Int)
 Responses:(List Int)
structure Entry where
 Kind:Int
 Author:Int
 Data:(List Int)
 Sign:Proof
structure Board where
 Keys:(List Int)
 Entries:(List Entry)
structure Bases where
 H:Int
 Hs:(List Int)
structure l3State where
 s:Int
 t:Int
structure Cipher where
 A:Int
 B:Int
structure Sealed where
 Voter:Int
 Ciphers:(List Cipher)
 Proofs:(List Proof)
 Sum:Proof
structure EqualLog where
 G1:Int
 Y1:Int
 G2:Int
 Y2:Int
structure listReader where
 l:(List Int)
 ok:Bool
def zaf(x:Int):List PV:=[.int .i64 x]
variable{Author Kind:Int}{Data x:(List Int)}{i:Nat}{l:List Entry}
@[go_sem] theorem zEt{x:Int}:zaf x=[.int .i64 x]:=(rfl)
@[go_sem] theorem zsg{l:List Int}:List.map (List.map drop∘zaf) l=l.map zaf:=by refine List.map_congr_left fun x _=>?_;simp[go_sem]
@[go_sem] theorem zz8{l:List Int}:List.map (List.map drop) (l.map zaf)=l.map zaf:=by rw[List.map_map];exact zsg
@[go_sem] theorem zBZ{l:List Int}{a:Int}:(l.map zaf).set i [.int .i64 a]=(l.set i a).map zaf:=by rw[List.map_set];rfl
def zbA(x:Entry):List PV:=[.int .i64 x.Kind,.int .i64 x.Author,.sl false 1 (x.Data.map zaf),.sl false 1 (x.Sign.Commits.map zaf),.sl false 1 (x.Sign.Challenges.map zaf),.sl false 1 (x.Sign.Responses.map zaf)]
@[go_sem] theorem zzf{x:Entry}:zbA x=[.int .i64 x.Kind,.int .i64 x.Author,.sl false 1 (x.Data.map zaf),.sl false 1 (x.Sign.Commits.map zaf),.sl false 1 (x.Sign.Challenges.map zaf),.sl false 1 (x.Sign.Responses.map zaf)]:=(rfl)
@[go_sem] theorem znH :List.map (List.map drop∘zbA) l=l.map zbA:=by refine List.map_congr_left fun x _=>?_;simp[go_sem]
@[go_sem] theorem zwW :List.map (List.map drop) (l.map zbA)=l.map zbA:=by rw[List.map_map];exact znH
@[go_sem] theorem zwZ{SignCommits:(List Int)}{SignChallenges:(List Int)}{SignResponses:(List Int)}:(l.map zbA).set i [.int .i64 Kind,.int .i64 Author,.sl false 1 (Data.map zaf),.sl false 1 (SignCommits.map zaf),.sl false 1 (SignChallenges.map zaf),.sl false 1 (SignResponses.map zaf)]=(l.set i (Entry.mk Kind Author Data (Proof.mk SignCommits SignChallenges SignResponses))).map zbA:=by rw[List.map_set];rfl
@[go_sem] theorem zyH{Sign:Proof}:(l.map zbA).set i [.int .i64 Kind,.int .i64 Author,.sl false 1 (Data.map zaf),.sl false 1 (Sign.Commits.map zaf),.sl false 1 (Sign.Challenges.map zaf),.sl false 1 (Sign.Responses.map zaf)]=(l.set i (Entry.mk Kind Author Data Sign)).map zbA:=by rw[List.map_set];rfl
def zbH(x:Entry):List PV:=[.int .i64 x.Kind,.int .i64 x.Author,.sl true 1 (x.Data.map zaf),.sl true 1 (x.Sign.Commits.map zaf),.sl true 1 (x.Sign.Challenges.map zaf),.sl true 1 (x.Sign.Responses.map zaf)]
@[go_sem] theorem zwX{x:Entry}:zbH x=[.int .i64 x.Kind,.int .i64 x.Author,.sl true 1 (x.Data.map zaf),.sl true 1 (x.Sign.Commits.map zaf),.sl true 1 (x.Sign.Challenges.map zaf),.sl true 1 (x.Sign.Responses.map zaf)]:=(rfl)
@[go_sem] theorem zlt :List.map (List.map drop∘zbH) l=l.map zbA:=by refine List.map_congr_left fun x _=>?_;simp[go_sem]
@[go_sem] theorem zuK :List.map (List.map drop) (l.map zbH)=l.map zbA:=by rw[List.map_map];exact zlt
@[go_sem] theorem zvh{SignCommits:(List Int)}{SignChallenges:(List Int)}{SignResponses:(List Int)}:(l.map zbH).set i [.int .i64 Kind,.int .i64 Author,.sl true 1 (Data.map zaf),.sl true 1 (SignCommits.map zaf),.sl true 1 (SignChallenges.map zaf),.sl true 1 (SignResponses.map zaf)]=(l.set i (Entry.mk Kind Author Data (Proof.mk SignCommits SignChallenges SignResponses))).map zbH:=by rw[List.map_set];rfl
@[go_sem] theorem zvt{Sign:Proof}:(l.map zbH).set i [.int .i64 Kind,.int .i64 Author,.sl true 1 (Data.map zaf),.sl true 1 (Sign.Commits.map zaf),.sl true 1 (Sign.Challenges.map zaf),.sl true 1 (Sign.Responses.map zaf)]=(l.set i (Entry.mk Kind Author Data Sign)).map zbH:=by rw[List.map_set];rfl
def zg3(x:Int):List PV:=[.int .u8 x]
@[go_sem] theorem zHo{x:Int}:zg3 x=[.int .u8 x]:=(rfl)
@[go_sem] theorem zsV{l:List Int}:List.map (List.map drop∘zg3) l=l.map zg3:=by refine List.map_congr_left fun x _=>?_;simp[go_sem]
@[go_sem] theorem zBE{l:List Int}:List.map (List.map drop) (l.map zg3)=l.map zg3:=by rw[List.map_map];exact zsV
@[go_sem] theorem zCw{l:List Int}{a:Int}:(l.map zg3).set i [.int .u8 a]=(l.set i a).map zg3:=by rw[List.map_set];rfl
def zdY(x:List Int):List PV:=[.sl false 1 (x.map zaf)]
@[go_sem] theorem zB0 :zdY x=[.sl false 1 (x.map zaf)]:=(rfl)
@[go_sem] theorem zqh{l:List (List Int)}:List.map (List.map drop∘zdY) l=l.map zdY:=by refine List.map_congr_left fun x _=>?_;simp[go_sem]
@[go_sem] theorem zzP{l:List (List Int)}:List.map (List.map drop) (l.map zdY)=l.map zdY:=by rw[List.map_map];exact zqh
@[go_sem] theorem zBN{l:List (List Int)}{a:(List Int)}:(l.map zdY).set i [.sl false 1 (a.map zaf)]=(l.set i a).map zdY:=by rw[List.map_set];rfl
def zhr(x:List Int):List PV:=[.sl true 1 (x.map zaf)]
@[go_sem] theorem zCk :zhr x=[.sl true 1 (x.map zaf)]:=(rfl)
@[go_sem] theorem zqp{l:List (List Int)}:List.map (List.map drop∘zhr) l=l.map zdY:=by refine List.map_congr_left fun x _=>?_;simp[go_sem]
@[go_sem] theorem zyS{l:List (List Int)}:List.map (List.map drop) (l.map zhr)=l.map zdY:=by rw[List.map_map];exact zqp
@[go_sem] theorem zBR{l:List (List Int)}{a:(List Int)}:(l.map zhr).set i [.sl true 1 (a.map zaf)]=(l.set i a).map zhr:=by rw[List.map_set];rfl
def zcb(x:Cipher):List PV:=[.int .i64 x.A,.int .i64 x.B]
@[go_sem] theorem zz7{x:Cipher}:zcb x=[.int .i64 x.A,.int .i64 x.B]:=(rfl)
@[go_sem] theorem zoJ{l:List Cipher}:List.map (List.map drop∘zcb) l=l.map zcb:=by refine List.map_congr_left fun x _=>?_;simp[go_sem]
@[go_sem] theorem zw9{l:List Cipher}:List.map (List.map drop) (l.map zcb)=l.map zcb:=by rw[List.map_map];exact zoJ
@[go_sem] theorem zy9{l:List Cipher}{A:Int}{B:Int}:(l.map zcb).set i [.int .i64 A,.int .i64 B]=(l.set i (Cipher.mk A B)).map zcb:=by rw[List.map_set];rfl
def za0(x:Proof):List PV:=[.sl false 1 (x.Commits.map zaf),.sl false 1 (x.Challenges.map zaf),.sl false 1 (x.Responses.map zaf)]
@[go_sem] theorem zxY{x:Proof}:za0 x=[.sl false 1 (x.Commits.map zaf),.sl false 1 (x.Challenges.map zaf),.sl false 1 (x.Responses.map zaf)]:=(rfl)
@[go_sem] theorem zmj{l:List Proof}:List.map (List.map drop∘za0) l=l.map za0:=by refine List.map_congr_left fun x _=>?_;simp[go_sem]
@[go_sem] theorem zvi{l:List Proof}:List.map (List.map drop) (l.map za0)=l.map za0:=by rw[List.map_map];exact zmj
@[go_sem] theorem zwY{l:List Proof}{Commits:(List Int)}{Challenges:(List Int)}{Responses:(List Int)}:(l.map za0).set i [.sl false 1 (Commits.map zaf),.sl false 1 (Challenges.map zaf),.sl false 1 (Responses.map zaf)]=(l.set i (Proof.mk Commits Challenges Responses)).map za0:=by rw[List.map_set];rfl
def zc6(x:Proof):List PV:=[.sl true 1 (x.Commits.map zaf),.sl true 1 (x.Challenges.map zaf),.sl true 1 (x.Responses.map zaf)]
@[go_sem] theorem zyg{x:Proof}:zc6 x=[.sl true 1 (x.Commits.map zaf),.sl true 1 (x.Challenges.map zaf),.sl true 1 (x.Responses.map zaf)]:=(rfl)
@[go_sem] theorem zmf{l:List Proof}:List.map (List.map drop∘zc6) l=l.map za0:=by refine List.map_congr_left fun x _=>?_;simp[go_sem]
@[go_sem] theorem zvg{l:List Proof}:List.map (List.map drop) (l.map zc6)=l.map za0:=by rw[List.map_map];exact zmf
@[go_sem] theorem zwV{l:List Proof}{Commits:(List Int)}{Challenges:(List Int)}{Responses:(List Int)}:(l.map zc6).set i [.sl true 1 (Commits.map zaf),.sl true 1 (Challenges.map zaf),.sl true 1 (Responses.map zaf)]=(l.set i (Proof.mk Commits Challenges Responses)).map zc6:=by rw[List.map_set];rfl
def zcr(x:EqualLog):List PV:=[.int .i64 x.G1,.int .i64 x.Y1,.int .i64 x.G2,.int .i64 x.Y2]
@[go_sem] theorem zyA{x:EqualLog}:zcr x=[.int .i64 x.G1,.int .i64 x.Y1,.int .i64 x.G2,.int .i64 x.Y2]:=(rfl)
@[go_sem] theorem zm5{l:List EqualLog}:List.map (List.map drop∘zcr) l=l.map zcr:=by refine List.map_congr_left fun x _=>?_;simp[go_sem]
@[go_sem] theorem zwq{l:List EqualLog}:List.map (List.map drop) (l.map zcr)=l.map zcr:=by rw[List.map_map];exact zm5
@[go_sem] theorem zw8{l:List EqualLog}{G1:Int}{Y1:Int}{G2:Int}{Y2:Int}:(l.map zcr).set i [.int .i64 G1,.int .i64 Y1,.int .i64 G2,.int .i64 Y2]=(l.set i (EqualLog.mk G1 Y1 G2 Y2)).map zcr:=by rw[List.map_set];rfl
def vA(x:List Int):PV:=.sl false 1 (x.map zaf)
@[go_sem] theorem zT8 :vA x=.sl false 1 (x.map zaf):=(rfl)
def vB(x:Proof):PV:=.agg [.sl false 1 (x.Commits.map zaf),.sl false 1 (x.Challenges.map zaf),.sl false 1 (x.Responses.map zaf)]
@[go_sem] theorem zVm{x:Proof}:vB x=.agg [.sl false 1 (x.Commits.map zaf),.sl false 1 (x.Challenges.map zaf),.sl false 1 (x.Responses.map zaf)]:=(rfl)
def vC(x:Entry):PV:=.agg [.int .i64 x.Kind,.int .i64 x.Author,.sl false 1 (x.Data.map zaf),.sl false 1 (x.Sign.Commits.map zaf),.sl false 1 (x.Sign.Challenges.map zaf),.sl false 1 (x.Sign.Responses.map zaf)]
@[go_sem] theorem zT6{x:Entry}:vC x=.agg [.int .i64 x.Kind,.int .i64 x.Author,.sl false 1 (x.Data.map zaf),.sl false 1 (x.Sign.Commits.map zaf),.sl false 1 (x.Sign.Challenges.map zaf),.sl false 1 (x.Sign.Responses.map zaf)]:=(rfl)
def vD(x:List Entry):PV:=.sl false 6 (x.map zbA)
@[go_sem] theorem zTU{x:(List Entry)}:vD x=.sl false 6 (x.map zbA):=(rfl)
def vE(x:Board):PV:=.agg [.sl false 1 (x.Keys.map zaf),.sl false 6 (x.Entries.map zbA)]
@[go_sem] theorem zUP{x:Board}:vE x=.agg [.sl false 1 (x.Keys.map zaf),.sl false 6 (x.Entries.map zbA)]:=(rfl)
def vF(x:Group):PV:=.agg [.int .i64 x.P,.int .i64 x.Q,.int .i64 x.G]
@[go_sem] theorem zUo{x:Group}:vF x=.agg [.int .i64 x.P,.int .i64 x.Q,.int .i64 x.G]:=(rfl)
def vG(x:Contest):PV:=.agg [.int .i64 x.Kind,.int .i64 x.Options,.int .i64 x.Least,.int .i64 x.Most,.int .i64 x.Points]
@[go_sem] theorem zTQ{x:Contest}:vG x=.agg [.int .i64 x.Kind,.int .i64 x.Options,.int .i64 x.Least,.int .i64 x.Most,.int .i64 x.Points]:=(rfl)
def vH(x:Plan):PV:=.agg [.int .i64 x.Gr.P,.int .i64 x.Gr.Q,.int .i64 x.Gr.G,.int .i64 x.Ct.Kind,.int .i64 x.Ct.Options,.int .i64 x.Ct.Least,.int .i64 x.Ct.Most,.int .i64 x.Ct.Points,.int .i64 x.Threshold,.int .i64 x.Trustees,.int .i64 x.Mixers,.int .i64 x.Voters,.int .i64 x.Seed]
@[go_sem] theorem zTg{x:Plan}:vH x=.agg [.int .i64 x.Gr.P,.int .i64 x.Gr.Q,.int .i64 x.Gr.G,.int .i64 x.Ct.Kind,.int .i64 x.Ct.Options,.int .i64 x.Ct.Least,.int .i64 x.Ct.Most,.int .i64 x.Ct.Points,.int .i64 x.Threshold,.int .i64 x.Trustees,.int .i64 x.Mixers,.int .i64 x.Voters,.int .i64 x.Seed]:=(rfl)
def vI(x:List Int):PV:=.sl true 1 (x.map zaf)
@[go_sem] theorem zS1 :vI x=.sl true 1 (x.map zaf):=(rfl)
def vJ(x:Proof):PV:=.agg [.sl true 1 (x.Commits.map zaf),.sl true 1 (x.Challenges.map zaf),.sl true 1 (x.Responses.map zaf)]
@[go_sem] theorem zVF{x:Proof}:vJ x=.agg [.sl true 1 (x.Commits.map zaf),.sl true 1 (x.Challenges.map zaf),.sl true 1 (x.Responses.map zaf)]:=(rfl)
def vK(x:Entry):PV:=.agg [.int .i64 x.Kind,.int .i64 x.Author,.sl true 1 (x.Data.map zaf),.sl true 1 (x.Sign.Commits.map zaf),.sl true 1 (x.Sign.Challenges.map zaf),.sl true 1 (x.Sign.Responses.map zaf)]
@[go_sem] theorem zTb{x:Entry}:vK x=.agg [.int .i64 x.Kind,.int .i64 x.Author,.sl true 1 (x.Data.map zaf),.sl true 1 (x.Sign.Commits.map zaf),.sl true 1 (x.Sign.Challenges.map zaf),.sl true 1 (x.Sign.Responses.map zaf)]:=(rfl)
def vL(x:List Entry):PV:=.sl true 6 (x.map zbH)
@[go_sem] theorem zVd{x:(List Entry)}:vL x=.sl true 6 (x.map zbH):=(rfl)
def vM(x:Board):PV:=.agg [.sl true 1 (x.Keys.map zaf),.sl true 6 (x.Entries.map zbH)]
@[go_sem] theorem zUj{x:Board}:vM x=.agg [.sl true 1 (x.Keys.map zaf),.sl true 6 (x.Entries.map zbH)]:=(rfl)
def vN(x0:Int)(x1:Int):PV:=.bx [.int .i64 x0,.int .i64 x1]
@[go_sem] theorem zVf{x0:Int}{x1:Int}:vN x0 x1=.bx [.int .i64 x0,.int .i64 x1]:=(rfl)
def vO(x:Bases):PV:=.agg [.int .i64 x.H,.sl true 1 (x.Hs.map zaf)]
@[go_sem] theorem zUB{x:Bases}:vO x=.agg [.int .i64 x.H,.sl true 1 (x.Hs.map zaf)]:=(rfl)
def vP(x:List Int):PV:=.sl true 1 (x.map zg3)
@[go_sem] theorem zU4 :vP x=.sl true 1 (x.map zg3):=(rfl)
def vQ(x:(List (List Int))):PV:=.sl false 1 (x.map zdY)
@[go_sem] theorem zUz{x:(List (List Int))}:vQ x=.sl false 1 (x.map zdY):=(rfl)
def vR(x:(List (List Int))):PV:=.sl true 1 (x.map zhr)
@[go_sem] theorem zUa{x:(List (List Int))}:vR x=.sl true 1 (x.map zhr):=(rfl)
def vS(x:List Cipher):PV:=.sl true 2 (x.map zcb)
@[go_sem] theorem zUN{x:(List Cipher)}:vS x=.sl true 2 (x.map zcb):=(rfl)
def vT(x:List Proof):PV:=.sl true 3 (x.map zc6)
@[go_sem] theorem zUt{x:(List Proof)}:vT x=.sl true 3 (x.map zc6):=(rfl)
def vU(x:Sealed):PV:=.agg [.int .i64 x.Voter,.sl true 2 (x.Ciphers.map zcb),.sl true 3 (x.Proofs.map zc6),.sl true 1 (x.Sum.Commits.map zaf),.sl true 1 (x.Sum.Challenges.map zaf),.sl true 1 (x.Sum.Responses.map zaf)]
@[go_sem] theorem zVg{x:Sealed}:vU x=.agg [.int .i64 x.Voter,.sl true 2 (x.Ciphers.map zcb),.sl true 3 (x.Proofs.map zc6),.sl true 1 (x.Sum.Commits.map zaf),.sl true 1 (x.Sum.Challenges.map zaf),.sl true 1 (x.Sum.Responses.map zaf)]:=(rfl)
def vV(x:List Cipher):PV:=.sl false 2 (x.map zcb)
@[go_sem] theorem zSU{x:(List Cipher)}:vV x=.sl false 2 (x.map zcb):=(rfl)
def vW(x:List Proof):PV:=.sl false 3 (x.map za0)
@[go_sem] theorem zTw{x:(List Proof)}:vW x=.sl false 3 (x.map za0):=(rfl)
def vX(x:List EqualLog):PV:=.sl true 4 (x.map zcr)
@[go_sem] theorem zVC{x:(List EqualLog)}:vX x=.sl true 4 (x.map zcr):=(rfl)
def vY(x:Cipher):PV:=.agg [.int .i64 x.A,.int .i64 x.B]
@[go_sem] theorem zTP{x:Cipher}:vY x=.agg [.int .i64 x.A,.int .i64 x.B]:=(rfl)
def vZ(x:List EqualLog):PV:=.sl false 4 (x.map zcr)
@[go_sem] theorem zS7{x:(List EqualLog)}:vZ x=.sl false 4 (x.map zcr):=(rfl)
def vAA(x:Sealed):PV:=.agg [.int .i64 x.Voter,.sl false 2 (x.Ciphers.map zcb),.sl false 3 (x.Proofs.map za0),.sl false 1 (x.Sum.Commits.map zaf),.sl false 1 (x.Sum.Challenges.map zaf),.sl false 1 (x.Sum.Responses.map zaf)]
@[go_sem] theorem zSj{x:Sealed}:vAA x=.agg [.int .i64 x.Voter,.sl false 2 (x.Ciphers.map zcb),.sl false 3 (x.Proofs.map za0),.sl false 1 (x.Sum.Commits.map zaf),.sl false 1 (x.Sum.Challenges.map zaf),.sl false 1 (x.Sum.Responses.map zaf)]:=(rfl)
def vAB(x0:List Int)(x1:Bool):PV:=.bx [.sl false 1 (x0.map zaf),.bool x1]
@[go_sem] theorem zRQ{x0:(List Int)}{x1:Bool}:vAB x0 x1=.bx [.sl false 1 (x0.map zaf),.bool x1]:=(rfl)
def vAC(x:List Proof):PV:=.sl true 3 (x.map za0)
@[go_sem] theorem zQs{x:(List Proof)}:vAC x=.sl true 3 (x.map za0):=(rfl)
def vAD(x:(List (List Int))):PV:=.sl true 1 (x.map zdY)
@[go_sem] theorem zQT{x:(List (List Int))}:vAD x=.sl true 1 (x.map zdY):=(rfl)
def vAE(x:EqualLog):PV:=.agg [.int .i64 x.G1,.int .i64 x.Y1,.int .i64 x.G2,.int .i64 x.Y2]
@[go_sem] theorem zSE{x:EqualLog}:vAE x=.agg [.int .i64 x.G1,.int .i64 x.Y1,.int .i64 x.G2,.int .i64 x.Y2]:=(rfl)
def zcz(a0:List Int)(a1:Int):Option Int:=
 if decide ((i64.wrap (a1-(a0.length:Int)))<0)=true then(
 some (-1))else(
 some (i64.wrap (a1-(a0.length:Int))))
theorem zf8:∀{a0}{a1}{r},zcz a0 a1=some r→PCalls Tryz.prog 18 [(.sh,vA a0),(.sh,.int .i64 a1)] (Eo (.int .i64 r) [.junk,.junk]):=by
 intro a0 a1 r hr;apply pF 12 [] [] [] [.tmp 4] hr zHV Tryz.func18;intro Φ hΦ hF g;unfold zcz at hF
 iterate 3 (try simp[go_sem,g];try intros;refine zap ?_)
 refine wI hF (fun h1 hF=>?_) fun h1 hF=>?_
 ·exact wl hΦ hF
 refine wW ?_;refine wK [4] ?_;exact wm hΦ hF
def zgS(a0:Proof)(a1:Int):Option Int:=
 (zcz a0.Commits a1).bind fun z1=>
 if decide (z1<0)=true then(
 some (-1))else(
 (zcz a0.Challenges z1).bind fun z3=>
 if decide (z3<0)=true then(
 some (-1))else(
 (zcz a0.Responses z3).bind fun z5=>
 if decide (z5<0)=true then(
 some (-1))else(
 some z5)))
theorem zo9:∀{a0}{a1}{r},zgS a0 a1=some r→PCalls Tryz.prog 60 [(.sh,vB a0),(.sh,.int .i64 a1)] (Eo (.int .i64 r) [.junk,.junk]):=by
 intro a0 a1 r hr;apply pF 24 [] [] [] [.tmp 4] hr zI3 Tryz.func60;intro Φ hΦ hF g;unfold zgS at hF;refine wW ?_;refine wC hF [.sh,.sh] zf8 fun z1 hF=>?_
 iterate 2 refine wW ?_
 refine wI hF (fun h2 hF=>?_) fun h2 hF=>?_
 ·refine wK [4] ?_;exact wm hΦ hF
 refine wW ?_;refine wC hF [.sh,.sh] zf8 fun z3 hF=>?_
 refine wK [1,2] ?_;refine wW ?_;refine wI hF (fun h4 hF=>?_) fun h4 hF=>?_
 ·exact wl hΦ hF
 refine wW ?_;refine wC hF [.sh,.sh] zf8 fun z5 hF=>?_
 iterate 2 refine wW ?_
 refine wI hF (fun h6 hF=>?_) fun h6 hF=>?_
 ·refine wK [4] ?_;exact wm hΦ hF
 refine wW ?_;refine wK [4] ?_;exact wm hΦ hF
def zgJ(a0:Entry)(a1:Int):Option Int:=
 (zcz a0.Data a1).bind fun z1=>
 if decide (z1<0)=true then(
 some (-1))else(
 (zgS a0.Sign z1).bind fun z3=>
 if decide (z3<0)=true then(
 some (-1))else(
 some z3))
theorem zpE:∀{a0}{a1}{r},zgJ a0 a1=some r→PCalls Tryz.prog 35 [(.sh,vC a0),(.sh,.int .i64 a1)] (Eo (.int .i64 r) [.junk,.junk]):=by
 intro a0 a1 r hr;apply pF 18 [] [] [] [.tmp 4] hr zIC Tryz.func35;intro Φ hΦ hF g;unfold zgJ at hF;refine wW ?_;refine wC hF [.sh,.sh] zf8 fun z1 hF=>?_
 iterate 2 refine wW ?_
 refine wI hF (fun h2 hF=>?_) fun h2 hF=>?_
 ·refine wK [4] ?_;exact wm hΦ hF
 refine wW ?_;refine wC hF [.sh,.sh] zo9 fun z3 hF=>?_
 refine wK [1] ?_;refine wW ?_;refine wI hF (fun h4 hF=>?_) fun h4 hF=>?_
 ·exact wl hΦ hF
 cases hΦ _ (zaa hF)
 iterate 2 refine wW ?_
 try simp[go_sem,g]
def zh3(a0:List Entry)(a1:Int):Option Int:=
 if decide ((i64.wrap (a1-(a0.length:Int)))<0)=true then(
 some (-1))else(
 ((zau (σ:=Int×Int) (fun s5=>
 if decide (s5.2<(a0.length:Int))=true then(
 (ix a0 s5.2).bind fun x11=>
 (zgJ x11 s5.1).bind fun z12=>
 if decide (z12<0)=true then(
 some (.out (.inr (-1))))else(
 some (.go (z12,i64.wrap (s5.2+1)))))else(
 some (.out (.inl s5.1)))) (i64.wrap (a1-(a0.length:Int)),0):Option (Int ⊕ Int)).bind (Sum.elim (fun x4=>
 some x4) some)))
theorem zoq:∀{a0}{a1}{r},zh3 a0 a1=some r→PCalls Tryz.prog 19 [(.sh,vD a0),(.sh,.int .i64 a1)] (Eo (.int .i64 r) [.junk,.junk]):=by
 intro a0 a1 r hr;apply pF 27 [] [] [] [.tmp 4] hr zJ3 Tryz.func19;intro Φ hΦ hF g;unfold zh3 at hF
 iterate 3 (try simp[go_sem,g];try intros;refine zap ?_)
 refine wI hF (fun h1 hF=>?_) fun h1 hF=>?_
 ·exact wl hΦ hF
 iterate 2 refine wW ?_
 refine wS hF (fun x4=>[(1,.v (.int .i64 x4))]) (fun x4 hF=>?_) fun _ hj2 hr3 hF=>?_
 ·refine wK [4] ?_;exact wm hΦ hF
 refine wB ?_;obtain⟨b14,hb15,hψ9⟩:=hF;refine pL hb15 (fun s5=>[(0,.v (vD a0)),(1,.v (.int .i64 s5.1)),(5,.v (.int .i64 s5.2))]) fun s5 _ _ ho7 hg8 hF=>?_
 try simp[go_sem,g]
 try intros
 refine wK [0,1,5,15] ?_;refine wI hF (fun h10 hF=>?_) fun h10 hF=>?_
 ·refine wW ?_;refine wB ?_;obtain⟨x11,g,hF⟩:=Rx g hF;refine wC hF [.sh,.sh] zpE fun z12 hF=>?_
  iterate 2 refine wW ?_
  refine wI hF (fun h13 hF=>?_) fun h13 hF=>?_
  ·refine wK [4] ?_;cases ho7 _ (zaa hF);cases hΦ _ (hr3 _ hψ9);try simp[go_sem,g]
  refine wW ?_;exact wT (hg8 _) (zaa hF)
 cases ho7 _ (zaa hF);exact wT (hj2 _) hψ9
def zgQ(a0:Board)(a1:Int):Option Int:=
 (zcz a0.Keys a1).bind fun z1=>
 if decide (z1<0)=true then(
 some (-1))else(
 (zh3 a0.Entries z1).bind fun z3=>
 if decide (z3<0)=true then(
 some (-1))else(
 some z3))
theorem zo3:∀{a0}{a1}{r},zgQ a0 a1=some r→PCalls Tryz.prog 5 [(.sh,vE a0),(.sh,.int .i64 a1)] (Eo (.int .i64 r) [.junk,.junk]):=by
 intro a0 a1 r hr;apply pF 18 [] [] [] [.tmp 4] hr cl5 Tryz.func5;intro Φ hΦ hF g;unfold zgQ at hF;refine wW ?_;refine wC hF [.sh,.sh] zf8 fun z1 hF=>?_
 iterate 2 refine wW ?_
 refine wI hF (fun h2 hF=>?_) fun h2 hF=>?_
 ·refine wK [4] ?_;exact wm hΦ hF
 refine wW ?_;refine wC hF [.sh,.sh] zoq fun z3 hF=>?_
 refine wK [1] ?_;refine wW ?_;refine wI hF (fun h4 hF=>?_) fun h4 hF=>?_
 ·exact wl hΦ hF
 cases hΦ _ (zaa hF)
 iterate 2 refine wW ?_
 try simp[go_sem,g]
def zim(a0:Group):Option Group:=
 some a0
theorem zpD:∀{a0}{r},zim a0=some r→PCalls Tryz.prog 16 [(.sh,vF a0)] (Eo (vF r) [.junk]):=by
 intro a0 r hr;apply pF 14 [] [] [] [.cell 2 35] hr zKv Tryz.func16;intro Φ hΦ hF g;unfold zim at hF
 iterate 3 refine wW ?_
 refine wK [1,2,3] ?_;cases hΦ _ (zaa hF)
 iterate 2 refine wW ?_
 try simp[go_sem,g]
def zhs(a0:Contest):Option Contest:=
 some a0
theorem znU:∀{a0}{r},zhs a0=some r→PCalls Tryz.prog 22 [(.sh,vG a0)] (Eo (vG r) [.junk]):=by
 intro a0 r hr;apply pF 20 [] [] [] [.cell 2 36] hr zIA Tryz.func22;intro Φ hΦ hF g;unfold zhs at hF
 iterate 3 refine wW ?_
 refine wK [1,2,3] ?_
 iterate 2 refine wW ?_
 refine wK [2,3] ?_;exact wl hΦ hF
def ze7(a0:Plan):Option Plan:=
 (zim a0.Gr).bind fun z1=>
 (zhs a0.Ct).bind fun z2=>
 some (Plan.mk z1 z2 a0.Threshold a0.Trustees a0.Mixers a0.Voters a0.Seed)
theorem ziR:∀{a0}{r},ze7 a0=some r→PCalls Tryz.prog 7 [(.sh,vH a0)] (Eo (vH r) [.junk]):=by
 intro a0 r hr;apply pF 28 [] [] [] [.cell 2 38] hr cl7 Tryz.func7;intro Φ hΦ hF g;unfold ze7 at hF
 iterate 2 refine wW ?_
 refine wC hF [.sh] zpD fun z1 hF=>?_
 refine wW ?_;refine wC hF [.sh] znU fun z2 hF=>?_
 refine wK [1,2,3] ?_
 iterate 2 refine wW ?_
 refine wK [1,2,3] ?_
 iterate 2 refine wW ?_
 refine wK [2] ?_;exact wm hΦ hF
def zc3(a0:List Int):Option ((List Int)):=
 gd (0≤(a0.length:Int)∧(a0.length:Int)≤(a0.length:Int)∧8*(a0.length:Int)≤140737488355328∧(a0.length:Int)≤4611686018427387904)<|
 (some (List.replicate a0.length 0)).bind fun x1=>
 ((zau (σ:=(List Int)×Int) (fun s15=>
 if decide (s15.2<(a0.length:Int))=true then(
 (ix a0 s15.2).bind fun x21=>
 (ix s15.1 s15.2).bind fun x22=>
 some (.go (s15.1.set s15.2.toNat x21,i64.wrap (s15.2+1))))else(
 some (.out s15.1))) (x1,0):Option ((List Int))).bind fun x6=>
 some x6)
theorem zf5:∀{a0}{r},zc3 a0=some r→PCalls Tryz.prog 23 [(.sh,vA a0)] (Eo (vI r) [.junk]):=by
 intro a0 r hr;apply pF 22 [] [] [] [.tmp 2] hr zJV Tryz.func23;intro Φ hΦ hF g;unfold zc3 at hF;obtain⟨g,hF⟩:=Rg g hF;obtain⟨x1,e2,hF⟩:=zdA hF;have g3:List.replicate a0.length ([.int .i64 0]:List PV)=x1.map zaf:=by injection e2 with e2;rw[←e2];simp[go_sem]
 iterate 3 (try simp[go_sem,g,g3];try intros;refine zap ?_)
 refine wJ hF (fun x6=>[(3,.v (vI x6))]) (fun x6 hF=>?_) fun _ hj4 hF=>?_
 ·exact wl hΦ hF
 refine wB ?_;obtain⟨b23,hb24,hψ19⟩:=hF;refine pL hb24 (fun s15=>[(0,.v (vA a0)),(3,.v (vI s15.1)),(4,.v (.int .i64 s15.2))]) fun s15 _ _ ho17 hg18 hF=>?_
 try simp[go_sem,g]
 try intros
 refine wK [0,3,4,11] ?_;refine wI hF (fun h20 hF=>?_) fun h20 hF=>?_
 ·refine wW ?_;refine wB ?_;obtain⟨x21,g,hF⟩:=Rx g hF;obtain⟨x22,g,hF⟩:=Rx g hF;refine wW ?_;exact wT (hg18 _) (zaa hF)
 cases ho17 _ (zaa hF);exact wT (hj4 _) hψ19
def zfD(a0:Proof):Option Proof:=
 (zc3 a0.Commits).bind fun z1=>
 (zc3 a0.Challenges).bind fun z2=>
 (zc3 a0.Responses).bind fun z3=>
 some (Proof.mk z1 z2 z3)
theorem zoR:∀{a0}{r},zfD a0=some r→PCalls Tryz.prog 74 [(.sh,vB a0)] (Eo (vJ r) [.junk]):=by
 intro a0 r hr;apply pF 17 [] [] [] [.cell 2 82] hr zJd Tryz.func74;intro Φ hΦ hF g;unfold zfD at hF
 iterate 2 refine wW ?_
 refine wC hF [.sh] zf5 fun z1 hF=>?_
 refine wW ?_;refine wC hF [.sh] zf5 fun z2 hF=>?_
 refine wK [1,2,3] ?_;refine wC hF [.sh] zf5 fun z3 hF=>?_
 cases hΦ _ (zaa hF)
 iterate 2 refine wW ?_
 try simp[go_sem,g]
def zfy(a0:Entry):Option Entry:=
 (zc3 a0.Data).bind fun z1=>
 (zfD a0.Sign).bind fun z2=>
 some (Entry.mk a0.Kind a0.Author z1 z2)
theorem zpa:∀{a0}{r},zfy a0=some r→PCalls Tryz.prog 41 [(.sh,vC a0)] (Eo (vK r) [.junk]):=by
 intro a0 r hr;apply pF 19 [] [] [] [.cell 2 84] hr zKu Tryz.func41;intro Φ hΦ hF g;unfold zfy at hF
 iterate 3 refine wW ?_
 refine wK [1,2,3] ?_;refine wC hF [.sh] zf5 fun z1 hF=>?_
 refine wW ?_;refine wC hF [.sh] zoR fun z2 hF=>?_
 refine wK [2,3] ?_;exact wl hΦ hF
def zgi(a0:List Entry):Option ((List Entry)):=
 gd (0≤(a0.length:Int)∧(a0.length:Int)≤(a0.length:Int)∧112*(a0.length:Int)≤140737488355328∧(a0.length:Int)≤4611686018427387904)<|
 (some (List.replicate a0.length (Entry.mk 0 0 [] (Proof.mk [] [] [])))).bind fun x1=>
 ((zau (σ:=(List Entry)×Int) (fun s16=>
 if decide (s16.2<(a0.length:Int))=true then(
 (ix a0 s16.2).bind fun x22=>
 (zfy x22).bind fun z23=>
 (ix s16.1 s16.2).bind fun x24=>
 some (.go (s16.1.set s16.2.toNat z23,i64.wrap (s16.2+1))))else(
 some (.out s16.1))) (x1,0):Option ((List Entry))).bind fun x6=>
 some x6)
theorem zn2:∀{a0}{r},zgi a0=some r→PCalls Tryz.prog 24 [(.sh,vD a0)] (Eo (vL r) [.junk]):=by
 intro a0 r hr;apply pF 23 [] [30] [] [.tmp 2] hr zHZ Tryz.func24;intro Φ hΦ hF g;unfold zgi at hF;obtain⟨g,hF⟩:=Rg g hF;obtain⟨x1,e2,hF⟩:=zdA hF;have g3:List.replicate a0.length ([.int .i64 0,.int .i64 0,.sl true 1 [],.sl true 1 [],.sl true 1 [],.sl true 1 []]:List PV)=x1.map zbH:=by injection e2 with e2;rw[←e2];simp[go_sem]
 iterate 3 (try simp[go_sem,g,g3];try intros;refine zap ?_)
 refine wJ hF (fun x6=>[(3,.v (vL x6))]) (fun x6 hF=>?_) fun _ hj4 hF=>?_
 ·exact wl hΦ hF
 refine wB ?_;obtain⟨b25,hb26,hψ20⟩:=hF;refine pL hb26 (fun s16=>[(0,.v (vD a0)),(3,.v (vL s16.1)),(4,.v (.int .i64 s16.2))]) fun s16 _ _ ho18 hg19 hF=>?_
 try simp[go_sem,g]
 try intros
 refine wK [0,3,4,11] ?_;refine wI hF (fun h21 hF=>?_) fun h21 hF=>?_
 ·refine wW ?_;refine wB ?_;obtain⟨x22,g,hF⟩:=Rx g hF;refine wC hF [.sh] zpa fun z23 hF=>?_
  obtain⟨x24,g,hF⟩:=Rx g hF;refine wW ?_;exact wT (hg19 _) (zaa hF)
 cases ho18 _ (zaa hF);exact wT (hj4 _) hψ20
def zdi(a0:Board):Option Board:=
 (zc3 a0.Keys).bind fun z1=>
 (zgi a0.Entries).bind fun z2=>
 some (Board.mk z1 z2)
theorem zgI:∀{a0}{r},zdi a0=some r→PCalls Tryz.prog 8 [(.sh,vE a0)] (Eo (vM r) [.junk]):=by
 intro a0 r hr;apply pF 13 [] [] [] [.cell 2 42] hr cl8 Tryz.func8;intro Φ hΦ hF g;unfold zdi at hF
 iterate 2 refine wW ?_
 refine wC hF [.sh] zf5 fun z1 hF=>?_
 refine wW ?_;refine wC hF [.sh] zn2 fun z2 hF=>?_
 refine wK [2,3] ?_;exact wl hΦ hF
def zaV(a0:Int)(a1:Int)(a2:Int):Option Bool:=
 ((if decide (a1≤a0)=true then(
 some (decide (a0≤a2)))else(
 some false):Option Bool).bind fun x3=>
 some x3)
theorem zbj:∀{a0}{a1}{a2}{r},zaV a0 a1 a2=some r→PCalls Tryz.prog 62 [(.sh,.int .i64 a0),(.sh,.int .i64 a1),(.sh,.int .i64 a2)] (Eo (.bool r) [.junk,.junk,.junk]):=by
 intro a0 a1 a2 r hr;apply pF 15 [] [] [] [.tmp 6] hr zIY Tryz.func62;intro Φ hΦ hF g;unfold zaV at hF;refine wW ?_;refine wJ hF (fun x3=>[(6,.v (.bool x3))]) (fun x3 hF=>?_) fun _ hj1 hF=>?_
 ·exact wm hΦ hF
 refine wG hF (fun h4 hF=>?_) fun h4 hF=>?_
 ·exact wV h4 (hj1 _) (zaa hF)
 exact wV h4 (hj1 _) (zaa hF)
def zcy(a0:Int)(a1:Int)(a2:Int):Option Int:=
 gd (a2≠0)<|
 ((zau (σ:=Int×Int×Int) (fun s4=>
 if decide (0<s4.2.1)=true then(
 ((if((s4.2.1.tmod 2)==1)=true then(
 gd (a2≠0)<|
 some ((i64.wrap (s4.2.2*s4.1)).tmod a2))else(
 some s4.2.2):Option Int).bind fun x12=>
 gd (a2≠0)<|
 some (.go ((i64.wrap (s4.1*s4.1)).tmod a2,i64.wrap (s4.2.1.tdiv 2),x12))))else(
 some (.out s4.2.2))) (a0,a1,(1:Int).tmod a2):Option Int).bind fun x3=>
 some x3)
theorem zhf:∀{a0}{a1}{a2}{r},zcy a0 a1 a2=some r→PCalls Tryz.prog 103 [(.sh,.int .i64 a0),(.sh,.int .i64 a1),(.sh,.int .i64 a2)] (Eo (.int .i64 r) [.junk,.junk,.junk]):=by
 intro a0 a1 a2 r hr;apply pF 28 [] [] [] [.tmp 6] hr zDp Tryz.func103;intro Φ hΦ hF g;unfold zcy at hF;obtain⟨g,hF⟩:=Rz g hF
 iterate 2 refine wW ?_
 refine wJ hF (fun x3=>[(7,.v (.int .i64 x3))]) (fun x3 hF=>?_) fun _ hj1 hF=>?_
 ·exact wl hΦ hF
 refine wB ?_;obtain⟨b14,hb15,hψ8⟩:=hF;refine pL hb15 (fun s4=>[(0,.v (.int .i64 s4.1)),(1,.v (.int .i64 s4.2.1)),(2,.v (.int .i64 a2)),(7,.v (.int .i64 s4.2.2))]) fun s4 _ _ ho6 hg7 hF=>?_
 refine wW ?_;refine wI hF (fun h9 hF=>?_) fun h9 hF=>?_
 ·refine wW ?_;refine wB ?_;have g:=Ld g 2;refine wW ?_;refine wJK hF [0,1,2] (fun x12=>[(7,.v (.int .i64 x12))]) (fun x12 hF=>?_) fun _ hj10 hF=>?_
  ·obtain⟨g,hF⟩:=Rz g hF;refine wK [0,1,2,7] ?_;exact wT (hg7 _) (zaa hF)
  refine wI hF (fun h13 hF=>?_) fun h13 hF=>?_
  ·obtain⟨g,hF⟩:=Rz g hF;exact wT (hj10 _) (zaa hF)
  exact wT (hj10 _) (zaa hF)
 cases ho6 _ (zaa hF);exact wT (hj1 _) hψ8
def ze9(a0:Int):Option Bool:=
 if decide (a0<2)=true then(
 some false)else(
 ((zau (σ:=Int) (fun s5=>
 if decide ((i64.wrap (s5*s5))≤a0)=true then(
 gd (s5≠0)<|
 if((a0.tmod s5)==0)=true then(
 some (.out (.inr false)))else(
 some (.go (i64.wrap (s5+1)))))else(
 some (.out (.inl ())))) 2:Option (Unit ⊕ Bool)).bind (Sum.elim (fun x4=>
 some true) some)))
theorem zlr:∀{a0}{r},ze9 a0=some r→PCalls Tryz.prog 144 [(.sh,.int .i64 a0)] (Eo (.bool r) [.junk]):=by
 intro a0 r hr;apply pF 17 [] [] [] [.tmp 2] hr zFN Tryz.func144;intro Φ hΦ hF g;unfold ze9 at hF
 iterate 2 refine wW ?_
 refine wI hF (fun h1 hF=>?_) fun h1 hF=>?_
 ·exact wl hΦ hF
 iterate 2 refine wW ?_
 refine wS hF (fun x4=>[]) (fun x4 hF=>?_) fun _ hj2 hr3 hF=>?_
 ·exact wl hΦ hF
 refine wB ?_;obtain⟨b12,hb13,hψ9⟩:=hF;refine pL hb13 (fun s5=>[(0,.v (.int .i64 a0)),(3,.v (.int .i64 s5))]) fun s5 _ _ ho7 hg8 hF=>?_
 refine wW ?_;refine wI hF (fun h10 hF=>?_) fun h10 hF=>?_
 ·refine wW ?_;refine wB ?_;obtain⟨g,hF⟩:=Rz g hF;refine wK [0,3,16] ?_;refine wI hF (fun h11 hF=>?_) fun h11 hF=>?_
  ·cases ho7 _ (zaa hF);cases hΦ _ (hr3 _ hψ9);refine wW ?_;try simp[go_sem,g]
  refine wW ?_;exact wT (hg8 _) (zaa hF)
 cases ho7 _ (zaa hF);exact wT (hj2 _) hψ9
def zdE(a0:Group):Option Bool:=
 (((zaV a0.P 3 2000000000).bind fun z4=>
 if z4=true then(
 (zaV a0.Q 2 (i64.wrap (a0.P-1))).bind fun z6=>
 if z6=true then(
 gd (a0.Q≠0)<|
 if(((i64.wrap (a0.P-1)).tmod a0.Q)==0)=true then(
 (zaV a0.G 2 (i64.wrap (a0.P-1))).bind fun z9=>
 if z9=true then(
 (zcy a0.G a0.Q a0.P).bind fun z11=>
 if(z11==1)=true then(
 (ze9 a0.Q).bind fun z13=>
 if z13=true then(
 (ze9 a0.P).bind fun z15=>
 some z15)else(
 some false))else(
 some false))else(
 some false))else(
 some false))else(
 some false))else(
 some false):Option Bool).bind fun x3=>
 some x3)
theorem zhg:∀{a0}{r},zdE a0=some r→PCalls Tryz.prog 91 [(.sh,vF a0)] (Eo (.bool r) [.junk]):=by
 intro a0 r hr;apply pF 51 [] [] [] [.tmp 2] hr zH9 Tryz.func91;intro Φ hΦ hF g;unfold zdE at hF;refine wW ?_;refine wJ hF (fun x3=>[(2,.v (.bool x3))]) (fun x3 hF=>?_) fun _ hj1 hF=>?_
 ·exact wm hΦ hF
 refine wC hF [.sh,.sh,.sh] zbj fun z4 hF=>?_
 refine wG hF (fun h5 hF=>?_) fun h5 hF=>?_
 ·try simp[go_sem,g,h5]
  refine wC hF [.sh,.sh,.sh] zbj fun z6 hF=>?_
  try simp[go_sem,g,h5]
  refine wG hF (fun h7 hF=>?_) fun h7 hF=>?_
  ·obtain⟨g,hF⟩:=Rz g hF;try simp[go_sem,g,h7]
   refine wG hF (fun h8 hF=>?_) fun h8 hF=>?_
   ·try simp[go_sem,g,h8]
    refine wC hF [.sh,.sh,.sh] zbj fun z9 hF=>?_
    try simp[go_sem,g,h8]
    refine wG hF (fun h10 hF=>?_) fun h10 hF=>?_
    ·try simp[go_sem,g,h10]
     refine wC hF [.sh,.sh,.sh] zhf fun z11 hF=>?_
     try simp[go_sem,g,h10]
     refine wG hF (fun h12 hF=>?_) fun h12 hF=>?_
     ·try simp[go_sem,g,h12]
      refine wC hF [.sh] zlr fun z13 hF=>?_
      try simp[go_sem,g,h12]
      refine wG hF (fun h14 hF=>?_) fun h14 hF=>?_
      ·try simp[go_sem,g,h14]
       refine wC hF [.sh] zlr fun z15 hF=>?_
       exact wV h14 (hj1 _) (zaa hF)
      exact wV h14 (hj1 _) (zaa hF)
     exact wV h12 (hj1 _) (zaa hF)
    exact wV h10 (hj1 _) (zaa hF)
   exact wV h8 (hj1 _) (zaa hF)
  exact wV h7 (hj1 _) (zaa hF)
 exact wV h5 (hj1 _) (zaa hF)
def zfi(a0:Contest):Option Bool:=
 ((if decide (a0.Least<0)=true then(
 some true)else(
 some (decide (a0.Most<a0.Least))):Option Bool).bind fun x3=>
 if x3=true then(
 some false)else(
 ((if(a0.Kind==1)=true then(
 some (a0.Kind==1))else(
 some (a0.Kind==3)):Option Bool).bind fun x8=>
 if x8=true then(
 (((zaV a0.Options 1 8).bind fun z14=>
 if z14=true then(
 if decide (a0.Most≤a0.Options)=true then(
 some (a0.Points==0))else(
 some false))else(
 some false):Option Bool).bind fun x13=>
 some x13))else(
 if(a0.Kind==2)=true then(
 (((zaV a0.Options 1 8).bind fun z21=>
 if z21=true then(
 (zaV a0.Points 1 5).bind fun z23=>
 if z23=true then(
 some (decide (a0.Most≤(i64.wrap (a0.Options*a0.Points)))))else(
 some false))else(
 some false):Option Bool).bind fun x20=>
 some x20))else(
 ((if(a0.Kind==4)=true then(
 if(a0.Options==0)=true then(
 if decide (a0.Most≤5)=true then(
 some (a0.Points==0))else(
 some false))else(
 some false))else(
 some false):Option Bool).bind fun x27=>
 some x27))))))
theorem zoD:∀{a0}{r},zfi a0=some r→PCalls Tryz.prog 99 [(.sh,vG a0)] (Eo (.bool r) [.junk]):=by
 intro a0 r hr;apply pF 71 [] [] [] [.tmp 2] hr zLk Tryz.func99;intro Φ hΦ hF g;unfold zfi at hF;refine wW ?_;refine wJ hF (fun x3=>[(1,.bl [.int .i64 a0.Kind,.int .i64 a0.Options,.int .i64 a0.Least,.int .i64 a0.Most,.int .i64 a0.Points]),(12,.v (.bool x3))]) (fun x3 hF=>?_) fun _ hj1 hF=>?_
 ·refine wI hF (fun h5 hF=>?_) fun h5 hF=>?_
  ·exact wl hΦ hF
  iterate 2 refine wW ?_
  refine wB ?_;refine wW ?_;refine wJK hF [1,14] (fun x8=>[(15,.v (.bool x8))]) (fun x8 hF=>?_) fun _ hj6 hF=>?_
  ·refine wI hF (fun h10 hF=>?_) fun h10 hF=>?_
   ·refine wJ hF (fun x13=>[(2,.v (.bool x13))]) (fun x13 hF=>?_) fun _ hj11 hF=>?_
    ·exact wm hΦ hF
    refine wC hF [.sh,.sh,.sh] zbj fun z14 hF=>?_
    refine wG hF (fun h15 hF=>?_) fun h15 hF=>?_
    ·try simp[go_sem,g,h15]
     refine wG hF (fun h16 hF=>?_) fun h16 hF=>?_
     ·exact wV h16 (hj11 _) (zaa hF)
     exact wV h16 (hj11 _) (zaa hF)
    exact wV h15 (hj11 _) (zaa hF)
   refine wW ?_;refine wI hF (fun h17 hF=>?_) fun h17 hF=>?_
   ·refine wJ hF (fun x20=>[(2,.v (.bool x20))]) (fun x20 hF=>?_) fun _ hj18 hF=>?_
    ·exact wm hΦ hF
    refine wC hF [.sh,.sh,.sh] zbj fun z21 hF=>?_
    refine wG hF (fun h22 hF=>?_) fun h22 hF=>?_
    ·try simp[go_sem,g,h22]
     refine wC hF [.sh,.sh,.sh] zbj fun z23 hF=>?_
     try simp[go_sem,g,h22]
     refine wG hF (fun h24 hF=>?_) fun h24 hF=>?_
     ·exact wV h24 (hj18 _) (zaa hF)
     exact wV h24 (hj18 _) (zaa hF)
    exact wV h22 (hj18 _) (zaa hF)
   refine wW ?_;refine wJ hF (fun x27=>[(2,.v (.bool x27))]) (fun x27 hF=>?_) fun _ hj25 hF=>?_
   ·exact wm hΦ hF
   refine wG hF (fun h28 hF=>?_) fun h28 hF=>?_
   ·try simp[go_sem,g,h28]
    refine wG hF (fun h29 hF=>?_) fun h29 hF=>?_
    ·try simp[go_sem,g,h29]
     refine wG hF (fun h30 hF=>?_) fun h30 hF=>?_
     ·exact wV h30 (hj25 _) (zaa hF)
     exact wV h30 (hj25 _) (zaa hF)
    exact wV h29 (hj25 _) (zaa hF)
   exact wV h28 (hj25 _) (zaa hF)
  refine wI hF (fun h9 hF=>?_) fun h9 hF=>?_
  ·exact wT (hj6 _) (zaa hF)
  exact wT (hj6 _) (zaa hF)
 refine wG hF (fun h4 hF=>?_) fun h4 hF=>?_
 ·exact wV h4 (hj1 _) (zaa hF)
 exact wV h4 (hj1 _) (zaa hF)
def zdZ(a0:Int)(a1:Int):Option Int:=
 if decide (a0<a1)=true then(
 some a0)else(
 some a1)
theorem zpv:∀{a0}{a1}{r},zdZ a0 a1=some r→PCalls Tryz.prog 147 [(.sh,.int .i64 a0),(.sh,.int .i64 a1)] (Eo (.int .i64 r) [.junk,.junk]):=by
 intro a0 a1 r hr;apply pF 10 [] [] [] [.tmp 4] hr zEj Tryz.func147;intro Φ hΦ hF g;unfold zdZ at hF
 iterate 2 refine wW ?_
 refine wI hF (fun h1 hF=>?_) fun h1 hF=>?_
 ·exact wl hΦ hF
 cases hΦ _ (zaa hF)
 iterate 2 refine wW ?_
 try simp[go_sem,g]
def zf1(a0:Contest)(a1:List Int):Option ((List Int)):=
 gd (0≤a0.Options∧a0.Options≤a0.Options∧8*a0.Options≤140737488355328∧a0.Options≤4611686018427387904)<|
 (some (List.replicate a0.Options.toNat 0)).bind fun x1=>
 ((zat (σ:=(List Int)) (fun i17 s16=>
 (ix a1 i17).bind fun x23=>
 (ix s16 x23).bind fun x24=>
 some (.go (s16.set x23.toNat 1))) (fun s16=>s16) (a1.length) 0 x1:Option ((List Int))).bind fun x6=>
 some x6)
theorem zqj:∀{a0}{a1}{r},zf1 a0 a1=some r→PCalls Tryz.prog 192 [(.sh,vG a0),(.sh,vA a1)] (Eo (vI r) [.junk,.junk]):=by
 intro a0 a1 r hr;apply pF 22 [] [] [] [.tmp 4] hr zDO Tryz.func192;intro Φ hΦ hF g;unfold zf1 at hF;obtain⟨g,hF⟩:=Rg g hF;obtain⟨x1,e2,hF⟩:=zdA hF;have g3:List.replicate a0.Options.toNat ([.int .i64 0]:List PV)=x1.map zaf:=by injection e2 with e2;rw[←e2];simp[go_sem]
 iterate 3 (try simp[go_sem,g,g3];try intros;refine zap ?_)
 refine wJ hF (fun x6=>[(5,.v (vI x6))]) (fun x6 hF=>?_) fun _ hj4 hF=>?_
 ·refine wK [4] ?_;exact wm hΦ hF
 refine wB ?_;obtain⟨b25,hb26,hψ20⟩:=hF;refine pRK hb26 [11,12] (fun i17 s16=>[(5,.v (vI s16)),(13,.v (.int .i64 i17))]) (fun s16 _ hN27=>?_) fun i17 s16 _ _ hi21 hi22 ho18 hg19 hF=>?_
 ·exact wn hN27 (hj4 _) hψ20
 refine wK [5,11,12,13,14] ?_;refine wu hi21 hi22 ?_;refine wW ?_;refine wB ?_;obtain⟨x23,g,hF⟩:=Rx g hF;obtain⟨x24,g,hF⟩:=Rx g hF
 iterate 2 refine wW ?_
 exact wi hi21 hi22 (hg19 _) (zaa hF)
def zdc(a0:List Int)(a1:Int)(a2:Int):Option Int:=
 ((zau (σ:=Int×Int) (fun s4=>
 if decide (0≤s4.2)=true then(
 (ix a0 s4.2).bind fun x10=>
 some (.go (i64.wrap ((i64.wrap ((i64.wrap (s4.1*a1))+x10))+a2),i64.wrap (s4.2-1))))else(
 some (.out s4.1))) (0,i64.wrap ((a0.length:Int)-1)):Option Int).bind fun x3=>
 some x3)
theorem zgV:∀{a0}{a1}{a2}{r},zdc a0 a1 a2=some r→PCalls Tryz.prog 191 [(.sh,vA a0),(.sh,.int .i64 a1),(.sh,.int .i64 a2)] (Eo (.int .i64 r) [.junk,.junk,.junk]):=by
 intro a0 a1 a2 r hr;apply pF 27 [] [] [] [.tmp 6] hr zEh Tryz.func191;intro Φ hΦ hF g;unfold zdc at hF
 iterate 3 (try simp[go_sem,g];try intros;refine zap ?_)
 refine wJ hF (fun x3=>[(7,.v (.int .i64 x3))]) (fun x3 hF=>?_) fun _ hj1 hF=>?_
 ·exact wl hΦ hF
 refine wB ?_;obtain⟨b11,hb12,hψ8⟩:=hF;refine pLK hb12 [0,1,2] (fun s4=>[(7,.v (.int .i64 s4.1)),(8,.v (.int .i64 s4.2))]) fun s4 _ _ ho6 hg7 hF=>?_
 refine wW ?_;refine wI hF (fun h9 hF=>?_) fun h9 hF=>?_
 ·refine wW ?_;refine wB ?_;obtain⟨x10,g,hF⟩:=Rx g hF;refine wK [0,1,2,7,8] ?_;exact wT (hg7 _) (zaa hF)
 cases ho6 _ (zaa hF);exact wT (hj1 _) hψ8
def zeX(a0:Contest)(a1:List Int):Option Int:=
 if(a0.Kind==1)=true then(
 (zf1 a0 a1).bind fun z2=>
 (zdc z2 2 0).bind fun z3=>
 some z3)else(
 if(a0.Kind==2)=true then(
 (zdc a1 (i64.wrap (a0.Points+1)) 0).bind fun z5=>
 some z5)else(
 if(a0.Kind==3)=true then(
 (zdc a1 (i64.wrap (a0.Options+1)) 1).bind fun z7=>
 some z7)else(
 (zdc a1 27 0).bind fun z8=>
 some z8)))
theorem zq1:∀{a0}{a1}{r},zeX a0 a1=some r→PCalls Tryz.prog 148 [(.sh,vG a0),(.sh,vA a1)] (Eo (.int .i64 r) [.junk,.junk]):=by
 intro a0 a1 r hr;apply pF 29 [] [] [] [.tmp 4] hr zD7 Tryz.func148;intro Φ hΦ hF g;unfold zeX at hF
 iterate 2 refine wW ?_
 refine wB ?_;refine wW ?_;refine wI hF (fun h1 hF=>?_) fun h1 hF=>?_
 ·refine wC hF [.sh,.sh] zqj fun z2 hF=>?_
  refine wC hF [.sh,.sh,.sh] zgV fun z3 hF=>?_
  refine wK [4] ?_;exact wm hΦ hF
 refine wW ?_;refine wI hF (fun h4 hF=>?_) fun h4 hF=>?_
 ·refine wC hF [.sh,.sh,.sh] zgV fun z5 hF=>?_
  refine wK [4] ?_;exact wm hΦ hF
 refine wK [1,2,20] ?_;refine wI hF (fun h6 hF=>?_) fun h6 hF=>?_
 ·refine wC hF [.sh,.sh,.sh] zgV fun z7 hF=>?_
  exact wl hΦ hF
 refine wW ?_;refine wC hF [.sh,.sh,.sh] zgV fun z8 hF=>?_
 exact wl hΦ hF
def zdT(a0:Contest):Option Int:=
 ((if(a0.Kind==1)=true then(
 zau (σ:=(List Int)×Int) (fun s5=>
 if decide (s5.2<a0.Options)=true then(
 gd ((s5.1.length+1)*8≤140737488355328∧s5.1.length+1≤4611686018427387904)<|
 some (.go (s5.1++[s5.2],i64.wrap (s5.2+1))))else(
 some (.out s5.1))) ([],i64.wrap (a0.Options-a0.Most)))else(
 if(a0.Kind==2)=true then(
 gd (0≤a0.Options∧a0.Options≤a0.Options∧8*a0.Options≤140737488355328∧a0.Options≤4611686018427387904)<|
 (some (List.replicate a0.Options.toNat 0)).bind fun x14=>
 zau (σ:=(List Int)×Int×Int) (fun s26=>
 if decide (0≤s26.2.2)=true then(
 (zdZ s26.2.1 a0.Points).bind fun z32=>
 (ix s26.1 s26.2.2).bind fun x33=>
 (ix (s26.1.set s26.2.2.toNat z32) s26.2.2).bind fun x34=>
 some (.go (s26.1.set s26.2.2.toNat z32,i64.wrap (s26.2.1-x34),i64.wrap (s26.2.2-1))))else(
 some (.out s26.1))) (x14,a0.Most,i64.wrap (a0.Options-1)))else(
 if(a0.Kind==3)=true then(
 zau (σ:=(List Int)×Int) (fun s38=>
 if decide (s38.2<a0.Options)=true then(
 gd ((s38.1.length+1)*8≤140737488355328∧s38.1.length+1≤4611686018427387904)<|
 some (.go (s38.1++[s38.2],i64.wrap (s38.2+1))))else(
 some (.out s38.1))) ([],i64.wrap (a0.Options-a0.Most)))else(
 zau (σ:=(List Int)×Int) (fun s46=>
 if decide (s46.2<a0.Most)=true then(
 gd ((s46.1.length+1)*8≤140737488355328∧s46.1.length+1≤4611686018427387904)<|
 some (.go (s46.1++[26],i64.wrap (s46.2+1))))else(
 some (.out s46.1))) ([],0)))):Option ((List Int))).bind fun x3=>
 (zeX a0 x3).bind fun z54=>
 some z54)
theorem zji:∀{a0}{r},zdT a0=some r→PCalls Tryz.prog 100 [(.sh,vG a0)] (Eo (.int .i64 r) [.junk]):=by
 intro a0 r hr;apply pF 84 [] [] [] [.tmp 2] hr zEB Tryz.func100;intro Φ hΦ hF g;unfold zdT at hF
 iterate 3 refine wW ?_
 refine wJ hF (fun x3=>[(1,.bl [.int .i64 a0.Kind,.int .i64 a0.Options,.int .i64 a0.Least,.int .i64 a0.Most,.int .i64 a0.Points]),(3,.v (vI x3))]) (fun x3 hF=>?_) fun _ hj1 hF=>?_
 ·refine wC hF [.sh,.sh] zq1 fun z54 hF=>?_
  exact wl hΦ hF
 refine wB ?_;refine wW ?_;refine wI hF (fun h4 hF=>?_) fun h4 hF=>?_
 ·refine wK [1,3,4] ?_;refine wB ?_;obtain⟨b11,hb12,hψ9⟩:=hF;refine pL hb12 (fun s5=>[(1,.bl [.int .i64 a0.Kind,.int .i64 a0.Options,.int .i64 a0.Least,.int .i64 a0.Most,.int .i64 a0.Points]),(3,.v (vI s5.1)),(4,.v (.int .i64 s5.2))]) fun s5 _ _ ho7 hg8 hF=>?_
  refine wW ?_;refine wI hF (fun h10 hF=>?_) fun h10 hF=>?_
  ·refine wW ?_;refine wB ?_;obtain⟨g,hF⟩:=Rg g hF;refine wW ?_;exact wT (hg8 _) (zaa hF)
  cases ho7 _ (zaa hF);exact wT (hj1 _) hψ9
 refine wW ?_;refine wI hF (fun h13 hF=>?_) fun h13 hF=>?_
 ·obtain⟨g,hF⟩:=Rg g hF;obtain⟨x14,e15,hF⟩:=zdA hF;have g16:List.replicate a0.Options.toNat ([.int .i64 0]:List PV)=x14.map zaf:=by injection e15 with e15;rw[←e15];simp[go_sem]
  try simp[go_sem,g,g16]
  refine wK [1,3] ?_
  iterate 2 refine wW ?_
  refine wB ?_;obtain⟨b35,hb36,hψ30⟩:=hF;refine pL hb36 (fun s26=>[(1,.bl [.int .i64 a0.Kind,.int .i64 a0.Options,.int .i64 a0.Least,.int .i64 a0.Most,.int .i64 a0.Points]),(3,.v (vI s26.1)),(5,.v (.int .i64 s26.2.1)),(6,.v (.int .i64 s26.2.2))]) fun s26 _ _ ho28 hg29 hF=>?_
  refine wW ?_;refine wI hF (fun h31 hF=>?_) fun h31 hF=>?_
  ·refine wW ?_;refine wB ?_;refine wC hF [.sh,.sh] zpv fun z32 hF=>?_
   obtain⟨x33,g,hF⟩:=Rx g hF;refine wK [1,3,5,6] ?_;obtain⟨x34,g,hF⟩:=Rx g hF;try simp only[List.length_set]at g
   refine wW ?_;exact wT (hg29 _) (zaa hF)
  cases ho28 _ (zaa hF);exact wT (hj1 _) hψ30
 refine wK [1,3,64] ?_;refine wI hF (fun h37 hF=>?_) fun h37 hF=>?_
 ·refine wW ?_;refine wB ?_;obtain⟨b44,hb45,hψ42⟩:=hF;refine pL hb45 (fun s38=>[(1,.bl [.int .i64 a0.Kind,.int .i64 a0.Options,.int .i64 a0.Least,.int .i64 a0.Most,.int .i64 a0.Points]),(3,.v (vI s38.1)),(7,.v (.int .i64 s38.2))]) fun s38 _ _ ho40 hg41 hF=>?_
  refine wK [1,3,7,74] ?_;refine wI hF (fun h43 hF=>?_) fun h43 hF=>?_
  ·refine wW ?_;refine wB ?_;obtain⟨g,hF⟩:=Rg g hF;refine wW ?_;exact wT (hg41 _) (zaa hF)
  cases ho40 _ (zaa hF);exact wT (hj1 _) hψ42
 refine wW ?_;refine wB ?_;obtain⟨b52,hb53,hψ50⟩:=hF;refine pL hb53 (fun s46=>[(1,.bl [.int .i64 a0.Kind,.int .i64 a0.Options,.int .i64 a0.Least,.int .i64 a0.Most,.int .i64 a0.Points]),(3,.v (vI s46.1)),(8,.v (.int .i64 s46.2))]) fun s46 _ _ ho48 hg49 hF=>?_
 refine wW ?_;refine wI hF (fun h51 hF=>?_) fun h51 hF=>?_
 ·refine wW ?_;refine wB ?_;obtain⟨g,hF⟩:=Rg g hF;refine wW ?_;exact wT (hg49 _) (zaa hF)
 cases ho48 _ (zaa hF);exact wT (hj1 _) hψ50
def zd7(a0:Contest):Option Bool:=
 ((if(a0.Kind==1)=true then(
 some true)else(
 some (a0.Kind==2)):Option Bool).bind fun x3=>
 some x3)
theorem zhX:∀{a0}{r},zd7 a0=some r→PCalls Tryz.prog 64 [(.sh,vG a0)] (Eo (.bool r) [.junk]):=by
 intro a0 r hr;apply pF 11 [] [] [] [.tmp 2] hr zKI Tryz.func64;intro Φ hΦ hF g;unfold zd7 at hF;refine wW ?_;refine wJ hF (fun x3=>[(2,.v (.bool x3))]) (fun x3 hF=>?_) fun _ hj1 hF=>?_
 ·exact wm hΦ hF
 refine wG hF (fun h4 hF=>?_) fun h4 hF=>?_
 ·exact wV h4 (hj1 _) (zaa hF)
 exact wV h4 (hj1 _) (zaa hF)
@[go_sem] def zDu:List DE:=[d2 0 [2] 2 2,d3 1 [5],d0 2 [6],d0 3 [7],d2 4 [3,8] 3 3,d3 5 [9,8],d0 6 [10,8],d0 7 [8,11],d0 8 [12],d2 9 [3,13] 3 3,d3 10 [14,13],d0 11 [15,13],d0 12 [13,16],d0 13 [17],d2 14 [3,18] 3 3,d1 16 [2,18] 2,d2 17 [21,18] 2 21,d3 15 [19,18],d0 18 [20,22,18],d0 19 [18,23]]
def zea(a0:Group)(a1:Contest):Option Bool:=
 (((zdE a0).bind fun z4=>
 if(!z4)=true then(
 some true)else(
 (zfi a1).bind fun z6=>
 if(!z6)=true then(
 some true)else(
 (zdT a1).bind fun z8=>
 if decide (100000<z8)=true then(
 some true)else(
 (zdT a1).bind fun z10=>
 some (decide (a0.Q≤z10))))):Option Bool).bind fun x3=>
 if x3=true then(
 some false)else(
 (((zd7 a1).bind fun z15=>
 if(!z15)=true then(
 some true)else(
 if decide ((i64.wrap (a1.Most-a1.Least))<8)=true then(
 some (decide (a1.Most<a0.Q)))else(
 some false)):Option Bool).bind fun x14=>
 some x14)))
theorem zst:∀{a0}{a1}{r},zea a0 a1=some r→PCalls Tryz.prog 61 [(.sh,vF a0),(.sh,vG a1)] (Eo (.bool r) [.junk,.junk]):=by
 intro a0 a1 r hr;apply pF 43 [] [] [] [.tmp 4] hr zLH Tryz.func61;intro Φ hΦ hF g;unfold zea at hF;refine wW ?_;refine wJK hF [2,3] (fun x3=>[(24,.v (.bool x3))]) (fun x3 hF=>?_) fun _ hj1 hF=>?_
 ·refine wI hF (fun h11 hF=>?_) fun h11 hF=>?_
  ·exact wl hΦ hF
  refine wW ?_;refine wJ hF (fun x14=>[(4,.v (.bool x14))]) (fun x14 hF=>?_) fun _ hj12 hF=>?_
  ·exact wm hΦ hF
  refine wC hF [.sh] zhX fun z15 hF=>?_
  refine wG hF (fun h16 hF=>?_) fun h16 hF=>?_
  ·exact wV h16 (hj12 _) (zaa hF)
  try simp[go_sem,g,h16]
  refine wG hF (fun h17 hF=>?_) fun h17 hF=>?_
  ·try simp[go_sem,g,h17,h16]
   exact wT (hj12 _) (zaa hF)
  try simp[go_sem,g,h17,h16]
  exact wT (hj12 _) (zaa hF)
 refine wX zDu follows ?_;refine wC hF [.sh] zhg fun z4 hF=>?_
 refine wH hF (fun h5 hF=>?_) fun h5 hF=>?_
 ·exact wV h5 (hj1 _) (zaa hF)
 try simp[go_sem,g,h5]
 refine wC hF [.sh] zoD fun z6 hF=>?_
 try simp[go_sem,g,h5]
 refine wH hF (fun h7 hF=>?_) fun h7 hF=>?_
 ·exact wV h7 (hj1 _) (zaa hF)
 try simp[go_sem,g,h7]
 refine wC hF [.sh] zji fun z8 hF=>?_
 try simp[go_sem,g,h7]
 refine wH hF (fun h9 hF=>?_) fun h9 hF=>?_
 ·exact wV h9 (hj1 _) (zaa hF)
 try simp[go_sem,g,h9]
 refine wC hF [.sh] zji fun z10 hF=>?_
 exact wV h9 (hj1 _) (zaa hF)
def zdr(a0:Int):Option Bool:=
 (zaV a0 0 4611686018427387903).bind fun z1=>
 some z1
theorem zhZ:∀{a0}{r},zdr a0=some r→PCalls Tryz.prog 63 [(.sh,.int .i64 a0)] (Eo (.bool r) [.junk]):=by
 intro a0 r hr;apply pF 5 [] [] [] [.tmp 2] hr zKG Tryz.func63;intro Φ hΦ hF g;unfold zdr at hF;refine wW ?_;refine wC hF [.sh,.sh,.sh] zbj fun z1 hF=>?_
 exact wl hΦ hF
def zdm(a0:Contest):Option Int:=
 if(a0.Kind==1)=true then(
 some 1)else(
 some a0.Points)
theorem znd:∀{a0}{r},zdm a0=some r→PCalls Tryz.prog 65 [(.sh,vG a0)] (Eo (.int .i64 r) [.junk]):=by
 intro a0 r hr;apply pF 8 [] [] [] [.tmp 2] hr zLK Tryz.func65;intro Φ hΦ hF g;unfold zdm at hF
 iterate 2 refine wW ?_
 refine wI hF (fun h1 hF=>?_) fun h1 hF=>?_
 ·exact wl hΦ hF
 cases hΦ _ (zaa hF)
 iterate 2 refine wW ?_
 try simp[go_sem,g]
def zfZ(a0:ByteArray)(a1:List Int):Option ((List Int)):=
 ((zau (σ:=(List Int)×Int) (fun s4=>
 if decide (s4.2<(a0.size:Int))=true then(
 (ixs a0 s4.2).bind fun x10=>
 gd ((s4.1.length+1)*8≤140737488355328∧s4.1.length+1≤4611686018427387904)<|
 some (.go (s4.1++[i64.wrap x10],i64.wrap (s4.2+1))))else(
 some (.out s4.1))) ([(a0.size:Int)],0):Option ((List Int))).bind fun x3=>
 gd ((x3.length+a1.length)*8≤140737488355328∧x3.length+a1.length≤4611686018427387904)<|
 some (x3++a1))
theorem zql:∀{a0}{a1}{r},zfZ a0 a1=some r→PCalls Tryz.prog 207 [(.sh,.str a0),(.sh,vA a1)] (Eo (vI r) [.junk,.junk]):=by
 intro a0 a1 r hr;apply pF 26 [] [] [] [.tmp 4] hr zED Tryz.func207;intro Φ hΦ hF g;unfold zfZ at hF
 iterate 3 refine wW ?_
 refine wJ hF (fun x3=>[(1,.v (vA a1)),(5,.v (vI x3))]) (fun x3 hF=>?_) fun _ hj1 hF=>?_
 ·obtain⟨g,hF⟩:=Rg g hF;refine wK [4] ?_;exact wm hΦ hF
 refine wB ?_;obtain⟨b11,hb12,hψ8⟩:=hF;refine pLK hb12 [0,1] (fun s4=>[(5,.v (vI s4.1)),(6,.v (.int .i64 s4.2))]) fun s4 _ _ ho6 hg7 hF=>?_
 refine wK [0,1,5,6,13] ?_;refine wI hF (fun h9 hF=>?_) fun h9 hF=>?_
 ·refine wW ?_;refine wB ?_;obtain⟨x10,g,hF⟩:=Rxs g hF;obtain⟨g,hF⟩:=Rg g hF;refine wW ?_;exact wT (hg7 _) (zaa hF)
 cases ho6 _ (zaa hF);exact wT (hj1 _) hψ8
def zbF(a0c0:Int)(a0c1:Int)(a1:Int):Option ((Int×Int)):=
 (some [a1.tmod 2147483648,i64.wrap (a1.tdiv 2147483648)]).bind fun x1=>
 zau (σ:=(Int×Int)×Int) (fun s10=>
 if decide (s10.2<(x1.length:Int))=true then(
 (ix x1 s10.2).bind fun x16=>
 some (.go (((i64.wrap ((i64.wrap ((i64.wrap (48271*s10.1.1))+x16))+1)).tmod 2147483647,(i64.wrap ((i64.wrap ((i64.wrap (69621*s10.1.2))+x16))+1)).tmod 2147483647),i64.wrap (s10.2+1))))else(
 some (.out (s10.1.1,s10.1.2)))) ((a0c0,a0c1),0)
theorem zf3:∀{a0c0}{a0c1}{a1}{r},zbF a0c0 a0c1 a1=some r→PCalls Tryz.prog 209 [(.io,vN a0c0 a0c1),(.sh,.int .i64 a1)] (Eo (.junk) [vN r.1 r.2,.junk]):=by
 intro a0c0 a0c1 a1 r hr;apply pF 41 [0] [] [] [] hr zCM Tryz.func209;intro Φ hΦ hF g;unfold zbF at hF;have g:=Ld g 2147483648;obtain⟨x1,e2,hF⟩:=zdA hF;have g:=And.intro g (show[[.int .i64 (a1.tmod 2147483648)],[.int .i64 (i64.wrap (a1.tdiv 2147483648))]]=x1.map zaf by injection e2 with e2;rw[←e2];simp[go_sem]);try simp[go_sem,g]
 try intros
 refine zap ?_;refine wB ?_;obtain⟨b17,hb18,hψ14⟩:=hF;refine pLK hb18 [10,11] (fun s10=>[(0,.v (vN s10.1.1 s10.1.2)),(12,.v (.int .i64 s10.2))]) fun s10 _ _ ho12 hg13 hF=>?_
 refine wW ?_;refine wI hF (fun h15 hF=>?_) fun h15 hF=>?_
 ·refine wW ?_;refine wB ?_;obtain⟨x16,g,hF⟩:=Rx g hF;refine wK [0,5,10,11,12] ?_;have g:=Ld g 2147483647;refine wK [0,5,10,11,12] ?_;refine wK [0,10,11,12] ?_;exact wT (hg13 _) (zaa hF)
 cases ho12 _ (zaa hF);cases hΦ _ hψ14;try simp[go_sem,g]
@[go_sem] def zBg:List DE:=[d0 0 [3],d0 1 [22],d0 2 [23],d0 3 [24],d0 4 [25],d0 5 [3],d0 6 [27],d0 7 [28],d0 8 [29],d0 9 [26,30],d0 10 [31]]
def zgz(a0:List Int):Option Int:=
 (zbF 1 2 (a0.length:Int)).bind fun z1=>
 ((zat (σ:=(Int×Int)) (fun i15 s14=>
 (ix a0 i15).bind fun x21=>
 (zbF s14.1 s14.2 x21).bind fun z22=>
 some (.go (z22.1,z22.2))) (fun s14=>(s14.1,s14.2)) (a0.length) 0 (z1.1,z1.2):Option ((Int×Int))).bind fun x4=>
 some (i64.wrap ((i64.wrap (x4.1*2147483648))+x4.2)))
theorem zsb:∀{a0}{r},zgz a0=some r→PCalls Tryz.prog 206 [(.sh,vA a0)] (Eo (.int .i64 r) [.junk]):=by
 intro a0 r hr;apply pF 32 [] [] [7] [.tmp 2] hr zDJ Tryz.func206;intro Φ hΦ hF g;unfold zgz at hF
 iterate 2 (try simp[go_sem,g];try intros;refine zap ?_)
 try simp[go_sem,g]
 try intros
 refine wC hF [.io,.sh] zf3 fun z1 hF=>?_
 try simp[go_sem,g]
 try intros
 refine zap ?_;try simp[go_sem,g]
 try intros
 refine wK [3,12,13,14] ?_;refine wJ hF (fun x4=>[(3,.v (vN x4.1 x4.2))]) (fun x4 hF=>?_) fun _ hj2 hF=>?_
 ·refine wX zBg follows ?_;refine wK [2] ?_;exact wm hΦ hF
 refine wB ?_;obtain⟨b23,hb24,hψ18⟩:=hF;refine pRK hb24 [12,13] (fun i15 s14=>[(3,.v (vN s14.1 s14.2)),(14,.v (.int .i64 i15))]) (fun s14 _ hN25=>?_) fun i15 s14 _ _ hi19 hi20 ho16 hg17 hF=>?_
 ·exact wn hN25 (hj2 _) hψ18
 refine wW ?_;refine wu hi19 hi20 ?_;refine wW ?_;refine wB ?_;obtain⟨x21,g,hF⟩:=Rx g hF;refine wW ?_;refine wC hF [.io,.sh] zf3 fun z22 hF=>?_
 refine wW ?_;exact wi hi19 hi20 (hg17 _) (zaa hF)
def zcv(a0:ByteArray)(a1:List Int):Option Int:=
 (zfZ a0 a1).bind fun z1=>
 (zgz z1).bind fun z2=>
 some z2
theorem zfO:∀{a0}{a1}{r},zcv a0 a1=some r→PCalls Tryz.prog 193 [(.sh,.str a0),(.sh,vA a1)] (Eo (.int .i64 r) [.junk,.junk]):=by
 intro a0 a1 r hr;apply pF 9 [] [] [] [.tmp 4] hr zEq Tryz.func193;intro Φ hΦ hF g;unfold zcv at hF;refine wW ?_;refine wC hF [.sh,.sh] zql fun z1 hF=>?_
 refine wC hF [.sh] zsb fun z2 hF=>?_
 exact wl hΦ hF
@[go_sem] def zAb:List DE:=[d0 0 [1],d1 1 [3] 3,d2 2 [15] 3 15,d1 3 [3] 3,d2 4 [17] 3 17,d1 5 [3] 3,d2 6 [19] 3 19,d0 7 [2],d0 8 [7],d0 9 [16,18,20,21,22],d1 11 [3] 3,d2 12 [25] 3 25,d0 13 [26],⟨10,[14,23],[],none,true,true,true⟩,d0 14 [24,27],d0 15 [28],d0 16 [29]]
@[go_sem] def zAP:List DE:=[d0 0 [8],d1 1 [3] 3,d2 2 [31] 3 31,d0 3 [32],d1 4 [3] 3,d2 5 [34] 3 34,d0 6 [33,35],d1 7 [3] 3,d2 8 [37] 3 37,d3 9 [30,36,38],d0 10 [39]]
def zcR(a0:Group)(a1:ByteArray)(a2:Int):Option Int:=
 ((zau (σ:=Int) (fun s4=>
 if decide (s4<1000)=true then(
 (zcv a1 [a0.P,a0.Q,a0.G,a2,s4]).bind fun z10=>
 gd (i64.wrap (a0.P-1)≠0)<|
 gd (a0.Q≠0)<|
 (zcy (i64.wrap (1+(z10.tmod (i64.wrap (a0.P-1))))) (i64.wrap ((i64.wrap (a0.P-1)).tdiv a0.Q)) a0.P).bind fun z11=>
 if(z11 !=1)=true then(
 some (.out (.inr z11)))else(
 some (.go (i64.wrap (s4+1)))))else(
 some (.out (.inl ())))) 0:Option (Unit ⊕ Int)).bind (Sum.elim (fun x3=>
 some 0) some))
theorem zjQ:∀{a0}{a1}{a2}{r},zcR a0 a1 a2=some r→PCalls Tryz.prog 149 [(.sh,vF a0),(.sh,.str a1),(.sh,.int .i64 a2)] (Eo (.int .i64 r) [.junk,.junk,.junk]):=by
 intro a0 a1 a2 r hr;apply pF 43 [] [] [] [.tmp 6] hr zC2 Tryz.func149;intro Φ hΦ hF g;unfold zcR at hF
 iterate 2 refine wW ?_
 refine wS hF (fun x3=>[]) (fun x3 hF=>?_) fun _ hj1 hr2 hF=>?_
 ·exact wl hΦ hF
 refine wB ?_;obtain⟨b13,hb14,hψ8⟩:=hF;refine pLK hb14 [1,2,3] (fun s4=>[(7,.v (.int .i64 s4))]) fun s4 _ _ ho6 hg7 hF=>?_
 refine wW ?_;refine wI hF (fun h9 hF=>?_) fun h9 hF=>?_
 ·refine wW ?_;refine wB ?_;refine wX zAb follows ?_;refine wC hF [.sh,.sh] zfO fun z10 hF=>?_
  obtain⟨g,hF⟩:=Rz g hF;refine wK [1,2,3,7,8] ?_;refine wX zAP follows ?_;obtain⟨g,hF⟩:=Rz g hF;refine wC hF [.sh,.sh,.sh] zhf fun z11 hF=>?_
  refine wK [1,2,3,7,9] ?_;refine wW ?_;refine wI hF (fun h12 hF=>?_) fun h12 hF=>?_
  ·cases ho6 _ (zaa hF);cases hΦ _ (hr2 _ hψ8);refine wW ?_;try simp[go_sem,g]
  refine wW ?_;exact wT (hg7 _) (zaa hF)
 cases ho6 _ (zaa hF);exact wT (hj1 _) hψ8
def zdn(a0:Group)(a1:ByteArray)(a2:Int):Option (Int×Bool):=
 (((zdE a0).bind fun z4=>
 if(!z4)=true then(
 some true)else(
 if decide (40<(a1.size:Int))=true then(
 some true)else(
 (zdr a2).bind fun z7=>
 some (!z7))):Option Bool).bind fun x3=>
 if x3=true then(
 some (0,false))else(
 (zcR a0 a1 a2).bind fun z9=>
 some (z9,decide (0<z9))))
theorem zkR:∀{a0}{a1}{a2}{r},zdn a0 a1 a2=some r→PCalls Tryz.prog 101 [(.sh,vF a0),(.sh,.str a1),(.sh,.int .i64 a2)] (Eo (.tup [.int .i64 r.1,.bool r.2]) [.junk,.junk,.junk]):=by
 intro a0 a1 a2 r hr;apply pF 29 [] [] [] [.tmp 6,.tmp 7] hr zET Tryz.func101;intro Φ hΦ hF g;unfold zdn at hF;refine wW ?_;refine wJK hF [1,2,3] (fun x3=>[(21,.v (.bool x3))]) (fun x3 hF=>?_) fun _ hj1 hF=>?_
 ·refine wI hF (fun h8 hF=>?_) fun h8 hF=>?_
  ·exact wl hΦ hF
  refine wW ?_;refine wC hF [.sh,.sh,.sh] zjQ fun z9 hF=>?_
  refine wW ?_;refine wK [6,7] ?_;exact wm hΦ hF
 refine wC hF [.sh] zhg fun z4 hF=>?_
 refine wG hF (fun h5 hF=>?_) fun h5 hF=>?_
 ·exact wV h5 (hj1 _) (zaa hF)
 try simp[go_sem,g,h5]
 refine wG hF (fun h6 hF=>?_) fun h6 hF=>?_
 ·exact wV h6 (hj1 _) (zaa hF)
 try simp[go_sem,g,h6]
 refine wC hF [.sh] zhZ fun z7 hF=>?_
 exact wV h6 (hj1 _) (zaa hF)
def zdb(a0:Group)(a1:ByteArray)(a2:Int):Option (List Int×Bool):=
 (((zdE a0).bind fun z4=>
 if(!z4)=true then(
 some true)else(
 if decide (40<(a1.size:Int))=true then(
 some true)else(
 (zaV a2 0 100).bind fun z7=>
 some (!z7))):Option Bool).bind fun x3=>
 if x3=true then(
 some ([],false))else(
 ((zau (σ:=(List Int)×Int) (fun s12=>
 if decide (s12.2<a2)=true then(
 (zcR a0 a1 s12.2).bind fun z18=>
 if(z18==0)=true then(
 some (.out (.inr ([],false))))else(
 gd ((s12.1.length+1)*8≤140737488355328∧s12.1.length+1≤4611686018427387904)<|
 some (.go (s12.1++[z18],i64.wrap (s12.2+1)))))else(
 some (.out (.inl s12.1)))) ([],0):Option ((List Int) ⊕ (List Int×Bool))).bind (Sum.elim (fun x11=>
 some (x11,true)) some))))
theorem zkp:∀{a0}{a1}{a2}{r},zdb a0 a1 a2=some r→PCalls Tryz.prog 102 [(.sh,vF a0),(.sh,.str a1),(.sh,.int .i64 a2)] (Eo (.tup [vI r.1,.bool r.2]) [.junk,.junk,.junk]):=by
 intro a0 a1 a2 r hr;apply pF 40 [] [] [] [.tmp 6,.tmp 7] hr zCF Tryz.func102;intro Φ hΦ hF g;unfold zdb at hF;refine wW ?_;refine wJK hF [1,2,3] (fun x3=>[(23,.v (.bool x3))]) (fun x3 hF=>?_) fun _ hj1 hF=>?_
 ·refine wI hF (fun h8 hF=>?_) fun h8 hF=>?_
  ·exact wl hΦ hF
  iterate 3 refine wW ?_
  refine wS hF (fun x11=>[(8,.v (vI x11))]) (fun x11 hF=>?_) fun _ hj9 hr10 hF=>?_
  ·exact wl hΦ hF
  refine wB ?_;obtain⟨b20,hb21,hψ16⟩:=hF;refine pLK hb21 [1,2,3] (fun s12=>[(8,.v (vI s12.1)),(9,.v (.int .i64 s12.2))]) fun s12 _ _ ho14 hg15 hF=>?_
  refine wW ?_;refine wI hF (fun h17 hF=>?_) fun h17 hF=>?_
  ·refine wW ?_;refine wB ?_;refine wC hF [.sh,.sh,.sh] zjQ fun z18 hF=>?_
   refine wK [1,2,3,8,9,10] ?_;refine wW ?_;refine wI hF (fun h19 hF=>?_) fun h19 hF=>?_
   ·cases ho14 _ (zaa hF);cases hΦ _ (hr10 _ hψ16);refine wW ?_;try simp[go_sem,g]
   obtain⟨g,hF⟩:=Rg g hF
   iterate 2 refine wW ?_
   exact wT (hg15 _) (zaa hF)
  cases ho14 _ (zaa hF);exact wT (hj9 _) hψ16
 refine wC hF [.sh] zhg fun z4 hF=>?_
 refine wG hF (fun h5 hF=>?_) fun h5 hF=>?_
 ·exact wV h5 (hj1 _) (zaa hF)
 try simp[go_sem,g,h5]
 refine wG hF (fun h6 hF=>?_) fun h6 hF=>?_
 ·exact wV h6 (hj1 _) (zaa hF)
 try simp[go_sem,g,h6]
 refine wC hF [.sh,.sh,.sh] zbj fun z7 hF=>?_
 exact wV h6 (hj1 _) (zaa hF)
def zdS(a0:Group)(a1:Int):Option (Bases×Bool):=
 (((zdE a0).bind fun z4=>
 if(!z4)=true then(
 some true)else(
 (zaV a1 0 24).bind fun z6=>
 some (!z6)):Option Bool).bind fun x3=>
 if x3=true then(
 some ((Bases.mk 0 []),false))else(
 (zdn a0 (⟨#[104]⟩:ByteArray) 0).bind fun z8=>
 (zdb a0 (⟨#[104,115]⟩:ByteArray) a1).bind fun z9=>
 ((if(!z8.2)=true then(
 some true)else(
 some (!z9.2)):Option Bool).bind fun x12=>
 if x12=true then(
 some ((Bases.mk 0 []),false))else(
 some ((Bases.mk z8.1 z9.1),true)))))
theorem zpl:∀{a0}{a1}{r},zdS a0 a1=some r→PCalls Tryz.prog 66 [(.sh,vF a0),(.sh,.int .i64 a1)] (Eo (.tup [vO r.1,.bool r.2]) [.junk,.junk]):=by
 intro a0 a1 r hr;apply pF 40 [] [] [] [.cell 4 115,.tmp 5] hr zIj Tryz.func66;intro Φ hΦ hF g;unfold zdS at hF;refine wW ?_;refine wJK hF [1,2,4] (fun x3=>[(17,.v (.bool x3))]) (fun x3 hF=>?_) fun _ hj1 hF=>?_
 ·refine wI hF (fun h7 hF=>?_) fun h7 hF=>?_
  ·exact wl hΦ hF
  refine wW ?_;refine wC hF [.sh,.sh,.sh] zkR fun z8 hF=>?_
  refine wK [1,2,4,6,7] ?_;refine wC hF [.sh,.sh,.sh] zkp fun z9 hF=>?_
  refine wW ?_;refine wJK hF [4,6,8] (fun x12=>[(35,.v (.bool x12))]) (fun x12 hF=>?_) fun _ hj10 hF=>?_
  ·refine wI hF (fun h14 hF=>?_) fun h14 hF=>?_
   ·refine wK [4,5] ?_;exact wm hΦ hF
   refine wW ?_;refine wK [4,5] ?_;exact wm hΦ hF
  refine wG hF (fun h13 hF=>?_) fun h13 hF=>?_
  ·exact wV h13 (hj10 _) (zaa hF)
  exact wV h13 (hj10 _) (zaa hF)
 refine wC hF [.sh] zhg fun z4 hF=>?_
 refine wG hF (fun h5 hF=>?_) fun h5 hF=>?_
 ·exact wV h5 (hj1 _) (zaa hF)
 try simp[go_sem,g,h5]
 refine wC hF [.sh,.sh,.sh] zbj fun z6 hF=>?_
 exact wV h5 (hj1 _) (zaa hF)
@[go_sem] def zCG:List DE:=[d1 0 [1] 1,d2 1 [48] 1 48,d3 2 [49],d0 3 [50],d1 4 [1,51] 1,d2 5 [52,51] 1 52,d1 6 [1,51] 1,d2 7 [54,51] 1 54,d1 10 [1,51] 1,d1 11 [58,51] 1,d2 12 [59,51] 1 59,d3 8 [55,51],d0 9 [53,56,51],d0 13 [57,60,51],d0 14 [51,61]]
def zd6(a0:Plan):Option Bool:=
 (((zea a0.Gr a0.Ct).bind fun z4=>
 if(!z4)=true then(
 some true)else(
 (zaV a0.Threshold 1 a0.Trustees).bind fun z6=>
 if(!z6)=true then(
 some true)else(
 if decide (4<a0.Trustees)=true then(
 some true)else(
 if decide (a0.Gr.Q≤7)=true then(
 some true)else(
 (zaV a0.Mixers 0 3).bind fun z10=>
 if(!z10)=true then(
 some true)else(
 (zaV a0.Voters 1 12).bind fun z12=>
 if(!z12)=true then(
 some true)else(
 (zdr a0.Seed).bind fun z14=>
 some (!z14))))))):Option Bool).bind fun x3=>
 if x3=true then(
 some false)else(
 (((zd7 a0.Ct).bind fun z19=>
 if z19=true then(
 (zdm a0.Ct).bind fun z21=>
 some (decide (a0.Gr.Q≤(i64.wrap (a0.Voters*z21)))))else(
 some false):Option Bool).bind fun x18=>
 if x18=true then(
 some false)else(
 (zdS a0.Gr 12).bind fun z23=>
 some z23.2))))
theorem zrI:∀{a0}{r},zd6 a0=some r→PCalls Tryz.prog 36 [(.sh,vH a0)] (Eo (.bool r) [.junk]):=by
 intro a0 r hr;apply pF 70 [] [] [] [.tmp 2] hr zI6 Tryz.func36;intro Φ hΦ hF g;unfold zd6 at hF;refine wW ?_;refine wJ hF (fun x3=>[(1,.bl [.int .i64 a0.Gr.P,.int .i64 a0.Gr.Q,.int .i64 a0.Gr.G,.int .i64 a0.Ct.Kind,.int .i64 a0.Ct.Options,.int .i64 a0.Ct.Least,.int .i64 a0.Ct.Most,.int .i64 a0.Ct.Points,.int .i64 a0.Threshold,.int .i64 a0.Trustees,.int .i64 a0.Mixers,.int .i64 a0.Voters,.int .i64 a0.Seed]),(47,.v (.bool x3))]) (fun x3 hF=>?_) fun _ hj1 hF=>?_
 ·refine wI hF (fun h15 hF=>?_) fun h15 hF=>?_
  ·exact wl hΦ hF
  refine wW ?_;refine wJ hF (fun x18=>[(1,.bl [.int .i64 a0.Gr.P,.int .i64 a0.Gr.Q,.int .i64 a0.Gr.G,.int .i64 a0.Ct.Kind,.int .i64 a0.Ct.Options,.int .i64 a0.Ct.Least,.int .i64 a0.Ct.Most,.int .i64 a0.Ct.Points,.int .i64 a0.Threshold,.int .i64 a0.Trustees,.int .i64 a0.Mixers,.int .i64 a0.Voters,.int .i64 a0.Seed]),(62,.v (.bool x18))]) (fun x18 hF=>?_) fun _ hj16 hF=>?_
  ·refine wI hF (fun h22 hF=>?_) fun h22 hF=>?_
   ·exact wl hΦ hF
   refine wW ?_;refine wC hF [.sh,.sh] zpl fun z23 hF=>?_
   refine wK [4] ?_;exact wl hΦ hF
  refine wX zCG follows ?_;refine wC hF [.sh] zhX fun z19 hF=>?_
  refine wH hF (fun h20 hF=>?_) fun h20 hF=>?_
  ·try simp[go_sem,g,h20]
   refine wC hF [.sh] znd fun z21 hF=>?_
   exact wV h20 (hj16 _) (zaa hF)
  exact wV h20 (hj16 _) (zaa hF)
 refine wC hF [.sh,.sh] zst fun z4 hF=>?_
 refine wG hF (fun h5 hF=>?_) fun h5 hF=>?_
 ·exact wV h5 (hj1 _) (zaa hF)
 try simp[go_sem,g,h5]
 refine wC hF [.sh,.sh,.sh] zbj fun z6 hF=>?_
 try simp[go_sem,g,h5]
 refine wG hF (fun h7 hF=>?_) fun h7 hF=>?_
 ·exact wV h7 (hj1 _) (zaa hF)
 try simp[go_sem,g,h7]
 refine wG hF (fun h8 hF=>?_) fun h8 hF=>?_
 ·exact wV h8 (hj1 _) (zaa hF)
 try simp[go_sem,g,h8]
 refine wG hF (fun h9 hF=>?_) fun h9 hF=>?_
 ·exact wV h9 (hj1 _) (zaa hF)
 try simp[go_sem,g,h9]
 refine wC hF [.sh,.sh,.sh] zbj fun z10 hF=>?_
 try simp[go_sem,g,h9]
 refine wG hF (fun h11 hF=>?_) fun h11 hF=>?_
 ·exact wV h11 (hj1 _) (zaa hF)
 try simp[go_sem,g,h11]
 refine wC hF [.sh,.sh,.sh] zbj fun z12 hF=>?_
 try simp[go_sem,g,h11]
 refine wG hF (fun h13 hF=>?_) fun h13 hF=>?_
 ·exact wV h13 (hj1 _) (zaa hF)
 try simp[go_sem,g,h13]
 refine wC hF [.sh] zhZ fun z14 hF=>?_
 exact wV h13 (hj1 _) (zaa hF)
def zfh(a0:Group)(a1:List Int):Option Bool:=
 ((zat (σ:=Unit) (fun i5 s4=>
 (ix a1 i5).bind fun x11=>
 (((zaV x11 1 (i64.wrap (a0.P-1))).bind fun z15=>
 if(!z15)=true then(
 some true)else(
 (zcy x11 a0.Q a0.P).bind fun z17=>
 some (z17 !=1)):Option Bool).bind fun x14=>
 if x14=true then(
 some (.out (.inr false)))else(
 some (.go ())))) (fun s4=>.inl ()) (a1.length) 0 ():Option (Unit ⊕ Bool)).bind (Sum.elim (fun x3=>
 some true) some))
theorem zi6:∀{a0}{a1}{r},zfh a0 a1=some r→PCalls Tryz.prog 67 [(.sh,vF a0),(.sh,vA a1)] (Eo (.bool r) [.junk,.junk]):=by
 intro a0 a1 r hr;apply pF 29 [] [] [] [.tmp 4] hr zLF Tryz.func67;intro Φ hΦ hF g;unfold zfh at hF
 iterate 2 (try simp[go_sem,g];try intros;refine zap ?_)
 refine wS hF (fun x3=>[]) (fun x3 hF=>?_) fun _ hj1 hr2 hF=>?_
 ·exact wl hΦ hF
 refine wB ?_;obtain⟨b19,hb20,hψ8⟩:=hF;refine pRK hb20 [2,7,8] (fun i5 s4=>[(9,.v (.int .i64 i5))]) (fun s4 _ hN21=>?_) fun i5 s4 _ _ hi9 hi10 ho6 hg7 hF=>?_
 ·exact wn hN21 (hj1 _) hψ8
 refine wW ?_;refine wu hi9 hi10 ?_;refine wW ?_;refine wB ?_;obtain⟨x11,g,hF⟩:=Rx g hF;refine wW ?_;refine wJK hF [2,7,8,9] (fun x14=>[(27,.v (.bool x14))]) (fun x14 hF=>?_) fun _ hj12 hF=>?_
 ·refine wI hF (fun h18 hF=>?_) fun h18 hF=>?_
  ·refine wK [4] ?_;cases ho6 _ (zaa hF);cases hΦ _ (hr2 _ hψ8);try simp[go_sem,g]
  refine wW ?_;exact wi hi9 hi10 (hg7 _) (zaa hF)
 refine wC hF [.sh,.sh,.sh] zbj fun z15 hF=>?_
 refine wG hF (fun h16 hF=>?_) fun h16 hF=>?_
 ·exact wV h16 (hj12 _) (zaa hF)
 try simp[go_sem,g,h16]
 refine wC hF [.sh,.sh,.sh] zhf fun z17 hF=>?_
 exact wV h16 (hj12 _) (zaa hF)
def zd4(a0:List Int)(a1:Int)(a2:Int):Option Bool:=
 ((zat (σ:=Unit) (fun i5 s4=>
 (ix a0 i5).bind fun x11=>
 (zaV x11 a1 a2).bind fun z12=>
 if(!z12)=true then(
 some (.out (.inr false)))else(
 some (.go ()))) (fun s4=>.inl ()) (a0.length) 0 ():Option (Unit ⊕ Bool)).bind (Sum.elim (fun x3=>
 some true) some))
theorem zjs:∀{a0}{a1}{a2}{r},zd4 a0 a1 a2=some r→PCalls Tryz.prog 150 [(.sh,vA a0),(.sh,.int .i64 a1),(.sh,.int .i64 a2)] (Eo (.bool r) [.junk,.junk,.junk]):=by
 intro a0 a1 a2 r hr;apply pF 21 [] [] [] [.tmp 6] hr zF0 Tryz.func150;intro Φ hΦ hF g;unfold zd4 at hF
 iterate 2 (try simp[go_sem,g];try intros;refine zap ?_)
 refine wS hF (fun x3=>[]) (fun x3 hF=>?_) fun _ hj1 hr2 hF=>?_
 ·exact wl hΦ hF
 refine wB ?_;obtain⟨b14,hb15,hψ8⟩:=hF;refine pRK hb15 [1,2,9,10] (fun i5 s4=>[(11,.v (.int .i64 i5))]) (fun s4 _ hN16=>?_) fun i5 s4 _ _ hi9 hi10 ho6 hg7 hF=>?_
 ·exact wn hN16 (hj1 _) hψ8
 refine wW ?_;refine wu hi9 hi10 ?_;refine wW ?_;refine wB ?_;obtain⟨x11,g,hF⟩:=Rx g hF;refine wW ?_;refine wC hF [.sh,.sh,.sh] zbj fun z12 hF=>?_
 refine wK [1,2,9,10,11,19] ?_;refine wI hF (fun h13 hF=>?_) fun h13 hF=>?_
 ·cases ho6 _ (zaa hF);cases hΦ _ (hr2 _ hψ8);refine wW ?_;try simp[go_sem,g]
 refine wW ?_;exact wi hi9 hi10 (hg7 _) (zaa hF)
def zf2(a0:Entry):Option Bool:=
 (((zaV a0.Kind 1 9).bind fun z4=>
 if z4=true then(
 (zaV a0.Author 0 39).bind fun z6=>
 if z6=true then(
 if decide ((a0.Data.length:Int)≤380)=true then(
 (zd4 a0.Data 0 4611686018427387903).bind fun z9=>
 some z9)else(
 some false))else(
 some false))else(
 some false):Option Bool).bind fun x3=>
 some x3)
theorem zqu:∀{a0}{r},zf2 a0=some r→PCalls Tryz.prog 104 [(.sh,vC a0)] (Eo (.bool r) [.junk]):=by
 intro a0 r hr;apply pF 22 [] [] [] [.tmp 2] hr zE8 Tryz.func104;intro Φ hΦ hF g;unfold zf2 at hF;refine wW ?_;refine wJ hF (fun x3=>[(2,.v (.bool x3))]) (fun x3 hF=>?_) fun _ hj1 hF=>?_
 ·exact wm hΦ hF
 refine wC hF [.sh,.sh,.sh] zbj fun z4 hF=>?_
 refine wG hF (fun h5 hF=>?_) fun h5 hF=>?_
 ·try simp[go_sem,g,h5]
  refine wC hF [.sh,.sh,.sh] zbj fun z6 hF=>?_
  try simp[go_sem,g,h5]
  refine wG hF (fun h7 hF=>?_) fun h7 hF=>?_
  ·try simp[go_sem,g,h7]
   try intros
   refine wG hF (fun h8 hF=>?_) fun h8 hF=>?_
   ·try simp[go_sem,g,h8]
    refine wC hF [.sh,.sh,.sh] zjs fun z9 hF=>?_
    exact wV h8 (hj1 _) (zaa hF)
   exact wV h8 (hj1 _) (zaa hF)
  exact wV h7 (hj1 _) (zaa hF)
 exact wV h5 (hj1 _) (zaa hF)
def zfB(a0:Entry)(a1:Int):Option Int:=
 gd (([a0.Kind,a0.Author,a1].length+a0.Data.length)*8≤140737488355328∧[a0.Kind,a0.Author,a1].length+a0.Data.length≤4611686018427387904)<|
 (zcv (⟨#[101,110,116,114,121]⟩:ByteArray) ([a0.Kind,a0.Author,a1]++a0.Data)).bind fun z1=>
 some z1
theorem zpm:∀{a0}{a1}{r},zfB a0 a1=some r→PCalls Tryz.prog 152 [(.sh,vC a0),(.sh,.int .i64 a1)] (Eo (.int .i64 r) [.junk,.junk]):=by
 intro a0 a1 r hr;apply pF 15 [] [] [] [.tmp 4] hr zCJ Tryz.func152;intro Φ hΦ hF g;unfold zfB at hF;obtain⟨g,hF⟩:=Rg g hF;refine wW ?_;refine wC hF [.sh,.sh] zfO fun z1 hF=>?_
 refine wK [4] ?_;exact wm hΦ hF
def zex(a0:Int):Option (ByteArray×Bool):=
 (zdr a0).bind fun z1=>
 if(!z1)=true then(
 some ((⟨#[]⟩:ByteArray),false))else(
 gd (0≤16∧16≤16∧1*16≤140737488355328∧16≤4611686018427387904)<|
 (some (List.replicate 16 0)).bind fun x3=>
 ((zau (σ:=Int×List Int×Int) (fun s17=>
 if decide (0≤s17.2.2)=true then(
 (ixs (⟨#[48,49,50,51,52,53,54,55,56,57,97,98,99,100,101,102]⟩:ByteArray) (s17.1.tmod 16)).bind fun x23=>
 (ix s17.2.1 s17.2.2).bind fun x24=>
 some (.go (i64.wrap (s17.1.tdiv 16),s17.2.1.set s17.2.2.toNat x23,i64.wrap (s17.2.2-1))))else(
 some (.out s17.2.1))) (a0,x3,15):Option ((List Int))).bind fun x8=>
 some ((zcT x8),true)))
theorem zm3:∀{a0}{r},zex a0=some r→PCalls Tryz.prog 194 [(.sh,.int .i64 a0)] (Eo (.tup [.str r.1,.bool r.2]) [.junk]):=by
 intro a0 r hr;apply pF 24 [] [] [1000000] [.tmp 2,.tmp 3] hr zDX Tryz.func194;intro Φ hΦ hF g;unfold zex at hF;refine wW ?_;refine wC hF [.sh] zhZ fun z1 hF=>?_
 refine wW ?_;refine wI hF (fun h2 hF=>?_) fun h2 hF=>?_
 ·exact wl hΦ hF
 obtain⟨g,hF⟩:=Rg g hF;obtain⟨x3,e4,hF⟩:=zdA hF;have g5:List.replicate 16 ([.int .u8 0]:List PV)=x3.map zg3:=by injection e4 with e4;rw[←e4];simp[go_sem]
 have g5b:=g5;try simp at g5b
 iterate 3 (try simp[go_sem,g,g5,g5b];refine zap ?_)
 refine wJ hF (fun x8=>[(4,.v (vP x8))]) (fun x8 hF=>?_) fun _ hj6 hF=>?_
 ·refine wK [2,3] ?_;exact wm hΦ hF
 refine wB ?_;obtain⟨b25,hb26,hψ21⟩:=hF;refine pL hb26 (fun s17=>[(0,.v (.int .i64 s17.1)),(4,.v (vP s17.2.1)),(5,.v (.int .i64 s17.2.2))]) fun s17 _ _ ho19 hg20 hF=>?_
 refine wK [0,4,5,11] ?_;refine wI hF (fun h22 hF=>?_) fun h22 hF=>?_
 ·refine wW ?_;refine wB ?_;have g:=Ld g 16;obtain⟨x23,g,hF⟩:=Rxs g hF;obtain⟨x24,g,hF⟩:=Rx g hF;refine wW ?_;refine wK [0,4,5] ?_;exact wT (hg20 _) (zaa hF)
 cases ho19 _ (zaa hF);exact wT (hj6 _) hψ21
def zgq(a0:Int):Option ByteArray:=
 (zex a0).bind fun z1=>
 some z1.1
theorem zrO:∀{a0}{r},zgq a0=some r→PCalls Tryz.prog 151 [(.sh,.int .i64 a0)] (Eo (.str r) [.junk]):=by
 intro a0 r hr;apply pF 11 [] [] [] [.tmp 2] hr zEO Tryz.func151;intro Φ hΦ hF g;unfold zgq at hF;refine wW ?_;refine wC hF [.sh] zm3 fun z1 hF=>?_
 refine wW ?_;refine wK [2] ?_;exact wm hΦ hF
def zhj(a0:Entry)(a1:Int):Option ByteArray:=
 (zfB a0 a1).bind fun z1=>
 (zgq z1).bind fun z2=>
 gd ((⟨#[101,110,116,114,121,32]⟩:ByteArray).size+z2.size≤9223372036854775807)<|
 some ((⟨#[101,110,116,114,121,32]⟩:ByteArray)++z2)
theorem zqg:∀{a0}{a1}{r},zhj a0 a1=some r→PCalls Tryz.prog 106 [(.sh,vC a0),(.sh,.int .i64 a1)] (Eo (.str r) [.junk,.junk]):=by
 intro a0 a1 r hr;apply pF 10 [] [] [] [.tmp 4] hr zFv Tryz.func106;intro Φ hΦ hF g;unfold zhj at hF;refine wW ?_;refine wC hF [.sh,.sh] zpm fun z1 hF=>?_
 refine wC hF [.sh] zrO fun z2 hF=>?_
 obtain⟨g,hF⟩:=Rsa g hF;exact wl hΦ hF
def zeP(a0:Group)(a1:List Int):Option Bool:=
 (zd4 a1 0 (i64.wrap (a0.Q-1))).bind fun z1=>
 some z1
theorem zjk:∀{a0}{a1}{r},zeP a0 a1=some r→PCalls Tryz.prog 158 [(.sh,vF a0),(.sh,vA a1)] (Eo (.bool r) [.junk,.junk]):=by
 intro a0 a1 r hr;apply pF 10 [] [] [] [.tmp 4] hr zD0 Tryz.func158;intro Φ hΦ hF g;unfold zeP at hF;refine wW ?_;refine wC hF [.sh,.sh,.sh] zjs fun z1 hF=>?_
 exact wl hΦ hF
def zew(a0:(List (List Int)))(a1:List Int)(a2:List Int):Option ((List Int)):=
 ((zat (σ:=(List Int)) (fun i5 s4=>
 (ix a0 i5).bind fun x11=>
 gd ((s4.length+x11.length)*8≤140737488355328∧s4.length+x11.length≤4611686018427387904)<|
 some (.go (s4++x11))) (fun s4=>s4) (a0.length) 0 []:Option ((List Int))).bind fun x3=>
 gd ((x3.length+a1.length)*8≤140737488355328∧x3.length+a1.length≤4611686018427387904)<|
 gd (((x3++a1).length+a2.length)*8≤140737488355328∧(x3++a1).length+a2.length≤4611686018427387904)<|
 some (x3++a1++a2))
theorem zm0:∀{a0}{a1}{a2}{r},zew a0 a1 a2=some r→PCalls Tryz.prog 160 [(.sh,vQ a0),(.sh,vA a1),(.sh,vA a2)] (Eo (vI r) [.junk,.junk,.junk]):=by
 intro a0 a1 a2 r hr;apply pF 25 [] [] [] [.tmp 6] hr zC1 Tryz.func160;intro Φ hΦ hF g;unfold zew at hF
 iterate 3 (try simp[go_sem,g];try intros;refine zap ?_)
 refine wJK hF [1,2] (fun x3=>[(7,.v (vI x3))]) (fun x3 hF=>?_) fun _ hj1 hF=>?_
 ·obtain⟨g,hF⟩:=Rg g hF;obtain⟨g,hF⟩:=Rg g hF;refine wK [6] ?_;exact wm hΦ hF
 refine wB ?_;obtain⟨b12,hb13,hψ8⟩:=hF;refine pRK hb13 [1,2,10,11] (fun i5 s4=>[(7,.v (vI s4)),(12,.v (.int .i64 i5))]) (fun s4 _ hN14=>?_) fun i5 s4 _ _ hi9 hi10 ho6 hg7 hF=>?_
 ·exact wn hN14 (hj1 _) hψ8
 refine wW ?_;refine wu hi9 hi10 ?_;refine wW ?_;refine wB ?_;obtain⟨x11,g,hF⟩:=Rx g hF;obtain⟨g,hF⟩:=Rg g hF;refine wW ?_;refine wK [1,2,7,10,11,12] ?_;exact wi hi9 hi10 (hg7 _) (zaa hF)
@[go_sem] def zA0:List DE:=[d0 0 [1],d1 1 [3] 3,d2 2 [8] 3 8,d1 3 [3] 3,d2 4 [10] 3 10,d1 5 [3] 3,d2 6 [12] 3 12,d0 7 [9,11,13],d0 8 [2],d1 11 [3] 3,d2 12 [18] 3 18,⟨9,[14,15],[],none,true,false,false⟩,d3 10 [7,16],d0 13 [17,19],d0 14 [20]]
def zcK(a0:Group)(a1:ByteArray)(a2:List Int):Option Int:=
 gd (([a0.P,a0.Q,a0.G].length+a2.length)*8≤140737488355328∧[a0.P,a0.Q,a0.G].length+a2.length≤4611686018427387904)<|
 (zcv a1 ([a0.P,a0.Q,a0.G]++a2)).bind fun z1=>
 gd (a0.Q≠0)<|
 some (z1.tmod a0.Q)
theorem ziU:∀{a0}{a1}{a2}{r},zcK a0 a1 a2=some r→PCalls Tryz.prog 159 [(.sh,vF a0),(.sh,.str a1),(.sh,vA a2)] (Eo (.int .i64 r) [.junk,.junk,.junk]):=by
 intro a0 a1 a2 r hr;apply pF 21 [] [] [] [.tmp 6] hr zFd Tryz.func159;intro Φ hΦ hF g;unfold zcK at hF;refine wW ?_;refine wX zA0 follows ?_;obtain⟨g,hF⟩:=Rg g hF;refine wC hF [.sh,.sh] zfO fun z1 hF=>?_
 obtain⟨g,hF⟩:=Rz g hF;refine wK [6] ?_;exact wm hΦ hF
def zg8(a0:Int)(a1:Int):Option Int:=
 gd (a1≠0)<|
 gd (a1≠0)<|
 some ((i64.wrap ((a0.tmod a1)+a1)).tmod a1)
theorem zsI:∀{a0}{a1}{r},zg8 a0 a1=some r→PCalls Tryz.prog 154 [(.sh,.int .i64 a0),(.sh,.int .i64 a1)] (Eo (.int .i64 r) [.junk,.junk]):=by
 intro a0 a1 r hr;apply pF 12 [] [] [] [.tmp 4] hr zFQ Tryz.func154;intro Φ hΦ hF g;unfold zg8 at hF;obtain⟨g,hF⟩:=Rz g hF;obtain⟨g,hF⟩:=Rz g hF;cases hΦ _ (zaa hF)
 iterate 2 refine wW ?_
 try simp[go_sem,g]
@[go_sem] def zAn:List DE:=[d0 0 [1],d0 1 [2],d1 2 [3] 3,d2 3 [9] 3 9,d1 5 [3] 3,d2 6 [12] 3 12,d3 4 [8,10],d3 7 [7,11,13],d0 8 [14]]
def zbL(a0:Group)(a1:Int)(a2:Int):Option Int:=
 (zg8 a2 a0.Q).bind fun z1=>
 (zcy a1 z1 a0.P).bind fun z2=>
 some z2
theorem zeG:∀{a0}{a1}{a2}{r},zbL a0 a1 a2=some r→PCalls Tryz.prog 108 [(.sh,vF a0),(.sh,.int .i64 a1),(.sh,.int .i64 a2)] (Eo (.int .i64 r) [.junk,.junk,.junk]):=by
 intro a0 a1 a2 r hr;apply pF 15 [] [] [] [.tmp 6] hr zDy Tryz.func108;intro Φ hΦ hF g;unfold zbL at hF;refine wW ?_;refine wX zAn follows ?_;refine wC hF [.sh,.sh] zsI fun z1 hF=>?_
 refine wC hF [.sh,.sh,.sh] zhf fun z2 hF=>?_
 refine wK [6] ?_;exact wm hΦ hF
@[go_sem] def zAt:List DE:=[d0 0 [7],d2 1 [3] 3 3,d0 2 [9],d0 3 [2],d0 4 [8],d0 5 [20,21],d0 6 [22],d1 9 [3] 3,d2 10 [26] 3 26,d3 7 [18,19,23],d0 8 [17,24],d0 11 [25,27],d0 12 [28]]
def zgG(a0:Group)(a1:List Int)(a2:List Int):Option Int:=
 ((zat (σ:=Int) (fun i5 s4=>
 (ix a1 i5).bind fun x11=>
 (ix a2 i5).bind fun x12=>
 (zbL a0 x11 x12).bind fun z13=>
 gd (a0.P≠0)<|
 some (.go ((i64.wrap (s4*z13)).tmod a0.P))) (fun s4=>s4) (a1.length) 0 1:Option Int).bind fun x3=>
 some x3)
theorem zso:∀{a0}{a1}{a2}{r},zgG a0 a1 a2=some r→PCalls Tryz.prog 161 [(.sh,vF a0),(.sh,vA a1),(.sh,vA a2)] (Eo (.int .i64 r) [.junk,.junk,.junk]):=by
 intro a0 a1 a2 r hr;apply pF 31 [] [] [] [.tmp 6] hr zD2 Tryz.func161;intro Φ hΦ hF g;unfold zgG at hF
 iterate 3 (try simp[go_sem,g];try intros;refine zap ?_)
 refine wJ hF (fun x3=>[(7,.v (.int .i64 x3))]) (fun x3 hF=>?_) fun _ hj1 hF=>?_
 ·exact wl hΦ hF
 refine wB ?_;obtain⟨b14,hb15,hψ8⟩:=hF;refine pRK hb15 [2,3,10,11] (fun i5 s4=>[(7,.v (.int .i64 s4)),(12,.v (.int .i64 i5))]) (fun s4 _ hN16=>?_) fun i5 s4 _ _ hi9 hi10 ho6 hg7 hF=>?_
 ·exact wn hN16 (hj1 _) hψ8
 refine wW ?_;refine wu hi9 hi10 ?_;refine wW ?_;refine wB ?_;obtain⟨x11,g,hF⟩:=Rx g hF;refine wK [2,3,7,8,9,10,11,12] ?_;refine wX zAt follows ?_;obtain⟨x12,g,hF⟩:=Rx g hF;refine wC hF [.sh,.sh,.sh] zeG fun z13 hF=>?_
 obtain⟨g,hF⟩:=Rz g hF;refine wK [2,3,7,10,11,12] ?_;exact wi hi9 hi10 (hg7 _) (zaa hF)
def zci(a0:Group)(a1:List Int):Option Int:=
 ((zat (σ:=Int) (fun i5 s4=>
 (ix a1 i5).bind fun x11=>
 gd (a0.P≠0)<|
 some (.go ((i64.wrap (s4*x11)).tmod a0.P))) (fun s4=>s4) (a1.length) 0 1:Option Int).bind fun x3=>
 some x3)
theorem zfq:∀{a0}{a1}{r},zci a0 a1=some r→PCalls Tryz.prog 70 [(.sh,vF a0),(.sh,vA a1)] (Eo (.int .i64 r) [.junk,.junk]):=by
 intro a0 a1 r hr;apply pF 22 [] [] [] [.tmp 4] hr zKj Tryz.func70;intro Φ hΦ hF g;unfold zci at hF
 iterate 3 (try simp[go_sem,g];try intros;refine zap ?_)
 refine wJ hF (fun x3=>[(5,.v (.int .i64 x3))]) (fun x3 hF=>?_) fun _ hj1 hF=>?_
 ·exact wl hΦ hF
 refine wB ?_;obtain⟨b12,hb13,hψ8⟩:=hF;refine pRK hb13 [2,8,9] (fun i5 s4=>[(5,.v (.int .i64 s4)),(10,.v (.int .i64 i5))]) (fun s4 _ hN14=>?_) fun i5 s4 _ _ hi9 hi10 ho6 hg7 hF=>?_
 ·exact wn hN14 (hj1 _) hψ8
 refine wW ?_;refine wu hi9 hi10 ?_;refine wW ?_;refine wB ?_;obtain⟨x11,g,hF⟩:=Rx g hF;refine wK [2,5,7,8,9,10] ?_;obtain⟨g,hF⟩:=Rz g hF;refine wW ?_;exact wi hi9 hi10 (hg7 _) (zaa hF)
@[go_sem] def zAc:List DE:=[d1 0 [9] 9,d2 1 [14] 9 14,d0 2 [15],d0 3 [2],d0 4 [17],d0 5 [16,18],d0 6 [19],d1 7 [9,20] 9,d2 8 [21,20] 9 21,d0 9 [22,20],d0 10 [23,20],d0 11 [20,24],d0 12 [25],d1 13 [9,26] 9,d2 14 [27,26] 9 27,d0 15 [28,26],d0 16 [2,26],d0 17 [30,26],d0 18 [31,26],d0 19 [32,26],d0 20 [29,33,26],d0 21 [26,34],d0 22 [35],d2 23 [5,36] 5 5,d1 24 [9,36] 9,d2 25 [38,36] 9 38,d3 26 [37,39,36],d0 27 [40,36],d0 28 [36,41],d0 29 [42],d2 30 [5,43] 5 5,d1 31 [9,43] 9,d2 32 [45,43] 9 45,d3 33 [44,46,43],d0 34 [47,43],d0 35 [43,48]]
@[go_sem] def zAX:List DE:=[d0 0 [11],d2 1 [5] 5 5,d0 2 [1],d0 3 [2],d0 4 [3],d1 5 [9] 9,d2 6 [59] 9 59,d3 7 [57,58,60],d3 8 [55,56,61],d0 9 [54,62]]
@[go_sem] def zBM:List DE:=[d2 0 [5] 5 5,d0 1 [13],d1 2 [9] 9,d2 3 [73] 9 73,d2 5 [5] 5 5,d1 6 [9] 9,d2 7 [77] 9 77,d0 8 [12],d0 9 [78,79],d0 10 [80],d2 11 [5] 5 5,d0 12 [3],d0 13 [12],d0 14 [83,84],d0 15 [85],d0 16 [11],⟨4,[71,72,74],[],none,false,true,false⟩,⟨17,[82,86,87],[],none,false,true,false⟩,d0 18 [81,88],⟨19,[76,89],[],none,true,true,true⟩,d0 20 [75,90]]
def zeL(a0:Group)(a1:ByteArray)(a2:(List (List Int)))(a3:List Int)(a4:Proof):Option Bool:=
 ((if((a4.Commits.length:Int) !=(a2.length:Int))=true then(
 some true)else(
 if((a4.Challenges.length:Int) !=1)=true then(
 some true)else(
 (ix a2 0).bind fun x6=>
 if((a4.Responses.length:Int) !=(x6.length:Int))=true then(
 some true)else(
 (zfh a0 a4.Commits).bind fun z8=>
 if(!z8)=true then(
 some true)else(
 (zeP a0 a4.Responses).bind fun z10=>
 some (!z10))))):Option Bool).bind fun x3=>
 if x3=true then(
 some false)else(
 (ix a4.Challenges 0).bind fun x12=>
 (zew a2 a3 a4.Commits).bind fun z13=>
 (zcK a0 a1 z13).bind fun z14=>
 if(x12 !=z14)=true then(
 some false)else(
 ((zat (σ:=Unit) (fun i20 s19=>
 (ix a2 i20).bind fun x26=>
 (ix a4.Commits i20).bind fun x27=>
 (ix a3 i20).bind fun x28=>
 (zgG a0 x26 a4.Responses).bind fun z29=>
 (zbL a0 x28 x12).bind fun z30=>
 (zci a0 [x27,z30]).bind fun z31=>
 if(z29 !=z31)=true then(
 some (.out (.inr false)))else(
 some (.go ()))) (fun s19=>.inl ()) (a2.length) 0 ():Option (Unit ⊕ Bool)).bind (Sum.elim (fun x18=>
 some true) some)))))
theorem zkm:∀{a0}{a1}{a2}{a3}{a4}{r},zeL a0 a1 a2 a3 a4=some r→PCalls Tryz.prog 115 [(.sh,vF a0),(.sh,.str a1),(.sh,vQ a2),(.sh,vA a3),(.sh,vB a4)] (Eo (.bool r) [.junk,.junk,.junk,.junk,.junk]):=by
 intro a0 a1 a2 a3 a4 r hr;apply pF 93 [] [] [] [.tmp 10] hr zEb Tryz.func115;intro Φ hΦ hF g;unfold zeL at hF;refine wW ?_;refine wJK hF [1,2,3,5,9] (fun x3=>[(49,.v (.bool x3))]) (fun x3 hF=>?_) fun _ hj1 hF=>?_
 ·refine wI hF (fun h11 hF=>?_) fun h11 hF=>?_
  ·exact wl hΦ hF
  obtain⟨x12,g,hF⟩:=Rxn g 0 hF
  iterate 2 refine wW ?_
  refine wX zAX follows ?_;refine wC hF [.sh,.sh,.sh] zm0 fun z13 hF=>?_
  refine wC hF [.sh,.sh,.sh] ziU fun z14 hF=>?_
  refine wK [2,3,5,9,11,63] ?_;refine wI hF (fun h15 hF=>?_) fun h15 hF=>?_
  ·exact wl hΦ hF
  iterate 2 (try simp[go_sem,g];try intros;refine zap ?_)
  refine wS hF (fun x18=>[]) (fun x18 hF=>?_) fun _ hj16 hr17 hF=>?_
  ·exact wl hΦ hF
  refine wB ?_;obtain⟨b33,hb34,hψ23⟩:=hF;refine pRK hb34 [3,5,9,11,64,65] (fun i20 s19=>[(66,.v (.int .i64 i20))]) (fun s19 _ hN35=>?_) fun i20 s19 _ _ hi24 hi25 ho21 hg22 hF=>?_
  ·exact wn hN35 (hj16 _) hψ23
  refine wW ?_;refine wu hi24 hi25 ?_;refine wW ?_;refine wB ?_;obtain⟨x26,g,hF⟩:=Rx g hF;refine wW ?_;refine wX zBM follows ?_;obtain⟨x27,g,hF⟩:=Rx g hF;obtain⟨x28,g,hF⟩:=Rx g hF;refine wD hF zso fun z29 hF=>?_
  refine wD hF zeG fun z30 hF=>?_
  refine wC hF [.sh,.sh] zfq fun z31 hF=>?_
  refine wK [3,5,9,11,64,65,66,91] ?_;refine wI hF (fun h32 hF=>?_) fun h32 hF=>?_
  ·cases ho21 _ (zaa hF);cases hΦ _ (hr17 _ hψ23);refine wW ?_;try simp[go_sem,g]
  refine wW ?_;exact wi hi24 hi25 (hg22 _) (zaa hF)
 refine wX zAc follows ?_;try simp[go_sem,g]
 try intros
 refine wH hF (fun h4 hF=>?_) fun h4 hF=>?_
 ·exact wV h4 (hj1 _) (zaa hF)
 try simp[go_sem,g,h4]
 try intros
 refine wH hF (fun h5 hF=>?_) fun h5 hF=>?_
 ·exact wV h5 (hj1 _) (zaa hF)
 obtain⟨x6,g,hF⟩:=Rxn g 0 hF;try simp[go_sem,g,h5]
 try intros
 refine wH hF (fun h7 hF=>?_) fun h7 hF=>?_
 ·exact wV h7 (hj1 _) (zaa hF)
 try simp[go_sem,g,h7]
 refine wC hF [.sh,.sh] zi6 fun z8 hF=>?_
 try simp[go_sem,g,h7]
 refine wH hF (fun h9 hF=>?_) fun h9 hF=>?_
 ·exact wV h9 (hj1 _) (zaa hF)
 try simp[go_sem,g,h9]
 refine wC hF [.sh,.sh] zjk fun z10 hF=>?_
 exact wV h9 (hj1 _) (zaa hF)
def zeJ(a0:Group)(a1:ByteArray)(a2:Int)(a3:Proof):Option Bool:=
 (zeL a0 a1 [[a0.G]] [a2] a3).bind fun z1=>
 some z1
theorem zpr:∀{a0}{a1}{a2}{a3}{r},zeJ a0 a1 a2 a3=some r→PCalls Tryz.prog 105 [(.sh,vF a0),(.sh,.str a1),(.sh,.int .i64 a2),(.sh,vB a3)] (Eo (.bool r) [.junk,.junk,.junk,.junk]):=by
 intro a0 a1 a2 a3 r hr;apply pF 19 [] [] [] [.tmp 8] hr zEZ Tryz.func105;intro Φ hΦ hF g;unfold zeJ at hF;refine wW ?_;refine wC hF [.sh,.sh,.sh,.sh,.sh] zkm fun z1 hF=>?_
 refine wK [8] ?_;exact wm hΦ hF
@[go_sem] def zEc:List DE:=[d2 0 [7] 7 7,d3 1 [9],d0 2 [10],d2 3 [4,11] 4 4,d2 4 [7,11] 7 7,d0 5 [2,11],d0 7 [1,11],d1 8 [7,11] 7,d2 9 [17,11] 7 17,d3 6 [13,14,11],d3 10 [12,15,16,18,11],d0 11 [11,19],d0 12 [20]]
def zfn(a0:Group)(a1:Int)(a2:Int)(a3:Entry):Option Bool:=
 (((zf2 a3).bind fun z4=>
 if z4=true then(
 (zhj a3 a2).bind fun z6=>
 (zeJ a0 z6 a1 a3.Sign).bind fun z7=>
 some z7)else(
 some false):Option Bool).bind fun x3=>
 some x3)
theorem zol:∀{a0}{a1}{a2}{a3}{r},zfn a0 a1 a2 a3=some r→PCalls Tryz.prog 68 [(.sh,vF a0),(.sh,.int .i64 a1),(.sh,.int .i64 a2),(.sh,vC a3)] (Eo (.bool r) [.junk,.junk,.junk,.junk]):=by
 intro a0 a1 a2 a3 r hr;apply pF 21 [] [] [] [.tmp 8] hr zLj Tryz.func68;intro Φ hΦ hF g;unfold zfn at hF;refine wW ?_;refine wJ hF (fun x3=>[(8,.v (.bool x3))]) (fun x3 hF=>?_) fun _ hj1 hF=>?_
 ·exact wm hΦ hF
 refine wX zEc follows ?_;refine wC hF [.sh] zqu fun z4 hF=>?_
 refine wH hF (fun h5 hF=>?_) fun h5 hF=>?_
 ·try simp[go_sem,g,h5]
  refine wC hF [.sh,.sh] zqg fun z6 hF=>?_
  try simp[go_sem,g,h5]
  refine wC hF [.sh,.sh,.sh,.sh] zpr fun z7 hF=>?_
  exact wV h5 (hj1 _) (zaa hF)
 exact wV h5 (hj1 _) (zaa hF)
@[go_sem] def zEQ:List DE:=[d1 0 [6] 6,d2 1 [32] 6 32,d1 2 [3] 3,d2 3 [34] 3 34,d0 4 [35],d0 5 [36],d3 6 [33,37],d0 7 [38],d0 8 [39],d2 9 [2,40] 2 2,d1 10 [3,40] 3,d2 11 [42,40] 3 42,d1 12 [6,40] 6,d2 13 [44,40] 6 44,d0 14 [43,45,40],d0 15 [46,40],d0 16 [5,40],d2 17 [6,40] 6 6,d3 18 [41,47,48,49,40],d0 19 [50,40],d0 20 [40,51]]
def zfY(a0:Group)(a1:Board):Option Bool:=
 ((if decide (40<(a1.Keys.length:Int))=true then(
 some true)else(
 (zfh a0 a1.Keys).bind fun z5=>
 if(!z5)=true then(
 some true)else(
 some (decide (64<(a1.Entries.length:Int))))):Option Bool).bind fun x3=>
 if x3=true then(
 some false)else(
 ((zat (σ:=Unit) (fun i12 s11=>
 (ix a1.Entries i12).bind fun x18=>
 (((zaV x18.Author 0 (i64.wrap ((a1.Keys.length:Int)-1))).bind fun z22=>
 if(!z22)=true then(
 some true)else(
 (ix a1.Keys x18.Author).bind fun x24=>
 (zfn a0 x24 i12 x18).bind fun z25=>
 some (!z25)):Option Bool).bind fun x21=>
 if x21=true then(
 some (.out (.inr false)))else(
 some (.go ())))) (fun s11=>.inl ()) (a1.Entries.length) 0 ():Option (Unit ⊕ Bool)).bind (Sum.elim (fun x10=>
 some true) some))))
theorem zqe:∀{a0}{a1}{r},zfY a0 a1=some r→PCalls Tryz.prog 37 [(.sh,vF a0),(.sh,vE a1)] (Eo (.bool r) [.junk,.junk]):=by
 intro a0 a1 r hr;apply pF 54 [] [] [] [.tmp 4] hr zIQ Tryz.func37;intro Φ hΦ hF g;unfold zfY at hF;refine wW ?_;refine wJK hF [2,3] (fun x3=>[(23,.v (.bool x3))]) (fun x3 hF=>?_) fun _ hj1 hF=>?_
 ·refine wI hF (fun h7 hF=>?_) fun h7 hF=>?_
  ·exact wl hΦ hF
  iterate 2 (try simp[go_sem,g];try intros;refine zap ?_)
  refine wS hF (fun x10=>[]) (fun x10 hF=>?_) fun _ hj8 hr9 hF=>?_
  ·exact wl hΦ hF
  refine wB ?_;obtain⟨b27,hb28,hψ15⟩:=hF;refine pRK hb28 [2,3,25,26] (fun i12 s11=>[(27,.v (.int .i64 i12))]) (fun s11 _ hN29=>?_) fun i12 s11 _ _ hi16 hi17 ho13 hg14 hF=>?_
  ·exact wn hN29 (hj8 _) hψ15
  refine wW ?_;refine wu hi16 hi17 ?_;refine wW ?_;refine wB ?_;obtain⟨x18,g,hF⟩:=Rx g hF;refine wK [2,3,5,6,25,26,27] ?_;refine wJK hF [2,3,25,26,27] (fun x21=>[(52,.v (.bool x21))]) (fun x21 hF=>?_) fun _ hj19 hF=>?_
  ·refine wI hF (fun h26 hF=>?_) fun h26 hF=>?_
   ·cases ho13 _ (zaa hF);cases hΦ _ (hr9 _ hψ15);refine wW ?_;try simp[go_sem,g]
   refine wW ?_;exact wi hi16 hi17 (hg14 _) (zaa hF)
  refine wX zEQ follows ?_;try simp[go_sem,g]
  try intros
  refine wC hF [.sh,.sh,.sh] zbj fun z22 hF=>?_
  refine wH hF (fun h23 hF=>?_) fun h23 hF=>?_
  ·exact wV h23 (hj19 _) (zaa hF)
  obtain⟨x24,g,hF⟩:=Rx g hF;try simp[go_sem,g,h23]
  refine wC hF [.sh,.sh,.sh,.sh] zol fun z25 hF=>?_
  exact wV h23 (hj19 _) (zaa hF)
 try simp[go_sem,g]
 try intros
 refine wG hF (fun h4 hF=>?_) fun h4 hF=>?_
 ·exact wV h4 (hj1 _) (zaa hF)
 try simp[go_sem,g,h4]
 refine wC hF [.sh,.sh] zi6 fun z5 hF=>?_
 try simp[go_sem,g,h4]
 refine wG hF (fun h6 hF=>?_) fun h6 hF=>?_
 ·exact wV h6 (hj1 _) (zaa hF)
 try simp[go_sem,g,h6]
 try intros
 exact wT (hj1 _) (zaa hF)
def zfk(a0:Plan):Option Int:=
 some (i64.wrap ((i64.wrap ((i64.wrap (1+a0.Trustees))+a0.Mixers))+a0.Voters))
theorem zn8:∀{a0}{r},zfk a0=some r→PCalls Tryz.prog 38 [(.sh,vH a0)] (Eo (.int .i64 r) [.junk]):=by
 intro a0 r hr;apply pF 12 [] [] [] [.tmp 2] hr zJC Tryz.func38;intro Φ hΦ hF g;unfold zfk at hF;refine wW ?_;refine wK [2] ?_;exact wm hΦ hF
@[go_sem] def zFK:List DE:=[d2 0 [2] 2 2,d3 1 [5],d0 2 [6],d1 3 [2,7] 2,d2 4 [8,7] 2 8,d2 5 [3,7] 3 3,d3 6 [9,10,7],d0 7 [7,11],d0 8 [12],d1 9 [3,13] 3,d2 10 [14,13] 3 14,d0 11 [15,13],d2 12 [2,13] 2 2,d3 13 [17,13],d0 14 [16,18,13],d0 15 [13,19],d0 16 [20]]
def zem(a0:Plan)(a1:Board):Option Bool:=
 (((zd6 a0).bind fun z4=>
 if z4=true then(
 (zfY a0.Gr a1).bind fun z6=>
 if z6=true then(
 (zfk a0).bind fun z8=>
 some ((a1.Keys.length:Int)==z8))else(
 some false))else(
 some false):Option Bool).bind fun x3=>
 some x3)
theorem zqo:∀{a0}{a1}{r},zem a0 a1=some r→PCalls Tryz.prog 20 [(.sh,vH a0),(.sh,vE a1)] (Eo (.bool r) [.junk,.junk]):=by
 intro a0 a1 r hr;apply pF 21 [] [] [] [.tmp 4] hr zLn Tryz.func20;intro Φ hΦ hF g;unfold zem at hF;refine wW ?_;refine wJ hF (fun x3=>[(4,.v (.bool x3))]) (fun x3 hF=>?_) fun _ hj1 hF=>?_
 ·exact wm hΦ hF
 refine wX zFK follows ?_;refine wC hF [.sh] zrI fun z4 hF=>?_
 refine wH hF (fun h5 hF=>?_) fun h5 hF=>?_
 ·try simp[go_sem,g,h5]
  refine wC hF [.sh,.sh] zqe fun z6 hF=>?_
  try simp[go_sem,g,h5]
  refine wH hF (fun h7 hF=>?_) fun h7 hF=>?_
  ·try simp[go_sem,g,h7]
   try intros
   refine wC hF [.sh] zn8 fun z8 hF=>?_
   exact wV h7 (hj1 _) (zaa hF)
  exact wV h7 (hj1 _) (zaa hF)
 exact wV h5 (hj1 _) (zaa hF)
@[go_sem] def zAO:List DE:=[d0 0 [9],d0 1 [1],d1 2 [4] 4,d2 3 [18] 4 18,d0 4 [2],d0 5 [10],d0 6 [19,20,21],d1 8 [4] 4,d1 9 [24] 4,d2 10 [25] 4 25,⟨7,[17,22],[],none,true,true,true⟩,d0 11 [23,26],d0 12 [27],⟨13,[16,28],[],none,true,false,false⟩,d0 14 [29]]
def zf4(a0:Plan)(a1:ByteArray)(a2:Int)(a3:Int):Option ((List Int)):=
 ((zau (σ:=(List Int)×Int) (fun s4=>
 if decide (s4.2<a3)=true then(
 (zcv a1 [a0.Seed,a2,s4.2]).bind fun z10=>
 gd (a0.Gr.Q≠0)<|
 gd ((s4.1.length+1)*8≤140737488355328∧s4.1.length+1≤4611686018427387904)<|
 some (.go (s4.1++[z10.tmod a0.Gr.Q],i64.wrap (s4.2+1))))else(
 some (.out s4.1))) ([],0):Option ((List Int))).bind fun x3=>
 some x3)
theorem zqb:∀{a0}{a1}{a2}{a3}{r},zf4 a0 a1 a2 a3=some r→PCalls Tryz.prog 153 [(.sh,vH a0),(.sh,.str a1),(.sh,.int .i64 a2),(.sh,.int .i64 a3)] (Eo (vI r) [.junk,.junk,.junk,.junk]):=by
 intro a0 a1 a2 a3 r hr;apply pF 31 [] [] [] [.tmp 8] hr zDT Tryz.func153;intro Φ hΦ hF g;unfold zf4 at hF
 iterate 3 refine wW ?_
 refine wJ hF (fun x3=>[(9,.v (vI x3))]) (fun x3 hF=>?_) fun _ hj1 hF=>?_
 ·exact wl hΦ hF
 refine wB ?_;obtain⟨b11,hb12,hψ8⟩:=hF;refine pLK hb12 [1,2,3,4] (fun s4=>[(9,.v (vI s4.1)),(10,.v (.int .i64 s4.2))]) fun s4 _ _ ho6 hg7 hF=>?_
 refine wW ?_;refine wI hF (fun h9 hF=>?_) fun h9 hF=>?_
 ·refine wW ?_;refine wB ?_;refine wX zAO follows ?_;refine wC hF [.sh,.sh] zfO fun z10 hF=>?_
  obtain⟨g,hF⟩:=Rz g hF;obtain⟨g,hF⟩:=Rg g hF;refine wK [1,2,3,4,9,10] ?_;exact wT (hg7 _) (zaa hF)
 cases ho6 _ (zaa hF);exact wT (hj1 _) hψ8
def zhc(a0:Plan)(a1:Int):Option ((List Int)):=
 (zf4 a0 (⟨#[100,101,97,108]⟩:ByteArray) a1 a0.Threshold).bind fun z1=>
 some z1
theorem zqi:∀{a0}{a1}{r},zhc a0 a1=some r→PCalls Tryz.prog 107 [(.sh,vH a0),(.sh,.int .i64 a1)] (Eo (vI r) [.junk,.junk]):=by
 intro a0 a1 r hr;apply pF 10 [] [] [] [.tmp 4] hr zFS Tryz.func107;intro Φ hΦ hF g;unfold zhc at hF;refine wW ?_;refine wC hF [.sh,.sh,.sh,.sh] zqb fun z1 hF=>?_
 exact wl hΦ hF
def zfc(a0:Plan)(a1:Int):Option ((List Int)):=
 (zhc a0 a1).bind fun z1=>
 ((zat (σ:=(List Int)) (fun i6 s5=>
 (ix z1 i6).bind fun x12=>
 (zbL a0.Gr a0.Gr.G x12).bind fun z13=>
 gd ((s5.length+1)*8≤140737488355328∧s5.length+1≤4611686018427387904)<|
 some (.go (s5++[z13]))) (fun s5=>s5) (z1.length) 0 []:Option ((List Int))).bind fun x4=>
 some x4)
theorem zlo:∀{a0}{a1}{r},zfc a0 a1=some r→PCalls Tryz.prog 69 [(.sh,vH a0),(.sh,.int .i64 a1)] (Eo (vI r) [.junk,.junk]):=by
 intro a0 a1 r hr;apply pF 28 [] [] [] [.tmp 4] hr zJD Tryz.func69;intro Φ hΦ hF g;unfold zfc at hF
 iterate 2 refine wW ?_
 refine wC hF [.sh,.sh] zqi fun z1 hF=>?_
 try simp[go_sem,g]
 try intros
 refine zap ?_;refine wJ hF (fun x4=>[(5,.v (vI x4))]) (fun x4 hF=>?_) fun _ hj2 hF=>?_
 ·refine wK [4] ?_;exact wm hΦ hF
 refine wB ?_;obtain⟨b14,hb15,hψ9⟩:=hF;refine pRK hb15 [2,10,11] (fun i6 s5=>[(5,.v (vI s5)),(12,.v (.int .i64 i6))]) (fun s5 _ hN16=>?_) fun i6 s5 _ _ hi10 hi11 ho7 hg8 hF=>?_
 ·exact wn hN16 (hj2 _) hψ9
 refine wW ?_;refine wu hi10 hi11 ?_;refine wW ?_;refine wB ?_;obtain⟨x12,g,hF⟩:=Rx g hF;refine wK [2,5,7,10,11,12] ?_;refine wC hF [.sh,.sh,.sh] zeG fun z13 hF=>?_
 obtain⟨g,hF⟩:=Rg g hF;refine wK [2,5,10,11,12] ?_;exact wi hi10 hi11 (hg8 _) (zaa hF)
@[go_sem] def zDP:List DE:=[d0 0 [3],d0 1 [5],d1 2 [1] 1,d2 3 [26] 1 26,d0 4 [3],d0 5 [5],d0 6 [28,29],d0 7 [30],d0 8 [6],d0 9 [31,32],⟨10,[27,33],[],none,true,true,true⟩,d0 11 [24,25],d0 12 [35,34]]
def ze6(a0:Plan):Option ((List Int)):=
 (zfc a0 1).bind fun z1=>
 ((zau (σ:=(List Int)×Int) (fun s39=>
 if decide (s39.2≤a0.Trustees)=true then(
 (((zfc a0 s39.2).bind fun z48=>
 zat (σ:=(List Int)) (fun i60 s59=>
 (ix z48 i60).bind fun x66=>
 (ix s59 i60).bind fun x67=>
 (zci a0.Gr [x67,x66]).bind fun z68=>
 some (.go (s59.set i60.toNat z68))) (fun s59=>s59) (z48.length) 0 s39.1:Option ((List Int))).bind fun x47=>
 some (.go (x47,i64.wrap (s39.2+1)))))else(
 some (.out s39.1))) (z1,2):Option ((List Int))).bind fun x4=>
 some x4)
theorem zqv:∀{a0}{r},ze6 a0=some r→PCalls Tryz.prog 39 [(.sh,vH a0)] (Eo (vI r) [.junk]):=by
 intro a0 r hr;apply pF 38 [] [] [] [.tmp 2] hr zJ9 Tryz.func39;intro Φ hΦ hF g;unfold ze6 at hF;refine wW ?_;refine wC hF [.sh,.sh] zlo fun z1 hF=>?_
 iterate 2 refine wW ?_
 refine wJ hF (fun x4=>[(3,.v (vI x4))]) (fun x4 hF=>?_) fun _ hj2 hF=>?_
 ·exact wl hΦ hF
 refine wB ?_;obtain⟨b73,hb74,hψ43⟩:=hF;refine pL hb74 (fun s39=>[(1,.bl [.int .i64 a0.Gr.P,.int .i64 a0.Gr.Q,.int .i64 a0.Gr.G,.int .i64 a0.Ct.Kind,.int .i64 a0.Ct.Options,.int .i64 a0.Ct.Least,.int .i64 a0.Ct.Most,.int .i64 a0.Ct.Points,.int .i64 a0.Threshold,.int .i64 a0.Trustees,.int .i64 a0.Mixers,.int .i64 a0.Voters,.int .i64 a0.Seed]),(3,.v (vI s39.1)),(4,.v (.int .i64 s39.2))]) fun s39 _ _ ho41 hg42 hF=>?_
 refine wK [1,3,4,12] ?_;refine wI hF (fun h44 hF=>?_) fun h44 hF=>?_
 ·refine wW ?_;refine wJK hF [1,4] (fun x47=>[(3,.v (vI x47))]) (fun x47 hF=>?_) fun _ hj45 hF=>?_
  ·exact wT (hg42 _) (zaa hF)
  refine wB ?_;refine wC hF [.sh,.sh] zlo fun z48 hF=>?_
  try simp[go_sem,g]
  try intros
  refine zap ?_;refine wB ?_;obtain⟨b69,hb70,hψ63⟩:=hF;refine pRK hb70 [1,4,17,18] (fun i60 s59=>[(3,.v (vI s59)),(19,.v (.int .i64 i60))]) (fun s59 _ hN71=>?_) fun i60 s59 _ _ hi64 hi65 ho61 hg62 hF=>?_
  ·exact wn hN71 (hj45 _) hψ63
  refine wW ?_;refine wu hi64 hi65 ?_;refine wW ?_;refine wB ?_;obtain⟨x66,g,hF⟩:=Rx g hF;refine wK [1,3,4,5,6,17,18,19] ?_;refine wX zDP follows ?_;obtain⟨x67,g,hF⟩:=Rx g hF;refine wC hF [.sh,.sh] zfq fun z68 hF=>?_
  refine wK [1,3,4,17,18,19] ?_;exact wi hi64 hi65 (hg62 _) (zaa hF)
 cases ho41 _ (zaa hF);exact wT (hj2 _) hψ43
def zdp(a0:List Int):Option Bool:=
 ((if decide ((a0.length:Int)≤400)=true then(
 (zd4 a0 0 4611686018427387903).bind fun z5=>
 some z5)else(
 some false):Option Bool).bind fun x3=>
 some x3)
theorem zhS:∀{a0}{r},zdp a0=some r→PCalls Tryz.prog 155 [(.sh,vA a0)] (Eo (.bool r) [.junk]):=by
 intro a0 r hr;apply pF 10 [] [] [] [.tmp 2] hr zD9 Tryz.func155;intro Φ hΦ hF g;unfold zdp at hF;refine wW ?_;refine wJ hF (fun x3=>[(2,.v (.bool x3))]) (fun x3 hF=>?_) fun _ hj1 hF=>?_
 ·exact wm hΦ hF
 try simp[go_sem,g]
 try intros
 refine wG hF (fun h4 hF=>?_) fun h4 hF=>?_
 ·try simp[go_sem,g,h4]
  refine wC hF [.sh,.sh,.sh] zjs fun z5 hF=>?_
  exact wV h4 (hj1 _) (zaa hF)
 exact wV h4 (hj1 _) (zaa hF)
def zhR(a0:List Int):Option ((List Int)):=
 gd (a0.length*8≤140737488355328∧a0.length≤4611686018427387904)<|
 some a0
theorem zrH:∀{a0}{r},zhR a0=some r→PCalls Tryz.prog 195 [(.sh,vA a0)] (Eo (vI r) [.junk]):=by
 intro a0 r hr;apply pF 6 [] [] [] [.tmp 2] hr zFR Tryz.func195;intro Φ hΦ hF g;unfold zhR at hF;obtain⟨g,hF⟩:=Rg g hF;cases hΦ _ (zaa hF)
 iterate 2 refine wW ?_
 try simp[go_sem,g]
@[go_sem] def zAR:List DE:=[d0 0 [0],d0 1 [5],d0 2 [27,28],d0 4 [0],d0 5 [5],d0 6 [31,32],d3 3 [29],d0 7 [30],d0 8 [33],d0 9 []]
def zce(a0:List Int):Option (List Int×List Int×Bool):=
 ((if((a0.length:Int)==0)=true then(
 some true)else(
 (ix a0 0).bind fun x5=>
 if decide (x5<0)=true then(
 some true)else(
 some (decide ((a0.length:Int)≤x5)))):Option Bool).bind fun x3=>
 if x3=true then(
 some ([],[],false))else(
 (ix a0 0).bind fun x8=>
 gd (0≤(i64.wrap (x8+1)))<|
 gd (1≤(i64.wrap (x8+1)).toNat∧(i64.wrap (x8+1)).toNat≤a0.length)<|
 gd (0≤(i64.wrap (x8+1)))<|
 gd ((i64.wrap (x8+1)).toNat≤a0.length∧a0.length≤a0.length)<|
 (zhR ((a0.take ((i64.wrap (x8+1)).toNat)).drop 1)).bind fun z9=>
 some (z9,(a0.take a0.length).drop ((i64.wrap (x8+1)).toNat),true)))
theorem zhd:∀{a0}{r},zce a0=some r→PCalls Tryz.prog 156 [(.sh,vA a0)] (Eo (.tup [vI r.1,vA r.2.1,.bool r.2.2]) [.junk]):=by
 intro a0 r hr;apply pF 34 [] [3] [] [.tmp 2,.tmp 3,.tmp 4] hr zDR Tryz.func156;intro Φ hΦ hF g;unfold zce at hF;refine wW ?_;refine wJ hF (fun x3=>[(0,.v (vA a0)),(22,.v (.bool x3))]) (fun x3 hF=>?_) fun _ hj1 hF=>?_
 ·refine wI hF (fun h7 hF=>?_) fun h7 hF=>?_
  ·exact wl hΦ hF
  obtain⟨x8,g,hF⟩:=Rxn g 0 hF
  iterate 2 refine wW ?_
  refine wX zAR follows ?_;obtain⟨g,hF⟩:=Rg g hF;obtain⟨g,hF⟩:=Rg g hF;obtain⟨g,hF⟩:=Rg g hF;obtain⟨g,hF⟩:=Rg g hF;refine wC hF [.sh] zrH fun z9 hF=>?_
  refine wK [2,3,4] ?_;exact wm hΦ hF
 try simp[go_sem,g]
 try intros
 refine wG hF (fun h4 hF=>?_) fun h4 hF=>?_
 ·exact wV h4 (hj1 _) (zaa hF)
 obtain⟨x5,g,hF⟩:=Rxn g 0 hF;try simp[go_sem,g,h4]
 refine wG hF (fun h6 hF=>?_) fun h6 hF=>?_
 ·exact wV h6 (hj1 _) (zaa hF)
 try simp[go_sem,g,h6]
 try intros
 exact wT (hj1 _) (zaa hF)
def zel(a0:List Int):Option ((List (List Int))×Bool):=
 (((zdp a0).bind fun z4=>
 if(!z4)=true then(
 some true)else(
 if((a0.length:Int)==0)=true then(
 some true)else(
 (ix a0 0).bind fun x7=>
 some (decide ((a0.length:Int)<x7)))):Option Bool).bind fun x3=>
 if x3=true then(
 some ([],false))else(
 gd (1≤a0.length∧a0.length≤a0.length)<|
 ((zau (σ:=(List (List Int))×List Int×Int) (fun s21=>
 (ix a0 0).bind fun x26=>
 if decide (s21.2.2<x26)=true then(
 (zce s21.2.1).bind fun z28=>
 if(!z28.2.2)=true then(
 some (.out (.inr ([],false))))else(
 gd ((s21.1.length+1)*24≤140737488355328∧s21.1.length+1≤4611686018427387904)<|
 some (.go (s21.1++[z28.1],z28.2.1,i64.wrap (s21.2.2+1)))))else(
 some (.out (.inl (s21.1,s21.2.1))))) ([],(a0.take a0.length).drop 1,0):Option (((List (List Int))×List Int) ⊕ ((List (List Int))×Bool))).bind (Sum.elim (fun x11=>
 some (x11.1,((x11.2.length:Int)==0))) some))))
theorem zqq:∀{a0}{r},zel a0=some r→PCalls Tryz.prog 109 [(.sh,vA a0)] (Eo (.tup [vR r.1,.bool r.2]) [.junk]):=by
 intro a0 r hr;apply pF 52 [] [] [] [.tmp 2,.tmp 3] hr zC9 Tryz.func109;intro Φ hΦ hF g;unfold zel at hF;refine wW ?_;refine wJ hF (fun x3=>[(0,.v (vA a0)),(25,.v (.bool x3))]) (fun x3 hF=>?_) fun _ hj1 hF=>?_
 ·refine wI hF (fun h8 hF=>?_) fun h8 hF=>?_
  ·exact wl hΦ hF
  obtain⟨g,hF⟩:=Rg g hF
  iterate 4 refine wW ?_
  refine wS hF (fun x11=>[(4,.v (vR x11.1)),(5,.v (vA x11.2))]) (fun x11 hF=>?_) fun _ hj9 hr10 hF=>?_
  ·try simp[go_sem,g]
   try intros
   refine wK [2,3] ?_;exact wm hΦ hF
  refine wB ?_;obtain⟨b30,hb31,hψ25⟩:=hF;refine pL hb31 (fun s21=>[(0,.v (vA a0)),(4,.v (vR s21.1)),(5,.v (vA s21.2.1)),(6,.v (.int .i64 s21.2.2))]) fun s21 _ _ ho23 hg24 hF=>?_
  obtain⟨x26,g,hF⟩:=Rxn g 0 hF;refine wK [0,4,5,6,32] ?_;refine wI hF (fun h27 hF=>?_) fun h27 hF=>?_
  ·refine wW ?_;refine wB ?_;refine wC hF [.sh] zhd fun z28 hF=>?_
   refine wW ?_;refine wK [0,4,6,7,8,42] ?_;refine wI hF (fun h29 hF=>?_) fun h29 hF=>?_
   ·cases ho23 _ (zaa hF);cases hΦ _ (hr10 _ hψ25);refine wW ?_;try simp[go_sem,g]
   obtain⟨g,hF⟩:=Rg g hF
   iterate 3 refine wW ?_
   exact wT (hg24 _) (zaa hF)
  cases ho23 _ (zaa hF);exact wT (hj9 _) hψ25
 refine wC hF [.sh] zhS fun z4 hF=>?_
 refine wG hF (fun h5 hF=>?_) fun h5 hF=>?_
 ·exact wV h5 (hj1 _) (zaa hF)
 try simp[go_sem,g,h5]
 try intros
 refine wG hF (fun h6 hF=>?_) fun h6 hF=>?_
 ·exact wV h6 (hj1 _) (zaa hF)
 obtain⟨x7,g,hF⟩:=Rxn g 0 hF;try simp[go_sem,g,h6]
 try intros
 exact wT (hj1 _) (zaa hF)
@[go_sem] def zAg:List DE:=[d0 0 [4],d0 1 [0],d0 2 [5],d0 3 [31,32],d0 4 [33],d0 5 [0],d0 6 [5],d0 7 [36],d0 8 [35,37],d0 9 [38],d0 10 [34,39],d0 11 [40],⟨12,[30,41],[],none,true,false,false⟩,d0 13 [42]]
def zcV(a0:List Int):Option (List Cipher×Bool):=
 (((zdp a0).bind fun z4=>
 if(!z4)=true then(
 some true)else(
 if((a0.length:Int)==0)=true then(
 some true)else(
 (ix a0 0).bind fun x7=>
 some ((a0.length:Int) !=(i64.wrap (1+(i64.wrap (2*x7))))))):Option Bool).bind fun x3=>
 if x3=true then(
 some ([],false))else(
 ((zau (σ:=(List Cipher)×Int) (fun s12=>
 if decide (s12.2<(a0.length:Int))=true then(
 (ix a0 s12.2).bind fun x18=>
 (ix a0 (i64.wrap (s12.2+1))).bind fun x19=>
 gd ((s12.1.length+1)*16≤140737488355328∧s12.1.length+1≤4611686018427387904)<|
 some (.go (s12.1++[(Cipher.mk x18 x19)],i64.wrap (s12.2+2))))else(
 some (.out s12.1))) ([],1):Option ((List Cipher))).bind fun x11=>
 some (x11,true))))
theorem zlB:∀{a0}{r},zcV a0=some r→PCalls Tryz.prog 110 [(.sh,vA a0)] (Eo (.tup [vS r.1,.bool r.2]) [.junk]):=by
 intro a0 r hr;apply pF 44 [] [] [] [.tmp 2,.tmp 3] hr zDn Tryz.func110;intro Φ hΦ hF g;unfold zcV at hF;refine wW ?_;refine wJ hF (fun x3=>[(0,.v (vA a0)),(23,.v (.bool x3))]) (fun x3 hF=>?_) fun _ hj1 hF=>?_
 ·refine wI hF (fun h8 hF=>?_) fun h8 hF=>?_
  ·exact wl hΦ hF
  iterate 3 refine wW ?_
  refine wJ hF (fun x11=>[(4,.v (vS x11))]) (fun x11 hF=>?_) fun _ hj9 hF=>?_
  ·exact wl hΦ hF
  refine wB ?_;obtain⟨b20,hb21,hψ16⟩:=hF;refine pL hb21 (fun s12=>[(0,.v (vA a0)),(4,.v (vS s12.1)),(5,.v (.int .i64 s12.2))]) fun s12 _ _ ho14 hg15 hF=>?_
  try simp[go_sem,g]
  try intros
  refine zap ?_;refine wI hF (fun h17 hF=>?_) fun h17 hF=>?_
  ·refine wW ?_;refine wB ?_;refine wX zAg follows ?_;obtain⟨x18,g,hF⟩:=Rx g hF;obtain⟨x19,g,hF⟩:=Rx g hF;obtain⟨g,hF⟩:=Rg g hF;refine wK [0,4,5] ?_;exact wT (hg15 _) (zaa hF)
  cases ho14 _ (zaa hF);exact wT (hj9 _) hψ16
 refine wC hF [.sh] zhS fun z4 hF=>?_
 refine wG hF (fun h5 hF=>?_) fun h5 hF=>?_
 ·exact wV h5 (hj1 _) (zaa hF)
 try simp[go_sem,g,h5]
 try intros
 refine wG hF (fun h6 hF=>?_) fun h6 hF=>?_
 ·exact wV h6 (hj1 _) (zaa hF)
 obtain⟨x7,g,hF⟩:=Rxn g 0 hF;try simp[go_sem,g,h6]
 try intros
 exact wT (hj1 _) (zaa hF)
def zcH(a0:List Int):Option (Proof×Bool):=
 (zdp a0).bind fun z1=>
 if(!z1)=true then(
 some ((Proof.mk [] [] []),false))else(
 (zce a0).bind fun z3=>
 (zce z3.2.1).bind fun z4=>
 (zce z4.2.1).bind fun z5=>
 ((if(!z3.2.2)=true then(
 some true)else(
 if(!z4.2.2)=true then(
 some true)else(
 if(!z5.2.2)=true then(
 some true)else(
 some (decide (0<(z5.2.1.length:Int)))))):Option Bool).bind fun x8=>
 if x8=true then(
 some ((Proof.mk [] [] []),false))else(
 some ((Proof.mk z3.1 z4.1 z5.1),true))))
theorem zm2:∀{a0}{r},zcH a0=some r→PCalls Tryz.prog 111 [(.sh,vA a0)] (Eo (.tup [vJ r.1,.bool r.2]) [.junk]):=by
 intro a0 r hr;apply pF 53 [] [] [] [.cell 2 82,.tmp 3] hr zDF Tryz.func111;intro Φ hΦ hF g;unfold zcH at hF;refine wW ?_;refine wC hF [.sh] zhS fun z1 hF=>?_
 refine wW ?_;refine wI hF (fun h2 hF=>?_) fun h2 hF=>?_
 ·exact wl hΦ hF
 refine wW ?_;refine wC hF [.sh] zhd fun z3 hF=>?_
 refine wK [2,4,5,6] ?_;refine wC hF [.sh] zhd fun z4 hF=>?_
 refine wW ?_;refine wC hF [.sh] zhd fun z5 hF=>?_
 refine wK [2,4,5,6,7,8,9,10] ?_;refine wJK hF [2,4,7,9] (fun x8=>[(47,.v (.bool x8))]) (fun x8 hF=>?_) fun _ hj6 hF=>?_
 ·refine wI hF (fun h12 hF=>?_) fun h12 hF=>?_
  ·exact wl hΦ hF
  cases hΦ _ (zaa hF)
  iterate 2 refine wW ?_
  try simp[go_sem,g]
 refine wG hF (fun h9 hF=>?_) fun h9 hF=>?_
 ·exact wV h9 (hj6 _) (zaa hF)
 try simp[go_sem,g,h9]
 refine wG hF (fun h10 hF=>?_) fun h10 hF=>?_
 ·exact wV h10 (hj6 _) (zaa hF)
 try simp[go_sem,g,h10]
 refine wG hF (fun h11 hF=>?_) fun h11 hF=>?_
 ·exact wV h11 (hj6 _) (zaa hF)
 try simp[go_sem,g,h11]
 try intros
 exact wT (hj6 _) (zaa hF)
def zcu(a0:List Int):Option (Sealed×Bool):=
 (zel a0).bind fun z1=>
 ((if(!z1.2)=true then(
 some true)else(
 if decide ((z1.1.length:Int)<3)=true then(
 some true)else(
 (ix z1.1 0).bind fun x7=>
 if((x7.length:Int) !=1)=true then(
 some true)else(
 (ix x7 0).bind fun x9=>
 some (decide (999999<x9))))):Option Bool).bind fun x4=>
 if x4=true then(
 some ((Sealed.mk 0 [] [] (Proof.mk [] [] [])),false))else(
 (ix z1.1 0).bind fun x11=>
 (ix x11 0).bind fun x12=>
 (ix z1.1 1).bind fun x13=>
 (zcV x13).bind fun z14=>
 if(!z14.2)=true then(
 some ((Sealed.mk 0 [] [] (Proof.mk [] [] [])),false))else(
 gd (2≤z1.1.length∧z1.1.length≤z1.1.length)<|
 ((zat (σ:=Int×List Cipher×List Proof×List Int×List Int×List Int) (fun i50 s49=>
 (((ix ((z1.1.take z1.1.length).drop 2) i50).bind fun x60=>
 (zcH x60).bind fun z61=>
 if(!z61.2)=true then(
 some (.inr (.out (.inr ((Sealed.mk 0 [] [] (Proof.mk [] [] [])),false)))))else(
 if(i50==(i64.wrap ((z1.1.length:Int)-3)))=true then(
 some (.inl (s49.1,s49.2.1,s49.2.2.1,z61.1.Commits,z61.1.Challenges,z61.1.Responses)))else(
 gd ((s49.2.2.1.length+1)*72≤140737488355328∧s49.2.2.1.length+1≤4611686018427387904)<|
 some (.inl (s49.1,s49.2.1,s49.2.2.1++[z61.1],s49.2.2.2.1,s49.2.2.2.2.1,s49.2.2.2.2.2)))):Option ((Int×List Cipher×List Proof×List Int×List Int×List Int) ⊕ (Stp (Int×List Cipher×List Proof×List Int×List Int×List Int) ((Int×List Cipher×List Proof×List Int×List Int×List Int) ⊕ (Sealed×Bool))))).bind (Sum.elim (fun x59=>
 some (.go (x59.1,x59.2.1,x59.2.2.1,x59.2.2.2.1,x59.2.2.2.2.1,x59.2.2.2.2.2))) some))) (fun s49=>.inl (s49.1,s49.2.1,s49.2.2.1,s49.2.2.2.1,s49.2.2.2.2.1,s49.2.2.2.2.2)) (((z1.1.take z1.1.length).drop 2).length) 0 (x12,z14.1,[],[],[],[]):Option ((Int×List Cipher×List Proof×List Int×List Int×List Int) ⊕ (Sealed×Bool))).bind (Sum.elim (fun x18=>
 some ((Sealed.mk x18.1 x18.2.1 x18.2.2.1 (Proof.mk x18.2.2.2.1 x18.2.2.2.2.1 x18.2.2.2.2.2)),true)) some)))))
theorem znV:∀{a0}{r},zcu a0=some r→PCalls Tryz.prog 71 [(.sh,vA a0)] (Eo (.tup [vU r.1,.bool r.2]) [.junk]):=by
 intro a0 r hr;apply pF 90 [] [4] [] [.cell 2 88,.tmp 3] hr zJe Tryz.func71;intro Φ hΦ hF g;unfold zcu at hF;refine wW ?_;refine wC hF [.sh] zqq fun z1 hF=>?_
 refine wW ?_;refine wJK hF [2,4] (fun x4=>[(39,.v (.bool x4))]) (fun x4 hF=>?_) fun _ hj2 hF=>?_
 ·refine wI hF (fun h10 hF=>?_) fun h10 hF=>?_
  ·refine wK [2,3] ?_;exact wm hΦ hF
  obtain⟨x11,g,hF⟩:=Rxn g 0 hF;obtain⟨x12,g,hF⟩:=Rxn g 0 hF;refine wW ?_;refine wK [2,4,6] ?_;obtain⟨x13,g,hF⟩:=Rxn g 1 hF;refine wC hF [.sh] zlB fun z14 hF=>?_
  refine wW ?_;refine wK [2,4,6,7,55] ?_;refine wI hF (fun h15 hF=>?_) fun h15 hF=>?_
  ·exact wl hΦ hF
  obtain⟨g,hF⟩:=Rg g hF
  iterate 3 (try simp[go_sem,g];try intros;refine zap ?_)
  refine wS hF (fun x18=>[(2,.bl [.int .i64 0,.sl true 2 [],.sl true 3 [],.sl true 1 [],.sl true 1 [],.sl true 1 []]),(6,.bl [.int .i64 x18.1,vS x18.2.1,vT x18.2.2.1,vI x18.2.2.2.1,vI x18.2.2.2.2.1,vI x18.2.2.2.2.2])]) (fun x18 hF=>?_) fun _ hj16 hr17 hF=>?_
  ·refine wK [2,3] ?_;exact wm hΦ hF
  refine wB ?_;obtain⟨b64,hb65,hψ53⟩:=hF;refine pRK hb65 [2,4,60,61] (fun i50 s49=>[(6,.bl [.int .i64 s49.1,vS s49.2.1,vT s49.2.2.1,vI s49.2.2.2.1,vI s49.2.2.2.2.1,vI s49.2.2.2.2.2]),(62,.v (.int .i64 i50))]) (fun s49 _ hN66=>?_) fun i50 s49 _ _ hi54 hi55 ho51 hg52 hF=>?_
  ·exact wn hN66 (hj16 _) hψ53
  have hi56:=hi55;try simp at hi56
  refine wW ?_;refine wt ?_ (hb:=by simp[go_sem,g,hi54,hi55,hi56]<;>omega);refine wW ?_;refine wSK hF [2,4,60,61,62] (fun x59=>[(6,.bl [.int .i64 x59.1,vS x59.2.1,vT x59.2.2.1,vI x59.2.2.2.1,vI x59.2.2.2.2.1,vI x59.2.2.2.2.2])]) (fun x59 hF=>?_) fun _ hj57 hr58 hF=>?_
  ·exact wT (hg52 (x59.1,x59.2.1,x59.2.2.1,x59.2.2.2.1,x59.2.2.2.2.1,x59.2.2.2.2.2)) (zaa hF) (a:=by simp[go_sem,g,zxc hi54 hi55 (by first|assumption|(simp;assumption)|(simp;omega))])
  refine wB ?_;obtain⟨x60,g,hF⟩:=Rxq g hF;refine wK [2,4,6,9,10,60,61,62] ?_;refine wC hF [.sh] zm2 fun z61 hF=>?_
  refine wW ?_;refine wK [2,4,6,9,11,60,61,62,73] ?_;refine wI hF (fun h62 hF=>?_) fun h62 hF=>?_
  ·cases ho51 _ (hr58 _ (zaa hF));cases hΦ _ (hr17 _ hψ53);refine wW ?_;try simp[go_sem,g]
  iterate 2 (try simp[go_sem,g];try intros;refine zap ?_)
  refine wI hF (fun h63 hF=>?_) fun h63 hF=>?_
  ·exact wT (hj57 _) (zaa hF)
  obtain⟨g,hF⟩:=Rg g hF;exact wT (hj57 _) (zaa hF)
 refine wG hF (fun h5 hF=>?_) fun h5 hF=>?_
 ·exact wV h5 (hj2 _) (zaa hF)
 try simp[go_sem,g,h5]
 try intros
 refine wG hF (fun h6 hF=>?_) fun h6 hF=>?_
 ·exact wV h6 (hj2 _) (zaa hF)
 obtain⟨x7,g,hF⟩:=Rxn g 0 hF;try simp[go_sem,g,h6]
 try intros
 refine wG hF (fun h8 hF=>?_) fun h8 hF=>?_
 ·exact wV h8 (hj2 _) (zaa hF)
 obtain⟨x9,g,hF⟩:=Rxn g 0 hF;exact wV h8 (hj2 _) (zaa hF)
def zhl(a0:Plan)(a1:Int):Option Int:=
 some (i64.wrap ((i64.wrap ((i64.wrap (1+a0.Trustees))+a0.Mixers))+a1))
theorem zqw:∀{a0}{a1}{r},zhl a0 a1=some r→PCalls Tryz.prog 72 [(.sh,vH a0),(.sh,.int .i64 a1)] (Eo (.int .i64 r) [.junk,.junk]):=by
 intro a0 a1 r hr;apply pF 13 [] [] [] [.tmp 4] hr zIl Tryz.func72;intro Φ hΦ hF g;unfold zhl at hF;refine wW ?_;refine wK [4] ?_;exact wm hΦ hF
def ze5(a0:Contest):Option Int:=
 (zd7 a0).bind fun z1=>
 if z1=true then(
 some a0.Options)else(
 some 1)
theorem zlq:∀{a0}{r},ze5 a0=some r→PCalls Tryz.prog 112 [(.sh,vG a0)] (Eo (.int .i64 r) [.junk]):=by
 intro a0 r hr;apply pF 7 [] [] [] [.tmp 2] hr zEd Tryz.func112;intro Φ hΦ hF g;unfold ze5 at hF;refine wW ?_;refine wC hF [.sh] zhX fun z1 hF=>?_
 refine wW ?_;refine wI hF (fun h2 hF=>?_) fun h2 hF=>?_
 ·exact wl hΦ hF
 cases hΦ _ (zaa hF)
 iterate 2 refine wW ?_
 try simp[go_sem,g]
def zgD(a0:Group)(a1:List Cipher):Option Bool:=
 if decide (24<(a1.length:Int))=true then(
 some false)else(
 ((zat (σ:=Unit) (fun i6 s5=>
 (ix a1 i6).bind fun x12=>
 (zfh a0 [x12.A,x12.B]).bind fun z13=>
 if(!z13)=true then(
 some (.out (.inr false)))else(
 some (.go ()))) (fun s5=>.inl ()) (a1.length) 0 ():Option (Unit ⊕ Bool)).bind (Sum.elim (fun x4=>
 some true) some)))
theorem zq0:∀{a0}{a1}{r},zgD a0 a1=some r→PCalls Tryz.prog 113 [(.sh,vF a0),(.sh,vV a1)] (Eo (.bool r) [.junk,.junk]):=by
 intro a0 a1 r hr;apply pF 25 [] [] [] [.tmp 4] hr zDa Tryz.func113;intro Φ hΦ hF g;unfold zgD at hF
 iterate 2 (try simp[go_sem,g];try intros;refine zap ?_)
 refine wI hF (fun h1 hF=>?_) fun h1 hF=>?_
 ·exact wl hΦ hF
 iterate 2 (try simp[go_sem,g];try intros;refine zap ?_)
 refine wS hF (fun x4=>[]) (fun x4 hF=>?_) fun _ hj2 hr3 hF=>?_
 ·exact wl hΦ hF
 refine wB ?_;obtain⟨b15,hb16,hψ9⟩:=hF;refine pRK hb16 [2,10,11] (fun i6 s5=>[(12,.v (.int .i64 i6))]) (fun s5 _ hN17=>?_) fun i6 s5 _ _ hi10 hi11 ho7 hg8 hF=>?_
 ·exact wn hN17 (hj2 _) hψ9
 refine wW ?_;refine wu hi10 hi11 ?_;refine wW ?_;refine wB ?_;obtain⟨x12,g,hF⟩:=Rx g hF;refine wK [2,6,10,11,12] ?_;refine wC hF [.sh,.sh] zi6 fun z13 hF=>?_
 refine wW ?_;refine wI hF (fun h14 hF=>?_) fun h14 hF=>?_
 ·cases ho7 _ (zaa hF);cases hΦ _ (hr3 _ hψ9);refine wW ?_;try simp[go_sem,g]
 refine wW ?_;exact wi hi10 hi11 (hg8 _) (zaa hF)
@[go_sem] def zBw:List DE:=[d0 0 [0],d0 1 [10],d0 3 [0],d0 4 [13],d0 5 [14],d0 6 [15],d0 7 [16],d3 2 [11],⟨8,[17],[],none,true,true,false⟩,d0 9 [12,18],d0 10 [19]]
@[go_sem] def zxF:List DE:=[d0 0 [0],d0 1 [10],d0 3 [0],d0 4 [13],d0 5 [14],d0 6 [15],d0 7 [16],⟨8,[17],[],none,true,true,false⟩,d3 2 [11],d0 9 [12,18],d0 10 [19]]
def zbp:Nat→Int→Option ByteArray
 |0,_=>none
 |n_+1,a0=>
 if decide (a0<10)=true then(
 some (zcT [u8.wrap (i64.wrap (48+a0))]))else(
 (zbp n_ (i64.wrap (a0.tdiv 10))).bind fun z2=>
 gd (z2.size+(zcT [u8.wrap (i64.wrap (48+(a0.tmod 10)))]).size≤9223372036854775807)<|
 some (z2++(zcT [u8.wrap (i64.wrap (48+(a0.tmod 10)))])))
def zjA(a0:Int):Option ByteArray:=zpp fun n_=>zbp n_ a0
theorem zpd:∀{n_:Nat}{a0:Int}{r:ByteArray}(hr:zbp n_ a0=some r),PCalls Tryz.prog 157 [(.sh,.int .i64 a0)] (Eo (.str r) [.junk]):=by
 intro n_;induction n_ with
 |zero=>intro a0 r hr;cases hr
 |succ n_ ih=>
  intro a0 r hr;apply pF 20 [] [] [1000000] [.tmp 2] hr zCT Tryz.func157;intro Φ hΦ hF g;simp only[zbp]at hF
  iterate 2 refine wW ?_
  refine wI hF (fun h1 hF=>?_) fun h1 hF=>?_
  ·exact wl hΦ hF
  ·refine wW ?_
   repeat rw[sq]
   refine zxR 2 8 zBw zxF follows (by decide) (by kernel_rfl) (by kernel_rfl) rfl rfl ?_ ?_
   ·have g:=Ld g 10;refine wC hF [.sh] ih fun z2 hF=>?_
    obtain⟨g,hF⟩:=Rsa g hF;refine wK [2] ?_;exact wm hΦ hF
   ·have g:=Ld g 10;refine wC hF [.sh] ih fun z2 hF=>?_
    obtain⟨g,hF⟩:=Rsa g hF;refine wK [2] ?_;exact wm hΦ hF
theorem zsa{a0:Int}{r:ByteArray}(hr:zjA a0=some r):PCalls Tryz.prog 157 [(.sh,.int .i64 a0)] (Eo (.str r) [.junk]):=by
 obtain⟨n_,hn⟩:=zvp hr;exact zpd hn
def zf7(a0:Int):Option ByteArray:=
 (zjA a0).bind fun z1=>
 gd ((⟨#[98,97,108,108,111,116,32]⟩:ByteArray).size+z1.size≤9223372036854775807)<|
 some ((⟨#[98,97,108,108,111,116,32]⟩:ByteArray)++z1)
theorem zqa:∀{a0}{r},zf7 a0=some r→PCalls Tryz.prog 114 [(.sh,.int .i64 a0)] (Eo (.str r) [.junk]):=by
 intro a0 r hr;apply pF 6 [] [] [] [.tmp 2] hr zEi Tryz.func114;intro Φ hΦ hF g;unfold zf7 at hF;refine wW ?_;refine wC hF [.sh] zsa fun z1 hF=>?_
 obtain⟨g,hF⟩:=Rsa g hF;exact wl hΦ hF
def zgF(a0:Proof):Option Bool:=
 some ((i64.wrap ((i64.wrap ((a0.Commits.length:Int)+(a0.Challenges.length:Int)))+(a0.Responses.length:Int)))==0)
theorem zrD:∀{a0}{r},zgF a0=some r→PCalls Tryz.prog 116 [(.sh,vB a0)] (Eo (.bool r) [.junk]):=by
 intro a0 r hr;apply pF 15 [] [] [] [.tmp 2] hr zEI Tryz.func116;intro Φ hΦ hF g;unfold zgF at hF;try simp[go_sem,g]
 try intros
 refine zap ?_;try simp[go_sem,g]
 try intros
 refine wK [2] ?_;exact wm hΦ hF
@[go_sem] def zA9:List DE:=[d0 0 [11],d1 1 [5] 5,d2 2 [20] 5 20,d1 3 [7] 7,d2 4 [22] 7 22,d0 5 [1],d2 6 [5] 5 5,d1 7 [7] 7,d2 8 [26] 7 26,d2 9 [5] 5 5,d1 10 [5] 5,d2 11 [29] 5 29,d0 12 [12],d0 13 [31],d3 14 [28,30,32],d0 15 [27,33],⟨16,[25,34],[],none,true,true,true⟩,d0 17 [21,23,24,35],d0 18 [36],⟨19,[19,37],[],none,true,false,false⟩,d0 20 [38]]
def zcw(a0:Group)(a1:Int)(a2:Cipher)(a3:Int)(a4:Int):Option ((List EqualLog)):=
 ((zau (σ:=(List EqualLog)×Int) (fun s4=>
 if decide (s4.2≤a4)=true then(
 (zbL a0 a0.G (i64.wrap (0-s4.2))).bind fun z10=>
 (zci a0 [a2.B,z10]).bind fun z11=>
 gd ((s4.1.length+1)*32≤140737488355328∧s4.1.length+1≤4611686018427387904)<|
 some (.go (s4.1++[(EqualLog.mk a0.G a2.A a1 z11)],i64.wrap (s4.2+1))))else(
 some (.out s4.1))) ([],a3):Option ((List EqualLog))).bind fun x3=>
 some x3)
theorem ziF:∀{a0}{a1}{a2}{a3}{a4}{r},zcw a0 a1 a2 a3 a4=some r→PCalls Tryz.prog 118 [(.sh,vF a0),(.sh,.int .i64 a1),(.sh,vY a2),(.sh,.int .i64 a3),(.sh,.int .i64 a4)] (Eo (vX r) [.junk,.junk,.junk,.junk,.junk]):=by
 intro a0 a1 a2 a3 a4 r hr;apply pF 40 [] [] [] [.tmp 10] hr zCB Tryz.func118;intro Φ hΦ hF g;unfold zcw at hF
 iterate 3 refine wW ?_
 refine wJ hF (fun x3=>[(11,.v (vX x3))]) (fun x3 hF=>?_) fun _ hj1 hF=>?_
 ·exact wl hΦ hF
 refine wB ?_;obtain⟨b12,hb13,hψ8⟩:=hF;refine pLK hb13 [1,4,5,7] (fun s4=>[(11,.v (vX s4.1)),(12,.v (.int .i64 s4.2))]) fun s4 _ _ ho6 hg7 hF=>?_
 refine wW ?_;refine wI hF (fun h9 hF=>?_) fun h9 hF=>?_
 ·refine wW ?_;refine wB ?_;refine wX zA9 follows ?_;refine wC hF [.sh,.sh,.sh] zeG fun z10 hF=>?_
  refine wC hF [.sh,.sh] zfq fun z11 hF=>?_
  obtain⟨g,hF⟩:=Rg g hF;refine wK [1,4,5,7,11,12] ?_;exact wT (hg7 _) (zaa hF)
 cases ho6 _ (zaa hF);exact wT (hj1 _) hψ8
def zhb(a0:List Int)(a1:Int):Option Int:=
 ((zat (σ:=Int) (fun i5 s4=>
 (ix a0 i5).bind fun x11=>
 gd (a1≠0)<|
 some (.go ((i64.wrap (s4+x11)).tmod a1))) (fun s4=>s4) (a0.length) 0 0:Option Int).bind fun x3=>
 some x3)
theorem ztd:∀{a0}{a1}{r},zhb a0 a1=some r→PCalls Tryz.prog 162 [(.sh,vA a0),(.sh,.int .i64 a1)] (Eo (.int .i64 r) [.junk,.junk]):=by
 intro a0 a1 r hr;apply pF 21 [] [] [] [.tmp 4] hr zFe Tryz.func162;intro Φ hΦ hF g;unfold zhb at hF
 iterate 3 (try simp[go_sem,g];try intros;refine zap ?_)
 refine wJ hF (fun x3=>[(5,.v (.int .i64 x3))]) (fun x3 hF=>?_) fun _ hj1 hF=>?_
 ·exact wl hΦ hF
 refine wB ?_;obtain⟨b12,hb13,hψ8⟩:=hF;refine pRK hb13 [1,8,9] (fun i5 s4=>[(5,.v (.int .i64 s4)),(10,.v (.int .i64 i5))]) (fun s4 _ hN14=>?_) fun i5 s4 _ _ hi9 hi10 ho6 hg7 hF=>?_
 ·exact wn hN14 (hj1 _) hψ8
 refine wW ?_;refine wu hi9 hi10 ?_;refine wW ?_;refine wB ?_;obtain⟨x11,g,hF⟩:=Rx g hF;obtain⟨g,hF⟩:=Rz g hF;refine wW ?_;refine wK [1,5,8,9,10] ?_;exact wi hi9 hi10 (hg7 _) (zaa hF)
@[go_sem] def zAu:List DE:=[d2 0 [4] 4 4,d0 1 [1],d0 2 [9],d0 3 [3],d0 4 [32,33],d3 5 [30,31,34],d0 6 [35]]
def zf6(a0:Group)(a1:ByteArray)(a2:List EqualLog)(a3:List Int):Option Int:=
 ((zat (σ:=(List Int)) (fun i5 s4=>
 (ix a2 i5).bind fun x11=>
 gd ((s4.length+4)*8≤140737488355328∧s4.length+4≤4611686018427387904)<|
 some (.go (s4++[x11.G1,x11.Y1,x11.G2,x11.Y2]))) (fun s4=>s4) (a2.length) 0 []:Option ((List Int))).bind fun x3=>
 gd ((x3.length+a3.length)*8≤140737488355328∧x3.length+a3.length≤4611686018427387904)<|
 (zcK a0 a1 (x3++a3)).bind fun z16=>
 some z16)
theorem zqt:∀{a0}{a1}{a2}{a3}{r},zf6 a0 a1 a2 a3=some r→PCalls Tryz.prog 163 [(.sh,vF a0),(.sh,.str a1),(.sh,vZ a2),(.sh,vA a3)] (Eo (.int .i64 r) [.junk,.junk,.junk,.junk]):=by
 intro a0 a1 a2 a3 r hr;apply pF 36 [] [] [] [.tmp 8] hr zFP Tryz.func163;intro Φ hΦ hF g;unfold zf6 at hF
 iterate 3 (try simp[go_sem,g];try intros;refine zap ?_)
 refine wJK hF [1,3,4] (fun x3=>[(9,.v (vI x3))]) (fun x3 hF=>?_) fun _ hj1 hF=>?_
 ·refine wX zAu follows ?_;obtain⟨g,hF⟩:=Rg g hF;refine wC hF [.sh,.sh,.sh] ziU fun z16 hF=>?_
  refine wK [8] ?_;exact wm hΦ hF
 refine wB ?_;obtain⟨b12,hb13,hψ8⟩:=hF;refine pRK hb13 [1,3,4,12,13] (fun i5 s4=>[(9,.v (vI s4)),(14,.v (.int .i64 i5))]) (fun s4 _ hN14=>?_) fun i5 s4 _ _ hi9 hi10 ho6 hg7 hF=>?_
 ·exact wn hN14 (hj1 _) hψ8
 refine wW ?_;refine wu hi9 hi10 ?_;refine wW ?_;refine wB ?_;obtain⟨x11,g,hF⟩:=Rx g hF;refine wK [1,3,4,9,11,12,13,14] ?_;obtain⟨g,hF⟩:=Rg g hF;refine wK [1,3,4,9,12,13,14] ?_;exact wi hi9 hi10 (hg7 _) (zaa hF)
@[go_sem] def zBX:List DE:=[d1 0 [7] 7,d2 1 [57] 7 57,d1 2 [4] 4,d2 3 [59] 4 59,d2 5 [4] 4 4,d0 6 [1],d0 7 [2],d1 8 [7] 7,d2 9 [65] 7 65,d3 4 [58,60],d3 10 [62,63,64,66],d0 11 [61,67]]
@[go_sem] def zAf:List DE:=[d1 0 [7] 7,d2 1 [76] 7 76,d0 2 [9],d0 3 [77,78],d0 4 [79],d1 5 [7] 7,d2 6 [81] 7 81,d0 7 [9],d0 8 [82,83],d0 9 [84],d0 10 [80],d0 11 [85]]
@[go_sem] def zBQ:List DE:=[d2 0 [4] 4 4,d1 1 [10] 10,d2 2 [87] 10 87,d0 3 [12],d2 5 [4] 4 4,d1 6 [7] 7,d2 7 [92] 7 92,d0 8 [9],d0 9 [94],d0 10 [93,95],d0 11 [96],d2 12 [4] 4 4,d1 13 [10] 10,d2 14 [99] 10 99,d0 15 [11],⟨4,[86,88,89],[],none,false,true,false⟩,⟨16,[98,100,101],[],none,false,true,false⟩,d0 17 [97,102],⟨18,[91,103],[],none,true,true,true⟩,d0 19 [90,104],d0 20 [105],d2 21 [4,106] 4 4,d1 22 [10,106] 10,d2 23 [108,106] 10 108,d0 24 [12,106],d2 26 [4,106] 4 4,d1 27 [7,106] 7,d2 28 [113,106] 7 113,d0 29 [9,106],d0 30 [115,106],d0 31 [116,106],d0 32 [114,117,106],d0 33 [118,106],d2 34 [4,106] 4 4,d1 35 [10,106] 10,d2 36 [121,106] 10 121,d0 37 [11,106],⟨25,[107,109,110,106],[],none,false,true,false⟩,⟨38,[120,122,123,106],[],none,false,true,false⟩,d0 39 [119,124,106],⟨40,[112,125,106],[],none,true,true,true⟩,d0 41 [111,126,106],d0 42 [106,127]]
def zcI(a0:Group)(a1:ByteArray)(a2:List EqualLog)(a3:Proof):Option Bool:=
 ((if((a3.Commits.length:Int) !=(i64.wrap (2*(a2.length:Int))))=true then(
 some true)else(
 if((a3.Challenges.length:Int) !=(a2.length:Int))=true then(
 some true)else(
 if((a3.Responses.length:Int) !=(a2.length:Int))=true then(
 some true)else(
 (zfh a0 a3.Commits).bind fun z7=>
 if(!z7)=true then(
 some true)else(
 (zeP a0 a3.Challenges).bind fun z9=>
 if(!z9)=true then(
 some true)else(
 (zeP a0 a3.Responses).bind fun z11=>
 some (!z11)))))):Option Bool).bind fun x3=>
 if x3=true then(
 some false)else(
 (zhb a3.Challenges a0.Q).bind fun z13=>
 (zf6 a0 a1 a2 a3.Commits).bind fun z14=>
 if(z13 !=z14)=true then(
 some false)else(
 ((zat (σ:=Unit) (fun i20 s19=>
 (ix a2 i20).bind fun x26=>
 (ix a3.Challenges i20).bind fun x27=>
 (ix a3.Responses i20).bind fun x28=>
 (((ix a3.Commits (i64.wrap (2*i20))).bind fun x32=>
 (zbL a0 x26.G1 x28).bind fun z33=>
 (zbL a0 x26.Y1 x27).bind fun z34=>
 (zci a0 [x32,z34]).bind fun z35=>
 if(z33 !=z35)=true then(
 some true)else(
 (ix a3.Commits (i64.wrap ((i64.wrap (2*i20))+1))).bind fun x37=>
 (zbL a0 x26.G2 x28).bind fun z38=>
 (zbL a0 x26.Y2 x27).bind fun z39=>
 (zci a0 [x37,z39]).bind fun z40=>
 some (z38 !=z40)):Option Bool).bind fun x31=>
 if x31=true then(
 some (.out (.inr false)))else(
 some (.go ())))) (fun s19=>.inl ()) (a2.length) 0 ():Option (Unit ⊕ Bool)).bind (Sum.elim (fun x18=>
 some true) some)))))
theorem ziV:∀{a0}{a1}{a2}{a3}{r},zcI a0 a1 a2 a3=some r→PCalls Tryz.prog 117 [(.sh,vF a0),(.sh,.str a1),(.sh,vZ a2),(.sh,vB a3)] (Eo (.bool r) [.junk,.junk,.junk,.junk]):=by
 intro a0 a1 a2 a3 r hr;apply pF 130 [] [] [] [.tmp 8] hr zEH Tryz.func117;intro Φ hΦ hF g;unfold zcI at hF;refine wW ?_;refine wJK hF [1,2,4,7] (fun x3=>[(56,.v (.bool x3))]) (fun x3 hF=>?_) fun _ hj1 hF=>?_
 ·refine wI hF (fun h12 hF=>?_) fun h12 hF=>?_
  ·exact wl hΦ hF
  refine wW ?_;refine wX zBX follows ?_;refine wC hF [.sh,.sh] ztd fun z13 hF=>?_
  refine wC hF [.sh,.sh,.sh,.sh] zqt fun z14 hF=>?_
  refine wK [2,4,7,68] ?_;refine wI hF (fun h15 hF=>?_) fun h15 hF=>?_
  ·exact wl hΦ hF
  iterate 2 (try simp[go_sem,g];try intros;refine zap ?_)
  refine wS hF (fun x18=>[]) (fun x18 hF=>?_) fun _ hj16 hr17 hF=>?_
  ·exact wl hΦ hF
  refine wB ?_;obtain⟨b42,hb43,hψ23⟩:=hF;refine pRK hb43 [4,7,69,70] (fun i20 s19=>[(71,.v (.int .i64 i20))]) (fun s19 _ hN44=>?_) fun i20 s19 _ _ hi24 hi25 ho21 hg22 hF=>?_
  ·exact wn hN44 (hj16 _) hψ23
  refine wW ?_;refine wu hi24 hi25 ?_;refine wW ?_;refine wB ?_;obtain⟨x26,g,hF⟩:=Rx g hF;refine wK [4,7,9,10,69,70,71] ?_;refine wX zAf follows ?_;obtain⟨x27,g,hF⟩:=Rx g hF;obtain⟨x28,g,hF⟩:=Rx g hF;refine wK [4,7,9,10,11,12,69,70,71] ?_;refine wJK hF [4,7,69,70,71] (fun x31=>[(128,.v (.bool x31))]) (fun x31 hF=>?_) fun _ hj29 hF=>?_
  ·refine wI hF (fun h41 hF=>?_) fun h41 hF=>?_
   ·cases ho21 _ (zaa hF);cases hΦ _ (hr17 _ hψ23);refine wW ?_;try simp[go_sem,g]
   refine wW ?_;exact wi hi24 hi25 (hg22 _) (zaa hF)
  refine wX zBQ follows ?_;obtain⟨x32,g,hF⟩:=Rx g hF;refine wD hF zeG fun z33 hF=>?_
  refine wD hF zeG fun z34 hF=>?_
  refine wC hF [.sh,.sh] zfq fun z35 hF=>?_
  refine wH hF (fun h36 hF=>?_) fun h36 hF=>?_
  ·exact wV h36 (hj29 _) (zaa hF)
  obtain⟨x37,g,hF⟩:=Rx g hF;try simp[go_sem,g,h36]
  refine wD hF zeG fun z38 hF=>?_
  try simp[go_sem,g,h36]
  refine wD hF zeG fun z39 hF=>?_
  try simp[go_sem,g,h36]
  refine wC hF [.sh,.sh] zfq fun z40 hF=>?_
  exact wV h36 (hj29 _) (zaa hF)
 try simp[go_sem,g]
 try intros
 refine wG hF (fun h4 hF=>?_) fun h4 hF=>?_
 ·exact wV h4 (hj1 _) (zaa hF)
 try simp[go_sem,g,h4]
 try intros
 refine wG hF (fun h5 hF=>?_) fun h5 hF=>?_
 ·exact wV h5 (hj1 _) (zaa hF)
 try simp[go_sem,g,h5]
 try intros
 refine wG hF (fun h6 hF=>?_) fun h6 hF=>?_
 ·exact wV h6 (hj1 _) (zaa hF)
 try simp[go_sem,g,h6]
 refine wC hF [.sh,.sh] zi6 fun z7 hF=>?_
 try simp[go_sem,g,h6]
 refine wG hF (fun h8 hF=>?_) fun h8 hF=>?_
 ·exact wV h8 (hj1 _) (zaa hF)
 try simp[go_sem,g,h8]
 refine wC hF [.sh,.sh] zjk fun z9 hF=>?_
 try simp[go_sem,g,h8]
 refine wG hF (fun h10 hF=>?_) fun h10 hF=>?_
 ·exact wV h10 (hj1 _) (zaa hF)
 try simp[go_sem,g,h10]
 refine wC hF [.sh,.sh] zjk fun z11 hF=>?_
 exact wV h10 (hj1 _) (zaa hF)
@[go_sem] def zA8:List DE:=[d2 0 [2] 2 2,d1 1 [5] 5,d2 2 [16] 5 16,d1 3 [7] 7,d2 4 [18] 7 18,d0 5 [17,19],d2 7 [2] 2 2,d1 8 [5] 5,d2 9 [23] 5 23,d1 10 [7] 7,d2 11 [25] 7 25,d0 12 [24,26],⟨6,[15,20],[],none,true,true,true⟩,⟨13,[22,27],[],none,true,true,true⟩,d0 14 [21,28],d2 15 [5,29] 5 5]
def zgd(a0:Group)(a1:List Cipher):Option Cipher:=
 ((zat (σ:=Int×Int) (fun i15 s14=>
 (ix a1 i15).bind fun x21=>
 (zci a0 [s14.1,x21.A]).bind fun z22=>
 (zci a0 [s14.2,x21.B]).bind fun z23=>
 some (.go (z22,z23))) (fun s14=>(s14.1,s14.2)) (a1.length) 0 (1,1):Option ((Int×Int))).bind fun x3=>
 some (Cipher.mk x3.1 x3.2))
theorem zs4:∀{a0}{a1}{r},zgd a0 a1=some r→PCalls Tryz.prog 119 [(.sh,vF a0),(.sh,vV a1)] (Eo (vY r) [.junk,.junk]):=by
 intro a0 a1 r hr;apply pF 32 [] [] [] [.cell 4 160] hr zCP Tryz.func119;intro Φ hΦ hF g;unfold zgd at hF
 iterate 3 (try simp[go_sem,g];try intros;refine zap ?_)
 refine wJ hF (fun x3=>[(4,.bl [.int .i64 0,.int .i64 0]),(5,.bl [.int .i64 x3.1,.int .i64 x3.2])]) (fun x3 hF=>?_) fun _ hj1 hF=>?_
 ·refine wK [4] ?_;exact wm hΦ hF
 refine wB ?_;obtain⟨b24,hb25,hψ18⟩:=hF;refine pRK hb25 [2,4,9,10] (fun i15 s14=>[(5,.bl [.int .i64 s14.1,.int .i64 s14.2]),(11,.v (.int .i64 i15))]) (fun s14 _ hN26=>?_) fun i15 s14 _ _ hi19 hi20 ho16 hg17 hF=>?_
 ·exact wn hN26 (hj1 _) hψ18
 refine wW ?_;refine wu hi19 hi20 ?_;refine wW ?_;refine wB ?_;obtain⟨x21,g,hF⟩:=Rx g hF;refine wK [2,4,5,7,9,10,11] ?_;refine wX zA8 follows ?_;refine wC hF [.sh,.sh] zfq fun z22 hF=>?_
 refine wC hF [.sh,.sh] zfq fun z23 hF=>?_
 refine wK [2,4,5,9,10,11] ?_;exact wi hi19 hi20 (hg17 _) (zaa hF)
@[go_sem] def zFf:List DE:=[d1 0 [7] 7,d2 1 [12] 7 12,d3 2 [13],d0 3 [14],d0 4 [15],d1 5 [7,16] 7,d2 6 [17,16] 7 17,d0 7 [18,16],d2 8 [6,16] 6 6,d3 9 [20,16],d0 10 [19,21,16],d0 11 [16,22],d0 12 [23],d1 13 [7,24] 7,d2 14 [25,24] 7 25,d0 15 [26,24],d2 16 [6,24] 6 6,d3 17 [28,24],d0 18 [27,29,24],d0 19 [24,30],d0 20 [31],d2 21 [4,32] 4 4,d1 22 [7,32] 7,d2 23 [34,32] 7 34,d3 24 [33,35,32],d0 25 [36,32],d0 26 [32,37]]
@[go_sem] def zBJ:List DE:=[d2 0 [4] 4 4,d0 1 [9],d2 2 [4] 4 4,d0 3 [1],d2 4 [4] 4 4,d1 5 [7] 7,d2 6 [96] 7 96,d1 8 [6] 6,d2 9 [99] 6 99,d1 10 [6] 6,d2 11 [101] 6 101,d1 13 [7] 7,d2 14 [104] 7 104,d3 7 [95,97],d3 12 [93,94,98,100,102],d3 15 [91,92,103,105],d0 16 [106]]
@[go_sem] def zEu:List DE:=[d2 0 [4] 4 4,d0 1 [9],d1 2 [4] 4,d2 3 [47] 4 47,d0 4 [48],d1 6 [7] 7,d2 7 [51] 7 51,d0 8 [52],d0 9 [53],d0 10 [54],d0 11 [55],d1 12 [7] 7,d2 13 [57] 7 57,d0 14 [58],d0 15 [59],⟨5,[49],[],none,true,true,false⟩,⟨16,[45,46,50,56,60],[],none,true,true,true⟩,d0 17 [61],d1 18 [7,62] 7,d2 19 [63,62] 7 63,d3 20 [64,62],d0 21 [62,65],d0 22 [66]]
@[go_sem] def zCq:List DE:=[d2 0 [4] 4 4,d0 1 [9],d2 2 [4] 4 4,d0 3 [1],d2 4 [11] 11 11,d2 5 [6] 6 6,d1 8 [7] 7,d2 9 [83] 7 83,d0 10 [10],d0 11 [84,85],d0 12 [86],⟨6,[80],[],none,false,true,false⟩,⟨7,[77,78,79,81],[],none,false,true,false⟩,d3 13 [75,76,82,87],d0 14 [88]]
def zfI(a0:Group)(a1:Int)(a2:Contest)(a3:Sealed):Option Bool:=
 (((zaV a3.Voter 0 999999).bind fun z4=>
 if(!z4)=true then(
 some true)else(
 (ze5 a2).bind fun z6=>
 if((a3.Ciphers.length:Int) !=z6)=true then(
 some true)else(
 (ze5 a2).bind fun z8=>
 if((a3.Proofs.length:Int) !=z8)=true then(
 some true)else(
 (zgD a0 a3.Ciphers).bind fun z10=>
 some (!z10)))):Option Bool).bind fun x3=>
 if x3=true then(
 some false)else(
 (zf7 a3.Voter).bind fun z12=>
 (zd7 a2).bind fun z13=>
 if(!z13)=true then(
 (((ix a3.Ciphers 0).bind fun x18=>
 (ix a3.Proofs 0).bind fun x19=>
 (zeL a0 z12 [[a0.G]] [x18.A] x19).bind fun z20=>
 if z20=true then(
 (zgF a3.Sum).bind fun z22=>
 some z22)else(
 some false):Option Bool).bind fun x17=>
 some x17))else(
 ((zat (σ:=Unit) (fun i27 s26=>
 (ix a3.Ciphers i27).bind fun x33=>
 (ix a3.Proofs i27).bind fun x34=>
 (zdm a2).bind fun z35=>
 (zcw a0 a1 x33 0 z35).bind fun z36=>
 (zcI a0 z12 z36 x34).bind fun z37=>
 if(!z37)=true then(
 some (.out (.inr false)))else(
 some (.go ()))) (fun s26=>.inl ()) (a3.Ciphers.length) 0 ():Option (Unit ⊕ Bool)).bind (Sum.elim (fun x25=>
 (zgd a0 a3.Ciphers).bind fun z43=>
 (zcw a0 a1 z43 a2.Least a2.Most).bind fun z44=>
 (zcI a0 z12 z44 a3.Sum).bind fun z45=>
 some z45) some)))))
theorem zoX:∀{a0}{a1}{a2}{a3}{r},zfI a0 a1 a2 a3=some r→PCalls Tryz.prog 73 [(.sh,vF a0),(.sh,.int .i64 a1),(.sh,vG a2),(.sh,vAA a3)] (Eo (.bool r) [.junk,.junk,.junk,.junk]):=by
 intro a0 a1 a2 a3 r hr;apply pF 107 [] [] [] [.tmp 8] hr zHq Tryz.func73;intro Φ hΦ hF g;unfold zfI at hF;refine wW ?_;refine wJK hF [1,4,6,7] (fun x3=>[(38,.v (.bool x3))]) (fun x3 hF=>?_) fun _ hj1 hF=>?_
 ·refine wI hF (fun h11 hF=>?_) fun h11 hF=>?_
  ·exact wl hΦ hF
  refine wW ?_;refine wC hF [.sh] zqa fun z12 hF=>?_
  refine wW ?_;refine wC hF [.sh] zhX fun z13 hF=>?_
  refine wK [1,4,6,7,9,44] ?_;refine wI hF (fun h14 hF=>?_) fun h14 hF=>?_
  ·refine wJ hF (fun x17=>[(8,.v (.bool x17))]) (fun x17 hF=>?_) fun _ hj15 hF=>?_
   ·exact wm hΦ hF
   refine wX zEu follows ?_;obtain⟨x18,g,hF⟩:=Rxn g 0 hF;obtain⟨x19,g,hF⟩:=Rxn g 0 hF;refine wC hF [.sh,.sh,.sh,.sh,.sh] zkm fun z20 hF=>?_
   refine wH hF (fun h21 hF=>?_) fun h21 hF=>?_
   ·try simp[go_sem,g,h21]
    refine wC hF [.sh] zrD fun z22 hF=>?_
    exact wV h21 (hj15 _) (zaa hF)
   exact wV h21 (hj15 _) (zaa hF)
  iterate 2 (try simp[go_sem,g];try intros;refine zap ?_)
  refine wSK hF [1,4,6,7,9] (fun x25=>[]) (fun x25 hF=>?_) fun _ hj23 hr24 hF=>?_
  ·refine wX zBJ follows ?_;refine wC hF [.sh,.sh] zs4 fun z43 hF=>?_
   refine wC hF [.sh,.sh,.sh,.sh,.sh] ziF fun z44 hF=>?_
   refine wC hF [.sh,.sh,.sh,.sh] ziV fun z45 hF=>?_
   refine wK [8] ?_;exact wm hΦ hF
  refine wB ?_;obtain⟨b39,hb40,hψ30⟩:=hF;refine pRK hb40 [1,4,6,7,9,68,69] (fun i27 s26=>[(70,.v (.int .i64 i27))]) (fun s26 _ hN41=>?_) fun i27 s26 _ _ hi31 hi32 ho28 hg29 hF=>?_
  ·exact wn hN41 (hj23 _) hψ30
  refine wW ?_;refine wu hi31 hi32 ?_;refine wW ?_;refine wB ?_;obtain⟨x33,g,hF⟩:=Rx g hF;refine wK [1,4,6,7,9,10,11,68,69,70] ?_;refine wX zCq follows ?_;obtain⟨x34,g,hF⟩:=Rx g hF;refine wD hF znd fun z35 hF=>?_
  refine wD hF ziF fun z36 hF=>?_
  refine wC hF [.sh,.sh,.sh,.sh] ziV fun z37 hF=>?_
  refine wK [1,4,6,7,9,68,69,70,89] ?_;refine wI hF (fun h38 hF=>?_) fun h38 hF=>?_
  ·cases ho28 _ (zaa hF);cases hΦ _ (hr24 _ hψ30);refine wW ?_;try simp[go_sem,g]
  refine wW ?_;exact wi hi31 hi32 (hg29 _) (zaa hF)
 refine wX zFf follows ?_;refine wC hF [.sh,.sh,.sh] zbj fun z4 hF=>?_
 refine wH hF (fun h5 hF=>?_) fun h5 hF=>?_
 ·exact wV h5 (hj1 _) (zaa hF)
 try simp[go_sem,g,h5]
 try intros
 refine wC hF [.sh] zlq fun z6 hF=>?_
 try simp[go_sem,g,h5]
 refine wH hF (fun h7 hF=>?_) fun h7 hF=>?_
 ·exact wV h7 (hj1 _) (zaa hF)
 try simp[go_sem,g,h7]
 try intros
 refine wC hF [.sh] zlq fun z8 hF=>?_
 try simp[go_sem,g,h7]
 refine wH hF (fun h9 hF=>?_) fun h9 hF=>?_
 ·exact wV h9 (hj1 _) (zaa hF)
 try simp[go_sem,g,h9]
 refine wC hF [.sh,.sh] zq0 fun z10 hF=>?_
 exact wV h9 (hj1 _) (zaa hF)
@[go_sem] def zDd:List DE:=[d0 0 [9],d0 1 [16],d0 2 [17],d1 3 [5,18] 5,d2 4 [19,18] 5 19,d0 5 [20,18],d0 6 [18,21],d0 7 [22],d1 8 [5,23] 5,d2 9 [24,23] 5 24,d2 10 [3,23] 3 3,d1 11 [8,23] 8,d2 12 [27,23] 8 27,d3 13 [26,28,23],d0 14 [25,29,23],d0 15 [23,30],d0 16 [31],d1 17 [8,32] 8,d2 18 [33,32] 8 33,d1 19 [3,32] 3,d2 20 [35,32] 3 35,d0 21 [34,36,32],d0 22 [32,37]]
@[go_sem] def zDm:List DE:=[d2 0 [8] 8 8,d1 1 [3] 3,d2 2 [41] 3 41,d0 3 [1],d1 4 [3] 3,d2 5 [44] 3 44,d2 6 [8] 8 8,d3 7 [42,43,45,46],d2 8 [6,40] 6 6,d0 9 [47]]
def zcj(a0:Plan)(a1:Int)(a2:Entry):Option (Sealed×Bool):=
 (zcu a2.Data).bind fun z1=>
 ((if(!z1.2)=true then(
 some true)else(
 if(a2.Kind !=3)=true then(
 some true)else(
 (zhl a0 z1.1.Voter).bind fun z7=>
 if(a2.Author !=z7)=true then(
 some true)else(
 some (decide (a0.Voters≤z1.1.Voter))))):Option Bool).bind fun x4=>
 if x4=true then(
 some ((Sealed.mk 0 [] [] (Proof.mk [] [] [])),false))else(
 (zfI a0.Gr a1 a0.Ct z1.1).bind fun z10=>
 some (z1.1,z10)))
theorem zoO:∀{a0}{a1}{a2}{r},zcj a0 a1 a2=some r→PCalls Tryz.prog 40 [(.sh,vH a0),(.sh,.int .i64 a1),(.sh,vC a2)] (Eo (.tup [vU r.1,.bool r.2]) [.junk,.junk,.junk]):=by
 intro a0 a1 a2 r hr;apply pF 48 [] [] [] [.cell 6 88,.tmp 7] hr zIm Tryz.func40;intro Φ hΦ hF g;unfold zcj at hF;refine wW ?_;refine wC hF [.sh] znV fun z1 hF=>?_
 refine wK [1,3,5,6,8,9] ?_;refine wJK hF [1,3,6,8] (fun x4=>[(38,.v (.bool x4))]) (fun x4 hF=>?_) fun _ hj2 hF=>?_
 ·refine wI hF (fun h9 hF=>?_) fun h9 hF=>?_
  ·exact wl hΦ hF
  refine wW ?_;refine wX zDm follows ?_;refine wC hF [.sh,.sh,.sh,.sh] zoX fun z10 hF=>?_
  refine wK [6,7] ?_;exact wm hΦ hF
 refine wX zDd follows ?_;refine wH hF (fun h5 hF=>?_) fun h5 hF=>?_
 ·exact wV h5 (hj2 _) (zaa hF)
 try simp[go_sem,g,h5]
 refine wH hF (fun h6 hF=>?_) fun h6 hF=>?_
 ·exact wV h6 (hj2 _) (zaa hF)
 try simp[go_sem,g,h6]
 refine wC hF [.sh,.sh] zqw fun z7 hF=>?_
 try simp[go_sem,g,h6]
 refine wH hF (fun h8 hF=>?_) fun h8 hF=>?_
 ·exact wV h8 (hj2 _) (zaa hF)
 exact wV h8 (hj2 _) (zaa hF)
def zfd(a0:Plan)(a1:Board):Option ((List Int)):=
 gd (0≤a0.Voters∧a0.Voters≤a0.Voters∧8*a0.Voters≤140737488355328∧a0.Voters≤4611686018427387904)<|
 (some (List.replicate a0.Voters.toNat 0)).bind fun x1=>
 ((zat (σ:=(List Int)) (fun i16 s15=>
 (ix s15 i16).bind fun x22=>
 some (.go (s15.set i16.toNat (-1)))) (fun s15=>s15) (x1.length) 0 x1:Option ((List Int))).bind fun x6=>
 (ze6 a0).bind fun z27=>
 (ix z27 0).bind fun x28=>
 ((zat (σ:=(List Int)) (fun i48 s47=>
 (((ix a1.Entries i48).bind fun x57=>
 if(x57.Kind==4)=true then(
 some (.inr (.out s47)))else(
 (zcj a0 x28 x57).bind fun z59=>
 if z59.2=true then(
 (ix s47 z59.1.Voter).bind fun x61=>
 some (.inl (s47.set z59.1.Voter.toNat i48)))else(
 some (.inl s47))):Option ((List Int) ⊕ (Stp (List Int) (List Int)))).bind (Sum.elim (fun x56=>
 some (.go x56)) some))) (fun s47=>s47) (a1.Entries.length) 0 x6:Option ((List Int))).bind fun x31=>
 ((zat (σ:=(List Int)) (fun i70 s69=>
 (((ix x31 i70).bind fun x79=>
 if decide (0≤x79)=true then(
 gd ((s69.length+1)*8≤140737488355328∧s69.length+1≤4611686018427387904)<|
 some (s69++[x79]))else(
 some s69):Option ((List Int))).bind fun x78=>
 some (.go x78))) (fun s69=>s69) (x31.length) 0 []:Option ((List Int))).bind fun x68=>
 some x68)))
theorem zoe:∀{a0}{a1}{r},zfd a0 a1=some r→PCalls Tryz.prog 21 [(.sh,vH a0),(.sh,vE a1)] (Eo (vI r) [.junk,.junk]):=by
 intro a0 a1 r hr;apply pF 70 [] [] [] [.tmp 4] hr zHT Tryz.func21;intro Φ hΦ hF g;unfold zfd at hF;obtain⟨g,hF⟩:=Rg g hF;obtain⟨x1,e2,hF⟩:=zdA hF;have g3:List.replicate a0.Voters.toNat ([.int .i64 0]:List PV)=x1.map zaf:=by injection e2 with e2;rw[←e2];simp[go_sem]
 iterate 2 (try simp[go_sem,g,g3];try intros;refine zap ?_)
 try simp[go_sem,g,g3]
 try intros
 refine wK [2,3,5,19,20] ?_;refine wJK hF [2,3] (fun x6=>[(5,.v (vI x6))]) (fun x6 hF=>?_) fun _ hj4 hF=>?_
 ·refine wC hF [.sh] zqv fun z27 hF=>?_
  obtain⟨x28,g,hF⟩:=Rxn g 0 hF
  iterate 2 (try simp[go_sem,g];try intros;refine zap ?_)
  refine wJ hF (fun x31=>[(5,.v (vI x31))]) (fun x31 hF=>?_) fun _ hj29 hF=>?_
  ·refine wK [5,12] ?_;try simp[go_sem,g]
   try intros
   refine zap ?_;refine wJ hF (fun x68=>[(12,.v (vI x68))]) (fun x68 hF=>?_) fun _ hj66 hF=>?_
   ·exact wl hΦ hF
   refine wB ?_;obtain⟨b81,hb82,hψ73⟩:=hF;refine pRK hb82 [5,56,57] (fun i70 s69=>[(12,.v (vI s69)),(58,.v (.int .i64 i70))]) (fun s69 _ hN83=>?_) fun i70 s69 _ _ hi74 hi75 ho71 hg72 hF=>?_
   ·exact wn hN83 (hj66 _) hψ73
   refine wW ?_;refine wu hi74 hi75 ?_;refine wW ?_;refine wJK hF [5,56,57,58] (fun x78=>[(12,.v (vI x78))]) (fun x78 hF=>?_) fun _ hj76 hF=>?_
   ·exact wi hi74 hi75 (hg72 _) (zaa hF)
   refine wB ?_;obtain⟨x79,g,hF⟩:=Rx g hF
   iterate 2 refine wW ?_
   refine wI hF (fun h80 hF=>?_) fun h80 hF=>?_
   ·obtain⟨g,hF⟩:=Rg g hF;exact wT (hj76 _) (zaa hF)
   exact wT (hj76 _) (zaa hF)
  refine wB ?_;obtain⟨b62,hb63,hψ51⟩:=hF;refine pRK hb63 [2,7,32,33] (fun i48 s47=>[(5,.v (vI s47)),(34,.v (.int .i64 i48))]) (fun s47 _ hN64=>?_) fun i48 s47 _ _ hi52 hi53 ho49 hg50 hF=>?_
  ·exact wn hN64 (hj29 _) hψ51
  refine wK [2,5,7,32,33,34,35] ?_;refine wu hi52 hi53 ?_;refine wW ?_;refine wSK hF [2,7,32,33,34] (fun x56=>[(5,.v (vI x56))]) (fun x56 hF=>?_) fun _ hj54 hr55 hF=>?_
  ·exact wi hi52 hi53 (hg50 _) (zaa hF)
  refine wB ?_;obtain⟨x57,g,hF⟩:=Rx g hF
  iterate 2 refine wW ?_
  refine wI hF (fun h58 hF=>?_) fun h58 hF=>?_
  ·cases ho49 _ (hr55 _ (zaa hF));exact wT (hj29 _) hψ51
  refine wW ?_;refine wC hF [.sh,.sh,.sh] zoO fun z59 hF=>?_
  refine wK [2,5,7,8,10,11,32,33,34] ?_;refine wW ?_;refine wI hF (fun h60 hF=>?_) fun h60 hF=>?_
  ·obtain⟨x61,g,hF⟩:=Rx g hF;exact wT (hj54 _) (zaa hF)
  exact wT (hj54 _) (zaa hF)
 refine wB ?_;obtain⟨b23,hb24,hψ19⟩:=hF;refine pRK hb24 [2,3,19] (fun i16 s15=>[(5,.v (vI s15)),(20,.v (.int .i64 i16))]) (fun s15 _ hN25=>?_) fun i16 s15 _ _ hi20 hi21 ho17 hg18 hF=>?_
 ·exact wn hN25 (hj4 _) hψ19
 refine wW ?_;refine wu hi20 hi21 ?_;refine wW ?_;refine wB ?_;obtain⟨x22,g,hF⟩:=Rx g hF
 iterate 2 refine wW ?_
 exact wi hi20 hi21 (hg18 _) (zaa hF)
def zb0(a0:Plan)(a1:Board):Option (List Int×Bool):=
 (zem a0 a1).bind fun z1=>
 if(!z1)=true then(
 some ([],false))else(
 (zfd a0 a1).bind fun z3=>
 some (z3,true))
theorem zkk:∀{a0}{a1}{r},zb0 a0 a1=some r→PCalls Tryz.prog 6 [(.sh,vH a0),(.sh,vE a1)] (Eo (.tup [vI r.1,.bool r.2]) [.junk,.junk]):=by
 intro a0 a1 r hr;apply pF 13 [] [] [] [.tmp 4,.tmp 5] hr cl6 Tryz.func6;intro Φ hΦ hF g;unfold zb0 at hF;refine wW ?_;refine wC hF [.sh,.sh] zqo fun z1 hF=>?_
 refine wW ?_;refine wI hF (fun h2 hF=>?_) fun h2 hF=>?_
 ·refine wK [4,5] ?_;exact wm hΦ hF
 refine wW ?_;refine wC hF [.sh,.sh] zoe fun z3 hF=>?_
 refine wK [4,5] ?_;exact wm hΦ hF
def zax(a0:Int)(a1:Int)(a2:Int):Option Bool:=
 ((if decide (a1≤a0)=true then(
 some (decide (a0≤a2)))else(
 some false):Option Bool).bind fun x3=>
 some x3)
theorem zaQ:∀{a0}{a1}{a2}{r},zax a0 a1 a2=some r→PCalls Tryz.prog 56 [(.sh,.int .i64 a0),(.sh,.int .i64 a1),(.sh,.int .i64 a2)] (Eo (.bool r) [.junk,.junk,.junk]):=by
 intro a0 a1 a2 r hr;apply pF 15 [] [] [] [.tmp 6] hr zH4 Tryz.func56;intro Φ hΦ hF g;unfold zax at hF;refine wW ?_;refine wJ hF (fun x3=>[(6,.v (.bool x3))]) (fun x3 hF=>?_) fun _ hj1 hF=>?_
 ·exact wm hΦ hF
 refine wG hF (fun h4 hF=>?_) fun h4 hF=>?_
 ·exact wV h4 (hj1 _) (zaa hF)
 exact wV h4 (hj1 _) (zaa hF)
def zeW(a0:Int):Option Bool:=
 (zax a0 2 2000000000).bind fun z1=>
 some z1
theorem znF:∀{a0}{r},zeW a0=some r→PCalls Tryz.prog 196 [(.sh,.int .i64 a0)] (Eo (.bool r) [.junk]):=by
 intro a0 r hr;apply pF 5 [] [] [] [.tmp 2] hr zDA Tryz.func196;intro Φ hΦ hF g;unfold zeW at hF;refine wW ?_;refine wC hF [.sh,.sh,.sh] zaQ fun z1 hF=>?_
 exact wl hΦ hF
def zeI(a0:Int):Option Bool:=
 (((zeW a0).bind fun z4=>
 if(!z4)=true then(
 some true)else(
 if((a0.tmod 2)==0)=true then(
 some (a0 !=2))else(
 some false)):Option Bool).bind fun x3=>
 if x3=true then(
 some false)else(
 ((zau (σ:=Int) (fun s11=>
 if decide ((i64.wrap (s11*s11))≤a0)=true then(
 gd (s11≠0)<|
 if((a0.tmod s11)==0)=true then(
 some (.out (.inr false)))else(
 some (.go (i64.wrap (s11+2)))))else(
 some (.out (.inl ())))) 3:Option (Unit ⊕ Bool)).bind (Sum.elim (fun x10=>
 some true) some))))
theorem zkG:∀{a0}{r},zeI a0=some r→PCalls Tryz.prog 164 [(.sh,.int .i64 a0)] (Eo (.bool r) [.junk]):=by
 intro a0 r hr;apply pF 27 [] [] [] [.tmp 2] hr zFU Tryz.func164;intro Φ hΦ hF g;unfold zeI at hF;refine wW ?_;refine wJ hF (fun x3=>[(0,.v (.int .i64 a0)),(15,.v (.bool x3))]) (fun x3 hF=>?_) fun _ hj1 hF=>?_
 ·refine wI hF (fun h7 hF=>?_) fun h7 hF=>?_
  ·exact wl hΦ hF
  iterate 2 refine wW ?_
  refine wS hF (fun x10=>[]) (fun x10 hF=>?_) fun _ hj8 hr9 hF=>?_
  ·exact wl hΦ hF
  refine wB ?_;obtain⟨b18,hb19,hψ15⟩:=hF;refine pL hb19 (fun s11=>[(0,.v (.int .i64 a0)),(3,.v (.int .i64 s11))]) fun s11 _ _ ho13 hg14 hF=>?_
  refine wW ?_;refine wI hF (fun h16 hF=>?_) fun h16 hF=>?_
  ·refine wW ?_;refine wB ?_;obtain⟨g,hF⟩:=Rz g hF;refine wK [0,3,26] ?_;refine wI hF (fun h17 hF=>?_) fun h17 hF=>?_
   ·cases ho13 _ (zaa hF);cases hΦ _ (hr9 _ hψ15);refine wW ?_;try simp[go_sem,g]
   refine wW ?_;exact wT (hg14 _) (zaa hF)
  cases ho13 _ (zaa hF);exact wT (hj8 _) hψ15
 refine wC hF [.sh] znF fun z4 hF=>?_
 refine wG hF (fun h5 hF=>?_) fun h5 hF=>?_
 ·exact wV h5 (hj1 _) (zaa hF)
 have g:=Ld g 2;try simp[go_sem,g,h5]
 refine wG hF (fun h6 hF=>?_) fun h6 hF=>?_
 ·try simp[go_sem,g,h6,h5]
  exact wT (hj1 _) (zaa hF)
 try simp[go_sem,g,h6,h5]
 exact wT (hj1 _) (zaa hF)
def zcZ(a0:Int)(a1:Int)(a2:Int):Option Int:=
 gd (a2≠0)<|
 ((zau (σ:=Int×Int×Int) (fun s4=>
 if decide (0<s4.2.1)=true then(
 ((if((i64.wrap ((BitVec.ofInt i64.bits s4.2.1&&&BitVec.ofInt i64.bits 1).toNat))==1)=true then(
 gd (a2≠0)<|
 some ((i64.wrap (s4.2.2*s4.1)).tmod a2))else(
 some s4.2.2):Option Int).bind fun x12=>
 gd (a2≠0)<|
 some (.go ((i64.wrap (s4.1*s4.1)).tmod a2,s4.2.1.fdiv 2,x12))))else(
 some (.out s4.2.2))) (a0,a1,(1:Int).tmod a2):Option Int).bind fun x3=>
 some x3)
theorem zhT:∀{a0}{a1}{a2}{r},zcZ a0 a1 a2=some r→PCalls Tryz.prog 88 [(.sh,.int .i64 a0),(.sh,.int .i64 a1),(.sh,.int .i64 a2)] (Eo (.int .i64 r) [.junk,.junk,.junk]):=by
 intro a0 a1 a2 r hr;apply pF 28 [] [] [] [.tmp 6] hr zHJ Tryz.func88;intro Φ hΦ hF g;unfold zcZ at hF;obtain⟨g,hF⟩:=Rz g hF
 iterate 2 refine wW ?_
 refine wJ hF (fun x3=>[(7,.v (.int .i64 x3))]) (fun x3 hF=>?_) fun _ hj1 hF=>?_
 ·exact wl hΦ hF
 refine wB ?_;obtain⟨b14,hb15,hψ8⟩:=hF;refine pL hb15 (fun s4=>[(0,.v (.int .i64 s4.1)),(1,.v (.int .i64 s4.2.1)),(2,.v (.int .i64 a2)),(7,.v (.int .i64 s4.2.2))]) fun s4 _ _ ho6 hg7 hF=>?_
 refine wW ?_;refine wI hF (fun h9 hF=>?_) fun h9 hF=>?_
 ·refine wW ?_;refine wB ?_;refine wW ?_;refine wJK hF [0,1,2] (fun x12=>[(7,.v (.int .i64 x12))]) (fun x12 hF=>?_) fun _ hj10 hF=>?_
  ·obtain⟨g,hF⟩:=Rz g hF;refine wK [0,1,2,7] ?_;have g:=Ls g 1;exact wT (hg7 _) (zaa hF)
  refine wI hF (fun h13 hF=>?_) fun h13 hF=>?_
  ·obtain⟨g,hF⟩:=Rz g hF;exact wT (hj10 _) (zaa hF)
  exact wT (hj10 _) (zaa hF)
 cases ho6 _ (zaa hF);exact wT (hj1 _) hψ8
def zdM(a0:Group):Option Bool:=
 (((zax a0.P 3 2000000000).bind fun z4=>
 if z4=true then(
 (zax a0.Q 2 (i64.wrap (a0.P-1))).bind fun z6=>
 if z6=true then(
 gd (a0.Q≠0)<|
 if(((i64.wrap (a0.P-1)).tmod a0.Q)==0)=true then(
 (zax a0.G 2 (i64.wrap (a0.P-1))).bind fun z9=>
 if z9=true then(
 (zeI a0.P).bind fun z11=>
 if z11=true then(
 (zeI a0.Q).bind fun z13=>
 if z13=true then(
 (zcZ a0.G a0.Q a0.P).bind fun z15=>
 some (z15==1))else(
 some false))else(
 some false))else(
 some false))else(
 some false))else(
 some false))else(
 some false):Option Bool).bind fun x3=>
 some x3)
theorem zlx:∀{a0}{r},zdM a0=some r→PCalls Tryz.prog 120 [(.sh,vF a0)] (Eo (.bool r) [.junk]):=by
 intro a0 r hr;apply pF 51 [] [] [] [.tmp 2] hr zD4 Tryz.func120;intro Φ hΦ hF g;unfold zdM at hF;refine wW ?_;refine wJ hF (fun x3=>[(2,.v (.bool x3))]) (fun x3 hF=>?_) fun _ hj1 hF=>?_
 ·exact wm hΦ hF
 refine wC hF [.sh,.sh,.sh] zaQ fun z4 hF=>?_
 refine wG hF (fun h5 hF=>?_) fun h5 hF=>?_
 ·try simp[go_sem,g,h5]
  refine wC hF [.sh,.sh,.sh] zaQ fun z6 hF=>?_
  try simp[go_sem,g,h5]
  refine wG hF (fun h7 hF=>?_) fun h7 hF=>?_
  ·obtain⟨g,hF⟩:=Rz g hF;try simp[go_sem,g,h7]
   refine wG hF (fun h8 hF=>?_) fun h8 hF=>?_
   ·try simp[go_sem,g,h8]
    refine wC hF [.sh,.sh,.sh] zaQ fun z9 hF=>?_
    try simp[go_sem,g,h8]
    refine wG hF (fun h10 hF=>?_) fun h10 hF=>?_
    ·try simp[go_sem,g,h10]
     refine wC hF [.sh] zkG fun z11 hF=>?_
     try simp[go_sem,g,h10]
     refine wG hF (fun h12 hF=>?_) fun h12 hF=>?_
     ·try simp[go_sem,g,h12]
      refine wC hF [.sh] zkG fun z13 hF=>?_
      try simp[go_sem,g,h12]
      refine wG hF (fun h14 hF=>?_) fun h14 hF=>?_
      ·try simp[go_sem,g,h14]
       refine wC hF [.sh,.sh,.sh] zhT fun z15 hF=>?_
       exact wV h14 (hj1 _) (zaa hF)
      exact wV h14 (hj1 _) (zaa hF)
     exact wV h12 (hj1 _) (zaa hF)
    exact wV h10 (hj1 _) (zaa hF)
   exact wV h8 (hj1 _) (zaa hF)
  exact wV h7 (hj1 _) (zaa hF)
 exact wV h5 (hj1 _) (zaa hF)
def zcm(a0:Contest):Option Bool:=
 ((if decide (a0.Least<0)=true then(
 some true)else(
 some (decide (a0.Most<a0.Least))):Option Bool).bind fun x3=>
 if x3=true then(
 some false)else(
 ((if(a0.Kind==1)=true then(
 some (a0.Kind==1))else(
 some (a0.Kind==3)):Option Bool).bind fun x8=>
 if x8=true then(
 (((zax a0.Options 1 8).bind fun z14=>
 if z14=true then(
 if decide (a0.Most≤a0.Options)=true then(
 some (a0.Points==0))else(
 some false))else(
 some false):Option Bool).bind fun x13=>
 some x13))else(
 if(a0.Kind==2)=true then(
 (((zax a0.Options 1 8).bind fun z21=>
 if z21=true then(
 (zax a0.Points 1 5).bind fun z23=>
 if z23=true then(
 some (decide (a0.Most≤(i64.wrap (a0.Options*a0.Points)))))else(
 some false))else(
 some false):Option Bool).bind fun x20=>
 some x20))else(
 if(a0.Kind==4)=true then(
 ((if(a0.Options==0)=true then(
 if decide (a0.Most≤5)=true then(
 some (a0.Points==0))else(
 some false))else(
 some false):Option Bool).bind fun x28=>
 some x28))else(
 some false))))))
theorem zks:∀{a0}{r},zcm a0=some r→PCalls Tryz.prog 98 [(.sh,vG a0)] (Eo (.bool r) [.junk]):=by
 intro a0 r hr;apply pF 68 [] [] [] [.tmp 2] hr zJl Tryz.func98;intro Φ hΦ hF g;unfold zcm at hF;refine wW ?_;refine wJ hF (fun x3=>[(1,.bl [.int .i64 a0.Kind,.int .i64 a0.Options,.int .i64 a0.Least,.int .i64 a0.Most,.int .i64 a0.Points]),(12,.v (.bool x3))]) (fun x3 hF=>?_) fun _ hj1 hF=>?_
 ·refine wI hF (fun h5 hF=>?_) fun h5 hF=>?_
  ·exact wl hΦ hF
  iterate 2 refine wW ?_
  refine wB ?_;refine wW ?_;refine wJK hF [1,14] (fun x8=>[(15,.v (.bool x8))]) (fun x8 hF=>?_) fun _ hj6 hF=>?_
  ·refine wI hF (fun h10 hF=>?_) fun h10 hF=>?_
   ·refine wJ hF (fun x13=>[(2,.v (.bool x13))]) (fun x13 hF=>?_) fun _ hj11 hF=>?_
    ·exact wm hΦ hF
    refine wC hF [.sh,.sh,.sh] zaQ fun z14 hF=>?_
    refine wG hF (fun h15 hF=>?_) fun h15 hF=>?_
    ·try simp[go_sem,g,h15]
     refine wG hF (fun h16 hF=>?_) fun h16 hF=>?_
     ·exact wV h16 (hj11 _) (zaa hF)
     exact wV h16 (hj11 _) (zaa hF)
    exact wV h15 (hj11 _) (zaa hF)
   refine wW ?_;refine wI hF (fun h17 hF=>?_) fun h17 hF=>?_
   ·refine wJ hF (fun x20=>[(2,.v (.bool x20))]) (fun x20 hF=>?_) fun _ hj18 hF=>?_
    ·exact wm hΦ hF
    refine wC hF [.sh,.sh,.sh] zaQ fun z21 hF=>?_
    refine wG hF (fun h22 hF=>?_) fun h22 hF=>?_
    ·try simp[go_sem,g,h22]
     refine wC hF [.sh,.sh,.sh] zaQ fun z23 hF=>?_
     try simp[go_sem,g,h22]
     refine wG hF (fun h24 hF=>?_) fun h24 hF=>?_
     ·exact wV h24 (hj18 _) (zaa hF)
     exact wV h24 (hj18 _) (zaa hF)
    exact wV h22 (hj18 _) (zaa hF)
   refine wK [1,53] ?_;refine wI hF (fun h25 hF=>?_) fun h25 hF=>?_
   ·refine wJ hF (fun x28=>[(2,.v (.bool x28))]) (fun x28 hF=>?_) fun _ hj26 hF=>?_
    ·exact wm hΦ hF
    refine wG hF (fun h29 hF=>?_) fun h29 hF=>?_
    ·try simp[go_sem,g,h29]
     refine wG hF (fun h30 hF=>?_) fun h30 hF=>?_
     ·exact wV h30 (hj26 _) (zaa hF)
     exact wV h30 (hj26 _) (zaa hF)
    exact wV h29 (hj26 _) (zaa hF)
   cases hΦ _ (zaa hF)
   iterate 2 refine wW ?_
   try simp[go_sem,g]
  refine wI hF (fun h9 hF=>?_) fun h9 hF=>?_
  ·exact wT (hj6 _) (zaa hF)
  exact wT (hj6 _) (zaa hF)
 refine wG hF (fun h4 hF=>?_) fun h4 hF=>?_
 ·exact wV h4 (hj1 _) (zaa hF)
 exact wV h4 (hj1 _) (zaa hF)
def zbc(a0:Contest):Option Int:=
 if(a0.Kind==2)=true then(
 some (i64.wrap (a0.Points+1)))else(
 if(a0.Kind==3)=true then(
 some (i64.wrap (a0.Options+1)))else(
 if(a0.Kind==4)=true then(
 some 27)else(
 some 2)))
theorem zly:∀{a0}{r},zbc a0=some r→PCalls Tryz.prog 166 [(.sh,vG a0)] (Eo (.int .i64 r) [.junk]):=by
 intro a0 r hr;apply pF 17 [] [] [] [.tmp 2] hr zC7 Tryz.func166;intro Φ hΦ hF g;unfold zbc at hF
 iterate 2 refine wW ?_
 refine wB ?_;refine wW ?_;refine wI hF (fun h1 hF=>?_) fun h1 hF=>?_
 ·refine wK [2] ?_;exact wm hΦ hF
 refine wW ?_;refine wI hF (fun h2 hF=>?_) fun h2 hF=>?_
 ·refine wK [2] ?_;exact wm hΦ hF
 refine wK [15] ?_;refine wI hF (fun h3 hF=>?_) fun h3 hF=>?_
 ·exact wl hΦ hF
 cases hΦ _ (zaa hF)
 iterate 2 refine wW ?_
 try simp[go_sem,g]
def zf9(a0:List Int)(a1:Int):Option Int:=
 ((zau (σ:=Int×Int) (fun s4=>
 if decide (0≤s4.2)=true then(
 (ix a0 s4.2).bind fun x10=>
 some (.go (i64.wrap ((i64.wrap (s4.1*a1))+x10),i64.wrap (s4.2-1))))else(
 some (.out s4.1))) (0,i64.wrap ((a0.length:Int)-1)):Option Int).bind fun x3=>
 some x3)
theorem zqr:∀{a0}{a1}{r},zf9 a0 a1=some r→PCalls Tryz.prog 165 [(.sh,vA a0),(.sh,.int .i64 a1)] (Eo (.int .i64 r) [.junk,.junk]):=by
 intro a0 a1 r hr;apply pF 23 [] [] [] [.tmp 4] hr zDx Tryz.func165;intro Φ hΦ hF g;unfold zf9 at hF
 iterate 3 (try simp[go_sem,g];try intros;refine zap ?_)
 refine wJ hF (fun x3=>[(5,.v (.int .i64 x3))]) (fun x3 hF=>?_) fun _ hj1 hF=>?_
 ·exact wl hΦ hF
 refine wB ?_;obtain⟨b11,hb12,hψ8⟩:=hF;refine pLK hb12 [0,1] (fun s4=>[(5,.v (.int .i64 s4.1)),(6,.v (.int .i64 s4.2))]) fun s4 _ _ ho6 hg7 hF=>?_
 refine wW ?_;refine wI hF (fun h9 hF=>?_) fun h9 hF=>?_
 ·refine wW ?_;refine wB ?_;obtain⟨x10,g,hF⟩:=Rx g hF;refine wK [0,1,5,6] ?_;exact wT (hg7 _) (zaa hF)
 cases ho6 _ (zaa hF);exact wT (hj1 _) hψ8
def zb8(a0:Contest):Option Int:=
 ((if(a0.Kind==1)=true then(
 zau (σ:=(List Int)×Int) (fun s5=>
 if decide (s5.2<a0.Options)=true then(
 ((if decide ((i64.wrap (a0.Options-a0.Most))≤s5.2)=true then(
 some 1)else(
 some 0):Option Int).bind fun x13=>
 gd ((s5.1.length+1)*8≤140737488355328∧s5.1.length+1≤4611686018427387904)<|
 some (.go (s5.1++[x13],i64.wrap (s5.2+1)))))else(
 some (.out s5.1))) ([],0))else(
 if(a0.Kind==2)=true then(
 gd (0≤a0.Options∧a0.Options≤a0.Options∧8*a0.Options≤140737488355328∧a0.Options≤4611686018427387904)<|
 (some (List.replicate a0.Options.toNat 0)).bind fun x18=>
 zau (σ:=(List Int)×Int×Int) (fun s29=>
 if decide (0≤s29.2.2)=true then(
 (ix s29.1 s29.2.2).bind fun x35=>
 (ix (s29.1.set s29.2.2.toNat (if a0.Points<s29.2.1 then a0.Points else s29.2.1)) s29.2.2).bind fun x36=>
 some (.go (s29.1.set s29.2.2.toNat (if a0.Points<s29.2.1 then a0.Points else s29.2.1),i64.wrap (s29.2.1-x36),i64.wrap (s29.2.2-1))))else(
 some (.out s29.1))) (x18,a0.Most,i64.wrap (a0.Options-1)))else(
 if(a0.Kind==3)=true then(
 zau (σ:=(List Int)×Int) (fun s40=>
 if decide (s40.2<a0.Most)=true then(
 gd ((s40.1.length+1)*8≤140737488355328∧s40.1.length+1≤4611686018427387904)<|
 some (.go (s40.1++[i64.wrap ((i64.wrap ((i64.wrap (a0.Options-a0.Most))+1))+s40.2)],i64.wrap (s40.2+1))))else(
 some (.out s40.1))) ([],0))else(
 zau (σ:=(List Int)×Int) (fun s48=>
 if decide (s48.2<a0.Most)=true then(
 gd ((s48.1.length+1)*8≤140737488355328∧s48.1.length+1≤4611686018427387904)<|
 some (.go (s48.1++[26],i64.wrap (s48.2+1))))else(
 some (.out s48.1))) ([],0)))):Option ((List Int))).bind fun x3=>
 (zbc a0).bind fun z56=>
 (zf9 x3 z56).bind fun z57=>
 some z57)
theorem zgY:∀{a0}{r},zb8 a0=some r→PCalls Tryz.prog 121 [(.sh,vG a0)] (Eo (.int .i64 r) [.junk]):=by
 intro a0 r hr;apply pF 89 [] [] [] [.tmp 2] hr zCR Tryz.func121;intro Φ hΦ hF g;unfold zb8 at hF
 iterate 3 refine wW ?_
 refine wJ hF (fun x3=>[(1,.bl [.int .i64 a0.Kind,.int .i64 a0.Options,.int .i64 a0.Least,.int .i64 a0.Most,.int .i64 a0.Points]),(3,.v (vI x3))]) (fun x3 hF=>?_) fun _ hj1 hF=>?_
 ·refine wC hF [.sh] zly fun z56 hF=>?_
  refine wC hF [.sh,.sh] zqr fun z57 hF=>?_
  refine wK [2] ?_;exact wm hΦ hF
 refine wB ?_;refine wW ?_;refine wI hF (fun h4 hF=>?_) fun h4 hF=>?_
 ·refine wK [1,3,23,24] ?_;refine wB ?_;obtain⟨b15,hb16,hψ9⟩:=hF;refine pLK hb16 [1,23] (fun s5=>[(3,.v (vI s5.1)),(24,.v (.int .i64 s5.2))]) fun s5 _ _ ho7 hg8 hF=>?_
  refine wW ?_;refine wI hF (fun h10 hF=>?_) fun h10 hF=>?_
  ·refine wW ?_;refine wB ?_
   iterate 2 refine wW ?_
   refine wK [1,3,5,23,24,33] ?_;refine wJK hF [1,3,23,24] (fun x13=>[(5,.v (.int .i64 x13))]) (fun x13 hF=>?_) fun _ hj11 hF=>?_
   ·obtain⟨g,hF⟩:=Rg g hF;refine wW ?_;exact wT (hg8 _) (zaa hF)
   refine wI hF (fun h14 hF=>?_) fun h14 hF=>?_
   ·exact wT (hj11 _) (zaa hF)
   exact wT (hj11 _) (zaa hF)
  cases ho7 _ (zaa hF);exact wT (hj1 _) hψ9
 refine wK [1,3,11,39] ?_;refine wI hF (fun h17 hF=>?_) fun h17 hF=>?_
 ·obtain⟨g,hF⟩:=Rg g hF;obtain⟨x18,e19,hF⟩:=zdA hF;have g20:List.replicate a0.Options.toNat ([.int .i64 0]:List PV)=x18.map zaf:=by injection e19 with e19;rw[←e19];simp[go_sem]
  iterate 2 (try simp[go_sem,g,g20];refine zap ?_)
  try simp[go_sem,g,g20]
  refine wK [1,3,6,7] ?_;refine wB ?_;obtain⟨b37,hb38,hψ33⟩:=hF;refine pL hb38 (fun s29=>[(1,.bl [.int .i64 a0.Kind,.int .i64 a0.Options,.int .i64 a0.Least,.int .i64 a0.Most,.int .i64 a0.Points]),(3,.v (vI s29.1)),(6,.v (.int .i64 s29.2.1)),(7,.v (.int .i64 s29.2.2))]) fun s29 _ _ ho31 hg32 hF=>?_
  refine wW ?_;refine wI hF (fun h34 hF=>?_) fun h34 hF=>?_
  ·refine wW ?_;refine wB ?_;obtain⟨x35,g,hF⟩:=Rx g hF;refine wK [1,3,6,7] ?_;obtain⟨x36,g,hF⟩:=Rx g hF;try simp only[List.length_set]at g
   refine wW ?_;exact wT (hg32 _) (zaa hF)
  cases ho31 _ (zaa hF);exact wT (hj1 _) hψ33
 refine wW ?_;refine wI hF (fun h39 hF=>?_) fun h39 hF=>?_
 ·refine wW ?_;refine wB ?_;obtain⟨b46,hb47,hψ44⟩:=hF;refine pLK hb47 [1,69] (fun s40=>[(3,.v (vI s40.1)),(70,.v (.int .i64 s40.2))]) fun s40 _ _ ho42 hg43 hF=>?_
  refine wW ?_;refine wI hF (fun h45 hF=>?_) fun h45 hF=>?_
  ·refine wW ?_;refine wB ?_;obtain⟨g,hF⟩:=Rg g hF;refine wW ?_;refine wK [1,3,69,70] ?_;exact wT (hg43 _) (zaa hF)
  cases ho42 _ (zaa hF);exact wT (hj1 _) hψ44
 refine wW ?_;refine wB ?_;obtain⟨b54,hb55,hψ52⟩:=hF;refine pLK hb55 [1,13] (fun s48=>[(3,.v (vI s48.1)),(14,.v (.int .i64 s48.2))]) fun s48 _ _ ho50 hg51 hF=>?_
 refine wW ?_;refine wI hF (fun h53 hF=>?_) fun h53 hF=>?_
 ·refine wW ?_;refine wB ?_;obtain⟨g,hF⟩:=Rg g hF;refine wK [1,3,13,14] ?_;exact wT (hg51 _) (zaa hF)
 cases ho50 _ (zaa hF);exact wT (hj1 _) hψ52
def zbx(a0:Contest):Option Bool:=
 ((if(a0.Kind==1)=true then(
 some true)else(
 some (a0.Kind==2)):Option Bool).bind fun x3=>
 some x3)
theorem zeg:∀{a0}{r},zbx a0=some r→PCalls Tryz.prog 77 [(.sh,vG a0)] (Eo (.bool r) [.junk]):=by
 intro a0 r hr;apply pF 11 [] [] [] [.tmp 2] hr zHS Tryz.func77;intro Φ hΦ hF g;unfold zbx at hF;refine wW ?_;refine wJ hF (fun x3=>[(2,.v (.bool x3))]) (fun x3 hF=>?_) fun _ hj1 hF=>?_
 ·exact wm hΦ hF
 refine wG hF (fun h4 hF=>?_) fun h4 hF=>?_
 ·exact wV h4 (hj1 _) (zaa hF)
 exact wV h4 (hj1 _) (zaa hF)
@[go_sem] def zEw:List DE:=[d2 0 [2] 2 2,d3 1 [5],d0 2 [6],d0 3 [7],d2 4 [3,8] 3 3,d3 5 [9,8],d0 6 [10,8],d0 7 [8,11],d0 8 [12],d2 9 [3,13] 3 3,d3 10 [14,13],d0 11 [15,13],d0 12 [13,16],d0 13 [17],d2 14 [3,18] 3 3,d1 16 [2,18] 2,d2 17 [21,18] 2 21,d3 15 [19,18],d0 18 [20,22,18],d0 19 [18,23]]
def zet(a0:Group)(a1:Contest):Option Bool:=
 (((zdM a0).bind fun z4=>
 if(!z4)=true then(
 some true)else(
 (zcm a1).bind fun z6=>
 if(!z6)=true then(
 some true)else(
 (zb8 a1).bind fun z8=>
 if decide (100000<z8)=true then(
 some true)else(
 (zb8 a1).bind fun z10=>
 some (decide (a0.Q≤z10))))):Option Bool).bind fun x3=>
 if x3=true then(
 some false)else(
 (((zbx a1).bind fun z15=>
 if(!z15)=true then(
 some true)else(
 if decide ((i64.wrap (a1.Most-a1.Least))<8)=true then(
 some (decide (a1.Most<a0.Q)))else(
 some false)):Option Bool).bind fun x14=>
 some x14)))
theorem zmZ:∀{a0}{a1}{r},zet a0 a1=some r→PCalls Tryz.prog 75 [(.sh,vF a0),(.sh,vG a1)] (Eo (.bool r) [.junk,.junk]):=by
 intro a0 a1 r hr;apply pF 43 [] [] [] [.tmp 4] hr zIh Tryz.func75;intro Φ hΦ hF g;unfold zet at hF;refine wW ?_;refine wJK hF [2,3] (fun x3=>[(24,.v (.bool x3))]) (fun x3 hF=>?_) fun _ hj1 hF=>?_
 ·refine wI hF (fun h11 hF=>?_) fun h11 hF=>?_
  ·exact wl hΦ hF
  refine wW ?_;refine wJ hF (fun x14=>[(4,.v (.bool x14))]) (fun x14 hF=>?_) fun _ hj12 hF=>?_
  ·exact wm hΦ hF
  refine wC hF [.sh] zeg fun z15 hF=>?_
  refine wG hF (fun h16 hF=>?_) fun h16 hF=>?_
  ·exact wV h16 (hj12 _) (zaa hF)
  try simp[go_sem,g,h16]
  refine wG hF (fun h17 hF=>?_) fun h17 hF=>?_
  ·try simp[go_sem,g,h17,h16]
   exact wT (hj12 _) (zaa hF)
  try simp[go_sem,g,h17,h16]
  exact wT (hj12 _) (zaa hF)
 refine wX zEw follows ?_;refine wC hF [.sh] zlx fun z4 hF=>?_
 refine wH hF (fun h5 hF=>?_) fun h5 hF=>?_
 ·exact wV h5 (hj1 _) (zaa hF)
 try simp[go_sem,g,h5]
 refine wC hF [.sh] zks fun z6 hF=>?_
 try simp[go_sem,g,h5]
 refine wH hF (fun h7 hF=>?_) fun h7 hF=>?_
 ·exact wV h7 (hj1 _) (zaa hF)
 try simp[go_sem,g,h7]
 refine wC hF [.sh] zgY fun z8 hF=>?_
 try simp[go_sem,g,h7]
 refine wH hF (fun h9 hF=>?_) fun h9 hF=>?_
 ·exact wV h9 (hj1 _) (zaa hF)
 try simp[go_sem,g,h9]
 refine wC hF [.sh] zgY fun z10 hF=>?_
 exact wV h9 (hj1 _) (zaa hF)
def zdq(a0:Int):Option Bool:=
 (zax a0 0 4611686018427387903).bind fun z1=>
 some z1
theorem zh6:∀{a0}{r},zdq a0=some r→PCalls Tryz.prog 76 [(.sh,.int .i64 a0)] (Eo (.bool r) [.junk]):=by
 intro a0 r hr;apply pF 5 [] [] [] [.tmp 2] hr zIJ Tryz.func76;intro Φ hΦ hF g;unfold zdq at hF;refine wW ?_;refine wC hF [.sh,.sh,.sh] zaQ fun z1 hF=>?_
 exact wl hΦ hF
def zbU(a0:Contest):Option Int:=
 if(a0.Kind==2)=true then(
 some a0.Points)else(
 some 1)
theorem zic:∀{a0}{r},zbU a0=some r→PCalls Tryz.prog 78 [(.sh,vG a0)] (Eo (.int .i64 r) [.junk]):=by
 intro a0 r hr;apply pF 8 [] [] [] [.tmp 2] hr zLN Tryz.func78;intro Φ hΦ hF g;unfold zbU at hF
 iterate 2 refine wW ?_
 refine wI hF (fun h1 hF=>?_) fun h1 hF=>?_
 ·exact wl hΦ hF
 cases hΦ _ (zaa hF)
 iterate 2 refine wW ?_
 try simp[go_sem,g]
def zgp(a0:ByteArray)(a1:List Int):Option ((List Int)):=
 ((zau (σ:=(List Int)×Int) (fun s4=>
 if decide (s4.2<(a0.size:Int))=true then(
 (ixs a0 s4.2).bind fun x10=>
 gd ((s4.1.length+1)*8≤140737488355328∧s4.1.length+1≤4611686018427387904)<|
 some (.go (s4.1++[i64.wrap x10],i64.wrap (s4.2+1))))else(
 some (.out s4.1))) ([(a0.size:Int)],0):Option ((List Int))).bind fun x3=>
 gd ((x3.length+a1.length)*8≤140737488355328∧x3.length+a1.length≤4611686018427387904)<|
 some (x3++a1))
theorem znZ:∀{a0}{a1}{r},zgp a0 a1=some r→PCalls Tryz.prog 143 [(.sh,.str a0),(.sh,vA a1)] (Eo (vI r) [.junk,.junk]):=by
 intro a0 a1 r hr;apply pF 26 [] [] [] [.tmp 4] hr zFA Tryz.func143;intro Φ hΦ hF g;unfold zgp at hF
 iterate 3 refine wW ?_
 refine wJ hF (fun x3=>[(1,.v (vA a1)),(5,.v (vI x3))]) (fun x3 hF=>?_) fun _ hj1 hF=>?_
 ·obtain⟨g,hF⟩:=Rg g hF;refine wK [4] ?_;exact wm hΦ hF
 refine wB ?_;obtain⟨b11,hb12,hψ8⟩:=hF;refine pLK hb12 [0,1,11] (fun s4=>[(5,.v (vI s4.1)),(12,.v (.int .i64 s4.2))]) fun s4 _ _ ho6 hg7 hF=>?_
 refine wW ?_;refine wI hF (fun h9 hF=>?_) fun h9 hF=>?_
 ·refine wW ?_;refine wB ?_;refine wK [0,1,5,6,11,12] ?_;obtain⟨x10,g,hF⟩:=Rxs g hF;obtain⟨g,hF⟩:=Rg g hF;refine wW ?_;exact wT (hg7 _) (zaa hF)
 cases ho6 _ (zaa hF);exact wT (hj1 _) hψ8
def zaJ(a0:Int):Option Bool:=
 (zdq a0).bind fun z1=>
 some (!z1)
theorem zhY:∀{a0}{r},zaJ a0=some r→PCalls Tryz.prog 146 [(.sh,.int .i64 a0),(.sh,.fp [.func (.func 76) [] []])] (Eo (.bool r) [.junk,.junk]):=by
 intro a0 r hr;apply pF 8 [] [] [] [.tmp 3] hr zu4 Tryz.func146;intro Φ hΦ hF g;unfold zaJ at hF;refine wW ?_;refine wC hF [.sh] zh6 fun z1 hF=>?_
 exact wl hΦ hF
def zbg(a0:List Int):Option Int:=
 ((zat (σ:=Unit) (fun i5 s4=>
 (ix a0 i5).bind fun x11=>
 (zaJ x11).bind fun z12=>
 if z12=true then(
 some (.out (.inr i5)))else(
 some (.go ()))) (fun s4=>.inl ()) (a0.length) 0 ():Option (Unit ⊕ Int)).bind (Sum.elim (fun x3=>
 some (-1)) some))
theorem zd1:∀{a0}{r},zbg a0=some r→PCalls Tryz.prog 86 [(.sh,vA a0),(.sh,.func (.func 146) [] [.fp [.func (.func 76) [] []]])] (Eo (.int .i64 r) [.junk,.junk]):=by
 intro a0 r hr;apply pF 19 [] [] [] [.tmp 4] hr zt0 Tryz.func86;intro Φ hΦ hF g;unfold zbg at hF
 iterate 2 (try simp[go_sem,g];try intros;refine zap ?_)
 refine wS hF (fun x3=>[]) (fun x3 hF=>?_) fun _ hj1 hr2 hF=>?_
 ·exact wl hΦ hF
 refine wB ?_;obtain⟨b14,hb15,hψ8⟩:=hF;refine pRK hb15 [0,1,7] (fun i5 s4=>[(8,.v (.int .i64 i5))]) (fun s4 _ hN16=>?_) fun i5 s4 _ _ hi9 hi10 ho6 hg7 hF=>?_
 ·exact wn hN16 (hj1 _) hψ8
 refine wW ?_;refine wu hi9 hi10 ?_;refine wW ?_;refine wB ?_;obtain⟨x11,g,hF⟩:=Rx g hF;refine wW ?_;refine wC hF [.sh] zhY fun z12 hF=>?_
 refine wK [0,1,5,7,8,16] ?_;refine wI hF (fun h13 hF=>?_) fun h13 hF=>?_
 ·cases ho6 _ (zaa hF);cases hΦ _ (hr2 _ hψ8);refine wW ?_;try simp[go_sem,g]
 refine wW ?_;exact wi hi9 hi10 (hg7 _) (zaa hF)
def za9(a0:List Int):Option Bool:=
 (zbg a0).bind fun z1=>
 some (decide (0≤z1))
theorem zdJ:∀{a0}{r},za9 a0=some r→PCalls Tryz.prog 145 [(.sh,vA a0),(.sh,.func (.func 146) [] [.fp [.func (.func 76) [] []]])] (Eo (.bool r) [.junk,.junk]):=by
 intro a0 r hr;apply pF 9 [] [] [] [.tmp 4] hr zve Tryz.func145;intro Φ hΦ hF g;unfold za9 at hF;refine wW ?_;refine wC hF [.sh,.sh] zd1 fun z1 hF=>?_
 exact wl hΦ hF
def zaY(a0:List Int):Option Bool:=
 (za9 a0).bind fun z1=>
 some (!z1)
theorem zdV:∀{a0}{r},zaY a0=some r→PCalls Tryz.prog 96 [(.sh,vA a0),(.sh,.func (.func 76) [] [])] (Eo (.bool r) [.junk,.junk]):=by
 intro a0 r hr;apply pF 9 [] [] [1000000] [.tmp 4] hr zxK Tryz.func96;intro Φ hΦ hF g;unfold zaY at hF;refine wW ?_;refine wC hF [.sh,.sh] zdJ fun z1 hF=>?_
 exact wl hΦ hF
def zeq(a0:List Int):Option Bool:=
 ((if decide ((a0.length:Int)≤400)=true then(
 (zaY a0).bind fun z5=>
 some z5)else(
 some false):Option Bool).bind fun x3=>
 some x3)
theorem zmY:∀{a0}{r},zeq a0=some r→PCalls Tryz.prog 189 [(.sh,vA a0)] (Eo (.bool r) [.junk]):=by
 intro a0 r hr;apply pF 10 [] [] [] [.tmp 2] hr zFC Tryz.func189;intro Φ hΦ hF g;unfold zeq at hF;refine wW ?_;refine wJ hF (fun x3=>[(2,.v (.bool x3))]) (fun x3 hF=>?_) fun _ hj1 hF=>?_
 ·exact wm hΦ hF
 try simp[go_sem,g]
 try intros
 refine wG hF (fun h4 hF=>?_) fun h4 hF=>?_
 ·try simp[go_sem,g,h4]
  refine wC hF [.sh,.sh] zdV fun z5 hF=>?_
  exact wV h4 (hj1 _) (zaa hF)
 exact wV h4 (hj1 _) (zaa hF)
def zg4(a0:List Int):Option Int:=
 gd (([(a0.length:Int)].length+a0.length)*8≤140737488355328∧[(a0.length:Int)].length+a0.length≤4611686018427387904)<|
 (some ([(a0.length:Int)]++a0)).bind fun x1=>
 ((zat (σ:=Int×Int) (fun i7 s6=>
 (ix x1 i7).bind fun x13=>
 some (.go ((i64.wrap ((i64.wrap ((i64.wrap (48271*((i64.wrap ((i64.wrap ((i64.wrap (48271*s6.1))+(i64.wrap ((BitVec.ofInt i64.bits x13&&&BitVec.ofInt i64.bits 2147483647).toNat))))+1)).tmod 2147483647)))+(x13.fdiv 2147483648)))+1)).tmod 2147483647,(i64.wrap ((i64.wrap ((i64.wrap (69621*((i64.wrap ((i64.wrap ((i64.wrap (69621*s6.2))+(i64.wrap ((BitVec.ofInt i64.bits x13&&&BitVec.ofInt i64.bits 2147483647).toNat))))+1)).tmod 2147483647)))+(x13.fdiv 2147483648)))+1)).tmod 2147483647))) (fun s6=>(s6.1,s6.2)) (x1.length) 0 (1,2):Option ((Int×Int))).bind fun x5=>
 some (i64.wrap ((i64.wrap (x5.1*2147483648))+x5.2)))
theorem zsy:∀{a0}{r},zg4 a0=some r→PCalls Tryz.prog 190 [(.sh,vA a0)] (Eo (.int .i64 r) [.junk]):=by
 intro a0 r hr;apply pF 52 [] [] [] [.tmp 2] hr zDN Tryz.func190;intro Φ hΦ hF g;unfold zg4 at hF;obtain⟨g,hF⟩:=Rg g hF;obtain⟨x1,e2,hF⟩:=zdA hF;have g:=And.intro g (show[.int .i64 (a0.length:Int)]::(List.map zaf a0)=x1.map zaf by injection e2 with e2;rw[←e2];simp[go_sem])
 iterate 2 (try simp[go_sem,g];try intros;refine zap ?_)
 try simp[go_sem,g]
 try intros
 refine wK [3,4,13,14,15] ?_;refine wJ hF (fun x5=>[(3,.v (.int .i64 x5.1)),(4,.v (.int .i64 x5.2))]) (fun x5 hF=>?_) fun _ hj3 hF=>?_
 ·have g:=Ls g 31;exact wl hΦ hF
 refine wB ?_;obtain⟨b14,hb15,hψ10⟩:=hF;refine pRK hb15 [13,14] (fun i7 s6=>[(3,.v (.int .i64 s6.1)),(4,.v (.int .i64 s6.2)),(15,.v (.int .i64 i7))]) (fun s6 _ hN16=>?_) fun i7 s6 _ _ hi11 hi12 ho8 hg9 hF=>?_
 ·exact wn hN16 (hj3 _) hψ10
 refine wW ?_;refine wu hi11 hi12 ?_;refine wW ?_;refine wB ?_;obtain⟨x13,g,hF⟩:=Rx g hF;have g:=Ls g 31;refine wW ?_;refine wK [3,4,7,8,13,14,15] ?_;have g:=Ld g 2147483647;refine wW ?_;refine wK [3,4,7,8,13,14,15] ?_;refine wW ?_;refine wK [3,4,13,14,15] ?_;exact wi hi11 hi12 (hg9 _) (zaa hF)
def zfg(a0:List Int):Option (Int×Bool):=
 (zeq a0).bind fun z1=>
 if(!z1)=true then(
 some (0,false))else(
 (zg4 a0).bind fun z3=>
 some (z3,true))
theorem zoA:∀{a0}{r},zfg a0=some r→PCalls Tryz.prog 142 [(.sh,vA a0)] (Eo (.tup [.int .i64 r.1,.bool r.2]) [.junk]):=by
 intro a0 r hr;apply pF 9 [] [] [] [.tmp 2,.tmp 3] hr zC6 Tryz.func142;intro Φ hΦ hF g;unfold zfg at hF;refine wW ?_;refine wC hF [.sh] zmY fun z1 hF=>?_
 refine wW ?_;refine wI hF (fun h2 hF=>?_) fun h2 hF=>?_
 ·exact wl hΦ hF
 refine wW ?_;refine wC hF [.sh] zsy fun z3 hF=>?_
 exact wl hΦ hF
def zbv(a0:ByteArray)(a1:List Int):Option (Int×Bool):=
 ((if decide (40<(a0.size:Int))=true then(
 some true)else(
 some (decide (400<(a1.length:Int)))):Option Bool).bind fun x3=>
 if x3=true then(
 some (0,false))else(
 (zgp a0 a1).bind fun z6=>
 (zfg z6).bind fun z7=>
 some (z7.1,z7.2)))
theorem ze0:∀{a0}{a1}{r},zbv a0 a1=some r→PCalls Tryz.prog 87 [(.sh,.str a0),(.sh,vA a1)] (Eo (.tup [.int .i64 r.1,.bool r.2]) [.junk,.junk]):=by
 intro a0 a1 r hr;apply pF 20 [] [] [] [.tmp 4,.tmp 5] hr zKX Tryz.func87;intro Φ hΦ hF g;unfold zbv at hF;refine wW ?_;refine wJK hF [0,1] (fun x3=>[(13,.v (.bool x3))]) (fun x3 hF=>?_) fun _ hj1 hF=>?_
 ·refine wI hF (fun h5 hF=>?_) fun h5 hF=>?_
  ·exact wl hΦ hF
  refine wW ?_;refine wC hF [.sh,.sh] znZ fun z6 hF=>?_
  refine wC hF [.sh] zoA fun z7 hF=>?_
  refine wK [4,5] ?_;exact wm hΦ hF
 refine wG hF (fun h4 hF=>?_) fun h4 hF=>?_
 ·exact wV h4 (hj1 _) (zaa hF)
 try simp[go_sem,g,h4]
 try intros
 exact wT (hj1 _) (zaa hF)
@[go_sem] def zA7:List DE:=[d0 0 [9],d1 1 [3] 3,d2 2 [32] 3 32,d0 3 [33],d0 4 [31,34],d0 5 [35],d1 6 [3] 3,d2 7 [37] 3 37,d0 8 [38],d1 9 [3] 3,d2 10 [40] 3 40,d0 11 [39,41],d1 12 [3] 3,d2 13 [43] 3 43,d3 14 [36,42,44],d0 15 [45]]
def zbu(a0:Group)(a1:ByteArray)(a2:Int):Option (Int×Bool):=
 ((zau (σ:=Int) (fun s4=>
 if decide (s4<1000)=true then(
 (zbv a1 [a0.P,a0.Q,a0.G,a2,s4]).bind fun z10=>
 if(!z10.2)=true then(
 some (.out (.inr (0,false))))else(
 gd (i64.wrap (a0.P-1)≠0)<|
 gd (a0.Q≠0)<|
 (zcZ (i64.wrap (1+(z10.1.tmod (i64.wrap (a0.P-1))))) (i64.wrap ((i64.wrap (a0.P-1)).tdiv a0.Q)) a0.P).bind fun z12=>
 if(z12 !=1)=true then(
 some (.out (.inr (z12,true))))else(
 some (.go (i64.wrap (s4+1))))))else(
 some (.out (.inl ())))) 0:Option (Unit ⊕ (Int×Bool))).bind (Sum.elim (fun x3=>
 some (0,false)) some))
theorem zid:∀{a0}{a1}{a2}{r},zbu a0 a1 a2=some r→PCalls Tryz.prog 122 [(.sh,vF a0),(.sh,.str a1),(.sh,.int .i64 a2)] (Eo (.tup [.int .i64 r.1,.bool r.2]) [.junk,.junk,.junk]):=by
 intro a0 a1 a2 r hr;apply pF 50 [] [] [] [.tmp 6,.tmp 7] hr zEa Tryz.func122;intro Φ hΦ hF g;unfold zbu at hF
 iterate 2 refine wW ?_
 refine wS hF (fun x3=>[]) (fun x3 hF=>?_) fun _ hj1 hr2 hF=>?_
 ·exact wl hΦ hF
 refine wB ?_;obtain⟨b14,hb15,hψ8⟩:=hF;refine pLK hb15 [1,2,3] (fun s4=>[(12,.v (.int .i64 s4))]) fun s4 _ _ ho6 hg7 hF=>?_
 refine wW ?_;refine wI hF (fun h9 hF=>?_) fun h9 hF=>?_
 ·refine wW ?_;refine wB ?_;refine wW ?_;refine wC hF [.sh,.sh] ze0 fun z10 hF=>?_
  refine wK [1,2,3,9,10,12] ?_;refine wW ?_;refine wI hF (fun h11 hF=>?_) fun h11 hF=>?_
  ·cases ho6 _ (zaa hF);cases hΦ _ (hr2 _ hψ8);refine wW ?_;try simp[go_sem,g]
  refine wW ?_;refine wX zA7 follows ?_;obtain⟨g,hF⟩:=Rz g hF;obtain⟨g,hF⟩:=Rz g hF;refine wC hF [.sh,.sh,.sh] zhT fun z12 hF=>?_
  refine wK [1,2,3,11,12] ?_;refine wW ?_;refine wI hF (fun h13 hF=>?_) fun h13 hF=>?_
  ·cases ho6 _ (zaa hF);cases hΦ _ (hr2 _ hψ8);refine wW ?_;try simp[go_sem,g]
  refine wW ?_;exact wT (hg7 _) (zaa hF)
 cases ho6 _ (zaa hF);exact wT (hj1 _) hψ8
def zcd(a0:Group)(a1:Int):Option (Bases×Bool):=
 (zbu a0 (⟨#[104]⟩:ByteArray) 0).bind fun z1=>
 ((zau (σ:=Int×List Int×Bool×Int) (fun s16=>
 if decide (s16.2.2.2<a1)=true then(
 (zbu a0 (⟨#[104,115]⟩:ByteArray) s16.2.2.2).bind fun z22=>
 ((if s16.2.2.1=true then(
 some z22.2)else(
 some false):Option Bool).bind fun x25=>
 gd ((s16.2.1.length+1)*8≤140737488355328∧s16.2.1.length+1≤4611686018427387904)<|
 some (.go (s16.1,s16.2.1++[z22.1],x25,i64.wrap (s16.2.2.2+1)))))else(
 some (.out (s16.1,s16.2.1,s16.2.2.1)))) (z1.1,[],true,0):Option ((Int×List Int×Bool))).bind fun x4=>
 ((if(!z1.2)=true then(
 some true)else(
 some (!x4.2.2)):Option Bool).bind fun x31=>
 if x31=true then(
 some ((Bases.mk 0 []),false))else(
 some ((Bases.mk x4.1 x4.2.1),true))))
theorem zkM:∀{a0}{a1}{r},zcd a0 a1=some r→PCalls Tryz.prog 79 [(.sh,vF a0),(.sh,.int .i64 a1)] (Eo (.tup [vO r.1,.bool r.2]) [.junk,.junk]):=by
 intro a0 a1 r hr;apply pF 49 [] [] [] [.cell 4 115,.tmp 5] hr zKb Tryz.func79;intro Φ hΦ hF g;unfold zcd at hF;refine wW ?_;refine wC hF [.sh,.sh,.sh] zid fun z1 hF=>?_
 refine wK [1,2,4,6,7] ?_
 iterate 2 refine wW ?_
 refine wJK hF [4,7] (fun x4=>[(8,.bl [.int .i64 x4.1,vI x4.2.1]),(9,.v (.bool x4.2.2))]) (fun x4 hF=>?_) fun _ hj2 hF=>?_
 ·refine wJK hF [4,8] (fun x31=>[(46,.v (.bool x31))]) (fun x31 hF=>?_) fun _ hj29 hF=>?_
  ·refine wI hF (fun h33 hF=>?_) fun h33 hF=>?_
   ·refine wK [4,5] ?_;exact wm hΦ hF
   refine wW ?_;refine wK [4,5] ?_;exact wm hΦ hF
  refine wG hF (fun h32 hF=>?_) fun h32 hF=>?_
  ·exact wV h32 (hj29 _) (zaa hF)
  exact wV h32 (hj29 _) (zaa hF)
 refine wB ?_;obtain⟨b27,hb28,hψ20⟩:=hF;refine pLK hb28 [2,4,7,20] (fun s16=>[(8,.bl [.int .i64 s16.1,vI s16.2.1]),(9,.v (.bool s16.2.2.1)),(21,.v (.int .i64 s16.2.2.2))]) fun s16 _ _ ho18 hg19 hF=>?_
 refine wW ?_;refine wI hF (fun h21 hF=>?_) fun h21 hF=>?_
 ·refine wW ?_;refine wB ?_;refine wK [2,4,7,8,9,10,20,21] ?_;refine wC hF [.sh,.sh,.sh] zid fun z22 hF=>?_
  refine wW ?_;refine wJK hF [2,4,7,8,11,20,21] (fun x25=>[(9,.v (.bool x25))]) (fun x25 hF=>?_) fun _ hj23 hF=>?_
  ·obtain⟨g,hF⟩:=Rg g hF;refine wK [2,4,7,8,9,20,21] ?_;exact wT (hg19 _) (zaa hF)
  refine wG hF (fun h26 hF=>?_) fun h26 hF=>?_
  ·exact wV h26 (hj23 _) (zaa hF)
  exact wV h26 (hj23 _) (zaa hF)
 cases ho18 _ (zaa hF);exact wT (hj2 _) hψ20
@[go_sem] def zCS:List DE:=[d1 0 [1] 1,d2 1 [49] 1 49,d3 2 [50],d0 3 [51],d1 4 [1,52] 1,d2 5 [53,52] 1 53,d1 6 [1,52] 1,d2 7 [55,52] 1 55,d1 10 [1,52] 1,d1 11 [59,52] 1,d2 12 [60,52] 1 60,d3 8 [56,52],d0 9 [54,57,52],d0 13 [58,61,52],d0 14 [52,62]]
def zee(a0:Plan):Option Bool:=
 (((zet a0.Gr a0.Ct).bind fun z4=>
 if(!z4)=true then(
 some true)else(
 if decide (a0.Gr.Q≤7)=true then(
 some true)else(
 (zax a0.Trustees 1 4).bind fun z7=>
 if(!z7)=true then(
 some true)else(
 (zax a0.Threshold 1 a0.Trustees).bind fun z9=>
 if(!z9)=true then(
 some true)else(
 (zax a0.Mixers 0 3).bind fun z11=>
 if(!z11)=true then(
 some true)else(
 (zax a0.Voters 1 12).bind fun z13=>
 if(!z13)=true then(
 some true)else(
 (zdq a0.Seed).bind fun z15=>
 some (!z15))))))):Option Bool).bind fun x3=>
 if x3=true then(
 some false)else(
 (((zbx a0.Ct).bind fun z20=>
 if z20=true then(
 (zbU a0.Ct).bind fun z22=>
 some (decide (a0.Gr.Q≤(i64.wrap (a0.Voters*z22)))))else(
 some false):Option Bool).bind fun x19=>
 if x19=true then(
 some false)else(
 (zcd a0.Gr 12).bind fun z24=>
 some z24.2))))
theorem zmq:∀{a0}{r},zee a0=some r→PCalls Tryz.prog 42 [(.sh,vH a0)] (Eo (.bool r) [.junk]):=by
 intro a0 r hr;apply pF 71 [] [] [] [.tmp 2] hr zIZ Tryz.func42;intro Φ hΦ hF g;unfold zee at hF;refine wW ?_;refine wJ hF (fun x3=>[(1,.bl [.int .i64 a0.Gr.P,.int .i64 a0.Gr.Q,.int .i64 a0.Gr.G,.int .i64 a0.Ct.Kind,.int .i64 a0.Ct.Options,.int .i64 a0.Ct.Least,.int .i64 a0.Ct.Most,.int .i64 a0.Ct.Points,.int .i64 a0.Threshold,.int .i64 a0.Trustees,.int .i64 a0.Mixers,.int .i64 a0.Voters,.int .i64 a0.Seed]),(48,.v (.bool x3))]) (fun x3 hF=>?_) fun _ hj1 hF=>?_
 ·refine wI hF (fun h16 hF=>?_) fun h16 hF=>?_
  ·exact wl hΦ hF
  refine wW ?_;refine wJ hF (fun x19=>[(1,.bl [.int .i64 a0.Gr.P,.int .i64 a0.Gr.Q,.int .i64 a0.Gr.G,.int .i64 a0.Ct.Kind,.int .i64 a0.Ct.Options,.int .i64 a0.Ct.Least,.int .i64 a0.Ct.Most,.int .i64 a0.Ct.Points,.int .i64 a0.Threshold,.int .i64 a0.Trustees,.int .i64 a0.Mixers,.int .i64 a0.Voters,.int .i64 a0.Seed]),(63,.v (.bool x19))]) (fun x19 hF=>?_) fun _ hj17 hF=>?_
  ·refine wI hF (fun h23 hF=>?_) fun h23 hF=>?_
   ·exact wl hΦ hF
   refine wW ?_;refine wC hF [.sh,.sh] zkM fun z24 hF=>?_
   refine wK [4] ?_;exact wl hΦ hF
  refine wX zCS follows ?_;refine wC hF [.sh] zeg fun z20 hF=>?_
  refine wH hF (fun h21 hF=>?_) fun h21 hF=>?_
  ·try simp[go_sem,g,h21]
   refine wC hF [.sh] zic fun z22 hF=>?_
   exact wV h21 (hj17 _) (zaa hF)
  exact wV h21 (hj17 _) (zaa hF)
 refine wC hF [.sh,.sh] zmZ fun z4 hF=>?_
 refine wG hF (fun h5 hF=>?_) fun h5 hF=>?_
 ·exact wV h5 (hj1 _) (zaa hF)
 try simp[go_sem,g,h5]
 refine wG hF (fun h6 hF=>?_) fun h6 hF=>?_
 ·exact wV h6 (hj1 _) (zaa hF)
 try simp[go_sem,g,h6]
 refine wC hF [.sh,.sh,.sh] zaQ fun z7 hF=>?_
 try simp[go_sem,g,h6]
 refine wG hF (fun h8 hF=>?_) fun h8 hF=>?_
 ·exact wV h8 (hj1 _) (zaa hF)
 try simp[go_sem,g,h8]
 refine wC hF [.sh,.sh,.sh] zaQ fun z9 hF=>?_
 try simp[go_sem,g,h8]
 refine wG hF (fun h10 hF=>?_) fun h10 hF=>?_
 ·exact wV h10 (hj1 _) (zaa hF)
 try simp[go_sem,g,h10]
 refine wC hF [.sh,.sh,.sh] zaQ fun z11 hF=>?_
 try simp[go_sem,g,h10]
 refine wG hF (fun h12 hF=>?_) fun h12 hF=>?_
 ·exact wV h12 (hj1 _) (zaa hF)
 try simp[go_sem,g,h12]
 refine wC hF [.sh,.sh,.sh] zaQ fun z13 hF=>?_
 try simp[go_sem,g,h12]
 refine wG hF (fun h14 hF=>?_) fun h14 hF=>?_
 ·exact wV h14 (hj1 _) (zaa hF)
 try simp[go_sem,g,h14]
 refine wC hF [.sh] zh6 fun z15 hF=>?_
 exact wV h14 (hj1 _) (zaa hF)
def zeZ(a0:Plan):Option Int:=
 some (i64.wrap ((i64.wrap ((i64.wrap (1+a0.Trustees))+a0.Mixers))+a0.Voters))
theorem zls:∀{a0}{r},zeZ a0=some r→PCalls Tryz.prog 43 [(.sh,vH a0)] (Eo (.int .i64 r) [.junk]):=by
 intro a0 r hr;apply pF 12 [] [] [] [.tmp 2] hr zJh Tryz.func43;intro Φ hΦ hF g;unfold zeZ at hF;refine wW ?_;refine wK [2] ?_;exact wm hΦ hF
def zc9(a0:Group)(a1:Int):Option Bool:=
 (((zax a1 1 (i64.wrap (a0.P-1))).bind fun z4=>
 if z4=true then(
 (zcZ a1 a0.Q a0.P).bind fun z6=>
 some (z6==1))else(
 some false):Option Bool).bind fun x3=>
 some x3)
theorem zhw:∀{a0}{a1}{r},zc9 a0 a1=some r→PCalls Tryz.prog 97 [(.sh,vF a0),(.sh,.int .i64 a1)] (Eo (.bool r) [.junk,.junk]):=by
 intro a0 a1 r hr;apply pF 19 [] [] [] [.tmp 4] hr zLz Tryz.func97;intro Φ hΦ hF g;unfold zc9 at hF;refine wW ?_;refine wJ hF (fun x3=>[(4,.v (.bool x3))]) (fun x3 hF=>?_) fun _ hj1 hF=>?_
 ·exact wm hΦ hF
 refine wC hF [.sh,.sh,.sh] zaQ fun z4 hF=>?_
 refine wG hF (fun h5 hF=>?_) fun h5 hF=>?_
 ·try simp[go_sem,g,h5]
  refine wC hF [.sh,.sh,.sh] zhT fun z6 hF=>?_
  exact wV h5 (hj1 _) (zaa hF)
 exact wV h5 (hj1 _) (zaa hF)
def zbB(a0:Int)(a1c0x0:Group):Option Bool:=
 (zc9 a1c0x0 a0).bind fun z1=>
 some (!z1)
theorem zhL:∀{a0}{a1c0x0}{r},zbB a0 a1c0x0=some r→PCalls Tryz.prog 146 [(.sh,.int .i64 a0),(.sh,.fp [.func (.func 97) [vF a1c0x0] []])] (Eo (.bool r) [.junk,.junk]):=by
 intro a0 a1c0x0 r hr;apply pF 8 [] [] [] [.tmp 3] hr zu4 Tryz.func146;intro Φ hΦ hF g;unfold zbB at hF;refine wW ?_;refine wC hF [.sh] zhw fun z1 hF=>?_
 exact wl hΦ hF
def zaS(a0:List Int)(a1u0c0x0:Group):Option Int:=
 ((zat (σ:=Unit) (fun i5 s4=>
 (ix a0 i5).bind fun x11=>
 (zbB x11 a1u0c0x0).bind fun z12=>
 if z12=true then(
 some (.out (.inr i5)))else(
 some (.go ()))) (fun s4=>.inl ()) (a0.length) 0 ():Option (Unit ⊕ Int)).bind (Sum.elim (fun x3=>
 some (-1)) some))
theorem zdU:∀{a0}{a1u0c0x0}{r},zaS a0 a1u0c0x0=some r→PCalls Tryz.prog 86 [(.sh,vA a0),(.sh,.func (.func 146) [] [.fp [.func (.func 97) [vF a1u0c0x0] []]])] (Eo (.int .i64 r) [.junk,.junk]):=by
 intro a0 a1u0c0x0 r hr;apply pF 19 [] [] [] [.tmp 4] hr zt0 Tryz.func86;intro Φ hΦ hF g;unfold zaS at hF
 iterate 2 (try simp[go_sem,g];try intros;refine zap ?_)
 refine wS hF (fun x3=>[]) (fun x3 hF=>?_) fun _ hj1 hr2 hF=>?_
 ·exact wl hΦ hF
 refine wB ?_;obtain⟨b14,hb15,hψ8⟩:=hF;refine pRK hb15 [0,1,7] (fun i5 s4=>[(8,.v (.int .i64 i5))]) (fun s4 _ hN16=>?_) fun i5 s4 _ _ hi9 hi10 ho6 hg7 hF=>?_
 ·exact wn hN16 (hj1 _) hψ8
 refine wW ?_;refine wu hi9 hi10 ?_;refine wW ?_;refine wB ?_;obtain⟨x11,g,hF⟩:=Rx g hF;refine wW ?_;refine wC hF [.sh] zhL fun z12 hF=>?_
 refine wK [0,1,5,7,8,16] ?_;refine wI hF (fun h13 hF=>?_) fun h13 hF=>?_
 ·cases ho6 _ (zaa hF);cases hΦ _ (hr2 _ hψ8);refine wW ?_;try simp[go_sem,g]
 refine wW ?_;exact wi hi9 hi10 (hg7 _) (zaa hF)
def zaM(a0:List Int)(a1u0c0x0:Group):Option Bool:=
 (zaS a0 a1u0c0x0).bind fun z1=>
 some (decide (0≤z1))
theorem zdB:∀{a0}{a1u0c0x0}{r},zaM a0 a1u0c0x0=some r→PCalls Tryz.prog 145 [(.sh,vA a0),(.sh,.func (.func 146) [] [.fp [.func (.func 97) [vF a1u0c0x0] []]])] (Eo (.bool r) [.junk,.junk]):=by
 intro a0 a1u0c0x0 r hr;apply pF 9 [] [] [] [.tmp 4] hr zve Tryz.func145;intro Φ hΦ hF g;unfold zaM at hF;refine wW ?_;refine wC hF [.sh,.sh] zdU fun z1 hF=>?_
 exact wl hΦ hF
def zco(a0:List Int)(a1x0:Group):Option Bool:=
 (zaM a0 a1x0).bind fun z1=>
 some (!z1)
theorem zib:∀{a0}{a1x0}{r},zco a0 a1x0=some r→PCalls Tryz.prog 96 [(.sh,vA a0),(.sh,.func (.func 97) [vF a1x0] [])] (Eo (.bool r) [.junk,.junk]):=by
 intro a0 a1x0 r hr;apply pF 9 [] [] [1000000] [.tmp 4] hr zxK Tryz.func96;intro Φ hΦ hF g;unfold zco at hF;refine wW ?_;refine wC hF [.sh,.sh] zdB fun z1 hF=>?_
 exact wl hΦ hF
def zcl(a0:Group)(a1:List Int):Option Bool:=
 (zco a1 a0).bind fun z1=>
 some z1
theorem zgg:∀{a0}{a1}{r},zcl a0 a1=some r→PCalls Tryz.prog 58 [(.sh,vF a0),(.sh,vA a1)] (Eo (.bool r) [.junk,.junk]):=by
 intro a0 a1 r hr;apply pF 9 [] [] [] [.tmp 4] hr zJk Tryz.func58;intro Φ hΦ hF g;unfold zcl at hF;refine wW ?_;refine wC hF [.sh,.sh] zib fun z1 hF=>?_
 exact wl hΦ hF
def zdw(a0:Group)(a1:List Int):Option Bool:=
 ((if decide ((a1.length:Int)≤40)=true then(
 (zcl a0 a1).bind fun z5=>
 some z5)else(
 some false):Option Bool).bind fun x3=>
 some x3)
theorem zld:∀{a0}{a1}{r},zdw a0 a1=some r→PCalls Tryz.prog 80 [(.sh,vF a0),(.sh,vA a1)] (Eo (.bool r) [.junk,.junk]):=by
 intro a0 a1 r hr;apply pF 13 [] [] [] [.tmp 4] hr zI2 Tryz.func80;intro Φ hΦ hF g;unfold zdw at hF;refine wW ?_;refine wJ hF (fun x3=>[(4,.v (.bool x3))]) (fun x3 hF=>?_) fun _ hj1 hF=>?_
 ·exact wm hΦ hF
 try simp[go_sem,g]
 try intros
 refine wG hF (fun h4 hF=>?_) fun h4 hF=>?_
 ·try simp[go_sem,g,h4]
  refine wC hF [.sh,.sh] zgg fun z5 hF=>?_
  exact wV h4 (hj1 _) (zaa hF)
 exact wV h4 (hj1 _) (zaa hF)
def zdO(a0:Int)(a1:Int)(a2:List Int):Option Bool:=
 (((zax a0 1 9).bind fun z4=>
 if z4=true then(
 (zax a1 0 39).bind fun z6=>
 if z6=true then(
 if decide ((a2.length:Int)≤380)=true then(
 (zaY a2).bind fun z9=>
 some z9)else(
 some false))else(
 some false))else(
 some false):Option Bool).bind fun x3=>
 some x3)
theorem zlu:∀{a0}{a1}{a2}{r},zdO a0 a1 a2=some r→PCalls Tryz.prog 167 [(.sh,.int .i64 a0),(.sh,.int .i64 a1),(.sh,vA a2)] (Eo (.bool r) [.junk,.junk,.junk]):=by
 intro a0 a1 a2 r hr;apply pF 22 [] [] [] [.tmp 6] hr zEP Tryz.func167;intro Φ hΦ hF g;unfold zdO at hF;refine wW ?_;refine wJ hF (fun x3=>[(6,.v (.bool x3))]) (fun x3 hF=>?_) fun _ hj1 hF=>?_
 ·exact wm hΦ hF
 refine wC hF [.sh,.sh,.sh] zaQ fun z4 hF=>?_
 refine wG hF (fun h5 hF=>?_) fun h5 hF=>?_
 ·try simp[go_sem,g,h5]
  refine wC hF [.sh,.sh,.sh] zaQ fun z6 hF=>?_
  try simp[go_sem,g,h5]
  refine wG hF (fun h7 hF=>?_) fun h7 hF=>?_
  ·try simp[go_sem,g,h7]
   try intros
   refine wG hF (fun h8 hF=>?_) fun h8 hF=>?_
   ·try simp[go_sem,g,h8]
    refine wC hF [.sh,.sh] zdV fun z9 hF=>?_
    exact wV h8 (hj1 _) (zaa hF)
   exact wV h8 (hj1 _) (zaa hF)
  exact wV h7 (hj1 _) (zaa hF)
 exact wV h5 (hj1 _) (zaa hF)
def zd5(a0:Int)(a1:Int)(a2:Int)(a3:List Int):Option (Int×Bool):=
 (((zdO a0 a1 a3).bind fun z4=>
 if(!z4)=true then(
 some true)else(
 (zax a2 0 63).bind fun z6=>
 some (!z6)):Option Bool).bind fun x3=>
 if x3=true then(
 some (0,false))else(
 gd (([a0,a1,a2].length+a3.length)*8≤140737488355328∧[a0,a1,a2].length+a3.length≤4611686018427387904)<|
 (zbv (⟨#[101,110,116,114,121]⟩:ByteArray) ([a0,a1,a2]++a3)).bind fun z8=>
 some (z8.1,z8.2)))
theorem zmt:∀{a0}{a1}{a2}{a3}{r},zd5 a0 a1 a2 a3=some r→PCalls Tryz.prog 123 [(.sh,.int .i64 a0),(.sh,.int .i64 a1),(.sh,.int .i64 a2),(.sh,vA a3)] (Eo (.tup [.int .i64 r.1,.bool r.2]) [.junk,.junk,.junk,.junk]):=by
 intro a0 a1 a2 a3 r hr;apply pF 29 [] [] [] [.tmp 8,.tmp 9] hr zCs Tryz.func123;intro Φ hΦ hF g;unfold zd5 at hF;refine wW ?_;refine wJK hF [0,1,2,3] (fun x3=>[(19,.v (.bool x3))]) (fun x3 hF=>?_) fun _ hj1 hF=>?_
 ·refine wI hF (fun h7 hF=>?_) fun h7 hF=>?_
  ·exact wl hΦ hF
  obtain⟨g,hF⟩:=Rg g hF;refine wW ?_;refine wC hF [.sh,.sh] ze0 fun z8 hF=>?_
  refine wK [8,9] ?_;exact wm hΦ hF
 refine wC hF [.sh,.sh,.sh] zlu fun z4 hF=>?_
 refine wG hF (fun h5 hF=>?_) fun h5 hF=>?_
 ·exact wV h5 (hj1 _) (zaa hF)
 try simp[go_sem,g,h5]
 refine wC hF [.sh,.sh,.sh] zaQ fun z6 hF=>?_
 exact wV h5 (hj1 _) (zaa hF)
def zey(a0:Int):Option (ByteArray×Bool):=
 (zdq a0).bind fun z1=>
 if(!z1)=true then(
 some ((⟨#[]⟩:ByteArray),false))else(
 ((zau (σ:=(List Int)×Int) (fun s6=>
 if decide (0≤s6.2)=true then(
 gd (0≤(u64.wrap (i64.wrap (4*s6.2))))<|
 (ixs (⟨#[48,49,50,51,52,53,54,55,56,57,97,98,99,100,101,102]⟩:ByteArray) (i64.wrap ((BitVec.ofInt i64.bits (a0.fdiv (2^min (u64.wrap (i64.wrap (4*s6.2))).toNat i64.bits))&&&BitVec.ofInt i64.bits 15).toNat))).bind fun x12=>
 gd ((s6.1.length+1)*1≤140737488355328∧s6.1.length+1≤4611686018427387904)<|
 some (.go (s6.1++[x12],i64.wrap (s6.2-1))))else(
 some (.out s6.1))) ([],15):Option ((List Int))).bind fun x5=>
 some ((zcT x5),true)))
theorem zm1:∀{a0}{r},zey a0=some r→PCalls Tryz.prog 168 [(.sh,.int .i64 a0)] (Eo (.tup [.str r.1,.bool r.2]) [.junk]):=by
 intro a0 r hr;apply pF 26 [] [] [1000000] [.tmp 2,.tmp 3] hr zFI Tryz.func168;intro Φ hΦ hF g;unfold zey at hF;refine wW ?_;refine wC hF [.sh] zh6 fun z1 hF=>?_
 refine wW ?_;refine wI hF (fun h2 hF=>?_) fun h2 hF=>?_
 ·exact wl hΦ hF
 iterate 3 refine wW ?_
 refine wJ hF (fun x5=>[(4,.v (vP x5))]) (fun x5 hF=>?_) fun _ hj3 hF=>?_
 ·refine wK [2,3] ?_;exact wm hΦ hF
 refine wB ?_;obtain⟨b13,hb14,hψ10⟩:=hF;refine pL hb14 (fun s6=>[(0,.v (.int .i64 a0)),(4,.v (vP s6.1)),(5,.v (.int .i64 s6.2))]) fun s6 _ _ ho8 hg9 hF=>?_
 refine wK [0,4,5,11] ?_;refine wI hF (fun h11 hF=>?_) fun h11 hF=>?_
 ·refine wW ?_;refine wB ?_;obtain⟨g,hF⟩:=Rsh g hF;obtain⟨x12,g,hF⟩:=Rxs g hF;obtain⟨g,hF⟩:=Rg g hF;refine wK [0,4,5] ?_;exact wT (hg9 _) (zaa hF)
 cases ho8 _ (zaa hF);exact wT (hj3 _) hψ10
def zd0(a0:ByteArray)(a1:Int):Option ByteArray:=
 (zey a1).bind fun z1=>
 gd (a0.size+z1.1.size≤9223372036854775807)<|
 some (a0++z1.1)
theorem znM:∀{a0}{a1}{r},zd0 a0 a1=some r→PCalls Tryz.prog 125 [(.sh,.str a0),(.sh,.int .i64 a1)] (Eo (.str r) [.junk,.junk]):=by
 intro a0 a1 r hr;apply pF 15 [] [] [] [.tmp 4] hr zFh Tryz.func125;intro Φ hΦ hF g;unfold zd0 at hF;refine wW ?_;refine wC hF [.sh] zm1 fun z1 hF=>?_
 obtain⟨g,hF⟩:=Rsa g hF;refine wW ?_;refine wK [4] ?_;exact wm hΦ hF
def zec(a0:Group)(a1:Int):Option Bool:=
 (zax a1 0 (i64.wrap (a0.Q-1))).bind fun z1=>
 some z1
theorem zlT:∀{a0}{a1}{r},zec a0 a1=some r→PCalls Tryz.prog 202 [(.sh,vF a0),(.sh,.int .i64 a1)] (Eo (.bool r) [.junk,.junk]):=by
 intro a0 a1 r hr;apply pF 10 [] [] [] [.tmp 4] hr zFr Tryz.func202;intro Φ hΦ hF g;unfold zec at hF;refine wW ?_;refine wC hF [.sh,.sh,.sh] zaQ fun z1 hF=>?_
 exact wl hΦ hF
def zbo(a0:Int)(a1c0x0:Group):Option Bool:=
 (zec a1c0x0 a0).bind fun z1=>
 some (!z1)
theorem zg9:∀{a0}{a1c0x0}{r},zbo a0 a1c0x0=some r→PCalls Tryz.prog 146 [(.sh,.int .i64 a0),(.sh,.fp [.func (.func 202) [vF a1c0x0] []])] (Eo (.bool r) [.junk,.junk]):=by
 intro a0 a1c0x0 r hr;apply pF 8 [] [] [] [.tmp 3] hr zu4 Tryz.func146;intro Φ hΦ hF g;unfold zbo at hF;refine wW ?_;refine wC hF [.sh] zlT fun z1 hF=>?_
 exact wl hΦ hF
def za8(a0:List Int)(a1u0c0x0:Group):Option Int:=
 ((zat (σ:=Unit) (fun i5 s4=>
 (ix a0 i5).bind fun x11=>
 (zbo x11 a1u0c0x0).bind fun z12=>
 if z12=true then(
 some (.out (.inr i5)))else(
 some (.go ()))) (fun s4=>.inl ()) (a0.length) 0 ():Option (Unit ⊕ Int)).bind (Sum.elim (fun x3=>
 some (-1)) some))
theorem zdH:∀{a0}{a1u0c0x0}{r},za8 a0 a1u0c0x0=some r→PCalls Tryz.prog 86 [(.sh,vA a0),(.sh,.func (.func 146) [] [.fp [.func (.func 202) [vF a1u0c0x0] []]])] (Eo (.int .i64 r) [.junk,.junk]):=by
 intro a0 a1u0c0x0 r hr;apply pF 19 [] [] [] [.tmp 4] hr zt0 Tryz.func86;intro Φ hΦ hF g;unfold za8 at hF
 iterate 2 (try simp[go_sem,g];try intros;refine zap ?_)
 refine wS hF (fun x3=>[]) (fun x3 hF=>?_) fun _ hj1 hr2 hF=>?_
 ·exact wl hΦ hF
 refine wB ?_;obtain⟨b14,hb15,hψ8⟩:=hF;refine pRK hb15 [0,1,7] (fun i5 s4=>[(8,.v (.int .i64 i5))]) (fun s4 _ hN16=>?_) fun i5 s4 _ _ hi9 hi10 ho6 hg7 hF=>?_
 ·exact wn hN16 (hj1 _) hψ8
 refine wW ?_;refine wu hi9 hi10 ?_;refine wW ?_;refine wB ?_;obtain⟨x11,g,hF⟩:=Rx g hF;refine wW ?_;refine wC hF [.sh] zg9 fun z12 hF=>?_
 refine wK [0,1,5,7,8,16] ?_;refine wI hF (fun h13 hF=>?_) fun h13 hF=>?_
 ·cases ho6 _ (zaa hF);cases hΦ _ (hr2 _ hψ8);refine wW ?_;try simp[go_sem,g]
 refine wW ?_;exact wi hi9 hi10 (hg7 _) (zaa hF)
def za1(a0:List Int)(a1u0c0x0:Group):Option Bool:=
 (za8 a0 a1u0c0x0).bind fun z1=>
 some (decide (0≤z1))
theorem zdk:∀{a0}{a1u0c0x0}{r},za1 a0 a1u0c0x0=some r→PCalls Tryz.prog 145 [(.sh,vA a0),(.sh,.func (.func 146) [] [.fp [.func (.func 202) [vF a1u0c0x0] []]])] (Eo (.bool r) [.junk,.junk]):=by
 intro a0 a1u0c0x0 r hr;apply pF 9 [] [] [] [.tmp 4] hr zve Tryz.func145;intro Φ hΦ hF g;unfold za1 at hF;refine wW ?_;refine wC hF [.sh,.sh] zdH fun z1 hF=>?_
 exact wl hΦ hF
def zcg(a0:List Int)(a1x0:Group):Option Bool:=
 (za1 a0 a1x0).bind fun z1=>
 some (!z1)
theorem zhM:∀{a0}{a1x0}{r},zcg a0 a1x0=some r→PCalls Tryz.prog 96 [(.sh,vA a0),(.sh,.func (.func 202) [vF a1x0] [])] (Eo (.bool r) [.junk,.junk]):=by
 intro a0 a1x0 r hr;apply pF 9 [] [] [1000000] [.tmp 4] hr zxK Tryz.func96;intro Φ hΦ hF g;unfold zcg at hF;refine wW ?_;refine wC hF [.sh,.sh] zdk fun z1 hF=>?_
 exact wl hΦ hF
def zca(a0:Group)(a1:List Int):Option Bool:=
 (zcg a1 a0).bind fun z1=>
 some z1
theorem zfX:∀{a0}{a1}{r},zca a0 a1=some r→PCalls Tryz.prog 181 [(.sh,vF a0),(.sh,vA a1)] (Eo (.bool r) [.junk,.junk]):=by
 intro a0 a1 r hr;apply pF 9 [] [] [] [.tmp 4] hr zEA Tryz.func181;intro Φ hΦ hF g;unfold zca at hF;refine wW ?_;refine wC hF [.sh,.sh] zhM fun z1 hF=>?_
 exact wl hΦ hF
theorem zEx:zuN Tryz.prog 203 28:=by
 intro n H e b es by_ z e1 e2 h0 h1 h2 h3 h4 h5;refine zgr zEn Tryz.func203 rfl rfl (by simp[Tryz.f203]) fun hw=>?_
 have hn:¬n<0:=by omega
 have hw1:i64.wrap n=n:=wrI (by omega);have hw0:i64.wrap 0=0:=wrI (by omega);have ei:(zc2 Tryz.prog 3).isSome=true:=by kernel_rfl
 by_cases hp:0<n
 ·have hne:n≠0:=by omega
  have h5':=h5;simp[zai]at h5';simp[Tryz.f203,awp,zd9,aop,ahp,zaA,zaI,zaF,mat,zaN,zao,zhQ,FR.put,FR.init,rdv,rda,zaZ,zbI,zai,Am.lenV,zeS,zcM,bnd,zlO,zlI,zhn,zif,zj0,hn,e1,e2,ei,hw1,hw0,hp,h1,h2,h3,h4,hne]
  first|exact h5'|exact .inl h5'
 have hz:n=0:=by omega
 subst hz;simp[Tryz.f203,awp,zd9,aop,ahp,zaA,zaI,zaF,mat,zaN,zao,zhQ,FR.put,FR.init,rdv,rda,zaZ,zbI,zai,Am.lenV,zeS,zcM,bnd,zlO,zlI,zhn,zif,zj0,hn,e1,e2,hw1,hw0,hp]
def zbE(a0:(List (List Int))):Option ((List Int)):=
 ((zat (σ:=Int) (fun i5 s4=>
 (ix a0 i5).bind fun x11=>
 if decide ((i64.wrap (s4+(x11.length:Int)))<0)=true then(
 none)else(
 some (.go (i64.wrap (s4+(x11.length:Int)))))) (fun s4=>s4) (a0.length) 0 0:Option Int).bind fun x3=>
 gd (0≤x3∧8*x3≤140737488355328∧x3≤4611686018427387904)<|
 ((zat (σ:=(List Int)) (fun i22 s21=>
 (ix a0 i22).bind fun x28=>
 gd ((s21.length+x28.length)*8≤140737488355328∧s21.length+x28.length≤4611686018427387904)<|
 some (.go (s21++x28))) (fun s21=>s21) (a0.length) 0 []:Option ((List Int))).bind fun x20=>
 some x20))
theorem ze4:∀{a0}{r},zbE a0=some r→PCalls Tryz.prog 183 [(.sh,vQ a0)] (Eo (vI r) [.junk]):=by
 intro a0 r hr;apply pF 36 [] [] [] [.tmp 2] hr zFV Tryz.func183;intro Φ hΦ hF g;unfold zbE at hF
 iterate 3 (try simp[go_sem,g];try intros;refine zap ?_)
 refine wJ hF (fun x3=>[(0,.v (vQ a0)),(3,.v (.int .i64 x3))]) (fun x3 hF=>?_) fun _ hj1 hF=>?_
 ·obtain⟨g17,hF⟩:=zff hF;try simp[go_sem,g]
  refine zzu zEx zKQ (by simp[go_sem,g]) g17 ?_;try simp[go_sem,g]
  try intros
  refine zap ?_;try simp[go_sem,g]
  try intros
  refine wK [6,25,26,27] ?_;refine wJ hF (fun x20=>[(6,.v (vI x20))]) (fun x20 hF=>?_) fun _ hj18 hF=>?_
  ·exact wl hΦ hF
  refine wB ?_;obtain⟨b29,hb30,hψ25⟩:=hF;refine pRK hb30 [25,26] (fun i22 s21=>[(6,.v (vI s21)),(27,.v (.int .i64 i22))]) (fun s21 _ hN31=>?_) fun i22 s21 _ _ hi26 hi27 ho23 hg24 hF=>?_
  ·exact wn hN31 (hj18 _) hψ25
  refine wW ?_;refine wu hi26 hi27 ?_;refine wW ?_;refine wB ?_;obtain⟨x28,g,hF⟩:=Rx g hF;obtain⟨g,hF⟩:=Rg g hF
  iterate 2 refine wW ?_
  exact wi hi26 hi27 (hg24 _) (zaa hF)
 refine wB ?_;obtain⟨b13,hb14,hψ8⟩:=hF;refine pRK hb14 [0,9,10] (fun i5 s4=>[(3,.v (.int .i64 s4)),(11,.v (.int .i64 i5))]) (fun s4 _ hN15=>?_) fun i5 s4 _ _ hi9 hi10 ho6 hg7 hF=>?_
 ·exact wn hN15 (hj1 _) hψ8
 refine wW ?_;refine wu hi9 hi10 ?_;refine wW ?_;refine wB ?_;obtain⟨x11,g,hF⟩:=Rx g hF;try simp[go_sem,g]
 try intros
 refine zap ?_;try simp[go_sem,g]
 try intros
 refine wK [0,3,9,10,11] ?_;refine wW ?_;refine wI hF (fun h12 hF=>?_) fun h12 hF=>?_
 ·exact(ztS hF).elim
 refine wW ?_;exact wi hi9 hi10 (hg7 _) (zaa hF)
def zbK(a0:Group)(a1:ByteArray)(a2:List Int):Option (Int×Bool):=
 gd (([a0.P,a0.Q,a0.G].length+a2.length)*8≤140737488355328∧[a0.P,a0.Q,a0.G].length+a2.length≤4611686018427387904)<|
 (zbv a1 ([a0.P,a0.Q,a0.G]++a2)).bind fun z1=>
 if(!z1.2)=true then(
 some (0,false))else(
 gd (a0.Q≠0)<|
 some (z1.1.tmod a0.Q,true))
theorem zg6:∀{a0}{a1}{a2}{r},zbK a0 a1 a2=some r→PCalls Tryz.prog 182 [(.sh,vF a0),(.sh,.str a1),(.sh,vA a2)] (Eo (.tup [.int .i64 r.1,.bool r.2]) [.junk,.junk,.junk]):=by
 intro a0 a1 a2 r hr;apply pF 30 [] [] [] [.tmp 6,.tmp 7] hr zD1 Tryz.func182;intro Φ hΦ hF g;unfold zbK at hF;obtain⟨g,hF⟩:=Rg g hF;refine wW ?_;refine wC hF [.sh,.sh] ze0 fun z1 hF=>?_
 refine wK [3,8,9] ?_;refine wW ?_;refine wI hF (fun h2 hF=>?_) fun h2 hF=>?_
 ·exact wl hΦ hF
 obtain⟨g,hF⟩:=Rz g hF;cases hΦ _ (zaa hF)
 iterate 2 refine wW ?_
 try simp[go_sem,g]
def zh7(a0:Int)(a1:Int):Option Int:=
 gd (a1≠0)<|
 gd (a1≠0)<|
 some ((i64.wrap ((a0.tmod a1)+a1)).tmod a1)
theorem zuP:∀{a0}{a1}{r},zh7 a0 a1=some r→PCalls Tryz.prog 89 [(.sh,.int .i64 a0),(.sh,.int .i64 a1)] (Eo (.int .i64 r) [.junk,.junk]):=by
 intro a0 a1 r hr;apply pF 12 [] [] [] [.tmp 4] hr zLM Tryz.func89;intro Φ hΦ hF g;unfold zh7 at hF;obtain⟨g,hF⟩:=Rz g hF;obtain⟨g,hF⟩:=Rz g hF;cases hΦ _ (zaa hF)
 iterate 2 refine wW ?_
 try simp[go_sem,g]
@[go_sem] def zEp:List DE:=[d0 0 [1],d0 1 [2],d1 2 [3] 3,d2 3 [9] 3 9,d1 5 [3] 3,d2 6 [12] 3 12,d3 4 [8,10],d3 7 [7,11,13],d0 8 [14]]
def za4(a0:Group)(a1:Int)(a2:Int):Option Int:=
 (zh7 a2 a0.Q).bind fun z1=>
 (zcZ a1 z1 a0.P).bind fun z2=>
 some z2
theorem zct:∀{a0}{a1}{a2}{r},za4 a0 a1 a2=some r→PCalls Tryz.prog 51 [(.sh,vF a0),(.sh,.int .i64 a1),(.sh,.int .i64 a2)] (Eo (.int .i64 r) [.junk,.junk,.junk]):=by
 intro a0 a1 a2 r hr;apply pF 15 [] [] [] [.tmp 6] hr zIS Tryz.func51;intro Φ hΦ hF g;unfold za4 at hF;refine wW ?_;refine wX zEp follows ?_;refine wC hF [.sh,.sh] zuP fun z1 hF=>?_
 refine wC hF [.sh,.sh,.sh] zhT fun z2 hF=>?_
 refine wK [6] ?_;exact wm hΦ hF
def zaU(a0:Group)(a1:List Int):Option Int:=
 ((zat (σ:=Int) (fun i5 s4=>
 (ix a1 i5).bind fun x11=>
 gd (a0.P≠0)<|
 some (.go ((i64.wrap (s4*x11)).tmod a0.P))) (fun s4=>s4) (a1.length) 0 1:Option Int).bind fun x3=>
 some x3)
theorem zcp:∀{a0}{a1}{r},zaU a0 a1=some r→PCalls Tryz.prog 50 [(.sh,vF a0),(.sh,vA a1)] (Eo (.int .i64 r) [.junk,.junk]):=by
 intro a0 a1 r hr;apply pF 22 [] [] [] [.tmp 4] hr zHE Tryz.func50;intro Φ hΦ hF g;unfold zaU at hF
 iterate 3 (try simp[go_sem,g];try intros;refine zap ?_)
 refine wJ hF (fun x3=>[(5,.v (.int .i64 x3))]) (fun x3 hF=>?_) fun _ hj1 hF=>?_
 ·exact wl hΦ hF
 refine wB ?_;obtain⟨b12,hb13,hψ8⟩:=hF;refine pRK hb13 [2,8,9] (fun i5 s4=>[(5,.v (.int .i64 s4)),(10,.v (.int .i64 i5))]) (fun s4 _ hN14=>?_) fun i5 s4 _ _ hi9 hi10 ho6 hg7 hF=>?_
 ·exact wn hN14 (hj1 _) hψ8
 refine wW ?_;refine wu hi9 hi10 ?_;refine wW ?_;refine wB ?_;obtain⟨x11,g,hF⟩:=Rx g hF;refine wK [2,5,7,8,9,10] ?_;obtain⟨g,hF⟩:=Rz g hF;refine wW ?_;exact wi hi9 hi10 (hg7 _) (zaa hF)
@[go_sem] def zBb:List DE:=[d2 0 [3] 3 3,d0 1 [7],d2 2 [3] 3 3,d0 3 [9],d0 4 [2],d0 5 [8],d0 6 [21,22],d0 7 [23],d3 8 [19,20,24],d0 9 [18,25],⟨10,[17,26],[],none,true,true,true⟩,d0 11 [27]]
def zdK(a0:Group)(a1:List Int)(a2:List Int):Option Int:=
 ((zat (σ:=Int) (fun i5 s4=>
 (ix a1 i5).bind fun x11=>
 (ix a2 i5).bind fun x12=>
 (za4 a0 x11 x12).bind fun z13=>
 (zaU a0 [s4,z13]).bind fun z14=>
 some (.go z14)) (fun s4=>s4) (a1.length) 0 1:Option Int).bind fun x3=>
 some x3)
theorem zlD:∀{a0}{a1}{a2}{r},zdK a0 a1 a2=some r→PCalls Tryz.prog 204 [(.sh,vF a0),(.sh,vA a1),(.sh,vA a2)] (Eo (.int .i64 r) [.junk,.junk,.junk]):=by
 intro a0 a1 a2 r hr;apply pF 30 [] [] [] [.tmp 6] hr zCx Tryz.func204;intro Φ hΦ hF g;unfold zdK at hF
 iterate 3 (try simp[go_sem,g];try intros;refine zap ?_)
 refine wJ hF (fun x3=>[(7,.v (.int .i64 x3))]) (fun x3 hF=>?_) fun _ hj1 hF=>?_
 ·exact wl hΦ hF
 refine wB ?_;obtain⟨b15,hb16,hψ8⟩:=hF;refine pRK hb16 [2,3,10,11] (fun i5 s4=>[(7,.v (.int .i64 s4)),(12,.v (.int .i64 i5))]) (fun s4 _ hN17=>?_) fun i5 s4 _ _ hi9 hi10 ho6 hg7 hF=>?_
 ·exact wn hN17 (hj1 _) hψ8
 refine wW ?_;refine wu hi9 hi10 ?_;refine wW ?_;refine wB ?_;obtain⟨x11,g,hF⟩:=Rx g hF;refine wK [2,3,7,8,9,10,11,12] ?_;refine wX zBb follows ?_;obtain⟨x12,g,hF⟩:=Rx g hF;refine wC hF [.sh,.sh,.sh] zct fun z13 hF=>?_
 refine wC hF [.sh,.sh] zcp fun z14 hF=>?_
 refine wK [2,3,7,10,11,12] ?_;exact wi hi9 hi10 (hg7 _) (zaa hF)
def zdL(a0:Group)(a1:(List (List Int)))(a2:List Int):Option ((List Int)):=
 ((zat (σ:=(List Int)) (fun i5 s4=>
 (ix a1 i5).bind fun x11=>
 (zdK a0 x11 a2).bind fun z12=>
 gd ((s4.length+1)*8≤140737488355328∧s4.length+1≤4611686018427387904)<|
 some (.go (s4++[z12]))) (fun s4=>s4) (a1.length) 0 []:Option ((List Int))).bind fun x3=>
 some x3)
end
end Go.Pm
