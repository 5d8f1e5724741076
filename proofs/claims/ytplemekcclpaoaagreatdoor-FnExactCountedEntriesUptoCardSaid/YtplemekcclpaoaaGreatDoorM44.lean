/-
  Plain functions and their walks. Written by wip/tools/lift.py.
-/
import Derived.Test.YtplemekcclpaoaaGreatDoorIt
namespace Go.Pm
open Go.Am IntKind
open Go.Proofs
set_option maxRecDepth 100000
attribute [local irreducible] pw pwx pw1 pwg qv qz qf
attribute [-simp] List.map_set
set_option linter.unusedSimpArgs false
set_option linter.unusedVariables false
noncomputable section
structure Group where
 P:Int
 Q:Int
 G:Int
structure Proof where
 Commits:(List Int)
 Challenges:(List Int)
 Responses:(List Int)
structure Entry where
 Kind:Int
 Author:Int
 Data:(List Int)
 Sign:Proof
structure Board where
 Keys:(List Int)
 Entries:(List Entry)
structure Contest where
 Kind:Int
 Options:Int
 Least:Int
 Most:Int
 Points:Int
structure Plan where
 Gr:Group
 Ct:Contest
 Threshold:Int
 Trustees:Int
 Mixers:Int
 Voters:Int
 Seed:Int
structure uX where
 p:Plan
 commits:(List Int)
structure l3State where
 s:Int
 t:Int
structure Bases where
 H:Int
 Hs:(List Int)
structure Cipher where
 A:Int
 B:Int
structure Sealed where
 Voter:Int
 Ciphers:(List Cipher)
 Proofs:(List Proof)
 Sum:Proof
structure EqualLog where
 G1:Int
 Y1:Int
 G2:Int
 Y2:Int
structure Opening where
 Ct:Contest
 Threshold:Int
 Trustees:Int
 Mixers:Int
 Voters:Int
structure listReader where
 l:(List Int)
 ok:Bool
def zaf(x:Int):List PV:=[.int .i64 x]
variable{Author Kind:Int}{Data x:(List Int)}{i:Nat}{l:List Entry}
@[go_sem] theorem zDY{x:Int}:zaf x=[.int .i64 x]:=(rfl)
@[go_sem] theorem zrU{l:List Int}:List.map (List.map drop∘zaf) l=l.map zaf:=by refine List.map_congr_left fun x _=>?_;simp[go_sem]
@[go_sem] theorem zAt{l:List Int}:List.map (List.map drop) (l.map zaf)=l.map zaf:=by rw[List.map_map];exact zrU
@[go_sem] theorem zB3{l:List Int}{a:Int}:(l.map zaf).set i [.int .i64 a]=(l.set i a).map zaf:=by rw[List.map_set];rfl
def zby(x:Entry):List PV:=[.int .i64 x.Kind,.int .i64 x.Author,.sl false 1 (x.Data.map zaf),.sl false 1 (x.Sign.Commits.map zaf),.sl false 1 (x.Sign.Challenges.map zaf),.sl false 1 (x.Sign.Responses.map zaf)]
@[go_sem] theorem zAj{x:Entry}:zby x=[.int .i64 x.Kind,.int .i64 x.Author,.sl false 1 (x.Data.map zaf),.sl false 1 (x.Sign.Commits.map zaf),.sl false 1 (x.Sign.Challenges.map zaf),.sl false 1 (x.Sign.Responses.map zaf)]:=(rfl)
@[go_sem] theorem znF :List.map (List.map drop∘zby) l=l.map zby:=by refine List.map_congr_left fun x _=>?_;simp[go_sem]
@[go_sem] theorem zxf :List.map (List.map drop) (l.map zby)=l.map zby:=by rw[List.map_map];exact znF
@[go_sem] theorem zxM{SignCommits:(List Int)}{SignChallenges:(List Int)}{SignResponses:(List Int)}:(l.map zby).set i [.int .i64 Kind,.int .i64 Author,.sl false 1 (Data.map zaf),.sl false 1 (SignCommits.map zaf),.sl false 1 (SignChallenges.map zaf),.sl false 1 (SignResponses.map zaf)]=(l.set i (Entry.mk Kind Author Data (Proof.mk SignCommits SignChallenges SignResponses))).map zby:=by rw[List.map_set];rfl
@[go_sem] theorem zyO{Sign:Proof}:(l.map zby).set i [.int .i64 Kind,.int .i64 Author,.sl false 1 (Data.map zaf),.sl false 1 (Sign.Commits.map zaf),.sl false 1 (Sign.Challenges.map zaf),.sl false 1 (Sign.Responses.map zaf)]=(l.set i (Entry.mk Kind Author Data Sign)).map zby:=by rw[List.map_set];rfl
def zbG(x:Entry):List PV:=[.int .i64 x.Kind,.int .i64 x.Author,.sl true 1 (x.Data.map zaf),.sl true 1 (x.Sign.Commits.map zaf),.sl true 1 (x.Sign.Challenges.map zaf),.sl true 1 (x.Sign.Responses.map zaf)]
@[go_sem] theorem zxi{x:Entry}:zbG x=[.int .i64 x.Kind,.int .i64 x.Author,.sl true 1 (x.Data.map zaf),.sl true 1 (x.Sign.Commits.map zaf),.sl true 1 (x.Sign.Challenges.map zaf),.sl true 1 (x.Sign.Responses.map zaf)]:=(rfl)
@[go_sem] theorem zlR :List.map (List.map drop∘zbG) l=l.map zby:=by refine List.map_congr_left fun x _=>?_;simp[go_sem]
@[go_sem] theorem zuC :List.map (List.map drop) (l.map zbG)=l.map zby:=by rw[List.map_map];exact zlR
@[go_sem] theorem zvr{SignCommits:(List Int)}{SignChallenges:(List Int)}{SignResponses:(List Int)}:(l.map zbG).set i [.int .i64 Kind,.int .i64 Author,.sl true 1 (Data.map zaf),.sl true 1 (SignCommits.map zaf),.sl true 1 (SignChallenges.map zaf),.sl true 1 (SignResponses.map zaf)]=(l.set i (Entry.mk Kind Author Data (Proof.mk SignCommits SignChallenges SignResponses))).map zbG:=by rw[List.map_set];rfl
@[go_sem] theorem zvI{Sign:Proof}:(l.map zbG).set i [.int .i64 Kind,.int .i64 Author,.sl true 1 (Data.map zaf),.sl true 1 (Sign.Commits.map zaf),.sl true 1 (Sign.Challenges.map zaf),.sl true 1 (Sign.Responses.map zaf)]=(l.set i (Entry.mk Kind Author Data Sign)).map zbG:=by rw[List.map_set];rfl
def zha(x:Int):List PV:=[.int .u8 x]
@[go_sem] theorem zFx{x:Int}:zha x=[.int .u8 x]:=(rfl)
@[go_sem] theorem zs8{l:List Int}:List.map (List.map drop∘zha) l=l.map zha:=by refine List.map_congr_left fun x _=>?_;simp[go_sem]
@[go_sem] theorem zBg{l:List Int}:List.map (List.map drop) (l.map zha)=l.map zha:=by rw[List.map_map];exact zs8
@[go_sem] theorem zCq{l:List Int}{a:Int}:(l.map zha).set i [.int .u8 a]=(l.set i a).map zha:=by rw[List.map_set];rfl
def zd4(x:List Int):List PV:=[.sl false 1 (x.map zaf)]
@[go_sem] theorem zB8 :zd4 x=[.sl false 1 (x.map zaf)]:=(rfl)
@[go_sem] theorem zqt{l:List (List Int)}:List.map (List.map drop∘zd4) l=l.map zd4:=by refine List.map_congr_left fun x _=>?_;simp[go_sem]
@[go_sem] theorem zzb{l:List (List Int)}:List.map (List.map drop) (l.map zd4)=l.map zd4:=by rw[List.map_map];exact zqt
@[go_sem] theorem zBF{l:List (List Int)}{a:(List Int)}:(l.map zd4).set i [.sl false 1 (a.map zaf)]=(l.set i a).map zd4:=by rw[List.map_set];rfl
def zhB(x:List Int):List PV:=[.sl true 1 (x.map zaf)]
@[go_sem] theorem zBT :zhB x=[.sl true 1 (x.map zaf)]:=(rfl)
@[go_sem] theorem zqo{l:List (List Int)}:List.map (List.map drop∘zhB) l=l.map zd4:=by refine List.map_congr_left fun x _=>?_;simp[go_sem]
@[go_sem] theorem zy9{l:List (List Int)}:List.map (List.map drop) (l.map zhB)=l.map zd4:=by rw[List.map_map];exact zqo
@[go_sem] theorem zBn{l:List (List Int)}{a:(List Int)}:(l.map zhB).set i [.sl true 1 (a.map zaf)]=(l.set i a).map zhB:=by rw[List.map_set];rfl
def zch(x:Cipher):List PV:=[.int .i64 x.A,.int .i64 x.B]
@[go_sem] theorem zAq{x:Cipher}:zch x=[.int .i64 x.A,.int .i64 x.B]:=(rfl)
@[go_sem] theorem zoJ{l:List Cipher}:List.map (List.map drop∘zch) l=l.map zch:=by refine List.map_congr_left fun x _=>?_;simp[go_sem]
@[go_sem] theorem zx1{l:List Cipher}:List.map (List.map drop) (l.map zch)=l.map zch:=by rw[List.map_map];exact zoJ
@[go_sem] theorem zAb{l:List Cipher}{A:Int}{B:Int}:(l.map zch).set i [.int .i64 A,.int .i64 B]=(l.set i (Cipher.mk A B)).map zch:=by rw[List.map_set];rfl
def za2(x:Proof):List PV:=[.sl false 1 (x.Commits.map zaf),.sl false 1 (x.Challenges.map zaf),.sl false 1 (x.Responses.map zaf)]
@[go_sem] theorem zxP{x:Proof}:za2 x=[.sl false 1 (x.Commits.map zaf),.sl false 1 (x.Challenges.map zaf),.sl false 1 (x.Responses.map zaf)]:=(rfl)
@[go_sem] theorem zme{l:List Proof}:List.map (List.map drop∘za2) l=l.map za2:=by refine List.map_congr_left fun x _=>?_;simp[go_sem]
@[go_sem] theorem zvt{l:List Proof}:List.map (List.map drop) (l.map za2)=l.map za2:=by rw[List.map_map];exact zme
@[go_sem] theorem zxg{l:List Proof}{Commits:(List Int)}{Challenges:(List Int)}{Responses:(List Int)}:(l.map za2).set i [.sl false 1 (Commits.map zaf),.sl false 1 (Challenges.map zaf),.sl false 1 (Responses.map zaf)]=(l.set i (Proof.mk Commits Challenges Responses)).map za2:=by rw[List.map_set];rfl
def zda(x:Proof):List PV:=[.sl true 1 (x.Commits.map zaf),.sl true 1 (x.Challenges.map zaf),.sl true 1 (x.Responses.map zaf)]
@[go_sem] theorem zxK{x:Proof}:zda x=[.sl true 1 (x.Commits.map zaf),.sl true 1 (x.Challenges.map zaf),.sl true 1 (x.Responses.map zaf)]:=(rfl)
@[go_sem] theorem zmE{l:List Proof}:List.map (List.map drop∘zda) l=l.map za2:=by refine List.map_congr_left fun x _=>?_;simp[go_sem]
@[go_sem] theorem zvs{l:List Proof}:List.map (List.map drop) (l.map zda)=l.map za2:=by rw[List.map_map];exact zmE
@[go_sem] theorem zxh{l:List Proof}{Commits:(List Int)}{Challenges:(List Int)}{Responses:(List Int)}:(l.map zda).set i [.sl true 1 (Commits.map zaf),.sl true 1 (Challenges.map zaf),.sl true 1 (Responses.map zaf)]=(l.set i (Proof.mk Commits Challenges Responses)).map zda:=by rw[List.map_set];rfl
def zcw(x:EqualLog):List PV:=[.int .i64 x.G1,.int .i64 x.Y1,.int .i64 x.G2,.int .i64 x.Y2]
@[go_sem] theorem zyC{x:EqualLog}:zcw x=[.int .i64 x.G1,.int .i64 x.Y1,.int .i64 x.G2,.int .i64 x.Y2]:=(rfl)
@[go_sem] theorem zm8{l:List EqualLog}:List.map (List.map drop∘zcw) l=l.map zcw:=by refine List.map_congr_left fun x _=>?_;simp[go_sem]
@[go_sem] theorem zwp{l:List EqualLog}:List.map (List.map drop) (l.map zcw)=l.map zcw:=by rw[List.map_map];exact zm8
@[go_sem] theorem zxq{l:List EqualLog}{G1:Int}{Y1:Int}{G2:Int}{Y2:Int}:(l.map zcw).set i [.int .i64 G1,.int .i64 Y1,.int .i64 G2,.int .i64 Y2]=(l.set i (EqualLog.mk G1 Y1 G2 Y2)).map zcw:=by rw[List.map_set];rfl
def vA(x:List Int):PV:=.sl false 1 (x.map zaf)
@[go_sem] theorem zUj :vA x=.sl false 1 (x.map zaf):=(rfl)
def vB(x:Proof):PV:=.agg [.sl false 1 (x.Commits.map zaf),.sl false 1 (x.Challenges.map zaf),.sl false 1 (x.Responses.map zaf)]
@[go_sem] theorem zSt{x:Proof}:vB x=.agg [.sl false 1 (x.Commits.map zaf),.sl false 1 (x.Challenges.map zaf),.sl false 1 (x.Responses.map zaf)]:=(rfl)
def vC(x:Entry):PV:=.agg [.int .i64 x.Kind,.int .i64 x.Author,.sl false 1 (x.Data.map zaf),.sl false 1 (x.Sign.Commits.map zaf),.sl false 1 (x.Sign.Challenges.map zaf),.sl false 1 (x.Sign.Responses.map zaf)]
@[go_sem] theorem zSA{x:Entry}:vC x=.agg [.int .i64 x.Kind,.int .i64 x.Author,.sl false 1 (x.Data.map zaf),.sl false 1 (x.Sign.Commits.map zaf),.sl false 1 (x.Sign.Challenges.map zaf),.sl false 1 (x.Sign.Responses.map zaf)]:=(rfl)
def vD(x:List Entry):PV:=.sl false 6 (x.map zby)
@[go_sem] theorem zSX{x:(List Entry)}:vD x=.sl false 6 (x.map zby):=(rfl)
def vE(x:Board):PV:=.agg [.sl false 1 (x.Keys.map zaf),.sl false 6 (x.Entries.map zby)]
@[go_sem] theorem zTj{x:Board}:vE x=.agg [.sl false 1 (x.Keys.map zaf),.sl false 6 (x.Entries.map zby)]:=(rfl)
def vF(x:Group):PV:=.agg [.int .i64 x.P,.int .i64 x.Q,.int .i64 x.G]
@[go_sem] theorem zUl{x:Group}:vF x=.agg [.int .i64 x.P,.int .i64 x.Q,.int .i64 x.G]:=(rfl)
def vG(x:List Int):PV:=.sl true 1 (x.map zaf)
@[go_sem] theorem zVj :vG x=.sl true 1 (x.map zaf):=(rfl)
def vH(x:Proof):PV:=.agg [.sl true 1 (x.Commits.map zaf),.sl true 1 (x.Challenges.map zaf),.sl true 1 (x.Responses.map zaf)]
@[go_sem] theorem zS8{x:Proof}:vH x=.agg [.sl true 1 (x.Commits.map zaf),.sl true 1 (x.Challenges.map zaf),.sl true 1 (x.Responses.map zaf)]:=(rfl)
def vI(x:Entry):PV:=.agg [.int .i64 x.Kind,.int .i64 x.Author,.sl true 1 (x.Data.map zaf),.sl true 1 (x.Sign.Commits.map zaf),.sl true 1 (x.Sign.Challenges.map zaf),.sl true 1 (x.Sign.Responses.map zaf)]
@[go_sem] theorem zSs{x:Entry}:vI x=.agg [.int .i64 x.Kind,.int .i64 x.Author,.sl true 1 (x.Data.map zaf),.sl true 1 (x.Sign.Commits.map zaf),.sl true 1 (x.Sign.Challenges.map zaf),.sl true 1 (x.Sign.Responses.map zaf)]:=(rfl)
def vJ(x:List Entry):PV:=.sl true 6 (x.map zbG)
@[go_sem] theorem zTn{x:(List Entry)}:vJ x=.sl true 6 (x.map zbG):=(rfl)
def vK(x:Board):PV:=.agg [.sl true 1 (x.Keys.map zaf),.sl true 6 (x.Entries.map zbG)]
@[go_sem] theorem zU1{x:Board}:vK x=.agg [.sl true 1 (x.Keys.map zaf),.sl true 6 (x.Entries.map zbG)]:=(rfl)
def vL(x0:Int)(x1:Int):PV:=.bx [.int .i64 x0,.int .i64 x1]
@[go_sem] theorem zSV{x0:Int}{x1:Int}:vL x0 x1=.bx [.int .i64 x0,.int .i64 x1]:=(rfl)
def vM(x:List Int):PV:=.sl true 1 (x.map zha)
@[go_sem] theorem zU5 :vM x=.sl true 1 (x.map zha):=(rfl)
def vN(x:(List (List Int))):PV:=.sl false 1 (x.map zd4)
@[go_sem] theorem zTl{x:(List (List Int))}:vN x=.sl false 1 (x.map zd4):=(rfl)
def vO(x:Contest):PV:=.agg [.int .i64 x.Kind,.int .i64 x.Options,.int .i64 x.Least,.int .i64 x.Most,.int .i64 x.Points]
@[go_sem] theorem zTo{x:Contest}:vO x=.agg [.int .i64 x.Kind,.int .i64 x.Options,.int .i64 x.Least,.int .i64 x.Most,.int .i64 x.Points]:=(rfl)
def vP(x:Bases):PV:=.agg [.int .i64 x.H,.sl true 1 (x.Hs.map zaf)]
@[go_sem] theorem zTC{x:Bases}:vP x=.agg [.int .i64 x.H,.sl true 1 (x.Hs.map zaf)]:=(rfl)
def vQ(x:Plan):PV:=.agg [.int .i64 x.Gr.P,.int .i64 x.Gr.Q,.int .i64 x.Gr.G,.int .i64 x.Ct.Kind,.int .i64 x.Ct.Options,.int .i64 x.Ct.Least,.int .i64 x.Ct.Most,.int .i64 x.Ct.Points,.int .i64 x.Threshold,.int .i64 x.Trustees,.int .i64 x.Mixers,.int .i64 x.Voters,.int .i64 x.Seed]
@[go_sem] theorem zTp{x:Plan}:vQ x=.agg [.int .i64 x.Gr.P,.int .i64 x.Gr.Q,.int .i64 x.Gr.G,.int .i64 x.Ct.Kind,.int .i64 x.Ct.Options,.int .i64 x.Ct.Least,.int .i64 x.Ct.Most,.int .i64 x.Ct.Points,.int .i64 x.Threshold,.int .i64 x.Trustees,.int .i64 x.Mixers,.int .i64 x.Voters,.int .i64 x.Seed]:=(rfl)
def vR(x:uX):PV:=.agg [.int .i64 x.p.Gr.P,.int .i64 x.p.Gr.Q,.int .i64 x.p.Gr.G,.int .i64 x.p.Ct.Kind,.int .i64 x.p.Ct.Options,.int .i64 x.p.Ct.Least,.int .i64 x.p.Ct.Most,.int .i64 x.p.Ct.Points,.int .i64 x.p.Threshold,.int .i64 x.p.Trustees,.int .i64 x.p.Mixers,.int .i64 x.p.Voters,.int .i64 x.p.Seed,.sl true 1 (x.commits.map zaf)]
@[go_sem] theorem zVk{x:uX}:vR x=.agg [.int .i64 x.p.Gr.P,.int .i64 x.p.Gr.Q,.int .i64 x.p.Gr.G,.int .i64 x.p.Ct.Kind,.int .i64 x.p.Ct.Options,.int .i64 x.p.Ct.Least,.int .i64 x.p.Ct.Most,.int .i64 x.p.Ct.Points,.int .i64 x.p.Threshold,.int .i64 x.p.Trustees,.int .i64 x.p.Mixers,.int .i64 x.p.Voters,.int .i64 x.p.Seed,.sl true 1 (x.commits.map zaf)]:=(rfl)
def vS(x:(List (List Int))):PV:=.sl true 1 (x.map zhB)
@[go_sem] theorem zS1{x:(List (List Int))}:vS x=.sl true 1 (x.map zhB):=(rfl)
def vT(x:List Cipher):PV:=.sl true 2 (x.map zch)
@[go_sem] theorem zS5{x:(List Cipher)}:vT x=.sl true 2 (x.map zch):=(rfl)
def vU(x:List Proof):PV:=.sl true 3 (x.map zda)
@[go_sem] theorem zUa{x:(List Proof)}:vU x=.sl true 3 (x.map zda):=(rfl)
def vV(x:Sealed):PV:=.agg [.int .i64 x.Voter,.sl true 2 (x.Ciphers.map zch),.sl true 3 (x.Proofs.map zda),.sl true 1 (x.Sum.Commits.map zaf),.sl true 1 (x.Sum.Challenges.map zaf),.sl true 1 (x.Sum.Responses.map zaf)]
@[go_sem] theorem zTW{x:Sealed}:vV x=.agg [.int .i64 x.Voter,.sl true 2 (x.Ciphers.map zch),.sl true 3 (x.Proofs.map zda),.sl true 1 (x.Sum.Commits.map zaf),.sl true 1 (x.Sum.Challenges.map zaf),.sl true 1 (x.Sum.Responses.map zaf)]:=(rfl)
def vW(x:List Cipher):PV:=.sl false 2 (x.map zch)
@[go_sem] theorem zSS{x:(List Cipher)}:vW x=.sl false 2 (x.map zch):=(rfl)
def vX(x:List Proof):PV:=.sl false 3 (x.map za2)
@[go_sem] theorem zTU{x:(List Proof)}:vX x=.sl false 3 (x.map za2):=(rfl)
def vY(x:List EqualLog):PV:=.sl true 4 (x.map zcw)
@[go_sem] theorem zTz{x:(List EqualLog)}:vY x=.sl true 4 (x.map zcw):=(rfl)
def vZ(x:Cipher):PV:=.agg [.int .i64 x.A,.int .i64 x.B]
@[go_sem] theorem zSF{x:Cipher}:vZ x=.agg [.int .i64 x.A,.int .i64 x.B]:=(rfl)
def vAA(x:List EqualLog):PV:=.sl false 4 (x.map zcw)
@[go_sem] theorem zQF{x:(List EqualLog)}:vAA x=.sl false 4 (x.map zcw):=(rfl)
def vAB(x:Sealed):PV:=.agg [.int .i64 x.Voter,.sl false 2 (x.Ciphers.map zch),.sl false 3 (x.Proofs.map za2),.sl false 1 (x.Sum.Commits.map zaf),.sl false 1 (x.Sum.Challenges.map zaf),.sl false 1 (x.Sum.Responses.map zaf)]
@[go_sem] theorem zPN{x:Sealed}:vAB x=.agg [.int .i64 x.Voter,.sl false 2 (x.Ciphers.map zch),.sl false 3 (x.Proofs.map za2),.sl false 1 (x.Sum.Commits.map zaf),.sl false 1 (x.Sum.Challenges.map zaf),.sl false 1 (x.Sum.Responses.map zaf)]:=(rfl)
def vAC(x:uX):PV:=.agg [.int .i64 x.p.Gr.P,.int .i64 x.p.Gr.Q,.int .i64 x.p.Gr.G,.int .i64 x.p.Ct.Kind,.int .i64 x.p.Ct.Options,.int .i64 x.p.Ct.Least,.int .i64 x.p.Ct.Most,.int .i64 x.p.Ct.Points,.int .i64 x.p.Threshold,.int .i64 x.p.Trustees,.int .i64 x.p.Mixers,.int .i64 x.p.Voters,.int .i64 x.p.Seed,.sl false 1 (x.commits.map zaf)]
@[go_sem] theorem zQu{x:uX}:vAC x=.agg [.int .i64 x.p.Gr.P,.int .i64 x.p.Gr.Q,.int .i64 x.p.Gr.G,.int .i64 x.p.Ct.Kind,.int .i64 x.p.Ct.Options,.int .i64 x.p.Ct.Least,.int .i64 x.p.Ct.Most,.int .i64 x.p.Ct.Points,.int .i64 x.p.Threshold,.int .i64 x.p.Trustees,.int .i64 x.p.Mixers,.int .i64 x.p.Voters,.int .i64 x.p.Seed,.sl false 1 (x.commits.map zaf)]:=(rfl)
def vAD(x:Opening):PV:=.agg [.int .i64 x.Ct.Kind,.int .i64 x.Ct.Options,.int .i64 x.Ct.Least,.int .i64 x.Ct.Most,.int .i64 x.Ct.Points,.int .i64 x.Threshold,.int .i64 x.Trustees,.int .i64 x.Mixers,.int .i64 x.Voters]
@[go_sem] theorem zQO{x:Opening}:vAD x=.agg [.int .i64 x.Ct.Kind,.int .i64 x.Ct.Options,.int .i64 x.Ct.Least,.int .i64 x.Ct.Most,.int .i64 x.Ct.Points,.int .i64 x.Threshold,.int .i64 x.Trustees,.int .i64 x.Mixers,.int .i64 x.Voters]:=(rfl)
def vAE(x0:List Int)(x1:Bool):PV:=.bx [.sl false 1 (x0.map zaf),.bool x1]
@[go_sem] theorem zQP{x0:(List Int)}{x1:Bool}:vAE x0 x1=.bx [.sl false 1 (x0.map zaf),.bool x1]:=(rfl)
def vAF(x:List Proof):PV:=.sl true 3 (x.map za2)
@[go_sem] theorem zP0{x:(List Proof)}:vAF x=.sl true 3 (x.map za2):=(rfl)
def vAG(x:(List (List Int))):PV:=.sl true 1 (x.map zd4)
@[go_sem] theorem zQb{x:(List (List Int))}:vAG x=.sl true 1 (x.map zd4):=(rfl)
def vAH(x:EqualLog):PV:=.agg [.int .i64 x.G1,.int .i64 x.Y1,.int .i64 x.G2,.int .i64 x.Y2]
@[go_sem] theorem zSe{x:EqualLog}:vAH x=.agg [.int .i64 x.G1,.int .i64 x.Y1,.int .i64 x.G2,.int .i64 x.Y2]:=(rfl)
def zcD(a0:List Int)(a1:Int):Option Int:=
 if decide ((i64.wrap (a1-(a0.length:Int)))<0)=true then(
 some (-1))else(
 some (i64.wrap (a1-(a0.length:Int))))
theorem zf8{a0 a1 r}(hr:zcD a0 a1=some r):PCalls Tryz.prog 18 [(.sh,vA a0),(.sh,.int .i64 a1)] (Eo (.int .i64 r) zak):=by
 apply pF 12 [] [] [] [.tmp 4] hr zHQ Tryz.func18;intro Φ hΦ hF g;unfold zcD at hF
 iterate 3 (try simp[go_sem,g];try intros;refine zap ?_)
 refine wI hF (fun h1 hF=>?_) fun h1 hF=>?_
 ·exact wl hΦ hF
 refine wW ?_;refine wK [4] ?_;exact wm hΦ hF
def zgZ(a0:Proof)(a1:Int):Option Int:=
 (zcD a0.Commits a1).bind fun z1=>
 if decide (z1<0)=true then(
 some (-1))else(
 (zcD a0.Challenges z1).bind fun z3=>
 if decide (z3<0)=true then(
 some (-1))else(
 (zcD a0.Responses z3).bind fun z5=>
 if decide (z5<0)=true then(
 some (-1))else(
 some z5)))
theorem zpK{a0 a1 r}(hr:zgZ a0 a1=some r):PCalls Tryz.prog 60 [(.sh,vB a0),(.sh,.int .i64 a1)] (Eo (.int .i64 r) zak):=by
 apply pF 24 [] [] [] [.tmp 4] hr zI2 Tryz.func60;intro Φ hΦ hF g;unfold zgZ at hF;refine wW ?_;refine wE hF zf8 fun z1 hF=>?_
 iterate 2 refine wW ?_
 refine wI hF (fun h2 hF=>?_) fun h2 hF=>?_
 ·refine wK [4] ?_;exact wm hΦ hF
 refine wW ?_;refine wE hF zf8 fun z3 hF=>?_
 refine wK [1,2] ?_;refine wW ?_;refine wI hF (fun h4 hF=>?_) fun h4 hF=>?_
 ·exact wl hΦ hF
 refine wW ?_;refine wE hF zf8 fun z5 hF=>?_
 iterate 2 refine wW ?_
 refine wI hF (fun h6 hF=>?_) fun h6 hF=>?_
 ·refine wK [4] ?_;exact wm hΦ hF
 refine wW ?_;refine wK [4] ?_;exact wm hΦ hF
def zg2(a0:Entry)(a1:Int):Option Int:=
 (zcD a0.Data a1).bind fun z1=>
 if decide (z1<0)=true then(
 some (-1))else(
 (zgZ a0.Sign z1).bind fun z3=>
 if decide (z3<0)=true then(
 some (-1))else(
 some z3))
theorem zpo{a0 a1 r}(hr:zg2 a0 a1=some r):PCalls Tryz.prog 35 [(.sh,vC a0),(.sh,.int .i64 a1)] (Eo (.int .i64 r) zak):=by
 apply pF 18 [] [] [] [.tmp 4] hr zG2 Tryz.func35;intro Φ hΦ hF g;unfold zg2 at hF;refine wW ?_;refine wE hF zf8 fun z1 hF=>?_
 iterate 2 refine wW ?_
 refine wI hF (fun h2 hF=>?_) fun h2 hF=>?_
 ·refine wK [4] ?_;exact wm hΦ hF
 refine wW ?_;refine wE hF zpK fun z3 hF=>?_
 refine wK [1] ?_;refine wW ?_;refine wI hF (fun h4 hF=>?_) fun h4 hF=>?_
 ·exact wl hΦ hF
 cases hΦ _ (zaa hF)
 iterate 2 refine wW ?_
 try simp[go_sem,g]
def zia(a0:List Entry)(a1:Int):Option Int:=
 if decide ((i64.wrap (a1-(a0.length:Int)))<0)=true then(
 some (-1))else(
 ((zax (σ:=Int×Int) (fun s5=>
 if decide (s5.2<(a0.length:Int))=true then(
 (ix a0 s5.2).bind fun x11=>
 (zg2 x11 s5.1).bind fun z12=>
 if decide (z12<0)=true then(
 some (.out (.inr (-1))))else(
 some (.go (z12,i64.wrap (s5.2+1)))))else(
 some (.out (.inl s5.1)))) (i64.wrap (a1-(a0.length:Int)),0):Option (Int ⊕ Int)).bind (Sum.elim (fun x4=>
 some x4) some)))
theorem zob{a0 a1 r}(hr:zia a0 a1=some r):PCalls Tryz.prog 19 [(.sh,vD a0),(.sh,.int .i64 a1)] (Eo (.int .i64 r) zak):=by
 apply pF 27 [] [] [] [.tmp 4] hr zHH Tryz.func19;intro Φ hΦ hF g;unfold zia at hF
 iterate 3 (try simp[go_sem,g];try intros;refine zap ?_)
 refine wI hF (fun h1 hF=>?_) fun h1 hF=>?_
 ·exact wl hΦ hF
 iterate 2 refine wW ?_
 refine wS hF (fun x4=>[(1,.v (.int .i64 x4))]) (fun x4 hF=>?_) fun _ hj2 hr3 hF=>?_
 ·refine wK [4] ?_;exact wm hΦ hF
 refine wB ?_;obtain⟨b14,hb15,hψ9⟩:=hF;refine pL hb15 (fun s5=>[(0,.v (vD a0)),(1,.v (.int .i64 s5.1)),(5,.v (.int .i64 s5.2))]) fun s5 _ _ ho7 hg8 hF=>?_
 try simp[go_sem,g]
 try intros
 refine wK [0,1,5,15] ?_;refine wI hF (fun h10 hF=>?_) fun h10 hF=>?_
 ·refine wW ?_;refine wB ?_;obtain⟨x11,g,hF⟩:=Rx g hF;refine wE hF zpo fun z12 hF=>?_
  iterate 2 refine wW ?_
  refine wI hF (fun h13 hF=>?_) fun h13 hF=>?_
  ·refine wK [4] ?_;cases ho7 _ (zaa hF);cases hΦ _ (hr3 _ hψ9);try simp[go_sem,g]
  refine wW ?_;exact wT (hg8 _) (zaa hF)
 cases ho7 _ (zaa hF);exact wT (hj2 _) hψ9
def zgQ(a0:Board)(a1:Int):Option Int:=
 (zcD a0.Keys a1).bind fun z1=>
 if decide (z1<0)=true then(
 some (-1))else(
 (zia a0.Entries z1).bind fun z3=>
 if decide (z3<0)=true then(
 some (-1))else(
 some z3))
theorem zo7{a0 a1 r}(hr:zgQ a0 a1=some r):PCalls Tryz.prog 5 [(.sh,vE a0),(.sh,.int .i64 a1)] (Eo (.int .i64 r) zak):=by
 apply pF 18 [] [] [] [.tmp 4] hr cl5 Tryz.func5;intro Φ hΦ hF g;unfold zgQ at hF;refine wW ?_;refine wE hF zf8 fun z1 hF=>?_
 iterate 2 refine wW ?_
 refine wI hF (fun h2 hF=>?_) fun h2 hF=>?_
 ·refine wK [4] ?_;exact wm hΦ hF
 refine wW ?_;refine wE hF zob fun z3 hF=>?_
 refine wK [1] ?_;refine wW ?_;refine wI hF (fun h4 hF=>?_) fun h4 hF=>?_
 ·exact wl hΦ hF
 cases hΦ _ (zaa hF)
 iterate 2 refine wW ?_
 try simp[go_sem,g]
def zeU(a0:Group):Option Group:=
 some a0
theorem ziy{a0 r}(hr:zeU a0=some r):PCalls Tryz.prog 16 [(.sh,vF a0)] (Eo (vF r) [.junk]):=by
 apply pF 14 [] [] [] [.cell 2 35] hr zKc Tryz.func16;intro Φ hΦ hF g;unfold zeU at hF
 iterate 3 refine wW ?_
 refine wK [1,2,3] ?_;cases hΦ _ (zaa hF)
 iterate 2 refine wW ?_
 try simp[go_sem,g]
def zdc(a0:List Int):Option ((List Int)):=
 gd (0≤(a0.length:Int)∧(a0.length:Int)≤(a0.length:Int)∧8*(a0.length:Int)≤140737488355328∧(a0.length:Int)≤4611686018427387904)<|
 (some (List.replicate a0.length 0)).bind fun x1=>
 ((zax (σ:=(List Int)×Int) (fun s15=>
 if decide (s15.2<(a0.length:Int))=true then(
 (ix a0 s15.2).bind fun x21=>
 (ix s15.1 s15.2).bind fun x22=>
 some (.go (s15.1.set s15.2.toNat x21,i64.wrap (s15.2+1))))else(
 some (.out s15.1))) (x1,0):Option ((List Int))).bind fun x6=>
 some x6)
theorem zf1{a0 r}(hr:zdc a0=some r):PCalls Tryz.prog 23 [(.sh,vA a0)] (Eo (vG r) [.junk]):=by
 apply pF 22 [] [] [] [.tmp 2] hr zHh Tryz.func23;intro Φ hΦ hF g;unfold zdc at hF;obtain⟨g,hF⟩:=Rg g hF;obtain⟨x1,e2,hF⟩:=zdL hF;have g3:List.replicate a0.length ([.int .i64 0]:List PV)=x1.map zaf:=by injection e2 with e2;rw[←e2];simp[go_sem]
 iterate 3 (try simp[go_sem,g,g3];try intros;refine zap ?_)
 refine wJ hF (fun x6=>[(3,.v (vG x6))]) (fun x6 hF=>?_) fun _ hj4 hF=>?_
 ·exact wl hΦ hF
 refine wB ?_;obtain⟨b23,hb24,hψ19⟩:=hF;refine pL hb24 (fun s15=>[(0,.v (vA a0)),(3,.v (vG s15.1)),(4,.v (.int .i64 s15.2))]) fun s15 _ _ ho17 hg18 hF=>?_
 try simp[go_sem,g]
 try intros
 refine wK [0,3,4,11] ?_;refine wI hF (fun h20 hF=>?_) fun h20 hF=>?_
 ·refine wW ?_;refine wB ?_;obtain⟨x21,g,hF⟩:=Rx g hF;obtain⟨x22,g,hF⟩:=Rx g hF;refine wW ?_;exact wT (hg18 _) (zaa hF)
 cases ho17 _ (zaa hF);exact wT (hj4 _) hψ19
def zfE(a0:Proof):Option Proof:=
 (zdc a0.Commits).bind fun z1=>
 (zdc a0.Challenges).bind fun z2=>
 (zdc a0.Responses).bind fun z3=>
 some (Proof.mk z1 z2 z3)
theorem zpc{a0 r}(hr:zfE a0=some r):PCalls Tryz.prog 74 [(.sh,vB a0)] (Eo (vH r) [.junk]):=by
 apply pF 17 [] [] [] [.cell 2 82] hr zKZ Tryz.func74;intro Φ hΦ hF g;unfold zfE at hF
 iterate 2 refine wW ?_
 refine wE hF zf1 fun z1 hF=>?_
 refine wW ?_;refine wE hF zf1 fun z2 hF=>?_
 refine wK [1,2,3] ?_;refine wE hF zf1 fun z3 hF=>?_
 cases hΦ _ (zaa hF)
 iterate 2 refine wW ?_
 try simp[go_sem,g]
def zfL(a0:Entry):Option Entry:=
 (zdc a0.Data).bind fun z1=>
 (zfE a0.Sign).bind fun z2=>
 some (Entry.mk a0.Kind a0.Author z1 z2)
theorem zo1{a0 r}(hr:zfL a0=some r):PCalls Tryz.prog 41 [(.sh,vC a0)] (Eo (vI r) [.junk]):=by
 apply pF 19 [] [] [] [.cell 2 84] hr zIe Tryz.func41;intro Φ hΦ hF g;unfold zfL at hF
 iterate 3 refine wW ?_
 refine wK [1,2,3] ?_;refine wE hF zf1 fun z1 hF=>?_
 refine wW ?_;refine wE hF zpc fun z2 hF=>?_
 refine wK [2,3] ?_;exact wl hΦ hF
def zgm(a0:List Entry):Option ((List Entry)):=
 gd (0≤(a0.length:Int)∧(a0.length:Int)≤(a0.length:Int)∧112*(a0.length:Int)≤140737488355328∧(a0.length:Int)≤4611686018427387904)<|
 (some (List.replicate a0.length (Entry.mk 0 0 [] (Proof.mk [] [] [])))).bind fun x1=>
 ((zax (σ:=(List Entry)×Int) (fun s16=>
 if decide (s16.2<(a0.length:Int))=true then(
 (ix a0 s16.2).bind fun x22=>
 (zfL x22).bind fun z23=>
 (ix s16.1 s16.2).bind fun x24=>
 some (.go (s16.1.set s16.2.toNat z23,i64.wrap (s16.2+1))))else(
 some (.out s16.1))) (x1,0):Option ((List Entry))).bind fun x6=>
 some x6)
theorem zn8{a0 r}(hr:zgm a0=some r):PCalls Tryz.prog 24 [(.sh,vD a0)] (Eo (vJ r) [.junk]):=by
 apply pF 23 [] [30] [] [.tmp 2] hr zHl Tryz.func24;intro Φ hΦ hF g;unfold zgm at hF;obtain⟨g,hF⟩:=Rg g hF;obtain⟨x1,e2,hF⟩:=zdL hF;have g3:List.replicate a0.length ([.int .i64 0,.int .i64 0,.sl true 1 [],.sl true 1 [],.sl true 1 [],.sl true 1 []]:List PV)=x1.map zbG:=by injection e2 with e2;rw[←e2];simp[go_sem]
 iterate 3 (try simp[go_sem,g,g3];try intros;refine zap ?_)
 refine wJ hF (fun x6=>[(3,.v (vJ x6))]) (fun x6 hF=>?_) fun _ hj4 hF=>?_
 ·exact wl hΦ hF
 refine wB ?_;obtain⟨b25,hb26,hψ20⟩:=hF;refine pL hb26 (fun s16=>[(0,.v (vD a0)),(3,.v (vJ s16.1)),(4,.v (.int .i64 s16.2))]) fun s16 _ _ ho18 hg19 hF=>?_
 try simp[go_sem,g]
 try intros
 refine wK [0,3,4,11] ?_;refine wI hF (fun h21 hF=>?_) fun h21 hF=>?_
 ·refine wW ?_;refine wB ?_;obtain⟨x22,g,hF⟩:=Rx g hF;refine wE hF zo1 fun z23 hF=>?_
  obtain⟨x24,g,hF⟩:=Rx g hF;refine wW ?_;exact wT (hg19 _) (zaa hF)
 cases ho18 _ (zaa hF);exact wT (hj4 _) hψ20
def zdl(a0:Board):Option Board:=
 (zdc a0.Keys).bind fun z1=>
 (zgm a0.Entries).bind fun z2=>
 some (Board.mk z1 z2)
theorem zgS{a0 r}(hr:zdl a0=some r):PCalls Tryz.prog 8 [(.sh,vE a0)] (Eo (vK r) [.junk]):=by
 apply pF 13 [] [] [] [.cell 2 42] hr cl8 Tryz.func8;intro Φ hΦ hF g;unfold zdl at hF
 iterate 2 refine wW ?_
 refine wE hF zf1 fun z1 hF=>?_
 refine wW ?_;refine wE hF zn8 fun z2 hF=>?_
 refine wK [2,3] ?_;exact wl hΦ hF
def zaV(a0:Int)(a1:Int)(a2:Int):Option Bool:=
 ((if decide (a1≤a0)=true then(
 some (decide (a0≤a2)))else(
 some false):Option Bool).bind fun x3=>
 some x3)
theorem zbh{a0 a1 a2 r}(hr:zaV a0 a1 a2=some r):PCalls Tryz.prog 62 [(.sh,.int .i64 a0),(.sh,.int .i64 a1),(.sh,.int .i64 a2)] (Eo (.bool r) zcj):=by
 apply pF 15 [] [] [] [.tmp 6] hr zIT Tryz.func62;intro Φ hΦ hF g;unfold zaV at hF;refine wW ?_;refine wJ hF (fun x3=>[(6,.v (.bool x3))]) (fun x3 hF=>?_) fun _ hj1 hF=>?_
 ·exact wm hΦ hF
 refine wG hF (fun h4 hF=>?_) fun h4 hF=>?_
 ·exact wV h4 (hj1 _) (zaa hF)
 exact wV h4 (hj1 _) (zaa hF)
def zcC(a0:Int)(a1:Int)(a2:Int):Option Int:=
 gd (a2≠0)<|
 ((zax (σ:=Int×Int×Int) (fun s4=>
 if decide (0<s4.2.1)=true then(
 ((if((s4.2.1.tmod 2)==1)=true then(
 gd (a2≠0)<|
 some ((i64.wrap (s4.2.2*s4.1)).tmod a2))else(
 some s4.2.2):Option Int).bind fun x12=>
 gd (a2≠0)<|
 some (.go ((i64.wrap (s4.1*s4.1)).tmod a2,i64.wrap (s4.2.1.tdiv 2),x12))))else(
 some (.out s4.2.2))) (a0,a1,(1:Int).tmod a2):Option Int).bind fun x3=>
 some x3)
theorem zho{a0 a1 a2 r}(hr:zcC a0 a1 a2=some r):PCalls Tryz.prog 103 [(.sh,.int .i64 a0),(.sh,.int .i64 a1),(.sh,.int .i64 a2)] (Eo (.int .i64 r) zcj):=by
 apply pF 28 [] [] [] [.tmp 6] hr zEx Tryz.func103;intro Φ hΦ hF g;unfold zcC at hF;obtain⟨g,hF⟩:=Rz g hF
 iterate 2 refine wW ?_
 refine wJ hF (fun x3=>[(7,.v (.int .i64 x3))]) (fun x3 hF=>?_) fun _ hj1 hF=>?_
 ·exact wl hΦ hF
 refine wB ?_;obtain⟨b14,hb15,hψ8⟩:=hF;refine pL hb15 (fun s4=>[(0,.v (.int .i64 s4.1)),(1,.v (.int .i64 s4.2.1)),(2,.v (.int .i64 a2)),(7,.v (.int .i64 s4.2.2))]) fun s4 _ _ ho6 hg7 hF=>?_
 refine wW ?_;refine wI hF (fun h9 hF=>?_) fun h9 hF=>?_
 ·refine wW ?_;refine wB ?_;have g:=Ld g 2;refine wW ?_;refine wJK hF [0,1,2] (fun x12=>[(7,.v (.int .i64 x12))]) (fun x12 hF=>?_) fun _ hj10 hF=>?_
  ·obtain⟨g,hF⟩:=Rz g hF;refine wK [0,1,2,7] ?_;exact wT (hg7 _) (zaa hF)
  refine wI hF (fun h13 hF=>?_) fun h13 hF=>?_
  ·obtain⟨g,hF⟩:=Rz g hF;exact wT (hj10 _) (zaa hF)
  exact wT (hj10 _) (zaa hF)
 cases ho6 _ (zaa hF);exact wT (hj1 _) hψ8
def zfk(a0:Int):Option Bool:=
 if decide (a0<2)=true then(
 some false)else(
 ((zax (σ:=Int) (fun s5=>
 if decide ((i64.wrap (s5*s5))≤a0)=true then(
 gd (s5≠0)<|
 if((a0.tmod s5)==0)=true then(
 some (.out (.inr false)))else(
 some (.go (i64.wrap (s5+1)))))else(
 some (.out (.inl ())))) 2:Option (Unit ⊕ Bool)).bind (Sum.elim (fun x4=>
 some true) some)))
theorem zlC{a0 r}(hr:zfk a0=some r):PCalls Tryz.prog 144 [(.sh,.int .i64 a0)] (Eo (.bool r) [.junk]):=by
 apply pF 17 [] [] [] [.tmp 2] hr zEl Tryz.func144;intro Φ hΦ hF g;unfold zfk at hF
 iterate 2 refine wW ?_
 refine wI hF (fun h1 hF=>?_) fun h1 hF=>?_
 ·exact wl hΦ hF
 iterate 2 refine wW ?_
 refine wS hF (fun x4=>[]) (fun x4 hF=>?_) fun _ hj2 hr3 hF=>?_
 ·exact wl hΦ hF
 refine wB ?_;obtain⟨b12,hb13,hψ9⟩:=hF;refine pL hb13 (fun s5=>[(0,.v (.int .i64 a0)),(3,.v (.int .i64 s5))]) fun s5 _ _ ho7 hg8 hF=>?_
 refine wW ?_;refine wI hF (fun h10 hF=>?_) fun h10 hF=>?_
 ·refine wW ?_;refine wB ?_;obtain⟨g,hF⟩:=Rz g hF;refine wK [0,3,16] ?_;refine wI hF (fun h11 hF=>?_) fun h11 hF=>?_
  ·cases ho7 _ (zaa hF);cases hΦ _ (hr3 _ hψ9);refine wW ?_;try simp[go_sem,g]
  refine wW ?_;exact wT (hg8 _) (zaa hF)
 cases ho7 _ (zaa hF);exact wT (hj2 _) hψ9
def zdb(a0:Group):Option Bool:=
 (((zaV a0.P 3 2000000000).bind fun z4=>
 if z4=true then(
 (zaV a0.Q 2 (i64.wrap (a0.P-1))).bind fun z6=>
 if z6=true then(
 gd (a0.Q≠0)<|
 if(((i64.wrap (a0.P-1)).tmod a0.Q)==0)=true then(
 (zaV a0.G 2 (i64.wrap (a0.P-1))).bind fun z9=>
 if z9=true then(
 (zcC a0.G a0.Q a0.P).bind fun z11=>
 if(z11==1)=true then(
 (zfk a0.Q).bind fun z13=>
 if z13=true then(
 (zfk a0.P).bind fun z15=>
 some z15)else(
 some false))else(
 some false))else(
 some false))else(
 some false))else(
 some false))else(
 some false):Option Bool).bind fun x3=>
 some x3)
theorem zga{a0 r}(hr:zdb a0=some r):PCalls Tryz.prog 91 [(.sh,vF a0)] (Eo (.bool r) [.junk]):=by
 apply pF 51 [] [] [] [.tmp 2] hr zKf Tryz.func91;intro Φ hΦ hF g;unfold zdb at hF;refine wW ?_;refine wJ hF (fun x3=>[(2,.v (.bool x3))]) (fun x3 hF=>?_) fun _ hj1 hF=>?_
 ·exact wm hΦ hF
 refine wE hF zbh fun z4 hF=>?_
 refine wG hF (fun h5 hF=>?_) fun h5 hF=>?_
 ·try simp[go_sem,g,h5]
  refine wE hF zbh fun z6 hF=>?_
  try simp[go_sem,g,h5]
  refine wG hF (fun h7 hF=>?_) fun h7 hF=>?_
  ·obtain⟨g,hF⟩:=Rz g hF;try simp[go_sem,g,h7]
   refine wG hF (fun h8 hF=>?_) fun h8 hF=>?_
   ·try simp[go_sem,g,h8]
    refine wE hF zbh fun z9 hF=>?_
    try simp[go_sem,g,h8]
    refine wG hF (fun h10 hF=>?_) fun h10 hF=>?_
    ·try simp[go_sem,g,h10]
     refine wE hF zho fun z11 hF=>?_
     try simp[go_sem,g,h10]
     refine wG hF (fun h12 hF=>?_) fun h12 hF=>?_
     ·try simp[go_sem,g,h12]
      refine wE hF zlC fun z13 hF=>?_
      try simp[go_sem,g,h12]
      refine wG hF (fun h14 hF=>?_) fun h14 hF=>?_
      ·try simp[go_sem,g,h14]
       refine wE hF zlC fun z15 hF=>?_
       exact wV h14 (hj1 _) (zaa hF)
      exact wV h14 (hj1 _) (zaa hF)
     exact wV h12 (hj1 _) (zaa hF)
    exact wV h10 (hj1 _) (zaa hF)
   exact wV h8 (hj1 _) (zaa hF)
  exact wV h7 (hj1 _) (zaa hF)
 exact wV h5 (hj1 _) (zaa hF)
def zed(a0:Group)(a1:List Int):Option Bool:=
 ((zau (σ:=Unit) (fun i5 s4=>
 (ix a1 i5).bind fun x11=>
 (((zaV x11 1 (i64.wrap (a0.P-1))).bind fun z15=>
 if(!z15)=true then(
 some true)else(
 (zcC x11 a0.Q a0.P).bind fun z17=>
 some (z17 !=1)):Option Bool).bind fun x14=>
 if x14=true then(
 some (.out (.inr false)))else(
 some (.go ())))) (fun s4=>.inl ()) (a1.length) 0 ():Option (Unit ⊕ Bool)).bind (Sum.elim (fun x3=>
 some true) some))
theorem zh2{a0 a1 r}(hr:zed a0 a1=some r):PCalls Tryz.prog 67 [(.sh,vF a0),(.sh,vA a1)] (Eo (.bool r) zak):=by
 apply pF 29 [] [] [] [.tmp 4] hr zK3 Tryz.func67;intro Φ hΦ hF g;unfold zed at hF
 iterate 2 (try simp[go_sem,g];try intros;refine zap ?_)
 refine wS hF (fun x3=>[]) (fun x3 hF=>?_) fun _ hj1 hr2 hF=>?_
 ·exact wl hΦ hF
 refine wB ?_;obtain⟨b19,hb20,hψ8⟩:=hF;refine pRK hb20 [2,7,8] (fun i5 s4=>[(9,.v (.int .i64 i5))]) (fun s4 _ hN21=>?_) fun i5 s4 _ _ hi9 hi10 ho6 hg7 hF=>?_
 ·exact wn hN21 (hj1 _) hψ8
 refine wW ?_;refine wu hi9 hi10 ?_;refine wW ?_;refine wB ?_;obtain⟨x11,g,hF⟩:=Rx g hF;refine wW ?_;refine wJK hF [2,7,8,9] (fun x14=>[(27,.v (.bool x14))]) (fun x14 hF=>?_) fun _ hj12 hF=>?_
 ·refine wI hF (fun h18 hF=>?_) fun h18 hF=>?_
  ·refine wK [4] ?_;cases ho6 _ (zaa hF);cases hΦ _ (hr2 _ hψ8);try simp[go_sem,g]
  refine wW ?_;exact wi hi9 hi10 (hg7 _) (zaa hF)
 refine wE hF zbh fun z15 hF=>?_
 refine wG hF (fun h16 hF=>?_) fun h16 hF=>?_
 ·exact wV h16 (hj12 _) (zaa hF)
 try simp[go_sem,g,h16]
 refine wE hF zho fun z17 hF=>?_
 exact wV h16 (hj12 _) (zaa hF)
def zej(a0:List Int)(a1:Int)(a2:Int):Option Bool:=
 ((zau (σ:=Unit) (fun i5 s4=>
 (ix a0 i5).bind fun x11=>
 (zaV x11 a1 a2).bind fun z12=>
 if(!z12)=true then(
 some (.out (.inr false)))else(
 some (.go ()))) (fun s4=>.inl ()) (a0.length) 0 ():Option (Unit ⊕ Bool)).bind (Sum.elim (fun x3=>
 some true) some))
theorem zjN{a0 a1 a2 r}(hr:zej a0 a1 a2=some r):PCalls Tryz.prog 150 [(.sh,vA a0),(.sh,.int .i64 a1),(.sh,.int .i64 a2)] (Eo (.bool r) zcj):=by
 apply pF 21 [] [] [] [.tmp 6] hr zEk Tryz.func150;intro Φ hΦ hF g;unfold zej at hF
 iterate 2 (try simp[go_sem,g];try intros;refine zap ?_)
 refine wS hF (fun x3=>[]) (fun x3 hF=>?_) fun _ hj1 hr2 hF=>?_
 ·exact wl hΦ hF
 refine wB ?_;obtain⟨b14,hb15,hψ8⟩:=hF;refine pRK hb15 [1,2,9,10] (fun i5 s4=>[(11,.v (.int .i64 i5))]) (fun s4 _ hN16=>?_) fun i5 s4 _ _ hi9 hi10 ho6 hg7 hF=>?_
 ·exact wn hN16 (hj1 _) hψ8
 refine wW ?_;refine wu hi9 hi10 ?_;refine wW ?_;refine wB ?_;obtain⟨x11,g,hF⟩:=Rx g hF;refine wW ?_;refine wE hF zbh fun z12 hF=>?_
 refine wK [1,2,9,10,11,19] ?_;refine wI hF (fun h13 hF=>?_) fun h13 hF=>?_
 ·cases ho6 _ (zaa hF);cases hΦ _ (hr2 _ hψ8);refine wW ?_;try simp[go_sem,g]
 refine wW ?_;exact wi hi9 hi10 (hg7 _) (zaa hF)
def zf7(a0:Entry):Option Bool:=
 (((zaV a0.Kind 1 9).bind fun z4=>
 if z4=true then(
 (zaV a0.Author 0 39).bind fun z6=>
 if z6=true then(
 if decide ((a0.Data.length:Int)≤380)=true then(
 (zej a0.Data 0 4611686018427387903).bind fun z9=>
 some z9)else(
 some false))else(
 some false))else(
 some false):Option Bool).bind fun x3=>
 some x3)
theorem zqu{a0 r}(hr:zf7 a0=some r):PCalls Tryz.prog 104 [(.sh,vC a0)] (Eo (.bool r) [.junk]):=by
 apply pF 22 [] [] [] [.tmp 2] hr zET Tryz.func104;intro Φ hΦ hF g;unfold zf7 at hF;refine wW ?_;refine wJ hF (fun x3=>[(2,.v (.bool x3))]) (fun x3 hF=>?_) fun _ hj1 hF=>?_
 ·exact wm hΦ hF
 refine wE hF zbh fun z4 hF=>?_
 refine wG hF (fun h5 hF=>?_) fun h5 hF=>?_
 ·try simp[go_sem,g,h5]
  refine wE hF zbh fun z6 hF=>?_
  try simp[go_sem,g,h5]
  refine wG hF (fun h7 hF=>?_) fun h7 hF=>?_
  ·try simp[go_sem,g,h7]
   try intros
   refine wG hF (fun h8 hF=>?_) fun h8 hF=>?_
   ·try simp[go_sem,g,h8]
    refine wE hF zjN fun z9 hF=>?_
    exact wV h8 (hj1 _) (zaa hF)
   exact wV h8 (hj1 _) (zaa hF)
  exact wV h7 (hj1 _) (zaa hF)
 exact wV h5 (hj1 _) (zaa hF)
def zf5(a0:ByteArray)(a1:List Int):Option ((List Int)):=
 ((zax (σ:=(List Int)×Int) (fun s4=>
 if decide (s4.2<(a0.size:Int))=true then(
 (ixs a0 s4.2).bind fun x10=>
 gd ((s4.1.length+1)*8≤140737488355328∧s4.1.length+1≤4611686018427387904)<|
 some (.go (s4.1++[i64.wrap x10],i64.wrap (s4.2+1))))else(
 some (.out s4.1))) ([(a0.size:Int)],0):Option ((List Int))).bind fun x3=>
 gd ((x3.length+a1.length)*8≤140737488355328∧x3.length+a1.length≤4611686018427387904)<|
 some (x3++a1))
theorem zqE{a0 a1 r}(hr:zf5 a0 a1=some r):PCalls Tryz.prog 207 [(.sh,.str a0),(.sh,vA a1)] (Eo (vG r) zak):=by
 apply pF 26 [] [] [] [.tmp 4] hr zC6 Tryz.func207;intro Φ hΦ hF g;unfold zf5 at hF
 iterate 3 refine wW ?_
 refine wJ hF (fun x3=>[(1,.v (vA a1)),(5,.v (vG x3))]) (fun x3 hF=>?_) fun _ hj1 hF=>?_
 ·obtain⟨g,hF⟩:=Rg g hF;refine wK [4] ?_;exact wm hΦ hF
 refine wB ?_;obtain⟨b11,hb12,hψ8⟩:=hF;refine pLK hb12 [0,1] (fun s4=>[(5,.v (vG s4.1)),(6,.v (.int .i64 s4.2))]) fun s4 _ _ ho6 hg7 hF=>?_
 refine wK [0,1,5,6,13] ?_;refine wI hF (fun h9 hF=>?_) fun h9 hF=>?_
 ·refine wW ?_;refine wB ?_;obtain⟨x10,g,hF⟩:=Rxs g hF;obtain⟨g,hF⟩:=Rg g hF;refine wW ?_;exact wT (hg7 _) (zaa hF)
 cases ho6 _ (zaa hF);exact wT (hj1 _) hψ8
def zbF(a0c0:Int)(a0c1:Int)(a1:Int):Option ((Int×Int)):=
 (some [a1.tmod 2147483648,i64.wrap (a1.tdiv 2147483648)]).bind fun x1=>
 zax (σ:=(Int×Int)×Int) (fun s10=>
 if decide (s10.2<(x1.length:Int))=true then(
 (ix x1 s10.2).bind fun x16=>
 some (.go (((i64.wrap ((i64.wrap ((i64.wrap (48271*s10.1.1))+x16))+1)).tmod 2147483647,(i64.wrap ((i64.wrap ((i64.wrap (69621*s10.1.2))+x16))+1)).tmod 2147483647),i64.wrap (s10.2+1))))else(
 some (.out (s10.1.1,s10.1.2)))) ((a0c0,a0c1),0)
theorem zf0{a0c0 a0c1 a1 r}(hr:zbF a0c0 a0c1 a1=some r):PCalls Tryz.prog 209 [(.io,vL a0c0 a0c1),(.sh,.int .i64 a1)] (Eo (.junk) [vL r.1 r.2,.junk]):=by
 apply pF 41 [0] [] [] [] hr zEm Tryz.func209;intro Φ hΦ hF g;unfold zbF at hF;have g:=Ld g 2147483648;obtain⟨x1,e2,hF⟩:=zdL hF;have g:=And.intro g (show[[.int .i64 (a1.tmod 2147483648)],[.int .i64 (i64.wrap (a1.tdiv 2147483648))]]=x1.map zaf by injection e2 with e2;rw[←e2];simp[go_sem]);try simp[go_sem,g]
 try intros
 refine zap ?_;refine wB ?_;obtain⟨b17,hb18,hψ14⟩:=hF;refine pLK hb18 [10,11] (fun s10=>[(0,.v (vL s10.1.1 s10.1.2)),(12,.v (.int .i64 s10.2))]) fun s10 _ _ ho12 hg13 hF=>?_
 refine wW ?_;refine wI hF (fun h15 hF=>?_) fun h15 hF=>?_
 ·refine wW ?_;refine wB ?_;obtain⟨x16,g,hF⟩:=Rx g hF;refine wK [0,5,10,11,12] ?_;have g:=Ld g 2147483647;refine wK [0,5,10,11,12] ?_;refine wK [0,10,11,12] ?_;exact wT (hg13 _) (zaa hF)
 cases ho12 _ (zaa hF);cases hΦ _ hψ14;try simp[go_sem,g]
def zgL(a0:List Int):Option Int:=
 (zbF 1 2 (a0.length:Int)).bind fun z1=>
 ((zau (σ:=(Int×Int)) (fun i15 s14=>
 (ix a0 i15).bind fun x21=>
 (zbF s14.1 s14.2 x21).bind fun z22=>
 some (.go (z22.1,z22.2))) (fun s14=>(s14.1,s14.2)) (a0.length) 0 (z1.1,z1.2):Option ((Int×Int))).bind fun x4=>
 some (i64.wrap ((i64.wrap (x4.1*2147483648))+x4.2)))
theorem zrc{a0 r}(hr:zgL a0=some r):PCalls Tryz.prog 206 [(.sh,vA a0)] (Eo (.int .i64 r) [.junk]):=by
 apply pF 32 [] [] [7] [.tmp 2] hr zCF Tryz.func206;intro Φ hΦ hF g;unfold zgL at hF
 iterate 2 (try simp[go_sem,g];try intros;refine zap ?_)
 try simp[go_sem,g]
 try intros
 refine wC hF [.io,.sh] zf0 fun z1 hF=>?_
 try simp[go_sem,g]
 try intros
 refine zap ?_;try simp[go_sem,g]
 try intros
 refine wK [3,12,13,14] ?_;refine wJ hF (fun x4=>[(3,.v (vL x4.1 x4.2))]) (fun x4 hF=>?_) fun _ hj2 hF=>?_
 ·refine wZ [k0 0,k0 1,k0 2,k0 3,k0 4,k0 5,k0 6,k0 7,k0 8,k0 9,k0 10] follows ?_;refine wK [2] ?_;exact wm hΦ hF
 refine wB ?_;obtain⟨b23,hb24,hψ18⟩:=hF;refine pRK hb24 [12,13] (fun i15 s14=>[(3,.v (vL s14.1 s14.2)),(14,.v (.int .i64 i15))]) (fun s14 _ hN25=>?_) fun i15 s14 _ _ hi19 hi20 ho16 hg17 hF=>?_
 ·exact wn hN25 (hj2 _) hψ18
 refine wW ?_;refine wu hi19 hi20 ?_;refine wW ?_;refine wB ?_;obtain⟨x21,g,hF⟩:=Rx g hF;refine wW ?_;refine wC hF [.io,.sh] zf0 fun z22 hF=>?_
 refine wW ?_;exact wi hi19 hi20 (hg17 _) (zaa hF)
def zdi(a0:ByteArray)(a1:List Int):Option Int:=
 (zf5 a0 a1).bind fun z1=>
 (zgL z1).bind fun z2=>
 some z2
theorem zhA{a0 a1 r}(hr:zdi a0 a1=some r):PCalls Tryz.prog 193 [(.sh,.str a0),(.sh,vA a1)] (Eo (.int .i64 r) zak):=by
 apply pF 9 [] [] [] [.tmp 4] hr zDK Tryz.func193;intro Φ hΦ hF g;unfold zdi at hF;refine wW ?_;refine wE hF zqE fun z1 hF=>?_
 refine wE hF zrc fun z2 hF=>?_
 exact wl hΦ hF
def zfM(a0:Entry)(a1:Int):Option Int:=
 gd (([a0.Kind,a0.Author,a1].length+a0.Data.length)*8≤140737488355328∧[a0.Kind,a0.Author,a1].length+a0.Data.length≤4611686018427387904)<|
 (zdi (⟨#[101,110,116,114,121]⟩:ByteArray) ([a0.Kind,a0.Author,a1]++a0.Data)).bind fun z1=>
 some z1
theorem zpu{a0 a1 r}(hr:zfM a0 a1=some r):PCalls Tryz.prog 152 [(.sh,vC a0),(.sh,.int .i64 a1)] (Eo (.int .i64 r) zak):=by
 apply pF 15 [] [] [] [.tmp 4] hr zEg Tryz.func152;intro Φ hΦ hF g;unfold zfM at hF;obtain⟨g,hF⟩:=Rg g hF;refine wW ?_;refine wE hF zhA fun z1 hF=>?_
 refine wK [4] ?_;exact wm hΦ hF
def zdI(a0:Int):Option Bool:=
 (zaV a0 0 4611686018427387903).bind fun z1=>
 some z1
theorem zie{a0 r}(hr:zdI a0=some r):PCalls Tryz.prog 63 [(.sh,.int .i64 a0)] (Eo (.bool r) [.junk]):=by
 apply pF 5 [] [] [] [.tmp 2] hr zIr Tryz.func63;intro Φ hΦ hF g;unfold zdI at hF;refine wW ?_;refine wE hF zbh fun z1 hF=>?_
 exact wl hΦ hF
def zeE(a0:Int):Option (ByteArray×Bool):=
 (zdI a0).bind fun z1=>
 if(!z1)=true then(
 some ((⟨#[]⟩:ByteArray),false))else(
 gd (0≤16∧16≤16∧1*16≤140737488355328∧16≤4611686018427387904)<|
 (some (List.replicate 16 0)).bind fun x3=>
 ((zax (σ:=Int×List Int×Int) (fun s17=>
 if decide (0≤s17.2.2)=true then(
 (ixs (⟨#[48,49,50,51,52,53,54,55,56,57,97,98,99,100,101,102]⟩:ByteArray) (s17.1.tmod 16)).bind fun x23=>
 (ix s17.2.1 s17.2.2).bind fun x24=>
 some (.go (i64.wrap (s17.1.tdiv 16),s17.2.1.set s17.2.2.toNat x23,i64.wrap (s17.2.2-1))))else(
 some (.out s17.2.1))) (a0,x3,15):Option ((List Int))).bind fun x8=>
 some ((zcY x8),true)))
theorem zm5{a0 r}(hr:zeE a0=some r):PCalls Tryz.prog 194 [(.sh,.int .i64 a0)] (Eo (.tup [.str r.1,.bool r.2]) [.junk]):=by
 apply pF 24 [] [] [1000000] [.tmp 2,.tmp 3] hr zFb Tryz.func194;intro Φ hΦ hF g;unfold zeE at hF;refine wW ?_;refine wE hF zie fun z1 hF=>?_
 refine wW ?_;refine wI hF (fun h2 hF=>?_) fun h2 hF=>?_
 ·exact wl hΦ hF
 obtain⟨g,hF⟩:=Rg g hF;obtain⟨x3,e4,hF⟩:=zdL hF;have g5:List.replicate 16 ([.int .u8 0]:List PV)=x3.map zha:=by injection e4 with e4;rw[←e4];simp[go_sem]
 have g5b:=g5;try simp at g5b
 iterate 3 (try simp[go_sem,g,g5,g5b];refine zap ?_)
 refine wJ hF (fun x8=>[(4,.v (vM x8))]) (fun x8 hF=>?_) fun _ hj6 hF=>?_
 ·refine wK [2,3] ?_;exact wm hΦ hF
 refine wB ?_;obtain⟨b25,hb26,hψ21⟩:=hF;refine pL hb26 (fun s17=>[(0,.v (.int .i64 s17.1)),(4,.v (vM s17.2.1)),(5,.v (.int .i64 s17.2.2))]) fun s17 _ _ ho19 hg20 hF=>?_
 refine wK [0,4,5,11] ?_;refine wI hF (fun h22 hF=>?_) fun h22 hF=>?_
 ·refine wW ?_;refine wB ?_;have g:=Ld g 16;obtain⟨x23,g,hF⟩:=Rxs g hF;obtain⟨x24,g,hF⟩:=Rx g hF;refine wW ?_;refine wK [0,4,5] ?_;exact wT (hg20 _) (zaa hF)
 cases ho19 _ (zaa hF);exact wT (hj6 _) hψ21
def zgG(a0:Int):Option ByteArray:=
 (zeE a0).bind fun z1=>
 some z1.1
theorem zru{a0 r}(hr:zgG a0=some r):PCalls Tryz.prog 151 [(.sh,.int .i64 a0)] (Eo (.str r) [.junk]):=by
 apply pF 11 [] [] [] [.tmp 2] hr zC1 Tryz.func151;intro Φ hΦ hF g;unfold zgG at hF;refine wW ?_;refine wE hF zm5 fun z1 hF=>?_
 refine wW ?_;refine wK [2] ?_;exact wm hΦ hF
def zhl(a0:Entry)(a1:Int):Option ByteArray:=
 (zfM a0 a1).bind fun z1=>
 (zgG z1).bind fun z2=>
 gd ((⟨#[101,110,116,114,121,32]⟩:ByteArray).size+z2.size≤9223372036854775807)<|
 some ((⟨#[101,110,116,114,121,32]⟩:ByteArray)++z2)
theorem zqw{a0 a1 r}(hr:zhl a0 a1=some r):PCalls Tryz.prog 106 [(.sh,vC a0),(.sh,.int .i64 a1)] (Eo (.str r) zak):=by
 apply pF 10 [] [] [] [.tmp 4] hr zDe Tryz.func106;intro Φ hΦ hF g;unfold zhl at hF;refine wW ?_;refine wE hF zpu fun z1 hF=>?_
 refine wE hF zru fun z2 hF=>?_
 obtain⟨g,hF⟩:=Rsa g hF;exact wl hΦ hF
def ze0(a0:Group)(a1:List Int):Option Bool:=
 (zej a1 0 (i64.wrap (a0.Q-1))).bind fun z1=>
 some z1
theorem zjI{a0 a1 r}(hr:ze0 a0 a1=some r):PCalls Tryz.prog 158 [(.sh,vF a0),(.sh,vA a1)] (Eo (.bool r) zak):=by
 apply pF 10 [] [] [] [.tmp 4] hr zC9 Tryz.func158;intro Φ hΦ hF g;unfold ze0 at hF;refine wW ?_;refine wE hF zjN fun z1 hF=>?_
 exact wl hΦ hF
def zeC(a0:(List (List Int)))(a1:List Int)(a2:List Int):Option ((List Int)):=
 ((zau (σ:=(List Int)) (fun i5 s4=>
 (ix a0 i5).bind fun x11=>
 gd ((s4.length+x11.length)*8≤140737488355328∧s4.length+x11.length≤4611686018427387904)<|
 some (.go (s4++x11))) (fun s4=>s4) (a0.length) 0 []:Option ((List Int))).bind fun x3=>
 gd ((x3.length+a1.length)*8≤140737488355328∧x3.length+a1.length≤4611686018427387904)<|
 gd (((x3++a1).length+a2.length)*8≤140737488355328∧(x3++a1).length+a2.length≤4611686018427387904)<|
 some (x3++a1++a2))
theorem zm6{a0 a1 a2 r}(hr:zeC a0 a1 a2=some r):PCalls Tryz.prog 160 [(.sh,vN a0),(.sh,vA a1),(.sh,vA a2)] (Eo (vG r) zcj):=by
 apply pF 25 [] [] [] [.tmp 6] hr zD0 Tryz.func160;intro Φ hΦ hF g;unfold zeC at hF
 iterate 3 (try simp[go_sem,g];try intros;refine zap ?_)
 refine wJK hF [1,2] (fun x3=>[(7,.v (vG x3))]) (fun x3 hF=>?_) fun _ hj1 hF=>?_
 ·obtain⟨g,hF⟩:=Rg g hF;obtain⟨g,hF⟩:=Rg g hF;refine wK [6] ?_;exact wm hΦ hF
 refine wB ?_;obtain⟨b12,hb13,hψ8⟩:=hF;refine pRK hb13 [1,2,10,11] (fun i5 s4=>[(7,.v (vG s4)),(12,.v (.int .i64 i5))]) (fun s4 _ hN14=>?_) fun i5 s4 _ _ hi9 hi10 ho6 hg7 hF=>?_
 ·exact wn hN14 (hj1 _) hψ8
 refine wW ?_;refine wu hi9 hi10 ?_;refine wW ?_;refine wB ?_;obtain⟨x11,g,hF⟩:=Rx g hF;obtain⟨g,hF⟩:=Rg g hF;refine wW ?_;refine wK [1,2,7,10,11,12] ?_;exact wi hi9 hi10 (hg7 _) (zaa hF)
def zcN(a0:Group)(a1:ByteArray)(a2:List Int):Option Int:=
 gd (([a0.P,a0.Q,a0.G].length+a2.length)*8≤140737488355328∧[a0.P,a0.Q,a0.G].length+a2.length≤4611686018427387904)<|
 (zdi a1 ([a0.P,a0.Q,a0.G]++a2)).bind fun z1=>
 gd (a0.Q≠0)<|
 some (z1.tmod a0.Q)
theorem zi5{a0 a1 a2 r}(hr:zcN a0 a1 a2=some r):PCalls Tryz.prog 159 [(.sh,vF a0),(.sh,.str a1),(.sh,vA a2)] (Eo (.int .i64 r) zcj):=by
 apply pF 21 [] [] [] [.tmp 6] hr zFl Tryz.func159;intro Φ hΦ hF g;unfold zcN at hF;refine wW ?_;refine wZ [k0 0,k1 1 3,k2 2 3,k1 3 3,k2 4 3,k1 5 3,k2 6 3,k0 7,k0 8,k1 11 3,k2 12 3,fun _=>⟨9,[14,15],[],none,true,false,false⟩,k3 10,k0 13,k0 14] follows ?_;obtain⟨g,hF⟩:=Rg g hF;refine wE hF zhA fun z1 hF=>?_
 obtain⟨g,hF⟩:=Rz g hF;refine wK [6] ?_;exact wm hΦ hF
def zhg(a0:Int)(a1:Int):Option Int:=
 gd (a1≠0)<|
 gd (a1≠0)<|
 some ((i64.wrap ((a0.tmod a1)+a1)).tmod a1)
theorem ztg{a0 a1 r}(hr:zhg a0 a1=some r):PCalls Tryz.prog 154 [(.sh,.int .i64 a0),(.sh,.int .i64 a1)] (Eo (.int .i64 r) zak):=by
 apply pF 12 [] [] [] [.tmp 4] hr zDv Tryz.func154;intro Φ hΦ hF g;unfold zhg at hF
 iterate 2 obtain⟨g,hF⟩:=Rz g hF
 cases hΦ _ (zaa hF)
 iterate 2 refine wW ?_
 try simp[go_sem,g]
def zb7(a0:Group)(a1:Int)(a2:Int):Option Int:=
 (zhg a2 a0.Q).bind fun z1=>
 (zcC a1 z1 a0.P).bind fun z2=>
 some z2
theorem zfy{a0 a1 a2 r}(hr:zb7 a0 a1 a2=some r):PCalls Tryz.prog 108 [(.sh,vF a0),(.sh,.int .i64 a1),(.sh,.int .i64 a2)] (Eo (.int .i64 r) zcj):=by
 apply pF 15 [] [] [] [.tmp 6] hr zCJ Tryz.func108;intro Φ hΦ hF g;unfold zb7 at hF;refine wW ?_;refine wZ [k0 0,k0 1,k1 2 3,k2 3 3,k1 5 3,k2 6 3,k3 4,k3 7,k0 8] follows ?_;refine wE hF ztg fun z1 hF=>?_
 refine wE hF zho fun z2 hF=>?_
 refine wK [6] ?_;exact wm hΦ hF
def zgw(a0:Group)(a1:List Int)(a2:List Int):Option Int:=
 ((zau (σ:=Int) (fun i5 s4=>
 (ix a1 i5).bind fun x11=>
 (ix a2 i5).bind fun x12=>
 (zb7 a0 x11 x12).bind fun z13=>
 gd (a0.P≠0)<|
 some (.go ((i64.wrap (s4*z13)).tmod a0.P))) (fun s4=>s4) (a1.length) 0 1:Option Int).bind fun x3=>
 some x3)
theorem zsb{a0 a1 a2 r}(hr:zgw a0 a1 a2=some r):PCalls Tryz.prog 161 [(.sh,vF a0),(.sh,vA a1),(.sh,vA a2)] (Eo (.int .i64 r) zcj):=by
 apply pF 31 [] [] [] [.tmp 6] hr zDh Tryz.func161;intro Φ hΦ hF g;unfold zgw at hF
 iterate 3 (try simp[go_sem,g];try intros;refine zap ?_)
 refine wJ hF (fun x3=>[(7,.v (.int .i64 x3))]) (fun x3 hF=>?_) fun _ hj1 hF=>?_
 ·exact wl hΦ hF
 refine wB ?_;obtain⟨b14,hb15,hψ8⟩:=hF;refine pRK hb15 [2,3,10,11] (fun i5 s4=>[(7,.v (.int .i64 s4)),(12,.v (.int .i64 i5))]) (fun s4 _ hN16=>?_) fun i5 s4 _ _ hi9 hi10 ho6 hg7 hF=>?_
 ·exact wn hN16 (hj1 _) hψ8
 refine wW ?_;refine wu hi9 hi10 ?_;refine wW ?_;refine wB ?_;obtain⟨x11,g,hF⟩:=Rx g hF;refine wK [2,3,7,8,9,10,11,12] ?_;refine wZ [k0 0,k2 1 3,k0 2,k0 3,k0 4,k0 5,k0 6,k1 9 3,k2 10 3,k3 7,k0 8,k0 11,k0 12] follows ?_;obtain⟨x12,g,hF⟩:=Rx g hF;refine wE hF zfy fun z13 hF=>?_
 obtain⟨g,hF⟩:=Rz g hF;refine wK [2,3,7,10,11,12] ?_;exact wi hi9 hi10 (hg7 _) (zaa hF)
def zcn(a0:Group)(a1:List Int):Option Int:=
 ((zau (σ:=Int) (fun i5 s4=>
 (ix a1 i5).bind fun x11=>
 gd (a0.P≠0)<|
 some (.go ((i64.wrap (s4*x11)).tmod a0.P))) (fun s4=>s4) (a1.length) 0 1:Option Int).bind fun x3=>
 some x3)
theorem zft{a0 a1 r}(hr:zcn a0 a1=some r):PCalls Tryz.prog 70 [(.sh,vF a0),(.sh,vA a1)] (Eo (.int .i64 r) zak):=by
 apply pF 22 [] [] [] [.tmp 4] hr zHa Tryz.func70;intro Φ hΦ hF g;unfold zcn at hF
 iterate 3 (try simp[go_sem,g];try intros;refine zap ?_)
 refine wJ hF (fun x3=>[(5,.v (.int .i64 x3))]) (fun x3 hF=>?_) fun _ hj1 hF=>?_
 ·exact wl hΦ hF
 refine wB ?_;obtain⟨b12,hb13,hψ8⟩:=hF;refine pRK hb13 [2,8,9] (fun i5 s4=>[(5,.v (.int .i64 s4)),(10,.v (.int .i64 i5))]) (fun s4 _ hN14=>?_) fun i5 s4 _ _ hi9 hi10 ho6 hg7 hF=>?_
 ·exact wn hN14 (hj1 _) hψ8
 refine wW ?_;refine wu hi9 hi10 ?_;refine wW ?_;refine wB ?_;obtain⟨x11,g,hF⟩:=Rx g hF;refine wK [2,5,7,8,9,10] ?_;obtain⟨g,hF⟩:=Rz g hF;refine wW ?_;exact wi hi9 hi10 (hg7 _) (zaa hF)
def zeV(a0:Group)(a1:ByteArray)(a2:(List (List Int)))(a3:List Int)(a4:Proof):Option Bool:=
 ((if((a4.Commits.length:Int) !=(a2.length:Int))=true then(
 some true)else(
 if((a4.Challenges.length:Int) !=1)=true then(
 some true)else(
 (ix a2 0).bind fun x6=>
 if((a4.Responses.length:Int) !=(x6.length:Int))=true then(
 some true)else(
 (zed a0 a4.Commits).bind fun z8=>
 if(!z8)=true then(
 some true)else(
 (ze0 a0 a4.Responses).bind fun z10=>
 some (!z10))))):Option Bool).bind fun x3=>
 if x3=true then(
 some false)else(
 (ix a4.Challenges 0).bind fun x12=>
 (zeC a2 a3 a4.Commits).bind fun z13=>
 (zcN a0 a1 z13).bind fun z14=>
 if(x12 !=z14)=true then(
 some false)else(
 ((zau (σ:=Unit) (fun i20 s19=>
 (ix a2 i20).bind fun x26=>
 (ix a4.Commits i20).bind fun x27=>
 (ix a3 i20).bind fun x28=>
 (zgw a0 x26 a4.Responses).bind fun z29=>
 (zb7 a0 x28 x12).bind fun z30=>
 (zcn a0 [x27,z30]).bind fun z31=>
 if(z29 !=z31)=true then(
 some (.out (.inr false)))else(
 some (.go ()))) (fun s19=>.inl ()) (a2.length) 0 ():Option (Unit ⊕ Bool)).bind (Sum.elim (fun x18=>
 some true) some)))))
theorem zkN{a0 a1 a2 a3 a4 r}(hr:zeV a0 a1 a2 a3 a4=some r):PCalls Tryz.prog 115 [(.sh,vF a0),(.sh,.str a1),(.sh,vN a2),(.sh,vA a3),(.sh,vB a4)] (Eo (.bool r) zn9):=by
 apply pF 93 [] [] [] [.tmp 10] hr zEd Tryz.func115;intro Φ hΦ hF g;unfold zeV at hF;refine wW ?_;refine wJK hF [1,2,3,5,9] (fun x3=>[(49,.v (.bool x3))]) (fun x3 hF=>?_) fun _ hj1 hF=>?_
 ·refine wI hF (fun h11 hF=>?_) fun h11 hF=>?_
  ·exact wl hΦ hF
  obtain⟨x12,g,hF⟩:=Rxn g 0 hF
  iterate 2 refine wW ?_
  refine wZ [k0 0,k2 1 5,k0 2,k0 3,k0 4,k1 5 9,k2 6 9,k3 7,k3 8,k0 9] follows ?_;refine wE hF zm6 fun z13 hF=>?_
  refine wE hF zi5 fun z14 hF=>?_
  refine wK [2,3,5,9,11,63] ?_;refine wI hF (fun h15 hF=>?_) fun h15 hF=>?_
  ·exact wl hΦ hF
  iterate 2 (try simp[go_sem,g];try intros;refine zap ?_)
  refine wS hF (fun x18=>[]) (fun x18 hF=>?_) fun _ hj16 hr17 hF=>?_
  ·exact wl hΦ hF
  refine wB ?_;obtain⟨b33,hb34,hψ23⟩:=hF;refine pRK hb34 [3,5,9,11,64,65] (fun i20 s19=>[(66,.v (.int .i64 i20))]) (fun s19 _ hN35=>?_) fun i20 s19 _ _ hi24 hi25 ho21 hg22 hF=>?_
  ·exact wn hN35 (hj16 _) hψ23
  refine wW ?_;refine wu hi24 hi25 ?_;refine wW ?_;refine wB ?_;obtain⟨x26,g,hF⟩:=Rx g hF;refine wW ?_;refine wZ [k2 0 5,k0 1,k1 2 9,k2 3 9,k2 5 5,k1 6 9,k2 7 9,k0 8,k0 9,k0 10,k2 11 5,k0 12,k0 13,k0 14,k0 15,k0 16,fun _=>⟨4,[71,72,74],[],none,false,true,false⟩,fun _=>⟨17,[82,86,87],[],none,false,true,false⟩,k0 18,fun _=>⟨19,[76,89],[],none,true,true,true⟩,k0 20] follows ?_;obtain⟨x27,g,hF⟩:=Rx g hF;obtain⟨x28,g,hF⟩:=Rx g hF;refine wD hF zsb fun z29 hF=>?_
  refine wD hF zfy fun z30 hF=>?_
  refine wE hF zft fun z31 hF=>?_
  refine wK [3,5,9,11,64,65,66,91] ?_;refine wI hF (fun h32 hF=>?_) fun h32 hF=>?_
  ·cases ho21 _ (zaa hF);cases hΦ _ (hr17 _ hψ23);refine wW ?_;try simp[go_sem,g]
  refine wW ?_;exact wi hi24 hi25 (hg22 _) (zaa hF)
 refine wZ [k1 0 9,k2 1 9,k0 2,k0 3,k0 4,k0 5,k0 6,k1 7 9,k2 8 9,k0 9,k0 10,k0 11,k0 12,k1 13 9,k2 14 9,k0 15,k0 16,k0 17,k0 18,k0 19,k0 20,k0 21,k0 22,k2 23 5,k1 24 9,k2 25 9,k3 26,k0 27,k0 28,k0 29,k2 30 5,k1 31 9,k2 32 9,k3 33,k0 34,k0 35] follows ?_;try simp[go_sem,g]
 try intros
 refine wH hF (fun h4 hF=>?_) fun h4 hF=>?_
 ·exact wV h4 (hj1 _) (zaa hF)
 try simp[go_sem,g,h4]
 try intros
 refine wH hF (fun h5 hF=>?_) fun h5 hF=>?_
 ·exact wV h5 (hj1 _) (zaa hF)
 obtain⟨x6,g,hF⟩:=Rxn g 0 hF;try simp[go_sem,g,h5]
 try intros
 refine wH hF (fun h7 hF=>?_) fun h7 hF=>?_
 ·exact wV h7 (hj1 _) (zaa hF)
 try simp[go_sem,g,h7]
 refine wE hF zh2 fun z8 hF=>?_
 try simp[go_sem,g,h7]
 refine wH hF (fun h9 hF=>?_) fun h9 hF=>?_
 ·exact wV h9 (hj1 _) (zaa hF)
 try simp[go_sem,g,h9]
 refine wE hF zjI fun z10 hF=>?_
 exact wV h9 (hj1 _) (zaa hF)
def zeX(a0:Group)(a1:ByteArray)(a2:Int)(a3:Proof):Option Bool:=
 (zeV a0 a1 [[a0.G]] [a2] a3).bind fun z1=>
 some z1
theorem zpN{a0 a1 a2 a3 r}(hr:zeX a0 a1 a2 a3=some r):PCalls Tryz.prog 105 [(.sh,vF a0),(.sh,.str a1),(.sh,.int .i64 a2),(.sh,vB a3)] (Eo (.bool r) zf6):=by
 apply pF 19 [] [] [] [.tmp 8] hr zE2 Tryz.func105;intro Φ hΦ hF g;unfold zeX at hF;refine wW ?_;refine wE hF zkN fun z1 hF=>?_
 refine wK [8] ?_;exact wm hΦ hF
def zfs(a0:Group)(a1:Int)(a2:Int)(a3:Entry):Option Bool:=
 (((zf7 a3).bind fun z4=>
 if z4=true then(
 (zhl a3 a2).bind fun z6=>
 (zeX a0 z6 a1 a3.Sign).bind fun z7=>
 some z7)else(
 some false):Option Bool).bind fun x3=>
 some x3)
theorem zoQ{a0 a1 a2 a3 r}(hr:zfs a0 a1 a2 a3=some r):PCalls Tryz.prog 68 [(.sh,vF a0),(.sh,.int .i64 a1),(.sh,.int .i64 a2),(.sh,vC a3)] (Eo (.bool r) zf6):=by
 apply pF 21 [] [] [] [.tmp 8] hr zIo Tryz.func68;intro Φ hΦ hF g;unfold zfs at hF;refine wW ?_;refine wJ hF (fun x3=>[(8,.v (.bool x3))]) (fun x3 hF=>?_) fun _ hj1 hF=>?_
 ·exact wm hΦ hF
 refine wZ [k2 0 7,k3 1,k0 2,k2 3 4,k2 4 7,k0 5,k0 7,k1 8 7,k2 9 7,k3 6,k3 10,k0 11,k0 12] follows ?_;refine wE hF zqu fun z4 hF=>?_
 refine wH hF (fun h5 hF=>?_) fun h5 hF=>?_
 ·try simp[go_sem,g,h5]
  refine wE hF zqw fun z6 hF=>?_
  try simp[go_sem,g,h5]
  refine wE hF zpN fun z7 hF=>?_
  exact wV h5 (hj1 _) (zaa hF)
 exact wV h5 (hj1 _) (zaa hF)
def zgb(a0:Group)(a1:Board):Option Bool:=
 ((if decide (40<(a1.Keys.length:Int))=true then(
 some true)else(
 (zed a0 a1.Keys).bind fun z5=>
 if(!z5)=true then(
 some true)else(
 some (decide (64<(a1.Entries.length:Int))))):Option Bool).bind fun x3=>
 if x3=true then(
 some false)else(
 ((zau (σ:=Unit) (fun i12 s11=>
 (ix a1.Entries i12).bind fun x18=>
 (((zaV x18.Author 0 (i64.wrap ((a1.Keys.length:Int)-1))).bind fun z22=>
 if(!z22)=true then(
 some true)else(
 (ix a1.Keys x18.Author).bind fun x24=>
 (zfs a0 x24 i12 x18).bind fun z25=>
 some (!z25)):Option Bool).bind fun x21=>
 if x21=true then(
 some (.out (.inr false)))else(
 some (.go ())))) (fun s11=>.inl ()) (a1.Entries.length) 0 ():Option (Unit ⊕ Bool)).bind (Sum.elim (fun x10=>
 some true) some))))
theorem zqC{a0 a1 r}(hr:zgb a0 a1=some r):PCalls Tryz.prog 37 [(.sh,vF a0),(.sh,vE a1)] (Eo (.bool r) zak):=by
 apply pF 54 [] [] [] [.tmp 4] hr zGR Tryz.func37;intro Φ hΦ hF g;unfold zgb at hF;refine wW ?_;refine wJK hF [2,3] (fun x3=>[(23,.v (.bool x3))]) (fun x3 hF=>?_) fun _ hj1 hF=>?_
 ·refine wI hF (fun h7 hF=>?_) fun h7 hF=>?_
  ·exact wl hΦ hF
  iterate 2 (try simp[go_sem,g];try intros;refine zap ?_)
  refine wS hF (fun x10=>[]) (fun x10 hF=>?_) fun _ hj8 hr9 hF=>?_
  ·exact wl hΦ hF
  refine wB ?_;obtain⟨b27,hb28,hψ15⟩:=hF;refine pRK hb28 [2,3,25,26] (fun i12 s11=>[(27,.v (.int .i64 i12))]) (fun s11 _ hN29=>?_) fun i12 s11 _ _ hi16 hi17 ho13 hg14 hF=>?_
  ·exact wn hN29 (hj8 _) hψ15
  refine wW ?_;refine wu hi16 hi17 ?_;refine wW ?_;refine wB ?_;obtain⟨x18,g,hF⟩:=Rx g hF;refine wK [2,3,5,6,25,26,27] ?_;refine wJK hF [2,3,25,26,27] (fun x21=>[(52,.v (.bool x21))]) (fun x21 hF=>?_) fun _ hj19 hF=>?_
  ·refine wI hF (fun h26 hF=>?_) fun h26 hF=>?_
   ·cases ho13 _ (zaa hF);cases hΦ _ (hr9 _ hψ15);refine wW ?_;try simp[go_sem,g]
   refine wW ?_;exact wi hi16 hi17 (hg14 _) (zaa hF)
  refine wZ [k1 0 6,k2 1 6,k1 2 3,k2 3 3,k0 4,k0 5,k3 6,k0 7,k0 8,k2 9 2,k1 10 3,k2 11 3,k1 12 6,k2 13 6,k0 14,k0 15,k0 16,k2 17 6,k3 18,k0 19,k0 20] follows ?_;try simp[go_sem,g]
  try intros
  refine wE hF zbh fun z22 hF=>?_
  refine wH hF (fun h23 hF=>?_) fun h23 hF=>?_
  ·exact wV h23 (hj19 _) (zaa hF)
  obtain⟨x24,g,hF⟩:=Rx g hF;try simp[go_sem,g,h23]
  refine wE hF zoQ fun z25 hF=>?_
  exact wV h23 (hj19 _) (zaa hF)
 try simp[go_sem,g]
 try intros
 refine wG hF (fun h4 hF=>?_) fun h4 hF=>?_
 ·exact wV h4 (hj1 _) (zaa hF)
 try simp[go_sem,g,h4]
 refine wE hF zh2 fun z5 hF=>?_
 try simp[go_sem,g,h4]
 refine wG hF (fun h6 hF=>?_) fun h6 hF=>?_
 ·exact wV h6 (hj1 _) (zaa hF)
 try simp[go_sem,g,h6]
 try intros
 exact wT (hj1 _) (zaa hF)
def zer(a0:Contest):Option Bool:=
 ((if decide (a0.Least<0)=true then(
 some true)else(
 some (decide (a0.Most<a0.Least))):Option Bool).bind fun x3=>
 if x3=true then(
 some false)else(
 ((if(a0.Kind==1)=true then(
 some (a0.Kind==1))else(
 some (a0.Kind==3)):Option Bool).bind fun x8=>
 if x8=true then(
 (((zaV a0.Options 1 8).bind fun z14=>
 if z14=true then(
 if decide (a0.Most≤a0.Options)=true then(
 some (a0.Points==0))else(
 some false))else(
 some false):Option Bool).bind fun x13=>
 some x13))else(
 if(a0.Kind==2)=true then(
 (((zaV a0.Options 1 8).bind fun z21=>
 if z21=true then(
 (zaV a0.Points 1 5).bind fun z23=>
 if z23=true then(
 some (decide (a0.Most≤(i64.wrap (a0.Options*a0.Points)))))else(
 some false))else(
 some false):Option Bool).bind fun x20=>
 some x20))else(
 ((if(a0.Kind==4)=true then(
 if(a0.Options==0)=true then(
 if decide (a0.Most≤5)=true then(
 some (a0.Points==0))else(
 some false))else(
 some false))else(
 some false):Option Bool).bind fun x27=>
 some x27))))))
theorem zjU{a0 r}(hr:zer a0=some r):PCalls Tryz.prog 99 [(.sh,vO a0)] (Eo (.bool r) [.junk]):=by
 apply pF 71 [] [] [] [.tmp 2] hr zIp Tryz.func99;intro Φ hΦ hF g;unfold zer at hF;refine wW ?_;refine wJ hF (fun x3=>[(1,.bl [.int .i64 a0.Kind,.int .i64 a0.Options,.int .i64 a0.Least,.int .i64 a0.Most,.int .i64 a0.Points]),(12,.v (.bool x3))]) (fun x3 hF=>?_) fun _ hj1 hF=>?_
 ·refine wI hF (fun h5 hF=>?_) fun h5 hF=>?_
  ·exact wl hΦ hF
  iterate 2 refine wW ?_
  refine wB ?_;refine wW ?_;refine wJK hF [1,14] (fun x8=>[(15,.v (.bool x8))]) (fun x8 hF=>?_) fun _ hj6 hF=>?_
  ·refine wI hF (fun h10 hF=>?_) fun h10 hF=>?_
   ·refine wJ hF (fun x13=>[(2,.v (.bool x13))]) (fun x13 hF=>?_) fun _ hj11 hF=>?_
    ·exact wm hΦ hF
    refine wE hF zbh fun z14 hF=>?_
    refine wG hF (fun h15 hF=>?_) fun h15 hF=>?_
    ·try simp[go_sem,g,h15]
     refine wG hF (fun h16 hF=>?_) fun h16 hF=>?_
     ·exact wV h16 (hj11 _) (zaa hF)
     exact wV h16 (hj11 _) (zaa hF)
    exact wV h15 (hj11 _) (zaa hF)
   refine wW ?_;refine wI hF (fun h17 hF=>?_) fun h17 hF=>?_
   ·refine wJ hF (fun x20=>[(2,.v (.bool x20))]) (fun x20 hF=>?_) fun _ hj18 hF=>?_
    ·exact wm hΦ hF
    refine wE hF zbh fun z21 hF=>?_
    refine wG hF (fun h22 hF=>?_) fun h22 hF=>?_
    ·try simp[go_sem,g,h22]
     refine wE hF zbh fun z23 hF=>?_
     try simp[go_sem,g,h22]
     refine wG hF (fun h24 hF=>?_) fun h24 hF=>?_
     ·exact wV h24 (hj18 _) (zaa hF)
     exact wV h24 (hj18 _) (zaa hF)
    exact wV h22 (hj18 _) (zaa hF)
   refine wW ?_;refine wJ hF (fun x27=>[(2,.v (.bool x27))]) (fun x27 hF=>?_) fun _ hj25 hF=>?_
   ·exact wm hΦ hF
   refine wG hF (fun h28 hF=>?_) fun h28 hF=>?_
   ·try simp[go_sem,g,h28]
    refine wG hF (fun h29 hF=>?_) fun h29 hF=>?_
    ·try simp[go_sem,g,h29]
     refine wG hF (fun h30 hF=>?_) fun h30 hF=>?_
     ·exact wV h30 (hj25 _) (zaa hF)
     exact wV h30 (hj25 _) (zaa hF)
    exact wV h29 (hj25 _) (zaa hF)
   exact wV h28 (hj25 _) (zaa hF)
  refine wI hF (fun h9 hF=>?_) fun h9 hF=>?_
  ·exact wT (hj6 _) (zaa hF)
  exact wT (hj6 _) (zaa hF)
 refine wG hF (fun h4 hF=>?_) fun h4 hF=>?_
 ·exact wV h4 (hj1 _) (zaa hF)
 exact wV h4 (hj1 _) (zaa hF)
def zcL(a0:List Int):Option (Contest×Bool):=
 if((a0.length:Int) !=5)=true then(
 some ((Contest.mk 0 0 0 0 0),false))else(
 (ix a0 0).bind fun x2=>
 (ix a0 1).bind fun x3=>
 (ix a0 2).bind fun x4=>
 (ix a0 3).bind fun x5=>
 (ix a0 4).bind fun x6=>
 (zer (Contest.mk x2 x3 x4 x5 x6)).bind fun z7=>
 if(!z7)=true then(
 some ((Contest.mk 0 0 0 0 0),false))else(
 some ((Contest.mk x2 x3 x4 x5 x6),true)))
theorem zm9{a0 r}(hr:zcL a0=some r):PCalls Tryz.prog 92 [(.sh,vA a0)] (Eo (.tup [vO r.1,.bool r.2]) [.junk]):=by
 apply pF 30 [] [] [] [.cell 2 36,.tmp 3] hr zIB Tryz.func92;intro Φ hΦ hF g;unfold zcL at hF
 iterate 2 (try simp[go_sem,g];try intros;refine zap ?_)
 refine wI hF (fun h1 hF=>?_) fun h1 hF=>?_
 ·exact wl hΦ hF
 refine wW ?_;refine wZ [k0 0,k0 1,k0 2,k0 3,k0 4,k0 5,k0 6,k0 7,k0 8,k0 9,k0 10,k0 11,k0 12,k0 13,k0 14,k0 15,k0 16,k2 17 4] follows ?_;obtain⟨x2,g,hF⟩:=Rxn g 0 hF;obtain⟨x3,g,hF⟩:=Rxn g 1 hF;obtain⟨x4,g,hF⟩:=Rxn g 2 hF;obtain⟨x5,g,hF⟩:=Rxn g 3 hF;obtain⟨x6,g,hF⟩:=Rxn g 4 hF;refine wK [2,4] ?_;refine wE hF zjU fun z7 hF=>?_
 refine wW ?_;refine wI hF (fun h8 hF=>?_) fun h8 hF=>?_
 ·exact wl hΦ hF
 cases hΦ _ (zaa hF)
 iterate 2 refine wW ?_
 try simp[go_sem,g]
def zd2(a0:Int)(a1:Int):Option Int:=
 if decide (a0<a1)=true then(
 some a0)else(
 some a1)
theorem zoZ{a0 a1 r}(hr:zd2 a0 a1=some r):PCalls Tryz.prog 147 [(.sh,.int .i64 a0),(.sh,.int .i64 a1)] (Eo (.int .i64 r) zak):=by
 apply pF 10 [] [] [] [.tmp 4] hr zEn Tryz.func147;intro Φ hΦ hF g;unfold zd2 at hF
 iterate 2 refine wW ?_
 refine wI hF (fun h1 hF=>?_) fun h1 hF=>?_
 ·exact wl hΦ hF
 cases hΦ _ (zaa hF)
 iterate 2 refine wW ?_
 try simp[go_sem,g]
def zf9(a0:Contest)(a1:List Int):Option ((List Int)):=
 gd (0≤a0.Options∧a0.Options≤a0.Options∧8*a0.Options≤140737488355328∧a0.Options≤4611686018427387904)<|
 (some (List.replicate a0.Options.toNat 0)).bind fun x1=>
 ((zau (σ:=(List Int)) (fun i17 s16=>
 (ix a1 i17).bind fun x23=>
 (ix s16 x23).bind fun x24=>
 some (.go (s16.set x23.toNat 1))) (fun s16=>s16) (a1.length) 0 x1:Option ((List Int))).bind fun x6=>
 some x6)
theorem zqr{a0 a1 r}(hr:zf9 a0 a1=some r):PCalls Tryz.prog 192 [(.sh,vO a0),(.sh,vA a1)] (Eo (vG r) zak):=by
 apply pF 22 [] [] [] [.tmp 4] hr zDk Tryz.func192;intro Φ hΦ hF g;unfold zf9 at hF;obtain⟨g,hF⟩:=Rg g hF;obtain⟨x1,e2,hF⟩:=zdL hF;have g3:List.replicate a0.Options.toNat ([.int .i64 0]:List PV)=x1.map zaf:=by injection e2 with e2;rw[←e2];simp[go_sem]
 iterate 3 (try simp[go_sem,g,g3];try intros;refine zap ?_)
 refine wJ hF (fun x6=>[(5,.v (vG x6))]) (fun x6 hF=>?_) fun _ hj4 hF=>?_
 ·refine wK [4] ?_;exact wm hΦ hF
 refine wB ?_;obtain⟨b25,hb26,hψ20⟩:=hF;refine pRK hb26 [11,12] (fun i17 s16=>[(5,.v (vG s16)),(13,.v (.int .i64 i17))]) (fun s16 _ hN27=>?_) fun i17 s16 _ _ hi21 hi22 ho18 hg19 hF=>?_
 ·exact wn hN27 (hj4 _) hψ20
 refine wK [5,11,12,13,14] ?_;refine wu hi21 hi22 ?_;refine wW ?_;refine wB ?_;obtain⟨x23,g,hF⟩:=Rx g hF;obtain⟨x24,g,hF⟩:=Rx g hF
 iterate 2 refine wW ?_
 exact wi hi21 hi22 (hg19 _) (zaa hF)
def zdm(a0:List Int)(a1:Int)(a2:Int):Option Int:=
 ((zax (σ:=Int×Int) (fun s4=>
 if decide (0≤s4.2)=true then(
 (ix a0 s4.2).bind fun x10=>
 some (.go (i64.wrap ((i64.wrap ((i64.wrap (s4.1*a1))+x10))+a2),i64.wrap (s4.2-1))))else(
 some (.out s4.1))) (0,i64.wrap ((a0.length:Int)-1)):Option Int).bind fun x3=>
 some x3)
theorem zgP{a0 a1 a2 r}(hr:zdm a0 a1 a2=some r):PCalls Tryz.prog 191 [(.sh,vA a0),(.sh,.int .i64 a1),(.sh,.int .i64 a2)] (Eo (.int .i64 r) zcj):=by
 apply pF 27 [] [] [] [.tmp 6] hr zDB Tryz.func191;intro Φ hΦ hF g;unfold zdm at hF
 iterate 3 (try simp[go_sem,g];try intros;refine zap ?_)
 refine wJ hF (fun x3=>[(7,.v (.int .i64 x3))]) (fun x3 hF=>?_) fun _ hj1 hF=>?_
 ·exact wl hΦ hF
 refine wB ?_;obtain⟨b11,hb12,hψ8⟩:=hF;refine pLK hb12 [0,1,2] (fun s4=>[(7,.v (.int .i64 s4.1)),(8,.v (.int .i64 s4.2))]) fun s4 _ _ ho6 hg7 hF=>?_
 refine wW ?_;refine wI hF (fun h9 hF=>?_) fun h9 hF=>?_
 ·refine wW ?_;refine wB ?_;obtain⟨x10,g,hF⟩:=Rx g hF;refine wK [0,1,2,7,8] ?_;exact wT (hg7 _) (zaa hF)
 cases ho6 _ (zaa hF);exact wT (hj1 _) hψ8
def zeZ(a0:Contest)(a1:List Int):Option Int:=
 if(a0.Kind==1)=true then(
 (zf9 a0 a1).bind fun z2=>
 (zdm z2 2 0).bind fun z3=>
 some z3)else(
 if(a0.Kind==2)=true then(
 (zdm a1 (i64.wrap (a0.Points+1)) 0).bind fun z5=>
 some z5)else(
 if(a0.Kind==3)=true then(
 (zdm a1 (i64.wrap (a0.Options+1)) 1).bind fun z7=>
 some z7)else(
 (zdm a1 27 0).bind fun z8=>
 some z8)))
theorem zrQ{a0 a1 r}(hr:zeZ a0 a1=some r):PCalls Tryz.prog 148 [(.sh,vO a0),(.sh,vA a1)] (Eo (.int .i64 r) zak):=by
 apply pF 29 [] [] [] [.tmp 4] hr zCx Tryz.func148;intro Φ hΦ hF g;unfold zeZ at hF
 iterate 2 refine wW ?_
 refine wB ?_;refine wW ?_;refine wI hF (fun h1 hF=>?_) fun h1 hF=>?_
 ·refine wE hF zqr fun z2 hF=>?_
  refine wE hF zgP fun z3 hF=>?_
  refine wK [4] ?_;exact wm hΦ hF
 refine wW ?_;refine wI hF (fun h4 hF=>?_) fun h4 hF=>?_
 ·refine wE hF zgP fun z5 hF=>?_
  refine wK [4] ?_;exact wm hΦ hF
 refine wK [1,2,20] ?_;refine wI hF (fun h6 hF=>?_) fun h6 hF=>?_
 ·refine wE hF zgP fun z7 hF=>?_
  exact wl hΦ hF
 refine wW ?_;refine wE hF zgP fun z8 hF=>?_
 exact wl hΦ hF
def zd3(a0:Contest):Option Int:=
 ((if(a0.Kind==1)=true then(
 zax (σ:=(List Int)×Int) (fun s5=>
 if decide (s5.2<a0.Options)=true then(
 gd ((s5.1.length+1)*8≤140737488355328∧s5.1.length+1≤4611686018427387904)<|
 some (.go (s5.1++[s5.2],i64.wrap (s5.2+1))))else(
 some (.out s5.1))) ([],i64.wrap (a0.Options-a0.Most)))else(
 if(a0.Kind==2)=true then(
 gd (0≤a0.Options∧a0.Options≤a0.Options∧8*a0.Options≤140737488355328∧a0.Options≤4611686018427387904)<|
 (some (List.replicate a0.Options.toNat 0)).bind fun x14=>
 zax (σ:=(List Int)×Int×Int) (fun s26=>
 if decide (0≤s26.2.2)=true then(
 (zd2 s26.2.1 a0.Points).bind fun z32=>
 (ix s26.1 s26.2.2).bind fun x33=>
 (ix (s26.1.set s26.2.2.toNat z32) s26.2.2).bind fun x34=>
 some (.go (s26.1.set s26.2.2.toNat z32,i64.wrap (s26.2.1-x34),i64.wrap (s26.2.2-1))))else(
 some (.out s26.1))) (x14,a0.Most,i64.wrap (a0.Options-1)))else(
 if(a0.Kind==3)=true then(
 zax (σ:=(List Int)×Int) (fun s38=>
 if decide (s38.2<a0.Options)=true then(
 gd ((s38.1.length+1)*8≤140737488355328∧s38.1.length+1≤4611686018427387904)<|
 some (.go (s38.1++[s38.2],i64.wrap (s38.2+1))))else(
 some (.out s38.1))) ([],i64.wrap (a0.Options-a0.Most)))else(
 zax (σ:=(List Int)×Int) (fun s46=>
 if decide (s46.2<a0.Most)=true then(
 gd ((s46.1.length+1)*8≤140737488355328∧s46.1.length+1≤4611686018427387904)<|
 some (.go (s46.1++[26],i64.wrap (s46.2+1))))else(
 some (.out s46.1))) ([],0)))):Option ((List Int))).bind fun x3=>
 (zeZ a0 x3).bind fun z54=>
 some z54)
theorem zjF{a0 r}(hr:zd3 a0=some r):PCalls Tryz.prog 100 [(.sh,vO a0)] (Eo (.int .i64 r) [.junk]):=by
 apply pF 84 [] [] [] [.tmp 2] hr zCv Tryz.func100;intro Φ hΦ hF g;unfold zd3 at hF
 iterate 3 refine wW ?_
 refine wJ hF (fun x3=>[(1,.bl [.int .i64 a0.Kind,.int .i64 a0.Options,.int .i64 a0.Least,.int .i64 a0.Most,.int .i64 a0.Points]),(3,.v (vG x3))]) (fun x3 hF=>?_) fun _ hj1 hF=>?_
 ·refine wE hF zrQ fun z54 hF=>?_
  exact wl hΦ hF
 refine wB ?_;refine wW ?_;refine wI hF (fun h4 hF=>?_) fun h4 hF=>?_
 ·refine wK [1,3,4] ?_;refine wB ?_;obtain⟨b11,hb12,hψ9⟩:=hF;refine pL hb12 (fun s5=>[(1,.bl [.int .i64 a0.Kind,.int .i64 a0.Options,.int .i64 a0.Least,.int .i64 a0.Most,.int .i64 a0.Points]),(3,.v (vG s5.1)),(4,.v (.int .i64 s5.2))]) fun s5 _ _ ho7 hg8 hF=>?_
  refine wW ?_;refine wI hF (fun h10 hF=>?_) fun h10 hF=>?_
  ·refine wW ?_;refine wB ?_;obtain⟨g,hF⟩:=Rg g hF;refine wW ?_;exact wT (hg8 _) (zaa hF)
  cases ho7 _ (zaa hF);exact wT (hj1 _) hψ9
 refine wW ?_;refine wI hF (fun h13 hF=>?_) fun h13 hF=>?_
 ·obtain⟨g,hF⟩:=Rg g hF;obtain⟨x14,e15,hF⟩:=zdL hF;have g16:List.replicate a0.Options.toNat ([.int .i64 0]:List PV)=x14.map zaf:=by injection e15 with e15;rw[←e15];simp[go_sem]
  try simp[go_sem,g,g16]
  refine wK [1,3] ?_
  iterate 2 refine wW ?_
  refine wB ?_;obtain⟨b35,hb36,hψ30⟩:=hF;refine pL hb36 (fun s26=>[(1,.bl [.int .i64 a0.Kind,.int .i64 a0.Options,.int .i64 a0.Least,.int .i64 a0.Most,.int .i64 a0.Points]),(3,.v (vG s26.1)),(5,.v (.int .i64 s26.2.1)),(6,.v (.int .i64 s26.2.2))]) fun s26 _ _ ho28 hg29 hF=>?_
  refine wW ?_;refine wI hF (fun h31 hF=>?_) fun h31 hF=>?_
  ·refine wW ?_;refine wB ?_;refine wE hF zoZ fun z32 hF=>?_
   obtain⟨x33,g,hF⟩:=Rx g hF;refine wK [1,3,5,6] ?_;obtain⟨x34,g,hF⟩:=Rx g hF;try simp only[List.length_set]at g
   refine wW ?_;exact wT (hg29 _) (zaa hF)
  cases ho28 _ (zaa hF);exact wT (hj1 _) hψ30
 refine wK [1,3,64] ?_;refine wI hF (fun h37 hF=>?_) fun h37 hF=>?_
 ·refine wW ?_;refine wB ?_;obtain⟨b44,hb45,hψ42⟩:=hF;refine pL hb45 (fun s38=>[(1,.bl [.int .i64 a0.Kind,.int .i64 a0.Options,.int .i64 a0.Least,.int .i64 a0.Most,.int .i64 a0.Points]),(3,.v (vG s38.1)),(7,.v (.int .i64 s38.2))]) fun s38 _ _ ho40 hg41 hF=>?_
  refine wK [1,3,7,74] ?_;refine wI hF (fun h43 hF=>?_) fun h43 hF=>?_
  ·refine wW ?_;refine wB ?_;obtain⟨g,hF⟩:=Rg g hF;refine wW ?_;exact wT (hg41 _) (zaa hF)
  cases ho40 _ (zaa hF);exact wT (hj1 _) hψ42
 refine wW ?_;refine wB ?_;obtain⟨b52,hb53,hψ50⟩:=hF;refine pL hb53 (fun s46=>[(1,.bl [.int .i64 a0.Kind,.int .i64 a0.Options,.int .i64 a0.Least,.int .i64 a0.Most,.int .i64 a0.Points]),(3,.v (vG s46.1)),(8,.v (.int .i64 s46.2))]) fun s46 _ _ ho48 hg49 hF=>?_
 refine wW ?_;refine wI hF (fun h51 hF=>?_) fun h51 hF=>?_
 ·refine wW ?_;refine wB ?_;obtain⟨g,hF⟩:=Rg g hF;refine wW ?_;exact wT (hg49 _) (zaa hF)
 cases ho48 _ (zaa hF);exact wT (hj1 _) hψ50
def zem(a0:Contest):Option Bool:=
 ((if(a0.Kind==1)=true then(
 some true)else(
 some (a0.Kind==2)):Option Bool).bind fun x3=>
 some x3)
theorem zij{a0 r}(hr:zem a0=some r):PCalls Tryz.prog 64 [(.sh,vO a0)] (Eo (.bool r) [.junk]):=by
 apply pF 11 [] [] [] [.tmp 2] hr zIF Tryz.func64;intro Φ hΦ hF g;unfold zem at hF;refine wW ?_;refine wJ hF (fun x3=>[(2,.v (.bool x3))]) (fun x3 hF=>?_) fun _ hj1 hF=>?_
 ·exact wm hΦ hF
 refine wG hF (fun h4 hF=>?_) fun h4 hF=>?_
 ·exact wV h4 (hj1 _) (zaa hF)
 exact wV h4 (hj1 _) (zaa hF)
def zep(a0:Group)(a1:Contest):Option Bool:=
 (((zdb a0).bind fun z4=>
 if(!z4)=true then(
 some true)else(
 (zer a1).bind fun z6=>
 if(!z6)=true then(
 some true)else(
 (zd3 a1).bind fun z8=>
 if decide (100000<z8)=true then(
 some true)else(
 (zd3 a1).bind fun z10=>
 some (decide (a0.Q≤z10))))):Option Bool).bind fun x3=>
 if x3=true then(
 some false)else(
 (((zem a1).bind fun z15=>
 if(!z15)=true then(
 some true)else(
 if decide ((i64.wrap (a1.Most-a1.Least))<8)=true then(
 some (decide (a1.Most<a0.Q)))else(
 some false)):Option Bool).bind fun x14=>
 some x14)))
theorem zrN{a0 a1 r}(hr:zep a0 a1=some r):PCalls Tryz.prog 61 [(.sh,vF a0),(.sh,vO a1)] (Eo (.bool r) zak):=by
 apply pF 43 [] [] [] [.tmp 4] hr zHe Tryz.func61;intro Φ hΦ hF g;unfold zep at hF;refine wW ?_;refine wJK hF [2,3] (fun x3=>[(24,.v (.bool x3))]) (fun x3 hF=>?_) fun _ hj1 hF=>?_
 ·refine wI hF (fun h11 hF=>?_) fun h11 hF=>?_
  ·exact wl hΦ hF
  refine wW ?_;refine wJ hF (fun x14=>[(4,.v (.bool x14))]) (fun x14 hF=>?_) fun _ hj12 hF=>?_
  ·exact wm hΦ hF
  refine wE hF zij fun z15 hF=>?_
  refine wG hF (fun h16 hF=>?_) fun h16 hF=>?_
  ·exact wV h16 (hj12 _) (zaa hF)
  try simp[go_sem,g,h16]
  refine wG hF (fun h17 hF=>?_) fun h17 hF=>?_
  ·try simp[go_sem,g,h17,h16]
   exact wT (hj12 _) (zaa hF)
  try simp[go_sem,g,h17,h16]
  exact wT (hj12 _) (zaa hF)
 refine wZ [k2 0 2,k3 1,k0 2,k0 3,k2 4 3,k3 5,k0 6,k0 7,k0 8,k2 9 3,k3 10,k0 11,k0 12,k0 13,k2 14 3,k1 16 2,k2 17 2,k3 15,k0 18,k0 19] follows ?_;refine wE hF zga fun z4 hF=>?_
 refine wH hF (fun h5 hF=>?_) fun h5 hF=>?_
 ·exact wV h5 (hj1 _) (zaa hF)
 try simp[go_sem,g,h5]
 refine wE hF zjU fun z6 hF=>?_
 try simp[go_sem,g,h5]
 refine wH hF (fun h7 hF=>?_) fun h7 hF=>?_
 ·exact wV h7 (hj1 _) (zaa hF)
 try simp[go_sem,g,h7]
 refine wE hF zjF fun z8 hF=>?_
 try simp[go_sem,g,h7]
 refine wH hF (fun h9 hF=>?_) fun h9 hF=>?_
 ·exact wV h9 (hj1 _) (zaa hF)
 try simp[go_sem,g,h9]
 refine wE hF zjF fun z10 hF=>?_
 exact wV h9 (hj1 _) (zaa hF)
def zdx(a0:Contest):Option Int:=
 if(a0.Kind==1)=true then(
 some 1)else(
 some a0.Points)
theorem znl{a0 r}(hr:zdx a0=some r):PCalls Tryz.prog 65 [(.sh,vO a0)] (Eo (.int .i64 r) [.junk]):=by
 apply pF 8 [] [] [] [.tmp 2] hr zHp Tryz.func65;intro Φ hΦ hF g;unfold zdx at hF
 iterate 2 refine wW ?_
 refine wI hF (fun h1 hF=>?_) fun h1 hF=>?_
 ·exact wl hΦ hF
 cases hΦ _ (zaa hF)
 iterate 2 refine wW ?_
 try simp[go_sem,g]
def zcQ(a0:Group)(a1:ByteArray)(a2:Int):Option Int:=
 ((zax (σ:=Int) (fun s4=>
 if decide (s4<1000)=true then(
 (zdi a1 [a0.P,a0.Q,a0.G,a2,s4]).bind fun z10=>
 gd (i64.wrap (a0.P-1)≠0)<|
 gd (a0.Q≠0)<|
 (zcC (i64.wrap (1+(z10.tmod (i64.wrap (a0.P-1))))) (i64.wrap ((i64.wrap (a0.P-1)).tdiv a0.Q)) a0.P).bind fun z11=>
 if(z11 !=1)=true then(
 some (.out (.inr z11)))else(
 some (.go (i64.wrap (s4+1)))))else(
 some (.out (.inl ())))) 0:Option (Unit ⊕ Int)).bind (Sum.elim (fun x3=>
 some 0) some))
theorem zj8{a0 a1 a2 r}(hr:zcQ a0 a1 a2=some r):PCalls Tryz.prog 149 [(.sh,vF a0),(.sh,.str a1),(.sh,.int .i64 a2)] (Eo (.int .i64 r) zcj):=by
 apply pF 43 [] [] [] [.tmp 6] hr zDj Tryz.func149;intro Φ hΦ hF g;unfold zcQ at hF
 iterate 2 refine wW ?_
 refine wS hF (fun x3=>[]) (fun x3 hF=>?_) fun _ hj1 hr2 hF=>?_
 ·exact wl hΦ hF
 refine wB ?_;obtain⟨b13,hb14,hψ8⟩:=hF;refine pLK hb14 [1,2,3] (fun s4=>[(7,.v (.int .i64 s4))]) fun s4 _ _ ho6 hg7 hF=>?_
 refine wW ?_;refine wI hF (fun h9 hF=>?_) fun h9 hF=>?_
 ·refine wW ?_;refine wB ?_;refine wZ [k0 0,k1 1 3,k2 2 3,k1 3 3,k2 4 3,k1 5 3,k2 6 3,k0 7,k0 8,k0 9,k1 11 3,k2 12 3,k0 13,fun _=>⟨10,[14,23],[],none,true,true,true⟩,k0 14,k0 15,k0 16] follows ?_;refine wE hF zhA fun z10 hF=>?_
  obtain⟨g,hF⟩:=Rz g hF;refine wK [1,2,3,7,8] ?_;refine wZ [k0 0,k1 1 3,k2 2 3,k0 3,k1 4 3,k2 5 3,k0 6,k1 7 3,k2 8 3,k3 9,k0 10] follows ?_;obtain⟨g,hF⟩:=Rz g hF;refine wE hF zho fun z11 hF=>?_
  refine wK [1,2,3,7,9] ?_;refine wW ?_;refine wI hF (fun h12 hF=>?_) fun h12 hF=>?_
  ·cases ho6 _ (zaa hF);cases hΦ _ (hr2 _ hψ8);refine wW ?_;try simp[go_sem,g]
  refine wW ?_;exact wT (hg7 _) (zaa hF)
 cases ho6 _ (zaa hF);exact wT (hj1 _) hψ8
def zdA(a0:Group)(a1:ByteArray)(a2:Int):Option (Int×Bool):=
 (((zdb a0).bind fun z4=>
 if(!z4)=true then(
 some true)else(
 if decide (40<(a1.size:Int))=true then(
 some true)else(
 (zdI a2).bind fun z7=>
 some (!z7))):Option Bool).bind fun x3=>
 if x3=true then(
 some (0,false))else(
 (zcQ a0 a1 a2).bind fun z9=>
 some (z9,decide (0<z9))))
theorem zlo{a0 a1 a2 r}(hr:zdA a0 a1 a2=some r):PCalls Tryz.prog 101 [(.sh,vF a0),(.sh,.str a1),(.sh,.int .i64 a2)] (Eo (.tup [.int .i64 r.1,.bool r.2]) zcj):=by
 apply pF 29 [] [] [] [.tmp 6,.tmp 7] hr zC0 Tryz.func101;intro Φ hΦ hF g;unfold zdA at hF;refine wW ?_;refine wJK hF [1,2,3] (fun x3=>[(21,.v (.bool x3))]) (fun x3 hF=>?_) fun _ hj1 hF=>?_
 ·refine wI hF (fun h8 hF=>?_) fun h8 hF=>?_
  ·exact wl hΦ hF
  refine wW ?_;refine wE hF zj8 fun z9 hF=>?_
  refine wW ?_;refine wK [6,7] ?_;exact wm hΦ hF
 refine wE hF zga fun z4 hF=>?_
 refine wG hF (fun h5 hF=>?_) fun h5 hF=>?_
 ·exact wV h5 (hj1 _) (zaa hF)
 try simp[go_sem,g,h5]
 refine wG hF (fun h6 hF=>?_) fun h6 hF=>?_
 ·exact wV h6 (hj1 _) (zaa hF)
 try simp[go_sem,g,h6]
 refine wE hF zie fun z7 hF=>?_
 exact wV h6 (hj1 _) (zaa hF)
def zdp(a0:Group)(a1:ByteArray)(a2:Int):Option (List Int×Bool):=
 (((zdb a0).bind fun z4=>
 if(!z4)=true then(
 some true)else(
 if decide (40<(a1.size:Int))=true then(
 some true)else(
 (zaV a2 0 100).bind fun z7=>
 some (!z7))):Option Bool).bind fun x3=>
 if x3=true then(
 some ([],false))else(
 ((zax (σ:=(List Int)×Int) (fun s12=>
 if decide (s12.2<a2)=true then(
 (zcQ a0 a1 s12.2).bind fun z18=>
 if(z18==0)=true then(
 some (.out (.inr ([],false))))else(
 gd ((s12.1.length+1)*8≤140737488355328∧s12.1.length+1≤4611686018427387904)<|
 some (.go (s12.1++[z18],i64.wrap (s12.2+1)))))else(
 some (.out (.inl s12.1)))) ([],0):Option ((List Int) ⊕ (List Int×Bool))).bind (Sum.elim (fun x11=>
 some (x11,true)) some))))
theorem zkK{a0 a1 a2 r}(hr:zdp a0 a1 a2=some r):PCalls Tryz.prog 102 [(.sh,vF a0),(.sh,.str a1),(.sh,.int .i64 a2)] (Eo (.tup [vG r.1,.bool r.2]) zcj):=by
 apply pF 40 [] [] [] [.tmp 6,.tmp 7] hr zFc Tryz.func102;intro Φ hΦ hF g;unfold zdp at hF;refine wW ?_;refine wJK hF [1,2,3] (fun x3=>[(23,.v (.bool x3))]) (fun x3 hF=>?_) fun _ hj1 hF=>?_
 ·refine wI hF (fun h8 hF=>?_) fun h8 hF=>?_
  ·exact wl hΦ hF
  iterate 3 refine wW ?_
  refine wS hF (fun x11=>[(8,.v (vG x11))]) (fun x11 hF=>?_) fun _ hj9 hr10 hF=>?_
  ·exact wl hΦ hF
  refine wB ?_;obtain⟨b20,hb21,hψ16⟩:=hF;refine pLK hb21 [1,2,3] (fun s12=>[(8,.v (vG s12.1)),(9,.v (.int .i64 s12.2))]) fun s12 _ _ ho14 hg15 hF=>?_
  refine wW ?_;refine wI hF (fun h17 hF=>?_) fun h17 hF=>?_
  ·refine wW ?_;refine wB ?_;refine wE hF zj8 fun z18 hF=>?_
   refine wK [1,2,3,8,9,10] ?_;refine wW ?_;refine wI hF (fun h19 hF=>?_) fun h19 hF=>?_
   ·cases ho14 _ (zaa hF);cases hΦ _ (hr10 _ hψ16);refine wW ?_;try simp[go_sem,g]
   obtain⟨g,hF⟩:=Rg g hF
   iterate 2 refine wW ?_
   exact wT (hg15 _) (zaa hF)
  cases ho14 _ (zaa hF);exact wT (hj9 _) hψ16
 refine wE hF zga fun z4 hF=>?_
 refine wG hF (fun h5 hF=>?_) fun h5 hF=>?_
 ·exact wV h5 (hj1 _) (zaa hF)
 try simp[go_sem,g,h5]
 refine wG hF (fun h6 hF=>?_) fun h6 hF=>?_
 ·exact wV h6 (hj1 _) (zaa hF)
 try simp[go_sem,g,h6]
 refine wE hF zbh fun z7 hF=>?_
 exact wV h6 (hj1 _) (zaa hF)
def zd7(a0:Group)(a1:Int):Option (Bases×Bool):=
 (((zdb a0).bind fun z4=>
 if(!z4)=true then(
 some true)else(
 (zaV a1 0 24).bind fun z6=>
 some (!z6)):Option Bool).bind fun x3=>
 if x3=true then(
 some ((Bases.mk 0 []),false))else(
 (zdA a0 (⟨#[104]⟩:ByteArray) 0).bind fun z8=>
 (zdp a0 (⟨#[104,115]⟩:ByteArray) a1).bind fun z9=>
 ((if(!z8.2)=true then(
 some true)else(
 some (!z9.2)):Option Bool).bind fun x12=>
 if x12=true then(
 some ((Bases.mk 0 []),false))else(
 some ((Bases.mk z8.1 z9.1),true)))))
theorem zpt{a0 a1 r}(hr:zd7 a0 a1=some r):PCalls Tryz.prog 66 [(.sh,vF a0),(.sh,.int .i64 a1)] (Eo (.tup [vP r.1,.bool r.2]) zak):=by
 apply pF 40 [] [] [] [.cell 4 115,.tmp 5] hr zKe Tryz.func66;intro Φ hΦ hF g;unfold zd7 at hF;refine wW ?_;refine wJK hF [1,2,4] (fun x3=>[(17,.v (.bool x3))]) (fun x3 hF=>?_) fun _ hj1 hF=>?_
 ·refine wI hF (fun h7 hF=>?_) fun h7 hF=>?_
  ·exact wl hΦ hF
  refine wW ?_;refine wE hF zlo fun z8 hF=>?_
  refine wK [1,2,4,6,7] ?_;refine wE hF zkK fun z9 hF=>?_
  refine wW ?_;refine wJK hF [4,6,8] (fun x12=>[(35,.v (.bool x12))]) (fun x12 hF=>?_) fun _ hj10 hF=>?_
  ·refine wI hF (fun h14 hF=>?_) fun h14 hF=>?_
   ·refine wK [4,5] ?_;exact wm hΦ hF
   refine wW ?_;refine wK [4,5] ?_;exact wm hΦ hF
  refine wG hF (fun h13 hF=>?_) fun h13 hF=>?_
  ·exact wV h13 (hj10 _) (zaa hF)
  exact wV h13 (hj10 _) (zaa hF)
 refine wE hF zga fun z4 hF=>?_
 refine wG hF (fun h5 hF=>?_) fun h5 hF=>?_
 ·exact wV h5 (hj1 _) (zaa hF)
 try simp[go_sem,g,h5]
 refine wE hF zbh fun z6 hF=>?_
 exact wV h5 (hj1 _) (zaa hF)
def zc7(a0:Plan):Option Bool:=
 (((zep a0.Gr a0.Ct).bind fun z4=>
 if(!z4)=true then(
 some true)else(
 (zaV a0.Threshold 1 a0.Trustees).bind fun z6=>
 if(!z6)=true then(
 some true)else(
 if decide (4<a0.Trustees)=true then(
 some true)else(
 if decide (a0.Gr.Q≤7)=true then(
 some true)else(
 (zaV a0.Mixers 0 3).bind fun z10=>
 if(!z10)=true then(
 some true)else(
 (zaV a0.Voters 1 12).bind fun z12=>
 if(!z12)=true then(
 some true)else(
 (zdI a0.Seed).bind fun z14=>
 some (!z14))))))):Option Bool).bind fun x3=>
 if x3=true then(
 some false)else(
 (((zem a0.Ct).bind fun z19=>
 if z19=true then(
 (zdx a0.Ct).bind fun z21=>
 some (decide (a0.Gr.Q≤(i64.wrap (a0.Voters*z21)))))else(
 some false):Option Bool).bind fun x18=>
 if x18=true then(
 some false)else(
 (zd7 a0.Gr 12).bind fun z23=>
 some z23.2))))
theorem zrA{a0 r}(hr:zc7 a0=some r):PCalls Tryz.prog 36 [(.sh,vQ a0)] (Eo (.bool r) [.junk]):=by
 apply pF 70 [] [] [] [.tmp 2] hr zKM Tryz.func36;intro Φ hΦ hF g;unfold zc7 at hF;refine wW ?_;refine wJ hF (fun x3=>[(1,.bl [.int .i64 a0.Gr.P,.int .i64 a0.Gr.Q,.int .i64 a0.Gr.G,.int .i64 a0.Ct.Kind,.int .i64 a0.Ct.Options,.int .i64 a0.Ct.Least,.int .i64 a0.Ct.Most,.int .i64 a0.Ct.Points,.int .i64 a0.Threshold,.int .i64 a0.Trustees,.int .i64 a0.Mixers,.int .i64 a0.Voters,.int .i64 a0.Seed]),(47,.v (.bool x3))]) (fun x3 hF=>?_) fun _ hj1 hF=>?_
 ·refine wI hF (fun h15 hF=>?_) fun h15 hF=>?_
  ·exact wl hΦ hF
  refine wW ?_;refine wJ hF (fun x18=>[(1,.bl [.int .i64 a0.Gr.P,.int .i64 a0.Gr.Q,.int .i64 a0.Gr.G,.int .i64 a0.Ct.Kind,.int .i64 a0.Ct.Options,.int .i64 a0.Ct.Least,.int .i64 a0.Ct.Most,.int .i64 a0.Ct.Points,.int .i64 a0.Threshold,.int .i64 a0.Trustees,.int .i64 a0.Mixers,.int .i64 a0.Voters,.int .i64 a0.Seed]),(62,.v (.bool x18))]) (fun x18 hF=>?_) fun _ hj16 hF=>?_
  ·refine wI hF (fun h22 hF=>?_) fun h22 hF=>?_
   ·exact wl hΦ hF
   refine wW ?_;refine wE hF zpt fun z23 hF=>?_
   refine wK [4] ?_;exact wl hΦ hF
  refine wZ [k1 0 1,k2 1 1,k3 2,k0 3,k1 4 1,k2 5 1,k1 6 1,k2 7 1,k1 10 1,k1 11 1,k2 12 1,k3 8,k0 9,k0 13,k0 14] follows ?_;refine wE hF zij fun z19 hF=>?_
  refine wH hF (fun h20 hF=>?_) fun h20 hF=>?_
  ·try simp[go_sem,g,h20]
   refine wE hF znl fun z21 hF=>?_
   exact wV h20 (hj16 _) (zaa hF)
  exact wV h20 (hj16 _) (zaa hF)
 refine wE hF zrN fun z4 hF=>?_
 refine wG hF (fun h5 hF=>?_) fun h5 hF=>?_
 ·exact wV h5 (hj1 _) (zaa hF)
 try simp[go_sem,g,h5]
 refine wE hF zbh fun z6 hF=>?_
 try simp[go_sem,g,h5]
 refine wG hF (fun h7 hF=>?_) fun h7 hF=>?_
 ·exact wV h7 (hj1 _) (zaa hF)
 try simp[go_sem,g,h7]
 refine wG hF (fun h8 hF=>?_) fun h8 hF=>?_
 ·exact wV h8 (hj1 _) (zaa hF)
 try simp[go_sem,g,h8]
 refine wG hF (fun h9 hF=>?_) fun h9 hF=>?_
 ·exact wV h9 (hj1 _) (zaa hF)
 try simp[go_sem,g,h9]
 refine wE hF zbh fun z10 hF=>?_
 try simp[go_sem,g,h9]
 refine wG hF (fun h11 hF=>?_) fun h11 hF=>?_
 ·exact wV h11 (hj1 _) (zaa hF)
 try simp[go_sem,g,h11]
 refine wE hF zbh fun z12 hF=>?_
 try simp[go_sem,g,h11]
 refine wG hF (fun h13 hF=>?_) fun h13 hF=>?_
 ·exact wV h13 (hj1 _) (zaa hF)
 try simp[go_sem,g,h13]
 refine wE hF zie fun z14 hF=>?_
 exact wV h13 (hj1 _) (zaa hF)
def zfm(a0:Plan):Option Int:=
 some (i64.wrap ((i64.wrap ((i64.wrap (1+a0.Trustees))+a0.Mixers))+a0.Voters))
theorem zoc{a0 r}(hr:zfm a0=some r):PCalls Tryz.prog 38 [(.sh,vQ a0)] (Eo (.int .i64 r) [.junk]):=by
 apply pF 12 [] [] [] [.tmp 2] hr zG9 Tryz.func38;intro Φ hΦ hF g;unfold zfm at hF;refine wW ?_;refine wK [2] ?_;exact wm hΦ hF
def zeq(a0:Group)(a1:Board):Option (Plan×Bool):=
 (((zdb a0).bind fun z4=>
 if(!z4)=true then(
 some true)else(
 (zgb a0 a1).bind fun z6=>
 if(!z6)=true then(
 some true)else(
 some ((a1.Entries.length:Int)==0))):Option Bool).bind fun x3=>
 if x3=true then(
 some ((Plan.mk (Group.mk 0 0 0) (Contest.mk 0 0 0 0 0) 0 0 0 0 0),false))else(
 (ix a1.Entries 0).bind fun x9=>
 ((if(x9.Kind !=1)=true then(
 some true)else(
 if(x9.Author !=0)=true then(
 some true)else(
 some (decide ((i64.wrap ((x9.Data.length:Int)-4))<0)))):Option Bool).bind fun x12=>
 if x12=true then(
 some ((Plan.mk (Group.mk 0 0 0) (Contest.mk 0 0 0 0 0) 0 0 0 0 0),false))else(
 gd (0≤(i64.wrap ((x9.Data.length:Int)-4)))<|
 gd (0≤(i64.wrap ((x9.Data.length:Int)-4)).toNat∧(i64.wrap ((x9.Data.length:Int)-4)).toNat≤x9.Data.length)<|
 (zcL ((x9.Data.take ((i64.wrap ((x9.Data.length:Int)-4)).toNat)).drop 0)).bind fun z16=>
 gd (0≤(i64.wrap ((x9.Data.length:Int)-4)))<|
 gd ((i64.wrap ((x9.Data.length:Int)-4)).toNat≤x9.Data.length∧x9.Data.length≤x9.Data.length)<|
 (ix ((x9.Data.take x9.Data.length).drop ((i64.wrap ((x9.Data.length:Int)-4)).toNat)) 0).bind fun x17=>
 (ix ((x9.Data.take x9.Data.length).drop ((i64.wrap ((x9.Data.length:Int)-4)).toNat)) 1).bind fun x18=>
 (ix ((x9.Data.take x9.Data.length).drop ((i64.wrap ((x9.Data.length:Int)-4)).toNat)) 2).bind fun x19=>
 (ix ((x9.Data.take x9.Data.length).drop ((i64.wrap ((x9.Data.length:Int)-4)).toNat)) 3).bind fun x20=>
 ((if z16.2=true then(
 (zc7 (Plan.mk a0 z16.1 x17 x18 x19 x20 0)).bind fun z25=>
 if z25=true then(
 (zfm (Plan.mk a0 z16.1 x17 x18 x19 x20 0)).bind fun z27=>
 some (z27==(a1.Keys.length:Int)))else(
 some false))else(
 some false):Option Bool).bind fun x23=>
 some ((Plan.mk a0 z16.1 x17 x18 x19 x20 0),x23))))))
theorem zsr{a0 a1 r}(hr:zeq a0 a1=some r):PCalls Tryz.prog 53 [(.sh,vF a0),(.sh,vE a1)] (Eo (.tup [vQ r.1,.bool r.2]) zak):=by
 apply pF 90 [] [] [] [.cell 4 38,.tmp 5] hr zKX Tryz.func53;intro Φ hΦ hF g;unfold zeq at hF;refine wW ?_;refine wJK hF [2,3,4] (fun x3=>[(26,.v (.bool x3))]) (fun x3 hF=>?_) fun _ hj1 hF=>?_
 ·refine wI hF (fun h8 hF=>?_) fun h8 hF=>?_
  ·exact wl hΦ hF
  obtain⟨x9,g,hF⟩:=Rxn g 0 hF;refine wW ?_;refine wK [2,3,4,6] ?_;try simp[go_sem,g]
  try intros
  refine zap ?_;refine wJK hF [2,3,4,6,7] (fun x12=>[(47,.v (.bool x12))]) (fun x12 hF=>?_) fun _ hj10 hF=>?_
  ·refine wI hF (fun h15 hF=>?_) fun h15 hF=>?_
   ·exact wl hΦ hF
   obtain⟨g,hF⟩:=Rg g hF;obtain⟨g,hF⟩:=Rg g hF;refine wW ?_;refine wE hF zm9 fun z16 hF=>?_
   refine wK [2,3,4,6,7,8,9] ?_
   iterate 2 obtain⟨g,hF⟩:=Rg g hF
   refine wW ?_;refine wZ [k2 0 2,k2 1 8,k0 2,k0 3,k0 4,k0 5,k0 6,k0 7,k0 8,k0 9,k0 10,k0 11,k0 12,k0 13,k0 14,k0 15,k2 16 11] follows ?_;obtain⟨x17,g,hF⟩:=zuz g 0 hF;obtain⟨x18,g,hF⟩:=zuz g 1 hF;obtain⟨x19,g,hF⟩:=zuz g 2 hF;obtain⟨x20,g,hF⟩:=zuz g 3 hF;refine wK [3,4,9,11] ?_;refine wJ hF (fun x23=>[(4,.bl [.int .i64 a0.P,.int .i64 a0.Q,.int .i64 a0.G,.int .i64 z16.1.Kind,.int .i64 z16.1.Options,.int .i64 z16.1.Least,.int .i64 z16.1.Most,.int .i64 z16.1.Points,.int .i64 x17,.int .i64 x18,.int .i64 x19,.int .i64 x20,.int .i64 0]),(5,.v (.bool x23))]) (fun x23 hF=>?_) fun _ hj21 hF=>?_
   ·exact wm hΦ hF
   refine wZ [k2 0 11,k0 1,k0 2,k2 3 11,k3 4,k0 5,k0 6,k2 7 11,k1 9 3,k2 10 3,k0 11,k3 8,k0 12,k0 13,k2 14 4,k0 15] follows ?_;refine wH hF (fun h24 hF=>?_) fun h24 hF=>?_
   ·try simp[go_sem,g,h24]
    refine wE hF zrA fun z25 hF=>?_
    try simp[go_sem,g,h24]
    refine wH hF (fun h26 hF=>?_) fun h26 hF=>?_
    ·try simp[go_sem,g,h26]
     try intros
     refine wE hF zoc fun z27 hF=>?_
     exact wV h26 (hj21 _) (zaa hF)
    exact wV h26 (hj21 _) (zaa hF)
   exact wV h24 (hj21 _) (zaa hF)
  refine wG hF (fun h13 hF=>?_) fun h13 hF=>?_
  ·exact wV h13 (hj10 _) (zaa hF)
  try simp[go_sem,g,h13]
  refine wG hF (fun h14 hF=>?_) fun h14 hF=>?_
  ·exact wV h14 (hj10 _) (zaa hF)
  exact wV h14 (hj10 _) (zaa hF)
 refine wE hF zga fun z4 hF=>?_
 refine wG hF (fun h5 hF=>?_) fun h5 hF=>?_
 ·exact wV h5 (hj1 _) (zaa hF)
 try simp[go_sem,g,h5]
 refine wE hF zqC fun z6 hF=>?_
 try simp[go_sem,g,h5]
 refine wG hF (fun h7 hF=>?_) fun h7 hF=>?_
 ·exact wV h7 (hj1 _) (zaa hF)
 try simp[go_sem,g,h7]
 try intros
 exact wT (hj1 _) (zaa hF)
def zgM(a0:Board)(a1:Int)(a2:Int):Option ((List Int)):=
 ((zau (σ:=(List Int)) (fun i5 s4=>
 (((ix a0.Entries i5).bind fun x14=>
 ((if(x14.Kind==a1)=true then(
 if decide (a2<0)=true then(
 some true)else(
 some (x14.Author==a2)))else(
 some false):Option Bool).bind fun x17=>
 if x17=true then(
 gd ((s4.length+1)*8≤140737488355328∧s4.length+1≤4611686018427387904)<|
 some (s4++[i5]))else(
 some s4)):Option ((List Int))).bind fun x13=>
 some (.go x13))) (fun s4=>s4) (a0.Entries.length) 0 []:Option ((List Int))).bind fun x3=>
 some x3)
theorem zrE{a0 a1 a2 r}(hr:zgM a0 a1 a2=some r):PCalls Tryz.prog 93 [(.sh,vE a0),(.sh,.int .i64 a1),(.sh,.int .i64 a2)] (Eo (vG r) zcj):=by
 apply pF 38 [] [] [] [.tmp 6] hr zJB Tryz.func93;intro Φ hΦ hF g;unfold zgM at hF
 iterate 3 (try simp[go_sem,g];try intros;refine zap ?_)
 refine wJ hF (fun x3=>[(7,.v (vG x3))]) (fun x3 hF=>?_) fun _ hj1 hF=>?_
 ·exact wl hΦ hF
 refine wB ?_;obtain⟨b21,hb22,hψ8⟩:=hF;refine pRK hb22 [1,2,11,12] (fun i5 s4=>[(7,.v (vG s4)),(13,.v (.int .i64 i5))]) (fun s4 _ hN23=>?_) fun i5 s4 _ _ hi9 hi10 ho6 hg7 hF=>?_
 ·exact wn hN23 (hj1 _) hψ8
 refine wW ?_;refine wu hi9 hi10 ?_;refine wW ?_;refine wJK hF [1,2,11,12,13] (fun x13=>[(7,.v (vG x13))]) (fun x13 hF=>?_) fun _ hj11 hF=>?_
 ·exact wi hi9 hi10 (hg7 _) (zaa hF)
 refine wB ?_;obtain⟨x14,g,hF⟩:=Rx g hF;refine wK [1,2,7,8,9,11,12,13] ?_;refine wJK hF [1,2,7,8,11,12,13] (fun x17=>[(31,.v (.bool x17))]) (fun x17 hF=>?_) fun _ hj15 hF=>?_
 ·refine wI hF (fun h20 hF=>?_) fun h20 hF=>?_
  ·obtain⟨g,hF⟩:=Rg g hF;exact wT (hj11 _) (zaa hF)
  exact wT (hj11 _) (zaa hF)
 refine wG hF (fun h18 hF=>?_) fun h18 hF=>?_
 ·try simp[go_sem,g,h18]
  refine wG hF (fun h19 hF=>?_) fun h19 hF=>?_
  ·try simp[go_sem,g,h19,h18]
   exact wT (hj15 _) (zaa hF)
  try simp[go_sem,g,h19,h18]
  exact wT (hj15 _) (zaa hF)
 exact wV h18 (hj15 _) (zaa hF)
def zgE(a0:Plan)(a1:Board):Option (List Int×Bool):=
 ((zax (σ:=(List Int)×Int) (fun s4=>
 if decide (s4.2<a0.Threshold)=true then(
 gd ((s4.1.length+1)*8≤140737488355328∧s4.1.length+1≤4611686018427387904)<|
 some (.go (s4.1++[1],i64.wrap (s4.2+1))))else(
 some (.out s4.1))) ([],0):Option ((List Int))).bind fun x3=>
 ((zax (σ:=(List Int)×Int) (fun s58=>
 if decide (s58.2≤a0.Trustees)=true then(
 (((zgM a1 2 s58.2).bind fun z67=>
 if((z67.length:Int) !=1)=true then(
 some (.inr (.out (.inr ([],false)))))else(
 (ix z67 0).bind fun x69=>
 (ix a1.Entries x69).bind fun x70=>
 ((if((x70.Data.length:Int) !=a0.Threshold)=true then(
 some true)else(
 (zed a0.Gr x70.Data).bind fun z75=>
 some (!z75)):Option Bool).bind fun x73=>
 if x73=true then(
 some (.inr (.out (.inr ([],false)))))else(
 zau (σ:=(List Int)) (fun i88 s87=>
 (ix x70.Data i88).bind fun x94=>
 (ix s87 i88).bind fun x95=>
 (zcn a0.Gr [x95,x94]).bind fun z96=>
 some (.go (s87.set i88.toNat z96))) (fun s87=>.inl s87) (x70.Data.length) 0 s58.1))):Option ((List Int) ⊕ (Stp (List Int×Int) ((List Int) ⊕ (List Int×Bool))))).bind (Sum.elim (fun x66=>
 some (.go (x66,i64.wrap (s58.2+1)))) some)))else(
 some (.out (.inl s58.1)))) (x3,1):Option ((List Int) ⊕ (List Int×Bool))).bind (Sum.elim (fun x14=>
 some (x14,true)) some)))
theorem zrs{a0 a1 r}(hr:zgE a0 a1=some r):PCalls Tryz.prog 54 [(.sh,vQ a0),(.sh,vE a1)] (Eo (.tup [vG r.1,.bool r.2]) zak):=by
 apply pF 75 [] [] [] [.tmp 4,.tmp 5] hr zJ9 Tryz.func54;intro Φ hΦ hF g;unfold zgE at hF
 iterate 3 refine wW ?_
 refine wJK hF [2,3] (fun x3=>[(6,.v (vG x3))]) (fun x3 hF=>?_) fun _ hj1 hF=>?_
 ·refine wW ?_;refine wS hF (fun x14=>[(6,.v (vG x14))]) (fun x14 hF=>?_) fun _ hj12 hr13 hF=>?_
  ·refine wK [4,5] ?_;exact wm hΦ hF
  refine wB ?_;obtain⟨b101,hb102,hψ62⟩:=hF;refine pLK hb102 [2,3] (fun s58=>[(6,.v (vG s58.1)),(8,.v (.int .i64 s58.2))]) fun s58 _ _ ho60 hg61 hF=>?_
  refine wK [2,3,6,8,25] ?_;refine wI hF (fun h63 hF=>?_) fun h63 hF=>?_
  ·refine wW ?_;refine wSK hF [2,3,8] (fun x66=>[(6,.v (vG x66))]) (fun x66 hF=>?_) fun _ hj64 hr65 hF=>?_
   ·exact wT (hg61 _) (zaa hF)
   refine wB ?_;refine wE hF zrE fun z67 hF=>?_
   iterate 2 (try simp[go_sem,g];try intros;refine zap ?_)
   refine wI hF (fun h68 hF=>?_) fun h68 hF=>?_
   ·cases ho60 _ (hr65 _ (zaa hF));cases hΦ _ (hr13 _ hψ62);refine wW ?_;try simp[go_sem,g]
   refine wW ?_;refine wZ [k1 0 3,k2 1 3,k0 2,k0 3,k0 4,k0 5,k0 6,k0 7,k0 8] follows ?_;obtain⟨x69,g,hF⟩:=Rxn g 0 hF;obtain⟨x70,g,hF⟩:=Rx g hF;refine wK [2,3,6,8,10] ?_;refine wJK hF [2,3,6,8,10] (fun x73=>[(53,.v (.bool x73))]) (fun x73 hF=>?_) fun _ hj71 hF=>?_
   ·refine wI hF (fun h76 hF=>?_) fun h76 hF=>?_
    ·cases ho60 _ (hr65 _ (zaa hF));cases hΦ _ (hr13 _ hψ62);refine wW ?_;try simp[go_sem,g]
    iterate 2 (try simp[go_sem,g];try intros;refine zap ?_)
    refine wB ?_;obtain⟨b97,hb98,hψ91⟩:=hF;refine pRK hb98 [2,3,8,54,55] (fun i88 s87=>[(6,.v (vG s87)),(56,.v (.int .i64 i88))]) (fun s87 _ hN99=>?_) fun i88 s87 _ _ hi92 hi93 ho89 hg90 hF=>?_
    ·exact wn hN99 (hj64 _) hψ91
    refine wW ?_;refine wu hi92 hi93 ?_;refine wW ?_;refine wB ?_;obtain⟨x94,g,hF⟩:=Rx g hF;refine wW ?_;refine wZ [k0 0,k0 1,k1 2 2,k2 3 2,k0 4,k0 5,k0 6,k0 7,k0 8,k0 9,fun _=>⟨10,[64,70],[],none,true,true,true⟩,k0 11,k0 12] follows ?_;obtain⟨x95,g,hF⟩:=Rx g hF;refine wE hF zft fun z96 hF=>?_
    refine wK [2,3,6,8,54,55,56] ?_;exact wi hi92 hi93 (hg90 _) (zaa hF)
   try simp[go_sem,g]
   try intros
   refine wG hF (fun h74 hF=>?_) fun h74 hF=>?_
   ·exact wV h74 (hj71 _) (zaa hF)
   try simp[go_sem,g,h74]
   refine wE hF zh2 fun z75 hF=>?_
   exact wV h74 (hj71 _) (zaa hF)
  cases ho60 _ (zaa hF);exact wT (hj12 _) hψ62
 refine wB ?_;obtain⟨b10,hb11,hψ8⟩:=hF;refine pLK hb11 [2,3] (fun s4=>[(6,.v (vG s4.1)),(7,.v (.int .i64 s4.2))]) fun s4 _ _ ho6 hg7 hF=>?_
 refine wK [2,3,6,7,16] ?_;refine wI hF (fun h9 hF=>?_) fun h9 hF=>?_
 ·refine wW ?_;refine wB ?_;obtain⟨g,hF⟩:=Rg g hF;refine wW ?_;exact wT (hg7 _) (zaa hF)
 cases ho6 _ (zaa hF);exact wT (hj1 _) hψ8
def zdQ(a0:Group)(a1:Board):Option (uX×Bool):=
 (zeq a0 a1).bind fun z1=>
 if(!z1.2)=true then(
 some ((uX.mk (Plan.mk (Group.mk 0 0 0) (Contest.mk 0 0 0 0 0) 0 0 0 0 0) []),false))else(
 (zgE z1.1 a1).bind fun z3=>
 some ((uX.mk z1.1 z3.1),z3.2))
theorem zqA{a0 a1 r}(hr:zdQ a0 a1=some r):PCalls Tryz.prog 30 [(.sh,vF a0),(.sh,vE a1)] (Eo (.tup [vR r.1,.bool r.2]) zak):=by
 apply pF 29 [] [] [] [.cell 4 63,.tmp 5] hr zIQ Tryz.func30;intro Φ hΦ hF g;unfold zdQ at hF;refine wW ?_;refine wE hF zsr fun z1 hF=>?_
 refine wK [3,4,6,7] ?_;refine wW ?_;refine wI hF (fun h2 hF=>?_) fun h2 hF=>?_
 ·exact wl hΦ hF
 refine wW ?_;refine wE hF zrs fun z3 hF=>?_
 refine wK [4,6,8,9] ?_;exact wl hΦ hF
def zdJ(a0:List Int):Option Bool:=
 ((if decide ((a0.length:Int)≤400)=true then(
 (zej a0 0 4611686018427387903).bind fun z5=>
 some z5)else(
 some false):Option Bool).bind fun x3=>
 some x3)
theorem zhU{a0 r}(hr:zdJ a0=some r):PCalls Tryz.prog 155 [(.sh,vA a0)] (Eo (.bool r) [.junk]):=by
 apply pF 10 [] [] [] [.tmp 2] hr zE5 Tryz.func155;intro Φ hΦ hF g;unfold zdJ at hF;refine wW ?_;refine wJ hF (fun x3=>[(2,.v (.bool x3))]) (fun x3 hF=>?_) fun _ hj1 hF=>?_
 ·exact wm hΦ hF
 try simp[go_sem,g]
 try intros
 refine wG hF (fun h4 hF=>?_) fun h4 hF=>?_
 ·try simp[go_sem,g,h4]
  refine wE hF zjN fun z5 hF=>?_
  exact wV h4 (hj1 _) (zaa hF)
 exact wV h4 (hj1 _) (zaa hF)
def zh3(a0:List Int):Option ((List Int)):=
 gd (a0.length*8≤140737488355328∧a0.length≤4611686018427387904)<|
 some a0
theorem zsg{a0 r}(hr:zh3 a0=some r):PCalls Tryz.prog 195 [(.sh,vA a0)] (Eo (vG r) [.junk]):=by
 apply pF 6 [] [] [] [.tmp 2] hr zDi Tryz.func195;intro Φ hΦ hF g;unfold zh3 at hF;obtain⟨g,hF⟩:=Rg g hF;cases hΦ _ (zaa hF)
 iterate 2 refine wW ?_
 try simp[go_sem,g]
def zci(a0:List Int):Option (List Int×List Int×Bool):=
 ((if((a0.length:Int)==0)=true then(
 some true)else(
 (ix a0 0).bind fun x5=>
 if decide (x5<0)=true then(
 some true)else(
 some (decide ((a0.length:Int)≤x5)))):Option Bool).bind fun x3=>
 if x3=true then(
 some ([],[],false))else(
 (ix a0 0).bind fun x8=>
 gd (0≤(i64.wrap (x8+1)))<|
 gd (1≤(i64.wrap (x8+1)).toNat∧(i64.wrap (x8+1)).toNat≤a0.length)<|
 gd (0≤(i64.wrap (x8+1)))<|
 gd ((i64.wrap (x8+1)).toNat≤a0.length∧a0.length≤a0.length)<|
 (zh3 ((a0.take ((i64.wrap (x8+1)).toNat)).drop 1)).bind fun z9=>
 some (z9,(a0.take a0.length).drop ((i64.wrap (x8+1)).toNat),true)))
theorem zhk{a0 r}(hr:zci a0=some r):PCalls Tryz.prog 156 [(.sh,vA a0)] (Eo (.tup [vG r.1,vA r.2.1,.bool r.2.2]) [.junk]):=by
 apply pF 34 [] [3] [] [.tmp 2,.tmp 3,.tmp 4] hr zC2 Tryz.func156;intro Φ hΦ hF g;unfold zci at hF;refine wW ?_;refine wJ hF (fun x3=>[(0,.v (vA a0)),(22,.v (.bool x3))]) (fun x3 hF=>?_) fun _ hj1 hF=>?_
 ·refine wI hF (fun h7 hF=>?_) fun h7 hF=>?_
  ·exact wl hΦ hF
  obtain⟨x8,g,hF⟩:=Rxn g 0 hF
  iterate 2 refine wW ?_
  refine wZ [k0 0,k0 1,k0 2,k0 4,k0 5,k0 6,k3 3,k0 7,k0 8,k0 9] follows ?_
  iterate 4 obtain⟨g,hF⟩:=Rg g hF
  refine wE hF zsg fun z9 hF=>?_
  refine wK [2,3,4] ?_;exact wm hΦ hF
 try simp[go_sem,g]
 try intros
 refine wG hF (fun h4 hF=>?_) fun h4 hF=>?_
 ·exact wV h4 (hj1 _) (zaa hF)
 obtain⟨x5,g,hF⟩:=Rxn g 0 hF;try simp[go_sem,g,h4]
 refine wG hF (fun h6 hF=>?_) fun h6 hF=>?_
 ·exact wV h6 (hj1 _) (zaa hF)
 try simp[go_sem,g,h6]
 try intros
 exact wT (hj1 _) (zaa hF)
def zez(a0:List Int):Option ((List (List Int))×Bool):=
 (((zdJ a0).bind fun z4=>
 if(!z4)=true then(
 some true)else(
 if((a0.length:Int)==0)=true then(
 some true)else(
 (ix a0 0).bind fun x7=>
 some (decide ((a0.length:Int)<x7)))):Option Bool).bind fun x3=>
 if x3=true then(
 some ([],false))else(
 gd (1≤a0.length∧a0.length≤a0.length)<|
 ((zax (σ:=(List (List Int))×List Int×Int) (fun s21=>
 (ix a0 0).bind fun x26=>
 if decide (s21.2.2<x26)=true then(
 (zci s21.2.1).bind fun z28=>
 if(!z28.2.2)=true then(
 some (.out (.inr ([],false))))else(
 gd ((s21.1.length+1)*24≤140737488355328∧s21.1.length+1≤4611686018427387904)<|
 some (.go (s21.1++[z28.1],z28.2.1,i64.wrap (s21.2.2+1)))))else(
 some (.out (.inl (s21.1,s21.2.1))))) ([],(a0.take a0.length).drop 1,0):Option (((List (List Int))×List Int) ⊕ ((List (List Int))×Bool))).bind (Sum.elim (fun x11=>
 some (x11.1,((x11.2.length:Int)==0))) some))))
theorem zql{a0 r}(hr:zez a0=some r):PCalls Tryz.prog 109 [(.sh,vA a0)] (Eo (.tup [vS r.1,.bool r.2]) [.junk]):=by
 apply pF 52 [] [] [] [.tmp 2,.tmp 3] hr zEJ Tryz.func109;intro Φ hΦ hF g;unfold zez at hF;refine wW ?_;refine wJ hF (fun x3=>[(0,.v (vA a0)),(25,.v (.bool x3))]) (fun x3 hF=>?_) fun _ hj1 hF=>?_
 ·refine wI hF (fun h8 hF=>?_) fun h8 hF=>?_
  ·exact wl hΦ hF
  obtain⟨g,hF⟩:=Rg g hF
  iterate 4 refine wW ?_
  refine wS hF (fun x11=>[(4,.v (vS x11.1)),(5,.v (vA x11.2))]) (fun x11 hF=>?_) fun _ hj9 hr10 hF=>?_
  ·try simp[go_sem,g]
   try intros
   refine wK [2,3] ?_;exact wm hΦ hF
  refine wB ?_;obtain⟨b30,hb31,hψ25⟩:=hF;refine pL hb31 (fun s21=>[(0,.v (vA a0)),(4,.v (vS s21.1)),(5,.v (vA s21.2.1)),(6,.v (.int .i64 s21.2.2))]) fun s21 _ _ ho23 hg24 hF=>?_
  obtain⟨x26,g,hF⟩:=Rxn g 0 hF;refine wK [0,4,5,6,32] ?_;refine wI hF (fun h27 hF=>?_) fun h27 hF=>?_
  ·refine wW ?_;refine wB ?_;refine wE hF zhk fun z28 hF=>?_
   refine wW ?_;refine wK [0,4,6,7,8,42] ?_;refine wI hF (fun h29 hF=>?_) fun h29 hF=>?_
   ·cases ho23 _ (zaa hF);cases hΦ _ (hr10 _ hψ25);refine wW ?_;try simp[go_sem,g]
   obtain⟨g,hF⟩:=Rg g hF
   iterate 3 refine wW ?_
   exact wT (hg24 _) (zaa hF)
  cases ho23 _ (zaa hF);exact wT (hj9 _) hψ25
 refine wE hF zhU fun z4 hF=>?_
 refine wG hF (fun h5 hF=>?_) fun h5 hF=>?_
 ·exact wV h5 (hj1 _) (zaa hF)
 try simp[go_sem,g,h5]
 try intros
 refine wG hF (fun h6 hF=>?_) fun h6 hF=>?_
 ·exact wV h6 (hj1 _) (zaa hF)
 obtain⟨x7,g,hF⟩:=Rxn g 0 hF;try simp[go_sem,g,h6]
 try intros
 exact wT (hj1 _) (zaa hF)
def zc0(a0:List Int):Option (List Cipher×Bool):=
 (((zdJ a0).bind fun z4=>
 if(!z4)=true then(
 some true)else(
 if((a0.length:Int)==0)=true then(
 some true)else(
 (ix a0 0).bind fun x7=>
 some ((a0.length:Int) !=(i64.wrap (1+(i64.wrap (2*x7))))))):Option Bool).bind fun x3=>
 if x3=true then(
 some ([],false))else(
 ((zax (σ:=(List Cipher)×Int) (fun s12=>
 if decide (s12.2<(a0.length:Int))=true then(
 (ix a0 s12.2).bind fun x18=>
 (ix a0 (i64.wrap (s12.2+1))).bind fun x19=>
 gd ((s12.1.length+1)*16≤140737488355328∧s12.1.length+1≤4611686018427387904)<|
 some (.go (s12.1++[(Cipher.mk x18 x19)],i64.wrap (s12.2+2))))else(
 some (.out s12.1))) ([],1):Option ((List Cipher))).bind fun x11=>
 some (x11,true))))
theorem zlO{a0 r}(hr:zc0 a0=some r):PCalls Tryz.prog 110 [(.sh,vA a0)] (Eo (.tup [vT r.1,.bool r.2]) [.junk]):=by
 apply pF 44 [] [] [] [.tmp 2,.tmp 3] hr zCl Tryz.func110;intro Φ hΦ hF g;unfold zc0 at hF;refine wW ?_;refine wJ hF (fun x3=>[(0,.v (vA a0)),(23,.v (.bool x3))]) (fun x3 hF=>?_) fun _ hj1 hF=>?_
 ·refine wI hF (fun h8 hF=>?_) fun h8 hF=>?_
  ·exact wl hΦ hF
  iterate 3 refine wW ?_
  refine wJ hF (fun x11=>[(4,.v (vT x11))]) (fun x11 hF=>?_) fun _ hj9 hF=>?_
  ·exact wl hΦ hF
  refine wB ?_;obtain⟨b20,hb21,hψ16⟩:=hF;refine pL hb21 (fun s12=>[(0,.v (vA a0)),(4,.v (vT s12.1)),(5,.v (.int .i64 s12.2))]) fun s12 _ _ ho14 hg15 hF=>?_
  try simp[go_sem,g]
  try intros
  refine zap ?_;refine wI hF (fun h17 hF=>?_) fun h17 hF=>?_
  ·refine wW ?_;refine wB ?_;refine wZ [k0 0,k0 1,k0 2,k0 3,k0 4,k0 5,k0 6,k0 7,k0 8,k0 9,k0 10,k0 11,fun _=>⟨12,[30,41],[],none,true,false,false⟩,k0 13] follows ?_;obtain⟨x18,g,hF⟩:=Rx g hF;obtain⟨x19,g,hF⟩:=Rx g hF;obtain⟨g,hF⟩:=Rg g hF;refine wK [0,4,5] ?_;exact wT (hg15 _) (zaa hF)
  cases ho14 _ (zaa hF);exact wT (hj9 _) hψ16
 refine wE hF zhU fun z4 hF=>?_
 refine wG hF (fun h5 hF=>?_) fun h5 hF=>?_
 ·exact wV h5 (hj1 _) (zaa hF)
 try simp[go_sem,g,h5]
 try intros
 refine wG hF (fun h6 hF=>?_) fun h6 hF=>?_
 ·exact wV h6 (hj1 _) (zaa hF)
 obtain⟨x7,g,hF⟩:=Rxn g 0 hF;try simp[go_sem,g,h6]
 try intros
 exact wT (hj1 _) (zaa hF)
def zcO(a0:List Int):Option (Proof×Bool):=
 (zdJ a0).bind fun z1=>
 if(!z1)=true then(
 some ((Proof.mk [] [] []),false))else(
 (zci a0).bind fun z3=>
 (zci z3.2.1).bind fun z4=>
 (zci z4.2.1).bind fun z5=>
 ((if(!z3.2.2)=true then(
 some true)else(
 if(!z4.2.2)=true then(
 some true)else(
 if(!z5.2.2)=true then(
 some true)else(
 some (decide (0<(z5.2.1.length:Int)))))):Option Bool).bind fun x8=>
 if x8=true then(
 some ((Proof.mk [] [] []),false))else(
 some ((Proof.mk z3.1 z4.1 z5.1),true))))
theorem znd{a0 r}(hr:zcO a0=some r):PCalls Tryz.prog 111 [(.sh,vA a0)] (Eo (.tup [vH r.1,.bool r.2]) [.junk]):=by
 apply pF 53 [] [] [] [.cell 2 82,.tmp 3] hr zE4 Tryz.func111;intro Φ hΦ hF g;unfold zcO at hF;refine wW ?_;refine wE hF zhU fun z1 hF=>?_
 refine wW ?_;refine wI hF (fun h2 hF=>?_) fun h2 hF=>?_
 ·exact wl hΦ hF
 refine wW ?_;refine wE hF zhk fun z3 hF=>?_
 refine wK [2,4,5,6] ?_;refine wE hF zhk fun z4 hF=>?_
 refine wW ?_;refine wE hF zhk fun z5 hF=>?_
 refine wK [2,4,5,6,7,8,9,10] ?_;refine wJK hF [2,4,7,9] (fun x8=>[(47,.v (.bool x8))]) (fun x8 hF=>?_) fun _ hj6 hF=>?_
 ·refine wI hF (fun h12 hF=>?_) fun h12 hF=>?_
  ·exact wl hΦ hF
  cases hΦ _ (zaa hF)
  iterate 2 refine wW ?_
  try simp[go_sem,g]
 refine wG hF (fun h9 hF=>?_) fun h9 hF=>?_
 ·exact wV h9 (hj6 _) (zaa hF)
 try simp[go_sem,g,h9]
 refine wG hF (fun h10 hF=>?_) fun h10 hF=>?_
 ·exact wV h10 (hj6 _) (zaa hF)
 try simp[go_sem,g,h10]
 refine wG hF (fun h11 hF=>?_) fun h11 hF=>?_
 ·exact wV h11 (hj6 _) (zaa hF)
 try simp[go_sem,g,h11]
 try intros
 exact wT (hj6 _) (zaa hF)
def zcv(a0:List Int):Option (Sealed×Bool):=
 (zez a0).bind fun z1=>
 ((if(!z1.2)=true then(
 some true)else(
 if decide ((z1.1.length:Int)<3)=true then(
 some true)else(
 (ix z1.1 0).bind fun x7=>
 if((x7.length:Int) !=1)=true then(
 some true)else(
 (ix x7 0).bind fun x9=>
 some (decide (999999<x9))))):Option Bool).bind fun x4=>
 if x4=true then(
 some ((Sealed.mk 0 [] [] (Proof.mk [] [] [])),false))else(
 (ix z1.1 0).bind fun x11=>
 (ix x11 0).bind fun x12=>
 (ix z1.1 1).bind fun x13=>
 (zc0 x13).bind fun z14=>
 if(!z14.2)=true then(
 some ((Sealed.mk 0 [] [] (Proof.mk [] [] [])),false))else(
 gd (2≤z1.1.length∧z1.1.length≤z1.1.length)<|
 ((zau (σ:=Int×List Cipher×List Proof×List Int×List Int×List Int) (fun i50 s49=>
 (((ix ((z1.1.take z1.1.length).drop 2) i50).bind fun x60=>
 (zcO x60).bind fun z61=>
 if(!z61.2)=true then(
 some (.inr (.out (.inr ((Sealed.mk 0 [] [] (Proof.mk [] [] [])),false)))))else(
 if(i50==(i64.wrap ((z1.1.length:Int)-3)))=true then(
 some (.inl (s49.1,s49.2.1,s49.2.2.1,z61.1.Commits,z61.1.Challenges,z61.1.Responses)))else(
 gd ((s49.2.2.1.length+1)*72≤140737488355328∧s49.2.2.1.length+1≤4611686018427387904)<|
 some (.inl (s49.1,s49.2.1,s49.2.2.1++[z61.1],s49.2.2.2.1,s49.2.2.2.2.1,s49.2.2.2.2.2)))):Option ((Int×List Cipher×List Proof×List Int×List Int×List Int) ⊕ (Stp (Int×List Cipher×List Proof×List Int×List Int×List Int) ((Int×List Cipher×List Proof×List Int×List Int×List Int) ⊕ (Sealed×Bool))))).bind (Sum.elim (fun x59=>
 some (.go (x59.1,x59.2.1,x59.2.2.1,x59.2.2.2.1,x59.2.2.2.2.1,x59.2.2.2.2.2))) some))) (fun s49=>.inl (s49.1,s49.2.1,s49.2.2.1,s49.2.2.2.1,s49.2.2.2.2.1,s49.2.2.2.2.2)) (((z1.1.take z1.1.length).drop 2).length) 0 (x12,z14.1,[],[],[],[]):Option ((Int×List Cipher×List Proof×List Int×List Int×List Int) ⊕ (Sealed×Bool))).bind (Sum.elim (fun x18=>
 some ((Sealed.mk x18.1 x18.2.1 x18.2.2.1 (Proof.mk x18.2.2.2.1 x18.2.2.2.2.1 x18.2.2.2.2.2)),true)) some)))))
theorem znU{a0 r}(hr:zcv a0=some r):PCalls Tryz.prog 71 [(.sh,vA a0)] (Eo (.tup [vV r.1,.bool r.2]) [.junk]):=by
 apply pF 90 [] [4] [] [.cell 2 88,.tmp 3] hr zJF Tryz.func71;intro Φ hΦ hF g;unfold zcv at hF;refine wW ?_;refine wE hF zql fun z1 hF=>?_
 refine wW ?_;refine wJK hF [2,4] (fun x4=>[(39,.v (.bool x4))]) (fun x4 hF=>?_) fun _ hj2 hF=>?_
 ·refine wI hF (fun h10 hF=>?_) fun h10 hF=>?_
  ·refine wK [2,3] ?_;exact wm hΦ hF
  obtain⟨x11,g,hF⟩:=Rxn g 0 hF;obtain⟨x12,g,hF⟩:=Rxn g 0 hF;refine wW ?_;refine wK [2,4,6] ?_;obtain⟨x13,g,hF⟩:=Rxn g 1 hF;refine wE hF zlO fun z14 hF=>?_
  refine wW ?_;refine wK [2,4,6,7,55] ?_;refine wI hF (fun h15 hF=>?_) fun h15 hF=>?_
  ·exact wl hΦ hF
  obtain⟨g,hF⟩:=Rg g hF
  iterate 3 (try simp[go_sem,g];try intros;refine zap ?_)
  refine wS hF (fun x18=>[(2,.bl [.int .i64 0,.sl true 2 [],.sl true 3 [],.sl true 1 [],.sl true 1 [],.sl true 1 []]),(6,.bl [.int .i64 x18.1,vT x18.2.1,vU x18.2.2.1,vG x18.2.2.2.1,vG x18.2.2.2.2.1,vG x18.2.2.2.2.2])]) (fun x18 hF=>?_) fun _ hj16 hr17 hF=>?_
  ·refine wK [2,3] ?_;exact wm hΦ hF
  refine wB ?_;obtain⟨b64,hb65,hψ53⟩:=hF;refine pRK hb65 [2,4,60,61] (fun i50 s49=>[(6,.bl [.int .i64 s49.1,vT s49.2.1,vU s49.2.2.1,vG s49.2.2.2.1,vG s49.2.2.2.2.1,vG s49.2.2.2.2.2]),(62,.v (.int .i64 i50))]) (fun s49 _ hN66=>?_) fun i50 s49 _ _ hi54 hi55 ho51 hg52 hF=>?_
  ·exact wn hN66 (hj16 _) hψ53
  have hi56:=hi55;try simp at hi56
  refine wW ?_;refine wt ?_ (hb:=by simp[go_sem,g,hi54,hi55,hi56]<;>omega);refine wW ?_;refine wSK hF [2,4,60,61,62] (fun x59=>[(6,.bl [.int .i64 x59.1,vT x59.2.1,vU x59.2.2.1,vG x59.2.2.2.1,vG x59.2.2.2.2.1,vG x59.2.2.2.2.2])]) (fun x59 hF=>?_) fun _ hj57 hr58 hF=>?_
  ·exact wT (hg52 (x59.1,x59.2.1,x59.2.2.1,x59.2.2.2.1,x59.2.2.2.2.1,x59.2.2.2.2.2)) (zaa hF) (a:=by simp[go_sem,g,zx6 hi54 hi55 (by first|assumption|(simp;assumption)|(simp;omega))])
  refine wB ?_;obtain⟨x60,g,hF⟩:=Rxq g hF;refine wK [2,4,6,9,10,60,61,62] ?_;refine wE hF znd fun z61 hF=>?_
  refine wW ?_;refine wK [2,4,6,9,11,60,61,62,73] ?_;refine wI hF (fun h62 hF=>?_) fun h62 hF=>?_
  ·cases ho51 _ (hr58 _ (zaa hF));cases hΦ _ (hr17 _ hψ53);refine wW ?_;try simp[go_sem,g]
  iterate 2 (try simp[go_sem,g];try intros;refine zap ?_)
  refine wI hF (fun h63 hF=>?_) fun h63 hF=>?_
  ·exact wT (hj57 _) (zaa hF)
  obtain⟨g,hF⟩:=Rg g hF;exact wT (hj57 _) (zaa hF)
 refine wG hF (fun h5 hF=>?_) fun h5 hF=>?_
 ·exact wV h5 (hj2 _) (zaa hF)
 try simp[go_sem,g,h5]
 try intros
 refine wG hF (fun h6 hF=>?_) fun h6 hF=>?_
 ·exact wV h6 (hj2 _) (zaa hF)
 obtain⟨x7,g,hF⟩:=Rxn g 0 hF;try simp[go_sem,g,h6]
 try intros
 refine wG hF (fun h8 hF=>?_) fun h8 hF=>?_
 ·exact wV h8 (hj2 _) (zaa hF)
 obtain⟨x9,g,hF⟩:=Rxn g 0 hF;exact wV h8 (hj2 _) (zaa hF)
def zhm(a0:Plan)(a1:Int):Option Int:=
 some (i64.wrap ((i64.wrap ((i64.wrap (1+a0.Trustees))+a0.Mixers))+a1))
theorem zqz{a0 a1 r}(hr:zhm a0 a1=some r):PCalls Tryz.prog 72 [(.sh,vQ a0),(.sh,.int .i64 a1)] (Eo (.int .i64 r) zak):=by
 apply pF 13 [] [] [] [.tmp 4] hr zJW Tryz.func72;intro Φ hΦ hF g;unfold zhm at hF;refine wW ?_;refine wK [4] ?_;exact wm hΦ hF
def zfl(a0:Contest):Option Int:=
 (zem a0).bind fun z1=>
 if z1=true then(
 some a0.Options)else(
 some 1)
theorem zlF{a0 r}(hr:zfl a0=some r):PCalls Tryz.prog 112 [(.sh,vO a0)] (Eo (.int .i64 r) [.junk]):=by
 apply pF 7 [] [] [] [.tmp 2] hr zDu Tryz.func112;intro Φ hΦ hF g;unfold zfl at hF;refine wW ?_;refine wE hF zij fun z1 hF=>?_
 refine wW ?_;refine wI hF (fun h2 hF=>?_) fun h2 hF=>?_
 ·exact wl hΦ hF
 cases hΦ _ (zaa hF)
 iterate 2 refine wW ?_
 try simp[go_sem,g]
def zgx(a0:Group)(a1:List Cipher):Option Bool:=
 if decide (24<(a1.length:Int))=true then(
 some false)else(
 ((zau (σ:=Unit) (fun i6 s5=>
 (ix a1 i6).bind fun x12=>
 (zed a0 [x12.A,x12.B]).bind fun z13=>
 if(!z13)=true then(
 some (.out (.inr false)))else(
 some (.go ()))) (fun s5=>.inl ()) (a1.length) 0 ():Option (Unit ⊕ Bool)).bind (Sum.elim (fun x4=>
 some true) some)))
theorem zrq{a0 a1 r}(hr:zgx a0 a1=some r):PCalls Tryz.prog 113 [(.sh,vF a0),(.sh,vW a1)] (Eo (.bool r) zak):=by
 apply pF 25 [] [] [] [.tmp 4] hr zE1 Tryz.func113;intro Φ hΦ hF g;unfold zgx at hF
 iterate 2 (try simp[go_sem,g];try intros;refine zap ?_)
 refine wI hF (fun h1 hF=>?_) fun h1 hF=>?_
 ·exact wl hΦ hF
 iterate 2 (try simp[go_sem,g];try intros;refine zap ?_)
 refine wS hF (fun x4=>[]) (fun x4 hF=>?_) fun _ hj2 hr3 hF=>?_
 ·exact wl hΦ hF
 refine wB ?_;obtain⟨b15,hb16,hψ9⟩:=hF;refine pRK hb16 [2,10,11] (fun i6 s5=>[(12,.v (.int .i64 i6))]) (fun s5 _ hN17=>?_) fun i6 s5 _ _ hi10 hi11 ho7 hg8 hF=>?_
 ·exact wn hN17 (hj2 _) hψ9
 refine wW ?_;refine wu hi10 hi11 ?_;refine wW ?_;refine wB ?_;obtain⟨x12,g,hF⟩:=Rx g hF;refine wK [2,6,10,11,12] ?_;refine wE hF zh2 fun z13 hF=>?_
 refine wW ?_;refine wI hF (fun h14 hF=>?_) fun h14 hF=>?_
 ·cases ho7 _ (zaa hF);cases hΦ _ (hr3 _ hψ9);refine wW ?_;try simp[go_sem,g]
 refine wW ?_;exact wi hi10 hi11 (hg8 _) (zaa hF)
@[go_sem] def zAX:List DE:=[d0 0 [0],d0 1 [10],d0 3 [0],d0 4 [13],d0 5 [14],d0 6 [15],d0 7 [16],d3 2 [11],⟨8,[17],[],none,true,true,false⟩,d0 9 [12,18],d0 10 [19]]
@[go_sem] def zyn:List DE:=[d0 0 [0],d0 1 [10],d0 3 [0],d0 4 [13],d0 5 [14],d0 6 [15],d0 7 [16],⟨8,[17],[],none,true,true,false⟩,d3 2 [11],d0 9 [12,18],d0 10 [19]]
def zbo:Nat→Int→Option ByteArray
 |0,_=>none
 |n_+1,a0=>
 if decide (a0<10)=true then(
 some (zcY [u8.wrap (i64.wrap (48+a0))]))else(
 (zbo n_ (i64.wrap (a0.tdiv 10))).bind fun z2=>
 gd (z2.size+(zcY [u8.wrap (i64.wrap (48+(a0.tmod 10)))]).size≤9223372036854775807)<|
 some (z2++(zcY [u8.wrap (i64.wrap (48+(a0.tmod 10)))])))
def zjP(a0:Int):Option ByteArray:=zpr fun n_=>zbo n_ a0
theorem zo2:∀{n_:Nat}{a0:Int}{r:ByteArray}(hr:zbo n_ a0=some r),PCalls Tryz.prog 157 [(.sh,.int .i64 a0)] (Eo (.str r) [.junk]):=by
 intro n_;induction n_ with
 |zero=>intro a0 r hr;cases hr
 |succ n_ ih=>
  intro a0 r hr;apply pF 20 [] [] [1000000] [.tmp 2] hr zER Tryz.func157;intro Φ hΦ hF g;simp only[zbo]at hF
  iterate 2 refine wW ?_
  refine wI hF (fun h1 hF=>?_) fun h1 hF=>?_
  ·exact wl hΦ hF
  ·refine wW ?_
   repeat rw[sq]
   refine zxm 2 8 zAX zyn follows (by decide) (by kernel_rfl) (by kernel_rfl) rfl rfl ?_ ?_
   ·have g:=Ld g 10;refine wE hF ih fun z2 hF=>?_
    obtain⟨g,hF⟩:=Rsa g hF;refine wK [2] ?_;exact wm hΦ hF
   ·have g:=Ld g 10;refine wE hF ih fun z2 hF=>?_
    obtain⟨g,hF⟩:=Rsa g hF;refine wK [2] ?_;exact wm hΦ hF
theorem zrT{a0:Int}{r:ByteArray}(hr:zjP a0=some r):PCalls Tryz.prog 157 [(.sh,.int .i64 a0)] (Eo (.str r) [.junk]):=by
 obtain⟨n_,hn⟩:=zxa hr;exact zo2 hn
def zgc(a0:Int):Option ByteArray:=
 (zjP a0).bind fun z1=>
 gd ((⟨#[98,97,108,108,111,116,32]⟩:ByteArray).size+z1.size≤9223372036854775807)<|
 some ((⟨#[98,97,108,108,111,116,32]⟩:ByteArray)++z1)
theorem zqv{a0 r}(hr:zgc a0=some r):PCalls Tryz.prog 114 [(.sh,.int .i64 a0)] (Eo (.str r) [.junk]):=by
 apply pF 6 [] [] [] [.tmp 2] hr zFg Tryz.func114;intro Φ hΦ hF g;unfold zgc at hF;refine wW ?_;refine wE hF zrT fun z1 hF=>?_
 obtain⟨g,hF⟩:=Rsa g hF;exact wl hΦ hF
def zgt(a0:Proof):Option Bool:=
 some ((i64.wrap ((i64.wrap ((a0.Commits.length:Int)+(a0.Challenges.length:Int)))+(a0.Responses.length:Int)))==0)
theorem zrh{a0 r}(hr:zgt a0=some r):PCalls Tryz.prog 116 [(.sh,vB a0)] (Eo (.bool r) [.junk]):=by
 apply pF 15 [] [] [] [.tmp 2] hr zEf Tryz.func116;intro Φ hΦ hF g;unfold zgt at hF;try simp[go_sem,g]
 try intros
 refine zap ?_;try simp[go_sem,g]
 try intros
 refine wK [2] ?_;exact wm hΦ hF
def zcA(a0:Group)(a1:Int)(a2:Cipher)(a3:Int)(a4:Int):Option ((List EqualLog)):=
 ((zax (σ:=(List EqualLog)×Int) (fun s4=>
 if decide (s4.2≤a4)=true then(
 (zb7 a0 a0.G (i64.wrap (0-s4.2))).bind fun z10=>
 (zcn a0 [a2.B,z10]).bind fun z11=>
 gd ((s4.1.length+1)*32≤140737488355328∧s4.1.length+1≤4611686018427387904)<|
 some (.go (s4.1++[(EqualLog.mk a0.G a2.A a1 z11)],i64.wrap (s4.2+1))))else(
 some (.out s4.1))) ([],a3):Option ((List EqualLog))).bind fun x3=>
 some x3)
theorem ziR{a0 a1 a2 a3 a4 r}(hr:zcA a0 a1 a2 a3 a4=some r):PCalls Tryz.prog 118 [(.sh,vF a0),(.sh,.int .i64 a1),(.sh,vZ a2),(.sh,.int .i64 a3),(.sh,.int .i64 a4)] (Eo (vY r) zn9):=by
 apply pF 40 [] [] [] [.tmp 10] hr zE7 Tryz.func118;intro Φ hΦ hF g;unfold zcA at hF
 iterate 3 refine wW ?_
 refine wJ hF (fun x3=>[(11,.v (vY x3))]) (fun x3 hF=>?_) fun _ hj1 hF=>?_
 ·exact wl hΦ hF
 refine wB ?_;obtain⟨b12,hb13,hψ8⟩:=hF;refine pLK hb13 [1,4,5,7] (fun s4=>[(11,.v (vY s4.1)),(12,.v (.int .i64 s4.2))]) fun s4 _ _ ho6 hg7 hF=>?_
 refine wW ?_;refine wI hF (fun h9 hF=>?_) fun h9 hF=>?_
 ·refine wW ?_;refine wB ?_;refine wZ [k0 0,k1 1 5,k2 2 5,k1 3 7,k2 4 7,k0 5,k2 6 5,k1 7 7,k2 8 7,k2 9 5,k1 10 5,k2 11 5,k0 12,k0 13,k3 14,k0 15,fun _=>⟨16,[25,34],[],none,true,true,true⟩,k0 17,k0 18,fun _=>⟨19,[19,37],[],none,true,false,false⟩,k0 20] follows ?_;refine wE hF zfy fun z10 hF=>?_
  refine wE hF zft fun z11 hF=>?_
  obtain⟨g,hF⟩:=Rg g hF;refine wK [1,4,5,7,11,12] ?_;exact wT (hg7 _) (zaa hF)
 cases ho6 _ (zaa hF);exact wT (hj1 _) hψ8
def zhe(a0:List Int)(a1:Int):Option Int:=
 ((zau (σ:=Int) (fun i5 s4=>
 (ix a0 i5).bind fun x11=>
 gd (a1≠0)<|
 some (.go ((i64.wrap (s4+x11)).tmod a1))) (fun s4=>s4) (a0.length) 0 0:Option Int).bind fun x3=>
 some x3)
theorem zs4{a0 a1 r}(hr:zhe a0 a1=some r):PCalls Tryz.prog 162 [(.sh,vA a0),(.sh,.int .i64 a1)] (Eo (.int .i64 r) zak):=by
 apply pF 21 [] [] [] [.tmp 4] hr zCn Tryz.func162;intro Φ hΦ hF g;unfold zhe at hF
 iterate 3 (try simp[go_sem,g];try intros;refine zap ?_)
 refine wJ hF (fun x3=>[(5,.v (.int .i64 x3))]) (fun x3 hF=>?_) fun _ hj1 hF=>?_
 ·exact wl hΦ hF
 refine wB ?_;obtain⟨b12,hb13,hψ8⟩:=hF;refine pRK hb13 [1,8,9] (fun i5 s4=>[(5,.v (.int .i64 s4)),(10,.v (.int .i64 i5))]) (fun s4 _ hN14=>?_) fun i5 s4 _ _ hi9 hi10 ho6 hg7 hF=>?_
 ·exact wn hN14 (hj1 _) hψ8
 refine wW ?_;refine wu hi9 hi10 ?_;refine wW ?_;refine wB ?_;obtain⟨x11,g,hF⟩:=Rx g hF;obtain⟨g,hF⟩:=Rz g hF;refine wW ?_;refine wK [1,5,8,9,10] ?_;exact wi hi9 hi10 (hg7 _) (zaa hF)
def zf3(a0:Group)(a1:ByteArray)(a2:List EqualLog)(a3:List Int):Option Int:=
 ((zau (σ:=(List Int)) (fun i5 s4=>
 (ix a2 i5).bind fun x11=>
 gd ((s4.length+4)*8≤140737488355328∧s4.length+4≤4611686018427387904)<|
 some (.go (s4++[x11.G1,x11.Y1,x11.G2,x11.Y2]))) (fun s4=>s4) (a2.length) 0 []:Option ((List Int))).bind fun x3=>
 gd ((x3.length+a3.length)*8≤140737488355328∧x3.length+a3.length≤4611686018427387904)<|
 (zcN a0 a1 (x3++a3)).bind fun z16=>
 some z16)
theorem zqD{a0 a1 a2 a3 r}(hr:zf3 a0 a1 a2 a3=some r):PCalls Tryz.prog 163 [(.sh,vF a0),(.sh,.str a1),(.sh,vAA a2),(.sh,vA a3)] (Eo (.int .i64 r) zf6):=by
 apply pF 36 [] [] [] [.tmp 8] hr zFm Tryz.func163;intro Φ hΦ hF g;unfold zf3 at hF
 iterate 3 (try simp[go_sem,g];try intros;refine zap ?_)
 refine wJK hF [1,3,4] (fun x3=>[(9,.v (vG x3))]) (fun x3 hF=>?_) fun _ hj1 hF=>?_
 ·refine wZ [k2 0 4,k0 1,k0 2,k0 3,k0 4,k3 5,k0 6] follows ?_;obtain⟨g,hF⟩:=Rg g hF;refine wE hF zi5 fun z16 hF=>?_
  refine wK [8] ?_;exact wm hΦ hF
 refine wB ?_;obtain⟨b12,hb13,hψ8⟩:=hF;refine pRK hb13 [1,3,4,12,13] (fun i5 s4=>[(9,.v (vG s4)),(14,.v (.int .i64 i5))]) (fun s4 _ hN14=>?_) fun i5 s4 _ _ hi9 hi10 ho6 hg7 hF=>?_
 ·exact wn hN14 (hj1 _) hψ8
 refine wW ?_;refine wu hi9 hi10 ?_;refine wW ?_;refine wB ?_;obtain⟨x11,g,hF⟩:=Rx g hF;refine wK [1,3,4,9,11,12,13,14] ?_;obtain⟨g,hF⟩:=Rg g hF;refine wK [1,3,4,9,12,13,14] ?_;exact wi hi9 hi10 (hg7 _) (zaa hF)
def zcP(a0:Group)(a1:ByteArray)(a2:List EqualLog)(a3:Proof):Option Bool:=
 ((if((a3.Commits.length:Int) !=(i64.wrap (2*(a2.length:Int))))=true then(
 some true)else(
 if((a3.Challenges.length:Int) !=(a2.length:Int))=true then(
 some true)else(
 if((a3.Responses.length:Int) !=(a2.length:Int))=true then(
 some true)else(
 (zed a0 a3.Commits).bind fun z7=>
 if(!z7)=true then(
 some true)else(
 (ze0 a0 a3.Challenges).bind fun z9=>
 if(!z9)=true then(
 some true)else(
 (ze0 a0 a3.Responses).bind fun z11=>
 some (!z11)))))):Option Bool).bind fun x3=>
 if x3=true then(
 some false)else(
 (zhe a3.Challenges a0.Q).bind fun z13=>
 (zf3 a0 a1 a2 a3.Commits).bind fun z14=>
 if(z13 !=z14)=true then(
 some false)else(
 ((zau (σ:=Unit) (fun i20 s19=>
 (ix a2 i20).bind fun x26=>
 (ix a3.Challenges i20).bind fun x27=>
 (ix a3.Responses i20).bind fun x28=>
 (((ix a3.Commits (i64.wrap (2*i20))).bind fun x32=>
 (zb7 a0 x26.G1 x28).bind fun z33=>
 (zb7 a0 x26.Y1 x27).bind fun z34=>
 (zcn a0 [x32,z34]).bind fun z35=>
 if(z33 !=z35)=true then(
 some true)else(
 (ix a3.Commits (i64.wrap ((i64.wrap (2*i20))+1))).bind fun x37=>
 (zb7 a0 x26.G2 x28).bind fun z38=>
 (zb7 a0 x26.Y2 x27).bind fun z39=>
 (zcn a0 [x37,z39]).bind fun z40=>
 some (z38 !=z40)):Option Bool).bind fun x31=>
 if x31=true then(
 some (.out (.inr false)))else(
 some (.go ())))) (fun s19=>.inl ()) (a2.length) 0 ():Option (Unit ⊕ Bool)).bind (Sum.elim (fun x18=>
 some true) some)))))
theorem zi4{a0 a1 a2 a3 r}(hr:zcP a0 a1 a2 a3=some r):PCalls Tryz.prog 117 [(.sh,vF a0),(.sh,.str a1),(.sh,vAA a2),(.sh,vB a3)] (Eo (.bool r) zf6):=by
 apply pF 130 [] [] [] [.tmp 8] hr zDr Tryz.func117;intro Φ hΦ hF g;unfold zcP at hF;refine wW ?_;refine wJK hF [1,2,4,7] (fun x3=>[(56,.v (.bool x3))]) (fun x3 hF=>?_) fun _ hj1 hF=>?_
 ·refine wI hF (fun h12 hF=>?_) fun h12 hF=>?_
  ·exact wl hΦ hF
  refine wW ?_;refine wZ [k1 0 7,k2 1 7,k1 2 4,k2 3 4,k2 5 4,k0 6,k0 7,k1 8 7,k2 9 7,k3 4,k3 10,k0 11] follows ?_;refine wE hF zs4 fun z13 hF=>?_
  refine wE hF zqD fun z14 hF=>?_
  refine wK [2,4,7,68] ?_;refine wI hF (fun h15 hF=>?_) fun h15 hF=>?_
  ·exact wl hΦ hF
  iterate 2 (try simp[go_sem,g];try intros;refine zap ?_)
  refine wS hF (fun x18=>[]) (fun x18 hF=>?_) fun _ hj16 hr17 hF=>?_
  ·exact wl hΦ hF
  refine wB ?_;obtain⟨b42,hb43,hψ23⟩:=hF;refine pRK hb43 [4,7,69,70] (fun i20 s19=>[(71,.v (.int .i64 i20))]) (fun s19 _ hN44=>?_) fun i20 s19 _ _ hi24 hi25 ho21 hg22 hF=>?_
  ·exact wn hN44 (hj16 _) hψ23
  refine wW ?_;refine wu hi24 hi25 ?_;refine wW ?_;refine wB ?_;obtain⟨x26,g,hF⟩:=Rx g hF;refine wK [4,7,9,10,69,70,71] ?_;refine wZ [k1 0 7,k2 1 7,k0 2,k0 3,k0 4,k1 5 7,k2 6 7,k0 7,k0 8,k0 9,k0 10,k0 11] follows ?_;obtain⟨x27,g,hF⟩:=Rx g hF;obtain⟨x28,g,hF⟩:=Rx g hF;refine wK [4,7,9,10,11,12,69,70,71] ?_;refine wJK hF [4,7,69,70,71] (fun x31=>[(128,.v (.bool x31))]) (fun x31 hF=>?_) fun _ hj29 hF=>?_
  ·refine wI hF (fun h41 hF=>?_) fun h41 hF=>?_
   ·cases ho21 _ (zaa hF);cases hΦ _ (hr17 _ hψ23);refine wW ?_;try simp[go_sem,g]
   refine wW ?_;exact wi hi24 hi25 (hg22 _) (zaa hF)
  refine wZ [k2 0 4,k1 1 10,k2 2 10,k0 3,k2 5 4,k1 6 7,k2 7 7,k0 8,k0 9,k0 10,k0 11,k2 12 4,k1 13 10,k2 14 10,k0 15,fun _=>⟨4,[86,88,89],[],none,false,true,false⟩,fun _=>⟨16,[98,100,101],[],none,false,true,false⟩,k0 17,fun _=>⟨18,[91,103],[],none,true,true,true⟩,k0 19,k0 20,k2 21 4,k1 22 10,k2 23 10,k0 24,k2 26 4,k1 27 7,k2 28 7,k0 29,k0 30,k0 31,k0 32,k0 33,k2 34 4,k1 35 10,k2 36 10,k0 37,fun _=>⟨25,[107,109,110,106],[],none,false,true,false⟩,fun _=>⟨38,[120,122,123,106],[],none,false,true,false⟩,k0 39,fun _=>⟨40,[112,125,106],[],none,true,true,true⟩,k0 41,k0 42] follows ?_;obtain⟨x32,g,hF⟩:=Rx g hF;refine wD hF zfy fun z33 hF=>?_
  refine wD hF zfy fun z34 hF=>?_
  refine wE hF zft fun z35 hF=>?_
  refine wH hF (fun h36 hF=>?_) fun h36 hF=>?_
  ·exact wV h36 (hj29 _) (zaa hF)
  obtain⟨x37,g,hF⟩:=Rx g hF;try simp[go_sem,g,h36]
  refine wD hF zfy fun z38 hF=>?_
  try simp[go_sem,g,h36]
  refine wD hF zfy fun z39 hF=>?_
  try simp[go_sem,g,h36]
  refine wE hF zft fun z40 hF=>?_
  exact wV h36 (hj29 _) (zaa hF)
 try simp[go_sem,g]
 try intros
 refine wG hF (fun h4 hF=>?_) fun h4 hF=>?_
 ·exact wV h4 (hj1 _) (zaa hF)
 try simp[go_sem,g,h4]
 try intros
 refine wG hF (fun h5 hF=>?_) fun h5 hF=>?_
 ·exact wV h5 (hj1 _) (zaa hF)
 try simp[go_sem,g,h5]
 try intros
 refine wG hF (fun h6 hF=>?_) fun h6 hF=>?_
 ·exact wV h6 (hj1 _) (zaa hF)
 try simp[go_sem,g,h6]
 refine wE hF zh2 fun z7 hF=>?_
 try simp[go_sem,g,h6]
 refine wG hF (fun h8 hF=>?_) fun h8 hF=>?_
 ·exact wV h8 (hj1 _) (zaa hF)
 try simp[go_sem,g,h8]
 refine wE hF zjI fun z9 hF=>?_
 try simp[go_sem,g,h8]
 refine wG hF (fun h10 hF=>?_) fun h10 hF=>?_
 ·exact wV h10 (hj1 _) (zaa hF)
 try simp[go_sem,g,h10]
 refine wE hF zjI fun z11 hF=>?_
 exact wV h10 (hj1 _) (zaa hF)
def zgf(a0:Group)(a1:List Cipher):Option Cipher:=
 ((zau (σ:=Int×Int) (fun i15 s14=>
 (ix a1 i15).bind fun x21=>
 (zcn a0 [s14.1,x21.A]).bind fun z22=>
 (zcn a0 [s14.2,x21.B]).bind fun z23=>
 some (.go (z22,z23))) (fun s14=>(s14.1,s14.2)) (a1.length) 0 (1,1):Option ((Int×Int))).bind fun x3=>
 some (Cipher.mk x3.1 x3.2))
theorem zsG{a0 a1 r}(hr:zgf a0 a1=some r):PCalls Tryz.prog 119 [(.sh,vF a0),(.sh,vW a1)] (Eo (vZ r) zak):=by
 apply pF 32 [] [] [] [.cell 4 160] hr zCy Tryz.func119;intro Φ hΦ hF g;unfold zgf at hF
 iterate 3 (try simp[go_sem,g];try intros;refine zap ?_)
 refine wJ hF (fun x3=>[(4,.bl [.int .i64 0,.int .i64 0]),(5,.bl [.int .i64 x3.1,.int .i64 x3.2])]) (fun x3 hF=>?_) fun _ hj1 hF=>?_
 ·refine wK [4] ?_;exact wm hΦ hF
 refine wB ?_;obtain⟨b24,hb25,hψ18⟩:=hF;refine pRK hb25 [2,4,9,10] (fun i15 s14=>[(5,.bl [.int .i64 s14.1,.int .i64 s14.2]),(11,.v (.int .i64 i15))]) (fun s14 _ hN26=>?_) fun i15 s14 _ _ hi19 hi20 ho16 hg17 hF=>?_
 ·exact wn hN26 (hj1 _) hψ18
 refine wW ?_;refine wu hi19 hi20 ?_;refine wW ?_;refine wB ?_;obtain⟨x21,g,hF⟩:=Rx g hF;refine wK [2,4,5,7,9,10,11] ?_;refine wZ [k2 0 2,k1 1 5,k2 2 5,k1 3 7,k2 4 7,k0 5,k2 7 2,k1 8 5,k2 9 5,k1 10 7,k2 11 7,k0 12,fun _=>⟨6,[15,20],[],none,true,true,true⟩,fun _=>⟨13,[22,27],[],none,true,true,true⟩,k0 14,k2 15 5] follows ?_;refine wE hF zft fun z22 hF=>?_
 refine wE hF zft fun z23 hF=>?_
 refine wK [2,4,5,9,10,11] ?_;exact wi hi19 hi20 (hg17 _) (zaa hF)
def zfG(a0:Group)(a1:Int)(a2:Contest)(a3:Sealed):Option Bool:=
 (((zaV a3.Voter 0 999999).bind fun z4=>
 if(!z4)=true then(
 some true)else(
 (zfl a2).bind fun z6=>
 if((a3.Ciphers.length:Int) !=z6)=true then(
 some true)else(
 (zfl a2).bind fun z8=>
 if((a3.Proofs.length:Int) !=z8)=true then(
 some true)else(
 (zgx a0 a3.Ciphers).bind fun z10=>
 some (!z10)))):Option Bool).bind fun x3=>
 if x3=true then(
 some false)else(
 (zgc a3.Voter).bind fun z12=>
 (zem a2).bind fun z13=>
 if(!z13)=true then(
 (((ix a3.Ciphers 0).bind fun x18=>
 (ix a3.Proofs 0).bind fun x19=>
 (zeV a0 z12 [[a0.G]] [x18.A] x19).bind fun z20=>
 if z20=true then(
 (zgt a3.Sum).bind fun z22=>
 some z22)else(
 some false):Option Bool).bind fun x17=>
 some x17))else(
 ((zau (σ:=Unit) (fun i27 s26=>
 (ix a3.Ciphers i27).bind fun x33=>
 (ix a3.Proofs i27).bind fun x34=>
 (zdx a2).bind fun z35=>
 (zcA a0 a1 x33 0 z35).bind fun z36=>
 (zcP a0 z12 z36 x34).bind fun z37=>
 if(!z37)=true then(
 some (.out (.inr false)))else(
 some (.go ()))) (fun s26=>.inl ()) (a3.Ciphers.length) 0 ():Option (Unit ⊕ Bool)).bind (Sum.elim (fun x25=>
 (zgf a0 a3.Ciphers).bind fun z43=>
 (zcA a0 a1 z43 a2.Least a2.Most).bind fun z44=>
 (zcP a0 z12 z44 a3.Sum).bind fun z45=>
 some z45) some)))))
theorem zpn{a0 a1 a2 a3 r}(hr:zfG a0 a1 a2 a3=some r):PCalls Tryz.prog 73 [(.sh,vF a0),(.sh,.int .i64 a1),(.sh,vO a2),(.sh,vAB a3)] (Eo (.bool r) zf6):=by
 apply pF 107 [] [] [] [.tmp 8] hr zKd Tryz.func73;intro Φ hΦ hF g;unfold zfG at hF;refine wW ?_;refine wJK hF [1,4,6,7] (fun x3=>[(38,.v (.bool x3))]) (fun x3 hF=>?_) fun _ hj1 hF=>?_
 ·refine wI hF (fun h11 hF=>?_) fun h11 hF=>?_
  ·exact wl hΦ hF
  refine wW ?_;refine wE hF zqv fun z12 hF=>?_
  refine wW ?_;refine wE hF zij fun z13 hF=>?_
  refine wK [1,4,6,7,9,44] ?_;refine wI hF (fun h14 hF=>?_) fun h14 hF=>?_
  ·refine wJ hF (fun x17=>[(8,.v (.bool x17))]) (fun x17 hF=>?_) fun _ hj15 hF=>?_
   ·exact wm hΦ hF
   refine wZ [k2 0 4,k0 1,k1 2 4,k2 3 4,k0 4,k1 6 7,k2 7 7,k0 8,k0 9,k0 10,k0 11,k1 12 7,k2 13 7,k0 14,k0 15,fun _=>⟨5,[49],[],none,true,true,false⟩,fun _=>⟨16,[45,46,50,56,60],[],none,true,true,true⟩,k0 17,k1 18 7,k2 19 7,k3 20,k0 21,k0 22] follows ?_;obtain⟨x18,g,hF⟩:=Rxn g 0 hF;obtain⟨x19,g,hF⟩:=Rxn g 0 hF;refine wE hF zkN fun z20 hF=>?_
   refine wH hF (fun h21 hF=>?_) fun h21 hF=>?_
   ·try simp[go_sem,g,h21]
    refine wE hF zrh fun z22 hF=>?_
    exact wV h21 (hj15 _) (zaa hF)
   exact wV h21 (hj15 _) (zaa hF)
  iterate 2 (try simp[go_sem,g];try intros;refine zap ?_)
  refine wSK hF [1,4,6,7,9] (fun x25=>[]) (fun x25 hF=>?_) fun _ hj23 hr24 hF=>?_
  ·refine wZ [k2 0 4,k0 1,k2 2 4,k0 3,k2 4 4,k1 5 7,k2 6 7,k1 8 6,k2 9 6,k1 10 6,k2 11 6,k1 13 7,k2 14 7,k3 7,k3 12,k3 15,k0 16] follows ?_;refine wE hF zsG fun z43 hF=>?_
   refine wE hF ziR fun z44 hF=>?_
   refine wE hF zi4 fun z45 hF=>?_
   refine wK [8] ?_;exact wm hΦ hF
  refine wB ?_;obtain⟨b39,hb40,hψ30⟩:=hF;refine pRK hb40 [1,4,6,7,9,68,69] (fun i27 s26=>[(70,.v (.int .i64 i27))]) (fun s26 _ hN41=>?_) fun i27 s26 _ _ hi31 hi32 ho28 hg29 hF=>?_
  ·exact wn hN41 (hj23 _) hψ30
  refine wW ?_;refine wu hi31 hi32 ?_;refine wW ?_;refine wB ?_;obtain⟨x33,g,hF⟩:=Rx g hF;refine wK [1,4,6,7,9,10,11,68,69,70] ?_;refine wZ [k2 0 4,k0 1,k2 2 4,k0 3,k2 4 11,k2 5 6,k1 8 7,k2 9 7,k0 10,k0 11,k0 12,fun _=>⟨6,[80],[],none,false,true,false⟩,fun _=>⟨7,[77,78,79,81],[],none,false,true,false⟩,k3 13,k0 14] follows ?_;obtain⟨x34,g,hF⟩:=Rx g hF;refine wD hF znl fun z35 hF=>?_
  refine wD hF ziR fun z36 hF=>?_
  refine wE hF zi4 fun z37 hF=>?_
  refine wK [1,4,6,7,9,68,69,70,89] ?_;refine wI hF (fun h38 hF=>?_) fun h38 hF=>?_
  ·cases ho28 _ (zaa hF);cases hΦ _ (hr24 _ hψ30);refine wW ?_;try simp[go_sem,g]
  refine wW ?_;exact wi hi31 hi32 (hg29 _) (zaa hF)
 refine wZ [k1 0 7,k2 1 7,k3 2,k0 3,k0 4,k1 5 7,k2 6 7,k0 7,k2 8 6,k3 9,k0 10,k0 11,k0 12,k1 13 7,k2 14 7,k0 15,k2 16 6,k3 17,k0 18,k0 19,k0 20,k2 21 4,k1 22 7,k2 23 7,k3 24,k0 25,k0 26] follows ?_;refine wE hF zbh fun z4 hF=>?_
 refine wH hF (fun h5 hF=>?_) fun h5 hF=>?_
 ·exact wV h5 (hj1 _) (zaa hF)
 try simp[go_sem,g,h5]
 try intros
 refine wE hF zlF fun z6 hF=>?_
 try simp[go_sem,g,h5]
 refine wH hF (fun h7 hF=>?_) fun h7 hF=>?_
 ·exact wV h7 (hj1 _) (zaa hF)
 try simp[go_sem,g,h7]
 try intros
 refine wE hF zlF fun z8 hF=>?_
 try simp[go_sem,g,h7]
 refine wH hF (fun h9 hF=>?_) fun h9 hF=>?_
 ·exact wV h9 (hj1 _) (zaa hF)
 try simp[go_sem,g,h9]
 refine wE hF zrq fun z10 hF=>?_
 exact wV h9 (hj1 _) (zaa hF)
def zco(a0:Plan)(a1:Int)(a2:Entry):Option (Sealed×Bool):=
 (zcv a2.Data).bind fun z1=>
 ((if(!z1.2)=true then(
 some true)else(
 if(a2.Kind !=3)=true then(
 some true)else(
 (zhm a0 z1.1.Voter).bind fun z7=>
 if(a2.Author !=z7)=true then(
 some true)else(
 some (decide (a0.Voters≤z1.1.Voter))))):Option Bool).bind fun x4=>
 if x4=true then(
 some ((Sealed.mk 0 [] [] (Proof.mk [] [] [])),false))else(
 (zfG a0.Gr a1 a0.Ct z1.1).bind fun z10=>
 some (z1.1,z10)))
theorem zo5{a0 a1 a2 r}(hr:zco a0 a1 a2=some r):PCalls Tryz.prog 40 [(.sh,vQ a0),(.sh,.int .i64 a1),(.sh,vC a2)] (Eo (.tup [vV r.1,.bool r.2]) zcj):=by
 apply pF 48 [] [] [] [.cell 6 88,.tmp 7] hr zKr Tryz.func40;intro Φ hΦ hF g;unfold zco at hF;refine wW ?_;refine wE hF znU fun z1 hF=>?_
 refine wK [1,3,5,6,8,9] ?_;refine wJK hF [1,3,6,8] (fun x4=>[(38,.v (.bool x4))]) (fun x4 hF=>?_) fun _ hj2 hF=>?_
 ·refine wI hF (fun h9 hF=>?_) fun h9 hF=>?_
  ·exact wl hΦ hF
  refine wW ?_;refine wZ [k2 0 8,k1 1 3,k2 2 3,k0 3,k1 4 3,k2 5 3,k2 6 8,k3 7,k2 8 6,k0 9] follows ?_;refine wE hF zpn fun z10 hF=>?_
  refine wK [6,7] ?_;exact wm hΦ hF
 refine wZ [k0 0,k0 1,k0 2,k1 3 5,k2 4 5,k0 5,k0 6,k0 7,k1 8 5,k2 9 5,k2 10 3,k1 11 8,k2 12 8,k3 13,k0 14,k0 15,k0 16,k1 17 8,k2 18 8,k1 19 3,k2 20 3,k0 21,k0 22] follows ?_;refine wH hF (fun h5 hF=>?_) fun h5 hF=>?_
 ·exact wV h5 (hj2 _) (zaa hF)
 try simp[go_sem,g,h5]
 refine wH hF (fun h6 hF=>?_) fun h6 hF=>?_
 ·exact wV h6 (hj2 _) (zaa hF)
 try simp[go_sem,g,h6]
 refine wE hF zqz fun z7 hF=>?_
 try simp[go_sem,g,h6]
 refine wH hF (fun h8 hF=>?_) fun h8 hF=>?_
 ·exact wV h8 (hj2 _) (zaa hF)
 exact wV h8 (hj2 _) (zaa hF)
def zei(a0:uX)(a1:Board):Option (List Int×List Int):=
 gd (0≤a0.p.Voters∧a0.p.Voters≤a0.p.Voters∧8*a0.p.Voters≤140737488355328∧a0.p.Voters≤4611686018427387904)<|
 (some (List.replicate a0.p.Voters.toNat 0)).bind fun x1=>
 ((zau (σ:=(List Int)) (fun i16 s15=>
 (ix s15 i16).bind fun x22=>
 some (.go (s15.set i16.toNat (-1)))) (fun s15=>s15) (x1.length) 0 x1:Option ((List Int))).bind fun x6=>
 ((zau (σ:=(List Int)×List Int×Bool) (fun i54 s53=>
 (((ix a1.Entries i54).bind fun x63=>
 ((if s53.2.2=true then(
 some true)else(
 some (x63.Kind==4)):Option Bool).bind fun x66=>
 (ix a0.commits 0).bind fun x68=>
 (zco a0.p x68 x63).bind fun z69=>
 ((if z69.2=true then(
 some (!x66))else(
 some false):Option Bool).bind fun x72=>
 if x72=true then(
 (ix s53.1 z69.1.Voter).bind fun x75=>
 gd ((s53.2.1.length+1)*8≤140737488355328∧s53.2.1.length+1≤4611686018427387904)<|
 some (s53.1.set z69.1.Voter.toNat i54,s53.2.1++[i54],x66))else(
 some (s53.1,s53.2.1,x66)))):Option ((List Int×List Int×Bool))).bind fun x62=>
 some (.go (x62.1,x62.2.1,x62.2.2)))) (fun s53=>(s53.1,s53.2.1)) (a1.Entries.length) 0 (x6,[],false):Option ((List Int×List Int))).bind fun x29=>
 ((zau (σ:=(List Int)) (fun i84 s83=>
 (((ix x29.1 i84).bind fun x93=>
 if decide (0≤x93)=true then(
 gd ((s83.length+1)*8≤140737488355328∧s83.length+1≤4611686018427387904)<|
 some (s83++[x93]))else(
 some s83):Option ((List Int))).bind fun x92=>
 some (.go x92))) (fun s83=>s83) (x29.1.length) 0 []:Option ((List Int))).bind fun x82=>
 some (x82,x29.2))))
theorem zmh{a0 a1 r}(hr:zei a0 a1=some r):PCalls Tryz.prog 31 [(.sh,vAC a0),(.sh,vE a1)] (Eo (.tup [vG r.1,vG r.2]) zak):=by
 apply pF 85 [] [] [] [.tmp 4,.tmp 5] hr zI3 Tryz.func31;intro Φ hΦ hF g;unfold zei at hF;obtain⟨g,hF⟩:=Rg g hF;obtain⟨x1,e2,hF⟩:=zdL hF;have g3:List.replicate a0.p.Voters.toNat ([.int .i64 0]:List PV)=x1.map zaf:=by injection e2 with e2;rw[←e2];simp[go_sem]
 iterate 2 (try simp[go_sem,g,g3];try intros;refine zap ?_)
 try simp[go_sem,g,g3]
 try intros
 refine wK [2,3,6,22,23] ?_;refine wJK hF [2,3] (fun x6=>[(6,.v (vG x6))]) (fun x6 hF=>?_) fun _ hj4 hF=>?_
 ·iterate 3 (try simp[go_sem,g];try intros;refine zap ?_)
  refine wJ hF (fun x29=>[(6,.v (vG x29.1)),(8,.v (vG x29.2)),(9,.v (.sl true 1 []))]) (fun x29 hF=>?_) fun _ hj27 hF=>?_
  ·try simp[go_sem,g]
   try intros
   refine wK [6,8,9,70,71,72] ?_;refine wJ hF (fun x82=>[(8,.v (vG x29.2)),(9,.v (vG x82))]) (fun x82 hF=>?_) fun _ hj80 hF=>?_
   ·exact wl hΦ hF
   refine wB ?_;obtain⟨b95,hb96,hψ87⟩:=hF;refine pRK hb96 [6,8,70,71] (fun i84 s83=>[(9,.v (vG s83)),(72,.v (.int .i64 i84))]) (fun s83 _ hN97=>?_) fun i84 s83 _ _ hi88 hi89 ho85 hg86 hF=>?_
   ·exact wn hN97 (hj80 _) hψ87
   refine wW ?_;refine wu hi88 hi89 ?_;refine wW ?_;refine wJK hF [6,8,70,71,72] (fun x92=>[(9,.v (vG x92))]) (fun x92 hF=>?_) fun _ hj90 hF=>?_
   ·exact wi hi88 hi89 (hg86 _) (zaa hF)
   refine wB ?_;obtain⟨x93,g,hF⟩:=Rx g hF
   iterate 2 refine wW ?_
   refine wI hF (fun h94 hF=>?_) fun h94 hF=>?_
   ·obtain⟨g,hF⟩:=Rg g hF;exact wT (hj90 _) (zaa hF)
   exact wT (hj90 _) (zaa hF)
  refine wB ?_;obtain⟨b76,hb77,hψ57⟩:=hF;refine pRK hb77 [2,9,31,32] (fun i54 s53=>[(6,.v (vG s53.1)),(8,.v (vG s53.2.1)),(10,.v (.bool s53.2.2)),(33,.v (.int .i64 i54))]) (fun s53 _ hN78=>?_) fun i54 s53 _ _ hi58 hi59 ho55 hg56 hF=>?_
  ·exact wn hN78 (hj27 _) hψ57
  refine wW ?_;refine wu hi58 hi59 ?_;refine wW ?_;refine wJK hF [2,9,31,32,33] (fun x62=>[(6,.v (vG x62.1)),(8,.v (vG x62.2.1)),(10,.v (.bool x62.2.2))]) (fun x62 hF=>?_) fun _ hj60 hF=>?_
  ·exact wi hi58 hi59 (hg56 _) (zaa hF)
  refine wB ?_;obtain⟨x63,g,hF⟩:=Rx g hF;refine wK [2,6,8,9,10,11,12,31,32,33] ?_;refine wJK hF [2,6,8,9,11,12,31,32,33] (fun x66=>[(10,.v (.bool x66))]) (fun x66 hF=>?_) fun _ hj64 hF=>?_
  ·refine wZ [k1 0 2,k2 1 2,k1 2 2,k2 3 2,k0 4,k0 5,k2 6 12,k0 11,k3 7,k0 8,k0 9,k0 10,k2 12 13,k0 13] follows ?_;obtain⟨x68,g,hF⟩:=Rxn g 0 hF;refine wE hF zo5 fun z69 hF=>?_
   refine wK [2,6,8,9,10,11,13,14,31,32,33] ?_;refine wJK hF [2,6,8,9,10,11,13,31,32,33] (fun x72=>[(59,.v (.bool x72))]) (fun x72 hF=>?_) fun _ hj70 hF=>?_
   ·refine wI hF (fun h74 hF=>?_) fun h74 hF=>?_
    ·obtain⟨x75,g,hF⟩:=Rx g hF;obtain⟨g,hF⟩:=Rg g hF;refine wW ?_;exact wT (hj60 _) (zaa hF)
    exact wT (hj60 _) (zaa hF)
   refine wG hF (fun h73 hF=>?_) fun h73 hF=>?_
   ·exact wV h73 (hj70 _) (zaa hF)
   exact wV h73 (hj70 _) (zaa hF)
  refine wG hF (fun h67 hF=>?_) fun h67 hF=>?_
  ·exact wV h67 (hj64 _) (zaa hF)
  exact wV h67 (hj64 _) (zaa hF)
 refine wB ?_;obtain⟨b23,hb24,hψ19⟩:=hF;refine pRK hb24 [2,3,22] (fun i16 s15=>[(6,.v (vG s15)),(23,.v (.int .i64 i16))]) (fun s15 _ hN25=>?_) fun i16 s15 _ _ hi20 hi21 ho17 hg18 hF=>?_
 ·exact wn hN25 (hj4 _) hψ19
 refine wW ?_;refine wu hi20 hi21 ?_;refine wW ?_;refine wB ?_;obtain⟨x22,g,hF⟩:=Rx g hF
 iterate 2 refine wW ?_
 exact wi hi20 hi21 (hg18 _) (zaa hF)
def zcr(a0:Group)(a1:Board):Option (List Int×Bool):=
 (zdQ a0 a1).bind fun z1=>
 if(!z1.2)=true then(
 some ([],false))else(
 (zei z1.1 a1).bind fun z3=>
 some (z3.1,true))
theorem zkI{a0 a1 r}(hr:zcr a0 a1=some r):PCalls Tryz.prog 15 [(.sh,vF a0),(.sh,vE a1)] (Eo (.tup [vG r.1,.bool r.2]) zak):=by
 apply pF 25 [] [] [] [.tmp 4,.tmp 5] hr zKF Tryz.func15;intro Φ hΦ hF g;unfold zcr at hF;refine wW ?_;refine wE hF zqA fun z1 hF=>?_
 refine wK [3,6,7] ?_;refine wW ?_;refine wI hF (fun h2 hF=>?_) fun h2 hF=>?_
 ·exact wl hΦ hF
 refine wW ?_;refine wE hF zmh fun z3 hF=>?_
 refine wK [8] ?_;exact wl hΦ hF
def zav(a0:Int)(a1:Int)(a2:Int):Option Bool:=
 ((if decide (a1≤a0)=true then(
 some (decide (a0≤a2)))else(
 some false):Option Bool).bind fun x3=>
 some x3)
theorem zaM{a0 a1 a2 r}(hr:zav a0 a1 a2=some r):PCalls Tryz.prog 56 [(.sh,.int .i64 a0),(.sh,.int .i64 a1),(.sh,.int .i64 a2)] (Eo (.bool r) zcj):=by
 apply pF 15 [] [] [] [.tmp 6] hr zHq Tryz.func56;intro Φ hΦ hF g;unfold zav at hF;refine wW ?_;refine wJ hF (fun x3=>[(6,.v (.bool x3))]) (fun x3 hF=>?_) fun _ hj1 hF=>?_
 ·exact wm hΦ hF
 refine wG hF (fun h4 hF=>?_) fun h4 hF=>?_
 ·exact wV h4 (hj1 _) (zaa hF)
 exact wV h4 (hj1 _) (zaa hF)
def ze3(a0:Int):Option Bool:=
 (zav a0 2 2000000000).bind fun z1=>
 some z1
theorem znT{a0 r}(hr:ze3 a0=some r):PCalls Tryz.prog 196 [(.sh,.int .i64 a0)] (Eo (.bool r) [.junk]):=by
 apply pF 5 [] [] [] [.tmp 2] hr zEq Tryz.func196;intro Φ hΦ hF g;unfold ze3 at hF;refine wW ?_;refine wE hF zaM fun z1 hF=>?_
 exact wl hΦ hF
def zeY(a0:Int):Option Bool:=
 (((ze3 a0).bind fun z4=>
 if(!z4)=true then(
 some true)else(
 if((a0.tmod 2)==0)=true then(
 some (a0 !=2))else(
 some false)):Option Bool).bind fun x3=>
 if x3=true then(
 some false)else(
 ((zax (σ:=Int) (fun s11=>
 if decide ((i64.wrap (s11*s11))≤a0)=true then(
 gd (s11≠0)<|
 if((a0.tmod s11)==0)=true then(
 some (.out (.inr false)))else(
 some (.go (i64.wrap (s11+2)))))else(
 some (.out (.inl ())))) 3:Option (Unit ⊕ Bool)).bind (Sum.elim (fun x10=>
 some true) some))))
theorem zkz{a0 r}(hr:zeY a0=some r):PCalls Tryz.prog 164 [(.sh,.int .i64 a0)] (Eo (.bool r) [.junk]):=by
 apply pF 27 [] [] [] [.tmp 2] hr zFn Tryz.func164;intro Φ hΦ hF g;unfold zeY at hF;refine wW ?_;refine wJ hF (fun x3=>[(0,.v (.int .i64 a0)),(15,.v (.bool x3))]) (fun x3 hF=>?_) fun _ hj1 hF=>?_
 ·refine wI hF (fun h7 hF=>?_) fun h7 hF=>?_
  ·exact wl hΦ hF
  iterate 2 refine wW ?_
  refine wS hF (fun x10=>[]) (fun x10 hF=>?_) fun _ hj8 hr9 hF=>?_
  ·exact wl hΦ hF
  refine wB ?_;obtain⟨b18,hb19,hψ15⟩:=hF;refine pL hb19 (fun s11=>[(0,.v (.int .i64 a0)),(3,.v (.int .i64 s11))]) fun s11 _ _ ho13 hg14 hF=>?_
  refine wW ?_;refine wI hF (fun h16 hF=>?_) fun h16 hF=>?_
  ·refine wW ?_;refine wB ?_;obtain⟨g,hF⟩:=Rz g hF;refine wK [0,3,26] ?_;refine wI hF (fun h17 hF=>?_) fun h17 hF=>?_
   ·cases ho13 _ (zaa hF);cases hΦ _ (hr9 _ hψ15);refine wW ?_;try simp[go_sem,g]
   refine wW ?_;exact wT (hg14 _) (zaa hF)
  cases ho13 _ (zaa hF);exact wT (hj8 _) hψ15
 refine wE hF znT fun z4 hF=>?_
 refine wG hF (fun h5 hF=>?_) fun h5 hF=>?_
 ·exact wV h5 (hj1 _) (zaa hF)
 have g:=Ld g 2;try simp[go_sem,g,h5]
 refine wG hF (fun h6 hF=>?_) fun h6 hF=>?_
 ·try simp[go_sem,g,h6,h5]
  exact wT (hj1 _) (zaa hF)
 try simp[go_sem,g,h6,h5]
 exact wT (hj1 _) (zaa hF)
def zc9(a0:Int)(a1:Int)(a2:Int):Option Int:=
 gd (a2≠0)<|
 ((zax (σ:=Int×Int×Int) (fun s4=>
 if decide (0<s4.2.1)=true then(
 ((if((i64.wrap ((BitVec.ofInt i64.bits s4.2.1&&&BitVec.ofInt i64.bits 1).toNat))==1)=true then(
 gd (a2≠0)<|
 some ((i64.wrap (s4.2.2*s4.1)).tmod a2))else(
 some s4.2.2):Option Int).bind fun x12=>
 gd (a2≠0)<|
 some (.go ((i64.wrap (s4.1*s4.1)).tmod a2,s4.2.1.fdiv 2,x12))))else(
 some (.out s4.2.2))) (a0,a1,(1:Int).tmod a2):Option Int).bind fun x3=>
 some x3)
theorem zhV{a0 a1 a2 r}(hr:zc9 a0 a1 a2=some r):PCalls Tryz.prog 88 [(.sh,.int .i64 a0),(.sh,.int .i64 a1),(.sh,.int .i64 a2)] (Eo (.int .i64 r) zcj):=by
 apply pF 28 [] [] [] [.tmp 6] hr zK1 Tryz.func88;intro Φ hΦ hF g;unfold zc9 at hF;obtain⟨g,hF⟩:=Rz g hF
 iterate 2 refine wW ?_
 refine wJ hF (fun x3=>[(7,.v (.int .i64 x3))]) (fun x3 hF=>?_) fun _ hj1 hF=>?_
 ·exact wl hΦ hF
 refine wB ?_;obtain⟨b14,hb15,hψ8⟩:=hF;refine pL hb15 (fun s4=>[(0,.v (.int .i64 s4.1)),(1,.v (.int .i64 s4.2.1)),(2,.v (.int .i64 a2)),(7,.v (.int .i64 s4.2.2))]) fun s4 _ _ ho6 hg7 hF=>?_
 refine wW ?_;refine wI hF (fun h9 hF=>?_) fun h9 hF=>?_
 ·refine wW ?_;refine wB ?_;refine wW ?_;refine wJK hF [0,1,2] (fun x12=>[(7,.v (.int .i64 x12))]) (fun x12 hF=>?_) fun _ hj10 hF=>?_
  ·obtain⟨g,hF⟩:=Rz g hF;refine wK [0,1,2,7] ?_;have g:=Ls g 1;exact wT (hg7 _) (zaa hF)
  refine wI hF (fun h13 hF=>?_) fun h13 hF=>?_
  ·obtain⟨g,hF⟩:=Rz g hF;exact wT (hj10 _) (zaa hF)
  exact wT (hj10 _) (zaa hF)
 cases ho6 _ (zaa hF);exact wT (hj1 _) hψ8
def zc1(a0:Group):Option Bool:=
 (((zav a0.P 3 2000000000).bind fun z4=>
 if z4=true then(
 (zav a0.Q 2 (i64.wrap (a0.P-1))).bind fun z6=>
 if z6=true then(
 gd (a0.Q≠0)<|
 if(((i64.wrap (a0.P-1)).tmod a0.Q)==0)=true then(
 (zav a0.G 2 (i64.wrap (a0.P-1))).bind fun z9=>
 if z9=true then(
 (zeY a0.P).bind fun z11=>
 if z11=true then(
 (zeY a0.Q).bind fun z13=>
 if z13=true then(
 (zc9 a0.G a0.Q a0.P).bind fun z15=>
 some (z15==1))else(
 some false))else(
 some false))else(
 some false))else(
 some false))else(
 some false))else(
 some false):Option Bool).bind fun x3=>
 some x3)
theorem zin{a0 r}(hr:zc1 a0=some r):PCalls Tryz.prog 120 [(.sh,vF a0)] (Eo (.bool r) [.junk]):=by
 apply pF 51 [] [] [] [.tmp 2] hr zCV Tryz.func120;intro Φ hΦ hF g;unfold zc1 at hF;refine wW ?_;refine wJ hF (fun x3=>[(2,.v (.bool x3))]) (fun x3 hF=>?_) fun _ hj1 hF=>?_
 ·exact wm hΦ hF
 refine wE hF zaM fun z4 hF=>?_
 refine wG hF (fun h5 hF=>?_) fun h5 hF=>?_
 ·try simp[go_sem,g,h5]
  refine wE hF zaM fun z6 hF=>?_
  try simp[go_sem,g,h5]
  refine wG hF (fun h7 hF=>?_) fun h7 hF=>?_
  ·obtain⟨g,hF⟩:=Rz g hF;try simp[go_sem,g,h7]
   refine wG hF (fun h8 hF=>?_) fun h8 hF=>?_
   ·try simp[go_sem,g,h8]
    refine wE hF zaM fun z9 hF=>?_
    try simp[go_sem,g,h8]
    refine wG hF (fun h10 hF=>?_) fun h10 hF=>?_
    ·try simp[go_sem,g,h10]
     refine wE hF zkz fun z11 hF=>?_
     try simp[go_sem,g,h10]
     refine wG hF (fun h12 hF=>?_) fun h12 hF=>?_
     ·try simp[go_sem,g,h12]
      refine wE hF zkz fun z13 hF=>?_
      try simp[go_sem,g,h12]
      refine wG hF (fun h14 hF=>?_) fun h14 hF=>?_
      ·try simp[go_sem,g,h14]
       refine wE hF zhV fun z15 hF=>?_
       exact wV h14 (hj1 _) (zaa hF)
      exact wV h14 (hj1 _) (zaa hF)
     exact wV h12 (hj1 _) (zaa hF)
    exact wV h10 (hj1 _) (zaa hF)
   exact wV h8 (hj1 _) (zaa hF)
  exact wV h7 (hj1 _) (zaa hF)
 exact wV h5 (hj1 _) (zaa hF)
def zdh(a0:Group)(a1:Int):Option Bool:=
 (((zav a1 1 (i64.wrap (a0.P-1))).bind fun z4=>
 if z4=true then(
 (zc9 a1 a0.Q a0.P).bind fun z6=>
 some (z6==1))else(
 some false):Option Bool).bind fun x3=>
 some x3)
theorem zhr{a0 a1 r}(hr:zdh a0 a1=some r):PCalls Tryz.prog 97 [(.sh,vF a0),(.sh,.int .i64 a1)] (Eo (.bool r) zak):=by
 apply pF 19 [] [] [] [.tmp 4] hr zG8 Tryz.func97;intro Φ hΦ hF g;unfold zdh at hF;refine wW ?_;refine wJ hF (fun x3=>[(4,.v (.bool x3))]) (fun x3 hF=>?_) fun _ hj1 hF=>?_
 ·exact wm hΦ hF
 refine wE hF zaM fun z4 hF=>?_
 refine wG hF (fun h5 hF=>?_) fun h5 hF=>?_
 ·try simp[go_sem,g,h5]
  refine wE hF zhV fun z6 hF=>?_
  exact wV h5 (hj1 _) (zaa hF)
 exact wV h5 (hj1 _) (zaa hF)
def zbA(a0:Int)(a1c0x0:Group):Option Bool:=
 (zdh a1c0x0 a0).bind fun z1=>
 some (!z1)
theorem zhQ{a0 a1c0x0 r}(hr:zbA a0 a1c0x0=some r):PCalls Tryz.prog 146 [(.sh,.int .i64 a0),(.sh,.fp [.func (.func 97) [vF a1c0x0] []])] (Eo (.bool r) zak):=by
 apply pF 8 [] [] [] [.tmp 3] hr zug Tryz.func146;intro Φ hΦ hF g;unfold zbA at hF;refine wW ?_;refine wE hF zhr fun z1 hF=>?_
 exact wl hΦ hF
def zaS(a0:List Int)(a1u0c0x0:Group):Option Int:=
 ((zau (σ:=Unit) (fun i5 s4=>
 (ix a0 i5).bind fun x11=>
 (zbA x11 a1u0c0x0).bind fun z12=>
 if z12=true then(
 some (.out (.inr i5)))else(
 some (.go ()))) (fun s4=>.inl ()) (a0.length) 0 ():Option (Unit ⊕ Int)).bind (Sum.elim (fun x3=>
 some (-1)) some))
theorem zd5{a0 a1u0c0x0 r}(hr:zaS a0 a1u0c0x0=some r):PCalls Tryz.prog 86 [(.sh,vA a0),(.sh,.func (.func 146) [] [.fp [.func (.func 97) [vF a1u0c0x0] []]])] (Eo (.int .i64 r) zak):=by
 apply pF 19 [] [] [] [.tmp 4] hr zuB Tryz.func86;intro Φ hΦ hF g;unfold zaS at hF
 iterate 2 (try simp[go_sem,g];try intros;refine zap ?_)
 refine wS hF (fun x3=>[]) (fun x3 hF=>?_) fun _ hj1 hr2 hF=>?_
 ·exact wl hΦ hF
 refine wB ?_;obtain⟨b14,hb15,hψ8⟩:=hF;refine pRK hb15 [0,1,7] (fun i5 s4=>[(8,.v (.int .i64 i5))]) (fun s4 _ hN16=>?_) fun i5 s4 _ _ hi9 hi10 ho6 hg7 hF=>?_
 ·exact wn hN16 (hj1 _) hψ8
 refine wW ?_;refine wu hi9 hi10 ?_;refine wW ?_;refine wB ?_;obtain⟨x11,g,hF⟩:=Rx g hF;refine wW ?_;refine wE hF zhQ fun z12 hF=>?_
 refine wK [0,1,5,7,8,16] ?_;refine wI hF (fun h13 hF=>?_) fun h13 hF=>?_
 ·cases ho6 _ (zaa hF);cases hΦ _ (hr2 _ hψ8);refine wW ?_;try simp[go_sem,g]
 refine wW ?_;exact wi hi9 hi10 (hg7 _) (zaa hF)
def zaO(a0:List Int)(a1u0c0x0:Group):Option Bool:=
 (zaS a0 a1u0c0x0).bind fun z1=>
 some (decide (0≤z1))
theorem zdM{a0 a1u0c0x0 r}(hr:zaO a0 a1u0c0x0=some r):PCalls Tryz.prog 145 [(.sh,vA a0),(.sh,.func (.func 146) [] [.fp [.func (.func 97) [vF a1u0c0x0] []]])] (Eo (.bool r) zak):=by
 apply pF 9 [] [] [] [.tmp 4] hr zuu Tryz.func145;intro Φ hΦ hF g;unfold zaO at hF;refine wW ?_;refine wE hF zd5 fun z1 hF=>?_
 exact wl hΦ hF
def zct(a0:List Int)(a1x0:Group):Option Bool:=
 (zaO a0 a1x0).bind fun z1=>
 some (!z1)
theorem zik{a0 a1x0 r}(hr:zct a0 a1x0=some r):PCalls Tryz.prog 96 [(.sh,vA a0),(.sh,.func (.func 97) [vF a1x0] [])] (Eo (.bool r) zak):=by
 apply pF 9 [] [] [1000000] [.tmp 4] hr zye Tryz.func96;intro Φ hΦ hF g;unfold zct at hF;refine wW ?_;refine wE hF zdM fun z1 hF=>?_
 exact wl hΦ hF
def zbt(a0:Group)(a1:List Int):Option Bool:=
 (zct a1 a0).bind fun z1=>
 some z1
theorem zfa{a0 a1 r}(hr:zbt a0 a1=some r):PCalls Tryz.prog 58 [(.sh,vF a0),(.sh,vA a1)] (Eo (.bool r) zak):=by
 apply pF 9 [] [] [] [.tmp 4] hr zG1 Tryz.func58;intro Φ hΦ hF g;unfold zbt at hF;refine wW ?_;refine wE hF zik fun z1 hF=>?_
 exact wl hΦ hF
def zdD(a0:Group)(a1:List Int):Option Bool:=
 ((if decide ((a1.length:Int)≤40)=true then(
 (zbt a0 a1).bind fun z5=>
 some z5)else(
 some false):Option Bool).bind fun x3=>
 some x3)
theorem zlx{a0 a1 r}(hr:zdD a0 a1=some r):PCalls Tryz.prog 80 [(.sh,vF a0),(.sh,vA a1)] (Eo (.bool r) zak):=by
 apply pF 13 [] [] [] [.tmp 4] hr zKS Tryz.func80;intro Φ hΦ hF g;unfold zdD at hF;refine wW ?_;refine wJ hF (fun x3=>[(4,.v (.bool x3))]) (fun x3 hF=>?_) fun _ hj1 hF=>?_
 ·exact wm hΦ hF
 try simp[go_sem,g]
 try intros
 refine wG hF (fun h4 hF=>?_) fun h4 hF=>?_
 ·try simp[go_sem,g,h4]
  refine wE hF zfa fun z5 hF=>?_
  exact wV h4 (hj1 _) (zaa hF)
 exact wV h4 (hj1 _) (zaa hF)
def zdK(a0:Int):Option Bool:=
 (zav a0 0 4611686018427387903).bind fun z1=>
 some z1
theorem zid{a0 r}(hr:zdK a0=some r):PCalls Tryz.prog 76 [(.sh,.int .i64 a0)] (Eo (.bool r) [.junk]):=by
 apply pF 5 [] [] [] [.tmp 2] hr zJh Tryz.func76;intro Φ hΦ hF g;unfold zdK at hF;refine wW ?_;refine wE hF zaM fun z1 hF=>?_
 exact wl hΦ hF
def zaK(a0:Int):Option Bool:=
 (zdK a0).bind fun z1=>
 some (!z1)
theorem zh0{a0 r}(hr:zaK a0=some r):PCalls Tryz.prog 146 [(.sh,.int .i64 a0),(.sh,.fp [.func (.func 76) [] []])] (Eo (.bool r) zak):=by
 apply pF 8 [] [] [] [.tmp 3] hr zug Tryz.func146;intro Φ hΦ hF g;unfold zaK at hF;refine wW ?_;refine wE hF zid fun z1 hF=>?_
 exact wl hΦ hF
def zbe(a0:List Int):Option Int:=
 ((zau (σ:=Unit) (fun i5 s4=>
 (ix a0 i5).bind fun x11=>
 (zaK x11).bind fun z12=>
 if z12=true then(
 some (.out (.inr i5)))else(
 some (.go ()))) (fun s4=>.inl ()) (a0.length) 0 ():Option (Unit ⊕ Int)).bind (Sum.elim (fun x3=>
 some (-1)) some))
theorem zea{a0 r}(hr:zbe a0=some r):PCalls Tryz.prog 86 [(.sh,vA a0),(.sh,.func (.func 146) [] [.fp [.func (.func 76) [] []]])] (Eo (.int .i64 r) zak):=by
 apply pF 19 [] [] [] [.tmp 4] hr zuB Tryz.func86;intro Φ hΦ hF g;unfold zbe at hF
 iterate 2 (try simp[go_sem,g];try intros;refine zap ?_)
 refine wS hF (fun x3=>[]) (fun x3 hF=>?_) fun _ hj1 hr2 hF=>?_
 ·exact wl hΦ hF
 refine wB ?_;obtain⟨b14,hb15,hψ8⟩:=hF;refine pRK hb15 [0,1,7] (fun i5 s4=>[(8,.v (.int .i64 i5))]) (fun s4 _ hN16=>?_) fun i5 s4 _ _ hi9 hi10 ho6 hg7 hF=>?_
 ·exact wn hN16 (hj1 _) hψ8
 refine wW ?_;refine wu hi9 hi10 ?_;refine wW ?_;refine wB ?_;obtain⟨x11,g,hF⟩:=Rx g hF;refine wW ?_;refine wE hF zh0 fun z12 hF=>?_
 refine wK [0,1,5,7,8,16] ?_;refine wI hF (fun h13 hF=>?_) fun h13 hF=>?_
 ·cases ho6 _ (zaa hF);cases hΦ _ (hr2 _ hψ8);refine wW ?_;try simp[go_sem,g]
 refine wW ?_;exact wi hi9 hi10 (hg7 _) (zaa hF)
def za8(a0:List Int):Option Bool:=
 (zbe a0).bind fun z1=>
 some (decide (0≤z1))
theorem zdT{a0 r}(hr:za8 a0=some r):PCalls Tryz.prog 145 [(.sh,vA a0),(.sh,.func (.func 146) [] [.fp [.func (.func 76) [] []]])] (Eo (.bool r) zak):=by
 apply pF 9 [] [] [] [.tmp 4] hr zuu Tryz.func145;intro Φ hΦ hF g;unfold za8 at hF;refine wW ?_;refine wE hF zea fun z1 hF=>?_
 exact wl hΦ hF
def za0(a0:List Int):Option Bool:=
 (za8 a0).bind fun z1=>
 some (!z1)
theorem zd1{a0 r}(hr:za0 a0=some r):PCalls Tryz.prog 96 [(.sh,vA a0),(.sh,.func (.func 76) [] [])] (Eo (.bool r) zak):=by
 apply pF 9 [] [] [1000000] [.tmp 4] hr zye Tryz.func96;intro Φ hΦ hF g;unfold za0 at hF;refine wW ?_;refine wE hF zdT fun z1 hF=>?_
 exact wl hΦ hF
def zd0(a0:Int)(a1:Int)(a2:List Int):Option Bool:=
 (((zav a0 1 9).bind fun z4=>
 if z4=true then(
 (zav a1 0 39).bind fun z6=>
 if z6=true then(
 if decide ((a2.length:Int)≤380)=true then(
 (za0 a2).bind fun z9=>
 some z9)else(
 some false))else(
 some false))else(
 some false):Option Bool).bind fun x3=>
 some x3)
theorem zlM{a0 a1 a2 r}(hr:zd0 a0 a1 a2=some r):PCalls Tryz.prog 167 [(.sh,.int .i64 a0),(.sh,.int .i64 a1),(.sh,vA a2)] (Eo (.bool r) zcj):=by
 apply pF 22 [] [] [] [.tmp 6] hr zEI Tryz.func167;intro Φ hΦ hF g;unfold zd0 at hF;refine wW ?_;refine wJ hF (fun x3=>[(6,.v (.bool x3))]) (fun x3 hF=>?_) fun _ hj1 hF=>?_
 ·exact wm hΦ hF
 refine wE hF zaM fun z4 hF=>?_
 refine wG hF (fun h5 hF=>?_) fun h5 hF=>?_
 ·try simp[go_sem,g,h5]
  refine wE hF zaM fun z6 hF=>?_
  try simp[go_sem,g,h5]
  refine wG hF (fun h7 hF=>?_) fun h7 hF=>?_
  ·try simp[go_sem,g,h7]
   try intros
   refine wG hF (fun h8 hF=>?_) fun h8 hF=>?_
   ·try simp[go_sem,g,h8]
    refine wE hF zd1 fun z9 hF=>?_
    exact wV h8 (hj1 _) (zaa hF)
   exact wV h8 (hj1 _) (zaa hF)
  exact wV h7 (hj1 _) (zaa hF)
 exact wV h5 (hj1 _) (zaa hF)
def zgp(a0:ByteArray)(a1:List Int):Option ((List Int)):=
 ((zax (σ:=(List Int)×Int) (fun s4=>
 if decide (s4.2<(a0.size:Int))=true then(
 (ixs a0 s4.2).bind fun x10=>
 gd ((s4.1.length+1)*8≤140737488355328∧s4.1.length+1≤4611686018427387904)<|
 some (.go (s4.1++[i64.wrap x10],i64.wrap (s4.2+1))))else(
 some (.out s4.1))) ([(a0.size:Int)],0):Option ((List Int))).bind fun x3=>
 gd ((x3.length+a1.length)*8≤140737488355328∧x3.length+a1.length≤4611686018427387904)<|
 some (x3++a1))
theorem zop{a0 a1 r}(hr:zgp a0 a1=some r):PCalls Tryz.prog 143 [(.sh,.str a0),(.sh,vA a1)] (Eo (vG r) zak):=by
 apply pF 26 [] [] [] [.tmp 4] hr zDf Tryz.func143;intro Φ hΦ hF g;unfold zgp at hF
 iterate 3 refine wW ?_
 refine wJ hF (fun x3=>[(1,.v (vA a1)),(5,.v (vG x3))]) (fun x3 hF=>?_) fun _ hj1 hF=>?_
 ·obtain⟨g,hF⟩:=Rg g hF;refine wK [4] ?_;exact wm hΦ hF
 refine wB ?_;obtain⟨b11,hb12,hψ8⟩:=hF;refine pLK hb12 [0,1,11] (fun s4=>[(5,.v (vG s4.1)),(12,.v (.int .i64 s4.2))]) fun s4 _ _ ho6 hg7 hF=>?_
 refine wW ?_;refine wI hF (fun h9 hF=>?_) fun h9 hF=>?_
 ·refine wW ?_;refine wB ?_;refine wK [0,1,5,6,11,12] ?_;obtain⟨x10,g,hF⟩:=Rxs g hF;obtain⟨g,hF⟩:=Rg g hF;refine wW ?_;exact wT (hg7 _) (zaa hF)
 cases ho6 _ (zaa hF);exact wT (hj1 _) hψ8
def zeH(a0:List Int):Option Bool:=
 ((if decide ((a0.length:Int)≤400)=true then(
 (za0 a0).bind fun z5=>
 some z5)else(
 some false):Option Bool).bind fun x3=>
 some x3)
theorem znc{a0 r}(hr:zeH a0=some r):PCalls Tryz.prog 189 [(.sh,vA a0)] (Eo (.bool r) [.junk]):=by
 apply pF 10 [] [] [] [.tmp 2] hr zEF Tryz.func189;intro Φ hΦ hF g;unfold zeH at hF;refine wW ?_;refine wJ hF (fun x3=>[(2,.v (.bool x3))]) (fun x3 hF=>?_) fun _ hj1 hF=>?_
 ·exact wm hΦ hF
 try simp[go_sem,g]
 try intros
 refine wG hF (fun h4 hF=>?_) fun h4 hF=>?_
 ·try simp[go_sem,g,h4]
  refine wE hF zd1 fun z5 hF=>?_
  exact wV h4 (hj1 _) (zaa hF)
 exact wV h4 (hj1 _) (zaa hF)
def zhh(a0:List Int):Option Int:=
 gd (([(a0.length:Int)].length+a0.length)*8≤140737488355328∧[(a0.length:Int)].length+a0.length≤4611686018427387904)<|
 (some ([(a0.length:Int)]++a0)).bind fun x1=>
 ((zau (σ:=Int×Int) (fun i7 s6=>
 (ix x1 i7).bind fun x13=>
 some (.go ((i64.wrap ((i64.wrap ((i64.wrap (48271*((i64.wrap ((i64.wrap ((i64.wrap (48271*s6.1))+(i64.wrap ((BitVec.ofInt i64.bits x13&&&BitVec.ofInt i64.bits 2147483647).toNat))))+1)).tmod 2147483647)))+(x13.fdiv 2147483648)))+1)).tmod 2147483647,(i64.wrap ((i64.wrap ((i64.wrap (69621*((i64.wrap ((i64.wrap ((i64.wrap (69621*s6.2))+(i64.wrap ((BitVec.ofInt i64.bits x13&&&BitVec.ofInt i64.bits 2147483647).toNat))))+1)).tmod 2147483647)))+(x13.fdiv 2147483648)))+1)).tmod 2147483647))) (fun s6=>(s6.1,s6.2)) (x1.length) 0 (1,2):Option ((Int×Int))).bind fun x5=>
 some (i64.wrap ((i64.wrap (x5.1*2147483648))+x5.2)))
theorem zsM{a0 r}(hr:zhh a0=some r):PCalls Tryz.prog 190 [(.sh,vA a0)] (Eo (.int .i64 r) [.junk]):=by
 apply pF 52 [] [] [] [.tmp 2] hr zDF Tryz.func190;intro Φ hΦ hF g;unfold zhh at hF;obtain⟨g,hF⟩:=Rg g hF;obtain⟨x1,e2,hF⟩:=zdL hF;have g:=And.intro g (show[.int .i64 (a0.length:Int)]::(List.map zaf a0)=x1.map zaf by injection e2 with e2;rw[←e2];simp[go_sem])
 iterate 2 (try simp[go_sem,g];try intros;refine zap ?_)
 try simp[go_sem,g]
 try intros
 refine wK [3,4,13,14,15] ?_;refine wJ hF (fun x5=>[(3,.v (.int .i64 x5.1)),(4,.v (.int .i64 x5.2))]) (fun x5 hF=>?_) fun _ hj3 hF=>?_
 ·have g:=Ls g 31;exact wl hΦ hF
 refine wB ?_;obtain⟨b14,hb15,hψ10⟩:=hF;refine pRK hb15 [13,14] (fun i7 s6=>[(3,.v (.int .i64 s6.1)),(4,.v (.int .i64 s6.2)),(15,.v (.int .i64 i7))]) (fun s6 _ hN16=>?_) fun i7 s6 _ _ hi11 hi12 ho8 hg9 hF=>?_
 ·exact wn hN16 (hj3 _) hψ10
 refine wW ?_;refine wu hi11 hi12 ?_;refine wW ?_;refine wB ?_;obtain⟨x13,g,hF⟩:=Rx g hF;have g:=Ls g 31;refine wW ?_;refine wK [3,4,7,8,13,14,15] ?_;have g:=Ld g 2147483647;refine wW ?_;refine wK [3,4,7,8,13,14,15] ?_;refine wW ?_;refine wK [3,4,13,14,15] ?_;exact wi hi11 hi12 (hg9 _) (zaa hF)
def zfo(a0:List Int):Option (Int×Bool):=
 (zeH a0).bind fun z1=>
 if(!z1)=true then(
 some (0,false))else(
 (zhh a0).bind fun z3=>
 some (z3,true))
theorem zoS{a0 r}(hr:zfo a0=some r):PCalls Tryz.prog 142 [(.sh,vA a0)] (Eo (.tup [.int .i64 r.1,.bool r.2]) [.junk]):=by
 apply pF 9 [] [] [] [.tmp 2,.tmp 3] hr zCs Tryz.func142;intro Φ hΦ hF g;unfold zfo at hF;refine wW ?_;refine wE hF znc fun z1 hF=>?_
 refine wW ?_;refine wI hF (fun h2 hF=>?_) fun h2 hF=>?_
 ·exact wl hΦ hF
 refine wW ?_;refine wE hF zsM fun z3 hF=>?_
 exact wl hΦ hF
def zbU(a0:ByteArray)(a1:List Int):Option (Int×Bool):=
 ((if decide (40<(a0.size:Int))=true then(
 some true)else(
 some (decide (400<(a1.length:Int)))):Option Bool).bind fun x3=>
 if x3=true then(
 some (0,false))else(
 (zgp a0 a1).bind fun z6=>
 (zfo z6).bind fun z7=>
 some (z7.1,z7.2)))
theorem zgh{a0 a1 r}(hr:zbU a0 a1=some r):PCalls Tryz.prog 87 [(.sh,.str a0),(.sh,vA a1)] (Eo (.tup [.int .i64 r.1,.bool r.2]) zak):=by
 apply pF 20 [] [] [] [.tmp 4,.tmp 5] hr zH6 Tryz.func87;intro Φ hΦ hF g;unfold zbU at hF;refine wW ?_;refine wJK hF [0,1] (fun x3=>[(13,.v (.bool x3))]) (fun x3 hF=>?_) fun _ hj1 hF=>?_
 ·refine wI hF (fun h5 hF=>?_) fun h5 hF=>?_
  ·exact wl hΦ hF
  refine wW ?_;refine wE hF zop fun z6 hF=>?_
  refine wE hF zoS fun z7 hF=>?_
  refine wK [4,5] ?_;exact wm hΦ hF
 refine wG hF (fun h4 hF=>?_) fun h4 hF=>?_
 ·exact wV h4 (hj1 _) (zaa hF)
 try simp[go_sem,g,h4]
 try intros
 exact wT (hj1 _) (zaa hF)
def zek(a0:Int)(a1:Int)(a2:Int)(a3:List Int):Option (Int×Bool):=
 (((zd0 a0 a1 a3).bind fun z4=>
 if(!z4)=true then(
 some true)else(
 (zav a2 0 63).bind fun z6=>
 some (!z6)):Option Bool).bind fun x3=>
 if x3=true then(
 some (0,false))else(
 gd (([a0,a1,a2].length+a3.length)*8≤140737488355328∧[a0,a1,a2].length+a3.length≤4611686018427387904)<|
 (zbU (⟨#[101,110,116,114,121]⟩:ByteArray) ([a0,a1,a2]++a3)).bind fun z8=>
 some (z8.1,z8.2)))
theorem zmH{a0 a1 a2 a3 r}(hr:zek a0 a1 a2 a3=some r):PCalls Tryz.prog 123 [(.sh,.int .i64 a0),(.sh,.int .i64 a1),(.sh,.int .i64 a2),(.sh,vA a3)] (Eo (.tup [.int .i64 r.1,.bool r.2]) zf6):=by
 apply pF 29 [] [] [] [.tmp 8,.tmp 9] hr zCM Tryz.func123;intro Φ hΦ hF g;unfold zek at hF;refine wW ?_;refine wJK hF [0,1,2,3] (fun x3=>[(19,.v (.bool x3))]) (fun x3 hF=>?_) fun _ hj1 hF=>?_
 ·refine wI hF (fun h7 hF=>?_) fun h7 hF=>?_
  ·exact wl hΦ hF
  obtain⟨g,hF⟩:=Rg g hF;refine wW ?_;refine wE hF zgh fun z8 hF=>?_
  refine wK [8,9] ?_;exact wm hΦ hF
 refine wE hF zlM fun z4 hF=>?_
 refine wG hF (fun h5 hF=>?_) fun h5 hF=>?_
 ·exact wV h5 (hj1 _) (zaa hF)
 try simp[go_sem,g,h5]
 refine wE hF zaM fun z6 hF=>?_
 exact wV h5 (hj1 _) (zaa hF)
def zeI(a0:Int):Option (ByteArray×Bool):=
 (zdK a0).bind fun z1=>
 if(!z1)=true then(
 some ((⟨#[]⟩:ByteArray),false))else(
 ((zax (σ:=(List Int)×Int) (fun s6=>
 if decide (0≤s6.2)=true then(
 gd (0≤(u64.wrap (i64.wrap (4*s6.2))))<|
 (ixs (⟨#[48,49,50,51,52,53,54,55,56,57,97,98,99,100,101,102]⟩:ByteArray) (i64.wrap ((BitVec.ofInt i64.bits (a0.fdiv (2^min (u64.wrap (i64.wrap (4*s6.2))).toNat i64.bits))&&&BitVec.ofInt i64.bits 15).toNat))).bind fun x12=>
 gd ((s6.1.length+1)*1≤140737488355328∧s6.1.length+1≤4611686018427387904)<|
 some (.go (s6.1++[x12],i64.wrap (s6.2-1))))else(
 some (.out s6.1))) ([],15):Option ((List Int))).bind fun x5=>
 some ((zcY x5),true)))
theorem znb{a0 r}(hr:zeI a0=some r):PCalls Tryz.prog 168 [(.sh,.int .i64 a0)] (Eo (.tup [.str r.1,.bool r.2]) [.junk]):=by
 apply pF 26 [] [] [1000000] [.tmp 2,.tmp 3] hr zDN Tryz.func168;intro Φ hΦ hF g;unfold zeI at hF;refine wW ?_;refine wE hF zid fun z1 hF=>?_
 refine wW ?_;refine wI hF (fun h2 hF=>?_) fun h2 hF=>?_
 ·exact wl hΦ hF
 iterate 3 refine wW ?_
 refine wJ hF (fun x5=>[(4,.v (vM x5))]) (fun x5 hF=>?_) fun _ hj3 hF=>?_
 ·refine wK [2,3] ?_;exact wm hΦ hF
 refine wB ?_;obtain⟨b13,hb14,hψ10⟩:=hF;refine pL hb14 (fun s6=>[(0,.v (.int .i64 a0)),(4,.v (vM s6.1)),(5,.v (.int .i64 s6.2))]) fun s6 _ _ ho8 hg9 hF=>?_
 refine wK [0,4,5,11] ?_;refine wI hF (fun h11 hF=>?_) fun h11 hF=>?_
 ·refine wW ?_;refine wB ?_;obtain⟨g,hF⟩:=Rsh g hF;obtain⟨x12,g,hF⟩:=Rxs g hF;obtain⟨g,hF⟩:=Rg g hF;refine wK [0,4,5] ?_;exact wT (hg9 _) (zaa hF)
 cases ho8 _ (zaa hF);exact wT (hj3 _) hψ10
def zd9(a0:ByteArray)(a1:Int):Option ByteArray:=
 (zeI a1).bind fun z1=>
 gd (a0.size+z1.1.size≤9223372036854775807)<|
 some (a0++z1.1)
theorem zn3{a0 a1 r}(hr:zd9 a0 a1=some r):PCalls Tryz.prog 125 [(.sh,.str a0),(.sh,.int .i64 a1)] (Eo (.str r) zak):=by
 apply pF 15 [] [] [] [.tmp 4] hr zDx Tryz.func125;intro Φ hΦ hF g;unfold zd9 at hF;refine wW ?_;refine wE hF znb fun z1 hF=>?_
 obtain⟨g,hF⟩:=Rsa g hF;refine wW ?_;refine wK [4] ?_;exact wm hΦ hF
def zef(a0:Group)(a1:Int):Option Bool:=
 (zav a1 0 (i64.wrap (a0.Q-1))).bind fun z1=>
 some z1
theorem zl5{a0 a1 r}(hr:zef a0 a1=some r):PCalls Tryz.prog 202 [(.sh,vF a0),(.sh,.int .i64 a1)] (Eo (.bool r) zak):=by
 apply pF 10 [] [] [] [.tmp 4] hr zCE Tryz.func202;intro Φ hΦ hF g;unfold zef at hF;refine wW ?_;refine wE hF zaM fun z1 hF=>?_
 exact wl hΦ hF
def zbn(a0:Int)(a1c0x0:Group):Option Bool:=
 (zef a1c0x0 a0).bind fun z1=>
 some (!z1)
theorem zhb{a0 a1c0x0 r}(hr:zbn a0 a1c0x0=some r):PCalls Tryz.prog 146 [(.sh,.int .i64 a0),(.sh,.fp [.func (.func 202) [vF a1c0x0] []])] (Eo (.bool r) zak):=by
 apply pF 8 [] [] [] [.tmp 3] hr zug Tryz.func146;intro Φ hΦ hF g;unfold zbn at hF;refine wW ?_;refine wE hF zl5 fun z1 hF=>?_
 exact wl hΦ hF
def za7(a0:List Int)(a1u0c0x0:Group):Option Int:=
 ((zau (σ:=Unit) (fun i5 s4=>
 (ix a0 i5).bind fun x11=>
 (zbn x11 a1u0c0x0).bind fun z12=>
 if z12=true then(
 some (.out (.inr i5)))else(
 some (.go ()))) (fun s4=>.inl ()) (a0.length) 0 ():Option (Unit ⊕ Int)).bind (Sum.elim (fun x3=>
 some (-1)) some))
theorem zdU{a0 a1u0c0x0 r}(hr:za7 a0 a1u0c0x0=some r):PCalls Tryz.prog 86 [(.sh,vA a0),(.sh,.func (.func 146) [] [.fp [.func (.func 202) [vF a1u0c0x0] []]])] (Eo (.int .i64 r) zak):=by
 apply pF 19 [] [] [] [.tmp 4] hr zuB Tryz.func86;intro Φ hΦ hF g;unfold za7 at hF
 iterate 2 (try simp[go_sem,g];try intros;refine zap ?_)
 refine wS hF (fun x3=>[]) (fun x3 hF=>?_) fun _ hj1 hr2 hF=>?_
 ·exact wl hΦ hF
 refine wB ?_;obtain⟨b14,hb15,hψ8⟩:=hF;refine pRK hb15 [0,1,7] (fun i5 s4=>[(8,.v (.int .i64 i5))]) (fun s4 _ hN16=>?_) fun i5 s4 _ _ hi9 hi10 ho6 hg7 hF=>?_
 ·exact wn hN16 (hj1 _) hψ8
 refine wW ?_;refine wu hi9 hi10 ?_;refine wW ?_;refine wB ?_;obtain⟨x11,g,hF⟩:=Rx g hF;refine wW ?_;refine wE hF zhb fun z12 hF=>?_
 refine wK [0,1,5,7,8,16] ?_;refine wI hF (fun h13 hF=>?_) fun h13 hF=>?_
 ·cases ho6 _ (zaa hF);cases hΦ _ (hr2 _ hψ8);refine wW ?_;try simp[go_sem,g]
 refine wW ?_;exact wi hi9 hi10 (hg7 _) (zaa hF)
def za3(a0:List Int)(a1u0c0x0:Group):Option Bool:=
 (za7 a0 a1u0c0x0).bind fun z1=>
 some (decide (0≤z1))
theorem zdv{a0 a1u0c0x0 r}(hr:za3 a0 a1u0c0x0=some r):PCalls Tryz.prog 145 [(.sh,vA a0),(.sh,.func (.func 146) [] [.fp [.func (.func 202) [vF a1u0c0x0] []]])] (Eo (.bool r) zak):=by
 apply pF 9 [] [] [] [.tmp 4] hr zuu Tryz.func145;intro Φ hΦ hF g;unfold za3 at hF;refine wW ?_;refine wE hF zdU fun z1 hF=>?_
 exact wl hΦ hF
def zcm(a0:List Int)(a1x0:Group):Option Bool:=
 (za3 a0 a1x0).bind fun z1=>
 some (!z1)
theorem zhR{a0 a1x0 r}(hr:zcm a0 a1x0=some r):PCalls Tryz.prog 96 [(.sh,vA a0),(.sh,.func (.func 202) [vF a1x0] [])] (Eo (.bool r) zak):=by
 apply pF 9 [] [] [1000000] [.tmp 4] hr zye Tryz.func96;intro Φ hΦ hF g;unfold zcm at hF;refine wW ?_;refine wE hF zdv fun z1 hF=>?_
 exact wl hΦ hF
def zce(a0:Group)(a1:List Int):Option Bool:=
 (zcm a1 a0).bind fun z1=>
 some z1
theorem zfT{a0 a1 r}(hr:zce a0 a1=some r):PCalls Tryz.prog 181 [(.sh,vF a0),(.sh,vA a1)] (Eo (.bool r) zak):=by
 apply pF 9 [] [] [] [.tmp 4] hr zEZ Tryz.func181;intro Φ hΦ hF g;unfold zce at hF;refine wW ?_;refine wE hF zhR fun z1 hF=>?_
 exact wl hΦ hF
theorem zD5:zuK Tryz.prog 203 28:=by
 intro n H e b es by_ z e1 e2 h0 h1 h2 h3 h4 h5;refine zgB zCp Tryz.func203 rfl rfl (by simp[Tryz.f203]) fun hw=>?_
 have hn:¬n<0:=by omega
 have hw1:i64.wrap n=n:=wrI (by omega);have hw0:i64.wrap 0=0:=wrI (by omega);have ei:(zde Tryz.prog 3).isSome=true:=by kernel_rfl
 by_cases hp:0<n
 ·have hne:n≠0:=by omega
  have h5':=h5;simp[zai]at h5';simp[Tryz.f203,awp,zeh,aop,ahp,zaB,zaJ,zaG,mat,zaP,zar,zh1,FR.put,FR.init,rdv,rda,za1,zbJ,zai,Am.lenV,ze6,zcW,bnd,zmB,zmc,zhv,ziA,zke,hn,e1,e2,ei,hw1,hw0,hp,h1,h2,h3,h4,hne]
  first|exact h5'|exact .inl h5'
 have hz:n=0:=by omega
 subst hz;simp[Tryz.f203,awp,zeh,aop,ahp,zaB,zaJ,zaG,mat,zaP,zar,zh1,FR.put,FR.init,rdv,rda,za1,zbJ,zai,Am.lenV,ze6,zcW,bnd,zmB,zmc,zhv,ziA,zke,hn,e1,e2,hw1,hw0,hp]
def zbB(a0:(List (List Int))):Option ((List Int)):=
 ((zau (σ:=Int) (fun i5 s4=>
 (ix a0 i5).bind fun x11=>
 if decide ((i64.wrap (s4+(x11.length:Int)))<0)=true then(
 none)else(
 some (.go (i64.wrap (s4+(x11.length:Int)))))) (fun s4=>s4) (a0.length) 0 0:Option Int).bind fun x3=>
 gd (0≤x3∧8*x3≤140737488355328∧x3≤4611686018427387904)<|
 ((zau (σ:=(List Int)) (fun i22 s21=>
 (ix a0 i22).bind fun x28=>
 gd ((s21.length+x28.length)*8≤140737488355328∧s21.length+x28.length≤4611686018427387904)<|
 some (.go (s21++x28))) (fun s21=>s21) (a0.length) 0 []:Option ((List Int))).bind fun x20=>
 some x20))
theorem zfe{a0 r}(hr:zbB a0=some r):PCalls Tryz.prog 183 [(.sh,vN a0)] (Eo (vG r) [.junk]):=by
 apply pF 36 [] [] [] [.tmp 2] hr zEM Tryz.func183;intro Φ hΦ hF g;unfold zbB at hF
 iterate 3 (try simp[go_sem,g];try intros;refine zap ?_)
 refine wJ hF (fun x3=>[(0,.v (vN a0)),(3,.v (.int .i64 x3))]) (fun x3 hF=>?_) fun _ hj1 hF=>?_
 ·obtain⟨g17,hF⟩:=zfp hF;try simp[go_sem,g]
  refine zzS zD5 zHS (by simp[go_sem,g]) g17 ?_;try simp[go_sem,g]
  try intros
  refine zap ?_;try simp[go_sem,g]
  try intros
  refine wK [6,25,26,27] ?_;refine wJ hF (fun x20=>[(6,.v (vG x20))]) (fun x20 hF=>?_) fun _ hj18 hF=>?_
  ·exact wl hΦ hF
  refine wB ?_;obtain⟨b29,hb30,hψ25⟩:=hF;refine pRK hb30 [25,26] (fun i22 s21=>[(6,.v (vG s21)),(27,.v (.int .i64 i22))]) (fun s21 _ hN31=>?_) fun i22 s21 _ _ hi26 hi27 ho23 hg24 hF=>?_
  ·exact wn hN31 (hj18 _) hψ25
  refine wW ?_;refine wu hi26 hi27 ?_;refine wW ?_;refine wB ?_;obtain⟨x28,g,hF⟩:=Rx g hF;obtain⟨g,hF⟩:=Rg g hF
  iterate 2 refine wW ?_
  exact wi hi26 hi27 (hg24 _) (zaa hF)
 refine wB ?_;obtain⟨b13,hb14,hψ8⟩:=hF;refine pRK hb14 [0,9,10] (fun i5 s4=>[(3,.v (.int .i64 s4)),(11,.v (.int .i64 i5))]) (fun s4 _ hN15=>?_) fun i5 s4 _ _ hi9 hi10 ho6 hg7 hF=>?_
 ·exact wn hN15 (hj1 _) hψ8
 refine wW ?_;refine wu hi9 hi10 ?_;refine wW ?_;refine wB ?_;obtain⟨x11,g,hF⟩:=Rx g hF;try simp[go_sem,g]
 try intros
 refine zap ?_;try simp[go_sem,g]
 try intros
 refine wK [0,3,9,10,11] ?_;refine wW ?_;refine wI hF (fun h12 hF=>?_) fun h12 hF=>?_
 ·exact(zt4 hF).elim
 refine wW ?_;exact wi hi9 hi10 (hg7 _) (zaa hF)
def zbM(a0:Group)(a1:ByteArray)(a2:List Int):Option (Int×Bool):=
 gd (([a0.P,a0.Q,a0.G].length+a2.length)*8≤140737488355328∧[a0.P,a0.Q,a0.G].length+a2.length≤4611686018427387904)<|
 (zbU a1 ([a0.P,a0.Q,a0.G]++a2)).bind fun z1=>
 if(!z1.2)=true then(
 some (0,false))else(
 gd (a0.Q≠0)<|
 some (z1.1.tmod a0.Q,true))
theorem zhd{a0 a1 a2 r}(hr:zbM a0 a1 a2=some r):PCalls Tryz.prog 182 [(.sh,vF a0),(.sh,.str a1),(.sh,vA a2)] (Eo (.tup [.int .i64 r.1,.bool r.2]) zcj):=by
 apply pF 30 [] [] [] [.tmp 6,.tmp 7] hr zEv Tryz.func182;intro Φ hΦ hF g;unfold zbM at hF;obtain⟨g,hF⟩:=Rg g hF;refine wW ?_;refine wE hF zgh fun z1 hF=>?_
 refine wK [3,8,9] ?_;refine wW ?_;refine wI hF (fun h2 hF=>?_) fun h2 hF=>?_
 ·exact wl hΦ hF
 obtain⟨g,hF⟩:=Rz g hF;cases hΦ _ (zaa hF)
 iterate 2 refine wW ?_
 try simp[go_sem,g]
def zh7(a0:Int)(a1:Int):Option Int:=
 gd (a1≠0)<|
 gd (a1≠0)<|
 some ((i64.wrap ((a0.tmod a1)+a1)).tmod a1)
theorem zuk{a0 a1 r}(hr:zh7 a0 a1=some r):PCalls Tryz.prog 89 [(.sh,.int .i64 a0),(.sh,.int .i64 a1)] (Eo (.int .i64 r) zak):=by
 apply pF 12 [] [] [] [.tmp 4] hr zIK Tryz.func89;intro Φ hΦ hF g;unfold zh7 at hF
 iterate 2 obtain⟨g,hF⟩:=Rz g hF
 cases hΦ _ (zaa hF)
 iterate 2 refine wW ?_
 try simp[go_sem,g]
def zbj(a0:Group)(a1:Int)(a2:Int):Option Int:=
 (zh7 a2 a0.Q).bind fun z1=>
 (zc9 a1 z1 a0.P).bind fun z2=>
 some z2
theorem zdj{a0 a1 a2 r}(hr:zbj a0 a1 a2=some r):PCalls Tryz.prog 51 [(.sh,vF a0),(.sh,.int .i64 a1),(.sh,.int .i64 a2)] (Eo (.int .i64 r) zcj):=by
 apply pF 15 [] [] [] [.tmp 6] hr zIl Tryz.func51;intro Φ hΦ hF g;unfold zbj at hF;refine wW ?_;refine wZ [k0 0,k0 1,k1 2 3,k2 3 3,k1 5 3,k2 6 3,k3 4,k3 7,k0 8] follows ?_;refine wE hF zuk fun z1 hF=>?_
 refine wE hF zhV fun z2 hF=>?_
 refine wK [6] ?_;exact wm hΦ hF
def zaZ(a0:Group)(a1:List Int):Option Int:=
 ((zau (σ:=Int) (fun i5 s4=>
 (ix a1 i5).bind fun x11=>
 gd (a0.P≠0)<|
 some (.go ((i64.wrap (s4*x11)).tmod a0.P))) (fun s4=>s4) (a1.length) 0 1:Option Int).bind fun x3=>
 some x3)
theorem zcy{a0 a1 r}(hr:zaZ a0 a1=some r):PCalls Tryz.prog 50 [(.sh,vF a0),(.sh,vA a1)] (Eo (.int .i64 r) zak):=by
 apply pF 22 [] [] [] [.tmp 4] hr zIs Tryz.func50;intro Φ hΦ hF g;unfold zaZ at hF
 iterate 3 (try simp[go_sem,g];try intros;refine zap ?_)
 refine wJ hF (fun x3=>[(5,.v (.int .i64 x3))]) (fun x3 hF=>?_) fun _ hj1 hF=>?_
 ·exact wl hΦ hF
 refine wB ?_;obtain⟨b12,hb13,hψ8⟩:=hF;refine pRK hb13 [2,8,9] (fun i5 s4=>[(5,.v (.int .i64 s4)),(10,.v (.int .i64 i5))]) (fun s4 _ hN14=>?_) fun i5 s4 _ _ hi9 hi10 ho6 hg7 hF=>?_
 ·exact wn hN14 (hj1 _) hψ8
 refine wW ?_;refine wu hi9 hi10 ?_;refine wW ?_;refine wB ?_;obtain⟨x11,g,hF⟩:=Rx g hF;refine wK [2,5,7,8,9,10] ?_;obtain⟨g,hF⟩:=Rz g hF;refine wW ?_;exact wi hi9 hi10 (hg7 _) (zaa hF)
def zdY(a0:Group)(a1:List Int)(a2:List Int):Option Int:=
 ((zau (σ:=Int) (fun i5 s4=>
 (ix a1 i5).bind fun x11=>
 (ix a2 i5).bind fun x12=>
 (zbj a0 x11 x12).bind fun z13=>
 (zaZ a0 [s4,z13]).bind fun z14=>
 some (.go z14)) (fun s4=>s4) (a1.length) 0 1:Option Int).bind fun x3=>
 some x3)
theorem zlQ{a0 a1 a2 r}(hr:zdY a0 a1 a2=some r):PCalls Tryz.prog 204 [(.sh,vF a0),(.sh,vA a1),(.sh,vA a2)] (Eo (.int .i64 r) zcj):=by
 apply pF 30 [] [] [] [.tmp 6] hr zCH Tryz.func204;intro Φ hΦ hF g;unfold zdY at hF
 iterate 3 (try simp[go_sem,g];try intros;refine zap ?_)
 refine wJ hF (fun x3=>[(7,.v (.int .i64 x3))]) (fun x3 hF=>?_) fun _ hj1 hF=>?_
 ·exact wl hΦ hF
 refine wB ?_;obtain⟨b15,hb16,hψ8⟩:=hF;refine pRK hb16 [2,3,10,11] (fun i5 s4=>[(7,.v (.int .i64 s4)),(12,.v (.int .i64 i5))]) (fun s4 _ hN17=>?_) fun i5 s4 _ _ hi9 hi10 ho6 hg7 hF=>?_
 ·exact wn hN17 (hj1 _) hψ8
 refine wW ?_;refine wu hi9 hi10 ?_;refine wW ?_;refine wB ?_;obtain⟨x11,g,hF⟩:=Rx g hF;refine wK [2,3,7,8,9,10,11,12] ?_;refine wZ [k2 0 3,k0 1,k2 2 3,k0 3,k0 4,k0 5,k0 6,k0 7,k3 8,k0 9,fun _=>⟨10,[17,26],[],none,true,true,true⟩,k0 11] follows ?_;obtain⟨x12,g,hF⟩:=Rx g hF;refine wE hF zdj fun z13 hF=>?_
 refine wE hF zcy fun z14 hF=>?_
 refine wK [2,3,7,10,11,12] ?_;exact wi hi9 hi10 (hg7 _) (zaa hF)
def zdV(a0:Group)(a1:(List (List Int)))(a2:List Int):Option ((List Int)):=
 ((zau (σ:=(List Int)) (fun i5 s4=>
 (ix a1 i5).bind fun x11=>
 (zdY a0 x11 a2).bind fun z12=>
 gd ((s4.length+1)*8≤140737488355328∧s4.length+1≤4611686018427387904)<|
 some (.go (s4++[z12]))) (fun s4=>s4) (a1.length) 0 []:Option ((List Int))).bind fun x3=>
 some x3)
theorem zlL{a0 a1 a2 r}(hr:zdV a0 a1 a2=some r):PCalls Tryz.prog 184 [(.sh,vF a0),(.sh,vN a1),(.sh,vA a2)] (Eo (vG r) zcj):=by
 apply pF 26 [] [] [] [.tmp 6] hr zEK Tryz.func184;intro Φ hΦ hF g;unfold zdV at hF
 iterate 3 (try simp[go_sem,g];try intros;refine zap ?_)
 refine wJ hF (fun x3=>[(7,.v (vG x3))]) (fun x3 hF=>?_) fun _ hj1 hF=>?_
 ·exact wl hΦ hF
 refine wB ?_;obtain⟨b13,hb14,hψ8⟩:=hF;refine pRK hb14 [2,3,11,12] (fun i5 s4=>[(7,.v (vG s4)),(13,.v (.int .i64 i5))]) (fun s4 _ hN15=>?_) fun i5 s4 _ _ hi9 hi10 ho6 hg7 hF=>?_
 ·exact wn hN15 (hj1 _) hψ8
 refine wW ?_;refine wu hi9 hi10 ?_;refine wW ?_;refine wB ?_;obtain⟨x11,g,hF⟩:=Rx g hF;refine wK [2,3,7,9,11,12,13] ?_;refine wE hF zlQ fun z12 hF=>?_
 obtain⟨g,hF⟩:=Rg g hF;refine wW ?_;exact wi hi9 hi10 (hg7 _) (zaa hF)
def zbR(a0:Group)(a1:ByteArray)(a2:(List (List Int)))(a3:List Int)(a4:Proof):Option Bool:=
 ((if((a4.Commits.length:Int) !=(a2.length:Int))=true then(
 some true)else(
 if((a4.Challenges.length:Int) !=1)=true then(
 some true)else(
 (ix a2 0).bind fun x6=>
 if((a4.Responses.length:Int) !=(x6.length:Int))=true then(
 some true)else(
 (zbt a0 a4.Commits).bind fun z8=>
 if(!z8)=true then(
 some true)else(
 (zce a0 a4.Responses).bind fun z10=>
 some (!z10))))):Option Bool).bind fun x3=>
 if x3=true then(
 some false)else(
 (zbB a2).bind fun z12=>
 (zbB [z12,a3,a4.Commits]).bind fun z13=>
 (zbM a0 a1 z13).bind fun z14=>
 ((if(!z14.2)=true then(
 some true)else(
 (ix a4.Challenges 0).bind fun x19=>
 some (x19 !=z14.1)):Option Bool).bind fun x17=>
 if x17=true then(
 some false)else(
 (zdV a0 a2 a4.Responses).bind fun z21=>
 ((zau (σ:=Unit) (fun i26 s25=>
 (ix z21 i26).bind fun x32=>
 (ix a4.Commits i26).bind fun x33=>
 (ix a3 i26).bind fun x34=>
 (zbj a0 x34 z14.1).bind fun z35=>
 (zaZ a0 [x33,z35]).bind fun z36=>
 if(x32 !=z36)=true then(
 some (.out (.inr false)))else(
 some (.go ()))) (fun s25=>.inl ()) (z21.length) 0 ():Option (Unit ⊕ Bool)).bind (Sum.elim (fun x24=>
 some true) some))))))
theorem zgq{a0 a1 a2 a3 a4 r}(hr:zbR a0 a1 a2 a3 a4=some r):PCalls Tryz.prog 138 [(.sh,vF a0),(.sh,.str a1),(.sh,vN a2),(.sh,vA a3),(.sh,vB a4)] (Eo (.bool r) zn9):=by
 apply pF 103 [] [368] [] [.tmp 10] hr zDz Tryz.func138;intro Φ hΦ hF g;unfold zbR at hF;refine wW ?_;refine wJK hF [1,2,3,5,9] (fun x3=>[(50,.v (.bool x3))]) (fun x3 hF=>?_) fun _ hj1 hF=>?_
 ·refine wI hF (fun h11 hF=>?_) fun h11 hF=>?_
  ·exact wl hΦ hF
  refine wW ?_;refine wZ [k2 0 5,k0 1,k0 2,k0 4,k1 5 9,k2 6 9,k3 3,k0 7,fun _=>⟨8,[59],[],none,true,true,true⟩,k3 9,k0 10,k0 11,k0 12,k0 13,k0 14] follows ?_;refine wE hF zfe fun z12 hF=>?_
  refine wE hF zfe fun z13 hF=>?_
  refine wE hF zhd fun z14 hF=>?_
  refine wK [2,3,5,9,11,12] ?_;refine wJK hF [2,3,5,9,11] (fun x17=>[(73,.v (.bool x17))]) (fun x17 hF=>?_) fun _ hj15 hF=>?_
  ·refine wI hF (fun h20 hF=>?_) fun h20 hF=>?_
   ·exact wl hΦ hF
   refine wW ?_;refine wE hF zlL fun z21 hF=>?_
   try simp[go_sem,g]
   try intros
   refine zap ?_;refine wS hF (fun x24=>[]) (fun x24 hF=>?_) fun _ hj22 hr23 hF=>?_
   ·exact wl hΦ hF
   refine wB ?_;obtain⟨b38,hb39,hψ29⟩:=hF;refine pRK hb39 [3,5,9,11,78,79] (fun i26 s25=>[(80,.v (.int .i64 i26))]) (fun s25 _ hN40=>?_) fun i26 s25 _ _ hi30 hi31 ho27 hg28 hF=>?_
   ·exact wn hN40 (hj22 _) hψ29
   refine wW ?_;refine wu hi30 hi31 ?_;refine wW ?_;refine wB ?_;obtain⟨x32,g,hF⟩:=Rx g hF;refine wK [3,5,9,11,13,14,78,79,80] ?_;refine wZ [k0 0,k2 1 5,k1 2 9,k2 3 9,k0 4,k0 5,k0 6,k2 7 5,k0 8,k0 9,k0 10,k0 11,k0 12,fun _=>⟨13,[92,96,97],[],none,false,true,false⟩,k0 14,fun _=>⟨15,[86,99],[],none,true,true,true⟩,k0 16] follows ?_;obtain⟨x33,g,hF⟩:=Rx g hF;obtain⟨x34,g,hF⟩:=Rx g hF;refine wD hF zdj fun z35 hF=>?_
   refine wE hF zcy fun z36 hF=>?_
   refine wK [3,5,9,11,78,79,80,101] ?_;refine wI hF (fun h37 hF=>?_) fun h37 hF=>?_
   ·cases ho27 _ (zaa hF);cases hΦ _ (hr23 _ hψ29);refine wW ?_;try simp[go_sem,g]
   refine wW ?_;exact wi hi30 hi31 (hg28 _) (zaa hF)
  refine wG hF (fun h18 hF=>?_) fun h18 hF=>?_
  ·exact wV h18 (hj15 _) (zaa hF)
  obtain⟨x19,g,hF⟩:=Rxn g 0 hF;exact wV h18 (hj15 _) (zaa hF)
 refine wZ [k1 0 9,k2 1 9,k0 2,k0 3,k0 4,k0 5,k0 6,k1 7 9,k2 8 9,k0 9,k0 10,k0 11,k0 12,k1 13 9,k2 14 9,k0 15,k0 16,k0 17,k0 18,k0 19,k0 20,k0 21,k0 22,k2 23 5,k1 24 9,k2 25 9,k3 26,k0 27,k0 28,k0 29,k2 30 5,k1 31 9,k2 32 9,k3 33,k0 34,k0 35] follows ?_;try simp[go_sem,g]
 try intros
 refine wH hF (fun h4 hF=>?_) fun h4 hF=>?_
 ·exact wV h4 (hj1 _) (zaa hF)
 try simp[go_sem,g,h4]
 try intros
 refine wH hF (fun h5 hF=>?_) fun h5 hF=>?_
 ·exact wV h5 (hj1 _) (zaa hF)
 obtain⟨x6,g,hF⟩:=Rxn g 0 hF;try simp[go_sem,g,h5]
 try intros
 refine wH hF (fun h7 hF=>?_) fun h7 hF=>?_
 ·exact wV h7 (hj1 _) (zaa hF)
 try simp[go_sem,g,h7]
 refine wE hF zfa fun z8 hF=>?_
 try simp[go_sem,g,h7]
 refine wH hF (fun h9 hF=>?_) fun h9 hF=>?_
 ·exact wV h9 (hj1 _) (zaa hF)
 try simp[go_sem,g,h9]
 refine wE hF zfT fun z10 hF=>?_
 exact wV h9 (hj1 _) (zaa hF)
def zdr(a0:Group)(a1:ByteArray)(a2:Int)(a3:Proof):Option Bool:=
 (zbR a0 a1 [[a0.G]] [a2] a3).bind fun z1=>
 some z1
theorem zkM{a0 a1 a2 a3 r}(hr:zdr a0 a1 a2 a3=some r):PCalls Tryz.prog 124 [(.sh,vF a0),(.sh,.str a1),(.sh,.int .i64 a2),(.sh,vB a3)] (Eo (.bool r) zf6):=by
 apply pF 19 [] [] [] [.tmp 8] hr zCw Tryz.func124;intro Φ hΦ hF g;unfold zdr at hF;refine wW ?_;refine wE hF zgq fun z1 hF=>?_
 refine wK [8] ?_;exact wm hΦ hF
def zdG(a0:Group)(a1:Int)(a2:Int)(a3:Entry):Option Bool:=
 (zek a3.Kind a3.Author a2 a3.Data).bind fun z1=>
 ((if z1.2=true then(
 (zd9 (⟨#[101,110,116,114,121,32]⟩:ByteArray) z1.1).bind fun z6=>
 (zdr a0 z6 a1 a3.Sign).bind fun z7=>
 some z7)else(
 some false):Option Bool).bind fun x4=>
 some x4)
theorem zk9{a0 a1 a2 a3 r}(hr:zdG a0 a1 a2 a3=some r):PCalls Tryz.prog 81 [(.sh,vF a0),(.sh,.int .i64 a1),(.sh,.int .i64 a2),(.sh,vC a3)] (Eo (.bool r) zf6):=by
 apply pF 32 [] [] [] [.tmp 8] hr zHB Tryz.func81;intro Φ hΦ hF g;unfold zdG at hF;refine wW ?_;refine wE hF zmH fun z1 hF=>?_
 refine wK [1,4,7,9,10] ?_;refine wJ hF (fun x4=>[(8,.v (.bool x4))]) (fun x4 hF=>?_) fun _ hj2 hF=>?_
 ·exact wm hΦ hF
 refine wZ [k0 0,k0 1,k2 2 4,k0 3,k0 5,k1 6 7,k2 7 7,k3 4,k3 8,k0 9,k0 10] follows ?_;refine wH hF (fun h5 hF=>?_) fun h5 hF=>?_
 ·try simp[go_sem,g,h5]
  refine wE hF zn3 fun z6 hF=>?_
  try simp[go_sem,g,h5]
  refine wE hF zkM fun z7 hF=>?_
  exact wV h5 (hj2 _) (zaa hF)
 exact wV h5 (hj2 _) (zaa hF)
def zdC(a0:Group)(a1:Board):Option Bool:=
 (((zdD a0 a1.Keys).bind fun z4=>
 if(!z4)=true then(
 some true)else(
 some (decide (64<(a1.Entries.length:Int)))):Option Bool).bind fun x3=>
 if x3=true then(
 some false)else(
 ((zau (σ:=Unit) (fun i11 s10=>
 (ix a1.Entries i11).bind fun x17=>
 (((zav x17.Author 0 (i64.wrap ((a1.Keys.length:Int)-1))).bind fun z21=>
 if(!z21)=true then(
 some true)else(
 (ix a1.Keys x17.Author).bind fun x23=>
 (zdG a0 x23 i11 x17).bind fun z24=>
 some (!z24)):Option Bool).bind fun x20=>
 if x20=true then(
 some (.out (.inr false)))else(
 some (.go ())))) (fun s10=>.inl ()) (a1.Entries.length) 0 ():Option (Unit ⊕ Bool)).bind (Sum.elim (fun x9=>
 some true) some))))
theorem zlk{a0 a1 r}(hr:zdC a0 a1=some r):PCalls Tryz.prog 44 [(.sh,vF a0),(.sh,vE a1)] (Eo (.bool r) zak):=by
 apply pF 48 [] [] [] [.tmp 4] hr zJe Tryz.func44;intro Φ hΦ hF g;unfold zdC at hF;refine wW ?_;refine wJK hF [2,3] (fun x3=>[(17,.v (.bool x3))]) (fun x3 hF=>?_) fun _ hj1 hF=>?_
 ·refine wI hF (fun h6 hF=>?_) fun h6 hF=>?_
  ·exact wl hΦ hF
  iterate 2 (try simp[go_sem,g];try intros;refine zap ?_)
  refine wS hF (fun x9=>[]) (fun x9 hF=>?_) fun _ hj7 hr8 hF=>?_
  ·exact wl hΦ hF
  refine wB ?_;obtain⟨b26,hb27,hψ14⟩:=hF;refine pRK hb27 [2,3,19,20] (fun i11 s10=>[(21,.v (.int .i64 i11))]) (fun s10 _ hN28=>?_) fun i11 s10 _ _ hi15 hi16 ho12 hg13 hF=>?_
  ·exact wn hN28 (hj7 _) hψ14
  refine wW ?_;refine wu hi15 hi16 ?_;refine wW ?_;refine wB ?_;obtain⟨x17,g,hF⟩:=Rx g hF;refine wK [2,3,5,6,19,20,21] ?_;refine wJK hF [2,3,19,20,21] (fun x20=>[(46,.v (.bool x20))]) (fun x20 hF=>?_) fun _ hj18 hF=>?_
  ·refine wI hF (fun h25 hF=>?_) fun h25 hF=>?_
   ·cases ho12 _ (zaa hF);cases hΦ _ (hr8 _ hψ14);refine wW ?_;try simp[go_sem,g]
   refine wW ?_;exact wi hi15 hi16 (hg13 _) (zaa hF)
  refine wZ [k1 0 6,k2 1 6,k1 2 3,k2 3 3,k0 4,k0 5,k3 6,k0 7,k0 8,k2 9 2,k1 10 3,k2 11 3,k1 12 6,k2 13 6,k0 14,k0 15,k0 16,k2 17 6,k3 18,k0 19,k0 20] follows ?_;try simp[go_sem,g]
  try intros
  refine wE hF zaM fun z21 hF=>?_
  refine wH hF (fun h22 hF=>?_) fun h22 hF=>?_
  ·exact wV h22 (hj18 _) (zaa hF)
  obtain⟨x23,g,hF⟩:=Rx g hF;try simp[go_sem,g,h22]
  refine wE hF zk9 fun z24 hF=>?_
  exact wV h22 (hj18 _) (zaa hF)
 refine wE hF zlx fun z4 hF=>?_
 refine wG hF (fun h5 hF=>?_) fun h5 hF=>?_
 ·exact wV h5 (hj1 _) (zaa hF)
 try simp[go_sem,g,h5]
 try intros
 exact wT (hj1 _) (zaa hF)
def zev(a0:Group)(a1:Board):Option Bool:=
 (((zc1 a0).bind fun z4=>
 if z4=true then(
 (zdC a0 a1).bind fun z6=>
 some z6)else(
 some false):Option Bool).bind fun x3=>
 some x3)
theorem zov{a0 a1 r}(hr:zev a0 a1=some r):PCalls Tryz.prog 94 [(.sh,vF a0),(.sh,vE a1)] (Eo (.bool r) zak):=by
 apply pF 12 [] [] [] [.tmp 4] hr zH0 Tryz.func94;intro Φ hΦ hF g;unfold zev at hF;refine wW ?_;refine wJ hF (fun x3=>[(4,.v (.bool x3))]) (fun x3 hF=>?_) fun _ hj1 hF=>?_
 ·exact wm hΦ hF
 refine wE hF zin fun z4 hF=>?_
 refine wG hF (fun h5 hF=>?_) fun h5 hF=>?_
 ·try simp[go_sem,g,h5]
  refine wE hF zlk fun z6 hF=>?_
  exact wV h5 (hj1 _) (zaa hF)
 exact wV h5 (hj1 _) (zaa hF)
def zb5(a0:Contest):Option Bool:=
 ((if decide (a0.Least<0)=true then(
 some true)else(
 some (decide (a0.Most<a0.Least))):Option Bool).bind fun x3=>
 if x3=true then(
 some false)else(
 ((if(a0.Kind==1)=true then(
 some (a0.Kind==1))else(
 some (a0.Kind==3)):Option Bool).bind fun x8=>
 if x8=true then(
 (((zav a0.Options 1 8).bind fun z14=>
 if z14=true then(
 if decide (a0.Most≤a0.Options)=true then(
 some (a0.Points==0))else(
 some false))else(
 some false):Option Bool).bind fun x13=>
 some x13))else(
 if(a0.Kind==2)=true then(
 (((zav a0.Options 1 8).bind fun z21=>
 if z21=true then(
 (zav a0.Points 1 5).bind fun z23=>
 if z23=true then(
 some (decide (a0.Most≤(i64.wrap (a0.Options*a0.Points)))))else(
 some false))else(
 some false):Option Bool).bind fun x20=>
 some x20))else(
 if(a0.Kind==4)=true then(
 ((if(a0.Options==0)=true then(
 if decide (a0.Most≤5)=true then(
 some (a0.Points==0))else(
 some false))else(
 some false):Option Bool).bind fun x28=>
 some x28))else(
 some false))))))
theorem zhG{a0 r}(hr:zb5 a0=some r):PCalls Tryz.prog 98 [(.sh,vO a0)] (Eo (.bool r) [.junk]):=by
 apply pF 68 [] [] [] [.tmp 2] hr zJC Tryz.func98;intro Φ hΦ hF g;unfold zb5 at hF;refine wW ?_;refine wJ hF (fun x3=>[(1,.bl [.int .i64 a0.Kind,.int .i64 a0.Options,.int .i64 a0.Least,.int .i64 a0.Most,.int .i64 a0.Points]),(12,.v (.bool x3))]) (fun x3 hF=>?_) fun _ hj1 hF=>?_
 ·refine wI hF (fun h5 hF=>?_) fun h5 hF=>?_
  ·exact wl hΦ hF
  iterate 2 refine wW ?_
  refine wB ?_;refine wW ?_;refine wJK hF [1,14] (fun x8=>[(15,.v (.bool x8))]) (fun x8 hF=>?_) fun _ hj6 hF=>?_
  ·refine wI hF (fun h10 hF=>?_) fun h10 hF=>?_
   ·refine wJ hF (fun x13=>[(2,.v (.bool x13))]) (fun x13 hF=>?_) fun _ hj11 hF=>?_
    ·exact wm hΦ hF
    refine wE hF zaM fun z14 hF=>?_
    refine wG hF (fun h15 hF=>?_) fun h15 hF=>?_
    ·try simp[go_sem,g,h15]
     refine wG hF (fun h16 hF=>?_) fun h16 hF=>?_
     ·exact wV h16 (hj11 _) (zaa hF)
     exact wV h16 (hj11 _) (zaa hF)
    exact wV h15 (hj11 _) (zaa hF)
   refine wW ?_;refine wI hF (fun h17 hF=>?_) fun h17 hF=>?_
   ·refine wJ hF (fun x20=>[(2,.v (.bool x20))]) (fun x20 hF=>?_) fun _ hj18 hF=>?_
    ·exact wm hΦ hF
    refine wE hF zaM fun z21 hF=>?_
    refine wG hF (fun h22 hF=>?_) fun h22 hF=>?_
    ·try simp[go_sem,g,h22]
     refine wE hF zaM fun z23 hF=>?_
     try simp[go_sem,g,h22]
     refine wG hF (fun h24 hF=>?_) fun h24 hF=>?_
     ·exact wV h24 (hj18 _) (zaa hF)
     exact wV h24 (hj18 _) (zaa hF)
    exact wV h22 (hj18 _) (zaa hF)
   refine wK [1,53] ?_;refine wI hF (fun h25 hF=>?_) fun h25 hF=>?_
   ·refine wJ hF (fun x28=>[(2,.v (.bool x28))]) (fun x28 hF=>?_) fun _ hj26 hF=>?_
    ·exact wm hΦ hF
    refine wG hF (fun h29 hF=>?_) fun h29 hF=>?_
    ·try simp[go_sem,g,h29]
     refine wG hF (fun h30 hF=>?_) fun h30 hF=>?_
     ·exact wV h30 (hj26 _) (zaa hF)
     exact wV h30 (hj26 _) (zaa hF)
    exact wV h29 (hj26 _) (zaa hF)
   cases hΦ _ (zaa hF)
   iterate 2 refine wW ?_
   try simp[go_sem,g]
  refine wI hF (fun h9 hF=>?_) fun h9 hF=>?_
  ·exact wT (hj6 _) (zaa hF)
  exact wT (hj6 _) (zaa hF)
 refine wG hF (fun h4 hF=>?_) fun h4 hF=>?_
 ·exact wV h4 (hj1 _) (zaa hF)
 exact wV h4 (hj1 _) (zaa hF)
def zdz(a0:List Int):Option (Contest×Bool):=
 if((a0.length:Int) !=5)=true then(
 some ((Contest.mk 0 0 0 0 0),false))else(
 (ix a0 0).bind fun x2=>
 (ix a0 1).bind fun x3=>
 (ix a0 2).bind fun x4=>
 (ix a0 3).bind fun x5=>
 (ix a0 4).bind fun x6=>
 (zb5 (Contest.mk x2 x3 x4 x5 x6)).bind fun z7=>
 if(!z7)=true then(
 some ((Contest.mk 0 0 0 0 0),false))else(
 some ((Contest.mk x2 x3 x4 x5 x6),true)))
theorem zli{a0 r}(hr:zdz a0=some r):PCalls Tryz.prog 59 [(.sh,vA a0)] (Eo (.tup [vO r.1,.bool r.2]) [.junk]):=by
 apply pF 30 [] [] [] [.cell 2 36,.tmp 3] hr zHc Tryz.func59;intro Φ hΦ hF g;unfold zdz at hF
 iterate 2 (try simp[go_sem,g];try intros;refine zap ?_)
 refine wI hF (fun h1 hF=>?_) fun h1 hF=>?_
 ·exact wl hΦ hF
 refine wW ?_;refine wZ [k0 0,k0 1,k0 2,k0 3,k0 4,k0 5,k0 6,k0 7,k0 8,k0 9,k0 10,k0 11,k0 12,k0 13,k0 14,k0 15,k0 16,k2 17 4] follows ?_;obtain⟨x2,g,hF⟩:=Rxn g 0 hF;obtain⟨x3,g,hF⟩:=Rxn g 1 hF;obtain⟨x4,g,hF⟩:=Rxn g 2 hF;obtain⟨x5,g,hF⟩:=Rxn g 3 hF;obtain⟨x6,g,hF⟩:=Rxn g 4 hF;refine wK [2,4] ?_;refine wE hF zhG fun z7 hF=>?_
 refine wW ?_;refine wI hF (fun h8 hF=>?_) fun h8 hF=>?_
 ·exact wl hΦ hF
 cases hΦ _ (zaa hF)
 iterate 2 refine wW ?_
 try simp[go_sem,g]
def zeB(a0:Group)(a1:Opening):Option Plan:=
 some (Plan.mk a0 a1.Ct a1.Threshold a1.Trustees a1.Mixers a1.Voters 0)
theorem zlD{a0 a1 r}(hr:zeB a0 a1=some r):PCalls Tryz.prog 34 [(.sh,vF a0),(.sh,vAD a1)] (Eo (vQ r) zak):=by
 apply pF 17 [] [] [] [.cell 4 38] hr zJE Tryz.func34;intro Φ hΦ hF g;unfold zeB at hF;refine wW ?_;refine wK [4] ?_;exact wm hΦ hF
def zbb(a0:Contest):Option Int:=
 if(a0.Kind==2)=true then(
 some (i64.wrap (a0.Points+1)))else(
 if(a0.Kind==3)=true then(
 some (i64.wrap (a0.Options+1)))else(
 if(a0.Kind==4)=true then(
 some 27)else(
 some 2)))
theorem zlK{a0 r}(hr:zbb a0=some r):PCalls Tryz.prog 166 [(.sh,vO a0)] (Eo (.int .i64 r) [.junk]):=by
 apply pF 17 [] [] [] [.tmp 2] hr zCW Tryz.func166;intro Φ hΦ hF g;unfold zbb at hF
 iterate 2 refine wW ?_
 refine wB ?_;refine wW ?_;refine wI hF (fun h1 hF=>?_) fun h1 hF=>?_
 ·refine wK [2] ?_;exact wm hΦ hF
 refine wW ?_;refine wI hF (fun h2 hF=>?_) fun h2 hF=>?_
 ·refine wK [2] ?_;exact wm hΦ hF
 refine wK [15] ?_;refine wI hF (fun h3 hF=>?_) fun h3 hF=>?_
 ·exact wl hΦ hF
 cases hΦ _ (zaa hF)
 iterate 2 refine wW ?_
 try simp[go_sem,g]
def zf4(a0:List Int)(a1:Int):Option Int:=
 ((zax (σ:=Int×Int) (fun s4=>
 if decide (0≤s4.2)=true then(
 (ix a0 s4.2).bind fun x10=>
 some (.go (i64.wrap ((i64.wrap (s4.1*a1))+x10),i64.wrap (s4.2-1))))else(
 some (.out s4.1))) (0,i64.wrap ((a0.length:Int)-1)):Option Int).bind fun x3=>
 some x3)
theorem zqs{a0 a1 r}(hr:zf4 a0 a1=some r):PCalls Tryz.prog 165 [(.sh,vA a0),(.sh,.int .i64 a1)] (Eo (.int .i64 r) zak):=by
 apply pF 23 [] [] [] [.tmp 4] hr zDP Tryz.func165;intro Φ hΦ hF g;unfold zf4 at hF
 iterate 3 (try simp[go_sem,g];try intros;refine zap ?_)
 refine wJ hF (fun x3=>[(5,.v (.int .i64 x3))]) (fun x3 hF=>?_) fun _ hj1 hF=>?_
 ·exact wl hΦ hF
 refine wB ?_;obtain⟨b11,hb12,hψ8⟩:=hF;refine pLK hb12 [0,1] (fun s4=>[(5,.v (.int .i64 s4.1)),(6,.v (.int .i64 s4.2))]) fun s4 _ _ ho6 hg7 hF=>?_
 refine wW ?_;refine wI hF (fun h9 hF=>?_) fun h9 hF=>?_
 ·refine wW ?_;refine wB ?_;obtain⟨x10,g,hF⟩:=Rx g hF;refine wK [0,1,5,6] ?_;exact wT (hg7 _) (zaa hF)
 cases ho6 _ (zaa hF);exact wT (hj1 _) hψ8
def zcb(a0:Contest):Option Int:=
 ((if(a0.Kind==1)=true then(
 zax (σ:=(List Int)×Int) (fun s5=>
 if decide (s5.2<a0.Options)=true then(
 ((if decide ((i64.wrap (a0.Options-a0.Most))≤s5.2)=true then(
 some 1)else(
 some 0):Option Int).bind fun x13=>
 gd ((s5.1.length+1)*8≤140737488355328∧s5.1.length+1≤4611686018427387904)<|
 some (.go (s5.1++[x13],i64.wrap (s5.2+1)))))else(
 some (.out s5.1))) ([],0))else(
 if(a0.Kind==2)=true then(
 gd (0≤a0.Options∧a0.Options≤a0.Options∧8*a0.Options≤140737488355328∧a0.Options≤4611686018427387904)<|
 (some (List.replicate a0.Options.toNat 0)).bind fun x18=>
 zax (σ:=(List Int)×Int×Int) (fun s29=>
 if decide (0≤s29.2.2)=true then(
 (ix s29.1 s29.2.2).bind fun x35=>
 (ix (s29.1.set s29.2.2.toNat (if a0.Points<s29.2.1 then a0.Points else s29.2.1)) s29.2.2).bind fun x36=>
 some (.go (s29.1.set s29.2.2.toNat (if a0.Points<s29.2.1 then a0.Points else s29.2.1),i64.wrap (s29.2.1-x36),i64.wrap (s29.2.2-1))))else(
 some (.out s29.1))) (x18,a0.Most,i64.wrap (a0.Options-1)))else(
 if(a0.Kind==3)=true then(
 zax (σ:=(List Int)×Int) (fun s40=>
 if decide (s40.2<a0.Most)=true then(
 gd ((s40.1.length+1)*8≤140737488355328∧s40.1.length+1≤4611686018427387904)<|
 some (.go (s40.1++[i64.wrap ((i64.wrap ((i64.wrap (a0.Options-a0.Most))+1))+s40.2)],i64.wrap (s40.2+1))))else(
 some (.out s40.1))) ([],0))else(
 zax (σ:=(List Int)×Int) (fun s48=>
 if decide (s48.2<a0.Most)=true then(
 gd ((s48.1.length+1)*8≤140737488355328∧s48.1.length+1≤4611686018427387904)<|
 some (.go (s48.1++[26],i64.wrap (s48.2+1))))else(
 some (.out s48.1))) ([],0)))):Option ((List Int))).bind fun x3=>
 (zbb a0).bind fun z56=>
 (zf4 x3 z56).bind fun z57=>
 some z57)
theorem zg5{a0 r}(hr:zcb a0=some r):PCalls Tryz.prog 121 [(.sh,vO a0)] (Eo (.int .i64 r) [.junk]):=by
 apply pF 89 [] [] [] [.tmp 2] hr zFi Tryz.func121;intro Φ hΦ hF g;unfold zcb at hF
 iterate 3 refine wW ?_
 refine wJ hF (fun x3=>[(1,.bl [.int .i64 a0.Kind,.int .i64 a0.Options,.int .i64 a0.Least,.int .i64 a0.Most,.int .i64 a0.Points]),(3,.v (vG x3))]) (fun x3 hF=>?_) fun _ hj1 hF=>?_
 ·refine wE hF zlK fun z56 hF=>?_
  refine wE hF zqs fun z57 hF=>?_
  refine wK [2] ?_;exact wm hΦ hF
 refine wB ?_;refine wW ?_;refine wI hF (fun h4 hF=>?_) fun h4 hF=>?_
 ·refine wK [1,3,23,24] ?_;refine wB ?_;obtain⟨b15,hb16,hψ9⟩:=hF;refine pLK hb16 [1,23] (fun s5=>[(3,.v (vG s5.1)),(24,.v (.int .i64 s5.2))]) fun s5 _ _ ho7 hg8 hF=>?_
  refine wW ?_;refine wI hF (fun h10 hF=>?_) fun h10 hF=>?_
  ·refine wW ?_;refine wB ?_
   iterate 2 refine wW ?_
   refine wK [1,3,5,23,24,33] ?_;refine wJK hF [1,3,23,24] (fun x13=>[(5,.v (.int .i64 x13))]) (fun x13 hF=>?_) fun _ hj11 hF=>?_
   ·obtain⟨g,hF⟩:=Rg g hF;refine wW ?_;exact wT (hg8 _) (zaa hF)
   refine wI hF (fun h14 hF=>?_) fun h14 hF=>?_
   ·exact wT (hj11 _) (zaa hF)
   exact wT (hj11 _) (zaa hF)
  cases ho7 _ (zaa hF);exact wT (hj1 _) hψ9
 refine wK [1,3,11,39] ?_;refine wI hF (fun h17 hF=>?_) fun h17 hF=>?_
 ·obtain⟨g,hF⟩:=Rg g hF;obtain⟨x18,e19,hF⟩:=zdL hF;have g20:List.replicate a0.Options.toNat ([.int .i64 0]:List PV)=x18.map zaf:=by injection e19 with e19;rw[←e19];simp[go_sem]
  iterate 2 (try simp[go_sem,g,g20];refine zap ?_)
  try simp[go_sem,g,g20]
  refine wK [1,3,6,7] ?_;refine wB ?_;obtain⟨b37,hb38,hψ33⟩:=hF;refine pL hb38 (fun s29=>[(1,.bl [.int .i64 a0.Kind,.int .i64 a0.Options,.int .i64 a0.Least,.int .i64 a0.Most,.int .i64 a0.Points]),(3,.v (vG s29.1)),(6,.v (.int .i64 s29.2.1)),(7,.v (.int .i64 s29.2.2))]) fun s29 _ _ ho31 hg32 hF=>?_
  refine wW ?_;refine wI hF (fun h34 hF=>?_) fun h34 hF=>?_
  ·refine wW ?_;refine wB ?_;obtain⟨x35,g,hF⟩:=Rx g hF;refine wK [1,3,6,7] ?_;obtain⟨x36,g,hF⟩:=Rx g hF;try simp only[List.length_set]at g
   refine wW ?_;exact wT (hg32 _) (zaa hF)
  cases ho31 _ (zaa hF);exact wT (hj1 _) hψ33
 refine wW ?_;refine wI hF (fun h39 hF=>?_) fun h39 hF=>?_
 ·refine wW ?_;refine wB ?_;obtain⟨b46,hb47,hψ44⟩:=hF;refine pLK hb47 [1,69] (fun s40=>[(3,.v (vG s40.1)),(70,.v (.int .i64 s40.2))]) fun s40 _ _ ho42 hg43 hF=>?_
  refine wW ?_;refine wI hF (fun h45 hF=>?_) fun h45 hF=>?_
  ·refine wW ?_;refine wB ?_;obtain⟨g,hF⟩:=Rg g hF;refine wW ?_;refine wK [1,3,69,70] ?_;exact wT (hg43 _) (zaa hF)
  cases ho42 _ (zaa hF);exact wT (hj1 _) hψ44
 refine wW ?_;refine wB ?_;obtain⟨b54,hb55,hψ52⟩:=hF;refine pLK hb55 [1,13] (fun s48=>[(3,.v (vG s48.1)),(14,.v (.int .i64 s48.2))]) fun s48 _ _ ho50 hg51 hF=>?_
 refine wW ?_;refine wI hF (fun h53 hF=>?_) fun h53 hF=>?_
 ·refine wW ?_;refine wB ?_;obtain⟨g,hF⟩:=Rg g hF;refine wK [1,3,13,14] ?_;exact wT (hg51 _) (zaa hF)
 cases ho50 _ (zaa hF);exact wT (hj1 _) hψ52
def zbw(a0:Contest):Option Bool:=
 ((if(a0.Kind==1)=true then(
 some true)else(
 some (a0.Kind==2)):Option Bool).bind fun x3=>
 some x3)
theorem zes{a0 r}(hr:zbw a0=some r):PCalls Tryz.prog 77 [(.sh,vO a0)] (Eo (.bool r) [.junk]):=by
 apply pF 11 [] [] [] [.tmp 2] hr zJD Tryz.func77;intro Φ hΦ hF g;unfold zbw at hF;refine wW ?_;refine wJ hF (fun x3=>[(2,.v (.bool x3))]) (fun x3 hF=>?_) fun _ hj1 hF=>?_
 ·exact wm hΦ hF
 refine wG hF (fun h4 hF=>?_) fun h4 hF=>?_
 ·exact wV h4 (hj1 _) (zaa hF)
 exact wV h4 (hj1 _) (zaa hF)
def zeF(a0:Group)(a1:Contest):Option Bool:=
 (((zc1 a0).bind fun z4=>
 if(!z4)=true then(
 some true)else(
 (zb5 a1).bind fun z6=>
 if(!z6)=true then(
 some true)else(
 (zcb a1).bind fun z8=>
 if decide (100000<z8)=true then(
 some true)else(
 (zcb a1).bind fun z10=>
 some (decide (a0.Q≤z10))))):Option Bool).bind fun x3=>
 if x3=true then(
 some false)else(
 (((zbw a1).bind fun z15=>
 if(!z15)=true then(
 some true)else(
 if decide ((i64.wrap (a1.Most-a1.Least))<8)=true then(
 some (decide (a1.Most<a0.Q)))else(
 some false)):Option Bool).bind fun x14=>
 some x14)))
end
end Go.Pm
