/-
  Plain functions and their walks. Written by wip/tools/lift.py.
-/
import Derived.Test.YtekoabfndgochaaGreatDoorIt
namespace Go.Pm
open Go.Am IntKind
open Go.Proofs
set_option maxRecDepth 100000
attribute [local irreducible] pw pwx pw1 pwg qv qz qf
attribute [-simp] List.map_set
set_option linter.unusedSimpArgs false
set_option linter.unusedVariables false
noncomputable section
structure Group where
 P:Int
 Q:Int
 G:Int
structure Contest where
 Kind:Int
 Options:Int
 Least:Int
 Most:Int
 Points:Int
structure l1Cur where
 code:(List Int)
 at_:Int
 seed:Int
structure Cipher where
 A:Int
 B:Int
structure Proof where
 Commits:(List Int)
 Challenges:(List Int)
 Responses:(List Int)
structure Sealed where
 Voter:Int
 Ciphers:(List Cipher)
 Proofs:(List Proof)
 Sum:Proof
structure EqualLog where
 G1:Int
 Y1:Int
 G2:Int
 Y2:Int
structure l3State where
 s:Int
 t:Int
structure listReader where
 l:(List Int)
 ok:Bool
def zgC(x:Int):List PV:=[.int .u8 x]
variable{i:Nat}{l:List Int}{x:(List Int)}
@[go_sem] theorem zHM{x:Int}:zgC x=[.int .u8 x]:=(rfl)
@[go_sem] theorem zto :List.map (List.map drop∘zgC) l=l.map zgC:=by refine List.map_congr_left fun x _=>?_;simp[go_sem]
@[go_sem] theorem zDw :List.map (List.map drop) (l.map zgC)=l.map zgC:=by rw[List.map_map];exact zto
@[go_sem] theorem zEy{a:Int}:(l.map zgC).set i [.int .u8 a]=(l.set i a).map zgC:=by rw[List.map_set];rfl
def zam(x:Int):List PV:=[.int .i64 x]
@[go_sem] theorem zD0{x:Int}:zam x=[.int .i64 x]:=(rfl)
@[go_sem] theorem zsr :List.map (List.map drop∘zam) l=l.map zam:=by refine List.map_congr_left fun x _=>?_;simp[go_sem]
@[go_sem] theorem zBb :List.map (List.map drop) (l.map zam)=l.map zam:=by rw[List.map_map];exact zsr
@[go_sem] theorem zDU{a:Int}:(l.map zam).set i [.int .i64 a]=(l.set i a).map zam:=by rw[List.map_set];rfl
def zeV(x:List Int):List PV:=[.sl false 1 (x.map zam)]
@[go_sem] theorem zDL :zeV x=[.sl false 1 (x.map zam)]:=(rfl)
@[go_sem] theorem zre{l:List (List Int)}:List.map (List.map drop∘zeV) l=l.map zeV:=by refine List.map_congr_left fun x _=>?_;simp[go_sem]
@[go_sem] theorem zAv{l:List (List Int)}:List.map (List.map drop) (l.map zeV)=l.map zeV:=by rw[List.map_map];exact zre
@[go_sem] theorem zBz{l:List (List Int)}{a:(List Int)}:(l.map zeV).set i [.sl false 1 (a.map zam)]=(l.set i a).map zeV:=by rw[List.map_set];rfl
def zic(x:List Int):List PV:=[.sl true 1 (x.map zam)]
@[go_sem] theorem zDF :zic x=[.sl true 1 (x.map zam)]:=(rfl)
@[go_sem] theorem zri{l:List (List Int)}:List.map (List.map drop∘zic) l=l.map zeV:=by refine List.map_congr_left fun x _=>?_;simp[go_sem]
@[go_sem] theorem zAn{l:List (List Int)}:List.map (List.map drop) (l.map zic)=l.map zeV:=by rw[List.map_map];exact zri
@[go_sem] theorem zDm{l:List (List Int)}{a:(List Int)}:(l.map zic).set i [.sl true 1 (a.map zam)]=(l.set i a).map zic:=by rw[List.map_set];rfl
def zde(x:EqualLog):List PV:=[.int .i64 x.G1,.int .i64 x.Y1,.int .i64 x.G2,.int .i64 x.Y2]
@[go_sem] theorem zzQ{x:EqualLog}:zde x=[.int .i64 x.G1,.int .i64 x.Y1,.int .i64 x.G2,.int .i64 x.Y2]:=(rfl)
@[go_sem] theorem zoa{l:List EqualLog}:List.map (List.map drop∘zde) l=l.map zde:=by refine List.map_congr_left fun x _=>?_;simp[go_sem]
@[go_sem] theorem zwC{l:List EqualLog}:List.map (List.map drop) (l.map zde)=l.map zde:=by rw[List.map_map];exact zoa
@[go_sem] theorem zyR{l:List EqualLog}{G1:Int}{Y1:Int}{G2:Int}{Y2:Int}:(l.map zde).set i [.int .i64 G1,.int .i64 Y1,.int .i64 G2,.int .i64 Y2]=(l.set i (EqualLog.mk G1 Y1 G2 Y2)).map zde:=by rw[List.map_set];rfl
def zb7(x:Cipher):List PV:=[.int .i64 x.A,.int .i64 x.B]
@[go_sem] theorem zBe{x:Cipher}:zb7 x=[.int .i64 x.A,.int .i64 x.B]:=(rfl)
@[go_sem] theorem zpq{l:List Cipher}:List.map (List.map drop∘zb7) l=l.map zb7:=by refine List.map_congr_left fun x _=>?_;simp[go_sem]
@[go_sem] theorem zyh{l:List Cipher}:List.map (List.map drop) (l.map zb7)=l.map zb7:=by rw[List.map_map];exact zpq
@[go_sem] theorem zA6{l:List Cipher}{A:Int}{B:Int}:(l.map zb7).set i [.int .i64 A,.int .i64 B]=(l.set i (Cipher.mk A B)).map zb7:=by rw[List.map_set];rfl
def zaX(x:Proof):List PV:=[.sl false 1 (x.Commits.map zam),.sl false 1 (x.Challenges.map zam),.sl false 1 (x.Responses.map zam)]
@[go_sem] theorem zyG{x:Proof}:zaX x=[.sl false 1 (x.Commits.map zam),.sl false 1 (x.Challenges.map zam),.sl false 1 (x.Responses.map zam)]:=(rfl)
@[go_sem] theorem znA{l:List Proof}:List.map (List.map drop∘zaX) l=l.map zaX:=by refine List.map_congr_left fun x _=>?_;simp[go_sem]
@[go_sem] theorem zws{l:List Proof}:List.map (List.map drop) (l.map zaX)=l.map zaX:=by rw[List.map_map];exact znA
@[go_sem] theorem zyf{l:List Proof}{Commits:(List Int)}{Challenges:(List Int)}{Responses:(List Int)}:(l.map zaX).set i [.sl false 1 (Commits.map zam),.sl false 1 (Challenges.map zam),.sl false 1 (Responses.map zam)]=(l.set i (Proof.mk Commits Challenges Responses)).map zaX:=by rw[List.map_set];rfl
def zdR(x:Proof):List PV:=[.sl true 1 (x.Commits.map zam),.sl true 1 (x.Challenges.map zam),.sl true 1 (x.Responses.map zam)]
@[go_sem] theorem zyr{x:Proof}:zdR x=[.sl true 1 (x.Commits.map zam),.sl true 1 (x.Challenges.map zam),.sl true 1 (x.Responses.map zam)]:=(rfl)
@[go_sem] theorem znm{l:List Proof}:List.map (List.map drop∘zdR) l=l.map zaX:=by refine List.map_congr_left fun x _=>?_;simp[go_sem]
@[go_sem] theorem zwr{l:List Proof}:List.map (List.map drop) (l.map zdR)=l.map zaX:=by rw[List.map_map];exact znm
@[go_sem] theorem zye{l:List Proof}{Commits:(List Int)}{Challenges:(List Int)}{Responses:(List Int)}:(l.map zdR).set i [.sl true 1 (Commits.map zam),.sl true 1 (Challenges.map zam),.sl true 1 (Responses.map zam)]=(l.set i (Proof.mk Commits Challenges Responses)).map zdR:=by rw[List.map_set];rfl
def vA(x:List Int):PV:=.sl false 1 (x.map zgC)
@[go_sem] theorem zQ3 :vA x=.sl false 1 (x.map zgC):=(rfl)
def vB(x0:List Int)(x1:Int)(x2:Int):PV:=.bx [.sl false 1 (x0.map zgC),.int .i64 x1,.int .u64 x2]
@[go_sem] theorem zRC{x0:(List Int)}{x1:Int}{x2:Int}:vB x0 x1 x2=.bx [.sl false 1 (x0.map zgC),.int .i64 x1,.int .u64 x2]:=(rfl)
def vC(x:List Int):PV:=.sl false 1 (x.map zam)
@[go_sem] theorem zQ9 :vC x=.sl false 1 (x.map zam):=(rfl)
def vD(x:List Int):PV:=.sl true 1 (x.map zam)
@[go_sem] theorem zRw :vD x=.sl true 1 (x.map zam):=(rfl)
def vE(x:Group):PV:=.agg [.int .i64 x.P,.int .i64 x.Q,.int .i64 x.G]
@[go_sem] theorem zQM{x:Group}:vE x=.agg [.int .i64 x.P,.int .i64 x.Q,.int .i64 x.G]:=(rfl)
def vF(x:Contest):PV:=.agg [.int .i64 x.Kind,.int .i64 x.Options,.int .i64 x.Least,.int .i64 x.Most,.int .i64 x.Points]
@[go_sem] theorem zQl{x:Contest}:vF x=.agg [.int .i64 x.Kind,.int .i64 x.Options,.int .i64 x.Least,.int .i64 x.Most,.int .i64 x.Points]:=(rfl)
def vG(x:(List (List Int))):PV:=.sl false 1 (x.map zeV)
@[go_sem] theorem zRK{x:(List (List Int))}:vG x=.sl false 1 (x.map zeV):=(rfl)
def vH(x:Proof):PV:=.agg [.sl false 1 (x.Commits.map zam),.sl false 1 (x.Challenges.map zam),.sl false 1 (x.Responses.map zam)]
@[go_sem] theorem zQL{x:Proof}:vH x=.agg [.sl false 1 (x.Commits.map zam),.sl false 1 (x.Challenges.map zam),.sl false 1 (x.Responses.map zam)]:=(rfl)
def vI(x:(List (List Int))):PV:=.sl true 1 (x.map zic)
@[go_sem] theorem zRl{x:(List (List Int))}:vI x=.sl true 1 (x.map zic):=(rfl)
def vJ(x:Cipher):PV:=.agg [.int .i64 x.A,.int .i64 x.B]
@[go_sem] theorem zRt{x:Cipher}:vJ x=.agg [.int .i64 x.A,.int .i64 x.B]:=(rfl)
def vK(x:List EqualLog):PV:=.sl true 4 (x.map zde)
@[go_sem] theorem zQt{x:(List EqualLog)}:vK x=.sl true 4 (x.map zde):=(rfl)
def vL(x:EqualLog):PV:=.agg [.int .i64 x.G1,.int .i64 x.Y1,.int .i64 x.G2,.int .i64 x.Y2]
@[go_sem] theorem zRx{x:EqualLog}:vL x=.agg [.int .i64 x.G1,.int .i64 x.Y1,.int .i64 x.G2,.int .i64 x.Y2]:=(rfl)
def vM(x:List EqualLog):PV:=.sl false 4 (x.map zde)
@[go_sem] theorem zQT{x:(List EqualLog)}:vM x=.sl false 4 (x.map zde):=(rfl)
def vN(x:Proof):PV:=.agg [.sl true 1 (x.Commits.map zam),.sl true 1 (x.Challenges.map zam),.sl true 1 (x.Responses.map zam)]
@[go_sem] theorem zRy{x:Proof}:vN x=.agg [.sl true 1 (x.Commits.map zam),.sl true 1 (x.Challenges.map zam),.sl true 1 (x.Responses.map zam)]:=(rfl)
def vO(x:List Cipher):PV:=.sl true 2 (x.map zb7)
@[go_sem] theorem zQ1{x:(List Cipher)}:vO x=.sl true 2 (x.map zb7):=(rfl)
def vP(x:List Proof):PV:=.sl true 3 (x.map zdR)
@[go_sem] theorem zQp{x:(List Proof)}:vP x=.sl true 3 (x.map zdR):=(rfl)
def vQ(x:List Cipher):PV:=.sl false 2 (x.map zb7)
@[go_sem] theorem zRq{x:(List Cipher)}:vQ x=.sl false 2 (x.map zb7):=(rfl)
def vR(x:Sealed):PV:=.agg [.int .i64 x.Voter,.sl false 2 (x.Ciphers.map zb7),.sl false 3 (x.Proofs.map zaX),.sl false 1 (x.Sum.Commits.map zam),.sl false 1 (x.Sum.Challenges.map zam),.sl false 1 (x.Sum.Responses.map zam)]
@[go_sem] theorem zQk{x:Sealed}:vR x=.agg [.int .i64 x.Voter,.sl false 2 (x.Ciphers.map zb7),.sl false 3 (x.Proofs.map zaX),.sl false 1 (x.Sum.Commits.map zam),.sl false 1 (x.Sum.Challenges.map zam),.sl false 1 (x.Sum.Responses.map zam)]:=(rfl)
def vS(x0:Int)(x1:Int):PV:=.bx [.int .i64 x0,.int .i64 x1]
@[go_sem] theorem zP6{x0:Int}{x1:Int}:vS x0 x1=.bx [.int .i64 x0,.int .i64 x1]:=(rfl)
def vT(x:Sealed):PV:=.agg [.int .i64 x.Voter,.sl true 2 (x.Ciphers.map zb7),.sl true 3 (x.Proofs.map zdR),.sl true 1 (x.Sum.Commits.map zam),.sl true 1 (x.Sum.Challenges.map zam),.sl true 1 (x.Sum.Responses.map zam)]
@[go_sem] theorem zRJ{x:Sealed}:vT x=.agg [.int .i64 x.Voter,.sl true 2 (x.Ciphers.map zb7),.sl true 3 (x.Proofs.map zdR),.sl true 1 (x.Sum.Commits.map zam),.sl true 1 (x.Sum.Challenges.map zam),.sl true 1 (x.Sum.Responses.map zam)]:=(rfl)
def vU(x:List Proof):PV:=.sl false 3 (x.map zaX)
@[go_sem] theorem zQC{x:(List Proof)}:vU x=.sl false 3 (x.map zaX):=(rfl)
def vV(x:List Proof):PV:=.sl true 3 (x.map zaX)
@[go_sem] theorem zRp{x:(List Proof)}:vV x=.sl true 3 (x.map zaX):=(rfl)
def vW(x:(List (List Int))):PV:=.sl true 1 (x.map zeV)
@[go_sem] theorem zRf{x:(List (List Int))}:vW x=.sl true 1 (x.map zeV):=(rfl)
def vX(x0:List Int)(x1:Bool):PV:=.bx [.sl false 1 (x0.map zam),.bool x1]
@[go_sem] theorem zQ4{x0:(List Int)}{x1:Bool}:vX x0 x1=.bx [.sl false 1 (x0.map zam),.bool x1]:=(rfl)
def vY(x:Sealed):PV:=.agg [.int .i64 x.Voter,.sl true 2 (x.Ciphers.map zb7),.sl false 3 (x.Proofs.map zaX),.sl false 1 (x.Sum.Commits.map zam),.sl false 1 (x.Sum.Challenges.map zam),.sl false 1 (x.Sum.Responses.map zam)]
@[go_sem] theorem zQh{x:Sealed}:vY x=.agg [.int .i64 x.Voter,.sl true 2 (x.Ciphers.map zb7),.sl false 3 (x.Proofs.map zaX),.sl false 1 (x.Sum.Commits.map zam),.sl false 1 (x.Sum.Challenges.map zam),.sl false 1 (x.Sum.Responses.map zam)]:=(rfl)
def zjX(a0:List Int)(a1:List Int):Option Bool:=
 ((if decide (1048576<(a0.length:Int))=true then(
 some true)else(
 some (decide ((i64.wrap (1048576-(a0.length:Int)))<(a1.length:Int)))):Option Bool).bind fun x3=>
 some x3)
theorem zvX:∀{a0}{a1}{r},zjX a0 a1=some r→PCalls Tryz.prog 5 [(.sh,vA a0),(.sh,vA a1)] (Eo (.bool r) [.junk,.junk]):=by
 intro a0 a1 r hr;apply pF 16 [] [] [] [.tmp 4] hr cl5 Tryz.func5;intro Φ hΦ hF g;unfold zjX at hF;refine wW ?_;refine wJ hF (fun x3=>[(4,.v (.bool x3))]) (fun x3 hF=>?_) fun _ hj1 hF=>?_
 ·exact wm hΦ hF
 try simp[go_sem,g]
 try intros
 refine wG hF (fun h4 hF=>?_) fun h4 hF=>?_
 ·exact wV h4 (hj1 _) (zaa hF)
 try simp[go_sem,g,h4]
 try intros
 exact wT (hj1 _) (zaa hF)
@[go_sem] def zCi:List DE:=[d0 0 [0],d0 1 [4],d0 2 [5],d0 3 [6],d0 4 [0],d0 5 [8],d0 6 [9],d0 7 [10],d0 8 [11],d0 9 [7,12]]
@[go_sem] def zBp:List DE:=[d0 0 [0],d0 1 [14],d0 2 [15],d0 3 [16],d0 4 [0],d0 5 [18],d0 6 [19],d0 7 [20],d0 8 [17,21],d0 9 [22],d0 10 [23],d0 11 [24]]
@[go_sem] def zBh:List DE:=[d0 0 [0],d0 1 [44],d0 2 [45],d0 3 [46],d0 4 [0],d0 5 [48],d0 6 [49],d0 7 [50],d0 8 [51],d0 9 [47,52]]
def zcL(a0c0:List Int)(a0c1:Int)(a0c2:Int):Option (Int×(List Int×Int×Int)):=
 ((if decide (a0c1<(a0c0.length:Int))=true then(
 (ix a0c0 a0c1).bind fun x5=>
 some (i64.wrap x5))else(
 some 0):Option Int).bind fun x3=>
 if decide ((i64.wrap (a0c1+1))≤(a0c0.length:Int))=true then(
 some (x3,(a0c0,i64.wrap (a0c1+1),u64.wrap ((u64.wrap ((u64.wrap (a0c2*6364136223846793005))+(u64.wrap x3)))+1442695040888963407))))else(
 some (i64.wrap (u64.wrap ((BitVec.ofInt u64.bits ((u64.wrap ((u64.wrap ((u64.wrap (a0c2*6364136223846793005))+(u64.wrap x3)))+1442695040888963407)).fdiv 1099511627776)&&&BitVec.ofInt u64.bits 255).toNat)),(a0c0,i64.wrap (a0c1+1),u64.wrap ((u64.wrap ((u64.wrap (a0c2*6364136223846793005))+(u64.wrap x3)))+1442695040888963407)))))
theorem zh0:∀{a0c0}{a0c1}{a0c2}{r},zcL a0c0 a0c1 a0c2=some r→PCalls Tryz.prog 174 [(.io,vB a0c0 a0c1 a0c2)] (Eo (.int .i64 r.1) [vB r.2.1 r.2.2.1 r.2.2.2]):=by
 intro a0c0 a0c1 a0c2 r hr;apply pF 62 [0] [] [] [.tmp 2] hr zF3 Tryz.func174;intro Φ hΦ hF g;unfold zcL at hF
 iterate 2 refine wW ?_
 refine wX zCi follows ?_;try simp[go_sem,g]
 try intros
 refine wK [0,3,13] ?_;refine wJ hF (fun x3=>[(0,.v (vB a0c0 a0c1 a0c2)),(3,.v (.int .i64 x3))]) (fun x3 hF=>?_) fun _ hj1 hF=>?_
 ·refine wW ?_;refine wK [0,3] ?_;refine wX zBh follows ?_;try simp[go_sem,g]
  try intros
  refine wK [0,3,53] ?_;refine wI hF (fun h6 hF=>?_) fun h6 hF=>?_
  ·exact wl hΦ hF
  have g:=Ls g 40;cases hΦ _ (zaa hF)
  iterate 2 refine wW ?_
  try simp[go_sem,g]
 refine wI hF (fun h4 hF=>?_) fun h4 hF=>?_
 ·refine wX zBp follows ?_;obtain⟨x5,g,hF⟩:=Rx g hF;exact wT (hj1 _) (zaa hF)
 exact wT (hj1 _) (zaa hF)
def zag(a0c0:List Int)(a0c1:Int)(a0c2:Int)(a1:Int):Option (Int×(List Int×Int×Int)):=
 if decide (a1≤1)=true then(
 some (0,(a0c0,a0c1,a0c2)))else(
 (zcL a0c0 a0c1 a0c2).bind fun z2=>
 ((if decide (200<a1)=true then(
 (zcL z2.2.1 z2.2.2.1 z2.2.2.2).bind fun z7=>
 some ((z7.2.1,z7.2.2.1,z7.2.2.2),i64.wrap ((i64.wrap (z2.1*256))+z7.1)))else(
 some ((z2.2.1,z2.2.2.1,z2.2.2.2),z2.1)):Option (((List Int×Int×Int)×Int))).bind fun x5=>
 gd (a1≠0)<|
 some (x5.2.tmod a1,(x5.1.1,x5.1.2.1,x5.1.2.2))))
theorem zai:∀{a0c0}{a0c1}{a0c2}{a1}{r},zag a0c0 a0c1 a0c2 a1=some r→PCalls Tryz.prog 94 [(.io,vB a0c0 a0c1 a0c2),(.sh,.int .i64 a1)] (Eo (.int .i64 r.1) [vB r.2.1 r.2.2.1 r.2.2.2,.junk]):=by
 intro a0c0 a0c1 a0c2 a1 r hr;apply pF 20 [0] [] [] [.tmp 4] hr zLD Tryz.func94;intro Φ hΦ hF g;unfold zag at hF
 iterate 2 refine wW ?_
 refine wI hF (fun h1 hF=>?_) fun h1 hF=>?_
 ·exact wl hΦ hF
 refine wW ?_;refine wC hF [.io] zh0 fun z2 hF=>?_
 iterate 2 refine wW ?_
 refine wJ hF (fun x5=>[(0,.v (vB x5.1.1 x5.1.2.1 x5.1.2.2)),(1,.v (.int .i64 a1)),(5,.v (.int .i64 x5.2))]) (fun x5 hF=>?_) fun _ hj3 hF=>?_
 ·obtain⟨g,hF⟩:=Rz g hF;refine wK [0,4] ?_;exact wm hΦ hF
 refine wI hF (fun h6 hF=>?_) fun h6 hF=>?_
 ·refine wC hF [.io] zh0 fun z7 hF=>?_
  exact wT (hj3 _) (zaa hF)
 exact wT (hj3 _) (zaa hF)
def zhK(a0c0:List Int)(a0c1:Int)(a0c2:Int)(a1:List Int):Option (Int×(List Int×Int×Int)):=
 (zag a0c0 a0c1 a0c2 (a1.length:Int)).bind fun z1=>
 (ix a1 z1.1).bind fun x2=>
 some (x2,(z1.2.1,z1.2.2.1,z1.2.2.2))
theorem ztl:∀{a0c0}{a0c1}{a0c2}{a1}{r},zhK a0c0 a0c1 a0c2 a1=some r→PCalls Tryz.prog 99 [(.io,vB a0c0 a0c1 a0c2),(.sh,vC a1)] (Eo (.int .i64 r.1) [vB r.2.1 r.2.2.1 r.2.2.2,.junk]):=by
 intro a0c0 a0c1 a0c2 a1 r hr;apply pF 12 [0] [] [] [.tmp 4] hr zCD Tryz.func99;intro Φ hΦ hF g;unfold zhK at hF;try simp[go_sem,g]
 try intros
 refine zap ?_;try simp[go_sem,g]
 try intros
 refine wC hF [.io,.sh] zai fun z1 hF=>?_
 obtain⟨x2,g,hF⟩:=Rx g hF;exact wl hΦ hF
def zal(a0c0:List Int)(a0c1:Int)(a0c2:Int)(a1:List Int):Option (Int×(List Int×Int×Int)):=
 (zag a0c0 a0c1 a0c2 (a1.length:Int)).bind fun z1=>
 (ix a1 z1.1).bind fun x2=>
 some (x2,(z1.2.1,z1.2.2.1,z1.2.2.2))
theorem zas:∀{a0c0}{a0c1}{a0c2}{a1}{r},zal a0c0 a0c1 a0c2 a1=some r→PCalls Tryz.prog 99 [(.io,vB a0c0 a0c1 a0c2),(.mv,vD a1)] (Eo (.int .i64 r.1) [vB r.2.1 r.2.2.1 r.2.2.2,.junk]):=by
 intro a0c0 a0c1 a0c2 a1 r hr;apply pF 12 [0] [] [] [.tmp 4] hr zCD Tryz.func99;intro Φ hΦ hF g;unfold zal at hF;try simp[go_sem,g]
 try intros
 refine zap ?_;try simp[go_sem,g]
 try intros
 refine wC hF [.io,.sh] zai fun z1 hF=>?_
 obtain⟨x2,g,hF⟩:=Rx g hF;exact wl hΦ hF
def zbc(a0:Int)(a1:Int)(a2:Int):Option Bool:=
 ((if decide (a1≤a0)=true then(
 some (decide (a0≤a2)))else(
 some false):Option Bool).bind fun x3=>
 some x3)
theorem zbZ:∀{a0}{a1}{a2}{r},zbc a0 a1 a2=some r→PCalls Tryz.prog 65 [(.sh,.int .i64 a0),(.sh,.int .i64 a1),(.sh,.int .i64 a2)] (Eo (.bool r) [.junk,.junk,.junk]):=by
 intro a0 a1 a2 r hr;apply pF 15 [] [] [] [.tmp 6] hr zLK Tryz.func65;intro Φ hΦ hF g;unfold zbc at hF;refine wW ?_;refine wJ hF (fun x3=>[(6,.v (.bool x3))]) (fun x3 hF=>?_) fun _ hj1 hF=>?_
 ·exact wm hΦ hF
 refine wG hF (fun h4 hF=>?_) fun h4 hF=>?_
 ·exact wV h4 (hj1 _) (zaa hF)
 exact wV h4 (hj1 _) (zaa hF)
def zeC(a0:Int):Option Bool:=
 if decide (a0<2)=true then(
 some false)else(
 ((zaH (σ:=Int) (fun s5=>
 if decide ((i64.wrap (s5*s5))≤a0)=true then(
 gd (s5≠0)<|
 if((a0.tmod s5)==0)=true then(
 some (.out (.inr false)))else(
 some (.go (i64.wrap (s5+1)))))else(
 some (.out (.inl ())))) 2:Option (Unit ⊕ Bool)).bind (Sum.elim (fun x4=>
 some true) some)))
theorem zh8:∀{a0}{r},zeC a0=some r→PCalls Tryz.prog 112 [(.sh,.int .i64 a0)] (Eo (.bool r) [.junk]):=by
 intro a0 r hr;apply pF 17 [] [] [] [.tmp 2] hr zFL Tryz.func112;intro Φ hΦ hF g;unfold zeC at hF
 iterate 2 refine wW ?_
 refine wI hF (fun h1 hF=>?_) fun h1 hF=>?_
 ·exact wl hΦ hF
 iterate 2 refine wW ?_
 refine wS hF (fun x4=>[]) (fun x4 hF=>?_) fun _ hj2 hr3 hF=>?_
 ·exact wl hΦ hF
 refine wB ?_;obtain⟨b12,hb13,hψ9⟩:=hF;refine pL hb13 (fun s5=>[(0,.v (.int .i64 a0)),(3,.v (.int .i64 s5))]) fun s5 _ _ ho7 hg8 hF=>?_
 refine wW ?_;refine wI hF (fun h10 hF=>?_) fun h10 hF=>?_
 ·refine wW ?_;refine wB ?_;obtain⟨g,hF⟩:=Rz g hF;refine wK [0,3,16] ?_;refine wI hF (fun h11 hF=>?_) fun h11 hF=>?_
  ·cases ho7 _ (zaa hF);cases hΦ _ (hr3 _ hψ9);refine wW ?_;try simp[go_sem,g]
  refine wW ?_;exact wT (hg8 _) (zaa hF)
 cases ho7 _ (zaa hF);exact wT (hj2 _) hψ9
def zcm(a0:Int)(a1:Int)(a2:Int):Option Int:=
 gd (a2≠0)<|
 ((zaH (σ:=Int×Int×Int) (fun s4=>
 if decide (0<s4.2.1)=true then(
 ((if((s4.2.1.tmod 2)==1)=true then(
 gd (a2≠0)<|
 some ((i64.wrap (s4.2.2*s4.1)).tmod a2))else(
 some s4.2.2):Option Int).bind fun x12=>
 gd (a2≠0)<|
 some (.go ((i64.wrap (s4.1*s4.1)).tmod a2,i64.wrap (s4.2.1.tdiv 2),x12))))else(
 some (.out s4.2.2))) (a0,a1,(1:Int).tmod a2):Option Int).bind fun x3=>
 some x3)
theorem zgV:∀{a0}{a1}{a2}{r},zcm a0 a1 a2=some r→PCalls Tryz.prog 111 [(.sh,.int .i64 a0),(.sh,.int .i64 a1),(.sh,.int .i64 a2)] (Eo (.int .i64 r) [.junk,.junk,.junk]):=by
 intro a0 a1 a2 r hr;apply pF 28 [] [] [] [.tmp 6] hr zEh Tryz.func111;intro Φ hΦ hF g;unfold zcm at hF;obtain⟨g,hF⟩:=Rz g hF
 iterate 2 refine wW ?_
 refine wJ hF (fun x3=>[(7,.v (.int .i64 x3))]) (fun x3 hF=>?_) fun _ hj1 hF=>?_
 ·exact wl hΦ hF
 refine wB ?_;obtain⟨b14,hb15,hψ8⟩:=hF;refine pL hb15 (fun s4=>[(0,.v (.int .i64 s4.1)),(1,.v (.int .i64 s4.2.1)),(2,.v (.int .i64 a2)),(7,.v (.int .i64 s4.2.2))]) fun s4 _ _ ho6 hg7 hF=>?_
 refine wW ?_;refine wI hF (fun h9 hF=>?_) fun h9 hF=>?_
 ·refine wW ?_;refine wB ?_;have g:=Ld g 2;refine wW ?_;refine wJ hF (fun x12=>[(0,.v (.int .i64 s4.1)),(1,.v (.int .i64 s4.2.1)),(2,.v (.int .i64 a2)),(7,.v (.int .i64 x12))]) (fun x12 hF=>?_) fun _ hj10 hF=>?_
  ·obtain⟨g,hF⟩:=Rz g hF;refine wK [0,1,2,7] ?_;exact wT (hg7 _) (zaa hF)
  refine wI hF (fun h13 hF=>?_) fun h13 hF=>?_
  ·obtain⟨g,hF⟩:=Rz g hF;exact wT (hj10 _) (zaa hF)
  exact wT (hj10 _) (zaa hF)
 cases ho6 _ (zaa hF);exact wT (hj1 _) hψ8
def zeX(a0:Int):Option (Group×Bool):=
 (((zbc a0 2 1000000).bind fun z4=>
 if(!z4)=true then(
 some true)else(
 (zeC a0).bind fun z6=>
 some (!z6)):Option Bool).bind fun x3=>
 if x3=true then(
 some ((Group.mk 0 0 0),false))else(
 ((zaH (σ:=Int) (fun s11=>
 if decide (s11≤2000000000)=true then(
 (zeC s11).bind fun z17=>
 if(!z17)=true then(
 some (.go (i64.wrap (s11+a0))))else(
 ((zaH (σ:=Int) (fun s22=>
 gd (a0≠0)<|
 (zcm s22 (i64.wrap ((i64.wrap (s11-1)).tdiv a0)) s11).bind fun z27=>
 if(z27==1)=true then(
 some (.go (i64.wrap (s22+1))))else(
 some (.out s22))) 2:Option Int).bind fun x21=>
 gd (a0≠0)<|
 (zcm x21 (i64.wrap ((i64.wrap (s11-1)).tdiv a0)) s11).bind fun z31=>
 some (.out (.inr ((Group.mk s11 a0 z31),true))))))else(
 some (.out (.inl ())))) (i64.wrap (a0+1)):Option (Unit ⊕ (Group×Bool))).bind (Sum.elim (fun x10=>
 some ((Group.mk 0 0 0),false)) some))))
theorem zkU:∀{a0}{r},zeX a0=some r→PCalls Tryz.prog 171 [(.sh,.int .i64 a0)] (Eo (.tup [vE r.1,.bool r.2]) [.junk]):=by
 intro a0 r hr;apply pF 46 [] [] [] [.cell 2 25,.tmp 3] hr zHn Tryz.func171;intro Φ hΦ hF g;unfold zeX at hF;refine wW ?_;refine wJ hF (fun x3=>[(0,.v (.int .i64 a0)),(2,.bl [.int .i64 0,.int .i64 0,.int .i64 0]),(13,.v (.bool x3))]) (fun x3 hF=>?_) fun _ hj1 hF=>?_
 ·refine wI hF (fun h7 hF=>?_) fun h7 hF=>?_
  ·exact wl hΦ hF
  iterate 2 refine wW ?_
  refine wS hF (fun x10=>[(2,.bl [.int .i64 0,.int .i64 0,.int .i64 0])]) (fun x10 hF=>?_) fun _ hj8 hr9 hF=>?_
  ·exact wl hΦ hF
  refine wB ?_;obtain⟨b32,hb33,hψ15⟩:=hF;refine pL hb33 (fun s11=>[(0,.v (.int .i64 a0)),(2,.bl [.int .i64 0,.int .i64 0,.int .i64 0]),(4,.v (.int .i64 s11))]) fun s11 _ _ ho13 hg14 hF=>?_
  refine wW ?_;refine wI hF (fun h16 hF=>?_) fun h16 hF=>?_
  ·refine wW ?_;refine wB ?_;refine wC hF [.sh] zh8 fun z17 hF=>?_
   refine wK [0,2,4,24] ?_;refine wI hF (fun h18 hF=>?_) fun h18 hF=>?_
   ·refine wW ?_;exact wT (hg14 _) (zaa hF)
   iterate 2 refine wW ?_
   refine wJ hF (fun x21=>[(0,.v (.int .i64 a0)),(2,.bl [.int .i64 0,.int .i64 0,.int .i64 0]),(4,.v (.int .i64 s11)),(5,.v (.int .i64 x21))]) (fun x21 hF=>?_) fun _ hj19 hF=>?_
   ·obtain⟨g,hF⟩:=Rz g hF;refine wC hF [.sh,.sh,.sh] zgV fun z31 hF=>?_
    refine wK [2,3] ?_;cases ho13 _ (zaa hF);cases hΦ _ (hr9 _ hψ15);try simp[go_sem,g]
   refine wB ?_;obtain⟨b29,hb30,hψ26⟩:=hF;refine pL hb30 (fun s22=>[(0,.v (.int .i64 a0)),(2,.bl [.int .i64 0,.int .i64 0,.int .i64 0]),(4,.v (.int .i64 s11)),(5,.v (.int .i64 s22))]) fun s22 _ _ ho24 hg25 hF=>?_
   obtain⟨g,hF⟩:=Rz g hF;refine wC hF [.sh,.sh,.sh] zgV fun z27 hF=>?_
   refine wW ?_;refine wI hF (fun h28 hF=>?_) fun h28 hF=>?_
   ·refine wW ?_;refine wB ?_;exact wT (hg25 _) (zaa hF)
   cases ho24 _ (zaa hF);exact wT (hj19 _) hψ26
  cases ho13 _ (zaa hF);exact wT (hj8 _) hψ15
 refine wC hF [.sh,.sh,.sh] zbZ fun z4 hF=>?_
 refine wG hF (fun h5 hF=>?_) fun h5 hF=>?_
 ·exact wV h5 (hj1 _) (zaa hF)
 try simp[go_sem,g,h5]
 refine wC hF [.sh] zh8 fun z6 hF=>?_
 exact wV h5 (hj1 _) (zaa hF)
def zdL(a0c0:List Int)(a0c1:Int)(a0c2:Int):Option (Group×(List Int×Int×Int)):=
 (zal a0c0 a0c1 a0c2 [3,5,5,7,11,11,13,23]).bind fun z1=>
 (zeX z1.1).bind fun z2=>
 some (z2.1,(z1.2.1,z1.2.2.1,z1.2.2.2))
theorem zlj:∀{a0c0}{a0c1}{a0c2}{r},zdL a0c0 a0c1 a0c2=some r→PCalls Tryz.prog 172 [(.io,vB a0c0 a0c1 a0c2)] (Eo (vE r.1) [vB r.2.1 r.2.2.1 r.2.2.2]):=by
 intro a0c0 a0c1 a0c2 r hr;apply pF 13 [0] [] [] [.cell 2 25] hr zF9 Tryz.func172;intro Φ hΦ hF g;unfold zdL at hF;refine wW ?_;refine wC hF [.io,.mv] zas fun z1 hF=>?_
 refine wC hF [.sh] zkU fun z2 hF=>?_
 refine wK [0,2,3] ?_;exact wl hΦ hF
def ze0(a0:Int)(a1:Int):Option Int:=
 gd (a1≠0)<|
 gd (a1≠0)<|
 some ((i64.wrap ((a0.tmod a1)+a1)).tmod a1)
theorem zlq:∀{a0}{a1}{r},ze0 a0 a1=some r→PCalls Tryz.prog 113 [(.sh,.int .i64 a0),(.sh,.int .i64 a1)] (Eo (.int .i64 r) [.junk,.junk]):=by
 intro a0 a1 r hr;apply pF 12 [] [] [] [.tmp 4] hr zHa Tryz.func113;intro Φ hΦ hF g;unfold ze0 at hF;obtain⟨g,hF⟩:=Rz g hF;obtain⟨g,hF⟩:=Rz g hF;cases hΦ _ (zaa hF)
 iterate 2 refine wW ?_
 try simp[go_sem,g]
@[go_sem] def zGr:List DE:=[d0 0 [1],d0 1 [2],d1 2 [3] 3,d2 3 [9] 3 9,d1 5 [3] 3,d2 6 [12] 3 12,d3 4 [8,10],d3 7 [7,11,13],d0 8 [14]]
def zau(a0:Group)(a1:Int)(a2:Int):Option Int:=
 (ze0 a2 a0.Q).bind fun z1=>
 (zcm a1 z1 a0.P).bind fun z2=>
 some z2
theorem zbj:∀{a0}{a1}{a2}{r},zau a0 a1 a2=some r→PCalls Tryz.prog 45 [(.sh,vE a0),(.sh,.int .i64 a1),(.sh,.int .i64 a2)] (Eo (.int .i64 r) [.junk,.junk,.junk]):=by
 intro a0 a1 a2 r hr;apply pF 15 [] [] [] [.tmp 6] hr zI5 Tryz.func45;intro Φ hΦ hF g;unfold zau at hF;refine wW ?_;refine wX zGr follows ?_;refine wC hF [.sh,.sh] zlq fun z1 hF=>?_
 refine wC hF [.sh,.sh,.sh] zgV fun z2 hF=>?_
 refine wK [6] ?_;exact wm hΦ hF
@[go_sem] def zE7:List DE:=[d2 0 [5] 5 5,d1 1 [5] 5,d2 2 [24] 5 24,d0 3 [0],d1 4 [5] 5,d2 5 [27] 5 27,d0 6 [28],d3 7 [26,29],d0 8 [30],d3 9 [23,25,31],d1 10 [5] 5,d2 11 [33,32] 5 33]
def zdo(a0c0:List Int)(a0c1:Int)(a0c2:Int):Option (Group×(List Int×Int×Int)):=
 (zag a0c0 a0c1 a0c2 6).bind fun z1=>
 if(z1.1==0)=true then(
 some ((Group.mk 1000000007 500000003 4),(z1.2.1,z1.2.2.1,z1.2.2.2)))else(
 if(z1.1==1)=true then(
 (zal z1.2.1 z1.2.2.1 z1.2.2.2 [101,1009,1019,65537,999983]).bind fun z4=>
 (zeX z4.1).bind fun z5=>
 some (z5.1,(z4.2.1,z4.2.2.1,z4.2.2.2)))else(
 (zdL z1.2.1 z1.2.2.1 z1.2.2.2).bind fun z6=>
 (zag z6.2.1 z6.2.2.1 z6.2.2.2 (i64.wrap (z6.1.Q-1))).bind fun z7=>
 (zau z6.1 z6.1.G (i64.wrap (1+z7.1))).bind fun z8=>
 some ((Group.mk z6.1.P z6.1.Q z8),(z7.2.1,z7.2.2.1,z7.2.2.2))))
theorem zkX:∀{a0c0}{a0c1}{a0c2}{r},zdo a0c0 a0c1 a0c2=some r→PCalls Tryz.prog 91 [(.io,vB a0c0 a0c1 a0c2)] (Eo (vE r.1) [vB r.2.1 r.2.2.1 r.2.2.2]):=by
 intro a0c0 a0c1 a0c2 r hr;apply pF 35 [0] [] [] [.cell 2 25] hr zKU Tryz.func91;intro Φ hΦ hF g;unfold zdo at hF;refine wW ?_;refine wC hF [.io,.sh] zai fun z1 hF=>?_
 refine wW ?_;refine wB ?_;refine wW ?_;refine wI hF (fun h2 hF=>?_) fun h2 hF=>?_
 ·exact wl hΦ hF
 refine wW ?_;refine wI hF (fun h3 hF=>?_) fun h3 hF=>?_
 ·refine wC hF [.io,.mv] zas fun z4 hF=>?_
  refine wC hF [.sh] zkU fun z5 hF=>?_
  refine wK [0,2,3] ?_;exact wl hΦ hF
 refine wW ?_;refine wC hF [.io] zlj fun z6 hF=>?_
 refine wK [0,2,5] ?_;refine wX zE7 follows ?_;refine wC hF [.io,.sh] zai fun z7 hF=>?_
 refine wC hF [.sh,.sh,.sh] zbj fun z8 hF=>?_
 refine wK [0,2,5] ?_;exact wl hΦ hF
def zcD(a0c0:List Int)(a0c1:Int)(a0c2:Int):Option (Group×(List Int×Int×Int)):=
 (zdo a0c0 a0c1 a0c2).bind fun z1=>
 (zag z1.2.1 z1.2.2.1 z1.2.2.2 24).bind fun z2=>
 ((if(z2.1==0)=true then(
 (zal z2.2.1 z2.2.2.1 z2.2.2.2 [0,i64.wrap (z1.1.P+2),4,(-7)]).bind fun z7=>
 some ((z7.2.1,z7.2.2.1,z7.2.2.2),z7.1,z1.1.Q,z1.1.G))else(
 if(z2.1==1)=true then(
 (zal z2.2.1 z2.2.2.1 z2.2.2.2 [0,1,i64.wrap (z1.1.Q+1),i64.wrap (z1.1.P-1)]).bind fun z9=>
 some ((z9.2.1,z9.2.2.1,z9.2.2.2),z1.1.P,z9.1,z1.1.G))else(
 if(z2.1==2)=true then(
 (zal z2.2.1 z2.2.2.1 z2.2.2.2 [0,1,i64.wrap (z1.1.P-1),z1.1.P,i64.wrap (z1.1.G+1)]).bind fun z11=>
 some ((z11.2.1,z11.2.2.1,z11.2.2.2),z1.1.P,z1.1.Q,z11.1))else(
 some ((z2.2.1,z2.2.2.1,z2.2.2.2),z1.1.P,z1.1.Q,z1.1.G)))):Option (((List Int×Int×Int)×Int×Int×Int))).bind fun x5=>
 some ((Group.mk x5.2.1 x5.2.2.1 x5.2.2.2),(x5.1.1,x5.1.2.1,x5.1.2.2)))
theorem zjN:∀{a0c0}{a0c1}{a0c2}{r},zcD a0c0 a0c1 a0c2=some r→PCalls Tryz.prog 108 [(.io,vB a0c0 a0c1 a0c2)] (Eo (vE r.1) [vB r.2.1 r.2.2.1 r.2.2.2]):=by
 intro a0c0 a0c1 a0c2 r hr;apply pF 44 [0] [] [] [.cell 2 25] hr zE3 Tryz.func108;intro Φ hΦ hF g;unfold zcD at hF;refine wW ?_;refine wC hF [.io] zkX fun z1 hF=>?_
 refine wW ?_;refine wC hF [.io,.sh] zai fun z2 hF=>?_
 refine wW ?_;refine wJ hF (fun x5=>[(0,.v (vB x5.1.1 x5.1.2.1 x5.1.2.2)),(2,.bl [.int .i64 0,.int .i64 0,.int .i64 0]),(3,.bl [.int .i64 x5.2.1,.int .i64 x5.2.2.1,.int .i64 x5.2.2.2])]) (fun x5 hF=>?_) fun _ hj3 hF=>?_
 ·exact wl hΦ hF
 refine wB ?_;refine wW ?_;refine wI hF (fun h6 hF=>?_) fun h6 hF=>?_
 ·refine wC hF [.io,.mv] zas fun z7 hF=>?_
  exact wT (hj3 _) (zaa hF)
 refine wK [0,2,3,7,17] ?_;refine wI hF (fun h8 hF=>?_) fun h8 hF=>?_
 ·refine wC hF [.io,.mv] zas fun z9 hF=>?_
  exact wT (hj3 _) (zaa hF)
 refine wW ?_;refine wI hF (fun h10 hF=>?_) fun h10 hF=>?_
 ·refine wC hF [.io,.mv] zas fun z11 hF=>?_
  exact wT (hj3 _) (zaa hF)
 exact wT (hj3 _) (zaa hF)
def zbk(a0c0:List Int)(a0c1:Int)(a0c2:Int)(a1:Int):Option (Bool×(List Int×Int×Int)):=
 (zag a0c0 a0c1 a0c2 a1).bind fun z1=>
 some ((z1.1==0),(z1.2.1,z1.2.2.1,z1.2.2.2))
theorem zcY:∀{a0c0}{a0c1}{a0c2}{a1}{r},zbk a0c0 a0c1 a0c2 a1=some r→PCalls Tryz.prog 29 [(.io,vB a0c0 a0c1 a0c2),(.sh,.int .i64 a1)] (Eo (.bool r.1) [vB r.2.1 r.2.2.1 r.2.2.2,.junk]):=by
 intro a0c0 a0c1 a0c2 a1 r hr;apply pF 9 [0] [] [] [.tmp 4] hr zIz Tryz.func29;intro Φ hΦ hF g;unfold zbk at hF;refine wW ?_;refine wC hF [.io,.sh] zai fun z1 hF=>?_
 exact wl hΦ hF
def zbN(a0:Int)(a1:Int):Option Int:=
 if decide (a0<a1)=true then(
 some a0)else(
 some a1)
theorem zlA:∀{a0}{a1}{r},zbN a0 a1=some r→PCalls Tryz.prog 173 [(.sh,.int .i64 a0),(.sh,.int .i64 a1)] (Eo (.int .i64 r) [.junk,.junk]):=by
 intro a0 a1 r hr;apply pF 10 [] [] [] [.tmp 4] hr zGm Tryz.func173;intro Φ hΦ hF g;unfold zbN at hF
 iterate 2 refine wW ?_
 refine wI hF (fun h1 hF=>?_) fun h1 hF=>?_
 ·exact wl hΦ hF
 cases hΦ _ (zaa hF)
 iterate 2 refine wW ?_
 try simp[go_sem,g]
@[go_sem] def zDh:List DE:=[d1 0 [3] 3,d2 1 [37] 3 37,d0 2 [0],d0 3 [4],d1 4 [3] 3,d2 5 [41] 3 41,d0 6 [40,42],d0 7 [43],d3 8 [39,44],d0 9 [38,45],d1 10 [3] 3,d2 11 [47,46] 3 47]
def zci(a0c0:List Int)(a0c1:Int)(a0c2:Int):Option (Contest×(List Int×Int×Int)):=
 (zag a0c0 a0c1 a0c2 4).bind fun z1=>
 (zag z1.2.1 z1.2.2.1 z1.2.2.2 5).bind fun z2=>
 (zbk z2.2.1 z2.2.2.1 z2.2.2.2 12).bind fun z3=>
 ((if z3.1=true then(
 some (i64.wrap (1+z1.1),8,0,0,0))else(
 some (i64.wrap (1+z1.1),i64.wrap (1+z2.1),0,0,0)):Option ((Int×Int×Int×Int×Int))).bind fun x6=>
 ((if(x6.1==2)=true then(
 (zag z3.2.1 z3.2.2.1 z3.2.2.2 5).bind fun z12=>
 some ((z12.2.1,z12.2.2.1,z12.2.2.2),x6.1,x6.2.1,x6.2.2.1,x6.2.2.2.1,i64.wrap (1+z12.1),i64.wrap (x6.2.1*(i64.wrap (1+z12.1)))))else(
 if(x6.1==4)=true then(
 some ((z3.2.1,z3.2.2.1,z3.2.2.2),x6.1,0,x6.2.2.1,x6.2.2.2.1,x6.2.2.2.2,3))else(
 some ((z3.2.1,z3.2.2.1,z3.2.2.2),x6.1,x6.2.1,x6.2.2.1,x6.2.2.2.1,x6.2.2.2.2,x6.2.1))):Option (((List Int×Int×Int)×Int×Int×Int×Int×Int×Int))).bind fun x10=>
 (zbN x10.2.2.2.2.2.2 3).bind fun z14=>
 (zag x10.1.1 x10.1.2.1 x10.1.2.2 z14).bind fun z15=>
 (zag z15.2.1 z15.2.2.1 z15.2.2.2 (i64.wrap ((i64.wrap (x10.2.2.2.2.2.2-z15.1))+1))).bind fun z16=>
 some ((Contest.mk x10.2.1 x10.2.2.1 z15.1 (i64.wrap (z15.1+z16.1)) x10.2.2.2.2.2.1),(z16.2.1,z16.2.2.1,z16.2.2.2))))
theorem zha:∀{a0c0}{a0c1}{a0c2}{r},zci a0c0 a0c1 a0c2=some r→PCalls Tryz.prog 92 [(.io,vB a0c0 a0c1 a0c2)] (Eo (vF r.1) [vB r.2.1 r.2.2.1 r.2.2.2]):=by
 intro a0c0 a0c1 a0c2 r hr;apply pF 49 [0] [] [] [.cell 2 27] hr zJn Tryz.func92;intro Φ hΦ hF g;unfold zci at hF;refine wW ?_;refine wC hF [.io,.sh] zai fun z1 hF=>?_
 refine wC hF [.io,.sh] zai fun z2 hF=>?_
 refine wK [0,2,3] ?_;refine wC hF [.io,.sh] zcY fun z3 hF=>?_
 refine wW ?_;refine wJ hF (fun x6=>[(0,.v (vB z3.2.1 z3.2.2.1 z3.2.2.2)),(2,.bl [.int .i64 0,.int .i64 0,.int .i64 0,.int .i64 0,.int .i64 0]),(3,.bl [.int .i64 x6.1,.int .i64 x6.2.1,.int .i64 x6.2.2.1,.int .i64 x6.2.2.2.1,.int .i64 x6.2.2.2.2])]) (fun x6 hF=>?_) fun _ hj4 hF=>?_
 ·iterate 2 refine wW ?_
  refine wJ hF (fun x10=>[(0,.v (vB x10.1.1 x10.1.2.1 x10.1.2.2)),(2,.bl [.int .i64 0,.int .i64 0,.int .i64 0,.int .i64 0,.int .i64 0]),(3,.bl [.int .i64 x10.2.1,.int .i64 x10.2.2.1,.int .i64 x10.2.2.2.1,.int .i64 x10.2.2.2.2.1,.int .i64 x10.2.2.2.2.2.1]),(4,.v (.int .i64 x10.2.2.2.2.2.2))]) (fun x10 hF=>?_) fun _ hj8 hF=>?_
  ·refine wC hF [.sh,.sh] zlA fun z14 hF=>?_
   refine wC hF [.io,.sh] zai fun z15 hF=>?_
   refine wK [0,2,3,4] ?_;refine wX zDh follows ?_;refine wC hF [.io,.sh] zai fun z16 hF=>?_
   refine wK [0,2,3] ?_;exact wl hΦ hF
  refine wB ?_;refine wW ?_;refine wI hF (fun h11 hF=>?_) fun h11 hF=>?_
  ·refine wC hF [.io,.sh] zai fun z12 hF=>?_
   refine wK [0,2,3,4] ?_;exact wT (hj8 _) (zaa hF)
  refine wK [0,2,3,4,29] ?_;refine wI hF (fun h13 hF=>?_) fun h13 hF=>?_
  ·refine wW ?_;exact wT (hj8 _) (zaa hF)
  exact wT (hj8 _) (zaa hF)
 refine wI hF (fun h7 hF=>?_) fun h7 hF=>?_
 ·exact wT (hj4 _) (zaa hF)
 exact wT (hj4 _) (zaa hF)
def zcp(a0c0:List Int)(a0c1:Int)(a0c2:Int):Option (Contest×(List Int×Int×Int)):=
 (zci a0c0 a0c1 a0c2).bind fun z1=>
 (zag z1.2.1 z1.2.2.1 z1.2.2.2 20).bind fun z2=>
 ((if(z2.1==0)=true then(
 (zal z2.2.1 z2.2.2.1 z2.2.2.2 [0,5,4,1]).bind fun z7=>
 some ((z7.2.1,z7.2.2.1,z7.2.2.2),z7.1,z1.1.Options,z1.1.Least,z1.1.Most,z1.1.Points))else(
 if(z2.1==1)=true then(
 (zal z2.2.1 z2.2.2.1 z2.2.2.2 [0,9,(-1),8]).bind fun z9=>
 some ((z9.2.1,z9.2.2.1,z9.2.2.2),z1.1.Kind,z9.1,z1.1.Least,z1.1.Most,z1.1.Points))else(
 if(z2.1==2)=true then(
 (zal z2.2.1 z2.2.2.1 z2.2.2.2 [(-1),z1.1.Most,i64.wrap (z1.1.Most+1)]).bind fun z11=>
 some ((z11.2.1,z11.2.2.1,z11.2.2.2),z1.1.Kind,z1.1.Options,z11.1,z1.1.Most,z1.1.Points))else(
 if(z2.1==3)=true then(
 (zal z2.2.1 z2.2.2.1 z2.2.2.2 [0,5,6,40,41,8,9]).bind fun z13=>
 some ((z13.2.1,z13.2.2.1,z13.2.2.2),z1.1.Kind,z1.1.Options,z1.1.Least,z13.1,z1.1.Points))else(
 if(z2.1==4)=true then(
 (zal z2.2.1 z2.2.2.1 z2.2.2.2 [0,5,6,(-1)]).bind fun z15=>
 some ((z15.2.1,z15.2.2.1,z15.2.2.2),z1.1.Kind,z1.1.Options,z1.1.Least,z1.1.Most,z15.1))else(
 some ((z2.2.1,z2.2.2.1,z2.2.2.2),z1.1.Kind,z1.1.Options,z1.1.Least,z1.1.Most,z1.1.Points)))))):Option (((List Int×Int×Int)×Int×Int×Int×Int×Int))).bind fun x5=>
 some ((Contest.mk x5.2.1 x5.2.2.1 x5.2.2.2.1 x5.2.2.2.2.1 x5.2.2.2.2.2),(x5.1.1,x5.1.2.1,x5.1.2.2)))
theorem zi4:∀{a0c0}{a0c1}{a0c2}{r},zcp a0c0 a0c1 a0c2=some r→PCalls Tryz.prog 30 [(.io,vB a0c0 a0c1 a0c2)] (Eo (vF r.1) [vB r.2.1 r.2.2.1 r.2.2.2]):=by
 intro a0c0 a0c1 a0c2 r hr;apply pF 44 [0] [] [] [.cell 2 27] hr zKp Tryz.func30;intro Φ hΦ hF g;unfold zcp at hF;refine wW ?_;refine wC hF [.io] zha fun z1 hF=>?_
 refine wW ?_;refine wC hF [.io,.sh] zai fun z2 hF=>?_
 refine wW ?_;refine wJ hF (fun x5=>[(0,.v (vB x5.1.1 x5.1.2.1 x5.1.2.2)),(2,.bl [.int .i64 0,.int .i64 0,.int .i64 0,.int .i64 0,.int .i64 0]),(3,.bl [.int .i64 x5.2.1,.int .i64 x5.2.2.1,.int .i64 x5.2.2.2.1,.int .i64 x5.2.2.2.2.1,.int .i64 x5.2.2.2.2.2])]) (fun x5 hF=>?_) fun _ hj3 hF=>?_
 ·exact wl hΦ hF
 refine wB ?_;refine wW ?_;refine wI hF (fun h6 hF=>?_) fun h6 hF=>?_
 ·refine wC hF [.io,.mv] zas fun z7 hF=>?_
  exact wT (hj3 _) (zaa hF)
 refine wK [0,2,3,7,14] ?_;refine wI hF (fun h8 hF=>?_) fun h8 hF=>?_
 ·refine wC hF [.io,.mv] zas fun z9 hF=>?_
  exact wT (hj3 _) (zaa hF)
 refine wW ?_;refine wI hF (fun h10 hF=>?_) fun h10 hF=>?_
 ·refine wC hF [.io,.mv] zas fun z11 hF=>?_
  exact wT (hj3 _) (zaa hF)
 refine wW ?_;refine wI hF (fun h12 hF=>?_) fun h12 hF=>?_
 ·refine wC hF [.io,.mv] zas fun z13 hF=>?_
  exact wT (hj3 _) (zaa hF)
 refine wW ?_;refine wI hF (fun h14 hF=>?_) fun h14 hF=>?_
 ·refine wC hF [.io,.mv] zas fun z15 hF=>?_
  exact wT (hj3 _) (zaa hF)
 exact wT (hj3 _) (zaa hF)
def zfl(a0:Group):Option Bool:=
 (((zbc a0.P 3 2000000000).bind fun z4=>
 if z4=true then(
 (zbc a0.Q 2 (i64.wrap (a0.P-1))).bind fun z6=>
 if z6=true then(
 gd (a0.Q≠0)<|
 if(((i64.wrap (a0.P-1)).tmod a0.Q)==0)=true then(
 (zbc a0.G 2 (i64.wrap (a0.P-1))).bind fun z9=>
 if z9=true then(
 (zcm a0.G a0.Q a0.P).bind fun z11=>
 if(z11==1)=true then(
 (zeC a0.Q).bind fun z13=>
 if z13=true then(
 (zeC a0.P).bind fun z15=>
 some z15)else(
 some false))else(
 some false))else(
 some false))else(
 some false))else(
 some false))else(
 some false):Option Bool).bind fun x3=>
 some x3)
theorem zjI:∀{a0}{r},zfl a0=some r→PCalls Tryz.prog 43 [(.sh,vE a0)] (Eo (.bool r) [.junk]):=by
 intro a0 r hr;apply pF 51 [] [] [] [.tmp 2] hr zJt Tryz.func43;intro Φ hΦ hF g;unfold zfl at hF;refine wW ?_;refine wJ hF (fun x3=>[(2,.v (.bool x3))]) (fun x3 hF=>?_) fun _ hj1 hF=>?_
 ·exact wm hΦ hF
 refine wC hF [.sh,.sh,.sh] zbZ fun z4 hF=>?_
 refine wG hF (fun h5 hF=>?_) fun h5 hF=>?_
 ·try simp[go_sem,g,h5]
  refine wC hF [.sh,.sh,.sh] zbZ fun z6 hF=>?_
  try simp[go_sem,g,h5]
  refine wG hF (fun h7 hF=>?_) fun h7 hF=>?_
  ·obtain⟨g,hF⟩:=Rz g hF;try simp[go_sem,g,h7]
   refine wG hF (fun h8 hF=>?_) fun h8 hF=>?_
   ·try simp[go_sem,g,h8]
    refine wC hF [.sh,.sh,.sh] zbZ fun z9 hF=>?_
    try simp[go_sem,g,h8]
    refine wG hF (fun h10 hF=>?_) fun h10 hF=>?_
    ·try simp[go_sem,g,h10]
     refine wC hF [.sh,.sh,.sh] zgV fun z11 hF=>?_
     try simp[go_sem,g,h10]
     refine wG hF (fun h12 hF=>?_) fun h12 hF=>?_
     ·try simp[go_sem,g,h12]
      refine wC hF [.sh] zh8 fun z13 hF=>?_
      try simp[go_sem,g,h12]
      refine wG hF (fun h14 hF=>?_) fun h14 hF=>?_
      ·try simp[go_sem,g,h14]
       refine wC hF [.sh] zh8 fun z15 hF=>?_
       exact wV h14 (hj1 _) (zaa hF)
      exact wV h14 (hj1 _) (zaa hF)
     exact wV h12 (hj1 _) (zaa hF)
    exact wV h10 (hj1 _) (zaa hF)
   exact wV h8 (hj1 _) (zaa hF)
  exact wV h7 (hj1 _) (zaa hF)
 exact wV h5 (hj1 _) (zaa hF)
def zeh(a0:Contest):Option Bool:=
 ((if decide (a0.Least<0)=true then(
 some true)else(
 some (decide (a0.Most<a0.Least))):Option Bool).bind fun x3=>
 if x3=true then(
 some false)else(
 ((if(a0.Kind==1)=true then(
 some (a0.Kind==1))else(
 some (a0.Kind==3)):Option Bool).bind fun x8=>
 if x8=true then(
 (((zbc a0.Options 1 8).bind fun z14=>
 if z14=true then(
 if decide (a0.Most≤a0.Options)=true then(
 some (a0.Points==0))else(
 some false))else(
 some false):Option Bool).bind fun x13=>
 some x13))else(
 if(a0.Kind==2)=true then(
 (((zbc a0.Options 1 8).bind fun z21=>
 if z21=true then(
 (zbc a0.Points 1 5).bind fun z23=>
 if z23=true then(
 some (decide (a0.Most≤(i64.wrap (a0.Options*a0.Points)))))else(
 some false))else(
 some false):Option Bool).bind fun x20=>
 some x20))else(
 ((if(a0.Kind==4)=true then(
 if(a0.Options==0)=true then(
 if decide (a0.Most≤5)=true then(
 some (a0.Points==0))else(
 some false))else(
 some false))else(
 some false):Option Bool).bind fun x27=>
 some x27))))))
theorem zix:∀{a0}{r},zeh a0=some r→PCalls Tryz.prog 110 [(.sh,vF a0)] (Eo (.bool r) [.junk]):=by
 intro a0 r hr;apply pF 71 [] [] [] [.tmp 2] hr zF5 Tryz.func110;intro Φ hΦ hF g;unfold zeh at hF;refine wW ?_;refine wJ hF (fun x3=>[(1,.bl [.int .i64 a0.Kind,.int .i64 a0.Options,.int .i64 a0.Least,.int .i64 a0.Most,.int .i64 a0.Points]),(12,.v (.bool x3))]) (fun x3 hF=>?_) fun _ hj1 hF=>?_
 ·refine wI hF (fun h5 hF=>?_) fun h5 hF=>?_
  ·exact wl hΦ hF
  iterate 2 refine wW ?_
  refine wB ?_;refine wW ?_;refine wJ hF (fun x8=>[(1,.bl [.int .i64 a0.Kind,.int .i64 a0.Options,.int .i64 a0.Least,.int .i64 a0.Most,.int .i64 a0.Points]),(14,.v (.int .i64 a0.Kind)),(15,.v (.bool x8))]) (fun x8 hF=>?_) fun _ hj6 hF=>?_
  ·refine wI hF (fun h10 hF=>?_) fun h10 hF=>?_
   ·refine wJ hF (fun x13=>[(2,.v (.bool x13))]) (fun x13 hF=>?_) fun _ hj11 hF=>?_
    ·exact wm hΦ hF
    refine wC hF [.sh,.sh,.sh] zbZ fun z14 hF=>?_
    refine wG hF (fun h15 hF=>?_) fun h15 hF=>?_
    ·try simp[go_sem,g,h15]
     refine wG hF (fun h16 hF=>?_) fun h16 hF=>?_
     ·exact wV h16 (hj11 _) (zaa hF)
     exact wV h16 (hj11 _) (zaa hF)
    exact wV h15 (hj11 _) (zaa hF)
   refine wW ?_;refine wI hF (fun h17 hF=>?_) fun h17 hF=>?_
   ·refine wJ hF (fun x20=>[(2,.v (.bool x20))]) (fun x20 hF=>?_) fun _ hj18 hF=>?_
    ·exact wm hΦ hF
    refine wC hF [.sh,.sh,.sh] zbZ fun z21 hF=>?_
    refine wG hF (fun h22 hF=>?_) fun h22 hF=>?_
    ·try simp[go_sem,g,h22]
     refine wC hF [.sh,.sh,.sh] zbZ fun z23 hF=>?_
     try simp[go_sem,g,h22]
     refine wG hF (fun h24 hF=>?_) fun h24 hF=>?_
     ·exact wV h24 (hj18 _) (zaa hF)
     exact wV h24 (hj18 _) (zaa hF)
    exact wV h22 (hj18 _) (zaa hF)
   refine wW ?_;refine wJ hF (fun x27=>[(2,.v (.bool x27))]) (fun x27 hF=>?_) fun _ hj25 hF=>?_
   ·exact wm hΦ hF
   refine wG hF (fun h28 hF=>?_) fun h28 hF=>?_
   ·try simp[go_sem,g,h28]
    refine wG hF (fun h29 hF=>?_) fun h29 hF=>?_
    ·try simp[go_sem,g,h29]
     refine wG hF (fun h30 hF=>?_) fun h30 hF=>?_
     ·exact wV h30 (hj25 _) (zaa hF)
     exact wV h30 (hj25 _) (zaa hF)
    exact wV h29 (hj25 _) (zaa hF)
   exact wV h28 (hj25 _) (zaa hF)
  refine wI hF (fun h9 hF=>?_) fun h9 hF=>?_
  ·exact wT (hj6 _) (zaa hF)
  exact wT (hj6 _) (zaa hF)
 refine wG hF (fun h4 hF=>?_) fun h4 hF=>?_
 ·exact wV h4 (hj1 _) (zaa hF)
 exact wV h4 (hj1 _) (zaa hF)
def zfg(a0:Contest)(a1:List Int):Option ((List Int)):=
 gd (0≤a0.Options∧a0.Options≤a0.Options∧8*a0.Options≤140737488355328∧a0.Options≤4611686018427387904)<|
 (some (List.replicate a0.Options.toNat 0)).bind fun x1=>
 ((zar (σ:=(List Int)) (fun i17 s16=>
 (ix a1 i17).bind fun x23=>
 (ix s16 x23).bind fun x24=>
 some (.go (s16.set x23.toNat 1))) (fun s16=>s16) (a1.length) 0 x1:Option ((List Int))).bind fun x6=>
 some x6)
theorem zmH:∀{a0}{a1}{r},zfg a0 a1=some r→PCalls Tryz.prog 201 [(.sh,vF a0),(.sh,vC a1)] (Eo (vD r) [.junk,.junk]):=by
 intro a0 a1 r hr;apply pF 22 [] [] [] [.tmp 4] hr zFC Tryz.func201;intro Φ hΦ hF g;unfold zfg at hF;obtain⟨g,hF⟩:=Rg g hF;obtain⟨x1,e2,hF⟩:=zfB hF;have g3:List.replicate a0.Options.toNat ([.int .i64 0]:List PV)=x1.map zam:=by injection e2 with e2;rw[←e2];simp[go_sem]
 iterate 3 (try simp[go_sem,g,g3];try intros;refine zap ?_)
 refine wJ hF (fun x6=>[(5,.v (vD x6))]) (fun x6 hF=>?_) fun _ hj4 hF=>?_
 ·refine wK [4] ?_;exact wm hΦ hF
 refine wB ?_;obtain⟨b25,hb26,hψ20⟩:=hF;refine pR hb26 (fun i17 s16=>[(5,.v (vD s16)),(11,.v (vC a1)),(12,.v (.int .i64 (a1.length:Int))),(13,.v (.int .i64 i17))]) (fun s16 _ hN27=>?_) fun i17 s16 _ _ hi21 hi22 ho18 hg19 hF=>?_
 ·exact wn hN27 (hj4 _) hψ20
 refine wK [5,11,12,13,14] ?_;refine wu hi21 hi22 ?_;refine wW ?_;refine wB ?_;obtain⟨x23,g,hF⟩:=Rx g hF;obtain⟨x24,g,hF⟩:=Rx g hF
 iterate 2 refine wW ?_
 exact wi hi21 hi22 (hg19 _) (zaa hF)
def zed(a0:List Int)(a1:Int)(a2:Int):Option Int:=
 ((zaH (σ:=Int×Int) (fun s4=>
 if decide (0≤s4.2)=true then(
 (ix a0 s4.2).bind fun x10=>
 some (.go (i64.wrap ((i64.wrap ((i64.wrap (s4.1*a1))+x10))+a2),i64.wrap (s4.2-1))))else(
 some (.out s4.1))) (0,i64.wrap ((a0.length:Int)-1)):Option Int).bind fun x3=>
 some x3)
theorem zhC:∀{a0}{a1}{a2}{r},zed a0 a1 a2=some r→PCalls Tryz.prog 200 [(.sh,vC a0),(.sh,.int .i64 a1),(.sh,.int .i64 a2)] (Eo (.int .i64 r) [.junk,.junk,.junk]):=by
 intro a0 a1 a2 r hr;apply pF 27 [] [] [] [.tmp 6] hr zGf Tryz.func200;intro Φ hΦ hF g;unfold zed at hF
 iterate 3 (try simp[go_sem,g];try intros;refine zap ?_)
 refine wJ hF (fun x3=>[(7,.v (.int .i64 x3))]) (fun x3 hF=>?_) fun _ hj1 hF=>?_
 ·exact wl hΦ hF
 refine wB ?_;obtain⟨b11,hb12,hψ8⟩:=hF;refine pL hb12 (fun s4=>[(0,.v (vC a0)),(1,.v (.int .i64 a1)),(2,.v (.int .i64 a2)),(7,.v (.int .i64 s4.1)),(8,.v (.int .i64 s4.2))]) fun s4 _ _ ho6 hg7 hF=>?_
 refine wW ?_;refine wI hF (fun h9 hF=>?_) fun h9 hF=>?_
 ·refine wW ?_;refine wB ?_;obtain⟨x10,g,hF⟩:=Rx g hF;refine wK [0,1,2,7,8] ?_;exact wT (hg7 _) (zaa hF)
 cases ho6 _ (zaa hF);exact wT (hj1 _) hψ8
def zbS(a0:Contest)(a1:List Int):Option Int:=
 if(a0.Kind==1)=true then(
 (zfg a0 a1).bind fun z2=>
 (zed z2 2 0).bind fun z3=>
 some z3)else(
 if(a0.Kind==2)=true then(
 (zed a1 (i64.wrap (a0.Points+1)) 0).bind fun z5=>
 some z5)else(
 if(a0.Kind==3)=true then(
 (zed a1 (i64.wrap (a0.Options+1)) 1).bind fun z7=>
 some z7)else(
 (zed a1 27 0).bind fun z8=>
 some z8)))
theorem zkx:∀{a0}{a1}{r},zbS a0 a1=some r→PCalls Tryz.prog 143 [(.sh,vF a0),(.sh,vC a1)] (Eo (.int .i64 r) [.junk,.junk]):=by
 intro a0 a1 r hr;apply pF 29 [] [] [] [.tmp 4] hr zG7 Tryz.func143;intro Φ hΦ hF g;unfold zbS at hF
 iterate 2 refine wW ?_
 refine wB ?_;refine wW ?_;refine wI hF (fun h1 hF=>?_) fun h1 hF=>?_
 ·refine wC hF [.sh,.sh] zmH fun z2 hF=>?_
  refine wC hF [.sh,.sh,.sh] zhC fun z3 hF=>?_
  refine wK [4] ?_;exact wm hΦ hF
 refine wW ?_;refine wI hF (fun h4 hF=>?_) fun h4 hF=>?_
 ·refine wC hF [.sh,.sh,.sh] zhC fun z5 hF=>?_
  refine wK [4] ?_;exact wm hΦ hF
 refine wK [1,2,20] ?_;refine wI hF (fun h6 hF=>?_) fun h6 hF=>?_
 ·refine wC hF [.sh,.sh,.sh] zhC fun z7 hF=>?_
  exact wl hΦ hF
 refine wW ?_;refine wC hF [.sh,.sh,.sh] zhC fun z8 hF=>?_
 exact wl hΦ hF
def zdb(a0:Contest):Option Int:=
 ((if(a0.Kind==1)=true then(
 zaH (σ:=(List Int)×Int) (fun s5=>
 if decide (s5.2<a0.Options)=true then(
 gd ((s5.1.length+1)*8≤140737488355328∧s5.1.length+1≤4611686018427387904)<|
 some (.go (s5.1++[s5.2],i64.wrap (s5.2+1))))else(
 some (.out s5.1))) ([],i64.wrap (a0.Options-a0.Most)))else(
 if(a0.Kind==2)=true then(
 gd (0≤a0.Options∧a0.Options≤a0.Options∧8*a0.Options≤140737488355328∧a0.Options≤4611686018427387904)<|
 (some (List.replicate a0.Options.toNat 0)).bind fun x14=>
 zaH (σ:=(List Int)×Int×Int) (fun s26=>
 if decide (0≤s26.2.2)=true then(
 (zbN s26.2.1 a0.Points).bind fun z32=>
 (ix s26.1 s26.2.2).bind fun x33=>
 (ix (s26.1.set s26.2.2.toNat z32) s26.2.2).bind fun x34=>
 some (.go (s26.1.set s26.2.2.toNat z32,i64.wrap (s26.2.1-x34),i64.wrap (s26.2.2-1))))else(
 some (.out s26.1))) (x14,a0.Most,i64.wrap (a0.Options-1)))else(
 if(a0.Kind==3)=true then(
 zaH (σ:=(List Int)×Int) (fun s38=>
 if decide (s38.2<a0.Options)=true then(
 gd ((s38.1.length+1)*8≤140737488355328∧s38.1.length+1≤4611686018427387904)<|
 some (.go (s38.1++[s38.2],i64.wrap (s38.2+1))))else(
 some (.out s38.1))) ([],i64.wrap (a0.Options-a0.Most)))else(
 zaH (σ:=(List Int)×Int) (fun s46=>
 if decide (s46.2<a0.Most)=true then(
 gd ((s46.1.length+1)*8≤140737488355328∧s46.1.length+1≤4611686018427387904)<|
 some (.go (s46.1++[26],i64.wrap (s46.2+1))))else(
 some (.out s46.1))) ([],0)))):Option ((List Int))).bind fun x3=>
 (zbS a0 x3).bind fun z54=>
 some z54)
theorem zky:∀{a0}{r},zdb a0=some r→PCalls Tryz.prog 135 [(.sh,vF a0)] (Eo (.int .i64 r) [.junk]):=by
 intro a0 r hr;apply pF 84 [] [] [] [.tmp 2] hr zGR Tryz.func135;intro Φ hΦ hF g;unfold zdb at hF
 iterate 3 refine wW ?_
 refine wJ hF (fun x3=>[(1,.bl [.int .i64 a0.Kind,.int .i64 a0.Options,.int .i64 a0.Least,.int .i64 a0.Most,.int .i64 a0.Points]),(3,.v (vD x3))]) (fun x3 hF=>?_) fun _ hj1 hF=>?_
 ·refine wC hF [.sh,.sh] zkx fun z54 hF=>?_
  exact wl hΦ hF
 refine wB ?_;refine wW ?_;refine wI hF (fun h4 hF=>?_) fun h4 hF=>?_
 ·refine wK [1,3,4] ?_;refine wB ?_;obtain⟨b11,hb12,hψ9⟩:=hF;refine pL hb12 (fun s5=>[(1,.bl [.int .i64 a0.Kind,.int .i64 a0.Options,.int .i64 a0.Least,.int .i64 a0.Most,.int .i64 a0.Points]),(3,.v (vD s5.1)),(4,.v (.int .i64 s5.2))]) fun s5 _ _ ho7 hg8 hF=>?_
  refine wW ?_;refine wI hF (fun h10 hF=>?_) fun h10 hF=>?_
  ·refine wW ?_;refine wB ?_;obtain⟨g,hF⟩:=Rg g hF;refine wW ?_;exact wT (hg8 _) (zaa hF)
  cases ho7 _ (zaa hF);exact wT (hj1 _) hψ9
 refine wW ?_;refine wI hF (fun h13 hF=>?_) fun h13 hF=>?_
 ·obtain⟨g,hF⟩:=Rg g hF;obtain⟨x14,e15,hF⟩:=zfB hF;have g16:List.replicate a0.Options.toNat ([.int .i64 0]:List PV)=x14.map zam:=by injection e15 with e15;rw[←e15];simp[go_sem]
  try simp[go_sem,g,g16]
  refine wK [1,3] ?_
  iterate 2 refine wW ?_
  refine wB ?_;obtain⟨b35,hb36,hψ30⟩:=hF;refine pL hb36 (fun s26=>[(1,.bl [.int .i64 a0.Kind,.int .i64 a0.Options,.int .i64 a0.Least,.int .i64 a0.Most,.int .i64 a0.Points]),(3,.v (vD s26.1)),(5,.v (.int .i64 s26.2.1)),(6,.v (.int .i64 s26.2.2))]) fun s26 _ _ ho28 hg29 hF=>?_
  refine wW ?_;refine wI hF (fun h31 hF=>?_) fun h31 hF=>?_
  ·refine wW ?_;refine wB ?_;refine wC hF [.sh,.sh] zlA fun z32 hF=>?_
   obtain⟨x33,g,hF⟩:=Rx g hF;refine wK [1,3,5,6] ?_;obtain⟨x34,g,hF⟩:=Rx g hF;try simp only[List.length_set]at g
   refine wW ?_;exact wT (hg29 _) (zaa hF)
  cases ho28 _ (zaa hF);exact wT (hj1 _) hψ30
 refine wK [1,3,64] ?_;refine wI hF (fun h37 hF=>?_) fun h37 hF=>?_
 ·refine wW ?_;refine wB ?_;obtain⟨b44,hb45,hψ42⟩:=hF;refine pL hb45 (fun s38=>[(1,.bl [.int .i64 a0.Kind,.int .i64 a0.Options,.int .i64 a0.Least,.int .i64 a0.Most,.int .i64 a0.Points]),(3,.v (vD s38.1)),(7,.v (.int .i64 s38.2))]) fun s38 _ _ ho40 hg41 hF=>?_
  refine wK [1,3,7,74] ?_;refine wI hF (fun h43 hF=>?_) fun h43 hF=>?_
  ·refine wW ?_;refine wB ?_;obtain⟨g,hF⟩:=Rg g hF;refine wW ?_;exact wT (hg41 _) (zaa hF)
  cases ho40 _ (zaa hF);exact wT (hj1 _) hψ42
 refine wW ?_;refine wB ?_;obtain⟨b52,hb53,hψ50⟩:=hF;refine pL hb53 (fun s46=>[(1,.bl [.int .i64 a0.Kind,.int .i64 a0.Options,.int .i64 a0.Least,.int .i64 a0.Most,.int .i64 a0.Points]),(3,.v (vD s46.1)),(8,.v (.int .i64 s46.2))]) fun s46 _ _ ho48 hg49 hF=>?_
 refine wW ?_;refine wI hF (fun h51 hF=>?_) fun h51 hF=>?_
 ·refine wW ?_;refine wB ?_;obtain⟨g,hF⟩:=Rg g hF;refine wW ?_;exact wT (hg49 _) (zaa hF)
 cases ho48 _ (zaa hF);exact wT (hj1 _) hψ50
def zeq(a0:Contest):Option Bool:=
 ((if(a0.Kind==1)=true then(
 some true)else(
 some (a0.Kind==2)):Option Bool).bind fun x3=>
 some x3)
theorem zhr:∀{a0}{r},zeq a0=some r→PCalls Tryz.prog 136 [(.sh,vF a0)] (Eo (.bool r) [.junk]):=by
 intro a0 r hr;apply pF 11 [] [] [] [.tmp 2] hr zGc Tryz.func136;intro Φ hΦ hF g;unfold zeq at hF;refine wW ?_;refine wJ hF (fun x3=>[(2,.v (.bool x3))]) (fun x3 hF=>?_) fun _ hj1 hF=>?_
 ·exact wm hΦ hF
 refine wG hF (fun h4 hF=>?_) fun h4 hF=>?_
 ·exact wV h4 (hj1 _) (zaa hF)
 exact wV h4 (hj1 _) (zaa hF)
@[go_sem] def zHd:List DE:=[d2 0 [2] 2 2,d3 1 [5],d0 2 [6],d0 3 [7],d2 4 [3,8] 3 3,d3 5 [9,8],d0 6 [10,8],d0 7 [8,11],d0 8 [12],d2 9 [3,13] 3 3,d3 10 [14,13],d0 11 [15,13],d0 12 [13,16],d0 13 [17],d2 14 [3,18] 3 3,d1 16 [2,18] 2,d2 17 [21,18] 2 21,d3 15 [19,18],d0 18 [20,22,18],d0 19 [18,23]]
def zb4(a0:Group)(a1:Contest):Option Bool:=
 (((zfl a0).bind fun z4=>
 if(!z4)=true then(
 some true)else(
 (zeh a1).bind fun z6=>
 if(!z6)=true then(
 some true)else(
 (zdb a1).bind fun z8=>
 if decide (100000<z8)=true then(
 some true)else(
 (zdb a1).bind fun z10=>
 some (decide (a0.Q≤z10))))):Option Bool).bind fun x3=>
 if x3=true then(
 some false)else(
 (((zeq a1).bind fun z15=>
 if(!z15)=true then(
 some true)else(
 if decide ((i64.wrap (a1.Most-a1.Least))<8)=true then(
 some (decide (a1.Most<a0.Q)))else(
 some false)):Option Bool).bind fun x14=>
 some x14)))
theorem zkB:∀{a0}{a1}{r},zb4 a0 a1=some r→PCalls Tryz.prog 63 [(.sh,vE a0),(.sh,vF a1)] (Eo (.bool r) [.junk,.junk]):=by
 intro a0 a1 r hr;apply pF 43 [] [] [] [.tmp 4] hr zIK Tryz.func63;intro Φ hΦ hF g;unfold zb4 at hF;refine wW ?_;refine wJ hF (fun x3=>[(2,.bl [.int .i64 a0.P,.int .i64 a0.Q,.int .i64 a0.G]),(3,.bl [.int .i64 a1.Kind,.int .i64 a1.Options,.int .i64 a1.Least,.int .i64 a1.Most,.int .i64 a1.Points]),(24,.v (.bool x3))]) (fun x3 hF=>?_) fun _ hj1 hF=>?_
 ·refine wI hF (fun h11 hF=>?_) fun h11 hF=>?_
  ·exact wl hΦ hF
  refine wW ?_;refine wJ hF (fun x14=>[(4,.v (.bool x14))]) (fun x14 hF=>?_) fun _ hj12 hF=>?_
  ·exact wm hΦ hF
  refine wC hF [.sh] zhr fun z15 hF=>?_
  refine wG hF (fun h16 hF=>?_) fun h16 hF=>?_
  ·exact wV h16 (hj12 _) (zaa hF)
  try simp[go_sem,g,h16]
  refine wG hF (fun h17 hF=>?_) fun h17 hF=>?_
  ·try simp[go_sem,g,h17,h16]
   exact wT (hj12 _) (zaa hF)
  try simp[go_sem,g,h17,h16]
  exact wT (hj12 _) (zaa hF)
 refine wX zHd follows ?_;refine wC hF [.sh] zjI fun z4 hF=>?_
 refine wH hF (fun h5 hF=>?_) fun h5 hF=>?_
 ·exact wV h5 (hj1 _) (zaa hF)
 try simp[go_sem,g,h5]
 refine wC hF [.sh] zix fun z6 hF=>?_
 try simp[go_sem,g,h5]
 refine wH hF (fun h7 hF=>?_) fun h7 hF=>?_
 ·exact wV h7 (hj1 _) (zaa hF)
 try simp[go_sem,g,h7]
 refine wC hF [.sh] zky fun z8 hF=>?_
 try simp[go_sem,g,h7]
 refine wH hF (fun h9 hF=>?_) fun h9 hF=>?_
 ·exact wV h9 (hj1 _) (zaa hF)
 try simp[go_sem,g,h9]
 refine wC hF [.sh] zky fun z10 hF=>?_
 exact wV h9 (hj1 _) (zaa hF)
def zgz(a0:List Int)(a1:Int):Option Bool:=
 ((zar (σ:=Unit) (fun i5 s4=>
 (ix a0 i5).bind fun x11=>
 if(x11==a1)=true then(
 some (.out (.inr true)))else(
 some (.go ()))) (fun s4=>.inl ()) (a0.length) 0 ():Option (Unit ⊕ Bool)).bind (Sum.elim (fun x3=>
 some false) some))
theorem znt:∀{a0}{a1}{r},zgz a0 a1=some r→PCalls Tryz.prog 175 [(.sh,vC a0),(.sh,.int .i64 a1)] (Eo (.bool r) [.junk,.junk]):=by
 intro a0 a1 r hr;apply pF 17 [] [] [] [.tmp 4] hr zGb Tryz.func175;intro Φ hΦ hF g;unfold zgz at hF
 iterate 2 (try simp[go_sem,g];try intros;refine zap ?_)
 refine wS hF (fun x3=>[]) (fun x3 hF=>?_) fun _ hj1 hr2 hF=>?_
 ·exact wl hΦ hF
 refine wB ?_;obtain⟨b13,hb14,hψ8⟩:=hF;refine pR hb14 (fun i5 s4=>[(1,.v (.int .i64 a1)),(7,.v (vC a0)),(8,.v (.int .i64 (a0.length:Int))),(9,.v (.int .i64 i5))]) (fun s4 _ hN15=>?_) fun i5 s4 _ _ hi9 hi10 ho6 hg7 hF=>?_
 ·exact wn hN15 (hj1 _) hψ8
 refine wW ?_;refine wu hi9 hi10 ?_;refine wW ?_;refine wB ?_;obtain⟨x11,g,hF⟩:=Rx g hF;refine wW ?_;refine wK [1,7,8,9,15] ?_;refine wI hF (fun h12 hF=>?_) fun h12 hF=>?_
 ·cases ho6 _ (zaa hF);cases hΦ _ (hr2 _ hψ8);refine wW ?_;try simp[go_sem,g]
 refine wW ?_;exact wi hi9 hi10 (hg7 _) (zaa hF)
def zft(a0:List Int)(a1:Int):Option ((List Int)):=
 ((zaH (σ:=Int) (fun s4=>
 ((if decide (s4<(a0.length:Int))=true then(
 (ix a0 s4).bind fun x13=>
 some (decide (x13<a1)))else(
 some false):Option Bool).bind fun x11=>
 if x11=true then(
 some (.go (i64.wrap (s4+1))))else(
 some (.out s4)))) 0:Option Int).bind fun x3=>
 ((if decide (x3<(a0.length:Int))=true then(
 (ix a0 x3).bind fun x21=>
 some (x21==a1))else(
 some false):Option Bool).bind fun x19=>
 if x19=true then(
 some a0)else(
 gd (0≤x3)<|
 gd (0≤x3.toNat∧x3.toNat≤a0.length)<|
 gd ((((a0.take x3.toNat).drop 0).length)*8≤140737488355328∧((a0.take x3.toNat).drop 0).length≤4611686018427387904)<|
 gd ((((a0.take x3.toNat).drop 0).length+1)*8≤140737488355328∧((a0.take x3.toNat).drop 0).length+1≤4611686018427387904)<|
 gd (0≤x3)<|
 gd (x3.toNat≤a0.length∧a0.length≤a0.length)<|
 gd ((((a0.take x3.toNat).drop 0++[a1]).length+((a0.take a0.length).drop x3.toNat).length)*8≤140737488355328∧((a0.take x3.toNat).drop 0++[a1]).length+((a0.take a0.length).drop x3.toNat).length≤4611686018427387904)<|
 some ((a0.take x3.toNat).drop 0++[a1]++(a0.take a0.length).drop x3.toNat))))
theorem zoc:∀{a0}{a1}{r},zft a0 a1=some r→PCalls Tryz.prog 176 [(.mv,vD a0),(.sh,.int .i64 a1)] (Eo (vD r) [.junk,.junk]):=by
 intro a0 a1 r hr;apply pF 48 [] [] [] [.tmp 4] hr zFp Tryz.func176;intro Φ hΦ hF g;unfold zft at hF
 iterate 2 refine wW ?_
 refine wJ hF (fun x3=>[(0,.v (vD a0)),(1,.v (.int .i64 a1)),(5,.v (.int .i64 x3))]) (fun x3 hF=>?_) fun _ hj1 hF=>?_
 ·refine wJ hF (fun x19=>[(0,.v (vD a0)),(1,.v (.int .i64 a1)),(5,.v (.int .i64 x3)),(32,.v (.bool x19))]) (fun x19 hF=>?_) fun _ hj17 hF=>?_
  ·refine wI hF (fun h22 hF=>?_) fun h22 hF=>?_
   ·exact wl hΦ hF
   obtain⟨g,hF⟩:=Rg g hF;obtain⟨g,hF⟩:=Rg g hF;obtain⟨g,hF⟩:=Rg g hF;have w:=g.1.2;try simp[g.1.1]at w
   try have g:=And.intro g w
   obtain⟨g,hF⟩:=Rg g hF;have w:=g.1.2;try simp[g.1.1]at w
   try have g:=And.intro g w
   iterate 2 refine wW ?_
   refine wK [0,5,6] ?_;obtain⟨g,hF⟩:=Rg g hF;obtain⟨g,hF⟩:=Rg g hF;obtain⟨g,hF⟩:=Rg g hF;have w:=g.1.2;try simp[g.1.1]at w
   try have g:=And.intro g w
   exact wl hΦ hF
  try simp[go_sem,g]
  try intros
  refine wG hF (fun h20 hF=>?_) fun h20 hF=>?_
  ·obtain⟨x21,g,hF⟩:=Rx g hF;exact wV h20 (hj17 _) (zaa hF)
  exact wV h20 (hj17 _) (zaa hF)
 refine wB ?_;obtain⟨b15,hb16,hψ8⟩:=hF;refine pL hb16 (fun s4=>[(0,.v (vD a0)),(1,.v (.int .i64 a1)),(5,.v (.int .i64 s4))]) fun s4 _ _ ho6 hg7 hF=>?_
 refine wJ hF (fun x11=>[(0,.v (vD a0)),(1,.v (.int .i64 a1)),(5,.v (.int .i64 s4)),(18,.v (.bool x11))]) (fun x11 hF=>?_) fun _ hj9 hF=>?_
 ·refine wI hF (fun h14 hF=>?_) fun h14 hF=>?_
  ·refine wW ?_;refine wB ?_;exact wT (hg7 _) (zaa hF)
  cases ho6 _ (zaa hF);exact wT (hj1 _) hψ8
 try simp[go_sem,g]
 try intros
 refine wG hF (fun h12 hF=>?_) fun h12 hF=>?_
 ·obtain⟨x13,g,hF⟩:=Rx g hF;exact wV h12 (hj9 _) (zaa hF)
 exact wV h12 (hj9 _) (zaa hF)
@[go_sem] def zGB:List DE:=[d1 0 [3] 3,d2 1 [9] 3 9,d0 2 [0],d1 3 [3] 3,d2 4 [12] 3 12,d1 5 [3] 3,d2 6 [14] 3 14,d0 7 [13,15],d0 8 [16],d3 9 [11,17],d0 10 [10,18],d0 11 [19]]
@[go_sem] def zGj:List DE:=[d0 0 [6],d0 1 [7],d0 2 [33,34],d0 3 [35],d1 4 [3] 3,d2 5 [37] 3 37,d0 6 [36,38]]
def zdN(a0c0:List Int)(a0c1:Int)(a0c2:Int)(a1:Contest):Option (List Int×(List Int×Int×Int)):=
 (zag a0c0 a0c1 a0c2 (i64.wrap ((i64.wrap (a1.Most-a1.Least))+1))).bind fun z1=>
 if(a1.Kind==2)=true then(
 gd (0≤a1.Options∧a1.Options≤a1.Options∧8*a1.Options≤140737488355328∧a1.Options≤4611686018427387904)<|
 (some (List.replicate a1.Options.toNat 0)).bind fun x3=>
 ((zaH (σ:=(List Int×Int×Int)×Int×List Int) (fun s29=>
 if decide (0<s29.2.1)=true then(
 (zag s29.1.1 s29.1.2.1 s29.1.2.2 a1.Options).bind fun z35=>
 ((zaH (σ:=Int) (fun s39=>
 (ix s29.2.2 s39).bind fun x44=>
 if(x44==a1.Points)=true then(
 gd (a1.Options≠0)<|
 some (.go ((i64.wrap (s39+1)).tmod a1.Options)))else(
 some (.out s39))) z35.1:Option Int).bind fun x38=>
 (ix s29.2.2 x38).bind fun x48=>
 some (.go ((z35.2.1,z35.2.2.1,z35.2.2.2),i64.wrap (s29.2.1-1),s29.2.2.set x38.toNat (i64.wrap (x48+1))))))else(
 some (.out ((s29.1.1,s29.1.2.1,s29.1.2.2),s29.2.2)))) ((z1.2.1,z1.2.2.1,z1.2.2.2),i64.wrap (a1.Least+z1.1),x3):Option (((List Int×Int×Int)×List Int))).bind fun x8=>
 some (x8.2,(x8.1.1,x8.1.2.1,x8.1.2.2))))else(
 if(a1.Kind==4)=true then(
 ((zaH (σ:=(List Int×Int×Int)×Int×List Int) (fun s62=>
 if decide (0<s62.2.1)=true then(
 (zag s62.1.1 s62.1.2.1 s62.1.2.2 26).bind fun z68=>
 gd ((s62.2.2.length+1)*8≤140737488355328∧s62.2.2.length+1≤4611686018427387904)<|
 some (.go ((z68.2.1,z68.2.2.1,z68.2.2.2),i64.wrap (s62.2.1-1),s62.2.2++[i64.wrap (1+z68.1)])))else(
 some (.out ((s62.1.1,s62.1.2.1,s62.1.2.2),s62.2.2)))) ((z1.2.1,z1.2.2.1,z1.2.2.2),i64.wrap (a1.Least+z1.1),[]):Option (((List Int×Int×Int)×List Int))).bind fun x54=>
 some (x54.2,(x54.1.1,x54.1.2.1,x54.1.2.2))))else(
 ((zaH (σ:=(List Int×Int×Int)×List Int) (fun s95=>
 if decide ((s95.2.length:Int)<(i64.wrap (a1.Least+z1.1)))=true then(
 (zag s95.1.1 s95.1.2.1 s95.1.2.2 a1.Options).bind fun z101=>
 ((zaH (σ:=Int) (fun s105=>
 (zgz s95.2 s105).bind fun z110=>
 if z110=true then(
 gd (a1.Options≠0)<|
 some (.go ((i64.wrap (s105+1)).tmod a1.Options)))else(
 some (.out s105))) z101.1:Option Int).bind fun x104=>
 if(a1.Kind==3)=true then(
 gd ((s95.2.length+1)*8≤140737488355328∧s95.2.length+1≤4611686018427387904)<|
 some (.go ((z101.2.1,z101.2.2.1,z101.2.2.2),s95.2++[x104])))else(
 (zft s95.2 x104).bind fun z115=>
 some (.go ((z101.2.1,z101.2.2.1,z101.2.2.2),z115)))))else(
 some (.out ((s95.1.1,s95.1.2.1,s95.1.2.2),s95.2)))) ((z1.2.1,z1.2.2.1,z1.2.2.2),[]):Option (((List Int×Int×Int)×List Int))).bind fun x73=>
 some (x73.2,(x73.1.1,x73.1.2.1,x73.1.2.2)))))
set_option maxHeartbeats 1000000 in
theorem zlp:∀{a0c0}{a0c1}{a0c2}{a1}{r},zdN a0c0 a0c1 a0c2 a1=some r→PCalls Tryz.prog 95 [(.io,vB a0c0 a0c1 a0c2),(.sh,vF a1)] (Eo (vD r.1) [vB r.2.1 r.2.2.1 r.2.2.2,.junk]):=by
 intro a0c0 a0c1 a0c2 a1 r hr;apply pF 94 [0] [] [] [.tmp 4] hr zLx Tryz.func95;intro Φ hΦ hF g;unfold zdN at hF;refine wW ?_;refine wX zGB follows ?_;refine wC hF [.io,.sh] zai fun z1 hF=>?_
 refine wK [0,3,5] ?_
 iterate 2 refine wW ?_
 refine wB ?_;refine wW ?_;refine wI hF (fun h2 hF=>?_) fun h2 hF=>?_
 ·obtain⟨g,hF⟩:=Rg g hF;obtain⟨x3,e4,hF⟩:=zfB hF;have g5:List.replicate a1.Options.toNat ([.int .i64 0]:List PV)=x3.map zam:=by injection e4 with e4;rw[←e4];simp[go_sem]
  try simp[go_sem,g,g5]
  refine zap ?_;refine wJ hF (fun x8=>[(0,.v (vB x8.1.1 x8.1.2.1 x8.1.2.2)),(6,.v (vD x8.2))]) (fun x8 hF=>?_) fun _ hj6 hF=>?_
  ·refine wK [0,4] ?_;exact wm hΦ hF
  refine wB ?_;obtain⟨b49,hb50,hψ33⟩:=hF;refine pL hb50 (fun s29=>[(0,.v (vB s29.1.1 s29.1.2.1 s29.1.2.2)),(3,.bl [.int .i64 a1.Kind,.int .i64 a1.Options,.int .i64 a1.Least,.int .i64 a1.Most,.int .i64 a1.Points]),(5,.v (.int .i64 s29.2.1)),(6,.v (vD s29.2.2))]) fun s29 _ _ ho31 hg32 hF=>?_
  refine wK [0,3,5,6,28] ?_;refine wI hF (fun h34 hF=>?_) fun h34 hF=>?_
  ·refine wW ?_;refine wB ?_;refine wC hF [.io,.sh] zai fun z35 hF=>?_
   refine wW ?_;refine wJ hF (fun x38=>[(0,.v (vB z35.2.1 z35.2.2.1 z35.2.2.2)),(3,.bl [.int .i64 a1.Kind,.int .i64 a1.Options,.int .i64 a1.Least,.int .i64 a1.Most,.int .i64 a1.Points]),(5,.v (.int .i64 s29.2.1)),(6,.v (vD s29.2.2)),(7,.v (.int .i64 x38))]) (fun x38 hF=>?_) fun _ hj36 hF=>?_
   ·obtain⟨x48,g,hF⟩:=Rx g hF;refine wK [0,3,5,6] ?_;exact wT (hg32 _) (zaa hF)
   refine wB ?_;obtain⟨b46,hb47,hψ43⟩:=hF;refine pL hb47 (fun s39=>[(0,.v (vB z35.2.1 z35.2.2.1 z35.2.2.2)),(3,.bl [.int .i64 a1.Kind,.int .i64 a1.Options,.int .i64 a1.Least,.int .i64 a1.Most,.int .i64 a1.Points]),(5,.v (.int .i64 s29.2.1)),(6,.v (vD s29.2.2)),(7,.v (.int .i64 s39))]) fun s39 _ _ ho41 hg42 hF=>?_
   refine wX zGj follows ?_;obtain⟨x44,g,hF⟩:=Rx g hF;refine wK [0,3,5,6,7,39] ?_;refine wI hF (fun h45 hF=>?_) fun h45 hF=>?_
   ·refine wW ?_;refine wB ?_;obtain⟨g,hF⟩:=Rz g hF;exact wT (hg42 _) (zaa hF)
   cases ho41 _ (zaa hF);exact wT (hj36 _) hψ43
  cases ho31 _ (zaa hF);exact wT (hj6 _) hψ33
 refine wW ?_;refine wI hF (fun h51 hF=>?_) fun h51 hF=>?_
 ·refine wJ hF (fun x54=>[(0,.v (vB x54.1.1 x54.1.2.1 x54.1.2.2)),(6,.v (vD x54.2))]) (fun x54 hF=>?_) fun _ hj52 hF=>?_
  ·exact wl hΦ hF
  refine wB ?_;obtain⟨b69,hb70,hψ66⟩:=hF;refine pL hb70 (fun s62=>[(0,.v (vB s62.1.1 s62.1.2.1 s62.1.2.2)),(5,.v (.int .i64 s62.2.1)),(6,.v (vD s62.2.2))]) fun s62 _ _ ho64 hg65 hF=>?_
  refine wW ?_;refine wI hF (fun h67 hF=>?_) fun h67 hF=>?_
  ·refine wW ?_;refine wB ?_;refine wC hF [.io,.sh] zai fun z68 hF=>?_
   obtain⟨g,hF⟩:=Rg g hF;refine wK [0,5,6] ?_;exact wT (hg65 _) (zaa hF)
  cases ho64 _ (zaa hF);exact wT (hj52 _) hψ66
 refine wW ?_;refine wJ hF (fun x73=>[(0,.v (vB x73.1.1 x73.1.2.1 x73.1.2.2)),(6,.v (vD x73.2))]) (fun x73 hF=>?_) fun _ hj71 hF=>?_
 ·exact wl hΦ hF
 refine wB ?_;obtain⟨b116,hb117,hψ99⟩:=hF;refine pL hb117 (fun s95=>[(0,.v (vB s95.1.1 s95.1.2.1 s95.1.2.2)),(3,.bl [.int .i64 a1.Kind,.int .i64 a1.Options,.int .i64 a1.Least,.int .i64 a1.Most,.int .i64 a1.Points]),(5,.v (.int .i64 (i64.wrap (a1.Least+z1.1)))),(6,.v (vD s95.2))]) fun s95 _ _ ho97 hg98 hF=>?_
 try simp[go_sem,g]
 try intros
 refine wK [0,3,5,6,70] ?_;refine wI hF (fun h100 hF=>?_) fun h100 hF=>?_
 ·refine wW ?_;refine wB ?_;refine wC hF [.io,.sh] zai fun z101 hF=>?_
  refine wW ?_;refine wJ hF (fun x104=>[(0,.v (vB z101.2.1 z101.2.2.1 z101.2.2.2)),(3,.bl [.int .i64 a1.Kind,.int .i64 a1.Options,.int .i64 a1.Least,.int .i64 a1.Most,.int .i64 a1.Points]),(5,.v (.int .i64 (i64.wrap (a1.Least+z1.1)))),(6,.v (vD s95.2)),(8,.v (.int .i64 x104))]) (fun x104 hF=>?_) fun _ hj102 hF=>?_
  ·refine wW ?_;refine wI hF (fun h114 hF=>?_) fun h114 hF=>?_
   ·obtain⟨g,hF⟩:=Rg g hF;exact wT (hg98 _) (zaa hF)
   refine wC hF [.mv,.sh] zoc fun z115 hF=>?_
   exact wT (hg98 _) (zaa hF)
  refine wB ?_;obtain⟨b112,hb113,hψ109⟩:=hF;refine pL hb113 (fun s105=>[(0,.v (vB z101.2.1 z101.2.2.1 z101.2.2.2)),(3,.bl [.int .i64 a1.Kind,.int .i64 a1.Options,.int .i64 a1.Least,.int .i64 a1.Most,.int .i64 a1.Points]),(5,.v (.int .i64 (i64.wrap (a1.Least+z1.1)))),(6,.v (vD s95.2)),(8,.v (.int .i64 s105))]) fun s105 _ _ ho107 hg108 hF=>?_
  refine wC hF [.sh,.sh] znt fun z110 hF=>?_
  refine wW ?_;refine wI hF (fun h111 hF=>?_) fun h111 hF=>?_
  ·refine wW ?_;refine wB ?_;obtain⟨g,hF⟩:=Rz g hF;exact wT (hg108 _) (zaa hF)
  cases ho107 _ (zaa hF);exact wT (hj102 _) hψ109
 cases ho97 _ (zaa hF);exact wT (hj71 _) hψ99
def ze9(a0:List Int):Option ((List Int)):=
 gd (a0.length*8≤140737488355328∧a0.length≤4611686018427387904)<|
 some a0
theorem zhq:∀{a0}{r},ze9 a0=some r→PCalls Tryz.prog 102 [(.sh,vC a0)] (Eo (vD r) [.junk]):=by
 intro a0 r hr;apply pF 6 [] [] [] [.tmp 2] hr zEI Tryz.func102;intro Φ hΦ hF g;unfold ze9 at hF;obtain⟨g,hF⟩:=Rg g hF;cases hΦ _ (zaa hF)
 iterate 2 refine wW ?_
 try simp[go_sem,g]
def zcP(a0c0:List Int)(a0c1:Int)(a0c2:Int)(a1:Contest):Option (List Int×(List Int×Int×Int)):=
 (zeh a1).bind fun z1=>
 if(!z1)=true then(
 some ([0],(a0c0,a0c1,a0c2)))else(
 (zdN a0c0 a0c1 a0c2 a1).bind fun z3=>
 (ze9 z3.1).bind fun z4=>
 (zag z3.2.1 z3.2.2.1 z3.2.2.2 14).bind fun z5=>
 ((if(z5.1==0)=true then(
 (zag z5.2.1 z5.2.2.1 z5.2.2.2 9).bind fun z10=>
 gd ((z4.length+1)*8≤140737488355328∧z4.length+1≤4611686018427387904)<|
 some ((z10.2.1,z10.2.2.1,z10.2.2.2),z4++[i64.wrap (z10.1-1)]))else(
 if(z5.1==1)=true then(
 if decide (0<(z4.length:Int))=true then(
 (zag z5.2.1 z5.2.2.1 z5.2.2.2 (z4.length:Int)).bind fun z13=>
 (zal z13.2.1 z13.2.2.1 z13.2.2.2 [(-1),0,1,5,6,8,26,27]).bind fun z14=>
 (ix z4 z13.1).bind fun x15=>
 some ((z14.2.1,z14.2.2.1,z14.2.2.2),z4.set z13.1.toNat z14.1))else(
 some ((z5.2.1,z5.2.2.1,z5.2.2.2),z4)))else(
 if(z5.1==2)=true then(
 if decide (0<(z4.length:Int))=true then(
 gd (1≤z4.length∧z4.length≤z4.length)<|
 some ((z5.2.1,z5.2.2.1,z5.2.2.2),(z4.take z4.length).drop 1))else(
 some ((z5.2.1,z5.2.2.1,z5.2.2.2),z4)))else(
 some ((z5.2.1,z5.2.2.1,z5.2.2.2),z4)))):Option (((List Int×Int×Int)×List Int))).bind fun x8=>
 some (x8.2,(x8.1.1,x8.1.2.1,x8.1.2.2))))
theorem zj5:∀{a0c0}{a0c1}{a0c2}{a1}{r},zcP a0c0 a0c1 a0c2 a1=some r→PCalls Tryz.prog 109 [(.io,vB a0c0 a0c1 a0c2),(.sh,vF a1)] (Eo (vC r.1) [vB r.2.1 r.2.2.1 r.2.2.2,.junk]):=by
 intro a0c0 a0c1 a0c2 a1 r hr;apply pF 46 [0] [4] [] [.tmp 4] hr zF1 Tryz.func109;intro Φ hΦ hF g;unfold zcP at hF;refine wW ?_;refine wC hF [.sh] zix fun z1 hF=>?_
 refine wW ?_;refine wI hF (fun h2 hF=>?_) fun h2 hF=>?_
 ·exact wl hΦ hF
 refine wW ?_;refine wC hF [.io,.sh] zlp fun z3 hF=>?_
 refine wC hF [.sh] zhq fun z4 hF=>?_
 refine wK [0,5] ?_;refine wC hF [.io,.sh] zai fun z5 hF=>?_
 refine wW ?_;refine wJ hF (fun x8=>[(0,.v (vB x8.1.1 x8.1.2.1 x8.1.2.2)),(5,.v (vC x8.2))]) (fun x8 hF=>?_) fun _ hj6 hF=>?_
 ·exact wl hΦ hF
 refine wB ?_;refine wW ?_;refine wI hF (fun h9 hF=>?_) fun h9 hF=>?_
 ·refine wC hF [.io,.sh] zai fun z10 hF=>?_
  obtain⟨g,hF⟩:=Rg g hF;try simp[go_sem,g]
  refine znx 5 (by simp[go_sem,g];rfl) (by simp[go_sem]) ?_;exact wT (hj6 _) (zaa hF)
 refine wW ?_;refine wI hF (fun h11 hF=>?_) fun h11 hF=>?_
 ·try simp[go_sem,g]
  try intros
  refine zap ?_;refine wI hF (fun h12 hF=>?_) fun h12 hF=>?_
  ·try simp[go_sem,g]
   try intros
   refine wC hF [.io,.sh] zai fun z13 hF=>?_
   refine wC hF [.io,.mv] zas fun z14 hF=>?_
   obtain⟨x15,g,hF⟩:=Rx g hF;try simp[go_sem,g]
   refine znx 5 (by simp[go_sem,g];rfl) (by simp[go_sem]) ?_;exact wT (hj6 _) (zaa hF)
  try simp[go_sem,g]
  refine znx 5 (by simp[go_sem,g];rfl) (by simp[go_sem]) ?_;exact wT (hj6 _) (zaa hF)
 refine wW ?_;refine wI hF (fun h16 hF=>?_) fun h16 hF=>?_
 ·try simp[go_sem,g]
  try intros
  refine wK [0,5,42] ?_;refine wI hF (fun h17 hF=>?_) fun h17 hF=>?_
  ·obtain⟨g,hF⟩:=Rg g hF;exact wT (hj6 _) (zaa hF)
  try simp[go_sem,g]
  refine znx 5 (by simp[go_sem,g];rfl) (by simp[go_sem]) ?_;exact wT (hj6 _) (zaa hF)
 try simp[go_sem,g]
 refine znx 5 (by simp[go_sem,g];rfl) (by simp[go_sem]) ?_;exact wT (hj6 _) (zaa hF)
def zgn(a0:Contest):Option Int:=
 if(a0.Kind==1)=true then(
 some 1)else(
 some a0.Points)
theorem zlt:∀{a0}{r},zgn a0=some r→PCalls Tryz.prog 140 [(.sh,vF a0)] (Eo (.int .i64 r) [.junk]):=by
 intro a0 r hr;apply pF 8 [] [] [] [.tmp 2] hr zFj Tryz.func140;intro Φ hΦ hF g;unfold zgn at hF
 iterate 2 refine wW ?_
 refine wI hF (fun h1 hF=>?_) fun h1 hF=>?_
 ·exact wl hΦ hF
 cases hΦ _ (zaa hF)
 iterate 2 refine wW ?_
 try simp[go_sem,g]
@[go_sem] def zEE:List DE:=[d1 0 [1] 1,d2 1 [6] 1 6,d2 2 [1] 1 1,d1 7 [1] 1,d2 8 [13] 1 13,d1 9 [1] 1,d2 10 [15] 1 15,d0 11 [14,16],d0 12 [17],d3 3 [8],d0 4 [9],d0 5 [10],d0 6 [7,11],d0 13 [12,18],d0 14 [19],d0 15 [20]]
def zf4(a0:Contest):Option Int:=
 (zeq a0).bind fun z1=>
 if(!z1)=true then(
 some 2)else(
 (zgn a0).bind fun z3=>
 some (i64.wrap ((i64.wrap ((i64.wrap (a0.Options*(i64.wrap ((i64.wrap (2*z3))+2))))+(i64.wrap (2*(i64.wrap (a0.Most-a0.Least))))))+1)))
theorem zmG:∀{a0}{r},zf4 a0=some r→PCalls Tryz.prog 67 [(.sh,vF a0)] (Eo (.int .i64 r) [.junk]):=by
 intro a0 r hr;apply pF 21 [] [] [] [.tmp 2] hr zKR Tryz.func67;intro Φ hΦ hF g;unfold zf4 at hF;refine wW ?_;refine wC hF [.sh] zhr fun z1 hF=>?_
 refine wW ?_;refine wI hF (fun h2 hF=>?_) fun h2 hF=>?_
 ·exact wl hΦ hF
 refine wW ?_;refine wX zEE follows ?_;refine wC hF [.sh] zlt fun z3 hF=>?_
 refine wK [2] ?_;exact wm hΦ hF
@[go_sem] def zBO:List DE:=[d0 0 [0],d0 3 [0],d1 6 [3] 3,d2 7 [14] 3 14,d3 1 [8],d0 2 [9],d3 4 [11],d0 5 [10,12],d0 8 [13,15],d0 9 [16]]
def zbL(a0c0:List Int)(a0c1:Int)(a0c2:Int)(a1:Group):Option (Int×(List Int×Int×Int)):=
 if decide (a1.Q<2)=true then(
 some (0,(a0c0,a0c1,a0c2)))else(
 (zag a0c0 a0c1 a0c2 60000).bind fun z2=>
 (zag z2.2.1 z2.2.2.1 z2.2.2.2 60000).bind fun z3=>
 gd (a1.Q≠0)<|
 some ((i64.wrap ((i64.wrap (z2.1*60000))+z3.1)).tmod a1.Q,(z3.2.1,z3.2.2.1,z3.2.2.2)))
theorem ze3:∀{a0c0}{a0c1}{a0c2}{a1}{r},zbL a0c0 a0c1 a0c2 a1=some r→PCalls Tryz.prog 164 [(.io,vB a0c0 a0c1 a0c2),(.sh,vE a1)] (Eo (.int .i64 r.1) [vB r.2.1 r.2.2.1 r.2.2.2,.junk]):=by
 intro a0c0 a0c1 a0c2 a1 r hr;apply pF 17 [0] [] [] [.tmp 4] hr zFb Tryz.func164;intro Φ hΦ hF g;unfold zbL at hF
 iterate 2 refine wW ?_
 refine wI hF (fun h1 hF=>?_) fun h1 hF=>?_
 ·exact wl hΦ hF
 refine wW ?_;refine wX zBO follows ?_;refine wC hF [.io,.sh] zai fun z2 hF=>?_
 refine wC hF [.io,.sh] zai fun z3 hF=>?_
 obtain⟨g,hF⟩:=Rz g hF;refine wK [0,4] ?_;exact wm hΦ hF
@[go_sem] def zGO:List DE:=[d2 0 [3] 3 3,d1 1 [3] 3,d2 2 [14] 3 14,d1 3 [3] 3,d2 4 [16] 3 16,d0 6 [0],d2 7 [3] 3 3,d3 5 [15,17],d3 8 [19,20],d3 9 [13,18,21],d0 10 [22]]
def zcV(a0c0:List Int)(a0c1:Int)(a0c2:Int)(a1:Group):Option (Int×(List Int×Int×Int)):=
 ((if decide (a1.P<3)=true then(
 some true)else(
 some (decide (a1.Q<1))):Option Bool).bind fun x3=>
 if x3=true then(
 some (1,(a0c0,a0c1,a0c2)))else(
 (ze0 a1.G a1.P).bind fun z6=>
 (zbL a0c0 a0c1 a0c2 a1).bind fun z7=>
 (zau a1 z6 z7.1).bind fun z8=>
 some (z8,(z7.2.1,z7.2.2.1,z7.2.2.2))))
theorem zkb:∀{a0c0}{a0c1}{a0c2}{a1}{r},zcV a0c0 a0c1 a0c2 a1=some r→PCalls Tryz.prog 93 [(.io,vB a0c0 a0c1 a0c2),(.sh,vE a1)] (Eo (.int .i64 r.1) [vB r.2.1 r.2.2.1 r.2.2.2,.junk]):=by
 intro a0c0 a0c1 a0c2 a1 r hr;apply pF 23 [0] [] [] [.tmp 4] hr zL4 Tryz.func93;intro Φ hΦ hF g;unfold zcV at hF;refine wW ?_;refine wJ hF (fun x3=>[(0,.v (vB a0c0 a0c1 a0c2)),(3,.bl [.int .i64 a1.P,.int .i64 a1.Q,.int .i64 a1.G]),(12,.v (.bool x3))]) (fun x3 hF=>?_) fun _ hj1 hF=>?_
 ·refine wI hF (fun h5 hF=>?_) fun h5 hF=>?_
  ·exact wl hΦ hF
  refine wW ?_;refine wX zGO follows ?_;refine wC hF [.sh,.sh] zlq fun z6 hF=>?_
  refine wC hF [.io,.sh] ze3 fun z7 hF=>?_
  refine wC hF [.sh,.sh,.sh] zbj fun z8 hF=>?_
  refine wK [0,4] ?_;exact wm hΦ hF
 refine wG hF (fun h4 hF=>?_) fun h4 hF=>?_
 ·exact wV h4 (hj1 _) (zaa hF)
 exact wV h4 (hj1 _) (zaa hF)
def za8(a0c0:List Int)(a0c1:Int)(a0c2:Int)(a1:Group):Option (Int×(List Int×Int×Int)):=
 (zbk a0c0 a0c1 a0c2 20).bind fun z1=>
 if z1.1=true then(
 (zal z1.2.1 z1.2.2.1 z1.2.2.2 [0,1,i64.wrap (a1.P-1),a1.P,(-1),5]).bind fun z3=>
 some (z3.1,(z3.2.1,z3.2.2.1,z3.2.2.2)))else(
 (zcV z1.2.1 z1.2.2.1 z1.2.2.2 a1).bind fun z4=>
 some (z4.1,(z4.2.1,z4.2.2.1,z4.2.2.2)))
theorem zdg:∀{a0c0}{a0c1}{a0c2}{a1}{r},za8 a0c0 a0c1 a0c2 a1=some r→PCalls Tryz.prog 88 [(.io,vB a0c0 a0c1 a0c2),(.sh,vE a1)] (Eo (.int .i64 r.1) [vB r.2.1 r.2.2.1 r.2.2.2,.junk]):=by
 intro a0c0 a0c1 a0c2 a1 r hr;apply pF 18 [0] [] [] [.tmp 4] hr zLa Tryz.func88;intro Φ hΦ hF g;unfold za8 at hF;refine wW ?_;refine wC hF [.io,.sh] zcY fun z1 hF=>?_
 refine wW ?_;refine wI hF (fun h2 hF=>?_) fun h2 hF=>?_
 ·refine wC hF [.io,.mv] zas fun z3 hF=>?_
  refine wK [0,4] ?_;exact wm hΦ hF
 refine wW ?_;refine wC hF [.io,.sh] zkb fun z4 hF=>?_
 exact wl hΦ hF
def zds(a0c0:List Int)(a0c1:Int)(a0c2:Int)(a1:Group)(a2:Int):Option (List Int×(List Int×Int×Int)):=
 ((zaH (σ:=(List Int×Int×Int)×Int×List Int) (fun s11=>
 if decide (0<s11.2.1)=true then(
 (zbL s11.1.1 s11.1.2.1 s11.1.2.2 a1).bind fun z17=>
 gd ((s11.2.2.length+1)*8≤140737488355328∧s11.2.2.length+1≤4611686018427387904)<|
 some (.go ((z17.2.1,z17.2.2.1,z17.2.2.2),i64.wrap (s11.2.1-1),s11.2.2++[z17.1])))else(
 some (.out ((s11.1.1,s11.1.2.1,s11.1.2.2),s11.2.2)))) ((a0c0,a0c1,a0c2),a2,[]):Option (((List Int×Int×Int)×List Int))).bind fun x3=>
 some (x3.2,(x3.1.1,x3.1.2.1,x3.1.2.2)))
theorem zkY:∀{a0c0}{a0c1}{a0c2}{a1}{a2}{r},zds a0c0 a0c1 a0c2 a1 a2=some r→PCalls Tryz.prog 96 [(.io,vB a0c0 a0c1 a0c2),(.sh,vE a1),(.sh,.int .i64 a2)] (Eo (vD r.1) [vB r.2.1 r.2.2.1 r.2.2.2,.junk,.junk]):=by
 intro a0c0 a0c1 a0c2 a1 a2 r hr;apply pF 19 [0] [] [] [.tmp 6] hr zJH Tryz.func96;intro Φ hΦ hF g;unfold zds at hF
 iterate 2 refine wW ?_
 refine wJ hF (fun x3=>[(0,.v (vB x3.1.1 x3.1.2.1 x3.1.2.2)),(7,.v (vD x3.2))]) (fun x3 hF=>?_) fun _ hj1 hF=>?_
 ·exact wl hΦ hF
 refine wB ?_;obtain⟨b18,hb19,hψ15⟩:=hF;refine pL hb19 (fun s11=>[(0,.v (vB s11.1.1 s11.1.2.1 s11.1.2.2)),(2,.v (.int .i64 s11.2.1)),(4,.bl [.int .i64 a1.P,.int .i64 a1.Q,.int .i64 a1.G]),(7,.v (vD s11.2.2))]) fun s11 _ _ ho13 hg14 hF=>?_
 refine wW ?_;refine wI hF (fun h16 hF=>?_) fun h16 hF=>?_
 ·refine wW ?_;refine wB ?_;refine wC hF [.io,.sh] ze3 fun z17 hF=>?_
  obtain⟨g,hF⟩:=Rg g hF;refine wK [0,2,4,7] ?_;exact wT (hg14 _) (zaa hF)
 cases ho13 _ (zaa hF);exact wT (hj1 _) hψ15
@[go_sem] def zBR:List DE:=[d0 0 [7],d0 1 [0],d0 2 [2],d0 4 [0],d1 5 [4] 4,d2 6 [34] 4 34,d0 7 [35],d3 3 [30,31],⟨8,[33,36],[],none,true,true,true⟩,d0 9 [29,32],d0 10 [38,37]]
def zcC(a0c0:List Int)(a0c1:Int)(a0c2:Int)(a1:Group)(a2:Int):Option (List Int×(List Int×Int×Int)):=
 (zds a0c0 a0c1 a0c2 a1 a2).bind fun z1=>
 (zag z1.2.1 z1.2.2.1 z1.2.2.2 30).bind fun z2=>
 ((if(z2.1==0)=true then(
 gd ((z1.1.length+1)*8≤140737488355328∧z1.1.length+1≤4611686018427387904)<|
 some (.inr (z1.1++[0],(z2.2.1,z2.2.2.1,z2.2.2.2))))else(
 if(z2.1==1)=true then(
 if decide (0<a2)=true then(
 gd (1≤z1.1.length∧z1.1.length≤z1.1.length)<|
 some (.inr ((z1.1.take z1.1.length).drop 1,(z2.2.1,z2.2.2.1,z2.2.2.2))))else(
 some (.inl ((z2.2.1,z2.2.2.1,z2.2.2.2),z1.1))))else(
 if(z2.1==2)=true then(
 if decide (0<a2)=true then(
 (zag z2.2.1 z2.2.2.1 z2.2.2.2 a2).bind fun z11=>
 (zal z11.2.1 z11.2.2.1 z11.2.2.2 [(-1),a1.Q]).bind fun z12=>
 (ix z1.1 z11.1).bind fun x13=>
 some (.inl ((z12.2.1,z12.2.2.1,z12.2.2.2),z1.1.set z11.1.toNat z12.1)))else(
 some (.inl ((z2.2.1,z2.2.2.1,z2.2.2.2),z1.1))))else(
 some (.inl ((z2.2.1,z2.2.2.1,z2.2.2.2),z1.1))))):Option (((List Int×Int×Int)×List Int) ⊕ (List Int×(List Int×Int×Int)))).bind (Sum.elim (fun x5=>
 some (x5.2,(x5.1.1,x5.1.2.1,x5.1.2.2))) some))
theorem zjO:∀{a0c0}{a0c1}{a0c2}{a1}{a2}{r},zcC a0c0 a0c1 a0c2 a1 a2=some r→PCalls Tryz.prog 98 [(.io,vB a0c0 a0c1 a0c2),(.sh,vE a1),(.sh,.int .i64 a2)] (Eo (vC r.1) [vB r.2.1 r.2.2.1 r.2.2.2,.junk,.junk]):=by
 intro a0c0 a0c1 a0c2 a1 a2 r hr;apply pF 40 [0] [6] [] [.tmp 6] hr zKh Tryz.func98;intro Φ hΦ hF g;unfold zcC at hF;refine wW ?_;refine wC hF [.io,.sh,.sh] zkY fun z1 hF=>?_
 refine wW ?_;refine wC hF [.io,.sh] zai fun z2 hF=>?_
 refine wW ?_;refine wS hF (fun x5=>[(0,.v (vB x5.1.1 x5.1.2.1 x5.1.2.2)),(7,.v (vD x5.2))]) (fun x5 hF=>?_) fun _ hj3 hr4 hF=>?_
 ·refine wK [0,6] ?_;exact wm hΦ hF
 refine wB ?_;refine wK [0,2,4,7,13,14] ?_;refine wI hF (fun h6 hF=>?_) fun h6 hF=>?_
 ·obtain⟨g,hF⟩:=Rg g hF;cases hΦ _ (hr4 _ (zaa hF));refine wW ?_;try simp[go_sem,g]
 refine wW ?_;refine wI hF (fun h7 hF=>?_) fun h7 hF=>?_
 ·refine wW ?_;refine wI hF (fun h8 hF=>?_) fun h8 hF=>?_
  ·obtain⟨g,hF⟩:=Rg g hF;cases hΦ _ (hr4 _ (zaa hF));refine wW ?_;try simp[go_sem,g]
  exact wT (hj3 _) (zaa hF)
 refine wW ?_;refine wI hF (fun h9 hF=>?_) fun h9 hF=>?_
 ·refine wW ?_;refine wI hF (fun h10 hF=>?_) fun h10 hF=>?_
  ·refine wX zBR follows ?_;refine wC hF [.io,.sh] zai fun z11 hF=>?_
   refine wC hF [.io,.mv] zas fun z12 hF=>?_
   obtain⟨x13,g,hF⟩:=Rx g hF;exact wT (hj3 _) (zaa hF)
  exact wT (hj3 _) (zaa hF)
 exact wT (hj3 _) (zaa hF)
@[go_sem] def zCN:List DE:=[d2 0 [8] 8 8,d0 1 [0],d2 2 [8] 8 8,d2 4 [9] 9 9,d0 5 [13],d0 6 [11],d0 7 [0],d2 8 [8] 8 8,d0 9 [12],d3 3 [48,49],d3 10 [54,55,56],d2 11 [2,47] 2 2,d0 12 [50],d2 13 [4,51] 4 4,d0 14 [52],d0 15 [53],d0 16 [57]]
def zcg(a0c0:List Int)(a0c1:Int)(a0c2:Int):Option (Group×Int×Contest×Int×List Int×List Int×(List Int×Int×Int)):=
 (zcD a0c0 a0c1 a0c2).bind fun z1=>
 (zbk z1.2.1 z1.2.2.1 z1.2.2.2 2).bind fun z2=>
 ((if z2.1=true then(
 some (1000000007,500000003,4))else(
 some (z1.1.P,z1.1.Q,z1.1.G)):Option ((Int×Int×Int))).bind fun x5=>
 (zcp z2.2.1 z2.2.2.1 z2.2.2.2).bind fun z7=>
 ((zaH (σ:=(List Int×Int×Int)×Int×Int×Int×Int×Int×Int) (fun s23=>
 ((if decide (s23.2.2.2.2.2.2<6)=true then(
 (zb4 (Group.mk x5.1 x5.2.1 x5.2.2) (Contest.mk s23.2.1 s23.2.2.1 s23.2.2.2.1 s23.2.2.2.2.1 s23.2.2.2.2.2.1)).bind fun z32=>
 some (!z32))else(
 some false):Option Bool).bind fun x30=>
 if x30=true then(
 (zci s23.1.1 s23.1.2.1 s23.1.2.2).bind fun z34=>
 some (.go ((z34.2.1,z34.2.2.1,z34.2.2.2),z34.1.Kind,z34.1.Options,z34.1.Least,z34.1.Most,z34.1.Points,i64.wrap (s23.2.2.2.2.2.2+1))))else(
 some (.out ((s23.1.1,s23.1.2.1,s23.1.2.2),s23.2.1,s23.2.2.1,s23.2.2.2.1,s23.2.2.2.2.1,s23.2.2.2.2.2.1))))) ((z7.2.1,z7.2.2.1,z7.2.2.2),z7.1.Kind,z7.1.Options,z7.1.Least,z7.1.Most,z7.1.Points,0):Option (((List Int×Int×Int)×Int×Int×Int×Int×Int))).bind fun x10=>
 (zcP x10.1.1 x10.1.2.1 x10.1.2.2 (Contest.mk x10.2.1 x10.2.2.1 x10.2.2.2.1 x10.2.2.2.2.1 x10.2.2.2.2.2)).bind fun z37=>
 (zeh (Contest.mk x10.2.1 x10.2.2.1 x10.2.2.2.1 x10.2.2.2.2.1 x10.2.2.2.2.2)).bind fun z38=>
 ((if z38=true then(
 (zf4 (Contest.mk x10.2.1 x10.2.2.1 x10.2.2.2.1 x10.2.2.2.2.1 x10.2.2.2.2.2)).bind fun z43=>
 some z43)else(
 some 1):Option Int).bind fun x41=>
 (zag z37.2.1 z37.2.2.1 z37.2.2.2 100).bind fun z44=>
 (zbk z44.2.1 z44.2.2.1 z44.2.2.2 20).bind fun z45=>
 ((if z45.1=true then(
 (zal z45.2.1 z45.2.2.1 z45.2.2.2 [(-1),999999,1000000]).bind fun z50=>
 some ((z50.2.1,z50.2.2.1,z50.2.2.2),z50.1))else(
 some ((z45.2.1,z45.2.2.1,z45.2.2.2),z44.1)):Option (((List Int×Int×Int)×Int))).bind fun x48=>
 (za8 x48.1.1 x48.1.2.1 x48.1.2.2 (Group.mk x5.1 x5.2.1 x5.2.2)).bind fun z51=>
 (zcC z51.2.1 z51.2.2.1 z51.2.2.2 (Group.mk x5.1 x5.2.1 x5.2.2) x41).bind fun z52=>
 some ((Group.mk x5.1 x5.2.1 x5.2.2),z51.1,(Contest.mk x10.2.1 x10.2.2.1 x10.2.2.2.1 x10.2.2.2.2.1 x10.2.2.2.2.2),x48.2,z37.1,z52.1,(z52.2.1,z52.2.2.1,z52.2.2.2))))))
theorem zhe:∀{a0c0}{a0c1}{a0c2}{r},zcg a0c0 a0c1 a0c2=some r→PCalls Tryz.prog 42 [(.io,vB a0c0 a0c1 a0c2)] (Eo (.tup [vE r.1,.int .i64 r.2.1,vF r.2.2.1,.int .i64 r.2.2.2.1,vC r.2.2.2.2.1,vC r.2.2.2.2.2.1]) [vB r.2.2.2.2.2.2.1 r.2.2.2.2.2.2.2.1 r.2.2.2.2.2.2.2.2]):=by
 intro a0c0 a0c1 a0c2 r hr;apply pF 58 [0] [] [] [.cell 2 25,.tmp 3,.cell 4 27,.tmp 5,.tmp 6,.tmp 7] hr zLJ Tryz.func42;intro Φ hΦ hF g;unfold zcg at hF;refine wW ?_;refine wC hF [.io] zjN fun z1 hF=>?_
 refine wK [0,2,4,8] ?_;refine wC hF [.io,.sh] zcY fun z2 hF=>?_
 refine wW ?_;refine wJ hF (fun x5=>[(0,.v (vB z2.2.1 z2.2.2.1 z2.2.2.2)),(2,.bl [.int .i64 0,.int .i64 0,.int .i64 0]),(4,.bl [.int .i64 0,.int .i64 0,.int .i64 0,.int .i64 0,.int .i64 0]),(8,.bl [.int .i64 x5.1,.int .i64 x5.2.1,.int .i64 x5.2.2])]) (fun x5 hF=>?_) fun _ hj3 hF=>?_
 ·refine wC hF [.io] zi4 fun z7 hF=>?_
  iterate 2 refine wW ?_
  refine wJ hF (fun x10=>[(0,.v (vB x10.1.1 x10.1.2.1 x10.1.2.2)),(2,.bl [.int .i64 0,.int .i64 0,.int .i64 0]),(4,.bl [.int .i64 0,.int .i64 0,.int .i64 0,.int .i64 0,.int .i64 0]),(8,.bl [.int .i64 x5.1,.int .i64 x5.2.1,.int .i64 x5.2.2]),(9,.bl [.int .i64 x10.2.1,.int .i64 x10.2.2.1,.int .i64 x10.2.2.2.1,.int .i64 x10.2.2.2.2.1,.int .i64 x10.2.2.2.2.2])]) (fun x10 hF=>?_) fun _ hj8 hF=>?_
  ·refine wC hF [.io,.sh] zj5 fun z37 hF=>?_
   refine wK [0,2,4,8,9,11] ?_;refine wW ?_;refine wC hF [.sh] zix fun z38 hF=>?_
   refine wW ?_;refine wJ hF (fun x41=>[(0,.v (vB z37.2.1 z37.2.2.1 z37.2.2.2)),(2,.bl [.int .i64 0,.int .i64 0,.int .i64 0]),(4,.bl [.int .i64 0,.int .i64 0,.int .i64 0,.int .i64 0,.int .i64 0]),(8,.bl [.int .i64 x5.1,.int .i64 x5.2.1,.int .i64 x5.2.2]),(9,.bl [.int .i64 x10.2.1,.int .i64 x10.2.2.1,.int .i64 x10.2.2.2.1,.int .i64 x10.2.2.2.2.1,.int .i64 x10.2.2.2.2.2]),(11,.v (vC z37.1)),(12,.v (.int .i64 x41))]) (fun x41 hF=>?_) fun _ hj39 hF=>?_
   ·refine wC hF [.io,.sh] zai fun z44 hF=>?_
    refine wW ?_;refine wC hF [.io,.sh] zcY fun z45 hF=>?_
    refine wW ?_;refine wJ hF (fun x48=>[(0,.v (vB x48.1.1 x48.1.2.1 x48.1.2.2)),(2,.bl [.int .i64 0,.int .i64 0,.int .i64 0]),(4,.bl [.int .i64 0,.int .i64 0,.int .i64 0,.int .i64 0,.int .i64 0]),(8,.bl [.int .i64 x5.1,.int .i64 x5.2.1,.int .i64 x5.2.2]),(9,.bl [.int .i64 x10.2.1,.int .i64 x10.2.2.1,.int .i64 x10.2.2.2.1,.int .i64 x10.2.2.2.2.1,.int .i64 x10.2.2.2.2.2]),(11,.v (vC z37.1)),(12,.v (.int .i64 x41)),(13,.v (.int .i64 x48.2))]) (fun x48 hF=>?_) fun _ hj46 hF=>?_
    ·refine wX zCN follows ?_;refine wC hF [.io,.sh] zdg fun z51 hF=>?_
     refine wC hF [.io,.sh,.sh] zjO fun z52 hF=>?_
     refine wK [0,2,3,4,5,6,7] ?_;exact wm hΦ hF
    refine wI hF (fun h49 hF=>?_) fun h49 hF=>?_
    ·refine wC hF [.io,.mv] zas fun z50 hF=>?_
     exact wT (hj46 _) (zaa hF)
    exact wT (hj46 _) (zaa hF)
   refine wI hF (fun h42 hF=>?_) fun h42 hF=>?_
   ·refine wC hF [.sh] zmG fun z43 hF=>?_
    exact wT (hj39 _) (zaa hF)
   exact wT (hj39 _) (zaa hF)
  refine wB ?_;obtain⟨b35,hb36,hψ27⟩:=hF;refine pL hb36 (fun s23=>[(0,.v (vB s23.1.1 s23.1.2.1 s23.1.2.2)),(2,.bl [.int .i64 0,.int .i64 0,.int .i64 0]),(4,.bl [.int .i64 0,.int .i64 0,.int .i64 0,.int .i64 0,.int .i64 0]),(8,.bl [.int .i64 x5.1,.int .i64 x5.2.1,.int .i64 x5.2.2]),(9,.bl [.int .i64 s23.2.1,.int .i64 s23.2.2.1,.int .i64 s23.2.2.2.1,.int .i64 s23.2.2.2.2.1,.int .i64 s23.2.2.2.2.2.1]),(10,.v (.int .i64 s23.2.2.2.2.2.2))]) fun s23 _ _ ho25 hg26 hF=>?_
  refine wJ hF (fun x30=>[(0,.v (vB s23.1.1 s23.1.2.1 s23.1.2.2)),(2,.bl [.int .i64 0,.int .i64 0,.int .i64 0]),(4,.bl [.int .i64 0,.int .i64 0,.int .i64 0,.int .i64 0,.int .i64 0]),(8,.bl [.int .i64 x5.1,.int .i64 x5.2.1,.int .i64 x5.2.2]),(9,.bl [.int .i64 s23.2.1,.int .i64 s23.2.2.1,.int .i64 s23.2.2.2.1,.int .i64 s23.2.2.2.2.1,.int .i64 s23.2.2.2.2.2.1]),(10,.v (.int .i64 s23.2.2.2.2.2.2)),(28,.v (.bool x30))]) (fun x30 hF=>?_) fun _ hj28 hF=>?_
  ·refine wI hF (fun h33 hF=>?_) fun h33 hF=>?_
   ·refine wW ?_;refine wB ?_;refine wC hF [.io] zha fun z34 hF=>?_
    refine wK [0,2,4,8,9,10] ?_;exact wT (hg26 _) (zaa hF)
   cases ho25 _ (zaa hF);exact wT (hj8 _) hψ27
  refine wG hF (fun h31 hF=>?_) fun h31 hF=>?_
  ·try simp[go_sem,g,h31]
   refine wC hF [.sh,.sh] zkB fun z32 hF=>?_
   exact wV h31 (hj28 _) (zaa hF)
  exact wV h31 (hj28 _) (zaa hF)
 refine wI hF (fun h6 hF=>?_) fun h6 hF=>?_
 ·exact wT (hj3 _) (zaa hF)
 exact wT (hj3 _) (zaa hF)
def zeJ(a0:List Int):Option (Group×Int×Contest×Int×List Int×List Int):=
 (zcg a0 0 0).bind fun z1=>
 some (z1.1,z1.2.1,z1.2.2.1,z1.2.2.2.1,z1.2.2.2.2.1,z1.2.2.2.2.2.1)
theorem zmK:∀{a0}{r},zeJ a0=some r→PCalls Tryz.prog 14 [(.sh,vA a0)] (Eo (.tup [vE r.1,.int .i64 r.2.1,vF r.2.2.1,.int .i64 r.2.2.2.1,vC r.2.2.2.2.1,vC r.2.2.2.2.2]) [.junk]):=by
 intro a0 r hr;apply pF 20 [] [] [11] [.cell 2 25,.tmp 3,.cell 4 27,.tmp 5,.tmp 6,.tmp 7] hr zL0 Tryz.func14;intro Φ hΦ hF g;unfold zeJ at hF;refine wW ?_;refine wK [2,4,8] ?_;refine wC hF [.io] zhe fun z1 hF=>?_
 refine wK [2,3,4,5,6,7] ?_;exact wm hΦ hF
def zgb(a0:List Int):Option Int:=
 ((zar (σ:=Int) (fun i5 s4=>
 (ix a0 i5).bind fun x11=>
 some (.go ((i64.wrap ((i64.wrap (31*s4))+(i64.wrap x11))).tmod 1000003))) (fun s4=>s4) (a0.length) 0 0:Option Int).bind fun x3=>
 some x3)
theorem zpJ:∀{a0}{r},zgb a0=some r→PCalls Tryz.prog 15 [(.sh,vA a0)] (Eo (.int .i64 r) [.junk]):=by
 intro a0 r hr;apply pF 20 [] [] [] [.tmp 2] hr zLb Tryz.func15;intro Φ hΦ hF g;unfold zgb at hF
 iterate 3 (try simp[go_sem,g];try intros;refine zap ?_)
 refine wJ hF (fun x3=>[(3,.v (.int .i64 x3))]) (fun x3 hF=>?_) fun _ hj1 hF=>?_
 ·exact wl hΦ hF
 refine wB ?_;obtain⟨b12,hb13,hψ8⟩:=hF;refine pR hb13 (fun i5 s4=>[(3,.v (.int .i64 s4)),(6,.v (vA a0)),(7,.v (.int .i64 (a0.length:Int))),(8,.v (.int .i64 i5))]) (fun s4 _ hN14=>?_) fun i5 s4 _ _ hi9 hi10 ho6 hg7 hF=>?_
 ·exact wn hN14 (hj1 _) hψ8
 refine wW ?_;refine wu hi9 hi10 ?_;refine wW ?_;refine wB ?_;obtain⟨x11,g,hF⟩:=Rx g hF;have g:=Ld g 1000003;refine wW ?_;refine wK [3,6,7,8] ?_;exact wi hi9 hi10 (hg7 _) (zaa hF)
def zes(a0:List Int)(a1:Int)(a2:Int):Option Bool:=
 ((zar (σ:=Unit) (fun i5 s4=>
 (ix a0 i5).bind fun x11=>
 (zbc x11 a1 a2).bind fun z12=>
 if(!z12)=true then(
 some (.out (.inr false)))else(
 some (.go ()))) (fun s4=>.inl ()) (a0.length) 0 ():Option (Unit ⊕ Bool)).bind (Sum.elim (fun x3=>
 some true) some))
theorem ziM:∀{a0}{a1}{a2}{r},zes a0 a1 a2=some r→PCalls Tryz.prog 104 [(.sh,vC a0),(.sh,.int .i64 a1),(.sh,.int .i64 a2)] (Eo (.bool r) [.junk,.junk,.junk]):=by
 intro a0 a1 a2 r hr;apply pF 21 [] [] [] [.tmp 6] hr zGs Tryz.func104;intro Φ hΦ hF g;unfold zes at hF
 iterate 2 (try simp[go_sem,g];try intros;refine zap ?_)
 refine wS hF (fun x3=>[]) (fun x3 hF=>?_) fun _ hj1 hr2 hF=>?_
 ·exact wl hΦ hF
 refine wB ?_;obtain⟨b14,hb15,hψ8⟩:=hF;refine pR hb15 (fun i5 s4=>[(1,.v (.int .i64 a1)),(2,.v (.int .i64 a2)),(9,.v (vC a0)),(10,.v (.int .i64 (a0.length:Int))),(11,.v (.int .i64 i5))]) (fun s4 _ hN16=>?_) fun i5 s4 _ _ hi9 hi10 ho6 hg7 hF=>?_
 ·exact wn hN16 (hj1 _) hψ8
 refine wW ?_;refine wu hi9 hi10 ?_;refine wW ?_;refine wB ?_;obtain⟨x11,g,hF⟩:=Rx g hF;refine wW ?_;refine wC hF [.sh,.sh,.sh] zbZ fun z12 hF=>?_
 refine wK [1,2,9,10,11,19] ?_;refine wI hF (fun h13 hF=>?_) fun h13 hF=>?_
 ·cases ho6 _ (zaa hF);cases hΦ _ (hr2 _ hψ8);refine wW ?_;try simp[go_sem,g]
 refine wW ?_;exact wi hi9 hi10 (hg7 _) (zaa hF)
def zer(a0:Group)(a1:List Int):Option Bool:=
 (zes a1 0 (i64.wrap (a0.Q-1))).bind fun z1=>
 some z1
theorem zhg:∀{a0}{a1}{r},zer a0 a1=some r→PCalls Tryz.prog 44 [(.sh,vE a0),(.sh,vC a1)] (Eo (.bool r) [.junk,.junk]):=by
 intro a0 a1 r hr;apply pF 10 [] [] [] [.tmp 4] hr zKW Tryz.func44;intro Φ hΦ hF g;unfold zer at hF;refine wW ?_;refine wC hF [.sh,.sh,.sh] ziM fun z1 hF=>?_
 exact wl hΦ hF
def zhh(a0:Group)(a1:Int):Option (Int×Bool):=
 (((zfl a0).bind fun z4=>
 if(!z4)=true then(
 some true)else(
 (zer a0 [a1]).bind fun z6=>
 some (!z6)):Option Bool).bind fun x3=>
 if x3=true then(
 some (0,false))else(
 (zau a0 a0.G a1).bind fun z8=>
 some (z8,true)))
theorem zs2:∀{a0}{a1}{r},zhh a0 a1=some r→PCalls Tryz.prog 16 [(.sh,vE a0),(.sh,.int .i64 a1)] (Eo (.tup [.int .i64 r.1,.bool r.2]) [.junk,.junk]):=by
 intro a0 a1 r hr;apply pF 21 [] [] [] [.tmp 4,.tmp 5] hr zIL Tryz.func16;intro Φ hΦ hF g;unfold zhh at hF;refine wW ?_;refine wJ hF (fun x3=>[(1,.v (.int .i64 a1)),(2,.bl [.int .i64 a0.P,.int .i64 a0.Q,.int .i64 a0.G]),(15,.v (.bool x3))]) (fun x3 hF=>?_) fun _ hj1 hF=>?_
 ·refine wI hF (fun h7 hF=>?_) fun h7 hF=>?_
  ·exact wl hΦ hF
  refine wW ?_;refine wC hF [.sh,.sh,.sh] zbj fun z8 hF=>?_
  refine wK [4,5] ?_;exact wm hΦ hF
 refine wC hF [.sh] zjI fun z4 hF=>?_
 refine wG hF (fun h5 hF=>?_) fun h5 hF=>?_
 ·exact wV h5 (hj1 _) (zaa hF)
 try simp[go_sem,g,h5]
 refine wC hF [.sh,.sh] zhg fun z6 hF=>?_
 exact wV h5 (hj1 _) (zaa hF)
def zaD(a0:Int)(a1:Int)(a2:Int):Option Bool:=
 ((if decide (a1≤a0)=true then(
 some (decide (a0≤a2)))else(
 some false):Option Bool).bind fun x3=>
 some x3)
theorem za2:∀{a0}{a1}{a2}{r},zaD a0 a1 a2=some r→PCalls Tryz.prog 100 [(.sh,.int .i64 a0),(.sh,.int .i64 a1),(.sh,.int .i64 a2)] (Eo (.bool r) [.junk,.junk,.junk]):=by
 intro a0 a1 a2 r hr;apply pF 15 [] [] [] [.tmp 6] hr zGh Tryz.func100;intro Φ hΦ hF g;unfold zaD at hF;refine wW ?_;refine wJ hF (fun x3=>[(6,.v (.bool x3))]) (fun x3 hF=>?_) fun _ hj1 hF=>?_
 ·exact wm hΦ hF
 refine wG hF (fun h4 hF=>?_) fun h4 hF=>?_
 ·exact wV h4 (hj1 _) (zaa hF)
 exact wV h4 (hj1 _) (zaa hF)
def zfH(a0:Int):Option Bool:=
 (zaD a0 2 2000000000).bind fun z1=>
 some z1
theorem zoG:∀{a0}{r},zfH a0=some r→PCalls Tryz.prog 220 [(.sh,.int .i64 a0)] (Eo (.bool r) [.junk]):=by
 intro a0 r hr;apply pF 5 [] [] [] [.tmp 2] hr zES Tryz.func220;intro Φ hΦ hF g;unfold zfH at hF;refine wW ?_;refine wC hF [.sh,.sh,.sh] za2 fun z1 hF=>?_
 exact wl hΦ hF
def zfD(a0:Int):Option Bool:=
 (((zfH a0).bind fun z4=>
 if(!z4)=true then(
 some true)else(
 if((a0.tmod 2)==0)=true then(
 some (a0 !=2))else(
 some false)):Option Bool).bind fun x3=>
 if x3=true then(
 some false)else(
 ((zaH (σ:=Int) (fun s11=>
 if decide ((i64.wrap (s11*s11))≤a0)=true then(
 gd (s11≠0)<|
 if((a0.tmod s11)==0)=true then(
 some (.out (.inr false)))else(
 some (.go (i64.wrap (s11+2)))))else(
 some (.out (.inl ())))) 3:Option (Unit ⊕ Bool)).bind (Sum.elim (fun x10=>
 some true) some))))
theorem zlH:∀{a0}{r},zfD a0=some r→PCalls Tryz.prog 185 [(.sh,.int .i64 a0)] (Eo (.bool r) [.junk]):=by
 intro a0 r hr;apply pF 27 [] [] [] [.tmp 2] hr zFo Tryz.func185;intro Φ hΦ hF g;unfold zfD at hF;refine wW ?_;refine wJ hF (fun x3=>[(0,.v (.int .i64 a0)),(15,.v (.bool x3))]) (fun x3 hF=>?_) fun _ hj1 hF=>?_
 ·refine wI hF (fun h7 hF=>?_) fun h7 hF=>?_
  ·exact wl hΦ hF
  iterate 2 refine wW ?_
  refine wS hF (fun x10=>[]) (fun x10 hF=>?_) fun _ hj8 hr9 hF=>?_
  ·exact wl hΦ hF
  refine wB ?_;obtain⟨b18,hb19,hψ15⟩:=hF;refine pL hb19 (fun s11=>[(0,.v (.int .i64 a0)),(3,.v (.int .i64 s11))]) fun s11 _ _ ho13 hg14 hF=>?_
  refine wW ?_;refine wI hF (fun h16 hF=>?_) fun h16 hF=>?_
  ·refine wW ?_;refine wB ?_;obtain⟨g,hF⟩:=Rz g hF;refine wK [0,3,26] ?_;refine wI hF (fun h17 hF=>?_) fun h17 hF=>?_
   ·cases ho13 _ (zaa hF);cases hΦ _ (hr9 _ hψ15);refine wW ?_;try simp[go_sem,g]
   refine wW ?_;exact wT (hg14 _) (zaa hF)
  cases ho13 _ (zaa hF);exact wT (hj8 _) hψ15
 refine wC hF [.sh] zoG fun z4 hF=>?_
 refine wG hF (fun h5 hF=>?_) fun h5 hF=>?_
 ·exact wV h5 (hj1 _) (zaa hF)
 have g:=Ld g 2;try simp[go_sem,g,h5]
 refine wG hF (fun h6 hF=>?_) fun h6 hF=>?_
 ·try simp[go_sem,g,h6,h5]
  exact wT (hj1 _) (zaa hF)
 try simp[go_sem,g,h6,h5]
 exact wT (hj1 _) (zaa hF)
def ze8(a0:Int)(a1:Int)(a2:Int):Option Int:=
 gd (a2≠0)<|
 ((zaH (σ:=Int×Int×Int) (fun s4=>
 if decide (0<s4.2.1)=true then(
 ((if((i64.wrap ((BitVec.ofInt i64.bits s4.2.1&&&BitVec.ofInt i64.bits 1).toNat))==1)=true then(
 gd (a2≠0)<|
 some ((i64.wrap (s4.2.2*s4.1)).tmod a2))else(
 some s4.2.2):Option Int).bind fun x12=>
 gd (a2≠0)<|
 some (.go ((i64.wrap (s4.1*s4.1)).tmod a2,s4.2.1.fdiv 2,x12))))else(
 some (.out s4.2.2))) (a0,a1,(1:Int).tmod a2):Option Int).bind fun x3=>
 some x3)
theorem zkK:∀{a0}{a1}{a2}{r},ze8 a0 a1 a2=some r→PCalls Tryz.prog 117 [(.sh,.int .i64 a0),(.sh,.int .i64 a1),(.sh,.int .i64 a2)] (Eo (.int .i64 r) [.junk,.junk,.junk]):=by
 intro a0 a1 a2 r hr;apply pF 28 [] [] [] [.tmp 6] hr zE9 Tryz.func117;intro Φ hΦ hF g;unfold ze8 at hF;obtain⟨g,hF⟩:=Rz g hF
 iterate 2 refine wW ?_
 refine wJ hF (fun x3=>[(7,.v (.int .i64 x3))]) (fun x3 hF=>?_) fun _ hj1 hF=>?_
 ·exact wl hΦ hF
 refine wB ?_;obtain⟨b14,hb15,hψ8⟩:=hF;refine pL hb15 (fun s4=>[(0,.v (.int .i64 s4.1)),(1,.v (.int .i64 s4.2.1)),(2,.v (.int .i64 a2)),(7,.v (.int .i64 s4.2.2))]) fun s4 _ _ ho6 hg7 hF=>?_
 refine wW ?_;refine wI hF (fun h9 hF=>?_) fun h9 hF=>?_
 ·refine wW ?_;refine wB ?_;refine wW ?_;refine wJ hF (fun x12=>[(0,.v (.int .i64 s4.1)),(1,.v (.int .i64 s4.2.1)),(2,.v (.int .i64 a2)),(7,.v (.int .i64 x12))]) (fun x12 hF=>?_) fun _ hj10 hF=>?_
  ·obtain⟨g,hF⟩:=Rz g hF;refine wK [0,1,2,7] ?_;have g:=Ls g 1;exact wT (hg7 _) (zaa hF)
  refine wI hF (fun h13 hF=>?_) fun h13 hF=>?_
  ·obtain⟨g,hF⟩:=Rz g hF;exact wT (hj10 _) (zaa hF)
  exact wT (hj10 _) (zaa hF)
 cases ho6 _ (zaa hF);exact wT (hj1 _) hψ8
def zcl(a0:Group):Option Bool:=
 (((zaD a0.P 3 2000000000).bind fun z4=>
 if z4=true then(
 (zaD a0.Q 2 (i64.wrap (a0.P-1))).bind fun z6=>
 if z6=true then(
 gd (a0.Q≠0)<|
 if(((i64.wrap (a0.P-1)).tmod a0.Q)==0)=true then(
 (zaD a0.G 2 (i64.wrap (a0.P-1))).bind fun z9=>
 if z9=true then(
 (zfD a0.P).bind fun z11=>
 if z11=true then(
 (zfD a0.Q).bind fun z13=>
 if z13=true then(
 (ze8 a0.G a0.Q a0.P).bind fun z15=>
 some (z15==1))else(
 some false))else(
 some false))else(
 some false))else(
 some false))else(
 some false))else(
 some false):Option Bool).bind fun x3=>
 some x3)
theorem zfS:∀{a0}{r},zcl a0=some r→PCalls Tryz.prog 114 [(.sh,vE a0)] (Eo (.bool r) [.junk]):=by
 intro a0 r hr;apply pF 51 [] [] [] [.tmp 2] hr zGS Tryz.func114;intro Φ hΦ hF g;unfold zcl at hF;refine wW ?_;refine wJ hF (fun x3=>[(2,.v (.bool x3))]) (fun x3 hF=>?_) fun _ hj1 hF=>?_
 ·exact wm hΦ hF
 refine wC hF [.sh,.sh,.sh] za2 fun z4 hF=>?_
 refine wG hF (fun h5 hF=>?_) fun h5 hF=>?_
 ·try simp[go_sem,g,h5]
  refine wC hF [.sh,.sh,.sh] za2 fun z6 hF=>?_
  try simp[go_sem,g,h5]
  refine wG hF (fun h7 hF=>?_) fun h7 hF=>?_
  ·obtain⟨g,hF⟩:=Rz g hF;try simp[go_sem,g,h7]
   refine wG hF (fun h8 hF=>?_) fun h8 hF=>?_
   ·try simp[go_sem,g,h8]
    refine wC hF [.sh,.sh,.sh] za2 fun z9 hF=>?_
    try simp[go_sem,g,h8]
    refine wG hF (fun h10 hF=>?_) fun h10 hF=>?_
    ·try simp[go_sem,g,h10]
     refine wC hF [.sh] zlH fun z11 hF=>?_
     try simp[go_sem,g,h10]
     refine wG hF (fun h12 hF=>?_) fun h12 hF=>?_
     ·try simp[go_sem,g,h12]
      refine wC hF [.sh] zlH fun z13 hF=>?_
      try simp[go_sem,g,h12]
      refine wG hF (fun h14 hF=>?_) fun h14 hF=>?_
      ·try simp[go_sem,g,h14]
       refine wC hF [.sh,.sh,.sh] zkK fun z15 hF=>?_
       exact wV h14 (hj1 _) (zaa hF)
      exact wV h14 (hj1 _) (zaa hF)
     exact wV h12 (hj1 _) (zaa hF)
    exact wV h10 (hj1 _) (zaa hF)
   exact wV h8 (hj1 _) (zaa hF)
  exact wV h7 (hj1 _) (zaa hF)
 exact wV h5 (hj1 _) (zaa hF)
def zc0(a0:Contest):Option Bool:=
 ((if decide (a0.Least<0)=true then(
 some true)else(
 some (decide (a0.Most<a0.Least))):Option Bool).bind fun x3=>
 if x3=true then(
 some false)else(
 ((if(a0.Kind==1)=true then(
 some (a0.Kind==1))else(
 some (a0.Kind==3)):Option Bool).bind fun x8=>
 if x8=true then(
 (((zaD a0.Options 1 8).bind fun z14=>
 if z14=true then(
 if decide (a0.Most≤a0.Options)=true then(
 some (a0.Points==0))else(
 some false))else(
 some false):Option Bool).bind fun x13=>
 some x13))else(
 if(a0.Kind==2)=true then(
 (((zaD a0.Options 1 8).bind fun z21=>
 if z21=true then(
 (zaD a0.Points 1 5).bind fun z23=>
 if z23=true then(
 some (decide (a0.Most≤(i64.wrap (a0.Options*a0.Points)))))else(
 some false))else(
 some false):Option Bool).bind fun x20=>
 some x20))else(
 if(a0.Kind==4)=true then(
 ((if(a0.Options==0)=true then(
 if decide (a0.Most≤5)=true then(
 some (a0.Points==0))else(
 some false))else(
 some false):Option Bool).bind fun x28=>
 some x28))else(
 some false))))))
theorem zlR:∀{a0}{r},zc0 a0=some r→PCalls Tryz.prog 115 [(.sh,vF a0)] (Eo (.bool r) [.junk]):=by
 intro a0 r hr;apply pF 68 [] [] [] [.tmp 2] hr zFK Tryz.func115;intro Φ hΦ hF g;unfold zc0 at hF;refine wW ?_;refine wJ hF (fun x3=>[(1,.bl [.int .i64 a0.Kind,.int .i64 a0.Options,.int .i64 a0.Least,.int .i64 a0.Most,.int .i64 a0.Points]),(12,.v (.bool x3))]) (fun x3 hF=>?_) fun _ hj1 hF=>?_
 ·refine wI hF (fun h5 hF=>?_) fun h5 hF=>?_
  ·exact wl hΦ hF
  iterate 2 refine wW ?_
  refine wB ?_;refine wW ?_;refine wJ hF (fun x8=>[(1,.bl [.int .i64 a0.Kind,.int .i64 a0.Options,.int .i64 a0.Least,.int .i64 a0.Most,.int .i64 a0.Points]),(14,.v (.int .i64 a0.Kind)),(15,.v (.bool x8))]) (fun x8 hF=>?_) fun _ hj6 hF=>?_
  ·refine wI hF (fun h10 hF=>?_) fun h10 hF=>?_
   ·refine wJ hF (fun x13=>[(2,.v (.bool x13))]) (fun x13 hF=>?_) fun _ hj11 hF=>?_
    ·exact wm hΦ hF
    refine wC hF [.sh,.sh,.sh] za2 fun z14 hF=>?_
    refine wG hF (fun h15 hF=>?_) fun h15 hF=>?_
    ·try simp[go_sem,g,h15]
     refine wG hF (fun h16 hF=>?_) fun h16 hF=>?_
     ·exact wV h16 (hj11 _) (zaa hF)
     exact wV h16 (hj11 _) (zaa hF)
    exact wV h15 (hj11 _) (zaa hF)
   refine wW ?_;refine wI hF (fun h17 hF=>?_) fun h17 hF=>?_
   ·refine wJ hF (fun x20=>[(2,.v (.bool x20))]) (fun x20 hF=>?_) fun _ hj18 hF=>?_
    ·exact wm hΦ hF
    refine wC hF [.sh,.sh,.sh] za2 fun z21 hF=>?_
    refine wG hF (fun h22 hF=>?_) fun h22 hF=>?_
    ·try simp[go_sem,g,h22]
     refine wC hF [.sh,.sh,.sh] za2 fun z23 hF=>?_
     try simp[go_sem,g,h22]
     refine wG hF (fun h24 hF=>?_) fun h24 hF=>?_
     ·exact wV h24 (hj18 _) (zaa hF)
     exact wV h24 (hj18 _) (zaa hF)
    exact wV h22 (hj18 _) (zaa hF)
   refine wK [1,53] ?_;refine wI hF (fun h25 hF=>?_) fun h25 hF=>?_
   ·refine wJ hF (fun x28=>[(2,.v (.bool x28))]) (fun x28 hF=>?_) fun _ hj26 hF=>?_
    ·exact wm hΦ hF
    refine wG hF (fun h29 hF=>?_) fun h29 hF=>?_
    ·try simp[go_sem,g,h29]
     refine wG hF (fun h30 hF=>?_) fun h30 hF=>?_
     ·exact wV h30 (hj26 _) (zaa hF)
     exact wV h30 (hj26 _) (zaa hF)
    exact wV h29 (hj26 _) (zaa hF)
   cases hΦ _ (zaa hF)
   iterate 2 refine wW ?_
   try simp[go_sem,g]
  refine wI hF (fun h9 hF=>?_) fun h9 hF=>?_
  ·exact wT (hj6 _) (zaa hF)
  exact wT (hj6 _) (zaa hF)
 refine wG hF (fun h4 hF=>?_) fun h4 hF=>?_
 ·exact wV h4 (hj1 _) (zaa hF)
 exact wV h4 (hj1 _) (zaa hF)
def zay(a0:Contest):Option Int:=
 if(a0.Kind==2)=true then(
 some (i64.wrap (a0.Points+1)))else(
 if(a0.Kind==3)=true then(
 some (i64.wrap (a0.Options+1)))else(
 if(a0.Kind==4)=true then(
 some 27)else(
 some 2)))
theorem zfU:∀{a0}{r},zay a0=some r→PCalls Tryz.prog 156 [(.sh,vF a0)] (Eo (.int .i64 r) [.junk]):=by
 intro a0 r hr;apply pF 17 [] [] [] [.tmp 2] hr zHf Tryz.func156;intro Φ hΦ hF g;unfold zay at hF
 iterate 2 refine wW ?_
 refine wB ?_;refine wW ?_;refine wI hF (fun h1 hF=>?_) fun h1 hF=>?_
 ·refine wK [2] ?_;exact wm hΦ hF
 refine wW ?_;refine wI hF (fun h2 hF=>?_) fun h2 hF=>?_
 ·refine wK [2] ?_;exact wm hΦ hF
 refine wK [15] ?_;refine wI hF (fun h3 hF=>?_) fun h3 hF=>?_
 ·exact wl hΦ hF
 cases hΦ _ (zaa hF)
 iterate 2 refine wW ?_
 try simp[go_sem,g]
def zf0(a0:List Int)(a1:Int):Option Int:=
 ((zaH (σ:=Int×Int) (fun s4=>
 if decide (0≤s4.2)=true then(
 (ix a0 s4.2).bind fun x10=>
 some (.go (i64.wrap ((i64.wrap (s4.1*a1))+x10),i64.wrap (s4.2-1))))else(
 some (.out s4.1))) (0,i64.wrap ((a0.length:Int)-1)):Option Int).bind fun x3=>
 some x3)
theorem zmC:∀{a0}{a1}{r},zf0 a0 a1=some r→PCalls Tryz.prog 186 [(.sh,vC a0),(.sh,.int .i64 a1)] (Eo (.int .i64 r) [.junk,.junk]):=by
 intro a0 a1 r hr;apply pF 23 [] [] [] [.tmp 4] hr zFY Tryz.func186;intro Φ hΦ hF g;unfold zf0 at hF
 iterate 3 (try simp[go_sem,g];try intros;refine zap ?_)
 refine wJ hF (fun x3=>[(5,.v (.int .i64 x3))]) (fun x3 hF=>?_) fun _ hj1 hF=>?_
 ·exact wl hΦ hF
 refine wB ?_;obtain⟨b11,hb12,hψ8⟩:=hF;refine pL hb12 (fun s4=>[(0,.v (vC a0)),(1,.v (.int .i64 a1)),(5,.v (.int .i64 s4.1)),(6,.v (.int .i64 s4.2))]) fun s4 _ _ ho6 hg7 hF=>?_
 refine wW ?_;refine wI hF (fun h9 hF=>?_) fun h9 hF=>?_
 ·refine wW ?_;refine wB ?_;obtain⟨x10,g,hF⟩:=Rx g hF;refine wK [0,1,5,6] ?_;exact wT (hg7 _) (zaa hF)
 cases ho6 _ (zaa hF);exact wT (hj1 _) hψ8
def zcx(a0:Contest):Option Int:=
 ((if(a0.Kind==1)=true then(
 zaH (σ:=(List Int)×Int) (fun s5=>
 if decide (s5.2<a0.Options)=true then(
 ((if decide ((i64.wrap (a0.Options-a0.Most))≤s5.2)=true then(
 some 1)else(
 some 0):Option Int).bind fun x13=>
 gd ((s5.1.length+1)*8≤140737488355328∧s5.1.length+1≤4611686018427387904)<|
 some (.go (s5.1++[x13],i64.wrap (s5.2+1)))))else(
 some (.out s5.1))) ([],0))else(
 if(a0.Kind==2)=true then(
 gd (0≤a0.Options∧a0.Options≤a0.Options∧8*a0.Options≤140737488355328∧a0.Options≤4611686018427387904)<|
 (some (List.replicate a0.Options.toNat 0)).bind fun x18=>
 zaH (σ:=(List Int)×Int×Int) (fun s29=>
 if decide (0≤s29.2.2)=true then(
 (ix s29.1 s29.2.2).bind fun x35=>
 (ix (s29.1.set s29.2.2.toNat (if a0.Points<s29.2.1 then a0.Points else s29.2.1)) s29.2.2).bind fun x36=>
 some (.go (s29.1.set s29.2.2.toNat (if a0.Points<s29.2.1 then a0.Points else s29.2.1),i64.wrap (s29.2.1-x36),i64.wrap (s29.2.2-1))))else(
 some (.out s29.1))) (x18,a0.Most,i64.wrap (a0.Options-1)))else(
 if(a0.Kind==3)=true then(
 zaH (σ:=(List Int)×Int) (fun s40=>
 if decide (s40.2<a0.Most)=true then(
 gd ((s40.1.length+1)*8≤140737488355328∧s40.1.length+1≤4611686018427387904)<|
 some (.go (s40.1++[i64.wrap ((i64.wrap ((i64.wrap (a0.Options-a0.Most))+1))+s40.2)],i64.wrap (s40.2+1))))else(
 some (.out s40.1))) ([],0))else(
 zaH (σ:=(List Int)×Int) (fun s48=>
 if decide (s48.2<a0.Most)=true then(
 gd ((s48.1.length+1)*8≤140737488355328∧s48.1.length+1≤4611686018427387904)<|
 some (.go (s48.1++[26],i64.wrap (s48.2+1))))else(
 some (.out s48.1))) ([],0)))):Option ((List Int))).bind fun x3=>
 (zay a0).bind fun z56=>
 (zf0 x3 z56).bind fun z57=>
 some z57)
theorem zhL:∀{a0}{r},zcx a0=some r→PCalls Tryz.prog 116 [(.sh,vF a0)] (Eo (.int .i64 r) [.junk]):=by
 intro a0 r hr;apply pF 89 [] [] [] [.tmp 2] hr zFs Tryz.func116;intro Φ hΦ hF g;unfold zcx at hF
 iterate 3 refine wW ?_
 refine wJ hF (fun x3=>[(1,.bl [.int .i64 a0.Kind,.int .i64 a0.Options,.int .i64 a0.Least,.int .i64 a0.Most,.int .i64 a0.Points]),(3,.v (vD x3))]) (fun x3 hF=>?_) fun _ hj1 hF=>?_
 ·refine wC hF [.sh] zfU fun z56 hF=>?_
  refine wC hF [.sh,.sh] zmC fun z57 hF=>?_
  refine wK [2] ?_;exact wm hΦ hF
 refine wB ?_;refine wW ?_;refine wI hF (fun h4 hF=>?_) fun h4 hF=>?_
 ·refine wK [1,3,23,24] ?_;refine wB ?_;obtain⟨b15,hb16,hψ9⟩:=hF;refine pL hb16 (fun s5=>[(1,.bl [.int .i64 a0.Kind,.int .i64 a0.Options,.int .i64 a0.Least,.int .i64 a0.Most,.int .i64 a0.Points]),(3,.v (vD s5.1)),(23,.v (.int .i64 a0.Options)),(24,.v (.int .i64 s5.2))]) fun s5 _ _ ho7 hg8 hF=>?_
  refine wW ?_;refine wI hF (fun h10 hF=>?_) fun h10 hF=>?_
  ·refine wW ?_;refine wB ?_
   iterate 2 refine wW ?_
   refine wK [1,3,5,23,24,33] ?_;refine wJ hF (fun x13=>[(1,.bl [.int .i64 a0.Kind,.int .i64 a0.Options,.int .i64 a0.Least,.int .i64 a0.Most,.int .i64 a0.Points]),(3,.v (vD s5.1)),(5,.v (.int .i64 x13)),(23,.v (.int .i64 a0.Options)),(24,.v (.int .i64 s5.2))]) (fun x13 hF=>?_) fun _ hj11 hF=>?_
   ·obtain⟨g,hF⟩:=Rg g hF;refine wW ?_;exact wT (hg8 _) (zaa hF)
   refine wI hF (fun h14 hF=>?_) fun h14 hF=>?_
   ·exact wT (hj11 _) (zaa hF)
   exact wT (hj11 _) (zaa hF)
  cases ho7 _ (zaa hF);exact wT (hj1 _) hψ9
 refine wK [1,3,11,39] ?_;refine wI hF (fun h17 hF=>?_) fun h17 hF=>?_
 ·obtain⟨g,hF⟩:=Rg g hF;obtain⟨x18,e19,hF⟩:=zfB hF;have g20:List.replicate a0.Options.toNat ([.int .i64 0]:List PV)=x18.map zam:=by injection e19 with e19;rw[←e19];simp[go_sem]
  iterate 2 (try simp[go_sem,g,g20];refine zap ?_)
  try simp[go_sem,g,g20]
  refine wK [1,3,6,7] ?_;refine wB ?_;obtain⟨b37,hb38,hψ33⟩:=hF;refine pL hb38 (fun s29=>[(1,.bl [.int .i64 a0.Kind,.int .i64 a0.Options,.int .i64 a0.Least,.int .i64 a0.Most,.int .i64 a0.Points]),(3,.v (vD s29.1)),(6,.v (.int .i64 s29.2.1)),(7,.v (.int .i64 s29.2.2))]) fun s29 _ _ ho31 hg32 hF=>?_
  refine wW ?_;refine wI hF (fun h34 hF=>?_) fun h34 hF=>?_
  ·refine wW ?_;refine wB ?_;obtain⟨x35,g,hF⟩:=Rx g hF;refine wK [1,3,6,7] ?_;obtain⟨x36,g,hF⟩:=Rx g hF;try simp only[List.length_set]at g
   refine wW ?_;exact wT (hg32 _) (zaa hF)
  cases ho31 _ (zaa hF);exact wT (hj1 _) hψ33
 refine wW ?_;refine wI hF (fun h39 hF=>?_) fun h39 hF=>?_
 ·refine wW ?_;refine wB ?_;obtain⟨b46,hb47,hψ44⟩:=hF;refine pL hb47 (fun s40=>[(1,.bl [.int .i64 a0.Kind,.int .i64 a0.Options,.int .i64 a0.Least,.int .i64 a0.Most,.int .i64 a0.Points]),(3,.v (vD s40.1)),(69,.v (.int .i64 a0.Most)),(70,.v (.int .i64 s40.2))]) fun s40 _ _ ho42 hg43 hF=>?_
  refine wW ?_;refine wI hF (fun h45 hF=>?_) fun h45 hF=>?_
  ·refine wW ?_;refine wB ?_;obtain⟨g,hF⟩:=Rg g hF;refine wW ?_;refine wK [1,3,69,70] ?_;exact wT (hg43 _) (zaa hF)
  cases ho42 _ (zaa hF);exact wT (hj1 _) hψ44
 refine wW ?_;refine wB ?_;obtain⟨b54,hb55,hψ52⟩:=hF;refine pL hb55 (fun s48=>[(1,.bl [.int .i64 a0.Kind,.int .i64 a0.Options,.int .i64 a0.Least,.int .i64 a0.Most,.int .i64 a0.Points]),(3,.v (vD s48.1)),(13,.v (.int .i64 a0.Most)),(14,.v (.int .i64 s48.2))]) fun s48 _ _ ho50 hg51 hF=>?_
 refine wW ?_;refine wI hF (fun h53 hF=>?_) fun h53 hF=>?_
 ·refine wW ?_;refine wB ?_;obtain⟨g,hF⟩:=Rg g hF;refine wK [1,3,13,14] ?_;exact wT (hg51 _) (zaa hF)
 cases ho50 _ (zaa hF);exact wT (hj1 _) hψ52
def zbi(a0:Contest):Option Bool:=
 ((if(a0.Kind==1)=true then(
 some true)else(
 some (a0.Kind==2)):Option Bool).bind fun x3=>
 some x3)
theorem zc4:∀{a0}{r},zbi a0=some r→PCalls Tryz.prog 54 [(.sh,vF a0)] (Eo (.bool r) [.junk]):=by
 intro a0 r hr;apply pF 11 [] [] [] [.tmp 2] hr zK5 Tryz.func54;intro Φ hΦ hF g;unfold zbi at hF;refine wW ?_;refine wJ hF (fun x3=>[(2,.v (.bool x3))]) (fun x3 hF=>?_) fun _ hj1 hF=>?_
 ·exact wm hΦ hF
 refine wG hF (fun h4 hF=>?_) fun h4 hF=>?_
 ·exact wV h4 (hj1 _) (zaa hF)
 exact wV h4 (hj1 _) (zaa hF)
@[go_sem] def zGH:List DE:=[d2 0 [2] 2 2,d3 1 [5],d0 2 [6],d0 3 [7],d2 4 [3,8] 3 3,d3 5 [9,8],d0 6 [10,8],d0 7 [8,11],d0 8 [12],d2 9 [3,13] 3 3,d3 10 [14,13],d0 11 [15,13],d0 12 [13,16],d0 13 [17],d2 14 [3,18] 3 3,d1 16 [2,18] 2,d2 17 [21,18] 2 21,d3 15 [19,18],d0 18 [20,22,18],d0 19 [18,23]]
def zdv(a0:Group)(a1:Contest):Option Bool:=
 (((zcl a0).bind fun z4=>
 if(!z4)=true then(
 some true)else(
 (zc0 a1).bind fun z6=>
 if(!z6)=true then(
 some true)else(
 (zcx a1).bind fun z8=>
 if decide (100000<z8)=true then(
 some true)else(
 (zcx a1).bind fun z10=>
 some (decide (a0.Q≤z10))))):Option Bool).bind fun x3=>
 if x3=true then(
 some false)else(
 (((zbi a1).bind fun z15=>
 if(!z15)=true then(
 some true)else(
 if decide ((i64.wrap (a1.Most-a1.Least))<8)=true then(
 some (decide (a1.Most<a0.Q)))else(
 some false)):Option Bool).bind fun x14=>
 some x14)))
theorem zhP:∀{a0}{a1}{r},zdv a0 a1=some r→PCalls Tryz.prog 46 [(.sh,vE a0),(.sh,vF a1)] (Eo (.bool r) [.junk,.junk]):=by
 intro a0 a1 r hr;apply pF 43 [] [] [] [.tmp 4] hr zKj Tryz.func46;intro Φ hΦ hF g;unfold zdv at hF;refine wW ?_;refine wJ hF (fun x3=>[(2,.bl [.int .i64 a0.P,.int .i64 a0.Q,.int .i64 a0.G]),(3,.bl [.int .i64 a1.Kind,.int .i64 a1.Options,.int .i64 a1.Least,.int .i64 a1.Most,.int .i64 a1.Points]),(24,.v (.bool x3))]) (fun x3 hF=>?_) fun _ hj1 hF=>?_
 ·refine wI hF (fun h11 hF=>?_) fun h11 hF=>?_
  ·exact wl hΦ hF
  refine wW ?_;refine wJ hF (fun x14=>[(4,.v (.bool x14))]) (fun x14 hF=>?_) fun _ hj12 hF=>?_
  ·exact wm hΦ hF
  refine wC hF [.sh] zc4 fun z15 hF=>?_
  refine wG hF (fun h16 hF=>?_) fun h16 hF=>?_
  ·exact wV h16 (hj12 _) (zaa hF)
  try simp[go_sem,g,h16]
  refine wG hF (fun h17 hF=>?_) fun h17 hF=>?_
  ·try simp[go_sem,g,h17,h16]
   exact wT (hj12 _) (zaa hF)
  try simp[go_sem,g,h17,h16]
  exact wT (hj12 _) (zaa hF)
 refine wX zGH follows ?_;refine wC hF [.sh] zfS fun z4 hF=>?_
 refine wH hF (fun h5 hF=>?_) fun h5 hF=>?_
 ·exact wV h5 (hj1 _) (zaa hF)
 try simp[go_sem,g,h5]
 refine wC hF [.sh] zlR fun z6 hF=>?_
 try simp[go_sem,g,h5]
 refine wH hF (fun h7 hF=>?_) fun h7 hF=>?_
 ·exact wV h7 (hj1 _) (zaa hF)
 try simp[go_sem,g,h7]
 refine wC hF [.sh] zhL fun z8 hF=>?_
 try simp[go_sem,g,h7]
 refine wH hF (fun h9 hF=>?_) fun h9 hF=>?_
 ·exact wV h9 (hj1 _) (zaa hF)
 try simp[go_sem,g,h9]
 refine wC hF [.sh] zhL fun z10 hF=>?_
 exact wV h9 (hj1 _) (zaa hF)
def zcz(a0:Group)(a1:Int):Option Bool:=
 (((zaD a1 1 (i64.wrap (a0.P-1))).bind fun z4=>
 if z4=true then(
 (ze8 a1 a0.Q a0.P).bind fun z6=>
 some (z6==1))else(
 some false):Option Bool).bind fun x3=>
 some x3)
theorem zfK:∀{a0}{a1}{r},zcz a0 a1=some r→PCalls Tryz.prog 47 [(.sh,vE a0),(.sh,.int .i64 a1)] (Eo (.bool r) [.junk,.junk]):=by
 intro a0 a1 r hr;apply pF 19 [] [] [] [.tmp 4] hr zLQ Tryz.func47;intro Φ hΦ hF g;unfold zcz at hF;refine wW ?_;refine wJ hF (fun x3=>[(4,.v (.bool x3))]) (fun x3 hF=>?_) fun _ hj1 hF=>?_
 ·exact wm hΦ hF
 refine wC hF [.sh,.sh,.sh] za2 fun z4 hF=>?_
 refine wG hF (fun h5 hF=>?_) fun h5 hF=>?_
 ·try simp[go_sem,g,h5]
  refine wC hF [.sh,.sh,.sh] zkK fun z6 hF=>?_
  exact wV h5 (hj1 _) (zaa hF)
 exact wV h5 (hj1 _) (zaa hF)
def zeT(a0:Int):Option Bool:=
 (zaD a0 0 999999).bind fun z1=>
 some z1
theorem zjb:∀{a0}{r},zeT a0=some r→PCalls Tryz.prog 48 [(.sh,.int .i64 a0)] (Eo (.bool r) [.junk]):=by
 intro a0 r hr;apply pF 5 [] [] [] [.tmp 2] hr zL1 Tryz.func48;intro Φ hΦ hF g;unfold zeT at hF;refine wW ?_;refine wC hF [.sh,.sh,.sh] za2 fun z1 hF=>?_
 exact wl hΦ hF
def zek(a0:Int)(a1c0:Int)(a1c1:Int)(a1c2:Int)(a1c3:Int)(a1c4:Int):Option Bool:=
 (zaD a0 0 a1c4).bind fun z1=>
 some z1
theorem zku:∀{a0}{a1c0}{a1c1}{a1c2}{a1c3}{a1c4}{r},zek a0 a1c0 a1c1 a1c2 a1c3 a1c4=some r→PCalls Tryz.prog 118 [(.sh,.int .i64 a0),(.sh,.fp [.int .i64 a1c0,.int .i64 a1c1,.int .i64 a1c2,.int .i64 a1c3,.int .i64 a1c4])] (Eo (.bool r) [.junk,.junk]):=by
 intro a0 a1c0 a1c1 a1c2 a1c3 a1c4 r hr;apply pF 8 [] [] [] [.tmp 3] hr zEt Tryz.func118;intro Φ hΦ hF g;unfold zek at hF;refine wW ?_;refine wC hF [.sh,.sh,.sh] za2 fun z1 hF=>?_
 exact wl hΦ hF
def zbp(a0:Int)(a1c0u0c0:Int)(a1c0u0c1:Int)(a1c0u0c2:Int)(a1c0u0c3:Int)(a1c0u0c4:Int):Option Bool:=
 (zek a0 a1c0u0c0 a1c0u0c1 a1c0u0c2 a1c0u0c3 a1c0u0c4).bind fun z1=>
 some (!z1)
theorem zg3:∀{a0}{a1c0u0c0}{a1c0u0c1}{a1c0u0c2}{a1c0u0c3}{a1c0u0c4}{r},zbp a0 a1c0u0c0 a1c0u0c1 a1c0u0c2 a1c0u0c3 a1c0u0c4=some r→PCalls Tryz.prog 181 [(.sh,.int .i64 a0),(.sh,.fp [.func (.func 118) [] [.fp [.int .i64 a1c0u0c0,.int .i64 a1c0u0c1,.int .i64 a1c0u0c2,.int .i64 a1c0u0c3,.int .i64 a1c0u0c4]]])] (Eo (.bool r) [.junk,.junk]):=by
 intro a0 a1c0u0c0 a1c0u0c1 a1c0u0c2 a1c0u0c3 a1c0u0c4 r hr;apply pF 8 [] [] [] [.tmp 3] hr zpU Tryz.func181;intro Φ hΦ hF g;unfold zbp at hF;refine wW ?_;refine wC hF [.sh] zku fun z1 hF=>?_
 exact wl hΦ hF
def za7(a0:List Int)(a1u0c0u0c0:Int)(a1u0c0u0c1:Int)(a1u0c0u0c2:Int)(a1u0c0u0c3:Int)(a1u0c0u0c4:Int):Option Int:=
 ((zar (σ:=Unit) (fun i5 s4=>
 (ix a0 i5).bind fun x11=>
 (zbp x11 a1u0c0u0c0 a1u0c0u0c1 a1u0c0u0c2 a1u0c0u0c3 a1u0c0u0c4).bind fun z12=>
 if z12=true then(
 some (.out (.inr i5)))else(
 some (.go ()))) (fun s4=>.inl ()) (a0.length) 0 ():Option (Unit ⊕ Int)).bind (Sum.elim (fun x3=>
 some (-1)) some))
theorem zdZ:∀{a0}{a1u0c0u0c0}{a1u0c0u0c1}{a1u0c0u0c2}{a1u0c0u0c3}{a1u0c0u0c4}{r},za7 a0 a1u0c0u0c0 a1u0c0u0c1 a1u0c0u0c2 a1u0c0u0c3 a1u0c0u0c4=some r→PCalls Tryz.prog 219 [(.sh,vC a0),(.sh,.func (.func 181) [] [.fp [.func (.func 118) [] [.fp [.int .i64 a1u0c0u0c0,.int .i64 a1u0c0u0c1,.int .i64 a1u0c0u0c2,.int .i64 a1u0c0u0c3,.int .i64 a1u0c0u0c4]]]])] (Eo (.int .i64 r) [.junk,.junk]):=by
 intro a0 a1u0c0u0c0 a1u0c0u0c1 a1u0c0u0c2 a1u0c0u0c3 a1u0c0u0c4 r hr;apply pF 19 [] [] [] [.tmp 4] hr zo9 Tryz.func219;intro Φ hΦ hF g;unfold za7 at hF
 iterate 2 (try simp[go_sem,g];try intros;refine zap ?_)
 refine wS hF (fun x3=>[]) (fun x3 hF=>?_) fun _ hj1 hr2 hF=>?_
 ·exact wl hΦ hF
 refine wB ?_;obtain⟨b14,hb15,hψ8⟩:=hF;refine pR hb15 (fun i5 s4=>[(0,.v (vC a0)),(1,.v (.func (.func 181) [] [.fp [.func (.func 118) [] [.fp [.int .i64 a1u0c0u0c0,.int .i64 a1u0c0u0c1,.int .i64 a1u0c0u0c2,.int .i64 a1u0c0u0c3,.int .i64 a1u0c0u0c4]]]])),(7,.v (.int .i64 (a0.length:Int))),(8,.v (.int .i64 i5))]) (fun s4 _ hN16=>?_) fun i5 s4 _ _ hi9 hi10 ho6 hg7 hF=>?_
 ·exact wn hN16 (hj1 _) hψ8
 refine wW ?_;refine wu hi9 hi10 ?_;refine wW ?_;refine wB ?_;obtain⟨x11,g,hF⟩:=Rx g hF;refine wW ?_;refine wC hF [.sh] zg3 fun z12 hF=>?_
 refine wK [0,1,5,7,8,16] ?_;refine wI hF (fun h13 hF=>?_) fun h13 hF=>?_
 ·cases ho6 _ (zaa hF);cases hΦ _ (hr2 _ hψ8);refine wW ?_;try simp[go_sem,g]
 refine wW ?_;exact wi hi9 hi10 (hg7 _) (zaa hF)
def za0(a0:List Int)(a1u0c0u0c0:Int)(a1u0c0u0c1:Int)(a1u0c0u0c2:Int)(a1u0c0u0c3:Int)(a1u0c0u0c4:Int):Option Bool:=
 (za7 a0 a1u0c0u0c0 a1u0c0u0c1 a1u0c0u0c2 a1u0c0u0c3 a1u0c0u0c4).bind fun z1=>
 some (decide (0≤z1))
theorem zdM:∀{a0}{a1u0c0u0c0}{a1u0c0u0c1}{a1u0c0u0c2}{a1u0c0u0c3}{a1u0c0u0c4}{r},za0 a0 a1u0c0u0c0 a1u0c0u0c1 a1u0c0u0c2 a1u0c0u0c3 a1u0c0u0c4=some r→PCalls Tryz.prog 180 [(.sh,vC a0),(.sh,.func (.func 181) [] [.fp [.func (.func 118) [] [.fp [.int .i64 a1u0c0u0c0,.int .i64 a1u0c0u0c1,.int .i64 a1u0c0u0c2,.int .i64 a1u0c0u0c3,.int .i64 a1u0c0u0c4]]]])] (Eo (.bool r) [.junk,.junk]):=by
 intro a0 a1u0c0u0c0 a1u0c0u0c1 a1u0c0u0c2 a1u0c0u0c3 a1u0c0u0c4 r hr;apply pF 9 [] [] [] [.tmp 4] hr zpW Tryz.func180;intro Φ hΦ hF g;unfold za0 at hF;refine wW ?_;refine wC hF [.sh,.sh] zdZ fun z1 hF=>?_
 exact wl hΦ hF
def zb6(a0:List Int)(a1u0c0:Int)(a1u0c1:Int)(a1u0c2:Int)(a1u0c3:Int)(a1u0c4:Int):Option Bool:=
 (za0 a0 a1u0c0 a1u0c1 a1u0c2 a1u0c3 a1u0c4).bind fun z1=>
 some (!z1)
theorem zhi:∀{a0}{a1u0c0}{a1u0c1}{a1u0c2}{a1u0c3}{a1u0c4}{r},zb6 a0 a1u0c0 a1u0c1 a1u0c2 a1u0c3 a1u0c4=some r→PCalls Tryz.prog 103 [(.sh,vC a0),(.sh,.func (.func 118) [] [.fp [.int .i64 a1u0c0,.int .i64 a1u0c1,.int .i64 a1u0c2,.int .i64 a1u0c3,.int .i64 a1u0c4]])] (Eo (.bool r) [.junk,.junk]):=by
 intro a0 a1u0c0 a1u0c1 a1u0c2 a1u0c3 a1u0c4 r hr;apply pF 9 [] [] [1000000] [.tmp 4] hr zpf Tryz.func103;intro Φ hΦ hF g;unfold zb6 at hF;refine wW ?_;refine wC hF [.sh,.sh] zdM fun z1 hF=>?_
 exact wl hΦ hF
def zel(a0:Int)(a1c0:Int)(a2c0:Int):Option Bool:=
 (zaD a0 a1c0 a2c0).bind fun z1=>
 some z1
theorem zkH:∀{a0}{a1c0}{a2c0}{r},zel a0 a1c0 a2c0=some r→PCalls Tryz.prog 119 [(.sh,.int .i64 a0),(.sh,.fp [.int .i64 a1c0]),(.sh,.fp [.int .i64 a2c0])] (Eo (.bool r) [.junk,.junk,.junk]):=by
 intro a0 a1c0 a2c0 r hr;apply pF 9 [] [] [] [.tmp 4] hr zFV Tryz.func119;intro Φ hΦ hF g;unfold zel at hF;refine wW ?_;refine wC hF [.sh,.sh,.sh] za2 fun z1 hF=>?_
 exact wl hΦ hF
def zbq(a0:Int)(a1c0u0c0:Int)(a1c0u1c0:Int):Option Bool:=
 (zel a0 a1c0u0c0 a1c0u1c0).bind fun z1=>
 some (!z1)
theorem zg2:∀{a0}{a1c0u0c0}{a1c0u1c0}{r},zbq a0 a1c0u0c0 a1c0u1c0=some r→PCalls Tryz.prog 181 [(.sh,.int .i64 a0),(.sh,.fp [.func (.func 119) [] [.fp [.int .i64 a1c0u0c0],.fp [.int .i64 a1c0u1c0]]])] (Eo (.bool r) [.junk,.junk]):=by
 intro a0 a1c0u0c0 a1c0u1c0 r hr;apply pF 8 [] [] [] [.tmp 3] hr zpU Tryz.func181;intro Φ hΦ hF g;unfold zbq at hF;refine wW ?_;refine wC hF [.sh] zkH fun z1 hF=>?_
 exact wl hΦ hF
def za6(a0:List Int)(a1u0c0u0c0:Int)(a1u0c0u1c0:Int):Option Int:=
 ((zar (σ:=Unit) (fun i5 s4=>
 (ix a0 i5).bind fun x11=>
 (zbq x11 a1u0c0u0c0 a1u0c0u1c0).bind fun z12=>
 if z12=true then(
 some (.out (.inr i5)))else(
 some (.go ()))) (fun s4=>.inl ()) (a0.length) 0 ():Option (Unit ⊕ Int)).bind (Sum.elim (fun x3=>
 some (-1)) some))
theorem zd2:∀{a0}{a1u0c0u0c0}{a1u0c0u1c0}{r},za6 a0 a1u0c0u0c0 a1u0c0u1c0=some r→PCalls Tryz.prog 219 [(.sh,vC a0),(.sh,.func (.func 181) [] [.fp [.func (.func 119) [] [.fp [.int .i64 a1u0c0u0c0],.fp [.int .i64 a1u0c0u1c0]]]])] (Eo (.int .i64 r) [.junk,.junk]):=by
 intro a0 a1u0c0u0c0 a1u0c0u1c0 r hr;apply pF 19 [] [] [] [.tmp 4] hr zo9 Tryz.func219;intro Φ hΦ hF g;unfold za6 at hF
 iterate 2 (try simp[go_sem,g];try intros;refine zap ?_)
 refine wS hF (fun x3=>[]) (fun x3 hF=>?_) fun _ hj1 hr2 hF=>?_
 ·exact wl hΦ hF
 refine wB ?_;obtain⟨b14,hb15,hψ8⟩:=hF;refine pR hb15 (fun i5 s4=>[(0,.v (vC a0)),(1,.v (.func (.func 181) [] [.fp [.func (.func 119) [] [.fp [.int .i64 a1u0c0u0c0],.fp [.int .i64 a1u0c0u1c0]]]])),(7,.v (.int .i64 (a0.length:Int))),(8,.v (.int .i64 i5))]) (fun s4 _ hN16=>?_) fun i5 s4 _ _ hi9 hi10 ho6 hg7 hF=>?_
 ·exact wn hN16 (hj1 _) hψ8
 refine wW ?_;refine wu hi9 hi10 ?_;refine wW ?_;refine wB ?_;obtain⟨x11,g,hF⟩:=Rx g hF;refine wW ?_;refine wC hF [.sh] zg2 fun z12 hF=>?_
 refine wK [0,1,5,7,8,16] ?_;refine wI hF (fun h13 hF=>?_) fun h13 hF=>?_
 ·cases ho6 _ (zaa hF);cases hΦ _ (hr2 _ hψ8);refine wW ?_;try simp[go_sem,g]
 refine wW ?_;exact wi hi9 hi10 (hg7 _) (zaa hF)
def za1(a0:List Int)(a1u0c0u0c0:Int)(a1u0c0u1c0:Int):Option Bool:=
 (za6 a0 a1u0c0u0c0 a1u0c0u1c0).bind fun z1=>
 some (decide (0≤z1))
theorem zdO:∀{a0}{a1u0c0u0c0}{a1u0c0u1c0}{r},za1 a0 a1u0c0u0c0 a1u0c0u1c0=some r→PCalls Tryz.prog 180 [(.sh,vC a0),(.sh,.func (.func 181) [] [.fp [.func (.func 119) [] [.fp [.int .i64 a1u0c0u0c0],.fp [.int .i64 a1u0c0u1c0]]]])] (Eo (.bool r) [.junk,.junk]):=by
 intro a0 a1u0c0u0c0 a1u0c0u1c0 r hr;apply pF 9 [] [] [] [.tmp 4] hr zpW Tryz.func180;intro Φ hΦ hF g;unfold za1 at hF;refine wW ?_;refine wC hF [.sh,.sh] zd2 fun z1 hF=>?_
 exact wl hΦ hF
def zca(a0:List Int)(a1u0c0:Int)(a1u1c0:Int):Option Bool:=
 (za1 a0 a1u0c0 a1u1c0).bind fun z1=>
 some (!z1)
theorem zhm:∀{a0}{a1u0c0}{a1u1c0}{r},zca a0 a1u0c0 a1u1c0=some r→PCalls Tryz.prog 103 [(.sh,vC a0),(.sh,.func (.func 119) [] [.fp [.int .i64 a1u0c0],.fp [.int .i64 a1u1c0]])] (Eo (.bool r) [.junk,.junk]):=by
 intro a0 a1u0c0 a1u1c0 r hr;apply pF 9 [] [] [1000000] [.tmp 4] hr zpf Tryz.func103;intro Φ hΦ hF g;unfold zca at hF;refine wW ?_;refine wC hF [.sh,.sh] zdO fun z1 hF=>?_
 exact wl hΦ hF
def zgi(a0:Int):Option Bool:=
 some (a0 !=a0)
theorem zk9:∀{a0}{r},zgi a0=some r→PCalls Tryz.prog 221 [(.sh,.int .i64 a0)] (Eo (.bool r) [.junk]):=by
 intro a0 r hr;apply pF 6 [] [] [] [.tmp 2] hr zEo Tryz.func221;intro Φ hΦ hF g;unfold zgi at hF;cases hΦ _ (zaa hF)
 iterate 2 refine wW ?_
 try simp[go_sem,g]
def zgB(a0:Int)(a1:Int):Option Bool:=
 (((zgi a0).bind fun z4=>
 if z4=true then(
 (zgi a1).bind fun z6=>
 if(!z6)=true then(
 some true)else(
 some (decide (a0<a1))))else(
 some (decide (a0<a1))):Option Bool).bind fun x3=>
 some x3)
theorem zqo:∀{a0}{a1}{r},zgB a0 a1=some r→PCalls Tryz.prog 187 [(.sh,.int .i64 a0),(.sh,.int .i64 a1)] (Eo (.bool r) [.junk,.junk]):=by
 intro a0 a1 r hr;apply pF 17 [] [] [] [.tmp 4] hr zEw Tryz.func187;intro Φ hΦ hF g;unfold zgB at hF;refine wW ?_;refine wJ hF (fun x3=>[(4,.v (.bool x3))]) (fun x3 hF=>?_) fun _ hj1 hF=>?_
 ·exact wm hΦ hF
 refine wC hF [.sh] zk9 fun z4 hF=>?_
 refine wG hF (fun h5 hF=>?_) fun h5 hF=>?_
 ·try simp[go_sem,g,h5]
  refine wC hF [.sh] zk9 fun z6 hF=>?_
  try simp[go_sem,g,h5]
  refine wG hF (fun h7 hF=>?_) fun h7 hF=>?_
  ·exact wV h7 (hj1 _) (zaa hF)
  exact wV h7 (hj1 _) (zaa hF)
 exact wV h5 (hj1 _) (zaa hF)
@[go_sem] def zBQ:List DE:=[d0 0 [0],d0 1 [3],d0 2 [11,12],d0 3 [13],d0 4 [0],d0 5 [3],d0 6 [16],d0 7 [15,17],d0 8 [18],d3 9 [14,19]]
def zcR(a0:List Int):Option Bool:=
 ((zaH (σ:=Int) (fun s4=>
 if decide (0<s4)=true then(
 (ix a0 s4).bind fun x10=>
 (ix a0 (i64.wrap (s4-1))).bind fun x11=>
 (zgB x10 x11).bind fun z12=>
 if z12=true then(
 some (.out (.inr false)))else(
 some (.go (i64.wrap (s4-1)))))else(
 some (.out (.inl ())))) (i64.wrap ((a0.length:Int)-1)):Option (Unit ⊕ Bool)).bind (Sum.elim (fun x3=>
 some true) some))
theorem zj1:∀{a0}{r},zcR a0=some r→PCalls Tryz.prog 120 [(.sh,vC a0)] (Eo (.bool r) [.junk]):=by
 intro a0 r hr;apply pF 21 [] [] [] [.tmp 2] hr zD6 Tryz.func120;intro Φ hΦ hF g;unfold zcR at hF
 iterate 2 (try simp[go_sem,g];try intros;refine zap ?_)
 refine wS hF (fun x3=>[]) (fun x3 hF=>?_) fun _ hj1 hr2 hF=>?_
 ·exact wl hΦ hF
 refine wB ?_;obtain⟨b14,hb15,hψ8⟩:=hF;refine pL hb15 (fun s4=>[(0,.v (vC a0)),(3,.v (.int .i64 s4))]) fun s4 _ _ ho6 hg7 hF=>?_
 refine wW ?_;refine wI hF (fun h9 hF=>?_) fun h9 hF=>?_
 ·refine wW ?_;refine wB ?_;refine wX zBQ follows ?_;obtain⟨x10,g,hF⟩:=Rx g hF;obtain⟨x11,g,hF⟩:=Rx g hF;refine wC hF [.sh,.sh] zqo fun z12 hF=>?_
  refine wK [0,3,20] ?_;refine wI hF (fun h13 hF=>?_) fun h13 hF=>?_
  ·cases ho6 _ (zaa hF);cases hΦ _ (hr2 _ hψ8);refine wW ?_;try simp[go_sem,g]
  refine wW ?_;exact wT (hg7 _) (zaa hF)
 cases ho6 _ (zaa hF);exact wT (hj1 _) hψ8
def zcM(a0:List Int)(a1:Int):Option Int:=
 ((zar (σ:=Unit) (fun i5 s4=>
 (ix a0 i5).bind fun x11=>
 if(a1==x11)=true then(
 some (.out (.inr i5)))else(
 some (.go ()))) (fun s4=>.inl ()) (a0.length) 0 ():Option (Unit ⊕ Int)).bind (Sum.elim (fun x3=>
 some (-1)) some))
theorem zlh:∀{a0}{a1}{r},zcM a0 a1=some r→PCalls Tryz.prog 222 [(.sh,vC a0),(.sh,.int .i64 a1)] (Eo (.int .i64 r) [.junk,.junk]):=by
 intro a0 a1 r hr;apply pF 19 [] [] [] [.tmp 4] hr zEK Tryz.func222;intro Φ hΦ hF g;unfold zcM at hF
 iterate 2 (try simp[go_sem,g];try intros;refine zap ?_)
 refine wS hF (fun x3=>[]) (fun x3 hF=>?_) fun _ hj1 hr2 hF=>?_
 ·exact wl hΦ hF
 refine wB ?_;obtain⟨b13,hb14,hψ8⟩:=hF;refine pR hb14 (fun i5 s4=>[(0,.v (vC a0)),(1,.v (.int .i64 a1)),(7,.v (.int .i64 (a0.length:Int))),(8,.v (.int .i64 i5))]) (fun s4 _ hN15=>?_) fun i5 s4 _ _ hi9 hi10 ho6 hg7 hF=>?_
 ·exact wn hN15 (hj1 _) hψ8
 refine wW ?_;refine wu hi9 hi10 ?_;refine wW ?_;refine wB ?_;obtain⟨x11,g,hF⟩:=Rx g hF;refine wW ?_;refine wK [0,1,5,7,8,16] ?_;refine wI hF (fun h12 hF=>?_) fun h12 hF=>?_
 ·cases ho6 _ (zaa hF);cases hΦ _ (hr2 _ hψ8);refine wW ?_;try simp[go_sem,g]
 refine wW ?_;exact wi hi9 hi10 (hg7 _) (zaa hF)
def zcU(a0:List Int)(a1:Int):Option Bool:=
 (zcM a0 a1).bind fun z1=>
 some (decide (0≤z1))
theorem zjU:∀{a0}{a1}{r},zcU a0 a1=some r→PCalls Tryz.prog 188 [(.sh,vC a0),(.sh,.int .i64 a1)] (Eo (.bool r) [.junk,.junk]):=by
 intro a0 a1 r hr;apply pF 9 [] [] [] [.tmp 4] hr zFB Tryz.func188;intro Φ hΦ hF g;unfold zcU at hF;refine wW ?_;refine wC hF [.sh,.sh] zlh fun z1 hF=>?_
 exact wl hΦ hF
def zeR(a0:List Int):Option Bool:=
 ((zar (σ:=Unit) (fun i5 s4=>
 (ix a0 i5).bind fun x11=>
 gd (0≤i5)<|
 gd (0≤i5.toNat∧i5.toNat≤a0.length)<|
 (zcU ((a0.take i5.toNat).drop 0) x11).bind fun z12=>
 if z12=true then(
 some (.out (.inr false)))else(
 some (.go ()))) (fun s4=>.inl ()) (a0.length) 0 ():Option (Unit ⊕ Bool)).bind (Sum.elim (fun x3=>
 some true) some))
theorem ziZ:∀{a0}{r},zeR a0=some r→PCalls Tryz.prog 121 [(.sh,vC a0)] (Eo (.bool r) [.junk]):=by
 intro a0 r hr;apply pF 18 [] [] [] [.tmp 2] hr zEP Tryz.func121;intro Φ hΦ hF g;unfold zeR at hF
 iterate 2 (try simp[go_sem,g];try intros;refine zap ?_)
 refine wS hF (fun x3=>[]) (fun x3 hF=>?_) fun _ hj1 hr2 hF=>?_
 ·exact wl hΦ hF
 refine wB ?_;obtain⟨b14,hb15,hψ8⟩:=hF;refine pR hb15 (fun i5 s4=>[(0,.v (vC a0)),(5,.v (vC a0)),(6,.v (.int .i64 (a0.length:Int))),(7,.v (.int .i64 i5))]) (fun s4 _ hN16=>?_) fun i5 s4 _ _ hi9 hi10 ho6 hg7 hF=>?_
 ·exact wn hN16 (hj1 _) hψ8
 refine wW ?_;refine wu hi9 hi10 ?_;refine wW ?_;refine wB ?_;obtain⟨x11,g,hF⟩:=Rx g hF;refine wK [0,3,4,5,6,7] ?_;obtain⟨g,hF⟩:=Rg g hF;obtain⟨g,hF⟩:=Rg g hF;refine wC hF [.sh,.sh] zjU fun z12 hF=>?_
 refine wW ?_;refine wI hF (fun h13 hF=>?_) fun h13 hF=>?_
 ·cases ho6 _ (zaa hF);cases hΦ _ (hr2 _ hψ8);refine wW ?_;try simp[go_sem,g]
 refine wW ?_;exact wi hi9 hi10 (hg7 _) (zaa hF)
@[go_sem] def zAV:List DE:=[d0 0 [1],d0 1 [10],d0 2 [2],d0 3 [12],d0 4 [13],d0 5 [],d0 6 [],d0 7 [11],d2 8 [6] 6 6,d2 9 [7,14] 7 7]
@[go_sem] def zFJ:List DE:=[d0 0 [2],d0 1 [30],d0 2 [],d2 3 [6] 6 6,d2 4 [7,31] 7 7]
def zbX(a0:Contest)(a1:List Int):Option Bool:=
 ((if(a0.Kind==2)=true then(
 ((if((a1.length:Int) !=a0.Options)=true then(
 some true)else(
 (zb6 a1 a0.Kind a0.Options a0.Least a0.Most a0.Points).bind fun z9=>
 some (!z9)):Option Bool).bind fun x7=>
 if x7=true then(
 some (.inr false))else(
 zar (σ:=Int) (fun i12 s11=>
 (ix a1 i12).bind fun x18=>
 some (.go (i64.wrap (s11+x18)))) (fun s11=>.inl (s11,0,a0.Points)) (a1.length) 0 0)))else(
 if(a0.Kind==4)=true then(
 some (.inl ((a1.length:Int),1,26)))else(
 some (.inl ((a1.length:Int),0,i64.wrap (a0.Options-1))))):Option ((Int×Int×Int) ⊕ Bool)).bind (Sum.elim (fun x3=>
 (((zaD x3.1 a0.Least a0.Most).bind fun z27=>
 if(!z27)=true then(
 some true)else(
 (zca a1 x3.2.1 x3.2.2).bind fun z29=>
 some (!z29)):Option Bool).bind fun x26=>
 if x26=true then(
 some false)else(
 if(a0.Kind==1)=true then(
 (((zcR a1).bind fun z35=>
 if z35=true then(
 (zeR a1).bind fun z37=>
 some z37)else(
 some false):Option Bool).bind fun x34=>
 some x34))else(
 if(a0.Kind==3)=true then(
 (zeR a1).bind fun z39=>
 some z39)else(
 some true))))) some))
theorem zgG:∀{a0}{a1}{r},zbX a0 a1=some r→PCalls Tryz.prog 49 [(.sh,vF a0),(.sh,vC a1)] (Eo (.bool r) [.junk,.junk]):=by
 intro a0 a1 r hr;apply pF 71 [] [2] [2,1000000] [.tmp 4] hr zKl Tryz.func49;intro Φ hΦ hF g;unfold zbX at hF;refine wW ?_;refine wX zAV follows ?_;try simp[go_sem,g]
 try intros
 refine wK [1,2,5,6,7] ?_;refine wW ?_;refine wS hF (fun x3=>[(1,.v (vC a1)),(2,.v (.fp [.int .i64 a0.Kind,.int .i64 a0.Options,.int .i64 a0.Least,.int .i64 a0.Most,.int .i64 a0.Points])),(5,.v (.int .i64 x3.1)),(6,.bl [.int .i64 x3.2.1]),(7,.bl [.int .i64 x3.2.2])]) (fun x3 hF=>?_) fun _ hj1 hr2 hF=>?_
 ·refine wJ hF (fun x26=>[(1,.v (vC a1)),(2,.v (.fp [.int .i64 a0.Kind,.int .i64 a0.Options,.int .i64 a0.Least,.int .i64 a0.Most,.int .i64 a0.Points])),(56,.v (.bool x26))]) (fun x26 hF=>?_) fun _ hj24 hF=>?_
  ·refine wI hF (fun h30 hF=>?_) fun h30 hF=>?_
   ·exact wl hΦ hF
   iterate 2 refine wW ?_
   refine wB ?_;refine wW ?_;refine wI hF (fun h31 hF=>?_) fun h31 hF=>?_
   ·refine wJ hF (fun x34=>[(4,.v (.bool x34))]) (fun x34 hF=>?_) fun _ hj32 hF=>?_
    ·exact wm hΦ hF
    refine wC hF [.sh] zj1 fun z35 hF=>?_
    refine wG hF (fun h36 hF=>?_) fun h36 hF=>?_
    ·try simp[go_sem,g,h36]
     refine wC hF [.sh] ziZ fun z37 hF=>?_
     exact wV h36 (hj32 _) (zaa hF)
    exact wV h36 (hj32 _) (zaa hF)
   refine wW ?_;refine wI hF (fun h38 hF=>?_) fun h38 hF=>?_
   ·refine wC hF [.sh] ziZ fun z39 hF=>?_
    refine wK [4] ?_;exact wm hΦ hF
   cases hΦ _ (zaa hF)
   iterate 2 refine wW ?_
   try simp[go_sem,g]
  refine wC hF [.sh,.sh,.sh] za2 fun z27 hF=>?_
  refine wG hF (fun h28 hF=>?_) fun h28 hF=>?_
  ·exact wV h28 (hj24 _) (zaa hF)
  try simp[go_sem,g,h28]
  refine wC hF [.sh,.sh] zhm fun z29 hF=>?_
  exact wV h28 (hj24 _) (zaa hF)
 refine wB ?_;refine wW ?_;refine wI hF (fun h4 hF=>?_) fun h4 hF=>?_
 ·refine wJ hF (fun x7=>[(1,.v (vC a1)),(2,.v (.fp [.int .i64 a0.Kind,.int .i64 a0.Options,.int .i64 a0.Least,.int .i64 a0.Most,.int .i64 a0.Points])),(6,.bl [.int .i64 0]),(7,.bl [.int .i64 (i64.wrap (a0.Options-1))]),(29,.v (.bool x7))]) (fun x7 hF=>?_) fun _ hj5 hF=>?_
  ·refine wI hF (fun h10 hF=>?_) fun h10 hF=>?_
   ·cases hΦ _ (hr2 _ (zaa hF));refine wW ?_;try simp[go_sem,g]
   refine wW ?_;refine wX zFJ follows ?_;try simp[go_sem,g]
   try intros
   refine zap ?_;try simp[go_sem,g]
   try intros
   refine wK [1,2,5,6,7,32,33,34] ?_;refine wB ?_;obtain⟨b19,hb20,hψ15⟩:=hF;refine pR hb20 (fun i12 s11=>[(1,.v (vC a1)),(2,.v (.fp [.int .i64 a0.Kind,.int .i64 a0.Options,.int .i64 a0.Least,.int .i64 a0.Most,.int .i64 a0.Points])),(5,.v (.int .i64 s11)),(6,.bl [.int .i64 0]),(7,.bl [.int .i64 a0.Points]),(32,.v (vC a1)),(33,.v (.int .i64 (a1.length:Int))),(34,.v (.int .i64 i12))]) (fun s11 _ hN21=>?_) fun i12 s11 _ _ hi16 hi17 ho13 hg14 hF=>?_
   ·exact wn hN21 (hj1 _) hψ15
   refine wW ?_;refine wu hi16 hi17 ?_;refine wW ?_;refine wB ?_;obtain⟨x18,g,hF⟩:=Rx g hF
   iterate 2 refine wW ?_
   exact wi hi16 hi17 (hg14 _) (zaa hF)
  try simp[go_sem,g]
  try intros
  refine wG hF (fun h8 hF=>?_) fun h8 hF=>?_
  ·exact wV h8 (hj5 _) (zaa hF)
  try simp[go_sem,g,h8]
  refine wC hF [.sh,.sh] zhi fun z9 hF=>?_
  exact wV h8 (hj5 _) (zaa hF)
 refine wW ?_;refine wI hF (fun h23 hF=>?_) fun h23 hF=>?_
 ·exact wT (hj1 _) (zaa hF)
 exact wT (hj1 _) (zaa hF)
def zbD(a0:Contest):Option Int:=
 if(a0.Kind==2)=true then(
 some a0.Points)else(
 some 1)
theorem zfV:∀{a0}{r},zbD a0=some r→PCalls Tryz.prog 58 [(.sh,vF a0)] (Eo (.int .i64 r) [.junk]):=by
 intro a0 r hr;apply pF 8 [] [] [] [.tmp 2] hr zJk Tryz.func58;intro Φ hΦ hF g;unfold zbD at hF
 iterate 2 refine wW ?_
 refine wI hF (fun h1 hF=>?_) fun h1 hF=>?_
 ·exact wl hΦ hF
 cases hΦ _ (zaa hF)
 iterate 2 refine wW ?_
 try simp[go_sem,g]
@[go_sem] def zHl:List DE:=[d2 0 [1] 1 1,d1 4 [1] 1,d2 5 [10] 1 10,d1 7 [1] 1,d2 8 [13] 1 13,d1 9 [1] 1,d2 10 [15] 1 15,d0 11 [14,16],d0 12 [17],d3 1 [6],d0 2 [7],d0 3 [8],d0 6 [9,11],d0 13 [12,18],d0 14 [19],d0 15 [20]]
def zet(a0:Contest):Option Int:=
 (zbi a0).bind fun z1=>
 if(!z1)=true then(
 some 2)else(
 (zbD a0).bind fun z3=>
 some (i64.wrap ((i64.wrap ((i64.wrap ((i64.wrap ((i64.wrap (2*z3))+2))*a0.Options))+(i64.wrap (2*(i64.wrap (a0.Most-a0.Least))))))+1)))
theorem zmA:∀{a0}{r},zet a0=some r→PCalls Tryz.prog 50 [(.sh,vF a0)] (Eo (.int .i64 r) [.junk]):=by
 intro a0 r hr;apply pF 21 [] [] [] [.tmp 2] hr zI1 Tryz.func50;intro Φ hΦ hF g;unfold zet at hF;refine wW ?_;refine wC hF [.sh] zc4 fun z1 hF=>?_
 refine wW ?_;refine wI hF (fun h2 hF=>?_) fun h2 hF=>?_
 ·exact wl hΦ hF
 refine wW ?_;refine wX zHl follows ?_;refine wC hF [.sh] zfV fun z3 hF=>?_
 refine wK [2] ?_;exact wm hΦ hF
def zc8(a0:Group)(a1:Int):Option Bool:=
 (zaD a1 0 (i64.wrap (a0.Q-1))).bind fun z1=>
 some z1
theorem zhx:∀{a0}{a1}{r},zc8 a0 a1=some r→PCalls Tryz.prog 72 [(.sh,vE a0),(.sh,.int .i64 a1)] (Eo (.bool r) [.junk,.junk]):=by
 intro a0 a1 r hr;apply pF 10 [] [] [] [.tmp 4] hr zLf Tryz.func72;intro Φ hΦ hF g;unfold zc8 at hF;refine wW ?_;refine wC hF [.sh,.sh,.sh] za2 fun z1 hF=>?_
 exact wl hΦ hF
def zbK(a0:Int)(a1c0x0:Group):Option Bool:=
 (zc8 a1c0x0 a0).bind fun z1=>
 some (!z1)
theorem zh3:∀{a0}{a1c0x0}{r},zbK a0 a1c0x0=some r→PCalls Tryz.prog 181 [(.sh,.int .i64 a0),(.sh,.fp [.func (.func 72) [vE a1c0x0] []])] (Eo (.bool r) [.junk,.junk]):=by
 intro a0 a1c0x0 r hr;apply pF 8 [] [] [] [.tmp 3] hr zpU Tryz.func181;intro Φ hΦ hF g;unfold zbK at hF;refine wW ?_;refine wC hF [.sh] zhx fun z1 hF=>?_
 exact wl hΦ hF
def zbf(a0:List Int)(a1u0c0x0:Group):Option Int:=
 ((zar (σ:=Unit) (fun i5 s4=>
 (ix a0 i5).bind fun x11=>
 (zbK x11 a1u0c0x0).bind fun z12=>
 if z12=true then(
 some (.out (.inr i5)))else(
 some (.go ()))) (fun s4=>.inl ()) (a0.length) 0 ():Option (Unit ⊕ Int)).bind (Sum.elim (fun x3=>
 some (-1)) some))
theorem zeF:∀{a0}{a1u0c0x0}{r},zbf a0 a1u0c0x0=some r→PCalls Tryz.prog 219 [(.sh,vC a0),(.sh,.func (.func 181) [] [.fp [.func (.func 72) [vE a1u0c0x0] []]])] (Eo (.int .i64 r) [.junk,.junk]):=by
 intro a0 a1u0c0x0 r hr;apply pF 19 [] [] [] [.tmp 4] hr zo9 Tryz.func219;intro Φ hΦ hF g;unfold zbf at hF
 iterate 2 (try simp[go_sem,g];try intros;refine zap ?_)
 refine wS hF (fun x3=>[]) (fun x3 hF=>?_) fun _ hj1 hr2 hF=>?_
 ·exact wl hΦ hF
 refine wB ?_;obtain⟨b14,hb15,hψ8⟩:=hF;refine pR hb15 (fun i5 s4=>[(0,.v (vC a0)),(1,.v (.func (.func 181) [] [.fp [.func (.func 72) [vE a1u0c0x0] []]])),(7,.v (.int .i64 (a0.length:Int))),(8,.v (.int .i64 i5))]) (fun s4 _ hN16=>?_) fun i5 s4 _ _ hi9 hi10 ho6 hg7 hF=>?_
 ·exact wn hN16 (hj1 _) hψ8
 refine wW ?_;refine wu hi9 hi10 ?_;refine wW ?_;refine wB ?_;obtain⟨x11,g,hF⟩:=Rx g hF;refine wW ?_;refine wC hF [.sh] zh3 fun z12 hF=>?_
 refine wK [0,1,5,7,8,16] ?_;refine wI hF (fun h13 hF=>?_) fun h13 hF=>?_
 ·cases ho6 _ (zaa hF);cases hΦ _ (hr2 _ hψ8);refine wW ?_;try simp[go_sem,g]
 refine wW ?_;exact wi hi9 hi10 (hg7 _) (zaa hF)
def zba(a0:List Int)(a1u0c0x0:Group):Option Bool:=
 (zbf a0 a1u0c0x0).bind fun z1=>
 some (decide (0≤z1))
theorem zef:∀{a0}{a1u0c0x0}{r},zba a0 a1u0c0x0=some r→PCalls Tryz.prog 180 [(.sh,vC a0),(.sh,.func (.func 181) [] [.fp [.func (.func 72) [vE a1u0c0x0] []]])] (Eo (.bool r) [.junk,.junk]):=by
 intro a0 a1u0c0x0 r hr;apply pF 9 [] [] [] [.tmp 4] hr zpW Tryz.func180;intro Φ hΦ hF g;unfold zba at hF;refine wW ?_;refine wC hF [.sh,.sh] zeF fun z1 hF=>?_
 exact wl hΦ hF
def zcI(a0:List Int)(a1x0:Group):Option Bool:=
 (zba a0 a1x0).bind fun z1=>
 some (!z1)
theorem ziv:∀{a0}{a1x0}{r},zcI a0 a1x0=some r→PCalls Tryz.prog 103 [(.sh,vC a0),(.sh,.func (.func 72) [vE a1x0] [])] (Eo (.bool r) [.junk,.junk]):=by
 intro a0 a1x0 r hr;apply pF 9 [] [] [1000000] [.tmp 4] hr zpf Tryz.func103;intro Φ hΦ hF g;unfold zcI at hF;refine wW ?_;refine wC hF [.sh,.sh] zef fun z1 hF=>?_
 exact wl hΦ hF
def zaM(a0:Group)(a1:List Int):Option Bool:=
 (zcI a1 a0).bind fun z1=>
 some z1
theorem zbJ:∀{a0}{a1}{r},zaM a0 a1=some r→PCalls Tryz.prog 51 [(.sh,vE a0),(.sh,vC a1)] (Eo (.bool r) [.junk,.junk]):=by
 intro a0 a1 r hr;apply pF 9 [] [] [] [.tmp 4] hr zJu Tryz.func51;intro Φ hΦ hF g;unfold zaM at hF;refine wW ?_;refine wC hF [.sh,.sh] ziv fun z1 hF=>?_
 exact wl hΦ hF
def zgy(a0:Int):Option ByteArray:=
 gd (-9223372036854775808≤a0∧a0≤9223372036854775807)<|
 some ⟨(Lib.itoa a0).toArray⟩
theorem zp6:∀{a0}{r},zgy a0=some r→PCalls Tryz.prog 122 [(.sh,.int .i64 a0)] (Eo (.str r) [.junk]):=by
 intro a0 r hr;have hF:Rn _ (fun x=>x=r):=⟨r,hr,rfl⟩
 unfold zgy at hF;obtain⟨⟨g0,g1⟩,hF⟩:=zhG hF;have h1:=zaa hF;subst h1;exact Go.Pm.itoa_calls zER g0 g1
def zdX(a0:Int):Option ByteArray:=
 (zgy a0).bind fun z1=>
 gd ((⟨#[98,97,108,108,111,116,32]⟩:ByteArray).size+z1.size≤9223372036854775807)<|
 some ((⟨#[98,97,108,108,111,116,32]⟩:ByteArray)++z1)
theorem zjz:∀{a0}{r},zdX a0=some r→PCalls Tryz.prog 52 [(.sh,.int .i64 a0)] (Eo (.str r) [.junk]):=by
 intro a0 r hr;apply pF 6 [] [] [] [.tmp 2] hr zLF Tryz.func52;intro Φ hΦ hF g;unfold zdX at hF;refine wW ?_;refine wC hF [.sh] zp6 fun z1 hF=>?_
 obtain⟨g,hF⟩:=Rsa g hF;exact wl hΦ hF
def ze6(a0:Contest)(a1:List Int):Option ((List Int)):=
 gd (0≤a0.Options∧a0.Options≤a0.Options∧8*a0.Options≤140737488355328∧a0.Options≤4611686018427387904)<|
 (some (List.replicate a0.Options.toNat 0)).bind fun x1=>
 ((zar (σ:=(List Int)) (fun i17 s16=>
 (ix a1 i17).bind fun x23=>
 (ix s16 x23).bind fun x24=>
 some (.go (s16.set x23.toNat 1))) (fun s16=>s16) (a1.length) 0 x1:Option ((List Int))).bind fun x6=>
 some x6)
theorem zls:∀{a0}{a1}{r},ze6 a0 a1=some r→PCalls Tryz.prog 190 [(.sh,vF a0),(.sh,vC a1)] (Eo (vD r) [.junk,.junk]):=by
 intro a0 a1 r hr;apply pF 22 [] [] [] [.tmp 4] hr zGI Tryz.func190;intro Φ hΦ hF g;unfold ze6 at hF;obtain⟨g,hF⟩:=Rg g hF;obtain⟨x1,e2,hF⟩:=zfB hF;have g3:List.replicate a0.Options.toNat ([.int .i64 0]:List PV)=x1.map zam:=by injection e2 with e2;rw[←e2];simp[go_sem]
 iterate 3 (try simp[go_sem,g,g3];try intros;refine zap ?_)
 refine wJ hF (fun x6=>[(5,.v (vD x6))]) (fun x6 hF=>?_) fun _ hj4 hF=>?_
 ·refine wK [4] ?_;exact wm hΦ hF
 refine wB ?_;obtain⟨b25,hb26,hψ20⟩:=hF;refine pR hb26 (fun i17 s16=>[(5,.v (vD s16)),(11,.v (vC a1)),(12,.v (.int .i64 (a1.length:Int))),(13,.v (.int .i64 i17))]) (fun s16 _ hN27=>?_) fun i17 s16 _ _ hi21 hi22 ho18 hg19 hF=>?_
 ·exact wn hN27 (hj4 _) hψ20
 refine wK [5,11,12,13,14] ?_;refine wu hi21 hi22 ?_;refine wW ?_;refine wB ?_;obtain⟨x23,g,hF⟩:=Rx g hF;obtain⟨x24,g,hF⟩:=Rx g hF
 iterate 2 refine wW ?_
 exact wi hi21 hi22 (hg19 _) (zaa hF)
def zcd(a0:List Int):Option (List Int):=
 gd (a0.length*8≤140737488355328∧a0.length≤4611686018427387904)<|
 some a0
theorem zh4{a0:(List Int)}{r:(List Int)}(hr:zcd a0=some r):PCalls Tryz.prog 191 [(.sh,.sl false 1 (a0.map zam))] (Eo (.sl true 1 (r.map zam)) [.junk]):=by
 apply zm5 8 [] [] [1000000] [.tmp 2] hr zFQ Tryz.func191 rfl rfl rfl
 ·exact⟨by simp,rfl⟩
 intro Φ hΦ hF;unfold zcd at hF;obtain⟨g,hF⟩:=zhG hF;have h1:=hΦ _ (zaa hF);subst h1;try simp[go_sem]
 refine zne [(0,.v (.sl false 1 (a0.map zam)))] (by simp[go_sem]) ?_;try simp[go_sem]
 refine zua rfl rfl (by simp[go_sem]) rfl (by rfl) fun b hb=>?_
 try simp[go_sem]
 refine zap ?_
 repeat rw[zte]
 cases b
 ·refine zng (by simp[go_sem]) ?_;try simp[go_sem]
  refine zap ?_;try simp[go_sem,g]
  refine zap ?_;try simp[go_sem,g]
 have hb0:a0=[]:=by
  cases a0 with
  |nil=>rfl
  |cons x l=>exact absurd (hb (by simp)) (by simp)
 subst hb0;refine zk4 (by simp[go_sem]) ?_;try simp[go_sem]
 refine zap ?_;try simp[go_sem]
def zc2(a0:Contest)(a1:List Int):Option ((List Int)):=
 if(a0.Kind==1)=true then(
 (ze6 a0 a1).bind fun z2=>
 some z2)else(
 if(a0.Kind==3)=true then(
 ((zar (σ:=(List Int)) (fun i8 s7=>
 (ix a1 i8).bind fun x14=>
 gd ((s7.length+1)*8≤140737488355328∧s7.length+1≤4611686018427387904)<|
 some (.go (s7++[i64.wrap (x14+1)]))) (fun s7=>s7) (a1.length) 0 []:Option ((List Int))).bind fun x6=>
 some x6))else(
 (zcd a1).bind fun z19=>
 some z19))
theorem ziq:∀{a0}{a1}{r},zc2 a0 a1=some r→PCalls Tryz.prog 123 [(.sh,vF a0),(.sh,vC a1)] (Eo (vD r) [.junk,.junk]):=by
 intro a0 a1 r hr;apply pF 33 [] [] [] [.tmp 4] hr zEV Tryz.func123;intro Φ hΦ hF g;unfold zc2 at hF
 iterate 2 refine wW ?_
 refine wB ?_;refine wW ?_;refine wI hF (fun h1 hF=>?_) fun h1 hF=>?_
 ·refine wC hF [.sh,.sh] zls fun z2 hF=>?_
  refine wK [4] ?_;exact wm hΦ hF
 refine wW ?_;refine wI hF (fun h3 hF=>?_) fun h3 hF=>?_
 ·refine wK [1,5] ?_;try simp[go_sem,g]
  try intros
  refine zap ?_;refine wJ hF (fun x6=>[(5,.v (vD x6))]) (fun x6 hF=>?_) fun _ hj4 hF=>?_
  ·exact wl hΦ hF
  refine wB ?_;obtain⟨b15,hb16,hψ11⟩:=hF;refine pR hb16 (fun i8 s7=>[(5,.v (vD s7)),(18,.v (vC a1)),(19,.v (.int .i64 (a1.length:Int))),(20,.v (.int .i64 i8))]) (fun s7 _ hN17=>?_) fun i8 s7 _ _ hi12 hi13 ho9 hg10 hF=>?_
  ·exact wn hN17 (hj4 _) hψ11
  refine wW ?_;refine wu hi12 hi13 ?_;refine wW ?_;refine wB ?_;obtain⟨x14,g,hF⟩:=Rx g hF;obtain⟨g,hF⟩:=Rg g hF;refine wW ?_;refine wK [5,18,19,20] ?_;exact wi hi12 hi13 (hg10 _) (zaa hF)
 refine wW ?_;refine wC hF [.sh] zh4 fun z19 hF=>?_
 refine wK [4] ?_;exact wm hΦ hF
@[go_sem] def zCv:List DE:=[d2 0 [2] 2 2,d0 1 [1],d2 3 [2] 2 2,d3 2 [5,6],d3 4 [8],d3 5 [7,9],d0 6 [10]]
def zdH(a0:Contest)(a1:List Int):Option Int:=
 (zc2 a0 a1).bind fun z1=>
 (zay a0).bind fun z2=>
 (zf0 z1 z2).bind fun z3=>
 some z3
theorem zi1:∀{a0}{a1}{r},zdH a0 a1=some r→PCalls Tryz.prog 124 [(.sh,vF a0),(.sh,vC a1)] (Eo (.int .i64 r) [.junk,.junk]):=by
 intro a0 a1 r hr;apply pF 11 [] [] [] [.tmp 4] hr zEj Tryz.func124;intro Φ hΦ hF g;unfold zdH at hF;refine wW ?_;refine wX zCv follows ?_;refine wC hF [.sh,.sh] ziq fun z1 hF=>?_
 refine wC hF [.sh] zfU fun z2 hF=>?_
 refine wC hF [.sh,.sh] zmC fun z3 hF=>?_
 exact wl hΦ hF
def zbA(a0:Contest)(a1:List Int):Option ((List Int)):=
 ((if(a0.Kind==1)=true then(
 some true)else(
 some (a0.Kind==2)):Option Bool).bind fun x3=>
 if x3=true then(
 (zc2 a0 a1).bind fun z6=>
 some z6)else(
 (zdH a0 a1).bind fun z7=>
 some [z7]))
theorem zhk:∀{a0}{a1}{r},zbA a0 a1=some r→PCalls Tryz.prog 53 [(.sh,vF a0),(.sh,vC a1)] (Eo (vD r) [.junk,.junk]):=by
 intro a0 a1 r hr;apply pF 20 [] [] [] [.tmp 4] hr zLw Tryz.func53;intro Φ hΦ hF g;unfold zbA at hF;refine wW ?_;refine wJ hF (fun x3=>[(1,.v (vC a1)),(2,.bl [.int .i64 a0.Kind,.int .i64 a0.Options,.int .i64 a0.Least,.int .i64 a0.Most,.int .i64 a0.Points]),(12,.v (.bool x3))]) (fun x3 hF=>?_) fun _ hj1 hF=>?_
 ·refine wI hF (fun h5 hF=>?_) fun h5 hF=>?_
  ·refine wC hF [.sh,.sh] ziq fun z6 hF=>?_
   exact wl hΦ hF
  refine wW ?_;refine wC hF [.sh,.sh] zi1 fun z7 hF=>?_
  exact wl hΦ hF
 refine wG hF (fun h4 hF=>?_) fun h4 hF=>?_
 ·exact wV h4 (hj1 _) (zaa hF)
 exact wV h4 (hj1 _) (zaa hF)
def zd1(a0:ByteArray):Option Bool:=
 some (decide ((a0.size:Int)≤40))
theorem zi3:∀{a0}{r},zd1 a0=some r→PCalls Tryz.prog 128 [(.sh,.str a0)] (Eo (.bool r) [.junk]):=by
 intro a0 r hr;apply pF 6 [] [] [] [.tmp 2] hr zGv Tryz.func128;intro Φ hΦ hF g;unfold zd1 at hF;cases hΦ _ (zaa hF)
 iterate 2 refine wW ?_
 try simp[go_sem,g]
def zb0(a0:Int)(a1c0x0:Group):Option Bool:=
 (zcz a1c0x0 a0).bind fun z1=>
 some (!z1)
theorem ziu:∀{a0}{a1c0x0}{r},zb0 a0 a1c0x0=some r→PCalls Tryz.prog 181 [(.sh,.int .i64 a0),(.sh,.fp [.func (.func 47) [vE a1c0x0] []])] (Eo (.bool r) [.junk,.junk]):=by
 intro a0 a1c0x0 r hr;apply pF 8 [] [] [] [.tmp 3] hr zpU Tryz.func181;intro Φ hΦ hF g;unfold zb0 at hF;refine wW ?_;refine wC hF [.sh] zfK fun z1 hF=>?_
 exact wl hΦ hF
def zaV(a0:List Int)(a1u0c0x0:Group):Option Int:=
 ((zar (σ:=Unit) (fun i5 s4=>
 (ix a0 i5).bind fun x11=>
 (zb0 x11 a1u0c0x0).bind fun z12=>
 if z12=true then(
 some (.out (.inr i5)))else(
 some (.go ()))) (fun s4=>.inl ()) (a0.length) 0 ():Option (Unit ⊕ Int)).bind (Sum.elim (fun x3=>
 some (-1)) some))
theorem zeS:∀{a0}{a1u0c0x0}{r},zaV a0 a1u0c0x0=some r→PCalls Tryz.prog 219 [(.sh,vC a0),(.sh,.func (.func 181) [] [.fp [.func (.func 47) [vE a1u0c0x0] []]])] (Eo (.int .i64 r) [.junk,.junk]):=by
 intro a0 a1u0c0x0 r hr;apply pF 19 [] [] [] [.tmp 4] hr zo9 Tryz.func219;intro Φ hΦ hF g;unfold zaV at hF
 iterate 2 (try simp[go_sem,g];try intros;refine zap ?_)
 refine wS hF (fun x3=>[]) (fun x3 hF=>?_) fun _ hj1 hr2 hF=>?_
 ·exact wl hΦ hF
 refine wB ?_;obtain⟨b14,hb15,hψ8⟩:=hF;refine pR hb15 (fun i5 s4=>[(0,.v (vC a0)),(1,.v (.func (.func 181) [] [.fp [.func (.func 47) [vE a1u0c0x0] []]])),(7,.v (.int .i64 (a0.length:Int))),(8,.v (.int .i64 i5))]) (fun s4 _ hN16=>?_) fun i5 s4 _ _ hi9 hi10 ho6 hg7 hF=>?_
 ·exact wn hN16 (hj1 _) hψ8
 refine wW ?_;refine wu hi9 hi10 ?_;refine wW ?_;refine wB ?_;obtain⟨x11,g,hF⟩:=Rx g hF;refine wW ?_;refine wC hF [.sh] ziu fun z12 hF=>?_
 refine wK [0,1,5,7,8,16] ?_;refine wI hF (fun h13 hF=>?_) fun h13 hF=>?_
 ·cases ho6 _ (zaa hF);cases hΦ _ (hr2 _ hψ8);refine wW ?_;try simp[go_sem,g]
 refine wW ?_;exact wi hi9 hi10 (hg7 _) (zaa hF)
def zaO(a0:List Int)(a1u0c0x0:Group):Option Bool:=
 (zaV a0 a1u0c0x0).bind fun z1=>
 some (decide (0≤z1))
theorem zez:∀{a0}{a1u0c0x0}{r},zaO a0 a1u0c0x0=some r→PCalls Tryz.prog 180 [(.sh,vC a0),(.sh,.func (.func 181) [] [.fp [.func (.func 47) [vE a1u0c0x0] []]])] (Eo (.bool r) [.junk,.junk]):=by
 intro a0 a1u0c0x0 r hr;apply pF 9 [] [] [] [.tmp 4] hr zpW Tryz.func180;intro Φ hΦ hF g;unfold zaO at hF;refine wW ?_;refine wC hF [.sh,.sh] zeS fun z1 hF=>?_
 exact wl hΦ hF
def zc7(a0:List Int)(a1x0:Group):Option Bool:=
 (zaO a0 a1x0).bind fun z1=>
 some (!z1)
theorem ziW:∀{a0}{a1x0}{r},zc7 a0 a1x0=some r→PCalls Tryz.prog 103 [(.sh,vC a0),(.sh,.func (.func 47) [vE a1x0] [])] (Eo (.bool r) [.junk,.junk]):=by
 intro a0 a1x0 r hr;apply pF 9 [] [] [1000000] [.tmp 4] hr zpf Tryz.func103;intro Φ hΦ hF g;unfold zc7 at hF;refine wW ?_;refine wC hF [.sh,.sh] zez fun z1 hF=>?_
 exact wl hΦ hF
def zbV(a0:Group)(a1:List Int):Option Bool:=
 (zc7 a1 a0).bind fun z1=>
 some z1
theorem zfR:∀{a0}{a1}{r},zbV a0 a1=some r→PCalls Tryz.prog 207 [(.sh,vE a0),(.sh,vC a1)] (Eo (.bool r) [.junk,.junk]):=by
 intro a0 a1 r hr;apply pF 9 [] [] [] [.tmp 4] hr zED Tryz.func207;intro Φ hΦ hF g;unfold zbV at hF;refine wW ?_;refine wC hF [.sh,.sh] ziW fun z1 hF=>?_
 exact wl hΦ hF
def zdq(a0:List Int)(a1c0:(List (List Int)))(a2c0:Int)(a2c1:Int)(a2c2:Int):Option Bool:=
 (((ix a1c0 0).bind fun x4=>
 if((a0.length:Int) !=(x4.length:Int))=true then(
 some true)else(
 (zbV (Group.mk a2c0 a2c1 a2c2) a0).bind fun z6=>
 some (!z6)):Option Bool).bind fun x3=>
 some x3)
theorem zkW:∀{a0}{a1c0}{a2c0}{a2c1}{a2c2}{r},zdq a0 a1c0 a2c0 a2c1 a2c2=some r→PCalls Tryz.prog 225 [(.sh,vC a0),(.sh,.fp [vG a1c0]),(.sh,.fp [.int .i64 a2c0,.int .i64 a2c1,.int .i64 a2c2])] (Eo (.bool r) [.junk,.junk,.junk]):=by
 intro a0 a1c0 a2c0 a2c1 a2c2 r hr;apply pF 18 [] [] [] [.tmp 4] hr zGk Tryz.func225;intro Φ hΦ hF g;unfold zdq at hF;refine wW ?_;refine wJ hF (fun x3=>[(4,.v (.bool x3))]) (fun x3 hF=>?_) fun _ hj1 hF=>?_
 ·exact wm hΦ hF
 obtain⟨x4,g,hF⟩:=Rxn g 0 hF;try simp[go_sem,g]
 try intros
 refine wG hF (fun h5 hF=>?_) fun h5 hF=>?_
 ·exact wV h5 (hj1 _) (zaa hF)
 try simp[go_sem,g,h5]
 refine wC hF [.sh,.sh] zfR fun z6 hF=>?_
 exact wV h5 (hj1 _) (zaa hF)
def zaQ(a0:(List (List Int)))(a1u0c0:(List (List Int)))(a1u1c0:Int)(a1u1c1:Int)(a1u1c2:Int):Option Int:=
 ((zar (σ:=Unit) (fun i5 s4=>
 (ix a0 i5).bind fun x11=>
 (zdq x11 a1u0c0 a1u1c0 a1u1c1 a1u1c2).bind fun z12=>
 if z12=true then(
 some (.out (.inr i5)))else(
 some (.go ()))) (fun s4=>.inl ()) (a0.length) 0 ():Option (Unit ⊕ Int)).bind (Sum.elim (fun x3=>
 some (-1)) some))
theorem zfM:∀{a0}{a1u0c0}{a1u1c0}{a1u1c1}{a1u1c2}{r},zaQ a0 a1u0c0 a1u1c0 a1u1c1 a1u1c2=some r→PCalls Tryz.prog 236 [(.sh,vG a0),(.sh,.func (.func 225) [] [.fp [vG a1u0c0],.fp [.int .i64 a1u1c0,.int .i64 a1u1c1,.int .i64 a1u1c2]])] (Eo (.int .i64 r) [.junk,.junk]):=by
 intro a0 a1u0c0 a1u1c0 a1u1c1 a1u1c2 r hr;apply pF 19 [] [] [] [.tmp 4] hr zFe Tryz.func236;intro Φ hΦ hF g;unfold zaQ at hF
 iterate 2 (try simp[go_sem,g];try intros;refine zap ?_)
 refine wS hF (fun x3=>[]) (fun x3 hF=>?_) fun _ hj1 hr2 hF=>?_
 ·exact wl hΦ hF
 refine wB ?_;obtain⟨b14,hb15,hψ8⟩:=hF;refine pR hb15 (fun i5 s4=>[(0,.v (vG a0)),(1,.v (.func (.func 225) [] [.fp [vG a1u0c0],.fp [.int .i64 a1u1c0,.int .i64 a1u1c1,.int .i64 a1u1c2]])),(7,.v (.int .i64 (a0.length:Int))),(8,.v (.int .i64 i5))]) (fun s4 _ hN16=>?_) fun i5 s4 _ _ hi9 hi10 ho6 hg7 hF=>?_
 ·exact wn hN16 (hj1 _) hψ8
 refine wW ?_;refine wu hi9 hi10 ?_;refine wW ?_;refine wB ?_;obtain⟨x11,g,hF⟩:=Rx g hF;refine wW ?_;refine wC hF [.sh] zkW fun z12 hF=>?_
 refine wK [0,1,5,7,8,16] ?_;refine wI hF (fun h13 hF=>?_) fun h13 hF=>?_
 ·cases ho6 _ (zaa hF);cases hΦ _ (hr2 _ hψ8);refine wW ?_;try simp[go_sem,g]
 refine wW ?_;exact wi hi9 hi10 (hg7 _) (zaa hF)
def za4(a0:(List (List Int)))(a1u0c0:(List (List Int)))(a1u1c0:Int)(a1u1c1:Int)(a1u1c2:Int):Option Bool:=
 (zaQ a0 a1u0c0 a1u1c0 a1u1c1 a1u1c2).bind fun z1=>
 some (decide (0≤z1))
theorem zfw:∀{a0}{a1u0c0}{a1u1c0}{a1u1c1}{a1u1c2}{r},za4 a0 a1u0c0 a1u1c0 a1u1c1 a1u1c2=some r→PCalls Tryz.prog 224 [(.sh,vG a0),(.sh,.func (.func 225) [] [.fp [vG a1u0c0],.fp [.int .i64 a1u1c0,.int .i64 a1u1c1,.int .i64 a1u1c2]])] (Eo (.bool r) [.junk,.junk]):=by
 intro a0 a1u0c0 a1u1c0 a1u1c1 a1u1c2 r hr;apply pF 9 [] [] [] [.tmp 4] hr zFu Tryz.func224;intro Φ hΦ hF g;unfold za4 at hF;refine wW ?_;refine wC hF [.sh,.sh] zfM fun z1 hF=>?_
 exact wl hΦ hF
def zdi(a0:Group)(a1:(List (List Int))):Option Bool:=
 (((zaD (a1.length:Int) 1 8).bind fun z4=>
 if(!z4)=true then(
 some true)else(
 (ix a1 0).bind fun x6=>
 (zaD (x6.length:Int) 1 8).bind fun z7=>
 some (!z7)):Option Bool).bind fun x3=>
 if x3=true then(
 some false)else(
 (za4 a1 a1 a0.P a0.Q a0.G).bind fun z9=>
 some (!z9)))
theorem ziA:∀{a0}{a1}{r},zdi a0 a1=some r→PCalls Tryz.prog 192 [(.sh,vE a0),(.sh,vG a1)] (Eo (.bool r) [.junk,.junk]):=by
 intro a0 a1 r hr;apply pF 21 [] [] [1000000] [.tmp 4] hr zE1 Tryz.func192;intro Φ hΦ hF g;unfold zdi at hF;refine wW ?_;refine wJ hF (fun x3=>[(2,.bl [.int .i64 a0.P,.int .i64 a0.Q,.int .i64 a0.G]),(3,.bl [vG a1]),(16,.v (.bool x3))]) (fun x3 hF=>?_) fun _ hj1 hF=>?_
 ·refine wI hF (fun h8 hF=>?_) fun h8 hF=>?_
  ·exact wl hΦ hF
  refine wW ?_;refine wC hF [.sh,.sh] zfw fun z9 hF=>?_
  exact wl hΦ hF
 try simp[go_sem,g]
 try intros
 refine wC hF [.sh,.sh,.sh] za2 fun z4 hF=>?_
 refine wG hF (fun h5 hF=>?_) fun h5 hF=>?_
 ·exact wV h5 (hj1 _) (zaa hF)
 obtain⟨x6,g,hF⟩:=Rxn g 0 hF;try simp[go_sem,g,h5]
 try intros
 refine wC hF [.sh,.sh,.sh] za2 fun z7 hF=>?_
 exact wV h5 (hj1 _) (zaa hF)
def zhJ(a0:Int)(a1:Int):Option Int:=
 gd (a1≠0)<|
 gd (a1≠0)<|
 some ((i64.wrap ((a0.tmod a1)+a1)).tmod a1)
theorem zpB:∀{a0}{a1}{r},zhJ a0 a1=some r→PCalls Tryz.prog 127 [(.sh,.int .i64 a0),(.sh,.int .i64 a1)] (Eo (.int .i64 r) [.junk,.junk]):=by
 intro a0 a1 r hr;apply pF 12 [] [] [] [.tmp 4] hr zEp Tryz.func127;intro Φ hΦ hF g;unfold zhJ at hF;obtain⟨g,hF⟩:=Rz g hF;obtain⟨g,hF⟩:=Rz g hF;cases hΦ _ (zaa hF)
 iterate 2 refine wW ?_
 try simp[go_sem,g]
@[go_sem] def zGP:List DE:=[d0 0 [1],d0 1 [2],d1 2 [3] 3,d2 3 [9] 3 9,d1 5 [3] 3,d2 6 [12] 3 12,d3 4 [8,10],d3 7 [7,11,13],d0 8 [14]]
def zav(a0:Group)(a1:Int)(a2:Int):Option Int:=
 (zhJ a2 a0.Q).bind fun z1=>
 (ze8 a1 z1 a0.P).bind fun z2=>
 some z2
theorem zaR:∀{a0}{a1}{a2}{r},zav a0 a1 a2=some r→PCalls Tryz.prog 57 [(.sh,vE a0),(.sh,.int .i64 a1),(.sh,.int .i64 a2)] (Eo (.int .i64 r) [.junk,.junk,.junk]):=by
 intro a0 a1 a2 r hr;apply pF 15 [] [] [] [.tmp 6] hr zKB Tryz.func57;intro Φ hΦ hF g;unfold zav at hF;refine wW ?_;refine wX zGP follows ?_;refine wC hF [.sh,.sh] zpB fun z1 hF=>?_
 refine wC hF [.sh,.sh,.sh] zkK fun z2 hF=>?_
 refine wK [6] ?_;exact wm hΦ hF
def zaP(a0:Group)(a1:List Int):Option Int:=
 ((zar (σ:=Int) (fun i5 s4=>
 (ix a1 i5).bind fun x11=>
 gd (a0.P≠0)<|
 some (.go ((i64.wrap (s4*x11)).tmod a0.P))) (fun s4=>s4) (a1.length) 0 1:Option Int).bind fun x3=>
 some x3)
theorem zcc:∀{a0}{a1}{r},zaP a0 a1=some r→PCalls Tryz.prog 126 [(.sh,vE a0),(.sh,vC a1)] (Eo (.int .i64 r) [.junk,.junk]):=by
 intro a0 a1 r hr;apply pF 22 [] [] [] [.tmp 4] hr zFc Tryz.func126;intro Φ hΦ hF g;unfold zaP at hF
 iterate 3 (try simp[go_sem,g];try intros;refine zap ?_)
 refine wJ hF (fun x3=>[(5,.v (.int .i64 x3))]) (fun x3 hF=>?_) fun _ hj1 hF=>?_
 ·exact wl hΦ hF
 refine wB ?_;obtain⟨b12,hb13,hψ8⟩:=hF;refine pR hb13 (fun i5 s4=>[(2,.bl [.int .i64 a0.P,.int .i64 a0.Q,.int .i64 a0.G]),(5,.v (.int .i64 s4)),(8,.v (vC a1)),(9,.v (.int .i64 (a1.length:Int))),(10,.v (.int .i64 i5))]) (fun s4 _ hN14=>?_) fun i5 s4 _ _ hi9 hi10 ho6 hg7 hF=>?_
 ·exact wn hN14 (hj1 _) hψ8
 refine wW ?_;refine wu hi9 hi10 ?_;refine wW ?_;refine wB ?_;obtain⟨x11,g,hF⟩:=Rx g hF;refine wK [2,5,7,8,9,10] ?_;obtain⟨g,hF⟩:=Rz g hF;refine wW ?_;exact wi hi9 hi10 (hg7 _) (zaa hF)
@[go_sem] def zCU:List DE:=[d2 0 [3] 3 3,d0 1 [7],d2 2 [3] 3 3,d0 3 [9],d0 4 [2],d0 5 [8],d0 6 [21,22],d0 7 [23],d3 8 [19,20,24],d0 9 [18,25],⟨10,[17,26],[],none,true,true,true⟩,d0 11 [27]]
def zeK(a0:Group)(a1:List Int)(a2:List Int):Option Int:=
 ((zar (σ:=Int) (fun i5 s4=>
 (ix a1 i5).bind fun x11=>
 (ix a2 i5).bind fun x12=>
 (zav a0 x11 x12).bind fun z13=>
 (zaP a0 [s4,z13]).bind fun z14=>
 some (.go z14)) (fun s4=>s4) (a1.length) 0 1:Option Int).bind fun x3=>
 some x3)
theorem zmQ:∀{a0}{a1}{a2}{r},zeK a0 a1 a2=some r→PCalls Tryz.prog 227 [(.sh,vE a0),(.sh,vC a1),(.sh,vC a2)] (Eo (.int .i64 r) [.junk,.junk,.junk]):=by
 intro a0 a1 a2 r hr;apply pF 30 [] [] [] [.tmp 6] hr zG4 Tryz.func227;intro Φ hΦ hF g;unfold zeK at hF
 iterate 3 (try simp[go_sem,g];try intros;refine zap ?_)
 refine wJ hF (fun x3=>[(7,.v (.int .i64 x3))]) (fun x3 hF=>?_) fun _ hj1 hF=>?_
 ·exact wl hΦ hF
 refine wB ?_;obtain⟨b15,hb16,hψ8⟩:=hF;refine pR hb16 (fun i5 s4=>[(2,.v (vC a2)),(3,.bl [.int .i64 a0.P,.int .i64 a0.Q,.int .i64 a0.G]),(7,.v (.int .i64 s4)),(10,.v (vC a1)),(11,.v (.int .i64 (a1.length:Int))),(12,.v (.int .i64 i5))]) (fun s4 _ hN17=>?_) fun i5 s4 _ _ hi9 hi10 ho6 hg7 hF=>?_
 ·exact wn hN17 (hj1 _) hψ8
 refine wW ?_;refine wu hi9 hi10 ?_;refine wW ?_;refine wB ?_;obtain⟨x11,g,hF⟩:=Rx g hF;refine wK [2,3,7,8,9,10,11,12] ?_;refine wX zCU follows ?_;obtain⟨x12,g,hF⟩:=Rx g hF;refine wC hF [.sh,.sh,.sh] zaR fun z13 hF=>?_
 refine wC hF [.sh,.sh] zcc fun z14 hF=>?_
 refine wK [2,3,7,10,11,12] ?_;exact wi hi9 hi10 (hg7 _) (zaa hF)
def zcN(a0:Group)(a1:(List (List Int)))(a2:List Int):Option ((List Int)):=
 ((zar (σ:=(List Int)) (fun i5 s4=>
 (ix a1 i5).bind fun x11=>
 (zeK a0 x11 a2).bind fun z12=>
 gd ((s4.length+1)*8≤140737488355328∧s4.length+1≤4611686018427387904)<|
 some (.go (s4++[z12]))) (fun s4=>s4) (a1.length) 0 []:Option ((List Int))).bind fun x3=>
 some x3)
theorem zg4:∀{a0}{a1}{a2}{r},zcN a0 a1 a2=some r→PCalls Tryz.prog 208 [(.sh,vE a0),(.sh,vG a1),(.sh,vC a2)] (Eo (vD r) [.junk,.junk,.junk]):=by
 intro a0 a1 a2 r hr;apply pF 26 [] [] [] [.tmp 6] hr zEX Tryz.func208;intro Φ hΦ hF g;unfold zcN at hF
 iterate 3 (try simp[go_sem,g];try intros;refine zap ?_)
 refine wJ hF (fun x3=>[(7,.v (vD x3))]) (fun x3 hF=>?_) fun _ hj1 hF=>?_
 ·exact wl hΦ hF
 refine wB ?_;obtain⟨b13,hb14,hψ8⟩:=hF;refine pR hb14 (fun i5 s4=>[(2,.v (vC a2)),(3,.bl [.int .i64 a0.P,.int .i64 a0.Q,.int .i64 a0.G]),(7,.v (vD s4)),(11,.v (vG a1)),(12,.v (.int .i64 (a1.length:Int))),(13,.v (.int .i64 i5))]) (fun s4 _ hN15=>?_) fun i5 s4 _ _ hi9 hi10 ho6 hg7 hF=>?_
 ·exact wn hN15 (hj1 _) hψ8
 refine wW ?_;refine wu hi9 hi10 ?_;refine wW ?_;refine wB ?_;obtain⟨x11,g,hF⟩:=Rx g hF;refine wK [2,3,7,9,11,12,13] ?_;refine wC hF [.sh,.sh,.sh] zmQ fun z12 hF=>?_
 obtain⟨g,hF⟩:=Rg g hF;refine wW ?_;exact wi hi9 hi10 (hg7 _) (zaa hF)
theorem zEH:zv7 Tryz.prog 211 28:=by
 intro n H e b es by_ z e1 e2 h0 h1 h2 h3 h4 h5;refine zny zG2 Tryz.func211 rfl rfl (by simp[Tryz.f211]) fun hw=>?_
 have hn:¬n<0:=by omega
 have hw1:i64.wrap n=n:=wrI (by omega);have hw0:i64.wrap 0=0:=wrI (by omega);have ei:(zfe Tryz.prog 3).isSome=true:=by kernel_rfl
 by_cases hp:0<n
 ·have hne:n≠0:=by omega
  have h5':=h5;simp[zat]at h5';simp[Tryz.f211,awp,ziJ,aop,ahp,zaU,zby,zaY,mat,zbt,zaA,zry,FR.put,FR.init,rdv,rda,zb9,zeO,zat,Am.lenV,zgj,zd5,bnd,zoy,zv9,zjG,zll,zoH,hn,e1,e2,ei,hw1,hw0,hp,h1,h2,h3,h4,hne]
  first|exact h5'|exact .inl h5'
 have hz:n=0:=by omega
 subst hz;simp[Tryz.f211,awp,ziJ,aop,ahp,zaU,zby,zaY,mat,zbt,zaA,zry,FR.put,FR.init,rdv,rda,zb9,zeO,zat,Am.lenV,zgj,zd5,bnd,zoy,zv9,zjG,zll,zoH,hn,e1,e2,hw1,hw0,hp]
def zbn(a0:(List (List Int))):Option ((List Int)):=
 ((zar (σ:=Int) (fun i5 s4=>
 (ix a0 i5).bind fun x11=>
 if decide ((i64.wrap (s4+(x11.length:Int)))<0)=true then(
 none)else(
 some (.go (i64.wrap (s4+(x11.length:Int)))))) (fun s4=>s4) (a0.length) 0 0:Option Int).bind fun x3=>
 gd (0≤x3∧8*x3≤140737488355328∧x3≤4611686018427387904)<|
 ((zar (σ:=(List Int)) (fun i22 s21=>
 (ix a0 i22).bind fun x28=>
 gd ((s21.length+x28.length)*8≤140737488355328∧s21.length+x28.length≤4611686018427387904)<|
 some (.go (s21++x28))) (fun s21=>s21) (a0.length) 0 []:Option ((List Int))).bind fun x20=>
 some x20))
theorem zdn:∀{a0}{r},zbn a0=some r→PCalls Tryz.prog 158 [(.sh,vG a0)] (Eo (vD r) [.junk]):=by
 intro a0 r hr;apply pF 36 [] [] [] [.tmp 2] hr zHr Tryz.func158;intro Φ hΦ hF g;unfold zbn at hF
 iterate 3 (try simp[go_sem,g];try intros;refine zap ?_)
 refine wJ hF (fun x3=>[(0,.v (vG a0)),(3,.v (.int .i64 x3))]) (fun x3 hF=>?_) fun _ hj1 hF=>?_
 ·obtain⟨g17,hF⟩:=zhG hF;try simp[go_sem,g]
  refine zAX zEH zJh (by simp[go_sem,g]) g17 ?_;try simp[go_sem,g]
  try intros
  refine zap ?_;try simp[go_sem,g]
  try intros
  refine wK [6,25,26,27] ?_;refine wJ hF (fun x20=>[(6,.v (vD x20))]) (fun x20 hF=>?_) fun _ hj18 hF=>?_
  ·exact wl hΦ hF
  refine wB ?_;obtain⟨b29,hb30,hψ25⟩:=hF;refine pR hb30 (fun i22 s21=>[(6,.v (vD s21)),(25,.v (vG a0)),(26,.v (.int .i64 (a0.length:Int))),(27,.v (.int .i64 i22))]) (fun s21 _ hN31=>?_) fun i22 s21 _ _ hi26 hi27 ho23 hg24 hF=>?_
  ·exact wn hN31 (hj18 _) hψ25
  refine wW ?_;refine wu hi26 hi27 ?_;refine wW ?_;refine wB ?_;obtain⟨x28,g,hF⟩:=Rx g hF;obtain⟨g,hF⟩:=Rg g hF
  iterate 2 refine wW ?_
  exact wi hi26 hi27 (hg24 _) (zaa hF)
 refine wB ?_;obtain⟨b13,hb14,hψ8⟩:=hF;refine pR hb14 (fun i5 s4=>[(0,.v (vG a0)),(3,.v (.int .i64 s4)),(9,.v (vG a0)),(10,.v (.int .i64 (a0.length:Int))),(11,.v (.int .i64 i5))]) (fun s4 _ hN15=>?_) fun i5 s4 _ _ hi9 hi10 ho6 hg7 hF=>?_
 ·exact wn hN15 (hj1 _) hψ8
 refine wW ?_;refine wu hi9 hi10 ?_;refine wW ?_;refine wB ?_;obtain⟨x11,g,hF⟩:=Rx g hF;try simp[go_sem,g]
 try intros
 refine zap ?_;try simp[go_sem,g]
 try intros
 refine wK [0,3,9,10,11] ?_;refine wW ?_;refine wI hF (fun h12 hF=>?_) fun h12 hF=>?_
 ·exact(zud hF).elim
 refine wW ?_;exact wi hi9 hi10 (hg7 _) (zaa hF)
def zg6(a0:ByteArray)(a1:List Int):Option ((List Int)):=
 ((zaH (σ:=(List Int)×Int) (fun s4=>
 if decide (s4.2<(a0.size:Int))=true then(
 (ixs a0 s4.2).bind fun x10=>
 gd ((s4.1.length+1)*8≤140737488355328∧s4.1.length+1≤4611686018427387904)<|
 some (.go (s4.1++[i64.wrap x10],i64.wrap (s4.2+1))))else(
 some (.out s4.1))) ([(a0.size:Int)],0):Option ((List Int))).bind fun x3=>
 gd ((x3.length+a1.length)*8≤140737488355328∧x3.length+a1.length≤4611686018427387904)<|
 some (x3++a1))
theorem zpN:∀{a0}{a1}{r},zg6 a0 a1=some r→PCalls Tryz.prog 107 [(.sh,.str a0),(.sh,vC a1)] (Eo (vD r) [.junk,.junk]):=by
 intro a0 a1 r hr;apply pF 26 [] [] [] [.tmp 4] hr zEd Tryz.func107;intro Φ hΦ hF g;unfold zg6 at hF
 iterate 3 refine wW ?_
 refine wJ hF (fun x3=>[(1,.v (vC a1)),(5,.v (vD x3))]) (fun x3 hF=>?_) fun _ hj1 hF=>?_
 ·obtain⟨g,hF⟩:=Rg g hF;refine wK [4] ?_;exact wm hΦ hF
 refine wB ?_;obtain⟨b11,hb12,hψ8⟩:=hF;refine pL hb12 (fun s4=>[(0,.v (.str a0)),(1,.v (vC a1)),(5,.v (vD s4.1)),(11,.v (.int .i64 (a0.size:Int))),(12,.v (.int .i64 s4.2))]) fun s4 _ _ ho6 hg7 hF=>?_
 refine wW ?_;refine wI hF (fun h9 hF=>?_) fun h9 hF=>?_
 ·refine wW ?_;refine wB ?_;refine wK [0,1,5,6,11,12] ?_;obtain⟨x10,g,hF⟩:=Rxs g hF;obtain⟨g,hF⟩:=Rg g hF;refine wW ?_;exact wT (hg7 _) (zaa hF)
 cases ho6 _ (zaa hF);exact wT (hj1 _) hψ8
def zgd(a0:Int):Option Bool:=
 (zaD a0 0 4611686018427387903).bind fun z1=>
 some z1
theorem zpA:∀{a0}{r},zgd a0=some r→PCalls Tryz.prog 31 [(.sh,.int .i64 a0)] (Eo (.bool r) [.junk]):=by
 intro a0 r hr;apply pF 5 [] [] [] [.tmp 2] hr zJf Tryz.func31;intro Φ hΦ hF g;unfold zgd at hF;refine wW ?_;refine wC hF [.sh,.sh,.sh] za2 fun z1 hF=>?_
 exact wl hΦ hF
def zbd(a0:Int):Option Bool:=
 (zgd a0).bind fun z1=>
 some (!z1)
theorem ziC:∀{a0}{r},zbd a0=some r→PCalls Tryz.prog 181 [(.sh,.int .i64 a0),(.sh,.fp [.func (.func 31) [] []])] (Eo (.bool r) [.junk,.junk]):=by
 intro a0 r hr;apply pF 8 [] [] [] [.tmp 3] hr zpU Tryz.func181;intro Φ hΦ hF g;unfold zbd at hF;refine wW ?_;refine wC hF [.sh] zpA fun z1 hF=>?_
 exact wl hΦ hF
def zbx(a0:List Int):Option Int:=
 ((zar (σ:=Unit) (fun i5 s4=>
 (ix a0 i5).bind fun x11=>
 (zbd x11).bind fun z12=>
 if z12=true then(
 some (.out (.inr i5)))else(
 some (.go ()))) (fun s4=>.inl ()) (a0.length) 0 ():Option (Unit ⊕ Int)).bind (Sum.elim (fun x3=>
 some (-1)) some))
theorem zeY:∀{a0}{r},zbx a0=some r→PCalls Tryz.prog 219 [(.sh,vC a0),(.sh,.func (.func 181) [] [.fp [.func (.func 31) [] []]])] (Eo (.int .i64 r) [.junk,.junk]):=by
 intro a0 r hr;apply pF 19 [] [] [] [.tmp 4] hr zo9 Tryz.func219;intro Φ hΦ hF g;unfold zbx at hF
 iterate 2 (try simp[go_sem,g];try intros;refine zap ?_)
 refine wS hF (fun x3=>[]) (fun x3 hF=>?_) fun _ hj1 hr2 hF=>?_
 ·exact wl hΦ hF
 refine wB ?_;obtain⟨b14,hb15,hψ8⟩:=hF;refine pR hb15 (fun i5 s4=>[(0,.v (vC a0)),(1,.v (.func (.func 181) [] [.fp [.func (.func 31) [] []]])),(7,.v (.int .i64 (a0.length:Int))),(8,.v (.int .i64 i5))]) (fun s4 _ hN16=>?_) fun i5 s4 _ _ hi9 hi10 ho6 hg7 hF=>?_
 ·exact wn hN16 (hj1 _) hψ8
 refine wW ?_;refine wu hi9 hi10 ?_;refine wW ?_;refine wB ?_;obtain⟨x11,g,hF⟩:=Rx g hF;refine wW ?_;refine wC hF [.sh] ziC fun z12 hF=>?_
 refine wK [0,1,5,7,8,16] ?_;refine wI hF (fun h13 hF=>?_) fun h13 hF=>?_
 ·cases ho6 _ (zaa hF);cases hΦ _ (hr2 _ hψ8);refine wW ?_;try simp[go_sem,g]
 refine wW ?_;exact wi hi9 hi10 (hg7 _) (zaa hF)
def zbh(a0:List Int):Option Bool:=
 (zbx a0).bind fun z1=>
 some (decide (0≤z1))
theorem zeE:∀{a0}{r},zbh a0=some r→PCalls Tryz.prog 180 [(.sh,vC a0),(.sh,.func (.func 181) [] [.fp [.func (.func 31) [] []]])] (Eo (.bool r) [.junk,.junk]):=by
 intro a0 r hr;apply pF 9 [] [] [] [.tmp 4] hr zpW Tryz.func180;intro Φ hΦ hF g;unfold zbh at hF;refine wW ?_;refine wC hF [.sh,.sh] zeY fun z1 hF=>?_
 exact wl hΦ hF
def zbO(a0:List Int):Option Bool:=
 (zbh a0).bind fun z1=>
 some (!z1)
theorem zgA:∀{a0}{r},zbO a0=some r→PCalls Tryz.prog 103 [(.sh,vC a0),(.sh,.func (.func 31) [] [])] (Eo (.bool r) [.junk,.junk]):=by
 intro a0 r hr;apply pF 9 [] [] [1000000] [.tmp 4] hr zpf Tryz.func103;intro Φ hΦ hF g;unfold zbO at hF;refine wW ?_;refine wC hF [.sh,.sh] zeE fun z1 hF=>?_
 exact wl hΦ hF
def zfv(a0:List Int):Option Bool:=
 ((if decide ((a0.length:Int)≤400)=true then(
 (zbO a0).bind fun z5=>
 some z5)else(
 some false):Option Bool).bind fun x3=>
 some x3)
theorem zob:∀{a0}{r},zfv a0=some r→PCalls Tryz.prog 183 [(.sh,vC a0)] (Eo (.bool r) [.junk]):=by
 intro a0 r hr;apply pF 10 [] [] [] [.tmp 2] hr zGY Tryz.func183;intro Φ hΦ hF g;unfold zfv at hF;refine wW ?_;refine wJ hF (fun x3=>[(2,.v (.bool x3))]) (fun x3 hF=>?_) fun _ hj1 hF=>?_
 ·exact wm hΦ hF
 try simp[go_sem,g]
 try intros
 refine wG hF (fun h4 hF=>?_) fun h4 hF=>?_
 ·try simp[go_sem,g,h4]
  refine wC hF [.sh,.sh] zgA fun z5 hF=>?_
  exact wV h4 (hj1 _) (zaa hF)
 exact wV h4 (hj1 _) (zaa hF)
def zhZ(a0:List Int):Option Int:=
 gd (([(a0.length:Int)].length+a0.length)*8≤140737488355328∧[(a0.length:Int)].length+a0.length≤4611686018427387904)<|
 (some ([(a0.length:Int)]++a0)).bind fun x1=>
 ((zar (σ:=Int×Int) (fun i7 s6=>
 (ix x1 i7).bind fun x13=>
 some (.go ((i64.wrap ((i64.wrap ((i64.wrap (48271*((i64.wrap ((i64.wrap ((i64.wrap (48271*s6.1))+(i64.wrap ((BitVec.ofInt i64.bits x13&&&BitVec.ofInt i64.bits 2147483647).toNat))))+1)).tmod 2147483647)))+(x13.fdiv 2147483648)))+1)).tmod 2147483647,(i64.wrap ((i64.wrap ((i64.wrap (69621*((i64.wrap ((i64.wrap ((i64.wrap (69621*s6.2))+(i64.wrap ((BitVec.ofInt i64.bits x13&&&BitVec.ofInt i64.bits 2147483647).toNat))))+1)).tmod 2147483647)))+(x13.fdiv 2147483648)))+1)).tmod 2147483647))) (fun s6=>(s6.1,s6.2)) (x1.length) 0 (1,2):Option ((Int×Int))).bind fun x5=>
 some (i64.wrap ((i64.wrap (x5.1*2147483648))+x5.2)))
theorem ztO:∀{a0}{r},zhZ a0=some r→PCalls Tryz.prog 184 [(.sh,vC a0)] (Eo (.int .i64 r) [.junk]):=by
 intro a0 r hr;apply pF 52 [] [] [] [.tmp 2] hr zEL Tryz.func184;intro Φ hΦ hF g;unfold zhZ at hF;obtain⟨g,hF⟩:=Rg g hF;obtain⟨x1,e2,hF⟩:=zfB hF;have g:=And.intro g (show[.int .i64 (a0.length:Int)]::(List.map zam a0)=x1.map zam by injection e2 with e2;rw[←e2];simp[go_sem])
 iterate 2 (try simp[go_sem,g];try intros;refine zap ?_)
 try simp[go_sem,g]
 try intros
 refine wK [3,4,13,14,15] ?_;refine wJ hF (fun x5=>[(3,.v (.int .i64 x5.1)),(4,.v (.int .i64 x5.2))]) (fun x5 hF=>?_) fun _ hj3 hF=>?_
 ·have g:=Ls g 31;exact wl hΦ hF
 refine wB ?_;obtain⟨b14,hb15,hψ10⟩:=hF;refine pR hb15 (fun i7 s6=>[(3,.v (.int .i64 s6.1)),(4,.v (.int .i64 s6.2)),(13,.v (vD x1)),(14,.v (.int .i64 (x1.length:Int))),(15,.v (.int .i64 i7))]) (fun s6 _ hN16=>?_) fun i7 s6 _ _ hi11 hi12 ho8 hg9 hF=>?_
 ·exact wn hN16 (hj3 _) hψ10
 refine wW ?_;refine wu hi11 hi12 ?_;refine wW ?_;refine wB ?_;obtain⟨x13,g,hF⟩:=Rx g hF;have g:=Ls g 31;refine wW ?_;refine wK [3,4,7,8,13,14,15] ?_;have g:=Ld g 2147483647;refine wW ?_;refine wK [3,4,7,8,13,14,15] ?_;refine wW ?_;refine wK [3,4,13,14,15] ?_;exact wi hi11 hi12 (hg9 _) (zaa hF)
def zgl(a0:List Int):Option (Int×Bool):=
 (zfv a0).bind fun z1=>
 if(!z1)=true then(
 some (0,false))else(
 (zhZ a0).bind fun z3=>
 some (z3,true))
theorem zpC:∀{a0}{r},zgl a0=some r→PCalls Tryz.prog 106 [(.sh,vC a0)] (Eo (.tup [.int .i64 r.1,.bool r.2]) [.junk]):=by
 intro a0 r hr;apply pF 9 [] [] [] [.tmp 2,.tmp 3] hr zF4 Tryz.func106;intro Φ hΦ hF g;unfold zgl at hF;refine wW ?_;refine wC hF [.sh] zob fun z1 hF=>?_
 refine wW ?_;refine wI hF (fun h2 hF=>?_) fun h2 hF=>?_
 ·exact wl hΦ hF
 refine wW ?_;refine wC hF [.sh] ztO fun z3 hF=>?_
 exact wl hΦ hF
def zeQ(a0:ByteArray)(a1:List Int):Option (Int×Bool):=
 ((if decide (40<(a0.size:Int))=true then(
 some true)else(
 some (decide (400<(a1.length:Int)))):Option Bool).bind fun x3=>
 if x3=true then(
 some (0,false))else(
 (zg6 a0 a1).bind fun z6=>
 (zgl z6).bind fun z7=>
 some (z7.1,z7.2)))
theorem zmO:∀{a0}{a1}{r},zeQ a0 a1=some r→PCalls Tryz.prog 41 [(.sh,.str a0),(.sh,vC a1)] (Eo (.tup [.int .i64 r.1,.bool r.2]) [.junk,.junk]):=by
 intro a0 a1 r hr;apply pF 20 [] [] [] [.tmp 4,.tmp 5] hr zKo Tryz.func41;intro Φ hΦ hF g;unfold zeQ at hF;refine wW ?_;refine wJ hF (fun x3=>[(0,.v (.str a0)),(1,.v (vC a1)),(13,.v (.bool x3))]) (fun x3 hF=>?_) fun _ hj1 hF=>?_
 ·refine wI hF (fun h5 hF=>?_) fun h5 hF=>?_
  ·exact wl hΦ hF
  refine wW ?_;refine wC hF [.sh,.sh] zpN fun z6 hF=>?_
  refine wC hF [.sh] zpC fun z7 hF=>?_
  refine wK [4,5] ?_;exact wm hΦ hF
 refine wG hF (fun h4 hF=>?_) fun h4 hF=>?_
 ·exact wV h4 (hj1 _) (zaa hF)
 try simp[go_sem,g,h4]
 try intros
 exact wT (hj1 _) (zaa hF)
def zbu(a0:Group)(a1:ByteArray)(a2:List Int):Option (Int×Bool):=
 gd (([a0.P,a0.Q,a0.G].length+a2.length)*8≤140737488355328∧[a0.P,a0.Q,a0.G].length+a2.length≤4611686018427387904)<|
 (zeQ a1 ([a0.P,a0.Q,a0.G]++a2)).bind fun z1=>
 if(!z1.2)=true then(
 some (0,false))else(
 gd (a0.Q≠0)<|
 some (z1.1.tmod a0.Q,true))
theorem zgp:∀{a0}{a1}{a2}{r},zbu a0 a1 a2=some r→PCalls Tryz.prog 197 [(.sh,vE a0),(.sh,.str a1),(.sh,vC a2)] (Eo (.tup [.int .i64 r.1,.bool r.2]) [.junk,.junk,.junk]):=by
 intro a0 a1 a2 r hr;apply pF 30 [] [] [] [.tmp 6,.tmp 7] hr zGW Tryz.func197;intro Φ hΦ hF g;unfold zbu at hF;obtain⟨g,hF⟩:=Rg g hF;refine wW ?_;refine wC hF [.sh,.sh] zmO fun z1 hF=>?_
 refine wK [3,8,9] ?_;refine wW ?_;refine wI hF (fun h2 hF=>?_) fun h2 hF=>?_
 ·exact wl hΦ hF
 obtain⟨g,hF⟩:=Rz g hF;cases hΦ _ (zaa hF)
 iterate 2 refine wW ?_
 try simp[go_sem,g]
def zbF(a0:Group)(a1:Int):Option Int:=
 (zhJ a1 a0.Q).bind fun z1=>
 some z1
theorem zgQ:∀{a0}{a1}{r},zbF a0 a1=some r→PCalls Tryz.prog 61 [(.sh,vE a0),(.sh,.int .i64 a1)] (Eo (.int .i64 r) [.junk,.junk]):=by
 intro a0 a1 r hr;apply pF 9 [] [] [] [.tmp 4] hr zK9 Tryz.func61;intro Φ hΦ hF g;unfold zbF at hF;refine wW ?_;refine wC hF [.sh,.sh] zpB fun z1 hF=>?_
 exact wl hΦ hF
@[go_sem] def zDv:List DE:=[d2 0 [5] 5 5,d0 1 [1],d0 2 [2],d2 4 [5] 5 5,d0 5 [2],d0 6 [3],d1 8 [12] 12,d2 9 [31] 12 31,d3 3 [25],d3 7 [27,28,29],d0 10 [26,30,32],⟨11,[33],[],none,true,true,true⟩,d3 12 [23,24,34],d0 13 [35],d0 14 [22],d0 15 [22],d0 16 [36],d0 17 [37]]
@[go_sem] def zBi:List DE:=[d1 0 [12] 12,d2 1 [51] 12 51,d2 2 [5] 5 5,d0 3 [16],d0 4 [13],d0 5 [3],d0 6 [15],d0 7 [56,57],d0 8 [58],d0 9 [55,59],d0 10 [54,60],d3 11 [53,61],d0 12 [62],⟨13,[52,63],[],none,true,false,false⟩,d1 14 [12] 12,d2 15 [65,64] 12 65]
def zc9(a0:Group)(a1:ByteArray)(a2:(List (List Int)))(a3:List Int)(a4:List Int):Option (Proof×Bool):=
 (zcN a0 a2 a4).bind fun z1=>
 (zbn a2).bind fun z2=>
 (zcN a0 a2 a3).bind fun z3=>
 (zbn [z2,z3,z1]).bind fun z4=>
 (zbu a0 a1 z4).bind fun z5=>
 if(!z5.2)=true then(
 some ((Proof.mk [] [] []),false))else(
 ((zar (σ:=(List Int)×List Int×List Int) (fun i21 s20=>
 (ix a4 i21).bind fun x27=>
 (ix a3 i21).bind fun x28=>
 (zbF a0 (i64.wrap (x27+(i64.wrap (z5.1*x28))))).bind fun z29=>
 gd ((s20.2.2.length+1)*8≤140737488355328∧s20.2.2.length+1≤4611686018427387904)<|
 some (.go (s20.1,s20.2.1,s20.2.2++[z29]))) (fun s20=>(s20.1,s20.2.1,s20.2.2)) (a4.length) 0 (z1,[z5.1],[]):Option ((List Int×List Int×List Int))).bind fun x9=>
 some ((Proof.mk x9.1 x9.2.1 x9.2.2),true)))
theorem zhv:∀{a0}{a1}{a2}{a3}{a4}{r},zc9 a0 a1 a2 a3 a4=some r→PCalls Tryz.prog 193 [(.sh,vE a0),(.sh,.str a1),(.sh,vG a2),(.sh,vC a3),(.sh,vC a4)] (Eo (.tup [vH r.1,.bool r.2]) [.junk,.junk,.junk,.junk,.junk]):=by
 intro a0 a1 a2 a3 a4 r hr;apply pFz 68 [] [26,30,32] [] [.cell 10 49,.tmp 11] hr zEU Tryz.func193;intro Φ hΦ hF g;unfold zc9 at hF;refine wW ?_;refine wC hF [.sh,.sh,.sh] zg4 fun z1 hF=>?_
 refine wK [1,2,3,4,5,10,12] ?_;refine wX zDv follows ?_;refine wC hF [.sh] zdn fun z2 hF=>?_
 refine wC hF [.sh,.sh,.sh] zg4 fun z3 hF=>?_
 refine wC hF [.sh] zdn fun z4 hF=>?_
 refine wC hF [.sh,.sh,.sh] zgp fun z5 hF=>?_
 refine wK [3,4,5,10,12,13,14] ?_;refine wW ?_;refine wI hF (fun h6 hF=>?_) fun h6 hF=>?_
 ·exact wl hΦ hF
 iterate 3 (try simp[go_sem,g];try intros;refine zap ?_)
 refine wJ hF (fun x9=>[(10,.bl [.sl true 1 [],.sl true 1 [],.sl true 1 []]),(12,.bl [vC x9.1,vD x9.2.1,vD x9.2.2])]) (fun x9 hF=>?_) fun _ hj7 hF=>?_
 ·refine wK [10,11] ?_;exact wm hΦ hF
 refine wB ?_;obtain⟨b30,hb31,hψ24⟩:=hF;refine pR hb31 (fun i21 s20=>[(3,.v (vC a3)),(5,.bl [.int .i64 a0.P,.int .i64 a0.Q,.int .i64 a0.G]),(10,.bl [.sl true 1 [],.sl true 1 [],.sl true 1 []]),(12,.bl [vC s20.1,vD s20.2.1,vD s20.2.2]),(13,.v (.int .i64 z5.1)),(44,.v (vC a4)),(45,.v (.int .i64 (a4.length:Int))),(46,.v (.int .i64 i21))]) (fun s20 _ hN32=>?_) fun i21 s20 _ _ hi25 hi26 ho22 hg23 hF=>?_
 ·exact wn hN32 (hj7 _) hψ24
 refine wK [3,5,10,12,13,44,45,46,47] ?_;refine wu hi25 hi26 ?_;refine wW ?_;refine wB ?_;obtain⟨x27,g,hF⟩:=Rx g hF;refine wW ?_;refine wX zBi follows ?_;obtain⟨x28,g,hF⟩:=Rx g hF;refine wC hF [.sh,.sh] zgQ fun z29 hF=>?_
 obtain⟨g,hF⟩:=Rg g hF;refine wK [3,5,10,12,13,44,45,46] ?_;exact wi hi25 hi26 (hg23 _) (zaa hF)
def zjs(a0:Group)(a1:ByteArray)(a2:(List (List Int)))(a3:List Int)(a4:List Int):Option (Proof×Bool):=
 (((zcl a0).bind fun z4=>
 if(!z4)=true then(
 some true)else(
 (zd1 a1).bind fun z6=>
 if(!z6)=true then(
 some true)else(
 (zdi a0 a2).bind fun z8=>
 if(!z8)=true then(
 some true)else(
 (ix a2 0).bind fun x10=>
 if((a3.length:Int) !=(x10.length:Int))=true then(
 some true)else(
 if((a4.length:Int) !=(a3.length:Int))=true then(
 some true)else(
 (zaM a0 a3).bind fun z13=>
 if(!z13)=true then(
 some true)else(
 (zaM a0 a4).bind fun z15=>
 some (!z15))))))):Option Bool).bind fun x3=>
 if x3=true then(
 some ((Proof.mk [] [] []),false))else(
 (zc9 a0 a1 a2 a3 a4).bind fun z17=>
 some (z17.1,z17.2)))
theorem zxc:∀{a0}{a1}{a2}{a3}{a4}{r},zjs a0 a1 a2 a3 a4=some r→PCalls Tryz.prog 125 [(.sh,vE a0),(.sh,.str a1),(.sh,vG a2),(.sh,vC a3),(.sh,vC a4)] (Eo (.tup [vH r.1,.bool r.2]) [.junk,.junk,.junk,.junk,.junk]):=by
 intro a0 a1 a2 a3 a4 r hr;apply pFz 63 [] [] [] [.cell 10 49,.tmp 11] hr zzM Tryz.func125;intro Φ hΦ hF g;unfold zjs at hF;refine wW ?_;refine wJ hF (fun x3=>[(1,.v (.str a1)),(2,.v (vG a2)),(3,.v (vC a3)),(4,.v (vC a4)),(5,.bl [.int .i64 a0.P,.int .i64 a0.Q,.int .i64 a0.G]),(10,.bl [.sl true 1 [],.sl true 1 [],.sl true 1 []]),(53,.v (.bool x3))]) (fun x3 hF=>?_) fun _ hj1 hF=>?_
 ·refine wI hF (fun h16 hF=>?_) fun h16 hF=>?_
  ·exact wl hΦ hF
  refine wW ?_;refine wC hF [.sh,.sh,.sh,.sh,.sh] zhv fun z17 hF=>?_
  refine wK [10,11] ?_;exact wm hΦ hF
 refine wC hF [.sh] zfS fun z4 hF=>?_
 refine wG hF (fun h5 hF=>?_) fun h5 hF=>?_
 ·exact wV h5 (hj1 _) (zaa hF)
 try simp[go_sem,g,h5]
 refine wC hF [.sh] zi3 fun z6 hF=>?_
 try simp[go_sem,g,h5]
 refine wG hF (fun h7 hF=>?_) fun h7 hF=>?_
 ·exact wV h7 (hj1 _) (zaa hF)
 try simp[go_sem,g,h7]
 refine wC hF [.sh,.sh] ziA fun z8 hF=>?_
 try simp[go_sem,g,h7]
 refine wG hF (fun h9 hF=>?_) fun h9 hF=>?_
 ·exact wV h9 (hj1 _) (zaa hF)
 obtain⟨x10,g,hF⟩:=Rxn g 0 hF;try simp[go_sem,g,h9]
 try intros
 refine wG hF (fun h11 hF=>?_) fun h11 hF=>?_
 ·exact wV h11 (hj1 _) (zaa hF)
 try simp[go_sem,g,h11]
 try intros
 refine wG hF (fun h12 hF=>?_) fun h12 hF=>?_
 ·exact wV h12 (hj1 _) (zaa hF)
 try simp[go_sem,g,h12]
 refine wC hF [.sh,.sh] zbJ fun z13 hF=>?_
 try simp[go_sem,g,h12]
 refine wG hF (fun h14 hF=>?_) fun h14 hF=>?_
 ·exact wV h14 (hj1 _) (zaa hF)
 try simp[go_sem,g,h14]
 refine wC hF [.sh,.sh] zbJ fun z15 hF=>?_
 exact wV h14 (hj1 _) (zaa hF)
def zcG(a0:Group)(a1:ByteArray)(a2:(List (List Int)))(a3:List Int)(a4:List Int):Option (Proof×Bool):=
 (((zcl a0).bind fun z4=>
 if(!z4)=true then(
 some true)else(
 (zd1 a1).bind fun z6=>
 if(!z6)=true then(
 some true)else(
 (zdi a0 a2).bind fun z8=>
 if(!z8)=true then(
 some true)else(
 (ix a2 0).bind fun x10=>
 if((a3.length:Int) !=(x10.length:Int))=true then(
 some true)else(
 if((a4.length:Int) !=(a3.length:Int))=true then(
 some true)else(
 (zaM a0 a3).bind fun z13=>
 if(!z13)=true then(
 some true)else(
 (zaM a0 a4).bind fun z15=>
 some (!z15))))))):Option Bool).bind fun x3=>
 if x3=true then(
 some ((Proof.mk [] [] []),false))else(
 (zc9 a0 a1 a2 a3 a4).bind fun z17=>
 some (z17.1,z17.2)))
theorem zit:∀{a0}{a1}{a2}{a3}{a4}{r},zcG a0 a1 a2 a3 a4=some r→PCalls Tryz.prog 125 [(.sh,vE a0),(.sh,.str a1),(.mv,vI a2),(.mv,vD a3),(.mv,vD a4)] (Eo (.tup [vH r.1,.bool r.2]) [.junk,.junk,.junk,.junk,.junk]):=by
 intro a0 a1 a2 a3 a4 r hr;apply pFz 63 [] [57,58,59] [] [.cell 10 49,.tmp 11] hr zzM Tryz.func125;intro Φ hΦ hF g;unfold zcG at hF;refine wW ?_;refine wJ hF (fun x3=>[(1,.v (.str a1)),(2,.v (vI a2)),(3,.v (vD a3)),(4,.v (vD a4)),(5,.bl [.int .i64 a0.P,.int .i64 a0.Q,.int .i64 a0.G]),(10,.bl [.sl true 1 [],.sl true 1 [],.sl true 1 []]),(53,.v (.bool x3))]) (fun x3 hF=>?_) fun _ hj1 hF=>?_
 ·refine wI hF (fun h16 hF=>?_) fun h16 hF=>?_
  ·exact wl hΦ hF
  refine wW ?_;refine wC hF [.sh,.sh,.sh,.sh,.sh] zhv fun z17 hF=>?_
  refine wK [10,11] ?_;exact wm hΦ hF
 refine wC hF [.sh] zfS fun z4 hF=>?_
 refine wG hF (fun h5 hF=>?_) fun h5 hF=>?_
 ·exact wV h5 (hj1 _) (zaa hF)
 try simp[go_sem,g,h5]
 refine wC hF [.sh] zi3 fun z6 hF=>?_
 try simp[go_sem,g,h5]
 refine wG hF (fun h7 hF=>?_) fun h7 hF=>?_
 ·exact wV h7 (hj1 _) (zaa hF)
 try simp[go_sem,g,h7]
 refine wC hF [.sh,.sh] ziA fun z8 hF=>?_
 try simp[go_sem,g,h7]
 refine wG hF (fun h9 hF=>?_) fun h9 hF=>?_
 ·exact wV h9 (hj1 _) (zaa hF)
 obtain⟨x10,g,hF⟩:=Rxn g 0 hF;try simp[go_sem,g,h9]
 try intros
 refine wG hF (fun h11 hF=>?_) fun h11 hF=>?_
 ·exact wV h11 (hj1 _) (zaa hF)
 try simp[go_sem,g,h11]
 try intros
 refine wG hF (fun h12 hF=>?_) fun h12 hF=>?_
 ·exact wV h12 (hj1 _) (zaa hF)
 try simp[go_sem,g,h12]
 refine wC hF [.sh,.sh] zbJ fun z13 hF=>?_
 try simp[go_sem,g,h12]
 refine wG hF (fun h14 hF=>?_) fun h14 hF=>?_
 ·exact wV h14 (hj1 _) (zaa hF)
 try simp[go_sem,g,h14]
 refine wC hF [.sh,.sh] zbJ fun z15 hF=>?_
 exact wV h14 (hj1 _) (zaa hF)
def zc1(a0:Group)(a1:ByteArray)(a2:Int)(a3:Int)(a4:Int):Option (Proof×Bool):=
 (zcG a0 a1 [[a2]] [a3] [a4]).bind fun z1=>
 some (z1.1,z1.2)
theorem zlU:∀{a0}{a1}{a2}{a3}{a4}{r},zc1 a0 a1 a2 a3 a4=some r→PCalls Tryz.prog 55 [(.sh,vE a0),(.sh,.str a1),(.sh,.int .i64 a2),(.sh,.int .i64 a3),(.sh,.int .i64 a4)] (Eo (.tup [vH r.1,.bool r.2]) [.junk,.junk,.junk,.junk,.junk]):=by
 intro a0 a1 a2 a3 a4 r hr;apply pF 24 [] [] [] [.cell 10 49,.tmp 11] hr zJg Tryz.func55;intro Φ hΦ hF g;unfold zc1 at hF;refine wW ?_;refine wC hF [.sh,.sh,.mv,.mv,.mv] zit fun z1 hF=>?_
 refine wK [10,11] ?_;exact wm hΦ hF
@[go_sem] def zEM:List DE:=[d2 0 [4] 4 4,d1 1 [4] 4,d2 2 [10] 4 10,d0 3 [3],d2 5 [4] 4 4,d0 6 [2],d2 7 [4] 4 4,d0 8 [1],d0 9 [3],d3 4 [9,11,12],d3 10 [16,17,18],d0 11 [15,19],⟨12,[14,20],[],none,true,true,true⟩,d0 13 [13,21],d2 14 [8,22] 8 8]
def zb8(a0:Group)(a1:Int)(a2:Int)(a3:Int):Option Cipher:=
 (zav a0 a0.G a3).bind fun z1=>
 (zav a0 a1 a3).bind fun z2=>
 (zaP a0 [a2,z2]).bind fun z3=>
 some (Cipher.mk z1 z3)
theorem ziE:∀{a0}{a1}{a2}{a3}{r},zb8 a0 a1 a2 a3=some r→PCalls Tryz.prog 56 [(.sh,vE a0),(.sh,.int .i64 a1),(.sh,.int .i64 a2),(.sh,.int .i64 a3)] (Eo (vJ r) [.junk,.junk,.junk,.junk]):=by
 intro a0 a1 a2 a3 r hr;apply pF 23 [] [] [] [.cell 8 88] hr zJF Tryz.func56;intro Φ hΦ hF g;unfold zb8 at hF;refine wW ?_;refine wX zEM follows ?_;refine wC hF [.sh,.sh,.sh] zaR fun z1 hF=>?_
 refine wC hF [.sh,.sh,.sh] zaR fun z2 hF=>?_
 refine wC hF [.sh,.sh] zcc fun z3 hF=>?_
 refine wK [8] ?_;exact wm hΦ hF
@[go_sem] def zE8:List DE:=[d0 0 [11],d1 1 [5] 5,d2 2 [21] 5 21,d1 3 [7] 7,d2 4 [23] 7 23,d0 5 [1],d2 6 [5] 5 5,d1 7 [7] 7,d2 8 [27] 7 27,d2 9 [5] 5 5,d1 10 [5] 5,d2 11 [30] 5 30,d0 12 [12],d0 13 [32],d3 14 [29,31,33],d0 15 [28,34],⟨16,[26,35],[],none,true,true,true⟩,d0 17 [22,24,25,36],d0 18 [37],⟨19,[20,38],[],none,true,false,false⟩,d0 20 [39]]
def za5(a0:Group)(a1:Int)(a2:Cipher)(a3:Int)(a4:Int):Option ((List EqualLog)):=
 ((zaH (σ:=(List EqualLog)×Int) (fun s4=>
 if decide (s4.2≤a4)=true then(
 (zav a0 a0.G (i64.wrap (0-s4.2))).bind fun z10=>
 (zaP a0 [a2.B,z10]).bind fun z11=>
 gd ((s4.1.length+1)*32≤140737488355328∧s4.1.length+1≤4611686018427387904)<|
 some (.go (s4.1++[(EqualLog.mk a0.G a2.A a1 z11)],i64.wrap (s4.2+1))))else(
 some (.out s4.1))) ([],a3):Option ((List EqualLog))).bind fun x3=>
 some x3)
theorem zeG:∀{a0}{a1}{a2}{a3}{a4}{r},za5 a0 a1 a2 a3 a4=some r→PCalls Tryz.prog 60 [(.sh,vE a0),(.sh,.int .i64 a1),(.sh,vJ a2),(.sh,.int .i64 a3),(.sh,.int .i64 a4)] (Eo (vK r) [.junk,.junk,.junk,.junk,.junk]):=by
 intro a0 a1 a2 a3 a4 r hr;apply pF 41 [] [] [] [.tmp 10] hr zIW Tryz.func60;intro Φ hΦ hF g;unfold za5 at hF
 iterate 3 refine wW ?_
 refine wJ hF (fun x3=>[(11,.v (vK x3))]) (fun x3 hF=>?_) fun _ hj1 hF=>?_
 ·exact wl hΦ hF
 refine wB ?_;obtain⟨b12,hb13,hψ8⟩:=hF;refine pL hb13 (fun s4=>[(1,.v (.int .i64 a1)),(4,.v (.int .i64 a4)),(5,.bl [.int .i64 a0.P,.int .i64 a0.Q,.int .i64 a0.G]),(7,.bl [.int .i64 a2.A,.int .i64 a2.B]),(11,.v (vK s4.1)),(12,.v (.int .i64 s4.2))]) fun s4 _ _ ho6 hg7 hF=>?_
 refine wK [1,4,5,7,11,12,17] ?_;refine wI hF (fun h9 hF=>?_) fun h9 hF=>?_
 ·refine wW ?_;refine wB ?_;refine wX zE8 follows ?_;refine wC hF [.sh,.sh,.sh] zaR fun z10 hF=>?_
  refine wC hF [.sh,.sh] zcc fun z11 hF=>?_
  obtain⟨g,hF⟩:=Rg g hF;refine wK [1,4,5,7,11,12] ?_;exact wT (hg7 _) (zaa hF)
 cases ho6 _ (zaa hF);exact wT (hj1 _) hψ8
def zc3(a0:Group)(a1:EqualLog):Option Bool:=
 (zbV a0 [a1.G1,a1.Y1,a1.G2,a1.Y2]).bind fun z1=>
 some z1
theorem zlF:∀{a0}{a1}{r},zc3 a0 a1=some r→PCalls Tryz.prog 196 [(.sh,vE a0),(.sh,vL a1)] (Eo (.bool r) [.junk,.junk]):=by
 intro a0 a1 r hr;apply pF 16 [] [] [] [.tmp 4] hr zD9 Tryz.func196;intro Φ hΦ hF g;unfold zc3 at hF;refine wW ?_;refine wC hF [.sh,.sh] zfR fun z1 hF=>?_
 refine wK [4] ?_;exact wm hΦ hF
def zcj(a0:EqualLog)(a1c0:Int)(a1c1:Int)(a1c2:Int):Option Bool:=
 (zc3 (Group.mk a1c0 a1c1 a1c2) a0).bind fun z1=>
 some (!z1)
theorem ziX:∀{a0}{a1c0}{a1c1}{a1c2}{r},zcj a0 a1c0 a1c1 a1c2=some r→PCalls Tryz.prog 195 [(.sh,vL a0),(.sh,.fp [.int .i64 a1c0,.int .i64 a1c1,.int .i64 a1c2])] (Eo (.bool r) [.junk,.junk]):=by
 intro a0 a1c0 a1c1 a1c2 r hr;apply pF 8 [] [] [] [.tmp 3] hr zG5 Tryz.func195;intro Φ hΦ hF g;unfold zcj at hF;refine wW ?_;refine wC hF [.sh,.sh] zlF fun z1 hF=>?_
 exact wl hΦ hF
def zaN(a0:List EqualLog)(a1u0c0:Int)(a1u0c1:Int)(a1u0c2:Int):Option Int:=
 ((zar (σ:=Unit) (fun i5 s4=>
 (ix a0 i5).bind fun x11=>
 (zcj x11 a1u0c0 a1u0c1 a1u0c2).bind fun z12=>
 if z12=true then(
 some (.out (.inr i5)))else(
 some (.go ()))) (fun s4=>.inl ()) (a0.length) 0 ():Option (Unit ⊕ Int)).bind (Sum.elim (fun x3=>
 some (-1)) some))
theorem zcX:∀{a0}{a1u0c0}{a1u0c1}{a1u0c2}{r},zaN a0 a1u0c0 a1u0c1 a1u0c2=some r→PCalls Tryz.prog 226 [(.sh,vM a0),(.sh,.func (.func 195) [] [.fp [.int .i64 a1u0c0,.int .i64 a1u0c1,.int .i64 a1u0c2]])] (Eo (.int .i64 r) [.junk,.junk]):=by
 intro a0 a1u0c0 a1u0c1 a1u0c2 r hr;apply pF 19 [] [] [] [.tmp 4] hr zE4 Tryz.func226;intro Φ hΦ hF g;unfold zaN at hF
 iterate 2 (try simp[go_sem,g];try intros;refine zap ?_)
 refine wS hF (fun x3=>[]) (fun x3 hF=>?_) fun _ hj1 hr2 hF=>?_
 ·exact wl hΦ hF
 refine wB ?_;obtain⟨b14,hb15,hψ8⟩:=hF;refine pR hb15 (fun i5 s4=>[(0,.v (vM a0)),(1,.v (.func (.func 195) [] [.fp [.int .i64 a1u0c0,.int .i64 a1u0c1,.int .i64 a1u0c2]])),(7,.v (.int .i64 (a0.length:Int))),(8,.v (.int .i64 i5))]) (fun s4 _ hN16=>?_) fun i5 s4 _ _ hi9 hi10 ho6 hg7 hF=>?_
 ·exact wn hN16 (hj1 _) hψ8
 refine wW ?_;refine wu hi9 hi10 ?_;refine wW ?_;refine wB ?_;obtain⟨x11,g,hF⟩:=Rx g hF;refine wW ?_;refine wC hF [.sh] ziX fun z12 hF=>?_
 refine wK [0,1,5,7,8,16] ?_;refine wI hF (fun h13 hF=>?_) fun h13 hF=>?_
 ·cases ho6 _ (zaa hF);cases hΦ _ (hr2 _ hψ8);refine wW ?_;try simp[go_sem,g]
 refine wW ?_;exact wi hi9 hi10 (hg7 _) (zaa hF)
def zaz(a0:List EqualLog)(a1u0c0:Int)(a1u0c1:Int)(a1u0c2:Int):Option Bool:=
 (zaN a0 a1u0c0 a1u0c1 a1u0c2).bind fun z1=>
 some (decide (0≤z1))
theorem zcJ:∀{a0}{a1u0c0}{a1u0c1}{a1u0c2}{r},zaz a0 a1u0c0 a1u0c1 a1u0c2=some r→PCalls Tryz.prog 194 [(.sh,vM a0),(.sh,.func (.func 195) [] [.fp [.int .i64 a1u0c0,.int .i64 a1u0c1,.int .i64 a1u0c2]])] (Eo (.bool r) [.junk,.junk]):=by
 intro a0 a1u0c0 a1u0c1 a1u0c2 r hr;apply pF 9 [] [] [] [.tmp 4] hr zHb Tryz.func194;intro Φ hΦ hF g;unfold zaz at hF;refine wW ?_;refine wC hF [.sh,.sh] zcX fun z1 hF=>?_
 exact wl hΦ hF
def zcF(a0:Group)(a1:List EqualLog):Option Bool:=
 (((zaD (a1.length:Int) 1 8).bind fun z4=>
 if z4=true then(
 (zaz a1 a0.P a0.Q a0.G).bind fun z6=>
 some (!z6))else(
 some false):Option Bool).bind fun x3=>
 some x3)
theorem zjF:∀{a0}{a1}{r},zcF a0 a1=some r→PCalls Tryz.prog 129 [(.sh,vE a0),(.sh,vM a1)] (Eo (.bool r) [.junk,.junk]):=by
 intro a0 a1 r hr;apply pF 14 [] [] [1000000] [.tmp 4] hr zFq Tryz.func129;intro Φ hΦ hF g;unfold zcF at hF;refine wW ?_;refine wJ hF (fun x3=>[(4,.v (.bool x3))]) (fun x3 hF=>?_) fun _ hj1 hF=>?_
 ·exact wm hΦ hF
 try simp[go_sem,g]
 try intros
 refine wC hF [.sh,.sh,.sh] za2 fun z4 hF=>?_
 refine wG hF (fun h5 hF=>?_) fun h5 hF=>?_
 ·try simp[go_sem,g,h5]
  refine wC hF [.sh,.sh] zcJ fun z6 hF=>?_
  exact wV h5 (hj1 _) (zaa hF)
 exact wV h5 (hj1 _) (zaa hF)
@[go_sem] def zBU:List DE:=[d2 0 [3] 3 3,d1 1 [4] 4,d2 2 [8] 4 8,d0 3 [2],d1 5 [4] 4,d2 6 [12] 4 12,d3 4 [7,9,10],d0 7 [11,13],d0 8 [14],d2 9 [3,15] 3 3,d1 10 [4,15] 4,d2 11 [17,15] 4 17,d0 12 [2,15],d1 14 [4,15] 4,d2 15 [21,15] 4 21,d3 13 [16,18,19,15],d0 16 [20,22,15],d0 17 [15,23],d0 18 [24]]
def zeM(a0:Group)(a1:EqualLog)(a2:Int):Option Bool:=
 (((zav a0 a1.G1 a2).bind fun z4=>
 if(z4==a1.Y1)=true then(
 (zav a0 a1.G2 a2).bind fun z6=>
 some (z6==a1.Y2))else(
 some false):Option Bool).bind fun x3=>
 some x3)
theorem zmN:∀{a0}{a1}{a2}{r},zeM a0 a1 a2=some r→PCalls Tryz.prog 130 [(.sh,vE a0),(.sh,vL a1),(.sh,.int .i64 a2)] (Eo (.bool r) [.junk,.junk,.junk]):=by
 intro a0 a1 a2 r hr;apply pF 25 [] [] [] [.tmp 6] hr zEa Tryz.func130;intro Φ hΦ hF g;unfold zeM at hF;refine wW ?_;refine wJ hF (fun x3=>[(6,.v (.bool x3))]) (fun x3 hF=>?_) fun _ hj1 hF=>?_
 ·exact wm hΦ hF
 refine wX zBU follows ?_;refine wC hF [.sh,.sh,.sh] zaR fun z4 hF=>?_
 refine wH hF (fun h5 hF=>?_) fun h5 hF=>?_
 ·try simp[go_sem,g,h5]
  refine wC hF [.sh,.sh,.sh] zaR fun z6 hF=>?_
  exact wV h5 (hj1 _) (zaa hF)
 exact wV h5 (hj1 _) (zaa hF)
@[go_sem] def zDu:List DE:=[d2 0 [4] 4 4,d2 1 [4] 4 4,d1 2 [5] 5,d2 3 [12] 5 12,d0 4 [3],d2 6 [4] 4 4,d1 7 [5] 5,d2 8 [17] 5 17,d0 9 [2],d0 10 [19],d2 14 [4] 4 4,d2 15 [4] 4 4,d1 16 [5] 5,d2 17 [26] 5 26,d0 18 [3],d2 20 [4] 4 4,d1 21 [5] 5,d2 22 [31] 5 31,d0 23 [2],d0 24 [33],d3 5 [11,13,14],d3 11 [16,18,20],d0 12 [15,21],⟨13,[10,22],[],none,true,true,true⟩,d3 19 [25,27,28],d3 25 [30,32,34],d0 26 [29,35],⟨27,[24,36],[],none,true,true,true⟩,d0 28 [23],d0 29 [37]]
def zce(a0:Group)(a1:EqualLog)(a2:Int)(a3:Int):Option (Int×Int):=
 (zav a0 a1.G1 a3).bind fun z1=>
 (zav a0 a1.Y1 (i64.wrap (0-a2))).bind fun z2=>
 (zaP a0 [z1,z2]).bind fun z3=>
 (zav a0 a1.G2 a3).bind fun z4=>
 (zav a0 a1.Y2 (i64.wrap (0-a2))).bind fun z5=>
 (zaP a0 [z4,z5]).bind fun z6=>
 some (z3,z6)
theorem zhV:∀{a0}{a1}{a2}{a3}{r},zce a0 a1 a2 a3=some r→PCalls Tryz.prog 131 [(.sh,vE a0),(.sh,vL a1),(.sh,.int .i64 a2),(.sh,.int .i64 a3)] (Eo (.tup [.int .i64 r.1,.int .i64 r.2]) [.junk,.junk,.junk,.junk]):=by
 intro a0 a1 a2 a3 r hr;apply pF 38 [] [] [] [.tmp 8,.tmp 9] hr zFH Tryz.func131;intro Φ hΦ hF g;unfold zce at hF;refine wW ?_;refine wX zDu follows ?_;refine wC hF [.sh,.sh,.sh] zaR fun z1 hF=>?_
 refine wC hF [.sh,.sh,.sh] zaR fun z2 hF=>?_
 refine wC hF [.sh,.sh] zcc fun z3 hF=>?_
 refine wC hF [.sh,.sh,.sh] zaR fun z4 hF=>?_
 refine wC hF [.sh,.sh,.sh] zaR fun z5 hF=>?_
 refine wC hF [.sh,.sh] zcc fun z6 hF=>?_
 refine wK [8,9] ?_;exact wm hΦ hF
@[go_sem] def zBl:List DE:=[d2 0 [4] 4 4,d0 1 [1],d0 2 [10],d0 3 [3],d0 4 [34,35],d3 5 [32,33,36],d0 6 [37],d0 7 [37],d0 8 [38],d0 9 [39]]
def zbb(a0:Group)(a1:ByteArray)(a2:List EqualLog)(a3:List Int):Option (Int×Bool):=
 ((zar (σ:=(List Int)) (fun i5 s4=>
 (ix a2 i5).bind fun x11=>
 gd ((s4.length+4)*8≤140737488355328∧s4.length+4≤4611686018427387904)<|
 some (.go (s4++[x11.G1,x11.Y1,x11.G2,x11.Y2]))) (fun s4=>s4) (a2.length) 0 []:Option ((List Int))).bind fun x3=>
 gd ((x3.length+a3.length)*8≤140737488355328∧x3.length+a3.length≤4611686018427387904)<|
 (zbu a0 a1 (x3++a3)).bind fun z16=>
 some (z16.1,z16.2))
theorem zgH:∀{a0}{a1}{a2}{a3}{r},zbb a0 a1 a2 a3=some r→PCalls Tryz.prog 132 [(.sh,vE a0),(.sh,.str a1),(.sh,vM a2),(.sh,vC a3)] (Eo (.tup [.int .i64 r.1,.bool r.2]) [.junk,.junk,.junk,.junk]):=by
 intro a0 a1 a2 a3 r hr;apply pF 40 [] [] [] [.tmp 8,.tmp 9] hr zFD Tryz.func132;intro Φ hΦ hF g;unfold zbb at hF
 iterate 3 (try simp[go_sem,g];try intros;refine zap ?_)
 refine wJ hF (fun x3=>[(1,.v (.str a1)),(3,.v (vC a3)),(4,.bl [.int .i64 a0.P,.int .i64 a0.Q,.int .i64 a0.G]),(10,.v (vD x3))]) (fun x3 hF=>?_) fun _ hj1 hF=>?_
 ·refine wX zBl follows ?_;obtain⟨g,hF⟩:=Rg g hF;refine wC hF [.sh,.sh,.sh] zgp fun z16 hF=>?_
  refine wK [8,9] ?_;exact wm hΦ hF
 refine wB ?_;obtain⟨b12,hb13,hψ8⟩:=hF;refine pR hb13 (fun i5 s4=>[(1,.v (.str a1)),(3,.v (vC a3)),(4,.bl [.int .i64 a0.P,.int .i64 a0.Q,.int .i64 a0.G]),(10,.v (vD s4)),(14,.v (vM a2)),(15,.v (.int .i64 (a2.length:Int))),(16,.v (.int .i64 i5))]) (fun s4 _ hN14=>?_) fun i5 s4 _ _ hi9 hi10 ho6 hg7 hF=>?_
 ·exact wn hN14 (hj1 _) hψ8
 refine wW ?_;refine wu hi9 hi10 ?_;refine wW ?_;refine wB ?_;obtain⟨x11,g,hF⟩:=Rx g hF;refine wK [1,3,4,10,12,14,15,16] ?_;obtain⟨g,hF⟩:=Rg g hF;refine wK [1,3,4,10,14,15,16] ?_;exact wi hi9 hi10 (hg7 _) (zaa hF)
def zhE(a0:List Int)(a1:Int):Option Int:=
 ((zar (σ:=Int) (fun i5 s4=>
 (ix a0 i5).bind fun x11=>
 gd (a1≠0)<|
 some (.go ((i64.wrap (s4+x11)).tmod a1))) (fun s4=>s4) (a0.length) 0 0:Option Int).bind fun x3=>
 some x3)
theorem zpb:∀{a0}{a1}{r},zhE a0 a1=some r→PCalls Tryz.prog 133 [(.sh,vC a0),(.sh,.int .i64 a1)] (Eo (.int .i64 r) [.junk,.junk]):=by
 intro a0 a1 r hr;apply pF 21 [] [] [] [.tmp 4] hr zGp Tryz.func133;intro Φ hΦ hF g;unfold zhE at hF
 iterate 3 (try simp[go_sem,g];try intros;refine zap ?_)
 refine wJ hF (fun x3=>[(5,.v (.int .i64 x3))]) (fun x3 hF=>?_) fun _ hj1 hF=>?_
 ·exact wl hΦ hF
 refine wB ?_;obtain⟨b12,hb13,hψ8⟩:=hF;refine pR hb13 (fun i5 s4=>[(1,.v (.int .i64 a1)),(5,.v (.int .i64 s4)),(8,.v (vC a0)),(9,.v (.int .i64 (a0.length:Int))),(10,.v (.int .i64 i5))]) (fun s4 _ hN14=>?_) fun i5 s4 _ _ hi9 hi10 ho6 hg7 hF=>?_
 ·exact wn hN14 (hj1 _) hψ8
 refine wW ?_;refine wu hi9 hi10 ?_;refine wW ?_;refine wB ?_;obtain⟨x11,g,hF⟩:=Rx g hF;obtain⟨g,hF⟩:=Rz g hF;refine wW ?_;refine wK [1,5,8,9,10] ?_;exact wi hi9 hi10 (hg7 _) (zaa hF)
@[go_sem] def zF2:List DE:=[d2 0 [6] 6 6,d3 1 [25],d0 2 [26],d0 3 [27],d0 4 [1,28],d3 5 [29,28],d0 6 [30,28],d0 7 [28,31],d0 8 [32],d2 9 [6,33] 6 6,d0 10 [2,33],d3 11 [34,35,33],d0 12 [36,33],d0 13 [33,37],d0 14 [38],d0 15 [3,39],d0 16 [2,39],d0 17 [41,39],d0 18 [42,39],d3 19 [40,43,39],d0 20 [44,39],d0 21 [39,45],d0 22 [46],d2 23 [6,47] 6 6,d0 24 [4,47],d3 25 [48,49,47],d0 26 [50,47],d0 27 [47,51],d0 28 [52],d0 29 [5,53],d0 30 [54,53],d0 31 [2,53],d0 32 [56,53],d0 33 [57,53],d0 34 [58,53],d0 35 [55,59,53],d0 36 [53,60],d0 37 [61],d2 38 [6,62] 6 6,d0 39 [5,62],d3 40 [63,64,62],d0 41 [65,62],d0 42 [62,66],d0 43 [67],d2 44 [6,68] 6 6,d0 45 [2,68],d0 46 [3,68],d0 47 [70,71,68],d0 48 [72,68],d0 49 [4,68],d3 50 [69,73,74,68],d0 51 [75,68],d0 52 [68,76]]
@[go_sem] def zCf:List DE:=[d2 0 [6] 6 6,d1 1 [18] 18,d2 2 [97] 18 97,d0 3 [16],d2 5 [6] 6 6,d1 6 [18] 18,d2 7 [102] 18 102,d0 8 [16],d3 4 [96,98,99],d3 9 [101,103,104],d0 10 [100],d0 11 [105]]
@[go_sem] def zC4:List DE:=[d0 0 [5],d0 1 [15],d0 2 [106,107],d0 3 [108],d0 4 [5],d0 5 [15],d0 6 [111],d0 7 [110,112],d0 8 [113],d0 9 [109],d0 10 [114]]
@[go_sem] def zDa:List DE:=[d1 0 [14] 14,d2 1 [125] 14 125,d0 2 [21],d0 3 [22],d0 4 [127,128],d1 6 [14] 14,d2 7 [131] 14 131,d0 8 [19],d0 9 [133],d1 11 [14] 14,d2 12 [136] 14 136,d0 13 [20],d0 14 [138],⟨5,[126,129],[],none,true,false,false⟩,d1 16 [14] 14,⟨10,[132,134],[],none,true,false,false⟩,⟨15,[137,139],[],none,true,false,false⟩,d2 17 [141,130] 14 141,d1 18 [14] 14,d2 19 [142,135] 14 142,d1 20 [14] 14,d2 21 [143,140] 14 143]
@[go_sem] def zBE:List DE:=[d1 0 [14] 14,d2 1 [157] 14 157,d0 2 [3],d2 3 [6] 6 6,d0 4 [23],d1 5 [14] 14,d2 6 [162] 14 162,d1 7 [6] 6,d2 8 [164] 6 164,d3 9 [163,165],d0 10 [161,166],d3 11 [160,167],d0 12 [158,159],d0 13 [169,168]]
@[go_sem] def zCu:List DE:=[d1 0 [14] 14,d2 1 [170] 14 170,d0 2 [3],d2 3 [6] 6 6,d0 4 [16],d1 5 [14] 14,d2 6 [175] 14 175,d0 7 [3],d0 8 [176,177],d0 9 [178],d0 10 [4],d0 11 [179,180],d0 12 [174,181],d3 13 [173,182],d0 14 [171,172],d0 15 [184,183]]
end
end Go.Pm
